/-
  The walk, part 0: each function of the program is the tree that the lifted text says; printed by a program of ours.
-/
import Derived.Test.YtilkokbbfmkkbaaGreatDoorProg
import Derived.KernelRfl
import Derived.Test.YtilkokbbfmkkbaaGreatDoorAmE
import Derived.Test.YtilkokbbfmkkbaaGreatDoorLf1
import Derived.Lib.Builder
import Derived.Shelf.Strings.Builder1
import Derived.WalkKit
import Derived.TacticsInMore
import Derived.Maps.OwnOps
import Derived.Maps.AppendAt
import Derived.StringKeys
import Derived.Maps.Views
import Derived.Shelf.Strings.FieldsFuncAny
import Derived.Test.YtilkokbbfmkkbaaGreatDoorSh
set_option linter.unusedVariables false
set_option maxRecDepth 100000
noncomputable section
namespace Go.AM.Lf
open Go.Proofs
abbrev Kw:Nat:=171
abbrev Pz:Program:=Tryz.prog
def xI(f:Func):Code:=match f.body with | some c=>c | none=>.skip
def lb(k:Nat)(f:Func):Code:=match mf k (xI f)with | some c=>c | none=>.skip
theorem mixed:Pz.follows .mixedOrders=true:=by kernel_rfl
instance:we:={ u8:=5,tab:=[(0,Uk .u64 Lib.pow10Tab),(4,XE .i64)] }
theorem jZ{κ:KS}(hI:Inv κ):Lib.TabIs Tryz.prog κ.w "internal/strconv.uint64pow10" .u64 Lib.pow10Tab :=
 ON (g:=0) (by kernel_rfl) (hI.gl (0,Uk .u64 Lib.pow10Tab) (by simp[we.tab])).2
theorem xE{κ:KS}(hI:Inv κ):∃ m,κ.w.cell? ⟨4,0,none⟩=some (.int .i64 m) :=
 B4 (hI.gl (4,XE .i64) (by simp[we.tab])).2
structure Tb where
 t:ya
 ok:jj Pz t
def Tb.d(T:Tb){g:Nat}{d:Uq}(h:ze Pz g d):Tb:=⟨(g,.d d)::T.t,JD h T.ok⟩
def Tb.s(T:Tb){g:Nat}{d:wK}(h:zE Pz g d):Tb:=⟨(g,.s d)::T.t,U8 h T.ok⟩
def Tb.p(T:Tb){g:Nat}{d:kW}(h:xe Pz g d):Tb:=⟨(g,.p d)::T.t,Vo h T.ok⟩
def t0:Tb:=⟨[],HQ _⟩
def fL:List (Nat×zi)->Nat->Option zi
 | [],_=>none
 | x::r,n=>bif Nat.beq x.1 n then some x.2 else fL r n
def fC:List (Nat×Nat×NG)->Nat->Nat->Option NG
 | [],_,_=>none
 | x::r,k,n=>bif Nat.beq x.1 k&&Nat.beq x.2.1 n then some x.2.2 else fC r k n
def fF:List (Nat×List Nat)->Nat->List Nat
 | [],_=>[]
 | x::r,n=>bif Nat.beq x.1 n then x.2 else fF r n
def Hz(l:List (Nat×zi))(c:List (Nat×Nat×NG))(f:List (Nat×List Nat)):Hints:=⟨fL l,fC c,fF f⟩
def hN:Hints:=Hz [] [] []
def rz(l:List Nat)(s:Nat):Bool:=l.any (Nat.beq s)
def rn(_:Nat):Bool:=false
def Lz(gh:List Gh)(ps:List It)(sh:qz)(ws:List Way)(R:xk ps->sh.den->T (sh.den⊕kI ws)):zi:=⟨gh,ps,sh,ws,λp s=>T.loop (R p) s⟩
abbrev LO(f:Func)(l:zi)(i:Nat):Prop:=nt Pz f.ntmps l (lb i f)
def ls(f:Func):List Nat->List (Nat×Code)
 | []=>[]
 | i::r=>(i,lb i f)::ls f r
abbrev Mi(n:Nat):It:=.s n (.zj i64)
abbrev Mb(n:Nat):It:=.s n (.zj .bool)
abbrev Ms(n:Nat):It:=.s n (.zj .str)
abbrev Mm(n:Nat)(t:Ty):It:=.s n (.zj t)
abbrev Mr(n:Nat)(t:Ty):It:=.s n (.qf t)
abbrev Sh0(l:List It):qz:=⟨l,[],[]⟩
theorem lk{f:Func}{i:Nat}{gh:List Gh}{ps:List It}{sh:qz}{ws:List Way}{R:xk ps->sh.den->T (sh.den⊕kI ws)}(T:Tb)(ro:Nat->Bool)(H:Hints)(L:List Nat)(ha:Wv Pz f.ntmps H (ls f L))
  (h:∀ p s,D6 (wG Pz Kw T.t ro) T.t f.ntmps H (Lz gh ps sh ws R) (lb i f) p s=R p s:=by intro p s; kernel_rfl) (hl:qo (lb i f)=ls f L:=by kernel_rfl):LO f (Lz gh ps sh ws R) i :=
 L3 (xid:=Kw) (ro:=ro) (H:=H) mixed T.ok (mZ hl ha) R h λ_ _=>rfl
theorem zP{f:Nat}{fn:Func}{d:Uq}(T:Tb)(ro:Nat->Bool)(H:Hints)(hf:Pz.funcs[f]? = some fn)(L:List Nat)(ha:Wv Pz fn.ntmps H (ls fn L))
  (h:∀ x,FP (wG Pz Kw T.t ro) T.t H fn (xI fn) d x=d.F x:=by intro x; kernel_rfl) (hb:fn.body=some (xI fn):=by rfl) (hn:(fn.name == "runtime.NumGoroutine")=false:=by kernel_rfl) (hl:qo (xI fn)=ls fn L:=by kernel_rfl):ze Pz f d :=
 z04 (xid:=Kw) (ro:=ro) (H:=H) mixed T.ok hf hb hn (mZ hl ha) h
theorem k6{f:Nat}{fn:Func}{d:wK}(T:Tb)(ro:Nat->Bool)(H:Hints)(hf:Pz.funcs[f]? = some fn)(L:List Nat)(ha:Wv Pz fn.ntmps H (ls fn L))
  (h:∀ x,Jf (wG Pz Kw T.t ro) T.t H fn (xI fn) d x=d.F x:=by intro x; kernel_rfl) (hb:fn.body=some (xI fn):=by rfl) (hn:(fn.name == "runtime.NumGoroutine")=false:=by kernel_rfl) (hl:qo (xI fn)=ls fn L:=by kernel_rfl):zE Pz f d :=
 Pd (xid:=Kw) (ro:=ro) (H:=H) mixed T.ok hf hb hn (mZ hl ha) h
def Sa(c:Code):Code:=match c with | .seq _ b=>b | _=>.skip
def hdO(c:Code):Array Oper:=match c with | .seq (.region _ ops _) _=>ops | _ => #[]
def hdI(c:Code):Nat:=match c with | .seq (.region id _ _) _=>id | _=>0
theorem fkr{f:Nat}{fn:Func}{d:wK}(T:Tb)(ro:Nat->Bool)(H:Hints)(hf:Pz.funcs[f]? = some fn)
  (h:∀ x,RR (wG Pz Kw T.t ro) T.t H fn (hdO (xI fn)) (Sa (xI fn)) d d.ks.length none x=d.F x:=by intro x; kernel_rfl) (hb:fn.body=some (.seq (.region (hdI (xI fn)) (hdO (xI fn)) false) (Sa (xI fn))):=by kernel_rfl) (hn:(fn.name == "runtime.NumGoroutine")=false:=by kernel_rfl) (hl:qo (Sa (xI fn))=[]:=by kernel_rfl):vS (H8 Pz) f d :=
 IH (xid:=Kw) (ro:=ro) (H:=H) mixed T.ok hf hb hn (s8 hl) h
theorem fkh{f t:Nat}{fn:Func}{d:wK}(T:Tb)(ro:Nat->Bool)(H:Hints)(hf:Pz.funcs[f]? = some fn)(k:Nat)
  (h:∀ x,RR (wG Pz Kw T.t ro) T.t H fn (hdO (xI fn)) (Sa (xI fn)) d k (some t) x=d.F x:=by intro x; kernel_rfl) (hk:d.ks.length=k+1:=by kernel_rfl) (hb:fn.body=some (.seq (.region (hdI (xI fn)) (hdO (xI fn)) false) (Sa (xI fn))):=by kernel_rfl) (hn:(fn.name == "runtime.NumGoroutine")=false:=by kernel_rfl) (hl:qo (Sa (xI fn))=[]:=by kernel_rfl):vS (Bu Pz t) f d :=
 Io (xid:=Kw) (ro:=ro) (H:=H) mixed T.ok hf hb hn (s8 hl) hk h
theorem O1{g:Nat}{d:wK}(_:vS (H8 Pz) g d):vS (Bu Pz 0) g { d with F:=λ_=>.fail }:=λ_ _ _ _ _ hy=>hy.elim
theorem fkf{f g pt:Nat}{fn:Func}{d d0 d1:wK}(T:Tb)(ro:Nat->Bool)(H:Hints)(h0:vS (H8 Pz) g d0)(h1:vS (Bu Pz pt) g d1)(hf:Pz.funcs[f]? = some fn)
  (h:∀ x,Dx (wG Pz Kw T.t ro) T.t H ⟨g,d0,pt,d1⟩ fn (xI fn) d x=d.F x:=by intro x; kernel_rfl) (hb:fn.body=some (xI fn):=by rfl) (hn:(fn.name == "runtime.NumGoroutine")=false:=by kernel_rfl) (hl:qo (xI fn)=[]:=by kernel_rfl):zE Pz f d :=
 PY (xid:=Kw) (ro:=ro) (H:=H) mixed T.ok (h:=⟨g,d0,pt,d1⟩) h0 h1 hf hb hn hl h
theorem sZ{f:Nat}{fn:Func}{d:kW}(T:Tb)(ro:Nat->Bool)(H:Hints)(hf:Pz.funcs[f]? = some fn)(L:List Nat)(ha:Wv Pz fn.ntmps H (ls fn L))
  (h:∀ x,JT (wG Pz Kw T.t ro) T.t H fn (xI fn) d x=d.F x:=by intro x; kernel_rfl) (hb:fn.body=some (xI fn):=by rfl) (hn:(fn.name == "runtime.NumGoroutine")=false:=by kernel_rfl) (hl:qo (xI fn)=ls fn L:=by kernel_rfl):xe Pz f d :=
 Rd (xid:=Kw) (ro:=ro) (H:=H) mixed T.ok hf hb hn (mZ hl ha) h
abbrev lO:Dk:=.st [.row 1 zr,.row 2 zB,.row 3 zO,.row 4 zw,.row 5 zH,.row 6 zM]
abbrev rS:Dk:=.st [.im (.sl zr),.im (.sl zB),.im (.sl zO),.im (.sl zw),.im (.sl zH),.im (.sl zM),.row 1 zo,.row 2 i64,.row 3 i64]
abbrev bA:Dk:=.st [.im (.sl zo),.row 1 i64,.row 2 i64]
abbrev Ej:List Bk:=[.var (.st [.row 10 zc,.row 2 .bool,.row 11 zc,.row 8 i64,.row 6 zf,.row 3 .bool]),.var (.st [.row 12 zc,.row 4 .bool,.row 13 zc,.row 9 i64,.row 7 zf,.row 5 .bool]),.arr .bool,.arr .bool,.arr .bool,.arr .bool,.arr zf,.arr zf,.arr i64,.arr i64,.arr zc,.arr zc,.arr zc,.arr zc]
abbrev Q2:List Bk:=[.var lO,.arr zr,.arr zB,.arr zO,.arr zw,.arr zH,.arr zM]
abbrev lX:List Bk:=[.var (.zj zt)]
abbrev rB:Dk:=.st [.op 0 212,.row 1 (.int .u8)]
abbrev M4:Dk:=.st [.im (.sl zr),.im (.sl zB),.im (.sl zO),.im (.sl zw),.im (.sl zH),.im (.sl zM),.row 0 zo,.row 4 i64,.row 1 i64]
abbrev Nz:qz:=⟨[.v (.st [.row 10 zc,.row 2 .bool,.row 11 zc,.row 8 i64,.row 6 zf,.row 3 .bool]),.v (.st [.row 12 zc,.row 4 .bool,.row 13 zc,.row 9 i64,.row 7 zf,.row 5 .bool]),.a .bool,.a .bool,.a .bool,.a .bool,.a zf,.a zf,.a i64,.a i64,.a zc,.a zc,.a zc,.a zc],[],Ej⟩
abbrev bD:Way:=⟨.ret,⟨[Mi 4],[],[]⟩⟩
abbrev bM:qz:=⟨[Mm 0 qq,.v (.zj zt)],[],lX⟩
abbrev Xp:Dk:=.st [.im i64,.row 2 zu,.im .bool,.im (.sl u32),.im (.sl u32)]
abbrev Xn:Dk:=.st [.im i64,.row 3 zu,.im .bool,.im (.sl u32),.im (.sl u32)]
abbrev xL:Way:=⟨.exit 0,⟨[],[],[]⟩⟩
abbrev ga:qz:=⟨[.v (.zj zt)],[(0,.ptr 0 0)],lX⟩
abbrev Cn:List Bk:=[.var (.zj qv),.var (.st [.row 3 zc,.row 4 .bool,.im (.sl zc),.row 6 i64,.row 7 zf,.row 8 .bool]),.var (.zj q9),.arr zc,.arr .bool,.arr zc,.arr i64,.arr zf,.arr .bool]
abbrev jk:qz:=⟨[Mi 8],[],[]⟩
abbrev nH:List Bk:=[.var bA,.arr i64,.arr i64]
abbrev eo:qz:=⟨[Mm 0 .expr,.v (.zj zt)],[],lX⟩
abbrev nP:List Bk:=[.var rS,.arr zo,.arr i64,.arr i64]
abbrev KQ:List Bk:=[.var (.st [.nl,.nl]),.var (.st [.row 3 zo,.row 4 i64]),.var (.zj xC),.arr zo,.arr i64]
abbrev vg:List Bk:=[.arr i64]
abbrev Vc:Dk:=.st [.row 7 zr,.row 9 zB,.row 11 zO,.row 13 zw,.row 5 zH,.row 3 zM]
abbrev ed:qz:=⟨[Ms 0],[],[]⟩
abbrev il:List Bk:=[.var rB,.arr (.int .u8)]
abbrev YQ:List Bk:=[.var (.zj zt),.var (.zj .expr),.var (.zj .expr)]
abbrev QH:Dk:=.st [.im (.sl zo),.row 0 i64,.row 1 i64]
abbrev U9:Dk:=.st [.im (.sl zo),.row 2 i64,.row 3 i64]
abbrev lA:qz:=⟨[.a .str],[(0,.cur 0 .str)],[.arr .str]⟩
abbrev Gv:qz:=⟨[Mm 1 (.sl .str),.v lO,.a zr,.a zB,.a zO,.a zw,.a zH,.a zM],[(0,.ptr 0 0)],Q2⟩
abbrev Qv:List Bk:=[.var bA,.arr i64,.arr i64,.arr i64]
abbrev Ut:qz:=⟨[Mi 1,.v bA,.a i64,.a i64],[(0,.ptr 0 0)],nH⟩
abbrev VG:qz:=⟨[Mm 0 zJ,.v (.zj zx)],[],[.var (.zj zx)]⟩
abbrev Gg:qz:=⟨[Mm 0 .expr,Mi 1,.v (.zj i64)],[(2,.ptr 0 0)],[.var (.zj i64)]⟩
abbrev YT:qz:=⟨[.v bA,.a i64,.a i64,.v .mp],[],[.var bA,.arr i64,.arr i64,.var .mp]⟩
abbrev jH:List Bk:=[.arr u32]
abbrev Hq:qz:=⟨[Mb 0,.v lO,.a zr,.a zB,.a zO,.a zw,.a zH,.a zM],[],Q2⟩
abbrev Ug:qz:=⟨[Mi 0,.v bA,.a i64,.a i64],[],nH⟩
abbrev EZ:List Bk:=[.arr zo,.arr i64,.var (.st [.row 0 zo,.row 1 i64]),.var M4,.arr i64]
abbrev FJ:Dk:=.st [.row 6 zr,.row 8 zB,.row 10 zO,.row 12 zw,.row 4 zH,.row 2 zM]
abbrev Ct:Dk:=.st [.row 3 zc,.row 4 .bool,.im (.sl zc),.row 6 i64,.row 7 zf,.row 8 .bool]
abbrev G6:Dk:=.st [.row 10 zc,.row 2 .bool,.row 11 zc,.row 8 i64,.row 6 zf,.row 3 .bool]
abbrev H9:Dk:=.st [.row 12 zc,.row 4 .bool,.row 13 zc,.row 9 i64,.row 7 zf,.row 5 .bool]
abbrev fq:qz:=⟨[Mm 0 .nil],[],[]⟩
abbrev ZB:qz:=⟨[.a .str],[(3,.cur 0 .str)],[.arr .str]⟩
abbrev NU:Way:=⟨.normal,⟨[Mm 1 (.sl .str),.v lO,.a zr,.a zB,.a zO,.a zw,.a zH,.a zM,.v (.zj zw)],[],[.var lO,.arr zr,.arr zB,.arr zO,.arr zw,.arr zH,.arr zM,.var (.zj zw)]⟩⟩
abbrev pP:qz:=⟨[.v rB,.a (.int .u8)],[],il⟩
abbrev Ux:qz:=⟨[Mm 1 .expr,.a .str],[(0,.cur 0 .str)],[.arr .str]⟩
abbrev Y0:qz:=⟨[Mb 0,.v (.zj i64)],[],[.var (.zj i64)]⟩
abbrev DU:qz:=⟨[Mi 0,.v lO,.a zr,.a zB,.a zO,.a zw,.a zH,.a zM],[],Q2⟩
abbrev Xo:Way:=⟨.ret,⟨[Mb 4],[],[]⟩⟩
abbrev Ds:qz:=⟨[Mm 0 qq,.v (.zj zt),.v (.zj .expr),.v (.zj .expr)],[],YQ⟩
abbrev FU:List Bk:=[.var (.zj .expr),.var (.zj i64),.var (.zj i64)]
abbrev GW:qz:=⟨[.v (.zj zt)],[],lX⟩
abbrev GH:Dk:=.st [.row 3 zo,.row 4 i64]
abbrev OC:List Bk:=[.var FJ,.var Vc,.arr zM,.arr zM,.arr zH,.arr zH,.arr zr,.arr zr,.arr zB,.arr zB,.arr zO,.arr zO,.arr zw,.arr zw]
abbrev FW:qz:=⟨[Mb 0,.a i64],[],[.cvar (.cur 1 i64),.arr i64]⟩
abbrev Ob:qz:=⟨[Mm 0 (.sl zu),.s 1 (.mclo 290 [.rp (.sl i64),.rp i64,.pt 0]),.a i64],[],[.cvar (.cur 1 i64),.arr i64]⟩
abbrev G0:List Bk:=[.var U9,.var .mp,.arr i64,.arr i64]
abbrev Yc:qz:=⟨[Ms 0,Mi 11],[],[]⟩
abbrev Xu:List Bk:=[.var (.zj zx)]
abbrev Yy:List Bk:=[.var (.zj qA),.var (.zj i64)]
abbrev GP:Dk:=.st [.row 0 zo,.row 1 i64]
abbrev Cq:Dk:=.st [.im (.sl .str),.row 4 .str,.im (.sl zc)]
abbrev OA:qz:=⟨[Mm 0 (.sl .expr),.s 1 (.mclo 306 [.rp i64,.pt 0]),.v (.zj i64)],[],[.cvar (.ptr 1 0),.var (.zj i64)]⟩
abbrev FO:qz:=⟨[.v (.zj zt),.v (.zj .expr),.v (.zj .expr)],[],YQ⟩
abbrev Oe:qz:=⟨[Mm 1 (.sl .str),Ms 2,.v lO,.a zr,.a zB,.a zO,.a zw,.a zH,.a zM],[(0,.ptr 0 0)],Q2⟩
abbrev Oh:Way:=⟨.ret,⟨[Ms 7,Mi 8,.v (.st [.nl,.nl]),.v GH,.v (.zj xC),.a zo,.a i64],[],KQ⟩⟩
abbrev yu:List Bk:=[.arr .str]
abbrev VH:List Bk:=[.var (.zj .expr),.var (.zj .expr)]
abbrev Et:Dk:=.st [.row 2 .str,.row 3 .str,.im (.sl zc)]
abbrev F7:List Bk:=[.var Xp,.var Xn,.arr zu,.arr zu]
abbrev NV:qz:=⟨[.v (.zj qv),.v Ct,.v (.zj q9),.a zc,.a .bool,.a zc,.a i64,.a zf,.a .bool],[],Cn⟩
abbrev CG:Way:=⟨.exit 0,⟨[.a u32],[(7,.cur 0 u32)],jH⟩⟩
abbrev GS:List Bk:=[.var (.zj zt),.var (.zj .expr)]
abbrev Ub:List Bk:=[.var (.zj qP)]
abbrev kU:List AK:=[.ptr,.any]
abbrev E3:qz:=⟨[.v rS,.a zo,.a i64,.a i64],[],nP⟩
abbrev sk:List Bk:=[.arr (.int .u8)]
abbrev O8:Way:=⟨.normal,⟨[Mb 16,.v lO,.a zr,.a zB,.a zO,.a zw,.a zH,.a zM],[],Q2⟩⟩
abbrev Ya:Way:=⟨.ret,⟨[Mb 2],[],[]⟩⟩
abbrev VI:qz:=⟨[.a i64],[],vg⟩
abbrev pj:Way:=⟨.exit 0,ed⟩
abbrev Oc:qz:=⟨[.s 0 (.sub 0 i64),Mi 7,Mi 8,.a i64],[],vg⟩
abbrev Dt:qz:=⟨[.a i64],[(0,.cur 0 i64)],vg⟩
abbrev Oz:Dk:=.st [.row 0 zc,.row 1 .bool,.row 2 zc,.row 3 i64,.row 4 zf,.row 5 .bool]
abbrev Om:qz:=⟨[Mb 0,.v (.zj i64)],[],[.cvar (.ptr 1 0),.var (.zj i64)]⟩
abbrev Ol:qz:=⟨[.v bA,.a i64,.a i64,.a i64],[(10,.cur 3 i64)],Qv⟩
abbrev lB:List Bk:=[.arr zc]
abbrev UD:List Bk:=[.var (.zj qv)]
abbrev On:Way:=⟨.ret,⟨[Mb 4,.v rS,.a zo,.a i64,.a i64],[],nP⟩⟩
abbrev pH:List AK:=[.ptr,.any,.any]
abbrev O6:qz:=⟨[.v (.st [.nl,.nl]),.v GH,.v (.zj xC),.a zo,.a i64],[],KQ⟩
abbrev Fc:List Bk:=[.arr i64,.arr i64,.var QH]
abbrev Cx:qz:=⟨[Mm 0 (.sl u32)],[],[]⟩
abbrev Ec:List Bk:=[.var (.zj zx),.arr zJ]
abbrev O7:qz:=⟨[.s 0 (.sub 0 i64),Mi 1,.a i64],[],vg⟩
abbrev NO:qz:=⟨[.s 0 (.sub 0 i64),Mi 7,.a i64],[],vg⟩
abbrev Og:qz:=⟨[.v (.zj zc),.v (.zj zc)],[],[.var (.zj zc),.var (.zj zc)]⟩
abbrev VP:qz:=⟨[],[(0,.wJ)],[]⟩
abbrev DE:qz:=⟨[Mi 15,.a u32],[(7,.cur 0 u32)],jH⟩
abbrev DI:List Bk:=[.arr zc,.arr .bool,.arr zc,.arr i64,.arr zf,.arr .bool]
abbrev CX:qz:=⟨[.v (.zj .expr),.v (.zj i64),.v (.zj i64)],[],FU⟩
abbrev EG:Way:=⟨.normal,⟨[Mb 16,.a .str],[(0,.cur 0 .str)],yu⟩⟩
abbrev E6:Way:=⟨.normal,⟨[Mb 44,.v (.zj zt)],[],lX⟩⟩
abbrev DB:qz:=⟨[.a zo,.a i64,.v GP,.v M4,.a i64],[],EZ⟩
abbrev Ko:qz:=⟨[Mi 13],[],[]⟩
abbrev Ek:qz:=⟨[Mm 1 cj,.v (.zj zx)],[(0,.ptr 0 0)],Xu⟩
abbrev J7:qz:=⟨[Mi 0],[],[]⟩
abbrev Eb:Way:=⟨.exit 0,⟨[.v Xp,.v Xn,.a zu,.a zu],[],F7⟩⟩
abbrev Kx:List Bk:=[.arr i64,.var (.zj zo)]
abbrev JL:List Bk:=[.var (.zj i64)]
abbrev CV:List Bk:=[.arr zc,.var (.zj zc),.var (.zj zc),.var (.zj zc)]
abbrev Fs:qz:=⟨[Mi 25,.a .str],[(0,.cur 0 .str)],yu⟩
abbrev FI:Way:=⟨.exit 0,⟨[.a .bool],[(5,.cur 0 .bool)],[.arr .bool]⟩⟩
abbrev Fe:qz:=⟨[Mi 3,Mi 9],[],[]⟩
abbrev F2:qz:=⟨[.a zf],[(0,.cur 0 zf)],[.arr zf]⟩
abbrev Kv:qz:=⟨[Mb 0],[],[]⟩
abbrev Fp:qz:=⟨[Mm 0 .nil,.v (.zj qP)],[],Ub⟩
abbrev FN:qz:=⟨[Ms 0,.v (.zj zt)],[],lX⟩
abbrev D8:qz:=⟨[.s 3 (.sub 0 (.int .u8)),.a (.int .u8)],[],sk⟩
abbrev DK:List Bk:=[.var bA,.arr i64,.arr i64,.var .mp]
abbrev D1:List Bk:=[.var Et,.var Cq,.arr .str,.arr .str,.arr .str]
abbrev Ea:qz:=⟨[.a (.int .u8)],[(3,.cur 0 (.int .u8))],sk⟩
abbrev D5:qz:=⟨[.v rB,.a (.int .u8)],[(0,.ptr 0 0)],il⟩
abbrev Dd:qz:=⟨[.a .bool],[(0,.cur 0 .bool)],[.arr .bool]⟩
abbrev FA:Way:=⟨.ret,⟨[Mb 6],[],[]⟩⟩
abbrev FF:qz:=⟨[.a zc],[(9,.cur 0 zc)],lB⟩
abbrev Cr:qz:=⟨[.a zc],[(0,.cur 0 zc)],lB⟩
abbrev WQ:List AK:=[.any,.any,.ptr]
abbrev CA:qz:=⟨[.a .str],[(4,.cur 0 .str)],yu⟩
abbrev F5:qz:=⟨[.v (.zj i64)],[],JL⟩
abbrev FM:qz:=⟨[Mi 17],[],[]⟩
abbrev CR:qz:=⟨[Mi 5],[],[]⟩
abbrev WN:Dk:=.st [.nl,.nl]
abbrev DP:qz:=⟨[Mm 6 (.sl .str)],[],[]⟩
abbrev F6:qz:=⟨[Mm 0 q9],[],[]⟩
abbrev UX:List Bk:=[.var (.zj zc)]
abbrev J8:Way:=⟨.exit 0,GW⟩
abbrev Dq:qz:=⟨[.a (.int .u8)],[],sk⟩
def z5H:Hints:=Hz [] [(0,1,.flat [Mb 2])] []
theorem z3K:ze Pz 263 ⟨[.ty (.int .u8)],[.bool],λx=>yh x⟩:=zP t0 rn z5H Tryz.func263 [] z8
def t1:=t0.d z3K
def z6N:Hints:=Hz [] [(0,1,.flat [Mb 2])] []
theorem z3Q:ze Pz 304 ⟨[.ty (.int .u8)],[.bool],λx=>vx x⟩:=zP t1 rn z6N Tryz.func304 [] z8
def t2:=t1.d z3Q
theorem z0V:ze Pz 264 ⟨[.ty (.int .u8)],[.bool],λx=>kh x⟩:=zP t2 rn hN Tryz.func264 [] z8
def t3:=t2.d z0V
def Hi:zi:=Lz [] [Ms 0,Mi 18] ⟨[Mi 19],[],[]⟩ [xL,Ya] λp s=>nM p.1 p.2 s
def Th:Hints:=Hz [(0,Hi)] [(0,1,.ways [⟨.normal,⟨[Mb 16],[],[]⟩⟩])] []
theorem Mq:LO Tryz.f197 Hi 0:=lk t3 rn Th [] z8
theorem z2g:ze Pz 197 ⟨[.ty .str],[.bool],λx=>qV x⟩:=zP t3 rn Th Tryz.func197 [0] (zl rfl Mq z8)
def t4:=t3.d z2g
theorem TP:ze Pz 196 ⟨[.ty zr],[.bool],λx=>uq x⟩:=zP t4 (rz [1]) hN Tryz.func196 [] z8
def t5:=t4.d TP
def Cs:zi:=Lz [] [Mm 0 (.sl zr),.s 1 (.zK 196 []),Mi 7] jk [xL,bD] λp s=>qg p.1 (λz0=>uq z0) p.2.2 s
def h75:Hints:=Hz [(0,Cs)] [] []
theorem Rz:LO Tryz.f75 Cs 0:=lk t5 rn h75 [] z8
theorem z5v:ze Pz 75 ⟨[.ty (.sl zr),.zK 196 []],[i64],λx=>zY x.1 (λz0=>uq z0)⟩:=zP t5 rn h75 Tryz.func75 [0] (zl rfl Rz z8)
def t6:=t5.d z5v
theorem z13:ze Pz 140 ⟨[.ty (.sl zr),.zK 196 []],[.bool],λx=>qx x.1 (λz0=>uq z0)⟩:=zP t6 rn hN Tryz.func140 [] z8
def t7:=t6.d z13
def z5Q:Hints:=Hz [] [(0,1,.flat [Mb 2])] []
theorem z1A:ze Pz 159 ⟨[.ty (.sl u32)],[.bool],λx=>W9 x⟩:=zP t7 rn z5Q Tryz.func159 [] z8
def t8:=t7.d z1A
def Y5:zi:=Lz [] [] Cx [⟨.exit 0,Cx⟩] λp s=>pT  s
def z0g:Hints:=Hz [(0,Y5)] [] []
theorem LS:LO Tryz.f131 Y5 0:=lk t8 rn z0g [] z8
theorem T1:ze Pz 131 ⟨[.ty (.sl u32)],[(.sl u32)],λx=>qB x⟩:=zP t8 rn z0g Tryz.func131 [0] (zl rfl LS z8)
def t9:=t8.d T1
def z7K:Hints:=Hz [] [(0,1,.ZZ)] []
theorem z3A:ze Pz 193 ⟨[.ty (.sl u32)],[(.sl u32)],λx=>kG x⟩:=zP t9 rn z7K Tryz.func193 [] z8
def t10:=t9.d z3A
theorem z2F:ze Pz 128 ⟨[.ty (.sl u32)],[(.sl u32)],λx=>b7 x⟩:=zP t10 rn hN Tryz.func128 [] z8
def t11:=t10.d z2F
def DS:zi:=Lz [] [Mm 0 (.sl u32),Mm 1 (.sl u32)] CR [xL,bD] λp s=>sQ p.1 p.2 s
def h90:Hints:=Hz [(0,DS)] [] []
theorem OJ:LO Tryz.f90 DS 0:=lk t11 rn h90 [] z8
theorem z7O:ze Pz 90 ⟨[.ty (.sl u32),.ty (.sl u32)],[i64],λx=>nI x.1 x.2⟩:=zP t11 rn h90 Tryz.func90 [0] (zl rfl OJ z8)
def t12:=t11.d z7O
def z7j:Hints:=Hz [] [(0,1,.flat [Mb 15])] []
theorem z3L:ze Pz 194 ⟨[.ty u32,.ty u32,.ty u32],[u32,u32],λx=>eC x.1 x.2.1 x.2.2⟩:=zP t12 rn z7j Tryz.func194 [] z8
def t13:=t12.d z3L
def Y4:zi:=Lz [] [Mm 0 (.sl u32),Mm 1 u32] ⟨[Mm 7 u32,Mi 8,.a u32],[(6,.cur 0 u32)],jH⟩ [⟨.exit 0,⟨[Mm 7 u32,.a u32],[(6,.cur 0 u32)],jH⟩⟩] λp s=>nf p.1 p.2 s
def z3U:Hints:=Hz [(0,Y4)] [] [(7,[6])]
theorem Iu:LO Tryz.f129 Y4 0:=lk t13 rn z3U [] z8
theorem z34:ze Pz 129 ⟨[.ty (.sl u32),.ty u32],[(.sl u32),u32],λx=>oJ x.1 x.2⟩:=zP t13 rn z3U Tryz.func129 [0] (zl rfl Iu z8)
def t14:=t13.d z34
theorem z7F:ze Pz 91 ⟨[.ty (.int .u64)],[(.sl u32)],λx=>cw x⟩:=zP t14 rn hN Tryz.func91 [] z8
def t15:=t14.d z7F
def z6y:Hints:=Hz [] [(3,1,.flat [Mm 0 u32,Mi 2]),(3,4,.flat [Mm 0 u32,Mi 2])] []
theorem TD:ze Pz 301 ⟨[.ty u32],[i64],λx=>dU x⟩:=zP t15 rn z6y Tryz.func301 [] z8
def t16:=t15.d TD
theorem z38:ze Pz 258 ⟨[.ty u32],[i64],λx=>jg x⟩:=zP t16 rn hN Tryz.func258 [] z8
def t17:=t16.d z38
def Y2:zi:=Lz [] [Mm 1 (.int .u64),Mi 2,Mm 13 (.sl u32),Mi 14] DE [CG] λp s=>lq p.1 p.2.1 p.2.2.1 p.2.2.2 s
def T5:Hints:=Hz [(0,Y2)] [] []
theorem LB:LO Tryz.f259 Y2 0:=lk t17 rn T5 [] z8
theorem NK:zE Pz 259 ⟨[.any,.any,.any],⟨[Mm 0 (.sl u32),Mm 1 (.int .u64),Mi 2],[],[]⟩,[],⟨[.a u32],[(0,.cur 0 u32)],jH⟩,1,λx=>lL x.1 x.2.1 x.2.2⟩:=k6 t17 rn T5 Tryz.func259 [0] (zl rfl LB z8)
def t18:=t17.s NK
def YP:zi:=Lz [] [Mm 2 u32,Mm 3 u32,Mm 4 u32] ⟨[Mm 12 (.int .u64),Mm 13 (.int .u64)],[],[]⟩ [⟨.exit 0,⟨[Mm 12 (.int .u64)],[],[]⟩⟩] λp s=>na p.1 p.2.1 p.2.2 s
def z2r:Hints:=Hz [(0,YP)] [(0,3,.flat [Mb 42])] []
theorem N3:LO Tryz.f260 YP 0:=lk t18 rn z2r [] z8
theorem z2U:ze Pz 260 ⟨[.ty u32,.ty u32,.ty u32,.ty u32,.ty u32],[(.int .u64)],λx=>Xz x.1 x.2.1 x.2.2.1 x.2.2.2.1 x.2.2.2.2⟩:=zP t18 rn z2r Tryz.func260 [0] (zl rfl N3 z8)
def t19:=t18.d z2U
theorem z2C:ze Pz 302 ⟨[.ty u32,.ty u32,.ty u32],[u32,u32],λx=>jy x.1 x.2.1 x.2.2⟩:=zP t19 rn hN Tryz.func302 [] z8
def t20:=t19.d z2C
theorem Sw:ze Pz 303 ⟨[.ty u32,.ty u32,.ty u32],[u32,u32],λx=>eD x.1 x.2.1 x.2.2⟩:=zP t20 rn hN Tryz.func303 [] z8
def t21:=t20.d Sw
def Gw:zi:=Lz [] [Mm 1 (.sl u32),Mm 2 (.int .u64),Mm 14 (.sl u32),Mi 15] ⟨[.s 0 (.sub 0 u32),Mm 7 (.int .u64),Mm 8 u32,Mi 16,.a u32],[],jH⟩ [⟨.exit 0,⟨[.s 0 (.sub 0 u32),Mm 7 (.int .u64),Mm 8 u32,.a u32],[],jH⟩⟩] λp s=>eY p.1 p.2.1 p.2.2.1 p.2.2.2 s
def Yl:zi:=Lz [] [Mm 1 (.sl u32),Mm 62 (.sl u32),Mi 63] ⟨[.s 0 (.sub 0 u32),Mm 11 u32,Mi 64,.a u32],[],jH⟩ [⟨.exit 2,⟨[.s 0 (.sub 0 u32),Mm 11 u32,.a u32],[],jH⟩⟩] λp s=>eJ p.1 p.2.1 p.2.2 s
def Ri:Hints:=Hz [(0,Gw),(2,Yl)] [] []
theorem Lt:LO Tryz.f261 Gw 0:=lk t21 rn Ri [] z8
theorem Mf:LO Tryz.f261 Yl 2:=lk t21 rn Ri [] z8
theorem z4t:zE Pz 261 ⟨[.sub,.any,.any],⟨[.s 0 (.sub 0 u32),Mm 1 (.sl u32),Mm 2 (.int .u64),.a u32],[],jH⟩,[],⟨[Mb 0,.a u32],[],jH⟩,1,λx=>r7 x.1 x.2.1 x.2.2.1 x.2.2.2⟩:=k6 t21 rn Ri Tryz.func261 [0,2] (zl rfl Lt (zl rfl Mf z8))
def t22:=t21.s z4t
def QG:zi:=Lz [] [Mm 1 (.int .u64),Mi 2,Mm 13 (.sl u32),Mi 14] DE [CG] λp s=>pN p.1 p.2.1 p.2.2.1 p.2.2.2 s
def Ch:Hints:=Hz [(0,QG)] [] []
theorem BN:LO Tryz.f259 QG 0:=lk t22 rn Ch [] z8
theorem KM:ze Pz 259 ⟨[.ty (.sl u32),.ty (.int .u64),.ty i64],[(.sl u32)],λx=>Um x.1 x.2.1 x.2.2⟩:=zP t22 rn Ch Tryz.func259 [0] (zl rfl BN z8)
def t23:=t22.d KM
def z0m:Tb:=t23.d KM
def KV:zi:=Lz [] [Mm 6 (.int .u64),Mm 38 (.sl u32),Mi 39] ⟨[Mi 40,.a u32],[(7,.cur 0 u32)],jH⟩ [CG] λp s=>n5 p.1 p.2.1 p.2.2 s
def z4k:Hints:=Hz [(0,KV)] [] [(17,[7]),(21,[12])]
theorem Nj:LO Tryz.f262 KV 0:=lk z0m rn z4k [] z8
theorem z2s:ze Pz 262 ⟨[.ty (.sl u32),.ty i64],[(.sl u32)],λx=>X5 x.1 x.2⟩:=zP z0m rn z4k Tryz.func262 [0] (zl rfl Nj z8)
def t24:=t23.d z2s
def z0W:Tb:=t24.s NK
def GM:zi:=Lz [] [Mm 6 (.int .u64),Mm 8 (.sl u32),Mi 9] ⟨[Mi 10,.a u32,.a u32],[(4,.cur 2 u32),(7,.cur 0 u32)],[.arr u32,.dead,.arr u32]⟩ [⟨.exit 0,⟨[.a u32,.a u32],[(4,.cur 2 u32),(7,.cur 0 u32)],[.arr u32,.dead,.arr u32]⟩⟩] λp s=>pz p.1 p.2.1 p.2.2 s
def z0J:Hints:=Hz [(0,GM)] [(3,9,.ways [⟨.normal,⟨[Mm 11 (.int .u64),.a u32,.a u32],[(4,.cur 2 u32),(7,.cur 0 u32)],[.arr u32,.dead,.arr u32]⟩⟩])] [(5,[8]),(12,[4,7])]
theorem Nv:LO Tryz.f195 GM 0:=lk z0W rn z0J [] z8
theorem z2P:ze Pz 195 ⟨[.ty (.sl u32),.ty (.sl u32)],[(.sl u32),(.sl u32)],λx=>VM x.1 x.2⟩:=zP z0W rn z0J Tryz.func195 [0] (zl rfl Nv z8)
def t25:=t24.d z2P
theorem Tm:ze Pz 133 ⟨[.ty (.sl u32),.ty (.sl u32)],[(.sl u32),(.sl u32),.bool],λx=>b4 x.1 x.2⟩:=zP t25 rn hN Tryz.func133 [] z8
def t26:=t25.d Tm
def Yw:zi:=Lz [] [] ⟨[Mm 0 (.sl u32),Mm 1 (.sl u32)],[],[]⟩ [⟨.exit 0,Cx⟩] λp s=>tS  s
def z0s:Hints:=Hz [(0,Yw)] [] []
theorem Mp:LO Tryz.f132 Yw 0:=lk t26 rn z0s [] z8
theorem TL:ze Pz 132 ⟨[.ty (.sl u32),.ty (.sl u32)],[(.sl u32)],λx=>XW x.1 x.2⟩:=zP t26 rn z0s Tryz.func132 [0] (zl rfl Mp z8)
def t27:=t26.d TL
def z6K:Hints:=Hz [] [(0,1,.ways [⟨.normal,⟨[Mb 28],[],[]⟩⟩])] []
theorem Tf:ze Pz 111 ⟨[.ty zc],[.bool],λx=>fN x⟩:=zP t27 (rz [1]) z6K Tryz.func111 [] z8
def t28:=t27.d Tf
def h92:Hints:=Hz [] [(0,2,.flat [Mb 19])] []
theorem z5j:ze Pz 92 ⟨[.ty .bool,.ty (.sl u32),.ty (.sl u32)],[zc],λx=>eT x.1 x.2.1 x.2.2⟩:=zP t28 rn h92 Tryz.func92 [] z8
def t29:=t28.d z5j
theorem z68:ze Pz 52 ⟨[.ty zc],[zc],λx=>qD x⟩:=zP t29 (rz [1]) hN Tryz.func52 [] z8
def t30:=t29.d z68
def z7i:Hints:=Hz [] [(0,2,.flat [Mb 2])] []
theorem z45:ze Pz 112 ⟨[.ty zc],[.bool],λx=>jN x⟩:=zP t30 rn z7i Tryz.func112 [] z8
def t31:=t30.d z45
theorem z2M:ze Pz 198 ⟨[.ty zB],[.bool],λx=>uw x⟩:=zP t31 (rz [1]) hN Tryz.func198 [] z8
def t32:=t31.d z2M
def EO:zi:=Lz [] [Mm 0 (.sl zB),.s 1 (.zK 198 []),Mi 7] jk [xL,bD] λp s=>xG p.1 (λz0=>uw z0) p.2.2 s
def h72:Hints:=Hz [(0,EO)] [] []
theorem RN:LO Tryz.f72 EO 0:=lk t32 rn h72 [] z8
theorem z7h:ze Pz 72 ⟨[.ty (.sl zB),.zK 198 []],[i64],λx=>wj x.1 (λz0=>uw z0)⟩:=zP t32 rn h72 Tryz.func72 [0] (zl rfl RN z8)
def t33:=t32.d z7h
theorem z0z:ze Pz 146 ⟨[.ty (.sl zB),.zK 198 []],[.bool],λx=>qE x.1 (λz0=>uw z0)⟩:=zP t33 rn hN Tryz.func146 [] z8
def t34:=t33.d z0z
theorem z3D:ze Pz 201 ⟨[.ty .str],[.bool],λx=>di x⟩:=zP t34 rn hN Tryz.func201 [] z8
def t35:=t34.d z3D
theorem z4o:ze Pz 200 ⟨[.ty zO],[.bool],λx=>uH x⟩:=zP t35 (rz [1]) hN Tryz.func200 [] z8
def t36:=t35.d z4o
def FB:zi:=Lz [] [Mm 0 (.sl zO),.s 1 (.zK 200 []),Mi 7] jk [xL,bD] λp s=>u7 p.1 (λz0=>uH z0) p.2.2 s
def h79:Hints:=Hz [(0,FB)] [] []
theorem PT:LO Tryz.f79 FB 0:=lk t36 rn h79 [] z8
theorem z5o:ze Pz 79 ⟨[.ty (.sl zO),.zK 200 []],[i64],λx=>jo x.1 (λz0=>uH z0)⟩:=zP t36 rn h79 Tryz.func79 [0] (zl rfl PT z8)
def t37:=t36.d z5o
theorem z3V:ze Pz 199 ⟨[.ty (.sl zO),.zK 200 []],[.bool],λx=>ue x.1 (λz0=>uH z0)⟩:=zP t37 rn hN Tryz.func199 [] z8
def t38:=t37.d z3V
theorem z00:ze Pz 134 ⟨[.ty zF],[.bool],λx=>oX x⟩:=zP t38 (rz [1]) hN Tryz.func134 [] z8
def t39:=t38.d z00
def z5G:Hints:=Hz [] [(0,1,.flat [Mb 6])] []
theorem Tg:ze Pz 202 ⟨[.ty i64,.ty i64,.ty i64],[.bool],λx=>dm x.1 x.2.1 x.2.2⟩:=zP t39 rn z5G Tryz.func202 [] z8
def t40:=t39.d Tg
def Gk:zi:=Lz [] [Mr 1 zF,Mm 7 (.sl zw),Mi 8] Fe [xL,Ya] λp s=>eh p.1 p.2.1 p.2.2 s
def z0D:Hints:=Hz [(0,Gk)] [(0,5,.ways [⟨.normal,⟨[Mb 36,.v (.zj zw)],[],[.var (.zj zw)]⟩⟩])] []
theorem N9:LO Tryz.f135 Gk 0:=lk t40 (rz [1]) z0D [] z8
theorem z0o:ze Pz 135 ⟨[.ty zF],[.bool],λx=>mM x⟩:=zP t40 (rz [1]) z0D Tryz.func135 [0] (zl rfl N9 z8)
def t41:=t40.d z0o
theorem T3:ze Pz 203 ⟨[],[(.sl .str)],λ_=>kJ⟩:=zP t41 rn hN Tryz.func203 [] z8
def t42:=t41.d T3
def z8l:Hints:=Hz [] [(3,2,.flat [Mb 4])] []
theorem TG:ze Pz 337 ⟨[.ty i64],[i64],λx=>Qz x⟩:=zP t42 rn z8l Tryz.func337 [] z8
def t43:=t42.d TG
def GR:zi:=Lz [] [Mm 1 (.sl u32),Mi 6,Mm 7 u32,Mm 21 (.sl u32),Mi 22,Mi 23,Mm 28 (.sl u32),Mi 29] ⟨[Mm 8 (.int .u64),Mi 30,.a u32],[(5,.cur 0 u32)],jH⟩ [⟨.exit 2,⟨[Mm 8 (.int .u64),.a u32],[(5,.cur 0 u32)],jH⟩⟩] λp s=>Z9 p.1 p.2.1 p.2.2.1 p.2.2.2.1 p.2.2.2.2.1 p.2.2.2.2.2.1 p.2.2.2.2.2.2.1 p.2.2.2.2.2.2.2 s
def KN:zi:=Lz [] [Mm 1 (.sl u32),Mm 21 (.sl u32),Mi 22] ⟨[Mi 23,.a u32],[(5,.cur 0 u32)],jH⟩ [⟨.exit 0,⟨[.a u32],[(5,.cur 0 u32)],jH⟩⟩] λp s=>tf p.1 p.2.1 p.2.2 s
def Ra:Hints:=Hz [(2,GR),(0,KN)] [] [(16,[5])]
theorem Ma:LO Tryz.f318 GR 2:=lk t43 rn Ra [] z8
theorem Ni:LO Tryz.f318 KN 0:=lk t43 rn Ra [2] (zl rfl Ma z8)
theorem Tt:ze Pz 318 ⟨[.ty (.sl u32),.ty (.sl u32)],[(.sl u32)],λx=>gz x.1 x.2⟩:=zP t43 rn Ra Tryz.func318 [0] (zl rfl Ni z8)
def t44:=t43.d Tt
def Yx:zi:=Lz [] [Mi 5] ⟨[Mm 3 (.sl u32),Mi 6],[],[]⟩ [⟨.exit 0,⟨[Mm 3 (.sl u32)],[],[]⟩⟩] λp s=>sn p s
def z3j:Hints:=Hz [(0,Yx)] [] []
theorem Is:LO Tryz.f294 Yx 0:=lk t44 rn z3j [] z8
theorem z3S:ze Pz 294 ⟨[.ty i64],[(.sl u32)],λx=>XT x⟩:=zP t44 rn z3j Tryz.func294 [0] (zl rfl Is z8)
def t45:=t44.d z3S
theorem z74:ze Pz 88 ⟨[.ty zc],[.str],λx=>tI x⟩:=zP t45 (rz [1]) hN Tryz.func88 [] z8
def t46:=t45.d z74
def H7:zi:=Lz [] [] ⟨[.s 0 (.sub 0 (.int .u8)),Mi 2,Mi 3,.a (.int .u8)],[],sk⟩ [⟨.exit 0,Dq⟩] λp s=>ua  s
def z19:Hints:=Hz [(0,H7)] [] []
theorem Li:LO Tryz.f130 H7 0:=lk t46 rn z19 [] z8
theorem z10:zE Pz 130 ⟨[.sub],⟨[.s 0 (.sub 0 (.int .u8)),.a (.int .u8)],[],sk⟩,[],Dq,0,λx=>je x.1 x.2⟩:=k6 t46 rn z19 Tryz.func130 [0] (zl rfl Li z8)
def t47:=t46.s z10
def F0:zi:=Lz [] [Mm 4 (.sl u32)] ⟨[Mm 5 u32,Mi 19,.a (.int .u8)],[(3,.cur 0 (.int .u8))],sk⟩ [⟨.exit 2,Ea⟩] λp s=>mN p s
def Dz:zi:=Lz [.slot 3 (.int .u8)] [] ⟨[Mm 0 (.sl u32),.a (.int .u8)],[(3,.cur 0 (.int .u8))],sk⟩ [⟨.exit 0,Ea⟩] λp s=>ng  s
def C9:zi:=Lz [] [] D8 [⟨.exit 4,D8⟩] λp s=>nj  s
def h89:Hints:=Hz [(2,F0),(0,Dz),(4,C9)] [(0,13,.flat [Mb 42])] []
theorem PJ:LO Tryz.f89 F0 2:=lk t47 rn h89 [] z8
theorem PH:LO Tryz.f89 Dz 0:=lk t47 rn h89 [2] (zl rfl PJ z8)
theorem P3:LO Tryz.f89 C9 4:=lk t47 rn h89 [] z8
theorem z7l:ze Pz 89 ⟨[.ty (.sl u32)],[.str],λx=>iT x⟩:=zP t47 rn h89 Tryz.func89 [0,4] (zl rfl PH (zl rfl P3 z8))
def t48:=t47.d z7l
theorem z2l:ze Tryz.prog 374 ⟨[.ty .str,.ty i64],[.str],λx=>strings_Repeat x.1 x.2⟩:=by
 refine xc Tryz.func374 (by kernel_rfl) rfl λκ x zp y hy hI ha => ?_
 obtain⟨s,n⟩:=x
 obtain⟨⟨h0,h1,h2⟩,hy⟩:=hy
 cases hy
 obtain⟨v0,r,rfl,rU,ha⟩:=zU.cons_inv (show zU κ [.zj .str s,.zj i64 n] zp from ha)
 obtain⟨v1,r,rfl,JE,ha⟩:=ha.cons_inv
 rw[ha.zG,rU.qO,JE.jB]
 obtain⟨m,rfl⟩:=Int.eq_ofNat_of_zero_le h0
 refine(Go.Proofs.Tryz.strings_Repeat ⟨s.toArray⟩ m κ.w (by simp only at h1; omega) (by rw[show(ByteArray.size ⟨s.toArray⟩)=List.length s from List.size_toArray]; simpa using h2)).mono ?_
 rintro e w' ⟨rfl,hB⟩
 refine⟨hB,λ_=>⟨_,rfl,?_⟩⟩
 have e1:Lib.repeatL s m=Bf s m:=KT s m
 have e2:(Int.toNat (m:Int))=m:=by omega
 show RD _ (.zj .str (Bf s (Int.toNat (m:Int)))) _
 rw[e2,<- e1]
 exact RD.str
def t49:=t48.d z2l
theorem z2h:ze Pz 361 ⟨[.ty .str,.ty i64],[.str],λx=>pS x.1 x.2⟩:=zP t49 rn hN Tryz.func361 [] z8
def t50:=t49.d z2h
def GL:zi:=Lz [] [] ⟨[Mi 10,.v (.zj zc)],[(1,.ptr 0 0)],UX⟩ [⟨.exit 0,⟨[.v (.zj zc)],[],UX⟩⟩,⟨.ret,⟨[Ms 2,Mb 3,.v (.zj zc)],[],UX⟩⟩] λp s=>nc  s
def z1Z:Hints:=Hz [(0,GL)] [] []
theorem Ny:LO Tryz.f340 GL 0:=lk t50 rn z1Z [] z8
theorem z3F:ze Pz 340 ⟨[.ty zc],[.str,.bool],λx=>nW x⟩:=zP t50 rn z1Z Tryz.func340 [0] (zl rfl Ny z8)
def t51:=t50.d z3F
def z7Z:Hints:=Hz [] [(0,1,.ways [⟨.normal,⟨[Mb 15],[],[]⟩⟩])] []
theorem z1e:ze Pz 338 ⟨[.ty zc],[.bool],λx=>tF x⟩:=zP t51 (rz [1]) z7Z Tryz.func338 [] z8
def t52:=t51.d z1e
theorem z3c:ze Pz 339 ⟨[.ty zc],[.bool],λx=>fm x⟩:=zP t52 (rz [1]) hN Tryz.func339 [] z8
def t53:=t52.d z3c
theorem z3r:ze Pz 305 ⟨[.ty .expr],[.bool],λx=>p0 x⟩:=zP t53 (rz [1]) hN Tryz.func305 [] z8
def t54:=t53.d z3r
abbrev ZR:=qz.den Gg->T (qz.den Y0)
abbrev BS(F:ZR):=zE Pz 265 ⟨WQ,Gg,[],Y0,1,F⟩
theorem z1X(xY:ZR)(bT:BS xY):zE Pz 306 ⟨WQ,⟨[Mm 0 .expr,Mr 1 i64,.v (.zj i64)],[(2,.ptr 0 0)],[.cvar (.ptr 1 0),.var (.zj i64)]⟩,[],Om,1,λx=>lJ (λy0 y1 y2=>xY (y0,y1,y2)) x.1 x.2.1 x.2.2⟩:=k6 (t54.s bT) (rz [3]) hN Tryz.func306 [] z8
def z4j(xY:ZR)(bT:BS xY):Tb:=t54.s (z1X _ bT)
def Gs(xY:ZR):zi:=Lz [] [Mm 0 (.sl .expr),Mi 7] ⟨[.s 1 (.mclo 306 [.rp i64,.pt 0]),Mi 8,.v (.zj i64)],[],[.cvar (.ptr 1 0),.var (.zj i64)]⟩ [⟨.exit 0,⟨[.v (.zj i64)],[],[.cvar (.ptr 1 0),.var (.zj i64)]⟩⟩,⟨.ret,⟨[Mi 4,.v (.zj i64)],[],[.cvar (.ptr 1 0),.var (.zj i64)]⟩⟩] λp s=>xa (λy0 y1 y2=>xY (y0,y1,y2)) p.1 p.2 s
def z06(xY:ZR):Hints:=Hz [(0,Gs xY)] [] []
theorem MG(xY:ZR)(bT:BS xY):LO Tryz.f216 (Gs xY) 0:=lk (z4j xY bT) rn (z06 xY) [] z8
theorem z0n(xY:ZR)(bT:BS xY):zE Pz 216 ⟨[.any,.zK 306],OA,[],⟨[Mi 0,.v (.zj i64)],[],[.cvar (.ptr 1 0),.var (.zj i64)]⟩,1,λx=>xw (λy0 y1 y2=>xY (y0,y1,y2)) x.1 x.2.1 x.2.2⟩:=k6 (z4j xY bT) rn (z06 xY) Tryz.func216 [0] (zl rfl (MG xY bT) z8)
theorem Si(xY:ZR)(bT:BS xY):zE Pz 149 ⟨[.any,.zK 306],OA,[],Om,1,λx=>xb (λy0 y1 y2=>xY (y0,y1,y2)) x.1 x.2.1 x.2.2⟩:=k6 (t54.s (z0n _ bT)) rn hN Tryz.func149 [] z8
def z6J(xY:ZR):Hints:=Hz [] [(0,2,.ways [⟨.normal,⟨[Mb 24,.v (.zj i64)],[],[.var (.zj i64),.cvar (.ptr 0 0)]⟩⟩])] []
theorem M6(xY:ZR)(bT:BS xY):zE Pz 265 ⟨WQ,Gg,[],Y0,1,λx=>dw (λy0 y1 y2=>xY (y0,y1,y2)) x.1 x.2.1 x.2.2⟩:=k6 (t54.s (Si _ bT)) (rz [3,4]) (z6J xY) Tryz.func265 [] z8
theorem Sr:zE Pz 265 ⟨WQ,Gg,[],Y0,1,λx=>tN x.1 x.2.1 x.2.2⟩:=WG (λxY x=>dw (λy0 y1 y2=>xY (y0,y1,y2)) x.1 x.2.1 x.2.2) (λx=>rfl) (λxY bT=>M6 xY bT)
def t55:=t54.s Sr
theorem Te:ze Pz 204 ⟨[.ty .expr],[.bool],λx=>bZ x⟩:=zP t55 (rz [1]) hN Tryz.func204 [] z8
def t56:=t55.d Te
theorem Tw:ze Pz 207 ⟨[],[(.sl .str)],λ_=>vE⟩:=zP t56 rn hN Tryz.func207 [] z8
def t57:=t56.d Tw
theorem z2c:ze Pz 206 ⟨[.ty zH],[.bool],λx=>vC x⟩:=zP t57 (rz [1]) hN Tryz.func206 [] z8
def t58:=t57.d z2c
def KY:zi:=Lz [] [Mm 0 (.sl zH),.s 1 (.zK 206 []),Mi 7] jk [xL,bD] λp s=>ub p.1 (λz0=>vC z0) p.2.2 s
def z1h:Hints:=Hz [(0,KY)] [] []
theorem LU:LO Tryz.f266 KY 0:=lk t58 rn z1h [] z8
theorem z1f:ze Pz 266 ⟨[.ty (.sl zH),.zK 206 []],[i64],λx=>jq x.1 (λz0=>vC z0)⟩:=zP t58 rn z1h Tryz.func266 [0] (zl rfl LU z8)
def t59:=t58.d z1f
theorem T6:ze Pz 205 ⟨[.ty (.sl zH),.zK 206 []],[.bool],λx=>vZ x.1 (λz0=>vC z0)⟩:=zP t59 rn hN Tryz.func205 [] z8
def t60:=t59.d T6
def G4:zi:=Lz [] [Mr 1 zF,Mm 7 (.sl zM),Mi 8] Fe [xL,Ya] λp s=>ey p.1 p.2.1 p.2.2 s
def SO:Hints:=Hz [(0,G4)] [(0,5,.ways [⟨.normal,⟨[Mb 50,.v (.zj zM)],[],[.var (.zj zM)]⟩⟩])] []
theorem ME:LO Tryz.f136 G4 0:=lk t60 (rz [1]) SO [] z8
theorem SX:ze Pz 136 ⟨[.ty zF],[.bool],λx=>nD x⟩:=zP t60 (rz [1]) SO Tryz.func136 [0] (zl rfl ME z8)
def t61:=t60.d SX
end Go.AM.Lf
namespace Go.Proofs
section
open Go.RowKit
attribute [local go_sem] Oper.semAt_some
set_option maxRecDepth 100000
set_option maxHeartbeats 2000000
theorem eM.size:(Tryz.prog.info? 212).map (·.size)=some 2:=by kernel_rfl
theorem eM.pt:Tryz.prog.underlying 209=some (.pointer 212):=by kernel_rfl
theorem eM.up:Tryz.prog.underlying 334=some .unsafePointer:=by kernel_rfl
theorem eM.used(b:Nat)(w:World)(h0:w.cell? ⟨b,0,none⟩=some (.pointer (some ⟨b,0,none⟩))) :
  Calls Tryz.prog 188 #[.pointer (some ⟨b,0,none⟩)] w λe w'=>e=.returned (.tuple #[])/\w'=w:=by
 obtain⟨j,hj,hjs⟩:=Option.map_eq_some_iff.1 eM.size
 go_enter Tryz.func188,Tryz.ntmps188
 go_wp2
 rw[Lib.run_neq_ptr_same w _ eM.pt hj]
 go_wp2
 go_end0
 exact⟨rfl,rfl⟩
theorem eM.fresh(b:Nat)(w:World)(h0:w.cell? ⟨b,0,none⟩=some (.pointer none))(hsh:w.shape? b=some (212,2))(hfz:w.frozen? ⟨b,0,none⟩=false) :
  Calls Tryz.prog 188 #[.pointer (some ⟨b,0,none⟩)] w λe w'=>e=.returned (.tuple #[])/\w'=w.setCell ⟨b,0,none⟩ (.pointer (some ⟨b,0,none⟩)):=by
 obtain⟨j,hj,hjs⟩:=Option.map_eq_some_iff.1 eM.size
 go_enter Tryz.func188,Tryz.ntmps188
 go_wp2
 rw[Lib.run_to_unsafe w ⟨b,0,none⟩ eM.pt eM.up hj (by rw[hjs]; decide) hsh (Nat.zero_lt_succ 1)]
 simp only[Result.andThen]
 rw[Oper.upon_value]
 go_wp2
 rw[run_callFunc_extern Tryz.func252 (by kernel_rfl) (by kernel_rfl) (by kernel_rfl) (e:=Extern.AbiNoEscape.same) (by kernel_rfl)]
 rw[Lib.run_noEscape]
 simp only[Result.andThen]
 rw[Oper.upon_value]
 go_wp2
 rw[Lib.run_from_unsafe w ⟨b,0,none⟩ eM.up eM.pt hj hsh (by kernel_rfl)]
 simp only[Result.andThen]
 rw[Oper.upon_value]
 go_wp2
 go_end0
 exact⟨rfl,rfl⟩
end
end Go.Proofs

namespace Go.AM.Lf
open Go.Proofs
theorem z2K:zE Tryz.prog 188 ⟨[.ptr],D5,[],pP,0,λx=>lI x.1 x.2⟩:=XG (P:=Tryz.prog) (g:=188) (t:=212) (enters_of Tryz.func188 (by kernel_rfl) rfl) eM.used eM.fresh
def t62:=t61.s z2K
theorem z0y:zE Pz 125 ⟨kU,⟨[Ms 1,.v rB,.a (.int .u8)],[(0,.ptr 0 0)],il⟩,[.pcell 0 1 (.int .u8)],⟨[Mi 0,.v rB,.a (.int .u8)],[(1,.q8)],il⟩,2,λx=>zR x.1 x.2.1 x.2.2⟩:=k6 t62 rn hN Tryz.func125 [] z8
def t63:=t62.s z0y
theorem z6Y:ze Pz 46 ⟨[.ty zc],[.str],λx=>jQ x⟩:=zP t63 rn hN Tryz.func46 [] z8
def t64:=t63.d z6Y
theorem Tq:ze Pz 209 ⟨[.ty .str],[.str],λx=>lM x⟩:=zP t64 rn hN Tryz.func209 [] z8
def t65:=t64.d Tq
theorem z5K:ze Tryz.prog 43 ⟨[.ty i64],[.str],λx=>strconv_Itoa x⟩:=by
 refine xc Tryz.func43 (by kernel_rfl) rfl λκ n zp y hy hI ha => ?_
 obtain⟨⟨h0,h1⟩,hy⟩:=hy
 cases hy
 obtain⟨v0,r,rfl,rU,ha⟩:=zU.cons_inv (show zU κ [.zj i64 n] zp from ha)
 rw[ha.zG,rU.jB]
 refine(Go.Proofs.Tryz.strconv_Itoa n h0 h1 κ.w (jZ hI)).mono ?_
 rintro e w' ⟨rfl,k,os,rfl⟩
 refine⟨J5 _ _ _,λ_=>⟨_,rfl,?_⟩⟩
 have e1:Lib.itoa n=Vr n:=Ca n
 show RD _ (.zj .str (Vr n)) _
 rw[<- e1]
 exact RD.str
def t66:=t65.d z5K
def z8b:Hints:=Hz [] [(3,2,.flat [Ms 3])] []
theorem SH:ze Pz 267 ⟨[.ty zw],[.str],λx=>pY x⟩:=zP t66 (rz [1]) z8b Tryz.func267 [] z8
def t67:=t66.d SH
def z7c:Hints:=Hz [] [(3,2,.flat [Mb 5]),(3,5,.flat [Mb 8])] []
theorem z09:ze Pz 342 ⟨[.ty .expr],[i64],λx=>dc x⟩:=zP t67 (rz [1]) z7c Tryz.func342 [] z8
def t68:=t67.d z09
abbrev MQ:=jT [.ty .expr]->T (UP [.str])
abbrev z2Q(F:MQ):=ze Pz 307 ⟨[.ty .expr],[.str],F⟩
theorem z2a(eL:MQ)(Us:z2Q eL):ze Pz 341 ⟨[.ty .expr,.ty i64],[.str],λx=>bY (λy0=>eL (y0)) x.1 x.2⟩:=zP (t68.d Us) (rz [2]) hN Tryz.func341 [] z8
def z6B(eL:MQ):Hints:=Hz [] [(3,2,.ways [⟨.normal,⟨[Ms 3],[],[]⟩⟩,⟨.ret,⟨[Ms 2],[],[]⟩⟩])] []
theorem Nk(eL:MQ)(Us:z2Q eL):ze Pz 307 ⟨[.ty .expr],[.str],λx=>dR (λy0=>eL (y0)) x⟩:=zP (t68.d (z2a _ Us)) (rz [1]) (z6B eL) Tryz.func307 [] z8
theorem z2o:ze Pz 307 ⟨[.ty .expr],[.str],λx=>Zl x⟩:=J6 (λeL x=>dR (λy0=>eL (y0)) x) (λx=>rfl) (λeL Us=>Nk eL Us)
def t69:=t68.d z2o
theorem z4d:ze Pz 268 ⟨[.ty .expr],[.str],λx=>mA x⟩:=zP t69 (rz [1]) hN Tryz.func268 [] z8
def t70:=t69.d z4d
theorem z1Y:ze Pz 210 ⟨[.ty .expr,.ty .str,.ty .expr],[.str],λx=>ir x.1 x.2.1 x.2.2⟩:=zP t70 (rz [3,5]) hN Tryz.func210 [] z8
def t71:=t70.d z1Y
def H5:zi:=Lz [] [Mi 2,Mr 4 zF,Mm 29 (.sl zw),Mi 30] ⟨[Mi 31,.v rB,.a (.int .u8)],[(0,.ptr 0 0)],il⟩ [⟨.exit 0,pP⟩] λp s=>dT p.1 p.2.1 p.2.2.1 p.2.2.2 s
def Gi:zi:=Lz [] [Mi 2,Mm 45 (.sl zM),Mi 46] ⟨[Mi 47,.v rB,.a (.int .u8)],[(0,.ptr 0 0)],il⟩ [⟨.exit 2,pP⟩] λp s=>e8 p.1 p.2.1 p.2.2 s
def P9:Hints:=Hz [(0,H5),(2,Gi)] [] []
theorem IW:LO Tryz.f208 H5 0:=lk t71 (rz [4]) P9 [] z8
theorem Nu:LO Tryz.f208 Gi 2:=lk t71 (rz [4]) P9 [] z8
theorem z3v:zE Pz 208 ⟨pH,⟨[Mm 1 zF,Mi 2,.v rB,.a (.int .u8)],[(0,.ptr 0 0)],il⟩,[.pcell 0 1 (.int .u8)],pP,0,λx=>mP x.1 x.2.1 x.2.2.1 x.2.2.2⟩:=k6 t71 (rz [4]) P9 Tryz.func208 [0,2] (zl rfl IW (zl rfl Nu z8))
def t72:=t71.s z3v
end Go.AM.Lf
namespace Go.Proofs
section
open Go.RowKit
attribute [local go_sem] Oper.semAt_some
set_option maxRecDepth 100000
set_option maxHeartbeats 2000000
theorem eM.mixed:Tryz.prog.follows .mixedOrders=true:=by kernel_rfl
theorem eM.pb:Tryz.prog.underlying 280=some (.pointer 5):=by kernel_rfl
theorem eM.c5:Tryz.prog.cellsOf 5=1:=by kernel_rfl
theorem eM.Fh(W:World)(q:Option Addr):(Builtin.unsafeString_ #[280,3] 9 #[.pointer q,.int .i64 0]).run Tryz.prog W=.ok (.string .empty) W:=Lib.run_unsafeString_none W _ _ _ q
theorem eM.nil(b:Nat)(p:Value)(w:World)(Nr:w.heap[b]? = some (.cells #[p,.slice none 0 0] 212 (0,0))) :
  Calls Tryz.prog 126 #[.pointer (some ⟨b,0,none⟩)] w λe w'=>e=.returned (.string ⟨#[]⟩)/\w'=w.drew:=by
 have hUS:=eM.Fh
 have c1:w.drew.cell? ⟨b,1,none⟩=some (.slice none 0 0):=by
  have:w.drew.heap[b]? = some (.cells #[p,.slice none 0 0] 212 (0,0)):=Nr
  rw[Lib.cell_of_heap this]; rfl
 have hSD:(Builtin.unsafeSliceData_ #[210] 280 #[.slice none 0 0]).run Tryz.prog w.drew=.ok (.pointer none) w.drew:=rfl
 have mixed:Tryz.prog.follows .mixedOrders=true:=eM.mixed
 go_enter Tryz.func126,Tryz.ntmps126
 go_wp2
 go_region_o
 all_goals (go_wp2; go_ret; exact⟨rfl,rfl⟩)
theorem eM.room(b g o cap:Nat)(p:Value)(w:World)(S7:cap≠0)(Nr:w.heap[b]? = some (.cells #[p,.slice (some ⟨g,o,none⟩) 0 cap] 212 (0,0))) :
  Calls Tryz.prog 126 #[.pointer (some ⟨b,0,none⟩)] w λe w'=>e=.returned (.string ⟨#[]⟩)/\w'=w.drew:=by
 have hUS:=eM.Fh
 have c1:w.drew.cell? ⟨b,1,none⟩=some (.slice (some ⟨g,o,none⟩) 0 cap):=by
  have:w.drew.heap[b]? = some (.cells #[p,.slice (some ⟨g,o,none⟩) 0 cap] 212 (0,0)):=Nr
  rw[Lib.cell_of_heap this]; rfl
 have hSD:(Builtin.unsafeSliceData_ #[210] 280 #[.slice (some ⟨g,o,none⟩) 0 cap]).run Tryz.prog w.drew=.ok (.pointer (some ⟨g,o,none⟩)) w.drew :=
  Lib.run_unsafeSliceData_row _ _ _ _ _ _ S7
 clear S7
 have mixed:Tryz.prog.follows .mixedOrders=true:=eM.mixed
 go_enter Tryz.func126,Tryz.ntmps126
 go_wp2
 go_region_o
 all_goals (go_wp2; go_ret; exact⟨rfl,rfl⟩)
theorem eM.full(b g cap:Nat)(p:Value)(cur:Array Value)(l:List UInt8)(w:World)(h0:l≠[])(qR:l.length<=cap)(Ep:l.length<=140737488355328)(Nr:w.heap[b]? = some (.cells #[p,.slice (some ⟨g,0,none⟩) l.length cap] 212 (0,0)))
  (hg:w.heap[g]? = some (.cells cur 5 (0,0))) (OT:l.length<=cur.size) (jr:∀ j x,l[j]? = some x->w.cell? ⟨g,j,none⟩=some (.int .u8 x.toNat)) :
  Calls Tryz.prog 126 #[.pointer (some ⟨b,0,none⟩)] w λe w'=>e=.returned (.string ⟨l.toArray⟩)/\w'=w.drew.freeze ⟨g,0,none⟩ l.length:=by
 have hl0:l.length≠0:=by simpa using h0
 have c1:w.drew.cell? ⟨b,1,none⟩=some (.slice (some ⟨g,0,none⟩) l.length cap):=by
  have:w.drew.heap[b]? = some (.cells #[p,.slice (some ⟨g,0,none⟩) l.length cap] 212 (0,0)):=Nr
  rw[Lib.cell_of_heap this]; rfl
 have hSD:(Builtin.unsafeSliceData_ #[210] 280 #[.slice (some ⟨g,0,none⟩) l.length cap]).run Tryz.prog w.drew=.ok (.pointer (some ⟨g,0,none⟩)) w.drew :=
  Lib.run_unsafeSliceData_row _ _ _ _ _ _ (by omega)
 have hUS:(Builtin.unsafeString_ #[280,3] 9 #[.pointer (some ⟨g,0,none⟩),.int .i64 l.length]).run Tryz.prog w.drew=.ok (.string ⟨l.toArray⟩) (w.drew.freeze ⟨g,0,none⟩ l.length):=by
  refine Lib.run_unsafeString_row w.drew 280 3 9 5 eM.pb eM.c5 g cur.size (by have Of:w.drew.heap[g]? = some (.cells cur 5 (0,0)):=hg; simp[World.shape?,Of]) l h0 (by omega) (by omega) ?_
  intro j x hx
  have e:(⟨g,0,none⟩:Addr).add j=⟨g,j,none⟩:=by unfold Addr.add; split<;>simp_all
  rw[e]
  exact jr j x hx
 have mixed:Tryz.prog.follows .mixedOrders=true:=eM.mixed
 go_enter Tryz.func126,Tryz.ntmps126
 go_wp2
 go_region_o
 all_goals (go_wp2; go_ret; exact⟨rfl,rfl⟩)
theorem eM.Pb(b g o:Nat)(p:Value)(cur:Array Value)(w:World)(Nr:w.heap[b]? = some (.cells #[p,.slice (some ⟨g,o,none⟩) 0 0] 212 (0,0)))(hg:w.heap[g]? = some (.cells cur 5 (0,0))) :
  Calls Tryz.prog 126 #[.pointer (some ⟨b,0,none⟩)] w λe w'=>e=.returned (.string ⟨#[]⟩)/\w'=w.drew.alloc (.view ⟨g,o,none⟩ 5):=by
 have hUS:=eM.Fh
 have qc:b<w.heap.size:=by
  rcases Nat.lt_or_ge b w.heap.size with h' | h'
  ·exact h'
  ·simp[Array.getElem?_eq_none h']at Nr
 have c1:w.drew.cell? ⟨b,1,none⟩=some (.slice (some ⟨g,o,none⟩) 0 0):=by
  have:w.drew.heap[b]? = some (.cells #[p,.slice (some ⟨g,o,none⟩) 0 0] 212 (0,0)):=Nr
  rw[Lib.cell_of_heap this]; rfl
 have hSD:(Builtin.unsafeSliceData_ #[210] 280 #[.slice (some ⟨g,o,none⟩) 0 0]).run Tryz.prog w.drew=.ok (.pointer (some ⟨w.drew.heap.size,0,none⟩)) (w.drew.alloc (.view ⟨g,o,none⟩ 5)) :=
  Lib.run_unsafeSliceData_zero w.drew _ _ 5 eM.pb ⟨g,o,none⟩ 0 (5,cur.size) (by have Of:w.drew.heap[g]? = some (.cells cur 5 (0,0)):=hg; simp[World.shape?,Of])
 have c2:(w.drew.alloc (.view ⟨g,o,none⟩ 5)).cell? ⟨b,1,none⟩=some (.slice (some ⟨g,o,none⟩) 0 0):=by
  have:(w.drew.alloc (.view ⟨g,o,none⟩ 5)).heap[b]? = _:=(Lib.alloc_old w.drew _ b qc).trans Nr
  rw[Lib.cell_of_heap this]; rfl
 have c3:(w.alloc (.view ⟨g,o,none⟩ 5)).drew.cell? ⟨b,1,none⟩=some (.slice (some ⟨g,o,none⟩) 0 0):=c2
 have c0:w.cell? ⟨b,1,none⟩=some (.slice (some ⟨g,o,none⟩) 0 0):=c1
 have mixed:Tryz.prog.follows .mixedOrders=true:=eM.mixed
 go_enter Tryz.func126,Tryz.ntmps126
 go_wp2
 go_region_o
 all_goals (go_wp2; go_ret; exact⟨rfl,rfl⟩)
end
end Go.Proofs

namespace Go.AM.Lf
open Go.Proofs
theorem Sz:zE Tryz.prog 126 ⟨[.ptr],D5,[],⟨[Ms 0,.v (.st [.op 0 212,.un])],[],[.var (.st [.op 0 212,.un]),.dead]⟩,1,λx=>tX x.1 x.2⟩:=Bm (P:=Tryz.prog) (g:=126) (t:=212) (enters_of Tryz.func126 (by kernel_rfl) rfl) eM.nil eM.room eM.full eM.Pb
def t73:=t72.s Sz
def YS:zi:=Lz [.cell 0 1 (.int .u8)] [Mr 1 zF,Mm 13 (.sl zr),Mi 14] ⟨[Mi 15,.v rB,.a (.int .u8)],[(3,.ptr 0 0)],il⟩ [⟨.exit 0,pP⟩] λp s=>eX p.1 p.2.1 p.2.2 s
def GV:zi:=Lz [] [Mr 1 zF,Mm 29 (.sl zB),Mi 30] ⟨[Mi 31,.v rB,.a (.int .u8)],[(3,.ptr 0 0)],il⟩ [⟨.exit 2,pP⟩] λp s=>fD p.1 p.2.1 p.2.2 s
def Gb:zi:=Lz [] [Mr 1 zF,Mi 48] ⟨[Mi 49,.v rB,.a (.int .u8)],[(3,.ptr 0 0)],il⟩ [⟨.exit 4,pP⟩] λp s=>fk p.1 p.2 s
def YL:zi:=Lz [] [Mm 57 (.sl zH),Mi 58] ⟨[Mi 59,.v rB,.a (.int .u8)],[(3,.ptr 0 0)],il⟩ [⟨.exit 6,pP⟩] λp s=>fj p.1 p.2 s
def Di:Hints:=Hz [(0,YS),(2,GV),(4,Gb),(6,YL)] [(3,6,.flat [Ms 6])] []
theorem LG:LO Tryz.f137 YS 0:=lk t73 (rz [1]) Di [] z8
theorem N2:LO Tryz.f137 GV 2:=lk t73 (rz [1]) Di [] z8
theorem IM:LO Tryz.f137 Gb 4:=lk t73 (rz [1]) Di [] z8
theorem ID:LO Tryz.f137 YL 6:=lk t73 (rz [1]) Di [] z8
theorem z3t:ze Pz 137 ⟨[.ty zF],[.str],λx=>eW x⟩:=zP t73 (rz [1]) Di Tryz.func137 [0,2,4,6] (zl rfl LG (zl rfl N2 (zl rfl IM (zl rfl ID z8))))
def t74:=t73.d z3t
theorem z8d:ze Pz 93 ⟨[.ty zF],[.bool],λx=>mR x⟩:=zP t74 (rz [1]) hN Tryz.func93 [] z8
def t75:=t74.d z8d
def Dm:zi:=Lz [.slot 3 .str] [Mr 1 zF,Mm 17 (.sl zr),Mi 18] ⟨[Mi 19,.a .str],[(3,.cur 0 .str)],yu⟩ [⟨.exit 0,ZB⟩] λp s=>fU p.1 p.2.1 p.2.2 s
def CW:zi:=Lz [] [Mr 1 zF,Mm 30 (.sl zB),Mi 31] ⟨[Mi 32,.a .str],[(3,.cur 0 .str)],yu⟩ [⟨.exit 2,ZB⟩] λp s=>eQ p.1 p.2.1 p.2.2 s
def CB:zi:=Lz [] [Mr 1 zF,Mm 43 (.sl zO),Mi 44] ⟨[Mi 45,.a .str],[(3,.cur 0 .str)],yu⟩ [⟨.exit 4,ZB⟩] λp s=>fZ p.1 p.2.1 p.2.2 s
def DR:zi:=Lz [] [Mr 1 zF,Mm 56 (.sl zw),Mi 57] ⟨[Mi 58,.a .str],[(3,.cur 0 .str)],yu⟩ [⟨.exit 6,ZB⟩] λp s=>fe p.1 p.2.1 p.2.2 s
def EE:zi:=Lz [] [Mr 1 zF,Mm 69 (.sl zH),Mi 70] ⟨[Mi 71,.a .str],[(3,.cur 0 .str)],yu⟩ [⟨.exit 8,ZB⟩] λp s=>fM p.1 p.2.1 p.2.2 s
def Y8:zi:=Lz [] [Mm 82 (.sl zM),Mi 83] ⟨[Mi 84,.a .str],[(3,.cur 0 .str)],yu⟩ [⟨.exit 10,ZB⟩] λp s=>fa p.1 p.2 s
def Rl:Hints:=Hz [(0,Dm),(2,CW),(4,CB),(6,DR),(8,EE),(10,Y8)] [] []
theorem Ry:LO Tryz.f95 Dm 0:=lk t75 (rz [1]) Rl [] z8
theorem P8:LO Tryz.f95 CW 2:=lk t75 (rz [1]) Rl [] z8
theorem PI:LO Tryz.f95 CB 4:=lk t75 (rz [1]) Rl [] z8
theorem PB:LO Tryz.f95 DR 6:=lk t75 (rz [1]) Rl [] z8
theorem PZ:LO Tryz.f95 EE 8:=lk t75 (rz [1]) Rl [] z8
theorem ND:LO Tryz.f95 Y8 10:=lk t75 (rz [1]) Rl [] z8
theorem z6z:ze Pz 95 ⟨[.ty zF],[(.sl .str)],λx=>pZ x⟩:=zP t75 (rz [1]) Rl Tryz.func95 [0,2,4,6,8,10] (zl rfl Ry (zl rfl P8 (zl rfl PI (zl rfl PB (zl rfl PZ (zl rfl ND z8))))))
def t76:=t75.d z6z
end Go.AM.Lf
namespace Go.Proofs
section
open Go.RowKit Go.Maps Go.WideMaps
attribute [local go_sem] Oper.semAt_some
set_option maxRecDepth 100000
set_option maxHeartbeats 2000000
/-- What a map reads as when texts,all different,came. -/
def TW.Seen(D:DataW Unit)(l:List (List UInt8)):Prop:=IsMap D/\∀ s:List UInt8,D.atKey (.string s) (.lit (.int .i64 0))=.lit (.int .i64 (if s∈l then 1 else 0))
theorem TW.z16:TW.Seen (.map []) []:=⟨⟨_,rfl⟩,λs=>by simp only[List.not_mem_nil,if_false]; rfl⟩
theorem TW.step{D:DataW Unit}{l:List (List UInt8)}{s:List UInt8}(h:TW.Seen D l)(hk:WideAt.IsKeyLit (.string s)):TW.Seen (D.put (.string s) (.lit (.int .i64 1))) (l++[s]):=by
 refine⟨h.1.put _ _,λx => ?_⟩
 by_cases c:x=s
 ·subst c
  rw[atKey_put_same h.1 hk,if_pos (by simp)]
 ·rw[atKey_put_other (λe=>c (by cases e; rfl)),h.2 x]
  congr 3
  simp[c]
theorem TW.cOf{D:DataW Unit}{l:List (List UInt8)}{s:List UInt8}{c:Int}(h:TW.Seen D l)(BX:D.atKey (.string s) (.lit (.int .i64 0))=.lit (.int .i64 c)):c=if s∈l then 1 else 0:=by
 rw[h.2 s]at BX
 cases BX; rfl
theorem TW.key:Keyed Tryz.prog 9:=string_keyed Tryz.underlying9
theorem TW.KF(w:World):(zeroValue 3).run Tryz.prog w=.ok (.int .i64 0) w:=by kernel_rfl
theorem TW.zero(a:Option Addr)(cap:Nat)(w:World):Calls Tryz.prog 94 #[.slice a 0 cap] w λe w'=>e=.returned (.tuple #[.string ⟨#[]⟩,.bool false])/\Below w.heap.size w w':=by
 have hmm := @run_makeMap Tryz.prog
 go_enter Tryz.func94,Tryz.ntmps94
 go_wp2
 refine wp_loop_rounds 1 ?_
 rw[rounds_succ]
 go_wp2
 go_ret2
 exact⟨rfl,(Below.refl _ _).alloc (Nat.le_refl _) _⟩
theorem TW.more(b off cap:Nat)(l:List (List UInt8))(w:World)(OW:l.length*16<=140737488351232)(hb:b<w.heap.size)
  (hc:∀ j (hj:j<l.length),w.cell? ⟨b,off+j,none⟩=some (.string ⟨l[j].toArray⟩)) (vb:∀ s∈l,s.length<=maxLen) :
  Calls Tryz.prog 94 #[.slice (some ⟨b,off,none⟩) l.length cap] w λe w'=>e=.returned (.tuple #[.string ⟨(Go.AM.Lf.Cf [] l).1.toArray⟩,.bool (Go.AM.Lf.Cf [] l).2])/\Below w.heap.size w w':=by
 have hmm := @run_makeMap Tryz.prog
 go_enter Tryz.func94,Tryz.ntmps94
 go_wp2
 go_loopw [10] (λi wr=>∃ (k:Nat) (D:DataW Unit),k<=l.length/\i=.int .i64 k/\wr.ownsMap Tryz.prog 9 (plainElem Tryz.prog 3) w.heap.size k D/\TW.Seen D (l.take k)/\Go.AM.Lf.Cf [] l=Go.AM.Lf.Cf (l.take k) (l.drop k)/\Below w.heap.size w wr)
  (λi _=>l.length-(intOf i).toNat)
 case atStart=>exact⟨0,.map [],Nat.zero_le _,rfl,World.ownsMap_made _ _ _ _,TW.z16,rfl,(Below.refl _ _).alloc (Nat.le_refl _) _⟩
 case round =>
  obtain⟨k,D,hk,rfl,hown,U6,S2,KW⟩:=hrel
  obtain⟨s,hs⟩:∃ s:List UInt8,s=l.getD k []:=⟨_,rfl⟩
  have hse:∀ qc:k<l.length,s=l[k]:=λqc=>by rw[hs]; simp[qc]
  have hcx:k<l.length->wr.cell? ⟨b,off+k,none⟩=some (.string ⟨s.toArray⟩):=λqc=>by rw[hse qc]; exact(KW.cell (by exact hb)).trans (hc k qc)
  have hlen:s.length<=maxLen:=by
   by_cases qc:k<l.length
   ·rw[hse qc]; exact vb _ (List.getElem_mem qc)
   ·rw[hs]; simp[qc]
  have K6:keyOf Tryz.prog 9 (.string ⟨s.toArray⟩)=some (.string s):=keyOf_string_mk Tryz.underlying9 (by exact hlen)
  have S0:WideAt.IsKeyLit (.string s):=TW.key.key K6
  have Uh:∀ qc:k<l.length,l.drop k=s::l.drop (k+1):=λqc=>by rw[hse qc]; exact List.drop_eq_getElem_cons qc
  have QF:∀ qc:k<l.length,l.take (k+1)=l.take k++[s]:=λqc=>by rw[hse qc]; exact List.take_succ_eq_append_getElem qc
  clear hse hs
  by_cases XC:s∈l.take k
  ·have OM:∀ qc:k<l.length,Go.AM.Lf.Cf [] l=(s,true):=λqc=>by rw[S2,Uh qc]; unfold Go.AM.Lf.Cf; rw[if_pos XC]
   go_wp2_with (first
    | (at_lookup; refine wpList_lookup_own_int _ rfl _ _ 227 rfl 9 3 .i64 TW.key Tryz.underlying227 Tryz.underlying3 (TW.KF _) w.heap.size k _ rfl hown _ _ rfl K6 ?_; intro c BX hwc; obtain rfl:c=1:=by rw[TW.cOf U6 BX,if_pos XC])
    | (at_mapUpdate; refine wpList_mapUpdate_own _ rfl _ _ _ 227 rfl 9 3 TW.key Tryz.underlying227 _ w.heap.size k _ rfl hown (by unfold maxLen; omega) _ _ _ rfl rfl K6 _ [] (plainElem_int (a:=2) Tryz.underlying3 rfl) ?_; intro w1 YC US)
    | (at_lookup; refine wpList_lookup_own_int _ rfl _ _ 227 rfl 9 3 .i64 TW.key Tryz.underlying227 Tryz.underlying3 (TW.KF _) w.heap.size (k+1) _ rfl YC _ _ rfl K6 ?_; intro c2 EN z7d; obtain rfl:c2=2:=by rw[atKey_put_same U6.1 S0]at EN; cases EN; rfl)
    | go_in)
   ·have qc:k<l.length:=by assumption
    go_ret2
    rw[OM qc]
    exact⟨rfl,KW.grown US KW.size (λj hj=>by cases hj; exact Nat.le_refl _)⟩
   ·have:k=l.length:=by omega
    subst this
    rw[List.drop_length]at S2
    go_ret2
    rw[S2]
    exact⟨rfl,KW⟩
  ·have hgo:∀ qc:k<l.length,Go.AM.Lf.Cf [] l=Go.AM.Lf.Cf (l.take (k+1)) (l.drop (k+1)):=λqc=>by
    rw[S2,Uh qc,QF qc]
    conv=>lhs; unfold Go.AM.Lf.Cf
    rw[if_neg XC]
   go_wp2_with (first
    | (at_lookup; refine wpList_lookup_own_int _ rfl _ _ 227 rfl 9 3 .i64 TW.key Tryz.underlying227 Tryz.underlying3 (TW.KF _) w.heap.size k _ rfl hown _ _ rfl K6 ?_; intro c BX hwc; obtain rfl:c=0:=by rw[TW.cOf U6 BX,if_neg XC])
    | (at_mapUpdate; refine wpList_mapUpdate_own _ rfl _ _ _ 227 rfl 9 3 TW.key Tryz.underlying227 _ w.heap.size k _ rfl hown (by unfold maxLen; omega) _ _ _ rfl rfl K6 _ [] (plainElem_int (a:=1) Tryz.underlying3 rfl) ?_; intro w1 YC US)
    | (at_lookup; refine wpList_lookup_own_int _ rfl _ _ 227 rfl 9 3 .i64 TW.key Tryz.underlying227 Tryz.underlying3 (TW.KF _) w.heap.size (k+1) _ rfl YC _ _ rfl K6 ?_; intro c2 EN z7d; obtain rfl:c2=1:=by rw[atKey_put_same U6.1 S0]at EN; cases EN; rfl)
    | go_in)
   ·have qc:k<l.length:=by assumption
    go_roundw
    case rel=>exact⟨k+1,_,by omega,by go_num,YC,(QF qc).symm▸TW.step U6 S0,hgo qc,KW.grown US KW.size (λj hj=>by cases hj; exact Nat.le_refl _)⟩
    case measure=>simp[intOf]; omega
   ·have:k=l.length:=by omega
    subst this
    rw[List.drop_length]at S2
    go_ret2
    rw[S2]
    exact⟨rfl,KW⟩
end
end Go.Proofs
namespace Go.AM.Lf
open Go.Proofs
theorem z7e:ze Tryz.prog 94 ⟨[.ty (.sl .str)],[.str,.bool],λx=>pF x⟩:=by
 refine xc Tryz.func94 (by kernel_rfl) rfl λκ (l:List zh) zp y hy hI ha => ?_
 obtain⟨⟨h0,h1⟩,hy⟩:=hy
 cases hy
 obtain⟨v0,r,rfl,rU,ha⟩:=zU.cons_inv (show zU κ [.zj (.sl .str) l] zp from ha)
 rw[ha.zG]
 have hv:=RD.xo (κ:=κ) (τ:=.sl .str) (x:=l) rU rfl
 rcases hv.dr with⟨rfl,a,e⟩ | ⟨blk,off,cap,g,e,qI,qR,hg,hc⟩
 ·cases e
  refine(TW.zero a 0 κ.w).mono ?_
  rintro e w' ⟨rfl,hB⟩
  exact⟨hB,λ_=>⟨_,rfl,RD.L4 RD.str RD.bool⟩⟩
 ·cases e
  refine(TW.more blk off cap l κ.w h0 (hI.ux blk qI) (λj hj => ?_) h1).mono ?_
  ·have h3:=hc j hj 0 (.string ⟨l[j].toArray⟩) (by rw[(hg j hj).qO]; rfl)
   simpa[Ty.size]using h3
  ·rintro e w' ⟨rfl,hB⟩
   exact⟨hB,λ_=>⟨_,rfl,RD.L4 RD.str RD.bool⟩⟩
end Go.AM.Lf

namespace Go.AM.Lf
open Go.Proofs
def t77:=t76.d z7e
theorem Tj:ze Pz 141 ⟨[.ty zr,.rp .str],[.bool],λx=>xd x.1 x.2⟩:=zP t77 (rz [2]) hN Tryz.func141 [] z8
def t78:=t77.d Tj
def VW:zi:=Lz [] [Mm 0 (.sl zr),.s 1 (.zK 141 [.rp .str]),Mi 7] jk [xL,bD] λp s=>qg p.1 (λz0=>xd z0 p.2.1) p.2.2 s
def NZ:Hints:=Hz [(0,VW)] [] []
theorem DN:LO Tryz.f75 VW 0:=lk t78 rn NZ [] z8
theorem EB:ze Pz 75 ⟨[.ty (.sl zr),.zK 141 [.rp .str]],[i64],λx=>zY x.1 (λz0=>xd z0 x.2)⟩:=zP t78 rn NZ Tryz.func75 [0] (zl rfl DN z8)
def t79:=t78.d EB
theorem KJ:ze Pz 140 ⟨[.ty (.sl zr),.zK 141 [.rp .str]],[.bool],λx=>qx x.1 (λz0=>xd z0 x.2)⟩:=zP (t79.d EB) rn hN Tryz.func140 [] z8
def t80:=t79.d KJ
theorem z4g:ze Pz 139 ⟨[.ty .str,.rp zF],[.bool],λx=>vp x.1 x.2⟩:=zP (t80.d KJ) (rz [2]) hN Tryz.func139 [] z8
def t81:=t80.d z4g
def Hf:zi:=Lz [] [Mm 0 (.sl .str),.s 1 (.zK 139 [.rp zF]),Mi 7] jk [xL,bD] λp s=>qy p.1 (λz0=>vp z0 p.2.1) p.2.2 s
def Ti:Hints:=Hz [(0,Hf)] [] []
theorem IT:LO Tryz.f138 Hf 0:=lk t81 rn Ti [] z8
theorem z2u:ze Pz 138 ⟨[.ty (.sl .str),.zK 139 [.rp zF]],[i64],λx=>qd x.1 (λz0=>vp z0 x.2)⟩:=zP t81 rn Ti Tryz.func138 [0] (zl rfl IT z8)
def t82:=t81.d z2u
def FH:zi:=Lz [.slot 4 .str] [Mr 1 zF,Mm 11 (.sl zO),Mi 12] ⟨[Mi 13,.a .str],[(4,.cur 0 .str)],yu⟩ [⟨.exit 0,CA⟩] λp s=>gN p.1 p.2.1 p.2.2 s
def CE:zi:=Lz [] [Mr 1 zF,Mm 24 (.sl zH),Mi 25] ⟨[Mi 26,.a .str],[(4,.cur 0 .str)],yu⟩ [⟨.exit 2,CA⟩] λp s=>h9 p.1 p.2.1 p.2.2 s
def h96:Hints:=Hz [(0,FH),(2,CE)] [] []
theorem OU:LO Tryz.f96 FH 0:=lk t82 (rz [1]) h96 [] z8
theorem Pv:LO Tryz.f96 CE 2:=lk t82 (rz [1]) h96 [] z8
theorem z5k:ze Pz 96 ⟨[.ty zF],[.str,.bool],λx=>ea x⟩:=zP t82 (rz [1]) h96 Tryz.func96 [0,2] (zl rfl OU (zl rfl Pv z8))
def t83:=t82.d z5k
def YH:zi:=Lz [] [Mm 0 (.sl .str),Ms 1,Mi 7] jk [xL,bD] λp s=>uZ p.1 p.2.1 p.2.2 s
def z2V:Hints:=Hz [(0,YH)] [] []
theorem L7:LO Tryz.f213 YH 0:=lk t83 rn z2V [] z8
theorem z3u:ze Pz 213 ⟨[.ty (.sl .str),.ty .str],[i64],λx=>qu x.1 x.2⟩:=zP t83 rn z2V Tryz.func213 [0] (zl rfl L7 z8)
def t84:=t83.d z3u
theorem z4a:ze Pz 145 ⟨[.ty (.sl .str),.ty .str],[.bool],λx=>qi x.1 x.2⟩:=zP t84 rn hN Tryz.func145 [] z8
def t85:=t84.d z4a
abbrev Bg:=qz.den Ux->T (qz.den lA)
abbrev RE(F:Bg):=zE Pz 212 ⟨[.cur,.any],Ux,[],lA,1,F⟩
def z3n(jO:Bg)(p9:RE jO):Tb:=t85.s p9
def YR(jO:Bg):zi:=Lz [] [Mm 23 (.sl .expr),Mi 24] Fs [⟨.exit 0,lA⟩] λp s=>en (λy0 y1=>jO (y0,y1)) p.1 p.2 s
def z0O(jO:Bg):Hints:=Hz [(0,YR jO)] [(0,1,.ways [EG]),(3,1,.ways [⟨.normal,lA⟩])] []
theorem Mv(jO:Bg)(p9:RE jO):LO Tryz.f212 (YR jO) 0:=lk (z3n jO p9) (rz [3]) (z0O jO) [] z8
theorem MA(jO:Bg)(p9:RE jO):zE Pz 212 ⟨[.cur,.any],Ux,[],lA,1,λx=>bo (λy0 y1=>jO (y0,y1)) x.1 x.2⟩:=k6 (z3n jO p9) (rz [3]) (z0O jO) Tryz.func212 [0] (zl rfl (Mv jO p9) z8)
theorem O5:zE Pz 212 ⟨[.cur,.any],Ux,[],lA,1,λx=>mI x.1 x.2⟩:=WG (λjO x=>bo (λy0 y1=>jO (y0,y1)) x.1 x.2) (λx=>rfl) (λjO p9=>MA jO p9)
def t86:=t85.s O5
def D3:Tb:=t86.s O5
def QN:zi:=Lz [] [Mm 23 (.sl .expr),Mi 24] Fs [⟨.exit 0,lA⟩] λp s=>cF p.1 p.2 s
def DL:Hints:=Hz [(0,QN)] [(0,1,.ways [EG]),(3,1,.ways [⟨.normal,lA⟩])] []
theorem Hv:LO Tryz.f212 QN 0:=lk D3 (rz [3]) DL [] z8
theorem Yb:zE Pz 212 ⟨[.cur,.any],Ux,[.slot 0 .str],lA,1,λx=>lu x.1 x.2⟩:=k6 D3 (rz [3]) DL Tryz.func212 [0] (zl rfl Hv z8)
def t87:=t86.s Yb
theorem Sn:ze Pz 143 ⟨[.ty .expr],[(.sl .str)],λx=>y5 x⟩:=zP (t87.s Yb) (rz [1]) hN Tryz.func143 [] z8
def t88:=t87.d Sn
end Go.AM.Lf
namespace Go.Proofs
section
open Go.RowKit Go.Maps
attribute [local go_sem] Oper.semAt_some
set_option maxRecDepth 100000
set_option maxHeartbeats 2000000
theorem CC.info:(Tryz.prog.info? 9).map (λi=>(i.zero,i.size,i.bytes))=some (some (.string ⟨#[]⟩),1,16):=by kernel_rfl
theorem CC.wp{ops:Array Oper}{rest:List Oper}{o:Oper}{a:Act}{Q:Exit->Act->World->Prop}(w:World)(hgd:o.guard=Option.none)(s x:Operand)(t u:TypeId)
  (ho:o.op=.call { callee:=.builtin .append,args := #[s,x],argTypes := #[t,u] }) (v':Value) (w':World)
  (hr:(Builtin.append_ #[t,u] o.type #[a.eval s,a.eval x]).run Tryz.prog w=.ok v' w') (h:wpList Tryz.prog ops Q rest (a.put o.dst v') w'):wpList Tryz.prog ops Q (o::rest) a w :=
 wpList_plain hgd λ_ hK=>by
  unfold Oper.wp execOp
  simp only[ho,resolve,invoke,builtin,Sem.run_bind,Sem.run_pure,Result.andThen_ok,List.map_toArray,List.map_cons,List.map_nil,hr]
  exact hK _ _ h
/-- An append of nothing. -/
theorem CC.UE{base:Option Addr}{n cap:Nat}{a:Option Addr}{ty:TypeId}(w:World)(qR:n<=cap) :
  (Builtin.append_ #[31,31] ty #[.slice base n cap,.slice a 0 0]).run Tryz.prog w=.ok (.slice base n cap) w:=by
 obtain⟨i0,hi,UN,hz1,S6⟩:=info_parts CC.info
 have hu:=Tryz.underlying31
 cases a<;>cases base<;>simp[Builtin.append_,run_underlying hu,sizeOf,typeInfo,hi,Builtin.lenOf,Builtin.firstCells,loadCells,loadCellsFrom,storeCells,qR]
theorem CC.V2{n:Nat}{ty:TypeId}(w:World)(hn:0<n)(hb:n*16<=140737488355328) :
  ∃ cs:Array Value,cs.size=grownCap w n 0 9/\(Builtin.append_ #[31,3] ty #[.slice Option.none 0 0,.int .i64 (n:Int)]).run Tryz.prog w=.ok (.slice (some ⟨w.heap.size,0,Option.none⟩) n (grownCap w n 0 9)) (w.drew.alloc (.cells cs 9)):=by
 obtain⟨i0,hi,UN,hz1,S6⟩:=info_parts CC.info
 have hu:=Tryz.underlying31
 have he:=Tryz.underlying3
 have w1:IntKind.i64.wrap (n:Int)=n:=IntWalk.i64_in _ (by omega)
 have h5:IntKind.i64.max=9223372036854775807:=by decide
 have ai:∀ w,(Go.asInt (.int .i64 (n:Int))).run Tryz.prog w=.ok (n:Int) w:=λw=>by simp[Go.asInt,asIntOf]
 have g1:¬ ((n:Int)<0):=by omega
 have g2:¬ ((281474976710656:Int)<(n:Int)*16):=by omega
 have g3:¬ (n=0):=by omega
 have g4:¬ (281474976710656<Builtin.nextslicecap n 0*16):=by
  have:=growslice_fits (bytes:=16) (need:=n) (old:=0) (by omega) (by omega)
  omega
 have hge:=grownCap_ge w n 0 9
 refine⟨Builtin.zeroCells (Value.string ⟨#[]⟩).cells n++Builtin.zeroCells (Value.string ⟨#[]⟩).cells (grownCap w n 0 9-n),?_,?_⟩
 ·simp[Builtin.zeroCells,Value.cells]; omega
 ·simp[Builtin.append_,run_underlying hu,run_underlying he,sizeOf,typeInfo,zeroValue,hi,UN,hz1,S6,ai,w1,Builtin.lenOf,Builtin.firstCells,Question.forced,newRow,grownCap,g1,g2,g3,g4]
  intro h
  omega
theorem CC.grow(n:Nat)(w:World)(hb:n*16<=140737488355328):Calls Tryz.prog 211 #[.slice Option.none 0 0,.int .i64 (n:Int)] w λe w'=>∃ v,e=.returned v/\w'.ownsRow w.heap.size 9 1 v 0 []/\Below w.heap.size w w':=by
 go_enter Tryz.func211,Tryz.ntmps211
 by_cases hn:0<n
 ·obtain⟨cs,lF,hr⟩:=CC.V2 (ty:=31) w hn hb
  go_wp2_with (first
   | (at_builtin; refine CC.wp _ rfl _ _ _ _ rfl _ _ hr ?_)
   | go_in)
  go_ret
  refine⟨_,rfl,⟨rfl,.inr ⟨w.heap.size,_,cs,rfl,Nat.le_refl _,by show(w.heap.push (Obj.cells cs 9))[w.heap.size]? = _; exact Array.getElem?_push_size,Nat.zero_le _,grownCap_le_maxLen w n 0 9 (by unfold maxLen; omega),by rw[lF,Nat.mul_one],rfl⟩⟩,?_⟩
  have hB:Below w.heap.size w (w.alloc (.cells cs 9)):=(Below.refl _ _).alloc (Nat.le_refl _) _
  exact⟨hB.os,hB.tape,hB.output,hB.size,hB.block⟩
 ·obtain rfl:n=0:=by omega
  go_wp2
  go_ret
  exact⟨_,rfl,World.ownsRow_nil _ _ _ _,Below.refl _ _⟩
/-- The texts of a slice whose block lies below n₀. -/
def CC.Strs(n₀:Nat)(W:World)(sv:Value)(l:List (List UInt8)):Prop:=(∃ a,sv=.slice a 0 0/\l=[])\/∃ b off cap,sv=.slice (some ⟨b,off,Option.none⟩) l.length cap/\b<n₀/\∀ j (hj:j<l.length),W.cell? ⟨b,off+j,Option.none⟩=some (.string ⟨l[j].toArray⟩)
def CC.cells(l:List (List UInt8)):List Value:=l.map λs=>.string ⟨s.toArray⟩
/-- How many texts the first k slices have; which. -/
def CC.fl(ls:List (List (List UInt8)))(k:Nat):Nat:=(ls.take k).flatten.length
def CC.out(ls:List (List (List UInt8)))(k:Nat):List Value:=CC.cells (ls.take k).flatten
def CC.at(ls:List (List (List UInt8)))(k:Nat):List (List UInt8):=ls.getD k []
theorem CC.take_succ{ls:List (List (List UInt8))}{k:Nat}(hk:k<ls.length):(ls.take (k+1)).flatten=(ls.take k).flatten++CC.at ls k:=by
 rw[List.take_succ_eq_append_getElem hk,List.flatten_append,List.flatten_singleton]
 simp[CC.at,hk]
theorem CC.MB{ls:List (List (List UInt8))}{k:Nat}(hk:k<ls.length):CC.fl ls (k+1)=CC.fl ls k+(CC.at ls k).length:=by
 unfold CC.fl; rw[CC.take_succ hk,List.length_append]
theorem CC.Eh{ls:List (List (List UInt8))}{k:Nat}(hk:k<ls.length):CC.out ls (k+1)=CC.out ls k++CC.cells (CC.at ls k):=by
 unfold CC.out CC.cells; rw[CC.take_succ hk,List.map_append]
theorem CC.T8(ls:List (List (List UInt8)))(k:Nat):CC.fl ls k<=CC.fl ls ls.length:=by
 unfold CC.fl
 rw[List.take_length]
 conv=>rhs; rw[<- List.take_append_drop k ls,List.flatten_append,List.length_append]
 omega
theorem CC.concat(b off cap L:Nat)(svs:Nat->Value)(ls:List (List (List UInt8)))(w:World)(hL:L=ls.length)(OW:L*24<=140737488351232)(hb:b<w.heap.size)
  (hc:∀ j,j<L->w.cell? ⟨b,off+j,Option.none⟩=some (svs j)) (hs:∀ j,j<L->CC.Strs w.heap.size w (svs j) (CC.at ls j)) (z5q:CC.fl ls L*16<=140737488355328) :
  Calls Tryz.prog 142 #[.slice (some ⟨b,off,Option.none⟩) L cap] w λe w'=>∃ v,e=.returned v/\w'.ownsRow w.heap.size 9 1 v (CC.fl ls L) (CC.out ls L)/\Below w.heap.size w w':=by
 obtain⟨i0,hi,UN,hz1,S6⟩:=info_parts CC.info
 have pO:∀ k,k<L->CC.fl ls (k+1)=CC.fl ls k+(CC.at ls k).length:=λk hk=>CC.MB (by omega)
 have Sv:∀ k,k<L->CC.out ls (k+1)=CC.out ls k++CC.cells (CC.at ls k):=λk hk=>CC.Eh (by omega)
 have hle:∀ k,CC.fl ls k<=CC.fl ls L:=λk=>hL▸CC.T8 ls k
 have hf0:CC.fl ls 0=0:=rfl
 have ho0:CC.out ls 0=[]:=rfl
 generalize CC.fl ls=fl at *
 generalize CC.out ls=out at *
 generalize CC.at ls=at_ at *
 clear hL ls
 generalize hM:fl L=M at *
 go_enter Tryz.func142,Tryz.ntmps142
 go_wp2
 go_loopw [3,11] (λsz i wr=>∃ k:Nat,k<=L/\i=.int .i64 k/\sz=.int .i64 (fl k:Int)/\w=wr) (λ_ i _=>L-(intOf i).toNat)
 case atStart=>exact⟨0,Nat.zero_le _,rfl,by rw[hf0]; rfl,rfl⟩
 case round =>
  obtain⟨k,hk,rfl,rfl,rfl⟩:=hrel
  by_cases qc:k<L
  ·have jr:=hc k qc
   have hS:=hs k qc
   have h1:=pO k qc
   have h2:=hle (k+1)
   have hSq:∃ a c,svs k=.slice a (at_ k).length c:=by
    rcases hS with⟨a,e,he⟩ | ⟨b1,o1,c1,e,_,_⟩
    ·exact⟨a,0,by rw[e,he]; rfl⟩
    ·exact⟨_,c1,e⟩
   obtain⟨a1,c1,e1⟩:=hSq
   rw[e1]at jr
   clear hc hs hS pO Sv hle e1
   generalize hq:(at_ k).length=q at *
   generalize hm:fl k=m at *
   generalize PM:fl (k+1)=m' at *
   go_wp2
   go_roundw
   case rel=>exact⟨k+1,by omega,by go_num,by rw[PM,h1]; go_num,by first | rfl | trivial⟩
   case measure=>simp[intOf]; omega
  ·have S0:k=L:=by omega
   subst S0
   rw[hM]
   have hg:=CC.grow M w z5q
   go_wp2_with (first
    | (go_at_call 211; refine hg.mono ?_; rintro e w1 ⟨v1,rfl,gD,hB⟩)
    | go_in)
   clear hg
   go_loopw [6,27] (λo i wr'=>∃ j:Nat,j<=k/\i=.int .i64 j/\wr'.ownsRow w.heap.size 9 1 o (fl j) (out j)/\Below w.heap.size w wr') (λ_ i _=>k-(intOf i).toNat)
   case atStart=>exact⟨0,Nat.zero_le _,rfl,by rw[hf0,ho0]; exact gD,hB⟩
   case round =>
    obtain⟨j,hj,rfl,gD,hB⟩:=hrel
    by_cases K5:j<k
    ·have jr:wr.cell? ⟨b,off+j,Option.none⟩=some (svs j):=(hB.cell (p:=⟨b,off+j,Option.none⟩) hb).trans (hc j K5)
     have h1:=pO j K5
     have h2:=hle (j+1)
     have h3:=Sv j K5
     rcases hs j K5 with⟨a,e,he⟩ | ⟨b1,o1,c1,e,KU,lF⟩
     ·rw[e]at jr
      rw[he]at h1 h3
      have e1:fl (j+1)=fl j:=by rw[h1]; rfl
      have e2:out (j+1)=out j:=by rw[h3]; simp[CC.cells]
      have hv:∃ base n cap,u6=.slice base n cap/\n<=cap:=by
       rcases gD.2 with⟨rfl,_⟩ | ⟨g,rH,cur,rfl,_,_,qR,_⟩
       ·exact⟨_,_,_,rfl,Nat.le_refl _⟩
       ·exact⟨_,_,_,rfl,qR⟩
      obtain⟨base,n,rH,rfl,qR⟩:=hv
      have hr:=CC.UE (base:=base) (n:=n) (cap:=rH) (a:=a) (ty:=31) wr qR
      clear hc hs pO Sv hle hf0 ho0 he e
      go_wp2_with (first
       | (at_builtin; refine CC.wp _ rfl _ _ _ _ rfl _ _ hr ?_)
       | go_in)
      go_roundw
      case rel=>exact⟨j+1,by omega,by go_num,by rw[e1,e2]; exact gD,hB⟩
      case measure=>simp[intOf]; omega
     ·rw[e]at jr
      have hB1:=hB.size
      have hl:(CC.cells (at_ j)).length=(at_ j).length*1:=by simp[CC.cells]
      have dy:∀ u∈CC.cells (at_ j),u.oneCell'=true:=by
       intro u hu
       obtain⟨s,_,rfl⟩:=List.mem_map.1 hu
       rfl
      have z4m:∀ i u,(CC.cells (at_ j))[i]? = some u->wr.cell? ((⟨b1,o1,Option.none⟩:Addr).add i)=some u:=by
       intro i u hu
       have rF:i<(at_ j).length:=by
        have:=(List.getElem?_eq_some_iff.1 hu).1
        simpa[CC.cells]using this
       have OY:(⟨b1,o1,Option.none⟩:Addr).add i=⟨b1,o1+i,Option.none⟩:=by unfold Addr.add; split<;>simp_all
       rw[OY,(hB.cell (p:=⟨b1,o1+i,Option.none⟩) KU),lF i rF,<- hu]
       simp[CC.cells,rF]
      clear hc hs pO Sv hle hf0 ho0 e lF
      generalize CC.cells (at_ j)=news at *
      generalize hq:(at_ j).length=q at *
      go_wp2_with (first
       | (at_builtin; refine wpList_append_own _ rfl _ _ 31 rfl w.heap.size 9 i0 (.string ⟨#[]⟩) 1 16 Tryz.underlying31 hi UN hz1 S6 rfl (by decide) _ _ _ rfl gD ⟨b1,o1,Option.none⟩ q c1 news rfl hl z4m dy (by unfold maxLen; omega) (by omega) hB1 ?_; intro v' w' z0S Pf z99)
       | go_in)
      go_roundw
      case rel=>exact⟨j+1,by omega,by go_num,by rw[h1,h3]; exact z0S,hB.grown Pf hB.size (λi hi=>(gD.lt i hi).1)⟩
      case measure=>simp[intOf]; omega
    ·have hjk:j=k:=by omega
     subst hjk
     clear hc hs pO Sv hle
     go_wp2
     go_ret
     exact⟨_,rfl,by rw[hM]at gD; exact gD,hB⟩
end
end Go.Proofs
namespace Go.AM.Lf
open Go.Proofs
theorem MX{κ:KS}{l:List zh}{cs:List Value}(hI:Inv κ)(h:Rc κ.w κ.ok (.sl .str) l cs):∃ v,cs=[v]/\CC.Strs κ.w.heap.size κ.w v l:=by
 rcases h.dr with⟨rfl,a,e⟩ | ⟨blk,off,cap,g,e,qI,qR,hg,hc⟩
 ·exact⟨_,e,.inl ⟨a,rfl,rfl⟩⟩
 ·refine⟨_,e,.inr ⟨blk,off,cap,rfl,hI.ux blk qI,λj hj => ?_⟩⟩
  have h3:=hc j hj 0 (.string ⟨l[j].toArray⟩) (by rw[(hg j hj).qO]; rfl)
  simpa[Ty.size]using h3
theorem z2m:ze Tryz.prog 142 ⟨[.ty (.sl (.sl .str))],[.sl .str],λx=>wV x⟩:=by
 refine xc Tryz.func142 (by kernel_rfl) rfl λκ (ls:List (List zh)) zp y hy hI ha => ?_
 obtain⟨⟨h0,h1,h2⟩,hy⟩:=hy
 cases hy
 obtain⟨v0,r,rfl,rU,ha⟩:=zU.cons_inv (show zU κ [.zj (.sl (.sl .str)) ls] zp from ha)
 rw[ha.zG]
 have hv:=RD.xo (κ:=κ) (τ:=.sl (.sl .str)) (x:=ls) rU rfl
 rcases hv.dr with⟨rfl,a,e⟩ | ⟨blk,off,cap,g,e,qI,qR,hg,hc⟩
 ·exact absurd rfl h2
 ·cases e
  have dH:∀ j (hj:j<ls.length),∃ v,g j=[v]/\CC.Strs κ.w.heap.size κ.w v ls[j]:=λj hj=>MX hI (hg j hj)
  have jr:∀ j,j<ls.length->κ.w.cell? ⟨blk,off+j,none⟩=some ((g j).headD (.bool false)):=λj hj=>by
   obtain⟨v,hv,_⟩:=dH j hj
   have h3:=hc j hj 0 v (by rw[hv]; rfl)
   rw[hv]
   simpa[Ty.size]using h3
  have pO:ls.flatten=(ls.take ls.length).flatten:=by rw[List.take_length]
  refine(CC.concat blk off cap ls.length (λj=>(g j).headD (.bool false)) ls κ.w rfl h0 (hI.ux blk qI) jr (λj hj => ?_) (by unfold CC.fl; rw[<- pO]; exact h1)).mono ?_
  ·obtain⟨v,hv,hs⟩:=dH j hj
   rw[hv]
   have:CC.at ls j=ls[j]:=by simp[CC.at,hj]
   rw[this]; exact hs
  ·rintro e w' ⟨v,rfl,gD,hB⟩
   refine⟨hB,λ_=>⟨_,rfl,?_⟩⟩
   unfold CC.fl CC.out at gD
   rw[<- pO]at gD
   show RD _ (.zj (.sl .str) ls.flatten) v
   refine RD.cV rfl ?_
   rcases gD.2 with⟨rfl,hn⟩ | ⟨gb,rH,cur,rfl,hgb,OT,hle,Ep,vb,htk⟩
   ·rw[List.eq_nil_of_length_eq_zero hn]
    exact .kR .str none
   ·refine .sl .str _ gb 0 rH (λi=>[.string ⟨(ls.flatten[i]?.getD []).toArray⟩]) (.inr ⟨hgb,(Array.getElem?_eq_some_iff.1 OT).1⟩) hle (λi hi => ?_) (λi hi j u hu => ?_)
    ·rw[List.getElem?_eq_getElem hi]
     exact .str _
    ·match j,hu with
     | 0,hu =>
      simp only[List.getElem?_cons_zero,Option.some.injEq]at hu
      have e0:(0:Nat)+i*Ty.size .str+0=i:=by show 0+i*1+0=i; omega
      show w'.cell? ⟨gb,0+i*Ty.size .str+0,none⟩=some u
      rw[e0,cell_of_row w' gb i cur _ (0,0) OT,<- hu]
      have h4:(cur.toList.take (ls.flatten.length*1))[i]? = (CC.cells ls.flatten)[i]? := by rw[htk]
      rw[List.getElem?_take_of_lt (by omega)]at h4
      rw[<- Array.getElem?_toList,h4]
      unfold CC.cells
      rw[List.getElem?_map,List.getElem?_eq_getElem hi]; rfl
end Go.AM.Lf

namespace Go.AM.Lf
open Go.Proofs
def t89:=t88.d z2m
theorem z39:ze Pz 147 ⟨[.ty zB,.rp .str],[.bool],λx=>xN x.1 x.2⟩:=zP t89 (rz [2]) hN Tryz.func147 [] z8
def t90:=t89.d z39
def Vd:zi:=Lz [] [Mm 0 (.sl zB),.s 1 (.zK 147 [.rp .str]),Mi 7] jk [xL,bD] λp s=>xG p.1 (λz0=>xN z0 p.2.1) p.2.2 s
def O2:Hints:=Hz [(0,Vd)] [] []
theorem E4:LO Tryz.f72 Vd 0:=lk t90 rn O2 [] z8
theorem Da:ze Pz 72 ⟨[.ty (.sl zB),.zK 147 [.rp .str]],[i64],λx=>wj x.1 (λz0=>xN z0 x.2)⟩:=zP t90 rn O2 Tryz.func72 [0] (zl rfl E4 z8)
def t91:=t90.d Da
theorem Yd:ze Pz 146 ⟨[.ty (.sl zB),.zK 147 [.rp .str]],[.bool],λx=>qE x.1 (λz0=>xN z0 x.2)⟩:=zP (t91.d Da) rn hN Tryz.func146 [] z8
def t92:=t91.d Yd
theorem Sd:ze Pz 144 ⟨[.ty .str,.rp (.sl .str),.rp zF],[.bool],λx=>uQ x.1 x.2.1 x.2.2⟩:=zP (t92.d Yd) (rz [3]) hN Tryz.func144 [] z8
def t93:=t92.d Sd
def QX:zi:=Lz [] [Mm 0 (.sl .str),.s 1 (.zK 144 [.rp (.sl .str),.rp zF]),Mi 7] jk [xL,bD] λp s=>qy p.1 (λz0=>uQ z0 p.2.1.1 p.2.1.2) p.2.2 s
def Dl:Hints:=Hz [(0,QX)] [] []
theorem B9:LO Tryz.f138 QX 0:=lk t93 rn Dl [] z8
theorem YE:ze Pz 138 ⟨[.ty (.sl .str),.zK 144 [.rp (.sl .str),.rp zF]],[i64],λx=>qd x.1 (λz0=>uQ z0 x.2.1 x.2.2)⟩:=zP t93 rn Dl Tryz.func138 [0] (zl rfl B9 z8)
def t94:=t93.d YE
def T97:Tb:=t94.d YE
def DA:zi:=Lz [] [Mr 2 zF,Mr 3 (.sl .str),Mm 13 (.sl zM),Mi 14] ⟨[Mm 6 (.sl .str),Mi 15],[],[]⟩ [⟨.exit 0,DP⟩] λp s=>cP p.1 p.2.1 p.2.2.1 p.2.2.2 s
def FG:zi:=Lz [] [Mr 2 zF,Mr 3 (.sl .str),Mm 30 (.sl zH),Mi 31] ⟨[Mm 6 (.sl .str),Mi 32],[],[]⟩ [⟨.exit 2,DP⟩] λp s=>cJ p.1 p.2.1 p.2.2.1 p.2.2.2 s
def h97:Hints:=Hz [(0,DA),(2,FG)] [] []
theorem OQ:LO Tryz.f97 DA 0:=lk T97 (rz [2,3]) h97 [] z8
theorem Ps:LO Tryz.f97 FG 2:=lk T97 (rz [2,3]) h97 [] z8
theorem z7v:ze Pz 97 ⟨[.ty zF,.ty (.sl .str)],[.str,.bool],λx=>lg x.1 x.2⟩:=zP T97 (rz [2,3]) h97 Tryz.func97 [0,2] (zl rfl OQ (zl rfl Ps z8))
def t95:=t94.d z7v
theorem z4B:ze Pz 215 ⟨[.ty .str,.rp (.sl .str)],[.bool],λx=>ku x.1 x.2⟩:=zP t95 rn hN Tryz.func215 [] z8
def t96:=t95.d z4B
def QQ:zi:=Lz [] [Mm 0 (.sl .str),.s 1 (.zK 215 [.rp (.sl .str)]),Mi 7] jk [xL,bD] λp s=>qy p.1 (λz0=>ku z0 p.2.1) p.2.2 s
def DC:Hints:=Hz [(0,QQ)] [] []
theorem Bi:LO Tryz.f138 QQ 0:=lk t96 rn DC [] z8
theorem Gq:ze Pz 138 ⟨[.ty (.sl .str),.zK 215 [.rp (.sl .str)]],[i64],λx=>qd x.1 (λz0=>ku z0 x.2)⟩:=zP t96 rn DC Tryz.func138 [0] (zl rfl Bi z8)
def t97:=t96.d Gq
theorem z1S:ze Pz 214 ⟨[.ty (.sl .str),.zK 215 [.rp (.sl .str)]],[.bool],λx=>vd x.1 (λz0=>ku z0 x.2)⟩:=zP (t97.d Gq) rn hN Tryz.func214 [] z8
def t98:=t97.d z1S
theorem SU:ze Pz 148 ⟨[.ty .expr,.ty (.sl .str)],[.bool],λx=>ox x.1 x.2⟩:=zP t98 (rz [2,3]) hN Tryz.func148 [] z8
def t99:=t98.d SU
abbrev Ic:=jT [.ty .expr,.ty (.sl .str)]->T (UP [.bool])
abbrev RP(F:Ic):=ze Pz 98 ⟨[.ty .expr,.ty (.sl .str)],[.bool],F⟩
theorem OI(uM:Ic)(lT:RP uM):ze Pz 150 ⟨[.ty .expr,.rp (.sl .str)],[.bool],λx=>vz (λy0 y1=>uM (y0,y1)) x.1 x.2⟩:=zP (t99.d lT) (rz [2]) hN Tryz.func150 [] z8
def F8(uM:Ic)(lT:RP uM):Tb:=t99.d (OI _ lT)
def Xb(uM:Ic):zi:=Lz [] [Mm 0 (.sl .expr),.s 1 (.zK 150 [.rp (.sl .str)]),Mi 7] jk [xL,bD] λp s=>ug (λy0 y1=>uM (y0,y1)) p.1 (λz0=>(vz (λy0 y1=>uM (y0,y1))) z0 p.2.1) p.2.2 s
def Ed(uM:Ic):Hints:=Hz [(0,Xb uM)] [] []
theorem BO(uM:Ic)(lT:RP uM):LO Tryz.f216 (Xb uM) 0:=lk (F8 uM lT) rn (Ed uM) [] z8
theorem Ns(uM:Ic)(lT:RP uM):ze Pz 216 ⟨[.ty (.sl .expr),.zK 150 [.rp (.sl .str)]],[i64],λx=>jl (λy0 y1=>uM (y0,y1)) x.1 (λz0=>(vz (λy0 y1=>uM (y0,y1))) z0 x.2)⟩:=zP (F8 uM lT) rn (Ed uM) Tryz.func216 [0] (zl rfl (BO uM lT) z8)
theorem Mw(uM:Ic)(lT:RP uM):ze Pz 149 ⟨[.ty (.sl .expr),.zK 150 [.rp (.sl .str)]],[.bool],λx=>vY (λy0 y1=>uM (y0,y1)) x.1 (λz0=>(vz (λy0 y1=>uM (y0,y1))) z0 x.2)⟩:=zP (t99.d (Ns _ lT)) rn hN Tryz.func149 [] z8
def h98(uM:Ic):Hints:=Hz [] [(0,3,.ways [⟨.normal,⟨[Mb 41,.v (.zj .expr),.v (.zj .expr)],[],VH⟩⟩]),(3,1,.ways [⟨.normal,⟨[],[],[]⟩⟩,Xo])] []
theorem Po(uM:Ic)(lT:RP uM):ze Pz 98 ⟨[.ty .expr,.ty (.sl .str)],[.bool],λx=>gS (λy0 y1=>uM (y0,y1)) x.1 x.2⟩:=zP ((t99.d (Mw _ lT)).d (OI _ lT)) (rz [2,3]) (h98 uM) Tryz.func98 [] z8
theorem z6M:ze Pz 98 ⟨[.ty .expr,.ty (.sl .str)],[.bool],λx=>dF x.1 x.2⟩:=J6 (λuM x=>gS (λy0 y1=>uM (y0,y1)) x.1 x.2) (λx=>rfl) (λuM lT=>Po uM lT)
def t100:=t99.d z6M
def EU:zi:=Lz [.slot 8 .str] [Mr 1 zF,Mm 46 (.sl zw),Mi 47] ⟨[Mi 48,.a .str],[(8,.cur 0 .str)],yu⟩ [⟨.exit 1,⟨[.a .str],[(8,.cur 0 .str)],yu⟩⟩] λp s=>eb p.1 p.2.1 p.2.2 s
def DX:zi:=Lz [] [Mm 67 (.sl zH),Mi 68] ⟨[Mi 69,.a .str],[(8,.cur 0 .str)],yu⟩ [⟨.exit 3,⟨[.a .str],[],yu⟩⟩,⟨.ret,⟨[Mi 2,Ms 3,.a .str],[],yu⟩⟩] λp s=>er p.1 p.2 s
def h58:Hints:=Hz [(1,EU),(3,DX)] [(0,3,.flat [Mb 19]),(0,23,.ways [⟨.normal,⟨[Mb 84,.a .str,.v (.zj zH)],[(8,.cur 0 .str)],[.arr .str,.var (.zj zH)]⟩⟩])] []
theorem R6:LO Tryz.f58 EU 1:=lk t100 (rz [1]) h58 [] z8
theorem RJ:LO Tryz.f58 DX 3:=lk t100 (rz [1]) h58 [] z8
theorem z7k:ze Pz 58 ⟨[.ty zF],[i64,.str],λx=>dt x⟩:=zP t100 (rz [1]) h58 Tryz.func58 [1,3] (zl rfl R6 (zl rfl RJ z8))
def t101:=t100.d z7k
theorem z15:ze Pz 100 ⟨[.ty zF],[.str],λx=>pc x⟩:=zP t101 (rz [1]) hN Tryz.func100 [] z8
def t102:=t101.d z15
theorem z0U:ze Tryz.prog 151 ⟨[.ty .str,.ty .str],[.sl .str],λx=>strings_Split x.1 x.2⟩:=by
 refine xc Tryz.func151 (by kernel_rfl) rfl λκ x zp y hy hI ha => ?_
 obtain⟨s,sep⟩:=x
 obtain⟨⟨h0,h1⟩,hy⟩:=hy
 cases hy
 obtain⟨v0,r,rfl,rU,ha⟩:=zU.cons_inv (show zU κ [.zj .str s,.zj .str sep] zp from ha)
 obtain⟨v1,r,rfl,JE,ha⟩:=ha.cons_inv
 rw[ha.zG,rU.qO,JE.qO]
 obtain⟨m,hm⟩:=xE hI
 refine(Go.Proofs.Tryz.strings_Split ⟨s.toArray⟩ ⟨sep.toArray⟩ m κ.w (by rw[show(ByteArray.size ⟨s.toArray⟩)=List.length s from List.size_toArray]; exact h0) hm (by rw[show(ByteArray.size ⟨sep.toArray⟩)=List.length sep from List.size_toArray]; simp only at h1; omega)).mono ?_
 rintro e w' ⟨rfl,rfl⟩
 refine⟨pX _ _,λ_=>⟨_,rfl,?_⟩⟩
 exact Fm s sep h1 _
def t103:=t102.d z0U
theorem Se:ze Tryz.prog 218 ⟨[.ty .str,.ty .str],[.str,.str,.bool],λx=>strings_Cut x.1 x.2⟩:=by
 refine xc Tryz.func218 (by kernel_rfl) rfl λκ x zp y hy hI ha => ?_
 obtain⟨s,sep⟩:=x
 obtain⟨h0,hy⟩:=hy
 cases hy
 obtain⟨v0,r,rfl,rU,ha⟩:=zU.cons_inv (show zU κ [.zj .str s,.zj .str sep] zp from ha)
 obtain⟨v1,r,rfl,JE,ha⟩:=ha.cons_inv
 rw[ha.zG,rU.qO,JE.qO]
 obtain⟨m,hm⟩:=xE hI
 refine(Go.Proofs.Tryz.strings_Cut ⟨s.toArray⟩ ⟨sep.toArray⟩ m κ.w (by rw[show(ByteArray.size ⟨s.toArray⟩)=List.length s from List.size_toArray]; exact h0) hm).mono ?_
 rintro e w' ⟨rfl,n,rfl⟩
 refine⟨below_drewN _ _,λ_=>⟨_,rfl,?_⟩⟩
 rw[show Lib.cut (⟨s.toArray⟩:ByteArray).data.toList (⟨sep.toArray⟩:ByteArray).data.toList=YB s sep from FC s sep]
 exact RD.z6n RD.str RD.str RD.bool
def t104:=t103.d Se
theorem z2A:ze Pz 274 ⟨[.ty (.int .i32)],[.bool],λx=>ba x⟩:=zP t104 rn hN Tryz.func274 [] z8
def t105:=t104.d z2A
theorem IK(w:World):Go.Proofs.PredAtRunes Tryz.prog 274 #[] (λn=>n==32) w:=λW x hx hb=>by
 show Calls Tryz.prog 274 #[.int .i32 (x:Int)] W _
 have hn:Tryz.f274.ntmps=5:=by kernel_rfl
 have hd:((x:Int)==32)=(x==32):=by rw[Bool.eq_iff_iff,beq_iff_eq,beq_iff_eq]; omega
 go_enter Tryz.func274,hn
 go_wp2
 go_ret
 exact⟨by rw[<- hd]; rfl,0,rfl⟩
theorem z42:ze Tryz.prog 273 ⟨[.ty .str,.zK 274 []],[.sl .str],λx=>strings_FieldsFunc x.1 (λz0=>ba z0)⟩:=by
 refine xc Tryz.func273 (by kernel_rfl) rfl λκ x zp y hy hI ha => ?_
 obtain⟨s,c⟩:=x
 obtain⟨h0,hy⟩:=hy
 cases hy
 obtain⟨v0,r,rfl,rU,ha⟩:=zU.cons_inv (show zU κ [.zj .str s,.zK 274 []] zp from ha)
 obtain⟨v1,r,rfl,JE,ha⟩:=ha.cons_inv
 rw[ha.zG,rU.qO,JE.FL (by rfl)]
 refine(Go.Proofs.Tryz.strings_FieldsFunc_runes 274 #[] (λargs w=>dZ Tryz.func274 (by kernel_rfl) rfl w) (λn=>n==32) ⟨s.toArray⟩ κ.w (by rw[show(ByteArray.size ⟨s.toArray⟩)=List.length s from List.size_toArray]; exact h0) (IK κ.w)).mono ?_
 rintro e w' ⟨A,rfl,hA,ho,hB⟩
 refine⟨hB,λ_=>⟨_,rfl,?_⟩⟩
 exact Bw s ho
def t106:=t105.d z42
theorem SB:ze Pz 219 ⟨[.ty .str],[(.sl .str)],λx=>oT x⟩:=zP t106 rn hN Tryz.func219 [] z8
def t107:=t106.d SB
theorem z1u:ze Tryz.prog 312 ⟨[.ty .str,.ty .str],[i64],λx=>strings_IndexAny x.1 x.2⟩:=by
 refine xc Tryz.func312 (by kernel_rfl) rfl λκ x zp y hy hI ha => ?_
 obtain⟨s,chars⟩:=x
 obtain⟨⟨h0,h1,h2,h3⟩,hy⟩:=hy
 cases hy
 obtain⟨v0,r,rfl,rU,ha⟩:=zU.cons_inv (show zU κ [.zj .str s,.zj .str chars] zp from ha)
 obtain⟨v1,r,rfl,JE,ha⟩:=ha.cons_inv
 rw[ha.zG,rU.qO,JE.qO]
 refine(Go.Proofs.Any.eR Go.Proofs.Tryz.lays153 (λ_=>by kernel_rfl) (by kernel_rfl) ⟨s.toArray⟩ ⟨chars.toArray⟩ κ.w (by rw[show(ByteArray.size ⟨chars.toArray⟩)=List.length chars from List.size_toArray]; exact h1) (by rw[show(ByteArray.size ⟨s.toArray⟩)=List.length s from List.size_toArray]; exact h0) (by rw[show(ByteArray.size ⟨chars.toArray⟩)=List.length chars from List.size_toArray]; exact h2) h3).mono ?_
 rintro e w' ⟨rfl,hB⟩
 refine⟨hB,λ_=>⟨_,rfl,?_⟩⟩
 have e1:Lib.indexAny s chars=mq s chars:=Xy chars s
 show RD _ (.zj i64 (mq s chars)) _
 rw[<- e1]
 exact RD.int
def t108:=t107.d z1u
def z6t:Hints:=Hz [] [(0,1,.flat [Mb 4])] []
theorem z3h:ze Pz 351 ⟨[.ty .str,.ty .str],[.bool],λx=>v7 x.1 x.2⟩:=zP t108 rn z6t Tryz.func351 [] z8
def t109:=t108.d z3h
theorem z0v:ze Pz 313 ⟨[.ty .str,.ty .str],[.bool],λx=>strings_HasPrefix x.1 x.2⟩:=zP t109 rn hN Tryz.func313 [] z8
def t110:=t109.d z0v
def Hb:zi:=Lz [] [] ga [J8] λp s=>jM  s
def SW:Hints:=Hz [(0,Hb)] [(0,0,.flat [Mb 23])] []
theorem IN:LO Tryz.f384 Hb 0:=lk t110 rn SW [] z8
theorem SP:zE Pz 384 ⟨[.ptr],ga,[],GW,0,λx=>yr x⟩:=k6 t110 rn SW Tryz.func384 [0] (zl rfl IN z8)
def t111:=t110.s SP
theorem z0G:ze Tryz.prog 364 ⟨[.ty .str,.ty (.int .u8)],[i64],λx=>strings_IndexByte x.1 x.2⟩:=by
 refine xc Tryz.func364 (by kernel_rfl) rfl λκ x zp y hy hI ha => ?_
 obtain⟨s,c⟩:=x
 cases hy
 obtain⟨v0,r,rfl,rU,ha⟩:=zU.cons_inv (show zU κ [.zj .str s,.zj (.int .u8) c] zp from ha)
 obtain⟨v1,r,rfl,JE,ha⟩:=ha.cons_inv
 rw[ha.zG,rU.qO,JE.jB]
 refine(Go.Proofs.Tryz.strings_IndexByte ⟨s.toArray⟩ c κ.w).mono ?_
 rintro e w' ⟨rfl,rfl⟩
 refine⟨lN _,λ_=>⟨_,rfl,?_⟩⟩
 have e1:Lib.indexByte s (byteOf c)=Kg s (byteOf c):=Md s (byteOf c)
 show RD _ (.zj i64 (Kg s (byteOf c))) _
 rw[<- e1]
 exact RD.int
def t112:=t111.d z0G
def z6R:Hints:=Hz [] [(0,2,.ways [⟨.normal,⟨[Mb 30,.v (.zj zt)],[],lX⟩⟩])] []
theorem Ts:zE Pz 381 ⟨kU,⟨[Ms 1,.v (.zj zt)],[(0,.ptr 0 0)],lX⟩,[],⟨[Mm 0 (.int .u8),.v (.zj zt)],[],lX⟩,1,λx=>xO x.1 x.2⟩:=k6 t112 rn z6R Tryz.func381 [] z8
def t113:=t112.s Ts
theorem SE:xe Pz 368 ⟨pH,⟨[Mi 1,Mi 2,.v (.zj zt)],[(0,.ptr 0 0)],lX⟩,[],GW,0,424,bM,none,λx=>xi x.1 x.2.1 x.2.2⟩:=sZ t113 rn hN Tryz.func368 [] z8
def t114:=t113.p SE
theorem SJ:xe Pz 385 ⟨[.ptr],ga,[],GW,0,424,bM,none,λx=>uy x⟩:=sZ t114 rn hN Tryz.func385 [] z8
def t115:=t114.p SJ
def GI:zi:=Lz [] [.s 1 (.zK 304 []),Mi 2,Mi 7] ga [J8] λp s=>vn (λz0=>vx z0) p.2.1 p.2.2 s
def z1F:Hints:=Hz [(0,GI)] [(0,2,.ways [E6])] []
theorem Mo:LO Tryz.f387 GI 0:=lk t115 rn z1F [] z8
theorem z2X:zE Pz 387 ⟨[.ptr,.zK 304,.any],⟨[.s 1 (.zK 304 []),Mi 2,.v (.zj zt)],[(0,.ptr 0 0)],lX⟩,[],FN,1,λx=>xQ (λz0=>vx z0) x.2.1 x.2.2⟩:=k6 t115 rn z1F Tryz.func387 [0] (zl rfl Mo z8)
def t116:=t115.s z2X
theorem T9:ze Tryz.prog 292 ⟨[.ty .str,.ty .str],[.str,.bool],λx=>strings_CutPrefix x.1 x.2⟩:=by
 refine xc Tryz.func292 (by kernel_rfl) rfl λκ x zp y hy hI ha => ?_
 obtain⟨s,p⟩:=x
 cases hy
 obtain⟨v0,r,rfl,rU,ha⟩:=zU.cons_inv (show zU κ [.zj .str s,.zj .str p] zp from ha)
 obtain⟨v1,r,rfl,JE,ha⟩:=ha.cons_inv
 rw[ha.zG,rU.qO,JE.qO]
 refine(Go.Proofs.Tryz.strings_CutPrefix ⟨s.toArray⟩ ⟨p.toArray⟩ κ.w).mono ?_
 rintro e w' ⟨rfl,rfl⟩
 refine⟨lN _,λ_=>⟨_,rfl,?_⟩⟩
 exact RD.L4 RD.str RD.bool
def t117:=t116.d T9
def GX:zi:=Lz [] [Mm 1 (.int .u8)] ed [pj] λp s=>ji p s
def z3g:Hints:=Hz [(0,GX)] [(0,1,.flat [Mb 16])] []
theorem Lg:LO Tryz.f328 GX 0:=lk t117 rn z3g [] z8
theorem Su:ze Pz 328 ⟨[.ty .str,.ty (.int .u8)],[.str],λx=>strings_trimRightByte x.1 x.2⟩:=zP t117 rn z3g Tryz.func328 [0] (zl rfl Lg z8)
def t118:=t117.d Su
def Hd:zi:=Lz [] [Mm 1 (.int .u8)] ed [pj] λp s=>jG p s
def z0c:Hints:=Hz [(0,Hd)] [(0,1,.flat [Mb 13])] []
theorem Ij:LO Tryz.f327 Hd 0:=lk t118 rn z0c [] z8
theorem z2n:ze Pz 327 ⟨[.ty .str,.ty (.int .u8)],[.str],λx=>strings_trimLeftByte x.1 x.2⟩:=zP t118 rn z0c Tryz.func327 [0] (zl rfl Ij z8)
def t119:=t118.d z2n
theorem z18:ze Tryz.prog 329 ⟨[.ty .str],[(bG .bool 256),.bool],λx=>strings_makeASCIISet x⟩:=by
 refine xc Tryz.func329 (by kernel_rfl) rfl λκ s zp y hy hI ha => ?_
 obtain⟨⟨h0,h1⟩,hy⟩:=hy
 cases hy
 obtain⟨v0,r,rfl,rU,ha⟩:=zU.cons_inv (show zU κ [.zj .str s] zp from ha)
 rw[ha.zG,rU.qO]
 refine(Go.Proofs.Tryz.strings_makeASCIISet (λ_=>by kernel_rfl) ⟨s.toArray⟩ κ.w (by rw[show(ByteArray.size ⟨s.toArray⟩)=List.length s from List.size_toArray]; exact h0) (by simpa using h1)).mono ?_
 rintro e w' ⟨rfl,rfl⟩
 refine⟨pX _ _,λ_=>⟨_,rfl,?_⟩⟩
 exact RD.L4 (EA s) RD.bool
def t120:=t119.d z18
theorem z1L:ze Pz 350 ⟨[.rp (bG .bool 256),.ty (.int .u8)],[.bool],λx=>wm x.1 x.2⟩:=zP t120 rn hN Tryz.func350 [] z8
def t121:=t120.d z1L
def Hl:zi:=Lz [] [Mr 1 (bG .bool 256)] ed [pj] λp s=>uV p s
def TC:Hints:=Hz [(0,Hl)] [] []
theorem L6:LO Tryz.f331 Hl 0:=lk t121 rn TC [] z8
theorem Sl:ze Pz 331 ⟨[.ty .str,.rp (bG .bool 256)],[.str],λx=>ka x.1 x.2⟩:=zP t121 rn TC Tryz.func331 [0] (zl rfl L6 z8)
def t122:=t121.d Sl
def He:zi:=Lz [] [Mr 1 (bG .bool 256)] ed [pj] λp s=>js p s
def z4b:Hints:=Hz [(0,He)] [] []
theorem Ik:LO Tryz.f330 He 0:=lk t122 rn z4b [] z8
theorem z1c:ze Pz 330 ⟨[.ty .str,.rp (bG .bool 256)],[.str],λx=>kT x.1 x.2⟩:=zP t122 rn z4b Tryz.func330 [0] (zl rfl Ik z8)
def t123:=t122.d z1c
def z6G:Hints:=Hz [] [(0,1,.flat [Mb 12]),(0,3,.flat [Mb 21])] []
theorem z08:ze Pz 295 ⟨[.ty .str,.ty .str],[.str],λx=>dK x.1 x.2⟩:=zP t123 rn z6G Tryz.func295 [] z8
def t124:=t123.d z08
def Hc:zi:=Lz [] [Mm 0 (.sl u32),Mm 1 (.sl u32),Mm 24 (.sl u32),Mi 25] ⟨[Mm 6 (.int .u64),Mi 26,.a u32],[(5,.cur 0 u32)],jH⟩ [⟨.exit 0,⟨[Mm 6 (.int .u64),.a u32],[(5,.cur 0 u32)],jH⟩⟩] λp s=>tV p.1 p.2.1 p.2.2.1 p.2.2.2 s
def To:Hints:=Hz [(0,Hc)] [(3,2,.flat [Mm 0 (.sl u32),Mm 1 (.sl u32)]),(3,10,.flat [Mm 6 (.int .u64)])] [(16,[5])]
theorem MK:LO Tryz.f319 Hc 0:=lk t124 rn To [] z8
theorem Sx:ze Pz 319 ⟨[.ty (.sl u32),.ty (.sl u32)],[(.sl u32)],λx=>XN x.1 x.2⟩:=zP t124 rn To Tryz.func319 [0] (zl rfl MK z8)
def t125:=t124.d Sx
def Hj:zi:=Lz [] [Ms 0,Mi 19] ⟨[Mm 4 (.sl u32),Mi 20],[],[]⟩ [⟨.exit 0,⟨[Mm 4 (.sl u32)],[],[]⟩⟩] λp s=>mW p.1 p.2 s
def SM:Hints:=Hz [(0,Hj)] [(0,1,.ways [⟨.normal,⟨[Mb 17],[],[]⟩⟩])] []
theorem Lq:LO Tryz.f293 Hj 0:=lk t125 rn SM [] z8
theorem z0F:ze Pz 293 ⟨[.ty .str],[(.sl u32),.bool],λx=>cI x⟩:=zP t125 rn SM Tryz.func293 [0] (zl rfl Lq z8)
def t126:=t125.d z0F
def z8a:Hints:=Hz [] [(0,9,.flat [Mb 58]),(3,13,.flat [Ms 14]),(0,17,.flat [Mb 94])] []
theorem z0X:ze Pz 247 ⟨[.ty .str],[zc,i64],λx=>iZ x⟩:=zP t126 rn z8a Tryz.func247 [] z8
def t127:=t126.d z0X
def z6Z:Hints:=Hz [] [(0,2,.flat [Mb 35]),(3,2,.ways [⟨.normal,⟨[Ms 3,.v (.zj zt),.v (.zj .expr)],[],GS⟩⟩,⟨.wN (.iface 424 .q8),⟨[Mm 0 qq,.v (.zj zt),.v (.zj .expr)],[],GS⟩⟩])] []
theorem z2N:xe Pz 386 ⟨[.ptr],ga,[],eo,1,424,bM,none,λx=>yq x⟩:=sZ t127 rn z6Z Tryz.func386 [] z8
def t128:=t127.p z2N
def Xa:zi:=Lz [] [.s 1 (.zK 264 []),Mi 2,Mi 7] ga [J8] λp s=>vn (λz0=>kh z0) p.2.1 p.2.2 s
def EF:Hints:=Hz [(0,Xa)] [(0,2,.ways [E6])] []
theorem B8:LO Tryz.f387 Xa 0:=lk t128 rn EF [] z8
theorem Yn:zE Pz 387 ⟨[.ptr,.zK 264,.any],⟨[.s 1 (.zK 264 []),Mi 2,.v (.zj zt)],[(0,.ptr 0 0)],lX⟩,[],FN,1,λx=>xQ (λz0=>kh z0) x.2.1 x.2.2⟩:=k6 t128 rn EF Tryz.func387 [0] (zl rfl B8 z8)
def t129:=t128.s Yn
abbrev Pq:=qz.den ga->T (qz.den eo⊕qz.den bM)
abbrev z7f(F:Pq):=xe Pz 382 ⟨[.ptr],ga,[],eo,1,424,bM,none,F⟩
abbrev la:=qz.den ga->T (qz.den eo⊕qz.den bM)
abbrev ZY(F:la):=xe Pz 367 ⟨[.ptr],ga,[],eo,1,424,bM,none,F⟩
def z86(ra:Pq)(qh:la):Hints:=Hz [] [(3,10,.ways [⟨.normal,FO⟩,⟨.wN (.iface 424 .q8),Ds⟩]),(0,14,.ways [⟨.normal,⟨[Mb 46,.v (.zj zt),.v (.zj .expr)],[],GS⟩⟩]),(0,16,.ways [⟨.normal,⟨[Mb 71,.v (.zj zt),.v (.zj .expr)],[],GS⟩⟩])] []
theorem Lp(ra:Pq)(F4:z7f ra)(qh:la)(uz:ZY qh):xe Pz 382 ⟨[.ptr],ga,[],eo,1,424,bM,none,λx=>vt (λy0=>ra (y0)) (λy0=>qh (y0)) x⟩:=sZ (((t129.s Yn).p uz).p F4) rn (z86 ra qh) Tryz.func382 [] z8
theorem z1N(qh:la)(uz:ZY qh):xe Pz 382 ⟨[.ptr],ga,[],eo,1,424,bM,none,λx=>uC (λy0=>qh (y0)) x⟩:=Y6 (λra x=>vt (λy0=>ra (y0)) (λy0=>qh (y0)) x) (λx=>rfl) (λra F4=>Lp ra F4 qh uz)
def z4l(qh:la)(uz:ZY qh):Tb:=t129.p (z1N _ uz)
def Gr(qh:la):zi:=Lz [] [Ms 2,Mr 7 qq] ⟨[.v (.zj zt),.v (.zj .expr),.v (.zj .expr)],[(0,.ptr 0 0),(1,.zK 1000382 [(0,0)]),(8,.ptr 1 0),(9,.ptr 2 0)],YQ⟩ [⟨.ret,FO⟩,⟨.wN (.iface 424 .q8),Ds⟩] λp s=>xm (λy0=>qh (y0)) p.1 p.2 s
def z2t(qh:la):Hints:=Hz [(0,Gr qh)] [] []
theorem Lv(qh:la)(uz:ZY qh):LO Tryz.f375 (Gr qh) 0:=lk (z4l qh uz) (rz [7]) (z2t qh) [] z8
theorem z0d(qh:la)(uz:ZY qh):xe Pz 375 ⟨[.ptr,.zK 1000382,.any,.any],⟨[.s 1 (.mclo 1000382 [.pt 0]),Ms 2,Mm 3 qq,.v (.zj zt)],[(0,.ptr 0 0)],lX⟩,[],eo,1,424,bM,none,λx=>xM (λy0=>qh (y0)) x.1 x.2.1 x.2.2.1 x.2.2.2⟩:=sZ (z4l qh uz) (rz [7]) (z2t qh) Tryz.func375 [0] (zl rfl (Lv qh uz) z8)
theorem z3b(qh:la)(uz:ZY qh):xe Pz 376 ⟨[.ptr],ga,[],eo,1,424,bM,none,λx=>vL (λy0=>qh (y0)) x⟩:=sZ (t129.p (z0d _ uz)) rn hN Tryz.func376 [] z8
def D0(qh:la)(uz:ZY qh):Tb:=t129.p (z3b _ uz)
def Xi(qh:la):zi:=Lz [] [Ms 2,Mr 7 qq] ⟨[.v (.zj zt),.v (.zj .expr),.v (.zj .expr)],[(0,.ptr 0 0),(1,.zK 1000376 [(0,0)]),(8,.ptr 1 0),(9,.ptr 2 0)],YQ⟩ [⟨.ret,FO⟩,⟨.wN (.iface 424 .q8),Ds⟩] λp s=>xf (λy0=>qh (y0)) p.1 p.2 s
def Cg(qh:la):Hints:=Hz [(0,Xi qh)] [] []
theorem HL(qh:la)(uz:ZY qh):LO Tryz.f375 (Xi qh) 0:=lk (D0 qh uz) (rz [7]) (Cg qh) [] z8
theorem Nd(qh:la)(uz:ZY qh):xe Pz 375 ⟨[.ptr,.zK 1000376,.any,.any],⟨[.s 1 (.mclo 1000376 [.pt 0]),Ms 2,Mm 3 qq,.v (.zj zt)],[(0,.ptr 0 0)],lX⟩,[],eo,1,424,bM,none,λx=>xB (λy0=>qh (y0)) x.1 x.2.1 x.2.2.1 x.2.2.2⟩:=sZ (D0 qh uz) (rz [7]) (Cg qh) Tryz.func375 [0] (zl rfl (HL qh uz) z8)
theorem Mx(qh:la)(uz:ZY qh):xe Pz 367 ⟨[.ptr],ga,[],eo,1,424,bM,none,λx=>jd (λy0=>qh (y0)) x⟩:=sZ (t129.p (Nd _ uz)) rn hN Tryz.func367 [] z8
theorem z03:xe Pz 367 ⟨[.ptr],ga,[],eo,1,424,bM,none,λx=>bJ x⟩:=Y6 (λqh x=>jd (λy0=>qh (y0)) x) (λx=>rfl) (λqh uz=>Mx qh uz)
def t130:=t129.p z03
theorem z3k:vS (H8 Pz) 366 ⟨[.ptr,.ptr,.ptr],⟨[.v (.zj .expr),.v (.zj i64),.v (.zj i64)],[(0,.ptr 0 0),(1,.ptr 1 0),(2,.ptr 2 0)],FU⟩,[],CX,0,λx=>uE x.1 x.2.1 x.2.2⟩:=fkr t130 rn hN Tryz.func366
theorem Lr:vS (Bu Pz 424) 366 ⟨[.ptr,.ptr,.ptr,.any],⟨[Mm 3 qq,.v (.zj .expr),.v (.zj i64),.v (.zj i64)],[(0,.ptr 0 0),(1,.ptr 1 0),(2,.ptr 2 0)],FU⟩,[],CX,0,λx=>vK x.1 x.2.1 x.2.2.1 x.2.2.2⟩:=fkh t130 rn hN Tryz.func366 3
theorem z2j:zE Pz 352 ⟨[.ptr],ga,[],⟨[Mm 0 .expr,Mi 1,Mi 2,.v (.zj zt)],[],lX⟩,3,λx=>c8 x⟩:=fkf t130 rn hN (g:=366) (pt:=424) z3k Lr Tryz.func352
def t131:=t130.s z2j
def z6U:Hints:=Hz [] [(0,5,.ways [⟨.normal,⟨[Mb 31,.v (.zj .expr),.v (.zj zt),.v (.zj .expr)],[],[.var (.zj .expr),.var (.zj zt),.var (.zj .expr)]⟩⟩])] []
theorem z1H:ze Pz 314 ⟨[.ty .str],[.expr,i64,i64],λx=>lP x⟩:=zP t131 rn z6U Tryz.func314 [] z8
def t132:=t131.d z1H
theorem z2Z:ze Tryz.prog 315 ⟨[.ty .str,.ty .str],[.bool],λx=>strings_Contains x.1 x.2⟩:=by
 refine xc Tryz.func315 (by kernel_rfl) rfl λκ x zp y hy hI ha => ?_
 obtain⟨s,sub⟩:=x
 obtain⟨h0,hy⟩:=hy
 cases hy
 obtain⟨v0,r,rfl,rU,ha⟩:=zU.cons_inv (show zU κ [.zj .str s,.zj .str sub] zp from ha)
 obtain⟨v1,r,rfl,JE,ha⟩:=ha.cons_inv
 rw[ha.zG,rU.qO,JE.qO]
 obtain⟨m,hm⟩:=xE hI
 refine(Go.Proofs.Tryz.strings_Contains ⟨s.toArray⟩ ⟨sub.toArray⟩ m κ.w (by rw[show(ByteArray.size ⟨s.toArray⟩)=List.length s from List.size_toArray]; exact h0) hm).mono ?_
 rintro e w' ⟨rfl,rfl⟩
 refine⟨lN _,λ_=>⟨_,rfl,?_⟩⟩
 have e1:Lib.contains s sub=decide ((0:Int)<=Zf s sub):=contains_eq s sub
 show RD _ (.zj .bool (decide ((0:Int)<=Zf s sub))) _
 rw[<- e1]
 exact RD.bool
def t133:=t132.d z2Z
def z5u:Hints:=Hz [] [(0,6,.ways [⟨.normal,⟨[Mb 34,.v (.zj .expr),.v (.zj .expr)],[],VH⟩⟩]),(3,6,.ways [⟨.normal,⟨[Ms 6,Ms 10,.v (.zj .expr),.v (.zj .expr)],[],VH⟩⟩]),(0,12,.ways [⟨.normal,⟨[Mb 61,.v (.zj .expr),.v (.zj .expr)],[],VH⟩⟩]),(3,11,.ways [⟨.normal,⟨[Mi 7,.v (.zj .expr),.v (.zj .expr)],[],VH⟩⟩])] []
theorem Sy:ze Pz 275 ⟨[.ty .str,.ty .str],[.expr,.expr,.str,i64],λx=>bq x.1 x.2⟩:=zP t133 rn z5u Tryz.func275 [] z8
def t134:=t133.d Sy
def z6C:Hints:=Hz [] [(0,1,.flat [Mb 8])] []
theorem z29:ze Pz 277 ⟨[.ty (.sl .str),.ty i64,.ty i64,.ty .str],[.bool],λx=>fh x.1 x.2.1 x.2.2.1 x.2.2.2⟩:=zP t134 rn z6C Tryz.func277 [] z8
def t136:=t134.d z29
def z6r:Hints:=Hz [] [(0,3,.ways [⟨.normal,⟨[Mb 11],[],[]⟩⟩])] []
theorem z1K:ze Pz 276 ⟨[.ty (.sl .str),.ty i64],[.str,.bool],λx=>fp x.1 x.2⟩:=zP t136 rn z6r Tryz.func276 [] z8
def t137:=t136.d z1K
def Rq:Hints:=Hz [] [(0,1,.ways [⟨.normal,⟨[Mb 29,.v lO,.a zr,.a zB,.a zO,.a zw,.a zH,.a zM],[],Q2⟩⟩])] []
theorem Ha:zE Pz 220 ⟨pH,Oe,[],DU,1,λx=>yS x.1 x.2.1 x.2.2.1 x.2.2.2.1 x.2.2.2.2.1 x.2.2.2.2.2.1 x.2.2.2.2.2.2.1 x.2.2.2.2.2.2.2.1 x.2.2.2.2.2.2.2.2⟩:=k6 t137 rn Rq Tryz.func220 [] z8
def t152:=t137.s Ha
def Rg:Hints:=Hz [] [(0,1,.ways [⟨.normal,⟨[Mb 31,.v lO,.a zr,.a zB,.a zO,.a zw,.a zH,.a zM],[],Q2⟩⟩])] []
theorem Gu:zE Pz 221 ⟨pH,Oe,[],DU,1,λx=>gZ x.1 x.2.1 x.2.2.1 x.2.2.2.1 x.2.2.2.2.1 x.2.2.2.2.2.1 x.2.2.2.2.2.2.1 x.2.2.2.2.2.2.2.1 x.2.2.2.2.2.2.2.2⟩:=k6 t152 rn Rg Tryz.func221 [] z8
def t153:=t152.s Gu
def PG:Hints:=Hz [] [(0,1,.ways [⟨.normal,⟨[Mb 26,.v lO,.a zr,.a zB,.a zO,.a zw,.a zH,.a zM],[],Q2⟩⟩])] []
theorem Gl:zE Pz 222 ⟨kU,Gv,[],Hq,1,λx=>gY x.1 x.2.1 x.2.2.1 x.2.2.2.1 x.2.2.2.2.1 x.2.2.2.2.2.1 x.2.2.2.2.2.2.1 x.2.2.2.2.2.2.2⟩:=k6 t153 rn PG Tryz.func222 [] z8
def t154:=t153.s Gl
def Rn:Hints:=Hz [] [(0,1,.ways [O8])] []
theorem H2:zE Pz 223 ⟨kU,Gv,[],Hq,1,λx=>bP x.1 x.2.1 x.2.2.1 x.2.2.2.1 x.2.2.2.2.1 x.2.2.2.2.2.1 x.2.2.2.2.2.2.1 x.2.2.2.2.2.2.2⟩:=k6 t154 rn Rn Tryz.func223 [] z8
def t155:=t154.s H2
def R3:Hints:=Hz [] [(0,1,.ways [O8])] []
theorem Ga:zE Pz 224 ⟨kU,Gv,[],Hq,1,λx=>bn x.1 x.2.1 x.2.2.1 x.2.2.2.1 x.2.2.2.2.1 x.2.2.2.2.2.1 x.2.2.2.2.2.2.1 x.2.2.2.2.2.2.2⟩:=k6 t155 rn R3 Tryz.func224 [] z8
def t156:=t155.s Ga
def z5W:Hints:=Hz [] [(0,1,.ways [⟨.normal,⟨[Mb 23,.v lO,.a zr,.a zB,.a zO,.a zw,.a zH,.a zM],[],Q2⟩⟩]),(0,5,.flat [Mb 44]),(3,5,.ways [NU]),(0,8,.ways [⟨.normal,⟨[Mb 68,.v lO,.a zr,.a zB,.a zO,.a zw,.a zH,.a zM,.v (.zj zw)],[],[.var lO,.arr zr,.arr zB,.arr zO,.arr zw,.arr zH,.arr zM,.var (.zj zw)]⟩⟩]),(3,8,.ways [NU])] []
theorem SD:zE Pz 225 ⟨kU,Gv,[],Hq,1,λx=>bO x.1 x.2.1 x.2.2.1 x.2.2.2.1 x.2.2.2.2.1 x.2.2.2.2.2.1 x.2.2.2.2.2.2.1 x.2.2.2.2.2.2.2⟩:=k6 t156 rn z5W Tryz.func225 [] z8
def t157:=t156.s SD
def z6k:Hints:=Hz [] [(0,3,.flat [Mb 36]),(0,7,.flat [Mb 41]),(0,9,.flat [Mb 53])] []
theorem z0C:zE Pz 152 ⟨kU,⟨[Ms 1,.v lO,.a zr,.a zB,.a zO,.a zw,.a zH,.a zM],[(0,.ptr 0 0)],Q2⟩,[],DU,1,λx=>nR x.1 x.2.1 x.2.2.1 x.2.2.2.1 x.2.2.2.2.1 x.2.2.2.2.2.1 x.2.2.2.2.2.2.1 x.2.2.2.2.2.2.2⟩:=k6 (((((t157.s Ga).s H2).s Gl).s Gu).s Ha) rn z6k Tryz.func152 [] z8
def t158:=t157.s z0C
def E9:zi:=Lz [.cell 0 5 zM,.cell 1 5 zM,.cell 0 4 zH,.cell 1 4 zH,.cell 0 0 zr,.cell 1 0 zr,.cell 0 1 zB,.cell 1 1 zB,.cell 0 2 zO,.cell 1 2 zO,.cell 0 3 zw,.cell 1 3 zw] [Mm 14 (.sl .str),Mi 15] ⟨[Mi 16,.v FJ,.v Vc,.a zM,.a zM,.a zH,.a zH,.a zr,.a zr,.a zB,.a zB,.a zO,.a zO,.a zw,.a zw],[(2,.ptr 0 0),(5,.ptr 1 0)],OC⟩ [⟨.exit 0,⟨[.v FJ,.v Vc,.a zM,.a zM,.a zH,.a zH,.a zr,.a zr,.a zB,.a zB,.a zO,.a zO,.a zw,.a zw],[],OC⟩⟩,⟨.ret,⟨[Mi 3,Mi 4,.v (.zj zF),.v Vc,.a zM,.a zM,.a zH,.a zH,.a zr,.a zr,.a zB,.a zB,.a zO,.a zO,.a zw,.a zw],[],[.var (.zj zF),.var Vc,.arr zM,.arr zM,.arr zH,.arr zH,.arr zr,.arr zr,.arr zB,.arr zB,.arr zO,.arr zO,.arr zw,.arr zw]⟩⟩] λp s=>eZ p.1 p.2 s
def h99:Hints:=Hz [(0,E9)] [] []
theorem P6:LO Tryz.f99 E9 0:=lk t158 rn h99 [] z8
theorem z5U:ze Pz 99 ⟨[.ty .str],[zF,i64,i64],λx=>pe x⟩:=zP t158 rn h99 Tryz.func99 [0] (zl rfl P6 z8)
def t159:=t158.d z5U
theorem z7y:ze Pz 59 ⟨[.ty zF],[zF],λx=>Zz x⟩:=zP t159 (rz [1]) hN Tryz.func59 [] z8
def t160:=t159.d z7y
def h70:Hints:=Hz [] [(3,2,.flat [Mm 3 (.int .u64)])] []
theorem z7L:ze Pz 70 ⟨[.ty i64],[zc],λx=>ud x⟩:=zP t160 rn h70 Tryz.func70 [] z8
def t161:=t160.d z7L
def z84:Hints:=Hz [] [(0,2,.flat [Mb 4])] []
theorem TN:ze Pz 113 ⟨[.ty zF,.ty q9],[.bool],λx=>Vm x.1 x.2⟩:=zP t161 (rz [2,3]) z84 Tryz.func113 [] z8
def t162:=t161.d TN
theorem z0w:ze Pz 160 ⟨[.ty zc],[.bool],λx=>kK x⟩:=zP t162 (rz [1]) hN Tryz.func160 [] z8
def t163:=t162.d z0w
def Yo:zi:=Lz [] [Mm 0 (.sl zc),.s 1 (.zK 160 []),Mi 7] jk [xL,bD] λp s=>w0 p.1 (λz0=>kK z0) p.2.2 s
def z2Y:Hints:=Hz [(0,Yo)] [] []
theorem MR:LO Tryz.f153 Yo 0:=lk t163 rn z2Y [] z8
theorem z1M:ze Pz 153 ⟨[.ty (.sl zc),.zK 160 []],[i64],λx=>wS x.1 (λz0=>kK z0)⟩:=zP t163 rn z2Y Tryz.func153 [0] (zl rfl MR z8)
def t164:=t163.d z1M
theorem z0a:ze Pz 103 ⟨[.ty (.sl zc),.zK 160 []],[.bool],λx=>qs x.1 (λz0=>kK z0)⟩:=zP t164 rn hN Tryz.func103 [] z8
def t165:=t164.d z0a
def KX:zi:=Lz [.slot 3 .str] [Mm 7 (.sl zw),Mi 8] ⟨[Mi 9,.a .str],[(3,.cur 0 .str)],yu⟩ [⟨.exit 0,ZB⟩] λp s=>fJ p.1 p.2 s
def z2x:Hints:=Hz [(0,KX)] [] []
theorem Ng:LO Tryz.f185 KX 0:=lk t165 (rz [1]) z2x [] z8
theorem z1d:ze Pz 185 ⟨[.ty zF],[(.sl .str)],λx=>rf x⟩:=zP t165 (rz [1]) z2x Tryz.func185 [0] (zl rfl Ng z8)
def t166:=t165.d z1d
def h54:Hints:=Hz [] [(0,1,.ZZ)] []
theorem z6O:ze Pz 54 ⟨[.ty (.sl zc)],[(.sl zc)],λx=>gj x⟩:=zP t166 rn h54 Tryz.func54 [] z8
def t167:=t166.d z6O
def G8:zi:=Lz [.cell 0 0 .str,.cell 0 1 .str,.cell 1 1 .str] [Mm 14 (.sl zB),Mi 15] ⟨[Mi 16,.v Et,.v Cq,.a .str,.a .str,.a .str],[(4,.ptr 0 0),(5,.ptr 1 0)],D1⟩ [⟨.exit 0,⟨[.v Et,.v Cq,.a .str,.a .str,.a .str],[],D1⟩⟩] λp s=>p8 p.1 p.2 s
def SA:Hints:=Hz [(0,G8)] [] []
theorem LW:LO Tryz.f123 G8 0:=lk t167 (rz [2]) SA [] z8
theorem TZ:ze Pz 123 ⟨[.ty zF,.ty (.sl zc)],[xC],λx=>Vw x.1 x.2⟩:=zP t167 (rz [2]) SA Tryz.func123 [0] (zl rfl LW z8)
def t168:=t167.d TZ
theorem z1y:ze Pz 231 ⟨[.ty zr,.rp .str],[.bool],λx=>gq x.1 x.2⟩:=zP t168 (rz [2]) hN Tryz.func231 [] z8
def t169:=t168.d z1y
def Vx:zi:=Lz [] [Mm 0 (.sl zr),.s 1 (.zK 231 [.rp .str]),Mi 7] jk [xL,bD] λp s=>qg p.1 (λz0=>gq z0 p.2.1) p.2.2 s
def NI:Hints:=Hz [(0,Vx)] [] []
theorem DH:LO Tryz.f75 Vx 0:=lk t169 rn NI [] z8
theorem C3:ze Pz 75 ⟨[.ty (.sl zr),.zK 231 [.rp .str]],[i64],λx=>zY x.1 (λz0=>gq z0 x.2)⟩:=zP t169 rn NI Tryz.func75 [0] (zl rfl DH z8)
def t170:=t169.d C3
def z7X:Hints:=Hz [] [(0,2,.flat [Mb 6])] []
theorem z0x:ze Pz 161 ⟨[.ty zF,.ty (.sl .bool),.ty .str],[.bool],λx=>Xt x.1 x.2.1 x.2.2⟩:=zP (t170.d C3) (rz [3,5]) z7X Tryz.func161 [] z8
def t171:=t170.d z0x
def z88:Hints:=Hz [] [(0,1,.flat [Mb 12])] []
theorem TA:ze Pz 282 ⟨[.ty (.sl zc),.ty i64],[zc],λx=>oz x.1 x.2⟩:=zP t171 rn z88 Tryz.func282 [] z8
def t172:=t171.d TA
theorem z1z:ze Pz 321 ⟨[.ty .str,.ty xC],[zo,i64],λx=>QE x.1 x.2⟩:=zP t172 (rz [3]) hN Tryz.func321 [] z8
def t173:=t172.d z1z
theorem z4n:ze Pz 281 ⟨[.ty zc,.ty zc],[zc],λx=>iS x.1 x.2⟩:=zP t173 rn hN Tryz.func281 [] z8
def t174:=t173.d z4n
theorem z4e:ze Pz 155 ⟨[.ty zc],[.bool],λx=>bj x⟩:=zP t174 (rz [1]) hN Tryz.func155 [] z8
def t175:=t174.d z4e
def Gt:zi:=Lz [.cell 0 1 zu,.cell 1 1 zu] [Mr 3 zc,Mm 17 (.sl zu),Mi 18] ⟨[Mi 19,.v Xp,.v Xn,.a zu,.a zu],[(4,.ptr 0 0),(5,.ptr 1 0)],F7⟩ [Eb] λp s=>nw p.1 p.2.1 p.2.2 s
def Tl:Hints:=Hz [(0,Gt)] [] []
theorem NC:LO Tryz.f234 Gt 0:=lk t175 (rz [2,3]) Tl [] z8
theorem z3d:ze Pz 234 ⟨[.ty zo,.ty zc],[zo],λx=>kY x.1 x.2⟩:=zP t175 (rz [2,3]) Tl Tryz.func234 [0] (zl rfl NC z8)
def t176:=t175.d z3d
def Yu:zi:=Lz [] [Mm 1 (.sl u32),Mm 22 (.sl u32),Mi 23] ⟨[Mm 7 u32,Mi 24,.a u32],[(6,.cur 0 u32)],jH⟩ [⟨.exit 0,⟨[.a u32],[(6,.cur 0 u32)],jH⟩⟩] λp s=>sM p.1 p.2.1 p.2.2 s
def z3X:Hints:=Hz [(0,Yu)] [(3,10,.flat [Mm 10 u32])] [(14,[6])]
theorem ML:LO Tryz.f320 Yu 0:=lk t176 rn z3X [] z8
theorem z0E:ze Pz 320 ⟨[.ty (.sl u32),.ty (.sl u32)],[(.sl u32),.bool],λx=>Ww x.1 x.2⟩:=zP t176 rn z3X Tryz.func320 [0] (zl rfl ML z8)
def t177:=t176.d z0E
theorem z3x:ze Pz 280 ⟨[.ty zc,.ty zc],[zc],λx=>mL x.1 x.2⟩:=zP t177 rn hN Tryz.func280 [] z8
def t178:=t177.d z3x
def Ge:zi:=Lz [.cell 0 1 zu,.cell 1 1 zu] [] ⟨[Mm 6 (.sl zu),Mm 7 (.sl zu),.v Xp,.v Xn,.a zu,.a zu],[(4,.ptr 0 0),(5,.ptr 1 0)],F7⟩ [Eb] λp s=>sj  s
def z2L:Hints:=Hz [(0,Ge)] [(0,6,.flat [Mb 46]),(0,8,.flat [Mb 78]),(2,6,.ways [⟨.normal,⟨[Mm 6 (.sl zu),Mm 7 (.sl zu),.v Xp,.v Xn,.a zu,.a zu,.v (.zj zu)],[],[.var Xp,.var Xn,.arr zu,.arr zu,.var (.zj zu)]⟩⟩])] []
theorem M1:LO Tryz.f233 Ge 0:=lk t178 (rz [2,3]) z2L [] z8
theorem z1s:ze Pz 233 ⟨[.ty zo,.ty zo],[zo],λx=>s7 x.1 x.2⟩:=zP t178 (rz [2,3]) z2L Tryz.func233 [0] (zl rfl M1 z8)
def t179:=t178.d z1s
theorem z1q:ze Pz 291 ⟨[.ty zc,.ty zc],[zc,.bool],λx=>We x.1 x.2⟩:=zP t179 (rz [2]) hN Tryz.func291 [] z8
def t180:=t179.d z1q
def z6f:Hints:=Hz [] [(0,7,.flat [Mb 34])] []
theorem TH:ze Pz 322 ⟨[.ty i64,.ty zo,.ty zo],[zo,i64],λx=>sC x.1 x.2.1 x.2.2⟩:=zP t180 (rz [4,5]) z6f Tryz.func322 [] z8
def t181:=t180.d TH
abbrev SF:=jT [.ty .expr,.ty xC]->T (UP [zo,i64])
abbrev z89(F:SF):=ze Pz 284 ⟨[.ty .expr,.ty xC],[zo,i64],F⟩
theorem Ln(Xd:SF)(Eu:z89 Xd):ze Pz 284 ⟨[.ty .expr,.ty xC],[zo,i64],λx=>oH (λy0 y1=>Xd (y0,y1)) x.1 x.2⟩:=zP (t181.d Eu) (rz [2,3]) hN Tryz.func284 [] z8
theorem z05:ze Pz 284 ⟨[.ty .expr,.ty xC],[zo,i64],λx=>KO x.1 x.2⟩:=J6 (λXd x=>oH (λy0 y1=>Xd (y0,y1)) x.1 x.2) (λx=>rfl) (λXd Eu=>Ln Xd Eu)
def t182:=t181.d z05
theorem z2B:ze Pz 232 ⟨[.ty .expr,.ty xC],[zo,i64],λx=>Kf x.1 x.2⟩:=zP t182 (rz [2,3]) hN Tryz.func232 [] z8
def t183:=t182.d z2B
theorem z4i:ze Pz 162 ⟨[.ty zH,.ty xC],[zo,i64],λx=>tU x.1 x.2⟩:=zP t183 (rz [2,3]) hN Tryz.func162 [] z8
def t184:=t183.d z4i
theorem z1t:ze Pz 236 ⟨[.ty zu],[.bool],λx=>ju x⟩:=zP t184 (rz [1]) hN Tryz.func236 [] z8
def t185:=t184.d z1t
def KD:zi:=Lz [] [Mm 0 (.sl zu),.s 1 (.zK 236 []),Mi 7] jk [xL,bD] λp s=>xR p.1 (λz0=>ju z0) p.2.2 s
def z3z:Hints:=Hz [(0,KD)] [] []
theorem Ml:LO Tryz.f285 KD 0:=lk t185 rn z3z [] z8
theorem z2p:ze Pz 285 ⟨[.ty (.sl zu),.zK 236 []],[i64],λx=>wH x.1 (λz0=>ju z0)⟩:=zP t185 rn z3z Tryz.func285 [0] (zl rfl Ml z8)
def t186:=t185.d z2p
theorem TV:ze Pz 235 ⟨[.ty (.sl zu),.zK 236 []],[.bool],λx=>qJ x.1 (λz0=>ju z0)⟩:=zP t186 rn hN Tryz.func235 [] z8
def t187:=t186.d TV
theorem z0q:ze Pz 163 ⟨[.ty zo],[.bool],λx=>td x⟩:=zP t187 (rz [1]) hN Tryz.func163 [] z8
def t188:=t187.d z0q
def Yk:zi:=Lz [.cell 1 0 zo,.cell 1 1 i64] [Mm 2 (.sl .bool),Mr 3 zF,Mm 52 (.sl zH),Mi 53] ⟨[Mi 54,.v WN,.v GH,.v (.zj xC),.a zo,.a i64],[(6,.ptr 0 0),(11,.ptr 1 0),(12,.ptr 2 0)],KQ⟩ [⟨.exit 0,O6⟩,Oh] λp s=>fT p.1 p.2.1 p.2.2.1 p.2.2.2 s
def Gn:zi:=Lz [] [Mr 3 zF,Mi 92] ⟨[Mi 93,.v WN,.v GH,.v (.zj xC),.a zo,.a i64],[(6,.ptr 0 0),(11,.ptr 1 0),(91,.cur 3 zo)],KQ⟩ [⟨.exit 2,O6⟩,Oh] λp s=>fW p.1 p.2 s
def PQ:Hints:=Hz [(0,Yk),(2,Gn)] [(0,4,.ways [⟨.normal,⟨[Mb 46,.v WN],[],[.var WN]⟩⟩])] []
theorem IL:LO Tryz.f114 Yk 0:=lk t188 (rz [3]) PQ [] z8
theorem IP:LO Tryz.f114 Gn 2:=lk t188 (rz [3]) PQ [] z8
theorem z1T:zE Pz 114 ⟨[.any,.any,.any],⟨[Mm 0 zF,Mm 1 (.sl zc),Mm 2 (.sl .bool)],[],[]⟩,[],⟨[.s 0 GP,Ms 1,Mi 2,.a zo,.a i64],[],[.arr zo,.arr i64]⟩,3,λx=>pK x.1 x.2.1 x.2.2⟩:=k6 t188 (rz [3]) PQ Tryz.func114 [0,2] (zl rfl IL (zl rfl IP z8))
def t189:=t188.s z1T
def z5z:Hints:=Hz [] [(0,1,.ways [⟨.normal,Og⟩])] []
theorem z1R:ze Pz 237 ⟨[.ty .bool,.ty zc],[zc],λx=>tz x.1 x.2⟩:=zP t189 rn z5z Tryz.func237 [] z8
def t190:=t189.d z1R
theorem SI:ze Pz 164 ⟨[.ty zc],[zc],λx=>Wb x⟩:=zP t190 rn hN Tryz.func164 [] z8
def t191:=t190.d SI
theorem z1C:ze Pz 115 ⟨[.ty i64,.ty zc],[zo],λx=>Fu x.1 x.2⟩:=zP t191 (rz [3]) hN Tryz.func115 [] z8
def t192:=t191.d z1C
theorem z6j:zE Pz 67 ⟨[.ptr,.any,.any,.any],⟨[Mi 1,Mm 2 zc,Mi 3,.v rS,.a zo,.a i64,.a i64],[(0,.ptr 0 0)],nP⟩,[],E3,0,λx=>kt x.1 x.2.1 x.2.2.1 x.2.2.2.1 x.2.2.2.2.1 x.2.2.2.2.2.1 x.2.2.2.2.2.2⟩:=k6 t192 (rz [6]) hN Tryz.func67 [] z8
def t193:=t192.s z6j
def DZ:zi:=Lz [.cell 3 7 i64] [Mr 3 q9,Mi 53] ⟨[Mi 54,.a zo,.a i64,.v GP,.v M4,.a i64],[(10,.ptr 3 0),(52,.cur 1 i64)],EZ⟩ [⟨.exit 1,DB⟩] λp s=>eU p.1 p.2 s
def DT:zi:=Lz [] [Mm 74 (.sl zf),Mi 75] ⟨[Mi 76,.a zo,.a i64,.v GP,.v M4,.a i64],[(10,.ptr 3 0)],EZ⟩ [⟨.exit 3,DB⟩] λp s=>fX p.1 p.2 s
def h66:Hints:=Hz [(1,DZ),(3,DT)] [(0,4,.flat [Mb 30]),(3,19,.flat [Mi 15])] []
theorem PC:LO Tryz.f66 DZ 1:=lk t193 (rz [2,3]) h66 [] z8
theorem P7:LO Tryz.f66 DT 3:=lk t193 (rz [2,3]) h66 [] z8
theorem z6q:xe Pz 66 ⟨[.any,.any],⟨[Mm 0 zF,Mm 1 q9],[],[]⟩,[],⟨[Mi 2,.v rS,.a zo,.a i64,.a i64],[(0,.ptr 0 0),(1,.zW)],nP⟩,3,0,⟨[Mm 1 (.sl .str),Mi 2],[(0,.wJ)],[]⟩,some 3,λx=>bI x.1 x.2⟩:=sZ t193 (rz [2,3]) h66 Tryz.func66 [1,3] (zl rfl PC (zl rfl P7 z8))
def t194:=t193.p z6q
def Hr:zi:=Lz [] [Mi 1,Mm 23 (.sl zu),Mi 24] ⟨[Mi 5,Mi 25],[],[]⟩ [xL,Xo] λp s=>Qh p.1 p.2.1 p.2.2 s
def z2q:Hints:=Hz [(0,Hr)] [(0,1,.ways [⟨.normal,⟨[Mb 21],[],[]⟩⟩]),(0,7,.ways [⟨.normal,⟨[Mb 51,.v (.zj zu)],[],[.var (.zj zu)]⟩⟩])] []
theorem LN:LO Tryz.f167 Hr 0:=lk t194 (rz [2]) z2q [] z8
theorem SV:ze Pz 167 ⟨[.ty zo,.ty i64],[.bool],λx=>W6 x.1 x.2⟩:=zP t194 (rz [2]) z2q Tryz.func167 [0] (zl rfl LN z8)
def t195:=t194.d SV
theorem z1D:ze Pz 166 ⟨[.ty zo,.rp i64],[.bool],λx=>uI x.1 x.2⟩:=zP t195 (rz [2]) hN Tryz.func166 [] z8
def t196:=t195.d z1D
def Gc:zi:=Lz [] [Mm 0 (.sl zo),.s 1 (.zK 166 [.rp i64]),Mi 7] jk [xL,bD] λp s=>uu p.1 (λz0=>uI z0 p.2.1) p.2.2 s
def z3o:Hints:=Hz [(0,Gc)] [] []
theorem Lb:LO Tryz.f238 Gc 0:=lk t196 rn z3o [] z8
theorem z1P:ze Pz 238 ⟨[.ty (.sl zo),.zK 166 [.rp i64]],[i64],λx=>jW x.1 (λz0=>uI z0 x.2)⟩:=zP t196 rn z3o Tryz.func238 [0] (zl rfl Lb z8)
def t197:=t196.d z1P
theorem z3R:ze Pz 165 ⟨[.ty (.sl zo),.zK 166 [.rp i64]],[.bool],λx=>uG x.1 (λz0=>uI z0 x.2)⟩:=zP t197 rn hN Tryz.func165 [] z8
def t198:=t197.d z3R
def GJ:zi:=Lz [] [] O7 [⟨.exit 0,⟨[Mi 1,.a i64],[],vg⟩⟩] λp s=>kO  s
def z2f:Hints:=Hz [(0,GJ)] [] []
theorem IX:LO Tryz.f323 GJ 0:=lk t198 rn z2f [] z8
theorem z1J:zE Pz 323 ⟨[.sub,.any],O7,[],⟨[Mi 0,.a i64],[],vg⟩,1,λx=>jF x.1 x.2.1 x.2.2⟩:=k6 t198 rn z2f Tryz.func323 [0] (zl rfl IX z8)
def t199:=t198.s z1J
theorem TI:zE Pz 286 ⟨[.sub,.any,.any],⟨[.s 0 (.sub 0 i64),Mi 1,Mi 2,.a i64],[],vg⟩,[],⟨[Mb 0,.a i64],[],vg⟩,1,λx=>yY x.1 x.2.1 x.2.2.1 x.2.2.2⟩:=k6 t199 rn hN Tryz.func286 [] z8
def t200:=t199.s TI
def KP:zi:=Lz [] [Mm 0 (.sl zo),Mi 1,Mi 18] ⟨[Mi 19,.a i64],[(6,.cur 0 i64)],vg⟩ [⟨.exit 0,⟨[.a i64],[(6,.cur 0 i64)],vg⟩⟩] λp s=>ev p.1 p.2.1 p.2.2 s
def KG:zi:=Lz [] [Mi 1,Mi 9,Mm 27 (.sl zo),Mi 28,Mi 29] ⟨[Mi 8,Mi 11,.a i64,.v (.zj zo)],[(6,.cur 0 i64),(10,.ptr 1 0)],Kx⟩ [⟨.exit 4,⟨[Mi 8,.a i64,.v (.zj zo)],[(6,.cur 0 i64)],Kx⟩⟩] λp s=>eu p.1 p.2.1 p.2.2.1 p.2.2.2.1 p.2.2.2.2 s
def H3:zi:=Lz [] [Mi 1,Mm 27 (.sl zo),Mi 28] ⟨[Mi 8,Mi 29,.a i64],[(6,.cur 0 i64)],vg⟩ [⟨.exit 2,⟨[Mi 8,.a i64],[(6,.cur 0 i64)],vg⟩⟩] λp s=>ez p.1 p.2.1 p.2.2 s
def Iy:Hints:=Hz [(0,KP),(4,KG),(2,H3)] [(0,16,.ways [⟨.normal,⟨[Mb 62,.a i64,.v (.zj zo)],[(6,.cur 0 i64)],Kx⟩⟩])] []
theorem Lu:LO Tryz.f239 KP 0:=lk t200 rn Iy [] z8
theorem NA:LO Tryz.f239 KG 4:=lk t200 rn Iy [] z8
theorem Mn:LO Tryz.f239 H3 2:=lk t200 rn Iy [4] (zl rfl NA z8)
theorem SK:ze Pz 239 ⟨[.ty (.sl zo),.ty i64],[(.sl i64),i64],λx=>nh x.1 x.2⟩:=zP t200 rn Iy Tryz.func239 [0,2] (zl rfl Lu (zl rfl Mn z8))
def t201:=t200.d SK
theorem Tx:ze Pz 168 ⟨[.ty (.sl zo),.ty i64],[i64],λx=>fY x.1 x.2⟩:=zP t201 rn hN Tryz.func168 [] z8
def t202:=t201.d Tx
def h56:Hints:=Hz [] [(0,1,.ZZ)] []
theorem RM:zE Pz 56 ⟨[.any],⟨[Mm 0 (.sl i64)],[],[]⟩,[],Dt,1,λx=>w9 x⟩:=k6 t202 rn h56 Tryz.func56 [] z8
def t203:=t202.s RM
theorem z2v:ze Pz 317 ⟨[.ty (.int .u64),.ty (.int .u64)],[(.int .u64),(.int .u64)],λx=>dV x.1 x.2⟩:=zP t203 rn hN Tryz.func317 [] z8
def t204:=t203.d z2v
theorem z2S:ze Pz 278 ⟨[.ty (.int .u64),.ty (.int .u64)],[(.int .u64),(.int .u64)],λx=>lv x.1 x.2⟩:=zP t204 rn hN Tryz.func278 [] z8
def t205:=t204.d z2S
def GY:zi:=Lz [] [] ⟨[Mi 8,.a i64],[(7,.cur 0 i64)],vg⟩ [⟨.exit 0,⟨[.a i64],[(7,.cur 0 i64)],vg⟩⟩] λp s=>uX  s
def z0H:Hints:=Hz [(0,GY)] [(0,4,.flat [Mb 26])] []
theorem LC:LO Tryz.f226 GY 0:=lk t205 rn z0H [] z8
theorem TO:zE Pz 226 ⟨[.any,.any],⟨[Mm 0 (.sl i64),Mi 1],[],[]⟩,[],Dt,1,λx=>kz x.1 x.2⟩:=k6 t205 rn z0H Tryz.func226 [0] (zl rfl LC z8)
def t206:=t205.s TO
theorem z0r:ze Pz 279 ⟨[.ty zu,.rp i64],[.bool],λx=>ki x.1 x.2⟩:=zP t206 (rz [2]) hN Tryz.func279 [] z8
def t207:=t206.d z0r
def QK:zi:=Lz [] [Mm 0 (.sl zu),.s 1 (.zK 279 [.rp i64]),Mi 7] jk [xL,bD] λp s=>xR p.1 (λz0=>ki z0 p.2.1) p.2.2 s
def EW:Hints:=Hz [(0,QK)] [] []
theorem Bh:LO Tryz.f285 QK 0:=lk t207 rn EW [] z8
theorem Hu:ze Pz 285 ⟨[.ty (.sl zu),.zK 279 [.rp i64]],[i64],λx=>wH x.1 (λz0=>ki z0 x.2)⟩:=zP t207 rn EW Tryz.func285 [0] (zl rfl Bh z8)
def t208:=t207.d Hu
theorem Yf:ze Pz 235 ⟨[.ty (.sl zu),.zK 279 [.rp i64]],[.bool],λx=>qJ x.1 (λz0=>ki z0 x.2)⟩:=zP (t208.d Hu) rn hN Tryz.func235 [] z8
def t209:=t208.d Yf
theorem z4c:ze Pz 227 ⟨[.ty zo,.ty i64],[.bool],λx=>Xr x.1 x.2⟩:=zP (t209.d Yf) (rz [2,3]) hN Tryz.func227 [] z8
def t210:=t209.d z4c
theorem z2G:ze Pz 228 ⟨[.ty (.sl zo),.ty i64],[.bool],λx=>nz x.1 x.2⟩:=zP t210 rn hN Tryz.func228 [] z8
def t211:=t210.d z2G
def Ym:zi:=Lz [] [Mm 0 (.sl zo),Mm 1 (.sl i64),Mi 2,Mm 38 (.sl zo),Mi 39] ⟨[Mi 40,.a i64,.a i64,.v QH],[(8,.ptr 2 0)],Fc⟩ [⟨.exit 0,⟨[.a i64,.a i64,.v QH],[],Fc⟩⟩,⟨.ret,⟨[Mb 7,.a i64,.a i64,.v QH],[(6,.wJ)],Fc⟩⟩] λp s=>c6 p.1 p.2.1 p.2.2.1 p.2.2.2.1 p.2.2.2.2 s
def z3P:Hints:=Hz [(0,Ym)] [(0,1,.flat [Mb 29]),(0,11,.ways [⟨.normal,⟨[Mb 68,.a i64,.a i64,.v QH,.v (.zj zo)],[],[.arr i64,.arr i64,.var QH,.var (.zj zo)]⟩⟩])] []
theorem MI:LO Tryz.f156 Ym 0:=lk t211 rn z3P [] z8
theorem z3p:xe Pz 156 ⟨[.any,.any,.any],⟨[Mm 0 (.sl zo),Mm 1 (.sl i64),Mi 2],[],[]⟩,[],⟨[Mb 1,.v bA,.a i64,.a i64],[(0,.ptr 0 0)],nH⟩,2,0,⟨[Mb 1],[(0,.wJ)],[]⟩,some 2,λx=>kE x.1 x.2.1 x.2.2⟩:=sZ t211 rn z3P Tryz.func156 [0] (zl rfl MI z8)
def t212:=t211.p z3p
def z3y:Hints:=Hz [] [(0,1,.ZZ)] []
theorem EV:ze Pz 56 ⟨[.ty (.sl i64)],[(.sl i64)],λx=>j6 x⟩:=zP t212 rn z3y Tryz.func56 [] z8
def t213:=t212.d EV
theorem z1j:ze Pz 288 ⟨[.ty i64],[.bool],λx=>cmp_isNaN_int x⟩:=zP t213 rn hN Tryz.func288 [] z8
def t214:=t213.d z1j
theorem z1Q:ze Pz 242 ⟨[.ty i64,.ty i64],[i64],λx=>cmp_Compare_int x.1 x.2⟩:=zP t214 rn hN Tryz.func242 [] z8
def t215:=t214.d z1Q
theorem Tc:ze Pz 241 ⟨[.ty i64,.ty i64,.rp (.sl zo)],[i64],λx=>qt x.1 x.2.1 x.2.2⟩:=zP t215 rn hN Tryz.func241 [] z8
def t216:=t215.d Tc
def YD:zi:=Lz [] [Mi 1,Mi 2,.s 3 (.zK 241 [.rp (.sl zo)]),Mi 8] ⟨[.s 0 (.sub 0 i64),Mi 9,.a i64],[],vg⟩ [⟨.exit 2,⟨[.s 0 (.sub 0 i64),.a i64],[],vg⟩⟩] λp s=>xJ p.1 p.2.1 (λz0 z1=>qt z0 z1 p.2.2.1) p.2.2.2 s
def KI:zi:=Lz [] [Mi 1,Mi 2,.s 3 (.zK 241 [.rp (.sl zo)])] ⟨[.s 0 (.sub 0 i64),Mi 8,.a i64],[],vg⟩ [⟨.exit 0,VI⟩] λp s=>xP p.1 p.2.1 (λz0 z1=>qt z0 z1 p.2.2) s
def RC:Hints:=Hz [(2,YD),(0,KI)] [(0,4,.ways [⟨.normal,⟨[.s 0 (.sub 0 i64),Mb 34,.a i64],[],vg⟩⟩])] []
theorem N1:LO Tryz.f324 YD 2:=lk t216 rn RC [] z8
theorem Iz:LO Tryz.f324 KI 0:=lk t216 rn RC [2] (zl rfl N1 z8)
theorem z1k:zE Pz 324 ⟨[.sub,.any,.any,.zK 241],⟨[.s 0 (.sub 0 i64),Mi 1,Mi 2,.s 3 (.zK 241 [.rp (.sl zo)]),.a i64],[],vg⟩,[],VI,0,λx=>qK x.1 x.2.1 x.2.2.1 (λz0 z1=>qt z0 z1 x.2.2.2.1) x.2.2.2.2⟩:=k6 t216 rn RC Tryz.func324 [0] (zl rfl Iz z8)
def t217:=t216.s z1k
def GZ:zi:=Lz [] [Mi 1,.s 2 (.zK 241 [.rp (.sl zo)]),Mi 6] Oc [⟨.exit 0,NO⟩] λp s=>vi p.1 (λz0 z1=>qt z0 z1 p.2.1) p.2.2 s
def Ho:zi:=Lz [] [Mi 1,.s 2 (.zK 241 [.rp (.sl zo)]),Mi 6] Oc [⟨.exit 4,NO⟩] λp s=>vf p.1 (λz0 z1=>qt z0 z1 p.2.1) p.2.2 s
def Hs:zi:=Lz [] [Mi 1,.s 2 (.zK 241 [.rp (.sl zo)])] ⟨[.s 0 (.sub 0 i64),Mi 6,.a i64],[],vg⟩ [⟨.exit 2,VI⟩] λp s=>vc p.1 (λz0 z1=>qt z0 z1 p.2) s
def Il:Hints:=Hz [(0,GZ),(4,Ho),(2,Hs)] [] []
theorem NB:LO Tryz.f287 GZ 0:=lk t217 rn Il [] z8
theorem LK:LO Tryz.f287 Ho 4:=lk t217 rn Il [] z8
theorem IV:LO Tryz.f287 Hs 2:=lk t217 rn Il [4] (zl rfl LK z8)
theorem z4x:zE Pz 287 ⟨[.sub,.any,.zK 241],⟨[.s 0 (.sub 0 i64),Mi 1,.s 2 (.zK 241 [.rp (.sl zo)]),.a i64],[],vg⟩,[],VI,0,λx=>uL x.1 x.2.1 (λz0 z1=>qt z0 z1 x.2.2.1) x.2.2.2⟩:=k6 t217 rn Il Tryz.func287 [0,2] (zl rfl NB (zl rfl IV z8))
def t218:=t217.s z4x
theorem z0M:zE Pz 240 ⟨[.sub,.zK 241],⟨[.s 0 (.sub 0 i64),.s 1 (.zK 241 [.rp (.sl zo)]),.a i64],[],vg⟩,[],VI,0,λx=>wX x.1 (λz0 z1=>qt z0 z1 x.2.1) x.2.2⟩:=k6 t218 rn hN Tryz.func240 [] z8
def t219:=t218.s z0M
def Cl:zi:=Lz [] [Mm 0 (.sl i64),Mm 1 (.sl i64),Mi 12] Ko [xL,Xo] λp s=>ke p.1 p.2.1 p.2.2 s
def h22:Hints:=Hz [(0,Cl)] [] []
theorem OZ:LO Tryz.f22 Cl 0:=lk t219 rn h22 [] z8
theorem z7M:ze Pz 22 ⟨[.ty (.sl i64),.ty (.sl i64)],[.bool],λx=>j7 x.1 x.2⟩:=zP t219 rn h22 Tryz.func22 [0] (zl rfl OZ z8)
def t220:=t219.d z7M
abbrev B5:=qz.den Ut->T (qz.den Ug)
abbrev PE(F:B5):=zE Pz 283 ⟨kU,Ut,[],Ug,1,F⟩
def z2W(jR:B5)(pn:PE jR):Tb:=t220.s pn
def Hn(jR:B5):zi:=Lz [] [Mi 1,Mm 33 (.sl zu),Mi 34] ⟨[Mi 6,Mi 35,.v bA,.a i64,.a i64],[(0,.ptr 0 0)],nH⟩ [⟨.exit 0,⟨[Mi 6,.v bA,.a i64,.a i64],[],nH⟩⟩] λp s=>jn (λy0 y1 y2 y3=>jR (y0,y1,y2,y3)) p.1 p.2.1 p.2.2 s
def z2i(jR:B5):Hints:=Hz [(0,Hn jR)] [] []
theorem Nn(jR:B5)(pn:PE jR):LO Tryz.f283 (Hn jR) 0:=lk (z2W jR pn) rn (z2i jR) [] z8
theorem MJ(jR:B5)(pn:PE jR):zE Pz 283 ⟨kU,Ut,[],Ug,1,λx=>wU (λy0 y1 y2 y3=>jR (y0,y1,y2,y3)) x.1 x.2.1 x.2.2.1 x.2.2.2⟩:=k6 (z2W jR pn) rn (z2i jR) Tryz.func283 [0] (zl rfl (Nn jR pn) z8)
theorem z3s:zE Pz 283 ⟨kU,Ut,[],Ug,1,λx=>vR x.1 x.2.1 x.2.2.1 x.2.2.2⟩:=WG (λjR x=>wU (λy0 y1 y2 y3=>jR (y0,y1,y2,y3)) x.1 x.2.1 x.2.2.1 x.2.2.2) (λx=>rfl) (λjR pn=>MJ jR pn)
def t221:=t220.s z3s
def YZ:zi:=Lz [] [Mm 27 (.sl zu),Mi 28] ⟨[Mi 7,Mi 8,Mi 29,.v U9,.v .mp,.a i64,.a i64],[(0,.ptr 0 0),(2,.w8 1)],G0⟩ [⟨.exit 0,⟨[Mi 7,.v U9,.v .mp,.a i64,.a i64],[],G0⟩⟩] λp s=>uY p.1 p.2 s
def Tz:Hints:=Hz [(0,YZ)] [(0,6,.flat [Mb 46])] []
theorem Nf:LO Tryz.f230 YZ 0:=lk t221 rn Tz [] z8
theorem z2H:zE Pz 230 ⟨pH,⟨[Mi 1,.v U9,.v .mp,.a i64,.a i64],[(0,.ptr 0 0),(2,.w8 1)],G0⟩,[],⟨[Mi 0,.v U9,.v .mp,.a i64,.a i64],[],G0⟩,1,λx=>kf x.1 x.2.1 x.2.2.1 x.2.2.2.1 x.2.2.2.2⟩:=k6 t221 rn Tz Tryz.func230 [0] (zl rfl Nf z8)
def t222:=t221.s z2H
def Yr:zi:=Lz [] [Mi 6,Mm 54 (.sl zu),Mi 55] ⟨[Mi 56,.v bA,.a i64,.a i64,.v .mp],[(0,.ptr 0 0),(4,.w8 3)],DK⟩ [⟨.exit 2,YT⟩] λp s=>uk p.1 p.2.1 p.2.2 s
def Hp:zi:=Lz [] [] ⟨[Mi 1,.v bA,.a i64,.a i64,.v .mp],[(0,.ptr 0 0),(4,.w8 3)],DK⟩ [⟨.exit 0,YT⟩,⟨.ret,YT⟩] λp s=>uo  s
def Rs:Hints:=Hz [(2,Yr),(0,Hp)] [(3,5,.ways [⟨.normal,YT⟩])] []
theorem N6:LO Tryz.f243 Yr 2:=lk t222 rn Rs [] z8
theorem Iw:LO Tryz.f243 Hp 0:=lk t222 rn Rs [2] (zl rfl N6 z8)
theorem Td:zE Pz 243 ⟨kU,Ut,[],⟨[.v bA,.a i64,.a i64],[],nH⟩,0,λx=>jP x.1 x.2.1 x.2.2.1 x.2.2.2⟩:=k6 t222 rn Rs Tryz.func243 [0] (zl rfl Iw z8)
def t223:=t222.s Td
def IG:Tb:=t223.d EV
def H6:zi:=Lz [.slot 10 i64] [Mr 3 (.sl zo),Mi 27] ⟨[Mi 28,.v bA,.a i64,.a i64,.a i64],[(8,.ptr 0 0),(10,.cur 3 i64)],Qv⟩ [⟨.exit 0,Ol⟩] λp s=>eA p.1 p.2 s
def Yv:zi:=Lz [] [.s 12 (.bu i64),Mi 57] ⟨[Mi 58,.v bA,.a i64,.a i64,.a i64],[(8,.ptr 0 0),(10,.cur 3 i64),(56,.cur 3 i64)],Qv⟩ [⟨.exit 4,Ol⟩] λp s=>dX p.1 p.2 s
def YF:zi:=Lz [] [] ⟨[.s 12 (.bu i64),.v bA,.a i64,.a i64,.a i64],[(8,.ptr 0 0),(10,.cur 3 i64)],Qv⟩ [⟨.exit 2,⟨[.v bA,.a i64,.a i64,.a i64],[],Qv⟩⟩] λp s=>ek  s
def NH:Hints:=Hz [(0,H6),(4,Yv),(2,YF)] [(0,12,.ways [⟨.normal,⟨[Mb 49,.v bA,.a i64,.a i64,.a i64],[(10,.cur 3 i64)],Qv⟩⟩])] []
theorem IF:LO Tryz.f169 H6 0:=lk IG (rz [3,50]) NH [] z8
theorem Nt:LO Tryz.f169 Yv 4:=lk IG (rz [3,50]) NH [] z8
theorem IE:LO Tryz.f169 YF 2:=lk IG (rz [3,50]) NH [4] (zl rfl Nt z8)
theorem SS:ze Pz 169 ⟨[.ty (.sl zo),.ty (.sl i64),.ty i64],[(.sl i64),.bool],λx=>nm x.1 x.2.1 x.2.2⟩:=zP IG (rz [3,50]) NH Tryz.func169 [0,2] (zl rfl IF (zl rfl IE z8))
def t224:=t223.d SS
theorem z2D:ze Pz 170 ⟨[.ty zo],[.bool],λx=>ZC x⟩:=zP t224 (rz [1]) hN Tryz.func170 [] z8
def t225:=t224.d z2D
theorem TT:ze Pz 109 ⟨[.ty (.sl zo),.ty (.sl i64),.ty i64],[.bool],λx=>np x.1 x.2.1 x.2.2⟩:=zP t225 rn hN Tryz.func109 [] z8
def t226:=t225.d TT
def Yp:zi:=Lz [] [Mm 0 (.sl i64),Mi 1,Mi 7] jk [xL,bD] λp s=>kC p.1 p.2.1 p.2.2 s
def z2E:Hints:=Hz [(0,Yp)] [] []
theorem Lo:LO Tryz.f118 Yp 0:=lk t226 rn z2E [] z8
theorem z3e:ze Pz 118 ⟨[.ty (.sl i64),.ty i64],[i64],λx=>yU x.1 x.2⟩:=zP t226 rn z2E Tryz.func118 [0] (zl rfl Lo z8)
def t227:=t226.d z3e
theorem z1V:ze Pz 108 ⟨[.ty (.sl i64),.ty i64],[.bool],λx=>vr x.1 x.2⟩:=zP t227 rn hN Tryz.func108 [] z8
def t228:=t227.d z1V
theorem z2z:zE Pz 290 ⟨[.any,.any,.any,.ptr],⟨[Mm 0 zu,Mr 1 (.sl i64),Mr 2 i64,.a i64],[(3,.ptr 0 0)],[.cvar (.cur 1 i64),.arr i64]⟩,[],FW,1,λx=>cd x.1 x.2.1 x.2.2.1 x.2.2.2⟩:=k6 t228 (rz [4]) hN Tryz.func290 [] z8
def t229:=t228.s z2z
def Qn:zi:=Lz [] [Mm 0 (.sl zu),Mi 7] ⟨[.s 1 (.mclo 290 [.rp (.sl i64),.rp i64,.pt 0]),Mi 8,.a i64],[],[.cvar (.cur 1 i64),.arr i64]⟩ [⟨.exit 0,⟨[.a i64],[],[.cvar (.cur 1 i64),.arr i64]⟩⟩,⟨.ret,⟨[Mi 4,.a i64],[],[.cvar (.cur 1 i64),.arr i64]⟩⟩] λp s=>qH p.1 p.2 s
def EI:Hints:=Hz [(0,Qn)] [] []
theorem HR:LO Tryz.f285 Qn 0:=lk t229 rn EI [] z8
theorem Gm:zE Pz 285 ⟨[.any,.zK 290],Ob,[],⟨[Mi 0,.a i64],[],[.cvar (.cur 1 i64),.arr i64]⟩,1,λx=>qS x.1 x.2.1 x.2.2⟩:=k6 t229 rn EI Tryz.func285 [0] (zl rfl HR z8)
def t230:=t229.s Gm
theorem YU:zE Pz 235 ⟨[.any,.zK 290],Ob,[],FW,1,λx=>qG x.1 x.2.1 x.2.2⟩:=k6 (t230.s Gm) rn hN Tryz.func235 [] z8
def t231:=t230.s YU
theorem Tn:zE Pz 289 ⟨[.any,.ptr,.any,.any],⟨[Mi 0,Mr 2 (.sl zo),Mr 3 (.sl i64),.a i64],[(1,.ptr 0 0)],[.cvar (.cur 1 i64),.arr i64]⟩,[],FW,1,λx=>fx x.1 x.2.1 x.2.2.1 x.2.2.2⟩:=k6 (t231.s YU) (rz [4]) hN Tryz.func289 [] z8
def t232:=t231.s Tn
def z1p:Tb:=t232.s RM
def YI:zi:=Lz [.slot 9 i64] [Mr 3 (.sl zo)] ⟨[.s 8 (.mclo 289 [.pt 1,.rp (.sl zo),.rp (.sl i64)]),Mi 10,.a i64,.a i64],[(7,.ptr 1 0),(9,.cur 2 i64)],[.arr i64,.cvar (.cur 0 i64),.arr i64]⟩ [⟨.exit 0,⟨[.a i64,.a i64],[(9,.cur 2 i64)],[.arr i64,.cvar (.cur 0 i64),.arr i64]⟩⟩] λp s=>nQ p s
def z3C:Hints:=Hz [(0,YI)] [] []
theorem L1:LO Tryz.f244 YI 0:=lk z1p (rz [3,4]) z3C [] z8
theorem z0P:ze Pz 244 ⟨[.ty (.sl zo),.ty (.sl i64),.ty i64],[(.sl i64)],λx=>X3 x.1 x.2.1 x.2.2⟩:=zP z1p (rz [3,4]) z3C Tryz.func244 [0] (zl rfl L1 z8)
def t233:=t232.d z0P
def Ye:zi:=Lz [] [Mi 1,Mm 18 (.sl zu),Mi 19] ⟨[Mi 20,.a zc,.v (.zj zc),.v (.zj zc),.v (.zj zc)],[(2,.cur 0 zc),(6,.ptr 1 0),(7,.ptr 2 0),(8,.ptr 3 0)],CV⟩ [⟨.exit 0,⟨[.a zc,.v (.zj zc),.v (.zj zc),.v (.zj zc)],[],CV⟩⟩] λp s=>fE p.1 p.2.1 p.2.2 s
def TE:Hints:=Hz [(0,Ye)] [] []
theorem My:LO Tryz.f245 Ye 0:=lk t233 (rz [3]) TE [] z8
theorem z0Z:zE Pz 245 ⟨[.any,.any,.cur],⟨[Mm 0 zo,Mi 1,.a zc],[(2,.cur 0 zc)],lB⟩,[],⟨[Mm 0 zc,.a zc],[],lB⟩,1,λx=>pI x.1 x.2.1 x.2.2⟩:=k6 t233 (rz [3]) TE Tryz.func245 [0] (zl rfl My z8)
def t234:=t233.s z0Z
def G7:zi:=Lz [.slot 9 zc] [Mm 0 (.sl zo),Mm 1 (.sl i64),Mm 2 (.sl zc),Mm 21 (.sl zc),Mi 22] ⟨[Mi 23,.a zc],[(9,.cur 0 zc)],lB⟩ [⟨.exit 0,FF⟩] λp s=>sB p.1 p.2.1 p.2.2.1 p.2.2.2.1 p.2.2.2.2 s
def YY:zi:=Lz [] [Mm 0 (.sl zo),Mm 1 (.sl i64),Mm 37 (.sl i64),Mi 38] ⟨[Mi 39,.a zc],[(9,.cur 0 zc)],lB⟩ [⟨.exit 2,FF⟩,⟨.ret,⟨[Mi 7,Mi 8,.a zc],[(6,.zW)],lB⟩⟩] λp s=>tq p.1 p.2.1 p.2.2.1 p.2.2.2 s
def OP:Hints:=Hz [(0,G7),(2,YY)] [] []
theorem MO:LO Tryz.f171 G7 0:=lk t234 rn OP [] z8
theorem N8:LO Tryz.f171 YY 2:=lk t234 rn OP [] z8
theorem z1E:ze Pz 171 ⟨[.ty (.sl zo),.ty (.sl i64),.ty (.sl zc)],[(.sl zc),i64,i64],λx=>G9 x.1 x.2.1 x.2.2⟩:=zP t234 rn OP Tryz.func171 [0,2] (zl rfl MO (zl rfl N8 z8))
def t235:=t234.d z1E
def Gj:zi:=Lz [] [Mm 0 (.sl zo),Mr 3 qA,Mm 9 (.sl i64),Mm 62 (.sl zo),Mi 63] ⟨[Mi 64,.v (.zj qA),.v (.zj i64)],[(4,.ptr 0 0)],Yy⟩ [⟨.exit 0,⟨[.v (.zj qA),.v (.zj i64)],[],Yy⟩⟩,⟨.ret,⟨[Mi 5,Mi 6,.v (.zj qA),.v (.zj i64)],[],Yy⟩⟩] λp s=>fK p.1 p.2.1 p.2.2.1 p.2.2.2.1 p.2.2.2.2 s
def z1U:Hints:=Hz [(0,Gj)] [(0,2,.ways [⟨.normal,⟨[Mb 42,.v (.zj qA),.v (.zj i64)],[],Yy⟩⟩]),(0,13,.ways [⟨.normal,⟨[Mb 83,.v (.zj qA),.v (.zj i64),.v (.zj zo)],[],[.var (.zj qA),.var (.zj i64),.var (.zj zo)]⟩⟩])] []
theorem M3:LO Tryz.f116 Gj 0:=lk t235 (rz [3]) z1U [] z8
theorem z2k:ze Pz 116 ⟨[.ty (.sl zo),.ty qA],[qA,i64,i64],λx=>rj x.1 x.2⟩:=zP t235 (rz [3]) z1U Tryz.func116 [0] (zl rfl M3 z8)
def t236:=t235.d z2k
theorem TF:zE Pz 117 ⟨kU,⟨[Mi 1,.v (.zj qv)],[(0,.ptr 0 0)],UD⟩,[],⟨[Mm 0 (.sl .str),.v (.zj qv)],[],UD⟩,1,λx=>bX x.1 x.2⟩:=k6 t236 rn hN Tryz.func117 [] z8
def t237:=t236.s TF
theorem z6X:zE Pz 68 ⟨kU,⟨[Mm 1 (.sl zc),.v (.zj qv)],[(0,.ptr 0 0)],UD⟩,[],⟨[Mm 0 (.sl zc),Mm 1 (.sl .str),Mi 2,.v (.zj qv)],[],UD⟩,3,λx=>vo x.1 x.2⟩:=k6 t237 rn hN Tryz.func68 [] z8
def t238:=t237.s z6X
def z3W:Hints:=Hz [] [(0,1,.ZZ)] []
theorem Eo:zE Pz 54 ⟨[.any],⟨[Mm 0 (.sl zc)],[],[]⟩,[],Cr,1,λx=>vP x⟩:=k6 t238 rn z3W Tryz.func54 [] z8
def t239:=t238.s Eo
def h55:Hints:=Hz [] [(0,1,.ZZ)] []
theorem z73:zE Pz 55 ⟨[.any],⟨[Mm 0 (.sl .bool)],[],[]⟩,[],Dd,1,λx=>vv x⟩:=k6 t239 rn h55 Tryz.func55 [] z8
def t240:=t239.s z73
def h57:Hints:=Hz [] [(0,1,.ZZ)] []
theorem z7t:zE Pz 57 ⟨[.any],⟨[Mm 0 (.sl zf)],[],[]⟩,[],F2,1,λx=>j3 x⟩:=k6 t240 rn h57 Tryz.func57 [] z8
def t241:=t240.s z7t
theorem z5X:zE Pz 25 ⟨[.any],F6,[],⟨[.s 0 Oz,.a zc,.a .bool,.a zc,.a i64,.a zf,.a .bool],[],DI⟩,1,λx=>QL x⟩:=k6 ((t241.s RM).s Eo) (rz [1]) hN Tryz.func25 [] z8
def t242:=t241.s z5X
def DG:zi:=Lz [] [Mi 17] ⟨[Mi 18,.v (.zj qv),.v Ct,.v (.zj q9),.a zc,.a .bool,.a zc,.a i64,.a zf,.a .bool],[(0,.ptr 0 0),(4,.ptr 1 0),(6,.ptr 2 0)],Cn⟩ [⟨.exit 0,NV⟩] λp s=>yB p s
def Ew:zi:=Lz [] [Mm 29 (.sl i64),Mi 30] ⟨[Mi 31,.v (.zj qv),.v Ct,.v (.zj q9),.a zc,.a .bool,.a zc,.a i64,.a zf,.a .bool],[(0,.ptr 0 0),(4,.ptr 1 0),(6,.ptr 2 0)],Cn⟩ [⟨.exit 2,NV⟩] λp s=>yD p.1 p.2 s
def h69:Hints:=Hz [(0,DG),(2,Ew)] [] []
theorem OS:LO Tryz.f69 DG 0:=lk t242 rn h69 [] z8
theorem Rb:LO Tryz.f69 Ew 2:=lk t242 rn h69 [] z8
theorem z7E:zE Pz 69 ⟨pH,⟨[Mm 1 q9,Mm 2 (.sl zc),.v (.zj qv)],[(0,.ptr 0 0)],UD⟩,[],⟨[.s 0 (.st [.row 1 zc,.row 2 .bool,.im (.sl zc),.row 3 i64,.row 4 zf,.row 5 .bool]),.v (.zj qv),.a zc,.a .bool,.a i64,.a zf,.a .bool],[],[.var (.zj qv),.arr zc,.arr .bool,.arr i64,.arr zf,.arr .bool]⟩,1,λx=>kb x.1 x.2.1 x.2.2⟩:=k6 t242 rn h69 Tryz.func69 [0,2] (zl rfl OS (zl rfl Rb z8))
def t243:=t242.s z7E
def h71:Hints:=Hz [] [] [(4,[1001006,1001007,1001008])]
theorem z6h:ze Pz 71 ⟨[.ty zF,.ty q9],[q9,(.sl .str),i64],λx=>Zh x.1 x.2⟩:=zP t243 (rz [2,3]) h71 Tryz.func71 [] z8
def t244:=t243.d z6h
def Fx:zi:=Lz [.cell 0 1 .bool,.cell 0 5 .bool,.cell 1 1 .bool,.cell 1 5 .bool,.cell 0 4 zf,.cell 1 4 zf,.cell 0 3 i64,.cell 1 3 i64,.cell 0 0 zc,.cell 0 2 zc,.cell 1 0 zc,.cell 1 2 zc] [Mr 1 zF,Mm 11 (.sl zB),Mi 12] ⟨[Mi 13,.v G6,.v H9,.a .bool,.a .bool,.a .bool,.a .bool,.a zf,.a zf,.a i64,.a i64,.a zc,.a zc,.a zc,.a zc],[(2,.ptr 0 0),(5,.ptr 1 0)],Ej⟩ [⟨.exit 0,Nz⟩] λp s=>tB p.1 p.2.1 p.2.2 s
def Fl:zi:=Lz [] [Mr 1 zF,Mm 27 (.sl zr),Mi 28] ⟨[Mi 29,.v G6,.v H9,.a .bool,.a .bool,.a .bool,.a .bool,.a zf,.a zf,.a i64,.a i64,.a zc,.a zc,.a zc,.a zc],[(2,.ptr 0 0),(5,.ptr 1 0)],Ej⟩ [⟨.exit 2,Nz⟩] λp s=>sU p.1 p.2.1 p.2.2 s
def Fk:zi:=Lz [] [Mr 1 zF,Mi 43] ⟨[Mi 44,.v G6,.v H9,.a .bool,.a .bool,.a .bool,.a .bool,.a zf,.a zf,.a i64,.a i64,.a zc,.a zc,.a zc,.a zc],[(2,.ptr 0 0),(5,.ptr 1 0)],Ej⟩ [⟨.exit 4,Nz⟩] λp s=>Za p.1 p.2 s
def Ce:zi:=Lz [] [Mr 1 zF,Mi 67] ⟨[Mi 68,.v G6,.v H9,.a .bool,.a .bool,.a .bool,.a .bool,.a zf,.a zf,.a i64,.a i64,.a zc,.a zc,.a zc,.a zc],[(2,.ptr 0 0),(5,.ptr 1 0)],Ej⟩ [⟨.exit 6,Nz⟩] λp s=>ss p.1 p.2 s
def h60:Hints:=Hz [(0,Fx),(2,Fl),(4,Fk),(6,Ce)] [] [(22,[1001000,1001001,1001002,1001003,1001004,1001005])]
theorem Re:LO Tryz.f60 Fx 0:=lk t244 (rz [1]) h60 [] z8
theorem PS:LO Tryz.f60 Fl 2:=lk t244 (rz [1]) h60 [] z8
theorem Pg:LO Tryz.f60 Fk 4:=lk t244 (rz [1]) h60 [] z8
theorem PR:LO Tryz.f60 Ce 6:=lk t244 (rz [1]) h60 [] z8
theorem z6e:ze Pz 60 ⟨[.ty zF],[q9,(.sl .str),i64],λx=>YV x⟩:=zP t244 (rz [1]) h60 Tryz.func60 [0,2,4,6] (zl rfl Re (zl rfl PS (zl rfl Pg (zl rfl PR z8))))
def t245:=t244.d z6e
theorem z0k:ze Pz 120 ⟨[.ty zr,.rp zO],[.bool],λx=>uP x.1 x.2⟩:=zP t245 (rz [2]) hN Tryz.func120 [] z8
def t246:=t245.d z0k
def UB:zi:=Lz [] [Mm 0 (.sl zr),.s 1 (.zK 120 [.rp zO]),Mi 7] jk [xL,bD] λp s=>qg p.1 (λz0=>uP z0 p.2.1) p.2.2 s
def Od:Hints:=Hz [(0,UB)] [] []
theorem Er:LO Tryz.f75 UB 0:=lk t246 rn Od [] z8
theorem ET:ze Pz 75 ⟨[.ty (.sl zr),.zK 120 [.rp zO]],[i64],λx=>zY x.1 (λz0=>uP z0 x.2)⟩:=zP t246 rn Od Tryz.func75 [0] (zl rfl Er z8)
def t247:=t246.d ET
def T77:Tb:=t247.d ET
def D4:zi:=Lz [.slot 5 .bool] [Mm 1 (.sl .bool),Mr 2 zF,Mm 10 (.sl zO),Mi 11] ⟨[Mi 12,.a .bool],[(5,.cur 0 .bool)],[.arr .bool]⟩ [FI] λp s=>cT p.1 p.2.1 p.2.2.1 p.2.2.2 s
def h77:Hints:=Hz [(0,D4)] [] []
theorem PX:LO Tryz.f77 D4 0:=lk T77 (rz [2]) h77 [] z8
theorem z83:ze Pz 77 ⟨[.ty zF,.ty (.sl .bool)],[(.sl .bool)],λx=>lx x.1 x.2⟩:=zP T77 (rz [2]) h77 Tryz.func77 [0] (zl rfl PX z8)
def t248:=t247.d z83
def h61:Hints:=Hz [] [(0,2,.flat [Mb 28])] []
theorem z7B:ze Pz 61 ⟨[.ty zF,.ty (.sl .bool),.ty i64],[i64],λx=>n0 x.1 x.2.1 x.2.2⟩:=zP t248 (rz [3]) h61 Tryz.func61 [] z8
def t249:=t248.d z7B
theorem z7V:xe Pz 26 ⟨[.any],⟨[Mm 0 zF],[],[]⟩,[],⟨[Ms 1,Mi 2,.v (.zj zx)],[(0,.ptr 0 0)],Xu⟩,3,0,⟨[Ms 1,Mi 2],[(0,.wJ)],[]⟩,some 3,λx=>mG x⟩:=sZ t249 rn hN Tryz.func26 [] z8
def t250:=t249.p z7V
theorem z1i:ze Pz 102 ⟨[.ty zw,.rp .str],[.bool],λx=>gu x.1 x.2⟩:=zP t250 (rz [2]) hN Tryz.func102 [] z8
def t251:=t250.d z1i
def Hk:zi:=Lz [] [Mm 0 (.sl zw),.s 1 (.zK 102 [.rp .str]),Mi 7] jk [xL,bD] λp s=>vB p.1 (λz0=>gu z0 p.2.1) p.2.2 s
def z4p:Hints:=Hz [(0,Hk)] [] []
theorem Ls:LO Tryz.f101 Hk 0:=lk t251 rn z4p [] z8
theorem z2e:ze Pz 101 ⟨[.ty (.sl zw),.zK 102 [.rp .str]],[i64],λx=>uU x.1 (λz0=>gu z0 x.2)⟩:=zP t251 rn z4p Tryz.func101 [0] (zl rfl Ls z8)
def t252:=t251.d z2e
theorem z6p:ze Pz 63 ⟨[.ty zF,.ty .str],[i64],λx=>Qr x.1 x.2⟩:=zP t252 (rz [2,3]) hN Tryz.func63 [] z8
def t253:=t252.d z6p
theorem z5F:ze Pz 65 ⟨[.ty zc],[.bool],λx=>gw x⟩:=zP t253 (rz [1]) hN Tryz.func65 [] z8
def t254:=t253.d z5F
theorem z14:ze Pz 104 ⟨[.ty zc],[.bool],λx=>gK x⟩:=zP t254 (rz [1]) hN Tryz.func104 [] z8
def t255:=t254.d z14
def X2:zi:=Lz [] [Mm 0 (.sl zc),.s 1 (.zK 104 []),Mi 7] jk [xL,bD] λp s=>w0 p.1 (λz0=>gK z0) p.2.2 s
def FQ:Hints:=Hz [(0,X2)] [] []
theorem HZ:LO Tryz.f153 X2 0:=lk t255 rn FQ [] z8
theorem KH:ze Pz 153 ⟨[.ty (.sl zc),.zK 104 []],[i64],λx=>wS x.1 (λz0=>gK z0)⟩:=zP t255 rn FQ Tryz.func153 [0] (zl rfl HZ z8)
def t256:=t255.d KH
theorem GK:ze Pz 103 ⟨[.ty (.sl zc),.zK 104 []],[.bool],λx=>qs x.1 (λz0=>gK z0)⟩:=zP (t256.d KH) rn hN Tryz.func103 [] z8
def t257:=t256.d GK
theorem z2O:ze Pz 107 ⟨[.ty zf],[.bool],λx=>QS x⟩:=zP t257 (rz [1]) hN Tryz.func107 [] z8
def t258:=t257.d z2O
theorem z1v:ze Pz 106 ⟨[.ty zf],[.bool],λx=>gJ x⟩:=zP t258 (rz [1]) hN Tryz.func106 [] z8
def t259:=t258.d z1v
def GB:zi:=Lz [] [Mm 0 (.sl zf),.s 1 (.zK 106 []),Mi 7] jk [xL,bD] λp s=>wT p.1 (λz0=>gJ z0) p.2.2 s
def z1l:Hints:=Hz [(0,GB)] [] []
theorem Na:LO Tryz.f154 GB 0:=lk t259 rn z1l [] z8
theorem z1n:ze Pz 154 ⟨[.ty (.sl zf),.zK 106 []],[i64],λx=>uf x.1 (λz0=>gJ z0)⟩:=zP t259 rn z1l Tryz.func154 [0] (zl rfl Na z8)
def t260:=t259.d z1n
theorem z27:ze Pz 105 ⟨[.ty (.sl zf),.zK 106 []],[.bool],λx=>xj x.1 (λz0=>gJ z0)⟩:=zP t260 rn hN Tryz.func105 [] z8
def t261:=t260.d z27
def Yi:zi:=Lz [] [Mm 1 (.sl zc),Mm 12 (.sl zu),Mi 13] ⟨[Mi 14,.v (.zj zc),.v (.zj zc)],[(4,.ptr 0 0),(5,.ptr 1 0)],[.var (.zj zc),.var (.zj zc)]⟩ [⟨.exit 0,Og⟩] λp s=>Xf p.1 p.2.1 p.2.2 s
def z4s:Hints:=Hz [(0,Yi)] [] []
theorem LX:LO Tryz.f229 Yi 0:=lk t261 (rz [2]) z4s [] z8
theorem z4r:ze Pz 229 ⟨[.ty zo,.ty (.sl zc)],[zc],λx=>F9 x.1 x.2⟩:=zP t261 (rz [2]) z4s Tryz.func229 [0] (zl rfl LX z8)
def t262:=t261.d z4r
theorem TR:ze Pz 157 ⟨[.ty zo,.ty (.sl zc)],[.bool],λx=>rh x.1 x.2⟩:=zP t262 (rz [2]) hN Tryz.func157 [] z8
def t263:=t262.d TR
def QT:zi:=Lz [] [Mm 27 (.sl zu),Mi 28] ⟨[Mi 7,Mi 8,Mi 29,.v bA,.a i64,.a i64],[(0,.ptr 0 0),(2,.qC)],nH⟩ [⟨.exit 0,⟨[Mi 7,.v bA,.a i64,.a i64],[],nH⟩⟩] λp s=>uc p.1 p.2 s
def Fy:Hints:=Hz [(0,QT)] [(0,6,.flat [Mb 46])] []
theorem Be:LO Tryz.f230 QT 0:=lk t263 rn Fy [] z8
theorem Yh:zE Pz 230 ⟨pH,⟨[Mi 1,.v bA,.a i64,.a i64],[(0,.ptr 0 0),(2,.qC)],nH⟩,[],Ug,1,λx=>jm x.1 x.2.1 x.2.2.1 x.2.2.2⟩:=k6 t263 rn Fy Tryz.func230 [0] (zl rfl Be z8)
def t264:=t263.s Yh
theorem z3f:ze Pz 158 ⟨[.ty (.sl zo),.ty (.sl i64),.ty i64,.ty i64],[.bool],λx=>lD x.1 x.2.1 x.2.2.1 x.2.2.2⟩:=zP (t264.s Yh) rn hN Tryz.func158 [] z8
def t265:=t264.d z3f
def z81:Hints:=Hz [] [(0,4,.ways [⟨.normal,⟨[Mb 8,.v rS,.a zo,.a i64,.a i64,.v (.zj zo)],[],[.var rS,.arr zo,.arr i64,.arr i64,.var (.zj zo)]⟩⟩])] []
theorem Ss:zE Pz 110 ⟨pH,⟨[Mi 1,Mm 2 (.sl zc),.v rS,.a zo,.a i64,.a i64],[(0,.ptr 0 0)],nP⟩,[],⟨[Mb 0,.v rS,.a zo,.a i64,.a i64],[],nP⟩,1,λx=>gi x.1 x.2.1 x.2.2.1 x.2.2.2.1 x.2.2.2.2.1 x.2.2.2.2.2⟩:=k6 t265 rn z81 Tryz.func110 [] z8
def t266:=t265.s Ss
def T64:Tb:=t266.d GK
def E0:zi:=Lz [] [Mr 3 q9,Mm 31 (.sl i64),Mi 32] ⟨[Mi 33,.v rS,.a zo,.a i64,.a i64],[(5,.ptr 0 0)],nP⟩ [⟨.exit 0,E3⟩,On] λp s=>X7 p.1 p.2.1 p.2.2 s
def E8:zi:=Lz [] [Mr 3 q9,Mi 67] ⟨[Mi 68,.v rS,.a zo,.a i64,.a i64],[(5,.ptr 0 0)],nP⟩ [⟨.exit 2,E3⟩,On] λp s=>Qm p.1 p.2 s
def h64:Hints:=Hz [(0,E0),(2,E8)] [(0,7,.ways [⟨.normal,⟨[Mb 48,.v rS,.a zo,.a i64,.a i64],[],nP⟩⟩])] []
theorem Pp:LO Tryz.f64 E0 0:=lk T64 (rz [2,3]) h64 [] z8
theorem OK:LO Tryz.f64 E8 2:=lk T64 (rz [2,3]) h64 [] z8
theorem z8e:ze Pz 64 ⟨[.ty zF,.ty q9],[.bool],λx=>JG x.1 x.2⟩:=zP T64 (rz [2,3]) h64 Tryz.func64 [0,2] (zl rfl Pp (zl rfl OK z8))
def t267:=t266.d z8e
def h28:Hints:=Hz [] [] [(12,[1001006,1001007,1001008])]
theorem z69:ze Pz 28 ⟨[.ty zF,.ty q9,.ty .str,.ty zc],[q9,(.sl .str),i64],λx=>V6 x.1 x.2.1 x.2.2.1 x.2.2.2⟩:=zP t267 (rz [4,5,7]) h28 Tryz.func28 [] z8
def t268:=t267.d z69
def CY:zi:=Lz [] [.s 2 (.zK 46 []),Mm 9 (.sl zc),Mi 10] Yc [pj] λp s=>cK (λz0=>jQ z0) p.2.1 p.2.2 s
def h45:Hints:=Hz [(0,CY)] [] []
theorem RF:LO Tryz.f45 CY 0:=lk t268 rn h45 [] z8
theorem z5A:ze Pz 45 ⟨[.ty .str,.ty (.sl zc),.zK 46 []],[.str],λx=>cn x.1 x.2.1 (λz0=>jQ z0)⟩:=zP t268 rn h45 Tryz.func45 [0] (zl rfl RF z8)
def t269:=t268.d z5A
theorem z8g:ze Pz 44 ⟨[.ty .bool],[.str],λx=>cQ x⟩:=zP t269 rn hN Tryz.func44 [] z8
def t270:=t269.d z8g
def Co:zi:=Lz [] [.s 2 (.zK 44 []),Mm 9 (.sl .bool),Mi 10] Yc [pj] λp s=>bQ (λz0=>cQ z0) p.2.1 p.2.2 s
def h47:Hints:=Hz [(0,Co)] [] []
theorem Rf:LO Tryz.f47 Co 0:=lk t270 rn h47 [] z8
theorem z7Y:ze Pz 47 ⟨[.ty .str,.ty (.sl .bool),.zK 44 []],[.str],λx=>hP x.1 x.2.1 (λz0=>cQ z0)⟩:=zP t270 rn h47 Tryz.func47 [0] (zl rfl Rf z8)
def t271:=t270.d z7Y
theorem z6b:ze Pz 49 ⟨[.ty i64],[.str],λx=>l0 x⟩:=zP t271 rn hN Tryz.func49 [] z8
def t272:=t271.d z6b
def Ft:zi:=Lz [] [.s 2 (.zK 49 []),Mm 9 (.sl i64),Mi 10] Yc [pj] λp s=>cB (λz0=>l0 z0) p.2.1 p.2.2 s
def h48:Hints:=Hz [(0,Ft)] [] []
theorem Pe:LO Tryz.f48 Ft 0:=lk t272 rn h48 [] z8
theorem z6a:ze Pz 48 ⟨[.ty .str,.ty (.sl i64),.zK 49 []],[.str],λx=>ll x.1 x.2.1 (λz0=>l0 z0)⟩:=zP t272 rn h48 Tryz.func48 [0] (zl rfl Pe z8)
def t273:=t272.d z6a
theorem z7w:ze Pz 51 ⟨[.ty zf],[.str],λx=>iU x⟩:=zP t273 (rz [1]) hN Tryz.func51 [] z8
def t274:=t273.d z7w
def Dv:zi:=Lz [] [.s 2 (.zK 51 []),Mm 9 (.sl zf),Mi 10] Yc [pj] λp s=>yx (λz0=>iU z0) p.2.1 p.2.2 s
def h50:Hints:=Hz [(0,Dv)] [] []
theorem Pt:LO Tryz.f50 Dv 0:=lk t274 rn h50 [] z8
theorem z7W:ze Pz 50 ⟨[.ty .str,.ty (.sl zf),.zK 51 []],[.str],λx=>ca x.1 x.2.1 (λz0=>iU z0)⟩:=zP t274 rn h50 Tryz.func50 [0] (zl rfl Pt z8)
def t275:=t274.d z7W
theorem z7J:ze Pz 18 ⟨[.ty q9],[.str],λx=>bH x⟩:=zP t275 (rz [1]) hN Tryz.func18 [] z8
def t276:=t275.d z7J
def h82:Hints:=Hz [] [(0,1,.ZZ)] []
theorem z3I:zE Pz 82 ⟨[.any],⟨[Mm 0 (.sl .str)],[],[]⟩,[],lA,1,λx=>xn x⟩:=k6 t276 rn h82 Tryz.func82 [] z8
def t277:=t276.s z3I
theorem z7n:ze Pz 62 ⟨[.ty xU,.ty .str],[xU],λx=>X4 x.1 x.2⟩:=zP t277 (rz [2]) hN Tryz.func62 [] z8
def t278:=t277.d z7n
theorem z5Y:zE Pz 27 ⟨[.ptr,.any,.any,.any],⟨[Mm 1 q9,Mm 2 (.sl .str),Mi 3,.v (.zj zx)],[(0,.ptr 0 0)],Xu⟩,[],VG,1,λx=>jS x.1 x.2.1 x.2.2.1 x.2.2.2⟩:=k6 t278 (rz [5]) hN Tryz.func27 [] z8
def t279:=t278.s z5Y
def z4A:Hints:=Hz [] [(0,1,.ZZ)] []
theorem Ju:ze Pz 82 ⟨[.ty (.sl .str)],[(.sl .str)],λx=>qT x⟩:=zP t279 rn z4A Tryz.func82 [] z8
def t280:=t279.d Ju
theorem z6T:ze Pz 83 ⟨[.ty (.sl .str),.ty (.sl .str),.ty .str],[(.sl .str),(.sl .str),.str],λx=>nV x.1 x.2.1 x.2.2⟩:=zP (t280.s z3I) rn hN Tryz.func83 [] z8
def t281:=t280.d z6T
theorem z5w:ze Pz 38 ⟨[.ty xU,.ty .str],[xU,.str,.bool],λx=>o7 x.1 x.2⟩:=zP (t281.d Ju) (rz [2]) hN Tryz.func38 [] z8
def t282:=t281.d z5w
theorem z3B:xe Pz 184 ⟨[.any],Kv,[],⟨[],[],[]⟩,0,330,fq,none,λx=>xq x⟩:=sZ t282 rn hN Tryz.func184 [] z8
def t283:=t282.p z3B
theorem Tv:xe Pz 246 ⟨[.ptr],⟨[.v (.zj qP)],[(0,.ptr 0 0)],Ub⟩,[],⟨[Ms 0,.v (.zj qP)],[],Ub⟩,1,330,Fp,none,λx=>yX x⟩:=sZ t283 rn hN Tryz.func246 [] z8
def t284:=t283.p Tv
theorem z2w:xe Pz 176 ⟨kU,⟨[Ms 1,.v (.zj qP)],[(0,.ptr 0 0)],Ub⟩,[],⟨[Mm 0 (.sl .str),.v (.zj qP)],[],Ub⟩,1,330,Fp,none,λx=>qj x.1 x.2⟩:=sZ t284 rn hN Tryz.func176 [] z8
def t285:=t284.p z2w
theorem z07:xe Pz 177 ⟨[.any],ed,[],⟨[Mm 0 zc],[],[]⟩,1,330,fq,none,λx=>hX x⟩:=sZ t285 rn hN Tryz.func177 [] z8
def t286:=t285.p z07
def KE:zi:=Lz [.slot 5 zc] [Mm 8 (.sl .str),Mi 9] ⟨[Mi 10,.a zc],[(1,.zK 177 []),(5,.cur 0 zc)],lB⟩ [⟨.exit 0,⟨[.a zc],[(5,.cur 0 zc)],lB⟩⟩,⟨.wN (.iface 330 .q8),⟨[Mm 0 .nil,.a zc],[],lB⟩⟩] λp s=>wC p.1 p.2 s
def T0:Hints:=Hz [(0,KE)] [] []
theorem Nl:LO Tryz.f175 KE 0:=lk t286 rn T0 [] z8
theorem z1b:xe Pz 175 ⟨[.any,.zK 177],⟨[Mm 0 (.sl .str),.s 1 (.mclo 177 [])],[],[]⟩,[],Cr,1,330,fq,none,λx=>xx x.1 x.2⟩:=sZ t286 rn T0 Tryz.func175 [0] (zl rfl Nl z8)
def t287:=t286.p z1b
theorem z36:xe Pz 179 ⟨[.any],ed,[],Kv,1,330,fq,none,λx=>lj x⟩:=sZ t287 rn hN Tryz.func179 [] z8
def t288:=t287.p z36
def Yq:zi:=Lz [.slot 5 .bool] [Mm 8 (.sl .str),Mi 9] ⟨[Mi 10,.a .bool],[(1,.zK 179 []),(5,.cur 0 .bool)],[.arr .bool]⟩ [FI,⟨.wN (.iface 330 .q8),⟨[Mm 0 .nil,.a .bool],[],[.arr .bool]⟩⟩] λp s=>wA p.1 p.2 s
def z3m:Hints:=Hz [(0,Yq)] [] []
theorem La:LO Tryz.f178 Yq 0:=lk t288 rn z3m [] z8
theorem z30:xe Pz 178 ⟨[.any,.zK 179],⟨[Mm 0 (.sl .str),.s 1 (.mclo 179 [])],[],[]⟩,[],Dd,1,330,fq,none,λx=>xA x.1 x.2⟩:=sZ t288 rn z3m Tryz.func178 [0] (zl rfl La z8)
def t289:=t288.p z30
def z6W:Hints:=Hz [] [(0,1,.ways [⟨.normal,⟨[],[],[]⟩⟩,⟨.wN (.iface 330 .q8),fq⟩])] []
theorem z2T:xe Pz 248 ⟨[.any],ed,[],J7,1,330,fq,none,λx=>lG x⟩:=sZ t289 rn z6W Tryz.func248 [] z8
def t290:=t289.p z2T
theorem z3i:xe Pz 181 ⟨[.any],ed,[],J7,1,330,fq,none,λx=>lp x⟩:=sZ t290 rn hN Tryz.func181 [] z8
def t291:=t290.p z3i
def Hg:zi:=Lz [.slot 5 i64] [Mm 8 (.sl .str),Mi 9] ⟨[Mi 10,.a i64],[(1,.zK 181 []),(5,.cur 0 i64)],vg⟩ [⟨.exit 0,⟨[.a i64],[(5,.cur 0 i64)],vg⟩⟩,⟨.wN (.iface 330 .q8),⟨[Mm 0 .nil,.a i64],[],vg⟩⟩] λp s=>wL p.1 p.2 s
def z0R:Hints:=Hz [(0,Hg)] [] []
theorem IU:LO Tryz.f180 Hg 0:=lk t291 rn z0R [] z8
theorem z0l:xe Pz 180 ⟨[.any,.zK 181],⟨[Mm 0 (.sl .str),.s 1 (.mclo 181 [])],[],[]⟩,[],Dt,1,330,fq,none,λx=>vy x.1 x.2⟩:=sZ t291 rn z0R Tryz.func180 [0] (zl rfl IU z8)
def t292:=t291.p z0l
def z6A:Hints:=Hz [] [(0,1,.flat [Mb 4])] []
theorem z4v:ze Pz 336 ⟨[.ty .str,.ty .str],[.bool],λx=>wW x.1 x.2⟩:=zP t292 rn z6A Tryz.func336 [] z8
def t293:=t292.d z4v
theorem z0b:ze Pz 297 ⟨[.ty .str,.ty .str],[.str,.bool],λx=>wP x.1 x.2⟩:=zP t293 rn hN Tryz.func297 [] z8
def t294:=t293.d z0b
theorem z1g:ze Pz 249 ⟨[.ty .str,.ty .str],[.str,.bool],λx=>strings_CutSuffix x.1 x.2⟩:=zP t294 rn hN Tryz.func249 [] z8
def t295:=t294.d z1g
theorem z1r:xe Pz 183 ⟨[.any],ed,[],⟨[Mm 0 zf],[],[]⟩,1,330,fq,none,λx=>lC x⟩:=sZ t295 rn hN Tryz.func183 [] z8
def t296:=t295.p z1r
def Yj:zi:=Lz [.slot 5 zf] [Mm 8 (.sl .str),Mi 9] ⟨[Mi 10,.a zf],[(1,.zK 183 []),(5,.cur 0 zf)],[.arr zf]⟩ [⟨.exit 0,⟨[.a zf],[(5,.cur 0 zf)],[.arr zf]⟩⟩,⟨.wN (.iface 330 .q8),⟨[Mm 0 .nil,.a zf],[],[.arr zf]⟩⟩] λp s=>xT p.1 p.2 s
def z1x:Hints:=Hz [(0,Yj)] [] []
theorem M7:LO Tryz.f182 Yj 0:=lk t296 rn z1x [] z8
theorem SN:xe Pz 182 ⟨[.any,.zK 183],⟨[Mm 0 (.sl .str),.s 1 (.mclo 183 [])],[],[]⟩,[],F2,1,330,fq,none,λx=>wF x.1 x.2⟩:=sZ t296 rn z1x Tryz.func182 [0] (zl rfl M7 z8)
def t297:=t296.p SN
theorem TQ:vS (H8 Pz) 174 ⟨[.ptr],⟨[.v (.zj i64)],[(0,.ptr 0 0)],JL⟩,[],F5,0,λx=>iD x⟩:=fkr t297 rn hN Tryz.func174
theorem LZ:vS (Bu Pz 330) 174 ⟨kU,⟨[Mm 1 .nil,.v (.zj i64)],[(0,.ptr 0 0)],JL⟩,[],F5,0,λx=>zX x.1 x.2⟩:=fkh t297 rn hN Tryz.func174 1
theorem z3N:zE Pz 122 ⟨[.any],ed,[],⟨[.s 0 Oz,Mi 1,.a zc,.a .bool,.a zc,.a i64,.a zf,.a .bool],[],DI⟩,2,λx=>nG x⟩:=fkf t297 rn hN (g:=174) (pt:=330) TQ LZ Tryz.func122
def t298:=t297.s z3N
theorem z5O:ze Pz 81 ⟨[.ty zF,.ty .str],[q9,i64],λx=>pV x.1 x.2⟩:=zP t298 (rz [2]) hN Tryz.func81 [] z8
def t299:=t298.d z5O
theorem z2b:zE Pz 37 ⟨[.ptr,.zK 38],⟨[.s 1 (.zK 38 []),.v (.zj zx)],[(0,.ptr 0 0)],Xu⟩,[],VG,1,λx=>wb (λz0 z1=>o7 z0 z1) x.2⟩:=k6 t299 rn hN Tryz.func37 [] z8
def t300:=t299.s z2b
theorem z5T:ze Pz 39 ⟨[.ty xU,.ty .str],[xU,.str,.bool],λx=>ou x.1 x.2⟩:=zP (t300.d Ju) (rz [2]) hN Tryz.func39 [] z8
def t301:=t300.d z5T
theorem Fq:zE Pz 37 ⟨[.ptr,.zK 39],⟨[.s 1 (.zK 39 []),.v (.zj zx)],[(0,.ptr 0 0)],Xu⟩,[],VG,1,λx=>wb (λz0 z1=>ou z0 z1) x.2⟩:=k6 t301 rn hN Tryz.func37 [] z8
def t302:=t301.s Fq
def h16:Hints:=Hz [] [(3,4,.flat [Mb 27])] []
theorem z5E:zE Pz 16 ⟨kU,Ek,[],VG,1,λx=>yG x.1 x.2⟩:=k6 ((t302.s Fq).s z2b) (rz [3]) h16 Tryz.func16 [] z8
def t303:=t302.s z5E
theorem IC:vS (H8 Pz) 15 ⟨[.ptr,.ptr,.ptr],⟨[.v (.zj zx),.v (.zj zJ),.v (.zj zx)],[(0,.ptr 0 0),(1,.ptr 1 0),(2,.ptr 2 0)],[.var (.zj zx),.cvar (.ptr 3 0),.var (.zj zJ),.var (.zj zx)]⟩,[],⟨[.v (.zj zx),.v (.zj zJ),.v (.zj zx)],[],[.var (.zj zx),.cvar (.ptr 3 0),.var (.zj zJ),.var (.zj zx)]⟩,0,λx=>kQ x.1 x.2.1 x.2.2⟩:=fkr t303 rn hN Tryz.func15
theorem ok5:zE Pz 5 ⟨kU,Ek,[],VG,1,λx=>gP x.1 x.2⟩:=fkf t303 (rz [3]) hN (g:=15) (pt:=0) IC (O1 IC) Tryz.func5
def t304:=t303.s ok5
def NM:zi:=Lz [.slot 5 zJ] [Mm 8 (.sl cj),Mi 9] ⟨[Mi 10,.v (.zj zx),.a zJ],[(0,.ptr 0 0),(5,.cur 1 zJ)],Ec⟩ [⟨.exit 0,⟨[.v (.zj zx),.a zJ],[(5,.cur 1 zJ)],Ec⟩⟩] λp s=>k8 p.1 p.2 s
def h8:Hints:=Hz [(0,NM)] [] []
theorem z1W:LO Tryz.f8 NM 0:=lk t304 rn h8 [] z8
theorem ok8:zE Pz 8 ⟨kU,⟨[Mm 1 (.sl cj),.v (.zj zx)],[(0,.ptr 0 0)],Xu⟩,[],⟨[.v (.zj zx),.a zJ],[(0,.cur 1 zJ)],Ec⟩,1,λx=>gf x.1 x.2⟩:=k6 t304 rn h8 Tryz.func8 [0] (zl rfl z1W z8)
def t305:=t304.s ok8
theorem E1:zE Pz 5 ⟨[.any,.any],⟨[Mm 1 cj],[(0,.wJ)],[]⟩,[],⟨[Mm 0 zJ],[],[]⟩,1,λx=>uK x⟩:=fkf t305 (rz [3]) hN (g:=15) (pt:=0) IC (O1 IC) Tryz.func5
def t306:=t305.s E1
def z01:Tb:=t306.s E1
def KR:zi:=Lz [.slot 5 zJ] [Mm 8 (.sl cj),Mi 9] ⟨[Mi 10,.a zJ],[(0,.wJ),(5,.cur 0 zJ)],[.arr zJ]⟩ [⟨.exit 0,⟨[.a zJ],[(5,.cur 0 zJ)],[.arr zJ]⟩⟩] λp s=>jv p.1 p.2 s
def z0i:Hints:=Hz [(0,KR)] [] []
theorem LL:LO Tryz.f8 KR 0:=lk z01 rn z0i [] z8
theorem EC:zE Pz 8 ⟨[.any,.any],⟨[Mm 1 (.sl cj)],[(0,.wJ)],[]⟩,[],⟨[.a zJ],[(0,.cur 0 zJ)],[.arr zJ]⟩,1,λx=>vQ x⟩:=k6 z01 rn z0i Tryz.func8 [0] (zl rfl LL z8)
def t307:=t306.s EC
def h14:Hints:=Hz [] [(0,3,.flat [Mb 22]),(0,6,.flat [Mb 0])] []
theorem z6F:ze Pz 14 ⟨[],[.bool],λ_=>bW⟩:=zP ((t307.s EC).s ok8) rn h14 Tryz.func14 [] z8
def t308:=t307.d z6F
def NT:zi:=Lz [] [Mm 0 (.sl cj)] ⟨[Mi 3],[],[]⟩ [xL,Ya] λp s=>vJ p s
def h4:Hints:=Hz [(0,NT)] [(0,2,.flat [Mb 11]),(0,4,.flat [Mb 40])] []
theorem z0L:LO Tryz.f4 NT 0:=lk t308 rn h4 [] z8
theorem ok4:ze Pz 4 ⟨[.ty (.sl cj)],[.bool],λx=>dM x⟩:=zP t308 rn h4 Tryz.func4 [0] (zl rfl z0L z8)
def t309:=t308.d ok4
theorem ok6:zE Pz 6 ⟨[.any],VP,[],⟨[Mm 0 xU],[],[]⟩,1,λ_=>yC⟩:=k6 t309 rn hN Tryz.func6 [] z8
def t310:=t309.s ok6
def Oy:zi:=Lz [] [Mr 2 zJ,Mr 3 zJ] CR [xL,Xo] λp s=>cO p.1 p.2 s
def h7:Hints:=Hz [(0,Oy)] [(0,1,.flat [Mb 26])] []
theorem z4h:LO Tryz.f7 Oy 0:=lk t310 (rz [2,3]) h7 [] z8
theorem ok7:ze Pz 7 ⟨[.ty zJ,.ty zJ],[.bool],λx=>lz x.1 x.2⟩:=zP t310 (rz [2,3]) h7 Tryz.func7 [0] (zl rfl z4h z8)
def t311:=t310.d ok7
theorem ok9:zE Pz 9 ⟨[.any],VP,[],ed,1,λ_=>yJ⟩:=k6 t311 rn hN Tryz.func9 [] z8
def t312:=t311.s ok9
theorem z6m:zE Pz 11 ⟨[.any],VP,[],F6,1,λ_=>yT⟩:=k6 t312 rn hN Tryz.func11 [] z8
def t313:=t312.s z6m
def Fv:zi:=Lz [] [Mm 0 (.sl u32),Mm 1 (.sl u32),Mi 12] Ko [xL,Xo] λp s=>j4 p.1 p.2.1 p.2.2 s
def h53:Hints:=Hz [(0,Fv)] [] []
theorem R5:LO Tryz.f53 Fv 0:=lk t313 rn h53 [] z8
theorem z5t:ze Pz 53 ⟨[.ty (.sl u32),.ty (.sl u32)],[.bool],λx=>vu x.1 x.2⟩:=zP t313 rn h53 Tryz.func53 [0] (zl rfl R5 z8)
def t314:=t313.d z5t
theorem z7z:ze Pz 20 ⟨[.ty zc,.ty zc],[.bool],λx=>cG x.1 x.2⟩:=zP t314 rn hN Tryz.func20 [] z8
def t315:=t314.d z7z
def Dp:zi:=Lz [] [Mm 1 (.sl zc),.s 2 (.zK 20 []),Mm 15 (.sl zc),Mi 16] FM [xL,FA] λp s=>wh p.1 (λz0 z1=>cG z0 z1) p.2.2.1 p.2.2.2 s
def h19:Hints:=Hz [(0,Dp)] [] []
theorem RL:LO Tryz.f19 Dp 0:=lk t315 rn h19 [] z8
theorem z6g:ze Pz 19 ⟨[.ty (.sl zc),.ty (.sl zc),.zK 20 []],[.bool],λx=>xl x.1 x.2.1 (λz0 z1=>cG z0 z1)⟩:=zP t315 rn h19 Tryz.func19 [0] (zl rfl RL z8)
def t316:=t315.d z6g
def FK:zi:=Lz [] [Mm 0 (.sl .bool),Mm 1 (.sl .bool),Mi 12] Ko [xL,Xo] λp s=>jL p.1 p.2.1 p.2.2 s
def h21:Hints:=Hz [(0,FK)] [] []
theorem Ru:LO Tryz.f21 FK 0:=lk t316 rn h21 [] z8
theorem z5B:ze Pz 21 ⟨[.ty (.sl .bool),.ty (.sl .bool)],[.bool],λx=>uj x.1 x.2⟩:=zP t316 rn h21 Tryz.func21 [0] (zl rfl Ru z8)
def t317:=t316.d z5B
theorem z5l:ze Pz 24 ⟨[.ty zf,.ty zf],[.bool],λx=>cb x.1 x.2⟩:=zP t317 (rz [2,3]) hN Tryz.func24 [] z8
def t318:=t317.d z5l
def C2:zi:=Lz [] [Mm 1 (.sl zf),.s 2 (.zK 24 []),Mm 15 (.sl zf),Mi 16] FM [xL,FA] λp s=>qZ p.1 (λz0 z1=>cb z0 z1) p.2.2.1 p.2.2.2 s
def h23:Hints:=Hz [(0,C2)] [] []
theorem Rv:LO Tryz.f23 C2 0:=lk t318 rn h23 [] z8
theorem z6v:ze Pz 23 ⟨[.ty (.sl zf),.ty (.sl zf),.zK 24 []],[.bool],λx=>xr x.1 x.2.1 (λz0 z1=>cb z0 z1)⟩:=zP t318 rn h23 Tryz.func23 [0] (zl rfl Rv z8)
def t319:=t318.d z6v
theorem z7s:ze Pz 10 ⟨[.ty q9,.ty q9],[.bool],λx=>VO x.1 x.2⟩:=zP t319 (rz [2,3]) hN Tryz.func10 [] z8
def t320:=t319.d z7s
theorem z6E:zE Pz 12 ⟨[.any],VP,[],J7,1,λ_=>yt⟩:=k6 t320 rn hN Tryz.func12 [] z8
def t321:=t320.s z6E
theorem z5D:zE Pz 13 ⟨[.any],VP,[],Kv,1,λ_=>yl⟩:=k6 t321 rn hN Tryz.func13 [] z8
def t322:=t321.s z5D
theorem ok3:ze Pz 3 ⟨[.ty cj],[.bool],λx=>wa x⟩:=zP ((t322.s EC).s E1) (rz [1]) hN Tryz.func3 [] z8
def t323:=t322.d ok3
end Go.AM.Lf
