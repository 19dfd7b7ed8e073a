/-
  The walk, part 0: each function of the program is the tree that the lifted text says; printed by a program of ours.
-/
import Derived.Test.YthhgaidlooddpaaGreatDoorProg
import Derived.KernelRfl
import Derived.Test.YthhgaidlooddpaaGreatDoorAmE
import Derived.Test.YthhgaidlooddpaaGreatDoorLf0
import Derived.Lib.Builder
import Derived.Shelf.Strings.Builder1
import Derived.WalkKit
import Derived.TacticsInMore
import Derived.Shelf.Strings.FieldsFuncAny
import Derived.Test.YthhgaidlooddpaaGreatDoorSh
set_option linter.unusedVariables false
set_option maxRecDepth 100000
noncomputable section
namespace Go.AM.Lf
open Go.Proofs
abbrev CI:Nat:=50
abbrev Pz:Program:=Tryz.prog
def wY(f:Func):Code:=match f.body with | some c=>c | none=>.skip
def lb(k:Nat)(f:Func):Code:=match sT k (wY f)with | some c=>c | none=>.skip
theorem mixed:Pz.follows .mixedOrders=true:=by kernel_rfl
instance:vU:={ u8:=5,tab:=[(4,Bp .u64 Lib.pow10Tab),(0,Yu .i64)] }
theorem gb{κ:KS}(hI:Inv κ):Lib.TabIs Tryz.prog κ.w "internal/strconv.uint64pow10" .u64 Lib.pow10Tab :=
 z6o (g:=4) (by kernel_rfl) (hI.gl (4,Bp .u64 Lib.pow10Tab) (by simp[vU.tab])).2
theorem wZ{κ:KS}(hI:Inv κ):∃ m,κ.w.cell? ⟨0,0,none⟩=some (.int .i64 m) :=
 LW (hI.gl (0,Yu .i64) (by simp[vU.tab])).2
structure Tb where
 t:dh
 ok:y8 Pz t
def Tb.d(T:Tb){g:Nat}{d:B4}(h:zu Pz g d):Tb:=⟨(g,.d d)::T.t,Ef h T.ok⟩
def Tb.s(T:Tb){g:Nat}{d:ke}(h:wa Pz g d):Tb:=⟨(g,.s d)::T.t,Bz h T.ok⟩
def Tb.p(T:Tb){g:Nat}{d:fm}(h:kO Pz g d):Tb:=⟨(g,.p d)::T.t,Cm h T.ok⟩
def t0:Tb:=⟨[],LN _⟩
def fL:List (Nat×zJ)->Nat->Option zJ
 | [],_=>none
 | x::r,n=>bif Nat.beq x.1 n then some x.2 else fL r n
def fC:List (Nat×Nat×z0t)->Nat->Nat->Option z0t
 | [],_,_=>none
 | x::r,k,n=>bif Nat.beq x.1 k&&Nat.beq x.2.1 n then some x.2.2 else fC r k n
def fF:List (Nat×List Nat)->Nat->List Nat
 | [],_=>[]
 | x::r,n=>bif Nat.beq x.1 n then x.2 else fF r n
def Hz(l:List (Nat×zJ))(c:List (Nat×Nat×z0t))(f:List (Nat×List Nat)):Hints:=⟨fL l,fC c,fF f⟩
def hN:Hints:=Hz [] [] []
def rz(l:List Nat)(s:Nat):Bool:=l.any (Nat.beq s)
def rn(_:Nat):Bool:=false
def Lz(gh:List Gh)(ps:List It)(sh:vQ)(ws:List Way)(R:wK ps->sh.den->T (sh.den⊕gJ ws)):zJ:=⟨gh,ps,sh,ws,λp s=>T.loop (R p) s⟩
abbrev LO(f:Func)(l:zJ)(i:Nat):Prop:=Z9 Pz f.ntmps l (lb i f)
def ls(f:Func):List Nat->List (Nat×Code)
 | []=>[]
 | i::r=>(i,lb i f)::ls f r
abbrev Mi(n:Nat):It:=.s n (.zI i64)
abbrev Mb(n:Nat):It:=.s n (.zI .bool)
abbrev Ms(n:Nat):It:=.s n (.zI .str)
abbrev Mm(n:Nat)(t:Ty):It:=.s n (.zI t)
abbrev Mr(n:Nat)(t:Ty):It:=.s n (.qU t)
abbrev Sh0(l:List It):vQ:=⟨l,[],[]⟩
theorem lk{f:Func}{i:Nat}{gh:List Gh}{ps:List It}{sh:vQ}{ws:List Way}{R:wK ps->sh.den->T (sh.den⊕gJ ws)}(T:Tb)(ro:Nat->Bool)(H:Hints)(L:List Nat)(ha:GF Pz f.ntmps H (ls f L))
  (h:∀ p s,RY (u7 Pz CI T.t ro) T.t f.ntmps H (Lz gh ps sh ws R) (lb i f) p s=R p s:=by intro p s; kernel_rfl) (hl:xo (lb i f)=ls f L:=by kernel_rfl):LO f (Lz gh ps sh ws R) i :=
 z0k (xid:=CI) (ro:=ro) (H:=H) mixed T.ok (tQ hl ha) R h λ_ _=>rfl
theorem qY{f:Nat}{fn:Func}{d:B4}(T:Tb)(ro:Nat->Bool)(H:Hints)(hf:Pz.funcs[f]? = some fn)(L:List Nat)(ha:GF Pz fn.ntmps H (ls fn L))
  (h:∀ x,Oq (u7 Pz CI T.t ro) T.t H fn (wY fn) d x=d.F x:=by intro x; kernel_rfl) (hb:fn.body=some (wY fn):=by rfl) (hn:(fn.name == "runtime.NumGoroutine")=false:=by kernel_rfl) (hl:xo (wY fn)=ls fn L:=by kernel_rfl):zu Pz f d :=
 z8h (xid:=CI) (ro:=ro) (H:=H) mixed T.ok hf hb hn (tQ hl ha) h
theorem K3{f:Nat}{fn:Func}{d:ke}(T:Tb)(ro:Nat->Bool)(H:Hints)(hf:Pz.funcs[f]? = some fn)(L:List Nat)(ha:GF Pz fn.ntmps H (ls fn L))
  (h:∀ x,De (u7 Pz CI T.t ro) T.t H fn (wY fn) d x=d.F x:=by intro x; kernel_rfl) (hb:fn.body=some (wY fn):=by rfl) (hn:(fn.name == "runtime.NumGoroutine")=false:=by kernel_rfl) (hl:xo (wY fn)=ls fn L:=by kernel_rfl):wa Pz f d :=
 z50 (xid:=CI) (ro:=ro) (H:=H) mixed T.ok hf hb hn (tQ hl ha) h
def hdB(c:Code):Code:=match c with | .seq _ b=>b | _=>.skip
def hdO(c:Code):Array Oper:=match c with | .seq (.region _ ops _) _=>ops | _ => #[]
def hdI(c:Code):Nat:=match c with | .seq (.region id _ _) _=>id | _=>0
theorem fkr{f:Nat}{fn:Func}{d:ke}(T:Tb)(ro:Nat->Bool)(H:Hints)(hf:Pz.funcs[f]? = some fn)
  (h:∀ x,evH (u7 Pz CI T.t ro) T.t H fn (hdO (wY fn)) (hdB (wY fn)) d d.ks.length none x=d.F x:=by intro x; kernel_rfl) (hb:fn.body=some (.seq (.region (hdI (wY fn)) (hdO (wY fn)) false) (hdB (wY fn))):=by kernel_rfl) (hn:(fn.name == "runtime.NumGoroutine")=false:=by kernel_rfl) (hl:xo (hdB (wY fn))=[]:=by kernel_rfl):yE (Nw Pz) f d :=
 z11 (xid:=CI) (ro:=ro) (H:=H) mixed T.ok hf hb hn (WK hl) h
theorem fkh{f t:Nat}{fn:Func}{d:ke}(T:Tb)(ro:Nat->Bool)(H:Hints)(hf:Pz.funcs[f]? = some fn)(k:Nat)
  (h:∀ x,evH (u7 Pz CI T.t ro) T.t H fn (hdO (wY fn)) (hdB (wY fn)) d k (some t) x=d.F x:=by intro x; kernel_rfl) (hk:d.ks.length=k+1:=by kernel_rfl) (hb:fn.body=some (.seq (.region (hdI (wY fn)) (hdO (wY fn)) false) (hdB (wY fn))):=by kernel_rfl) (hn:(fn.name == "runtime.NumGoroutine")=false:=by kernel_rfl) (hl:xo (hdB (wY fn))=[]:=by kernel_rfl):yE (NI Pz t) f d :=
 z06 (xid:=CI) (ro:=ro) (H:=H) mixed T.ok hf hb hn (WK hl) hk h
theorem zgI{g:Nat}{d:ke}(_:yE (Nw Pz) g d):yE (NI Pz 0) g { d with F:=λ_=>.fail }:=λ_ _ _ _ _ hy=>hy.elim
theorem fkf{f g pt:Nat}{fn:Func}{d d0 d1:ke}(T:Tb)(ro:Nat->Bool)(H:Hints)(h0:yE (Nw Pz) g d0)(h1:yE (NI Pz pt) g d1)(hf:Pz.funcs[f]? = some fn)
  (h:∀ x,Su (u7 Pz CI T.t ro) T.t H ⟨g,d0,pt,d1⟩ fn (wY fn) d x=d.F x:=by intro x; kernel_rfl) (hb:fn.body=some (wY fn):=by rfl) (hn:(fn.name == "runtime.NumGoroutine")=false:=by kernel_rfl) (hl:xo (wY fn)=[]:=by kernel_rfl):wa Pz f d :=
 z48 (xid:=CI) (ro:=ro) (H:=H) mixed T.ok (h:=⟨g,d0,pt,d1⟩) h0 h1 hf hb hn hl h
theorem fkp{f:Nat}{fn:Func}{d:fm}(T:Tb)(ro:Nat->Bool)(H:Hints)(hf:Pz.funcs[f]? = some fn)(L:List Nat)(ha:GF Pz fn.ntmps H (ls fn L))
  (h:∀ x,DX (u7 Pz CI T.t ro) T.t H fn (wY fn) d x=d.F x:=by intro x; kernel_rfl) (hb:fn.body=some (wY fn):=by rfl) (hn:(fn.name == "runtime.NumGoroutine")=false:=by kernel_rfl) (hl:xo (wY fn)=ls fn L:=by kernel_rfl):kO Pz f d :=
 z5I (xid:=CI) (ro:=ro) (H:=H) mixed T.ok hf hb hn (tQ hl ha) h
abbrev tq:Dk:=.st [.row 1 zt,.row 2 zw,.row 3 zO,.row 4 zy,.row 5 zX,.row 6 zD]
abbrev Jz:List Bk:=[.var tq,.arr zt,.arr zw,.arr zO,.arr zy,.arr zX,.arr zD]
abbrev sR:List Bk:=[.var (.zI zK)]
abbrev W7:Dk:=.st [.op 0 111,.row 1 (.int .u8)]
abbrev tO:vQ:=⟨[Mm 0 xr,.v (.zI zK)],[],sR⟩
abbrev rN:vQ:=⟨[.v (.zI zK)],[(0,.ptr 0 0)],sR⟩
abbrev cy:Way:=⟨.exit 0,⟨[],[],[]⟩⟩
abbrev Wd:vQ:=⟨[Mm 0 .expr,.v (.zI zK)],[],sR⟩
abbrev ga:List Bk:=[.arr u32]
abbrev Q1:Way:=⟨.ret,⟨[Mb 4],[],[]⟩⟩
abbrev H9:Dk:=.st [.row 7 zt,.row 9 zw,.row 11 zO,.row 13 zy,.row 5 zX,.row 3 zD]
abbrev ob:List Bk:=[.var W7,.arr (.int .u8)]
abbrev FY:List Bk:=[.var (.zI zK),.var (.zI .expr),.var (.zI .expr)]
abbrev Ff:vQ:=⟨[Mm 1 (.sl .str),.v tq,.a zt,.a zw,.a zO,.a zy,.a zX,.a zD],[(0,.ptr 0 0)],Jz⟩
abbrev sH:Way:=⟨.ret,⟨[Mb 2],[],[]⟩⟩
abbrev Zu:vQ:=⟨[Mi 3],[],[]⟩
abbrev Lm:vQ:=⟨[Mm 0 .expr,Mi 1,.v (.zI i64)],[(2,.ptr 0 0)],[.var (.zI i64)]⟩
abbrev Fq:vQ:=⟨[Mb 0,.v tq,.a zt,.a zw,.a zO,.a zy,.a zX,.a zD],[],Jz⟩
abbrev SX:Dk:=.st [.row 6 zt,.row 8 zw,.row 10 zO,.row 12 zy,.row 4 zX,.row 2 zD]
abbrev Vx:Way:=⟨.ret,⟨[Mi 4],[],[]⟩⟩
abbrev z3c:Way:=⟨.normal,⟨[Mm 1 (.sl .str),.v tq,.a zt,.a zw,.a zO,.a zy,.a zX,.a zD,.v (.zI zy)],[],[.var tq,.arr zt,.arr zw,.arr zO,.arr zy,.arr zX,.arr zD,.var (.zI zy)]⟩⟩
abbrev Xe:vQ:=⟨[.v W7,.a (.int .u8)],[],ob⟩
abbrev Xz:vQ:=⟨[Mi 5],[],[]⟩
abbrev EY:vQ:=⟨[Mb 0,.v (.zI i64)],[],[.var (.zI i64)]⟩
abbrev OR:vQ:=⟨[Mi 0,.v tq,.a zt,.a zw,.a zO,.a zy,.a zX,.a zD],[],Jz⟩
abbrev J0:vQ:=⟨[Mi 8],[],[]⟩
abbrev OA:vQ:=⟨[Mm 0 xr,.v (.zI zK),.v (.zI .expr),.v (.zI .expr)],[],FY⟩
abbrev Pe:List Bk:=[.var (.zI .expr),.var (.zI i64),.var (.zI i64)]
abbrev BH:vQ:=⟨[Ms 0],[],[]⟩
abbrev Ii:vQ:=⟨[.v (.zI zK)],[],sR⟩
abbrev z3L:List Bk:=[.var SX,.var H9,.arr zD,.arr zD,.arr zX,.arr zX,.arr zt,.arr zt,.arr zw,.arr zw,.arr zO,.arr zO,.arr zy,.arr zy]
abbrev Uc:vQ:=⟨[Ms 3],[],[]⟩
abbrev z3E:vQ:=⟨[.a u32],[(5,.cur 0 u32)],ga⟩
abbrev z3N:vQ:=⟨[Mm 0 (.sl .expr),.s 1 (.mclo 183 [.rp i64,.pt 0]),.v (.zI i64)],[],[.cvar (.ptr 1 0),.var (.zI i64)]⟩
abbrev Rm:vQ:=⟨[.v (.zI zK),.v (.zI .expr),.v (.zI .expr)],[],FY⟩
abbrev z3P:vQ:=⟨[Mm 1 (.sl .str),Ms 2,.v tq,.a zt,.a zw,.a zO,.a zy,.a zX,.a zD],[(0,.ptr 0 0)],Jz⟩
abbrev RV:Way:=⟨.exit 0,⟨[.a u32],[(7,.cur 0 u32)],ga⟩⟩
abbrev IC:List Bk:=[.var (.zI zK),.var (.zI .expr)]
abbrev Uh:List Bk:=[.arr (.int .u8)]
abbrev z3D:Way:=⟨.normal,⟨[Mb 16,.v tq,.a zt,.a zw,.a zO,.a zy,.a zX,.a zD],[],Jz⟩⟩
abbrev Sh:vQ:=⟨[Mi 3,Mi 4],[],[]⟩
abbrev PI:vQ:=⟨[Mi 3,Mi 9],[],[]⟩
abbrev I1:Way:=⟨.ret,⟨[Mb 6],[],[]⟩⟩
abbrev Fm:vQ:=⟨[Mi 13],[],[]⟩
abbrev IL:vQ:=⟨[Mi 17],[],[]⟩
abbrev FE:List Bk:=[.var (.zI .expr),.var (.zI .expr)]
abbrev z45:vQ:=⟨[Mm 7 (.int .u64),Mi 8,.a u32],[(6,.cur 0 u32)],ga⟩
abbrev z2J:vQ:=⟨[Mb 0,.v (.zI i64)],[],[.cvar (.ptr 1 0),.var (.zI i64)]⟩
abbrev z39:Way:=⟨.ret,⟨[Ms 2,Mb 3,.v (.zI wO)],[],[.var (.zI wO)]⟩⟩
abbrev z3s:vQ:=⟨[Mm 14 (.sl u32),.a u32],[(13,.cur 0 u32)],ga⟩
abbrev RF:vQ:=⟨[Mm 0 (.sl u32)],[],[]⟩
abbrev z2R:vQ:=⟨[Mi 15,.a u32],[(7,.cur 0 u32)],ga⟩
abbrev z3f:vQ:=⟨[.v (.zI .expr),.v (.zI i64),.v (.zI i64)],[],Pe⟩
abbrev Kj:vQ:=⟨[],[],[]⟩
abbrev z3w:Way:=⟨.normal,⟨[Mb 44,.v (.zI zK)],[],sR⟩⟩
abbrev z3n:vQ:=⟨[Mi 3,Mi 6],[],[]⟩
abbrev z3u:Way:=⟨.exit 0,⟨[.v (.zI wO)],[],[.var (.zI wO)]⟩⟩
abbrev NO:vQ:=⟨[Ms 5],[],[]⟩
abbrev z2T:vQ:=⟨[Ms 0,.v (.zI zK)],[],sR⟩
abbrev z2Q:vQ:=⟨[.s 3 (.sub 0 (.int .u8)),.a (.int .u8)],[],Uh⟩
abbrev z3h:vQ:=⟨[.a (.int .u8)],[(3,.cur 0 (.int .u8))],Uh⟩
abbrev z3G:vQ:=⟨[.v W7,.a (.int .u8)],[(0,.ptr 0 0)],ob⟩
abbrev L8:Way:=⟨.exit 0,BH⟩
abbrev WX:List AK:=[.ptr,.any]
abbrev z42:Way:=⟨.normal,⟨[Mb 17],[],[]⟩⟩
abbrev z2Y:Way:=⟨.normal,⟨[Mb 81],[],[]⟩⟩
abbrev I2:List AK:=[.any,.any,.ptr]
abbrev I4:List AK:=[.ptr,.any,.any]
abbrev z3T:vQ:=⟨[Mi 7],[],[]⟩
abbrev z3H:vQ:=⟨[Mi 6],[],[]⟩
abbrev Sx:Way:=⟨.exit 0,Zu⟩
abbrev PD:Way:=⟨.exit 0,z3E⟩
abbrev RW:Way:=⟨.exit 2,Kj⟩
abbrev SA:Way:=⟨.exit 0,Ii⟩
abbrev z2S:vQ:=⟨[.a (.int .u8)],[],Uh⟩
abbrev Y29:=jx [.ty .expr,.ty i64]->T (KD [i64])
abbrev H29(F:Y29):=zu Pz 29 ⟨[.ty .expr,.ty i64],[i64],F⟩
def T29(ll:Y29)(B9:H29 ll):Tb:=t0.d B9
def PJ(ll:Y29):zJ:=Lz [] [Mr 2 .expr] ⟨[Mi 1,Mi 5],[],[]⟩ [⟨.exit 0,⟨[Mi 1],[],[]⟩⟩] λp s=>jH (λy0 y1=>ll (y0,y1)) p s
def h29(ll:Y29):Hints:=Hz [(0,PJ ll)] [(0,3,.flat [Mb 32])] []
theorem z6i(ll:Y29)(B9:H29 ll):LO Tryz.f29 (PJ ll) 0:=lk (T29 ll B9) (rz [2]) (h29 ll) [] zk
theorem z5v(ll:Y29)(B9:H29 ll):zu Pz 29 ⟨[.ty .expr,.ty i64],[i64],λx=>bS (λy0 y1=>ll (y0,y1)) x.1 x.2⟩:=qY (T29 ll B9) (rz [2]) (h29 ll) Tryz.func29 [0] (zU rfl (z6i ll B9) zk)
theorem zdb:zu Pz 29 ⟨[.ty .expr,.ty i64],[i64],λx=>jM x.1 x.2⟩:=tF (λll x=>bS (λy0 y1=>ll (y0,y1)) x.1 x.2) (λx=>rfl) (λll B9=>z5v ll B9)
def t1:=t0.d zdb
def Oi:zJ:=Lz [] [Mr 1 zT] Sh [Sx] λp s=>y6 p s
def Oe:zJ:=Lz [] [Mr 1 zT] ⟨[Mi 3,Mi 5],[],[]⟩ [⟨.exit 2,Zu⟩] λp s=>kZ p s
def T6:zJ:=Lz [] [Mr 1 zT] z3n [⟨.exit 4,Zu⟩] λp s=>yg p s
def SH:zJ:=Lz [] [Mr 1 zT] ⟨[Mi 3,Mi 7],[],[]⟩ [⟨.exit 6,Zu⟩] λp s=>yd p s
def Te:zJ:=Lz [] [Mr 1 zT] ⟨[Mi 3,Mi 8],[],[]⟩ [⟨.exit 8,Zu⟩] λp s=>yb p s
def Iy:zJ:=Lz [] [Mr 1 zT] PI [⟨.exit 10,Zu⟩] λp s=>y4 p s
def h14:Hints:=Hz [(0,Oi),(2,Oe),(4,T6),(6,SH),(8,Te),(10,Iy)] [(0,3,.flat [Mb 43]),(0,7,.flat [Mb 83]),(0,11,.flat [Mb 103]),(0,15,.flat [Mb 131]),(0,19,.flat [Mb 151]),(0,23,.flat [Mb 193])] []
theorem z4H:LO Tryz.f14 Oi 0:=lk t1 (rz [1]) h14 [] zk
theorem z4v:LO Tryz.f14 Oe 2:=lk t1 (rz [1]) h14 [] zk
theorem z5G:LO Tryz.f14 T6 4:=lk t1 (rz [1]) h14 [] zk
theorem z6n:LO Tryz.f14 SH 6:=lk t1 (rz [1]) h14 [] zk
theorem z5R:LO Tryz.f14 Te 8:=lk t1 (rz [1]) h14 [] zk
theorem z29:LO Tryz.f14 Iy 10:=lk t1 (rz [1]) h14 [] zk
theorem zcC:zu Pz 14 ⟨[.ty zT],[.bool],λx=>bP x⟩:=qY t1 (rz [1]) h14 Tryz.func14 [0,2,4,6,8,10] (zU rfl z4H (zU rfl z4v (zU rfl z5G (zU rfl z6n (zU rfl z5R (zU rfl z29 zk))))))
def t2:=t1.d zcC
def zew:Hints:=Hz [] [(0,1,.flat [Mb 2])] []
theorem zbx:zu Pz 141 ⟨[.ty (.int .u8)],[.bool],λx=>wJ x⟩:=qY t2 rn zew Tryz.func141 [] zk
def t3:=t2.d zbx
def zf1:Hints:=Hz [] [(0,1,.flat [Mb 2])] []
theorem za8:zu Pz 179 ⟨[.ty (.int .u8)],[.bool],λx=>xL x⟩:=qY t3 rn zf1 Tryz.func179 [] zk
def t4:=t3.d za8
theorem zab:zu Pz 142 ⟨[.ty (.int .u8)],[.bool],λx=>vg x⟩:=qY t4 rn hN Tryz.func142 [] zk
def t5:=t4.d zab
def NK:zJ:=Lz [] [Ms 0,Mi 18] ⟨[Mi 19],[],[]⟩ [cy,sH] λp s=>kD p.1 p.2 s
def h87:Hints:=Hz [(0,NK)] [(0,1,.ways [⟨.normal,⟨[Mb 16],[],[]⟩⟩])] []
theorem z6m:LO Tryz.f87 NK 0:=lk t5 rn h87 [] zk
theorem zeE:zu Pz 87 ⟨[.ty .str],[.bool],λx=>xn x⟩:=qY t5 rn h87 Tryz.func87 [0] (zU rfl z6m zk)
def t6:=t5.d zeE
theorem zee:zu Pz 86 ⟨[.ty zt],[.bool],λx=>vH x⟩:=qY t6 (rz [1]) hN Tryz.func86 [] zk
def t7:=t6.d zee
def Ic:zJ:=Lz [] [Mm 0 (.sl zt),.s 1 (.qN 86 []),Mi 7] J0 [cy,Vx] λp s=>qM p.1 (λz0=>vH z0) p.2.2 s
def zb5:Hints:=Hz [(0,Ic)] [] []
theorem z15:LO Tryz.f140 Ic 0:=lk t7 rn zb5 [] zk
theorem zae:zu Pz 140 ⟨[.ty (.sl zt),.qN 86 []],[i64],λx=>w8 x.1 (λz0=>vH z0)⟩:=qY t7 rn zb5 Tryz.func140 [0] (zU rfl z15 zk)
def t8:=t7.d zae
theorem zcG:zu Pz 85 ⟨[.ty (.sl zt),.qN 86 []],[.bool],λx=>qO x.1 (λz0=>vH z0)⟩:=qY t8 rn hN Tryz.func85 [] zk
def t9:=t8.d zcG
def zdO:Hints:=Hz [] [(0,1,.flat [Mb 2])] []
theorem z7V:zu Pz 144 ⟨[.ty (.sl u32)],[.bool],λx=>eZ x⟩:=qY t9 rn zdO Tryz.func144 [] zk
def t10:=t9.d z7V
def IE:zJ:=Lz [] [] RF [⟨.exit 0,RF⟩] λp s=>fY  s
def zat:Hints:=Hz [(0,IE)] [] []
theorem z1S:LO Tryz.f176 IE 0:=lk t10 rn zat [] zk
theorem z88:zu Pz 176 ⟨[.ty (.sl u32)],[(.sl u32)],λx=>xT x⟩:=qY t10 rn zat Tryz.func176 [0] (zU rfl z1S zk)
def t11:=t10.d z88
def zf4:Hints:=Hz [] [(0,1,.z8T)] []
theorem zbk:zu Pz 203 ⟨[.ty (.sl u32)],[(.sl u32)],λx=>vd x⟩:=qY t11 rn zf4 Tryz.func203 [] zk
def t12:=t11.d zbk
theorem zbh:zu Pz 173 ⟨[.ty (.sl u32)],[(.sl u32)],λx=>bc x⟩:=qY t12 rn hN Tryz.func173 [] zk
def t13:=t12.d zbh
def F6:zJ:=Lz [] [Mm 0 (.sl u32),Mm 1 (.sl u32)] Xz [cy,Vx] λp s=>eB p.1 p.2 s
def zbi:Hints:=Hz [(0,F6)] [] []
theorem z0A:LO Tryz.f136 F6 0:=lk t13 rn zbi [] zk
theorem za4:zu Pz 136 ⟨[.ty (.sl u32),.ty (.sl u32)],[i64],λx=>mU x.1 x.2⟩:=qY t13 rn zbi Tryz.func136 [0] (zU rfl z0A zk)
def t14:=t13.d za4
def ze6:Hints:=Hz [] [(0,1,.flat [Mb 15])] []
theorem zan:zu Pz 204 ⟨[.ty u32,.ty u32,.ty u32],[u32,u32],λx=>yi x.1 x.2.1 x.2.2⟩:=qY t14 rn ze6 Tryz.func204 [] zk
def t15:=t14.d zan
def Fu:zJ:=Lz [] [Mm 0 (.sl u32),Mm 1 u32] ⟨[Mm 7 u32,Mi 8,.a u32],[(6,.cur 0 u32)],ga⟩ [⟨.exit 0,⟨[Mm 7 u32,.a u32],[(6,.cur 0 u32)],ga⟩⟩] λp s=>da p.1 p.2 s
def zbs:Hints:=Hz [(0,Fu)] [] [(7,[6])]
theorem TS:LO Tryz.f174 Fu 0:=lk t15 rn zbs [] zk
theorem zaK:zu Pz 174 ⟨[.ty (.sl u32),.ty u32],[(.sl u32),u32],λx=>dD x.1 x.2⟩:=qY t15 rn zbs Tryz.func174 [0] (zU rfl TS zk)
def t16:=t15.d zaK
theorem z9n:zu Pz 137 ⟨[.ty (.int .u64)],[(.sl u32)],λx=>yB x⟩:=qY t16 rn hN Tryz.func137 [] zk
def t17:=t16.d z9n
def zep:Hints:=Hz [] [(3,1,.flat [Mm 0 u32,Mi 2]),(3,4,.flat [Mm 0 u32,Mi 2])] []
theorem zap:zu Pz 247 ⟨[.ty u32],[i64],λx=>yp x⟩:=qY t17 rn zep Tryz.func247 [] zk
def t18:=t17.d zap
theorem z9X:zu Pz 232 ⟨[.ty u32],[i64],λx=>wE x⟩:=qY t18 rn hN Tryz.func232 [] zk
def t19:=t18.d z9X
def Lj:zJ:=Lz [] [Mm 1 (.int .u64),Mi 2,Mm 13 (.sl u32),Mi 14] z2R [RV] λp s=>sr p.1 p.2.1 p.2.2.1 p.2.2.2 s
def z9p:Hints:=Hz [(0,Lj)] [] []
theorem z1L:LO Tryz.f233 Lj 0:=lk t19 rn z9p [] zk
theorem z3U:wa Pz 233 ⟨[.any,.any,.any],⟨[Mm 0 (.sl u32),Mm 1 (.int .u64),Mi 2],[],[]⟩,[],⟨[.a u32],[(0,.cur 0 u32)],ga⟩,1,λx=>eO x.1 x.2.1 x.2.2⟩:=K3 t19 rn z9p Tryz.func233 [0] (zU rfl z1L zk)
def t20:=t19.s z3U
def I5:zJ:=Lz [] [Mm 2 u32,Mm 3 u32,Mm 4 u32] ⟨[Mm 12 (.int .u64),Mm 13 (.int .u64)],[],[]⟩ [⟨.exit 0,⟨[Mm 12 (.int .u64)],[],[]⟩⟩] λp s=>gi p.1 p.2.1 p.2.2 s
def z8W:Hints:=Hz [(0,I5)] [(0,3,.flat [Mb 42])] []
theorem z1M:LO Tryz.f234 I5 0:=lk t20 rn z8W [] zk
theorem zaE:zu Pz 234 ⟨[.ty u32,.ty u32,.ty u32,.ty u32,.ty u32],[(.int .u64)],λx=>dG x.1 x.2.1 x.2.2.1 x.2.2.2.1 x.2.2.2.2⟩:=qY t20 rn z8W Tryz.func234 [0] (zU rfl z1M zk)
def t21:=t20.d zaE
theorem zaL:zu Pz 248 ⟨[.ty u32,.ty u32,.ty u32],[u32,u32],λx=>uY x.1 x.2.1 x.2.2⟩:=qY t21 rn hN Tryz.func248 [] zk
def t22:=t21.d zaL
theorem z9y:zu Pz 249 ⟨[.ty u32,.ty u32,.ty u32],[u32,u32],λx=>yo x.1 x.2.1 x.2.2⟩:=qY t22 rn hN Tryz.func249 [] zk
def t23:=t22.d z9y
def F2:zJ:=Lz [] [Mm 1 (.sl u32),Mm 2 (.int .u64),Mm 14 (.sl u32),Mi 15] ⟨[.s 0 (.sub 0 u32),Mm 7 (.int .u64),Mm 8 u32,Mi 16,.a u32],[],ga⟩ [⟨.exit 0,⟨[.s 0 (.sub 0 u32),Mm 7 (.int .u64),Mm 8 u32,.a u32],[],ga⟩⟩] λp s=>hM p.1 p.2.1 p.2.2.1 p.2.2.2 s
def Fg:zJ:=Lz [] [Mm 1 (.sl u32),Mm 62 (.sl u32),Mi 63] ⟨[.s 0 (.sub 0 u32),Mm 11 u32,Mi 64,.a u32],[],ga⟩ [⟨.exit 2,⟨[.s 0 (.sub 0 u32),Mm 11 u32,.a u32],[],ga⟩⟩] λp s=>gP p.1 p.2.1 p.2.2 s
def z4Z:Hints:=Hz [(0,F2),(2,Fg)] [] []
theorem TG:LO Tryz.f235 F2 0:=lk t23 rn z4Z [] zk
theorem z1J:LO Tryz.f235 Fg 2:=lk t23 rn z4Z [] zk
theorem zbS:wa Pz 235 ⟨[.sub,.any,.any],⟨[.s 0 (.sub 0 u32),Mm 1 (.sl u32),Mm 2 (.int .u64),.a u32],[],ga⟩,[],⟨[Mb 0,.a u32],[],ga⟩,1,λx=>fV x.1 x.2.1 x.2.2.1 x.2.2.2⟩:=K3 t23 rn z4Z Tryz.func235 [0,2] (zU rfl TG (zU rfl z1J zk))
def t24:=t23.s zbS
def JQ:zJ:=Lz [] [Mm 1 (.int .u64),Mi 2,Mm 13 (.sl u32),Mi 14] z2R [RV] λp s=>cw p.1 p.2.1 p.2.2.1 p.2.2.2 s
def SJ:Hints:=Hz [(0,JQ)] [] []
theorem LX:LO Tryz.f233 JQ 0:=lk t24 rn SJ [] zk
theorem FF:zu Pz 233 ⟨[.ty (.sl u32),.ty (.int .u64),.ty i64],[(.sl u32)],λx=>Z6 x.1 x.2.1 x.2.2⟩:=qY t24 rn SJ Tryz.func233 [0] (zU rfl LX zk)
def t25:=t24.d FF
def zas:Tb:=t25.d FF
def FJ:zJ:=Lz [] [Mm 6 (.int .u64),Mm 38 (.sl u32),Mi 39] ⟨[Mi 40,.a u32],[(7,.cur 0 u32)],ga⟩ [RV] λp s=>gv p.1 p.2.1 p.2.2 s
def z7S:Hints:=Hz [(0,FJ)] [] [(17,[7]),(21,[12])]
theorem z2q:LO Tryz.f236 FJ 0:=lk zas rn z7S [] zk
theorem z9D:zu Pz 236 ⟨[.ty (.sl u32),.ty i64],[(.sl u32)],λx=>bK x.1 x.2⟩:=qY zas rn z7S Tryz.func236 [0] (zU rfl z2q zk)
def t26:=t25.d z9D
def z7I:Tb:=t26.s z3U
def Ig:zJ:=Lz [] [Mm 6 (.int .u64),Mm 8 (.sl u32),Mi 9] ⟨[Mi 10,.a u32,.a u32],[(4,.cur 2 u32),(7,.cur 0 u32)],[.arr u32,.dead,.arr u32]⟩ [⟨.exit 0,⟨[.a u32,.a u32],[(4,.cur 2 u32),(7,.cur 0 u32)],[.arr u32,.dead,.arr u32]⟩⟩] λp s=>c9 p.1 p.2.1 p.2.2 s
def z9j:Hints:=Hz [(0,Ig)] [(3,9,.ways [⟨.normal,⟨[Mm 11 (.int .u64),.a u32,.a u32],[(4,.cur 2 u32),(7,.cur 0 u32)],[.arr u32,.dead,.arr u32]⟩⟩])] [(5,[8]),(12,[4,7])]
theorem z1z:LO Tryz.f209 Ig 0:=lk z7I rn z9j [] zk
theorem z9r:zu Pz 209 ⟨[.ty (.sl u32),.ty (.sl u32)],[(.sl u32),(.sl u32)],λx=>ZA x.1 x.2⟩:=qY z7I rn z9j Tryz.func209 [0] (zU rfl z1z zk)
def t27:=t26.d z9r
theorem z7r:zu Pz 180 ⟨[.ty (.sl u32),.ty (.sl u32)],[(.sl u32),(.sl u32),.bool],λx=>yF x.1 x.2⟩:=qY t27 rn hN Tryz.func180 [] zk
def t28:=t27.d z7r
def F9:zJ:=Lz [] [] ⟨[Mm 0 (.sl u32),Mm 1 (.sl u32)],[],[]⟩ [⟨.exit 0,RF⟩] λp s=>dX  s
def zaG:Hints:=Hz [(0,F9)] [] []
theorem z00:LO Tryz.f145 F9 0:=lk t28 rn zaG [] zk
theorem zbI:zu Pz 145 ⟨[.ty (.sl u32),.ty (.sl u32)],[(.sl u32)],λx=>ZW x.1 x.2⟩:=qY t28 rn zaG Tryz.func145 [0] (zU rfl z00 zk)
def t29:=t28.d zbI
def h90:Hints:=Hz [] [(0,1,.ways [⟨.normal,⟨[Mb 28],[],[]⟩⟩])] []
theorem zfY:zu Pz 90 ⟨[.ty wO],[.bool],λx=>tx x⟩:=qY t29 (rz [1]) h90 Tryz.func90 [] zk
def t30:=t29.d zfY
def zdR:Hints:=Hz [] [(0,2,.flat [Mb 19])] []
theorem z8n:zu Pz 149 ⟨[.ty .bool,.ty (.sl u32),.ty (.sl u32)],[wO],λx=>lG x.1 x.2.1 x.2.2⟩:=qY t30 rn zdR Tryz.func149 [] zk
def t31:=t30.d z8n
theorem z89:zu Pz 100 ⟨[.ty wO],[wO],λx=>gL x⟩:=qY t31 (rz [1]) hN Tryz.func100 [] zk
def t32:=t31.d z89
def h91:Hints:=Hz [] [(0,2,.flat [Mb 2])] []
theorem zfy:zu Pz 91 ⟨[.ty wO],[.bool],λx=>dF x⟩:=qY t32 rn h91 Tryz.func91 [] zk
def t33:=t32.d zfy
theorem zfb:zu Pz 89 ⟨[.ty zw],[.bool],λx=>vJ x⟩:=qY t33 (rz [1]) hN Tryz.func89 [] zk
def t34:=t33.d zfb
def FA:zJ:=Lz [] [Mm 0 (.sl zw),.s 1 (.qN 89 []),Mi 7] J0 [cy,Vx] λp s=>qV p.1 (λz0=>vJ z0) p.2.2 s
def z9o:Hints:=Hz [(0,FA)] [] []
theorem z1e:LO Tryz.f143 FA 0:=lk t34 rn z9o [] zk
theorem z8m:zu Pz 143 ⟨[.ty (.sl zw),.qN 89 []],[i64],λx=>wj x.1 (λz0=>vJ z0)⟩:=qY t34 rn z9o Tryz.func143 [0] (zU rfl z1e zk)
def t35:=t34.d z8m
theorem zdF:zu Pz 88 ⟨[.ty (.sl zw),.qN 89 []],[.bool],λx=>qW x.1 (λz0=>vJ z0)⟩:=qY t35 rn hN Tryz.func88 [] zk
def t36:=t35.d zdF
theorem zd9:zu Pz 94 ⟨[.ty .str],[.bool],λx=>kz x⟩:=qY t36 rn hN Tryz.func94 [] zk
def t37:=t36.d zd9
theorem zfB:zu Pz 93 ⟨[.ty zO],[.bool],λx=>vB x⟩:=qY t37 (rz [1]) hN Tryz.func93 [] zk
def t38:=t37.d zfB
def II:zJ:=Lz [] [Mm 0 (.sl zO),.s 1 (.qN 93 []),Mi 7] J0 [cy,Vx] λp s=>xm p.1 (λz0=>vB z0) p.2.2 s
def z8U:Hints:=Hz [(0,II)] [] []
theorem TT:LO Tryz.f146 II 0:=lk t38 rn z8U [] zk
theorem zaB:zu Pz 146 ⟨[.ty (.sl zO),.qN 93 []],[i64],λx=>wC x.1 (λz0=>vB z0)⟩:=qY t38 rn z8U Tryz.func146 [0] (zU rfl TT zk)
def t39:=t38.d zaB
theorem zdZ:zu Pz 92 ⟨[.ty (.sl zO),.qN 93 []],[.bool],λx=>xh x.1 (λz0=>vB z0)⟩:=qY t39 rn hN Tryz.func92 [] zk
def t40:=t39.d zdZ
theorem zdt:zu Pz 37 ⟨[.ty zT],[.bool],λx=>fO x⟩:=qY t40 (rz [1]) hN Tryz.func37 [] zk
def t41:=t40.d zdt
def h95:Hints:=Hz [] [(0,1,.flat [Mb 6])] []
theorem zek:zu Pz 95 ⟨[.ty i64,.ty i64,.ty i64],[.bool],λx=>hZ x.1 x.2.1 x.2.2⟩:=qY t41 rn h95 Tryz.func95 [] zk
def t42:=t41.d zek
def Pl:zJ:=Lz [] [Mr 1 zT,Mm 7 (.sl zy),Mi 8] PI [cy,sH] λp s=>uV p.1 p.2.1 p.2.2 s
def h38:Hints:=Hz [(0,Pl)] [(0,5,.ways [⟨.normal,⟨[Mb 36,.v (.zI zy)],[],[.var (.zI zy)]⟩⟩])] []
theorem z4S:LO Tryz.f38 Pl 0:=lk t42 (rz [1]) h38 [] zk
theorem zeo:zu Pz 38 ⟨[.ty zT],[.bool],λx=>dm x⟩:=qY t42 (rz [1]) h38 Tryz.func38 [0] (zU rfl z4S zk)
def t43:=t42.d zeo
theorem zff:zu Pz 96 ⟨[],[(.sl .str)],λ_=>wM⟩:=qY t43 rn hN Tryz.func96 [] zk
def t44:=t43.d zff
def zcS:Hints:=Hz [] [(3,2,.flat [Mb 4])] []
theorem zaT:zu Pz 210 ⟨[.ty i64],[i64],λx=>r9 x⟩:=qY t44 rn zcS Tryz.func210 [] zk
def t45:=t44.d zaT
def IK:zJ:=Lz [] [Mm 1 (.sl u32),Mi 6,Mm 7 u32,Mm 21 (.sl u32),Mi 22,Mi 23,Mm 28 (.sl u32),Mi 29] ⟨[Mm 8 (.int .u64),Mi 30,.a u32],[(5,.cur 0 u32)],ga⟩ [⟨.exit 2,⟨[Mm 8 (.int .u64),.a u32],[(5,.cur 0 u32)],ga⟩⟩] λp s=>lU p.1 p.2.1 p.2.2.1 p.2.2.2.1 p.2.2.2.2.1 p.2.2.2.2.2.1 p.2.2.2.2.2.2.1 p.2.2.2.2.2.2.2 s
def Ij:zJ:=Lz [] [Mm 1 (.sl u32),Mm 21 (.sl u32),Mi 22] ⟨[Mi 23,.a u32],[(5,.cur 0 u32)],ga⟩ [PD] λp s=>lM p.1 p.2.1 p.2.2 s
def z4A:Hints:=Hz [(2,IK),(0,Ij)] [] [(16,[5])]
theorem z0y:LO Tryz.f198 IK 2:=lk t45 rn z4A [] zk
theorem z2D:LO Tryz.f198 Ij 0:=lk t45 rn z4A [2] (zU rfl z0y zk)
theorem z9i:zu Pz 198 ⟨[.ty (.sl u32),.ty (.sl u32)],[(.sl u32)],λx=>pZ x.1 x.2⟩:=qY t45 rn z4A Tryz.func198 [0] (zU rfl z2D zk)
def t46:=t45.d z9i
def I6:zJ:=Lz [] [Mi 5] ⟨[Mm 3 (.sl u32),Mi 6],[],[]⟩ [⟨.exit 0,⟨[Mm 3 (.sl u32)],[],[]⟩⟩] λp s=>ez p s
def z8B:Hints:=Hz [(0,I6)] [] []
theorem z0v:LO Tryz.f161 I6 0:=lk t46 rn z8B [] zk
theorem zba:zu Pz 161 ⟨[.ty i64],[(.sl u32)],λx=>pI x⟩:=qY t46 rn z8B Tryz.func161 [0] (zU rfl z0v zk)
def t47:=t46.d zba
theorem z7X:zu Pz 134 ⟨[.ty wO],[.str],λx=>pc x⟩:=qY t47 (rz [1]) hN Tryz.func134 [] zk
def t48:=t47.d z7X
def F5:zJ:=Lz [] [] ⟨[.s 0 (.sub 0 (.int .u8)),Mi 2,Mi 3,.a (.int .u8)],[],Uh⟩ [⟨.exit 0,z2S⟩] λp s=>xV  s
def z7l:Hints:=Hz [(0,F5)] [] []
theorem z10:LO Tryz.f175 F5 0:=lk t48 rn z7l [] zk
theorem zaS:wa Pz 175 ⟨[.sub],⟨[.s 0 (.sub 0 (.int .u8)),.a (.int .u8)],[],Uh⟩,[],z2S,0,λx=>wH x.1 x.2⟩:=K3 t48 rn z7l Tryz.func175 [0] (zU rfl z10 zk)
def t49:=t48.s zaS
def Iq:zJ:=Lz [] [Mm 4 (.sl u32)] ⟨[Mm 5 u32,Mi 19,.a (.int .u8)],[(3,.cur 0 (.int .u8))],Uh⟩ [⟨.exit 2,z3h⟩] λp s=>gS p s
def IU:zJ:=Lz [.slot 3 (.int .u8)] [] ⟨[Mm 0 (.sl u32),.a (.int .u8)],[(3,.cur 0 (.int .u8))],Uh⟩ [⟨.exit 0,z3h⟩] λp s=>gG  s
def Lc:zJ:=Lz [] [] z2Q [⟨.exit 4,z2Q⟩] λp s=>gp  s
def z1U:Hints:=Hz [(2,Iq),(0,IU),(4,Lc)] [(0,13,.flat [Mb 42])] []
theorem z27:LO Tryz.f135 Iq 2:=lk t49 rn z1U [] zk
theorem z0H:LO Tryz.f135 IU 0:=lk t49 rn z1U [2] (zU rfl z27 zk)
theorem z1R:LO Tryz.f135 Lc 4:=lk t49 rn z1U [] zk
theorem za6:zu Pz 135 ⟨[.ty (.sl u32)],[.str],λx=>dE x⟩:=qY t49 rn z1U Tryz.func135 [0,4] (zU rfl z0H (zU rfl z1R zk))
def t50:=t49.d za6
theorem z7H:zu Tryz.prog 246 ⟨[.ty .str,.ty i64],[.str],λx=>strings_Repeat x.1 x.2⟩:=by
 refine vo Tryz.func246 (by kernel_rfl) rfl λκ x zA y hy hI ha => ?_
 obtain⟨s,n⟩:=x
 obtain⟨⟨h0,h1,h2⟩,hy⟩:=hy
 cases hy
 obtain⟨v0,r,rfl,Ya,ha⟩:=qH.cons_inv (show qH κ [.zI .str s,.zI i64 n] zA from ha)
 obtain⟨v1,r,rfl,DN,ha⟩:=ha.cons_inv
 rw[ha.qf,Ya.wG,DN.yk]
 obtain⟨m,rfl⟩:=Int.eq_ofNat_of_zero_le h0
 refine(Go.Proofs.Tryz.strings_Repeat ⟨s.toArray⟩ m κ.w (by simp only at h1; omega) (by rw[show(ByteArray.size ⟨s.toArray⟩)=List.length s from List.size_toArray]; simpa using h2)).mono ?_
 rintro e w' ⟨rfl,hB⟩
 refine⟨hB,λ_=>⟨_,rfl,?_⟩⟩
 have e1:Lib.repeatL s m=jS s m:=L7 s m
 have e2:(Int.toNat (m:Int))=m:=by omega
 show RD _ (.zI .str (jS s (Int.toNat (m:Int)))) _
 rw[e2,<- e1]
 exact RD.str
def t51:=t50.d z7H
theorem zbC:zu Pz 231 ⟨[.ty .str,.ty i64],[.str],λx=>ft x.1 x.2⟩:=qY t51 rn hN Tryz.func231 [] zk
def t52:=t51.d zbC
def Is:zJ:=Lz [] [] ⟨[Mi 10,.v (.zI wO)],[(1,.ptr 0 0)],[.var (.zI wO)]⟩ [z3u,z39] λp s=>kv  s
def z98:Hints:=Hz [(0,Is)] [] []
theorem z0p:LO Tryz.f206 Is 0:=lk t52 rn z98 [] zk
theorem z7s:zu Pz 206 ⟨[.ty wO],[.str,.bool],λx=>iI x⟩:=qY t52 rn z98 Tryz.func206 [0] (zU rfl z0p zk)
def t53:=t52.d z7s
def zfo:Hints:=Hz [] [(0,1,.ways [⟨.normal,⟨[Mb 15],[],[]⟩⟩])] []
theorem z9Q:zu Pz 211 ⟨[.ty wO],[.bool],λx=>lF x⟩:=qY t53 (rz [1]) zfo Tryz.func211 [] zk
def t54:=t53.d z9Q
theorem z9K:zu Pz 212 ⟨[.ty wO],[.bool],λx=>cp x⟩:=qY t54 (rz [1]) hN Tryz.func212 [] zk
def t55:=t54.d z9K
theorem zaY:zu Pz 181 ⟨[.ty .expr],[.bool],λx=>yV x⟩:=qY t55 (rz [1]) hN Tryz.func181 [] zk
def t56:=t55.d zaY
abbrev JC:=vQ.den Lm->T (vQ.den EY)
abbrev Nh(F:JC):=wa Pz 147 ⟨I2,Lm,[],EY,1,F⟩
theorem zbA(vy:JC)(fu:Nh vy):wa Pz 183 ⟨I2,⟨[Mm 0 .expr,Mr 1 i64,.v (.zI i64)],[(2,.ptr 0 0)],[.cvar (.ptr 1 0),.var (.zI i64)]⟩,[],z2J,1,λx=>j8 (λy0 y1 y2=>vy (y0,y1,y2)) x.1 x.2.1 x.2.2⟩:=K3 (t56.s fu) (rz [3]) hN Tryz.func183 [] zk
def z7j(vy:JC)(fu:Nh vy):Tb:=t56.s (zbA _ fu)
def L6(vy:JC):zJ:=Lz [] [Mm 0 (.sl .expr),Mi 7] ⟨[.s 1 (.mclo 183 [.rp i64,.pt 0]),Mi 8,.v (.zI i64)],[],[.cvar (.ptr 1 0),.var (.zI i64)]⟩ [⟨.exit 0,⟨[.v (.zI i64)],[],[.cvar (.ptr 1 0),.var (.zI i64)]⟩⟩,⟨.ret,⟨[Mi 4,.v (.zI i64)],[],[.cvar (.ptr 1 0),.var (.zI i64)]⟩⟩] λp s=>zC (λy0 y1 y2=>vy (y0,y1,y2)) p.1 p.2 s
def zau(vy:JC):Hints:=Hz [(0,L6 vy)] [] []
theorem TE(vy:JC)(fu:Nh vy):LO Tryz.f213 (L6 vy) 0:=lk (z7j vy fu) rn (zau vy) [] zk
theorem z7N(vy:JC)(fu:Nh vy):wa Pz 213 ⟨[.any,.qN 183],z3N,[],⟨[Mi 0,.v (.zI i64)],[],[.cvar (.ptr 1 0),.var (.zI i64)]⟩,1,λx=>qC (λy0 y1 y2=>vy (y0,y1,y2)) x.1 x.2.1 x.2.2⟩:=K3 (z7j vy fu) rn (zau vy) Tryz.func213 [0] (zU rfl (TE vy fu) zk)
theorem zaH(vy:JC)(fu:Nh vy):wa Pz 182 ⟨[.any,.qN 183],z3N,[],z2J,1,λx=>q8 (λy0 y1 y2=>vy (y0,y1,y2)) x.1 x.2.1 x.2.2⟩:=K3 (t56.s (z7N _ fu)) rn hN Tryz.func182 [] zk
def zcH(vy:JC):Hints:=Hz [] [(0,2,.ways [⟨.normal,⟨[Mb 24,.v (.zI i64)],[],[.var (.zI i64),.cvar (.ptr 0 0)]⟩⟩])] []
theorem z1C(vy:JC)(fu:Nh vy):wa Pz 147 ⟨I2,Lm,[],EY,1,λx=>gW (λy0 y1 y2=>vy (y0,y1,y2)) x.1 x.2.1 x.2.2⟩:=K3 (t56.s (zaH _ fu)) (rz [3,4]) (zcH vy) Tryz.func147 [] zk
theorem z8Q:wa Pz 147 ⟨I2,Lm,[],EY,1,λx=>jP x.1 x.2.1 x.2.2⟩:=z1Y (λvy x=>gW (λy0 y1 y2=>vy (y0,y1,y2)) x.1 x.2.1 x.2.2) (λx=>rfl) (λvy fu=>z1C vy fu)
def t57:=t56.s z8Q
theorem zf6:zu Pz 97 ⟨[.ty .expr],[.bool],λx=>uz x⟩:=qY t57 (rz [1]) hN Tryz.func97 [] zk
def t58:=t57.d zf6
theorem zdz:zu Pz 81 ⟨[],[(.sl .str)],λ_=>xK⟩:=qY t58 rn hN Tryz.func81 [] zk
def t59:=t58.d zdz
theorem zel:zu Pz 99 ⟨[.ty zX],[.bool],λx=>wg x⟩:=qY t59 (rz [1]) hN Tryz.func99 [] zk
def t60:=t59.d zel
def FO:zJ:=Lz [] [Mm 0 (.sl zX),.s 1 (.qN 99 []),Mi 7] J0 [cy,Vx] λp s=>xj p.1 (λz0=>wg z0) p.2.2 s
def z7w:Hints:=Hz [(0,FO)] [] []
theorem z2c:LO Tryz.f148 FO 0:=lk t60 rn z7w [] zk
theorem z9g:zu Pz 148 ⟨[.ty (.sl zX),.qN 99 []],[i64],λx=>wI x.1 (λz0=>wg z0)⟩:=qY t60 rn z7w Tryz.func148 [0] (zU rfl z2c zk)
def t61:=t60.d z9g
theorem zcy:zu Pz 98 ⟨[.ty (.sl zX),.qN 99 []],[.bool],λx=>xk x.1 (λz0=>wg z0)⟩:=qY t61 rn hN Tryz.func98 [] zk
def t62:=t61.d zcy
def Sf:zJ:=Lz [] [Mr 1 zT,Mm 7 (.sl zD),Mi 8] PI [cy,sH] λp s=>j6 p.1 p.2.1 p.2.2 s
def h39:Hints:=Hz [(0,Sf)] [(0,5,.ways [⟨.normal,⟨[Mb 50,.v (.zI zD)],[],[.var (.zI zD)]⟩⟩])] []
theorem z5l:LO Tryz.f39 Sf 0:=lk t62 (rz [1]) h39 [] zk
theorem zd5:zu Pz 39 ⟨[.ty zT],[.bool],λx=>dz x⟩:=qY t62 (rz [1]) h39 Tryz.func39 [0] (zU rfl z5l zk)
def t63:=t62.d zd5
end Go.AM.Lf
namespace Go.Proofs
section
open Go.RowKit
attribute [local go_sem] Oper.semAt_some
set_option maxRecDepth 100000
set_option maxHeartbeats 2000000
theorem nO.size:(Tryz.prog.info? 111).map (·.size)=some 2:=by kernel_rfl
theorem nO.pt:Tryz.prog.underlying 109=some (.pointer 111):=by kernel_rfl
theorem nO.up:Tryz.prog.underlying 191=some .unsafePointer:=by kernel_rfl
theorem nO.used(b:Nat)(w:World)(h0:w.cell? ⟨b,0,none⟩=some (.pointer (some ⟨b,0,none⟩))) :
  Calls Tryz.prog 133 #[.pointer (some ⟨b,0,none⟩)] w λe w'=>e=.returned (.tuple #[])/\w'=w:=by
 obtain⟨j,hj,hjs⟩:=Option.map_eq_some_iff.1 nO.size
 go_enter Tryz.func133,Tryz.ntmps133
 go_wp2
 rw[Lib.run_neq_ptr_same w _ nO.pt hj]
 go_wp2
 go_end0
 exact⟨rfl,rfl⟩
theorem nO.fresh(b:Nat)(w:World)(h0:w.cell? ⟨b,0,none⟩=some (.pointer none))(hsh:w.shape? b=some (111,2))(hfz:w.frozen? ⟨b,0,none⟩=false) :
  Calls Tryz.prog 133 #[.pointer (some ⟨b,0,none⟩)] w λe w'=>e=.returned (.tuple #[])/\w'=w.setCell ⟨b,0,none⟩ (.pointer (some ⟨b,0,none⟩)):=by
 obtain⟨j,hj,hjs⟩:=Option.map_eq_some_iff.1 nO.size
 go_enter Tryz.func133,Tryz.ntmps133
 go_wp2
 rw[Lib.run_to_unsafe w ⟨b,0,none⟩ nO.pt nO.up hj (by rw[hjs]; decide) hsh (Nat.zero_lt_succ 1)]
 simp only[Result.andThen]
 rw[Oper.upon_value]
 go_wp2
 rw[run_callFunc_extern Tryz.func172 (by kernel_rfl) (by kernel_rfl) (by kernel_rfl) (e:=Extern.AbiNoEscape.same) (by kernel_rfl)]
 rw[Lib.run_noEscape]
 simp only[Result.andThen]
 rw[Oper.upon_value]
 go_wp2
 rw[Lib.run_from_unsafe w ⟨b,0,none⟩ nO.up nO.pt hj hsh (by kernel_rfl)]
 simp only[Result.andThen]
 rw[Oper.upon_value]
 go_wp2
 go_end0
 exact⟨rfl,rfl⟩
end
end Go.Proofs

namespace Go.AM.Lf
open Go.Proofs
theorem z8D:wa Tryz.prog 133 ⟨[.ptr],z3G,[],Xe,0,λx=>iu x.1 x.2⟩:=YB (P:=Tryz.prog) (g:=133) (t:=111) (enters_of Tryz.func133 (by kernel_rfl) rfl) nO.used nO.fresh
def t64:=t63.s z8D
theorem zdX:wa Pz 78 ⟨WX,⟨[Ms 1,.v W7,.a (.int .u8)],[(0,.ptr 0 0)],ob⟩,[.pcell 0 1 (.int .u8)],⟨[Mi 0,.v W7,.a (.int .u8)],[(1,.qX)],ob⟩,2,λx=>q9 x.1 x.2.1 x.2.2⟩:=K3 t64 rn hN Tryz.func78 [] zk
def t65:=t64.s zdX
theorem zfX:zu Pz 79 ⟨[.ty wO],[.str],λx=>iT x⟩:=qY t65 rn hN Tryz.func79 [] zk
def t66:=t65.d zfX
theorem zdV:zu Pz 82 ⟨[.ty .str],[.str],λx=>eI x⟩:=qY t66 rn hN Tryz.func82 [] zk
def t67:=t66.d zdV
theorem z9N:zu Tryz.prog 177 ⟨[.ty i64],[.str],λx=>strconv_Itoa x⟩:=by
 refine vo Tryz.func177 (by kernel_rfl) rfl λκ n zA y hy hI ha => ?_
 obtain⟨⟨h0,h1⟩,hy⟩:=hy
 cases hy
 obtain⟨v0,r,rfl,Ya,ha⟩:=qH.cons_inv (show qH κ [.zI i64 n] zA from ha)
 rw[ha.qf,Ya.yk]
 refine(Go.Proofs.Tryz.strconv_Itoa n h0 h1 κ.w (gb hI)).mono ?_
 rintro e w' ⟨rfl,k,os,rfl⟩
 refine⟨Dj _ _ _,λ_=>⟨_,rfl,?_⟩⟩
 have e1:Lib.itoa n=nh n:=R9 n
 show RD _ (.zI .str (nh n)) _
 rw[<- e1]
 exact RD.str
def t68:=t67.d z9N
def zfI:Hints:=Hz [] [(3,2,.flat [Ms 3])] []
theorem z8s:zu Pz 138 ⟨[.ty zy],[.str],λx=>fK x⟩:=qY t68 (rz [1]) zfI Tryz.func138 [] zk
def t69:=t68.d z8s
def zfK:Hints:=Hz [] [(3,2,.flat [Mb 5]),(3,5,.flat [Mb 8])] []
theorem z8A:zu Pz 208 ⟨[.ty .expr],[i64],λx=>br x⟩:=qY t69 (rz [1]) zfK Tryz.func208 [] zk
def t70:=t69.d z8A
abbrev z2k:=jx [.ty .expr]->T (KD [.str])
abbrev z9H(F:z2k):=zu Pz 178 ⟨[.ty .expr],[.str],F⟩
theorem zb2(oT:z2k)(Bh:z9H oT):zu Pz 207 ⟨[.ty .expr,.ty i64],[.str],λx=>yY (λy0=>oT (y0)) x.1 x.2⟩:=qY (t70.d Bh) (rz [2]) hN Tryz.func207 [] zk
def zed(oT:z2k):Hints:=Hz [] [(3,2,.ways [⟨.normal,Uc⟩,⟨.ret,⟨[Ms 2],[],[]⟩⟩])] []
theorem z0U(oT:z2k)(Bh:z9H oT):zu Pz 178 ⟨[.ty .expr],[.str],λx=>dt (λy0=>oT (y0)) x⟩:=qY (t70.d (zb2 _ Bh)) (rz [1]) (zed oT) Tryz.func178 [] zk
theorem zav:zu Pz 178 ⟨[.ty .expr],[.str],λx=>lV x⟩:=tF (λoT x=>dt (λy0=>oT (y0)) x) (λx=>rfl) (λoT Bh=>z0U oT Bh)
def t71:=t70.d zav
theorem za3:zu Pz 139 ⟨[.ty .expr],[.str],λx=>eQ x⟩:=qY t71 (rz [1]) hN Tryz.func139 [] zk
def t72:=t71.d za3
theorem zd4:zu Pz 83 ⟨[.ty .expr,.ty .str,.ty .expr],[.str],λx=>c8 x.1 x.2.1 x.2.2⟩:=qY t72 (rz [3,5]) hN Tryz.func83 [] zk
def t73:=t72.d zd4
def S2:zJ:=Lz [] [Mi 2,Mr 4 zT,Mm 29 (.sl zy),Mi 30] ⟨[Mi 31,.v W7,.a (.int .u8)],[(0,.ptr 0 0)],ob⟩ [⟨.exit 0,Xe⟩] λp s=>uZ p.1 p.2.1 p.2.2.1 p.2.2.2 s
def RQ:zJ:=Lz [] [Mi 2,Mm 45 (.sl zD),Mi 46] ⟨[Mi 47,.v W7,.a (.int .u8)],[(0,.ptr 0 0)],ob⟩ [⟨.exit 2,Xe⟩] λp s=>j4 p.1 p.2.1 p.2.2 s
def h80:Hints:=Hz [(0,S2),(2,RQ)] [] []
theorem z4s:LO Tryz.f80 S2 0:=lk t73 (rz [4]) h80 [] zk
theorem z4J:LO Tryz.f80 RQ 2:=lk t73 (rz [4]) h80 [] zk
theorem zeV:wa Pz 80 ⟨I4,⟨[Mm 1 zT,Mi 2,.v W7,.a (.int .u8)],[(0,.ptr 0 0)],ob⟩,[.pcell 0 1 (.int .u8)],Xe,0,λx=>dc x.1 x.2.1 x.2.2.1 x.2.2.2⟩:=K3 t73 (rz [4]) h80 Tryz.func80 [0,2] (zU rfl z4s (zU rfl z4J zk))
def t74:=t73.s zeV
end Go.AM.Lf
namespace Go.Proofs
section
open Go.RowKit
attribute [local go_sem] Oper.semAt_some
set_option maxRecDepth 100000
set_option maxHeartbeats 2000000
theorem nO.mixed:Tryz.prog.follows .mixedOrders=true:=by kernel_rfl
theorem nO.pb:Tryz.prog.underlying 161=some (.pointer 5):=by kernel_rfl
theorem nO.c5:Tryz.prog.cellsOf 5=1:=by kernel_rfl
theorem nO.OY(W:World)(q:Option Addr):(Builtin.unsafeString_ #[161,3] 9 #[.pointer q,.int .i64 0]).run Tryz.prog W=.ok (.string .empty) W:=Lib.run_unsafeString_none W _ _ _ q
theorem nO.nil(b:Nat)(p:Value)(w:World)(Cw:w.heap[b]? = some (.cells #[p,.slice none 0 0] 111 (0,0))) :
  Calls Tryz.prog 84 #[.pointer (some ⟨b,0,none⟩)] w λe w'=>e=.returned (.string ⟨#[]⟩)/\w'=w.drew:=by
 have hUS:=nO.OY
 have c1:w.drew.cell? ⟨b,1,none⟩=some (.slice none 0 0):=by
  have:w.drew.heap[b]? = some (.cells #[p,.slice none 0 0] 111 (0,0)):=Cw
  rw[Lib.cell_of_heap this]; rfl
 have hSD:(Builtin.unsafeSliceData_ #[77] 161 #[.slice none 0 0]).run Tryz.prog w.drew=.ok (.pointer none) w.drew:=rfl
 have mixed:Tryz.prog.follows .mixedOrders=true:=nO.mixed
 go_enter Tryz.func84,Tryz.ntmps84
 go_wp2
 go_region_o
 all_goals (go_wp2; go_ret; exact⟨rfl,rfl⟩)
theorem nO.room(b g o cap:Nat)(p:Value)(w:World)(hc0:cap≠0)(Cw:w.heap[b]? = some (.cells #[p,.slice (some ⟨g,o,none⟩) 0 cap] 111 (0,0))) :
  Calls Tryz.prog 84 #[.pointer (some ⟨b,0,none⟩)] w λe w'=>e=.returned (.string ⟨#[]⟩)/\w'=w.drew:=by
 have hUS:=nO.OY
 have c1:w.drew.cell? ⟨b,1,none⟩=some (.slice (some ⟨g,o,none⟩) 0 cap):=by
  have:w.drew.heap[b]? = some (.cells #[p,.slice (some ⟨g,o,none⟩) 0 cap] 111 (0,0)):=Cw
  rw[Lib.cell_of_heap this]; rfl
 have hSD:(Builtin.unsafeSliceData_ #[77] 161 #[.slice (some ⟨g,o,none⟩) 0 cap]).run Tryz.prog w.drew=.ok (.pointer (some ⟨g,o,none⟩)) w.drew :=
  Lib.run_unsafeSliceData_row _ _ _ _ _ _ hc0
 clear hc0
 have mixed:Tryz.prog.follows .mixedOrders=true:=nO.mixed
 go_enter Tryz.func84,Tryz.ntmps84
 go_wp2
 go_region_o
 all_goals (go_wp2; go_ret; exact⟨rfl,rfl⟩)
theorem nO.full(b g cap:Nat)(p:Value)(cur:Array Value)(l:List UInt8)(w:World)(h0:l≠[])(vc:l.length<=cap)(z0Z:l.length<=140737488355328)(Cw:w.heap[b]? = some (.cells #[p,.slice (some ⟨g,0,none⟩) l.length cap] 111 (0,0)))
  (hg:w.heap[g]? = some (.cells cur 5 (0,0))) (zil:l.length<=cur.size) (sd:∀ j x,l[j]? = some x->w.cell? ⟨g,j,none⟩=some (.int .u8 x.toNat)) :
  Calls Tryz.prog 84 #[.pointer (some ⟨b,0,none⟩)] w λe w'=>e=.returned (.string ⟨l.toArray⟩)/\w'=w.drew.freeze ⟨g,0,none⟩ l.length:=by
 have hl0:l.length≠0:=by simpa using h0
 have c1:w.drew.cell? ⟨b,1,none⟩=some (.slice (some ⟨g,0,none⟩) l.length cap):=by
  have:w.drew.heap[b]? = some (.cells #[p,.slice (some ⟨g,0,none⟩) l.length cap] 111 (0,0)):=Cw
  rw[Lib.cell_of_heap this]; rfl
 have hSD:(Builtin.unsafeSliceData_ #[77] 161 #[.slice (some ⟨g,0,none⟩) l.length cap]).run Tryz.prog w.drew=.ok (.pointer (some ⟨g,0,none⟩)) w.drew :=
  Lib.run_unsafeSliceData_row _ _ _ _ _ _ (by omega)
 have hUS:(Builtin.unsafeString_ #[161,3] 9 #[.pointer (some ⟨g,0,none⟩),.int .i64 l.length]).run Tryz.prog w.drew=.ok (.string ⟨l.toArray⟩) (w.drew.freeze ⟨g,0,none⟩ l.length):=by
  refine Lib.run_unsafeString_row w.drew 161 3 9 5 nO.pb nO.c5 g cur.size (by have hg':w.drew.heap[g]? = some (.cells cur 5 (0,0)):=hg; simp[World.shape?,hg']) l h0 (by omega) (by omega) ?_
  intro j x hx
  have e:(⟨g,0,none⟩:Addr).add j=⟨g,j,none⟩:=by unfold Addr.add; split<;>simp_all
  rw[e]
  exact sd j x hx
 have mixed:Tryz.prog.follows .mixedOrders=true:=nO.mixed
 go_enter Tryz.func84,Tryz.ntmps84
 go_wp2
 go_region_o
 all_goals (go_wp2; go_ret; exact⟨rfl,rfl⟩)
theorem nO.z5z(b g o:Nat)(p:Value)(cur:Array Value)(w:World)(Cw:w.heap[b]? = some (.cells #[p,.slice (some ⟨g,o,none⟩) 0 0] 111 (0,0)))(hg:w.heap[g]? = some (.cells cur 5 (0,0))) :
  Calls Tryz.prog 84 #[.pointer (some ⟨b,0,none⟩)] w λe w'=>e=.returned (.string ⟨#[]⟩)/\w'=w.drew.alloc (.view ⟨g,o,none⟩ 5):=by
 have hUS:=nO.OY
 have qy:b<w.heap.size:=by
  rcases Nat.lt_or_ge b w.heap.size with h' | h'
  ·exact h'
  ·simp[Array.getElem?_eq_none h']at Cw
 have c1:w.drew.cell? ⟨b,1,none⟩=some (.slice (some ⟨g,o,none⟩) 0 0):=by
  have:w.drew.heap[b]? = some (.cells #[p,.slice (some ⟨g,o,none⟩) 0 0] 111 (0,0)):=Cw
  rw[Lib.cell_of_heap this]; rfl
 have hSD:(Builtin.unsafeSliceData_ #[77] 161 #[.slice (some ⟨g,o,none⟩) 0 0]).run Tryz.prog w.drew=.ok (.pointer (some ⟨w.drew.heap.size,0,none⟩)) (w.drew.alloc (.view ⟨g,o,none⟩ 5)) :=
  Lib.run_unsafeSliceData_zero w.drew _ _ 5 nO.pb ⟨g,o,none⟩ 0 (5,cur.size) (by have hg':w.drew.heap[g]? = some (.cells cur 5 (0,0)):=hg; simp[World.shape?,hg'])
 have c2:(w.drew.alloc (.view ⟨g,o,none⟩ 5)).cell? ⟨b,1,none⟩=some (.slice (some ⟨g,o,none⟩) 0 0):=by
  have:(w.drew.alloc (.view ⟨g,o,none⟩ 5)).heap[b]? = _:=(Lib.alloc_old w.drew _ b qy).trans Cw
  rw[Lib.cell_of_heap this]; rfl
 have c3:(w.alloc (.view ⟨g,o,none⟩ 5)).drew.cell? ⟨b,1,none⟩=some (.slice (some ⟨g,o,none⟩) 0 0):=c2
 have c0:w.cell? ⟨b,1,none⟩=some (.slice (some ⟨g,o,none⟩) 0 0):=c1
 have mixed:Tryz.prog.follows .mixedOrders=true:=nO.mixed
 go_enter Tryz.func84,Tryz.ntmps84
 go_wp2
 go_region_o
 all_goals (go_wp2; go_ret; exact⟨rfl,rfl⟩)
end
end Go.Proofs

namespace Go.AM.Lf
open Go.Proofs
theorem zdS:wa Tryz.prog 84 ⟨[.ptr],z3G,[],⟨[Ms 0,.v (.st [.op 0 111,.un])],[],[.var (.st [.op 0 111,.un]),.dead]⟩,1,λx=>mB x.1 x.2⟩:=MK (P:=Tryz.prog) (g:=84) (t:=111) (enters_of Tryz.func84 (by kernel_rfl) rfl) nO.nil nO.room nO.full nO.z5z
def t75:=t74.s zdS
def Ob:zJ:=Lz [.cell 0 1 (.int .u8)] [Mr 1 zT,Mm 13 (.sl zt),Mi 14] ⟨[Mi 15,.v W7,.a (.int .u8)],[(3,.ptr 0 0)],ob⟩ [⟨.exit 0,Xe⟩] λp s=>jB p.1 p.2.1 p.2.2 s
def T4:zJ:=Lz [] [Mr 1 zT,Mm 29 (.sl zw),Mi 30] ⟨[Mi 31,.v W7,.a (.int .u8)],[(3,.ptr 0 0)],ob⟩ [⟨.exit 2,Xe⟩] λp s=>jE p.1 p.2.1 p.2.2 s
def T7:zJ:=Lz [] [Mr 1 zT,Mi 48] ⟨[Mi 49,.v W7,.a (.int .u8)],[(3,.ptr 0 0)],ob⟩ [⟨.exit 4,Xe⟩] λp s=>jX p.1 p.2 s
def SR:zJ:=Lz [] [Mm 57 (.sl zX),Mi 58] ⟨[Mi 59,.v W7,.a (.int .u8)],[(3,.ptr 0 0)],ob⟩ [⟨.exit 6,Xe⟩] λp s=>jN p.1 p.2 s
def Pk:Hints:=Hz [(0,Ob),(2,T4),(4,T7),(6,SR)] [(3,6,.flat [Ms 6])] []
theorem z62:LO Tryz.f36 Ob 0:=lk t75 (rz [1]) Pk [] zk
theorem z69:LO Tryz.f36 T4 2:=lk t75 (rz [1]) Pk [] zk
theorem z4U:LO Tryz.f36 T7 4:=lk t75 (rz [1]) Pk [] zk
theorem z6v:LO Tryz.f36 SR 6:=lk t75 (rz [1]) Pk [] zk
theorem zde:zu Pz 36 ⟨[.ty zT],[.str],λx=>cu x⟩:=qY t75 (rz [1]) Pk Tryz.func36 [0,2,4,6] (zU rfl z62 (zU rfl z69 (zU rfl z4U (zU rfl z6v zk))))
def t76:=t75.d zde
theorem zdP:zu Pz 20 ⟨[.ty zT],[.bool],λx=>dS x⟩:=qY t76 (rz [1]) hN Tryz.func20 [] zk
def t77:=t76.d zdP
theorem zdH:zu Pz 16 ⟨[.ty zT],[.str],λx=>jQ x⟩:=qY t77 (rz [1]) hN Tryz.func16 [] zk
def t78:=t77.d zdH
def h67:Hints:=Hz [] [(0,1,.flat [Mb 2])] []
theorem zdm:zu Pz 67 ⟨[.ty (.int .u8)],[.bool],λx=>k8 x⟩:=qY t78 rn h67 Tryz.func67 [] zk
def t79:=t78.d zdm
def h68:Hints:=Hz [] [(0,1,.flat [Mb 2])] []
theorem zeD:zu Pz 68 ⟨[.ty (.int .u8)],[.bool],λx=>lY x⟩:=qY t79 rn h68 Tryz.func68 [] zk
def t80:=t79.d zeD
def S7:zJ:=Lz [] [Ms 0] Zu [cy,sH] λp s=>kh p s
def h30:Hints:=Hz [(0,S7)] [(0,1,.ways [z42]),(0,6,.ways [⟨.normal,⟨[Mb 41],[],[]⟩⟩])] []
theorem z4Q:LO Tryz.f30 S7 0:=lk t80 rn h30 [] zk
theorem zfp:zu Pz 30 ⟨[.ty .str],[.bool],λx=>vZ x⟩:=qY t80 rn h30 Tryz.func30 [0] (zU rfl z4Q zk)
def t81:=t80.d zfp
def Iz:zJ:=Lz [] [Mm 0 (.sl u32)] Zu [Sx] λp s=>gu p s
def zag:Hints:=Hz [(0,Iz)] [(0,2,.flat [Mb 15])] []
theorem z0w:LO Tryz.f125 Iz 0:=lk t81 rn zag [] zk
theorem z9C:zu Pz 125 ⟨[.ty (.sl u32)],[(.sl u32)],λx=>qR x⟩:=qY t81 rn zag Tryz.func125 [0] (zU rfl z0w zk)
def t82:=t81.d z9C
def Fh:zJ:=Lz [] [Mm 4 (.sl u32)] ⟨[Mm 5 (.int .u64),Mi 6],[],[]⟩ [⟨.exit 0,⟨[Mm 5 (.int .u64)],[],[]⟩⟩] λp s=>eW p s
def z7A:Hints:=Hz [(0,Fh)] [] []
theorem z1q:LO Tryz.f165 Fh 0:=lk t82 rn z7A [] zk
theorem z8R:zu Pz 165 ⟨[.ty (.sl u32)],[(.int .u64),.bool],λx=>tR x⟩:=qY t82 rn z7A Tryz.func165 [0] (zU rfl z1q zk)
def t83:=t82.d z8R
theorem z9k:zu Pz 162 ⟨[.ty (.int .u64)],[(.sl u32)],λx=>rf x⟩:=qY t83 rn hN Tryz.func162 [] zk
def t84:=t83.d z9k
def L1:zJ:=Lz [] [Mm 0 (.sl u32),Mm 1 (.int .u64)] z45 [⟨.exit 0,⟨[Mm 7 (.int .u64),.a u32],[(6,.cur 0 u32)],ga⟩⟩] λp s=>bU p.1 p.2 s
def zbD:Hints:=Hz [(0,L1)] [] [(9,[6])]
theorem z2x:LO Tryz.f166 L1 0:=lk t84 rn zbD [] zk
theorem zaI:zu Pz 166 ⟨[.ty (.sl u32),.ty (.int .u64)],[(.sl u32),(.int .u64)],λx=>bN x.1 x.2⟩:=qY t84 rn zbD Tryz.func166 [0] (zU rfl z2x zk)
def t85:=t84.d zaI
theorem zbd:zu Pz 163 ⟨[.ty (.sl u32),.ty i64],[(.int .u64)],λx=>gx x.1 x.2⟩:=qY t85 rn hN Tryz.func163 [] zk
def t86:=t85.d zbd
def La:zJ:=Lz [.slot 8 u32] [Mm 5 (.sl u32),Mm 7 (.int .u64)] ⟨[Mi 9,.a u32],[(8,.cur 0 u32)],ga⟩ [⟨.exit 0,⟨[.a u32],[(8,.cur 0 u32)],ga⟩⟩] λp s=>sF p.1 p.2 s
def Ik:zJ:=Lz [] [Mm 5 (.sl u32),Mm 11 (.int .u64)] ⟨[Mm 12 (.int .u64),Mi 13,.a u32],[(10,.cur 0 u32)],ga⟩ [⟨.exit 2,⟨[.a u32],[(10,.cur 0 u32)],ga⟩⟩] λp s=>bR p.1 p.2 s
def z5B:Hints:=Hz [(0,La),(2,Ik)] [] [(14,[8]),(24,[10])]
theorem z1E:LO Tryz.f167 La 0:=lk t86 rn z5B [] zk
theorem z2j:LO Tryz.f167 Ik 2:=lk t86 rn z5B [] zk
theorem z9h:zu Pz 167 ⟨[.ty (.sl u32),.ty i64],[(.sl u32)],λx=>lX x.1 x.2⟩:=qY t86 rn z5B Tryz.func167 [0,2] (zU rfl z1E (zU rfl z2j zk))
def t87:=t86.d z9h
def FK:zJ:=Lz [.slot 5 u32] [Mm 0 (.sl u32),Mm 1 (.sl u32)] ⟨[Mm 6 (.int .u64),Mi 7,.a u32],[(5,.cur 0 u32)],ga⟩ [PD] λp s=>fM p.1 p.2 s
def z9I:Hints:=Hz [(0,FK)] [] [(9,[5])]
theorem z04:LO Tryz.f120 FK 0:=lk t87 rn z9I [] zk
theorem z9U:zu Pz 120 ⟨[.ty (.sl u32),.ty (.sl u32)],[(.sl u32)],λx=>Qg x.1 x.2⟩:=qY t87 rn z9I Tryz.func120 [0] (zU rfl z04 zk)
def t88:=t87.d z9U
def Il:zJ:=Lz [] [Mm 5 (.sl u32),Mm 6 (.sl u32)] z3T [cy,Vx] λp s=>cf p.1 p.2 s
def z8Y:Hints:=Hz [(0,Il)] [] []
theorem z0j:LO Tryz.f168 Il 0:=lk t88 rn z8Y [] zk
theorem z9S:zu Pz 168 ⟨[.ty (.sl u32),.ty (.sl u32)],[i64],λx=>pq x.1 x.2⟩:=qY t88 rn z8Y Tryz.func168 [0] (zU rfl z0j zk)
def t89:=t88.d z9S
def FI:zJ:=Lz [.slot 6 u32] [Mm 0 (.sl u32),Mm 1 (.sl u32)] z45 [⟨.exit 0,⟨[.a u32],[(6,.cur 0 u32)],ga⟩⟩] λp s=>fA p.1 p.2 s
def z81:Hints:=Hz [(0,FI)] [(3,10,.flat [Mm 7 (.int .u64),Mm 9 (.int .u64)])] [(14,[6])]
theorem z2e:LO Tryz.f169 FI 0:=lk t89 rn z81 [] zk
theorem z7W:zu Pz 169 ⟨[.ty (.sl u32),.ty (.sl u32)],[(.sl u32),.bool],λx=>ZX x.1 x.2⟩:=qY t89 rn z81 Tryz.func169 [0] (zU rfl z2e zk)
def t90:=t89.d z7W
def EW:zJ:=Lz [] [Mm 0 (.sl u32),Mm 1 (.sl u32)] ⟨[Mm 14 (.sl u32),Mi 15,.a u32],[(13,.cur 0 u32)],ga⟩ [⟨.exit 0,z3s⟩] λp s=>uF p.1 p.2 s
def z7o:Hints:=Hz [(0,EW)] [(0,5,.flat [Mb 33]),(0,7,.flat [Mb 46]),(3,16,.ways [⟨.normal,z3s⟩])] [(21,[13])]
theorem z02:LO Tryz.f127 EW 0:=lk t90 rn z7o [] zk
theorem z8e:zu Pz 127 ⟨[.ty (.sl u32),.ty (.sl u32)],[(.sl u32),(.sl u32),.bool],λx=>jC x.1 x.2⟩:=qY t90 rn z7o Tryz.func127 [0] (zU rfl z02 zk)
def t91:=t90.d z8e
def FX:zJ:=Lz [] [] ⟨[Mm 5 (.sl u32),Mm 6 (.sl u32)],[],[]⟩ [⟨.exit 0,⟨[Mm 5 (.sl u32)],[],[]⟩⟩] λp s=>cC  s
def z8i:Hints:=Hz [(0,FX)] [] []
theorem z1V:LO Tryz.f126 FX 0:=lk t91 rn z8i [] zk
theorem z7U:zu Pz 126 ⟨[.ty (.sl u32),.ty (.sl u32)],[(.sl u32)],λx=>Zt x.1 x.2⟩:=qY t91 rn z8i Tryz.func126 [0] (zU rfl z1V zk)
def t92:=t91.d z7U
def h64:Hints:=Hz [] [(0,2,.flat [Mb 19])] []
theorem zf8:zu Pz 64 ⟨[.ty wO],[wO],λx=>je x⟩:=qY t92 (rz [1]) h64 Tryz.func64 [] zk
def t93:=t92.d zf8
def Tf:zJ:=Lz [] [Mm 0 (.sl u32),Mm 1 (.sl u32)] Xz [cy,Q1] λp s=>ja p.1 p.2 s
def h65:Hints:=Hz [(0,Tf)] [] []
theorem z5m:LO Tryz.f65 Tf 0:=lk t93 rn h65 [] zk
theorem zda:zu Pz 65 ⟨[.ty (.sl u32),.ty (.sl u32)],[.bool],λx=>yz x.1 x.2⟩:=qY t93 rn h65 Tryz.func65 [0] (zU rfl z5m zk)
def t94:=t93.d zda
theorem zd3:zu Pz 69 ⟨[.ty wO],[.bool],λx=>Q3 x⟩:=qY t94 (rz [1]) hN Tryz.func69 [] zk
def t95:=t94.d zd3
def h70:Hints:=Hz [] [(0,2,.flat [Mb 2])] []
theorem zfP:zu Pz 70 ⟨[.ty wO],[.bool],λx=>lP x⟩:=qY t95 (rz [1]) h70 Tryz.func70 [] zk
def t96:=t95.d zfP
theorem zfJ:zu Pz 31 ⟨[.ty wO],[.bool],λx=>dC x⟩:=qY t96 (rz [1]) hN Tryz.func31 [] zk
def t97:=t96.d zfJ
theorem zfd:zu Pz 32 ⟨[.ty .str],[.bool],λx=>eL x⟩:=qY t97 rn hN Tryz.func32 [] zk
def t98:=t97.d zfd
def Fo:zJ:=Lz [] [Mm 0 (.sl u32),Mm 1 (.sl u32),Mi 6] ⟨[Mm 7 (.int .u64),Mi 8,.a u32],[(5,.cur 0 u32)],ga⟩ [⟨.exit 2,z3E⟩] λp s=>cz p.1 p.2.1 p.2.2 s
def Fc:zJ:=Lz [] [Mm 0 (.sl u32),Mm 1 (.sl u32)] ⟨[Mi 6,.a u32],[(5,.cur 0 u32)],ga⟩ [PD] λp s=>fq p.1 p.2 s
def z4i:Hints:=Hz [(2,Fo),(0,Fc)] [(0,7,.flat [Mb 28])] [(13,[5])]
theorem z0X:LO Tryz.f121 Fo 2:=lk t98 rn z4i [] zk
theorem TO:LO Tryz.f121 Fc 0:=lk t98 rn z4i [2] (zU rfl z0X zk)
theorem zaj:zu Pz 121 ⟨[.ty (.sl u32),.ty (.sl u32)],[(.sl u32)],λx=>oh x.1 x.2⟩:=qY t98 rn z4i Tryz.func121 [0] (zU rfl TO zk)
def t99:=t98.d zaj
def FG:zJ:=Lz [] [] ⟨[Mm 3 (.sl u32),Ms 4],[],[]⟩ [⟨.exit 0,⟨[Ms 4],[],[]⟩⟩] λp s=>kV  s
def z86:Hints:=Hz [(0,FG)] [] []
theorem z2w:LO Tryz.f131 FG 0:=lk t99 rn z86 [] zk
theorem z97:zu Pz 131 ⟨[.ty (.sl u32)],[.str],λx=>bJ x⟩:=qY t99 rn z86 Tryz.func131 [0] (zU rfl z2w zk)
def t100:=t99.d z97
def IY:zJ:=Lz [] [Mi 1] NO [⟨.exit 0,NO⟩] λp s=>jU p s
def zb4:Hints:=Hz [(0,IY)] [] []
theorem z2i:LO Tryz.f202 IY 0:=lk t100 rn zb4 [] zk
theorem z9W:zu Pz 202 ⟨[.ty (.sl u32),.ty i64],[.str],λx=>fy x.1 x.2⟩:=qY t100 rn zb4 Tryz.func202 [0] (zU rfl z2i zk)
def t101:=t100.d z9W
theorem zaf:zu Pz 130 ⟨[.ty .bool],[.str],λx=>dH x⟩:=qY t101 rn hN Tryz.func130 [] zk
def t102:=t101.d zaf
def zeR:Hints:=Hz [] [(3,2,.flat [Ms 7])] []
theorem zbO:zu Pz 170 ⟨[.ty .bool,.ty (.sl u32),.ty i64],[.str],λx=>me x.1 x.2.1 x.2.2⟩:=qY t102 rn zeR Tryz.func170 [] zk
def t103:=t102.d zbO
def Fs:zJ:=Lz [] [] ⟨[Mm 5 (.sl u32),Mi 6,.v (.zI wO)],[(4,.ptr 0 0)],[.var (.zI wO)]⟩ [z3u,z39] λp s=>jf  s
def Na:Hints:=Hz [(0,Fs)] [] []
theorem z0s:LO Tryz.f128 Fs 0:=lk t103 (rz [1]) Na [] zk
theorem zbm:zu Pz 128 ⟨[.ty wO],[.str,.bool],λx=>bL x⟩:=qY t103 (rz [1]) Na Tryz.func128 [0] (zU rfl z0s zk)
def t104:=t103.d zbm
theorem z8M:zu Pz 129 ⟨[.ty wO],[.bool],λx=>jJ x⟩:=qY t104 (rz [1]) hN Tryz.func129 [] zk
def t105:=t104.d z8M
abbrev Y71:=jx [.ty .expr,.ty i64]->T (KD [.bool])
abbrev H71(F:Y71):=zu Pz 71 ⟨[.ty .expr,.ty i64],[.bool],F⟩
def T71(iY:Y71)(H5:H71 iY):Tb:=t105.d H5
def RZ(iY:Y71):zJ:=Lz [] [Mi 1,Mr 2 .expr,Mi 5] J0 [⟨.exit 1,Kj⟩,Q1] λp s=>cg (λy0 y1=>iY (y0,y1)) p.1 p.2.1 p.2.2 s
def h71(iY:Y71):Hints:=Hz [(1,RZ iY)] [(3,4,.ways [⟨.normal,Xz⟩,Q1]),(0,17,.ways [⟨.normal,⟨[Mb 82],[],[]⟩⟩])] []
theorem z6E(iY:Y71)(H5:H71 iY):LO Tryz.f71 (RZ iY) 1:=lk (T71 iY H5) (rz [2]) (h71 iY) [] zk
theorem z6b(iY:Y71)(H5:H71 iY):zu Pz 71 ⟨[.ty .expr,.ty i64],[.bool],λx=>mq (λy0 y1=>iY (y0,y1)) x.1 x.2⟩:=qY (T71 iY H5) (rz [2]) (h71 iY) Tryz.func71 [1] (zU rfl (z6E iY H5) zk)
theorem zfi:zu Pz 71 ⟨[.ty .expr,.ty i64],[.bool],λx=>o5 x.1 x.2⟩:=tF (λiY x=>mq (λy0 y1=>iY (y0,y1)) x.1 x.2) (λx=>rfl) (λiY H5=>z6b iY H5)
def t106:=t105.d zfi
abbrev Y72:=jx [.ty .expr]->T (KD [i64])
abbrev H72(F:Y72):=zu Pz 72 ⟨[.ty .expr],[i64],F⟩
def T72(l8:Y72)(BF:H72 l8):Tb:=t106.d BF
def Sq(l8:Y72):zJ:=Lz [] [Mr 1 .expr] Sh [Sx] λp s=>y7 (λy0=>l8 (y0)) p s
def h72(l8:Y72):Hints:=Hz [(0,Sq l8)] [] []
theorem z5u(l8:Y72)(BF:H72 l8):LO Tryz.f72 (Sq l8) 0:=lk (T72 l8 BF) (rz [1]) (h72 l8) [] zk
theorem z4g(l8:Y72)(BF:H72 l8):zu Pz 72 ⟨[.ty .expr],[i64],λx=>dy (λy0=>l8 (y0)) x⟩:=qY (T72 l8 BF) (rz [1]) (h72 l8) Tryz.func72 [0] (zU rfl (z5u l8 BF) zk)
theorem zcB:zu Pz 72 ⟨[.ty .expr],[i64],λx=>mf x⟩:=tF (λl8 x=>dy (λy0=>l8 (y0)) x) (λx=>rfl) (λl8 BF=>z4g l8 BF)
def t107:=t106.d zcB
theorem zen:zu Pz 33 ⟨[.ty .expr],[.bool],λx=>dv x⟩:=qY t107 (rz [1]) hN Tryz.func33 [] zk
def t108:=t107.d zen
def T9:zJ:=Lz [] [Mr 1 zT] Sh [cy,sH] λp s=>kU p s
def NY:zJ:=Lz [] [Mr 1 zT] z3n [RW,sH] λp s=>y3 p s
def h34:Hints:=Hz [(0,T9),(2,NY)] [(0,6,.ways [⟨.normal,⟨[Mb 47,.v (.zI zy)],[],[.var (.zI zy)]⟩⟩]),(0,14,.ways [⟨.normal,⟨[Mb 101,.v (.zI zD)],[],[.var (.zI zD)]⟩⟩])] []
theorem z4l:LO Tryz.f34 T9 0:=lk t108 (rz [1]) h34 [] zk
theorem z5L:LO Tryz.f34 NY 2:=lk t108 (rz [1]) h34 [] zk
theorem zdv:zu Pz 34 ⟨[.ty zT],[.bool],λx=>mR x⟩:=qY t108 (rz [1]) h34 Tryz.func34 [0,2] (zU rfl z4l (zU rfl z5L zk))
def t109:=t108.d zdv
def h73:Hints:=Hz [] [(0,3,.flat [Mb 24])] []
theorem zcX:zu Pz 73 ⟨[.ty wO],[.str],λx=>mn x⟩:=qY t109 (rz [1]) h73 Tryz.func73 [] zk
def t110:=t109.d zcX
theorem zf5:zu Pz 74 ⟨[.ty .str],[.str],λx=>pN x⟩:=qY t110 rn hN Tryz.func74 [] zk
def t111:=t110.d zf5
def h75:Hints:=Hz [] [(3,2,.flat [Ms 3])] []
theorem zfu:zu Pz 75 ⟨[.ty zy],[.str],λx=>lJ x⟩:=qY t111 (rz [1]) h75 Tryz.func75 [] zk
def t112:=t111.d zfu
def zcz:Hints:=Hz [] [(3,2,.flat [Mb 4]),(3,5,.flat [Mb 7])] []
theorem z9e:zu Pz 171 ⟨[.ty i64],[i64],λx=>pe x⟩:=qY t112 rn zcz Tryz.func171 [] zk
def t113:=t112.d z9e
abbrev z6d:=jx [.ty .expr,.ty i64]->T (KD [.str])
abbrev zeu(F:z6d):=zu Pz 132 ⟨[.ty .expr,.ty i64],[.str],F⟩
def zds(Xg:z6d):Hints:=Hz [] [(3,2,.ways [⟨.normal,NO⟩])] []
theorem z2s(Xg:z6d)(Ox:zeu Xg):zu Pz 132 ⟨[.ty .expr,.ty i64],[.str],λx=>fx (λy0 y1=>Xg (y0,y1)) x.1 x.2⟩:=qY (t113.d Ox) (rz [2]) (zds Xg) Tryz.func132 [] zk
theorem z7q:zu Pz 132 ⟨[.ty .expr,.ty i64],[.str],λx=>pC x.1 x.2⟩:=tF (λXg x=>fx (λy0 y1=>Xg (y0,y1)) x.1 x.2) (λx=>rfl) (λXg Ox=>z2s Xg Ox)
def t114:=t113.d z7q
theorem zdM:zu Pz 76 ⟨[.ty .expr],[.str],λx=>yq x⟩:=qY t114 (rz [1]) hN Tryz.func76 [] zk
def t115:=t114.d zdM
theorem zcT:zu Pz 77 ⟨[.ty i64],[.str],λx=>Qh x⟩:=qY t115 rn hN Tryz.func77 [] zk
def t116:=t115.d zcT
theorem zfT:zu Pz 19 ⟨[.ty i64],[.str],λx=>bW x⟩:=qY t116 rn hN Tryz.func19 [] zk
def t117:=t116.d zfT
def Pv:zJ:=Lz [] [Mr 1 zT] ⟨[Ms 3,Mi 4],[],[]⟩ [⟨.exit 0,Uc⟩] λp s=>gM p s
def P8:zJ:=Lz [] [Mr 1 zT] ⟨[Ms 3,Mi 6],[],[]⟩ [⟨.exit 2,Uc⟩] λp s=>gC p s
def S6:zJ:=Lz [] [Mr 1 zT,Mi 7] ⟨[Ms 3,Mi 8],[],[]⟩ [⟨.exit 6,Uc⟩] λp s=>gq p.1 p.2 s
def Rr:zJ:=Lz [] [Mr 1 zT,Mi 7] ⟨[Ms 3,Mi 9],[],[]⟩ [⟨.exit 8,Uc⟩] λp s=>gE p.1 p.2 s
def Ou:zJ:=Lz [] [Mr 1 zT] ⟨[Ms 3,Mi 7],[],[]⟩ [⟨.exit 4,Uc⟩] λp s=>gQ p s
def IH:zJ:=Lz [] [Mr 1 zT] ⟨[Ms 3,Mi 11],[],[]⟩ [⟨.exit 10,Uc⟩] λp s=>gF p s
def h35:Hints:=Hz [(0,Pv),(2,P8),(6,S6),(8,Rr),(4,Ou),(10,IH)] [(3,6,.flat [Ms 5])] []
theorem z4F:LO Tryz.f35 Pv 0:=lk t117 (rz [1]) h35 [] zk
theorem z4k:LO Tryz.f35 P8 2:=lk t117 (rz [1]) h35 [] zk
theorem z6z:LO Tryz.f35 S6 6:=lk t117 (rz [1]) h35 [] zk
theorem z6x:LO Tryz.f35 Rr 8:=lk t117 (rz [1]) h35 [] zk
theorem z6B:LO Tryz.f35 Ou 4:=lk t117 (rz [1]) h35 [6,8] (zU rfl z6z (zU rfl z6x zk))
theorem z1T:LO Tryz.f35 IH 10:=lk t117 (rz [1]) h35 [] zk
theorem zfm:zu Pz 35 ⟨[.ty zT],[.str],λx=>iG x⟩:=qY t117 (rz [1]) h35 Tryz.func35 [0,2,4,10] (zU rfl z4F (zU rfl z4k (zU rfl z6B (zU rfl z1T zk))))
def t118:=t117.d zfm
def OI:zJ:=Lz [] [Mr 1 zT] Zu [cy,sH] λp s=>dQ p s
def OK:zJ:=Lz [] [Mr 1 zT] ⟨[Mi 4],[],[]⟩ [RW,sH] λp s=>fa p s
def R8:zJ:=Lz [] [Mr 1 zT] Xz [⟨.exit 4,Kj⟩,sH] λp s=>dP p s
def PQ:zJ:=Lz [] [Mr 1 zT] z3H [⟨.exit 6,Kj⟩,sH] λp s=>eU p s
def h15:Hints:=Hz [(0,OI),(2,OK),(4,R8),(6,PQ)] [(0,9,.ways [⟨.normal,⟨[Mb 47],[],[]⟩⟩]),(0,14,.ways [⟨.normal,⟨[Mb 72],[],[]⟩⟩]),(0,20,.ways [⟨.normal,⟨[Mb 116,.v (.zI zX)],[],[.var (.zI zX)]⟩⟩])] []
theorem z4B:LO Tryz.f15 OI 0:=lk t118 (rz [1]) h15 [] zk
theorem z4n:LO Tryz.f15 OK 2:=lk t118 (rz [1]) h15 [] zk
theorem z5K:LO Tryz.f15 R8 4:=lk t118 (rz [1]) h15 [] zk
theorem z4m:LO Tryz.f15 PQ 6:=lk t118 (rz [1]) h15 [] zk
theorem zeG:zu Pz 15 ⟨[.ty zT],[.bool],λx=>Qk x⟩:=qY t118 (rz [1]) h15 Tryz.func15 [0,2,4,6] (zU rfl z4B (zU rfl z4n (zU rfl z5K (zU rfl z4m zk))))
def t119:=t118.d zeG
theorem zfh:zu Pz 18 ⟨[.ty zT],[.str],λx=>mQ x⟩:=qY t119 (rz [1]) hN Tryz.func18 [] zk
def t120:=t119.d zfh
def Py:zJ:=Lz [] [Mm 0 (.sl zt),Mm 1 (.sl zt),Mi 12] Fm [cy,Q1] λp s=>xC p.1 p.2.1 p.2.2 s
def h40:Hints:=Hz [(0,Py)] [] []
theorem z5s:LO Tryz.f40 Py 0:=lk t120 rn h40 [] zk
theorem zdK:zu Pz 40 ⟨[.ty (.sl zt),.ty (.sl zt)],[.bool],λx=>uT x.1 x.2⟩:=qY t120 rn h40 Tryz.func40 [0] (zU rfl z5s zk)
def t121:=t120.d zdK
def Po:zJ:=Lz [] [Mm 0 (.sl zO),Mm 1 (.sl zO),Mi 12] Fm [cy,Q1] λp s=>xU p.1 p.2.1 p.2.2 s
def h41:Hints:=Hz [(0,Po)] [] []
theorem z4O:LO Tryz.f41 Po 0:=lk t121 rn h41 [] zk
theorem zdl:zu Pz 41 ⟨[.ty (.sl zO),.ty (.sl zO)],[.bool],λx=>jY x.1 x.2⟩:=qY t121 rn h41 Tryz.func41 [0] (zU rfl z4O zk)
def t122:=t121.d zdl
def OC:zJ:=Lz [] [Mm 0 (.sl zy),Mm 1 (.sl zy),Mi 12] Fm [cy,Q1] λp s=>xJ p.1 p.2.1 p.2.2 s
def h42:Hints:=Hz [(0,OC)] [] []
theorem z5g:LO Tryz.f42 OC 0:=lk t122 rn h42 [] zk
theorem ze5:zu Pz 42 ⟨[.ty (.sl zy),.ty (.sl zy)],[.bool],λx=>ji x.1 x.2⟩:=qY t122 rn h42 Tryz.func42 [0] (zU rfl z5g zk)
def t123:=t122.d ze5
def IP:zJ:=Lz [] [Mm 0 (.sl u32),Mm 1 (.sl u32),Mi 12] Fm [cy,Q1] λp s=>xB p.1 p.2.1 p.2.2 s
def zbq:Hints:=Hz [(0,IP)] [] []
theorem z0u:LO Tryz.f101 IP 0:=lk t123 rn zbq [] zk
theorem z7C:zu Pz 101 ⟨[.ty (.sl u32),.ty (.sl u32)],[.bool],λx=>xY x.1 x.2⟩:=qY t123 rn zbq Tryz.func101 [0] (zU rfl z0u zk)
def t124:=t123.d z7C
theorem zeA:zu Pz 45 ⟨[.ty wO,.ty wO],[.bool],λx=>iZ x.1 x.2⟩:=qY t124 rn hN Tryz.func45 [] zk
def t125:=t124.d zeA
theorem zem:zu Pz 44 ⟨[.ty zw,.ty zw],[.bool],λx=>ur x.1 x.2⟩:=qY t125 (rz [2,3]) hN Tryz.func44 [] zk
def t126:=t125.d zem
def PK:zJ:=Lz [] [Mm 1 (.sl zw),.s 2 (.qN 44 []),Mm 15 (.sl zw),Mi 16] IL [cy,I1] λp s=>ql p.1 (λz0 z1=>ur z0 z1) p.2.2.1 p.2.2.2 s
def h43:Hints:=Hz [(0,PK)] [] []
theorem z6t:LO Tryz.f43 PK 0:=lk t126 rn h43 [] zk
theorem ze3:zu Pz 43 ⟨[.ty (.sl zw),.ty (.sl zw),.qN 44 []],[.bool],λx=>xQ x.1 x.2.1 (λz0 z1=>ur z0 z1)⟩:=qY t126 rn h43 Tryz.func43 [0] (zU rfl z6t zk)
def t127:=t126.d ze3
abbrev CE:=jx [.ty .expr,.ty .expr]->T (KD [.bool])
abbrev TR(F:CE):=zu Pz 102 ⟨[.ty .expr,.ty .expr],[.bool],F⟩
def z7R(uW:CE)(oB:TR uW):Tb:=t127.d oB
def IZ(uW:CE):zJ:=Lz [] [Mm 1 (.sl .expr),.s 2 (.qN 102 []),Mm 15 (.sl .expr),Mi 16] IL [cy,I1] λp s=>qs (λy0 y1=>uW (y0,y1)) p.1 (λz0 z1=>(λy0 y1=>uW (y0,y1)) z0 z1) p.2.2.1 p.2.2.2 s
def z9f(uW:CE):Hints:=Hz [(0,IZ uW)] [] []
theorem z1K(uW:CE)(oB:TR uW):LO Tryz.f150 (IZ uW) 0:=lk (z7R uW oB) rn (z9f uW) [] zk
theorem zbv(uW:CE)(oB:TR uW):zu Pz 150 ⟨[.ty (.sl .expr),.ty (.sl .expr),.qN 102 []],[.bool],λx=>qD (λy0 y1=>uW (y0,y1)) x.1 x.2.1 (λz0 z1=>(λy0 y1=>uW (y0,y1)) z0 z1)⟩:=qY (z7R uW oB) rn (z9f uW) Tryz.func150 [0] (zU rfl (z1K uW oB) zk)
theorem z0B(uW:CE)(oB:TR uW):zu Pz 102 ⟨[.ty .expr,.ty .expr],[.bool],λx=>fk (λy0 y1=>uW (y0,y1)) x.1 x.2⟩:=qY ((t127.d (zbv _ oB)).d oB) (rz [2,3]) hN Tryz.func102 [] zk
theorem z9s:zu Pz 102 ⟨[.ty .expr,.ty .expr],[.bool],λx=>iK x.1 x.2⟩:=tF (λuW x=>fk (λy0 y1=>uW (y0,y1)) x.1 x.2) (λx=>rfl) (λuW oB=>z0B uW oB)
def t128:=t127.d z9s
theorem zdT:zu Pz 48 ⟨[.ty .expr,.ty .expr,.ty .expr,.ty .expr],[.bool],λx=>dY x.1 x.2.1 x.2.2.1 x.2.2.2⟩:=qY t128 (rz [4,5,6,7]) hN Tryz.func48 [] zk
def t129:=t128.d zdT
theorem zfN:zu Pz 47 ⟨[.ty zX,.ty zX],[.bool],λx=>vn x.1 x.2⟩:=qY t129 (rz [2,3]) hN Tryz.func47 [] zk
def t130:=t129.d zfN
def NZ:zJ:=Lz [] [Mm 1 (.sl zX),.s 2 (.qN 47 []),Mm 15 (.sl zX),Mi 16] IL [cy,I1] λp s=>qt p.1 (λz0 z1=>vn z0 z1) p.2.2.1 p.2.2.2 s
def h46:Hints:=Hz [(0,NZ)] [] []
theorem z5h:LO Tryz.f46 NZ 0:=lk t130 rn h46 [] zk
theorem zdG:zu Pz 46 ⟨[.ty (.sl zX),.ty (.sl zX),.qN 47 []],[.bool],λx=>w7 x.1 x.2.1 (λz0 z1=>vn z0 z1)⟩:=qY t130 rn h46 Tryz.func46 [0] (zU rfl z5h zk)
def t131:=t130.d zdG
theorem zeW:zu Pz 50 ⟨[.ty zD,.ty zD],[.bool],λx=>vk x.1 x.2⟩:=qY t131 (rz [2,3]) hN Tryz.func50 [] zk
def t132:=t131.d zeW
def Pt:zJ:=Lz [] [Mm 1 (.sl zD),.s 2 (.qN 50 []),Mm 15 (.sl zD),Mi 16] IL [cy,I1] λp s=>qm p.1 (λz0 z1=>vk z0 z1) p.2.2.1 p.2.2.2 s
def h49:Hints:=Hz [(0,Pt)] [] []
theorem z4b:LO Tryz.f49 Pt 0:=lk t132 rn h49 [] zk
theorem zdC:zu Pz 49 ⟨[.ty (.sl zD),.ty (.sl zD),.qN 50 []],[.bool],λx=>xO x.1 x.2.1 (λz0 z1=>vk z0 z1)⟩:=qY t132 rn h49 Tryz.func49 [0] (zU rfl z4b zk)
def t133:=t132.d zdC
theorem zfM:zu Pz 21 ⟨[.ty zT,.ty zT],[.bool],λx=>eE x.1 x.2⟩:=qY t133 (rz [2,3]) hN Tryz.func21 [] zk
def t134:=t133.d zfM
theorem zeq:zu Pz 26 ⟨[.ty wO,.ty wO],[.bool],λx=>bO x.1 x.2⟩:=qY t134 (rz [2,3]) hN Tryz.func26 [] zk
def t135:=t134.d zeq
abbrev Y66:=jx [.ty .expr,.ty .expr]->T (KD [.bool])
abbrev H66(F:Y66):=zu Pz 66 ⟨[.ty .expr,.ty .expr],[.bool],F⟩
def T66(iL:Y66)(Co:H66 iL):Tb:=t135.d Co
def SC(iL:Y66):zJ:=Lz [] [Mr 2 .expr,Mr 3 .expr] Xz [cy,Q1] λp s=>ba (λy0 y1=>iL (y0,y1)) p.1 p.2 s
def h66(iL:Y66):Hints:=Hz [(0,SC iL)] [(0,1,.ways [⟨.normal,⟨[Mb 34],[],[]⟩⟩])] []
theorem z5Q(iL:Y66)(Co:H66 iL):LO Tryz.f66 (SC iL) 0:=lk (T66 iL Co) (rz [2,3]) (h66 iL) [] zk
theorem z6u(iL:Y66)(Co:H66 iL):zu Pz 66 ⟨[.ty .expr,.ty .expr],[.bool],λx=>fI (λy0 y1=>iL (y0,y1)) x.1 x.2⟩:=qY (T66 iL Co) (rz [2,3]) (h66 iL) Tryz.func66 [0] (zU rfl (z5Q iL Co) zk)
theorem zfW:zu Pz 66 ⟨[.ty .expr,.ty .expr],[.bool],λx=>bG x.1 x.2⟩:=tF (λiL x=>fI (λy0 y1=>iL (y0,y1)) x.1 x.2) (λx=>rfl) (λiL Co=>z6u iL Co)
def t136:=t135.d zfW
def Ss:zJ:=Lz [] [Mm 0 (.sl zX),Mm 1 (.sl zX)] Xz [cy,Q1] λp s=>uc p.1 p.2 s
def h27:Hints:=Hz [(0,Ss)] [(0,6,.ways [z2Y])] []
theorem z5Y:LO Tryz.f27 Ss 0:=lk t136 rn h27 [] zk
theorem zfE:zu Pz 27 ⟨[.ty (.sl zX),.ty (.sl zX)],[.bool],λx=>gH x.1 x.2⟩:=qY t136 rn h27 Tryz.func27 [0] (zU rfl z5Y zk)
def t137:=t136.d zfE
def R1:zJ:=Lz [] [Mm 0 (.sl zD),Mm 1 (.sl zD)] Xz [cy,Q1] λp s=>vK p.1 p.2 s
def h28:Hints:=Hz [(0,R1)] [(0,6,.ways [z2Y])] []
theorem z4c:LO Tryz.f28 R1 0:=lk t137 rn h28 [] zk
theorem zfk:zu Pz 28 ⟨[.ty (.sl zD),.ty (.sl zD)],[.bool],λx=>yl x.1 x.2⟩:=qY t137 rn h28 Tryz.func28 [0] (zU rfl z4c zk)
def t138:=t137.d zfk
def R2:zJ:=Lz [] [Mr 2 zT,Mr 3 zT] Xz [cy,Q1] λp s=>gK p.1 p.2 s
def Pf:zJ:=Lz [] [Mr 2 zT,Mr 3 zT] z3H [RW,Q1] λp s=>gA p.1 p.2 s
def OU:zJ:=Lz [] [Mr 2 zT,Mr 3 zT] z3T [⟨.exit 4,Kj⟩,Q1] λp s=>b8 p.1 p.2 s
def Rz:zJ:=Lz [] [Mr 2 zT,Mr 3 zT] J0 [⟨.exit 6,Kj⟩,Q1] λp s=>gm p.1 p.2 s
def h12:Hints:=Hz [(0,R2),(2,Pf),(4,OU),(6,Rz)] [(0,1,.flat [Mb 42]),(0,11,.ways [⟨.normal,⟨[Mb 96],[],[]⟩⟩])] []
theorem z5w:LO Tryz.f12 R2 0:=lk t138 (rz [2,3]) h12 [] zk
theorem z5a:LO Tryz.f12 Pf 2:=lk t138 (rz [2,3]) h12 [] zk
theorem z5F:LO Tryz.f12 OU 4:=lk t138 (rz [2,3]) h12 [] zk
theorem z4a:LO Tryz.f12 Rz 6:=lk t138 (rz [2,3]) h12 [] zk
theorem zd8:zu Pz 12 ⟨[.ty zT,.ty zT],[.bool],λx=>pM x.1 x.2⟩:=qY t138 (rz [2,3]) h12 Tryz.func12 [0,2,4,6] (zU rfl z5w (zU rfl z5a (zU rfl z5F (zU rfl z4a zk))))
def t139:=t138.d zd8
theorem zd1:zu Tryz.prog 22 ⟨[.ty .str,.ty .str],[.sl .str],λx=>strings_Split x.1 x.2⟩:=by
 refine vo Tryz.func22 (by kernel_rfl) rfl λκ x zA y hy hI ha => ?_
 obtain⟨s,sep⟩:=x
 obtain⟨⟨h0,h1⟩,hy⟩:=hy
 cases hy
 obtain⟨v0,r,rfl,Ya,ha⟩:=qH.cons_inv (show qH κ [.zI .str s,.zI .str sep] zA from ha)
 obtain⟨v1,r,rfl,DN,ha⟩:=ha.cons_inv
 rw[ha.qf,Ya.wG,DN.wG]
 obtain⟨m,hm⟩:=wZ hI
 refine(Go.Proofs.Tryz.strings_Split ⟨s.toArray⟩ ⟨sep.toArray⟩ m κ.w (by rw[show(ByteArray.size ⟨s.toArray⟩)=List.length s from List.size_toArray]; exact h0) hm (by rw[show(ByteArray.size ⟨sep.toArray⟩)=List.length sep from List.size_toArray]; simp only at h1; omega)).mono ?_
 rintro e w' ⟨rfl,rfl⟩
 refine⟨XD _ _,λ_=>⟨_,rfl,?_⟩⟩
 exact Se s sep h1 _
def t140:=t139.d zd1
theorem zdf:zu Tryz.prog 52 ⟨[.ty .str,.ty .str],[.str,.str,.bool],λx=>strings_Cut x.1 x.2⟩:=by
 refine vo Tryz.func52 (by kernel_rfl) rfl λκ x zA y hy hI ha => ?_
 obtain⟨s,sep⟩:=x
 obtain⟨h0,hy⟩:=hy
 cases hy
 obtain⟨v0,r,rfl,Ya,ha⟩:=qH.cons_inv (show qH κ [.zI .str s,.zI .str sep] zA from ha)
 obtain⟨v1,r,rfl,DN,ha⟩:=ha.cons_inv
 rw[ha.qf,Ya.wG,DN.wG]
 obtain⟨m,hm⟩:=wZ hI
 refine(Go.Proofs.Tryz.strings_Cut ⟨s.toArray⟩ ⟨sep.toArray⟩ m κ.w (by rw[show(ByteArray.size ⟨s.toArray⟩)=List.length s from List.size_toArray]; exact h0) hm).mono ?_
 rintro e w' ⟨rfl,n,rfl⟩
 refine⟨below_drewN _ _,λ_=>⟨_,rfl,?_⟩⟩
 rw[show Lib.cut (⟨s.toArray⟩:ByteArray).data.toList (⟨sep.toArray⟩:ByteArray).data.toList=uD s sep from R0 s sep]
 exact RD.zdY RD.str RD.str RD.bool
def t141:=t140.d zdf
theorem z8J:zu Pz 108 ⟨[.ty (.int .i32)],[.bool],λx=>gV x⟩:=qY t141 rn hN Tryz.func108 [] zk
def t142:=t141.d z8J
theorem z1u(w:World):Go.Proofs.PredAtRunes Tryz.prog 108 #[] (λn=>n==32) w:=λW x hx hb=>by
 show Calls Tryz.prog 108 #[.int .i32 (x:Int)] W _
 have hn:Tryz.f108.ntmps=5:=by kernel_rfl
 have hd:((x:Int)==32)=(x==32):=by rw[Bool.eq_iff_iff,beq_iff_eq,beq_iff_eq]; omega
 go_enter Tryz.func108,hn
 go_wp2
 go_ret
 exact⟨by rw[<- hd]; rfl,0,rfl⟩
theorem z8g:zu Tryz.prog 107 ⟨[.ty .str,.qN 108 []],[.sl .str],λx=>strings_FieldsFunc x.1 (λz0=>gV z0)⟩:=by
 refine vo Tryz.func107 (by kernel_rfl) rfl λκ x zA y hy hI ha => ?_
 obtain⟨s,c⟩:=x
 obtain⟨h0,hy⟩:=hy
 cases hy
 obtain⟨v0,r,rfl,Ya,ha⟩:=qH.cons_inv (show qH κ [.zI .str s,.qN 108 []] zA from ha)
 obtain⟨v1,r,rfl,DN,ha⟩:=ha.cons_inv
 rw[ha.qf,Ya.wG,DN.Rh (by rfl)]
 refine(Go.Proofs.Tryz.strings_FieldsFunc_runes 108 #[] (λargs w=>mW Tryz.func108 (by kernel_rfl) rfl w) (λn=>n==32) ⟨s.toArray⟩ κ.w (by rw[show(ByteArray.size ⟨s.toArray⟩)=List.length s from List.size_toArray]; exact h0) (z1u κ.w)).mono ?_
 rintro e w' ⟨A,rfl,hA,ho,hB⟩
 refine⟨hB,λ_=>⟨_,rfl,?_⟩⟩
 exact MA s ho
def t143:=t142.d z8g
theorem ze8:zu Pz 53 ⟨[.ty .str],[(.sl .str)],λx=>fT x⟩:=qY t143 rn hN Tryz.func53 [] zk
def t144:=t143.d ze8
theorem z9A:zu Tryz.prog 155 ⟨[.ty .str,.ty .str],[i64],λx=>strings_IndexAny x.1 x.2⟩:=by
 refine vo Tryz.func155 (by kernel_rfl) rfl λκ x zA y hy hI ha => ?_
 obtain⟨s,chars⟩:=x
 obtain⟨⟨h0,h1,h2,h3⟩,hy⟩:=hy
 cases hy
 obtain⟨v0,r,rfl,Ya,ha⟩:=qH.cons_inv (show qH κ [.zI .str s,.zI .str chars] zA from ha)
 obtain⟨v1,r,rfl,DN,ha⟩:=ha.cons_inv
 rw[ha.qf,Ya.wG,DN.wG]
 refine(Go.Proofs.Any.nV Go.Proofs.Tryz.lays153 (λ_=>by kernel_rfl) (by kernel_rfl) ⟨s.toArray⟩ ⟨chars.toArray⟩ κ.w (by rw[show(ByteArray.size ⟨chars.toArray⟩)=List.length chars from List.size_toArray]; exact h1) (by rw[show(ByteArray.size ⟨s.toArray⟩)=List.length s from List.size_toArray]; exact h0) (by rw[show(ByteArray.size ⟨chars.toArray⟩)=List.length chars from List.size_toArray]; exact h2) h3).mono ?_
 rintro e w' ⟨rfl,hB⟩
 refine⟨hB,λ_=>⟨_,rfl,?_⟩⟩
 have e1:Lib.indexAny s chars=gY s chars:=Ki chars s
 show RD _ (.zI i64 (gY s chars)) _
 rw[<- e1]
 exact RD.int
def t145:=t144.d z9A
def zcN:Hints:=Hz [] [(0,1,.flat [Mb 4])] []
theorem z9m:zu Pz 193 ⟨[.ty .str,.ty .str],[.bool],λx=>xA x.1 x.2⟩:=qY t145 rn zcN Tryz.func193 [] zk
def t146:=t145.d z9m
theorem z7L:zu Pz 156 ⟨[.ty .str,.ty .str],[.bool],λx=>strings_HasPrefix x.1 x.2⟩:=qY t146 rn hN Tryz.func156 [] zk
def t147:=t146.d z7L
def IB:zJ:=Lz [] [] rN [SA] λp s=>xR  s
def z7k:Hints:=Hz [(0,IB)] [(0,0,.flat [Mb 23])] []
theorem z0F:LO Tryz.f265 IB 0:=lk t147 rn z7k [] zk
theorem zaV:wa Pz 265 ⟨[.ptr],rN,[],Ii,0,λx=>uj x⟩:=K3 t147 rn z7k Tryz.func265 [0] (zU rfl z0F zk)
def t148:=t147.s zaV
theorem z83:zu Tryz.prog 216 ⟨[.ty .str,.ty (.int .u8)],[i64],λx=>strings_IndexByte x.1 x.2⟩:=by
 refine vo Tryz.func216 (by kernel_rfl) rfl λκ x zA y hy hI ha => ?_
 obtain⟨s,c⟩:=x
 cases hy
 obtain⟨v0,r,rfl,Ya,ha⟩:=qH.cons_inv (show qH κ [.zI .str s,.zI (.int .u8) c] zA from ha)
 obtain⟨v1,r,rfl,DN,ha⟩:=ha.cons_inv
 rw[ha.qf,Ya.wG,DN.yk]
 refine(Go.Proofs.Tryz.strings_IndexByte ⟨s.toArray⟩ c κ.w).mono ?_
 rintro e w' ⟨rfl,rfl⟩
 refine⟨sZ _,λ_=>⟨_,rfl,?_⟩⟩
 have e1:Lib.indexByte s (byteOf c)=nt s (byteOf c):=z1c s (byteOf c)
 show RD _ (.zI i64 (nt s (byteOf c))) _
 rw[<- e1]
 exact RD.int
def t149:=t148.d z83
def zeY:Hints:=Hz [] [(0,2,.ways [⟨.normal,⟨[Mb 30,.v (.zI zK)],[],sR⟩⟩])] []
theorem z7y:wa Pz 250 ⟨WX,⟨[Ms 1,.v (.zI zK)],[(0,.ptr 0 0)],sR⟩,[],⟨[Mm 0 (.int .u8),.v (.zI zK)],[],sR⟩,1,λx=>qZ x.1 x.2⟩:=K3 t149 rn zeY Tryz.func250 [] zk
def t150:=t149.s z7y
theorem za0:kO Pz 220 ⟨I4,⟨[Mi 1,Mi 2,.v (.zI zK)],[(0,.ptr 0 0)],sR⟩,[],Ii,0,226,tO,λx=>xN x.1 x.2.1 x.2.2⟩:=fkp t150 rn hN Tryz.func220 [] zk
def t151:=t150.p za0
theorem z7Q:kO Pz 266 ⟨[.ptr],rN,[],Ii,0,226,tO,λx=>wQ x⟩:=fkp t151 rn hN Tryz.func266 [] zk
def t152:=t151.p z7Q
def Fi:zJ:=Lz [] [.s 1 (.qN 179 []),Mi 2,Mi 7] rN [SA] λp s=>qS (λz0=>xL z0) p.2.1 p.2.2 s
def z7B:Hints:=Hz [(0,Fi)] [(0,2,.ways [z3w])] []
theorem z2v:LO Tryz.f268 Fi 0:=lk t152 rn z7B [] zk
theorem z9z:wa Pz 268 ⟨[.ptr,.qN 179,.any],⟨[.s 1 (.qN 179 []),Mi 2,.v (.zI zK)],[(0,.ptr 0 0)],sR⟩,[],z2T,1,λx=>xa (λz0=>xL z0) x.2.1 x.2.2⟩:=K3 t152 rn z7B Tryz.func268 [0] (zU rfl z2v zk)
def t153:=t152.s z9z
theorem za9:zu Tryz.prog 159 ⟨[.ty .str,.ty .str],[.str,.bool],λx=>strings_CutPrefix x.1 x.2⟩:=by
 refine vo Tryz.func159 (by kernel_rfl) rfl λκ x zA y hy hI ha => ?_
 obtain⟨s,p⟩:=x
 cases hy
 obtain⟨v0,r,rfl,Ya,ha⟩:=qH.cons_inv (show qH κ [.zI .str s,.zI .str p] zA from ha)
 obtain⟨v1,r,rfl,DN,ha⟩:=ha.cons_inv
 rw[ha.qf,Ya.wG,DN.wG]
 refine(Go.Proofs.Tryz.strings_CutPrefix ⟨s.toArray⟩ ⟨p.toArray⟩ κ.w).mono ?_
 rintro e w' ⟨rfl,rfl⟩
 refine⟨sZ _,λ_=>⟨_,rfl,?_⟩⟩
 exact RD.z8x RD.str RD.bool
def t154:=t153.d za9
def IV:zJ:=Lz [] [Mm 1 (.int .u8)] BH [L8] λp s=>ya p s
def zbu:Hints:=Hz [(0,IV)] [(0,1,.flat [Mb 16])] []
theorem z1W:LO Tryz.f222 IV 0:=lk t154 rn zbu [] zk
theorem zaM:zu Pz 222 ⟨[.ty .str,.ty (.int .u8)],[.str],λx=>strings_trimRightByte x.1 x.2⟩:=qY t154 rn zbu Tryz.func222 [0] (zU rfl z1W zk)
def t155:=t154.d zaM
def FW:zJ:=Lz [] [Mm 1 (.int .u8)] BH [L8] λp s=>yT p s
def zbz:Hints:=Hz [(0,FW)] [(0,1,.flat [Mb 13])] []
theorem z2z:LO Tryz.f221 FW 0:=lk t155 rn zbz [] zk
theorem z7J:zu Pz 221 ⟨[.ty .str,.ty (.int .u8)],[.str],λx=>strings_trimLeftByte x.1 x.2⟩:=qY t155 rn zbz Tryz.func221 [0] (zU rfl z2z zk)
def t156:=t155.d z7J
theorem z8t:zu Tryz.prog 191 ⟨[.ty .str],[(dx .bool 256),.bool],λx=>strings_makeASCIISet x⟩:=by
 refine vo Tryz.func191 (by kernel_rfl) rfl λκ s zA y hy hI ha => ?_
 obtain⟨⟨h0,h1⟩,hy⟩:=hy
 cases hy
 obtain⟨v0,r,rfl,Ya,ha⟩:=qH.cons_inv (show qH κ [.zI .str s] zA from ha)
 rw[ha.qf,Ya.wG]
 refine(Go.Proofs.Tryz.strings_makeASCIISet (λ_=>by kernel_rfl) ⟨s.toArray⟩ κ.w (by rw[show(ByteArray.size ⟨s.toArray⟩)=List.length s from List.size_toArray]; exact h0) (by simpa using h1)).mono ?_
 rintro e w' ⟨rfl,rfl⟩
 refine⟨XD _ _,λ_=>⟨_,rfl,?_⟩⟩
 exact RD.z8x (Pr s) RD.bool
def t157:=t156.d z8t
theorem z7O:zu Pz 192 ⟨[.rp (dx .bool 256),.ty (.int .u8)],[.bool],λx=>xD x.1 x.2⟩:=qY t157 rn hN Tryz.func192 [] zk
def t158:=t157.d z7O
def L0:zJ:=Lz [] [Mr 1 (dx .bool 256)] BH [L8] λp s=>xE p s
def z7F:Hints:=Hz [(0,L0)] [] []
theorem z0x:LO Tryz.f224 L0 0:=lk t158 rn z7F [] zk
theorem zaD:zu Pz 224 ⟨[.ty .str,.rp (dx .bool 256)],[.str],λx=>vj x.1 x.2⟩:=qY t158 rn z7F Tryz.func224 [0] (zU rfl z0x zk)
def t159:=t158.d zaD
def Ib:zJ:=Lz [] [Mr 1 (dx .bool 256)] BH [L8] λp s=>xH p s
def z8V:Hints:=Hz [(0,Ib)] [] []
theorem z1o:LO Tryz.f223 Ib 0:=lk t159 rn z8V [] zk
theorem zb3:zu Pz 223 ⟨[.ty .str,.rp (dx .bool 256)],[.str],λx=>vO x.1 x.2⟩:=qY t159 rn z8V Tryz.func223 [0] (zU rfl z1o zk)
def t160:=t159.d zb3
def zf0:Hints:=Hz [] [(0,1,.flat [Mb 12]),(0,3,.flat [Mb 21])] []
theorem zaJ:zu Pz 196 ⟨[.ty .str,.ty .str],[.str],λx=>ku x.1 x.2⟩:=qY t160 rn zf0 Tryz.func196 [] zk
def t161:=t160.d zaJ
def Lk:zJ:=Lz [] [Mm 0 (.sl u32),Mm 1 (.sl u32),Mm 24 (.sl u32),Mi 25] ⟨[Mm 6 (.int .u64),Mi 26,.a u32],[(5,.cur 0 u32)],ga⟩ [⟨.exit 0,⟨[Mm 6 (.int .u64),.a u32],[(5,.cur 0 u32)],ga⟩⟩] λp s=>mL p.1 p.2.1 p.2.2.1 p.2.2.2 s
def z9T:Hints:=Hz [(0,Lk)] [(3,2,.flat [Mm 0 (.sl u32),Mm 1 (.sl u32)]),(3,10,.flat [Mm 6 (.int .u64)])] [(16,[5])]
theorem z2E:LO Tryz.f197 Lk 0:=lk t161 rn z9T [] zk
theorem zaZ:zu Pz 197 ⟨[.ty (.sl u32),.ty (.sl u32)],[(.sl u32)],λx=>Wu x.1 x.2⟩:=qY t161 rn z9T Tryz.func197 [0] (zU rfl z2E zk)
def t162:=t161.d zaZ
def Io:zJ:=Lz [] [Ms 0,Mi 19] ⟨[Mm 4 (.sl u32),Mi 20],[],[]⟩ [⟨.exit 0,⟨[Mm 4 (.sl u32)],[],[]⟩⟩] λp s=>hJ p.1 p.2 s
def z9d:Hints:=Hz [(0,Io)] [(0,1,.ways [z42])] []
theorem z0z:LO Tryz.f160 Io 0:=lk t162 rn z9d [] zk
theorem zbG:zu Pz 160 ⟨[.ty .str],[(.sl u32),.bool],λx=>vt x⟩:=qY t162 rn z9d Tryz.func160 [0] (zU rfl z0z zk)
def t163:=t162.d zbG
def zfV:Hints:=Hz [] [(0,9,.flat [Mb 58]),(3,13,.flat [Ms 14]),(0,17,.flat [Mb 94])] []
theorem z7G:zu Pz 113 ⟨[.ty .str],[wO,i64],λx=>yK x⟩:=qY t163 rn zfV Tryz.func113 [] zk
def t164:=t163.d z7G
def zfr:Hints:=Hz [] [(0,2,.flat [Mb 35]),(3,2,.ways [⟨.normal,⟨[Ms 3,.v (.zI zK),.v (.zI .expr)],[],IC⟩⟩,⟨.kM (.iface 226 .qX),⟨[Mm 0 xr,.v (.zI zK),.v (.zI .expr)],[],IC⟩⟩])] []
theorem z7i:kO Pz 267 ⟨[.ptr],rN,[],Wd,1,226,tO,λx=>uf x⟩:=fkp t164 rn zfr Tryz.func267 [] zk
def t165:=t164.p z7i
def K7:zJ:=Lz [] [.s 1 (.qN 142 []),Mi 2,Mi 7] rN [SA] λp s=>qS (λz0=>vg z0) p.2.1 p.2.2 s
def Ot:Hints:=Hz [(0,K7)] [(0,2,.ways [z3w])] []
theorem N1:LO Tryz.f268 K7 0:=lk t165 rn Ot [] zk
theorem Ix:wa Pz 268 ⟨[.ptr,.qN 142,.any],⟨[.s 1 (.qN 142 []),Mi 2,.v (.zI zK)],[(0,.ptr 0 0)],sR⟩,[],z2T,1,λx=>xa (λz0=>vg z0) x.2.1 x.2.2⟩:=K3 t165 rn Ot Tryz.func268 [0] (zU rfl N1 zk)
def t166:=t165.s Ix
abbrev z4z:=vQ.den rN->T (vQ.den Wd⊕vQ.den tO)
abbrev zeH(F:z4z):=kO Pz 251 ⟨[.ptr],rN,[],Wd,1,226,tO,F⟩
abbrev rP:=vQ.den rN->T (vQ.den Wd⊕vQ.den tO)
abbrev JB(F:rP):=kO Pz 219 ⟨[.ptr],rN,[],Wd,1,226,tO,F⟩
def zec(XT:z4z)(qP:rP):Hints:=Hz [] [(3,10,.ways [⟨.normal,Rm⟩,⟨.kM (.iface 226 .qX),OA⟩]),(0,14,.ways [⟨.normal,⟨[Mb 46,.v (.zI zK),.v (.zI .expr)],[],IC⟩⟩]),(0,16,.ways [⟨.normal,⟨[Mb 71,.v (.zI zK),.v (.zI .expr)],[],IC⟩⟩])] []
theorem TH(XT:z4z)(Sa:zeH XT)(qP:rP)(jO:JB qP):kO Pz 251 ⟨[.ptr],rN,[],Wd,1,226,tO,λx=>w9 (λy0=>XT (y0)) (λy0=>qP (y0)) x⟩:=fkp (((t166.s Ix).p jO).p Sa) rn (zec XT qP) Tryz.func251 [] zk
theorem z8d(qP:rP)(jO:JB qP):kO Pz 251 ⟨[.ptr],rN,[],Wd,1,226,tO,λx=>xp (λy0=>qP (y0)) x⟩:=Lq (λXT x=>w9 (λy0=>XT (y0)) (λy0=>qP (y0)) x) (λx=>rfl) (λXT Sa=>TH XT Sa qP jO)
def z9G(qP:rP)(jO:JB qP):Tb:=t166.p (z8d _ jO)
def EZ(qP:rP):zJ:=Lz [] [Ms 2,Mr 7 xr] ⟨[.v (.zI zK),.v (.zI .expr),.v (.zI .expr)],[(0,.ptr 0 0),(1,.qN 1000251 [(0,0)]),(8,.ptr 1 0),(9,.ptr 2 0)],FY⟩ [⟨.ret,Rm⟩,⟨.kM (.iface 226 .qX),OA⟩] λp s=>wB (λy0=>qP (y0)) p.1 p.2 s
def z9c(qP:rP):Hints:=Hz [(0,EZ qP)] [] []
theorem z2p(qP:rP)(jO:JB qP):LO Tryz.f237 (EZ qP) 0:=lk (z9G qP jO) (rz [7]) (z9c qP) [] zk
theorem zaw(qP:rP)(jO:JB qP):kO Pz 237 ⟨[.ptr,.qN 1000251,.any,.any],⟨[.s 1 (.mclo 1000251 [.pt 0]),Ms 2,Mm 3 xr,.v (.zI zK)],[(0,.ptr 0 0)],sR⟩,[],Wd,1,226,tO,λx=>xF (λy0=>qP (y0)) x.1 x.2.1 x.2.2.1 x.2.2.2⟩:=fkp (z9G qP jO) (rz [7]) (z9c qP) Tryz.func237 [0] (zU rfl (z2p qP jO) zk)
theorem zbj(qP:rP)(jO:JB qP):kO Pz 238 ⟨[.ptr],rN,[],Wd,1,226,tO,λx=>xd (λy0=>qP (y0)) x⟩:=fkp (t166.p (zaw _ jO)) rn hN Tryz.func238 [] zk
def Ro(qP:rP)(jO:JB qP):Tb:=t166.p (zbj _ jO)
def Y3(qP:rP):zJ:=Lz [] [Ms 2,Mr 7 xr] ⟨[.v (.zI zK),.v (.zI .expr),.v (.zI .expr)],[(0,.ptr 0 0),(1,.qN 1000238 [(0,0)]),(8,.ptr 1 0),(9,.ptr 2 0)],FY⟩ [⟨.ret,Rm⟩,⟨.kM (.iface 226 .qX),OA⟩] λp s=>wv (λy0=>qP (y0)) p.1 p.2 s
def PN(qP:rP):Hints:=Hz [(0,Y3 qP)] [] []
theorem N7(qP:rP)(jO:JB qP):LO Tryz.f237 (Y3 qP) 0:=lk (Ro qP jO) (rz [7]) (PN qP) [] zk
theorem z1v(qP:rP)(jO:JB qP):kO Pz 237 ⟨[.ptr,.qN 1000238,.any,.any],⟨[.s 1 (.mclo 1000238 [.pt 0]),Ms 2,Mm 3 xr,.v (.zI zK)],[(0,.ptr 0 0)],sR⟩,[],Wd,1,226,tO,λx=>xz (λy0=>qP (y0)) x.1 x.2.1 x.2.2.1 x.2.2.2⟩:=fkp (Ro qP jO) (rz [7]) (PN qP) Tryz.func237 [0] (zU rfl (N7 qP jO) zk)
theorem TX(qP:rP)(jO:JB qP):kO Pz 219 ⟨[.ptr],rN,[],Wd,1,226,tO,λx=>uA (λy0=>qP (y0)) x⟩:=fkp (t166.p (z1v _ jO)) rn hN Tryz.func219 [] zk
theorem zb7:kO Pz 219 ⟨[.ptr],rN,[],Wd,1,226,tO,λx=>ui x⟩:=Lq (λqP x=>uA (λy0=>qP (y0)) x) (λx=>rfl) (λqP jO=>TX qP jO)
def t167:=t166.p zb7
theorem z84:yE (Nw Pz) 218 ⟨[.ptr,.ptr,.ptr],⟨[.v (.zI .expr),.v (.zI i64),.v (.zI i64)],[(0,.ptr 0 0),(1,.ptr 1 0),(2,.ptr 2 0)],Pe⟩,[],z3f,0,λx=>kb x.1 x.2.1 x.2.2⟩:=fkr t167 rn hN Tryz.func218
theorem TK:yE (NI Pz 226) 218 ⟨[.ptr,.ptr,.ptr,.any],⟨[Mm 3 xr,.v (.zI .expr),.v (.zI i64),.v (.zI i64)],[(0,.ptr 0 0),(1,.ptr 1 0),(2,.ptr 2 0)],Pe⟩,[],z3f,0,λx=>jl x.1 x.2.1 x.2.2.1 x.2.2.2⟩:=fkh t167 rn hN Tryz.func218 3
theorem zbb:wa Pz 194 ⟨[.ptr],rN,[],⟨[Mm 0 .expr,Mi 1,Mi 2,.v (.zI zK)],[],sR⟩,3,λx=>ju x⟩:=fkf t167 rn hN (g:=218) (pt:=226) z84 TK Tryz.func194
def t168:=t167.s zbb
def zcV:Hints:=Hz [] [(0,5,.ways [⟨.normal,⟨[Mb 31,.v (.zI .expr),.v (.zI zK),.v (.zI .expr)],[],[.var (.zI .expr),.var (.zI zK),.var (.zI .expr)]⟩⟩])] []
theorem z8K:zu Pz 157 ⟨[.ty .str],[.expr,i64,i64],λx=>k9 x⟩:=qY t168 rn zcV Tryz.func157 [] zk
def t169:=t168.d z8K
theorem zam:zu Tryz.prog 158 ⟨[.ty .str,.ty .str],[.bool],λx=>strings_Contains x.1 x.2⟩:=by
 refine vo Tryz.func158 (by kernel_rfl) rfl λκ x zA y hy hI ha => ?_
 obtain⟨s,sub⟩:=x
 obtain⟨h0,hy⟩:=hy
 cases hy
 obtain⟨v0,r,rfl,Ya,ha⟩:=qH.cons_inv (show qH κ [.zI .str s,.zI .str sub] zA from ha)
 obtain⟨v1,r,rfl,DN,ha⟩:=ha.cons_inv
 rw[ha.qf,Ya.wG,DN.wG]
 obtain⟨m,hm⟩:=wZ hI
 refine(Go.Proofs.Tryz.strings_Contains ⟨s.toArray⟩ ⟨sub.toArray⟩ m κ.w (by rw[show(ByteArray.size ⟨s.toArray⟩)=List.length s from List.size_toArray]; exact h0) hm).mono ?_
 rintro e w' ⟨rfl,rfl⟩
 refine⟨sZ _,λ_=>⟨_,rfl,?_⟩⟩
 have e1:Lib.contains s sub=decide ((0:Int)<=cZ s sub):=contains_eq s sub
 show RD _ (.zI .bool (decide ((0:Int)<=cZ s sub))) _
 rw[<- e1]
 exact RD.bool
def t170:=t169.d zam
def zdU:Hints:=Hz [] [(0,6,.ways [⟨.normal,⟨[Mb 34,.v (.zI .expr),.v (.zI .expr)],[],FE⟩⟩]),(3,6,.ways [⟨.normal,⟨[Ms 6,Ms 10,.v (.zI .expr),.v (.zI .expr)],[],FE⟩⟩]),(0,12,.ways [⟨.normal,⟨[Mb 61,.v (.zI .expr),.v (.zI .expr)],[],FE⟩⟩]),(3,11,.ways [⟨.normal,⟨[Mi 7,.v (.zI .expr),.v (.zI .expr)],[],FE⟩⟩])] []
theorem zbT:zu Pz 109 ⟨[.ty .str,.ty .str],[.expr,.expr,.str,i64],λx=>vC x.1 x.2⟩:=qY t170 rn zdU Tryz.func109 [] zk
def t171:=t170.d zbT
def F7:zJ:=Lz [] [Mm 0 (.sl .str),Ms 1,Mi 7] J0 [cy,Vx] λp s=>qQ p.1 p.2.1 p.2.2 s
def zbt:Hints:=Hz [(0,F7)] [] []
theorem z1n:LO Tryz.f110 F7 0:=lk t171 rn zbt [] zk
theorem z8G:zu Pz 110 ⟨[.ty (.sl .str),.ty .str],[i64],λx=>qT x.1 x.2⟩:=qY t171 rn zbt Tryz.func110 [0] (zU rfl z1n zk)
def t172:=t171.d z8G
theorem z7E:zu Pz 111 ⟨[.ty (.sl .str),.ty .str],[.bool],λx=>wk x.1 x.2⟩:=qY t172 rn hN Tryz.func111 [] zk
def t174:=t172.d z7E
def zes:Hints:=Hz [] [(0,1,.flat [Mb 8])] []
theorem zbU:zu Pz 114 ⟨[.ty (.sl .str),.ty i64,.ty i64,.ty .str],[.bool],λx=>wc x.1 x.2.1 x.2.2.1 x.2.2.2⟩:=qY t174 rn zes Tryz.func114 [] zk
def t175:=t174.d zbU
def zfl:Hints:=Hz [] [(0,3,.ways [⟨.normal,⟨[Mb 11],[],[]⟩⟩])] []
theorem z7f:zu Pz 112 ⟨[.ty (.sl .str),.ty i64],[.str,.bool],λx=>ka x.1 x.2⟩:=qY t175 rn zfl Tryz.func112 [] zk
def t176:=t175.d z7f
def z8N:Hints:=Hz [] [(0,1,.ways [⟨.normal,⟨[Mb 29,.v tq,.a zt,.a zw,.a zO,.a zy,.a zX,.a zD],[],Jz⟩⟩])] []
theorem T1:wa Pz 54 ⟨I4,z3P,[],OR,1,λx=>va x.1 x.2.1 x.2.2.1 x.2.2.2.1 x.2.2.2.2.1 x.2.2.2.2.2.1 x.2.2.2.2.2.2.1 x.2.2.2.2.2.2.2.1 x.2.2.2.2.2.2.2.2⟩:=K3 t176 rn z8N Tryz.func54 [] zk
def t191:=t176.s T1
def zak:Hints:=Hz [] [(0,1,.ways [⟨.normal,⟨[Mb 31,.v tq,.a zt,.a zw,.a zO,.a zy,.a zX,.a zD],[],Jz⟩⟩])] []
theorem RA:wa Pz 55 ⟨I4,z3P,[],OR,1,λx=>wA x.1 x.2.1 x.2.2.1 x.2.2.2.1 x.2.2.2.2.1 x.2.2.2.2.2.1 x.2.2.2.2.2.2.1 x.2.2.2.2.2.2.2.1 x.2.2.2.2.2.2.2.2⟩:=K3 t191 rn zak Tryz.func55 [] zk
def t192:=t191.s RA
def z7m:Hints:=Hz [] [(0,1,.ways [⟨.normal,⟨[Mb 26,.v tq,.a zt,.a zw,.a zO,.a zy,.a zX,.a zD],[],Jz⟩⟩])] []
theorem SL:wa Pz 56 ⟨WX,Ff,[],Fq,1,λx=>uR x.1 x.2.1 x.2.2.1 x.2.2.2.1 x.2.2.2.2.1 x.2.2.2.2.2.1 x.2.2.2.2.2.2.1 x.2.2.2.2.2.2.2⟩:=K3 t192 rn z7m Tryz.func56 [] zk
def t193:=t192.s SL
def z8q:Hints:=Hz [] [(0,1,.ways [z3D])] []
theorem PU:wa Pz 57 ⟨WX,Ff,[],Fq,1,λx=>ug x.1 x.2.1 x.2.2.1 x.2.2.2.1 x.2.2.2.2.1 x.2.2.2.2.2.1 x.2.2.2.2.2.2.1 x.2.2.2.2.2.2.2⟩:=K3 t193 rn z8q Tryz.func57 [] zk
def t194:=t193.s PU
def z8l:Hints:=Hz [] [(0,1,.ways [z3D])] []
theorem S8:wa Pz 58 ⟨WX,Ff,[],Fq,1,λx=>vz x.1 x.2.1 x.2.2.1 x.2.2.2.1 x.2.2.2.2.1 x.2.2.2.2.2.1 x.2.2.2.2.2.2.1 x.2.2.2.2.2.2.2⟩:=K3 t194 rn z8l Tryz.func58 [] zk
def t195:=t194.s S8
def h59:Hints:=Hz [] [(0,1,.ways [⟨.normal,⟨[Mb 23,.v tq,.a zt,.a zw,.a zO,.a zy,.a zX,.a zD],[],Jz⟩⟩]),(0,5,.flat [Mb 44]),(3,5,.ways [z3c]),(0,8,.ways [⟨.normal,⟨[Mb 68,.v tq,.a zt,.a zw,.a zO,.a zy,.a zX,.a zD,.v (.zI zy)],[],[.var tq,.arr zt,.arr zw,.arr zO,.arr zy,.arr zX,.arr zD,.var (.zI zy)]⟩⟩]),(3,8,.ways [z3c])] []
theorem ze9:wa Pz 59 ⟨WX,Ff,[],Fq,1,λx=>ub x.1 x.2.1 x.2.2.1 x.2.2.2.1 x.2.2.2.2.1 x.2.2.2.2.2.1 x.2.2.2.2.2.2.1 x.2.2.2.2.2.2.2⟩:=K3 t195 rn h59 Tryz.func59 [] zk
def t196:=t195.s ze9
def h23:Hints:=Hz [] [(0,3,.flat [Mb 36]),(0,7,.flat [Mb 41]),(0,9,.flat [Mb 53])] []
theorem zfQ:wa Pz 23 ⟨WX,⟨[Ms 1,.v tq,.a zt,.a zw,.a zO,.a zy,.a zX,.a zD],[(0,.ptr 0 0)],Jz⟩,[],OR,1,λx=>du x.1 x.2.1 x.2.2.1 x.2.2.2.1 x.2.2.2.2.1 x.2.2.2.2.2.1 x.2.2.2.2.2.2.1 x.2.2.2.2.2.2.2⟩:=K3 (((((t196.s S8).s PU).s SL).s RA).s T1) rn h23 Tryz.func23 [] zk
def t197:=t196.s zfQ
def Ov:zJ:=Lz [.cell 0 5 zD,.cell 1 5 zD,.cell 0 4 zX,.cell 1 4 zX,.cell 0 0 zt,.cell 1 0 zt,.cell 0 1 zw,.cell 1 1 zw,.cell 0 2 zO,.cell 1 2 zO,.cell 0 3 zy,.cell 1 3 zy] [Mm 14 (.sl .str),Mi 15] ⟨[Mi 16,.v SX,.v H9,.a zD,.a zD,.a zX,.a zX,.a zt,.a zt,.a zw,.a zw,.a zO,.a zO,.a zy,.a zy],[(2,.ptr 0 0),(5,.ptr 1 0)],z3L⟩ [⟨.exit 0,⟨[.v SX,.v H9,.a zD,.a zD,.a zX,.a zX,.a zt,.a zt,.a zw,.a zw,.a zO,.a zO,.a zy,.a zy],[],z3L⟩⟩,⟨.ret,⟨[Mi 3,Mi 4,.v (.zI zT),.v H9,.a zD,.a zD,.a zX,.a zX,.a zt,.a zt,.a zw,.a zw,.a zO,.a zO,.a zy,.a zy],[],[.var (.zI zT),.var H9,.arr zD,.arr zD,.arr zX,.arr zX,.arr zt,.arr zt,.arr zw,.arr zw,.arr zO,.arr zO,.arr zy,.arr zy]⟩⟩] λp s=>jD p.1 p.2 s
def h10:Hints:=Hz [(0,Ov)] [] []
theorem z5S:LO Tryz.f10 Ov 0:=lk t197 rn h10 [] zk
theorem zfq:zu Pz 10 ⟨[.ty .str],[zT,i64,i64],λx=>cd x⟩:=qY t197 rn h10 Tryz.func10 [0] (zU rfl z5S zk)
def t198:=t197.d zfq
theorem zdx:zu Pz 13 ⟨[],[.bool],λ_=>mb⟩:=qY t198 rn hN Tryz.func13 [] zk
def t199:=t198.d zdx
def h9:Hints:=Hz [] [(0,1,.ways [⟨.normal,⟨[Mb 10],[],[]⟩⟩])] []
theorem ok9:zu Pz 9 ⟨[.ty zT,.ty zT],[.bool],λx=>ym x.1 x.2⟩:=qY t199 (rz [2,3]) h9 Tryz.func9 [] zk
def t200:=t199.d ok9
end Go.AM.Lf
