/-
  The walk, part 0: each function of the program is the tree that the lifted text says; printed by a program of ours.
-/
import Derived.Test.YthhgaidlooddpaaGreatDoorProg
import Derived.KernelRfl
import Derived.Test.YthhgaidlooddpaaGreatDoorAmE
import Derived.Test.YthhgaidlooddpaaGreatDoorLf0
import Derived.Lib.Builder
import Derived.Shelf.Strings.Builder1
import Derived.WalkKit
import Derived.TacticsInMore
import Derived.Shelf.Strings.FieldsFuncAny
import Derived.Test.YthhgaidlooddpaaGreatDoorSh
set_option linter.unusedVariables false
set_option maxRecDepth 100000
noncomputable section
namespace Go.AM.Lf
open Go.Proofs
abbrev Fj:Nat:=50
abbrev Pz:Program:=Tryz.prog
def wV(f:Func):Code:=match f.body with | some c=>c | none=>.skip
def lb(k:Nat)(f:Func):Code:=match td k (wV f)with | some c=>c | none=>.skip
theorem mixed:Pz.follows .mixedOrders=true:=by kernel_rfl
instance:vQ:={ u8:=5,tab:=[(4,HZ .u64 Lib.pow10Tab),(0,H2 .i64)] }
theorem yW{κ:KS}(hI:Inv κ):Lib.TabIs Tryz.prog κ.w "internal/strconv.uint64pow10" .u64 Lib.pow10Tab :=
 z7S (g:=4) (by kernel_rfl) (hI.gl (4,HZ .u64 Lib.pow10Tab) (by simp[vQ.tab])).2
theorem wW{κ:KS}(hI:Inv κ):∃ m,κ.w.cell? ⟨0,0,none⟩=some (.int .i64 m) :=
 Oc (hI.gl (0,H2 .i64) (by simp[vQ.tab])).2
structure Tb where
 t:dh
 ok:kY Pz t
def Tb.d(T:Tb){g:Nat}{d:C0}(h:zD Pz g d):Tb:=⟨(g,.d d)::T.t,Ea h T.ok⟩
def Tb.s(T:Tb){g:Nat}{d:jZ}(h:xU Pz g d):Tb:=⟨(g,.s d)::T.t,B6 h T.ok⟩
def Tb.p(T:Tb){g:Nat}{d:fG}(h:kF Pz g d):Tb:=⟨(g,.p d)::T.t,Ba h T.ok⟩
def t0:Tb:=⟨[],NS _⟩
def fL:List (Nat×zS)->Nat->Option zS
 | [],_=>none
 | x::r,n=>bif Nat.beq x.1 n then some x.2 else fL r n
def fC:List (Nat×Nat×z3g)->Nat->Nat->Option z3g
 | [],_,_=>none
 | x::r,k,n=>bif Nat.beq x.1 k&&Nat.beq x.2.1 n then some x.2.2 else fC r k n
def fF:List (Nat×List Nat)->Nat->List Nat
 | [],_=>[]
 | x::r,n=>bif Nat.beq x.1 n then x.2 else fF r n
def Hz(l:List (Nat×zS))(c:List (Nat×Nat×z3g))(f:List (Nat×List Nat)):Hints:=⟨fL l,fC c,fF f⟩
def hN:Hints:=Hz [] [] []
def rz(l:List Nat)(s:Nat):Bool:=l.any (Nat.beq s)
def rn(_:Nat):Bool:=false
def Lz(gh:List Gh)(ps:List It)(sh:vO)(ws:List Way)(R:wJ ps->sh.den->T (sh.den⊕gC ws)):zS:=⟨gh,ps,sh,ws,λp s=>T.loop (R p) s⟩
abbrev LO(f:Func)(l:zS)(i:Nat):Prop:=ZF Pz f.ntmps l (lb i f)
def ls(f:Func):List Nat->List (Nat×Code)
 | []=>[]
 | i::r=>(i,lb i f)::ls f r
abbrev Mi(n:Nat):It:=.s n (.zI i64)
abbrev Mb(n:Nat):It:=.s n (.zI .bool)
abbrev Ms(n:Nat):It:=.s n (.zI .str)
abbrev Mm(n:Nat)(t:Ty):It:=.s n (.zI t)
abbrev Mr(n:Nat)(t:Ty):It:=.s n (.qR t)
abbrev Sh0(l:List It):vO:=⟨l,[],[]⟩
theorem lk{f:Func}{i:Nat}{gh:List Gh}{ps:List It}{sh:vO}{ws:List Way}{R:wJ ps->sh.den->T (sh.den⊕gC ws)}(T:Tb)(ro:Nat->Bool)(H:Hints)(L:List Nat)(ha:Gr Pz f.ntmps H (ls f L))
  (h:∀ p s,z0t (u7 Pz Fj T.t ro) T.t f.ntmps H (Lz gh ps sh ws R) (lb i f) p s=R p s:=by intro p s; kernel_rfl) (hl:xj (lb i f)=ls f L:=by kernel_rfl):LO f (Lz gh ps sh ws R) i :=
 z3L (xid:=Fj) (ro:=ro) (H:=H) mixed T.ok (Qf hl ha) R h λ_ _=>rfl
theorem xy{f:Nat}{fn:Func}{d:C0}(T:Tb)(ro:Nat->Bool)(H:Hints)(hf:Pz.funcs[f]? = some fn)(L:List Nat)(ha:Gr Pz fn.ntmps H (ls fn L))
  (h:∀ x,PE (u7 Pz Fj T.t ro) T.t H fn (wV fn) d x=d.F x:=by intro x; kernel_rfl) (hb:fn.body=some (wV fn):=by rfl) (hn:(fn.name == "runtime.NumGoroutine")=false:=by kernel_rfl) (hl:xj (wV fn)=ls fn L:=by kernel_rfl):zD Pz f d :=
 zdk (xid:=Fj) (ro:=ro) (H:=H) mixed T.ok hf hb hn (Qf hl ha) h
theorem Yz{f:Nat}{fn:Func}{d:jZ}(T:Tb)(ro:Nat->Bool)(H:Hints)(hf:Pz.funcs[f]? = some fn)(L:List Nat)(ha:Gr Pz fn.ntmps H (ls fn L))
  (h:∀ x,EC (u7 Pz Fj T.t ro) T.t H fn (wV fn) d x=d.F x:=by intro x; kernel_rfl) (hb:fn.body=some (wV fn):=by rfl) (hn:(fn.name == "runtime.NumGoroutine")=false:=by kernel_rfl) (hl:xj (wV fn)=ls fn L:=by kernel_rfl):xU Pz f d :=
 z7G (xid:=Fj) (ro:=ro) (H:=H) mixed T.ok hf hb hn (Qf hl ha) h
def hdB(c:Code):Code:=match c with | .seq _ b=>b | _=>.skip
def hdO(c:Code):Array Oper:=match c with | .seq (.region _ ops _) _=>ops | _ => #[]
def hdI(c:Code):Nat:=match c with | .seq (.region id _ _) _=>id | _=>0
theorem fkr{f:Nat}{fn:Func}{d:jZ}(T:Tb)(ro:Nat->Bool)(H:Hints)(hf:Pz.funcs[f]? = some fn)
  (h:∀ x,evH (u7 Pz Fj T.t ro) T.t H fn (hdO (wV fn)) (hdB (wV fn)) d d.ks.length none x=d.F x:=by intro x; kernel_rfl) (hb:fn.body=some (.seq (.region (hdI (wV fn)) (hdO (wV fn)) false) (hdB (wV fn))):=by kernel_rfl) (hn:(fn.name == "runtime.NumGoroutine")=false:=by kernel_rfl) (hl:xj (hdB (wV fn))=[]:=by kernel_rfl):yv (OF Pz) f d :=
 z3q (xid:=Fj) (ro:=ro) (H:=H) mixed T.ok hf hb hn (WG hl) h
theorem fkh{f t:Nat}{fn:Func}{d:jZ}(T:Tb)(ro:Nat->Bool)(H:Hints)(hf:Pz.funcs[f]? = some fn)(k:Nat)
  (h:∀ x,evH (u7 Pz Fj T.t ro) T.t H fn (hdO (wV fn)) (hdB (wV fn)) d k (some t) x=d.F x:=by intro x; kernel_rfl) (hk:d.ks.length=k+1:=by kernel_rfl) (hb:fn.body=some (.seq (.region (hdI (wV fn)) (hdO (wV fn)) false) (hdB (wV fn))):=by kernel_rfl) (hn:(fn.name == "runtime.NumGoroutine")=false:=by kernel_rfl) (hl:xj (hdB (wV fn))=[]:=by kernel_rfl):yv (OK Pz t) f d :=
 z1H (xid:=Fj) (ro:=ro) (H:=H) mixed T.ok hf hb hn (WG hl) hk h
theorem ziz{g:Nat}{d:jZ}(_:yv (OF Pz) g d):yv (OK Pz 0) g { d with F:=λ_=>.fail }:=λ_ _ _ _ _ hy=>hy.elim
theorem fkf{f g pt:Nat}{fn:Func}{d d0 d1:jZ}(T:Tb)(ro:Nat->Bool)(H:Hints)(h0:yv (OF Pz) g d0)(h1:yv (OK Pz pt) g d1)(hf:Pz.funcs[f]? = some fn)
  (h:∀ x,S7 (u7 Pz Fj T.t ro) T.t H ⟨g,d0,pt,d1⟩ fn (wV fn) d x=d.F x:=by intro x; kernel_rfl) (hb:fn.body=some (wV fn):=by rfl) (hn:(fn.name == "runtime.NumGoroutine")=false:=by kernel_rfl) (hl:xj (wV fn)=[]:=by kernel_rfl):xU Pz f d :=
 z8j (xid:=Fj) (ro:=ro) (H:=H) mixed T.ok (h:=⟨g,d0,pt,d1⟩) h0 h1 hf hb hn hl h
theorem fkp{f:Nat}{fn:Func}{d:fG}(T:Tb)(ro:Nat->Bool)(H:Hints)(hf:Pz.funcs[f]? = some fn)(L:List Nat)(ha:Gr Pz fn.ntmps H (ls fn L))
  (h:∀ x,FD (u7 Pz Fj T.t ro) T.t H fn (wV fn) d x=d.F x:=by intro x; kernel_rfl) (hb:fn.body=some (wV fn):=by rfl) (hn:(fn.name == "runtime.NumGoroutine")=false:=by kernel_rfl) (hl:xj (wV fn)=ls fn L:=by kernel_rfl):kF Pz f d :=
 z74 (xid:=Fj) (ro:=ro) (H:=H) mixed T.ok hf hb hn (Qf hl ha) h
abbrev tc:Dk:=.st [.row 1 zw,.row 2 zM,.row 3 zY,.row 4 zN,.row 5 q9,.row 6 zT]
abbrev Ko:List Bk:=[.var tc,.arr zw,.arr zM,.arr zY,.arr zN,.arr q9,.arr zT]
abbrev tn:List Bk:=[.var (.zI zJ)]
abbrev Wx:Dk:=.st [.op 0 111,.row 1 (.int .u8)]
abbrev ZE:vO:=⟨[Mm 0 xn,.v (.zI zJ)],[],tn⟩
abbrev s9:vO:=⟨[.v (.zI zJ)],[(0,.ptr 0 0)],tn⟩
abbrev Wm:vO:=⟨[Mm 0 .expr,.v (.zI zJ)],[],tn⟩
abbrev yV:List Bk:=[.arr u32]
abbrev Pw:Dk:=.st [.row 7 zw,.row 9 zM,.row 11 zY,.row 13 zN,.row 5 q9,.row 3 zT]
abbrev UP:List Bk:=[.var Wx,.arr (.int .u8)]
abbrev L6:List Bk:=[.var (.zI zJ),.var (.zI .expr),.var (.zI .expr)]
abbrev bc:Way:=⟨.exit 0,⟨[],[],[]⟩⟩
abbrev IB:vO:=⟨[Mm 1 (.sl .str),.v tc,.a zw,.a zM,.a zY,.a zN,.a q9,.a zT],[(0,.ptr 0 0)],Ko⟩
abbrev sC:Way:=⟨.ret,⟨[Mb 2],[],[]⟩⟩
abbrev sD:Way:=⟨.ret,⟨[Mb 4],[],[]⟩⟩
abbrev Z2:vO:=⟨[Mi 3],[],[]⟩
abbrev Mg:vO:=⟨[Mm 0 .expr,Mi 1,.v (.zI i64)],[(2,.ptr 0 0)],[.var (.zI i64)]⟩
abbrev Is:vO:=⟨[Mb 0,.v tc,.a zw,.a zM,.a zY,.a zN,.a q9,.a zT],[],Ko⟩
abbrev SL:Dk:=.st [.row 6 zw,.row 8 zM,.row 10 zY,.row 12 zN,.row 4 q9,.row 2 zT]
abbrev JC:Way:=⟨.ret,⟨[Mi 4],[],[]⟩⟩
abbrev z55:Way:=⟨.normal,⟨[Mm 1 (.sl .str),.v tc,.a zw,.a zM,.a zY,.a zN,.a q9,.a zT,.v (.zI zN)],[],[.var tc,.arr zw,.arr zM,.arr zY,.arr zN,.arr q9,.arr zT,.var (.zI zN)]⟩⟩
abbrev XC:vO:=⟨[Mi 5],[],[]⟩
abbrev XM:vO:=⟨[.v Wx,.a (.int .u8)],[],UP⟩
abbrev Ln:vO:=⟨[Mb 0,.v (.zI i64)],[],[.var (.zI i64)]⟩
abbrev Tg:vO:=⟨[Mi 0,.v tc,.a zw,.a zM,.a zY,.a zN,.a q9,.a zT],[],Ko⟩
abbrev UZ:vO:=⟨[Mi 8],[],[]⟩
abbrev z05:vO:=⟨[Mm 0 xn,.v (.zI zJ),.v (.zI .expr),.v (.zI .expr)],[],L6⟩
abbrev Tl:List Bk:=[.var (.zI .expr),.var (.zI i64),.var (.zI i64)]
abbrev CA:vO:=⟨[Ms 0],[],[]⟩
abbrev IM:vO:=⟨[.v (.zI zJ)],[],tn⟩
abbrev z4z:List Bk:=[.var SL,.var Pw,.arr zT,.arr zT,.arr q9,.arr q9,.arr zw,.arr zw,.arr zM,.arr zM,.arr zY,.arr zY,.arr zN,.arr zN]
abbrev J8:vO:=⟨[Ms 3],[],[]⟩
abbrev z4y:vO:=⟨[.a u32],[(5,.cur 0 u32)],yV⟩
abbrev z4E:vO:=⟨[Mm 0 (.sl .expr),.s 1 (.mclo 183 [.rp i64,.pt 0]),.v (.zI i64)],[],[.cvar (.ptr 1 0),.var (.zI i64)]⟩
abbrev OR:vO:=⟨[.v (.zI zJ),.v (.zI .expr),.v (.zI .expr)],[],L6⟩
abbrev z4o:vO:=⟨[Mm 1 (.sl .str),Ms 2,.v tc,.a zw,.a zM,.a zY,.a zN,.a q9,.a zT],[(0,.ptr 0 0)],Ko⟩
abbrev z00:Way:=⟨.exit 0,⟨[.a u32],[(7,.cur 0 u32)],yV⟩⟩
abbrev Im:List Bk:=[.var (.zI zJ),.var (.zI .expr)]
abbrev U6:List Bk:=[.arr (.int .u8)]
abbrev z56:Way:=⟨.normal,⟨[Mb 16,.v tc,.a zw,.a zM,.a zY,.a zN,.a q9,.a zT],[],Ko⟩⟩
abbrev SQ:vO:=⟨[Mi 3,Mi 4],[],[]⟩
abbrev Px:vO:=⟨[Mi 3,Mi 9],[],[]⟩
abbrev IP:List Bk:=[.var (.zI .expr),.var (.zI .expr)]
abbrev z5B:vO:=⟨[Mm 7 (.int .u64),Mi 8,.a u32],[(6,.cur 0 u32)],yV⟩
abbrev z4U:vO:=⟨[Mb 0,.v (.zI i64)],[],[.cvar (.ptr 1 0),.var (.zI i64)]⟩
abbrev z4Q:Way:=⟨.ret,⟨[Ms 2,Mb 3,.v (.zI vc)],[],[.var (.zI vc)]⟩⟩
abbrev z5m:vO:=⟨[Mm 14 (.sl u32),.a u32],[(13,.cur 0 u32)],yV⟩
abbrev SA:vO:=⟨[Mm 0 (.sl u32)],[],[]⟩
abbrev z4Y:vO:=⟨[Mi 15,.a u32],[(7,.cur 0 u32)],yV⟩
abbrev z4M:vO:=⟨[.v (.zI .expr),.v (.zI i64),.v (.zI i64)],[],Tl⟩
abbrev KO:vO:=⟨[],[],[]⟩
abbrev z4r:Way:=⟨.normal,⟨[Mb 44,.v (.zI zJ)],[],tn⟩⟩
abbrev z4F:vO:=⟨[Mi 3,Mi 6],[],[]⟩
abbrev z4P:Way:=⟨.exit 0,⟨[.v (.zI vc)],[],[.var (.zI vc)]⟩⟩
abbrev TN:vO:=⟨[Ms 5],[],[]⟩
abbrev z4h:vO:=⟨[Ms 0,.v (.zI zJ)],[],tn⟩
abbrev z4s:vO:=⟨[.s 3 (.sub 0 (.int .u8)),.a (.int .u8)],[],U6⟩
abbrev z5s:vO:=⟨[.a (.int .u8)],[(3,.cur 0 (.int .u8))],U6⟩
abbrev z5A:vO:=⟨[.v Wx,.a (.int .u8)],[(0,.ptr 0 0)],UP⟩
abbrev Mf:Way:=⟨.exit 0,CA⟩
abbrev z5g:Way:=⟨.normal,⟨[Mb 17],[],[]⟩⟩
abbrev Jm:List AK:=[.ptr,.any]
abbrev z5k:Way:=⟨.normal,⟨[Mb 81],[],[]⟩⟩
abbrev Mv:List AK:=[.any,.any,.ptr]
abbrev MD:List AK:=[.ptr,.any,.any]
abbrev z4N:vO:=⟨[Mi 7],[],[]⟩
abbrev z5i:vO:=⟨[Mi 6],[],[]⟩
abbrev Rx:Way:=⟨.exit 0,Z2⟩
abbrev Rk:Way:=⟨.exit 0,z4y⟩
abbrev TG:Way:=⟨.exit 2,KO⟩
abbrev TM:Way:=⟨.exit 0,IM⟩
abbrev z4Z:vO:=⟨[.a (.int .u8)],[],U6⟩
abbrev Y29:=jv [.ty .expr,.ty i64]->T (Hw [i64])
abbrev H29(F:Y29):=zD Pz 29 ⟨[.ty .expr,.ty i64],[i64],F⟩
def T29(iQ:Y29)(CU:H29 iQ):Tb:=t0.d CU
def R0(iQ:Y29):zS:=Lz [] [Mr 2 .expr] ⟨[Mi 1,Mi 5],[],[]⟩ [⟨.exit 0,⟨[Mi 1],[],[]⟩⟩] λp s=>jR (λy0 y1=>iQ (y0,y1)) p s
def h29(iQ:Y29):Hints:=Hz [(0,R0 iQ)] [(0,3,.flat [Mb 32])] []
theorem z6m(iQ:Y29)(CU:H29 iQ):LO Tryz.f29 (R0 iQ) 0:=lk (T29 iQ CU) (rz [2]) (h29 iQ) [] zl
theorem z8m(iQ:Y29)(CU:H29 iQ):zD Pz 29 ⟨[.ty .expr,.ty i64],[i64],λx=>bQ (λy0 y1=>iQ (y0,y1)) x.1 x.2⟩:=xy (T29 iQ CU) (rz [2]) (h29 iQ) Tryz.func29 [0] (zZ rfl (z6m iQ CU) zl)
theorem zfg:zD Pz 29 ⟨[.ty .expr,.ty i64],[i64],λx=>jS x.1 x.2⟩:=QK (λiQ x=>bQ (λy0 y1=>iQ (y0,y1)) x.1 x.2) (λx=>rfl) (λiQ CU=>z8m iQ CU)
def t1:=t0.d zfg
def SC:zS:=Lz [] [Mr 1 qc] SQ [Rx] λp s=>kV p s
def OO:zS:=Lz [] [Mr 1 qc] ⟨[Mi 3,Mi 5],[],[]⟩ [⟨.exit 2,Z2⟩] λp s=>kZ p s
def Sn:zS:=Lz [] [Mr 1 qc] z4F [⟨.exit 4,Z2⟩] λp s=>kX p s
def TZ:zS:=Lz [] [Mr 1 qc] ⟨[Mi 3,Mi 7],[],[]⟩ [⟨.exit 6,Z2⟩] λp s=>kU p s
def TO:zS:=Lz [] [Mr 1 qc] ⟨[Mi 3,Mi 8],[],[]⟩ [⟨.exit 8,Z2⟩] λp s=>y9 p s
def LV:zS:=Lz [] [Mr 1 qc] Px [⟨.exit 10,Z2⟩] λp s=>kQ p s
def h14:Hints:=Hz [(0,SC),(2,OO),(4,Sn),(6,TZ),(8,TO),(10,LV)] [(0,3,.flat [Mb 43]),(0,7,.flat [Mb 83]),(0,11,.flat [Mb 103]),(0,15,.flat [Mb 131]),(0,19,.flat [Mb 151]),(0,23,.flat [Mb 193])] []
theorem z6k:LO Tryz.f14 SC 0:=lk t1 (rz [1]) h14 [] zl
theorem z6W:LO Tryz.f14 OO 2:=lk t1 (rz [1]) h14 [] zl
theorem z6J:LO Tryz.f14 Sn 4:=lk t1 (rz [1]) h14 [] zl
theorem z7z:LO Tryz.f14 TZ 6:=lk t1 (rz [1]) h14 [] zl
theorem z6b:LO Tryz.f14 TO 8:=lk t1 (rz [1]) h14 [] zl
theorem z1J:LO Tryz.f14 LV 10:=lk t1 (rz [1]) h14 [] zl
theorem zfm:zD Pz 14 ⟨[.ty qc],[.bool],λx=>dY x⟩:=xy t1 (rz [1]) h14 Tryz.func14 [0,2,4,6,8,10] (zZ rfl z6k (zZ rfl z6W (zZ rfl z6J (zZ rfl z7z (zZ rfl z6b (zZ rfl z1J zl))))))
def t2:=t1.d zfm
def h67:Hints:=Hz [] [(0,1,.flat [Mb 2])] []
theorem zfT:zD Pz 67 ⟨[.ty (.int .u8)],[.bool],λx=>jx x⟩:=xy t2 rn h67 Tryz.func67 [] zl
def t3:=t2.d zfT
def h68:Hints:=Hz [] [(0,1,.flat [Mb 2])] []
theorem zeG:zD Pz 68 ⟨[.ty (.int .u8)],[.bool],λx=>mg x⟩:=xy t3 rn h68 Tryz.func68 [] zl
def t4:=t3.d zeG
def T6:zS:=Lz [] [Ms 0] Z2 [bc,sC] λp s=>kv p s
def h30:Hints:=Hz [(0,T6)] [(0,1,.ways [z5g]),(0,6,.ways [⟨.normal,⟨[Mb 41],[],[]⟩⟩])] []
theorem z7J:LO Tryz.f30 T6 0:=lk t4 rn h30 [] zl
theorem zgq:zD Pz 30 ⟨[.ty .str],[.bool],λx=>vU x⟩:=xy t4 rn h30 Tryz.func30 [0] (zZ rfl z7J zl)
def t5:=t4.d zgq
def MB:zS:=Lz [] [Mm 0 (.sl u32)] Z2 [Rx] λp s=>gM p s
def zcK:Hints:=Hz [(0,MB)] [(0,2,.flat [Mb 15])] []
theorem z2g:LO Tryz.f125 MB 0:=lk t5 rn zcK [] zl
theorem zcX:zD Pz 125 ⟨[.ty (.sl u32)],[(.sl u32)],λx=>qN x⟩:=xy t5 rn zcK Tryz.func125 [0] (zZ rfl z2g zl)
def t6:=t5.d zcX
def LX:zS:=Lz [] [Mm 4 (.sl u32)] ⟨[Mm 5 (.int .u64),Mi 6],[],[]⟩ [⟨.exit 0,⟨[Mm 5 (.int .u64)],[],[]⟩⟩] λp s=>fb p s
def zap:Hints:=Hz [(0,LX)] [] []
theorem z3x:LO Tryz.f165 LX 0:=lk t6 rn zap [] zl
theorem z9k:zD Pz 165 ⟨[.ty (.sl u32)],[(.int .u64),.bool],λx=>ZM x⟩:=xy t6 rn zap Tryz.func165 [0] (zZ rfl z3x zl)
def t7:=t6.d z9k
theorem zc4:zD Pz 162 ⟨[.ty (.int .u64)],[(.sl u32)],λx=>rR x⟩:=xy t7 rn hN Tryz.func162 [] zl
def t8:=t7.d zc4
def I0:zS:=Lz [] [Mm 0 (.sl u32),Mm 1 (.int .u64)] z5B [⟨.exit 0,⟨[Mm 7 (.int .u64),.a u32],[(6,.cur 0 u32)],yV⟩⟩] λp s=>bJ p.1 p.2 s
def zba:Hints:=Hz [(0,I0)] [] [(9,[6])]
theorem z1a:LO Tryz.f166 I0 0:=lk t8 rn zba [] zl
theorem zar:zD Pz 166 ⟨[.ty (.sl u32),.ty (.int .u64)],[(.sl u32),(.int .u64)],λx=>bH x.1 x.2⟩:=xy t8 rn zba Tryz.func166 [0] (zZ rfl z1a zl)
def t9:=t8.d zar
theorem zbj:zD Pz 163 ⟨[.ty (.sl u32),.ty i64],[(.int .u64)],λx=>yZ x.1 x.2⟩:=xy t9 rn hN Tryz.func163 [] zl
def t10:=t9.d zbj
def Lh:zS:=Lz [.slot 8 u32] [Mm 5 (.sl u32),Mm 7 (.int .u64)] ⟨[Mi 9,.a u32],[(8,.cur 0 u32)],yV⟩ [⟨.exit 0,⟨[.a u32],[(8,.cur 0 u32)],yV⟩⟩] λp s=>sQ p.1 p.2 s
def IQ:zS:=Lz [] [Mm 5 (.sl u32),Mm 11 (.int .u64)] ⟨[Mm 12 (.int .u64),Mi 13,.a u32],[(10,.cur 0 u32)],yV⟩ [⟨.exit 2,⟨[.a u32],[(10,.cur 0 u32)],yV⟩⟩] λp s=>bI p.1 p.2 s
def z7f:Hints:=Hz [(0,Lh),(2,IQ)] [] [(14,[8]),(24,[10])]
theorem z3y:LO Tryz.f167 Lh 0:=lk t10 rn z7f [] zl
theorem z42:LO Tryz.f167 IQ 2:=lk t10 rn z7f [] zl
theorem z9y:zD Pz 167 ⟨[.ty (.sl u32),.ty i64],[(.sl u32)],λx=>n8 x.1 x.2⟩:=xy t10 rn z7f Tryz.func167 [0,2] (zZ rfl z3y (zZ rfl z42 zl))
def t11:=t10.d z9y
def Ld:zS:=Lz [.slot 5 u32] [Mm 0 (.sl u32),Mm 1 (.sl u32)] ⟨[Mm 6 (.int .u64),Mi 7,.a u32],[(5,.cur 0 u32)],yV⟩ [Rk] λp s=>fX p.1 p.2 s
def zbk:Hints:=Hz [(0,Ld)] [] [(9,[5])]
theorem z2m:LO Tryz.f120 Ld 0:=lk t11 rn zbk [] zl
theorem z9u:zD Pz 120 ⟨[.ty (.sl u32),.ty (.sl u32)],[(.sl u32)],λx=>Q0 x.1 x.2⟩:=xy t11 rn zbk Tryz.func120 [0] (zZ rfl z2m zl)
def t12:=t11.d z9u
def IK:zS:=Lz [] [Mm 5 (.sl u32),Mm 6 (.sl u32)] z4N [bc,JC] λp s=>cf p.1 p.2 s
def zcc:Hints:=Hz [(0,IK)] [] []
theorem z0W:LO Tryz.f168 IK 0:=lk t12 rn zcc [] zl
theorem z96:zD Pz 168 ⟨[.ty (.sl u32),.ty (.sl u32)],[i64],λx=>pw x.1 x.2⟩:=xy t12 rn zcc Tryz.func168 [0] (zZ rfl z0W zl)
def t13:=t12.d z96
def Lb:zS:=Lz [.slot 6 u32] [Mm 0 (.sl u32),Mm 1 (.sl u32)] z5B [⟨.exit 0,⟨[.a u32],[(6,.cur 0 u32)],yV⟩⟩] λp s=>fE p.1 p.2 s
def zaR:Hints:=Hz [(0,Lb)] [(3,10,.flat [Mm 7 (.int .u64),Mm 9 (.int .u64)])] [(14,[6])]
theorem z1r:LO Tryz.f169 Lb 0:=lk t13 rn zaR [] zl
theorem zcj:zD Pz 169 ⟨[.ty (.sl u32),.ty (.sl u32)],[(.sl u32),.bool],λx=>ZV x.1 x.2⟩:=xy t13 rn zaR Tryz.func169 [0] (zZ rfl z1r zl)
def t14:=t13.d zcj
def Lo:zS:=Lz [] [Mm 0 (.sl u32),Mm 1 (.sl u32)] ⟨[Mm 14 (.sl u32),Mi 15,.a u32],[(13,.cur 0 u32)],yV⟩ [⟨.exit 0,z5m⟩] λp s=>uz p.1 p.2 s
def z97:Hints:=Hz [(0,Lo)] [(0,5,.flat [Mb 33]),(0,7,.flat [Mb 46]),(3,16,.ways [⟨.normal,z5m⟩])] [(21,[13])]
theorem z48:LO Tryz.f127 Lo 0:=lk t14 rn z97 [] zl
theorem zcY:zD Pz 127 ⟨[.ty (.sl u32),.ty (.sl u32)],[(.sl u32),(.sl u32),.bool],λx=>jD x.1 x.2⟩:=xy t14 rn z97 Tryz.func127 [0] (zZ rfl z48 zl)
def t15:=t14.d zcY
def LD:zS:=Lz [] [] ⟨[Mm 5 (.sl u32),Mm 6 (.sl u32)],[],[]⟩ [⟨.exit 0,⟨[Mm 5 (.sl u32)],[],[]⟩⟩] λp s=>cn  s
def zaT:Hints:=Hz [(0,LD)] [] []
theorem z0V:LO Tryz.f126 LD 0:=lk t15 rn zaT [] zl
theorem z9n:zD Pz 126 ⟨[.ty (.sl u32),.ty (.sl u32)],[(.sl u32)],λx=>Qp x.1 x.2⟩:=xy t15 rn zaT Tryz.func126 [0] (zZ rfl z0V zl)
def t16:=t15.d z9n
def h64:Hints:=Hz [] [(0,2,.flat [Mb 19])] []
theorem zgg:zD Pz 64 ⟨[.ty vc],[vc],λx=>j5 x⟩:=xy t16 (rz [1]) h64 Tryz.func64 [] zl
def t17:=t16.d zgg
def Rs:zS:=Lz [] [Mm 0 (.sl u32),Mm 1 (.sl u32)] XC [bc,sD] λp s=>j7 p.1 p.2 s
def h65:Hints:=Hz [(0,Rs)] [] []
theorem z7o:LO Tryz.f65 Rs 0:=lk t17 rn h65 [] zl
theorem zhg:zD Pz 65 ⟨[.ty (.sl u32),.ty (.sl u32)],[.bool],λx=>yr x.1 x.2⟩:=xy t17 rn h65 Tryz.func65 [0] (zZ rfl z7o zl)
def t18:=t17.d zhg
theorem zgb:zD Pz 69 ⟨[.ty vc],[.bool],λx=>Z4 x⟩:=xy t18 (rz [1]) hN Tryz.func69 [] zl
def t19:=t18.d zgb
def h70:Hints:=Hz [] [(0,2,.flat [Mb 2])] []
theorem zgQ:zD Pz 70 ⟨[.ty vc],[.bool],λx=>nc x⟩:=xy t19 (rz [1]) h70 Tryz.func70 [] zl
def t20:=t19.d zgQ
theorem zhh:zD Pz 31 ⟨[.ty vc],[.bool],λx=>dB x⟩:=xy t20 (rz [1]) hN Tryz.func31 [] zl
def t21:=t20.d zhh
theorem zgX:zD Pz 32 ⟨[.ty .str],[.bool],λx=>eX x⟩:=xy t21 rn hN Tryz.func32 [] zl
def t22:=t21.d zgX
def Md:zS:=Lz [] [Mm 0 (.sl u32),Mm 1 (.sl u32),Mi 6] ⟨[Mm 7 (.int .u64),Mi 8,.a u32],[(5,.cur 0 u32)],yV⟩ [⟨.exit 2,z4y⟩] λp s=>cp p.1 p.2.1 p.2.2 s
def I7:zS:=Lz [] [Mm 0 (.sl u32),Mm 1 (.sl u32)] ⟨[Mi 6,.a u32],[(5,.cur 0 u32)],yV⟩ [Rk] λp s=>fK p.1 p.2 s
def z8n:Hints:=Hz [(2,Md),(0,I7)] [(0,7,.flat [Mb 28])] [(13,[5])]
theorem z3K:LO Tryz.f121 Md 2:=lk t22 rn z8n [] zl
theorem z2z:LO Tryz.f121 I7 0:=lk t22 rn z8n [2] (zZ rfl z3K zl)
theorem z9K:zD Pz 121 ⟨[.ty (.sl u32),.ty (.sl u32)],[(.sl u32)],λx=>oS x.1 x.2⟩:=xy t22 rn z8n Tryz.func121 [0] (zZ rfl z2z zl)
def t23:=t22.d z9K
def Ie:zS:=Lz [] [] ⟨[Mm 3 (.sl u32),Ms 4],[],[]⟩ [⟨.exit 0,⟨[Ms 4],[],[]⟩⟩] λp s=>kT  s
def zcp:Hints:=Hz [(0,Ie)] [] []
theorem z1S:LO Tryz.f131 Ie 0:=lk t23 rn zcp [] zl
theorem z9d:zD Pz 131 ⟨[.ty (.sl u32)],[.str],λx=>bE x⟩:=xy t23 rn zcp Tryz.func131 [0] (zZ rfl z1S zl)
def t24:=t23.d z9d
def My:zS:=Lz [] [Mi 1] TN [⟨.exit 0,TN⟩] λp s=>jy p s
def zaP:Hints:=Hz [(0,My)] [] []
theorem z27:LO Tryz.f202 My 0:=lk t24 rn zaP [] zl
theorem zaC:zD Pz 202 ⟨[.ty (.sl u32),.ty i64],[.str],λx=>fB x.1 x.2⟩:=xy t24 rn zaP Tryz.func202 [0] (zZ rfl z27 zl)
def t25:=t24.d zaC
theorem zbG:zD Pz 130 ⟨[.ty .bool],[.str],λx=>dt x⟩:=xy t25 rn hN Tryz.func130 [] zl
def t26:=t25.d zbG
def zgM:Hints:=Hz [] [(3,2,.flat [Ms 7])] []
theorem zdn:zD Pz 170 ⟨[.ty .bool,.ty (.sl u32),.ty i64],[.str],λx=>ml x.1 x.2.1 x.2.2⟩:=xy t26 rn zgM Tryz.func170 [] zl
def t27:=t26.d zdn
def LA:zS:=Lz [] [] ⟨[Mm 5 (.sl u32),Mi 6,.v (.zI vc)],[(4,.ptr 0 0)],[.var (.zI vc)]⟩ [z4P,z4Q] λp s=>j4  s
def NW:Hints:=Hz [(0,LA)] [] []
theorem z3a:LO Tryz.f128 LA 0:=lk t27 (rz [1]) NW [] zl
theorem zbo:zD Pz 128 ⟨[.ty vc],[.str,.bool],λx=>bw x⟩:=xy t27 (rz [1]) NW Tryz.func128 [0] (zZ rfl z3a zl)
def t28:=t27.d zbo
theorem zch:zD Pz 129 ⟨[.ty vc],[.bool],λx=>jQ x⟩:=xy t28 (rz [1]) hN Tryz.func129 [] zl
def t29:=t28.d zch
abbrev Y71:=jv [.ty .expr,.ty i64]->T (Hw [.bool])
abbrev H71(F:Y71):=zD Pz 71 ⟨[.ty .expr,.ty i64],[.bool],F⟩
def T71(lj:Y71)(Cz:H71 lj):Tb:=t29.d Cz
def Pg(lj:Y71):zS:=Lz [] [Mi 1,Mr 2 .expr,Mi 5] UZ [⟨.exit 1,KO⟩,sD] λp s=>cv (λy0 y1=>lj (y0,y1)) p.1 p.2.1 p.2.2 s
def h71(lj:Y71):Hints:=Hz [(1,Pg lj)] [(3,4,.ways [⟨.normal,XC⟩,sD]),(0,17,.ways [⟨.normal,⟨[Mb 82],[],[]⟩⟩])] []
theorem z6A(lj:Y71)(Cz:H71 lj):LO Tryz.f71 (Pg lj) 1:=lk (T71 lj Cz) (rz [2]) (h71 lj) [] zl
theorem z6I(lj:Y71)(Cz:H71 lj):zD Pz 71 ⟨[.ty .expr,.ty i64],[.bool],λx=>mR (λy0 y1=>lj (y0,y1)) x.1 x.2⟩:=xy (T71 lj Cz) (rz [2]) (h71 lj) Tryz.func71 [1] (zZ rfl (z6A lj Cz) zl)
theorem zgd:zD Pz 71 ⟨[.ty .expr,.ty i64],[.bool],λx=>pj x.1 x.2⟩:=QK (λlj x=>mR (λy0 y1=>lj (y0,y1)) x.1 x.2) (λx=>rfl) (λlj Cz=>z6I lj Cz)
def t30:=t29.d zgd
abbrev Y72:=jv [.ty .expr]->T (Hw [i64])
abbrev H72(F:Y72):=zD Pz 72 ⟨[.ty .expr],[i64],F⟩
def T72(lh:Y72)(Dl:H72 lh):Tb:=t30.d Dl
def Pt(lh:Y72):zS:=Lz [] [Mr 1 .expr] SQ [Rx] λp s=>yc (λy0=>lh (y0)) p s
def h72(lh:Y72):Hints:=Hz [(0,Pt lh)] [] []
theorem z7t(lh:Y72)(Dl:H72 lh):LO Tryz.f72 (Pt lh) 0:=lk (T72 lh Dl) (rz [1]) (h72 lh) [] zl
theorem z7x(lh:Y72)(Dl:H72 lh):zD Pz 72 ⟨[.ty .expr],[i64],λx=>de (λy0=>lh (y0)) x⟩:=xy (T72 lh Dl) (rz [1]) (h72 lh) Tryz.func72 [0] (zZ rfl (z7t lh Dl) zl)
theorem zfr:zD Pz 72 ⟨[.ty .expr],[i64],λx=>mV x⟩:=QK (λlh x=>de (λy0=>lh (y0)) x) (λx=>rfl) (λlh Dl=>z7x lh Dl)
def t31:=t30.d zfr
theorem zeF:zD Pz 33 ⟨[.ty .expr],[.bool],λx=>cZ x⟩:=xy t31 (rz [1]) hN Tryz.func33 [] zl
def t32:=t31.d zeF
def Ra:zS:=Lz [] [Mr 1 qc] SQ [bc,sC] λp s=>y5 p s
def z0l:zS:=Lz [] [Mr 1 qc] z4F [TG,sC] λp s=>kW p s
def h34:Hints:=Hz [(0,Ra),(2,z0l)] [(0,6,.ways [⟨.normal,⟨[Mb 47,.v (.zI zN)],[],[.var (.zI zN)]⟩⟩]),(0,14,.ways [⟨.normal,⟨[Mb 101,.v (.zI zT)],[],[.var (.zI zT)]⟩⟩])] []
theorem z7M:LO Tryz.f34 Ra 0:=lk t32 (rz [1]) h34 [] zl
theorem z65:LO Tryz.f34 z0l 2:=lk t32 (rz [1]) h34 [] zl
theorem zfJ:zD Pz 34 ⟨[.ty qc],[.bool],λx=>nh x⟩:=xy t32 (rz [1]) h34 Tryz.func34 [0,2] (zZ rfl z7M (zZ rfl z65 zl))
def t33:=t32.d zfJ
def h73:Hints:=Hz [] [(0,3,.flat [Mb 24])] []
theorem zgB:zD Pz 73 ⟨[.ty vc],[.str],λx=>mA x⟩:=xy t33 (rz [1]) h73 Tryz.func73 [] zl
def t34:=t33.d zgB
theorem zeQ:zD Pz 74 ⟨[.ty .str],[.str],λx=>pV x⟩:=xy t34 rn hN Tryz.func74 [] zl
def t35:=t34.d zeQ
def h75:Hints:=Hz [] [(3,2,.flat [Ms 3])] []
theorem zft:zD Pz 75 ⟨[.ty zN],[.str],λx=>mG x⟩:=xy t35 (rz [1]) h75 Tryz.func75 [] zl
def t36:=t35.d zft
def zff:Hints:=Hz [] [(3,2,.flat [Mb 4]),(3,5,.flat [Mb 7])] []
theorem zdp:zD Pz 171 ⟨[.ty i64],[i64],λx=>pG x⟩:=xy t36 rn zff Tryz.func171 [] zl
def t37:=t36.d zdp
abbrev z5P:=jv [.ty .expr,.ty i64]->T (Hw [.str])
abbrev zei(F:z5P):=zD Pz 132 ⟨[.ty .expr,.ty i64],[.str],F⟩
def zf7(XU:z5P):Hints:=Hz [] [(3,2,.ways [⟨.normal,TN⟩])] []
theorem z1c(XU:z5P)(TW:zei XU):zD Pz 132 ⟨[.ty .expr,.ty i64],[.str],λx=>fJ (λy0 y1=>XU (y0,y1)) x.1 x.2⟩:=xy (t37.d TW) (rz [2]) (zf7 XU) Tryz.func132 [] zl
theorem zaU:zD Pz 132 ⟨[.ty .expr,.ty i64],[.str],λx=>rI x.1 x.2⟩:=QK (λXU x=>fJ (λy0 y1=>XU (y0,y1)) x.1 x.2) (λx=>rfl) (λXU TW=>z1c XU TW)
def t38:=t37.d zaU
theorem zhi:zD Pz 76 ⟨[.ty .expr],[.str],λx=>yt x⟩:=xy t38 (rz [1]) hN Tryz.func76 [] zl
def t39:=t38.d zhi
theorem zfK:zD Pz 77 ⟨[.ty i64],[.str],λx=>ZJ x⟩:=xy t39 rn hN Tryz.func77 [] zl
def t40:=t39.d zfK
theorem zge:zD Pz 19 ⟨[.ty i64],[.str],λx=>bP x⟩:=xy t40 rn hN Tryz.func19 [] zl
def t41:=t40.d zge
def z0q:zS:=Lz [] [Mr 1 qc] ⟨[Ms 3,Mi 4],[],[]⟩ [⟨.exit 0,J8⟩] λp s=>gp p s
def Th:zS:=Lz [] [Mr 1 qc] ⟨[Ms 3,Mi 6],[],[]⟩ [⟨.exit 2,J8⟩] λp s=>gm p s
def PX:zS:=Lz [] [Mr 1 qc,Mi 7] ⟨[Ms 3,Mi 8],[],[]⟩ [⟨.exit 6,J8⟩] λp s=>gX p.1 p.2 s
def TV:zS:=Lz [] [Mr 1 qc,Mi 7] ⟨[Ms 3,Mi 9],[],[]⟩ [⟨.exit 8,J8⟩] λp s=>gn p.1 p.2 s
def Sr:zS:=Lz [] [Mr 1 qc] ⟨[Ms 3,Mi 7],[],[]⟩ [⟨.exit 4,J8⟩] λp s=>gT p s
def Iq:zS:=Lz [] [Mr 1 qc] ⟨[Ms 3,Mi 11],[],[]⟩ [⟨.exit 10,J8⟩] λp s=>gR p s
def h35:Hints:=Hz [(0,z0q),(2,Th),(6,PX),(8,TV),(4,Sr),(10,Iq)] [(3,6,.flat [Ms 5])] []
theorem z7K:LO Tryz.f35 z0q 0:=lk t41 (rz [1]) h35 [] zl
theorem z63:LO Tryz.f35 Th 2:=lk t41 (rz [1]) h35 [] zl
theorem z5M:LO Tryz.f35 PX 6:=lk t41 (rz [1]) h35 [] zl
theorem z7Q:LO Tryz.f35 TV 8:=lk t41 (rz [1]) h35 [] zl
theorem z6U:LO Tryz.f35 Sr 4:=lk t41 (rz [1]) h35 [6,8] (zZ rfl z5M (zZ rfl z7Q zl))
theorem z2T:LO Tryz.f35 Iq 10:=lk t41 (rz [1]) h35 [] zl
theorem zfa:zD Pz 35 ⟨[.ty qc],[.str],λx=>rT x⟩:=xy t41 (rz [1]) h35 Tryz.func35 [0,2,4,10] (zZ rfl z7K (zZ rfl z63 (zZ rfl z6U (zZ rfl z2T zl))))
def t42:=t41.d zfa
def R5:zS:=Lz [] [Mr 1 qc] Z2 [bc,sC] λp s=>ep p s
def S4:zS:=Lz [] [Mr 1 qc] ⟨[Mi 4],[],[]⟩ [TG,sC] λp s=>dF p s
def RI:zS:=Lz [] [Mr 1 qc] XC [⟨.exit 4,KO⟩,sC] λp s=>eC p s
def To:zS:=Lz [] [Mr 1 qc] z5i [⟨.exit 6,KO⟩,sC] λp s=>dV p s
def h15:Hints:=Hz [(0,R5),(2,S4),(4,RI),(6,To)] [(0,9,.ways [⟨.normal,⟨[Mb 47],[],[]⟩⟩]),(0,14,.ways [⟨.normal,⟨[Mb 72],[],[]⟩⟩]),(0,20,.ways [⟨.normal,⟨[Mb 116,.v (.zI q9)],[],[.var (.zI q9)]⟩⟩])] []
theorem z5F:LO Tryz.f15 R5 0:=lk t42 (rz [1]) h15 [] zl
theorem z5V:LO Tryz.f15 S4 2:=lk t42 (rz [1]) h15 [] zl
theorem z7e:LO Tryz.f15 RI 4:=lk t42 (rz [1]) h15 [] zl
theorem z8g:LO Tryz.f15 To 6:=lk t42 (rz [1]) h15 [] zl
theorem zh8:zD Pz 15 ⟨[.ty qc],[.bool],λx=>WJ x⟩:=xy t42 (rz [1]) h15 Tryz.func15 [0,2,4,6] (zZ rfl z5F (zZ rfl z5V (zZ rfl z7e (zZ rfl z8g zl))))
def t43:=t42.d zh8
def zer:Hints:=Hz [] [(0,1,.flat [Mb 2])] []
theorem zcA:zD Pz 141 ⟨[.ty (.int .u8)],[.bool],λx=>wI x⟩:=xy t43 rn zer Tryz.func141 [] zl
def t44:=t43.d zcA
def zgK:Hints:=Hz [] [(0,1,.flat [Mb 2])] []
theorem z9f:zD Pz 179 ⟨[.ty (.int .u8)],[.bool],λx=>xH x⟩:=xy t44 rn zgK Tryz.func179 [] zl
def t45:=t44.d z9f
theorem z8Q:zD Pz 142 ⟨[.ty (.int .u8)],[.bool],λx=>ve x⟩:=xy t45 rn hN Tryz.func142 [] zl
def t46:=t45.d z8Q
def Pk:zS:=Lz [] [Ms 0,Mi 18] ⟨[Mi 19],[],[]⟩ [bc,sC] λp s=>ko p.1 p.2 s
def h87:Hints:=Hz [(0,Pk)] [(0,1,.ways [⟨.normal,⟨[Mb 16],[],[]⟩⟩])] []
theorem z6Z:LO Tryz.f87 Pk 0:=lk t46 rn h87 [] zl
theorem zgP:zD Pz 87 ⟨[.ty .str],[.bool],λx=>xi x⟩:=xy t46 rn h87 Tryz.func87 [0] (zZ rfl z6Z zl)
def t47:=t46.d zgP
theorem zh4:zD Pz 86 ⟨[.ty zw],[.bool],λx=>vH x⟩:=xy t47 (rz [1]) hN Tryz.func86 [] zl
def t48:=t47.d zh4
def Lw:zS:=Lz [] [Mm 0 (.sl zw),.s 1 (.qW 86 []),Mi 7] UZ [bc,JC] λp s=>qK p.1 (λz0=>vH z0) p.2.2 s
def zbY:Hints:=Hz [(0,Lw)] [] []
theorem z2v:LO Tryz.f140 Lw 0:=lk t48 rn zbY [] zl
theorem z9O:zD Pz 140 ⟨[.ty (.sl zw),.qW 86 []],[i64],λx=>xW x.1 (λz0=>vH z0)⟩:=xy t48 rn zbY Tryz.func140 [0] (zZ rfl z2v zl)
def t49:=t48.d z9O
theorem zeJ:zD Pz 85 ⟨[.ty (.sl zw),.qW 86 []],[.bool],λx=>qL x.1 (λz0=>vH z0)⟩:=xy t49 rn hN Tryz.func85 [] zl
def t50:=t49.d zeJ
def zeD:Hints:=Hz [] [(0,1,.flat [Mb 2])] []
theorem z9T:zD Pz 144 ⟨[.ty (.sl u32)],[.bool],λx=>eO x⟩:=xy t50 rn zeD Tryz.func144 [] zl
def t51:=t50.d z9T
def Lm:zS:=Lz [] [] SA [⟨.exit 0,SA⟩] λp s=>fM  s
def zaH:Hints:=Hz [(0,Lm)] [] []
theorem z1l:LO Tryz.f176 Lm 0:=lk t51 rn zaH [] zl
theorem zdo:zD Pz 176 ⟨[.ty (.sl u32)],[(.sl u32)],λx=>xN x⟩:=xy t51 rn zaH Tryz.func176 [0] (zZ rfl z1l zl)
def t52:=t51.d zdo
def zfo:Hints:=Hz [] [(0,1,.zbL)] []
theorem z9A:zD Pz 203 ⟨[.ty (.sl u32)],[(.sl u32)],λx=>vi x⟩:=xy t52 rn zfo Tryz.func203 [] zl
def t53:=t52.d z9A
theorem z92:zD Pz 173 ⟨[.ty (.sl u32)],[(.sl u32)],λx=>gB x⟩:=xy t53 rn hN Tryz.func173 [] zl
def t54:=t53.d z92
def ME:zS:=Lz [] [Mm 0 (.sl u32),Mm 1 (.sl u32)] XC [bc,JC] λp s=>eK p.1 p.2 s
def zb8:Hints:=Hz [(0,ME)] [] []
theorem z1K:LO Tryz.f136 ME 0:=lk t54 rn zb8 [] zl
theorem zaS:zD Pz 136 ⟨[.ty (.sl u32),.ty (.sl u32)],[i64],λx=>mh x.1 x.2⟩:=xy t54 rn zb8 Tryz.func136 [0] (zZ rfl z1K zl)
def t55:=t54.d zaS
def zfz:Hints:=Hz [] [(0,1,.flat [Mb 15])] []
theorem zcQ:zD Pz 204 ⟨[.ty u32,.ty u32,.ty u32],[u32,u32],λx=>ye x.1 x.2.1 x.2.2⟩:=xy t55 rn zfz Tryz.func204 [] zl
def t56:=t55.d zcQ
def Mz:zS:=Lz [] [Mm 0 (.sl u32),Mm 1 u32] ⟨[Mm 7 u32,Mi 8,.a u32],[(6,.cur 0 u32)],yV⟩ [⟨.exit 0,⟨[Mm 7 u32,.a u32],[(6,.cur 0 u32)],yV⟩⟩] λp s=>cP p.1 p.2 s
def za1:Hints:=Hz [(0,Mz)] [] [(7,[6])]
theorem z3l:LO Tryz.f174 Mz 0:=lk t56 rn za1 [] zl
theorem zcx:zD Pz 174 ⟨[.ty (.sl u32),.ty u32],[(.sl u32),u32],λx=>dv x.1 x.2⟩:=xy t56 rn za1 Tryz.func174 [0] (zZ rfl z3l zl)
def t57:=t56.d zcx
theorem zdj:zD Pz 137 ⟨[.ty (.int .u64)],[(.sl u32)],λx=>yq x⟩:=xy t57 rn hN Tryz.func137 [] zl
def t58:=t57.d zdj
def zeI:Hints:=Hz [] [(3,1,.flat [Mm 0 u32,Mi 2]),(3,4,.flat [Mm 0 u32,Mi 2])] []
theorem z9e:zD Pz 247 ⟨[.ty u32],[i64],λx=>yj x⟩:=xy t58 rn zeI Tryz.func247 [] zl
def t59:=t58.d z9e
theorem zdd:zD Pz 232 ⟨[.ty u32],[i64],λx=>wH x⟩:=xy t59 rn hN Tryz.func232 [] zl
def t60:=t59.d zdd
def IJ:zS:=Lz [] [Mm 1 (.int .u64),Mi 2,Mm 13 (.sl u32),Mi 14] z4Y [z00] λp s=>sy p.1 p.2.1 p.2.2.1 p.2.2.2 s
def zbw:Hints:=Hz [(0,IJ)] [] []
theorem z1V:LO Tryz.f233 IJ 0:=lk t60 rn zbw [] zl
theorem z4j:xU Pz 233 ⟨[.any,.any,.any],⟨[Mm 0 (.sl u32),Mm 1 (.int .u64),Mi 2],[],[]⟩,[],⟨[.a u32],[(0,.cur 0 u32)],yV⟩,1,λx=>eF x.1 x.2.1 x.2.2⟩:=Yz t60 rn zbw Tryz.func233 [0] (zZ rfl z1V zl)
def t61:=t60.s z4j
def Lx:zS:=Lz [] [Mm 2 u32,Mm 3 u32,Mm 4 u32] ⟨[Mm 12 (.int .u64),Mm 13 (.int .u64)],[],[]⟩ [⟨.exit 0,⟨[Mm 12 (.int .u64)],[],[]⟩⟩] λp s=>yY p.1 p.2.1 p.2.2 s
def z9j:Hints:=Hz [(0,Lx)] [(0,3,.flat [Mb 42])] []
theorem z2t:LO Tryz.f234 Lx 0:=lk t61 rn z9j [] zl
theorem zc8:zD Pz 234 ⟨[.ty u32,.ty u32,.ty u32,.ty u32,.ty u32],[(.int .u64)],λx=>dx x.1 x.2.1 x.2.2.1 x.2.2.2.1 x.2.2.2.2⟩:=xy t61 rn z9j Tryz.func234 [0] (zZ rfl z2t zl)
def t62:=t61.d zc8
theorem zb5:zD Pz 248 ⟨[.ty u32,.ty u32,.ty u32],[u32,u32],λx=>uW x.1 x.2.1 x.2.2⟩:=xy t62 rn hN Tryz.func248 [] zl
def t63:=t62.d zb5
theorem zcV:zD Pz 249 ⟨[.ty u32,.ty u32,.ty u32],[u32,u32],λx=>yh x.1 x.2.1 x.2.2⟩:=xy t63 rn hN Tryz.func249 [] zl
def t64:=t63.d zcV
def Ik:zS:=Lz [] [Mm 1 (.sl u32),Mm 2 (.int .u64),Mm 14 (.sl u32),Mi 15] ⟨[.s 0 (.sub 0 u32),Mm 7 (.int .u64),Mm 8 u32,Mi 16,.a u32],[],yV⟩ [⟨.exit 0,⟨[.s 0 (.sub 0 u32),Mm 7 (.int .u64),Mm 8 u32,.a u32],[],yV⟩⟩] λp s=>gK p.1 p.2.1 p.2.2.1 p.2.2.2 s
def I5:zS:=Lz [] [Mm 1 (.sl u32),Mm 62 (.sl u32),Mi 63] ⟨[.s 0 (.sub 0 u32),Mm 11 u32,Mi 64,.a u32],[],yV⟩ [⟨.exit 2,⟨[.s 0 (.sub 0 u32),Mm 11 u32,.a u32],[],yV⟩⟩] λp s=>gf p.1 p.2.1 p.2.2 s
def z89:Hints:=Hz [(0,Ik),(2,I5)] [] []
theorem z2o:LO Tryz.f235 Ik 0:=lk t64 rn z89 [] zl
theorem z2u:LO Tryz.f235 I5 2:=lk t64 rn z89 [] zl
theorem zau:xU Pz 235 ⟨[.sub,.any,.any],⟨[.s 0 (.sub 0 u32),Mm 1 (.sl u32),Mm 2 (.int .u64),.a u32],[],yV⟩,[],⟨[Mb 0,.a u32],[],yV⟩,1,λx=>fY x.1 x.2.1 x.2.2.1 x.2.2.2⟩:=Yz t64 rn z89 Tryz.func235 [0,2] (zZ rfl z2o (zZ rfl z2u zl))
def t65:=t64.s zau
def YZ:zS:=Lz [] [Mm 1 (.int .u64),Mi 2,Mm 13 (.sl u32),Mi 14] z4Y [z00] λp s=>bX p.1 p.2.1 p.2.2.1 p.2.2.2 s
def Tz:Hints:=Hz [(0,YZ)] [] []
theorem Ow:LO Tryz.f233 YZ 0:=lk t65 rn Tz [] zl
theorem LI:zD Pz 233 ⟨[.ty (.sl u32),.ty (.int .u64),.ty i64],[(.sl u32)],λx=>ZX x.1 x.2.1 x.2.2⟩:=xy t65 rn Tz Tryz.func233 [0] (zZ rfl Ow zl)
def t66:=t65.d LI
def zbf:Tb:=t66.d LI
def Lu:zS:=Lz [] [Mm 6 (.int .u64),Mm 38 (.sl u32),Mi 39] ⟨[Mi 40,.a u32],[(7,.cur 0 u32)],yV⟩ [z00] λp s=>gF p.1 p.2.1 p.2.2 s
def zcL:Hints:=Hz [(0,Lu)] [] [(17,[7]),(21,[12])]
theorem z3i:LO Tryz.f236 Lu 0:=lk zbf rn zcL [] zl
theorem zb3:zD Pz 236 ⟨[.ty (.sl u32),.ty i64],[(.sl u32)],λx=>bq x.1 x.2⟩:=xy zbf rn zcL Tryz.func236 [0] (zZ rfl z3i zl)
def t67:=t66.d zb3
def zc7:Tb:=t67.s z4j
def M9:zS:=Lz [] [Mm 6 (.int .u64),Mm 8 (.sl u32),Mi 9] ⟨[Mi 10,.a u32,.a u32],[(4,.cur 2 u32),(7,.cur 0 u32)],[.arr u32,.dead,.arr u32]⟩ [⟨.exit 0,⟨[.a u32,.a u32],[(4,.cur 2 u32),(7,.cur 0 u32)],[.arr u32,.dead,.arr u32]⟩⟩] λp s=>cu p.1 p.2.1 p.2.2 s
def zaj:Hints:=Hz [(0,M9)] [(3,9,.ways [⟨.normal,⟨[Mm 11 (.int .u64),.a u32,.a u32],[(4,.cur 2 u32),(7,.cur 0 u32)],[.arr u32,.dead,.arr u32]⟩⟩])] [(5,[8]),(12,[4,7])]
theorem z3h:LO Tryz.f209 M9 0:=lk zc7 rn zaj [] zl
theorem zbZ:zD Pz 209 ⟨[.ty (.sl u32),.ty (.sl u32)],[(.sl u32),(.sl u32)],λx=>Q8 x.1 x.2⟩:=xy zc7 rn zaj Tryz.func209 [0] (zZ rfl z3h zl)
def t68:=t67.d zbZ
theorem zaN:zD Pz 180 ⟨[.ty (.sl u32),.ty (.sl u32)],[(.sl u32),(.sl u32),.bool],λx=>ym x.1 x.2⟩:=xy t68 rn hN Tryz.func180 [] zl
def t69:=t68.d zaN
def LQ:zS:=Lz [] [] ⟨[Mm 0 (.sl u32),Mm 1 (.sl u32)],[],[]⟩ [⟨.exit 0,SA⟩] λp s=>eT  s
def zaG:Hints:=Hz [(0,LQ)] [] []
theorem z4c:LO Tryz.f145 LQ 0:=lk t69 rn zaG [] zl
theorem zav:zD Pz 145 ⟨[.ty (.sl u32),.ty (.sl u32)],[(.sl u32)],λx=>ZA x.1 x.2⟩:=xy t69 rn zaG Tryz.func145 [0] (zZ rfl z4c zl)
def t70:=t69.d zav
def h90:Hints:=Hz [] [(0,1,.ways [⟨.normal,⟨[Mb 28],[],[]⟩⟩])] []
theorem zfM:zD Pz 90 ⟨[.ty vc],[.bool],λx=>tB x⟩:=xy t70 (rz [1]) h90 Tryz.func90 [] zl
def t71:=t70.d zfM
def zel:Hints:=Hz [] [(0,2,.flat [Mb 19])] []
theorem z9N:zD Pz 149 ⟨[.ty .bool,.ty (.sl u32),.ty (.sl u32)],[vc],λx=>lT x.1 x.2.1 x.2.2⟩:=xy t71 rn zel Tryz.func149 [] zl
def t72:=t71.d z9N
theorem z8W:zD Pz 100 ⟨[.ty vc],[vc],λx=>eZ x⟩:=xy t72 (rz [1]) hN Tryz.func100 [] zl
def t73:=t72.d z8W
def h91:Hints:=Hz [] [(0,2,.flat [Mb 2])] []
theorem zgV:zD Pz 91 ⟨[.ty vc],[.bool],λx=>dz x⟩:=xy t73 rn h91 Tryz.func91 [] zl
def t74:=t73.d zgV
theorem zeC:zD Pz 89 ⟨[.ty zM],[.bool],λx=>vF x⟩:=xy t74 (rz [1]) hN Tryz.func89 [] zl
def t75:=t74.d zeC
def Lg:zS:=Lz [] [Mm 0 (.sl zM),.s 1 (.qW 89 []),Mi 7] UZ [bc,JC] λp s=>qU p.1 (λz0=>vF z0) p.2.2 s
def zcm:Hints:=Hz [(0,Lg)] [] []
theorem z1L:LO Tryz.f143 Lg 0:=lk t75 rn zcm [] zl
theorem zdi:zD Pz 143 ⟨[.ty (.sl zM),.qW 89 []],[i64],λx=>wb x.1 (λz0=>vF z0)⟩:=xy t75 rn zcm Tryz.func143 [0] (zZ rfl z1L zl)
def t76:=t75.d zdi
theorem zfp:zD Pz 88 ⟨[.ty (.sl zM),.qW 89 []],[.bool],λx=>qV x.1 (λz0=>vF z0)⟩:=xy t76 rn hN Tryz.func88 [] zl
def t77:=t76.d zfp
theorem zep:zD Pz 94 ⟨[.ty .str],[.bool],λx=>kc x⟩:=xy t77 rn hN Tryz.func94 [] zl
def t78:=t77.d zep
theorem ze8:zD Pz 93 ⟨[.ty zY],[.bool],λx=>vB x⟩:=xy t78 (rz [1]) hN Tryz.func93 [] zl
def t79:=t78.d ze8
def L0:zS:=Lz [] [Mm 0 (.sl zY),.s 1 (.qW 93 []),Mi 7] UZ [bc,JC] λp s=>xe p.1 (λz0=>vB z0) p.2.2 s
def zag:Hints:=Hz [(0,L0)] [] []
theorem z45:LO Tryz.f146 L0 0:=lk t79 rn zag [] zl
theorem zaZ:zD Pz 146 ⟨[.ty (.sl zY),.qW 93 []],[i64],λx=>wG x.1 (λz0=>vB z0)⟩:=xy t79 rn zag Tryz.func146 [0] (zZ rfl z45 zl)
def t80:=t79.d zaZ
theorem zg0:zD Pz 92 ⟨[.ty (.sl zY),.qW 93 []],[.bool],λx=>xc x.1 (λz0=>vB z0)⟩:=xy t80 rn hN Tryz.func92 [] zl
def t81:=t80.d zg0
theorem zeX:zD Pz 37 ⟨[.ty qc],[.bool],λx=>fU x⟩:=xy t81 (rz [1]) hN Tryz.func37 [] zl
def t82:=t81.d zeX
def h95:Hints:=Hz [] [(0,1,.flat [Mb 6])] []
theorem zeg:zD Pz 95 ⟨[.ty i64,.ty i64,.ty i64],[.bool],λx=>gO x.1 x.2.1 x.2.2⟩:=xy t82 rn h95 Tryz.func95 [] zl
def t83:=t82.d zeg
def Sj:zS:=Lz [] [Mr 1 qc,Mm 7 (.sl zN),Mi 8] Px [bc,sC] λp s=>uS p.1 p.2.1 p.2.2 s
def h38:Hints:=Hz [(0,Sj)] [(0,5,.ways [⟨.normal,⟨[Mb 36,.v (.zI zN)],[],[.var (.zI zN)]⟩⟩])] []
theorem z7P:LO Tryz.f38 Sj 0:=lk t83 (rz [1]) h38 [] zl
theorem zeh:zD Pz 38 ⟨[.ty qc],[.bool],λx=>cX x⟩:=xy t83 (rz [1]) h38 Tryz.func38 [0] (zZ rfl z7P zl)
def t84:=t83.d zeh
theorem zfj:zD Pz 96 ⟨[],[(.sl .str)],λ_=>wP⟩:=xy t84 rn hN Tryz.func96 [] zl
def t85:=t84.d zfj
def zh2:Hints:=Hz [] [(3,2,.flat [Mb 4])] []
theorem zcI:zD Pz 210 ⟨[.ty i64],[i64],λx=>rh x⟩:=xy t85 rn zh2 Tryz.func210 [] zl
def t86:=t85.d zcI
def Iu:zS:=Lz [] [Mm 1 (.sl u32),Mi 6,Mm 7 u32,Mm 21 (.sl u32),Mi 22,Mi 23,Mm 28 (.sl u32),Mi 29] ⟨[Mm 8 (.int .u64),Mi 30,.a u32],[(5,.cur 0 u32)],yV⟩ [⟨.exit 2,⟨[Mm 8 (.int .u64),.a u32],[(5,.cur 0 u32)],yV⟩⟩] λp s=>mL p.1 p.2.1 p.2.2.1 p.2.2.2.1 p.2.2.2.2.1 p.2.2.2.2.2.1 p.2.2.2.2.2.2.1 p.2.2.2.2.2.2.2 s
def Mo:zS:=Lz [] [Mm 1 (.sl u32),Mm 21 (.sl u32),Mi 22] ⟨[Mi 23,.a u32],[(5,.cur 0 u32)],yV⟩ [Rk] λp s=>lY p.1 p.2.1 p.2.2 s
def z6e:Hints:=Hz [(2,Iu),(0,Mo)] [] [(16,[5])]
theorem z0S:LO Tryz.f198 Iu 2:=lk t86 rn z6e [] zl
theorem z0X:LO Tryz.f198 Mo 0:=lk t86 rn z6e [2] (zZ rfl z0S zl)
theorem zca:zD Pz 198 ⟨[.ty (.sl u32),.ty (.sl u32)],[(.sl u32)],λx=>rX x.1 x.2⟩:=xy t86 rn z6e Tryz.func198 [0] (zZ rfl z0X zl)
def t87:=t86.d zca
def IX:zS:=Lz [] [Mi 5] ⟨[Mm 3 (.sl u32),Mi 6],[],[]⟩ [⟨.exit 0,⟨[Mm 3 (.sl u32)],[],[]⟩⟩] λp s=>eH p s
def zcH:Hints:=Hz [(0,IX)] [] []
theorem z1x:LO Tryz.f161 IX 0:=lk t87 rn zcH [] zl
theorem z94:zD Pz 161 ⟨[.ty i64],[(.sl u32)],λx=>pR x⟩:=xy t87 rn zcH Tryz.func161 [0] (zZ rfl z1x zl)
def t88:=t87.d z94
theorem z9Q:zD Pz 134 ⟨[.ty vc],[.str],λx=>oh x⟩:=xy t88 (rz [1]) hN Tryz.func134 [] zl
def t89:=t88.d z9Q
def ID:zS:=Lz [] [] ⟨[.s 0 (.sub 0 (.int .u8)),Mi 2,Mi 3,.a (.int .u8)],[],U6⟩ [⟨.exit 0,z4Z⟩] λp s=>xQ  s
def zce:Hints:=Hz [(0,ID)] [] []
theorem z3D:LO Tryz.f175 ID 0:=lk t89 rn zce [] zl
theorem zbh:xU Pz 175 ⟨[.sub],⟨[.s 0 (.sub 0 (.int .u8)),.a (.int .u8)],[],U6⟩,[],z4Z,0,λx=>wE x.1 x.2⟩:=Yz t89 rn zce Tryz.func175 [0] (zZ rfl z3D zl)
def t90:=t89.s zbh
def LB:zS:=Lz [] [Mm 4 (.sl u32)] ⟨[Mm 5 u32,Mi 19,.a (.int .u8)],[(3,.cur 0 (.int .u8))],U6⟩ [⟨.exit 2,z5s⟩] λp s=>gP p s
def I9:zS:=Lz [.slot 3 (.int .u8)] [] ⟨[Mm 0 (.sl u32),.a (.int .u8)],[(3,.cur 0 (.int .u8))],U6⟩ [⟨.exit 0,z5s⟩] λp s=>gj  s
def IC:zS:=Lz [] [] z4s [⟨.exit 4,z4s⟩] λp s=>hO  s
def z3Z:Hints:=Hz [(2,LB),(0,I9),(4,IC)] [(0,13,.flat [Mb 42])] []
theorem z0T:LO Tryz.f135 LB 2:=lk t90 rn z3Z [] zl
theorem z25:LO Tryz.f135 I9 0:=lk t90 rn z3Z [2] (zZ rfl z0T zl)
theorem z2X:LO Tryz.f135 IC 4:=lk t90 rn z3Z [] zl
theorem zbW:zD Pz 135 ⟨[.ty (.sl u32)],[.str],λx=>dA x⟩:=xy t90 rn z3Z Tryz.func135 [0,4] (zZ rfl z25 (zZ rfl z2X zl))
def t91:=t90.d zbW
theorem zbr:zD Tryz.prog 246 ⟨[.ty .str,.ty i64],[.str],λx=>strings_Repeat x.1 x.2⟩:=by
 refine vn Tryz.func246 (by kernel_rfl) rfl λκ x zx y hy hI ha => ?_
 obtain⟨s,n⟩:=x
 obtain⟨⟨h0,h1,h2⟩,hy⟩:=hy
 cases hy
 obtain⟨v0,r,rfl,KR,ha⟩:=qD.cons_inv (show qD κ [.zI .str s,.zI i64 n] zx from ha)
 obtain⟨v1,r,rfl,Ft,ha⟩:=ha.cons_inv
 rw[ha.qg,KR.wC,Ft.yk]
 obtain⟨m,rfl⟩:=Int.eq_ofNat_of_zero_le h0
 refine(Go.Proofs.Tryz.strings_Repeat ⟨s.toArray⟩ m κ.w (by simp only at h1; omega) (by rw[show(ByteArray.size ⟨s.toArray⟩)=List.length s from List.size_toArray]; simpa using h2)).mono ?_
 rintro e w' ⟨rfl,hB⟩
 refine⟨hB,λ_=>⟨_,rfl,?_⟩⟩
 have e1:Lib.repeatL s m=jV s m:=MF s m
 have e2:(Int.toNat (m:Int))=m:=by omega
 show RD _ (.zI .str (jV s (Int.toNat (m:Int)))) _
 rw[e2,<- e1]
 exact RD.str
def t92:=t91.d zbr
theorem z8T:zD Pz 231 ⟨[.ty .str,.ty i64],[.str],λx=>fD x.1 x.2⟩:=xy t92 rn hN Tryz.func231 [] zl
def t93:=t92.d z8T
def Mx:zS:=Lz [] [] ⟨[Mi 10,.v (.zI vc)],[(1,.ptr 0 0)],[.var (.zI vc)]⟩ [z4P,z4Q] λp s=>k8  s
def z9M:Hints:=Hz [(0,Mx)] [] []
theorem z18:LO Tryz.f206 Mx 0:=lk t93 rn z9M [] zl
theorem z9r:zD Pz 206 ⟨[.ty vc],[.str,.bool],λx=>iN x⟩:=xy t93 rn z9M Tryz.func206 [0] (zZ rfl z18 zl)
def t94:=t93.d z9r
def zew:Hints:=Hz [] [(0,1,.ways [⟨.normal,⟨[Mb 15],[],[]⟩⟩])] []
theorem zbS:zD Pz 211 ⟨[.ty vc],[.bool],λx=>mW x⟩:=xy t94 (rz [1]) zew Tryz.func211 [] zl
def t95:=t94.d zbS
theorem zbc:zD Pz 212 ⟨[.ty vc],[.bool],λx=>cq x⟩:=xy t95 (rz [1]) hN Tryz.func212 [] zl
def t96:=t95.d zbc
theorem za3:zD Pz 181 ⟨[.ty .expr],[.bool],λx=>yL x⟩:=xy t96 (rz [1]) hN Tryz.func181 [] zl
def t97:=t96.d za3
abbrev JT:=vO.den Mg->T (vO.den Ln)
abbrev NJ(F:JT):=xU Pz 147 ⟨Mv,Mg,[],Ln,1,F⟩
theorem zcs(vA:JT)(fA:NJ vA):xU Pz 183 ⟨Mv,⟨[Mm 0 .expr,Mr 1 i64,.v (.zI i64)],[(2,.ptr 0 0)],[.cvar (.ptr 1 0),.var (.zI i64)]⟩,[],z4U,1,λx=>j3 (λy0 y1 y2=>vA (y0,y1,y2)) x.1 x.2.1 x.2.2⟩:=Yz (t97.s fA) (rz [3]) hN Tryz.func183 [] zl
def zaz(vA:JT)(fA:NJ vA):Tb:=t97.s (zcs _ fA)
def M1(vA:JT):zS:=Lz [] [Mm 0 (.sl .expr),Mi 7] ⟨[.s 1 (.mclo 183 [.rp i64,.pt 0]),Mi 8,.v (.zI i64)],[],[.cvar (.ptr 1 0),.var (.zI i64)]⟩ [⟨.exit 0,⟨[.v (.zI i64)],[],[.cvar (.ptr 1 0),.var (.zI i64)]⟩⟩,⟨.ret,⟨[Mi 4,.v (.zI i64)],[],[.cvar (.ptr 1 0),.var (.zI i64)]⟩⟩] λp s=>zB (λy0 y1 y2=>vA (y0,y1,y2)) p.1 p.2 s
def zai(vA:JT):Hints:=Hz [(0,M1 vA)] [] []
theorem z3u(vA:JT)(fA:NJ vA):LO Tryz.f213 (M1 vA) 0:=lk (zaz vA fA) rn (zai vA) [] zl
theorem za2(vA:JT)(fA:NJ vA):xU Pz 213 ⟨[.any,.qW 183],z4E,[],⟨[Mi 0,.v (.zI i64)],[],[.cvar (.ptr 1 0),.var (.zI i64)]⟩,1,λx=>qC (λy0 y1 y2=>vA (y0,y1,y2)) x.1 x.2.1 x.2.2⟩:=Yz (zaz vA fA) rn (zai vA) Tryz.func213 [0] (zZ rfl (z3u vA fA) zl)
theorem zc9(vA:JT)(fA:NJ vA):xU Pz 182 ⟨[.any,.qW 183],z4E,[],z4U,1,λx=>q7 (λy0 y1 y2=>vA (y0,y1,y2)) x.1 x.2.1 x.2.2⟩:=Yz (t97.s (za2 _ fA)) rn hN Tryz.func182 [] zl
def zfX(vA:JT):Hints:=Hz [] [(0,2,.ways [⟨.normal,⟨[Mb 24,.v (.zI i64)],[],[.var (.zI i64),.cvar (.ptr 0 0)]⟩⟩])] []
theorem z34(vA:JT)(fA:NJ vA):xU Pz 147 ⟨Mv,Mg,[],Ln,1,λx=>gx (λy0 y1 y2=>vA (y0,y1,y2)) x.1 x.2.1 x.2.2⟩:=Yz (t97.s (zc9 _ fA)) (rz [3,4]) (zfX vA) Tryz.func147 [] zl
theorem zaw:xU Pz 147 ⟨Mv,Mg,[],Ln,1,λx=>jY x.1 x.2.1 x.2.2⟩:=z1F (λvA x=>gx (λy0 y1 y2=>vA (y0,y1,y2)) x.1 x.2.1 x.2.2) (λx=>rfl) (λvA fA=>z34 vA fA)
def t98:=t97.s zaw
theorem zh7:zD Pz 97 ⟨[.ty .expr],[.bool],λx=>uv x⟩:=xy t98 (rz [1]) hN Tryz.func97 [] zl
def t99:=t98.d zh7
theorem zgn:zD Pz 81 ⟨[],[(.sl .str)],λ_=>xI⟩:=xy t99 rn hN Tryz.func81 [] zl
def t100:=t99.d zgn
theorem zf9:zD Pz 99 ⟨[.ty q9],[.bool],λx=>wa x⟩:=xy t100 (rz [1]) hN Tryz.func99 [] zl
def t101:=t100.d zf9
def Ls:zS:=Lz [] [Mm 0 (.sl q9),.s 1 (.qW 99 []),Mi 7] UZ [bc,JC] λp s=>xg p.1 (λz0=>wa z0) p.2.2 s
def zcJ:Hints:=Hz [(0,Ls)] [] []
theorem z2F:LO Tryz.f148 Ls 0:=lk t101 rn zcJ [] zl
theorem zbP:zD Pz 148 ⟨[.ty (.sl q9),.qW 99 []],[i64],λx=>wD x.1 (λz0=>wa z0)⟩:=xy t101 rn zcJ Tryz.func148 [0] (zZ rfl z2F zl)
def t102:=t101.d zbP
theorem zg4:zD Pz 98 ⟨[.ty (.sl q9),.qW 99 []],[.bool],λx=>xd x.1 (λz0=>wa z0)⟩:=xy t102 rn hN Tryz.func98 [] zl
def t103:=t102.d zg4
def Sx:zS:=Lz [] [Mr 1 qc,Mm 7 (.sl zT),Mi 8] Px [bc,sC] λp s=>uT p.1 p.2.1 p.2.2 s
def h39:Hints:=Hz [(0,Sx)] [(0,5,.ways [⟨.normal,⟨[Mb 50,.v (.zI zT)],[],[.var (.zI zT)]⟩⟩])] []
theorem z6z:LO Tryz.f39 Sx 0:=lk t103 (rz [1]) h39 [] zl
theorem zeV:zD Pz 39 ⟨[.ty qc],[.bool],λx=>cO x⟩:=xy t103 (rz [1]) h39 Tryz.func39 [0] (zZ rfl z6z zl)
def t104:=t103.d zeV
end Go.AM.Lf
namespace Go.Proofs
section
open Go.RowKit
attribute [local go_sem] Oper.semAt_some
set_option maxRecDepth 100000
set_option maxHeartbeats 2000000
theorem oJ.size:(Tryz.prog.info? 111).map (·.size)=some 2:=by kernel_rfl
theorem oJ.pt:Tryz.prog.underlying 109=some (.pointer 111):=by kernel_rfl
theorem oJ.up:Tryz.prog.underlying 191=some .unsafePointer:=by kernel_rfl
theorem oJ.used(b:Nat)(w:World)(h0:w.cell? ⟨b,0,none⟩=some (.pointer (some ⟨b,0,none⟩))) :
  Calls Tryz.prog 133 #[.pointer (some ⟨b,0,none⟩)] w λe w'=>e=.returned (.tuple #[])/\w'=w:=by
 obtain⟨j,hj,hjs⟩:=Option.map_eq_some_iff.1 oJ.size
 go_enter Tryz.func133,Tryz.ntmps133
 go_wp2
 rw[Lib.run_neq_ptr_same w _ oJ.pt hj]
 go_wp2
 go_end0
 exact⟨rfl,rfl⟩
theorem oJ.fresh(b:Nat)(w:World)(h0:w.cell? ⟨b,0,none⟩=some (.pointer none))(hsh:w.shape? b=some (111,2))(hfz:w.frozen? ⟨b,0,none⟩=false) :
  Calls Tryz.prog 133 #[.pointer (some ⟨b,0,none⟩)] w λe w'=>e=.returned (.tuple #[])/\w'=w.setCell ⟨b,0,none⟩ (.pointer (some ⟨b,0,none⟩)):=by
 obtain⟨j,hj,hjs⟩:=Option.map_eq_some_iff.1 oJ.size
 go_enter Tryz.func133,Tryz.ntmps133
 go_wp2
 rw[Lib.run_to_unsafe w ⟨b,0,none⟩ oJ.pt oJ.up hj (by rw[hjs]; decide) hsh (Nat.zero_lt_succ 1)]
 simp only[Result.andThen]
 rw[Oper.upon_value]
 go_wp2
 rw[run_callFunc_extern Tryz.func172 (by kernel_rfl) (by kernel_rfl) (by kernel_rfl) (e:=Extern.AbiNoEscape.same) (by kernel_rfl)]
 rw[Lib.run_noEscape]
 simp only[Result.andThen]
 rw[Oper.upon_value]
 go_wp2
 rw[Lib.run_from_unsafe w ⟨b,0,none⟩ oJ.up oJ.pt hj hsh (by kernel_rfl)]
 simp only[Result.andThen]
 rw[Oper.upon_value]
 go_wp2
 go_end0
 exact⟨rfl,rfl⟩
end
end Go.Proofs

namespace Go.AM.Lf
open Go.Proofs
theorem z9g:xU Tryz.prog 133 ⟨[.ptr],z5A,[],XM,0,λx=>iw x.1 x.2⟩:=GB (P:=Tryz.prog) (g:=133) (t:=111) (enters_of Tryz.func133 (by kernel_rfl) rfl) oJ.used oJ.fresh
def t105:=t104.s z9g
theorem zgr:xU Pz 78 ⟨Jm,⟨[Ms 1,.v Wx,.a (.int .u8)],[(0,.ptr 0 0)],UP⟩,[.pcell 0 1 (.int .u8)],⟨[Mi 0,.v Wx,.a (.int .u8)],[(1,.qT)],UP⟩,2,λx=>q8 x.1 x.2.1 x.2.2⟩:=Yz t105 rn hN Tryz.func78 [] zl
def t106:=t105.s zgr
theorem zfS:zD Pz 79 ⟨[.ty vc],[.str],λx=>lI x⟩:=xy t106 rn hN Tryz.func79 [] zl
def t107:=t106.d zfS
theorem ze6:zD Pz 82 ⟨[.ty .str],[.str],λx=>ez x⟩:=xy t107 rn hN Tryz.func82 [] zl
def t108:=t107.d ze6
theorem zae:zD Tryz.prog 177 ⟨[.ty i64],[.str],λx=>strconv_Itoa x⟩:=by
 refine vn Tryz.func177 (by kernel_rfl) rfl λκ n zx y hy hI ha => ?_
 obtain⟨⟨h0,h1⟩,hy⟩:=hy
 cases hy
 obtain⟨v0,r,rfl,KR,ha⟩:=qD.cons_inv (show qD κ [.zI i64 n] zx from ha)
 rw[ha.qg,KR.yk]
 refine(Go.Proofs.Tryz.strconv_Itoa n h0 h1 κ.w (yW hI)).mono ?_
 rintro e w' ⟨rfl,k,os,rfl⟩
 refine⟨DL _ _ _,λ_=>⟨_,rfl,?_⟩⟩
 have e1:Lib.itoa n=en n:=z0i n
 show RD _ (.zI .str (en n)) _
 rw[<- e1]
 exact RD.str
def t109:=t108.d zae
def zg1:Hints:=Hz [] [(3,2,.flat [Ms 3])] []
theorem zcU:zD Pz 138 ⟨[.ty zN],[.str],λx=>il x⟩:=xy t109 (rz [1]) zg1 Tryz.func138 [] zl
def t110:=t109.d zcU
def zhm:Hints:=Hz [] [(3,2,.flat [Mb 5]),(3,5,.flat [Mb 8])] []
theorem z9Z:zD Pz 208 ⟨[.ty .expr],[i64],λx=>bj x⟩:=xy t110 (rz [1]) zhm Tryz.func208 [] zl
def t111:=t110.d z9Z
abbrev z1w:=jv [.ty .expr]->T (Hw [.str])
abbrev zby(F:z1w):=zD Pz 178 ⟨[.ty .expr],[.str],F⟩
theorem zbB(nW:z1w)(CK:zby nW):zD Pz 207 ⟨[.ty .expr,.ty i64],[.str],λx=>yJ (λy0=>nW (y0)) x.1 x.2⟩:=xy (t111.d CK) (rz [2]) hN Tryz.func207 [] zl
def zen(nW:z1w):Hints:=Hz [] [(3,2,.ways [⟨.normal,J8⟩,⟨.ret,⟨[Ms 2],[],[]⟩⟩])] []
theorem z14(nW:z1w)(CK:zby nW):zD Pz 178 ⟨[.ty .expr],[.str],λx=>cS (λy0=>nW (y0)) x⟩:=xy (t111.d (zbB _ CK)) (rz [1]) (zen nW) Tryz.func178 [] zl
theorem za9:zD Pz 178 ⟨[.ty .expr],[.str],λx=>ni x⟩:=QK (λnW x=>cS (λy0=>nW (y0)) x) (λx=>rfl) (λnW CK=>z14 nW CK)
def t112:=t111.d za9
theorem z98:zD Pz 139 ⟨[.ty .expr],[.str],λx=>dU x⟩:=xy t112 (rz [1]) hN Tryz.func139 [] zl
def t113:=t112.d z98
theorem zhl:zD Pz 83 ⟨[.ty .expr,.ty .str,.ty .expr],[.str],λx=>bY x.1 x.2.1 x.2.2⟩:=xy t113 (rz [3,5]) hN Tryz.func83 [] zl
def t114:=t113.d zhl
def Ru:zS:=Lz [] [Mi 2,Mr 4 qc,Mm 29 (.sl zN),Mi 30] ⟨[Mi 31,.v Wx,.a (.int .u8)],[(0,.ptr 0 0)],UP⟩ [⟨.exit 0,XM⟩] λp s=>uY p.1 p.2.1 p.2.2.1 p.2.2.2 s
def Rb:zS:=Lz [] [Mi 2,Mm 45 (.sl zT),Mi 46] ⟨[Mi 47,.v Wx,.a (.int .u8)],[(0,.ptr 0 0)],UP⟩ [⟨.exit 2,XM⟩] λp s=>uZ p.1 p.2.1 p.2.2 s
def h80:Hints:=Hz [(0,Ru),(2,Rb)] [] []
theorem z5X:LO Tryz.f80 Ru 0:=lk t114 (rz [4]) h80 [] zl
theorem z6S:LO Tryz.f80 Rb 2:=lk t114 (rz [4]) h80 [] zl
theorem zfO:xU Pz 80 ⟨MD,⟨[Mm 1 qc,Mi 2,.v Wx,.a (.int .u8)],[(0,.ptr 0 0)],UP⟩,[.pcell 0 1 (.int .u8)],XM,0,λx=>db x.1 x.2.1 x.2.2.1 x.2.2.2⟩:=Yz t114 (rz [4]) h80 Tryz.func80 [0,2] (zZ rfl z5X (zZ rfl z6S zl))
def t115:=t114.s zfO
end Go.AM.Lf
namespace Go.Proofs
section
open Go.RowKit
attribute [local go_sem] Oper.semAt_some
set_option maxRecDepth 100000
set_option maxHeartbeats 2000000
theorem oJ.mixed:Tryz.prog.follows .mixedOrders=true:=by kernel_rfl
theorem oJ.pb:Tryz.prog.underlying 161=some (.pointer 5):=by kernel_rfl
theorem oJ.c5:Tryz.prog.cellsOf 5=1:=by kernel_rfl
theorem oJ.TQ(W:World)(q:Option Addr):(Builtin.unsafeString_ #[161,3] 9 #[.pointer q,.int .i64 0]).run Tryz.prog W=.ok (.string .empty) W:=Lib.run_unsafeString_none W _ _ _ q
theorem oJ.nil(b:Nat)(p:Value)(w:World)(DE:w.heap[b]? = some (.cells #[p,.slice none 0 0] 111 (0,0))) :
  Calls Tryz.prog 84 #[.pointer (some ⟨b,0,none⟩)] w λe w'=>e=.returned (.string ⟨#[]⟩)/\w'=w.drew:=by
 have hUS:=oJ.TQ
 have c1:w.drew.cell? ⟨b,1,none⟩=some (.slice none 0 0):=by
  have:w.drew.heap[b]? = some (.cells #[p,.slice none 0 0] 111 (0,0)):=DE
  rw[Lib.cell_of_heap this]; rfl
 have hSD:(Builtin.unsafeSliceData_ #[77] 161 #[.slice none 0 0]).run Tryz.prog w.drew=.ok (.pointer none) w.drew:=rfl
 have mixed:Tryz.prog.follows .mixedOrders=true:=oJ.mixed
 go_enter Tryz.func84,Tryz.ntmps84
 go_wp2
 go_region_o
 all_goals (go_wp2; go_ret; exact⟨rfl,rfl⟩)
theorem oJ.room(b g o cap:Nat)(p:Value)(w:World)(hc0:cap≠0)(DE:w.heap[b]? = some (.cells #[p,.slice (some ⟨g,o,none⟩) 0 cap] 111 (0,0))) :
  Calls Tryz.prog 84 #[.pointer (some ⟨b,0,none⟩)] w λe w'=>e=.returned (.string ⟨#[]⟩)/\w'=w.drew:=by
 have hUS:=oJ.TQ
 have c1:w.drew.cell? ⟨b,1,none⟩=some (.slice (some ⟨g,o,none⟩) 0 cap):=by
  have:w.drew.heap[b]? = some (.cells #[p,.slice (some ⟨g,o,none⟩) 0 cap] 111 (0,0)):=DE
  rw[Lib.cell_of_heap this]; rfl
 have hSD:(Builtin.unsafeSliceData_ #[77] 161 #[.slice (some ⟨g,o,none⟩) 0 cap]).run Tryz.prog w.drew=.ok (.pointer (some ⟨g,o,none⟩)) w.drew :=
  Lib.run_unsafeSliceData_row _ _ _ _ _ _ hc0
 clear hc0
 have mixed:Tryz.prog.follows .mixedOrders=true:=oJ.mixed
 go_enter Tryz.func84,Tryz.ntmps84
 go_wp2
 go_region_o
 all_goals (go_wp2; go_ret; exact⟨rfl,rfl⟩)
theorem oJ.full(b g cap:Nat)(p:Value)(cur:Array Value)(l:List UInt8)(w:World)(h0:l≠[])(wY:l.length<=cap)(z3U:l.length<=140737488355328)(DE:w.heap[b]? = some (.cells #[p,.slice (some ⟨g,0,none⟩) l.length cap] 111 (0,0)))
  (hg:w.heap[g]? = some (.cells cur 5 (0,0))) (zks:l.length<=cur.size) (sN:∀ j x,l[j]? = some x->w.cell? ⟨g,j,none⟩=some (.int .u8 x.toNat)) :
  Calls Tryz.prog 84 #[.pointer (some ⟨b,0,none⟩)] w λe w'=>e=.returned (.string ⟨l.toArray⟩)/\w'=w.drew.freeze ⟨g,0,none⟩ l.length:=by
 have hl0:l.length≠0:=by simpa using h0
 have c1:w.drew.cell? ⟨b,1,none⟩=some (.slice (some ⟨g,0,none⟩) l.length cap):=by
  have:w.drew.heap[b]? = some (.cells #[p,.slice (some ⟨g,0,none⟩) l.length cap] 111 (0,0)):=DE
  rw[Lib.cell_of_heap this]; rfl
 have hSD:(Builtin.unsafeSliceData_ #[77] 161 #[.slice (some ⟨g,0,none⟩) l.length cap]).run Tryz.prog w.drew=.ok (.pointer (some ⟨g,0,none⟩)) w.drew :=
  Lib.run_unsafeSliceData_row _ _ _ _ _ _ (by omega)
 have hUS:(Builtin.unsafeString_ #[161,3] 9 #[.pointer (some ⟨g,0,none⟩),.int .i64 l.length]).run Tryz.prog w.drew=.ok (.string ⟨l.toArray⟩) (w.drew.freeze ⟨g,0,none⟩ l.length):=by
  refine Lib.run_unsafeString_row w.drew 161 3 9 5 oJ.pb oJ.c5 g cur.size (by have hg':w.drew.heap[g]? = some (.cells cur 5 (0,0)):=hg; simp[World.shape?,hg']) l h0 (by omega) (by omega) ?_
  intro j x hx
  have e:(⟨g,0,none⟩:Addr).add j=⟨g,j,none⟩:=by unfold Addr.add; split<;>simp_all
  rw[e]
  exact sN j x hx
 have mixed:Tryz.prog.follows .mixedOrders=true:=oJ.mixed
 go_enter Tryz.func84,Tryz.ntmps84
 go_wp2
 go_region_o
 all_goals (go_wp2; go_ret; exact⟨rfl,rfl⟩)
theorem oJ.z7F(b g o:Nat)(p:Value)(cur:Array Value)(w:World)(DE:w.heap[b]? = some (.cells #[p,.slice (some ⟨g,o,none⟩) 0 0] 111 (0,0)))(hg:w.heap[g]? = some (.cells cur 5 (0,0))) :
  Calls Tryz.prog 84 #[.pointer (some ⟨b,0,none⟩)] w λe w'=>e=.returned (.string ⟨#[]⟩)/\w'=w.drew.alloc (.view ⟨g,o,none⟩ 5):=by
 have hUS:=oJ.TQ
 have qs:b<w.heap.size:=by
  rcases Nat.lt_or_ge b w.heap.size with h' | h'
  ·exact h'
  ·simp[Array.getElem?_eq_none h']at DE
 have c1:w.drew.cell? ⟨b,1,none⟩=some (.slice (some ⟨g,o,none⟩) 0 0):=by
  have:w.drew.heap[b]? = some (.cells #[p,.slice (some ⟨g,o,none⟩) 0 0] 111 (0,0)):=DE
  rw[Lib.cell_of_heap this]; rfl
 have hSD:(Builtin.unsafeSliceData_ #[77] 161 #[.slice (some ⟨g,o,none⟩) 0 0]).run Tryz.prog w.drew=.ok (.pointer (some ⟨w.drew.heap.size,0,none⟩)) (w.drew.alloc (.view ⟨g,o,none⟩ 5)) :=
  Lib.run_unsafeSliceData_zero w.drew _ _ 5 oJ.pb ⟨g,o,none⟩ 0 (5,cur.size) (by have hg':w.drew.heap[g]? = some (.cells cur 5 (0,0)):=hg; simp[World.shape?,hg'])
 have c2:(w.drew.alloc (.view ⟨g,o,none⟩ 5)).cell? ⟨b,1,none⟩=some (.slice (some ⟨g,o,none⟩) 0 0):=by
  have:(w.drew.alloc (.view ⟨g,o,none⟩ 5)).heap[b]? = _:=(Lib.alloc_old w.drew _ b qs).trans DE
  rw[Lib.cell_of_heap this]; rfl
 have c3:(w.alloc (.view ⟨g,o,none⟩ 5)).drew.cell? ⟨b,1,none⟩=some (.slice (some ⟨g,o,none⟩) 0 0):=c2
 have c0:w.cell? ⟨b,1,none⟩=some (.slice (some ⟨g,o,none⟩) 0 0):=c1
 have mixed:Tryz.prog.follows .mixedOrders=true:=oJ.mixed
 go_enter Tryz.func84,Tryz.ntmps84
 go_wp2
 go_region_o
 all_goals (go_wp2; go_ret; exact⟨rfl,rfl⟩)
end
end Go.Proofs

namespace Go.AM.Lf
open Go.Proofs
theorem zeY:xU Tryz.prog 84 ⟨[.ptr],z5A,[],⟨[Ms 0,.v (.st [.op 0 111,.un])],[],[.var (.st [.op 0 111,.un]),.dead]⟩,1,λx=>ma x.1 x.2⟩:=NL (P:=Tryz.prog) (g:=84) (t:=111) (enters_of Tryz.func84 (by kernel_rfl) rfl) oJ.nil oJ.room oJ.full oJ.z7F
def t116:=t115.s zeY
def Tk:zS:=Lz [.cell 0 1 (.int .u8)] [Mr 1 qc,Mm 13 (.sl zw),Mi 14] ⟨[Mi 15,.v Wx,.a (.int .u8)],[(3,.ptr 0 0)],UP⟩ [⟨.exit 0,XM⟩] λp s=>jA p.1 p.2.1 p.2.2 s
def Tm:zS:=Lz [] [Mr 1 qc,Mm 29 (.sl zM),Mi 30] ⟨[Mi 31,.v Wx,.a (.int .u8)],[(3,.ptr 0 0)],UP⟩ [⟨.exit 2,XM⟩] λp s=>jN p.1 p.2.1 p.2.2 s
def Ry:zS:=Lz [] [Mr 1 qc,Mi 48] ⟨[Mi 49,.v Wx,.a (.int .u8)],[(3,.ptr 0 0)],UP⟩ [⟨.exit 4,XM⟩] λp s=>jM p.1 p.2 s
def TL:zS:=Lz [] [Mm 57 (.sl q9),Mi 58] ⟨[Mi 59,.v Wx,.a (.int .u8)],[(3,.ptr 0 0)],UP⟩ [⟨.exit 6,XM⟩] λp s=>jT p.1 p.2 s
def Tp:Hints:=Hz [(0,Tk),(2,Tm),(4,Ry),(6,TL)] [(3,6,.flat [Ms 6])] []
theorem z8o:LO Tryz.f36 Tk 0:=lk t116 (rz [1]) Tp [] zl
theorem z7j:LO Tryz.f36 Tm 2:=lk t116 (rz [1]) Tp [] zl
theorem z7Y:LO Tryz.f36 Ry 4:=lk t116 (rz [1]) Tp [] zl
theorem z86:LO Tryz.f36 TL 6:=lk t116 (rz [1]) Tp [] zl
theorem zh0:zD Pz 36 ⟨[.ty qc],[.str],λx=>c9 x⟩:=xy t116 (rz [1]) Tp Tryz.func36 [0,2,4,6] (zZ rfl z8o (zZ rfl z7j (zZ rfl z7Y (zZ rfl z86 zl))))
def t117:=t116.d zh0
theorem zg8:zD Pz 20 ⟨[.ty qc],[.bool],λx=>l8 x⟩:=xy t117 (rz [1]) hN Tryz.func20 [] zl
def t118:=t117.d zg8
theorem zhc:zD Pz 16 ⟨[.ty qc],[.str],λx=>uH x⟩:=xy t118 (rz [1]) hN Tryz.func16 [] zl
def t119:=t118.d zhc
theorem zfF:zD Tryz.prog 22 ⟨[.ty .str,.ty .str],[.sl .str],λx=>strings_Split x.1 x.2⟩:=by
 refine vn Tryz.func22 (by kernel_rfl) rfl λκ x zx y hy hI ha => ?_
 obtain⟨s,sep⟩:=x
 obtain⟨⟨h0,h1⟩,hy⟩:=hy
 cases hy
 obtain⟨v0,r,rfl,KR,ha⟩:=qD.cons_inv (show qD κ [.zI .str s,.zI .str sep] zx from ha)
 obtain⟨v1,r,rfl,Ft,ha⟩:=ha.cons_inv
 rw[ha.qg,KR.wC,Ft.wC]
 obtain⟨m,hm⟩:=wW hI
 refine(Go.Proofs.Tryz.strings_Split ⟨s.toArray⟩ ⟨sep.toArray⟩ m κ.w (by rw[show(ByteArray.size ⟨s.toArray⟩)=List.length s from List.size_toArray]; exact h0) hm (by rw[show(ByteArray.size ⟨sep.toArray⟩)=List.length sep from List.size_toArray]; simp only at h1; omega)).mono ?_
 rintro e w' ⟨rfl,rfl⟩
 refine⟨XQ _ _,λ_=>⟨_,rfl,?_⟩⟩
 exact RJ s sep h1 _
def t120:=t119.d zfF
theorem ze5:zD Tryz.prog 52 ⟨[.ty .str,.ty .str],[.str,.str,.bool],λx=>strings_Cut x.1 x.2⟩:=by
 refine vn Tryz.func52 (by kernel_rfl) rfl λκ x zx y hy hI ha => ?_
 obtain⟨s,sep⟩:=x
 obtain⟨h0,hy⟩:=hy
 cases hy
 obtain⟨v0,r,rfl,KR,ha⟩:=qD.cons_inv (show qD κ [.zI .str s,.zI .str sep] zx from ha)
 obtain⟨v1,r,rfl,Ft,ha⟩:=ha.cons_inv
 rw[ha.qg,KR.wC,Ft.wC]
 obtain⟨m,hm⟩:=wW hI
 refine(Go.Proofs.Tryz.strings_Cut ⟨s.toArray⟩ ⟨sep.toArray⟩ m κ.w (by rw[show(ByteArray.size ⟨s.toArray⟩)=List.length s from List.size_toArray]; exact h0) hm).mono ?_
 rintro e w' ⟨rfl,n,rfl⟩
 refine⟨below_drewN _ _,λ_=>⟨_,rfl,?_⟩⟩
 rw[show Lib.cut (⟨s.toArray⟩:ByteArray).data.toList (⟨sep.toArray⟩:ByteArray).data.toList=wU s sep from PY s sep]
 exact RD.zeS RD.str RD.str RD.bool
def t121:=t120.d ze5
theorem zbn:zD Pz 108 ⟨[.ty (.int .i32)],[.bool],λx=>gy x⟩:=xy t121 rn hN Tryz.func108 [] zl
def t122:=t121.d zbn
theorem z1g(w:World):Go.Proofs.PredAtRunes Tryz.prog 108 #[] (λn=>n==32) w:=λW x hx hb=>by
 show Calls Tryz.prog 108 #[.int .i32 (x:Int)] W _
 have hn:Tryz.f108.ntmps=5:=by kernel_rfl
 have hd:((x:Int)==32)=(x==32):=by rw[Bool.eq_iff_iff,beq_iff_eq,beq_iff_eq]; omega
 go_enter Tryz.func108,hn
 go_wp2
 go_ret
 exact⟨by rw[<- hd]; rfl,0,rfl⟩
theorem z9V:zD Tryz.prog 107 ⟨[.ty .str,.qW 108 []],[.sl .str],λx=>strings_FieldsFunc x.1 (λz0=>gy z0)⟩:=by
 refine vn Tryz.func107 (by kernel_rfl) rfl λκ x zx y hy hI ha => ?_
 obtain⟨s,c⟩:=x
 obtain⟨h0,hy⟩:=hy
 cases hy
 obtain⟨v0,r,rfl,KR,ha⟩:=qD.cons_inv (show qD κ [.zI .str s,.qW 108 []] zx from ha)
 obtain⟨v1,r,rfl,Ft,ha⟩:=ha.cons_inv
 rw[ha.qg,KR.wC,Ft.TA (by rfl)]
 refine(Go.Proofs.Tryz.strings_FieldsFunc_runes 108 #[] (λargs w=>nE Tryz.func108 (by kernel_rfl) rfl w) (λn=>n==32) ⟨s.toArray⟩ κ.w (by rw[show(ByteArray.size ⟨s.toArray⟩)=List.length s from List.size_toArray]; exact h0) (z1g κ.w)).mono ?_
 rintro e w' ⟨A,rfl,hA,ho,hB⟩
 refine⟨hB,λ_=>⟨_,rfl,?_⟩⟩
 exact NQ s ho
def t123:=t122.d z9V
theorem zfe:zD Pz 53 ⟨[.ty .str],[(.sl .str)],λx=>fV x⟩:=xy t123 rn hN Tryz.func53 [] zl
def t124:=t123.d zfe
theorem z9I:zD Tryz.prog 155 ⟨[.ty .str,.ty .str],[i64],λx=>strings_IndexAny x.1 x.2⟩:=by
 refine vn Tryz.func155 (by kernel_rfl) rfl λκ x zx y hy hI ha => ?_
 obtain⟨s,chars⟩:=x
 obtain⟨⟨h0,h1,h2,h3⟩,hy⟩:=hy
 cases hy
 obtain⟨v0,r,rfl,KR,ha⟩:=qD.cons_inv (show qD κ [.zI .str s,.zI .str chars] zx from ha)
 obtain⟨v1,r,rfl,Ft,ha⟩:=ha.cons_inv
 rw[ha.qg,KR.wC,Ft.wC]
 refine(Go.Proofs.Any.pe Go.Proofs.Tryz.lays153 (λ_=>by kernel_rfl) (by kernel_rfl) ⟨s.toArray⟩ ⟨chars.toArray⟩ κ.w (by rw[show(ByteArray.size ⟨chars.toArray⟩)=List.length chars from List.size_toArray]; exact h1) (by rw[show(ByteArray.size ⟨s.toArray⟩)=List.length s from List.size_toArray]; exact h0) (by rw[show(ByteArray.size ⟨chars.toArray⟩)=List.length chars from List.size_toArray]; exact h2) h3).mono ?_
 rintro e w' ⟨rfl,hB⟩
 refine⟨hB,λ_=>⟨_,rfl,?_⟩⟩
 have e1:Lib.indexAny s chars=hJ s chars:=YS chars s
 show RD _ (.zI i64 (hJ s chars)) _
 rw[<- e1]
 exact RD.int
def t125:=t124.d z9I
def zfV:Hints:=Hz [] [(0,1,.flat [Mb 4])] []
theorem zcG:zD Pz 193 ⟨[.ty .str,.ty .str],[.bool],λx=>xr x.1 x.2⟩:=xy t125 rn zfV Tryz.func193 [] zl
def t126:=t125.d zcG
theorem z9h:zD Pz 156 ⟨[.ty .str,.ty .str],[.bool],λx=>strings_HasPrefix x.1 x.2⟩:=xy t126 rn hN Tryz.func156 [] zl
def t127:=t126.d z9h
def Mu:zS:=Lz [] [] s9 [TM] λp s=>xO  s
def zbR:Hints:=Hz [(0,Mu)] [(0,0,.flat [Mb 23])] []
theorem z0Y:LO Tryz.f265 Mu 0:=lk t127 rn zbR [] zl
theorem z9F:xU Pz 265 ⟨[.ptr],s9,[],IM,0,λx=>ub x⟩:=Yz t127 rn zbR Tryz.func265 [0] (zZ rfl z0Y zl)
def t128:=t127.s z9F
theorem zck:zD Tryz.prog 216 ⟨[.ty .str,.ty (.int .u8)],[i64],λx=>strings_IndexByte x.1 x.2⟩:=by
 refine vn Tryz.func216 (by kernel_rfl) rfl λκ x zx y hy hI ha => ?_
 obtain⟨s,c⟩:=x
 cases hy
 obtain⟨v0,r,rfl,KR,ha⟩:=qD.cons_inv (show qD κ [.zI .str s,.zI (.int .u8) c] zx from ha)
 obtain⟨v1,r,rfl,Ft,ha⟩:=ha.cons_inv
 rw[ha.qg,KR.wC,Ft.yk]
 refine(Go.Proofs.Tryz.strings_IndexByte ⟨s.toArray⟩ c κ.w).mono ?_
 rintro e w' ⟨rfl,rfl⟩
 refine⟨tr _,λ_=>⟨_,rfl,?_⟩⟩
 have e1:Lib.indexByte s (byteOf c)=nS s (byteOf c):=z47 s (byteOf c)
 show RD _ (.zI i64 (nS s (byteOf c))) _
 rw[<- e1]
 exact RD.int
def t129:=t128.d zck
def zga:Hints:=Hz [] [(0,2,.ways [⟨.normal,⟨[Mb 30,.v (.zI zJ)],[],tn⟩⟩])] []
theorem zb2:xU Pz 250 ⟨Jm,⟨[Ms 1,.v (.zI zJ)],[(0,.ptr 0 0)],tn⟩,[],⟨[Mm 0 (.int .u8),.v (.zI zJ)],[],tn⟩,1,λx=>qX x.1 x.2⟩:=Yz t129 rn zga Tryz.func250 [] zl
def t130:=t129.s zb2
theorem zbQ:kF Pz 220 ⟨MD,⟨[Mi 1,Mi 2,.v (.zI zJ)],[(0,.ptr 0 0)],tn⟩,[],IM,0,226,ZE,λx=>xK x.1 x.2.1 x.2.2⟩:=fkp t130 rn hN Tryz.func220 [] zl
def t131:=t130.p zbQ
theorem z9P:kF Pz 266 ⟨[.ptr],s9,[],IM,0,226,ZE,λx=>wM x⟩:=fkp t131 rn hN Tryz.func266 [] zl
def t132:=t131.p z9P
def L1:zS:=Lz [] [.s 1 (.qW 179 []),Mi 2,Mi 7] s9 [TM] λp s=>qO (λz0=>xH z0) p.2.1 p.2.2 s
def zbm:Hints:=Hz [(0,L1)] [(0,2,.ways [z4r])] []
theorem z2n:LO Tryz.f268 L1 0:=lk t132 rn zbm [] zl
theorem zac:xU Pz 268 ⟨[.ptr,.qW 179,.any],⟨[.s 1 (.qW 179 []),Mi 2,.v (.zI zJ)],[(0,.ptr 0 0)],tn⟩,[],z4h,1,λx=>qY (λz0=>xH z0) x.2.1 x.2.2⟩:=Yz t132 rn zbm Tryz.func268 [0] (zZ rfl z2n zl)
def t133:=t132.s zac
theorem zbJ:zD Tryz.prog 159 ⟨[.ty .str,.ty .str],[.str,.bool],λx=>strings_CutPrefix x.1 x.2⟩:=by
 refine vn Tryz.func159 (by kernel_rfl) rfl λκ x zx y hy hI ha => ?_
 obtain⟨s,p⟩:=x
 cases hy
 obtain⟨v0,r,rfl,KR,ha⟩:=qD.cons_inv (show qD κ [.zI .str s,.zI .str p] zx from ha)
 obtain⟨v1,r,rfl,Ft,ha⟩:=ha.cons_inv
 rw[ha.qg,KR.wC,Ft.wC]
 refine(Go.Proofs.Tryz.strings_CutPrefix ⟨s.toArray⟩ ⟨p.toArray⟩ κ.w).mono ?_
 rintro e w' ⟨rfl,rfl⟩
 refine⟨tr _,λ_=>⟨_,rfl,?_⟩⟩
 exact RD.zbK RD.str RD.bool
def t134:=t133.d zbJ
def Ix:zS:=Lz [] [Mm 1 (.int .u8)] CA [Mf] λp s=>y3 p s
def z9G:Hints:=Hz [(0,Ix)] [(0,1,.flat [Mb 16])] []
theorem z4b:LO Tryz.f222 Ix 0:=lk t134 rn z9G [] zl
theorem zam:zD Pz 222 ⟨[.ty .str,.ty (.int .u8)],[.str],λx=>strings_trimRightByte x.1 x.2⟩:=xy t134 rn z9G Tryz.func222 [0] (zZ rfl z4b zl)
def t135:=t134.d zam
def IT:zS:=Lz [] [Mm 1 (.int .u8)] CA [Mf] λp s=>yG p s
def zct:Hints:=Hz [(0,IT)] [(0,1,.flat [Mb 13])] []
theorem z22:LO Tryz.f221 IT 0:=lk t135 rn zct [] zl
theorem z9v:zD Pz 221 ⟨[.ty .str,.ty (.int .u8)],[.str],λx=>strings_trimLeftByte x.1 x.2⟩:=xy t135 rn zct Tryz.func221 [0] (zZ rfl z22 zl)
def t136:=t135.d z9v
theorem zaF:zD Tryz.prog 191 ⟨[.ty .str],[(dc .bool 256),.bool],λx=>strings_makeASCIISet x⟩:=by
 refine vn Tryz.func191 (by kernel_rfl) rfl λκ s zx y hy hI ha => ?_
 obtain⟨⟨h0,h1⟩,hy⟩:=hy
 cases hy
 obtain⟨v0,r,rfl,KR,ha⟩:=qD.cons_inv (show qD κ [.zI .str s] zx from ha)
 rw[ha.qg,KR.wC]
 refine(Go.Proofs.Tryz.strings_makeASCIISet (λ_=>by kernel_rfl) ⟨s.toArray⟩ κ.w (by rw[show(ByteArray.size ⟨s.toArray⟩)=List.length s from List.size_toArray]; exact h0) (by simpa using h1)).mono ?_
 rintro e w' ⟨rfl,rfl⟩
 refine⟨XQ _ _,λ_=>⟨_,rfl,?_⟩⟩
 exact RD.zbK (RR s) RD.bool
def t137:=t136.d zaF
theorem zbs:zD Pz 192 ⟨[.rp (dc .bool 256),.ty (.int .u8)],[.bool],λx=>xz x.1 x.2⟩:=xy t137 rn hN Tryz.func192 [] zl
def t138:=t137.d zbs
def Mp:zS:=Lz [] [Mr 1 (dc .bool 256)] CA [Mf] λp s=>xx p s
def zat:Hints:=Hz [(0,Mp)] [] []
theorem z3v:LO Tryz.f224 Mp 0:=lk t138 rn zat [] zl
theorem zaW:zD Pz 224 ⟨[.ty .str,.rp (dc .bool 256)],[.str],λx=>vd x.1 x.2⟩:=xy t138 rn zat Tryz.func224 [0] (zZ rfl z3v zl)
def t139:=t138.d zaW
def L9:zS:=Lz [] [Mr 1 (dc .bool 256)] CA [Mf] λp s=>xF p s
def zcD:Hints:=Hz [(0,L9)] [] []
theorem z3e:LO Tryz.f223 L9 0:=lk t139 rn zcD [] zl
theorem zaM:zD Pz 223 ⟨[.ty .str,.rp (dc .bool 256)],[.str],λx=>vK x.1 x.2⟩:=xy t139 rn zcD Tryz.func223 [0] (zZ rfl z3e zl)
def t140:=t139.d zaM
def zeT:Hints:=Hz [] [(0,1,.flat [Mb 12]),(0,3,.flat [Mb 21])] []
theorem zcw:zD Pz 196 ⟨[.ty .str,.ty .str],[.str],λx=>ki x.1 x.2⟩:=xy t140 rn zeT Tryz.func196 [] zl
def t141:=t140.d zcw
def II:zS:=Lz [] [Mm 0 (.sl u32),Mm 1 (.sl u32),Mm 24 (.sl u32),Mi 25] ⟨[Mm 6 (.int .u64),Mi 26,.a u32],[(5,.cur 0 u32)],yV⟩ [⟨.exit 0,⟨[Mm 6 (.int .u64),.a u32],[(5,.cur 0 u32)],yV⟩⟩] λp s=>mz p.1 p.2.1 p.2.2.1 p.2.2.2 s
def za7:Hints:=Hz [(0,II)] [(3,2,.flat [Mm 0 (.sl u32),Mm 1 (.sl u32)]),(3,10,.flat [Mm 6 (.int .u64)])] [(16,[5])]
theorem z2y:LO Tryz.f197 II 0:=lk t141 rn za7 [] zl
theorem zaX:zD Pz 197 ⟨[.ty (.sl u32),.ty (.sl u32)],[(.sl u32)],λx=>WB x.1 x.2⟩:=xy t141 rn za7 Tryz.func197 [0] (zZ rfl z2y zl)
def t142:=t141.d zaX
def L4:zS:=Lz [] [Ms 0,Mi 19] ⟨[Mm 4 (.sl u32),Mi 20],[],[]⟩ [⟨.exit 0,⟨[Mm 4 (.sl u32)],[],[]⟩⟩] λp s=>gu p.1 p.2 s
def zah:Hints:=Hz [(0,L4)] [(0,1,.ways [z5g])] []
theorem z1f:LO Tryz.f160 L4 0:=lk t142 rn zah [] zl
theorem zdg:zD Pz 160 ⟨[.ty .str],[(.sl u32),.bool],λx=>vr x⟩:=xy t142 rn zah Tryz.func160 [0] (zZ rfl z1f zl)
def t143:=t142.d zdg
def zg9:Hints:=Hz [] [(0,9,.flat [Mb 58]),(3,13,.flat [Ms 14]),(0,17,.flat [Mb 94])] []
theorem zak:zD Pz 113 ⟨[.ty .str],[vc,i64],λx=>wq x⟩:=xy t143 rn zg9 Tryz.func113 [] zl
def t144:=t143.d zak
def zgH:Hints:=Hz [] [(0,2,.flat [Mb 35]),(3,2,.ways [⟨.normal,⟨[Ms 3,.v (.zI zJ),.v (.zI .expr)],[],Im⟩⟩,⟨.kz (.iface 226 .qT),⟨[Mm 0 xn,.v (.zI zJ),.v (.zI .expr)],[],Im⟩⟩])] []
theorem zd7:kF Pz 267 ⟨[.ptr],s9,[],Wm,1,226,ZE,λx=>vX x⟩:=fkp t144 rn zgH Tryz.func267 [] zl
def t145:=t144.p zd7
def G3:zS:=Lz [] [.s 1 (.qW 142 []),Mi 2,Mi 7] s9 [TM] λp s=>qO (λz0=>ve z0) p.2.1 p.2.2 s
def P7:Hints:=Hz [(0,G3)] [(0,2,.ways [z4r])] []
theorem N7:LO Tryz.f268 G3 0:=lk t145 rn P7 [] zl
theorem Mq:xU Pz 268 ⟨[.ptr,.qW 142,.any],⟨[.s 1 (.qW 142 []),Mi 2,.v (.zI zJ)],[(0,.ptr 0 0)],tn⟩,[],z4h,1,λx=>qY (λz0=>ve z0) x.2.1 x.2.2⟩:=Yz t145 rn P7 Tryz.func268 [0] (zZ rfl N7 zl)
def t146:=t145.s Mq
abbrev z7a:=vO.den s9->T (vO.den Wm⊕vO.den ZE)
abbrev zgz(F:z7a):=kF Pz 251 ⟨[.ptr],s9,[],Wm,1,226,ZE,F⟩
abbrev s6:=vO.den s9->T (vO.den Wm⊕vO.den ZE)
abbrev Ke(F:s6):=kF Pz 219 ⟨[.ptr],s9,[],Wm,1,226,ZE,F⟩
def zhd(W8:z7a)(qJ:s6):Hints:=Hz [] [(3,10,.ways [⟨.normal,OR⟩,⟨.kz (.iface 226 .qT),z05⟩]),(0,14,.ways [⟨.normal,⟨[Mb 46,.v (.zI zJ),.v (.zI .expr)],[],Im⟩⟩]),(0,16,.ways [⟨.normal,⟨[Mb 71,.v (.zI zJ),.v (.zI .expr)],[],Im⟩⟩])] []
theorem z0Z(W8:z7a)(Re:zgz W8)(qJ:s6)(jP:Ke qJ):kF Pz 251 ⟨[.ptr],s9,[],Wm,1,226,ZE,λx=>xY (λy0=>W8 (y0)) (λy0=>qJ (y0)) x⟩:=fkp (((t146.s Mq).p jP).p Re) rn (zhd W8 qJ) Tryz.func251 [] zl
theorem z9U(qJ:s6)(jP:Ke qJ):kF Pz 251 ⟨[.ptr],s9,[],Wm,1,226,ZE,λx=>xl (λy0=>qJ (y0)) x⟩:=LF (λW8 x=>xY (λy0=>W8 (y0)) (λy0=>qJ (y0)) x) (λx=>rfl) (λW8 Re=>z0Z W8 Re qJ jP)
def zb0(qJ:s6)(jP:Ke qJ):Tb:=t146.p (z9U _ jP)
def IZ(qJ:s6):zS:=Lz [] [Ms 2,Mr 7 xn] ⟨[.v (.zI zJ),.v (.zI .expr),.v (.zI .expr)],[(0,.ptr 0 0),(1,.qW 1000251 [(0,0)]),(8,.ptr 1 0),(9,.ptr 2 0)],L6⟩ [⟨.ret,OR⟩,⟨.kz (.iface 226 .qT),z05⟩] λp s=>wA (λy0=>qJ (y0)) p.1 p.2 s
def z9R(qJ:s6):Hints:=Hz [(0,IZ qJ)] [] []
theorem z16(qJ:s6)(jP:Ke qJ):LO Tryz.f237 (IZ qJ) 0:=lk (zb0 qJ jP) (rz [7]) (z9R qJ) [] zl
theorem zbg(qJ:s6)(jP:Ke qJ):kF Pz 237 ⟨[.ptr,.qW 1000251,.any,.any],⟨[.s 1 (.mclo 1000251 [.pt 0]),Ms 2,Mm 3 xn,.v (.zI zJ)],[(0,.ptr 0 0)],tn⟩,[],Wm,1,226,ZE,λx=>xB (λy0=>qJ (y0)) x.1 x.2.1 x.2.2.1 x.2.2.2⟩:=fkp (zb0 qJ jP) (rz [7]) (z9R qJ) Tryz.func237 [0] (zZ rfl (z16 qJ jP) zl)
theorem zbv(qJ:s6)(jP:Ke qJ):kF Pz 238 ⟨[.ptr],s9,[],Wm,1,226,ZE,λx=>xa (λy0=>qJ (y0)) x⟩:=fkp (t146.p (zbg _ jP)) rn hN Tryz.func238 [] zl
def RV(qJ:s6)(jP:Ke qJ):Tb:=t146.p (zbv _ jP)
def Yi(qJ:s6):zS:=Lz [] [Ms 2,Mr 7 xn] ⟨[.v (.zI zJ),.v (.zI .expr),.v (.zI .expr)],[(0,.ptr 0 0),(1,.qW 1000238 [(0,0)]),(8,.ptr 1 0),(9,.ptr 2 0)],L6⟩ [⟨.ret,OR⟩,⟨.kz (.iface 226 .qT),z05⟩] λp s=>wj (λy0=>qJ (y0)) p.1 p.2 s
def Tj(qJ:s6):Hints:=Hz [(0,Yi qJ)] [] []
theorem On(qJ:s6)(jP:Ke qJ):LO Tryz.f237 (Yi qJ) 0:=lk (RV qJ jP) (rz [7]) (Tj qJ) [] zl
theorem z3H(qJ:s6)(jP:Ke qJ):kF Pz 237 ⟨[.ptr,.qW 1000238,.any,.any],⟨[.s 1 (.mclo 1000238 [.pt 0]),Ms 2,Mm 3 xn,.v (.zI zJ)],[(0,.ptr 0 0)],tn⟩,[],Wm,1,226,ZE,λx=>xv (λy0=>qJ (y0)) x.1 x.2.1 x.2.2.1 x.2.2.2⟩:=fkp (RV qJ jP) (rz [7]) (Tj qJ) Tryz.func237 [0] (zZ rfl (On qJ jP) zl)
theorem z2I(qJ:s6)(jP:Ke qJ):kF Pz 219 ⟨[.ptr],s9,[],Wm,1,226,ZE,λx=>ur (λy0=>qJ (y0)) x⟩:=fkp (t146.p (z3H _ jP)) rn hN Tryz.func219 [] zl
theorem z9w:kF Pz 219 ⟨[.ptr],s9,[],Wm,1,226,ZE,λx=>uc x⟩:=LF (λqJ x=>ur (λy0=>qJ (y0)) x) (λx=>rfl) (λqJ jP=>z2I qJ jP)
def t147:=t146.p z9w
theorem zbF:yv (OF Pz) 218 ⟨[.ptr,.ptr,.ptr],⟨[.v (.zI .expr),.v (.zI i64),.v (.zI i64)],[(0,.ptr 0 0),(1,.ptr 1 0),(2,.ptr 2 0)],Tl⟩,[],z4M,0,λx=>jJ x.1 x.2.1 x.2.2⟩:=fkr t147 rn hN Tryz.func218
theorem z3Y:yv (OK Pz 226) 218 ⟨[.ptr,.ptr,.ptr,.any],⟨[Mm 3 xn,.v (.zI .expr),.v (.zI i64),.v (.zI i64)],[(0,.ptr 0 0),(1,.ptr 1 0),(2,.ptr 2 0)],Tl⟩,[],z4M,0,λx=>jf x.1 x.2.1 x.2.2.1 x.2.2.2⟩:=fkh t147 rn hN Tryz.func218 3
theorem zaQ:xU Pz 194 ⟨[.ptr],s9,[],⟨[Mm 0 .expr,Mi 1,Mi 2,.v (.zI zJ)],[],tn⟩,3,λx=>jj x⟩:=fkf t147 rn hN (g:=218) (pt:=226) zbF z3Y Tryz.func194
def t148:=t147.s zaQ
def zfE:Hints:=Hz [] [(0,5,.ways [⟨.normal,⟨[Mb 31,.v (.zI .expr),.v (.zI zJ),.v (.zI .expr)],[],[.var (.zI .expr),.var (.zI zJ),.var (.zI .expr)]⟩⟩])] []
theorem zc1:zD Pz 157 ⟨[.ty .str],[.expr,i64,i64],λx=>jH x⟩:=xy t148 rn zfE Tryz.func157 [] zl
def t149:=t148.d zc1
theorem zbe:zD Tryz.prog 158 ⟨[.ty .str,.ty .str],[.bool],λx=>strings_Contains x.1 x.2⟩:=by
 refine vn Tryz.func158 (by kernel_rfl) rfl λκ x zx y hy hI ha => ?_
 obtain⟨s,sub⟩:=x
 obtain⟨h0,hy⟩:=hy
 cases hy
 obtain⟨v0,r,rfl,KR,ha⟩:=qD.cons_inv (show qD κ [.zI .str s,.zI .str sub] zx from ha)
 obtain⟨v1,r,rfl,Ft,ha⟩:=ha.cons_inv
 rw[ha.qg,KR.wC,Ft.wC]
 obtain⟨m,hm⟩:=wW hI
 refine(Go.Proofs.Tryz.strings_Contains ⟨s.toArray⟩ ⟨sub.toArray⟩ m κ.w (by rw[show(ByteArray.size ⟨s.toArray⟩)=List.length s from List.size_toArray]; exact h0) hm).mono ?_
 rintro e w' ⟨rfl,rfl⟩
 refine⟨tr _,λ_=>⟨_,rfl,?_⟩⟩
 have e1:Lib.contains s sub=decide ((0:Int)<=cW s sub):=contains_eq s sub
 show RD _ (.zI .bool (decide ((0:Int)<=cW s sub))) _
 rw[<- e1]
 exact RD.bool
def t150:=t149.d zbe
def zgJ:Hints:=Hz [] [(0,6,.ways [⟨.normal,⟨[Mb 34,.v (.zI .expr),.v (.zI .expr)],[],IP⟩⟩]),(3,6,.ways [⟨.normal,⟨[Ms 6,Ms 10,.v (.zI .expr),.v (.zI .expr)],[],IP⟩⟩]),(0,12,.ways [⟨.normal,⟨[Mb 61,.v (.zI .expr),.v (.zI .expr)],[],IP⟩⟩]),(3,11,.ways [⟨.normal,⟨[Mi 7,.v (.zI .expr),.v (.zI .expr)],[],IP⟩⟩])] []
theorem z8V:zD Pz 109 ⟨[.ty .str,.ty .str],[.expr,.expr,.str,i64],λx=>vw x.1 x.2⟩:=xy t150 rn zgJ Tryz.func109 [] zl
def t151:=t150.d z8V
def L7:zS:=Lz [] [Mm 0 (.sl .str),Ms 1,Mi 7] UZ [bc,JC] λp s=>qM p.1 p.2.1 p.2.2 s
def zbp:Hints:=Hz [(0,L7)] [] []
theorem z2C:LO Tryz.f110 L7 0:=lk t151 rn zbp [] zl
theorem zbA:zD Pz 110 ⟨[.ty (.sl .str),.ty .str],[i64],λx=>qP x.1 x.2⟩:=xy t151 rn zbp Tryz.func110 [0] (zZ rfl z2C zl)
def t152:=t151.d zbA
theorem zaY:zD Pz 111 ⟨[.ty (.sl .str),.ty .str],[.bool],λx=>wc x.1 x.2⟩:=xy t152 rn hN Tryz.func111 [] zl
def t154:=t152.d zaY
def zfZ:Hints:=Hz [] [(0,1,.flat [Mb 8])] []
theorem zcO:zD Pz 114 ⟨[.ty (.sl .str),.ty i64,.ty i64,.ty .str],[.bool],λx=>w8 x.1 x.2.1 x.2.2.1 x.2.2.2⟩:=xy t154 rn zfZ Tryz.func114 [] zl
def t155:=t154.d zcO
def zev:Hints:=Hz [] [(0,3,.ways [⟨.normal,⟨[Mb 11],[],[]⟩⟩])] []
theorem za6:zD Pz 112 ⟨[.ty (.sl .str),.ty i64],[.str,.bool],λx=>jK x.1 x.2⟩:=xy t155 rn zev Tryz.func112 [] zl
def t156:=t155.d za6
def zaI:Hints:=Hz [] [(0,1,.ways [⟨.normal,⟨[Mb 29,.v tc,.a zw,.a zM,.a zY,.a zN,.a q9,.a zT],[],Ko⟩⟩])] []
theorem PD:xU Pz 54 ⟨MD,z4o,[],Tg,1,λx=>wZ x.1 x.2.1 x.2.2.1 x.2.2.2.1 x.2.2.2.2.1 x.2.2.2.2.2.1 x.2.2.2.2.2.2.1 x.2.2.2.2.2.2.2.1 x.2.2.2.2.2.2.2.2⟩:=Yz t156 rn zaI Tryz.func54 [] zl
def t171:=t156.s PD
def z9l:Hints:=Hz [] [(0,1,.ways [⟨.normal,⟨[Mb 31,.v tc,.a zw,.a zM,.a zY,.a zN,.a q9,.a zT],[],Ko⟩⟩])] []
theorem Sq:xU Pz 55 ⟨MD,z4o,[],Tg,1,λx=>wo x.1 x.2.1 x.2.2.1 x.2.2.2.1 x.2.2.2.2.1 x.2.2.2.2.2.1 x.2.2.2.2.2.2.1 x.2.2.2.2.2.2.2.1 x.2.2.2.2.2.2.2.2⟩:=Yz t171 rn z9l Tryz.func55 [] zl
def t172:=t171.s Sq
def zc3:Hints:=Hz [] [(0,1,.ways [⟨.normal,⟨[Mb 26,.v tc,.a zw,.a zM,.a zY,.a zN,.a q9,.a zT],[],Ko⟩⟩])] []
theorem Tw:xU Pz 56 ⟨Jm,IB,[],Is,1,λx=>uI x.1 x.2.1 x.2.2.1 x.2.2.2.1 x.2.2.2.2.1 x.2.2.2.2.2.1 x.2.2.2.2.2.2.1 x.2.2.2.2.2.2.2⟩:=Yz t172 rn zc3 Tryz.func56 [] zl
def t173:=t172.s Tw
def zbE:Hints:=Hz [] [(0,1,.ways [z56])] []
theorem z02:xU Pz 57 ⟨Jm,IB,[],Is,1,λx=>vZ x.1 x.2.1 x.2.2.1 x.2.2.2.1 x.2.2.2.2.1 x.2.2.2.2.2.1 x.2.2.2.2.2.2.1 x.2.2.2.2.2.2.2⟩:=Yz t173 rn zbE Tryz.func57 [] zl
def t174:=t173.s z02
def zd5:Hints:=Hz [] [(0,1,.ways [z56])] []
theorem Pr:xU Pz 58 ⟨Jm,IB,[],Is,1,λx=>vG x.1 x.2.1 x.2.2.1 x.2.2.2.1 x.2.2.2.2.1 x.2.2.2.2.2.1 x.2.2.2.2.2.2.1 x.2.2.2.2.2.2.2⟩:=Yz t174 rn zd5 Tryz.func58 [] zl
def t175:=t174.s Pr
def h59:Hints:=Hz [] [(0,1,.ways [⟨.normal,⟨[Mb 23,.v tc,.a zw,.a zM,.a zY,.a zN,.a q9,.a zT],[],Ko⟩⟩]),(0,5,.flat [Mb 44]),(3,5,.ways [z55]),(0,8,.ways [⟨.normal,⟨[Mb 68,.v tc,.a zw,.a zM,.a zY,.a zN,.a q9,.a zT,.v (.zI zN)],[],[.var tc,.arr zw,.arr zM,.arr zY,.arr zN,.arr q9,.arr zT,.var (.zI zN)]⟩⟩]),(3,8,.ways [z55])] []
theorem ze9:xU Pz 59 ⟨Jm,IB,[],Is,1,λx=>vY x.1 x.2.1 x.2.2.1 x.2.2.2.1 x.2.2.2.2.1 x.2.2.2.2.2.1 x.2.2.2.2.2.2.1 x.2.2.2.2.2.2.2⟩:=Yz t175 rn h59 Tryz.func59 [] zl
def t176:=t175.s ze9
def h23:Hints:=Hz [] [(0,3,.flat [Mb 36]),(0,7,.flat [Mb 41]),(0,9,.flat [Mb 53])] []
theorem zeP:xU Pz 23 ⟨Jm,⟨[Ms 1,.v tc,.a zw,.a zM,.a zY,.a zN,.a q9,.a zT],[(0,.ptr 0 0)],Ko⟩,[],Tg,1,λx=>di x.1 x.2.1 x.2.2.1 x.2.2.2.1 x.2.2.2.2.1 x.2.2.2.2.2.1 x.2.2.2.2.2.2.1 x.2.2.2.2.2.2.2⟩:=Yz (((((t176.s Pr).s z02).s Tw).s Sq).s PD) rn h23 Tryz.func23 [] zl
def t177:=t176.s zeP
def TR:zS:=Lz [.cell 0 5 zT,.cell 1 5 zT,.cell 0 4 q9,.cell 1 4 q9,.cell 0 0 zw,.cell 1 0 zw,.cell 0 1 zM,.cell 1 1 zM,.cell 0 2 zY,.cell 1 2 zY,.cell 0 3 zN,.cell 1 3 zN] [Mm 14 (.sl .str),Mi 15] ⟨[Mi 16,.v SL,.v Pw,.a zT,.a zT,.a q9,.a q9,.a zw,.a zw,.a zM,.a zM,.a zY,.a zY,.a zN,.a zN],[(2,.ptr 0 0),(5,.ptr 1 0)],z4z⟩ [⟨.exit 0,⟨[.v SL,.v Pw,.a zT,.a zT,.a q9,.a q9,.a zw,.a zw,.a zM,.a zM,.a zY,.a zY,.a zN,.a zN],[],z4z⟩⟩,⟨.ret,⟨[Mi 3,Mi 4,.v (.zI qc),.v Pw,.a zT,.a zT,.a q9,.a q9,.a zw,.a zw,.a zM,.a zM,.a zY,.a zY,.a zN,.a zN],[],[.var (.zI qc),.var Pw,.arr zT,.arr zT,.arr q9,.arr q9,.arr zw,.arr zw,.arr zM,.arr zM,.arr zY,.arr zY,.arr zN,.arr zN]⟩⟩] λp s=>jO p.1 p.2 s
def h10:Hints:=Hz [(0,TR)] [] []
theorem z6X:LO Tryz.f10 TR 0:=lk t177 rn h10 [] zl
theorem zeN:zD Pz 10 ⟨[.ty .str],[qc,i64,i64],λx=>jE x⟩:=xy t177 rn h10 Tryz.func10 [0] (zZ rfl z6X zl)
def t178:=t177.d zeN
theorem zgD:zD Pz 26 ⟨[.ty vc,.ty vc],[.bool],λx=>br x.1 x.2⟩:=xy t178 (rz [2,3]) hN Tryz.func26 [] zl
def t179:=t178.d zgD
abbrev Y66:=jv [.ty .expr,.ty .expr]->T (Hw [.bool])
abbrev H66(F:Y66):=zD Pz 66 ⟨[.ty .expr,.ty .expr],[.bool],F⟩
def T66(lL:Y66)(CT:H66 lL):Tb:=t179.d CT
def Ri(lL:Y66):zS:=Lz [] [Mr 2 .expr,Mr 3 .expr] XC [bc,sD] λp s=>gN (λy0 y1=>lL (y0,y1)) p.1 p.2 s
def h66(lL:Y66):Hints:=Hz [(0,Ri lL)] [(0,1,.ways [⟨.normal,⟨[Mb 34],[],[]⟩⟩])] []
theorem z6q(lL:Y66)(CT:H66 lL):LO Tryz.f66 (Ri lL) 0:=lk (T66 lL CT) (rz [2,3]) (h66 lL) [] zl
theorem z5W(lL:Y66)(CT:H66 lL):zD Pz 66 ⟨[.ty .expr,.ty .expr],[.bool],λx=>fT (λy0 y1=>lL (y0,y1)) x.1 x.2⟩:=xy (T66 lL CT) (rz [2,3]) (h66 lL) Tryz.func66 [0] (zZ rfl (z6q lL CT) zl)
theorem zeE:zD Pz 66 ⟨[.ty .expr,.ty .expr],[.bool],λx=>bG x.1 x.2⟩:=QK (λlL x=>fT (λy0 y1=>lL (y0,y1)) x.1 x.2) (λx=>rfl) (λlL CT=>z5W lL CT)
def t180:=t179.d zeE
def Rl:zS:=Lz [] [Mm 0 (.sl q9),Mm 1 (.sl q9)] XC [bc,sD] λp s=>ue p.1 p.2 s
def h27:Hints:=Hz [(0,Rl)] [(0,6,.ways [z5k])] []
theorem z71:LO Tryz.f27 Rl 0:=lk t180 rn h27 [] zl
theorem zek:zD Pz 27 ⟨[.ty (.sl q9),.ty (.sl q9)],[.bool],λx=>ga x.1 x.2⟩:=xy t180 rn h27 Tryz.func27 [0] (zZ rfl z71 zl)
def t181:=t180.d zek
def Rw:zS:=Lz [] [Mm 0 (.sl zT),Mm 1 (.sl zT)] XC [bc,sD] λp s=>vy p.1 p.2 s
def h28:Hints:=Hz [(0,Rw)] [(0,6,.ways [z5k])] []
theorem z7q:LO Tryz.f28 Rw 0:=lk t181 rn h28 [] zl
theorem zgu:zD Pz 28 ⟨[.ty (.sl zT),.ty (.sl zT)],[.bool],λx=>yf x.1 x.2⟩:=xy t181 rn h28 Tryz.func28 [0] (zZ rfl z7q zl)
def t182:=t181.d zgu
def R6:zS:=Lz [] [Mr 2 qc,Mr 3 qc] XC [bc,sD] λp s=>gU p.1 p.2 s
def z0k:zS:=Lz [] [Mr 2 qc,Mr 3 qc] z5i [TG,sD] λp s=>gz p.1 p.2 s
def P9:zS:=Lz [] [Mr 2 qc,Mr 3 qc] z4N [⟨.exit 4,KO⟩,sD] λp s=>gE p.1 p.2 s
def PU:zS:=Lz [] [Mr 2 qc,Mr 3 qc] UZ [⟨.exit 6,KO⟩,sD] λp s=>yX p.1 p.2 s
def h12:Hints:=Hz [(0,R6),(2,z0k),(4,P9),(6,PU)] [(0,1,.flat [Mb 42]),(0,11,.ways [⟨.normal,⟨[Mb 96],[],[]⟩⟩])] []
theorem z7s:LO Tryz.f12 R6 0:=lk t182 (rz [2,3]) h12 [] zl
theorem z6a:LO Tryz.f12 z0k 2:=lk t182 (rz [2,3]) h12 [] zl
theorem z7V:LO Tryz.f12 P9 4:=lk t182 (rz [2,3]) h12 [] zl
theorem z7H:LO Tryz.f12 PU 6:=lk t182 (rz [2,3]) h12 [] zl
theorem zfc:zD Pz 12 ⟨[.ty qc,.ty qc],[.bool],λx=>rQ x.1 x.2⟩:=xy t182 (rz [2,3]) h12 Tryz.func12 [0,2,4,6] (zZ rfl z7s (zZ rfl z6a (zZ rfl z7V (zZ rfl z7H zl))))
def t183:=t182.d zfc
theorem zfs:zD Pz 13 ⟨[],[.bool],λ_=>mc⟩:=xy t183 rn hN Tryz.func13 [] zl
def t184:=t183.d zfs
def h4:Hints:=Hz [] [(0,1,.ways [⟨.normal,⟨[Mb 12],[],[]⟩⟩])] []
theorem ok4:zD Pz 4 ⟨[.ty qc],[.bool],λx=>gL x⟩:=xy t184 (rz [1]) h4 Tryz.func4 [] zl
def t185:=t184.d ok4
end Go.AM.Lf
