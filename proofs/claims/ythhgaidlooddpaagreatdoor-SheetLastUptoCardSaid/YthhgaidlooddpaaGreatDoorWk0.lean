/-
  The walk, part 0: each function of the program is the tree that the lifted text says; printed by a program of ours.
-/
import Derived.Test.YthhgaidlooddpaaGreatDoorProg
import Derived.KernelRfl
import Derived.Test.YthhgaidlooddpaaGreatDoorAmE
import Derived.Test.YthhgaidlooddpaaGreatDoorLf0
import Derived.WalkKit
import Derived.Shelf.Strings.FieldsFuncAny
import Derived.Lib.Builder
import Derived.Shelf.Strings.Builder1
import Derived.TacticsInMore
import Derived.Test.YthhgaidlooddpaaGreatDoorSh
set_option linter.unusedVariables false
set_option maxRecDepth 100000
noncomputable section
namespace Go.AM.Lf
open Go.Proofs
abbrev EK:Nat:=50
abbrev Pz:Program:=Tryz.prog
def wZ(f:Func):Code:=match f.body with | some c=>c | none=>.skip
def lb(k:Nat)(f:Func):Code:=match tv k (wZ f)with | some c=>c | none=>.skip
theorem mixed:Pz.follows .mixedOrders=true:=by kernel_rfl
instance:vX:={ u8:=5,tab:=[(0,Hm .i64),(4,DP .u64 Lib.pow10Tab)] }
theorem wX{κ:KS}(hI:Inv κ):∃ m,κ.w.cell? ⟨0,0,none⟩=some (.int .i64 m) :=
 Oe (hI.gl (0,Hm .i64) (by simp[vX.tab])).2
theorem yV{κ:KS}(hI:Inv κ):Lib.TabIs Tryz.prog κ.w "internal/strconv.uint64pow10" .u64 Lib.pow10Tab :=
 z7E (g:=4) (by kernel_rfl) (hI.gl (4,DP .u64 Lib.pow10Tab) (by simp[vX.tab])).2
structure Tb where
 t:cZ
 ok:yc Pz t
def Tb.d(T:Tb){g:Nat}{d:C4}(h:zC Pz g d):Tb:=⟨(g,.d d)::T.t,E9 h T.ok⟩
def Tb.s(T:Tb){g:Nat}{d:jZ}(h:xX Pz g d):Tb:=⟨(g,.s d)::T.t,Co h T.ok⟩
def Tb.p(T:Tb){g:Nat}{d:iB}(h:kH Pz g d):Tb:=⟨(g,.p d)::T.t,Dz h T.ok⟩
def t0:Tb:=⟨[],Nk _⟩
def fL:List (Nat×zT)->Nat->Option zT
 | [],_=>none
 | x::r,n=>bif Nat.beq x.1 n then some x.2 else fL r n
def fC:List (Nat×Nat×z1i)->Nat->Nat->Option z1i
 | [],_,_=>none
 | x::r,k,n=>bif Nat.beq x.1 k&&Nat.beq x.2.1 n then some x.2.2 else fC r k n
def fF:List (Nat×List Nat)->Nat->List Nat
 | [],_=>[]
 | x::r,n=>bif Nat.beq x.1 n then x.2 else fF r n
def Hz(l:List (Nat×zT))(c:List (Nat×Nat×z1i))(f:List (Nat×List Nat)):Hints:=⟨fL l,fC c,fF f⟩
def hN:Hints:=Hz [] [] []
def rz(l:List Nat)(s:Nat):Bool:=l.any (Nat.beq s)
def rn(_:Nat):Bool:=false
def Lz(gh:List Gh)(ps:List It)(sh:vU)(ws:List Way)(R:wN ps->sh.den->T (sh.den⊕gU ws)):zT:=⟨gh,ps,sh,ws,λp s=>T.loop (R p) s⟩
abbrev LO(f:Func)(l:zT)(i:Nat):Prop:=QN Pz f.ntmps l (lb i f)
def ls(f:Func):List Nat->List (Nat×Code)
 | []=>[]
 | i::r=>(i,lb i f)::ls f r
abbrev Mi(n:Nat):It:=.s n (.zI i64)
abbrev Mb(n:Nat):It:=.s n (.zI .bool)
abbrev Ms(n:Nat):It:=.s n (.zI .str)
abbrev Mm(n:Nat)(t:Ty):It:=.s n (.zI t)
abbrev Mr(n:Nat)(t:Ty):It:=.s n (.qR t)
abbrev Sh0(l:List It):vU:=⟨l,[],[]⟩
theorem lk{f:Func}{i:Nat}{gh:List Gh}{ps:List It}{sh:vU}{ws:List Way}{R:wN ps->sh.den->T (sh.den⊕gU ws)}(T:Tb)(ro:Nat->Bool)(H:Hints)(L:List Nat)(ha:Ht Pz f.ntmps H (ls f L))
  (h:∀ p s,z0j (ui Pz EK T.t ro) T.t f.ntmps H (Lz gh ps sh ws R) (lb i f) p s=R p s:=by intro p s; kernel_rfl) (hl:xl (lb i f)=ls f L:=by kernel_rfl):LO f (Lz gh ps sh ws R) i :=
 z4u (xid:=EK) (ro:=ro) (H:=H) mixed T.ok (ZH hl ha) R h λ_ _=>rfl
theorem xx{f:Nat}{fn:Func}{d:C4}(T:Tb)(ro:Nat->Bool)(H:Hints)(hf:Pz.funcs[f]? = some fn)(L:List Nat)(ha:Ht Pz fn.ntmps H (ls fn L))
  (h:∀ x,TL (ui Pz EK T.t ro) T.t H fn (wZ fn) d x=d.F x:=by intro x; kernel_rfl) (hb:fn.body=some (wZ fn):=by rfl) (hn:(fn.name == "runtime.NumGoroutine")=false:=by kernel_rfl) (hl:xl (wZ fn)=ls fn L:=by kernel_rfl):zC Pz f d :=
 zdO (xid:=EK) (ro:=ro) (H:=H) mixed T.ok hf hb hn (ZH hl ha) h
theorem Yw{f:Nat}{fn:Func}{d:jZ}(T:Tb)(ro:Nat->Bool)(H:Hints)(hf:Pz.funcs[f]? = some fn)(L:List Nat)(ha:Ht Pz fn.ntmps H (ls fn L))
  (h:∀ x,Ff (ui Pz EK T.t ro) T.t H fn (wZ fn) d x=d.F x:=by intro x; kernel_rfl) (hb:fn.body=some (wZ fn):=by rfl) (hn:(fn.name == "runtime.NumGoroutine")=false:=by kernel_rfl) (hl:xl (wZ fn)=ls fn L:=by kernel_rfl):xX Pz f d :=
 z7n (xid:=EK) (ro:=ro) (H:=H) mixed T.ok hf hb hn (ZH hl ha) h
def hdB(c:Code):Code:=match c with | .seq _ b=>b | _=>.skip
def hdO(c:Code):Array Oper:=match c with | .seq (.region _ ops _) _=>ops | _ => #[]
def hdI(c:Code):Nat:=match c with | .seq (.region id _ _) _=>id | _=>0
theorem fkr{f:Nat}{fn:Func}{d:jZ}(T:Tb)(ro:Nat->Bool)(H:Hints)(hf:Pz.funcs[f]? = some fn)
  (h:∀ x,evH (ui Pz EK T.t ro) T.t H fn (hdO (wZ fn)) (hdB (wZ fn)) d d.ks.length none x=d.F x:=by intro x; kernel_rfl) (hb:fn.body=some (.seq (.region (hdI (wZ fn)) (hdO (wZ fn)) false) (hdB (wZ fn))):=by kernel_rfl) (hn:(fn.name == "runtime.NumGoroutine")=false:=by kernel_rfl) (hl:xl (hdB (wZ fn))=[]:=by kernel_rfl):yx (OY Pz) f d :=
 z3G (xid:=EK) (ro:=ro) (H:=H) mixed T.ok hf hb hn (Vm hl) h
theorem fkh{f t:Nat}{fn:Func}{d:jZ}(T:Tb)(ro:Nat->Bool)(H:Hints)(hf:Pz.funcs[f]? = some fn)(k:Nat)
  (h:∀ x,evH (ui Pz EK T.t ro) T.t H fn (hdO (wZ fn)) (hdB (wZ fn)) d k (some t) x=d.F x:=by intro x; kernel_rfl) (hk:d.ks.length=k+1:=by kernel_rfl) (hb:fn.body=some (.seq (.region (hdI (wZ fn)) (hdO (wZ fn)) false) (hdB (wZ fn))):=by kernel_rfl) (hn:(fn.name == "runtime.NumGoroutine")=false:=by kernel_rfl) (hl:xl (hdB (wZ fn))=[]:=by kernel_rfl):yx (Pe Pz t) f d :=
 z2m (xid:=EK) (ro:=ro) (H:=H) mixed T.ok hf hb hn (Vm hl) hk h
theorem zjb{g:Nat}{d:jZ}(_:yx (OY Pz) g d):yx (Pe Pz 0) g { d with F:=λ_=>.fail }:=λ_ _ _ _ _ hy=>hy.elim
theorem fkf{f g pt:Nat}{fn:Func}{d d0 d1:jZ}(T:Tb)(ro:Nat->Bool)(H:Hints)(h0:yx (OY Pz) g d0)(h1:yx (Pe Pz pt) g d1)(hf:Pz.funcs[f]? = some fn)
  (h:∀ x,Ps (ui Pz EK T.t ro) T.t H ⟨g,d0,pt,d1⟩ fn (wZ fn) d x=d.F x:=by intro x; kernel_rfl) (hb:fn.body=some (wZ fn):=by rfl) (hn:(fn.name == "runtime.NumGoroutine")=false:=by kernel_rfl) (hl:xl (wZ fn)=[]:=by kernel_rfl):xX Pz f d :=
 z84 (xid:=EK) (ro:=ro) (H:=H) mixed T.ok (h:=⟨g,d0,pt,d1⟩) h0 h1 hf hb hn hl h
theorem fkp{f:Nat}{fn:Func}{d:iB}(T:Tb)(ro:Nat->Bool)(H:Hints)(hf:Pz.funcs[f]? = some fn)(L:List Nat)(ha:Ht Pz fn.ntmps H (ls fn L))
  (h:∀ x,EJ (ui Pz EK T.t ro) T.t H fn (wZ fn) d x=d.F x:=by intro x; kernel_rfl) (hb:fn.body=some (wZ fn):=by rfl) (hn:(fn.name == "runtime.NumGoroutine")=false:=by kernel_rfl) (hl:xl (wZ fn)=ls fn L:=by kernel_rfl):kH Pz f d :=
 z6Y (xid:=EK) (ro:=ro) (H:=H) mixed T.ok hf hb hn (ZH hl ha) h
abbrev tB:Dk:=.st [.row 1 zx,.row 2 zM,.row 3 zV,.row 4 zN,.row 5 q8,.row 6 zU]
abbrev Kv:List Bk:=[.var tB,.arr zx,.arr zM,.arr zV,.arr zN,.arr q8,.arr zU]
abbrev tx:List Bk:=[.var (.zI zK)]
abbrev WM:Dk:=.st [.op 0 111,.row 1 (.int .u8)]
abbrev QG:vU:=⟨[Mm 0 xo,.v (.zI zK)],[],tx⟩
abbrev sn:vU:=⟨[.v (.zI zK)],[(0,.ptr 0 0)],tx⟩
abbrev WL:vU:=⟨[Mm 0 .expr,.v (.zI zK)],[],tx⟩
abbrev yX:List Bk:=[.arr u32]
abbrev Sz:Dk:=.st [.row 7 zx,.row 9 zM,.row 11 zV,.row 13 zN,.row 5 q8,.row 3 zU]
abbrev UR:List Bk:=[.var WM,.arr (.int .u8)]
abbrev Iy:List Bk:=[.var (.zI zK),.var (.zI .expr),.var (.zI .expr)]
abbrev bf:Way:=⟨.exit 0,⟨[],[],[]⟩⟩
abbrev MS:vU:=⟨[Mm 1 (.sl .str),.v tB,.a zx,.a zM,.a zV,.a zN,.a q8,.a zU],[(0,.ptr 0 0)],Kv⟩
abbrev sY:Way:=⟨.ret,⟨[Mb 2],[],[]⟩⟩
abbrev sT:Way:=⟨.ret,⟨[Mb 4],[],[]⟩⟩
abbrev ZG:vU:=⟨[Mi 3],[],[]⟩
abbrev Io:vU:=⟨[Mm 0 .expr,Mi 1,.v (.zI i64)],[(2,.ptr 0 0)],[.var (.zI i64)]⟩
abbrev Mn:vU:=⟨[Mb 0,.v tB,.a zx,.a zM,.a zV,.a zN,.a q8,.a zU],[],Kv⟩
abbrev Tg:Dk:=.st [.row 6 zx,.row 8 zM,.row 10 zV,.row 12 zN,.row 4 q8,.row 2 zU]
abbrev Jy:Way:=⟨.ret,⟨[Mi 4],[],[]⟩⟩
abbrev z5f:Way:=⟨.normal,⟨[Mm 1 (.sl .str),.v tB,.a zx,.a zM,.a zV,.a zN,.a q8,.a zU,.v (.zI zN)],[],[.var tB,.arr zx,.arr zM,.arr zV,.arr zN,.arr q8,.arr zU,.var (.zI zN)]⟩⟩
abbrev XQ:vU:=⟨[Mi 5],[],[]⟩
abbrev Wb:vU:=⟨[.v WM,.a (.int .u8)],[],UR⟩
abbrev MO:vU:=⟨[Mb 0,.v (.zI i64)],[],[.var (.zI i64)]⟩
abbrev z02:vU:=⟨[Mi 0,.v tB,.a zx,.a zM,.a zV,.a zN,.a q8,.a zU],[],Kv⟩
abbrev UG:vU:=⟨[Mi 8],[],[]⟩
abbrev z0f:vU:=⟨[Mm 0 xo,.v (.zI zK),.v (.zI .expr),.v (.zI .expr)],[],Iy⟩
abbrev z0y:List Bk:=[.var (.zI .expr),.var (.zI i64),.var (.zI i64)]
abbrev Dt:vU:=⟨[Ms 0],[],[]⟩
abbrev L1:vU:=⟨[.v (.zI zK)],[],tx⟩
abbrev z4X:List Bk:=[.var Tg,.var Sz,.arr zU,.arr zU,.arr q8,.arr q8,.arr zx,.arr zx,.arr zM,.arr zM,.arr zV,.arr zV,.arr zN,.arr zN]
abbrev Uu:vU:=⟨[Ms 3],[],[]⟩
abbrev z5v:vU:=⟨[.a u32],[(5,.cur 0 u32)],yX⟩
abbrev S3:vU:=⟨[.v (.zI zK),.v (.zI .expr),.v (.zI .expr)],[],Iy⟩
abbrev z4W:vU:=⟨[Mm 0 (.sl .expr),.s 1 (.mclo 183 [.rp i64,.pt 0]),.v (.zI i64)],[],[.cvar (.ptr 1 0),.var (.zI i64)]⟩
abbrev z5G:vU:=⟨[Mm 1 (.sl .str),Ms 2,.v tB,.a zx,.a zM,.a zV,.a zN,.a q8,.a zU],[(0,.ptr 0 0)],Kv⟩
abbrev S5:Way:=⟨.exit 0,⟨[.a u32],[(7,.cur 0 u32)],yX⟩⟩
abbrev L6:List Bk:=[.var (.zI zK),.var (.zI .expr)]
abbrev Jm:List Bk:=[.arr (.int .u8)]
abbrev z4Y:Way:=⟨.normal,⟨[Mb 16,.v tB,.a zx,.a zM,.a zV,.a zN,.a q8,.a zU],[],Kv⟩⟩
abbrev PC:vU:=⟨[Mi 3,Mi 4],[],[]⟩
abbrev z0O:vU:=⟨[Mi 3,Mi 9],[],[]⟩
abbrev Mw:List Bk:=[.var (.zI .expr),.var (.zI .expr)]
abbrev z5Q:vU:=⟨[Mm 7 (.int .u64),Mi 8,.a u32],[(6,.cur 0 u32)],yX⟩
abbrev z4Z:vU:=⟨[Mb 0,.v (.zI i64)],[],[.cvar (.ptr 1 0),.var (.zI i64)]⟩
abbrev z5Z:Way:=⟨.ret,⟨[Ms 2,Mb 3,.v (.zI ve)],[],[.var (.zI ve)]⟩⟩
abbrev z5r:vU:=⟨[Mm 14 (.sl u32),.a u32],[(13,.cur 0 u32)],yX⟩
abbrev SQ:vU:=⟨[Mm 0 (.sl u32)],[],[]⟩
abbrev z5k:vU:=⟨[Mi 15,.a u32],[(7,.cur 0 u32)],yX⟩
abbrev z5i:vU:=⟨[.v (.zI .expr),.v (.zI i64),.v (.zI i64)],[],z0y⟩
abbrev Ge:vU:=⟨[],[],[]⟩
abbrev z4V:Way:=⟨.normal,⟨[Mb 44,.v (.zI zK)],[],tx⟩⟩
abbrev z4R:vU:=⟨[Mi 3,Mi 6],[],[]⟩
abbrev z57:Way:=⟨.exit 0,⟨[.v (.zI ve)],[],[.var (.zI ve)]⟩⟩
abbrev TO:vU:=⟨[Ms 5],[],[]⟩
abbrev z5X:vU:=⟨[Ms 0,.v (.zI zK)],[],tx⟩
abbrev z5S:vU:=⟨[.s 3 (.sub 0 (.int .u8)),.a (.int .u8)],[],Jm⟩
abbrev z4S:vU:=⟨[.a (.int .u8)],[(3,.cur 0 (.int .u8))],Jm⟩
abbrev Lg:Way:=⟨.exit 0,Dt⟩
abbrev z5M:vU:=⟨[.v WM,.a (.int .u8)],[(0,.ptr 0 0)],UR⟩
abbrev z5m:Way:=⟨.normal,⟨[Mb 17],[],[]⟩⟩
abbrev Ur:List AK:=[.ptr,.any]
abbrev z5b:Way:=⟨.normal,⟨[Mb 81],[],[]⟩⟩
abbrev L2:List AK:=[.ptr,.any,.any]
abbrev Iu:List AK:=[.any,.any,.ptr]
abbrev z5a:vU:=⟨[Mi 7],[],[]⟩
abbrev z52:vU:=⟨[Mi 6],[],[]⟩
abbrev SU:Way:=⟨.exit 0,ZG⟩
abbrev RL:Way:=⟨.exit 0,z5v⟩
abbrev PO:Way:=⟨.exit 2,Ge⟩
abbrev PA:Way:=⟨.exit 0,L1⟩
abbrev z61:vU:=⟨[.a (.int .u8)],[],Jm⟩
abbrev Y29:=jP [.ty .expr,.ty i64]->T (GF [i64])
abbrev H29(F:Y29):=zC Pz 29 ⟨[.ty .expr,.ty i64],[i64],F⟩
def T29(lE:Y29)(C2:H29 lE):Tb:=t0.d C2
def z0s(lE:Y29):zT:=Lz [] [Mr 2 .expr] ⟨[Mi 1,Mi 5],[],[]⟩ [⟨.exit 0,⟨[Mi 1],[],[]⟩⟩] λp s=>jI (λy0 y1=>lE (y0,y1)) p s
def h29(lE:Y29):Hints:=Hz [(0,z0s lE)] [(0,3,.flat [Mb 32])] []
theorem z6E(lE:Y29)(C2:H29 lE):LO Tryz.f29 (z0s lE) 0:=lk (T29 lE C2) (rz [2]) (h29 lE) [] zl
theorem z7a(lE:Y29)(C2:H29 lE):zC Pz 29 ⟨[.ty .expr,.ty i64],[i64],λx=>bM (λy0 y1=>lE (y0,y1)) x.1 x.2⟩:=xx (T29 lE C2) (rz [2]) (h29 lE) Tryz.func29 [0] (zZ rfl (z6E lE C2) zl)
theorem zfa:zC Pz 29 ⟨[.ty .expr,.ty i64],[i64],λx=>jx x.1 x.2⟩:=Xg (λlE x=>bM (λy0 y1=>lE (y0,y1)) x.1 x.2) (λx=>rfl) (λlE C2=>z7a lE C2)
def t1:=t0.d zfa
def SR:zT:=Lz [] [Mr 1 qc] PC [SU] λp s=>kZ p s
def Sv:zT:=Lz [] [Mr 1 qc] ⟨[Mi 3,Mi 5],[],[]⟩ [⟨.exit 2,ZG⟩] λp s=>kT p s
def RI:zT:=Lz [] [Mr 1 qc] z4R [⟨.exit 4,ZG⟩] λp s=>kR p s
def RC:zT:=Lz [] [Mr 1 qc] ⟨[Mi 3,Mi 7],[],[]⟩ [⟨.exit 6,ZG⟩] λp s=>y7 p s
def PQ:zT:=Lz [] [Mr 1 qc] ⟨[Mi 3,Mi 8],[],[]⟩ [⟨.exit 8,ZG⟩] λp s=>y3 p s
def MV:zT:=Lz [] [Mr 1 qc] z0O [⟨.exit 10,ZG⟩] λp s=>kW p s
def h14:Hints:=Hz [(0,SR),(2,Sv),(4,RI),(6,RC),(8,PQ),(10,MV)] [(0,3,.flat [Mb 43]),(0,7,.flat [Mb 83]),(0,11,.flat [Mb 103]),(0,15,.flat [Mb 131]),(0,19,.flat [Mb 151]),(0,23,.flat [Mb 193])] []
theorem z6d:LO Tryz.f14 SR 0:=lk t1 (rz [1]) h14 [] zl
theorem z8o:LO Tryz.f14 Sv 2:=lk t1 (rz [1]) h14 [] zl
theorem z7b:LO Tryz.f14 RI 4:=lk t1 (rz [1]) h14 [] zl
theorem z6A:LO Tryz.f14 RC 6:=lk t1 (rz [1]) h14 [] zl
theorem z7W:LO Tryz.f14 PQ 8:=lk t1 (rz [1]) h14 [] zl
theorem z4i:LO Tryz.f14 MV 10:=lk t1 (rz [1]) h14 [] zl
theorem zhg:zC Pz 14 ⟨[.ty qc],[.bool],λx=>eL x⟩:=xx t1 (rz [1]) h14 Tryz.func14 [0,2,4,6,8,10] (zZ rfl z6d (zZ rfl z8o (zZ rfl z7b (zZ rfl z6A (zZ rfl z7W (zZ rfl z4i zl))))))
def t2:=t1.d zhg
def h67:Hints:=Hz [] [(0,1,.flat [Mb 2])] []
theorem zg6:zC Pz 67 ⟨[.ty (.int .u8)],[.bool],λx=>jK x⟩:=xx t2 rn h67 Tryz.func67 [] zl
def t3:=t2.d zg6
def h68:Hints:=Hz [] [(0,1,.flat [Mb 2])] []
theorem zfE:zC Pz 68 ⟨[.ty (.int .u8)],[.bool],λx=>mJ x⟩:=xx t3 rn h68 Tryz.func68 [] zl
def t4:=t3.d zfE
def SO:zT:=Lz [] [Ms 0] ZG [bf,sY] λp s=>kf p s
def h30:Hints:=Hz [(0,SO)] [(0,1,.ways [z5m]),(0,6,.ways [⟨.normal,⟨[Mb 41],[],[]⟩⟩])] []
theorem z7h:LO Tryz.f30 SO 0:=lk t4 rn h30 [] zl
theorem zg8:zC Pz 30 ⟨[.ty .str],[.bool],λx=>u6 x⟩:=xx t4 rn h30 Tryz.func30 [0] (zZ rfl z7h zl)
def t5:=t4.d zg8
def L0:zT:=Lz [] [Mm 0 (.sl u32)] ZG [SU] λp s=>gy p s
def zab:Hints:=Hz [(0,L0)] [(0,2,.flat [Mb 15])] []
theorem z4o:LO Tryz.f125 L0 0:=lk t5 rn zab [] zl
theorem zcf:zC Pz 125 ⟨[.ty (.sl u32)],[(.sl u32)],λx=>qM x⟩:=xx t5 rn zab Tryz.func125 [0] (zZ rfl z4o zl)
def t6:=t5.d zcf
def LB:zT:=Lz [] [Mm 4 (.sl u32)] ⟨[Mm 5 (.int .u64),Mi 6],[],[]⟩ [⟨.exit 0,⟨[Mm 5 (.int .u64)],[],[]⟩⟩] λp s=>eC p s
def zav:Hints:=Hz [(0,LB)] [] []
theorem z2q:LO Tryz.f165 LB 0:=lk t6 rn zav [] zl
theorem zaN:zC Pz 165 ⟨[.ty (.sl u32)],[(.int .u64),.bool],λx=>ZP x⟩:=xx t6 rn zav Tryz.func165 [0] (zZ rfl z2q zl)
def t7:=t6.d zaN
theorem zas:zC Pz 162 ⟨[.ty (.int .u64)],[(.sl u32)],λx=>sb x⟩:=xx t7 rn hN Tryz.func162 [] zl
def t8:=t7.d zas
def Mu:zT:=Lz [] [Mm 0 (.sl u32),Mm 1 (.int .u64)] z5Q [⟨.exit 0,⟨[Mm 7 (.int .u64),.a u32],[(6,.cur 0 u32)],yX⟩⟩] λp s=>bV p.1 p.2 s
def za7:Hints:=Hz [(0,Mu)] [] [(9,[6])]
theorem z2U:LO Tryz.f166 Mu 0:=lk t8 rn za7 [] zl
theorem zdI:zC Pz 166 ⟨[.ty (.sl u32),.ty (.int .u64)],[(.sl u32),(.int .u64)],λx=>bJ x.1 x.2⟩:=xx t8 rn za7 Tryz.func166 [0] (zZ rfl z2U zl)
def t9:=t8.d zdI
theorem z9z:zC Pz 163 ⟨[.ty (.sl u32),.ty i64],[(.int .u64)],λx=>gq x.1 x.2⟩:=xx t9 rn hN Tryz.func163 [] zl
def t10:=t9.d z9z
def M8:zT:=Lz [.slot 8 u32] [Mm 5 (.sl u32),Mm 7 (.int .u64)] ⟨[Mi 9,.a u32],[(8,.cur 0 u32)],yX⟩ [⟨.exit 0,⟨[.a u32],[(8,.cur 0 u32)],yX⟩⟩] λp s=>sB p.1 p.2 s
def MW:zT:=Lz [] [Mm 5 (.sl u32),Mm 11 (.int .u64)] ⟨[Mm 12 (.int .u64),Mi 13,.a u32],[(10,.cur 0 u32)],yX⟩ [⟨.exit 2,⟨[.a u32],[(10,.cur 0 u32)],yX⟩⟩] λp s=>bU p.1 p.2 s
def z6p:Hints:=Hz [(0,M8),(2,MW)] [] [(14,[8]),(24,[10])]
theorem z3m:LO Tryz.f167 M8 0:=lk t10 rn z6p [] zl
theorem z2O:LO Tryz.f167 MW 2:=lk t10 rn z6p [] zl
theorem zbA:zC Pz 167 ⟨[.ty (.sl u32),.ty i64],[(.sl u32)],λx=>mH x.1 x.2⟩:=xx t10 rn z6p Tryz.func167 [0,2] (zZ rfl z3m (zZ rfl z2O zl))
def t11:=t10.d zbA
def LK:zT:=Lz [.slot 5 u32] [Mm 0 (.sl u32),Mm 1 (.sl u32)] ⟨[Mm 6 (.int .u64),Mi 7,.a u32],[(5,.cur 0 u32)],yX⟩ [RL] λp s=>fS p.1 p.2 s
def zdk:Hints:=Hz [(0,LK)] [] [(9,[5])]
theorem z3A:LO Tryz.f120 LK 0:=lk t11 rn zdk [] zl
theorem zaS:zC Pz 120 ⟨[.ty (.sl u32),.ty (.sl u32)],[(.sl u32)],λx=>Qh x.1 x.2⟩:=xx t11 rn zdk Tryz.func120 [0] (zZ rfl z3A zl)
def t12:=t11.d zaS
def LJ:zT:=Lz [] [Mm 5 (.sl u32),Mm 6 (.sl u32)] z5a [bf,Jy] λp s=>ct p.1 p.2 s
def zdM:Hints:=Hz [(0,LJ)] [] []
theorem z4b:LO Tryz.f168 LJ 0:=lk t12 rn zdM [] zl
theorem za5:zC Pz 168 ⟨[.ty (.sl u32),.ty (.sl u32)],[i64],λx=>oQ x.1 x.2⟩:=xx t12 rn zdM Tryz.func168 [0] (zZ rfl z4b zl)
def t13:=t12.d za5
def M0:zT:=Lz [.slot 6 u32] [Mm 0 (.sl u32),Mm 1 (.sl u32)] z5Q [⟨.exit 0,⟨[.a u32],[(6,.cur 0 u32)],yX⟩⟩] λp s=>ij p.1 p.2 s
def zaH:Hints:=Hz [(0,M0)] [(3,10,.flat [Mm 7 (.int .u64),Mm 9 (.int .u64)])] [(14,[6])]
theorem z1u:LO Tryz.f169 M0 0:=lk t13 rn zaH [] zl
theorem zc6:zC Pz 169 ⟨[.ty (.sl u32),.ty (.sl u32)],[(.sl u32),.bool],λx=>Qw x.1 x.2⟩:=xx t13 rn zaH Tryz.func169 [0] (zZ rfl z1u zl)
def t14:=t13.d zc6
def LZ:zT:=Lz [] [Mm 0 (.sl u32),Mm 1 (.sl u32)] ⟨[Mm 14 (.sl u32),Mi 15,.a u32],[(13,.cur 0 u32)],yX⟩ [⟨.exit 0,z5r⟩] λp s=>uC p.1 p.2 s
def zdf:Hints:=Hz [(0,LZ)] [(0,5,.flat [Mb 33]),(0,7,.flat [Mb 46]),(3,16,.ways [⟨.normal,z5r⟩])] [(21,[13])]
theorem z4A:LO Tryz.f127 LZ 0:=lk t14 rn zdf [] zl
theorem zaU:zC Pz 127 ⟨[.ty (.sl u32),.ty (.sl u32)],[(.sl u32),(.sl u32),.bool],λx=>jU x.1 x.2⟩:=xx t14 rn zdf Tryz.func127 [0] (zZ rfl z4A zl)
def t15:=t14.d zaU
def Lj:zT:=Lz [] [] ⟨[Mm 5 (.sl u32),Mm 6 (.sl u32)],[],[]⟩ [⟨.exit 0,⟨[Mm 5 (.sl u32)],[],[]⟩⟩] λp s=>bY  s
def zaL:Hints:=Hz [(0,Lj)] [] []
theorem z2y:LO Tryz.f126 Lj 0:=lk t15 rn zaL [] zl
theorem zbE:zC Pz 126 ⟨[.ty (.sl u32),.ty (.sl u32)],[(.sl u32)],λx=>Q6 x.1 x.2⟩:=xx t15 rn zaL Tryz.func126 [0] (zZ rfl z2y zl)
def t16:=t15.d zbE
def h64:Hints:=Hz [] [(0,2,.flat [Mb 19])] []
theorem zfx:zC Pz 64 ⟨[.ty ve],[ve],λx=>ja x⟩:=xx t16 (rz [1]) h64 Tryz.func64 [] zl
def t17:=t16.d zfx
def RQ:zT:=Lz [] [Mm 0 (.sl u32),Mm 1 (.sl u32)] XQ [bf,sT] λp s=>j9 p.1 p.2 s
def h65:Hints:=Hz [(0,RQ)] [] []
theorem z6K:LO Tryz.f65 RQ 0:=lk t17 rn h65 [] zl
theorem zgm:zC Pz 65 ⟨[.ty (.sl u32),.ty (.sl u32)],[.bool],λx=>yp x.1 x.2⟩:=xx t17 rn h65 Tryz.func65 [0] (zZ rfl z6K zl)
def t18:=t17.d zgm
theorem zhI:zC Pz 69 ⟨[.ty ve],[.bool],λx=>Zj x⟩:=xx t18 (rz [1]) hN Tryz.func69 [] zl
def t19:=t18.d zhI
def h70:Hints:=Hz [] [(0,2,.flat [Mb 2])] []
theorem zhA:zC Pz 70 ⟨[.ty ve],[.bool],λx=>mQ x⟩:=xx t19 (rz [1]) h70 Tryz.func70 [] zl
def t20:=t19.d zhA
theorem zf5:zC Pz 31 ⟨[.ty ve],[.bool],λx=>dG x⟩:=xx t20 (rz [1]) hN Tryz.func31 [] zl
def t21:=t20.d zf5
theorem zfp:zC Pz 32 ⟨[.ty .str],[.bool],λx=>eE x⟩:=xx t21 rn hN Tryz.func32 [] zl
def t22:=t21.d zfp
def Me:zT:=Lz [] [Mm 0 (.sl u32),Mm 1 (.sl u32),Mi 6] ⟨[Mm 7 (.int .u64),Mi 8,.a u32],[(5,.cur 0 u32)],yX⟩ [⟨.exit 2,z5v⟩] λp s=>cn p.1 p.2.1 p.2.2 s
def Mv:zT:=Lz [] [Mm 0 (.sl u32),Mm 1 (.sl u32)] ⟨[Mi 6,.a u32],[(5,.cur 0 u32)],yX⟩ [RL] λp s=>fV p.1 p.2 s
def z7e:Hints:=Hz [(2,Me),(0,Mv)] [(0,7,.flat [Mb 28])] [(13,[5])]
theorem z1C:LO Tryz.f121 Me 2:=lk t22 rn z7e [] zl
theorem z39:LO Tryz.f121 Mv 0:=lk t22 rn z7e [2] (zZ rfl z1C zl)
theorem zbg:zC Pz 121 ⟨[.ty (.sl u32),.ty (.sl u32)],[(.sl u32)],λx=>ri x.1 x.2⟩:=xx t22 rn z7e Tryz.func121 [0] (zZ rfl z39 zl)
def t23:=t22.d zbg
def My:zT:=Lz [] [] ⟨[Mm 3 (.sl u32),Ms 4],[],[]⟩ [⟨.exit 0,⟨[Ms 4],[],[]⟩⟩] λp s=>y4  s
def za8:Hints:=Hz [(0,My)] [] []
theorem z48:LO Tryz.f131 My 0:=lk t23 rn za8 [] zl
theorem zbp:zC Pz 131 ⟨[.ty (.sl u32)],[.str],λx=>bE x⟩:=xx t23 rn za8 Tryz.func131 [0] (zZ rfl z48 zl)
def t24:=t23.d zbp
def LW:zT:=Lz [] [Mi 1] TO [⟨.exit 0,TO⟩] λp s=>jC p s
def z9w:Hints:=Hz [(0,LW)] [] []
theorem z2Y:LO Tryz.f202 LW 0:=lk t24 rn z9w [] zl
theorem zdA:zC Pz 202 ⟨[.ty (.sl u32),.ty i64],[.str],λx=>ik x.1 x.2⟩:=xx t24 rn z9w Tryz.func202 [0] (zZ rfl z2Y zl)
def t25:=t24.d zdA
theorem zcm:zC Pz 130 ⟨[.ty .bool],[.str],λx=>dJ x⟩:=xx t25 rn hN Tryz.func130 [] zl
def t26:=t25.d zcm
def zhD:Hints:=Hz [] [(3,2,.flat [Ms 7])] []
theorem zbX:zC Pz 170 ⟨[.ty .bool,.ty (.sl u32),.ty i64],[.str],λx=>mq x.1 x.2.1 x.2.2⟩:=xx t26 rn zhD Tryz.func170 [] zl
def t27:=t26.d zbX
def IZ:zT:=Lz [] [] ⟨[Mm 5 (.sl u32),Mi 6,.v (.zI ve)],[(4,.ptr 0 0)],[.var (.zI ve)]⟩ [z57,z5Z] λp s=>jb  s
def Oi:Hints:=Hz [(0,IZ)] [] []
theorem z2j:LO Tryz.f128 IZ 0:=lk t27 (rz [1]) Oi [] zl
theorem zdT:zC Pz 128 ⟨[.ty ve],[.str,.bool],λx=>bq x⟩:=xx t27 (rz [1]) Oi Tryz.func128 [0] (zZ rfl z2j zl)
def t28:=t27.d zdT
theorem zd5:zC Pz 129 ⟨[.ty ve],[.bool],λx=>jN x⟩:=xx t28 (rz [1]) hN Tryz.func129 [] zl
def t29:=t28.d zd5
abbrev Y71:=jP [.ty .expr,.ty i64]->T (GF [.bool])
abbrev H71(F:Y71):=zC Pz 71 ⟨[.ty .expr,.ty i64],[.bool],F⟩
def T71(lG:Y71)(BG:H71 lG):Tb:=t29.d BG
def z0U(lG:Y71):zT:=Lz [] [Mi 1,Mr 2 .expr,Mi 5] UG [⟨.exit 1,Ge⟩,sT] λp s=>cu (λy0 y1=>lG (y0,y1)) p.1 p.2.1 p.2.2 s
def h71(lG:Y71):Hints:=Hz [(1,z0U lG)] [(3,4,.ways [⟨.normal,XQ⟩,sT]),(0,17,.ways [⟨.normal,⟨[Mb 82],[],[]⟩⟩])] []
theorem z8I(lG:Y71)(BG:H71 lG):LO Tryz.f71 (z0U lG) 1:=lk (T71 lG BG) (rz [2]) (h71 lG) [] zl
theorem z7q(lG:Y71)(BG:H71 lG):zC Pz 71 ⟨[.ty .expr,.ty i64],[.bool],λx=>mE (λy0 y1=>lG (y0,y1)) x.1 x.2⟩:=xx (T71 lG BG) (rz [2]) (h71 lG) Tryz.func71 [1] (zZ rfl (z8I lG BG) zl)
theorem zfn:zC Pz 71 ⟨[.ty .expr,.ty i64],[.bool],λx=>oU x.1 x.2⟩:=Xg (λlG x=>mE (λy0 y1=>lG (y0,y1)) x.1 x.2) (λx=>rfl) (λlG BG=>z7q lG BG)
def t30:=t29.d zfn
abbrev Y72:=jP [.ty .expr]->T (GF [i64])
abbrev H72(F:Y72):=zC Pz 72 ⟨[.ty .expr],[i64],F⟩
def T72(iW:Y72)(Cq:H72 iW):Tb:=t30.d Cq
def Ru(iW:Y72):zT:=Lz [] [Mr 1 .expr] PC [SU] λp s=>kY (λy0=>iW (y0)) p s
def h72(iW:Y72):Hints:=Hz [(0,Ru iW)] [] []
theorem z7c(iW:Y72)(Cq:H72 iW):LO Tryz.f72 (Ru iW) 0:=lk (T72 iW Cq) (rz [1]) (h72 iW) [] zl
theorem z7R(iW:Y72)(Cq:H72 iW):zC Pz 72 ⟨[.ty .expr],[i64],λx=>da (λy0=>iW (y0)) x⟩:=xx (T72 iW Cq) (rz [1]) (h72 iW) Tryz.func72 [0] (zZ rfl (z7c iW Cq) zl)
theorem zhp:zC Pz 72 ⟨[.ty .expr],[i64],λx=>nz x⟩:=Xg (λiW x=>da (λy0=>iW (y0)) x) (λx=>rfl) (λiW Cq=>z7R iW Cq)
def t31:=t30.d zhp
theorem zeR:zC Pz 33 ⟨[.ty .expr],[.bool],λx=>dx x⟩:=xx t31 (rz [1]) hN Tryz.func33 [] zl
def t32:=t31.d zeR
def Tj:zT:=Lz [] [Mr 1 qc] PC [bf,sY] λp s=>yb p s
def PI:zT:=Lz [] [Mr 1 qc] z4R [PO,sY] λp s=>kX p s
def h34:Hints:=Hz [(0,Tj),(2,PI)] [(0,6,.ways [⟨.normal,⟨[Mb 47,.v (.zI zN)],[],[.var (.zI zN)]⟩⟩]),(0,14,.ways [⟨.normal,⟨[Mb 101,.v (.zI zU)],[],[.var (.zI zU)]⟩⟩])] []
theorem z8c:LO Tryz.f34 Tj 0:=lk t32 (rz [1]) h34 [] zl
theorem z8u:LO Tryz.f34 PI 2:=lk t32 (rz [1]) h34 [] zl
theorem zgL:zC Pz 34 ⟨[.ty qc],[.bool],λx=>nc x⟩:=xx t32 (rz [1]) h34 Tryz.func34 [0,2] (zZ rfl z8c (zZ rfl z8u zl))
def t33:=t32.d zgL
def h73:Hints:=Hz [] [(0,3,.flat [Mb 24])] []
theorem zgt:zC Pz 73 ⟨[.ty ve],[.str],λx=>mD x⟩:=xx t33 (rz [1]) h73 Tryz.func73 [] zl
def t34:=t33.d zgt
theorem zg3:zC Pz 74 ⟨[.ty .str],[.str],λx=>rP x⟩:=xx t34 rn hN Tryz.func74 [] zl
def t35:=t34.d zg3
def h75:Hints:=Hz [] [(3,2,.flat [Ms 3])] []
theorem zeQ:zC Pz 75 ⟨[.ty zN],[.str],λx=>mX x⟩:=xx t35 (rz [1]) h75 Tryz.func75 [] zl
def t36:=t35.d zeQ
def zf4:Hints:=Hz [] [(3,2,.flat [Mb 4]),(3,5,.flat [Mb 7])] []
theorem zaZ:zC Pz 171 ⟨[.ty i64],[i64],λx=>oc x⟩:=xx t36 rn zf4 Tryz.func171 [] zl
def t37:=t36.d zaZ
abbrev z7j:=jP [.ty .expr,.ty i64]->T (GF [.str])
abbrev zeD(F:z7j):=zC Pz 132 ⟨[.ty .expr,.ty i64],[.str],F⟩
def zgX(XF:z7j):Hints:=Hz [] [(3,2,.ways [⟨.normal,TO⟩])] []
theorem z1v(XF:z7j)(Rx:zeD XF):zC Pz 132 ⟨[.ty .expr,.ty i64],[.str],λx=>iD (λy0 y1=>XF (y0,y1)) x.1 x.2⟩:=xx (t37.d Rx) (rz [2]) (zgX XF) Tryz.func132 [] zl
theorem zbs:zC Pz 132 ⟨[.ty .expr,.ty i64],[.str],λx=>rD x.1 x.2⟩:=Xg (λXF x=>iD (λy0 y1=>XF (y0,y1)) x.1 x.2) (λx=>rfl) (λXF Rx=>z1v XF Rx)
def t38:=t37.d zbs
theorem zhF:zC Pz 76 ⟨[.ty .expr],[.str],λx=>yr x⟩:=xx t38 (rz [1]) hN Tryz.func76 [] zl
def t39:=t38.d zhF
theorem zgQ:zC Pz 77 ⟨[.ty i64],[.str],λx=>ZK x⟩:=xx t39 rn hN Tryz.func77 [] zl
def t40:=t39.d zgQ
theorem zgB:zC Pz 19 ⟨[.ty i64],[.str],λx=>ya x⟩:=xx t40 rn hN Tryz.func19 [] zl
def t41:=t40.d zgB
def Sq:zT:=Lz [] [Mr 1 qc] ⟨[Ms 3,Mi 4],[],[]⟩ [⟨.exit 0,Uu⟩] λp s=>gX p s
def Sy:zT:=Lz [] [Mr 1 qc] ⟨[Ms 3,Mi 6],[],[]⟩ [⟨.exit 2,Uu⟩] λp s=>gY p s
def PU:zT:=Lz [] [Mr 1 qc,Mi 7] ⟨[Ms 3,Mi 8],[],[]⟩ [⟨.exit 6,Uu⟩] λp s=>gP p.1 p.2 s
def SD:zT:=Lz [] [Mr 1 qc,Mi 7] ⟨[Ms 3,Mi 9],[],[]⟩ [⟨.exit 8,Uu⟩] λp s=>hZ p.1 p.2 s
def TI:zT:=Lz [] [Mr 1 qc] ⟨[Ms 3,Mi 7],[],[]⟩ [⟨.exit 4,Uu⟩] λp s=>gn p s
def La:zT:=Lz [] [Mr 1 qc] ⟨[Ms 3,Mi 11],[],[]⟩ [⟨.exit 10,Uu⟩] λp s=>gw p s
def h35:Hints:=Hz [(0,Sq),(2,Sy),(6,PU),(8,SD),(4,TI),(10,La)] [(3,6,.flat [Ms 5])] []
theorem z7r:LO Tryz.f35 Sq 0:=lk t41 (rz [1]) h35 [] zl
theorem z6l:LO Tryz.f35 Sy 2:=lk t41 (rz [1]) h35 [] zl
theorem z6W:LO Tryz.f35 PU 6:=lk t41 (rz [1]) h35 [] zl
theorem z6t:LO Tryz.f35 SD 8:=lk t41 (rz [1]) h35 [] zl
theorem z7p:LO Tryz.f35 TI 4:=lk t41 (rz [1]) h35 [6,8] (zZ rfl z6W (zZ rfl z6t zl))
theorem z4x:LO Tryz.f35 La 10:=lk t41 (rz [1]) h35 [] zl
theorem zfc:zC Pz 35 ⟨[.ty qc],[.str],λx=>lZ x⟩:=xx t41 (rz [1]) h35 Tryz.func35 [0,2,4,10] (zZ rfl z7r (zZ rfl z6l (zZ rfl z7p (zZ rfl z4x zl))))
def t42:=t41.d zfc
def RW:zT:=Lz [] [Mr 1 qc] ZG [bf,sY] λp s=>dV p s
def T9:zT:=Lz [] [Mr 1 qc] ⟨[Mi 4],[],[]⟩ [PO,sY] λp s=>dP p s
def z0x:zT:=Lz [] [Mr 1 qc] XQ [⟨.exit 4,Ge⟩,sY] λp s=>fq p s
def z0c:zT:=Lz [] [Mr 1 qc] z52 [⟨.exit 6,Ge⟩,sY] λp s=>eQ p s
def h15:Hints:=Hz [(0,RW),(2,T9),(4,z0x),(6,z0c)] [(0,9,.ways [⟨.normal,⟨[Mb 47],[],[]⟩⟩]),(0,14,.ways [⟨.normal,⟨[Mb 72],[],[]⟩⟩]),(0,20,.ways [⟨.normal,⟨[Mb 116,.v (.zI q8)],[],[.var (.zI q8)]⟩⟩])] []
theorem z7A:LO Tryz.f15 RW 0:=lk t42 (rz [1]) h15 [] zl
theorem z6q:LO Tryz.f15 T9 2:=lk t42 (rz [1]) h15 [] zl
theorem z6o:LO Tryz.f15 z0x 4:=lk t42 (rz [1]) h15 [] zl
theorem z6h:LO Tryz.f15 z0c 6:=lk t42 (rz [1]) h15 [] zl
theorem zgO:zC Pz 15 ⟨[.ty qc],[.bool],λx=>Qn x⟩:=xx t42 (rz [1]) h15 Tryz.func15 [0,2,4,6] (zZ rfl z7A (zZ rfl z6q (zZ rfl z6o (zZ rfl z6h zl))))
def t43:=t42.d zgO
theorem zhU:zC Pz 18 ⟨[.ty qc],[.str],λx=>eA x⟩:=xx t43 (rz [1]) hN Tryz.func18 [] zl
def t44:=t43.d zhU
theorem zeJ:zC Tryz.prog 22 ⟨[.ty .str,.ty .str],[.sl .str],λx=>strings_Split x.1 x.2⟩:=by
 refine vp Tryz.func22 (by kernel_rfl) rfl λκ x zy y hy hI ha => ?_
 obtain⟨s,sep⟩:=x
 obtain⟨⟨h0,h1⟩,hy⟩:=hy
 cases hy
 obtain⟨v0,r,rfl,Ye,ha⟩:=qE.cons_inv (show qE κ [.zI .str s,.zI .str sep] zy from ha)
 obtain⟨v1,r,rfl,F8,ha⟩:=ha.cons_inv
 rw[ha.qg,Ye.wC,F8.wC]
 obtain⟨m,hm⟩:=wX hI
 refine(Go.Proofs.Tryz.strings_Split ⟨s.toArray⟩ ⟨sep.toArray⟩ m κ.w (by rw[show(ByteArray.size ⟨s.toArray⟩)=List.length s from List.size_toArray]; exact h0) hm (by rw[show(ByteArray.size ⟨sep.toArray⟩)=List.length sep from List.size_toArray]; simp only at h1; omega)).mono ?_
 rintro e w' ⟨rfl,rfl⟩
 refine⟨W9 _ _,λ_=>⟨_,rfl,?_⟩⟩
 exact RY s sep h1 _
def t45:=t44.d zeJ
theorem zgZ:zC Tryz.prog 52 ⟨[.ty .str,.ty .str],[.str,.str,.bool],λx=>strings_Cut x.1 x.2⟩:=by
 refine vp Tryz.func52 (by kernel_rfl) rfl λκ x zy y hy hI ha => ?_
 obtain⟨s,sep⟩:=x
 obtain⟨h0,hy⟩:=hy
 cases hy
 obtain⟨v0,r,rfl,Ye,ha⟩:=qE.cons_inv (show qE κ [.zI .str s,.zI .str sep] zy from ha)
 obtain⟨v1,r,rfl,F8,ha⟩:=ha.cons_inv
 rw[ha.qg,Ye.wC,F8.wC]
 obtain⟨m,hm⟩:=wX hI
 refine(Go.Proofs.Tryz.strings_Cut ⟨s.toArray⟩ ⟨sep.toArray⟩ m κ.w (by rw[show(ByteArray.size ⟨s.toArray⟩)=List.length s from List.size_toArray]; exact h0) hm).mono ?_
 rintro e w' ⟨rfl,n,rfl⟩
 refine⟨below_drewN _ _,λ_=>⟨_,rfl,?_⟩⟩
 rw[show Lib.cut (⟨s.toArray⟩:ByteArray).data.toList (⟨sep.toArray⟩:ByteArray).data.toList=wT s sep from Rv s sep]
 exact RD.zhL RD.str RD.str RD.bool
def t46:=t45.d zgZ
theorem zd0:zC Pz 108 ⟨[.ty (.int .i32)],[.bool],λx=>gv x⟩:=xx t46 rn hN Tryz.func108 [] zl
def t47:=t46.d zd0
theorem z1X(w:World):Go.Proofs.PredAtRunes Tryz.prog 108 #[] (λn=>n==32) w:=λW x hx hb=>by
 show Calls Tryz.prog 108 #[.int .i32 (x:Int)] W _
 have hn:Tryz.f108.ntmps=5:=by kernel_rfl
 have hd:((x:Int)==32)=(x==32):=by rw[Bool.eq_iff_iff,beq_iff_eq,beq_iff_eq]; omega
 go_enter Tryz.func108,hn
 go_wp2
 go_ret
 exact⟨by rw[<- hd]; rfl,0,rfl⟩
theorem z9L:zC Tryz.prog 107 ⟨[.ty .str,.qW 108 []],[.sl .str],λx=>strings_FieldsFunc x.1 (λz0=>gv z0)⟩:=by
 refine vp Tryz.func107 (by kernel_rfl) rfl λκ x zy y hy hI ha => ?_
 obtain⟨s,c⟩:=x
 obtain⟨h0,hy⟩:=hy
 cases hy
 obtain⟨v0,r,rfl,Ye,ha⟩:=qE.cons_inv (show qE κ [.zI .str s,.qW 108 []] zy from ha)
 obtain⟨v1,r,rfl,F8,ha⟩:=ha.cons_inv
 rw[ha.qg,Ye.wC,F8.z0u (by rfl)]
 refine(Go.Proofs.Tryz.strings_FieldsFunc_runes 108 #[] (λargs w=>nX Tryz.func108 (by kernel_rfl) rfl w) (λn=>n==32) ⟨s.toArray⟩ κ.w (by rw[show(ByteArray.size ⟨s.toArray⟩)=List.length s from List.size_toArray]; exact h0) (z1X κ.w)).mono ?_
 rintro e w' ⟨A,rfl,hA,ho,hB⟩
 refine⟨hB,λ_=>⟨_,rfl,?_⟩⟩
 exact Oo s ho
def t48:=t47.d z9L
theorem zf0:zC Pz 53 ⟨[.ty .str],[(.sl .str)],λx=>iv x⟩:=xx t48 rn hN Tryz.func53 [] zl
def t49:=t48.d zf0
def zeN:Hints:=Hz [] [(0,1,.flat [Mb 2])] []
theorem zbw:zC Pz 141 ⟨[.ty (.int .u8)],[.bool],λx=>wG x⟩:=xx t49 rn zeN Tryz.func141 [] zl
def t50:=t49.d zbw
def zgD:Hints:=Hz [] [(0,1,.flat [Mb 2])] []
theorem zcr:zC Pz 179 ⟨[.ty (.int .u8)],[.bool],λx=>xI x⟩:=xx t50 rn zgD Tryz.func179 [] zl
def t51:=t50.d zcr
theorem z9G:zC Pz 142 ⟨[.ty (.int .u8)],[.bool],λx=>vf x⟩:=xx t51 rn hN Tryz.func142 [] zl
def t52:=t51.d z9G
def PM:zT:=Lz [] [Ms 0,Mi 18] ⟨[Mi 19],[],[]⟩ [bf,sY] λp s=>kv p.1 p.2 s
def h87:Hints:=Hz [(0,PM)] [(0,1,.ways [⟨.normal,⟨[Mb 16],[],[]⟩⟩])] []
theorem z7z:LO Tryz.f87 PM 0:=lk t52 rn h87 [] zl
theorem zgq:zC Pz 87 ⟨[.ty .str],[.bool],λx=>xi x⟩:=xx t52 rn h87 Tryz.func87 [0] (zZ rfl z7z zl)
def t53:=t52.d zgq
theorem zc4:zC Tryz.prog 155 ⟨[.ty .str,.ty .str],[i64],λx=>strings_IndexAny x.1 x.2⟩:=by
 refine vp Tryz.func155 (by kernel_rfl) rfl λκ x zy y hy hI ha => ?_
 obtain⟨s,chars⟩:=x
 obtain⟨⟨h0,h1,h2,h3⟩,hy⟩:=hy
 cases hy
 obtain⟨v0,r,rfl,Ye,ha⟩:=qE.cons_inv (show qE κ [.zI .str s,.zI .str chars] zy from ha)
 obtain⟨v1,r,rfl,F8,ha⟩:=ha.cons_inv
 rw[ha.qg,Ye.wC,F8.wC]
 refine(Go.Proofs.Any.pQ Go.Proofs.Tryz.lays153 (λ_=>by kernel_rfl) (by kernel_rfl) ⟨s.toArray⟩ ⟨chars.toArray⟩ κ.w (by rw[show(ByteArray.size ⟨chars.toArray⟩)=List.length chars from List.size_toArray]; exact h1) (by rw[show(ByteArray.size ⟨s.toArray⟩)=List.length s from List.size_toArray]; exact h0) (by rw[show(ByteArray.size ⟨chars.toArray⟩)=List.length chars from List.size_toArray]; exact h2) h3).mono ?_
 rintro e w' ⟨rfl,hB⟩
 refine⟨hB,λ_=>⟨_,rfl,?_⟩⟩
 have e1:Lib.indexAny s chars=gW s chars:=Ys chars s
 show RD _ (.zI i64 (gW s chars)) _
 rw[<- e1]
 exact RD.int
def t54:=t53.d zc4
def zhH:Hints:=Hz [] [(0,1,.flat [Mb 4])] []
theorem zcq:zC Pz 193 ⟨[.ty .str,.ty .str],[.bool],λx=>xw x.1 x.2⟩:=xx t54 rn zhH Tryz.func193 [] zl
def t55:=t54.d zcq
theorem zdQ:zC Pz 156 ⟨[.ty .str,.ty .str],[.bool],λx=>strings_HasPrefix x.1 x.2⟩:=xx t55 rn hN Tryz.func156 [] zl
def t56:=t55.d zdQ
def Lu:zT:=Lz [] [] sn [PA] λp s=>xO  s
def zaW:Hints:=Hz [(0,Lu)] [(0,0,.flat [Mb 23])] []
theorem z1p:LO Tryz.f265 Lu 0:=lk t56 rn zaW [] zl
theorem zd2:xX Pz 265 ⟨[.ptr],sn,[],L1,0,λx=>uh x⟩:=Yw t56 rn zaW Tryz.func265 [0] (zZ rfl z1p zl)
def t57:=t56.s zd2
theorem z9Y:zC Tryz.prog 216 ⟨[.ty .str,.ty (.int .u8)],[i64],λx=>strings_IndexByte x.1 x.2⟩:=by
 refine vp Tryz.func216 (by kernel_rfl) rfl λκ x zy y hy hI ha => ?_
 obtain⟨s,c⟩:=x
 cases hy
 obtain⟨v0,r,rfl,Ye,ha⟩:=qE.cons_inv (show qE κ [.zI .str s,.zI (.int .u8) c] zy from ha)
 obtain⟨v1,r,rfl,F8,ha⟩:=ha.cons_inv
 rw[ha.qg,Ye.wC,F8.ym]
 refine(Go.Proofs.Tryz.strings_IndexByte ⟨s.toArray⟩ c κ.w).mono ?_
 rintro e w' ⟨rfl,rfl⟩
 refine⟨tD _,λ_=>⟨_,rfl,?_⟩⟩
 have e1:Lib.indexByte s (byteOf c)=o0 s (byteOf c):=z4k s (byteOf c)
 show RD _ (.zI i64 (o0 s (byteOf c))) _
 rw[<- e1]
 exact RD.int
def t58:=t57.d z9Y
def zfA:Hints:=Hz [] [(0,2,.ways [⟨.normal,⟨[Mb 30,.v (.zI zK)],[],tx⟩⟩])] []
theorem zax:xX Pz 250 ⟨Ur,⟨[Ms 1,.v (.zI zK)],[(0,.ptr 0 0)],tx⟩,[],⟨[Mm 0 (.int .u8),.v (.zI zK)],[],tx⟩,1,λx=>qY x.1 x.2⟩:=Yw t58 rn zfA Tryz.func250 [] zl
def t59:=t58.s zax
theorem zcN:kH Pz 220 ⟨L2,⟨[Mi 1,Mi 2,.v (.zI zK)],[(0,.ptr 0 0)],tx⟩,[],L1,0,226,QG,λx=>xM x.1 x.2.1 x.2.2⟩:=fkp t59 rn hN Tryz.func220 [] zl
def t60:=t59.p zcN
theorem z9A:kH Pz 266 ⟨[.ptr],sn,[],L1,0,226,QG,λx=>wK x⟩:=fkp t60 rn hN Tryz.func266 [] zl
def t61:=t60.p z9A
def L5:zT:=Lz [] [.s 1 (.qW 179 []),Mi 2,Mi 7] sn [PA] λp s=>qP (λz0=>xI z0) p.2.1 p.2.2 s
def zaF:Hints:=Hz [(0,L5)] [(0,2,.ways [z4V])] []
theorem z3W:LO Tryz.f268 L5 0:=lk t61 rn zaF [] zl
theorem zbT:xX Pz 268 ⟨[.ptr,.qW 179,.any],⟨[.s 1 (.qW 179 []),Mi 2,.v (.zI zK)],[(0,.ptr 0 0)],tx⟩,[],z5X,1,λx=>qX (λz0=>xI z0) x.2.1 x.2.2⟩:=Yw t61 rn zaF Tryz.func268 [0] (zZ rfl z3W zl)
def t62:=t61.s zbT
theorem zdE:zC Tryz.prog 159 ⟨[.ty .str,.ty .str],[.str,.bool],λx=>strings_CutPrefix x.1 x.2⟩:=by
 refine vp Tryz.func159 (by kernel_rfl) rfl λκ x zy y hy hI ha => ?_
 obtain⟨s,p⟩:=x
 cases hy
 obtain⟨v0,r,rfl,Ye,ha⟩:=qE.cons_inv (show qE κ [.zI .str s,.zI .str p] zy from ha)
 obtain⟨v1,r,rfl,F8,ha⟩:=ha.cons_inv
 rw[ha.qg,Ye.wC,F8.wC]
 refine(Go.Proofs.Tryz.strings_CutPrefix ⟨s.toArray⟩ ⟨p.toArray⟩ κ.w).mono ?_
 rintro e w' ⟨rfl,rfl⟩
 refine⟨tD _,λ_=>⟨_,rfl,?_⟩⟩
 exact RD.zaQ RD.str RD.bool
def t63:=t62.d zdE
def Lv:zT:=Lz [] [Mm 1 (.int .u8)] Dt [Lg] λp s=>kV p s
def zbF:Hints:=Hz [(0,Lv)] [(0,1,.flat [Mb 16])] []
theorem z4n:LO Tryz.f222 Lv 0:=lk t63 rn zbF [] zl
theorem zaJ:zC Pz 222 ⟨[.ty .str,.ty (.int .u8)],[.str],λx=>strings_trimRightByte x.1 x.2⟩:=xx t63 rn zbF Tryz.func222 [0] (zZ rfl z4n zl)
def t64:=t63.d zaJ
def Mf:zT:=Lz [] [Mm 1 (.int .u8)] Dt [Lg] λp s=>yL p s
def zco:Hints:=Hz [(0,Mf)] [(0,1,.flat [Mb 13])] []
theorem z3d:LO Tryz.f221 Mf 0:=lk t64 rn zco [] zl
theorem z9Q:zC Pz 221 ⟨[.ty .str,.ty (.int .u8)],[.str],λx=>strings_trimLeftByte x.1 x.2⟩:=xx t64 rn zco Tryz.func221 [0] (zZ rfl z3d zl)
def t65:=t64.d z9Q
theorem zbv:zC Tryz.prog 191 ⟨[.ty .str],[(di .bool 256),.bool],λx=>strings_makeASCIISet x⟩:=by
 refine vp Tryz.func191 (by kernel_rfl) rfl λκ s zy y hy hI ha => ?_
 obtain⟨⟨h0,h1⟩,hy⟩:=hy
 cases hy
 obtain⟨v0,r,rfl,Ye,ha⟩:=qE.cons_inv (show qE κ [.zI .str s] zy from ha)
 rw[ha.qg,Ye.wC]
 refine(Go.Proofs.Tryz.strings_makeASCIISet (λ_=>by kernel_rfl) ⟨s.toArray⟩ κ.w (by rw[show(ByteArray.size ⟨s.toArray⟩)=List.length s from List.size_toArray]; exact h0) (by simpa using h1)).mono ?_
 rintro e w' ⟨rfl,rfl⟩
 refine⟨W9 _ _,λ_=>⟨_,rfl,?_⟩⟩
 exact RD.zaQ (S8 s) RD.bool
def t66:=t65.d zbv
theorem zdo:zC Pz 192 ⟨[.rp (di .bool 256),.ty (.int .u8)],[.bool],λx=>xy x.1 x.2⟩:=xx t66 rn hN Tryz.func192 [] zl
def t67:=t66.d zdo
def ME:zT:=Lz [] [Mr 1 (di .bool 256)] Dt [Lg] λp s=>xz p s
def zaT:Hints:=Hz [(0,ME)] [] []
theorem z2Q:LO Tryz.f224 ME 0:=lk t67 rn zaT [] zl
theorem zcx:zC Pz 224 ⟨[.ty .str,.rp (di .bool 256)],[.str],λx=>vn x.1 x.2⟩:=xx t67 rn zaT Tryz.func224 [0] (zZ rfl z2Q zl)
def t68:=t67.d zcx
def Mz:zT:=Lz [] [Mr 1 (di .bool 256)] Dt [Lg] λp s=>xH p s
def zdi:Hints:=Hz [(0,Mz)] [] []
theorem z4G:LO Tryz.f223 Mz 0:=lk t68 rn zdi [] zl
theorem zb1:zC Pz 223 ⟨[.ty .str,.rp (di .bool 256)],[.str],λx=>vL x.1 x.2⟩:=xx t68 rn zdi Tryz.func223 [0] (zZ rfl z4G zl)
def t69:=t68.d zb1
def zgP:Hints:=Hz [] [(0,1,.flat [Mb 12]),(0,3,.flat [Mb 21])] []
theorem zcC:zC Pz 196 ⟨[.ty .str,.ty .str],[.str],λx=>kg x.1 x.2⟩:=xx t69 rn zgP Tryz.func196 [] zl
def t70:=t69.d zcC
def zhB:Hints:=Hz [] [(0,1,.flat [Mb 2])] []
theorem zce:zC Pz 144 ⟨[.ty (.sl u32)],[.bool],λx=>ft x⟩:=xx t70 rn zhB Tryz.func144 [] zl
def t71:=t70.d zce
def Mh:zT:=Lz [] [] SQ [⟨.exit 0,SQ⟩] λp s=>iC  s
def zaX:Hints:=Hz [(0,Mh)] [] []
theorem z1Y:LO Tryz.f176 Mh 0:=lk t71 rn zaX [] zl
theorem zad:zC Pz 176 ⟨[.ty (.sl u32)],[(.sl u32)],λx=>xN x⟩:=xx t71 rn zaX Tryz.func176 [0] (zZ rfl z1Y zl)
def t72:=t71.d zad
def LP:zT:=Lz [] [Mm 1 (.sl u32),Mi 6,Mm 7 u32,Mm 21 (.sl u32),Mi 22,Mi 23,Mm 28 (.sl u32),Mi 29] ⟨[Mm 8 (.int .u64),Mi 30,.a u32],[(5,.cur 0 u32)],yX⟩ [⟨.exit 2,⟨[Mm 8 (.int .u64),.a u32],[(5,.cur 0 u32)],yX⟩⟩] λp s=>nD p.1 p.2.1 p.2.2.1 p.2.2.2.1 p.2.2.2.2.1 p.2.2.2.2.2.1 p.2.2.2.2.2.2.1 p.2.2.2.2.2.2.2 s
def MG:zT:=Lz [] [Mm 1 (.sl u32),Mm 21 (.sl u32),Mi 22] ⟨[Mi 23,.a u32],[(5,.cur 0 u32)],yX⟩ [RL] λp s=>mo p.1 p.2.1 p.2.2 s
def z8q:Hints:=Hz [(2,LP),(0,MG)] [] [(16,[5])]
theorem z4q:LO Tryz.f198 LP 2:=lk t72 rn z8q [] zl
theorem z1O:LO Tryz.f198 MG 0:=lk t72 rn z8q [2] (zZ rfl z4q zl)
theorem zbZ:zC Pz 198 ⟨[.ty (.sl u32),.ty (.sl u32)],[(.sl u32)],λx=>rU x.1 x.2⟩:=xx t72 rn z8q Tryz.func198 [0] (zZ rfl z1O zl)
def t73:=t72.d zbZ
theorem zb7:zC Pz 137 ⟨[.ty (.int .u64)],[(.sl u32)],λx=>yC x⟩:=xx t73 rn hN Tryz.func137 [] zl
def t74:=t73.d zb7
def L4:zT:=Lz [] [Mm 0 (.sl u32),Mm 1 (.sl u32),Mm 24 (.sl u32),Mi 25] ⟨[Mm 6 (.int .u64),Mi 26,.a u32],[(5,.cur 0 u32)],yX⟩ [⟨.exit 0,⟨[Mm 6 (.int .u64),.a u32],[(5,.cur 0 u32)],yX⟩⟩] λp s=>nf p.1 p.2.1 p.2.2.1 p.2.2.2 s
def zd4:Hints:=Hz [(0,L4)] [(3,2,.flat [Mm 0 (.sl u32),Mm 1 (.sl u32)]),(3,10,.flat [Mm 6 (.int .u64)])] [(16,[5])]
theorem z2K:LO Tryz.f197 L4 0:=lk t74 rn zd4 [] zl
theorem zdl:zC Pz 197 ⟨[.ty (.sl u32),.ty (.sl u32)],[(.sl u32)],λx=>WQ x.1 x.2⟩:=xx t74 rn zd4 Tryz.func197 [0] (zZ rfl z2K zl)
def t75:=t74.d zdl
def MQ:zT:=Lz [] [Ms 0,Mi 19] ⟨[Mm 4 (.sl u32),Mi 20],[],[]⟩ [⟨.exit 0,⟨[Mm 4 (.sl u32)],[],[]⟩⟩] λp s=>gO p.1 p.2 s
def zdu:Hints:=Hz [(0,MQ)] [(0,1,.ways [z5m])] []
theorem z4B:LO Tryz.f160 MQ 0:=lk t75 rn zdu [] zl
theorem zbC:zC Pz 160 ⟨[.ty .str],[(.sl u32),.bool],λx=>vt x⟩:=xx t75 rn zdu Tryz.func160 [0] (zZ rfl z4B zl)
def t76:=t75.d zbC
def Iz:zT:=Lz [] [Mi 5] ⟨[Mm 3 (.sl u32),Mi 6],[],[]⟩ [⟨.exit 0,⟨[Mm 3 (.sl u32)],[],[]⟩⟩] λp s=>eM p s
def zcS:Hints:=Hz [(0,Iz)] [] []
theorem z2V:LO Tryz.f161 Iz 0:=lk t76 rn zcS [] zl
theorem zd7:zC Pz 161 ⟨[.ty i64],[(.sl u32)],λx=>rA x⟩:=xx t76 rn zcS Tryz.func161 [0] (zZ rfl z2V zl)
def t77:=t76.d zd7
def zgf:Hints:=Hz [] [(0,1,.zci)] []
theorem zat:zC Pz 203 ⟨[.ty (.sl u32)],[(.sl u32)],λx=>vo x⟩:=xx t77 rn zgf Tryz.func203 [] zl
def t78:=t77.d zat
theorem zar:zC Pz 173 ⟨[.ty (.sl u32)],[(.sl u32)],λx=>hO x⟩:=xx t78 rn hN Tryz.func173 [] zl
def t79:=t78.d zar
def Iq:zT:=Lz [] [Mm 0 (.sl u32),Mm 1 (.sl u32)] XQ [bf,Jy] λp s=>fm p.1 p.2 s
def zaD:Hints:=Hz [(0,Iq)] [] []
theorem z4D:LO Tryz.f136 Iq 0:=lk t79 rn zaD [] zl
theorem zbJ:zC Pz 136 ⟨[.ty (.sl u32),.ty (.sl u32)],[i64],λx=>mz x.1 x.2⟩:=xx t79 rn zaD Tryz.func136 [0] (zZ rfl z4D zl)
def t80:=t79.d zbJ
def zhe:Hints:=Hz [] [(0,1,.flat [Mb 15])] []
theorem zdv:zC Pz 204 ⟨[.ty u32,.ty u32,.ty u32],[u32,u32],λx=>yj x.1 x.2.1 x.2.2⟩:=xx t80 rn zhe Tryz.func204 [] zl
def t81:=t80.d zdv
def Mj:zT:=Lz [] [Mm 0 (.sl u32),Mm 1 u32] ⟨[Mm 7 u32,Mi 8,.a u32],[(6,.cur 0 u32)],yX⟩ [⟨.exit 0,⟨[Mm 7 u32,.a u32],[(6,.cur 0 u32)],yX⟩⟩] λp s=>dn p.1 p.2 s
def zbP:Hints:=Hz [(0,Mj)] [] [(7,[6])]
theorem z3J:LO Tryz.f174 Mj 0:=lk t81 rn zbP [] zl
theorem z9T:zC Pz 174 ⟨[.ty (.sl u32),.ty u32],[(.sl u32),u32],λx=>dD x.1 x.2⟩:=xx t81 rn zbP Tryz.func174 [0] (zZ rfl z3J zl)
def t82:=t81.d z9T
def zfj:Hints:=Hz [] [(3,1,.flat [Mm 0 u32,Mi 2]),(3,4,.flat [Mm 0 u32,Mi 2])] []
theorem zcH:zC Pz 247 ⟨[.ty u32],[i64],λx=>yl x⟩:=xx t82 rn zfj Tryz.func247 [] zl
def t83:=t82.d zcH
theorem zc1:zC Pz 232 ⟨[.ty u32],[i64],λx=>wD x⟩:=xx t83 rn hN Tryz.func232 [] zl
def t84:=t83.d zc1
def LN:zT:=Lz [] [Mm 1 (.int .u64),Mi 2,Mm 13 (.sl u32),Mi 14] z5k [S5] λp s=>sx p.1 p.2.1 p.2.2.1 p.2.2.2 s
def zdm:Hints:=Hz [(0,LN)] [] []
theorem z30:LO Tryz.f233 LN 0:=lk t84 rn zdm [] zl
theorem z5z:xX Pz 233 ⟨[.any,.any,.any],⟨[Mm 0 (.sl u32),Mm 1 (.int .u64),Mi 2],[],[]⟩,[],⟨[.a u32],[(0,.cur 0 u32)],yX⟩,1,λx=>fc x.1 x.2.1 x.2.2⟩:=Yw t84 rn zdm Tryz.func233 [0] (zZ rfl z30 zl)
def t85:=t84.s z5z
def Lk:zT:=Lz [] [Mm 2 u32,Mm 3 u32,Mm 4 u32] ⟨[Mm 12 (.int .u64),Mm 13 (.int .u64)],[],[]⟩ [⟨.exit 0,⟨[Mm 12 (.int .u64)],[],[]⟩⟩] λp s=>gf p.1 p.2.1 p.2.2 s
def zc8:Hints:=Hz [(0,Lk)] [(0,3,.flat [Mb 42])] []
theorem z1Q:LO Tryz.f234 Lk 0:=lk t85 rn zc8 [] zl
theorem zbV:zC Pz 234 ⟨[.ty u32,.ty u32,.ty u32,.ty u32,.ty u32],[(.int .u64)],λx=>dC x.1 x.2.1 x.2.2.1 x.2.2.2.1 x.2.2.2.2⟩:=xx t85 rn zc8 Tryz.func234 [0] (zZ rfl z1Q zl)
def t86:=t85.d zbV
theorem zd3:zC Pz 248 ⟨[.ty u32,.ty u32,.ty u32],[u32,u32],λx=>uT x.1 x.2.1 x.2.2⟩:=xx t86 rn hN Tryz.func248 [] zl
def t87:=t86.d zd3
theorem zcv:zC Pz 249 ⟨[.ty u32,.ty u32,.ty u32],[u32,u32],λx=>yk x.1 x.2.1 x.2.2⟩:=xx t87 rn hN Tryz.func249 [] zl
def t88:=t87.d zcv
def LU:zT:=Lz [] [Mm 1 (.sl u32),Mm 2 (.int .u64),Mm 14 (.sl u32),Mi 15] ⟨[.s 0 (.sub 0 u32),Mm 7 (.int .u64),Mm 8 u32,Mi 16,.a u32],[],yX⟩ [⟨.exit 0,⟨[.s 0 (.sub 0 u32),Mm 7 (.int .u64),Mm 8 u32,.a u32],[],yX⟩⟩] λp s=>hM p.1 p.2.1 p.2.2.1 p.2.2.2 s
def LY:zT:=Lz [] [Mm 1 (.sl u32),Mm 62 (.sl u32),Mi 63] ⟨[.s 0 (.sub 0 u32),Mm 11 u32,Mi 64,.a u32],[],yX⟩ [⟨.exit 2,⟨[.s 0 (.sub 0 u32),Mm 11 u32,.a u32],[],yX⟩⟩] λp s=>gN p.1 p.2.1 p.2.2 s
def z8z:Hints:=Hz [(0,LU),(2,LY)] [] []
theorem z3j:LO Tryz.f235 LU 0:=lk t88 rn z8z [] zl
theorem z4J:LO Tryz.f235 LY 2:=lk t88 rn z8z [] zl
theorem zdL:xX Pz 235 ⟨[.sub,.any,.any],⟨[.s 0 (.sub 0 u32),Mm 1 (.sl u32),Mm 2 (.int .u64),.a u32],[],yX⟩,[],⟨[Mb 0,.a u32],[],yX⟩,1,λx=>fZ x.1 x.2.1 x.2.2.1 x.2.2.2⟩:=Yw t88 rn z8z Tryz.func235 [0,2] (zZ rfl z3j (zZ rfl z4J zl))
def t89:=t88.s zdL
def Yp:zT:=Lz [] [Mm 1 (.int .u64),Mi 2,Mm 13 (.sl u32),Mi 14] z5k [S5] λp s=>cy p.1 p.2.1 p.2.2.1 p.2.2.2 s
def z0P:Hints:=Hz [(0,Yp)] [] []
theorem Oy:LO Tryz.f233 Yp 0:=lk t89 rn z0P [] zl
theorem Md:zC Pz 233 ⟨[.ty (.sl u32),.ty (.int .u64),.ty i64],[(.sl u32)],λx=>ZY x.1 x.2.1 x.2.2⟩:=xx t89 rn z0P Tryz.func233 [0] (zZ rfl Oy zl)
def t90:=t89.d Md
def zay:Tb:=t90.d Md
def Lp:zT:=Lz [] [Mm 6 (.int .u64),Mm 38 (.sl u32),Mi 39] ⟨[Mi 40,.a u32],[(7,.cur 0 u32)],yX⟩ [S5] λp s=>gM p.1 p.2.1 p.2.2 s
def z9V:Hints:=Hz [(0,Lp)] [] [(17,[7]),(21,[12])]
theorem z1U:LO Tryz.f236 Lp 0:=lk zay rn z9V [] zl
theorem zau:zC Pz 236 ⟨[.ty (.sl u32),.ty i64],[(.sl u32)],λx=>br x.1 x.2⟩:=xx zay rn z9V Tryz.func236 [0] (zZ rfl z1U zl)
def t91:=t90.d zau
def zaO:Tb:=t91.s z5z
def Mo:zT:=Lz [] [Mm 6 (.int .u64),Mm 8 (.sl u32),Mi 9] ⟨[Mi 10,.a u32,.a u32],[(4,.cur 2 u32),(7,.cur 0 u32)],[.arr u32,.dead,.arr u32]⟩ [⟨.exit 0,⟨[.a u32,.a u32],[(4,.cur 2 u32),(7,.cur 0 u32)],[.arr u32,.dead,.arr u32]⟩⟩] λp s=>c9 p.1 p.2.1 p.2.2 s
def zcK:Hints:=Hz [(0,Mo)] [(3,9,.ways [⟨.normal,⟨[Mm 11 (.int .u64),.a u32,.a u32],[(4,.cur 2 u32),(7,.cur 0 u32)],[.arr u32,.dead,.arr u32]⟩⟩])] [(5,[8]),(12,[4,7])]
theorem z2M:LO Tryz.f209 Mo 0:=lk zaO rn zcK [] zl
theorem zb5:zC Pz 209 ⟨[.ty (.sl u32),.ty (.sl u32)],[(.sl u32),(.sl u32)],λx=>Qb x.1 x.2⟩:=xx zaO rn zcK Tryz.func209 [0] (zZ rfl z2M zl)
def t92:=t91.d zb5
theorem zba:zC Pz 180 ⟨[.ty (.sl u32),.ty (.sl u32)],[(.sl u32),(.sl u32),.bool],λx=>yw x.1 x.2⟩:=xx t92 rn hN Tryz.func180 [] zl
def t93:=t92.d zba
def MT:zT:=Lz [] [] ⟨[Mm 0 (.sl u32),Mm 1 (.sl u32)],[],[]⟩ [⟨.exit 0,SQ⟩] λp s=>fk  s
def z9E:Hints:=Hz [(0,MT)] [] []
theorem z2E:LO Tryz.f145 MT 0:=lk t93 rn z9E [] zl
theorem zcV:zC Pz 145 ⟨[.ty (.sl u32),.ty (.sl u32)],[(.sl u32)],λx=>Zu x.1 x.2⟩:=xx t93 rn z9E Tryz.func145 [0] (zZ rfl z2E zl)
def t94:=t93.d zcV
def zhS:Hints:=Hz [] [(0,2,.flat [Mb 19])] []
theorem zcP:zC Pz 149 ⟨[.ty .bool,.ty (.sl u32),.ty (.sl u32)],[ve],λx=>nG x.1 x.2.1 x.2.2⟩:=xx t94 rn zhS Tryz.func149 [] zl
def t95:=t94.d zcP
def zhk:Hints:=Hz [] [(0,9,.flat [Mb 58]),(3,13,.flat [Ms 14]),(0,17,.flat [Mb 94])] []
theorem zbM:zC Pz 113 ⟨[.ty .str],[ve,i64],λx=>wu x⟩:=xx t95 rn zhk Tryz.func113 [] zl
def t96:=t95.d zbM
def zfZ:Hints:=Hz [] [(0,2,.flat [Mb 35]),(3,2,.ways [⟨.normal,⟨[Ms 3,.v (.zI zK),.v (.zI .expr)],[],L6⟩⟩,⟨.kB (.iface 226 .qV),⟨[Mm 0 xo,.v (.zI zK),.v (.zI .expr)],[],L6⟩⟩])] []
theorem zaf:kH Pz 267 ⟨[.ptr],sn,[],WL,1,226,QG,λx=>ua x⟩:=fkp t96 rn zfZ Tryz.func267 [] zl
def t97:=t96.p zaf
def KX:zT:=Lz [] [.s 1 (.qW 142 []),Mi 2,Mi 7] sn [PA] λp s=>qP (λz0=>vf z0) p.2.1 p.2.2 s
def TH:Hints:=Hz [(0,KX)] [(0,2,.ways [z4V])] []
theorem Nh:LO Tryz.f268 KX 0:=lk t97 rn TH [] zl
theorem Mq:xX Pz 268 ⟨[.ptr,.qW 142,.any],⟨[.s 1 (.qW 142 []),Mi 2,.v (.zI zK)],[(0,.ptr 0 0)],tx⟩,[],z5X,1,λx=>qX (λz0=>vf z0) x.2.1 x.2.2⟩:=Yw t97 rn TH Tryz.func268 [0] (zZ rfl Nh zl)
def t98:=t97.s Mq
abbrev z8Q:=vU.den sn->T (vU.den WL⊕vU.den QG)
abbrev zhy(F:z8Q):=kH Pz 251 ⟨[.ptr],sn,[],WL,1,226,QG,F⟩
abbrev sq:=vU.den sn->T (vU.den WL⊕vU.den QG)
abbrev Kp(F:sq):=kH Pz 219 ⟨[.ptr],sn,[],WL,1,226,QG,F⟩
def zf2(XI:z8Q)(qJ:sq):Hints:=Hz [] [(3,10,.ways [⟨.normal,S3⟩,⟨.kB (.iface 226 .qV),z0f⟩]),(0,14,.ways [⟨.normal,⟨[Mb 46,.v (.zI zK),.v (.zI .expr)],[],L6⟩⟩]),(0,16,.ways [⟨.normal,⟨[Mb 71,.v (.zI zK),.v (.zI .expr)],[],L6⟩⟩])] []
theorem z1K(XI:z8Q)(S4:zhy XI)(qJ:sq)(jJ:Kp qJ):kH Pz 251 ⟨[.ptr],sn,[],WL,1,226,QG,λx=>xW (λy0=>XI (y0)) (λy0=>qJ (y0)) x⟩:=fkp (((t98.s Mq).p jJ).p S4) rn (zf2 XI qJ) Tryz.func251 [] zl
theorem zcA(qJ:sq)(jJ:Kp qJ):kH Pz 251 ⟨[.ptr],sn,[],WL,1,226,QG,λx=>xm (λy0=>qJ (y0)) x⟩:=M5 (λXI x=>xW (λy0=>XI (y0)) (λy0=>qJ (y0)) x) (λx=>rfl) (λXI S4=>z1K XI S4 qJ jJ)
def zcZ(qJ:sq)(jJ:Kp qJ):Tb:=t98.p (zcA _ jJ)
def LX(qJ:sq):zT:=Lz [] [Ms 2,Mr 7 xo] ⟨[.v (.zI zK),.v (.zI .expr),.v (.zI .expr)],[(0,.ptr 0 0),(1,.qW 1000251 [(0,0)]),(8,.ptr 1 0),(9,.ptr 2 0)],Iy⟩ [⟨.ret,S3⟩,⟨.kB (.iface 226 .qV),z0f⟩] λp s=>wA (λy0=>qJ (y0)) p.1 p.2 s
def za6(qJ:sq):Hints:=Hz [(0,LX qJ)] [] []
theorem z1w(qJ:sq)(jJ:Kp qJ):LO Tryz.f237 (LX qJ) 0:=lk (zcZ qJ jJ) (rz [7]) (za6 qJ) [] zl
theorem zdj(qJ:sq)(jJ:Kp qJ):kH Pz 237 ⟨[.ptr,.qW 1000251,.any,.any],⟨[.s 1 (.mclo 1000251 [.pt 0]),Ms 2,Mm 3 xo,.v (.zI zK)],[(0,.ptr 0 0)],tx⟩,[],WL,1,226,QG,λx=>xA (λy0=>qJ (y0)) x.1 x.2.1 x.2.2.1 x.2.2.2⟩:=fkp (zcZ qJ jJ) (rz [7]) (za6 qJ) Tryz.func237 [0] (zZ rfl (z1w qJ jJ) zl)
theorem zbr(qJ:sq)(jJ:Kp qJ):kH Pz 238 ⟨[.ptr],sn,[],WL,1,226,QG,λx=>xa (λy0=>qJ (y0)) x⟩:=fkp (t98.p (zdj _ jJ)) rn hN Tryz.func238 [] zl
def T7(qJ:sq)(jJ:Kp qJ):Tb:=t98.p (zbr _ jJ)
def YI(qJ:sq):zT:=Lz [] [Ms 2,Mr 7 xo] ⟨[.v (.zI zK),.v (.zI .expr),.v (.zI .expr)],[(0,.ptr 0 0),(1,.qW 1000238 [(0,0)]),(8,.ptr 1 0),(9,.ptr 2 0)],Iy⟩ [⟨.ret,S3⟩,⟨.kB (.iface 226 .qV),z0f⟩] λp s=>wj (λy0=>qJ (y0)) p.1 p.2 s
def Re(qJ:sq):Hints:=Hz [(0,YI qJ)] [] []
theorem Om(qJ:sq)(jJ:Kp qJ):LO Tryz.f237 (YI qJ) 0:=lk (T7 qJ jJ) (rz [7]) (Re qJ) [] zl
theorem z3t(qJ:sq)(jJ:Kp qJ):kH Pz 237 ⟨[.ptr,.qW 1000238,.any,.any],⟨[.s 1 (.mclo 1000238 [.pt 0]),Ms 2,Mm 3 xo,.v (.zI zK)],[(0,.ptr 0 0)],tx⟩,[],WL,1,226,QG,λx=>xv (λy0=>qJ (y0)) x.1 x.2.1 x.2.2.1 x.2.2.2⟩:=fkp (T7 qJ jJ) (rz [7]) (Re qJ) Tryz.func237 [0] (zZ rfl (Om qJ jJ) zl)
theorem z2F(qJ:sq)(jJ:Kp qJ):kH Pz 219 ⟨[.ptr],sn,[],WL,1,226,QG,λx=>uz (λy0=>qJ (y0)) x⟩:=fkp (t98.p (z3t _ jJ)) rn hN Tryz.func219 [] zl
theorem z9s:kH Pz 219 ⟨[.ptr],sn,[],WL,1,226,QG,λx=>ud x⟩:=M5 (λqJ x=>uz (λy0=>qJ (y0)) x) (λx=>rfl) (λqJ jJ=>z2F qJ jJ)
def t99:=t98.p z9s
theorem zac:yx (OY Pz) 218 ⟨[.ptr,.ptr,.ptr],⟨[.v (.zI .expr),.v (.zI i64),.v (.zI i64)],[(0,.ptr 0 0),(1,.ptr 1 0),(2,.ptr 2 0)],z0y⟩,[],z5i,0,λx=>jW x.1 x.2.1 x.2.2⟩:=fkr t99 rn hN Tryz.func218
theorem z1Z:yx (Pe Pz 226) 218 ⟨[.ptr,.ptr,.ptr,.any],⟨[Mm 3 xo,.v (.zI .expr),.v (.zI i64),.v (.zI i64)],[(0,.ptr 0 0),(1,.ptr 1 0),(2,.ptr 2 0)],z0y⟩,[],z5i,0,λx=>jh x.1 x.2.1 x.2.2.1 x.2.2.2⟩:=fkh t99 rn hN Tryz.func218 3
theorem zbc:xX Pz 194 ⟨[.ptr],sn,[],⟨[Mm 0 .expr,Mi 1,Mi 2,.v (.zI zK)],[],tx⟩,3,λx=>jq x⟩:=fkf t99 rn hN (g:=218) (pt:=226) zac z1Z Tryz.func194
def t100:=t99.s zbc
def zhC:Hints:=Hz [] [(3,2,.flat [Mb 4])] []
theorem z9M:zC Pz 210 ⟨[.ty i64],[i64],λx=>rT x⟩:=xx t100 rn zhC Tryz.func210 [] zl
def t101:=t100.d z9M
def h90:Hints:=Hz [] [(0,1,.ways [⟨.normal,⟨[Mb 28],[],[]⟩⟩])] []
theorem zfM:zC Pz 90 ⟨[.ty ve],[.bool],λx=>tQ x⟩:=xx t101 (rz [1]) h90 Tryz.func90 [] zl
def t102:=t101.d zfM
theorem zbD:zC Pz 100 ⟨[.ty ve],[ve],λx=>eB x⟩:=xx t102 (rz [1]) hN Tryz.func100 [] zl
def t103:=t102.d zbD
def h91:Hints:=Hz [] [(0,2,.flat [Mb 2])] []
theorem zeZ:zC Pz 91 ⟨[.ty ve],[.bool],λx=>dL x⟩:=xx t103 rn h91 Tryz.func91 [] zl
def t104:=t103.d zeZ
theorem zdc:zC Pz 134 ⟨[.ty ve],[.str],λx=>oF x⟩:=xx t104 (rz [1]) hN Tryz.func134 [] zl
def t105:=t104.d zdc
def Is:zT:=Lz [] [] ⟨[.s 0 (.sub 0 (.int .u8)),Mi 2,Mi 3,.a (.int .u8)],[],Jm⟩ [⟨.exit 0,z61⟩] λp s=>xQ  s
def zbt:Hints:=Hz [(0,Is)] [] []
theorem z2R:LO Tryz.f175 Is 0:=lk t105 rn zbt [] zl
theorem zdS:xX Pz 175 ⟨[.sub],⟨[.s 0 (.sub 0 (.int .u8)),.a (.int .u8)],[],Jm⟩,[],z61,0,λx=>wJ x.1 x.2⟩:=Yw t105 rn zbt Tryz.func175 [0] (zZ rfl z2R zl)
def t106:=t105.s zdS
def IB:zT:=Lz [] [Mm 4 (.sl u32)] ⟨[Mm 5 u32,Mi 19,.a (.int .u8)],[(3,.cur 0 (.int .u8))],Jm⟩ [⟨.exit 2,z4S⟩] λp s=>gF p s
def L8:zT:=Lz [.slot 3 (.int .u8)] [] ⟨[Mm 0 (.sl u32),.a (.int .u8)],[(3,.cur 0 (.int .u8))],Jm⟩ [⟨.exit 0,z4S⟩] λp s=>gZ  s
def MN:zT:=Lz [] [] z5S [⟨.exit 4,z5S⟩] λp s=>gb  s
def z2X:Hints:=Hz [(2,IB),(0,L8),(4,MN)] [(0,13,.flat [Mb 42])] []
theorem z1P:LO Tryz.f135 IB 2:=lk t106 rn z2X [] zl
theorem z4f:LO Tryz.f135 L8 0:=lk t106 rn z2X [2] (zZ rfl z1P zl)
theorem z1r:LO Tryz.f135 MN 4:=lk t106 rn z2X [] zl
theorem zca:zC Pz 135 ⟨[.ty (.sl u32)],[.str],λx=>dK x⟩:=xx t106 rn z2X Tryz.func135 [0,4] (zZ rfl z4f (zZ rfl z1r zl))
def t107:=t106.d zca
theorem zb8:zC Tryz.prog 246 ⟨[.ty .str,.ty i64],[.str],λx=>strings_Repeat x.1 x.2⟩:=by
 refine vp Tryz.func246 (by kernel_rfl) rfl λκ x zy y hy hI ha => ?_
 obtain⟨s,n⟩:=x
 obtain⟨⟨h0,h1,h2⟩,hy⟩:=hy
 cases hy
 obtain⟨v0,r,rfl,Ye,ha⟩:=qE.cons_inv (show qE κ [.zI .str s,.zI i64 n] zy from ha)
 obtain⟨v1,r,rfl,F8,ha⟩:=ha.cons_inv
 rw[ha.qg,Ye.wC,F8.ym]
 obtain⟨m,rfl⟩:=Int.eq_ofNat_of_zero_le h0
 refine(Go.Proofs.Tryz.strings_Repeat ⟨s.toArray⟩ m κ.w (by simp only at h1; omega) (by rw[show(ByteArray.size ⟨s.toArray⟩)=List.length s from List.size_toArray]; simpa using h2)).mono ?_
 rintro e w' ⟨rfl,hB⟩
 refine⟨hB,λ_=>⟨_,rfl,?_⟩⟩
 have e1:Lib.repeatL s m=jS s m:=IK s m
 have e2:(Int.toNat (m:Int))=m:=by omega
 show RD _ (.zI .str (jS s (Int.toNat (m:Int)))) _
 rw[e2,<- e1]
 exact RD.str
def t108:=t107.d zb8
theorem zap:zC Pz 231 ⟨[.ty .str,.ty i64],[.str],λx=>iw x.1 x.2⟩:=xx t108 rn hN Tryz.func231 [] zl
def t109:=t108.d zap
def IH:zT:=Lz [] [] ⟨[Mi 10,.v (.zI ve)],[(1,.ptr 0 0)],[.var (.zI ve)]⟩ [z57,z5Z] λp s=>k8  s
def zdB:Hints:=Hz [(0,IH)] [] []
theorem z2w:LO Tryz.f206 IH 0:=lk t109 rn zdB [] zl
theorem zc9:zC Pz 206 ⟨[.ty ve],[.str,.bool],λx=>lq x⟩:=xx t109 rn zdB Tryz.func206 [0] (zZ rfl z2w zl)
def t110:=t109.d zc9
def zfP:Hints:=Hz [] [(0,1,.ways [⟨.normal,⟨[Mb 15],[],[]⟩⟩])] []
theorem zah:zC Pz 211 ⟨[.ty ve],[.bool],λx=>mZ x⟩:=xx t110 (rz [1]) zfP Tryz.func211 [] zl
def t111:=t110.d zah
theorem zdz:zC Pz 212 ⟨[.ty ve],[.bool],λx=>c6 x⟩:=xx t111 (rz [1]) hN Tryz.func212 [] zl
def t112:=t111.d zdz
theorem zbQ:zC Pz 181 ⟨[.ty .expr],[.bool],λx=>yP x⟩:=xx t112 (rz [1]) hN Tryz.func181 [] zl
def t113:=t112.d zbQ
abbrev Ky:=vU.den Io->T (vU.den MO)
abbrev NB(F:Ky):=xX Pz 147 ⟨Iu,Io,[],MO,1,F⟩
theorem z9v(vJ:Ky)(fK:NB vJ):xX Pz 183 ⟨Iu,⟨[Mm 0 .expr,Mr 1 i64,.v (.zI i64)],[(2,.ptr 0 0)],[.cvar (.ptr 1 0),.var (.zI i64)]⟩,[],z4Z,1,λx=>j6 (λy0 y1 y2=>vJ (y0,y1,y2)) x.1 x.2.1 x.2.2⟩:=Yw (t113.s fK) (rz [3]) hN Tryz.func183 [] zl
def z9H(vJ:Ky)(fK:NB vJ):Tb:=t113.s (z9v _ fK)
def MZ(vJ:Ky):zT:=Lz [] [Mm 0 (.sl .expr),Mi 7] ⟨[.s 1 (.mclo 183 [.rp i64,.pt 0]),Mi 8,.v (.zI i64)],[],[.cvar (.ptr 1 0),.var (.zI i64)]⟩ [⟨.exit 0,⟨[.v (.zI i64)],[],[.cvar (.ptr 1 0),.var (.zI i64)]⟩⟩,⟨.ret,⟨[Mi 4,.v (.zI i64)],[],[.cvar (.ptr 1 0),.var (.zI i64)]⟩⟩] λp s=>zB (λy0 y1 y2=>vJ (y0,y1,y2)) p.1 p.2 s
def z9P(vJ:Ky):Hints:=Hz [(0,MZ vJ)] [] []
theorem z3M(vJ:Ky)(fK:NB vJ):LO Tryz.f213 (MZ vJ) 0:=lk (z9H vJ fK) rn (z9P vJ) [] zl
theorem z9D(vJ:Ky)(fK:NB vJ):xX Pz 213 ⟨[.any,.qW 183],z4W,[],⟨[Mi 0,.v (.zI i64)],[],[.cvar (.ptr 1 0),.var (.zI i64)]⟩,1,λx=>qD (λy0 y1 y2=>vJ (y0,y1,y2)) x.1 x.2.1 x.2.2⟩:=Yw (z9H vJ fK) rn (z9P vJ) Tryz.func213 [0] (zZ rfl (z3M vJ fK) zl)
theorem za9(vJ:Ky)(fK:NB vJ):xX Pz 182 ⟨[.any,.qW 183],z4W,[],z4Z,1,λx=>q7 (λy0 y1 y2=>vJ (y0,y1,y2)) x.1 x.2.1 x.2.2⟩:=Yw (t113.s (z9D _ fK)) rn hN Tryz.func182 [] zl
def zhP(vJ:Ky):Hints:=Hz [] [(0,2,.ways [⟨.normal,⟨[Mb 24,.v (.zI i64)],[],[.var (.zI i64),.cvar (.ptr 0 0)]⟩⟩])] []
theorem z2C(vJ:Ky)(fK:NB vJ):xX Pz 147 ⟨Iu,Io,[],MO,1,λx=>gJ (λy0 y1 y2=>vJ (y0,y1,y2)) x.1 x.2.1 x.2.2⟩:=Yw (t113.s (za9 _ fK)) (rz [3,4]) (zhP vJ) Tryz.func147 [] zl
theorem zdd:xX Pz 147 ⟨Iu,Io,[],MO,1,λx=>jy x.1 x.2.1 x.2.2⟩:=z3P (λvJ x=>gJ (λy0 y1 y2=>vJ (y0,y1,y2)) x.1 x.2.1 x.2.2) (λx=>rfl) (λvJ fK=>z2C vJ fK)
def t114:=t113.s zdd
theorem zgY:zC Pz 97 ⟨[.ty .expr],[.bool],λx=>uA x⟩:=xx t114 (rz [1]) hN Tryz.func97 [] zl
def t115:=t114.d zgY
def zgv:Hints:=Hz [] [(0,5,.ways [⟨.normal,⟨[Mb 31,.v (.zI .expr),.v (.zI zK),.v (.zI .expr)],[],[.var (.zI .expr),.var (.zI zK),.var (.zI .expr)]⟩⟩])] []
theorem zch:zC Pz 157 ⟨[.ty .str],[.expr,i64,i64],λx=>jz x⟩:=xx t115 rn zgv Tryz.func157 [] zl
def t116:=t115.d zch
theorem zai:zC Tryz.prog 158 ⟨[.ty .str,.ty .str],[.bool],λx=>strings_Contains x.1 x.2⟩:=by
 refine vp Tryz.func158 (by kernel_rfl) rfl λκ x zy y hy hI ha => ?_
 obtain⟨s,sub⟩:=x
 obtain⟨h0,hy⟩:=hy
 cases hy
 obtain⟨v0,r,rfl,Ye,ha⟩:=qE.cons_inv (show qE κ [.zI .str s,.zI .str sub] zy from ha)
 obtain⟨v1,r,rfl,F8,ha⟩:=ha.cons_inv
 rw[ha.qg,Ye.wC,F8.wC]
 obtain⟨m,hm⟩:=wX hI
 refine(Go.Proofs.Tryz.strings_Contains ⟨s.toArray⟩ ⟨sub.toArray⟩ m κ.w (by rw[show(ByteArray.size ⟨s.toArray⟩)=List.length s from List.size_toArray]; exact h0) hm).mono ?_
 rintro e w' ⟨rfl,rfl⟩
 refine⟨tD _,λ_=>⟨_,rfl,?_⟩⟩
 have e1:Lib.contains s sub=decide ((0:Int)<=cV s sub):=contains_eq s sub
 show RD _ (.zI .bool (decide ((0:Int)<=cV s sub))) _
 rw[<- e1]
 exact RD.bool
def t117:=t116.d zai
def zfG:Hints:=Hz [] [(0,6,.ways [⟨.normal,⟨[Mb 34,.v (.zI .expr),.v (.zI .expr)],[],Mw⟩⟩]),(3,6,.ways [⟨.normal,⟨[Ms 6,Ms 10,.v (.zI .expr),.v (.zI .expr)],[],Mw⟩⟩]),(0,12,.ways [⟨.normal,⟨[Mb 61,.v (.zI .expr),.v (.zI .expr)],[],Mw⟩⟩]),(3,11,.ways [⟨.normal,⟨[Mi 7,.v (.zI .expr),.v (.zI .expr)],[],Mw⟩⟩])] []
theorem zbz:zC Pz 109 ⟨[.ty .str,.ty .str],[.expr,.expr,.str,i64],λx=>vz x.1 x.2⟩:=xx t117 rn zfG Tryz.func109 [] zl
def t118:=t117.d zbz
theorem zfF:zC Pz 96 ⟨[],[(.sl .str)],λ_=>wQ⟩:=xx t118 rn hN Tryz.func96 [] zl
def t119:=t118.d zfF
def LQ:zT:=Lz [] [Mm 0 (.sl .str),Ms 1,Mi 7] UG [bf,Jy] λp s=>qN p.1 p.2.1 p.2.2 s
def zcn:Hints:=Hz [(0,LQ)] [] []
theorem z1s:LO Tryz.f110 LQ 0:=lk t119 rn zcn [] zl
theorem zbK:zC Pz 110 ⟨[.ty (.sl .str),.ty .str],[i64],λx=>qQ x.1 x.2⟩:=xx t119 rn zcn Tryz.func110 [0] (zZ rfl z1s zl)
def t120:=t119.d zbK
theorem zeM:zC Pz 81 ⟨[],[(.sl .str)],λ_=>xJ⟩:=xx t120 rn hN Tryz.func81 [] zl
def t122:=t120.d zeM
theorem zcp:zC Pz 111 ⟨[.ty (.sl .str),.ty .str],[.bool],λx=>we x.1 x.2⟩:=xx t122 rn hN Tryz.func111 [] zl
def t123:=t122.d zcp
def zhq:Hints:=Hz [] [(0,1,.flat [Mb 8])] []
theorem zb3:zC Pz 114 ⟨[.ty (.sl .str),.ty i64,.ty i64,.ty .str],[.bool],λx=>wa x.1 x.2.1 x.2.2.1 x.2.2.2⟩:=xx t123 rn zhq Tryz.func114 [] zl
def t124:=t123.d zb3
def zgw:Hints:=Hz [] [(0,3,.ways [⟨.normal,⟨[Mb 11],[],[]⟩⟩])] []
theorem zdq:zC Pz 112 ⟨[.ty (.sl .str),.ty i64],[.str,.bool],λx=>jR x.1 x.2⟩:=xx t124 rn zgw Tryz.func112 [] zl
def t125:=t124.d zdq
def zds:Hints:=Hz [] [(0,1,.ways [⟨.normal,⟨[Mb 29,.v tB,.a zx,.a zM,.a zV,.a zN,.a q8,.a zU],[],Kv⟩⟩])] []
theorem Tu:xX Pz 54 ⟨L2,z5G,[],z02,1,λx=>vd x.1 x.2.1 x.2.2.1 x.2.2.2.1 x.2.2.2.2.1 x.2.2.2.2.2.1 x.2.2.2.2.2.2.1 x.2.2.2.2.2.2.2.1 x.2.2.2.2.2.2.2.2⟩:=Yw t125 rn zds Tryz.func54 [] zl
def t140:=t125.s Tu
def zbG:Hints:=Hz [] [(0,1,.ways [⟨.normal,⟨[Mb 31,.v tB,.a zx,.a zM,.a zV,.a zN,.a q8,.a zU],[],Kv⟩⟩])] []
theorem PW:xX Pz 55 ⟨L2,z5G,[],z02,1,λx=>wo x.1 x.2.1 x.2.2.1 x.2.2.2.1 x.2.2.2.2.1 x.2.2.2.2.2.1 x.2.2.2.2.2.2.1 x.2.2.2.2.2.2.2.1 x.2.2.2.2.2.2.2.2⟩:=Yw t140 rn zbG Tryz.func55 [] zl
def t141:=t140.s PW
def za2:Hints:=Hz [] [(0,1,.ways [⟨.normal,⟨[Mb 26,.v tB,.a zx,.a zM,.a zV,.a zN,.a q8,.a zU],[],Kv⟩⟩])] []
theorem Si:xX Pz 56 ⟨Ur,MS,[],Mn,1,λx=>uR x.1 x.2.1 x.2.2.1 x.2.2.2.1 x.2.2.2.2.1 x.2.2.2.2.2.1 x.2.2.2.2.2.2.1 x.2.2.2.2.2.2.2⟩:=Yw t141 rn za2 Tryz.func56 [] zl
def t142:=t141.s Si
def z9u:Hints:=Hz [] [(0,1,.ways [z4Y])] []
theorem TV:xX Pz 57 ⟨Ur,MS,[],Mn,1,λx=>uf x.1 x.2.1 x.2.2.1 x.2.2.2.1 x.2.2.2.2.1 x.2.2.2.2.2.1 x.2.2.2.2.2.2.1 x.2.2.2.2.2.2.2⟩:=Yw t142 rn z9u Tryz.func57 [] zl
def t143:=t142.s TV
def zao:Hints:=Hz [] [(0,1,.ways [z4Y])] []
theorem RH:xX Pz 58 ⟨Ur,MS,[],Mn,1,λx=>vF x.1 x.2.1 x.2.2.1 x.2.2.2.1 x.2.2.2.2.1 x.2.2.2.2.2.1 x.2.2.2.2.2.2.1 x.2.2.2.2.2.2.2⟩:=Yw t143 rn zao Tryz.func58 [] zl
def t144:=t143.s RH
def h59:Hints:=Hz [] [(0,1,.ways [⟨.normal,⟨[Mb 23,.v tB,.a zx,.a zM,.a zV,.a zN,.a q8,.a zU],[],Kv⟩⟩]),(0,5,.flat [Mb 44]),(3,5,.ways [z5f]),(0,8,.ways [⟨.normal,⟨[Mb 68,.v tB,.a zx,.a zM,.a zV,.a zN,.a q8,.a zU,.v (.zI zN)],[],[.var tB,.arr zx,.arr zM,.arr zV,.arr zN,.arr q8,.arr zU,.var (.zI zN)]⟩⟩]),(3,8,.ways [z5f])] []
theorem zgR:xX Pz 59 ⟨Ur,MS,[],Mn,1,λx=>ue x.1 x.2.1 x.2.2.1 x.2.2.2.1 x.2.2.2.2.1 x.2.2.2.2.2.1 x.2.2.2.2.2.2.1 x.2.2.2.2.2.2.2⟩:=Yw t144 rn h59 Tryz.func59 [] zl
def t145:=t144.s zgR
def h23:Hints:=Hz [] [(0,3,.flat [Mb 36]),(0,7,.flat [Mb 41]),(0,9,.flat [Mb 53])] []
theorem zfb:xX Pz 23 ⟨Ur,⟨[Ms 1,.v tB,.a zx,.a zM,.a zV,.a zN,.a q8,.a zU],[(0,.ptr 0 0)],Kv⟩,[],z02,1,λx=>dm x.1 x.2.1 x.2.2.1 x.2.2.2.1 x.2.2.2.2.1 x.2.2.2.2.2.1 x.2.2.2.2.2.2.1 x.2.2.2.2.2.2.2⟩:=Yw (((((t145.s RH).s TV).s Si).s PW).s Tu) rn h23 Tryz.func23 [] zl
def t146:=t145.s zfb
theorem zhv:zC Pz 86 ⟨[.ty zx],[.bool],λx=>vE x⟩:=xx t146 (rz [1]) hN Tryz.func86 [] zl
def t147:=t146.d zhv
def Lo:zT:=Lz [] [Mm 0 (.sl zx),.s 1 (.qW 86 []),Mi 7] UG [bf,Jy] λp s=>qL p.1 (λz0=>vE z0) p.2.2 s
def zdG:Hints:=Hz [(0,Lo)] [] []
theorem z2a:LO Tryz.f140 Lo 0:=lk t147 rn zdG [] zl
theorem zda:zC Pz 140 ⟨[.ty (.sl zx),.qW 86 []],[i64],λx=>xY x.1 (λz0=>vE z0)⟩:=xx t147 rn zdG Tryz.func140 [0] (zZ rfl z2a zl)
def t148:=t147.d zda
theorem zgo:zC Pz 85 ⟨[.ty (.sl zx),.qW 86 []],[.bool],λx=>qK x.1 (λz0=>vE z0)⟩:=xx t148 rn hN Tryz.func85 [] zl
def t149:=t148.d zgo
theorem zeK:zC Pz 89 ⟨[.ty zM],[.bool],λx=>vC x⟩:=xx t149 (rz [1]) hN Tryz.func89 [] zl
def t150:=t149.d zeK
def LR:zT:=Lz [] [Mm 0 (.sl zM),.s 1 (.qW 89 []),Mi 7] UG [bf,Jy] λp s=>qT p.1 (λz0=>vC z0) p.2.2 s
def zcj:Hints:=Hz [(0,LR)] [] []
theorem z4s:LO Tryz.f143 LR 0:=lk t150 rn zcj [] zl
theorem zdK:zC Pz 143 ⟨[.ty (.sl zM),.qW 89 []],[i64],λx=>wc x.1 (λz0=>vC z0)⟩:=xx t150 rn zcj Tryz.func143 [0] (zZ rfl z4s zl)
def t151:=t150.d zdK
theorem zeS:zC Pz 88 ⟨[.ty (.sl zM),.qW 89 []],[.bool],λx=>qU x.1 (λz0=>vC z0)⟩:=xx t151 rn hN Tryz.func88 [] zl
def t152:=t151.d zeS
theorem zh7:zC Pz 94 ⟨[.ty .str],[.bool],λx=>ke x⟩:=xx t152 rn hN Tryz.func94 [] zl
def t153:=t152.d zh7
theorem zg7:zC Pz 93 ⟨[.ty zV],[.bool],λx=>vD x⟩:=xx t153 (rz [1]) hN Tryz.func93 [] zl
def t154:=t153.d zg7
def ID:zT:=Lz [] [Mm 0 (.sl zV),.s 1 (.qW 93 []),Mi 7] UG [bf,Jy] λp s=>xg p.1 (λz0=>vD z0) p.2.2 s
def zdp:Hints:=Hz [(0,ID)] [] []
theorem z1t:LO Tryz.f146 ID 0:=lk t154 rn zdp [] zl
theorem zbu:zC Pz 146 ⟨[.ty (.sl zV),.qW 93 []],[i64],λx=>wI x.1 (λz0=>vD z0)⟩:=xx t154 rn zdp Tryz.func146 [0] (zZ rfl z1t zl)
def t155:=t154.d zbu
theorem zgc:zC Pz 92 ⟨[.ty (.sl zV),.qW 93 []],[.bool],λx=>xe x.1 (λz0=>vD z0)⟩:=xx t155 rn hN Tryz.func92 [] zl
def t156:=t155.d zgc
theorem zgG:zC Pz 37 ⟨[.ty qc],[.bool],λx=>fR x⟩:=xx t156 (rz [1]) hN Tryz.func37 [] zl
def t157:=t156.d zgG
def h95:Hints:=Hz [] [(0,1,.flat [Mb 6])] []
theorem zfN:zC Pz 95 ⟨[.ty i64,.ty i64,.ty i64],[.bool],λx=>gR x.1 x.2.1 x.2.2⟩:=xx t157 rn h95 Tryz.func95 [] zl
def t158:=t157.d zfN
def Px:zT:=Lz [] [Mr 1 qc,Mm 7 (.sl zN),Mi 8] z0O [bf,sY] λp s=>uV p.1 p.2.1 p.2.2 s
def h38:Hints:=Hz [(0,Px)] [(0,5,.ways [⟨.normal,⟨[Mb 36,.v (.zI zN)],[],[.var (.zI zN)]⟩⟩])] []
theorem z6m:LO Tryz.f38 Px 0:=lk t158 (rz [1]) h38 [] zl
theorem zgx:zC Pz 38 ⟨[.ty qc],[.bool],λx=>de x⟩:=xx t158 (rz [1]) h38 Tryz.func38 [0] (zZ rfl z6m zl)
def t159:=t158.d zgx
theorem zfl:zC Pz 99 ⟨[.ty q8],[.bool],λx=>w8 x⟩:=xx t159 (rz [1]) hN Tryz.func99 [] zl
def t160:=t159.d zfl
def Lt:zT:=Lz [] [Mm 0 (.sl q8),.s 1 (.qW 99 []),Mi 7] UG [bf,Jy] λp s=>xb p.1 (λz0=>w8 z0) p.2.2 s
def zcU:Hints:=Hz [(0,Lt)] [] []
theorem z3Y:LO Tryz.f148 Lt 0:=lk t160 rn zcU [] zl
theorem zdC:zC Pz 148 ⟨[.ty (.sl q8),.qW 99 []],[i64],λx=>wE x.1 (λz0=>w8 z0)⟩:=xx t160 rn zcU Tryz.func148 [0] (zZ rfl z3Y zl)
def t161:=t160.d zdC
theorem zh0:zC Pz 98 ⟨[.ty (.sl q8),.qW 99 []],[.bool],λx=>xh x.1 (λz0=>w8 z0)⟩:=xx t161 rn hN Tryz.func98 [] zl
def t162:=t161.d zh0
def SW:zT:=Lz [] [Mr 1 qc,Mm 7 (.sl zU),Mi 8] z0O [bf,sY] λp s=>uZ p.1 p.2.1 p.2.2 s
def h39:Hints:=Hz [(0,SW)] [(0,5,.ways [⟨.normal,⟨[Mb 50,.v (.zI zU)],[],[.var (.zI zU)]⟩⟩])] []
theorem z7T:LO Tryz.f39 SW 0:=lk t162 (rz [1]) h39 [] zl
theorem zfT:zC Pz 39 ⟨[.ty qc],[.bool],λx=>dh x⟩:=xx t162 (rz [1]) h39 Tryz.func39 [0] (zZ rfl z7T zl)
def t163:=t162.d zfT
end Go.AM.Lf
namespace Go.Proofs
section
open Go.RowKit
attribute [local go_sem] Oper.semAt_some
set_option maxRecDepth 100000
set_option maxHeartbeats 2000000
theorem pq.size:(Tryz.prog.info? 111).map (·.size)=some 2:=by kernel_rfl
theorem pq.pt:Tryz.prog.underlying 109=some (.pointer 111):=by kernel_rfl
theorem pq.up:Tryz.prog.underlying 191=some .unsafePointer:=by kernel_rfl
theorem pq.used(b:Nat)(w:World)(h0:w.cell? ⟨b,0,none⟩=some (.pointer (some ⟨b,0,none⟩))) :
  Calls Tryz.prog 133 #[.pointer (some ⟨b,0,none⟩)] w λe w'=>e=.returned (.tuple #[])/\w'=w:=by
 obtain⟨j,hj,hjs⟩:=Option.map_eq_some_iff.1 pq.size
 go_enter Tryz.func133,Tryz.ntmps133
 go_wp2
 rw[Lib.run_neq_ptr_same w _ pq.pt hj]
 go_wp2
 go_end0
 exact⟨rfl,rfl⟩
theorem pq.fresh(b:Nat)(w:World)(h0:w.cell? ⟨b,0,none⟩=some (.pointer none))(hsh:w.shape? b=some (111,2))(hfz:w.frozen? ⟨b,0,none⟩=false) :
  Calls Tryz.prog 133 #[.pointer (some ⟨b,0,none⟩)] w λe w'=>e=.returned (.tuple #[])/\w'=w.setCell ⟨b,0,none⟩ (.pointer (some ⟨b,0,none⟩)):=by
 obtain⟨j,hj,hjs⟩:=Option.map_eq_some_iff.1 pq.size
 go_enter Tryz.func133,Tryz.ntmps133
 go_wp2
 rw[Lib.run_to_unsafe w ⟨b,0,none⟩ pq.pt pq.up hj (by rw[hjs]; decide) hsh (Nat.zero_lt_succ 1)]
 simp only[Result.andThen]
 rw[Oper.upon_value]
 go_wp2
 rw[run_callFunc_extern Tryz.func172 (by kernel_rfl) (by kernel_rfl) (by kernel_rfl) (e:=Extern.AbiNoEscape.same) (by kernel_rfl)]
 rw[Lib.run_noEscape]
 simp only[Result.andThen]
 rw[Oper.upon_value]
 go_wp2
 rw[Lib.run_from_unsafe w ⟨b,0,none⟩ pq.up pq.pt hj hsh (by kernel_rfl)]
 simp only[Result.andThen]
 rw[Oper.upon_value]
 go_wp2
 go_end0
 exact⟨rfl,rfl⟩
end
end Go.Proofs

namespace Go.AM.Lf
open Go.Proofs
theorem zdt:xX Tryz.prog 133 ⟨[.ptr],z5M,[],Wb,0,λx=>iI x.1 x.2⟩:=GP (P:=Tryz.prog) (g:=133) (t:=111) (enters_of Tryz.func133 (by kernel_rfl) rfl) pq.used pq.fresh
def t164:=t163.s zdt
theorem zhi:xX Pz 78 ⟨Ur,⟨[Ms 1,.v WM,.a (.int .u8)],[(0,.ptr 0 0)],UR⟩,[.pcell 0 1 (.int .u8)],⟨[Mi 0,.v WM,.a (.int .u8)],[(1,.qV)],UR⟩,2,λx=>q9 x.1 x.2.1 x.2.2⟩:=Yw t164 rn hN Tryz.func78 [] zl
def t165:=t164.s zhi
theorem zh5:zC Pz 79 ⟨[.ty ve],[.str],λx=>lI x⟩:=xx t165 rn hN Tryz.func79 [] zl
def t166:=t165.d zh5
theorem zfO:zC Pz 82 ⟨[.ty .str],[.str],λx=>eZ x⟩:=xx t166 rn hN Tryz.func82 [] zl
def t167:=t166.d zfO
theorem zb4:zC Tryz.prog 177 ⟨[.ty i64],[.str],λx=>strconv_Itoa x⟩:=by
 refine vp Tryz.func177 (by kernel_rfl) rfl λκ n zy y hy hI ha => ?_
 obtain⟨⟨h0,h1⟩,hy⟩:=hy
 cases hy
 obtain⟨v0,r,rfl,Ye,ha⟩:=qE.cons_inv (show qE κ [.zI i64 n] zy from ha)
 rw[ha.qg,Ye.ym]
 refine(Go.Proofs.Tryz.strconv_Itoa n h0 h1 κ.w (yV hI)).mono ?_
 rintro e w' ⟨rfl,k,os,rfl⟩
 refine⟨Ep _ _ _,λ_=>⟨_,rfl,?_⟩⟩
 have e1:Lib.itoa n=cQ n:=PE n
 show RD _ (.zI .str (cQ n)) _
 rw[<- e1]
 exact RD.str
def t168:=t167.d zb4
def zgr:Hints:=Hz [] [(3,2,.flat [Ms 3])] []
theorem z9C:zC Pz 138 ⟨[.ty zN],[.str],λx=>iA x⟩:=xx t168 (rz [1]) zgr Tryz.func138 [] zl
def t169:=t168.d z9C
def zf7:Hints:=Hz [] [(3,2,.flat [Mb 5]),(3,5,.flat [Mb 8])] []
theorem zc3:zC Pz 208 ⟨[.ty .expr],[i64],λx=>bK x⟩:=xx t169 (rz [1]) zf7 Tryz.func208 [] zl
def t170:=t169.d zc3
abbrev z3U:=jP [.ty .expr]->T (GF [.str])
abbrev z9R(F:z3U):=zC Pz 178 ⟨[.ty .expr],[.str],F⟩
theorem zcY(oR:z3U)(BY:z9R oR):zC Pz 207 ⟨[.ty .expr,.ty i64],[.str],λx=>yS (λy0=>oR (y0)) x.1 x.2⟩:=xx (t170.d BY) (rz [2]) hN Tryz.func207 [] zl
def zfq(oR:z3U):Hints:=Hz [] [(3,2,.ways [⟨.normal,Uu⟩,⟨.ret,⟨[Ms 2],[],[]⟩⟩])] []
theorem z3o(oR:z3U)(BY:z9R oR):zC Pz 178 ⟨[.ty .expr],[.str],λx=>dc (λy0=>oR (y0)) x⟩:=xx (t170.d (zcY _ BY)) (rz [1]) (zfq oR) Tryz.func178 [] zl
theorem zcD:zC Pz 178 ⟨[.ty .expr],[.str],λx=>mV x⟩:=Xg (λoR x=>dc (λy0=>oR (y0)) x) (λx=>rfl) (λoR BY=>z3o oR BY)
def t171:=t170.d zcD
theorem zaV:zC Pz 139 ⟨[.ty .expr],[.str],λx=>eP x⟩:=xx t171 (rz [1]) hN Tryz.func139 [] zl
def t172:=t171.d zaV
theorem zgU:zC Pz 83 ⟨[.ty .expr,.ty .str,.ty .expr],[.str],λx=>cz x.1 x.2.1 x.2.2⟩:=xx t172 (rz [3,5]) hN Tryz.func83 [] zl
def t173:=t172.d zgU
def T1:zT:=Lz [] [Mi 2,Mr 4 qc,Mm 29 (.sl zN),Mi 30] ⟨[Mi 31,.v WM,.a (.int .u8)],[(0,.ptr 0 0)],UR⟩ [⟨.exit 0,Wb⟩] λp s=>uU p.1 p.2.1 p.2.2.1 p.2.2.2 s
def z04:zT:=Lz [] [Mi 2,Mm 45 (.sl zU),Mi 46] ⟨[Mi 47,.v WM,.a (.int .u8)],[(0,.ptr 0 0)],UR⟩ [⟨.exit 2,Wb⟩] λp s=>uW p.1 p.2.1 p.2.2 s
def h80:Hints:=Hz [(0,T1),(2,z04)] [] []
theorem z7o:LO Tryz.f80 T1 0:=lk t173 (rz [4]) h80 [] zl
theorem z6s:LO Tryz.f80 z04 2:=lk t173 (rz [4]) h80 [] zl
theorem zg2:xX Pz 80 ⟨L2,⟨[Mm 1 qc,Mi 2,.v WM,.a (.int .u8)],[(0,.ptr 0 0)],UR⟩,[.pcell 0 1 (.int .u8)],Wb,0,λx=>cU x.1 x.2.1 x.2.2.1 x.2.2.2⟩:=Yw t173 (rz [4]) h80 Tryz.func80 [0,2] (zZ rfl z7o (zZ rfl z6s zl))
def t174:=t173.s zg2
end Go.AM.Lf
namespace Go.Proofs
section
open Go.RowKit
attribute [local go_sem] Oper.semAt_some
set_option maxRecDepth 100000
set_option maxHeartbeats 2000000
theorem pq.mixed:Tryz.prog.follows .mixedOrders=true:=by kernel_rfl
theorem pq.pb:Tryz.prog.underlying 161=some (.pointer 5):=by kernel_rfl
theorem pq.c5:Tryz.prog.cellsOf 5=1:=by kernel_rfl
theorem pq.z0t(W:World)(q:Option Addr):(Builtin.unsafeString_ #[161,3] 9 #[.pointer q,.int .i64 0]).run Tryz.prog W=.ok (.string .empty) W:=Lib.run_unsafeString_none W _ _ _ q
theorem pq.nil(b:Nat)(p:Value)(w:World)(DQ:w.heap[b]? = some (.cells #[p,.slice none 0 0] 111 (0,0))) :
  Calls Tryz.prog 84 #[.pointer (some ⟨b,0,none⟩)] w λe w'=>e=.returned (.string ⟨#[]⟩)/\w'=w.drew:=by
 have hUS:=pq.z0t
 have c1:w.drew.cell? ⟨b,1,none⟩=some (.slice none 0 0):=by
  have:w.drew.heap[b]? = some (.cells #[p,.slice none 0 0] 111 (0,0)):=DQ
  rw[Lib.cell_of_heap this]; rfl
 have hSD:(Builtin.unsafeSliceData_ #[77] 161 #[.slice none 0 0]).run Tryz.prog w.drew=.ok (.pointer none) w.drew:=rfl
 have mixed:Tryz.prog.follows .mixedOrders=true:=pq.mixed
 go_enter Tryz.func84,Tryz.ntmps84
 go_wp2
 go_region_o
 all_goals (go_wp2; go_ret; exact⟨rfl,rfl⟩)
theorem pq.room(b g o cap:Nat)(p:Value)(w:World)(hc0:cap≠0)(DQ:w.heap[b]? = some (.cells #[p,.slice (some ⟨g,o,none⟩) 0 cap] 111 (0,0))) :
  Calls Tryz.prog 84 #[.pointer (some ⟨b,0,none⟩)] w λe w'=>e=.returned (.string ⟨#[]⟩)/\w'=w.drew:=by
 have hUS:=pq.z0t
 have c1:w.drew.cell? ⟨b,1,none⟩=some (.slice (some ⟨g,o,none⟩) 0 cap):=by
  have:w.drew.heap[b]? = some (.cells #[p,.slice (some ⟨g,o,none⟩) 0 cap] 111 (0,0)):=DQ
  rw[Lib.cell_of_heap this]; rfl
 have hSD:(Builtin.unsafeSliceData_ #[77] 161 #[.slice (some ⟨g,o,none⟩) 0 cap]).run Tryz.prog w.drew=.ok (.pointer (some ⟨g,o,none⟩)) w.drew :=
  Lib.run_unsafeSliceData_row _ _ _ _ _ _ hc0
 clear hc0
 have mixed:Tryz.prog.follows .mixedOrders=true:=pq.mixed
 go_enter Tryz.func84,Tryz.ntmps84
 go_wp2
 go_region_o
 all_goals (go_wp2; go_ret; exact⟨rfl,rfl⟩)
theorem pq.full(b g cap:Nat)(p:Value)(cur:Array Value)(l:List UInt8)(w:World)(h0:l≠[])(vc:l.length<=cap)(z25:l.length<=140737488355328)(DQ:w.heap[b]? = some (.cells #[p,.slice (some ⟨g,0,none⟩) l.length cap] 111 (0,0)))
  (hg:w.heap[g]? = some (.cells cur 5 (0,0))) (zjT:l.length<=cur.size) (sJ:∀ j x,l[j]? = some x->w.cell? ⟨g,j,none⟩=some (.int .u8 x.toNat)) :
  Calls Tryz.prog 84 #[.pointer (some ⟨b,0,none⟩)] w λe w'=>e=.returned (.string ⟨l.toArray⟩)/\w'=w.drew.freeze ⟨g,0,none⟩ l.length:=by
 have hl0:l.length≠0:=by simpa using h0
 have c1:w.drew.cell? ⟨b,1,none⟩=some (.slice (some ⟨g,0,none⟩) l.length cap):=by
  have:w.drew.heap[b]? = some (.cells #[p,.slice (some ⟨g,0,none⟩) l.length cap] 111 (0,0)):=DQ
  rw[Lib.cell_of_heap this]; rfl
 have hSD:(Builtin.unsafeSliceData_ #[77] 161 #[.slice (some ⟨g,0,none⟩) l.length cap]).run Tryz.prog w.drew=.ok (.pointer (some ⟨g,0,none⟩)) w.drew :=
  Lib.run_unsafeSliceData_row _ _ _ _ _ _ (by omega)
 have hUS:(Builtin.unsafeString_ #[161,3] 9 #[.pointer (some ⟨g,0,none⟩),.int .i64 l.length]).run Tryz.prog w.drew=.ok (.string ⟨l.toArray⟩) (w.drew.freeze ⟨g,0,none⟩ l.length):=by
  refine Lib.run_unsafeString_row w.drew 161 3 9 5 pq.pb pq.c5 g cur.size (by have hg':w.drew.heap[g]? = some (.cells cur 5 (0,0)):=hg; simp[World.shape?,hg']) l h0 (by omega) (by omega) ?_
  intro j x hx
  have e:(⟨g,0,none⟩:Addr).add j=⟨g,j,none⟩:=by unfold Addr.add; split<;>simp_all
  rw[e]
  exact sJ j x hx
 have mixed:Tryz.prog.follows .mixedOrders=true:=pq.mixed
 go_enter Tryz.func84,Tryz.ntmps84
 go_wp2
 go_region_o
 all_goals (go_wp2; go_ret; exact⟨rfl,rfl⟩)
theorem pq.z7P(b g o:Nat)(p:Value)(cur:Array Value)(w:World)(DQ:w.heap[b]? = some (.cells #[p,.slice (some ⟨g,o,none⟩) 0 0] 111 (0,0)))(hg:w.heap[g]? = some (.cells cur 5 (0,0))) :
  Calls Tryz.prog 84 #[.pointer (some ⟨b,0,none⟩)] w λe w'=>e=.returned (.string ⟨#[]⟩)/\w'=w.drew.alloc (.view ⟨g,o,none⟩ 5):=by
 have hUS:=pq.z0t
 have qu:b<w.heap.size:=by
  rcases Nat.lt_or_ge b w.heap.size with h' | h'
  ·exact h'
  ·simp[Array.getElem?_eq_none h']at DQ
 have c1:w.drew.cell? ⟨b,1,none⟩=some (.slice (some ⟨g,o,none⟩) 0 0):=by
  have:w.drew.heap[b]? = some (.cells #[p,.slice (some ⟨g,o,none⟩) 0 0] 111 (0,0)):=DQ
  rw[Lib.cell_of_heap this]; rfl
 have hSD:(Builtin.unsafeSliceData_ #[77] 161 #[.slice (some ⟨g,o,none⟩) 0 0]).run Tryz.prog w.drew=.ok (.pointer (some ⟨w.drew.heap.size,0,none⟩)) (w.drew.alloc (.view ⟨g,o,none⟩ 5)) :=
  Lib.run_unsafeSliceData_zero w.drew _ _ 5 pq.pb ⟨g,o,none⟩ 0 (5,cur.size) (by have hg':w.drew.heap[g]? = some (.cells cur 5 (0,0)):=hg; simp[World.shape?,hg'])
 have c2:(w.drew.alloc (.view ⟨g,o,none⟩ 5)).cell? ⟨b,1,none⟩=some (.slice (some ⟨g,o,none⟩) 0 0):=by
  have:(w.drew.alloc (.view ⟨g,o,none⟩ 5)).heap[b]? = _:=(Lib.alloc_old w.drew _ b qu).trans DQ
  rw[Lib.cell_of_heap this]; rfl
 have c3:(w.alloc (.view ⟨g,o,none⟩ 5)).drew.cell? ⟨b,1,none⟩=some (.slice (some ⟨g,o,none⟩) 0 0):=c2
 have c0:w.cell? ⟨b,1,none⟩=some (.slice (some ⟨g,o,none⟩) 0 0):=c1
 have mixed:Tryz.prog.follows .mixedOrders=true:=pq.mixed
 go_enter Tryz.func84,Tryz.ntmps84
 go_wp2
 go_region_o
 all_goals (go_wp2; go_ret; exact⟨rfl,rfl⟩)
end
end Go.Proofs

namespace Go.AM.Lf
open Go.Proofs
theorem zgC:xX Tryz.prog 84 ⟨[.ptr],z5M,[],⟨[Ms 0,.v (.st [.op 0 111,.un])],[],[.var (.st [.op 0 111,.un]),.dead]⟩,1,λx=>nu x.1 x.2⟩:=Nr (P:=Tryz.prog) (g:=84) (t:=111) (enters_of Tryz.func84 (by kernel_rfl) rfl) pq.nil pq.room pq.full pq.z7P
def t175:=t174.s zgC
def z0r:zT:=Lz [.cell 0 1 (.int .u8)] [Mr 1 qc,Mm 13 (.sl zx),Mi 14] ⟨[Mi 15,.v WM,.a (.int .u8)],[(3,.ptr 0 0)],UR⟩ [⟨.exit 0,Wb⟩] λp s=>jT p.1 p.2.1 p.2.2 s
def Sg:zT:=Lz [] [Mr 1 qc,Mm 29 (.sl zM),Mi 30] ⟨[Mi 31,.v WM,.a (.int .u8)],[(3,.ptr 0 0)],UR⟩ [⟨.exit 2,Wb⟩] λp s=>jO p.1 p.2.1 p.2.2 s
def z0S:zT:=Lz [] [Mr 1 qc,Mi 48] ⟨[Mi 49,.v WM,.a (.int .u8)],[(3,.ptr 0 0)],UR⟩ [⟨.exit 4,Wb⟩] λp s=>jX p.1 p.2 s
def z0a:zT:=Lz [] [Mm 57 (.sl q8),Mi 58] ⟨[Mi 59,.v WM,.a (.int .u8)],[(3,.ptr 0 0)],UR⟩ [⟨.exit 6,Wb⟩] λp s=>jB p.1 p.2 s
def RJ:Hints:=Hz [(0,z0r),(2,Sg),(4,z0S),(6,z0a)] [(3,6,.flat [Ms 6])] []
theorem z86:LO Tryz.f36 z0r 0:=lk t175 (rz [1]) RJ [] zl
theorem z7S:LO Tryz.f36 Sg 2:=lk t175 (rz [1]) RJ [] zl
theorem z7m:LO Tryz.f36 z0S 4:=lk t175 (rz [1]) RJ [] zl
theorem z7x:LO Tryz.f36 z0a 6:=lk t175 (rz [1]) RJ [] zl
theorem zga:zC Pz 36 ⟨[.ty qc],[.str],λx=>bW x⟩:=xx t175 (rz [1]) RJ Tryz.func36 [0,2,4,6] (zZ rfl z86 (zZ rfl z7S (zZ rfl z7m (zZ rfl z7x zl))))
def t176:=t175.d zga
theorem zeT:zC Pz 20 ⟨[.ty qc],[.bool],λx=>lh x⟩:=xx t176 (rz [1]) hN Tryz.func20 [] zl
def t177:=t176.d zeT
def PV:zT:=Lz [.cell 0 5 zU,.cell 1 5 zU,.cell 0 4 q8,.cell 1 4 q8,.cell 0 0 zx,.cell 1 0 zx,.cell 0 1 zM,.cell 1 1 zM,.cell 0 2 zV,.cell 1 2 zV,.cell 0 3 zN,.cell 1 3 zN] [Mm 14 (.sl .str),Mi 15] ⟨[Mi 16,.v Tg,.v Sz,.a zU,.a zU,.a q8,.a q8,.a zx,.a zx,.a zM,.a zM,.a zV,.a zV,.a zN,.a zN],[(2,.ptr 0 0),(5,.ptr 1 0)],z4X⟩ [⟨.exit 0,⟨[.v Tg,.v Sz,.a zU,.a zU,.a q8,.a q8,.a zx,.a zx,.a zM,.a zM,.a zV,.a zV,.a zN,.a zN],[],z4X⟩⟩,⟨.ret,⟨[Mi 3,Mi 4,.v (.zI qc),.v Sz,.a zU,.a zU,.a q8,.a q8,.a zx,.a zx,.a zM,.a zM,.a zV,.a zV,.a zN,.a zN],[],[.var (.zI qc),.var Sz,.arr zU,.arr zU,.arr q8,.arr q8,.arr zx,.arr zx,.arr zM,.arr zM,.arr zV,.arr zV,.arr zN,.arr zN]⟩⟩] λp s=>jM p.1 p.2 s
def h10:Hints:=Hz [(0,PV)] [] []
theorem z8m:LO Tryz.f10 PV 0:=lk t177 rn h10 [] zl
theorem zfy:zC Pz 10 ⟨[.ty .str],[qc,i64,i64],λx=>jA x⟩:=xx t177 rn h10 Tryz.func10 [0] (zZ rfl z8m zl)
def t178:=t177.d zfy
theorem zh8:zC Pz 26 ⟨[.ty ve,.ty ve],[.bool],λx=>bB x.1 x.2⟩:=xx t178 (rz [2,3]) hN Tryz.func26 [] zl
def t179:=t178.d zh8
abbrev Y66:=jP [.ty .expr,.ty .expr]->T (GF [.bool])
abbrev H66(F:Y66):=zC Pz 66 ⟨[.ty .expr,.ty .expr],[.bool],F⟩
def T66(lK:Y66)(DC:H66 lK):Tb:=t179.d DC
def PF(lK:Y66):zT:=Lz [] [Mr 2 .expr,Mr 3 .expr] XQ [bf,sT] λp s=>gz (λy0 y1=>lK (y0,y1)) p.1 p.2 s
def h66(lK:Y66):Hints:=Hz [(0,PF lK)] [(0,1,.ways [⟨.normal,⟨[Mb 34],[],[]⟩⟩])] []
theorem z73(lK:Y66)(DC:H66 lK):LO Tryz.f66 (PF lK) 0:=lk (T66 lK DC) (rz [2,3]) (h66 lK) [] zl
theorem z89(lK:Y66)(DC:H66 lK):zC Pz 66 ⟨[.ty .expr,.ty .expr],[.bool],λx=>fM (λy0 y1=>lK (y0,y1)) x.1 x.2⟩:=xx (T66 lK DC) (rz [2,3]) (h66 lK) Tryz.func66 [0] (zZ rfl (z73 lK DC) zl)
theorem zeH:zC Pz 66 ⟨[.ty .expr,.ty .expr],[.bool],λx=>bI x.1 x.2⟩:=Xg (λlK x=>fM (λy0 y1=>lK (y0,y1)) x.1 x.2) (λx=>rfl) (λlK DC=>z89 lK DC)
def t180:=t179.d zeH
def RU:zT:=Lz [] [Mm 0 (.sl q8),Mm 1 (.sl q8)] XQ [bf,sT] λp s=>ug p.1 p.2 s
def h27:Hints:=Hz [(0,RU)] [(0,6,.ways [z5b])] []
theorem z8F:LO Tryz.f27 RU 0:=lk t180 rn h27 [] zl
theorem zfU:zC Pz 27 ⟨[.ty (.sl q8),.ty (.sl q8)],[.bool],λx=>gp x.1 x.2⟩:=xx t180 rn h27 Tryz.func27 [0] (zZ rfl z8F zl)
def t181:=t180.d zfU
def Rb:zT:=Lz [] [Mm 0 (.sl zU),Mm 1 (.sl zU)] XQ [bf,sT] λp s=>vG p.1 p.2 s
def h28:Hints:=Hz [(0,Rb)] [(0,6,.ways [z5b])] []
theorem z6v:LO Tryz.f28 Rb 0:=lk t181 rn h28 [] zl
theorem zfY:zC Pz 28 ⟨[.ty (.sl zU),.ty (.sl zU)],[.bool],λx=>yf x.1 x.2⟩:=xx t181 rn h28 Tryz.func28 [0] (zZ rfl z6v zl)
def t182:=t181.d zfY
def Rl:zT:=Lz [] [Mr 2 qc,Mr 3 qc] XQ [bf,sT] λp s=>b7 p.1 p.2 s
def Th:zT:=Lz [] [Mr 2 qc,Mr 3 qc] z52 [PO,sT] λp s=>gV p.1 p.2 s
def Sl:zT:=Lz [] [Mr 2 qc,Mr 3 qc] z5a [⟨.exit 4,Ge⟩,sT] λp s=>gE p.1 p.2 s
def TD:zT:=Lz [] [Mr 2 qc,Mr 3 qc] UG [⟨.exit 6,Ge⟩,sT] λp s=>gG p.1 p.2 s
def h12:Hints:=Hz [(0,Rl),(2,Th),(4,Sl),(6,TD)] [(0,1,.flat [Mb 42]),(0,11,.ways [⟨.normal,⟨[Mb 96],[],[]⟩⟩])] []
theorem z8l:LO Tryz.f12 Rl 0:=lk t182 (rz [2,3]) h12 [] zl
theorem z8V:LO Tryz.f12 Th 2:=lk t182 (rz [2,3]) h12 [] zl
theorem z8d:LO Tryz.f12 Sl 4:=lk t182 (rz [2,3]) h12 [] zl
theorem z7Q:LO Tryz.f12 TD 6:=lk t182 (rz [2,3]) h12 [] zl
theorem zhV:zC Pz 12 ⟨[.ty qc,.ty qc],[.bool],λx=>dH x.1 x.2⟩:=xx t182 (rz [2,3]) h12 Tryz.func12 [0,2,4,6] (zZ rfl z8l (zZ rfl z8V (zZ rfl z8d (zZ rfl z7Q zl))))
def t183:=t182.d zhV
theorem zht:zC Pz 16 ⟨[.ty qc],[.str],λx=>fH x⟩:=xx t183 (rz [1]) hN Tryz.func16 [] zl
def t184:=t183.d zht
theorem zhJ:zC Pz 13 ⟨[],[.bool],λ_=>mn⟩:=xx t184 rn hN Tryz.func13 [] zl
def t185:=t184.d zhJ
def h7:Hints:=Hz [] [(0,1,.ways [⟨.normal,⟨[Mb 23],[],[]⟩⟩]),(0,4,.flat [Mb 47])] []
theorem ok7:zC Pz 7 ⟨[.ty qc,.ty i64],[.bool],λx=>gi x.1 x.2⟩:=xx t185 (rz [2]) h7 Tryz.func7 [] zl
def t186:=t185.d ok7
end Go.AM.Lf
