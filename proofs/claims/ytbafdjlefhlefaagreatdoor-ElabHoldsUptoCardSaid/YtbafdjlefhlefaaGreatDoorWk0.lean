/-
  The walk, part 0: each function of the program is the tree that the lifted text says; printed by a program of ours.
-/
import Derived.Test.YtbafdjlefhlefaaGreatDoorProg
import Derived.KernelRfl
import Derived.Test.YtbafdjlefhlefaaGreatDoorAmD
import Derived.Test.YtbafdjlefhlefaaGreatDoorLf1
import Derived.Lib.Builder
import Derived.Shelf.Strings.Builder1
import Derived.WalkKit
import Derived.TacticsInMore
import Derived.Maps.OwnOps
import Derived.Maps.AppendAt
import Derived.StringKeys
import Derived.Maps.Views
import Derived.Test.YtbafdjlefhlefaaGreatDoorSh
set_option linter.unusedVariables false
set_option maxRecDepth 100000
noncomputable section
namespace Go.AM.Lf
open Go.Proofs
abbrev XID:Nat:=52
abbrev Pz:Program:=Tryz.prog
def mD(f:Func):Code:=match f.body with | some c=>c | none=>.skip
def lb(k:Nat)(f:Func):Code:=match QE k (mD f)with | some c=>c | none=>.skip
theorem mixed:Pz.follows .mixedOrders=true:=by kernel_rfl
instance:uH:={ u8:=5,tab:=[(1,Cg .u64 Lib.pow10Tab)] }
theorem gU{κ:KS}(hI:Inv κ):Lib.TabIs Tryz.prog κ.w "internal/strconv.uint64pow10" .u64 Lib.pow10Tab :=
 z7P (g:=1) (by kernel_rfl) (hI.gl (1,Cg .u64 Lib.pow10Tab) (by simp[uH.tab])).2
structure Tb where
 t:iw
 ok:eR Pz t
def Tb.d(T:Tb){g:Nat}{d:BM}(h:zF Pz g d):Tb:=⟨(g,.d d)::T.t,FC h T.ok⟩
def Tb.s(T:Tb){g:Nat}{d:cP}(h:vT Pz g d):Tb:=⟨(g,.s d)::T.t,C8 h T.ok⟩
def Tb.p(T:Tb){g:Nat}{d:mB}(h:Gx Pz g d):Tb:=⟨(g,.p d)::T.t,Db h T.ok⟩
def t0:Tb:=⟨[],OS _⟩
def fL:List (Nat×zI)→Nat→Option zI
 | [],_=>none
 | x::r,n=>bif Nat.beq x.1 n then some x.2 else fL r n
def fC:List (Nat×Nat×z1M)→Nat→Nat→Option z1M
 | [],_,_=>none
 | x::r,k,n=>bif Nat.beq x.1 k&&Nat.beq x.2.1 n then some x.2.2 else fC r k n
def fF:List (Nat×List Nat)→Nat→List Nat
 | [],_=>[]
 | x::r,n=>bif Nat.beq x.1 n then x.2 else fF r n
def Hz(l:List (Nat×zI))(c:List (Nat×Nat×z1M))(f:List (Nat×List Nat)):Hints:=⟨fL l,fC c,fF f⟩
def hN:Hints:=Hz [] [] []
def rz(l:List Nat)(s:Nat):Bool:=l.any (Nat.beq s)
def rn(_:Nat):Bool:=false
def Lz(gh:List Gh)(ps:List It)(sh:mH)(ws:List Way)(R:wY ps→sh.den→T (sh.den⊕yv ws)):zI:=⟨gh,ps,sh,ws,fun p s=>T.loop (R p) s⟩
abbrev LO(f:Func)(l:zI)(i:Nat):Prop:=Wf Pz f.ntmps l (lb i f)
def ls(f:Func):List Nat→List (Nat×Code)
 | []=>[]
 | i::r=>(i,lb i f)::ls f r
abbrev Mi(n:Nat):It:=.s n (.zU i64)
abbrev Mb(n:Nat):It:=.s n (.zU .bool)
abbrev Ms(n:Nat):It:=.s n (.zU .str)
abbrev Mm(n:Nat)(t:Ty):It:=.s n (.zU t)
abbrev Mr(n:Nat)(t:Ty):It:=.s n (.xx t)
abbrev Sh0(l:List It):mH:=⟨l,[],[]⟩
theorem lk{f:Func}{i:Nat}{gh:List Gh}{ps:List It}{sh:mH}{ws:List Way}{R:wY ps→sh.den→T (sh.den⊕yv ws)}(T:Tb)(ro:Nat→Bool)(H:Hints)(L:List Nat)(ha:BC Pz f.ntmps H (ls f L))
  (h:∀ p s,PT (yo Pz XID T.t ro) T.t f.ntmps H (Lz gh ps sh ws R) (lb i f) p s=R p s:=by intro p s; kernel_rfl) (hl:vQ (lb i f)=ls f L:=by kernel_rfl):LO f (Lz gh ps sh ws R) i :=
 z3W (xid:=XID) (ro:=ro) (H:=H) mixed T.ok (W2 hl ha) R h fun _ _=>rfl
theorem qN{f:Nat}{fn:Func}{d:BM}(T:Tb)(ro:Nat→Bool)(H:Hints)(hf:Pz.funcs[f]? = some fn)(L:List Nat)(ha:BC Pz fn.ntmps H (ls fn L))
  (h:∀ x,Ri (yo Pz XID T.t ro) T.t H fn (mD fn) d x=d.F x:=by intro x; kernel_rfl) (hb:fn.body=some (mD fn):=by rfl) (hn:(fn.name == "runtime.NumGoroutine")=false:=by kernel_rfl) (hl:vQ (mD fn)=ls fn L:=by kernel_rfl):zF Pz f d :=
 zcV (xid:=XID) (ro:=ro) (H:=H) mixed T.ok hf hb hn (W2 hl ha) h
theorem P7{f:Nat}{fn:Func}{d:cP}(T:Tb)(ro:Nat→Bool)(H:Hints)(hf:Pz.funcs[f]? = some fn)(L:List Nat)(ha:BC Pz fn.ntmps H (ls fn L))
  (h:∀ x,I1 (yo Pz XID T.t ro) T.t H fn (mD fn) d x=d.F x:=by intro x; kernel_rfl) (hb:fn.body=some (mD fn):=by rfl) (hn:(fn.name == "runtime.NumGoroutine")=false:=by kernel_rfl) (hl:vQ (mD fn)=ls fn L:=by kernel_rfl):vT Pz f d :=
 z6r (xid:=XID) (ro:=ro) (H:=H) mixed T.ok hf hb hn (W2 hl ha) h
def hdB(c:Code):Code:=match c with | .seq _ b=>b | _=>.skip
def hdO(c:Code):Array Oper:=match c with | .seq (.region _ ops _) _=>ops | _ => #[]
def hdI(c:Code):Nat:=match c with | .seq (.region id _ _) _=>id | _=>0
theorem fkp{f:Nat}{fn:Func}{d:mB}(T:Tb)(ro:Nat→Bool)(H:Hints)(hf:Pz.funcs[f]? = some fn)(L:List Nat)(ha:BC Pz fn.ntmps H (ls fn L))
  (h:∀ x,EU (yo Pz XID T.t ro) T.t H fn (mD fn) d x=d.F x:=by intro x; kernel_rfl) (hb:fn.body=some (mD fn):=by rfl) (hn:(fn.name == "runtime.NumGoroutine")=false:=by kernel_rfl) (hl:vQ (mD fn)=ls fn L:=by kernel_rfl):Gx Pz f d :=
 z5C (xid:=XID) (ro:=ro) (H:=H) mixed T.ok hf hb hn (W2 hl ha) h
abbrev Y19:=uD [.ty .expr,.ty i64]→T (UI [i64])
abbrev H19(F:Y19):=zF Pz 19 ⟨[.ty .expr,.ty i64],[i64],F⟩
def T19(nC:Y19)(DQ:H19 nC):Tb:=t0.d DQ
def z0z(nC:Y19):zI:=Lz [] [Mr 2 .expr] ⟨[Mi 1,Mi 5],[],[]⟩ [⟨.exit 0,⟨[Mi 1],[],[]⟩⟩] fun p s=>ke (fun y0 y1=>nC (y0,y1)) p s
def h19(nC:Y19):Hints:=Hz [(0,z0z nC)] [(0,3,.flat [Mb 32])] []
theorem z6u(nC:Y19)(DQ:H19 nC):LO Tryz.f19 (z0z nC) 0:=lk (T19 nC DQ) (rz [2]) (h19 nC) [] zm
theorem z7c(nC:Y19)(DQ:H19 nC):zF Pz 19 ⟨[.ty .expr,.ty i64],[i64],fun x=>cO (fun y0 y1=>nC (y0,y1)) x.1 x.2⟩:=qN (T19 nC DQ) (rz [2]) (h19 nC) Tryz.func19 [0] (zN rfl (z6u nC DQ) zm)
theorem zfY:zF Pz 19 ⟨[.ty .expr,.ty i64],[i64],fun x=>kQ x.1 x.2⟩:=fM (fun nC x=>cO (fun y0 y1=>nC (y0,y1)) x.1 x.2) (fun x=>rfl) (fun nC DQ=>z7c nC DQ)
def t1:=t0.d zfY
def z5f:zI:=Lz [] [Mr 1 zK] ⟨[Mi 3,Mi 4],[],[]⟩ [⟨.exit 0,⟨[Mi 3],[],[]⟩⟩] fun p s=>gf p s
def z5h:zI:=Lz [] [Mr 1 zK] ⟨[Mi 3,Mi 5],[],[]⟩ [⟨.exit 2,⟨[Mi 3],[],[]⟩⟩] fun p s=>yO p s
def z4z:zI:=Lz [] [Mr 1 zK] ⟨[Mi 3,Mi 6],[],[]⟩ [⟨.exit 4,⟨[Mi 3],[],[]⟩⟩] fun p s=>yH p s
def z4q:zI:=Lz [] [Mr 1 zK] ⟨[Mi 3,Mi 7],[],[]⟩ [⟨.exit 6,⟨[Mi 3],[],[]⟩⟩] fun p s=>yC p s
def z4E:zI:=Lz [] [Mr 1 zK] ⟨[Mi 3,Mi 8],[],[]⟩ [⟨.exit 8,⟨[Mi 3],[],[]⟩⟩] fun p s=>yL p s
def SD:zI:=Lz [] [Mr 1 zK] ⟨[Mi 3,Mi 9],[],[]⟩ [⟨.exit 10,⟨[Mi 3],[],[]⟩⟩] fun p s=>yy p s
def h6:Hints:=Hz [(0,z5f),(2,z5h),(4,z4z),(6,z4q),(8,z4E),(10,SD)] [(0,3,.flat [Mb 43]),(0,7,.flat [Mb 83]),(0,11,.flat [Mb 103]),(0,15,.flat [Mb 131]),(0,19,.flat [Mb 151]),(0,23,.flat [Mb 193])] []
theorem zaP:LO Tryz.f6 z5f 0:=lk t1 (rz [1]) h6 [] zm
theorem zbc:LO Tryz.f6 z5h 2:=lk t1 (rz [1]) h6 [] zm
theorem zbP:LO Tryz.f6 z4z 4:=lk t1 (rz [1]) h6 [] zm
theorem za1:LO Tryz.f6 z4q 6:=lk t1 (rz [1]) h6 [] zm
theorem zcp:LO Tryz.f6 z4E 8:=lk t1 (rz [1]) h6 [] zm
theorem z6l:LO Tryz.f6 SD 10:=lk t1 (rz [1]) h6 [] zm
theorem ok6:zF Pz 6 ⟨[.ty zK],[.bool],fun x=>cH x⟩:=qN t1 (rz [1]) h6 Tryz.func6 [0,2,4,6,8,10] (zN rfl zaP (zN rfl zbc (zN rfl zbP (zN rfl za1 (zN rfl zcp (zN rfl z6l zm))))))
def t2:=t1.d ok6
def z4F:zI:=Lz [] [Mm 0 (.sl zt)] ⟨[Mi 3,Mi 4],[],[]⟩ [⟨.exit 0,⟨[],[],[]⟩⟩,⟨.ret,⟨[Mb 2],[],[]⟩⟩] fun p s=>bz p s
def h7:Hints:=Hz [(0,z4F)] [(0,6,.flat [Mb 46])] []
theorem zd9:LO Tryz.f7 z4F 0:=lk t2 rn h7 [] zm
theorem ok7:zF Pz 7 ⟨[.ty (.sl zt)],[.bool],fun x=>gS x⟩:=qN t2 rn h7 Tryz.func7 [0] (zN rfl zd9 zm)
def t3:=t2.d ok7
def zgW:Hints:=Hz [] [(0,1,.flat [Mb 2])] []
theorem zcP:zF Pz 178 ⟨[.ty (.int .u8)],[.bool],fun x=>uB x⟩:=qN t3 rn zgW Tryz.func178 [] zm
def t4:=t3.d zcP
def zfW:Hints:=Hz [] [(0,1,.flat [Mb 2])] []
theorem zbA:zF Pz 202 ⟨[.ty (.int .u8)],[.bool],fun x=>o8 x⟩:=qN t4 rn zfW Tryz.func202 [] zm
def t5:=t4.d zbA
theorem zbJ:zF Pz 179 ⟨[.ty (.int .u8)],[.bool],fun x=>fj x⟩:=qN t5 rn hN Tryz.func179 [] zm
def t6:=t5.d zbJ
def Lb:zI:=Lz [] [Ms 0,Mi 18] ⟨[Mi 19],[],[]⟩ [⟨.exit 0,⟨[],[],[]⟩⟩,⟨.ret,⟨[Mb 2],[],[]⟩⟩] fun p s=>y8 p.1 p.2 s
def z9J:Hints:=Hz [(0,Lb)] [(0,1,.ways [⟨.normal,⟨[Mb 16],[],[]⟩⟩])] []
theorem z1f:LO Tryz.f134 Lb 0:=lk t6 rn z9J [] zm
theorem zan:zF Pz 134 ⟨[.ty .str],[.bool],fun x=>uO x⟩:=qN t6 rn z9J Tryz.func134 [0] (zN rfl z1f zm)
def t7:=t6.d zan
theorem z9w:zF Pz 133 ⟨[.ty zZ],[.bool],fun x=>vC x⟩:=qN t7 (rz [1]) hN Tryz.func133 [] zm
def t8:=t7.d z9w
def Ry:zI:=Lz [] [Mm 0 (.sl zZ),.s 1 (.xr 133 []),Mi 7] ⟨[Mi 8],[],[]⟩ [⟨.exit 0,⟨[],[],[]⟩⟩,⟨.ret,⟨[Mi 4],[],[]⟩⟩] fun p s=>qh p.1 (fun z0=>vC z0) p.2.2 s
def h55:Hints:=Hz [(0,Ry)] [] []
theorem z8h:LO Tryz.f55 Ry 0:=lk t8 rn h55 [] zm
theorem zgI:zF Pz 55 ⟨[.ty (.sl zZ),.xr 133 []],[i64],fun x=>qq x.1 (fun z0=>vC z0)⟩:=qN t8 rn h55 Tryz.func55 [0] (zN rfl z8h zm)
def t9:=t8.d zgI
theorem zho:zF Pz 94 ⟨[.ty (.sl zZ),.xr 133 []],[.bool],fun x=>qD x.1 (fun z0=>vC z0)⟩:=qN t9 rn hN Tryz.func94 [] zm
def t10:=t9.d zho
def h49:Hints:=Hz [] [(0,1,.flat [Mb 2])] []
theorem zgV:zF Pz 49 ⟨[.ty (.sl u32)],[.bool],fun x=>lg x⟩:=qN t10 rn h49 Tryz.func49 [] zm
def t11:=t10.d zgV
def IP:zI:=Lz [] [] ⟨[Mm 0 (.sl u32)],[],[]⟩ [⟨.exit 0,⟨[Mm 0 (.sl u32)],[],[]⟩⟩] fun p s=>mh  s
def z9H:Hints:=Hz [(0,IP)] [] []
theorem z3X:LO Tryz.f105 IP 0:=lk t11 rn z9H [] zm
theorem z9U:zF Pz 105 ⟨[.ty (.sl u32)],[(.sl u32)],fun x=>xN x⟩:=qN t11 rn z9H Tryz.func105 [0] (zN rfl z3X zm)
def t12:=t11.d z9U
def zhz:Hints:=Hz [] [(0,1,.z7I)] []
theorem zcD:zF Pz 157 ⟨[.ty (.sl u32)],[(.sl u32)],fun x=>vq x⟩:=qN t12 rn zhz Tryz.func157 [] zm
def t13:=t12.d zcD
theorem zb1:zF Pz 106 ⟨[.ty (.sl u32)],[(.sl u32)],fun x=>b8 x⟩:=qN t13 rn hN Tryz.func106 [] zm
def t14:=t13.d zb1
def TB:zI:=Lz [] [Mm 0 (.sl u32),Mm 1 (.sl u32)] ⟨[Mi 5],[],[]⟩ [⟨.exit 0,⟨[],[],[]⟩⟩,⟨.ret,⟨[Mi 4],[],[]⟩⟩] fun p s=>fO p.1 p.2 s
def h50:Hints:=Hz [(0,TB)] [] []
theorem z7W:LO Tryz.f50 TB 0:=lk t14 rn h50 [] zm
theorem zgr:zF Pz 50 ⟨[.ty (.sl u32),.ty (.sl u32)],[i64],fun x=>lX x.1 x.2⟩:=qN t14 rn h50 Tryz.func50 [0] (zN rfl z7W zm)
def t15:=t14.d zgr
def zg3:Hints:=Hz [] [(0,1,.flat [Mb 15])] []
theorem z9z:zF Pz 187 ⟨[.ty u32,.ty u32,.ty u32],[u32,u32],fun x=>gn x.1 x.2.1 x.2.2⟩:=qN t15 rn zg3 Tryz.func187 [] zm
def t16:=t15.d z9z
def MQ:zI:=Lz [] [Mm 0 (.sl u32),Mm 1 u32] ⟨[Mm 7 u32,Mi 8,.a u32],[(6,.cur 0 u32)],[.arr u32]⟩ [⟨.exit 0,⟨[Mm 7 u32,.a u32],[(6,.cur 0 u32)],[.arr u32]⟩⟩] fun p s=>fp p.1 p.2 s
def zar:Hints:=Hz [(0,MQ)] [] [(7,[6])]
theorem z39:LO Tryz.f158 MQ 0:=lk t16 rn zar [] zm
theorem zc1:zF Pz 158 ⟨[.ty (.sl u32),.ty u32],[(.sl u32),u32],fun x=>fD x.1 x.2⟩:=qN t16 rn zar Tryz.func158 [0] (zN rfl z39 zm)
def t17:=t16.d zc1
theorem zfv:zF Pz 52 ⟨[.ty (.int .u64)],[(.sl u32)],fun x=>jV x⟩:=qN t17 rn hN Tryz.func52 [] zm
def t18:=t17.d zfv
def zf5:Hints:=Hz [] [(3,1,.flat [Mm 0 u32,Mi 2]),(3,4,.flat [Mm 0 u32,Mi 2])] []
theorem zaY:zF Pz 207 ⟨[.ty u32],[i64],fun x=>gm x⟩:=qN t18 rn zf5 Tryz.func207 [] zm
def t19:=t18.d zaY
theorem zaz:zF Pz 188 ⟨[.ty u32],[i64],fun x=>wW x⟩:=qN t19 rn hN Tryz.func188 [] zm
def t20:=t19.d zaz
def MN:zI:=Lz [] [Mm 1 (.int .u64),Mi 2,Mm 13 (.sl u32),Mi 14] ⟨[Mi 15,.a u32],[(7,.cur 0 u32)],[.arr u32]⟩ [⟨.exit 0,⟨[.a u32],[(7,.cur 0 u32)],[.arr u32]⟩⟩] fun p s=>ZW p.1 p.2.1 p.2.2.1 p.2.2.2 s
def zb4:Hints:=Hz [(0,MN)] [] []
theorem z2B:LO Tryz.f189 MN 0:=lk t20 rn zb4 [] zm
theorem z4t:vT Pz 189 ⟨[.any,.any,.any],⟨[Mm 0 (.sl u32),Mm 1 (.int .u64),Mi 2],[],[]⟩,[],⟨[.a u32],[(0,.cur 0 u32)],[.arr u32]⟩,1,fun x=>iD x.1 x.2.1 x.2.2⟩:=P7 t20 rn zb4 Tryz.func189 [0] (zN rfl z2B zm)
def t21:=t20.s z4t
def L9:zI:=Lz [] [Mm 2 u32,Mm 3 u32,Mm 4 u32] ⟨[Mm 12 (.int .u64),Mm 13 (.int .u64)],[],[]⟩ [⟨.exit 0,⟨[Mm 12 (.int .u64)],[],[]⟩⟩] fun p s=>bj p.1 p.2.1 p.2.2 s
def z9A:Hints:=Hz [(0,L9)] [(0,3,.flat [Mb 42])] []
theorem z2G:LO Tryz.f190 L9 0:=lk t21 rn z9A [] zm
theorem z9Q:zF Pz 190 ⟨[.ty u32,.ty u32,.ty u32,.ty u32,.ty u32],[(.int .u64)],fun x=>fI x.1 x.2.1 x.2.2.1 x.2.2.2.1 x.2.2.2.2⟩:=qN t21 rn z9A Tryz.func190 [0] (zN rfl z2G zm)
def t22:=t21.d z9Q
theorem zac:zF Pz 197 ⟨[.ty u32,.ty u32,.ty u32],[u32,u32],fun x=>ue x.1 x.2.1 x.2.2⟩:=qN t22 rn hN Tryz.func197 [] zm
def t23:=t22.d zac
theorem zbv:zF Pz 208 ⟨[.ty u32,.ty u32,.ty u32],[u32,u32],fun x=>gj x.1 x.2.1 x.2.2⟩:=qN t23 rn hN Tryz.func208 [] zm
def t24:=t23.d zbv
def LJ:zI:=Lz [] [Mm 1 (.sl u32),Mm 2 (.int .u64),Mm 14 (.sl u32),Mi 15] ⟨[.s 0 (.sub 0 u32),Mm 7 (.int .u64),Mm 8 u32,Mi 16,.a u32],[],[.arr u32]⟩ [⟨.exit 0,⟨[.s 0 (.sub 0 u32),Mm 7 (.int .u64),Mm 8 u32,.a u32],[],[.arr u32]⟩⟩] fun p s=>bc p.1 p.2.1 p.2.2.1 p.2.2.2 s
def L7:zI:=Lz [] [Mm 1 (.sl u32),Mm 62 (.sl u32),Mi 63] ⟨[.s 0 (.sub 0 u32),Mm 11 u32,Mi 64,.a u32],[],[.arr u32]⟩ [⟨.exit 2,⟨[.s 0 (.sub 0 u32),Mm 11 u32,.a u32],[],[.arr u32]⟩⟩] fun p s=>bD p.1 p.2.1 p.2.2 s
def z6h:Hints:=Hz [(0,LJ),(2,L7)] [] []
theorem z2U:LO Tryz.f191 LJ 0:=lk t24 rn z6h [] zm
theorem z2q:LO Tryz.f191 L7 2:=lk t24 rn z6h [] zm
theorem zab:vT Pz 191 ⟨[.sub,.any,.any],⟨[.s 0 (.sub 0 u32),Mm 1 (.sl u32),Mm 2 (.int .u64),.a u32],[],[.arr u32]⟩,[],⟨[Mb 0,.a u32],[],[.arr u32]⟩,1,fun x=>lD x.1 x.2.1 x.2.2.1 x.2.2.2⟩:=P7 t24 rn z6h Tryz.func191 [0,2] (zN rfl z2U (zN rfl z2q zm))
def t25:=t24.s zab
def GY:zI:=Lz [] [Mm 1 (.int .u64),Mi 2,Mm 13 (.sl u32),Mi 14] ⟨[Mi 15,.a u32],[(7,.cur 0 u32)],[.arr u32]⟩ [⟨.exit 0,⟨[.a u32],[(7,.cur 0 u32)],[.arr u32]⟩⟩] fun p s=>dM p.1 p.2.1 p.2.2.1 p.2.2.2 s
def Pq:Hints:=Hz [(0,GY)] [] []
theorem O2:LO Tryz.f189 GY 0:=lk t25 rn Pq [] zm
theorem LI:zF Pz 189 ⟨[.ty (.sl u32),.ty (.int .u64),.ty i64],[(.sl u32)],fun x=>XE x.1 x.2.1 x.2.2⟩:=qN t25 rn Pq Tryz.func189 [0] (zN rfl O2 zm)
def t26:=t25.d LI
def zb2:Tb:=t26.d LI
def Lv:zI:=Lz [] [Mm 6 (.int .u64),Mm 38 (.sl u32),Mi 39] ⟨[Mi 40,.a u32],[(7,.cur 0 u32)],[.arr u32]⟩ [⟨.exit 0,⟨[.a u32],[(7,.cur 0 u32)],[.arr u32]⟩⟩] fun p s=>bp p.1 p.2.1 p.2.2 s
def zbm:Hints:=Hz [(0,Lv)] [] [(17,[7]),(21,[12])]
theorem z3C:LO Tryz.f192 Lv 0:=lk zb2 rn zbm [] zm
theorem z9X:zF Pz 192 ⟨[.ty (.sl u32),.ty i64],[(.sl u32)],fun x=>cu x.1 x.2⟩:=qN zb2 rn zbm Tryz.func192 [0] (zN rfl z3C zm)
def t27:=t26.d z9X
def zcq:Tb:=t27.s z4t
def IY:zI:=Lz [] [Mm 6 (.int .u64),Mm 8 (.sl u32),Mi 9] ⟨[Mi 10,.a u32,.a u32],[(4,.cur 2 u32),(7,.cur 0 u32)],[.arr u32,.dead,.arr u32]⟩ [⟨.exit 0,⟨[.a u32,.a u32],[(4,.cur 2 u32),(7,.cur 0 u32)],[.arr u32,.dead,.arr u32]⟩⟩] fun p s=>dF p.1 p.2.1 p.2.2 s
def zdl:Hints:=Hz [(0,IY)] [(3,9,.ways [⟨.normal,⟨[Mm 11 (.int .u64),.a u32,.a u32],[(4,.cur 2 u32),(7,.cur 0 u32)],[.arr u32,.dead,.arr u32]⟩⟩])] [(5,[8]),(12,[4,7])]
theorem z1D:LO Tryz.f159 IY 0:=lk zcq rn zdl [] zm
theorem zbt:zF Pz 159 ⟨[.ty (.sl u32),.ty (.sl u32)],[(.sl u32),(.sl u32)],fun x=>XM x.1 x.2⟩:=qN zcq rn zdl Tryz.func159 [0] (zN rfl z1D zm)
def t28:=t27.d zbt
theorem za8:zF Pz 107 ⟨[.ty (.sl u32),.ty (.sl u32)],[(.sl u32),(.sl u32),.bool],fun x=>gx x.1 x.2⟩:=qN t28 rn hN Tryz.func107 [] zm
def t29:=t28.d za8
def Tp:zI:=Lz [] [] ⟨[Mm 0 (.sl u32),Mm 1 (.sl u32)],[],[]⟩ [⟨.exit 0,⟨[Mm 0 (.sl u32)],[],[]⟩⟩] fun p s=>iY  s
def h51:Hints:=Hz [(0,Tp)] [] []
theorem z7Z:LO Tryz.f51 Tp 0:=lk t29 rn h51 [] zm
theorem zh3:zF Pz 51 ⟨[.ty (.sl u32),.ty (.sl u32)],[(.sl u32)],fun x=>Xx x.1 x.2⟩:=qN t29 rn h51 Tryz.func51 [0] (zN rfl z7Z zm)
def t30:=t29.d zh3
def h23:Hints:=Hz [] [(0,1,.ways [⟨.normal,⟨[Mb 28],[],[]⟩⟩])] []
theorem zhl:zF Pz 23 ⟨[.ty zt],[.bool],fun x=>ta x⟩:=qN t30 (rz [1]) h23 Tryz.func23 [] zm
def t31:=t30.d zhl
def zfx:Hints:=Hz [] [(0,2,.flat [Mb 19])] []
theorem zag:zF Pz 108 ⟨[.ty .bool,.ty (.sl u32),.ty (.sl u32)],[zt],fun x=>pj x.1 x.2.1 x.2.2⟩:=qN t31 rn zfx Tryz.func108 [] zm
def t32:=t31.d zag
theorem ze6:zF Pz 53 ⟨[.ty zt],[zt],fun x=>xV x⟩:=qN t32 (rz [1]) hN Tryz.func53 [] zm
def t33:=t32.d ze6
def h24:Hints:=Hz [] [(0,2,.flat [Mb 2])] []
theorem zeD:zF Pz 24 ⟨[.ty zt],[.bool],fun x=>uX x⟩:=qN t33 rn h24 Tryz.func24 [] zm
def t34:=t33.d zeD
theorem zaa:zF Pz 135 ⟨[.ty q8],[.bool],fun x=>vI x⟩:=qN t34 (rz [1]) hN Tryz.func135 [] zm
def t35:=t34.d zaa
def LS:zI:=Lz [] [Mm 0 (.sl q8),.s 1 (.xr 135 []),Mi 7] ⟨[Mi 8],[],[]⟩ [⟨.exit 0,⟨[],[],[]⟩⟩,⟨.ret,⟨[Mi 4],[],[]⟩⟩] fun p s=>xa p.1 (fun z0=>vI z0) p.2.2 s
def zdo:Hints:=Hz [(0,LS)] [] []
theorem z1t:LO Tryz.f153 LS 0:=lk t35 rn zdo [] zm
theorem zds:zF Pz 153 ⟨[.ty (.sl q8),.xr 135 []],[i64],fun x=>xT x.1 (fun z0=>vI z0)⟩:=qN t35 rn zdo Tryz.func153 [0] (zN rfl z1t zm)
def t36:=t35.d zds
theorem zbr:zF Pz 100 ⟨[.ty (.sl q8),.xr 135 []],[.bool],fun x=>qH x.1 (fun z0=>vI z0)⟩:=qN t36 rn hN Tryz.func100 [] zm
def t37:=t36.d zbr
theorem zbZ:zF Pz 138 ⟨[.ty .str],[.bool],fun x=>kV x⟩:=qN t37 rn hN Tryz.func138 [] zm
def t38:=t37.d zbZ
theorem zbN:zF Pz 137 ⟨[.ty qy],[.bool],fun x=>vK x⟩:=qN t38 (rz [1]) hN Tryz.func137 [] zm
def t39:=t38.d zbN
def MW:zI:=Lz [] [Mm 0 (.sl qy),.s 1 (.xr 137 []),Mi 7] ⟨[Mi 8],[],[]⟩ [⟨.exit 0,⟨[],[],[]⟩⟩,⟨.ret,⟨[Mi 4],[],[]⟩⟩] fun p s=>xK p.1 (fun z0=>vK z0) p.2.2 s
def zcy:Hints:=Hz [(0,MW)] [] []
theorem z1k:LO Tryz.f180 MW 0:=lk t39 rn zcy [] zm
theorem z9Y:zF Pz 180 ⟨[.ty (.sl qy),.xr 137 []],[i64],fun x=>wR x.1 (fun z0=>vK z0)⟩:=qN t39 rn zcy Tryz.func180 [0] (zN rfl z1k zm)
def t40:=t39.d z9Y
theorem za7:zF Pz 136 ⟨[.ty (.sl qy),.xr 137 []],[.bool],fun x=>xI x.1 (fun z0=>vK z0)⟩:=qN t40 rn hN Tryz.func136 [] zm
def t41:=t40.d za7
theorem zgj:zF Pz 88 ⟨[.ty zK],[.bool],fun x=>lN x⟩:=qN t41 (rz [1]) hN Tryz.func88 [] zm
def t42:=t41.d zgj
def ze7:Hints:=Hz [] [(0,1,.flat [Mb 6])] []
theorem zbI:zF Pz 139 ⟨[.ty i64,.ty i64,.ty i64],[.bool],fun x=>bA x.1 x.2.1 x.2.2⟩:=qN t42 rn ze7 Tryz.func139 [] zm
def t43:=t42.d zbI
def Rj:zI:=Lz [] [Mr 1 zK,Mm 7 (.sl qc),Mi 8] ⟨[Mi 3,Mi 9],[],[]⟩ [⟨.exit 0,⟨[],[],[]⟩⟩,⟨.ret,⟨[Mb 2],[],[]⟩⟩] fun p s=>jr p.1 p.2.1 p.2.2 s
def h89:Hints:=Hz [(0,Rj)] [(0,5,.ways [⟨.normal,⟨[Mb 36,.v (.zU qc)],[],[.var (.zU qc)]⟩⟩])] []
theorem z6M:LO Tryz.f89 Rj 0:=lk t43 (rz [1]) h89 [] zm
theorem zeR:zF Pz 89 ⟨[.ty zK],[.bool],fun x=>fe x⟩:=qN t43 (rz [1]) h89 Tryz.func89 [0] (zN rfl z6M zm)
def t44:=t43.d zeR
theorem z9v:zF Pz 140 ⟨[],[(.sl .str)],fun _=>uY⟩:=qN t44 rn hN Tryz.func140 [] zm
def t45:=t44.d z9v
def zgp:Hints:=Hz [] [(3,2,.flat [Mb 4])] []
theorem zbQ:zF Pz 209 ⟨[.ty i64],[i64],fun x=>tF x⟩:=qN t45 rn zgp Tryz.func209 [] zm
def t46:=t45.d zbQ
def MY:zI:=Lz [] [Mm 1 (.sl u32),Mi 6,Mm 7 u32,Mm 21 (.sl u32),Mi 22,Mi 23,Mm 28 (.sl u32),Mi 29] ⟨[Mm 8 (.int .u64),Mi 30,.a u32],[(5,.cur 0 u32)],[.arr u32]⟩ [⟨.exit 2,⟨[Mm 8 (.int .u64),.a u32],[(5,.cur 0 u32)],[.arr u32]⟩⟩] fun p s=>pc p.1 p.2.1 p.2.2.1 p.2.2.2.1 p.2.2.2.2.1 p.2.2.2.2.2.1 p.2.2.2.2.2.2.1 p.2.2.2.2.2.2.2 s
def Mu:zI:=Lz [] [Mm 1 (.sl u32),Mm 21 (.sl u32),Mi 22] ⟨[Mi 23,.a u32],[(5,.cur 0 u32)],[.arr u32]⟩ [⟨.exit 0,⟨[.a u32],[(5,.cur 0 u32)],[.arr u32]⟩⟩] fun p s=>pw p.1 p.2.1 p.2.2 s
def z7d:Hints:=Hz [(2,MY),(0,Mu)] [] [(16,[5])]
theorem z3D:LO Tryz.f163 MY 2:=lk t46 rn z7d [] zm
theorem z1C:LO Tryz.f163 Mu 0:=lk t46 rn z7d [2] (zN rfl z3D zm)
theorem zaX:zF Pz 163 ⟨[.ty (.sl u32),.ty (.sl u32)],[(.sl u32)],fun x=>bZ x.1 x.2⟩:=qN t46 rn z7d Tryz.func163 [0] (zN rfl z1C zm)
def t47:=t46.d zaX
def LZ:zI:=Lz [] [Mi 5] ⟨[Mm 3 (.sl u32),Mi 6],[],[]⟩ [⟨.exit 0,⟨[Mm 3 (.sl u32)],[],[]⟩⟩] fun p s=>iS p s
def zbL:Hints:=Hz [(0,LZ)] [] []
theorem z3t:LO Tryz.f218 LZ 0:=lk t47 rn zbL [] zm
theorem zc3:zF Pz 218 ⟨[.ty i64],[(.sl u32)],fun x=>UF x⟩:=qN t47 rn zbL Tryz.func218 [0] (zN rfl z3t zm)
def t48:=t47.d zc3
theorem zda:zF Pz 183 ⟨[.ty zt],[.str],fun x=>sJ x⟩:=qN t48 (rz [1]) hN Tryz.func183 [] zm
def t49:=t48.d zda
def M3:zI:=Lz [] [] ⟨[.s 0 (.sub 0 (.int .u8)),Mi 2,Mi 3,.a (.int .u8)],[],[.arr (.int .u8)]⟩ [⟨.exit 0,⟨[.a (.int .u8)],[],[.arr (.int .u8)]⟩⟩] fun p s=>wj  s
def zcQ:Hints:=Hz [(0,M3)] [] []
theorem z2F:LO Tryz.f204 M3 0:=lk t49 rn zcQ [] zm
theorem z9Z:vT Pz 204 ⟨[.sub],⟨[.s 0 (.sub 0 (.int .u8)),.a (.int .u8)],[],[.arr (.int .u8)]⟩,[],⟨[.a (.int .u8)],[],[.arr (.int .u8)]⟩,0,fun x=>wV x.1 x.2⟩:=P7 t49 rn zcQ Tryz.func204 [0] (zN rfl z2F zm)
def t50:=t49.s z9Z
def Ll:zI:=Lz [] [Mm 4 (.sl u32)] ⟨[Mm 5 u32,Mi 19,.a (.int .u8)],[(3,.cur 0 (.int .u8))],[.arr (.int .u8)]⟩ [⟨.exit 2,⟨[.a (.int .u8)],[(3,.cur 0 (.int .u8))],[.arr (.int .u8)]⟩⟩] fun p s=>bE p s
def Lt:zI:=Lz [.slot 3 (.int .u8)] [] ⟨[Mm 0 (.sl u32),.a (.int .u8)],[(3,.cur 0 (.int .u8))],[.arr (.int .u8)]⟩ [⟨.exit 0,⟨[.a (.int .u8)],[(3,.cur 0 (.int .u8))],[.arr (.int .u8)]⟩⟩] fun p s=>bJ  s
def LN:zI:=Lz [] [] ⟨[.s 3 (.sub 0 (.int .u8)),.a (.int .u8)],[],[.arr (.int .u8)]⟩ [⟨.exit 4,⟨[.s 3 (.sub 0 (.int .u8)),.a (.int .u8)],[],[.arr (.int .u8)]⟩⟩] fun p s=>bB  s
def z2R:Hints:=Hz [(2,Ll),(0,Lt),(4,LN)] [(0,13,.flat [Mb 42])] []
theorem z2D:LO Tryz.f184 Ll 2:=lk t50 rn z2R [] zm
theorem z1e:LO Tryz.f184 Lt 0:=lk t50 rn z2R [2] (zN rfl z2D zm)
theorem z3Z:LO Tryz.f184 LN 4:=lk t50 rn z2R [] zm
theorem zbX:zF Pz 184 ⟨[.ty (.sl u32)],[.str],fun x=>fv x⟩:=qN t50 rn z2R Tryz.func184 [0,4] (zN rfl z1e (zN rfl z3Z zm))
def t51:=t50.d zbX
theorem zcT:zF Tryz.prog 224 ⟨[.ty .str,.ty i64],[.str],fun x=>strings_Repeat x.1 x.2⟩:=by
 refine lE Tryz.func224 (by kernel_rfl) rfl fun κ x qj y hy hI ha => ?_
 obtain⟨s,n⟩:=x
 obtain⟨⟨h0,h1,h2⟩,hy⟩:=hy
 cases hy
 obtain⟨v0,r,rfl,ha0,ha⟩:=xz.cons_inv (show xz κ [.zU .str s,.zU i64 n] qj from ha)
 obtain⟨v1,r,rfl,ha1,ha⟩:=ha.cons_inv
 rw[ha.qI,ha0.lL,ha1.fu]
 obtain⟨m,rfl⟩:=Int.eq_ofNat_of_zero_le h0
 refine(Go.Proofs.Tryz.strings_Repeat ⟨s.toArray⟩ m κ.w (by simp only at h1; omega) (by rw[show(ByteArray.size ⟨s.toArray⟩)=List.length s from List.size_toArray]; simpa using h2)).mono ?_
 rintro e w' ⟨rfl,hB⟩
 refine⟨hB,fun _=>⟨_,rfl,?_⟩⟩
 have e1:Lib.repeatL s m=kC s m:=LA s m
 have e2:(Int.toNat (m:Int))=m:=by omega
 show RD _ (.zU .str (kC s (Int.toNat (m:Int)))) _
 rw[e2,← e1]
 exact RD.str
def t52:=t51.d zcT
theorem zbR:zF Pz 219 ⟨[.ty .str,.ty i64],[.str],fun x=>lO x.1 x.2⟩:=qN t52 rn hN Tryz.func219 [] zm
def t53:=t52.d zbR
def IN:zI:=Lz [] [] ⟨[Mi 10,.v (.zU zt)],[(1,.ptr 0 0)],[.var (.zU zt)]⟩ [⟨.exit 0,⟨[.v (.zU zt)],[],[.var (.zU zt)]⟩⟩,⟨.ret,⟨[Ms 2,Mb 3,.v (.zU zt)],[],[.var (.zU zt)]⟩⟩] fun p s=>y9  s
def zdh:Hints:=Hz [(0,IN)] [] []
theorem z2H:LO Tryz.f214 IN 0:=lk t53 rn zdh [] zm
theorem zce:zF Pz 214 ⟨[.ty zt],[.str,.bool],fun x=>nA x⟩:=qN t53 rn zdh Tryz.func214 [0] (zN rfl z2H zm)
def t54:=t53.d zce
def zfE:Hints:=Hz [] [(0,1,.ways [⟨.normal,⟨[Mb 15],[],[]⟩⟩])] []
theorem z8Z:zF Pz 210 ⟨[.ty zt],[.bool],fun x=>pA x⟩:=qN t54 (rz [1]) zfE Tryz.func210 [] zm
def t55:=t54.d z8Z
theorem z9c:zF Pz 211 ⟨[.ty zt],[.bool],fun x=>dC x⟩:=qN t55 (rz [1]) hN Tryz.func211 [] zm
def t56:=t55.d z9c
theorem zbb:zF Pz 193 ⟨[.ty .expr],[.bool],fun x=>gH x⟩:=qN t56 (rz [1]) hN Tryz.func193 [] zm
def t57:=t56.d zbb
abbrev YE:=mH.den ⟨[Mm 0 .expr,Mi 1,.v (.zU i64)],[(2,.ptr 0 0)],[.var (.zU i64)]⟩→T (mH.den ⟨[Mb 0,.v (.zU i64)],[],[.var (.zU i64)]⟩)
abbrev NO(F:YE):=vT Pz 160 ⟨[.any,.any,.ptr],⟨[Mm 0 .expr,Mi 1,.v (.zU i64)],[(2,.ptr 0 0)],[.var (.zU i64)]⟩,[],⟨[Mb 0,.v (.zU i64)],[],[.var (.zU i64)]⟩,1,F⟩
theorem zdb(vE:YE)(lU:NO vE):vT Pz 194 ⟨[.any,.any,.ptr],⟨[Mm 0 .expr,Mr 1 i64,.v (.zU i64)],[(2,.ptr 0 0)],[.cvar (.ptr 1 0),.var (.zU i64)]⟩,[],⟨[Mb 0,.v (.zU i64)],[],[.cvar (.ptr 1 0),.var (.zU i64)]⟩,1,fun x=>jB (fun y0 y1 y2=>vE (y0,y1,y2)) x.1 x.2.1 x.2.2⟩:=P7 (t57.s lU) (rz [3]) hN Tryz.func194 [] zm
def zaS(vE:YE)(lU:NO vE):Tb:=t57.s (zdb _ lU)
def Me(vE:YE):zI:=Lz [] [Mm 0 (.sl .expr),Mi 7] ⟨[.s 1 (.mclo 194 [.rp i64,.pt 0]),Mi 8,.v (.zU i64)],[],[.cvar (.ptr 1 0),.var (.zU i64)]⟩ [⟨.exit 0,⟨[.v (.zU i64)],[],[.cvar (.ptr 1 0),.var (.zU i64)]⟩⟩,⟨.ret,⟨[Mi 4,.v (.zU i64)],[],[.cvar (.ptr 1 0),.var (.zU i64)]⟩⟩] fun p s=>zT (fun y0 y1 y2=>vE (y0,y1,y2)) p.1 p.2 s
def zdn(vE:YE):Hints:=Hz [(0,Me vE)] [] []
theorem z2A(vE:YE)(lU:NO vE):LO Tryz.f156 (Me vE) 0:=lk (zaS vE lU) rn (zdn vE) [] zm
theorem zbi(vE:YE)(lU:NO vE):vT Pz 156 ⟨[.any,.xr 194],⟨[Mm 0 (.sl .expr),.s 1 (.mclo 194 [.rp i64,.pt 0]),.v (.zU i64)],[],[.cvar (.ptr 1 0),.var (.zU i64)]⟩,[],⟨[Mi 0,.v (.zU i64)],[],[.cvar (.ptr 1 0),.var (.zU i64)]⟩,1,fun x=>xb (fun y0 y1 y2=>vE (y0,y1,y2)) x.1 x.2.1 x.2.2⟩:=P7 (zaS vE lU) rn (zdn vE) Tryz.func156 [0] (zN rfl (z2A vE lU) zm)
theorem z9B(vE:YE)(lU:NO vE):vT Pz 103 ⟨[.any,.xr 194],⟨[Mm 0 (.sl .expr),.s 1 (.mclo 194 [.rp i64,.pt 0]),.v (.zU i64)],[],[.cvar (.ptr 1 0),.var (.zU i64)]⟩,[],⟨[Mb 0,.v (.zU i64)],[],[.cvar (.ptr 1 0),.var (.zU i64)]⟩,1,fun x=>qm (fun y0 y1 y2=>vE (y0,y1,y2)) x.1 x.2.1 x.2.2⟩:=P7 (t57.s (zbi _ lU)) rn hN Tryz.func103 [] zm
def zgA(vE:YE):Hints:=Hz [] [(0,2,.ways [⟨.normal,⟨[Mb 24,.v (.zU i64)],[],[.var (.zU i64),.cvar (.ptr 0 0)]⟩⟩])] []
theorem z2K(vE:YE)(lU:NO vE):vT Pz 160 ⟨[.any,.any,.ptr],⟨[Mm 0 .expr,Mi 1,.v (.zU i64)],[(2,.ptr 0 0)],[.var (.zU i64)]⟩,[],⟨[Mb 0,.v (.zU i64)],[],[.var (.zU i64)]⟩,1,fun x=>bC (fun y0 y1 y2=>vE (y0,y1,y2)) x.1 x.2.1 x.2.2⟩:=P7 (t57.s (z9B _ lU)) (rz [3,4]) (zgA vE) Tryz.func160 [] zm
theorem z9L:vT Pz 160 ⟨[.any,.any,.ptr],⟨[Mm 0 .expr,Mi 1,.v (.zU i64)],[(2,.ptr 0 0)],[.var (.zU i64)]⟩,[],⟨[Mb 0,.v (.zU i64)],[],[.var (.zU i64)]⟩,1,fun x=>jY x.1 x.2.1 x.2.2⟩:=LM (fun vE x=>bC (fun y0 y1 y2=>vE (y0,y1,y2)) x.1 x.2.1 x.2.2) (fun x=>rfl) (fun vE lU=>z2K vE lU)
def t58:=t57.s z9L
theorem za2:zF Pz 109 ⟨[.ty .expr],[.bool],fun x=>uJ x⟩:=qN t58 (rz [1]) hN Tryz.func109 [] zm
def t59:=t58.d za2
theorem zby:zF Pz 143 ⟨[],[(.sl .str)],fun _=>ub⟩:=qN t59 rn hN Tryz.func143 [] zm
def t60:=t59.d zby
theorem z9h:zF Pz 142 ⟨[.ty zl],[.bool],fun x=>wC x⟩:=qN t60 (rz [1]) hN Tryz.func142 [] zm
def t61:=t60.d z9h
def Lk:zI:=Lz [] [Mm 0 (.sl zl),.s 1 (.xr 142 []),Mi 7] ⟨[Mi 8],[],[]⟩ [⟨.exit 0,⟨[],[],[]⟩⟩,⟨.ret,⟨[Mi 4],[],[]⟩⟩] fun p s=>xG p.1 (fun z0=>wC z0) p.2.2 s
def zc2:Hints:=Hz [(0,Lk)] [] []
theorem z1F:LO Tryz.f181 Lk 0:=lk t61 rn zc2 [] zm
theorem z9C:zF Pz 181 ⟨[.ty (.sl zl),.xr 142 []],[i64],fun x=>wU x.1 (fun z0=>wC z0)⟩:=qN t61 rn zc2 Tryz.func181 [0] (zN rfl z1F zm)
def t62:=t61.d z9C
theorem zbj:zF Pz 141 ⟨[.ty (.sl zl),.xr 142 []],[.bool],fun x=>xC x.1 (fun z0=>wC z0)⟩:=qN t62 rn hN Tryz.func141 [] zm
def t63:=t62.d zbj
def z06:zI:=Lz [] [Mr 1 zK,Mm 7 (.sl zn),Mi 8] ⟨[Mi 3,Mi 9],[],[]⟩ [⟨.exit 0,⟨[],[],[]⟩⟩,⟨.ret,⟨[Mb 2],[],[]⟩⟩] fun p s=>jj p.1 p.2.1 p.2.2 s
def h90:Hints:=Hz [(0,z06)] [(0,5,.ways [⟨.normal,⟨[Mb 50,.v (.zU zn)],[],[.var (.zU zn)]⟩⟩])] []
theorem z6k:LO Tryz.f90 z06 0:=lk t63 (rz [1]) h90 [] zm
theorem zfV:zF Pz 90 ⟨[.ty zK],[.bool],fun x=>eY x⟩:=qN t63 (rz [1]) h90 Tryz.func90 [0] (zN rfl z6k zm)
def t64:=t63.d zfV
end Go.AM.Lf
namespace Go.Proofs
section
open Go.RowKit
attribute [local go_sem] Oper.semAt_some
set_option maxRecDepth 100000
set_option maxHeartbeats 2000000
theorem tm.size:(Tryz.prog.info? 167).map (·.size)=some 2:=by kernel_rfl
theorem tm.pt:Tryz.prog.underlying 164=some (.pointer 167):=by kernel_rfl
theorem tm.up:Tryz.prog.underlying 213=some .unsafePointer:=by kernel_rfl
theorem tm.used(b:Nat)(w:World)(h0:w.cell? ⟨b,0,none⟩=some (.pointer (some ⟨b,0,none⟩))) :
  Calls Tryz.prog 182 #[.pointer (some ⟨b,0,none⟩)] w fun e w'=>e=.returned (.tuple #[])∧w'=w:=by
 obtain⟨j,hj,hjs⟩:=Option.map_eq_some_iff.1 tm.size
 go_enter Tryz.func182,Tryz.ntmps182
 go_wp2
 rw[Lib.run_neq_ptr_same w _ tm.pt hj]
 go_wp2
 go_end0
 exact⟨rfl,rfl⟩
theorem tm.fresh(b:Nat)(w:World)(h0:w.cell? ⟨b,0,none⟩=some (.pointer none))(hsh:w.shape? b=some (167,2))(hfz:w.frozen? ⟨b,0,none⟩=false) :
  Calls Tryz.prog 182 #[.pointer (some ⟨b,0,none⟩)] w fun e w'=>e=.returned (.tuple #[])∧w'=w.setCell ⟨b,0,none⟩ (.pointer (some ⟨b,0,none⟩)):=by
 obtain⟨j,hj,hjs⟩:=Option.map_eq_some_iff.1 tm.size
 go_enter Tryz.func182,Tryz.ntmps182
 go_wp2
 rw[Lib.run_to_unsafe w ⟨b,0,none⟩ tm.pt tm.up hj (by rw[hjs]; decide) hsh (Nat.zero_lt_succ 1)]
 simp only[Result.andThen]
 rw[Oper.upon_value]
 go_wp2
 rw[run_callFunc_extern Tryz.func203 (by kernel_rfl) (by kernel_rfl) (by kernel_rfl) (e:=Extern.AbiNoEscape.same) (by kernel_rfl)]
 rw[Lib.run_noEscape]
 simp only[Result.andThen]
 rw[Oper.upon_value]
 go_wp2
 rw[Lib.run_from_unsafe w ⟨b,0,none⟩ tm.up tm.pt hj hsh (by kernel_rfl)]
 simp only[Result.andThen]
 rw[Oper.upon_value]
 go_wp2
 go_end0
 exact⟨rfl,rfl⟩
end
end Go.Proofs

namespace Go.AM.Lf
open Go.Proofs
theorem zd8:vT Tryz.prog 182 ⟨[.ptr],⟨[.v (.st [.op 0 167,.row 1 (.int .u8)]),.a (.int .u8)],[(0,.ptr 0 0)],[.var (.st [.op 0 167,.row 1 (.int .u8)]),.arr (.int .u8)]⟩,[],⟨[.v (.st [.op 0 167,.row 1 (.int .u8)]),.a (.int .u8)],[],[.var (.st [.op 0 167,.row 1 (.int .u8)]),.arr (.int .u8)]⟩,0,fun x=>mF x.1 x.2⟩:=Hh (P:=Tryz.prog) (g:=182) (t:=167) (enters_of Tryz.func182 (by kernel_rfl) rfl) tm.used tm.fresh
def t65:=t64.s zd8
theorem zcM:vT Pz 144 ⟨[.ptr,.any],⟨[Ms 1,.v (.st [.op 0 167,.row 1 (.int .u8)]),.a (.int .u8)],[(0,.ptr 0 0)],[.var (.st [.op 0 167,.row 1 (.int .u8)]),.arr (.int .u8)]⟩,[.pcell 0 1 (.int .u8)],⟨[Mi 0,.v (.st [.op 0 167,.row 1 (.int .u8)]),.a (.int .u8)],[(1,.wb)],[.var (.st [.op 0 167,.row 1 (.int .u8)]),.arr (.int .u8)]⟩,2,fun x=>qo x.1 x.2.1 x.2.2⟩:=P7 t65 rn hN Tryz.func144 [] zm
def t66:=t65.s zcM
theorem zav:zF Pz 145 ⟨[.ty zt],[.str],fun x=>nt x⟩:=qN t66 rn hN Tryz.func145 [] zm
def t67:=t66.d zav
theorem zd1:zF Pz 147 ⟨[.ty .str],[.str],fun x=>iZ x⟩:=qN t67 rn hN Tryz.func147 [] zm
def t68:=t67.d zd1
theorem zaH:zF Tryz.prog 205 ⟨[.ty i64],[.str],fun x=>strconv_Itoa x⟩:=by
 refine lE Tryz.func205 (by kernel_rfl) rfl fun κ n qj y hy hI ha => ?_
 obtain⟨⟨h0,h1⟩,hy⟩:=hy
 cases hy
 obtain⟨v0,r,rfl,ha0,ha⟩:=xz.cons_inv (show xz κ [.zU i64 n] qj from ha)
 rw[ha.qI,ha0.fu]
 refine(Go.Proofs.Tryz.strconv_Itoa n h0 h1 κ.w (gU hI)).mono ?_
 rintro e w' ⟨rfl,k,os,rfl⟩
 refine⟨Es _ _ _,fun _=>⟨_,rfl,?_⟩⟩
 have e1:Lib.itoa n=pO n:=PQ n
 show RD _ (.zU .str (pO n)) _
 rw[← e1]
 exact RD.str
def t69:=t68.d zaH
def zgJ:Hints:=Hz [] [(3,2,.flat [Ms 3])] []
theorem zaO:zF Pz 185 ⟨[.ty qc],[.str],fun x=>mm x⟩:=qN t69 (rz [1]) zgJ Tryz.func185 [] zm
def t70:=t69.d zaO
def zhC:Hints:=Hz [] [(3,2,.flat [Mb 5]),(3,5,.flat [Mb 8])] []
theorem zcB:zF Pz 216 ⟨[.ty .expr],[i64],fun x=>cG x⟩:=qN t70 (rz [1]) zhC Tryz.func216 [] zm
def t71:=t70.d zcB
abbrev z30:=uD [.ty .expr]→T (UI [.str])
abbrev z9n(F:z30):=zF Pz 206 ⟨[.ty .expr],[.str],F⟩
theorem zdt(sy:z30)(DS:z9n sy):zF Pz 215 ⟨[.ty .expr,.ty i64],[.str],fun x=>gO (fun y0=>sy (y0)) x.1 x.2⟩:=qN (t71.d DS) (rz [2]) hN Tryz.func215 [] zm
def zfO(sy:z30):Hints:=Hz [] [(3,2,.ways [⟨.normal,⟨[Ms 3],[],[]⟩⟩,⟨.ret,⟨[Ms 2],[],[]⟩⟩])] []
theorem z3a(sy:z30)(DS:z9n sy):zF Pz 206 ⟨[.ty .expr],[.str],fun x=>fg (fun y0=>sy (y0)) x⟩:=qN (t71.d (zdt _ DS)) (rz [1]) (zfO sy) Tryz.func206 [] zm
theorem zd6:zF Pz 206 ⟨[.ty .expr],[.str],fun x=>oK x⟩:=fM (fun sy x=>fg (fun y0=>sy (y0)) x) (fun x=>rfl) (fun sy DS=>z3a sy DS)
def t72:=t71.d zd6
theorem zcl:zF Pz 186 ⟨[.ty .expr],[.str],fun x=>cI x⟩:=qN t72 (rz [1]) hN Tryz.func186 [] zm
def t73:=t72.d zcl
theorem zco:zF Pz 148 ⟨[.ty .expr,.ty .str,.ty .expr],[.str],fun x=>dE x.1 x.2.1 x.2.2⟩:=qN t73 (rz [3,5]) hN Tryz.func148 [] zm
def t74:=t73.d zco
def MM:zI:=Lz [] [Mi 2,Mr 4 zK,Mm 29 (.sl qc),Mi 30] ⟨[Mi 31,.v (.st [.op 0 167,.row 1 (.int .u8)]),.a (.int .u8)],[(0,.ptr 0 0)],[.var (.st [.op 0 167,.row 1 (.int .u8)]),.arr (.int .u8)]⟩ [⟨.exit 0,⟨[.v (.st [.op 0 167,.row 1 (.int .u8)]),.a (.int .u8)],[],[.var (.st [.op 0 167,.row 1 (.int .u8)]),.arr (.int .u8)]⟩⟩] fun p s=>jh p.1 p.2.1 p.2.2.1 p.2.2.2 s
def IZ:zI:=Lz [] [Mi 2,Mm 45 (.sl zn),Mi 46] ⟨[Mi 47,.v (.st [.op 0 167,.row 1 (.int .u8)]),.a (.int .u8)],[(0,.ptr 0 0)],[.var (.st [.op 0 167,.row 1 (.int .u8)]),.arr (.int .u8)]⟩ [⟨.exit 2,⟨[.v (.st [.op 0 167,.row 1 (.int .u8)]),.a (.int .u8)],[],[.var (.st [.op 0 167,.row 1 (.int .u8)]),.arr (.int .u8)]⟩⟩] fun p s=>jq p.1 p.2.1 p.2.2 s
def z8d:Hints:=Hz [(0,MM),(2,IZ)] [] []
theorem z2J:LO Tryz.f146 MM 0:=lk t74 (rz [4]) z8d [] zm
theorem z10:LO Tryz.f146 IZ 2:=lk t74 (rz [4]) z8d [] zm
theorem zcZ:vT Pz 146 ⟨[.ptr,.any,.any],⟨[Mm 1 zK,Mi 2,.v (.st [.op 0 167,.row 1 (.int .u8)]),.a (.int .u8)],[(0,.ptr 0 0)],[.var (.st [.op 0 167,.row 1 (.int .u8)]),.arr (.int .u8)]⟩,[.pcell 0 1 (.int .u8)],⟨[.v (.st [.op 0 167,.row 1 (.int .u8)]),.a (.int .u8)],[],[.var (.st [.op 0 167,.row 1 (.int .u8)]),.arr (.int .u8)]⟩,0,fun x=>fc x.1 x.2.1 x.2.2.1 x.2.2.2⟩:=P7 t74 (rz [4]) z8d Tryz.func146 [0,2] (zN rfl z2J (zN rfl z10 zm))
def t75:=t74.s zcZ
end Go.AM.Lf
namespace Go.Proofs
section
open Go.RowKit
attribute [local go_sem] Oper.semAt_some
set_option maxRecDepth 100000
set_option maxHeartbeats 2000000
theorem tm.mixed:Tryz.prog.follows .mixedOrders=true:=by kernel_rfl
theorem tm.pb:Tryz.prog.underlying 202=some (.pointer 5):=by kernel_rfl
theorem tm.c5:Tryz.prog.cellsOf 5=1:=by kernel_rfl
theorem tm.TM(W:World)(q:Option Addr):(Builtin.unsafeString_ #[202,3] 9 #[.pointer q,.int .i64 0]).run Tryz.prog W=.ok (.string .empty) W:=Lib.run_unsafeString_none W _ _ _ q
theorem tm.nil(b:Nat)(p:Value)(w:World)(Ei:w.heap[b]? = some (.cells #[p,.slice none 0 0] 167 (0,0))) :
  Calls Tryz.prog 149 #[.pointer (some ⟨b,0,none⟩)] w fun e w'=>e=.returned (.string ⟨#[]⟩)∧w'=w.drew:=by
 have hUS:=tm.TM
 have c1:w.drew.cell? ⟨b,1,none⟩=some (.slice none 0 0):=by
  have:w.drew.heap[b]? = some (.cells #[p,.slice none 0 0] 167 (0,0)):=Ei
  rw[Lib.cell_of_heap this]; rfl
 have hSD:(Builtin.unsafeSliceData_ #[165] 202 #[.slice none 0 0]).run Tryz.prog w.drew=.ok (.pointer none) w.drew:=rfl
 have mixed:Tryz.prog.follows .mixedOrders=true:=tm.mixed
 go_enter Tryz.func149,Tryz.ntmps149
 go_wp2
 go_region_o
 all_goals (go_wp2; go_ret; exact⟨rfl,rfl⟩)
theorem tm.room(b g o cap:Nat)(p:Value)(w:World)(hc0:cap≠0)(Ei:w.heap[b]? = some (.cells #[p,.slice (some ⟨g,o,none⟩) 0 cap] 167 (0,0))) :
  Calls Tryz.prog 149 #[.pointer (some ⟨b,0,none⟩)] w fun e w'=>e=.returned (.string ⟨#[]⟩)∧w'=w.drew:=by
 have hUS:=tm.TM
 have c1:w.drew.cell? ⟨b,1,none⟩=some (.slice (some ⟨g,o,none⟩) 0 cap):=by
  have:w.drew.heap[b]? = some (.cells #[p,.slice (some ⟨g,o,none⟩) 0 cap] 167 (0,0)):=Ei
  rw[Lib.cell_of_heap this]; rfl
 have hSD:(Builtin.unsafeSliceData_ #[165] 202 #[.slice (some ⟨g,o,none⟩) 0 cap]).run Tryz.prog w.drew=.ok (.pointer (some ⟨g,o,none⟩)) w.drew :=
  Lib.run_unsafeSliceData_row _ _ _ _ _ _ hc0
 clear hc0
 have mixed:Tryz.prog.follows .mixedOrders=true:=tm.mixed
 go_enter Tryz.func149,Tryz.ntmps149
 go_wp2
 go_region_o
 all_goals (go_wp2; go_ret; exact⟨rfl,rfl⟩)
theorem tm.full(b g cap:Nat)(p:Value)(cur:Array Value)(l:List UInt8)(w:World)(h0:l≠[])(wH:l.length≤cap)(Rw:l.length≤140737488355328)(Ei:w.heap[b]? = some (.cells #[p,.slice (some ⟨g,0,none⟩) l.length cap] 167 (0,0)))
  (hg:w.heap[g]? = some (.cells cur 5 (0,0))) (z6n:l.length≤cur.size) (cn:∀ j x,l[j]? = some x→w.cell? ⟨g,j,none⟩=some (.int .u8 x.toNat)) :
  Calls Tryz.prog 149 #[.pointer (some ⟨b,0,none⟩)] w fun e w'=>e=.returned (.string ⟨l.toArray⟩)∧w'=w.drew.freeze ⟨g,0,none⟩ l.length:=by
 have hl0:l.length≠0:=by simpa using h0
 have c1:w.drew.cell? ⟨b,1,none⟩=some (.slice (some ⟨g,0,none⟩) l.length cap):=by
  have:w.drew.heap[b]? = some (.cells #[p,.slice (some ⟨g,0,none⟩) l.length cap] 167 (0,0)):=Ei
  rw[Lib.cell_of_heap this]; rfl
 have hSD:(Builtin.unsafeSliceData_ #[165] 202 #[.slice (some ⟨g,0,none⟩) l.length cap]).run Tryz.prog w.drew=.ok (.pointer (some ⟨g,0,none⟩)) w.drew :=
  Lib.run_unsafeSliceData_row _ _ _ _ _ _ (by omega)
 have hUS:(Builtin.unsafeString_ #[202,3] 9 #[.pointer (some ⟨g,0,none⟩),.int .i64 l.length]).run Tryz.prog w.drew=.ok (.string ⟨l.toArray⟩) (w.drew.freeze ⟨g,0,none⟩ l.length):=by
  refine Lib.run_unsafeString_row w.drew 202 3 9 5 tm.pb tm.c5 g cur.size (by have hg':w.drew.heap[g]? = some (.cells cur 5 (0,0)):=hg; simp[World.shape?,hg']) l h0 (by omega) (by omega) ?_
  intro j x hx
  have e:(⟨g,0,none⟩:Addr).add j=⟨g,j,none⟩:=by unfold Addr.add; split<;>simp_all
  rw[e]
  exact cn j x hx
 have mixed:Tryz.prog.follows .mixedOrders=true:=tm.mixed
 go_enter Tryz.func149,Tryz.ntmps149
 go_wp2
 go_region_o
 all_goals (go_wp2; go_ret; exact⟨rfl,rfl⟩)
theorem tm.z7k(b g o:Nat)(p:Value)(cur:Array Value)(w:World)(Ei:w.heap[b]? = some (.cells #[p,.slice (some ⟨g,o,none⟩) 0 0] 167 (0,0)))(hg:w.heap[g]? = some (.cells cur 5 (0,0))) :
  Calls Tryz.prog 149 #[.pointer (some ⟨b,0,none⟩)] w fun e w'=>e=.returned (.string ⟨#[]⟩)∧w'=w.drew.alloc (.view ⟨g,o,none⟩ 5):=by
 have hUS:=tm.TM
 have qu:b<w.heap.size:=by
  rcases Nat.lt_or_ge b w.heap.size with h' | h'
  ·exact h'
  ·simp[Array.getElem?_eq_none h']at Ei
 have c1:w.drew.cell? ⟨b,1,none⟩=some (.slice (some ⟨g,o,none⟩) 0 0):=by
  have:w.drew.heap[b]? = some (.cells #[p,.slice (some ⟨g,o,none⟩) 0 0] 167 (0,0)):=Ei
  rw[Lib.cell_of_heap this]; rfl
 have hSD:(Builtin.unsafeSliceData_ #[165] 202 #[.slice (some ⟨g,o,none⟩) 0 0]).run Tryz.prog w.drew=.ok (.pointer (some ⟨w.drew.heap.size,0,none⟩)) (w.drew.alloc (.view ⟨g,o,none⟩ 5)) :=
  Lib.run_unsafeSliceData_zero w.drew _ _ 5 tm.pb ⟨g,o,none⟩ 0 (5,cur.size) (by have hg':w.drew.heap[g]? = some (.cells cur 5 (0,0)):=hg; simp[World.shape?,hg'])
 have c2:(w.drew.alloc (.view ⟨g,o,none⟩ 5)).cell? ⟨b,1,none⟩=some (.slice (some ⟨g,o,none⟩) 0 0):=by
  have:(w.drew.alloc (.view ⟨g,o,none⟩ 5)).heap[b]? = _:=(Lib.alloc_old w.drew _ b qu).trans Ei
  rw[Lib.cell_of_heap this]; rfl
 have c3:(w.alloc (.view ⟨g,o,none⟩ 5)).drew.cell? ⟨b,1,none⟩=some (.slice (some ⟨g,o,none⟩) 0 0):=c2
 have c0:w.cell? ⟨b,1,none⟩=some (.slice (some ⟨g,o,none⟩) 0 0):=c1
 have mixed:Tryz.prog.follows .mixedOrders=true:=tm.mixed
 go_enter Tryz.func149,Tryz.ntmps149
 go_wp2
 go_region_o
 all_goals (go_wp2; go_ret; exact⟨rfl,rfl⟩)
end
end Go.Proofs

namespace Go.AM.Lf
open Go.Proofs
theorem zcE:vT Tryz.prog 149 ⟨[.ptr],⟨[.v (.st [.op 0 167,.row 1 (.int .u8)]),.a (.int .u8)],[(0,.ptr 0 0)],[.var (.st [.op 0 167,.row 1 (.int .u8)]),.arr (.int .u8)]⟩,[],⟨[Ms 0,.v (.st [.op 0 167,.un])],[],[.var (.st [.op 0 167,.un]),.dead]⟩,1,fun x=>oB x.1 x.2⟩:=Np (P:=Tryz.prog) (g:=149) (t:=167) (enters_of Tryz.func149 (by kernel_rfl) rfl) tm.nil tm.room tm.full tm.z7k
def t76:=t75.s zcE
def PX:zI:=Lz [.cell 0 1 (.int .u8)] [Mr 1 zK,Mm 13 (.sl zZ),Mi 14] ⟨[Mi 15,.v (.st [.op 0 167,.row 1 (.int .u8)]),.a (.int .u8)],[(3,.ptr 0 0)],[.var (.st [.op 0 167,.row 1 (.int .u8)]),.arr (.int .u8)]⟩ [⟨.exit 0,⟨[.v (.st [.op 0 167,.row 1 (.int .u8)]),.a (.int .u8)],[],[.var (.st [.op 0 167,.row 1 (.int .u8)]),.arr (.int .u8)]⟩⟩] fun p s=>kA p.1 p.2.1 p.2.2 s
def Th:zI:=Lz [] [Mr 1 zK,Mm 29 (.sl q8),Mi 30] ⟨[Mi 31,.v (.st [.op 0 167,.row 1 (.int .u8)]),.a (.int .u8)],[(3,.ptr 0 0)],[.var (.st [.op 0 167,.row 1 (.int .u8)]),.arr (.int .u8)]⟩ [⟨.exit 2,⟨[.v (.st [.op 0 167,.row 1 (.int .u8)]),.a (.int .u8)],[],[.var (.st [.op 0 167,.row 1 (.int .u8)]),.arr (.int .u8)]⟩⟩] fun p s=>kS p.1 p.2.1 p.2.2 s
def SW:zI:=Lz [] [Mr 1 zK,Mi 48] ⟨[Mi 49,.v (.st [.op 0 167,.row 1 (.int .u8)]),.a (.int .u8)],[(3,.ptr 0 0)],[.var (.st [.op 0 167,.row 1 (.int .u8)]),.arr (.int .u8)]⟩ [⟨.exit 4,⟨[.v (.st [.op 0 167,.row 1 (.int .u8)]),.a (.int .u8)],[],[.var (.st [.op 0 167,.row 1 (.int .u8)]),.arr (.int .u8)]⟩⟩] fun p s=>kt p.1 p.2 s
def SN:zI:=Lz [] [Mm 57 (.sl zl),Mi 58] ⟨[Mi 59,.v (.st [.op 0 167,.row 1 (.int .u8)]),.a (.int .u8)],[(3,.ptr 0 0)],[.var (.st [.op 0 167,.row 1 (.int .u8)]),.arr (.int .u8)]⟩ [⟨.exit 6,⟨[.v (.st [.op 0 167,.row 1 (.int .u8)]),.a (.int .u8)],[],[.var (.st [.op 0 167,.row 1 (.int .u8)]),.arr (.int .u8)]⟩⟩] fun p s=>jX p.1 p.2 s
def h91:Hints:=Hz [(0,PX),(2,Th),(4,SW),(6,SN)] [(3,6,.flat [Ms 6])] []
theorem z7B:LO Tryz.f91 PX 0:=lk t76 (rz [1]) h91 [] zm
theorem z68:LO Tryz.f91 Th 2:=lk t76 (rz [1]) h91 [] zm
theorem z5B:LO Tryz.f91 SW 4:=lk t76 (rz [1]) h91 [] zm
theorem z6T:LO Tryz.f91 SN 6:=lk t76 (rz [1]) h91 [] zm
theorem zgb:zF Pz 91 ⟨[.ty zK],[.str],fun x=>lC x⟩:=qN t76 (rz [1]) h91 Tryz.func91 [0,2,4,6] (zN rfl z7B (zN rfl z68 (zN rfl z5B (zN rfl z6T zm))))
def t77:=t76.d zgb
theorem ze2:zF Pz 42 ⟨[.ty zK],[.bool],fun x=>QR x⟩:=qN t77 (rz [1]) hN Tryz.func42 [] zm
def t78:=t77.d ze2
def Pv:zI:=Lz [.slot 3 .str] [Mr 1 zK,Mm 17 (.sl zZ),Mi 18] ⟨[Mi 19,.a .str],[(3,.cur 0 .str)],[.arr .str]⟩ [⟨.exit 0,⟨[.a .str],[(3,.cur 0 .str)],[.arr .str]⟩⟩] fun p s=>kI p.1 p.2.1 p.2.2 s
def z0t:zI:=Lz [] [Mr 1 zK,Mm 30 (.sl q8),Mi 31] ⟨[Mi 32,.a .str],[(3,.cur 0 .str)],[.arr .str]⟩ [⟨.exit 2,⟨[.a .str],[(3,.cur 0 .str)],[.arr .str]⟩⟩] fun p s=>kF p.1 p.2.1 p.2.2 s
def SZ:zI:=Lz [] [Mr 1 zK,Mm 43 (.sl qy),Mi 44] ⟨[Mi 45,.a .str],[(3,.cur 0 .str)],[.arr .str]⟩ [⟨.exit 4,⟨[.a .str],[(3,.cur 0 .str)],[.arr .str]⟩⟩] fun p s=>kE p.1 p.2.1 p.2.2 s
def z0k:zI:=Lz [] [Mr 1 zK,Mm 56 (.sl qc),Mi 57] ⟨[Mi 58,.a .str],[(3,.cur 0 .str)],[.arr .str]⟩ [⟨.exit 6,⟨[.a .str],[(3,.cur 0 .str)],[.arr .str]⟩⟩] fun p s=>kN p.1 p.2.1 p.2.2 s
def Sc:zI:=Lz [] [Mr 1 zK,Mm 69 (.sl zl),Mi 70] ⟨[Mi 71,.a .str],[(3,.cur 0 .str)],[.arr .str]⟩ [⟨.exit 8,⟨[.a .str],[(3,.cur 0 .str)],[.arr .str]⟩⟩] fun p s=>kB p.1 p.2.1 p.2.2 s
def LX:zI:=Lz [] [Mm 82 (.sl zn),Mi 83] ⟨[Mi 84,.a .str],[(3,.cur 0 .str)],[.arr .str]⟩ [⟨.exit 10,⟨[.a .str],[(3,.cur 0 .str)],[.arr .str]⟩⟩] fun p s=>kh p.1 p.2 s
def h44:Hints:=Hz [(0,Pv),(2,z0t),(4,SZ),(6,z0k),(8,Sc),(10,LX)] [] []
theorem z7o:LO Tryz.f44 Pv 0:=lk t78 (rz [1]) h44 [] zm
theorem z7b:LO Tryz.f44 z0t 2:=lk t78 (rz [1]) h44 [] zm
theorem z5u:LO Tryz.f44 SZ 4:=lk t78 (rz [1]) h44 [] zm
theorem z6c:LO Tryz.f44 z0k 6:=lk t78 (rz [1]) h44 [] zm
theorem z5J:LO Tryz.f44 Sc 8:=lk t78 (rz [1]) h44 [] zm
theorem z3k:LO Tryz.f44 LX 10:=lk t78 (rz [1]) h44 [] zm
theorem zhh:zF Pz 44 ⟨[.ty zK],[(.sl .str)],fun x=>lF x⟩:=qN t78 (rz [1]) h44 Tryz.func44 [0,2,4,6,8,10] (zN rfl z7o (zN rfl z7b (zN rfl z5u (zN rfl z6c (zN rfl z5J (zN rfl z3k zm))))))
def t79:=t78.d zhh
end Go.AM.Lf
namespace Go.Proofs
section
open Go.RowKit Go.Maps Go.WideMaps
attribute [local go_sem] Oper.semAt_some
set_option maxRecDepth 100000
set_option maxHeartbeats 2000000
/-- What a map reads as when texts,all different,came. -/
def TW.Seen(D:DataW Unit)(l:List (List UInt8)):Prop:=IsMap D∧∀ s:List UInt8,D.atKey (.string s) (.lit (.int .i64 0))=.lit (.int .i64 (if s∈l then 1 else 0))
theorem TW.z95:TW.Seen (.map []) []:=⟨⟨_,rfl⟩,fun s=>by simp only[List.not_mem_nil,if_false]; rfl⟩
theorem TW.step{D:DataW Unit}{l:List (List UInt8)}{s:List UInt8}(h:TW.Seen D l)(hk:WideAt.IsKeyLit (.string s)):TW.Seen (D.put (.string s) (.lit (.int .i64 1))) (l++[s]):=by
 refine⟨h.1.put _ _,fun x => ?_⟩
 by_cases c:x=s
 ·subst c
  rw[atKey_put_same h.1 hk,if_pos (by simp)]
 ·rw[atKey_put_other (fun e=>c (by cases e; rfl)),h.2 x]
  congr 3
  simp[c]
theorem TW.cOf{D:DataW Unit}{l:List (List UInt8)}{s:List UInt8}{c:Int}(h:TW.Seen D l)(hat:D.atKey (.string s) (.lit (.int .i64 0))=.lit (.int .i64 c)):c=if s∈l then 1 else 0:=by
 rw[h.2 s]at hat
 cases hat; rfl
theorem TW.key:Keyed Tryz.prog 9:=string_keyed Tryz.underlying9
theorem TW.Mk(w:World):(zeroValue 3).run Tryz.prog w=.ok (.int .i64 0) w:=by kernel_rfl
theorem TW.zero(a:Option Addr)(cap:Nat)(w:World):Calls Tryz.prog 43 #[.slice a 0 cap] w fun e w'=>e=.returned (.tuple #[.string ⟨#[]⟩,.bool false])∧Below w.heap.size w w':=by
 have hmm := @run_makeMap Tryz.prog
 go_enter Tryz.func43,Tryz.ntmps43
 go_wp2
 refine wp_loop_rounds 1 ?_
 rw[rounds_succ]
 go_wp2
 go_ret2
 exact⟨rfl,(Below.refl _ _).alloc (Nat.le_refl _) _⟩
theorem TW.more(b off cap:Nat)(l:List (List UInt8))(w:World)(z6I:l.length*16≤140737488351232)(hb:b<w.heap.size)
  (hc:∀ j (hj:j<l.length),w.cell? ⟨b,off+j,none⟩=some (.string ⟨l[j].toArray⟩)) (jm:∀ s∈l,s.length≤maxLen) :
  Calls Tryz.prog 43 #[.slice (some ⟨b,off,none⟩) l.length cap] w fun e w'=>e=.returned (.tuple #[.string ⟨(Go.AM.Lf.Zg [] l).1.toArray⟩,.bool (Go.AM.Lf.Zg [] l).2])∧Below w.heap.size w w':=by
 have hmm := @run_makeMap Tryz.prog
 go_enter Tryz.func43,Tryz.ntmps43
 go_wp2
 go_loopw [10] (fun i wr=>∃ (k:Nat) (D:DataW Unit),k≤l.length∧i=.int .i64 k∧wr.ownsMap Tryz.prog 9 (plainElem Tryz.prog 3) w.heap.size k D∧TW.Seen D (l.take k)∧Go.AM.Lf.Zg [] l=Go.AM.Lf.Zg (l.take k) (l.drop k)∧Below w.heap.size w wr)
  (fun i _=>l.length-(intOf i).toNat)
 case atStart=>exact⟨0,.map [],Nat.zero_le _,rfl,World.ownsMap_made _ _ _ _,TW.z95,rfl,(Below.refl _ _).alloc (Nat.le_refl _) _⟩
 case round =>
  obtain⟨k,D,hk,rfl,z22,Df,htw,hnx⟩:=hrel
  obtain⟨s,hs⟩:∃ s:List UInt8,s=l.getD k []:=⟨_,rfl⟩
  have hse:∀ qu:k<l.length,s=l[k]:=fun qu=>by rw[hs]; simp[qu]
  have hcx:k<l.length→wr.cell? ⟨b,off+k,none⟩=some (.string ⟨s.toArray⟩):=fun qu=>by rw[hse qu]; exact(hnx.cell (by exact hb)).trans (hc k qu)
  have hlen:s.length≤maxLen:=by
   by_cases qu:k<l.length
   ·rw[hse qu]; exact jm _ (List.getElem_mem qu)
   ·rw[hs]; simp[qu]
  have Fa:keyOf Tryz.prog 9 (.string ⟨s.toArray⟩)=some (.string s):=keyOf_string_mk Tryz.underlying9 (by exact hlen)
  have FK:WideAt.IsKeyLit (.string s):=TW.key.key Fa
  have CP:∀ qu:k<l.length,l.drop k=s::l.drop (k+1):=fun qu=>by rw[hse qu]; exact List.drop_eq_getElem_cons qu
  have L6:∀ qu:k<l.length,l.take (k+1)=l.take k++[s]:=fun qu=>by rw[hse qu]; exact List.take_succ_eq_append_getElem qu
  clear hse hs
  by_cases XR:s∈l.take k
  ·have z6F:∀ qu:k<l.length,Go.AM.Lf.Zg [] l=(s,true):=fun qu=>by rw[htw,CP qu]; unfold Go.AM.Lf.Zg; rw[if_pos XR]
   go_wp2_with (first
    | (at_lookup; refine wpList_lookup_own_int _ rfl _ _ 137 rfl 9 3 .i64 TW.key Tryz.underlying137 Tryz.underlying3 (TW.Mk _) w.heap.size k _ rfl z22 _ _ rfl Fa ?_; intro c hat hwc; obtain rfl:c=1:=by rw[TW.cOf Df hat,if_pos XR])
    | (at_mapUpdate; refine wpList_mapUpdate_own _ rfl _ _ _ 137 rfl 9 3 TW.key Tryz.underlying137 _ w.heap.size k _ rfl z22 (by unfold maxLen; omega) _ _ _ rfl rfl Fa _ [] (plainElem_int (a:=2) Tryz.underlying3 rfl) ?_; intro w1 Lc Ix)
    | (at_lookup; refine wpList_lookup_own_int _ rfl _ _ 137 rfl 9 3 .i64 TW.key Tryz.underlying137 Tryz.underlying3 (TW.Mk _) w.heap.size (k+1) _ rfl Lc _ _ rfl Fa ?_; intro c2 R8 zgs; obtain rfl:c2=2:=by rw[atKey_put_same Df.1 FK]at R8; cases R8; rfl)
    | go_in)
   ·have qu:k<l.length:=by assumption
    go_ret2
    rw[z6F qu]
    exact⟨rfl,hnx.grown Ix hnx.size (fun j hj=>by cases hj; exact Nat.le_refl _)⟩
   ·have:k=l.length:=by omega
    subst this
    rw[List.drop_length]at htw
    go_ret2
    rw[htw]
    exact⟨rfl,hnx⟩
  ·have hgo:∀ qu:k<l.length,Go.AM.Lf.Zg [] l=Go.AM.Lf.Zg (l.take (k+1)) (l.drop (k+1)):=fun qu=>by
    rw[htw,CP qu,L6 qu]
    conv=>lhs; unfold Go.AM.Lf.Zg
    rw[if_neg XR]
   go_wp2_with (first
    | (at_lookup; refine wpList_lookup_own_int _ rfl _ _ 137 rfl 9 3 .i64 TW.key Tryz.underlying137 Tryz.underlying3 (TW.Mk _) w.heap.size k _ rfl z22 _ _ rfl Fa ?_; intro c hat hwc; obtain rfl:c=0:=by rw[TW.cOf Df hat,if_neg XR])
    | (at_mapUpdate; refine wpList_mapUpdate_own _ rfl _ _ _ 137 rfl 9 3 TW.key Tryz.underlying137 _ w.heap.size k _ rfl z22 (by unfold maxLen; omega) _ _ _ rfl rfl Fa _ [] (plainElem_int (a:=1) Tryz.underlying3 rfl) ?_; intro w1 Lc Ix)
    | (at_lookup; refine wpList_lookup_own_int _ rfl _ _ 137 rfl 9 3 .i64 TW.key Tryz.underlying137 Tryz.underlying3 (TW.Mk _) w.heap.size (k+1) _ rfl Lc _ _ rfl Fa ?_; intro c2 R8 zgs; obtain rfl:c2=1:=by rw[atKey_put_same Df.1 FK]at R8; cases R8; rfl)
    | go_in)
   ·have qu:k<l.length:=by assumption
    go_roundw
    case rel=>exact⟨k+1,_,by omega,by go_num,Lc,(L6 qu).symm▸TW.step Df FK,hgo qu,hnx.grown Ix hnx.size (fun j hj=>by cases hj; exact Nat.le_refl _)⟩
    case measure=>simp[intOf]; omega
   ·have:k=l.length:=by omega
    subst this
    rw[List.drop_length]at htw
    go_ret2
    rw[htw]
    exact⟨rfl,hnx⟩
end
end Go.Proofs
namespace Go.AM.Lf
open Go.Proofs
theorem zfa:zF Tryz.prog 43 ⟨[.ty (.sl .str)],[.str,.bool],fun x=>lV x⟩:=by
 refine lE Tryz.func43 (by kernel_rfl) rfl fun κ (l:List zf) qj y hy hI ha => ?_
 obtain⟨⟨h0,h1⟩,hy⟩:=hy
 cases hy
 obtain⟨v0,r,rfl,ha0,ha⟩:=xz.cons_inv (show xz κ [.zU (.sl .str) l] qj from ha)
 rw[ha.qI]
 have hv:=RD.wO (κ:=κ) (τ:=.sl .str) (x:=l) ha0 rfl
 rcases hv.og with⟨rfl,a,e⟩ | ⟨blk,off,cap,g,e,wm,wH,hg,hc⟩
 ·cases e
  refine(TW.zero a 0 κ.w).mono ?_
  rintro e w' ⟨rfl,hB⟩
  exact⟨hB,fun _=>⟨_,rfl,RD.zau RD.str RD.bool⟩⟩
 ·cases e
  refine(TW.more blk off cap l κ.w h0 (hI.yi blk wm) (fun j hj => ?_) h1).mono ?_
  ·have h3:=hc j hj 0 (.string ⟨l[j].toArray⟩) (by rw[(hg j hj).lL]; rfl)
   simpa[Ty.size]using h3
  ·rintro e w' ⟨rfl,hB⟩
   exact⟨hB,fun _=>⟨_,rfl,RD.zau RD.str RD.bool⟩⟩
end Go.AM.Lf

namespace Go.AM.Lf
open Go.Proofs
def t80:=t79.d zfa
theorem zht:zF Pz 95 ⟨[.ty zZ,.rp .str],[.bool],fun x=>w6 x.1 x.2⟩:=qN t80 (rz [2]) hN Tryz.func95 [] zm
def t81:=t80.d zht
def CH:zI:=Lz [] [Mm 0 (.sl zZ),.s 1 (.xr 95 [.rp .str]),Mi 7] ⟨[Mi 8],[],[]⟩ [⟨.exit 0,⟨[],[],[]⟩⟩,⟨.ret,⟨[Mi 4],[],[]⟩⟩] fun p s=>qh p.1 (fun z0=>w6 z0 p.2.1) p.2.2 s
def z4O:Hints:=Hz [(0,CH)] [] []
theorem z0a:LO Tryz.f55 CH 0:=lk t81 rn z4O [] zm
theorem Rd:zF Pz 55 ⟨[.ty (.sl zZ),.xr 95 [.rp .str]],[i64],fun x=>qq x.1 (fun z0=>w6 z0 x.2)⟩:=qN t81 rn z4O Tryz.func55 [0] (zN rfl z0a zm)
def t82:=t81.d Rd
theorem T3:zF Pz 94 ⟨[.ty (.sl zZ),.xr 95 [.rp .str]],[.bool],fun x=>qD x.1 (fun z0=>w6 z0 x.2)⟩:=qN (t82.d Rd) rn hN Tryz.func94 [] zm
def t83:=t82.d T3
theorem zhE:zF Pz 93 ⟨[.ty .str,.rp zK],[.bool],fun x=>wJ x.1 x.2⟩:=qN (t83.d T3) (rz [2]) hN Tryz.func93 [] zm
def t84:=t83.d zhE
def z02:zI:=Lz [] [Mm 0 (.sl .str),.s 1 (.xr 93 [.rp zK]),Mi 7] ⟨[Mi 8],[],[]⟩ [⟨.exit 0,⟨[],[],[]⟩⟩,⟨.ret,⟨[Mi 4],[],[]⟩⟩] fun p s=>qg p.1 (fun z0=>wJ z0 p.2.1) p.2.2 s
def h92:Hints:=Hz [(0,z02)] [] []
theorem z6P:LO Tryz.f92 z02 0:=lk t84 rn h92 [] zm
theorem zgQ:zF Pz 92 ⟨[.ty (.sl .str),.xr 93 [.rp zK]],[i64],fun x=>qp x.1 (fun z0=>wJ z0 x.2)⟩:=qN t84 rn h92 Tryz.func92 [0] (zN rfl z6P zm)
def t85:=t84.d zgQ
def PC:zI:=Lz [.slot 4 .str] [Mr 1 zK,Mm 11 (.sl qy),Mi 12] ⟨[Mi 13,.a .str],[(4,.cur 0 .str)],[.arr .str]⟩ [⟨.exit 0,⟨[.a .str],[(4,.cur 0 .str)],[.arr .str]⟩⟩] fun p s=>vD p.1 p.2.1 p.2.2 s
def R1:zI:=Lz [] [Mr 1 zK,Mm 24 (.sl zl),Mi 25] ⟨[Mi 26,.a .str],[(4,.cur 0 .str)],[.arr .str]⟩ [⟨.exit 2,⟨[.a .str],[(4,.cur 0 .str)],[.arr .str]⟩⟩] fun p s=>vJ p.1 p.2.1 p.2.2 s
def h45:Hints:=Hz [(0,PC),(2,R1)] [] []
theorem z7u:LO Tryz.f45 PC 0:=lk t85 (rz [1]) h45 [] zm
theorem z6t:LO Tryz.f45 R1 2:=lk t85 (rz [1]) h45 [] zm
theorem zh0:zF Pz 45 ⟨[.ty zK],[.str,.bool],fun x=>gp x⟩:=qN t85 (rz [1]) h45 Tryz.func45 [0,2] (zN rfl z7u (zN rfl z6t zm))
def t86:=t85.d zh0
def Mq:zI:=Lz [] [Mm 0 (.sl .str),Ms 1,Mi 7] ⟨[Mi 8],[],[]⟩ [⟨.exit 0,⟨[],[],[]⟩⟩,⟨.ret,⟨[Mi 4],[],[]⟩⟩] fun p s=>qx p.1 p.2.1 p.2.2 s
def zbz:Hints:=Hz [(0,Mq)] [] []
theorem z27:LO Tryz.f152 Mq 0:=lk t86 rn zbz [] zm
theorem zcw:zF Pz 152 ⟨[.ty (.sl .str),.ty .str],[i64],fun x=>qB x.1 x.2⟩:=qN t86 rn zbz Tryz.func152 [0] (zN rfl z27 zm)
def t87:=t86.d zcw
theorem zgR:zF Pz 99 ⟨[.ty (.sl .str),.ty .str],[.bool],fun x=>qW x.1 x.2⟩:=qN t87 rn hN Tryz.func99 [] zm
def t88:=t87.d zgR
abbrev Ow:=mH.den ⟨[Mm 1 .expr,.a .str],[(0,.cur 0 .str)],[.arr .str]⟩→T (mH.den ⟨[.a .str],[(0,.cur 0 .str)],[.arr .str]⟩)
abbrev z78(F:Ow):=vT Pz 151 ⟨[.cur,.any],⟨[Mm 1 .expr,.a .str],[(0,.cur 0 .str)],[.arr .str]⟩,[],⟨[.a .str],[(0,.cur 0 .str)],[.arr .str]⟩,1,F⟩
def z9P(gE:Ow)(VB:z78 gE):Tb:=t88.s VB
def Ls(gE:Ow):zI:=Lz [] [Mm 23 (.sl .expr),Mi 24] ⟨[Mi 25,.a .str],[(0,.cur 0 .str)],[.arr .str]⟩ [⟨.exit 0,⟨[.a .str],[(0,.cur 0 .str)],[.arr .str]⟩⟩] fun p s=>gi (fun y0 y1=>gE (y0,y1)) p.1 p.2 s
def zaR(gE:Ow):Hints:=Hz [(0,Ls gE)] [(0,1,.ways [⟨.normal,⟨[Mb 16,.a .str],[(0,.cur 0 .str)],[.arr .str]⟩⟩]),(3,1,.ways [⟨.normal,⟨[.a .str],[(0,.cur 0 .str)],[.arr .str]⟩⟩])] []
theorem z3A(gE:Ow)(VB:z78 gE):LO Tryz.f151 (Ls gE) 0:=lk (z9P gE VB) (rz [3]) (zaR gE) [] zm
theorem z3q(gE:Ow)(VB:z78 gE):vT Pz 151 ⟨[.cur,.any],⟨[Mm 1 .expr,.a .str],[(0,.cur 0 .str)],[.arr .str]⟩,[],⟨[.a .str],[(0,.cur 0 .str)],[.arr .str]⟩,1,fun x=>bL (fun y0 y1=>gE (y0,y1)) x.1 x.2⟩:=P7 (z9P gE VB) (rz [3]) (zaR gE) Tryz.func151 [0] (zN rfl (z3A gE VB) zm)
theorem z4d:vT Pz 151 ⟨[.cur,.any],⟨[Mm 1 .expr,.a .str],[(0,.cur 0 .str)],[.arr .str]⟩,[],⟨[.a .str],[(0,.cur 0 .str)],[.arr .str]⟩,1,fun x=>eU x.1 x.2⟩:=LM (fun gE x=>bL (fun y0 y1=>gE (y0,y1)) x.1 x.2) (fun x=>rfl) (fun gE VB=>z3q gE VB)
def t89:=t88.s z4d
def Px:Tb:=t89.s z4d
def GH:zI:=Lz [] [Mm 23 (.sl .expr),Mi 24] ⟨[Mi 25,.a .str],[(0,.cur 0 .str)],[.arr .str]⟩ [⟨.exit 0,⟨[.a .str],[(0,.cur 0 .str)],[.arr .str]⟩⟩] fun p s=>y3 p.1 p.2 s
def Ra:Hints:=Hz [(0,GH)] [(0,1,.ways [⟨.normal,⟨[Mb 16,.a .str],[(0,.cur 0 .str)],[.arr .str]⟩⟩]),(3,1,.ways [⟨.normal,⟨[.a .str],[(0,.cur 0 .str)],[.arr .str]⟩⟩])] []
theorem Nf:LO Tryz.f151 GH 0:=lk Px (rz [3]) Ra [] zm
theorem Lx:vT Pz 151 ⟨[.cur,.any],⟨[Mm 1 .expr,.a .str],[(0,.cur 0 .str)],[.arr .str]⟩,[.slot 0 .str],⟨[.a .str],[(0,.cur 0 .str)],[.arr .str]⟩,1,fun x=>cW x.1 x.2⟩:=P7 Px (rz [3]) Ra Tryz.func151 [0] (zN rfl Nf zm)
def t90:=t89.s Lx
theorem zfD:zF Pz 97 ⟨[.ty .expr],[(.sl .str)],fun x=>jU x⟩:=qN (t90.s Lx) (rz [1]) hN Tryz.func97 [] zm
def t91:=t90.d zfD
end Go.AM.Lf
namespace Go.Proofs
section
open Go.RowKit Go.Maps
attribute [local go_sem] Oper.semAt_some
set_option maxRecDepth 100000
set_option maxHeartbeats 2000000
theorem CC.info:(Tryz.prog.info? 9).map (fun i=>(i.zero,i.size,i.bytes))=some (some (.string ⟨#[]⟩),1,16):=by kernel_rfl
theorem CC.wp{ops:Array Oper}{rest:List Oper}{o:Oper}{a:Act}{Q:Exit→Act→World→Prop}(w:World)(hgd:o.guard=Option.none)(s x:Operand)(t u:TypeId)
  (ho:o.op=.call { callee:=.builtin .append,args := #[s,x],argTypes := #[t,u] }) (v':Value) (w':World)
  (hr:(Builtin.append_ #[t,u] o.type #[a.eval s,a.eval x]).run Tryz.prog w=.ok v' w') (h:wpList Tryz.prog ops Q rest (a.put o.dst v') w'):wpList Tryz.prog ops Q (o::rest) a w :=
 wpList_plain hgd fun _ hK=>by
  unfold Oper.wp execOp
  simp only[ho,resolve,invoke,builtin,Sem.run_bind,Sem.run_pure,Result.andThen_ok,List.map_toArray,List.map_cons,List.map_nil,hr]
  exact hK _ _ h
/-- An append of nothing. -/
theorem CC.C3{base:Option Addr}{n cap:Nat}{a:Option Addr}{ty:TypeId}(w:World)(wH:n≤cap) :
  (Builtin.append_ #[56,56] ty #[.slice base n cap,.slice a 0 0]).run Tryz.prog w=.ok (.slice base n cap) w:=by
 obtain⟨i0,hi,Ee,hz1,hz2⟩:=info_parts CC.info
 have hu:=Tryz.underlying56
 cases a<;>cases base<;>simp[Builtin.append_,run_underlying hu,sizeOf,typeInfo,hi,Builtin.lenOf,Builtin.firstCells,loadCells,loadCellsFrom,storeCells,wH]
theorem CC.CB{n:Nat}{ty:TypeId}(w:World)(hn:0<n)(hb:n*16≤140737488355328) :
  ∃ cs:Array Value,cs.size=grownCap w n 0 9∧(Builtin.append_ #[56,3] ty #[.slice Option.none 0 0,.int .i64 (n:Int)]).run Tryz.prog w=.ok (.slice (some ⟨w.heap.size,0,Option.none⟩) n (grownCap w n 0 9)) (w.drew.alloc (.cells cs 9)):=by
 obtain⟨i0,hi,Ee,hz1,hz2⟩:=info_parts CC.info
 have hu:=Tryz.underlying56
 have he:=Tryz.underlying3
 have w1:IntKind.i64.wrap (n:Int)=n:=IntWalk.i64_in _ (by omega)
 have h5:IntKind.i64.max=9223372036854775807:=by decide
 have ai:∀ w,(Go.asInt (.int .i64 (n:Int))).run Tryz.prog w=.ok (n:Int) w:=fun w=>by simp[Go.asInt,asIntOf]
 have g1:¬ ((n:Int)<0):=by omega
 have g2:¬ ((281474976710656:Int)<(n:Int)*16):=by omega
 have g3:¬ (n=0):=by omega
 have g4:¬ (281474976710656<Builtin.nextslicecap n 0*16):=by
  have:=growslice_fits (bytes:=16) (need:=n) (old:=0) (by omega) (by omega)
  omega
 have hge:=grownCap_ge w n 0 9
 refine⟨Builtin.zeroCells (Value.string ⟨#[]⟩).cells n++Builtin.zeroCells (Value.string ⟨#[]⟩).cells (grownCap w n 0 9-n),?_,?_⟩
 ·simp[Builtin.zeroCells,Value.cells]; omega
 ·simp[Builtin.append_,run_underlying hu,run_underlying he,sizeOf,typeInfo,zeroValue,hi,Ee,hz1,hz2,ai,w1,Builtin.lenOf,Builtin.firstCells,Question.forced,newRow,grownCap,g1,g2,g3,g4]
  intro h
  omega
theorem CC.grow(n:Nat)(w:World)(hb:n*16≤140737488355328):Calls Tryz.prog 150 #[.slice Option.none 0 0,.int .i64 (n:Int)] w fun e w'=>∃ v,e=.returned v∧w'.ownsRow w.heap.size 9 1 v 0 []∧Below w.heap.size w w':=by
 go_enter Tryz.func150,Tryz.ntmps150
 by_cases hn:0<n
 ·obtain⟨cs,Kw,hr⟩:=CC.CB (ty:=56) w hn hb
  go_wp2_with (first
   | (at_builtin; refine CC.wp _ rfl _ _ _ _ rfl _ _ hr ?_)
   | go_in)
  go_ret
  refine⟨_,rfl,⟨rfl,.inr ⟨w.heap.size,_,cs,rfl,Nat.le_refl _,by show(w.heap.push (Obj.cells cs 9))[w.heap.size]? = _; exact Array.getElem?_push_size,Nat.zero_le _,grownCap_le_maxLen w n 0 9 (by unfold maxLen; omega),by rw[Kw,Nat.mul_one],rfl⟩⟩,?_⟩
  have hB:Below w.heap.size w (w.alloc (.cells cs 9)):=(Below.refl _ _).alloc (Nat.le_refl _) _
  exact⟨hB.os,hB.tape,hB.output,hB.size,hB.block⟩
 ·obtain rfl:n=0:=by omega
  go_wp2
  go_ret
  exact⟨_,rfl,World.ownsRow_nil _ _ _ _,Below.refl _ _⟩
/-- The texts of a slice whose block lies below n₀. -/
def CC.z6R(n₀:Nat)(W:World)(sv:Value)(l:List (List UInt8)):Prop:=(∃ a,sv=.slice a 0 0∧l=[])∨∃ b off cap,sv=.slice (some ⟨b,off,Option.none⟩) l.length cap∧b<n₀∧∀ j (hj:j<l.length),W.cell? ⟨b,off+j,Option.none⟩=some (.string ⟨l[j].toArray⟩)
def CC.cells(l:List (List UInt8)):List Value:=l.map fun s=>.string ⟨s.toArray⟩
/-- How many texts the first k slices have; which. -/
def CC.fl(ls:List (List (List UInt8)))(k:Nat):Nat:=(ls.take k).flatten.length
def CC.out(ls:List (List (List UInt8)))(k:Nat):List Value:=CC.cells (ls.take k).flatten
def CC.at(ls:List (List (List UInt8)))(k:Nat):List (List UInt8):=ls.getD k []
theorem CC.take_succ{ls:List (List (List UInt8))}{k:Nat}(hk:k<ls.length):(ls.take (k+1)).flatten=(ls.take k).flatten++CC.at ls k:=by
 rw[List.take_succ_eq_append_getElem hk,List.flatten_append,List.flatten_singleton]
 simp[CC.at,hk]
theorem CC.z3G{ls:List (List (List UInt8))}{k:Nat}(hk:k<ls.length):CC.fl ls (k+1)=CC.fl ls k+(CC.at ls k).length:=by
 unfold CC.fl; rw[CC.take_succ hk,List.length_append]
theorem CC.Rf{ls:List (List (List UInt8))}{k:Nat}(hk:k<ls.length):CC.out ls (k+1)=CC.out ls k++CC.cells (CC.at ls k):=by
 unfold CC.out CC.cells; rw[CC.take_succ hk,List.map_append]
theorem CC.zaL(ls:List (List (List UInt8)))(k:Nat):CC.fl ls k≤CC.fl ls ls.length:=by
 unfold CC.fl
 rw[List.take_length]
 conv=>rhs; rw[← List.take_append_drop k ls,List.flatten_append,List.length_append]
 omega
theorem CC.concat(b off cap L:Nat)(svs:Nat→Value)(ls:List (List (List UInt8)))(w:World)(hL:L=ls.length)(z6I:L*24≤140737488351232)(hb:b<w.heap.size)
  (hc:∀ j,j<L→w.cell? ⟨b,off+j,Option.none⟩=some (svs j)) (hs:∀ j,j<L→CC.z6R w.heap.size w (svs j) (CC.at ls j)) (z5L:CC.fl ls L*16≤140737488355328) :
  Calls Tryz.prog 96 #[.slice (some ⟨b,off,Option.none⟩) L cap] w fun e w'=>∃ v,e=.returned v∧w'.ownsRow w.heap.size 9 1 v (CC.fl ls L) (CC.out ls L)∧Below w.heap.size w w':=by
 obtain⟨i0,hi,Ee,hz1,hz2⟩:=info_parts CC.info
 have Wx:∀ k,k<L→CC.fl ls (k+1)=CC.fl ls k+(CC.at ls k).length:=fun k hk=>CC.z3G (by omega)
 have hou:∀ k,k<L→CC.out ls (k+1)=CC.out ls k++CC.cells (CC.at ls k):=fun k hk=>CC.Rf (by omega)
 have hle:∀ k,CC.fl ls k≤CC.fl ls L:=fun k=>hL▸CC.zaL ls k
 have hf0:CC.fl ls 0=0:=rfl
 have ho0:CC.out ls 0=[]:=rfl
 generalize CC.fl ls=fl at *
 generalize CC.out ls=out at *
 generalize CC.at ls=at_ at *
 clear hL ls
 generalize hM:fl L=M at *
 go_enter Tryz.func96,Tryz.ntmps96
 go_wp2
 go_loopw [3,11] (fun sz i wr=>∃ k:Nat,k≤L∧i=.int .i64 k∧sz=.int .i64 (fl k:Int)∧w=wr) (fun _ i _=>L-(intOf i).toNat)
 case atStart=>exact⟨0,Nat.zero_le _,rfl,by rw[hf0]; rfl,rfl⟩
 case round =>
  obtain⟨k,hk,rfl,rfl,rfl⟩:=hrel
  by_cases qu:k<L
  ·have cn:=hc k qu
   have hS:=hs k qu
   have h1:=Wx k qu
   have h2:=hle (k+1)
   have hSq:∃ a c,svs k=.slice a (at_ k).length c:=by
    rcases hS with⟨a,e,he⟩ | ⟨b1,o1,c1,e,_,_⟩
    ·exact⟨a,0,by rw[e,he]; rfl⟩
    ·exact⟨_,c1,e⟩
   obtain⟨a1,c1,e1⟩:=hSq
   rw[e1]at cn
   clear hc hs hS Wx hou hle e1
   generalize hq:(at_ k).length=q at *
   generalize hm:fl k=m at *
   generalize hm':fl (k+1)=m' at *
   go_wp2
   go_roundw
   case rel=>exact⟨k+1,by omega,by go_num,by rw[hm',h1]; go_num,by first | rfl | trivial⟩
   case measure=>simp[intOf]; omega
  ·have FK:k=L:=by omega
   subst FK
   rw[hM]
   have hg:=CC.grow M w z5L
   go_wp2_with (first
    | (go_at_call 150; refine hg.mono ?_; rintro e w1 ⟨v1,rfl,iE,hB⟩)
    | go_in)
   clear hg
   go_loopw [6,27] (fun o i wr'=>∃ j:Nat,j≤k∧i=.int .i64 j∧wr'.ownsRow w.heap.size 9 1 o (fl j) (out j)∧Below w.heap.size w wr') (fun _ i _=>k-(intOf i).toNat)
   case atStart=>exact⟨0,Nat.zero_le _,rfl,by rw[hf0,ho0]; exact iE,hB⟩
   case round =>
    obtain⟨j,hj,rfl,iE,hB⟩:=hrel
    by_cases HL:j<k
    ·have cn:wr.cell? ⟨b,off+j,Option.none⟩=some (svs j):=(hB.cell (p:=⟨b,off+j,Option.none⟩) hb).trans (hc j HL)
     have h1:=Wx j HL
     have h2:=hle (j+1)
     have h3:=hou j HL
     rcases hs j HL with⟨a,e,he⟩ | ⟨b1,o1,c1,e,BN,Kw⟩
     ·rw[e]at cn
      rw[he]at h1 h3
      have e1:fl (j+1)=fl j:=by rw[h1]; rfl
      have e2:out (j+1)=out j:=by rw[h3]; simp[CC.cells]
      have hv:∃ base n cap,u6=.slice base n cap∧n≤cap:=by
       rcases iE.2 with⟨rfl,_⟩ | ⟨g,Uy,cur,rfl,_,_,wH,_⟩
       ·exact⟨_,_,_,rfl,Nat.le_refl _⟩
       ·exact⟨_,_,_,rfl,wH⟩
      obtain⟨base,n,Uy,rfl,wH⟩:=hv
      have hr:=CC.C3 (base:=base) (n:=n) (cap:=Uy) (a:=a) (ty:=56) wr wH
      clear hc hs Wx hou hle hf0 ho0 he e
      go_wp2_with (first
       | (at_builtin; refine CC.wp _ rfl _ _ _ _ rfl _ _ hr ?_)
       | go_in)
      go_roundw
      case rel=>exact⟨j+1,by omega,by go_num,by rw[e1,e2]; exact iE,hB⟩
      case measure=>simp[intOf]; omega
     ·rw[e]at cn
      have hB1:=hB.size
      have hl:(CC.cells (at_ j)).length=(at_ j).length*1:=by simp[CC.cells]
      have nS:∀ u∈CC.cells (at_ j),u.oneCell'=true:=by
       intro u hu
       obtain⟨s,_,rfl⟩:=List.mem_map.1 hu
       rfl
      have zam:∀ i u,(CC.cells (at_ j))[i]? = some u→wr.cell? ((⟨b1,o1,Option.none⟩:Addr).add i)=some u:=by
       intro i u hu
       have QJ:i<(at_ j).length:=by
        have:=(List.getElem?_eq_some_iff.1 hu).1
        simpa[CC.cells]using this
       have Jy:(⟨b1,o1,Option.none⟩:Addr).add i=⟨b1,o1+i,Option.none⟩:=by unfold Addr.add; split<;>simp_all
       rw[Jy,(hB.cell (p:=⟨b1,o1+i,Option.none⟩) BN),Kw i QJ,← hu]
       simp[CC.cells,QJ]
      clear hc hs Wx hou hle hf0 ho0 e Kw
      generalize CC.cells (at_ j)=news at *
      generalize hq:(at_ j).length=q at *
      go_wp2_with (first
       | (at_builtin; refine wpList_append_own _ rfl _ _ 56 rfl w.heap.size 9 i0 (.string ⟨#[]⟩) 1 16 Tryz.underlying56 hi Ee hz1 hz2 rfl (by decide) _ _ _ rfl iE ⟨b1,o1,Option.none⟩ q c1 news rfl hl zam nS (by unfold maxLen; omega) (by omega) hB1 ?_; intro v' w' zaU z5z ziD)
       | go_in)
      go_roundw
      case rel=>exact⟨j+1,by omega,by go_num,by rw[h1,h3]; exact zaU,hB.grown z5z hB.size (fun i hi=>(iE.lt i hi).1)⟩
      case measure=>simp[intOf]; omega
    ·have hjk:j=k:=by omega
     subst hjk
     clear hc hs Wx hou hle
     go_wp2
     go_ret
     exact⟨_,rfl,by rw[hM]at iE; exact iE,hB⟩
end
end Go.Proofs
namespace Go.AM.Lf
open Go.Proofs
theorem z2j{κ:KS}{l:List zf}{cs:List Value}(hI:Inv κ)(h:Rc κ.w κ.ok (.sl .str) l cs):∃ v,cs=[v]∧CC.z6R κ.w.heap.size κ.w v l:=by
 rcases h.og with⟨rfl,a,e⟩ | ⟨blk,off,cap,g,e,wm,wH,hg,hc⟩
 ·exact⟨_,e,.inl ⟨a,rfl,rfl⟩⟩
 ·refine⟨_,e,.inr ⟨blk,off,cap,rfl,hI.yi blk wm,fun j hj => ?_⟩⟩
  have h3:=hc j hj 0 (.string ⟨l[j].toArray⟩) (by rw[(hg j hj).lL]; rfl)
  simpa[Ty.size]using h3
theorem zfu:zF Tryz.prog 96 ⟨[.ty (.sl (.sl .str))],[.sl .str],fun x=>wg x⟩:=by
 refine lE Tryz.func96 (by kernel_rfl) rfl fun κ (ls:List (List zf)) qj y hy hI ha => ?_
 obtain⟨⟨h0,h1,h2⟩,hy⟩:=hy
 cases hy
 obtain⟨v0,r,rfl,ha0,ha⟩:=xz.cons_inv (show xz κ [.zU (.sl (.sl .str)) ls] qj from ha)
 rw[ha.qI]
 have hv:=RD.wO (κ:=κ) (τ:=.sl (.sl .str)) (x:=ls) ha0 rfl
 rcases hv.og with⟨rfl,a,e⟩ | ⟨blk,off,cap,g,e,wm,wH,hg,hc⟩
 ·exact absurd rfl h2
 ·cases e
  have na:∀ j (hj:j<ls.length),∃ v,g j=[v]∧CC.z6R κ.w.heap.size κ.w v ls[j]:=fun j hj=>z2j hI (hg j hj)
  have cn:∀ j,j<ls.length→κ.w.cell? ⟨blk,off+j,none⟩=some ((g j).headD (.bool false)):=fun j hj=>by
   obtain⟨v,hv,_⟩:=na j hj
   have h3:=hc j hj 0 v (by rw[hv]; rfl)
   rw[hv]
   simpa[Ty.size]using h3
  have Wx:ls.flatten=(ls.take ls.length).flatten:=by rw[List.take_length]
  refine(CC.concat blk off cap ls.length (fun j=>(g j).headD (.bool false)) ls κ.w rfl h0 (hI.yi blk wm) cn (fun j hj => ?_) (by unfold CC.fl; rw[← Wx]; exact h1)).mono ?_
  ·obtain⟨v,hv,hs⟩:=na j hj
   rw[hv]
   have:CC.at ls j=ls[j]:=by simp[CC.at,hj]
   rw[this]; exact hs
  ·rintro e w' ⟨v,rfl,iE,hB⟩
   refine⟨hB,fun _=>⟨_,rfl,?_⟩⟩
   unfold CC.fl CC.out at iE
   rw[← Wx]at iE
   show RD _ (.zU (.sl .str) ls.flatten) v
   refine RD.nD rfl ?_
   rcases iE.2 with⟨rfl,hn⟩ | ⟨gb,Uy,cur,rfl,hgb,z6n,hle,Rw,jm,htk⟩
   ·rw[List.eq_nil_of_length_eq_zero hn]
    exact .iG .str none
   ·refine .sl .str _ gb 0 Uy (fun i=>[.string ⟨(ls.flatten[i]?.getD []).toArray⟩]) (.inr ⟨hgb,(Array.getElem?_eq_some_iff.1 z6n).1⟩) hle (fun i hi => ?_) (fun i hi j u hu => ?_)
    ·rw[List.getElem?_eq_getElem hi]
     exact .str _
    ·match j,hu with
     | 0,hu =>
      simp only[List.getElem?_cons_zero,Option.some.injEq]at hu
      have e0:(0:Nat)+i*Ty.size .str+0=i:=by show 0+i*1+0=i; omega
      show w'.cell? ⟨gb,0+i*Ty.size .str+0,none⟩=some u
      rw[e0,cell_of_row w' gb i cur _ (0,0) z6n,← hu]
      have h4:(cur.toList.take (ls.flatten.length*1))[i]? = (CC.cells ls.flatten)[i]? := by rw[htk]
      rw[List.getElem?_take_of_lt (by omega)]at h4
      rw[← Array.getElem?_toList,h4]
      unfold CC.cells
      rw[List.getElem?_map,List.getElem?_eq_getElem hi]; rfl
end Go.AM.Lf

namespace Go.AM.Lf
open Go.Proofs
def t92:=t91.d zfu
theorem zbg:zF Pz 101 ⟨[.ty q8,.rp .str],[.bool],fun x=>wv x.1 x.2⟩:=qN t92 (rz [2]) hN Tryz.func101 [] zm
def t93:=t92.d zbg
def H2:zI:=Lz [] [Mm 0 (.sl q8),.s 1 (.xr 101 [.rp .str]),Mi 7] ⟨[Mi 8],[],[]⟩ [⟨.exit 0,⟨[],[],[]⟩⟩,⟨.ret,⟨[Mi 4],[],[]⟩⟩] fun p s=>xa p.1 (fun z0=>wv z0 p.2.1) p.2.2 s
def Pp:Hints:=Hz [(0,H2)] [] []
theorem Oc:LO Tryz.f153 H2 0:=lk t93 rn Pp [] zm
theorem IK:zF Pz 153 ⟨[.ty (.sl q8),.xr 101 [.rp .str]],[i64],fun x=>xT x.1 (fun z0=>wv z0 x.2)⟩:=qN t93 rn Pp Tryz.func153 [0] (zN rfl Oc zm)
def t94:=t93.d IK
theorem IL:zF Pz 100 ⟨[.ty (.sl q8),.xr 101 [.rp .str]],[.bool],fun x=>qH x.1 (fun z0=>wv z0 x.2)⟩:=qN (t94.d IK) rn hN Tryz.func100 [] zm
def t95:=t94.d IL
theorem zhp:zF Pz 98 ⟨[.ty .str,.rp (.sl .str),.rp zK],[.bool],fun x=>vw x.1 x.2.1 x.2.2⟩:=qN (t95.d IL) (rz [3]) hN Tryz.func98 [] zm
def t96:=t95.d zhp
def C0:zI:=Lz [] [Mm 0 (.sl .str),.s 1 (.xr 98 [.rp (.sl .str),.rp zK]),Mi 7] ⟨[Mi 8],[],[]⟩ [⟨.exit 0,⟨[],[],[]⟩⟩,⟨.ret,⟨[Mi 4],[],[]⟩⟩] fun p s=>qg p.1 (fun z0=>vw z0 p.2.1.1 p.2.1.2) p.2.2 s
def z4i:Hints:=Hz [(0,C0)] [] []
theorem RP:LO Tryz.f92 C0 0:=lk t96 rn z4i [] zm
theorem z00:zF Pz 92 ⟨[.ty (.sl .str),.xr 98 [.rp (.sl .str),.rp zK]],[i64],fun x=>qp x.1 (fun z0=>vw z0 x.2.1 x.2.2)⟩:=qN t96 rn z4i Tryz.func92 [0] (zN rfl RP zm)
def t97:=t96.d z00
def T46:Tb:=t97.d z00
def Sf:zI:=Lz [] [Mr 2 zK,Mr 3 (.sl .str),Mm 13 (.sl zn),Mi 14] ⟨[Mm 6 (.sl .str),Mi 15],[],[]⟩ [⟨.exit 0,⟨[Mm 6 (.sl .str)],[],[]⟩⟩] fun p s=>j3 p.1 p.2.1 p.2.2.1 p.2.2.2 s
def T9:zI:=Lz [] [Mr 2 zK,Mr 3 (.sl .str),Mm 30 (.sl zl),Mi 31] ⟨[Mm 6 (.sl .str),Mi 32],[],[]⟩ [⟨.exit 2,⟨[Mm 6 (.sl .str)],[],[]⟩⟩] fun p s=>uZ p.1 p.2.1 p.2.2.1 p.2.2.2 s
def h46:Hints:=Hz [(0,Sf),(2,T9)] [] []
theorem z8l:LO Tryz.f46 Sf 0:=lk T46 (rz [2,3]) h46 [] zm
theorem z8f:LO Tryz.f46 T9 2:=lk T46 (rz [2,3]) h46 [] zm
theorem zfd:zF Pz 46 ⟨[.ty zK,.ty (.sl .str)],[.str,.bool],fun x=>cX x.1 x.2⟩:=qN T46 (rz [2,3]) h46 Tryz.func46 [0,2] (zN rfl z8l (zN rfl z8f zm))
def t98:=t97.d zfd
theorem zaJ:zF Pz 155 ⟨[.ty .str,.rp (.sl .str)],[.bool],fun x=>wN x.1 x.2⟩:=qN t98 rn hN Tryz.func155 [] zm
def t99:=t98.d zaJ
def Ca:zI:=Lz [] [Mm 0 (.sl .str),.s 1 (.xr 155 [.rp (.sl .str)]),Mi 7] ⟨[Mi 8],[],[]⟩ [⟨.exit 0,⟨[],[],[]⟩⟩,⟨.ret,⟨[Mi 4],[],[]⟩⟩] fun p s=>qg p.1 (fun z0=>wN z0 p.2.1) p.2.2 s
def z4R:Hints:=Hz [(0,Ca)] [] []
theorem Sh:LO Tryz.f92 Ca 0:=lk t99 rn z4R [] zm
theorem z0c:zF Pz 92 ⟨[.ty (.sl .str),.xr 155 [.rp (.sl .str)]],[i64],fun x=>qp x.1 (fun z0=>wN z0 x.2)⟩:=qN t99 rn z4R Tryz.func92 [0] (zN rfl Sh zm)
def t100:=t99.d z0c
theorem zcO:zF Pz 154 ⟨[.ty (.sl .str),.xr 155 [.rp (.sl .str)]],[.bool],fun x=>xY x.1 (fun z0=>wN z0 x.2)⟩:=qN (t100.d z0c) rn hN Tryz.func154 [] zm
def t101:=t100.d zcO
theorem z94:zF Pz 102 ⟨[.ty .expr,.ty (.sl .str)],[.bool],fun x=>gP x.1 x.2⟩:=qN t101 (rz [2,3]) hN Tryz.func102 [] zm
def t102:=t101.d z94
abbrev Y47:=uD [.ty .expr,.ty (.sl .str)]→T (UI [.bool])
abbrev H47(F:Y47):=zF Pz 47 ⟨[.ty .expr,.ty (.sl .str)],[.bool],F⟩
theorem z4Y(kU:Y47)(Qp:H47 kU):zF Pz 104 ⟨[.ty .expr,.rp (.sl .str)],[.bool],fun x=>xQ (fun y0 y1=>kU (y0,y1)) x.1 x.2⟩:=qN (t102.d Qp) (rz [2]) hN Tryz.func104 [] zm
def RO(kU:Y47)(Qp:H47 kU):Tb:=t102.d (z4Y _ Qp)
def Gf(kU:Y47):zI:=Lz [] [Mm 0 (.sl .expr),.s 1 (.xr 104 [.rp (.sl .str)]),Mi 7] ⟨[Mi 8],[],[]⟩ [⟨.exit 0,⟨[],[],[]⟩⟩,⟨.ret,⟨[Mi 4],[],[]⟩⟩] fun p s=>xH (fun y0 y1=>kU (y0,y1)) p.1 (fun z0=>(xQ (fun y0 y1=>kU (y0,y1))) z0 p.2.1) p.2.2 s
def TQ(kU:Y47):Hints:=Hz [(0,Gf kU)] [] []
theorem NK(kU:Y47)(Qp:H47 kU):LO Tryz.f156 (Gf kU) 0:=lk (RO kU Qp) rn (TQ kU) [] zm
theorem z3U(kU:Y47)(Qp:H47 kU):zF Pz 156 ⟨[.ty (.sl .expr),.xr 104 [.rp (.sl .str)]],[i64],fun x=>wQ (fun y0 y1=>kU (y0,y1)) x.1 (fun z0=>(xQ (fun y0 y1=>kU (y0,y1))) z0 x.2)⟩:=qN (RO kU Qp) rn (TQ kU) Tryz.func156 [0] (zN rfl (NK kU Qp) zm)
theorem z1w(kU:Y47)(Qp:H47 kU):zF Pz 103 ⟨[.ty (.sl .expr),.xr 104 [.rp (.sl .str)]],[.bool],fun x=>wk (fun y0 y1=>kU (y0,y1)) x.1 (fun z0=>(xQ (fun y0 y1=>kU (y0,y1))) z0 x.2)⟩:=qN (t102.d (z3U _ Qp)) rn hN Tryz.func103 [] zm
def h47(kU:Y47):Hints:=Hz [] [(0,3,.ways [⟨.normal,⟨[Mb 41,.v (.zU .expr),.v (.zU .expr)],[],[.var (.zU .expr),.var (.zU .expr)]⟩⟩]),(3,1,.ways [⟨.normal,⟨[],[],[]⟩⟩,⟨.ret,⟨[Mb 4],[],[]⟩⟩])] []
theorem z6H(kU:Y47)(Qp:H47 kU):zF Pz 47 ⟨[.ty .expr,.ty (.sl .str)],[.bool],fun x=>bN (fun y0 y1=>kU (y0,y1)) x.1 x.2⟩:=qN ((t102.d (z1w _ Qp)).d (z4Y _ Qp)) (rz [2,3]) (h47 kU) Tryz.func47 [] zm
theorem zeK:zF Pz 47 ⟨[.ty .expr,.ty (.sl .str)],[.bool],fun x=>bR x.1 x.2⟩:=fM (fun kU x=>bN (fun y0 y1=>kU (y0,y1)) x.1 x.2) (fun x=>rfl) (fun kU Qp=>z6H kU Qp)
def t103:=t102.d zeK
def Ta:zI:=Lz [.slot 8 .str] [Mr 1 zK,Mm 46 (.sl qc),Mi 47] ⟨[Mi 48,.a .str],[(8,.cur 0 .str)],[.arr .str]⟩ [⟨.exit 1,⟨[.a .str],[(8,.cur 0 .str)],[.arr .str]⟩⟩] fun p s=>jl p.1 p.2.1 p.2.2 s
def SB:zI:=Lz [] [Mm 67 (.sl zl),Mi 68] ⟨[Mi 69,.a .str],[(8,.cur 0 .str)],[.arr .str]⟩ [⟨.exit 3,⟨[.a .str],[],[.arr .str]⟩⟩,⟨.ret,⟨[Mi 2,Ms 3,.a .str],[],[.arr .str]⟩⟩] fun p s=>jn p.1 p.2 s
def h20:Hints:=Hz [(1,Ta),(3,SB)] [(0,3,.flat [Mb 19]),(0,23,.ways [⟨.normal,⟨[Mb 84,.a .str,.v (.zU zl)],[(8,.cur 0 .str)],[.arr .str,.var (.zU zl)]⟩⟩])] []
theorem z8a:LO Tryz.f20 Ta 1:=lk t103 (rz [1]) h20 [] zm
theorem z7i:LO Tryz.f20 SB 3:=lk t103 (rz [1]) h20 [] zm
theorem zgN:zF Pz 20 ⟨[.ty zK],[i64,.str],fun x=>fq x⟩:=qN t103 (rz [1]) h20 Tryz.func20 [1,3] (zN rfl z8a (zN rfl z7i zm))
def t104:=t103.d zgN
theorem zfL:zF Pz 22 ⟨[.ty zt],[.bool],fun x=>wS x⟩:=qN t104 (rz [1]) hN Tryz.func22 [] zm
def t105:=t104.d zfL
def TX:zI:=Lz [] [Mm 0 (.sl zt),.s 1 (.xr 22 []),Mi 7] ⟨[Mi 8],[],[]⟩ [⟨.exit 0,⟨[],[],[]⟩⟩,⟨.ret,⟨[Mi 4],[],[]⟩⟩] fun p s=>xO p.1 (fun z0=>wS z0) p.2.2 s
def h48:Hints:=Hz [(0,TX)] [] []
theorem z8m:LO Tryz.f48 TX 0:=lk t105 rn h48 [] zm
theorem zgU:zF Pz 48 ⟨[.ty (.sl zt),.xr 22 []],[i64],fun x=>vd x.1 (fun z0=>wS z0)⟩:=qN t105 rn h48 Tryz.func48 [0] (zN rfl z8m zm)
def t106:=t105.d zgU
theorem zhj:zF Pz 21 ⟨[.ty (.sl zt),.xr 22 []],[.bool],fun x=>xn x.1 (fun z0=>wS z0)⟩:=qN t106 rn hN Tryz.func21 [] zm
def t107:=t106.d zhj
def Ps:zI:=Lz [.slot 3 .str] [Mm 7 (.sl qc),Mi 8] ⟨[Mi 9,.a .str],[(3,.cur 0 .str)],[.arr .str]⟩ [⟨.exit 0,⟨[.a .str],[(3,.cur 0 .str)],[.arr .str]⟩⟩] fun p s=>ko p.1 p.2 s
def h12:Hints:=Hz [(0,Ps)] [] []
theorem z5E:LO Tryz.f12 Ps 0:=lk t107 (rz [1]) h12 [] zm
theorem zgn:zF Pz 12 ⟨[.ty zK],[(.sl .str)],fun x=>mb x⟩:=qN t107 (rz [1]) h12 Tryz.func12 [0] (zN rfl z5E zm)
def t108:=t107.d zgn
def h54:Hints:=Hz [] [(0,1,.z7I)] []
theorem zft:zF Pz 54 ⟨[.ty (.sl zt)],[(.sl zt)],fun x=>uI x⟩:=qN t108 rn h54 Tryz.func54 [] zm
def t109:=t108.d zft
def PJ:zI:=Lz [.cell 0 0 .str,.cell 0 1 .str,.cell 1 1 .str] [Mm 14 (.sl q8),Mi 15] ⟨[Mi 16,.v (.st [.row 2 .str,.row 3 .str,.im (.sl zt)]),.v (.st [.im (.sl .str),.row 4 .str,.im (.sl zt)]),.a .str,.a .str,.a .str],[(4,.ptr 0 0),(5,.ptr 1 0)],[.var (.st [.row 2 .str,.row 3 .str,.im (.sl zt)]),.var (.st [.im (.sl .str),.row 4 .str,.im (.sl zt)]),.arr .str,.arr .str,.arr .str]⟩ [⟨.exit 0,⟨[.v (.st [.row 2 .str,.row 3 .str,.im (.sl zt)]),.v (.st [.im (.sl .str),.row 4 .str,.im (.sl zt)]),.a .str,.a .str,.a .str],[],[.var (.st [.row 2 .str,.row 3 .str,.im (.sl zt)]),.var (.st [.im (.sl .str),.row 4 .str,.im (.sl zt)]),.arr .str,.arr .str,.arr .str]⟩⟩] fun p s=>du p.1 p.2 s
def h25:Hints:=Hz [(0,PJ)] [] []
theorem z6s:LO Tryz.f25 PJ 0:=lk t109 (rz [2]) h25 [] zm
theorem zeA:zF Pz 25 ⟨[.ty zK,.ty (.sl zt)],[zH],fun x=>tp x.1 x.2⟩:=qN t109 (rz [2]) h25 Tryz.func25 [0] (zN rfl z6s zm)
def t110:=t109.d zeA
theorem zfP:zF Pz 56 ⟨[.ty zZ,.rp .str],[.bool],fun x=>y6 x.1 x.2⟩:=qN t110 (rz [2]) hN Tryz.func56 [] zm
def t111:=t110.d zfP
def CF:zI:=Lz [] [Mm 0 (.sl zZ),.s 1 (.xr 56 [.rp .str]),Mi 7] ⟨[Mi 8],[],[]⟩ [⟨.exit 0,⟨[],[],[]⟩⟩,⟨.ret,⟨[Mi 4],[],[]⟩⟩] fun p s=>qh p.1 (fun z0=>y6 z0 p.2.1) p.2.2 s
def z5l:Hints:=Hz [(0,CF)] [] []
theorem Sy:LO Tryz.f55 CF 0:=lk t111 rn z5l [] zm
theorem Ro:zF Pz 55 ⟨[.ty (.sl zZ),.xr 56 [.rp .str]],[i64],fun x=>qq x.1 (fun z0=>y6 z0 x.2)⟩:=qN t111 rn z5l Tryz.func55 [0] (zN rfl Sy zm)
def t112:=t111.d Ro
def h26:Hints:=Hz [] [(0,2,.flat [Mb 6])] []
theorem zg7:zF Pz 26 ⟨[.ty zK,.ty (.sl .bool),.ty .str],[.bool],fun x=>tM x.1 x.2.1 x.2.2⟩:=qN (t112.d Ro) (rz [3,5]) h26 Tryz.func26 [] zm
def t113:=t112.d zg7
def h60:Hints:=Hz [] [(3,2,.flat [Mm 3 (.int .u64)])] []
theorem zhn:zF Pz 60 ⟨[.ty i64],[zt],fun x=>j6 x⟩:=qN t113 rn h60 Tryz.func60 [] zm
def t114:=t113.d zhn
def zh4:Hints:=Hz [] [(0,1,.flat [Mb 12])] []
theorem zdm:zF Pz 195 ⟨[.ty (.sl zt),.ty i64],[zt],fun x=>Za x.1 x.2⟩:=qN t114 rn zh4 Tryz.func195 [] zm
def t115:=t114.d zdm
theorem zaQ:zF Pz 161 ⟨[.ty .str,.ty zH],[q7,i64],fun x=>Z9 x.1 x.2⟩:=qN t115 (rz [3]) hN Tryz.func161 [] zm
def t116:=t115.d zaQ
theorem zcn:zF Pz 113 ⟨[.ty zt,.ty zt],[zt],fun x=>fh x.1 x.2⟩:=qN t116 rn hN Tryz.func113 [] zm
def t117:=t116.d zcn
theorem z9S:zF Pz 112 ⟨[.ty zt],[.bool],fun x=>dm x⟩:=qN t117 (rz [1]) hN Tryz.func112 [] zm
def t118:=t117.d z9S
def z08:zI:=Lz [.cell 0 1 zp,.cell 1 1 zp] [Mr 3 zt,Mm 17 (.sl zp),Mi 18] ⟨[Mi 19,.v (.st [.im i64,.row 2 zp,.im .bool,.im (.sl u32),.im (.sl u32)]),.v (.st [.im i64,.row 3 zp,.im .bool,.im (.sl u32),.im (.sl u32)]),.a zp,.a zp],[(4,.ptr 0 0),(5,.ptr 1 0)],[.var (.st [.im i64,.row 2 zp,.im .bool,.im (.sl u32),.im (.sl u32)]),.var (.st [.im i64,.row 3 zp,.im .bool,.im (.sl u32),.im (.sl u32)]),.arr zp,.arr zp]⟩ [⟨.exit 0,⟨[.v (.st [.im i64,.row 2 zp,.im .bool,.im (.sl u32),.im (.sl u32)]),.v (.st [.im i64,.row 3 zp,.im .bool,.im (.sl u32),.im (.sl u32)]),.a zp,.a zp],[],[.var (.st [.im i64,.row 2 zp,.im .bool,.im (.sl u32),.im (.sl u32)]),.var (.st [.im i64,.row 3 zp,.im .bool,.im (.sl u32),.im (.sl u32)]),.arr zp,.arr zp]⟩⟩] fun p s=>hZ p.1 p.2.1 p.2.2 s
def h59:Hints:=Hz [(0,z08)] [] []
theorem z5N:LO Tryz.f59 z08 0:=lk t118 (rz [2,3]) h59 [] zm
theorem ze5:zF Pz 59 ⟨[.ty q7,.ty zt],[q7],fun x=>uM x.1 x.2⟩:=qN t118 (rz [2,3]) h59 Tryz.func59 [0] (zN rfl z5N zm)
def t119:=t118.d ze5
def MU:zI:=Lz [] [Mm 0 (.sl u32),Mm 1 (.sl u32),Mm 24 (.sl u32),Mi 25] ⟨[Mm 6 (.int .u64),Mi 26,.a u32],[(5,.cur 0 u32)],[.arr u32]⟩ [⟨.exit 0,⟨[Mm 6 (.int .u64),.a u32],[(5,.cur 0 u32)],[.arr u32]⟩⟩] fun p s=>oX p.1 p.2.1 p.2.2.1 p.2.2.2 s
def za5:Hints:=Hz [(0,MU)] [(3,2,.flat [Mm 0 (.sl u32),Mm 1 (.sl u32)]),(3,10,.flat [Mm 6 (.int .u64)])] [(16,[5])]
theorem z3r:LO Tryz.f164 MU 0:=lk t119 rn za5 [] zm
theorem zaI:zF Pz 164 ⟨[.ty (.sl u32),.ty (.sl u32)],[(.sl u32)],fun x=>Xn x.1 x.2⟩:=qN t119 rn za5 Tryz.func164 [0] (zN rfl z3r zm)
def t120:=t119.d zaI
def Lo:zI:=Lz [] [Mm 1 (.sl u32),Mm 22 (.sl u32),Mi 23] ⟨[Mm 7 u32,Mi 24,.a u32],[(6,.cur 0 u32)],[.arr u32]⟩ [⟨.exit 0,⟨[.a u32],[(6,.cur 0 u32)],[.arr u32]⟩⟩] fun p s=>nI p.1 p.2.1 p.2.2 s
def zbu:Hints:=Hz [(0,Lo)] [(3,10,.flat [Mm 10 u32])] [(14,[6])]
theorem z1s:LO Tryz.f165 Lo 0:=lk t120 rn zbu [] zm
theorem zay:zF Pz 165 ⟨[.ty (.sl u32),.ty (.sl u32)],[(.sl u32),.bool],fun x=>tw x.1 x.2⟩:=qN t120 rn zbu Tryz.func165 [0] (zN rfl z1s zm)
def t121:=t120.d zay
theorem zba:zF Pz 111 ⟨[.ty zt,.ty zt],[zt],fun x=>lS x.1 x.2⟩:=qN t121 rn hN Tryz.func111 [] zm
def t122:=t121.d zba
def Ts:zI:=Lz [.cell 0 1 zp,.cell 1 1 zp] [] ⟨[Mm 6 (.sl zp),Mm 7 (.sl zp),.v (.st [.im i64,.row 2 zp,.im .bool,.im (.sl u32),.im (.sl u32)]),.v (.st [.im i64,.row 3 zp,.im .bool,.im (.sl u32),.im (.sl u32)]),.a zp,.a zp],[(4,.ptr 0 0),(5,.ptr 1 0)],[.var (.st [.im i64,.row 2 zp,.im .bool,.im (.sl u32),.im (.sl u32)]),.var (.st [.im i64,.row 3 zp,.im .bool,.im (.sl u32),.im (.sl u32)]),.arr zp,.arr zp]⟩ [⟨.exit 0,⟨[.v (.st [.im i64,.row 2 zp,.im .bool,.im (.sl u32),.im (.sl u32)]),.v (.st [.im i64,.row 3 zp,.im .bool,.im (.sl u32),.im (.sl u32)]),.a zp,.a zp],[],[.var (.st [.im i64,.row 2 zp,.im .bool,.im (.sl u32),.im (.sl u32)]),.var (.st [.im i64,.row 3 zp,.im .bool,.im (.sl u32),.im (.sl u32)]),.arr zp,.arr zp]⟩⟩] fun p s=>vg  s
def h58:Hints:=Hz [(0,Ts)] [(0,6,.flat [Mb 46]),(0,8,.flat [Mb 78]),(2,6,.ways [⟨.normal,⟨[Mm 6 (.sl zp),Mm 7 (.sl zp),.v (.st [.im i64,.row 2 zp,.im .bool,.im (.sl u32),.im (.sl u32)]),.v (.st [.im i64,.row 3 zp,.im .bool,.im (.sl u32),.im (.sl u32)]),.a zp,.a zp,.v (.zU zp)],[],[.var (.st [.im i64,.row 2 zp,.im .bool,.im (.sl u32),.im (.sl u32)]),.var (.st [.im i64,.row 3 zp,.im .bool,.im (.sl u32),.im (.sl u32)]),.arr zp,.arr zp,.var (.zU zp)]⟩⟩])] []
theorem z7j:LO Tryz.f58 Ts 0:=lk t122 (rz [2,3]) h58 [] zm
theorem zef:zF Pz 58 ⟨[.ty q7,.ty q7],[q7],fun x=>tR x.1 x.2⟩:=qN t122 (rz [2,3]) h58 Tryz.func58 [0] (zN rfl z7j zm)
def t123:=t122.d zef
theorem zcz:zF Pz 196 ⟨[.ty zt,.ty zt],[zt,.bool],fun x=>X2 x.1 x.2⟩:=qN t123 (rz [2]) hN Tryz.func196 [] zm
def t124:=t123.d zcz
def ze8:Hints:=Hz [] [(0,7,.flat [Mb 34])] []
theorem zat:zF Pz 162 ⟨[.ty i64,.ty q7,.ty q7],[q7,i64],fun x=>p9 x.1 x.2.1 x.2.2⟩:=qN t124 (rz [4,5]) ze8 Tryz.func162 [] zm
def t125:=t124.d zat
abbrev zbU:=uD [.ty .expr,.ty zH]→T (UI [q7,i64])
abbrev zgx(F:zbU):=zF Pz 110 ⟨[.ty .expr,.ty zH],[q7,i64],F⟩
theorem z3S(YU:zbU)(Rp:zgx YU):zF Pz 110 ⟨[.ty .expr,.ty zH],[q7,i64],fun x=>Zb (fun y0 y1=>YU (y0,y1)) x.1 x.2⟩:=qN (t125.d Rp) (rz [2,3]) hN Tryz.func110 [] zm
theorem za6:zF Pz 110 ⟨[.ty .expr,.ty zH],[q7,i64],fun x=>J1 x.1 x.2⟩:=fM (fun YU x=>Zb (fun y0 y1=>YU (y0,y1)) x.1 x.2) (fun x=>rfl) (fun YU Rp=>z3S YU Rp)
def t126:=t125.d za6
theorem zhv:zF Pz 57 ⟨[.ty .expr,.ty zH],[q7,i64],fun x=>Jh x.1 x.2⟩:=qN t126 (rz [2,3]) hN Tryz.func57 [] zm
def t127:=t126.d zhv
theorem zfI:zF Pz 27 ⟨[.ty zl,.ty zH],[q7,i64],fun x=>nJ x.1 x.2⟩:=qN t127 (rz [2,3]) hN Tryz.func27 [] zm
def t128:=t127.d zfI
theorem zgH:zF Pz 62 ⟨[.ty zp],[.bool],fun x=>vt x⟩:=qN t128 (rz [1]) hN Tryz.func62 [] zm
def t129:=t128.d zgH
def Mx:zI:=Lz [] [Mm 0 (.sl zp),.s 1 (.xr 62 []),Mi 7] ⟨[Mi 8],[],[]⟩ [⟨.exit 0,⟨[],[],[]⟩⟩,⟨.ret,⟨[Mi 4],[],[]⟩⟩] fun p s=>xD p.1 (fun z0=>vt z0) p.2.2 s
def zd0:Hints:=Hz [(0,Mx)] [] []
theorem z14:LO Tryz.f114 Mx 0:=lk t129 rn zd0 [] zm
theorem zca:zF Pz 114 ⟨[.ty (.sl zp),.xr 62 []],[i64],fun x=>wM x.1 (fun z0=>vt z0)⟩:=qN t129 rn zd0 Tryz.func114 [0] (zN rfl z14 zm)
def t130:=t129.d zca
theorem zeW:zF Pz 61 ⟨[.ty (.sl zp),.xr 62 []],[.bool],fun x=>xj x.1 (fun z0=>vt z0)⟩:=qN t130 rn hN Tryz.func61 [] zm
def t131:=t130.d zeW
theorem zff:zF Pz 28 ⟨[.ty q7],[.bool],fun x=>oO x⟩:=qN t131 (rz [1]) hN Tryz.func28 [] zm
def t132:=t131.d zff
def z4Z:zI:=Lz [.cell 1 0 q7,.cell 1 1 i64] [Mm 2 (.sl .bool),Mr 3 zK,Mm 52 (.sl zl),Mi 53] ⟨[Mi 54,.v (.zU qk),.v (.st [.row 3 q7,.row 4 i64]),.v (.zU zH),.a q7,.a i64],[(6,.ptr 0 0),(11,.ptr 1 0),(12,.ptr 2 0)],[.var (.zU qk),.var (.st [.row 3 q7,.row 4 i64]),.var (.zU zH),.arr q7,.arr i64]⟩ [⟨.exit 0,⟨[.v (.zU qk),.v (.st [.row 3 q7,.row 4 i64]),.v (.zU zH),.a q7,.a i64],[],[.var (.zU qk),.var (.st [.row 3 q7,.row 4 i64]),.var (.zU zH),.arr q7,.arr i64]⟩⟩,⟨.ret,⟨[Ms 7,Mi 8,.v (.zU qk),.v (.st [.row 3 q7,.row 4 i64]),.v (.zU zH),.a q7,.a i64],[],[.var (.zU qk),.var (.st [.row 3 q7,.row 4 i64]),.var (.zU zH),.arr q7,.arr i64]⟩⟩] fun p s=>uk p.1 p.2.1 p.2.2.1 p.2.2.2 s
def z54:zI:=Lz [] [Mr 3 zK,Mi 92] ⟨[Mi 93,.v (.zU qk),.v (.st [.row 3 q7,.row 4 i64]),.v (.zU zH),.a q7,.a i64],[(6,.ptr 0 0),(11,.ptr 1 0),(91,.cur 3 q7)],[.var (.zU qk),.var (.st [.row 3 q7,.row 4 i64]),.var (.zU zH),.arr q7,.arr i64]⟩ [⟨.exit 2,⟨[.v (.zU qk),.v (.st [.row 3 q7,.row 4 i64]),.v (.zU zH),.a q7,.a i64],[],[.var (.zU qk),.var (.st [.row 3 q7,.row 4 i64]),.var (.zU zH),.arr q7,.arr i64]⟩⟩,⟨.ret,⟨[Ms 7,Mi 8,.v (.zU qk),.v (.st [.row 3 q7,.row 4 i64]),.v (.zU zH),.a q7,.a i64],[],[.var (.zU qk),.var (.st [.row 3 q7,.row 4 i64]),.var (.zU zH),.arr q7,.arr i64]⟩⟩] fun p s=>bh p.1 p.2 s
def h8:Hints:=Hz [(0,z4Z),(2,z54)] [(0,4,.ways [⟨.normal,⟨[Mb 46,.v (.zU qk)],[],[.var (.zU qk)]⟩⟩])] []
theorem zcX:LO Tryz.f8 z4Z 0:=lk t132 (rz [3]) h8 [] zm
theorem z9O:LO Tryz.f8 z54 2:=lk t132 (rz [3]) h8 [] zm
theorem ok8:zF Pz 8 ⟨[.ty zK,.ty (.sl zt),.ty (.sl .bool)],[qk,.str,i64],fun x=>fx x.1 x.2.1 x.2.2⟩:=qN t132 (rz [3]) h8 Tryz.func8 [0,2] (zN rfl zcX (zN rfl z9O zm))
def t133:=t132.d ok8
def zhr:Hints:=Hz [] [(0,1,.flat [Mb 2])] []
theorem z8Y:zF Pz 166 ⟨[.ty (.int .u8)],[.bool],fun x=>jW x⟩:=qN t133 rn zhr Tryz.func166 [] zm
def t134:=t133.d z8Y
def zgB:Hints:=Hz [] [(0,1,.flat [Mb 2])] []
theorem zdf:zF Pz 167 ⟨[.ty (.int .u8)],[.bool],fun x=>oe x⟩:=qN t134 rn zgB Tryz.func167 [] zm
def t135:=t134.d zdf
def Lr:zI:=Lz [] [Ms 0] ⟨[Mi 3],[],[]⟩ [⟨.exit 0,⟨[],[],[]⟩⟩,⟨.ret,⟨[Mb 2],[],[]⟩⟩] fun p s=>y7 p s
def zaN:Hints:=Hz [(0,Lr)] [(0,1,.ways [⟨.normal,⟨[Mb 17],[],[]⟩⟩]),(0,6,.ways [⟨.normal,⟨[Mb 41],[],[]⟩⟩])] []
theorem z1o:LO Tryz.f115 Lr 0:=lk t135 rn zaN [] zm
theorem zah:zF Pz 115 ⟨[.ty .str],[.bool],fun x=>uf x⟩:=qN t135 rn zaN Tryz.func115 [0] (zN rfl z1o zm)
def t136:=t135.d zah
def SM:zI:=Lz [] [Mm 0 (.sl u32)] ⟨[Mi 3],[],[]⟩ [⟨.exit 0,⟨[Mi 3],[],[]⟩⟩] fun p s=>c9 p s
def h85:Hints:=Hz [(0,SM)] [(0,2,.flat [Mb 15])] []
theorem z6L:LO Tryz.f85 SM 0:=lk t136 rn h85 [] zm
theorem zfJ:zF Pz 85 ⟨[.ty (.sl u32)],[(.sl u32)],fun x=>xv x⟩:=qN t136 rn h85 Tryz.func85 [0] (zN rfl z6L zm)
def t137:=t136.d zfJ
def Lq:zI:=Lz [] [Mm 4 (.sl u32)] ⟨[Mm 5 (.int .u64),Mi 6],[],[]⟩ [⟨.exit 0,⟨[Mm 5 (.int .u64)],[],[]⟩⟩] fun p s=>l8 p s
def zb9:Hints:=Hz [(0,Lq)] [] []
theorem z3b:LO Tryz.f130 Lq 0:=lk t137 rn zb9 [] zm
theorem z9q:zF Pz 130 ⟨[.ty (.sl u32)],[(.int .u64),.bool],fun x=>Xr x⟩:=qN t137 rn zb9 Tryz.func130 [0] (zN rfl z3b zm)
def t138:=t137.d z9q
theorem ze9:zF Pz 76 ⟨[.ty (.int .u64)],[(.sl u32)],fun x=>p8 x⟩:=qN t138 rn hN Tryz.func76 [] zm
def t139:=t138.d ze9
def Lh:zI:=Lz [] [Mm 0 (.sl u32),Mm 1 (.int .u64)] ⟨[Mm 7 (.int .u64),Mi 8,.a u32],[(6,.cur 0 u32)],[.arr u32]⟩ [⟨.exit 0,⟨[Mm 7 (.int .u64),.a u32],[(6,.cur 0 u32)],[.arr u32]⟩⟩] fun p s=>cJ p.1 p.2 s
def zc5:Hints:=Hz [(0,Lh)] [] [(9,[6])]
theorem z34:LO Tryz.f131 Lh 0:=lk t139 rn zc5 [] zm
theorem zbG:zF Pz 131 ⟨[.ty (.sl u32),.ty (.int .u64)],[(.sl u32),(.int .u64)],fun x=>cz x.1 x.2⟩:=qN t139 rn zc5 Tryz.func131 [0] (zN rfl z34 zm)
def t140:=t139.d zbG
theorem zcA:zF Pz 177 ⟨[.ty (.sl u32),.ty i64],[(.int .u64)],fun x=>gY x.1 x.2⟩:=qN t140 rn hN Tryz.func177 [] zm
def t141:=t140.d zcA
def Lp:zI:=Lz [.slot 8 u32] [Mm 5 (.sl u32),Mm 7 (.int .u64)] ⟨[Mi 9,.a u32],[(8,.cur 0 u32)],[.arr u32]⟩ [⟨.exit 0,⟨[.a u32],[(8,.cur 0 u32)],[.arr u32]⟩⟩] fun p s=>Zr p.1 p.2 s
def Lm:zI:=Lz [] [Mm 5 (.sl u32),Mm 11 (.int .u64)] ⟨[Mm 12 (.int .u64),Mi 13,.a u32],[(10,.cur 0 u32)],[.arr u32]⟩ [⟨.exit 2,⟨[.a u32],[(10,.cur 0 u32)],[.arr u32]⟩⟩] fun p s=>cK p.1 p.2 s
def z7r:Hints:=Hz [(0,Lp),(2,Lm)] [] [(14,[8]),(24,[10])]
theorem z3x:LO Tryz.f132 Lp 0:=lk t141 rn z7r [] zm
theorem z3M:LO Tryz.f132 Lm 2:=lk t141 rn z7r [] zm
theorem zaD:zF Pz 132 ⟨[.ty (.sl u32),.ty i64],[(.sl u32)],fun x=>od x.1 x.2⟩:=qN t141 rn z7r Tryz.func132 [0,2] (zN rfl z3x (zN rfl z3M zm))
def t142:=t141.d zaD
def LK:zI:=Lz [.slot 5 u32] [Mm 0 (.sl u32),Mm 1 (.sl u32)] ⟨[Mm 6 (.int .u64),Mi 7,.a u32],[(5,.cur 0 u32)],[.arr u32]⟩ [⟨.exit 0,⟨[.a u32],[(5,.cur 0 u32)],[.arr u32]⟩⟩] fun p s=>ma p.1 p.2 s
def z9E:Hints:=Hz [(0,LK)] [] [(9,[5])]
theorem z3y:LO Tryz.f127 LK 0:=lk t142 rn z9E [] zm
theorem z96:zF Pz 127 ⟨[.ty (.sl u32),.ty (.sl u32)],[(.sl u32)],fun x=>nc x.1 x.2⟩:=qN t142 rn z9E Tryz.func127 [0] (zN rfl z3y zm)
def t143:=t142.d z96
def Mo:zI:=Lz [] [Mm 5 (.sl u32),Mm 6 (.sl u32)] ⟨[Mi 7],[],[]⟩ [⟨.exit 0,⟨[],[],[]⟩⟩,⟨.ret,⟨[Mi 4],[],[]⟩⟩] fun p s=>dc p.1 p.2 s
def zcs:Hints:=Hz [(0,Mo)] [] []
theorem z1j:LO Tryz.f128 Mo 0:=lk t143 rn zcs [] zm
theorem z90:zF Pz 128 ⟨[.ty (.sl u32),.ty (.sl u32)],[i64],fun x=>il x.1 x.2⟩:=qN t143 rn zcs Tryz.func128 [0] (zN rfl z1j zm)
def t144:=t143.d z90
def Mh:zI:=Lz [.slot 6 u32] [Mm 0 (.sl u32),Mm 1 (.sl u32)] ⟨[Mm 7 (.int .u64),Mi 8,.a u32],[(6,.cur 0 u32)],[.arr u32]⟩ [⟨.exit 0,⟨[.a u32],[(6,.cur 0 u32)],[.arr u32]⟩⟩] fun p s=>lT p.1 p.2 s
def zbK:Hints:=Hz [(0,Mh)] [(3,10,.flat [Mm 7 (.int .u64),Mm 9 (.int .u64)])] [(14,[6])]
theorem z3n:LO Tryz.f129 Mh 0:=lk t144 rn zbK [] zm
theorem zcK:zF Pz 129 ⟨[.ty (.sl u32),.ty (.sl u32)],[(.sl u32),.bool],fun x=>iL x.1 x.2⟩:=qN t144 rn zbK Tryz.func129 [0] (zN rfl z3n zm)
def t145:=t144.d zcK
def z0r:zI:=Lz [] [Mm 0 (.sl u32),Mm 1 (.sl u32)] ⟨[Mm 14 (.sl u32),Mi 15,.a u32],[(13,.cur 0 u32)],[.arr u32]⟩ [⟨.exit 0,⟨[Mm 14 (.sl u32),.a u32],[(13,.cur 0 u32)],[.arr u32]⟩⟩] fun p s=>uL p.1 p.2 s
def h87:Hints:=Hz [(0,z0r)] [(0,5,.flat [Mb 33]),(0,7,.flat [Mb 46]),(3,16,.ways [⟨.normal,⟨[Mm 14 (.sl u32),.a u32],[(13,.cur 0 u32)],[.arr u32]⟩⟩])] [(21,[13])]
theorem z8c:LO Tryz.f87 z0r 0:=lk t145 rn h87 [] zm
theorem zh6:zF Pz 87 ⟨[.ty (.sl u32),.ty (.sl u32)],[(.sl u32),(.sl u32),.bool],fun x=>jS x.1 x.2⟩:=qN t145 rn h87 Tryz.func87 [0] (zN rfl z8c zm)
def t146:=t145.d zh6
def Te:zI:=Lz [] [] ⟨[Mm 5 (.sl u32),Mm 6 (.sl u32)],[],[]⟩ [⟨.exit 0,⟨[Mm 5 (.sl u32)],[],[]⟩⟩] fun p s=>dv  s
def h86:Hints:=Hz [(0,Te)] [] []
theorem z5q:LO Tryz.f86 Te 0:=lk t146 rn h86 [] zm
theorem zfS:zF Pz 86 ⟨[.ty (.sl u32),.ty (.sl u32)],[(.sl u32)],fun x=>QY x.1 x.2⟩:=qN t146 rn h86 Tryz.func86 [0] (zN rfl z5q zm)
def t147:=t146.d zfS
def h40:Hints:=Hz [] [(0,2,.flat [Mb 19])] []
theorem zec:zF Pz 40 ⟨[.ty zt],[zt],fun x=>qL x⟩:=qN t147 (rz [1]) h40 Tryz.func40 [] zm
def t148:=t147.d zec
def Sx:zI:=Lz [] [Mm 0 (.sl u32),Mm 1 (.sl u32)] ⟨[Mi 5],[],[]⟩ [⟨.exit 0,⟨[],[],[]⟩⟩,⟨.ret,⟨[Mb 4],[],[]⟩⟩] fun p s=>wP p.1 p.2 s
def h41:Hints:=Hz [(0,Sx)] [] []
theorem z8b:LO Tryz.f41 Sx 0:=lk t148 rn h41 [] zm
theorem zfn:zF Pz 41 ⟨[.ty (.sl u32),.ty (.sl u32)],[.bool],fun x=>jc x.1 x.2⟩:=qN t148 rn h41 Tryz.func41 [0] (zN rfl z8b zm)
def t149:=t148.d zfn
theorem zgL:zF Pz 70 ⟨[.ty zt],[.bool],fun x=>Wp x⟩:=qN t149 (rz [1]) hN Tryz.func70 [] zm
def t150:=t149.d zgL
def h71:Hints:=Hz [] [(0,2,.flat [Mb 2])] []
theorem zgw:zF Pz 71 ⟨[.ty zt],[.bool],fun x=>kg x⟩:=qN t150 (rz [1]) h71 Tryz.func71 [] zm
def t151:=t150.d zgw
theorem zhw:zF Pz 30 ⟨[.ty zt],[.bool],fun x=>cC x⟩:=qN t151 (rz [1]) hN Tryz.func30 [] zm
def t152:=t151.d zhw
theorem zb8:zF Pz 116 ⟨[.ty .str],[.bool],fun x=>iW x⟩:=qN t152 rn hN Tryz.func116 [] zm
def t153:=t152.d zb8
def L4:zI:=Lz [] [Mm 0 (.sl u32),Mm 1 (.sl u32),Mi 6] ⟨[Mm 7 (.int .u64),Mi 8,.a u32],[(5,.cur 0 u32)],[.arr u32]⟩ [⟨.exit 2,⟨[.a u32],[(5,.cur 0 u32)],[.arr u32]⟩⟩] fun p s=>dh p.1 p.2.1 p.2.2 s
def MX:zI:=Lz [] [Mm 0 (.sl u32),Mm 1 (.sl u32)] ⟨[Mi 6,.a u32],[(5,.cur 0 u32)],[.arr u32]⟩ [⟨.exit 0,⟨[.a u32],[(5,.cur 0 u32)],[.arr u32]⟩⟩] fun p s=>lK p.1 p.2 s
def z6A:Hints:=Hz [(2,L4),(0,MX)] [(0,7,.flat [Mb 28])] [(13,[5])]
theorem z2n:LO Tryz.f126 L4 2:=lk t153 rn z6A [] zm
theorem z3P:LO Tryz.f126 MX 0:=lk t153 rn z6A [2] (zN rfl z2n zm)
theorem z9s:zF Pz 126 ⟨[.ty (.sl u32),.ty (.sl u32)],[(.sl u32)],fun x=>uR x.1 x.2⟩:=qN t153 rn z6A Tryz.func126 [0] (zN rfl z3P zm)
def t154:=t153.d z9s
def LR:zI:=Lz [] [] ⟨[Mm 3 (.sl u32),Ms 4],[],[]⟩ [⟨.exit 0,⟨[Ms 4],[],[]⟩⟩] fun p s=>yx  s
def zcR:Hints:=Hz [(0,LR)] [] []
theorem z2T:LO Tryz.f199 LR 0:=lk t154 rn zcR [] zm
theorem zad:zF Pz 199 ⟨[.ty (.sl u32)],[.str],fun x=>cx x⟩:=qN t154 rn zcR Tryz.func199 [0] (zN rfl z2T zm)
def t155:=t154.d zad
def N2:zI:=Lz [] [Mi 1] ⟨[Ms 5],[],[]⟩ [⟨.exit 0,⟨[Ms 5],[],[]⟩⟩] fun p s=>kJ p s
def z9d:Hints:=Hz [(0,N2)] [] []
theorem z41:LO Tryz.f201 N2 0:=lk t155 rn z9d [] zm
theorem z9j:zF Pz 201 ⟨[.ty (.sl u32),.ty i64],[.str],fun x=>lB x.1 x.2⟩:=qN t155 rn z9d Tryz.func201 [0] (zN rfl z41 zm)
def t156:=t155.d z9j
theorem zcH:zF Pz 198 ⟨[.ty .bool],[.str],fun x=>fG x⟩:=qN t156 rn hN Tryz.func198 [] zm
def t157:=t156.d zcH
def zeU:Hints:=Hz [] [(3,2,.flat [Ms 7])] []
theorem zaq:zF Pz 176 ⟨[.ty .bool,.ty (.sl u32),.ty i64],[.str],fun x=>oJ x.1 x.2.1 x.2.2⟩:=qN t157 rn zeU Tryz.func176 [] zm
def t158:=t157.d zaq
def IU:zI:=Lz [] [] ⟨[Mm 5 (.sl u32),Mi 6,.v (.zU zt)],[(4,.ptr 0 0)],[.var (.zU zt)]⟩ [⟨.exit 0,⟨[.v (.zU zt)],[],[.var (.zU zt)]⟩⟩,⟨.ret,⟨[Ms 2,Mb 3,.v (.zU zt)],[],[.var (.zU zt)]⟩⟩] fun p s=>jA  s
def zaG:Hints:=Hz [(0,IU)] [] []
theorem z1m:LO Tryz.f124 IU 0:=lk t158 (rz [1]) zaG [] zm
theorem zbT:zF Pz 124 ⟨[.ty zt],[.str,.bool],fun x=>cy x⟩:=qN t158 (rz [1]) zaG Tryz.func124 [0] (zN rfl z1m zm)
def t159:=t158.d zbT
theorem za4:zF Pz 125 ⟨[.ty zt],[.bool],fun x=>jQ x⟩:=qN t159 (rz [1]) hN Tryz.func125 [] zm
def t160:=t159.d za4
abbrev Y77:=uD [.ty .expr,.ty i64]→T (UI [.bool])
abbrev H77(F:Y77):=zF Pz 77 ⟨[.ty .expr,.ty i64],[.bool],F⟩
def T77(mX:Y77)(DJ:H77 mX):Tb:=t160.d DJ
def Tx(mX:Y77):zI:=Lz [] [Mi 1,Mr 2 .expr,Mi 5] ⟨[Mi 8],[],[]⟩ [⟨.exit 1,⟨[],[],[]⟩⟩,⟨.ret,⟨[Mb 4],[],[]⟩⟩] fun p s=>dN (fun y0 y1=>mX (y0,y1)) p.1 p.2.1 p.2.2 s
def h77(mX:Y77):Hints:=Hz [(1,Tx mX)] [(3,4,.ways [⟨.normal,⟨[Mi 5],[],[]⟩⟩,⟨.ret,⟨[Mb 4],[],[]⟩⟩]),(0,17,.ways [⟨.normal,⟨[Mb 82],[],[]⟩⟩])] []
theorem z5O(mX:Y77)(DJ:H77 mX):LO Tryz.f77 (Tx mX) 1:=lk (T77 mX DJ) (rz [2]) (h77 mX) [] zm
theorem z6E(mX:Y77)(DJ:H77 mX):zF Pz 77 ⟨[.ty .expr,.ty i64],[.bool],fun x=>oH (fun y0 y1=>mX (y0,y1)) x.1 x.2⟩:=qN (T77 mX DJ) (rz [2]) (h77 mX) Tryz.func77 [1] (zN rfl (z5O mX DJ) zm)
theorem zeJ:zF Pz 77 ⟨[.ty .expr,.ty i64],[.bool],fun x=>nu x.1 x.2⟩:=fM (fun mX x=>oH (fun y0 y1=>mX (y0,y1)) x.1 x.2) (fun x=>rfl) (fun mX DJ=>z6E mX DJ)
def t161:=t160.d zeJ
abbrev Y78:=uD [.ty .expr]→T (UI [i64])
abbrev H78(F:Y78):=zF Pz 78 ⟨[.ty .expr],[i64],F⟩
def T78(mR:Y78)(CG:H78 mR):Tb:=t161.d CG
def z0v(mR:Y78):zI:=Lz [] [Mr 1 .expr] ⟨[Mi 3,Mi 4],[],[]⟩ [⟨.exit 0,⟨[Mi 3],[],[]⟩⟩] fun p s=>ga (fun y0=>mR (y0)) p s
def h78(mR:Y78):Hints:=Hz [(0,z0v mR)] [] []
theorem z5W(mR:Y78)(CG:H78 mR):LO Tryz.f78 (z0v mR) 0:=lk (T78 mR CG) (rz [1]) (h78 mR) [] zm
theorem z71(mR:Y78)(CG:H78 mR):zF Pz 78 ⟨[.ty .expr],[i64],fun x=>ff (fun y0=>mR (y0)) x⟩:=qN (T78 mR CG) (rz [1]) (h78 mR) Tryz.func78 [0] (zN rfl (z5W mR CG) zm)
theorem zfZ:zF Pz 78 ⟨[.ty .expr],[i64],fun x=>oD x⟩:=fM (fun mR x=>ff (fun y0=>mR (y0)) x) (fun x=>rfl) (fun mR CG=>z71 mR CG)
def t162:=t161.d zfZ
theorem zfp:zF Pz 36 ⟨[.ty .expr],[.bool],fun x=>ya x⟩:=qN t162 (rz [1]) hN Tryz.func36 [] zm
def t163:=t162.d zfp
def L2:zI:=Lz [] [Mr 1 zK] ⟨[Mi 3,Mi 4],[],[]⟩ [⟨.exit 0,⟨[],[],[]⟩⟩,⟨.ret,⟨[Mb 2],[],[]⟩⟩] fun p s=>yJ p s
def MP:zI:=Lz [] [Mr 1 zK] ⟨[Mi 3,Mi 6],[],[]⟩ [⟨.exit 2,⟨[],[],[]⟩⟩,⟨.ret,⟨[Mb 2],[],[]⟩⟩] fun p s=>yU p s
def z5G:Hints:=Hz [(0,L2),(2,MP)] [(0,6,.ways [⟨.normal,⟨[Mb 47,.v (.zU qc)],[],[.var (.zU qc)]⟩⟩]),(0,14,.ways [⟨.normal,⟨[Mb 101,.v (.zU zn)],[],[.var (.zU zn)]⟩⟩])] []
theorem z3u:LO Tryz.f117 L2 0:=lk t163 (rz [1]) z5G [] zm
theorem z1d:LO Tryz.f117 MP 2:=lk t163 (rz [1]) z5G [] zm
theorem zbw:zF Pz 117 ⟨[.ty zK],[.bool],fun x=>ou x⟩:=qN t163 (rz [1]) z5G Tryz.func117 [0,2] (zN rfl z3u (zN rfl z1d zm))
def t164:=t163.d zbw
def zfF:Hints:=Hz [] [(0,3,.flat [Mb 24])] []
theorem z9t:zF Pz 168 ⟨[.ty zt],[.str],fun x=>nQ x⟩:=qN t164 (rz [1]) zfF Tryz.func168 [] zm
def t165:=t164.d z9t
theorem z9u:zF Pz 169 ⟨[.ty .str],[.str],fun x=>Z3 x⟩:=qN t165 rn hN Tryz.func169 [] zm
def t166:=t165.d z9u
def zeH:Hints:=Hz [] [(3,2,.flat [Ms 3])] []
theorem zal:zF Pz 170 ⟨[.ty qc],[.str],fun x=>oi x⟩:=qN t166 (rz [1]) zeH Tryz.func170 [] zm
def t167:=t166.d zal
def zet:Hints:=Hz [] [(3,2,.flat [Mb 4]),(3,5,.flat [Mb 7])] []
theorem zd5:zF Pz 212 ⟨[.ty i64],[i64],fun x=>rI x⟩:=qN t167 rn zet Tryz.func212 [] zm
def t168:=t167.d zd5
abbrev z6b:=uD [.ty .expr,.ty i64]→T (UI [.str])
abbrev ze0(F:z6b):=zF Pz 200 ⟨[.ty .expr,.ty i64],[.str],F⟩
def ze3(Ub:z6b):Hints:=Hz [] [(3,2,.ways [⟨.normal,⟨[Ms 5],[],[]⟩⟩])] []
theorem z1U(Ub:z6b)(SE:ze0 Ub):zF Pz 200 ⟨[.ty .expr,.ty i64],[.str],fun x=>lI (fun y0 y1=>Ub (y0,y1)) x.1 x.2⟩:=qN (t168.d SE) (rz [2]) (ze3 Ub) Tryz.func200 [] zm
theorem zbd:zF Pz 200 ⟨[.ty .expr,.ty i64],[.str],fun x=>tz x.1 x.2⟩:=fM (fun Ub x=>lI (fun y0 y1=>Ub (y0,y1)) x.1 x.2) (fun x=>rfl) (fun Ub SE=>z1U Ub SE)
def t169:=t168.d zbd
theorem zb7:zF Pz 171 ⟨[.ty .expr],[.str],fun x=>kP x⟩:=qN t169 (rz [1]) hN Tryz.func171 [] zm
def t170:=t169.d zb7
theorem zd4:zF Pz 172 ⟨[.ty i64],[.str],fun x=>Xm x⟩:=qN t170 rn hN Tryz.func172 [] zm
def t171:=t170.d zd4
theorem z9V:zF Pz 173 ⟨[.ty i64],[.str],fun x=>cU x⟩:=qN t171 rn hN Tryz.func173 [] zm
def t172:=t171.d z9V
def Mj:zI:=Lz [] [Mr 1 zK] ⟨[Ms 3,Mi 4],[],[]⟩ [⟨.exit 0,⟨[Ms 3],[],[]⟩⟩] fun p s=>bG p s
def MT:zI:=Lz [] [Mr 1 zK] ⟨[Ms 3,Mi 6],[],[]⟩ [⟨.exit 2,⟨[Ms 3],[],[]⟩⟩] fun p s=>bn p s
def N5:zI:=Lz [] [Mr 1 zK,Mi 7] ⟨[Ms 3,Mi 8],[],[]⟩ [⟨.exit 6,⟨[Ms 3],[],[]⟩⟩] fun p s=>c6 p.1 p.2 s
def MJ:zI:=Lz [] [Mr 1 zK,Mi 7] ⟨[Ms 3,Mi 9],[],[]⟩ [⟨.exit 8,⟨[Ms 3],[],[]⟩⟩] fun p s=>c8 p.1 p.2 s
def Le:zI:=Lz [] [Mr 1 zK] ⟨[Ms 3,Mi 7],[],[]⟩ [⟨.exit 4,⟨[Ms 3],[],[]⟩⟩] fun p s=>bu p s
def BY:zI:=Lz [] [Mr 1 zK] ⟨[Ms 3,Mi 11],[],[]⟩ [⟨.exit 10,⟨[Ms 3],[],[]⟩⟩] fun p s=>bY p s
def F9:Hints:=Hz [(0,Mj),(2,MT),(6,N5),(8,MJ),(4,Le),(10,BY)] [(3,6,.flat [Ms 5])] []
theorem z1p:LO Tryz.f118 Mj 0:=lk t172 (rz [1]) F9 [] zm
theorem z1g:LO Tryz.f118 MT 2:=lk t172 (rz [1]) F9 [] zm
theorem z1a:LO Tryz.f118 N5 6:=lk t172 (rz [1]) F9 [] zm
theorem z3d:LO Tryz.f118 MJ 8:=lk t172 (rz [1]) F9 [] zm
theorem z1T:LO Tryz.f118 Le 4:=lk t172 (rz [1]) F9 [6,8] (zN rfl z1a (zN rfl z3d zm))
theorem TL:LO Tryz.f118 BY 10:=lk t172 (rz [1]) F9 [] zm
theorem z92:zF Pz 118 ⟨[.ty zK],[.str],fun x=>tP x⟩:=qN t172 (rz [1]) F9 Tryz.func118 [0,2,4,10] (zN rfl z1p (zN rfl z1g (zN rfl z1T (zN rfl TL zm))))
def t173:=t172.d z92
def TE:zI:=Lz [] [Mr 1 zK] ⟨[Mi 3],[],[]⟩ [⟨.exit 0,⟨[],[],[]⟩⟩,⟨.ret,⟨[Mb 2],[],[]⟩⟩] fun p s=>ij p s
def RI:zI:=Lz [] [Mr 1 zK] ⟨[Mi 4],[],[]⟩ [⟨.exit 2,⟨[],[],[]⟩⟩,⟨.ret,⟨[Mb 2],[],[]⟩⟩] fun p s=>fY p s
def RA:zI:=Lz [] [Mr 1 zK] ⟨[Mi 5],[],[]⟩ [⟨.exit 4,⟨[],[],[]⟩⟩,⟨.ret,⟨[Mb 2],[],[]⟩⟩] fun p s=>fZ p s
def TC:zI:=Lz [] [Mr 1 zK] ⟨[Mi 6],[],[]⟩ [⟨.exit 6,⟨[],[],[]⟩⟩,⟨.ret,⟨[Mb 2],[],[]⟩⟩] fun p s=>ik p s
def h63:Hints:=Hz [(0,TE),(2,RI),(4,RA),(6,TC)] [(0,9,.ways [⟨.normal,⟨[Mb 47],[],[]⟩⟩]),(0,14,.ways [⟨.normal,⟨[Mb 72],[],[]⟩⟩]),(0,20,.ways [⟨.normal,⟨[Mb 116,.v (.zU zl)],[],[.var (.zU zl)]⟩⟩])] []
theorem z7w:LO Tryz.f63 TE 0:=lk t173 (rz [1]) h63 [] zm
theorem z7z:LO Tryz.f63 RI 2:=lk t173 (rz [1]) h63 [] zm
theorem z8r:LO Tryz.f63 RA 4:=lk t173 (rz [1]) h63 [] zm
theorem z89:LO Tryz.f63 TC 6:=lk t173 (rz [1]) h63 [] zm
theorem zdY:zF Pz 63 ⟨[.ty zK],[.bool],fun x=>J2 x⟩:=qN t173 (rz [1]) h63 Tryz.func63 [0,2,4,6] (zN rfl z7w (zN rfl z7z (zN rfl z8r (zN rfl z89 zm))))
def t174:=t173.d zdY
def Ru:zI:=Lz [.slot 3 .str] [Mr 1 zK] ⟨[Mi 4,.a .str],[(3,.cur 0 .str)],[.arr .str]⟩ [⟨.exit 0,⟨[.a .str],[(3,.cur 0 .str)],[.arr .str]⟩⟩] fun p s=>kG p s
def h34:Hints:=Hz [(0,Ru)] [] []
theorem z5Q:LO Tryz.f34 Ru 0:=lk t174 (rz [1]) h34 [] zm
theorem zhG:zF Pz 34 ⟨[.ty zK],[(.sl .str)],fun x=>gF x⟩:=qN t174 (rz [1]) h34 Tryz.func34 [0] (zN rfl z5Q zm)
def t175:=t174.d zhG
def z0E:zI:=Lz [.slot 3 .str] [Mr 1 zK] ⟨[Mi 4,.a .str],[(3,.cur 0 .str)],[.arr .str]⟩ [⟨.exit 0,⟨[.a .str],[(3,.cur 0 .str)],[.arr .str]⟩⟩] fun p s=>yK p s
def z0A:zI:=Lz [] [Mr 1 zK] ⟨[Mi 5,.a .str],[(3,.cur 0 .str)],[.arr .str]⟩ [⟨.exit 2,⟨[.a .str],[(3,.cur 0 .str)],[.arr .str]⟩⟩] fun p s=>yT p s
def z0s:zI:=Lz [] [Mr 1 zK] ⟨[Mi 6,.a .str],[(3,.cur 0 .str)],[.arr .str]⟩ [⟨.exit 4,⟨[.a .str],[(3,.cur 0 .str)],[.arr .str]⟩⟩] fun p s=>yW p s
def Rs:zI:=Lz [] [Mr 1 zK] ⟨[Mi 7,.a .str],[(3,.cur 0 .str)],[.arr .str]⟩ [⟨.exit 6,⟨[.a .str],[(3,.cur 0 .str)],[.arr .str]⟩⟩] fun p s=>yS p s
def z0u:zI:=Lz [] [Mr 1 zK] ⟨[Mi 8,.a .str],[(3,.cur 0 .str)],[.arr .str]⟩ [⟨.exit 8,⟨[.a .str],[(3,.cur 0 .str)],[.arr .str]⟩⟩] fun p s=>yz p s
def h65:Hints:=Hz [(0,z0E),(2,z0A),(4,z0s),(6,Rs),(8,z0u)] [] []
theorem z5p:LO Tryz.f65 z0E 0:=lk t175 (rz [1]) h65 [] zm
theorem z7m:LO Tryz.f65 z0A 2:=lk t175 (rz [1]) h65 [] zm
theorem z7H:LO Tryz.f65 z0s 4:=lk t175 (rz [1]) h65 [] zm
theorem z7R:LO Tryz.f65 Rs 6:=lk t175 (rz [1]) h65 [] zm
theorem z8k:LO Tryz.f65 z0u 8:=lk t175 (rz [1]) h65 [] zm
theorem zfo:zF Pz 65 ⟨[.ty zK],[(.sl .str)],fun x=>o0 x⟩:=qN t175 (rz [1]) h65 Tryz.func65 [0,2,4,6,8] (zN rfl z5p (zN rfl z7m (zN rfl z7H (zN rfl z7R (zN rfl z8k zm)))))
def t176:=t175.d zfo
def IV:zI:=Lz [] [Mm 0 (.sl .str),Ms 1] ⟨[Mi 5],[],[]⟩ [⟨.exit 0,⟨[],[],[]⟩⟩,⟨.ret,⟨[Mb 4],[],[]⟩⟩] fun p s=>dn p.1 p.2 s
def z9a:Hints:=Hz [(0,IV)] [] []
theorem z3K:LO Tryz.f119 IV 0:=lk t176 rn z9a [] zm
theorem zcx:zF Pz 119 ⟨[.ty (.sl .str),.ty .str],[.bool],fun x=>yV x.1 x.2⟩:=qN t176 rn z9a Tryz.func119 [0] (zN rfl z3K zm)
def t177:=t176.d zcx
def z0C:zI:=Lz [] [Mm 0 (.sl .str)] ⟨[Mi 3],[],[]⟩ [⟨.exit 0,⟨[],[],[]⟩⟩,⟨.ret,⟨[Ms 2],[],[]⟩⟩] fun p s=>yE p s
def h64:Hints:=Hz [(0,z0C)] [] []
theorem z5I:LO Tryz.f64 z0C 0:=lk t177 rn h64 [] zm
theorem zgE:zF Pz 64 ⟨[.ty (.sl .str)],[.str],fun x=>p7 x⟩:=qN t177 rn h64 Tryz.func64 [0] (zN rfl z5I zm)
def t178:=t177.d zgE
def Sd:zI:=Lz [.slot 3 .str] [Mr 1 zK] ⟨[Mi 4,.a .str],[(3,.cur 0 .str)],[.arr .str]⟩ [⟨.exit 0,⟨[.a .str],[(3,.cur 0 .str)],[.arr .str]⟩⟩] fun p s=>ki p s
def RT:zI:=Lz [] [Mr 1 zK] ⟨[Mi 5,.a .str],[(3,.cur 0 .str)],[.arr .str]⟩ [⟨.exit 2,⟨[.a .str],[(3,.cur 0 .str)],[.arr .str]⟩⟩,⟨.ret,⟨[Ms 2,.a .str],[],[.arr .str]⟩⟩] fun p s=>kc p s
def RJ:zI:=Lz [] [Mr 1 zK] ⟨[Mi 6,.a .str],[(3,.cur 0 .str)],[.arr .str]⟩ [⟨.exit 4,⟨[.a .str],[],[.arr .str]⟩⟩,⟨.ret,⟨[Ms 2,.a .str],[],[.arr .str]⟩⟩] fun p s=>kD p s
def h66:Hints:=Hz [(0,Sd),(2,RT),(4,RJ)] [(0,9,.ways [⟨.normal,⟨[Mb 47,.a .str],[(3,.cur 0 .str)],[.arr .str]⟩⟩]),(0,14,.ways [⟨.normal,⟨[Mb 78,.a .str],[(3,.cur 0 .str)],[.arr .str]⟩⟩])] []
theorem z6y:LO Tryz.f66 Sd 0:=lk t178 (rz [1]) h66 [] zm
theorem z5H:LO Tryz.f66 RT 2:=lk t178 (rz [1]) h66 [] zm
theorem z86:LO Tryz.f66 RJ 4:=lk t178 (rz [1]) h66 [] zm
theorem zhc:zF Pz 66 ⟨[.ty zK],[.str],fun x=>dV x⟩:=qN t178 (rz [1]) h66 Tryz.func66 [0,2,4] (zN rfl z6y (zN rfl z5H (zN rfl z86 zm)))
def t179:=t178.d zhc
def z04:zI:=Lz [.slot 3 .expr] [Mr 1 zK] ⟨[Mi 4,.a .expr],[(3,.cur 0 .expr)],[.arr .expr]⟩ [⟨.exit 0,⟨[.a .expr],[(3,.cur 0 .expr)],[.arr .expr]⟩⟩] fun p s=>yD p s
def Rm:zI:=Lz [] [Mr 1 zK] ⟨[Mi 5,.a .expr],[(3,.cur 0 .expr)],[.arr .expr]⟩ [⟨.exit 2,⟨[.a .expr],[(3,.cur 0 .expr)],[.arr .expr]⟩⟩] fun p s=>yY p s
def h68:Hints:=Hz [(0,z04),(2,Rm)] [] []
theorem z5F:LO Tryz.f68 z04 0:=lk t179 (rz [1]) h68 [] zm
theorem z74:LO Tryz.f68 Rm 2:=lk t179 (rz [1]) h68 [] zm
theorem zhA:zF Pz 68 ⟨[.ty zK],[(.sl .expr)],fun x=>fX x⟩:=qN t179 (rz [1]) h68 Tryz.func68 [0,2] (zN rfl z5F (zN rfl z74 zm))
def t180:=t179.d zhA
abbrev CI:=uD [.ty .expr]→T (UI [(.sl .str)])
abbrev z1X(F:CI):=zF Pz 120 ⟨[.ty .expr],[(.sl .str)],F⟩
def z5T(ui:CI)(rT:z1X ui):Tb:=t180.d rT
def LV(ui:CI):zI:=Lz [] [Mr 1 .expr,Mi 4,Mm 5 (.sl .str)] ⟨[Mi 6,.a .str],[(3,.cur 0 .str)],[.arr .str]⟩ [⟨.exit 2,⟨[.a .str],[(3,.cur 0 .str)],[.arr .str]⟩⟩] fun p s=>yG (fun y0=>ui (y0)) p.1 p.2.1 p.2.2 s
def M7(ui:CI):zI:=Lz [.slot 3 .str] [Mr 1 .expr] ⟨[Mi 4,.a .str],[(3,.cur 0 .str)],[.arr .str]⟩ [⟨.exit 0,⟨[.a .str],[(3,.cur 0 .str)],[.arr .str]⟩⟩] fun p s=>yu (fun y0=>ui (y0)) p s
def z8o(ui:CI):Hints:=Hz [(2,LV ui),(0,M7 ui)] [] []
theorem z2M(ui:CI)(rT:z1X ui):LO Tryz.f120 (LV ui) 2:=lk (z5T ui rT) (rz [1]) (z8o ui) [] zm
theorem z2l(ui:CI)(rT:z1X ui):LO Tryz.f120 (M7 ui) 0:=lk (z5T ui rT) (rz [1]) (z8o ui) [2] (zN rfl (z2M ui rT) zm)
theorem z3Y(ui:CI)(rT:z1X ui):zF Pz 120 ⟨[.ty .expr],[(.sl .str)],fun x=>fk (fun y0=>ui (y0)) x⟩:=qN (z5T ui rT) (rz [1]) (z8o ui) Tryz.func120 [0] (zN rfl (z2l ui rT) zm)
theorem zbV:zF Pz 120 ⟨[.ty .expr],[(.sl .str)],fun x=>ir x⟩:=fM (fun ui x=>fk (fun y0=>ui (y0)) x) (fun x=>rfl) (fun ui rT=>z3Y ui rT)
def t181:=t180.d zbV
def T1:zI:=Lz [] [Mm 0 (.sl .expr),Mm 1 (.sl .str),Mi 5,Mm 6 (.sl .str)] ⟨[Mi 7],[],[]⟩ [⟨.exit 2,⟨[],[],[]⟩⟩,⟨.ret,⟨[Ms 4],[],[]⟩⟩] fun p s=>jo p.1 p.2.1 p.2.2.1 p.2.2.2 s
def PF:zI:=Lz [] [Mm 0 (.sl .expr),Mm 1 (.sl .str)] ⟨[Mi 5],[],[]⟩ [⟨.exit 0,⟨[],[],[]⟩⟩,⟨.ret,⟨[Ms 4],[],[]⟩⟩] fun p s=>jg p.1 p.2 s
def h67:Hints:=Hz [(2,T1),(0,PF)] [] []
theorem z7U:LO Tryz.f67 T1 2:=lk t181 rn h67 [] zm
theorem z6D:LO Tryz.f67 PF 0:=lk t181 rn h67 [2] (zN rfl z7U zm)
theorem zez:zF Pz 67 ⟨[.ty (.sl .expr),.ty (.sl .str)],[.str],fun x=>ba x.1 x.2⟩:=qN t181 rn h67 Tryz.func67 [0] (zN rfl z6D zm)
def t182:=t181.d zez
def L0:zI:=Lz [] [Mm 1 (.sl .str),Mm 5 (.sl .str)] ⟨[Mi 6],[],[]⟩ [⟨.exit 0,⟨[],[],[]⟩⟩,⟨.ret,⟨[Mb 4],[],[]⟩⟩] fun p s=>dO p.1 p.2 s
def zbk:Hints:=Hz [(0,L0)] [] []
theorem z3h:LO Tryz.f121 L0 0:=lk t182 (rz [2]) zbk [] zm
theorem zcr:zF Pz 121 ⟨[.ty .expr,.ty (.sl .str)],[.bool],fun x=>bg x.1 x.2⟩:=qN t182 (rz [2]) zbk Tryz.func121 [0] (zN rfl z3h zm)
def t183:=t182.d zcr
abbrev Y69:=uD [.ty .expr,.ty (.sl .str)]→T (UI [.bool])
abbrev H69(F:Y69):=zF Pz 69 ⟨[.ty .expr,.ty (.sl .str)],[.bool],F⟩
def T69(mU:Y69)(Dg:H69 mU):Tb:=t183.d Dg
def TO(mU:Y69):zI:=Lz [] [Mm 1 (.sl .str),Mr 2 .expr] ⟨[Mi 5],[],[]⟩ [⟨.exit 0,⟨[],[],[]⟩⟩,⟨.ret,⟨[Mb 4],[],[]⟩⟩] fun p s=>kH (fun y0 y1=>mU (y0,y1)) p.1 p.2 s
def h69(mU:Y69):Hints:=Hz [(0,TO mU)] [(0,6,.flat [Mb 21]),(0,8,.flat [Mb 47])] []
theorem z66(mU:Y69)(Dg:H69 mU):LO Tryz.f69 (TO mU) 0:=lk (T69 mU Dg) (rz [2]) (h69 mU) [] zm
theorem z73(mU:Y69)(Dg:H69 mU):zF Pz 69 ⟨[.ty .expr,.ty (.sl .str)],[.bool],fun x=>cQ (fun y0 y1=>mU (y0,y1)) x.1 x.2⟩:=qN (T69 mU Dg) (rz [2]) (h69 mU) Tryz.func69 [0] (zN rfl (z66 mU Dg) zm)
theorem zdX:zF Pz 69 ⟨[.ty .expr,.ty (.sl .str)],[.bool],fun x=>dr x.1 x.2⟩:=fM (fun mU x=>cQ (fun y0 y1=>mU (y0,y1)) x.1 x.2) (fun x=>rfl) (fun mU Dg=>z73 mU Dg)
def t184:=t183.d zdX
def Pm:zI:=Lz [] [Mr 1 zK,Mm 5 (.sl .str)] ⟨[Mi 7,.a .str],[(6,.cur 0 .str)],[.arr .str]⟩ [⟨.exit 0,⟨[.a .str],[(6,.cur 0 .str)],[.arr .str]⟩⟩] fun p s=>kz p.1 p.2 s
def TH:zI:=Lz [] [Mr 1 zK,Mm 5 (.sl .str)] ⟨[Mi 8],[],[]⟩ [⟨.exit 2,⟨[],[],[]⟩⟩,⟨.ret,⟨[Mi 2,Ms 3],[],[]⟩⟩] fun p s=>kR p.1 p.2 s
def h29:Hints:=Hz [(0,Pm),(2,TH)] [(0,3,.flat [Mb 21]),(3,6,.ways [⟨.normal,⟨[Ms 4],[],[]⟩⟩]),(3,9,.ways [⟨.normal,⟨[Ms 4],[],[]⟩⟩]),(0,21,.ways [⟨.normal,⟨[Mb 85],[],[]⟩⟩])] []
theorem z7J:LO Tryz.f29 Pm 0:=lk t184 (rz [1]) h29 [] zm
theorem z7L:LO Tryz.f29 TH 2:=lk t184 (rz [1]) h29 [] zm
theorem zgD:zF Pz 29 ⟨[.ty zK],[i64,.str],fun x=>lA x⟩:=qN t184 (rz [1]) h29 Tryz.func29 [0,2] (zN rfl z7J (zN rfl z7L zm))
def t185:=t184.d zgD
def RC:zI:=Lz [.cell 0 0 .str,.cell 0 1 .str,.cell 2 1 .str] [Mr 2 zK] ⟨[Mi 6,.v (.st [.row 3 .str,.row 4 .str,.im (.sl zt)]),.a zt,.v (.st [.im (.sl .str),.row 5 .str,.row 1 zt]),.a .str,.a .str,.a .str],[(4,.ptr 0 0),(5,.ptr 2 0)],[.var (.st [.row 3 .str,.row 4 .str,.im (.sl zt)]),.arr zt,.var (.st [.im (.sl .str),.row 5 .str,.row 1 zt]),.arr .str,.arr .str,.arr .str]⟩ [⟨.exit 0,⟨[.v (.st [.row 3 .str,.row 4 .str,.im (.sl zt)]),.a zt,.v (.st [.im (.sl .str),.row 5 .str,.row 1 zt]),.a .str,.a .str,.a .str],[],[.var (.st [.row 3 .str,.row 4 .str,.im (.sl zt)]),.arr zt,.var (.st [.im (.sl .str),.row 5 .str,.row 1 zt]),.arr .str,.arr .str,.arr .str]⟩⟩] fun p s=>da p s
def h13:Hints:=Hz [(0,RC)] [] []
theorem z7f:LO Tryz.f13 RC 0:=lk t185 (rz [2]) h13 [] zm
theorem zfg:zF Pz 13 ⟨[.ty zK,.ty (.sl zt)],[zH],fun x=>ss x.1 x.2⟩:=qN t185 (rz [2]) h13 Tryz.func13 [0] (zN rfl z7f zm)
def t186:=t185.d zfg
def z0j:zI:=Lz [] [Mm 1 (.sl .bool),Ms 2,Mr 3 zK] ⟨[Mi 7],[],[]⟩ [⟨.exit 0,⟨[],[],[]⟩⟩,⟨.ret,⟨[Mb 6],[],[]⟩⟩] fun p s=>fU p.1 p.2.1 p.2.2 s
def h31:Hints:=Hz [(0,z0j)] [(0,5,.flat [Mb 6])] []
theorem z5P:LO Tryz.f31 z0j 0:=lk t186 (rz [3]) h31 [] zm
theorem zhu:zF Pz 31 ⟨[.ty zK,.ty (.sl .bool),.ty .str],[.bool],fun x=>J0 x.1 x.2.1 x.2.2⟩:=qN t186 (rz [3]) h31 Tryz.func31 [0] (zN rfl z5P zm)
def t187:=t186.d zhu
theorem zek:zF Pz 75 ⟨[.ty .bool,.ty (.sl u32),.ty (.sl u32)],[zt],fun x=>cT x.1 x.2.1 x.2.2⟩:=qN t187 rn hN Tryz.func75 [] zm
def t188:=t187.d zek
def h35:Hints:=Hz [] [(3,2,.flat [Mm 3 (.int .u64)])] []
theorem zgf:zF Pz 35 ⟨[.ty i64],[zt],fun x=>xW x⟩:=qN t188 rn h35 Tryz.func35 [] zm
def t189:=t188.d zgf
def R3:zI:=Lz [] [Ms 0,Mr 3 zH] ⟨[Mi 6,.v (.zU q7)],[(4,.ptr 0 0)],[.var (.zU q7)]⟩ [⟨.exit 0,⟨[.v (.zU q7)],[],[.var (.zU q7)]⟩⟩,⟨.ret,⟨[Mi 5,.v (.zU q7)],[],[.var (.zU q7)]⟩⟩] fun p s=>bX p.1 p.2 s
def z07:zI:=Lz [] [Ms 0,Mr 3 zH] ⟨[Mi 7,.v (.zU q7)],[(4,.ptr 0 0)],[.var (.zU q7)]⟩ [⟨.exit 2,⟨[.v (.zU q7)],[],[.var (.zU q7)]⟩⟩,⟨.ret,⟨[Mi 5,.v (.zU q7)],[],[.var (.zU q7)]⟩⟩] fun p s=>hO p.1 p.2 s
def h79:Hints:=Hz [(0,R3),(2,z07)] [(0,9,.flat [Mb 48])] []
theorem z6Z:LO Tryz.f79 R3 0:=lk t189 (rz [3]) h79 [] zm
theorem z81:LO Tryz.f79 z07 2:=lk t189 (rz [3]) h79 [] zm
theorem zge:zF Pz 79 ⟨[.ty .str,.ty zH],[q7,i64],fun x=>ni x.1 x.2⟩:=qN t189 (rz [3]) h79 Tryz.func79 [0,2] (zN rfl z6Z (zN rfl z81 zm))
def t190:=t189.d zge
theorem zfy:zF Pz 83 ⟨[.ty zt,.ty zt],[zt],fun x=>kf x.1 x.2⟩:=qN t190 (rz [2,3]) hN Tryz.func83 [] zm
def t191:=t190.d zfy
theorem zfC:zF Pz 38 ⟨[.ty zt],[.bool],fun x=>fA x⟩:=qN t191 (rz [1]) hN Tryz.func38 [] zm
def t192:=t191.d zfC
theorem zcg:vT Pz 123 ⟨[.cur,.any,.any],⟨[Mi 1,Mm 2 zt,.a zp],[(0,.cur 0 zp)],[.arr zp]⟩,[],⟨[.a zp],[(0,.cur 0 zp)],[.arr zp]⟩,1,fun x=>vG x.1 x.2.1 x.2.2⟩:=P7 t192 (rz [5]) hN Tryz.func123 [] zm
def t193:=t192.s zcg
def PB:zI:=Lz [.cell 0 1 zp,.cell 1 1 zp] [Mr 2 q7,Mr 3 zt] ⟨[Mi 6,.v (.st [.im i64,.row 2 zp,.im .bool,.im (.sl u32),.im (.sl u32)]),.v (.st [.im i64,.row 3 zp,.im .bool,.im (.sl u32),.im (.sl u32)]),.a zp,.a zp],[(4,.ptr 0 0),(5,.ptr 1 0)],[.var (.st [.im i64,.row 2 zp,.im .bool,.im (.sl u32),.im (.sl u32)]),.var (.st [.im i64,.row 3 zp,.im .bool,.im (.sl u32),.im (.sl u32)]),.arr zp,.arr zp]⟩ [⟨.exit 0,⟨[.v (.st [.im i64,.row 2 zp,.im .bool,.im (.sl u32),.im (.sl u32)]),.v (.st [.im i64,.row 3 zp,.im .bool,.im (.sl u32),.im (.sl u32)]),.a zp,.a zp],[],[.var (.st [.im i64,.row 2 zp,.im .bool,.im (.sl u32),.im (.sl u32)]),.var (.st [.im i64,.row 3 zp,.im .bool,.im (.sl u32),.im (.sl u32)]),.arr zp,.arr zp]⟩⟩] fun p s=>yX p.1 p.2 s
def h74:Hints:=Hz [(0,PB)] [] []
theorem z7n:LO Tryz.f74 PB 0:=lk t193 (rz [2,3]) h74 [] zm
theorem zeQ:zF Pz 74 ⟨[.ty q7,.ty zt],[q7],fun x=>vi x.1 x.2⟩:=qN t193 (rz [2,3]) h74 Tryz.func74 [0] (zN rfl z7n zm)
def t194:=t193.d zeQ
theorem zg0:zF Pz 81 ⟨[.ty zt,.ty zt],[zt],fun x=>k8 x.1 x.2⟩:=qN t194 (rz [2,3]) hN Tryz.func81 [] zm
def t195:=t194.d zg0
def PZ:zI:=Lz [.cell 0 1 zp,.cell 1 1 zp] [Mr 2 q7,Mr 3 q7] ⟨[Mi 6,Mi 7,.v (.st [.im i64,.row 2 zp,.im .bool,.im (.sl u32),.im (.sl u32)]),.v (.st [.im i64,.row 3 zp,.im .bool,.im (.sl u32),.im (.sl u32)]),.a zp,.a zp],[(4,.ptr 0 0),(5,.ptr 1 0)],[.var (.st [.im i64,.row 2 zp,.im .bool,.im (.sl u32),.im (.sl u32)]),.var (.st [.im i64,.row 3 zp,.im .bool,.im (.sl u32),.im (.sl u32)]),.arr zp,.arr zp]⟩ [⟨.exit 0,⟨[.v (.st [.im i64,.row 2 zp,.im .bool,.im (.sl u32),.im (.sl u32)]),.v (.st [.im i64,.row 3 zp,.im .bool,.im (.sl u32),.im (.sl u32)]),.a zp,.a zp],[],[.var (.st [.im i64,.row 2 zp,.im .bool,.im (.sl u32),.im (.sl u32)]),.var (.st [.im i64,.row 3 zp,.im .bool,.im (.sl u32),.im (.sl u32)]),.arr zp,.arr zp]⟩⟩] fun p s=>j5 p.1 p.2 s
def h73:Hints:=Hz [(0,PZ)] [(0,3,.flat [Mb 27]),(0,7,.flat [Mb 55]),(0,10,.flat [Mb 101])] []
theorem z6S:LO Tryz.f73 PZ 0:=lk t195 (rz [2,3]) h73 [] zm
theorem zfG:zF Pz 73 ⟨[.ty q7,.ty q7],[q7],fun x=>di x.1 x.2⟩:=qN t195 (rz [2,3]) h73 Tryz.func73 [0] (zN rfl z6S zm)
def t196:=t195.d zfG
def zea:Hints:=Hz [] [(0,1,.flat [Mb 6])] []
theorem z9F:zF Pz 174 ⟨[.ty q7,.ty q7],[q7,i64],fun x=>rG x.1 x.2⟩:=qN t196 (rz [2,3]) zea Tryz.func174 [] zm
def t197:=t196.d z9F
theorem zeu:zF Pz 84 ⟨[.ty zt,.ty zt],[zt,.bool],fun x=>dS x.1 x.2⟩:=qN t197 (rz [2,3]) hN Tryz.func84 [] zm
def t198:=t197.d zeu
theorem z9m:zF Pz 175 ⟨[.ty q7,.ty q7],[q7,i64],fun x=>rX x.1 x.2⟩:=qN t198 (rz [2,3]) hN Tryz.func175 [] zm
def t199:=t198.d z9m
abbrev zc4:=uD [.ty .expr,.ty zH]→T (UI [q7,i64])
abbrev zex(F:zc4):=zF Pz 122 ⟨[.ty .expr,.ty zH],[q7,i64],F⟩
theorem z3c(YT:zc4)(SR:zex YT):zF Pz 122 ⟨[.ty .expr,.ty zH],[q7,i64],fun x=>tQ (fun y0 y1=>YT (y0,y1)) x.1 x.2⟩:=qN (t199.d SR) (rz [2,3]) hN Tryz.func122 [] zm
theorem zcf:zF Pz 122 ⟨[.ty .expr,.ty zH],[q7,i64],fun x=>UN x.1 x.2⟩:=fM (fun YT x=>tQ (fun y0 y1=>YT (y0,y1)) x.1 x.2) (fun x=>rfl) (fun YT SR=>z3c YT SR)
def t200:=t199.d zcf
theorem zeo:zF Pz 72 ⟨[.ty .expr,.ty zH],[q7,i64],fun x=>X7 x.1 x.2⟩:=qN t200 (rz [2,3]) hN Tryz.func72 [] zm
def t201:=t200.d zeo
theorem zf4:zF Pz 32 ⟨[.ty zl,.ty zH],[q7,i64],fun x=>cZ x.1 x.2⟩:=qN t201 (rz [2,3]) hN Tryz.func32 [] zm
def t202:=t201.d zf4
def Tu:zI:=Lz [] [Mr 1 q7] ⟨[Mi 3],[],[]⟩ [⟨.exit 0,⟨[],[],[]⟩⟩,⟨.ret,⟨[Mb 2],[],[]⟩⟩] fun p s=>yF p s
def h33:Hints:=Hz [(0,Tu)] [] []
theorem z5V:LO Tryz.f33 Tu 0:=lk t202 (rz [1]) h33 [] zm
theorem zeq:zF Pz 33 ⟨[.ty q7],[.bool],fun x=>pB x⟩:=qN t202 (rz [1]) h33 Tryz.func33 [0] (zN rfl z5V zm)
def t203:=t202.d zeq
def z5m:zI:=Lz [] [Mm 1 (.sl zt),Mm 2 (.sl .bool),Mr 3 zK] ⟨[Mi 12],[],[]⟩ [⟨.exit 0,⟨[],[],[]⟩⟩,⟨.ret,⟨[Ms 8,Mi 9],[(6,.xw),(7,.xw)],[]⟩⟩] fun p s=>b9 p.1 p.2.1 p.2.2 s
def z4o:zI:=Lz [.slot 14 q7,.slot 15 i64] [Mm 2 (.sl .bool),Mr 3 zK] ⟨[Mi 16,.v (.zU zH),.a q7,.a i64],[(13,.ptr 0 0),(14,.cur 1 q7),(15,.cur 2 i64)],[.var (.zU zH),.arr q7,.arr i64]⟩ [⟨.exit 2,⟨[.v (.zU zH),.a q7,.a i64],[(14,.cur 1 q7),(15,.cur 2 i64)],[.var (.zU zH),.arr q7,.arr i64]⟩⟩,⟨.ret,⟨[Ms 8,Mi 9,.v (.zU zH),.a q7,.a i64],[(6,.xw),(7,.xw)],[.var (.zU zH),.arr q7,.arr i64]⟩⟩] fun p s=>ug p.1 p.2 s
def z4k:zI:=Lz [] [Mr 3 zK] ⟨[Mi 19,.v (.zU zH),.a q7,.a i64],[(14,.cur 1 q7),(15,.cur 2 i64)],[.var (.zU zH),.arr q7,.arr i64]⟩ [⟨.exit 4,⟨[.v (.zU zH),.a q7,.a i64],[(14,.cur 1 q7),(15,.cur 2 i64)],[.var (.zU zH),.arr q7,.arr i64]⟩⟩,⟨.ret,⟨[Ms 8,Mi 9,.v (.zU zH),.a q7,.a i64],[(6,.xw),(7,.xw)],[.var (.zU zH),.arr q7,.arr i64]⟩⟩] fun p s=>bM p s
def h9:Hints:=Hz [(0,z5m),(2,z4o),(4,z4k)] [(0,4,.flat [Mb 42])] []
theorem zaw:LO Tryz.f9 z5m 0:=lk t203 (rz [3]) h9 [] zm
theorem zbS:LO Tryz.f9 z4o 2:=lk t203 (rz [3]) h9 [] zm
theorem zcW:LO Tryz.f9 z4k 4:=lk t203 (rz [3]) h9 [] zm
theorem ok9:zF Pz 9 ⟨[.ty zK,.ty (.sl zt),.ty (.sl .bool)],[(.sl q7),(.sl i64),.str,i64],fun x=>Z6 x.1 x.2.1 x.2.2⟩:=qN t203 (rz [3]) h9 Tryz.func9 [0,2,4] (zN rfl zaw (zN rfl zbS (zN rfl zcW zm)))
def t204:=t203.d ok9
theorem zhg:zF Pz 17 ⟨[.ty zt,.ty zt],[.bool],fun x=>y5 x.1 x.2⟩:=qN t204 (rz [2,3]) hN Tryz.func17 [] zm
def t205:=t204.d zhg
theorem zeY:zF Pz 14 ⟨[],[.bool],fun _=>iK⟩:=qN t205 rn hN Tryz.func14 [] zm
def t206:=t205.d zeY
def T6:zI:=Lz [] [Mm 1 (.sl zt),Mr 2 q7] ⟨[Mi 6,.v (.zU zt),.v (.zU zt)],[(4,.ptr 0 0),(5,.ptr 1 0)],[.var (.zU zt),.var (.zU zt)]⟩ [⟨.exit 0,⟨[.v (.zU zt),.v (.zU zt)],[],[.var (.zU zt),.var (.zU zt)]⟩⟩] fun p s=>ob p.1 p.2 s
def h39:Hints:=Hz [(0,T6)] [(0,6,.flat [Mb 31])] []
theorem z7Y:LO Tryz.f39 T6 0:=lk t206 (rz [2]) h39 [] zm
theorem zhe:zF Pz 39 ⟨[.ty q7,.ty (.sl zt)],[zt],fun x=>XS x.1 x.2⟩:=qN t206 (rz [2]) h39 Tryz.func39 [0] (zN rfl z7Y zm)
def t207:=t206.d zhe
def h80:Hints:=Hz [] [(0,2,.ways [⟨.normal,⟨[.v (.zU zt),.v (.zU zt)],[],[.var (.zU zt),.var (.zU zt)]⟩⟩])] []
theorem zer:zF Pz 80 ⟨[.ty zt],[zt],fun x=>sk x⟩:=qN t207 (rz [1]) h80 Tryz.func80 [] zm
def t208:=t207.d zer
theorem zhq:zF Pz 82 ⟨[.ty zt,.ty zt],[zt],fun x=>XQ x.1 x.2⟩:=qN t208 (rz [2,3]) hN Tryz.func82 [] zm
def t209:=t208.d zhq
abbrev Y37:=uD [.ty .expr,.ty zH,.ty (.sl zt)]→T (UI [zt,i64])
abbrev H37(F:Y37):=zF Pz 37 ⟨[.ty .expr,.ty zH,.ty (.sl zt)],[zt,i64],F⟩
theorem z6q(N9:Y37)(z5n:H37 N9):zF Pz 37 ⟨[.ty .expr,.ty zH,.ty (.sl zt)],[zt,i64],fun x=>fm (fun y0 y1 y2=>N9 (y0,y1,y2)) x.1 x.2.1 x.2.2⟩:=qN (t209.d z5n) (rz [3,4]) hN Tryz.func37 [] zm
theorem zgX:zF Pz 37 ⟨[.ty .expr,.ty zH,.ty (.sl zt)],[zt,i64],fun x=>oc x.1 x.2.1 x.2.2⟩:=fM (fun N9 x=>fm (fun y0 y1 y2=>N9 (y0,y1,y2)) x.1 x.2.1 x.2.2) (fun x=>rfl) (fun N9 z5n=>z6q N9 z5n)
def t210:=t209.d zgX
theorem zfQ:zF Pz 15 ⟨[.ty .expr,.ty zH,.ty (.sl zt)],[zt,i64],fun x=>iQ x.1 x.2.1 x.2.2⟩:=qN t210 (rz [3,4]) hN Tryz.func15 [] zm
def t211:=t210.d zfQ
theorem zfq:zF Pz 16 ⟨[.ty q7,.ty (.sl zt)],[.bool],fun x=>lW x.1 x.2⟩:=qN t211 (rz [2]) hN Tryz.func16 [] zm
def t212:=t211.d zfq
def z48:zI:=Lz [] [Mm 3 (.sl zt),Mr 4 zK] ⟨[Mi 17,.v (.zU qk),.v (.zU zH)],[(9,.ptr 0 0),(16,.ptr 1 0)],[.var (.zU qk),.var (.zU zH)]⟩ [⟨.exit 0,⟨[.v (.zU qk),.v (.zU zH)],[],[.var (.zU qk),.var (.zU zH)]⟩⟩,⟨.ret,⟨[Mb 8,.v (.zU qk),.v (.zU zH)],[],[.var (.zU qk),.var (.zU zH)]⟩⟩] fun p s=>jP p.1 p.2 s
def h4:Hints:=Hz [(0,z48)] [(0,1,.ways [⟨.normal,⟨[Mb 37],[],[]⟩⟩]),(0,13,.flat [Mb 96]),(0,18,.ways [⟨.normal,⟨[Mb 140,.v (.zU qk),.v (.zU zH),.v (.zU zl),.v (.zU zt),.v (.zU zt)],[],[.var (.zU qk),.var (.zU zH),.var (.zU zl),.var (.zU zt),.var (.zU zt)]⟩⟩])] []
theorem zd3:LO Tryz.f4 z48 0:=lk t212 (rz [4]) h4 [] zm
theorem ok4:zF Pz 4 ⟨[.ty zK,.ty (.sl zt),.ty (.sl .bool),.ty (.sl zt)],[.bool],fun x=>c7 x.1 x.2.1 x.2.2.1 x.2.2.2⟩:=qN t212 (rz [4]) h4 Tryz.func4 [0] (zN rfl zd3 zm)
def t213:=t212.d ok4
end Go.AM.Lf
