/-
  The walk, part 0: each function of the program is the tree that the lifted text says; printed by a program of ours.
-/
import Derived.Test.YtbafdjlefhlefaaGreatDoorProg
import Derived.KernelRfl
import Derived.Test.YtbafdjlefhlefaaGreatDoorAmD
import Derived.Test.YtbafdjlefhlefaaGreatDoorLf1
import Derived.Lib.Builder
import Derived.Shelf.Strings.Builder1
import Derived.WalkKit
import Derived.TacticsInMore
import Derived.Maps.OwnOps
import Derived.Maps.AppendAt
import Derived.StringKeys
import Derived.Maps.Views
import Derived.Test.YtbafdjlefhlefaaGreatDoorSh
set_option linter.unusedVariables false
set_option maxRecDepth 100000
noncomputable section
namespace Go.AM.Lf
open Go.Proofs
abbrev XID:Nat:=52
abbrev Pz:Program:=Tryz.prog
def ma(f:Func):Code:=match f.body with | some c=>c | none=>.skip
def lb(k:Nat)(f:Func):Code:=match ZN k (ma f)with | some c=>c | none=>.skip
theorem mixed:Pz.follows .mixedOrders=true:=by kernel_rfl
instance:uz:={ u8:=5,tab:=[(1,CP .u64 Lib.pow10Tab)] }
theorem gK{κ:KS}(hI:Inv κ):Lib.TabIs Tryz.prog κ.w "internal/strconv.uint64pow10" .u64 Lib.pow10Tab :=
 z5Q (g:=1) (by kernel_rfl) (hI.gl (1,CP .u64 Lib.pow10Tab) (by simp[uz.tab])).2
structure Tb where
 t:fX
 ok:eE Pz t
def Tb.d(T:Tb){g:Nat}{d:Bb}(h:zB Pz g d):Tb:=⟨(g,.d d)::T.t,Ff h T.ok⟩
def Tb.s(T:Tb){g:Nat}{d:cI}(h:vL Pz g d):Tb:=⟨(g,.s d)::T.t,BB h T.ok⟩
def Tb.p(T:Tb){g:Nat}{d:me}(h:Ge Pz g d):Tb:=⟨(g,.p d)::T.t,Bv h T.ok⟩
def t0:Tb:=⟨[],Nf _⟩
def fL:List (Nat×zE)→Nat→Option zE
 | [],_=>none
 | x::r,n=>bif Nat.beq x.1 n then some x.2 else fL r n
def fC:List (Nat×Nat×z2L)→Nat→Nat→Option z2L
 | [],_,_=>none
 | x::r,k,n=>bif Nat.beq x.1 k&&Nat.beq x.2.1 n then some x.2.2 else fC r k n
def fF:List (Nat×List Nat)→Nat→List Nat
 | [],_=>[]
 | x::r,n=>bif Nat.beq x.1 n then x.2 else fF r n
def Hz(l:List (Nat×zE))(c:List (Nat×Nat×z2L))(f:List (Nat×List Nat)):Hints:=⟨fL l,fC c,fF f⟩
def hN:Hints:=Hz [] [] []
def rz(l:List Nat)(s:Nat):Bool:=l.any (Nat.beq s)
def rn(_:Nat):Bool:=false
def Lz(gh:List Gh)(ps:List It)(sh:mm)(ws:List Way)(R:wS ps→sh.den→T (sh.den⊕yt ws)):zE:=⟨gh,ps,sh,ws,fun p s=>T.loop (R p) s⟩
abbrev LO(f:Func)(l:zE)(i:Nat):Prop:=Qb Pz f.ntmps l (lb i f)
def ls(f:Func):List Nat→List (Nat×Code)
 | []=>[]
 | i::r=>(i,lb i f)::ls f r
abbrev Mi(n:Nat):It:=.s n (.zW i64)
abbrev Mb(n:Nat):It:=.s n (.zW .bool)
abbrev Ms(n:Nat):It:=.s n (.zW .str)
abbrev Mm(n:Nat)(t:Ty):It:=.s n (.zW t)
abbrev Mr(n:Nat)(t:Ty):It:=.s n (.xo t)
abbrev Sh0(l:List It):mm:=⟨l,[],[]⟩
theorem lk{f:Func}{i:Nat}{gh:List Gh}{ps:List It}{sh:mm}{ws:List Way}{R:wS ps→sh.den→T (sh.den⊕yt ws)}(T:Tb)(ro:Nat→Bool)(H:Hints)(L:List Nat)(ha:GH Pz f.ntmps H (ls f L))
  (h:∀ p s,RB (y9 Pz XID T.t ro) T.t f.ntmps H (Lz gh ps sh ws R) (lb i f) p s=R p s:=by intro p s; kernel_rfl) (hl:vH (lb i f)=ls f L:=by kernel_rfl):LO f (Lz gh ps sh ws R) i :=
 z2E (xid:=XID) (ro:=ro) (H:=H) mixed T.ok (QT hl ha) R h fun _ _=>rfl
theorem qK{f:Nat}{fn:Func}{d:Bb}(T:Tb)(ro:Nat→Bool)(H:Hints)(hf:Pz.funcs[f]? = some fn)(L:List Nat)(ha:GH Pz fn.ntmps H (ls fn L))
  (h:∀ x,PG (y9 Pz XID T.t ro) T.t H fn (ma fn) d x=d.F x:=by intro x; kernel_rfl) (hb:fn.body=some (ma fn):=by rfl) (hn:(fn.name == "runtime.NumGoroutine")=false:=by kernel_rfl) (hl:vH (ma fn)=ls fn L:=by kernel_rfl):zB Pz f d :=
 zaK (xid:=XID) (ro:=ro) (H:=H) mixed T.ok hf hb hn (QT hl ha) h
theorem On{f:Nat}{fn:Func}{d:cI}(T:Tb)(ro:Nat→Bool)(H:Hints)(hf:Pz.funcs[f]? = some fn)(L:List Nat)(ha:GH Pz fn.ntmps H (ls fn L))
  (h:∀ x,EP (y9 Pz XID T.t ro) T.t H fn (ma fn) d x=d.F x:=by intro x; kernel_rfl) (hb:fn.body=some (ma fn):=by rfl) (hn:(fn.name == "runtime.NumGoroutine")=false:=by kernel_rfl) (hl:vH (ma fn)=ls fn L:=by kernel_rfl):vL Pz f d :=
 z5X (xid:=XID) (ro:=ro) (H:=H) mixed T.ok hf hb hn (QT hl ha) h
def hdB(c:Code):Code:=match c with | .seq _ b=>b | _=>.skip
def hdO(c:Code):Array Oper:=match c with | .seq (.region _ ops _) _=>ops | _ => #[]
def hdI(c:Code):Nat:=match c with | .seq (.region id _ _) _=>id | _=>0
theorem fkp{f:Nat}{fn:Func}{d:me}(T:Tb)(ro:Nat→Bool)(H:Hints)(hf:Pz.funcs[f]? = some fn)(L:List Nat)(ha:GH Pz fn.ntmps H (ls fn L))
  (h:∀ x,FK (y9 Pz XID T.t ro) T.t H fn (ma fn) d x=d.F x:=by intro x; kernel_rfl) (hb:fn.body=some (ma fn):=by rfl) (hn:(fn.name == "runtime.NumGoroutine")=false:=by kernel_rfl) (hl:vH (ma fn)=ls fn L:=by kernel_rfl):Ge Pz f d :=
 z6O (xid:=XID) (ro:=ro) (H:=H) mixed T.ok hf hb hn (QT hl ha) h
abbrev Y19:=uN [.ty .expr,.ty i64]→T (UC [i64])
abbrev H19(F:Y19):=zB Pz 19 ⟨[.ty .expr,.ty i64],[i64],F⟩
def T19(na:Y19)(Bp:H19 na):Tb:=t0.d Bp
def TJ(na:Y19):zE:=Lz [] [Mr 2 .expr] ⟨[Mi 1,Mi 5],[],[]⟩ [⟨.exit 0,⟨[Mi 1],[],[]⟩⟩] fun p s=>kA (fun y0 y1=>na (y0,y1)) p s
def h19(na:Y19):Hints:=Hz [(0,TJ na)] [(0,3,.flat [Mb 32])] []
theorem z7p(na:Y19)(Bp:H19 na):LO Tryz.f19 (TJ na) 0:=lk (T19 na Bp) (rz [2]) (h19 na) [] zl
theorem z6U(na:Y19)(Bp:H19 na):zB Pz 19 ⟨[.ty .expr,.ty i64],[i64],fun x=>cO (fun y0 y1=>na (y0,y1)) x.1 x.2⟩:=qK (T19 na Bp) (rz [2]) (h19 na) Tryz.func19 [0] (zK rfl (z7p na Bp) zl)
theorem zfC:zB Pz 19 ⟨[.ty .expr,.ty i64],[i64],fun x=>kG x.1 x.2⟩:=mb (fun na x=>cO (fun y0 y1=>na (y0,y1)) x.1 x.2) (fun x=>rfl) (fun na Bp=>z6U na Bp)
def t1:=t0.d zfC
def z3G:zE:=Lz [] [Mr 1 zG] ⟨[Mi 3,Mi 4],[],[]⟩ [⟨.exit 0,⟨[Mi 3],[],[]⟩⟩] fun p s=>yC p s
def z3T:zE:=Lz [] [Mr 1 zG] ⟨[Mi 3,Mi 5],[],[]⟩ [⟨.exit 2,⟨[Mi 3],[],[]⟩⟩] fun p s=>yJ p s
def z4j:zE:=Lz [] [Mr 1 zG] ⟨[Mi 3,Mi 6],[],[]⟩ [⟨.exit 4,⟨[Mi 3],[],[]⟩⟩] fun p s=>yl p s
def z3F:zE:=Lz [] [Mr 1 zG] ⟨[Mi 3,Mi 7],[],[]⟩ [⟨.exit 6,⟨[Mi 3],[],[]⟩⟩] fun p s=>yu p s
def z4A:zE:=Lz [] [Mr 1 zG] ⟨[Mi 3,Mi 8],[],[]⟩ [⟨.exit 8,⟨[Mi 3],[],[]⟩⟩] fun p s=>yO p s
def T3:zE:=Lz [] [Mr 1 zG] ⟨[Mi 3,Mi 9],[],[]⟩ [⟨.exit 10,⟨[Mi 3],[],[]⟩⟩] fun p s=>yB p s
def h6:Hints:=Hz [(0,z3G),(2,z3T),(4,z4j),(6,z3F),(8,z4A),(10,T3)] [(0,3,.flat [Mb 43]),(0,7,.flat [Mb 83]),(0,11,.flat [Mb 103]),(0,15,.flat [Mb 131]),(0,19,.flat [Mb 151]),(0,23,.flat [Mb 193])] []
theorem z9R:LO Tryz.f6 z3G 0:=lk t1 (rz [1]) h6 [] zl
theorem z9A:LO Tryz.f6 z3T 2:=lk t1 (rz [1]) h6 [] zl
theorem zbq:LO Tryz.f6 z4j 4:=lk t1 (rz [1]) h6 [] zl
theorem zbK:LO Tryz.f6 z3F 6:=lk t1 (rz [1]) h6 [] zl
theorem z8a:LO Tryz.f6 z4A 8:=lk t1 (rz [1]) h6 [] zl
theorem z5q:LO Tryz.f6 T3 10:=lk t1 (rz [1]) h6 [] zl
theorem ok6:zB Pz 6 ⟨[.ty zG],[.bool],fun x=>cg x⟩:=qK t1 (rz [1]) h6 Tryz.func6 [0,2,4,6,8,10] (zK rfl z9R (zK rfl z9A (zK rfl zbq (zK rfl zbK (zK rfl z8a (zK rfl z5q zl))))))
def t2:=t1.d ok6
def z3Z:zE:=Lz [] [Mm 0 (.sl zI)] ⟨[Mi 3,Mi 4],[],[]⟩ [⟨.exit 0,⟨[],[],[]⟩⟩,⟨.ret,⟨[Mb 2],[],[]⟩⟩] fun p s=>gT p s
def h7:Hints:=Hz [(0,z3Z)] [(0,6,.flat [Mb 46])] []
theorem zci:LO Tryz.f7 z3Z 0:=lk t2 rn h7 [] zl
theorem ok7:zB Pz 7 ⟨[.ty (.sl zI)],[.bool],fun x=>fe x⟩:=qK t2 rn h7 Tryz.func7 [0] (zK rfl zci zl)
def t3:=t2.d ok7
def zdQ:Hints:=Hz [] [(0,1,.flat [Mb 2])] []
theorem z9l:zB Pz 178 ⟨[.ty (.int .u8)],[.bool],fun x=>uk x⟩:=qK t3 rn zdQ Tryz.func178 [] zl
def t4:=t3.d z9l
def zfr:Hints:=Hz [] [(0,1,.flat [Mb 2])] []
theorem z9i:zB Pz 202 ⟨[.ty (.int .u8)],[.bool],fun x=>ov x⟩:=qK t4 rn zfr Tryz.func202 [] zl
def t5:=t4.d z9i
theorem zaz:zB Pz 179 ⟨[.ty (.int .u8)],[.bool],fun x=>eO x⟩:=qK t5 rn hN Tryz.func179 [] zl
def t6:=t5.d zaz
def Ld:zE:=Lz [] [Ms 0,Mi 18] ⟨[Mi 19],[],[]⟩ [⟨.exit 0,⟨[],[],[]⟩⟩,⟨.ret,⟨[Mb 2],[],[]⟩⟩] fun p s=>kM p.1 p.2 s
def zar:Hints:=Hz [(0,Ld)] [(0,1,.ways [⟨.normal,⟨[Mb 16],[],[]⟩⟩])] []
theorem z2O:LO Tryz.f134 Ld 0:=lk t6 rn zar [] zl
theorem zc9:zB Pz 134 ⟨[.ty .str],[.bool],fun x=>uR x⟩:=qK t6 rn zar Tryz.func134 [0] (zK rfl z2O zl)
def t7:=t6.d zc9
theorem zc3:zB Pz 133 ⟨[.ty zV],[.bool],fun x=>vz x⟩:=qK t7 (rz [1]) hN Tryz.func133 [] zl
def t8:=t7.d zc3
def OU:zE:=Lz [] [Mm 0 (.sl zV),.s 1 (.xk 133 []),Mi 7] ⟨[Mi 8],[],[]⟩ [⟨.exit 0,⟨[],[],[]⟩⟩,⟨.ret,⟨[Mi 4],[],[]⟩⟩] fun p s=>qf p.1 (fun z0=>vz z0) p.2.2 s
def h55:Hints:=Hz [(0,OU)] [] []
theorem z6w:LO Tryz.f55 OU 0:=lk t8 rn h55 [] zl
theorem zeN:zB Pz 55 ⟨[.ty (.sl zV),.xk 133 []],[i64],fun x=>ql x.1 (fun z0=>vz z0)⟩:=qK t8 rn h55 Tryz.func55 [0] (zK rfl z6w zl)
def t9:=t8.d zeN
theorem zeP:zB Pz 94 ⟨[.ty (.sl zV),.xk 133 []],[.bool],fun x=>qC x.1 (fun z0=>vz z0)⟩:=qK t9 rn hN Tryz.func94 [] zl
def t10:=t9.d zeP
def h49:Hints:=Hz [] [(0,1,.flat [Mb 2])] []
theorem zeR:zB Pz 49 ⟨[.ty (.sl u32)],[.bool],fun x=>iA x⟩:=qK t10 rn h49 Tryz.func49 [] zl
def t11:=t10.d zeR
def Ij:zE:=Lz [] [] ⟨[Mm 0 (.sl u32)],[],[]⟩ [⟨.exit 0,⟨[Mm 0 (.sl u32)],[],[]⟩⟩] fun p s=>lE  s
def zbx:Hints:=Hz [(0,Ij)] [] []
theorem z2B:LO Tryz.f105 Ij 0:=lk t11 rn zbx [] zl
theorem z9D:zB Pz 105 ⟨[.ty (.sl u32)],[(.sl u32)],fun x=>xK x⟩:=qK t11 rn zbx Tryz.func105 [0] (zK rfl z2B zl)
def t12:=t11.d z9D
def zgz:Hints:=Hz [] [(0,1,.z4I)] []
theorem zcn:zB Pz 157 ⟨[.ty (.sl u32)],[(.sl u32)],fun x=>vj x⟩:=qK t12 rn zgz Tryz.func157 [] zl
def t13:=t12.d zcn
theorem z8x:zB Pz 106 ⟨[.ty (.sl u32)],[(.sl u32)],fun x=>bH x⟩:=qK t13 rn hN Tryz.func106 [] zl
def t14:=t13.d z8x
def Sz:zE:=Lz [] [Mm 0 (.sl u32),Mm 1 (.sl u32)] ⟨[Mi 5],[],[]⟩ [⟨.exit 0,⟨[],[],[]⟩⟩,⟨.ret,⟨[Mi 4],[],[]⟩⟩] fun p s=>fO p.1 p.2 s
def h50:Hints:=Hz [(0,Sz)] [] []
theorem z67:LO Tryz.f50 Sz 0:=lk t14 rn h50 [] zl
theorem ze8:zB Pz 50 ⟨[.ty (.sl u32),.ty (.sl u32)],[i64],fun x=>lC x.1 x.2⟩:=qK t14 rn h50 Tryz.func50 [0] (zK rfl z67 zl)
def t15:=t14.d ze8
def ze0:Hints:=Hz [] [(0,1,.flat [Mb 15])] []
theorem zbr:zB Pz 187 ⟨[.ty u32,.ty u32,.ty u32],[u32,u32],fun x=>yZ x.1 x.2.1 x.2.2⟩:=qK t15 rn ze0 Tryz.func187 [] zl
def t16:=t15.d zbr
def M5:zE:=Lz [] [Mm 0 (.sl u32),Mm 1 u32] ⟨[Mm 7 u32,Mi 8,.a u32],[(6,.cur 0 u32)],[.arr u32]⟩ [⟨.exit 0,⟨[Mm 7 u32,.a u32],[(6,.cur 0 u32)],[.arr u32]⟩⟩] fun p s=>eX p.1 p.2 s
def zaU:Hints:=Hz [(0,M5)] [] [(7,[6])]
theorem z1o:LO Tryz.f158 M5 0:=lk t16 rn zaU [] zl
theorem zbc:zB Pz 158 ⟨[.ty (.sl u32),.ty u32],[(.sl u32),u32],fun x=>fj x.1 x.2⟩:=qK t16 rn zaU Tryz.func158 [0] (zK rfl z1o zl)
def t17:=t16.d zbc
theorem zfi:zB Pz 52 ⟨[.ty (.int .u64)],[(.sl u32)],fun x=>jW x⟩:=qK t17 rn hN Tryz.func52 [] zl
def t18:=t17.d zfi
def zfK:Hints:=Hz [] [(3,1,.flat [Mm 0 u32,Mi 2]),(3,4,.flat [Mm 0 u32,Mi 2])] []
theorem zcg:zB Pz 207 ⟨[.ty u32],[i64],fun x=>yR x⟩:=qK t18 rn zfK Tryz.func207 [] zl
def t19:=t18.d zcg
theorem zb8:zB Pz 188 ⟨[.ty u32],[i64],fun x=>wR x⟩:=qK t19 rn hN Tryz.func188 [] zl
def t20:=t19.d zb8
def L3:zE:=Lz [] [Mm 1 (.int .u64),Mi 2,Mm 13 (.sl u32),Mi 14] ⟨[Mi 15,.a u32],[(7,.cur 0 u32)],[.arr u32]⟩ [⟨.exit 0,⟨[.a u32],[(7,.cur 0 u32)],[.arr u32]⟩⟩] fun p s=>Zn p.1 p.2.1 p.2.2.1 p.2.2.2 s
def z8M:Hints:=Hz [(0,L3)] [] []
theorem z1h:LO Tryz.f189 L3 0:=lk t20 rn z8M [] zl
theorem z4s:vL Pz 189 ⟨[.any,.any,.any],⟨[Mm 0 (.sl u32),Mm 1 (.int .u64),Mi 2],[],[]⟩,[],⟨[.a u32],[(0,.cur 0 u32)],[.arr u32]⟩,1,fun x=>fx x.1 x.2.1 x.2.2⟩:=On t20 rn z8M Tryz.func189 [0] (zK rfl z1h zl)
def t21:=t20.s z4s
def Iy:zE:=Lz [] [Mm 2 u32,Mm 3 u32,Mm 4 u32] ⟨[Mm 12 (.int .u64),Mm 13 (.int .u64)],[],[]⟩ [⟨.exit 0,⟨[Mm 12 (.int .u64)],[],[]⟩⟩] fun p s=>gZ p.1 p.2.1 p.2.2 s
def za5:Hints:=Hz [(0,Iy)] [(0,3,.flat [Mb 42])] []
theorem z2J:LO Tryz.f190 Iy 0:=lk t21 rn za5 [] zl
theorem z8Q:zB Pz 190 ⟨[.ty u32,.ty u32,.ty u32,.ty u32,.ty u32],[(.int .u64)],fun x=>fm x.1 x.2.1 x.2.2.1 x.2.2.2.1 x.2.2.2.2⟩:=qK t21 rn za5 Tryz.func190 [0] (zK rfl z2J zl)
def t22:=t21.d z8Q
theorem z8r:zB Pz 197 ⟨[.ty u32,.ty u32,.ty u32],[u32,u32],fun x=>vW x.1 x.2.1 x.2.2⟩:=qK t22 rn hN Tryz.func197 [] zl
def t23:=t22.d z8r
theorem z9z:zB Pz 208 ⟨[.ty u32,.ty u32,.ty u32],[u32,u32],fun x=>yX x.1 x.2.1 x.2.2⟩:=qK t23 rn hN Tryz.func208 [] zl
def t24:=t23.d z9z
def Mt:zE:=Lz [] [Mm 1 (.sl u32),Mm 2 (.int .u64),Mm 14 (.sl u32),Mi 15] ⟨[.s 0 (.sub 0 u32),Mm 7 (.int .u64),Mm 8 u32,Mi 16,.a u32],[],[.arr u32]⟩ [⟨.exit 0,⟨[.s 0 (.sub 0 u32),Mm 7 (.int .u64),Mm 8 u32,.a u32],[],[.arr u32]⟩⟩] fun p s=>bu p.1 p.2.1 p.2.2.1 p.2.2.2 s
def LU:zE:=Lz [] [Mm 1 (.sl u32),Mm 62 (.sl u32),Mi 63] ⟨[.s 0 (.sub 0 u32),Mm 11 u32,Mi 64,.a u32],[],[.arr u32]⟩ [⟨.exit 2,⟨[.s 0 (.sub 0 u32),Mm 11 u32,.a u32],[],[.arr u32]⟩⟩] fun p s=>bA p.1 p.2.1 p.2.2 s
def z5o:Hints:=Hz [(0,Mt),(2,LU)] [] []
theorem z14:LO Tryz.f191 Mt 0:=lk t24 rn z5o [] zl
theorem z0A:LO Tryz.f191 LU 2:=lk t24 rn z5o [] zl
theorem z9G:vL Pz 191 ⟨[.sub,.any,.any],⟨[.s 0 (.sub 0 u32),Mm 1 (.sl u32),Mm 2 (.int .u64),.a u32],[],[.arr u32]⟩,[],⟨[Mb 0,.a u32],[],[.arr u32]⟩,1,fun x=>lv x.1 x.2.1 x.2.2.1 x.2.2.2⟩:=On t24 rn z5o Tryz.func191 [0,2] (zK rfl z14 (zK rfl z0A zl))
def t25:=t24.s z9G
def G1:zE:=Lz [] [Mm 1 (.int .u64),Mi 2,Mm 13 (.sl u32),Mi 14] ⟨[Mi 15,.a u32],[(7,.cur 0 u32)],[.arr u32]⟩ [⟨.exit 0,⟨[.a u32],[(7,.cur 0 u32)],[.arr u32]⟩⟩] fun p s=>dI p.1 p.2.1 p.2.2.1 p.2.2.2 s
def Rk:Hints:=Hz [(0,G1)] [] []
theorem Ni:LO Tryz.f189 G1 0:=lk t25 rn Rk [] zl
theorem Ix:zB Pz 189 ⟨[.ty (.sl u32),.ty (.int .u64),.ty i64],[(.sl u32)],fun x=>X9 x.1 x.2.1 x.2.2⟩:=qK t25 rn Rk Tryz.func189 [0] (zK rfl Ni zl)
def t26:=t25.d Ix
def za3:Tb:=t26.d Ix
def LC:zE:=Lz [] [Mm 6 (.int .u64),Mm 38 (.sl u32),Mi 39] ⟨[Mi 40,.a u32],[(7,.cur 0 u32)],[.arr u32]⟩ [⟨.exit 0,⟨[.a u32],[(7,.cur 0 u32)],[.arr u32]⟩⟩] fun p s=>bp p.1 p.2.1 p.2.2 s
def zbd:Hints:=Hz [(0,LC)] [] [(17,[7]),(21,[12])]
theorem z2Q:LO Tryz.f192 LC 0:=lk za3 rn zbd [] zl
theorem z95:zB Pz 192 ⟨[.ty (.sl u32),.ty i64],[(.sl u32)],fun x=>bZ x.1 x.2⟩:=qK za3 rn zbd Tryz.func192 [0] (zK rfl z2Q zl)
def t27:=t26.d z95
def zbL:Tb:=t27.s z4s
def LM:zE:=Lz [] [Mm 6 (.int .u64),Mm 8 (.sl u32),Mi 9] ⟨[Mi 10,.a u32,.a u32],[(4,.cur 2 u32),(7,.cur 0 u32)],[.arr u32,.dead,.arr u32]⟩ [⟨.exit 0,⟨[.a u32,.a u32],[(4,.cur 2 u32),(7,.cur 0 u32)],[.arr u32,.dead,.arr u32]⟩⟩] fun p s=>dK p.1 p.2.1 p.2.2 s
def z9L:Hints:=Hz [(0,LM)] [(3,9,.ways [⟨.normal,⟨[Mm 11 (.int .u64),.a u32,.a u32],[(4,.cur 2 u32),(7,.cur 0 u32)],[.arr u32,.dead,.arr u32]⟩⟩])] [(5,[8]),(12,[4,7])]
theorem z1R:LO Tryz.f159 LM 0:=lk zbL rn z9L [] zl
theorem zcd:zB Pz 159 ⟨[.ty (.sl u32),.ty (.sl u32)],[(.sl u32),(.sl u32)],fun x=>QN x.1 x.2⟩:=qK zbL rn z9L Tryz.func159 [0] (zK rfl z1R zl)
def t28:=t27.d zcd
theorem zbV:zB Pz 107 ⟨[.ty (.sl u32),.ty (.sl u32)],[(.sl u32),(.sl u32),.bool],fun x=>gm x.1 x.2⟩:=qK t28 rn hN Tryz.func107 [] zl
def t29:=t28.d zbV
def OS:zE:=Lz [] [] ⟨[Mm 0 (.sl u32),Mm 1 (.sl u32)],[],[]⟩ [⟨.exit 0,⟨[Mm 0 (.sl u32)],[],[]⟩⟩] fun p s=>fZ  s
def h51:Hints:=Hz [(0,OS)] [] []
theorem z5t:LO Tryz.f51 OS 0:=lk t29 rn h51 [] zl
theorem zdg:zB Pz 51 ⟨[.ty (.sl u32),.ty (.sl u32)],[(.sl u32)],fun x=>XM x.1 x.2⟩:=qK t29 rn h51 Tryz.func51 [0] (zK rfl z5t zl)
def t30:=t29.d zdg
def h23:Hints:=Hz [] [(0,1,.ways [⟨.normal,⟨[Mb 28],[],[]⟩⟩])] []
theorem zev:zB Pz 23 ⟨[.ty zI],[.bool],fun x=>sI x⟩:=qK t30 (rz [1]) h23 Tryz.func23 [] zl
def t31:=t30.d zev
def zfB:Hints:=Hz [] [(0,2,.flat [Mb 19])] []
theorem zcr:zB Pz 108 ⟨[.ty .bool,.ty (.sl u32),.ty (.sl u32)],[zI],fun x=>oC x.1 x.2.1 x.2.2⟩:=qK t31 rn zfB Tryz.func108 [] zl
def t32:=t31.d zcr
theorem zfz:zB Pz 53 ⟨[.ty zI],[zI],fun x=>xR x⟩:=qK t32 (rz [1]) hN Tryz.func53 [] zl
def t33:=t32.d zfz
def h24:Hints:=Hz [] [(0,2,.flat [Mb 2])] []
theorem ze1:zB Pz 24 ⟨[.ty zI],[.bool],fun x=>uO x⟩:=qK t33 rn h24 Tryz.func24 [] zl
def t34:=t33.d ze1
theorem z8O:zB Pz 135 ⟨[.ty zX],[.bool],fun x=>vC x⟩:=qK t34 (rz [1]) hN Tryz.func135 [] zl
def t35:=t34.d z8O
def LJ:zE:=Lz [] [Mm 0 (.sl zX),.s 1 (.xk 135 []),Mi 7] ⟨[Mi 8],[],[]⟩ [⟨.exit 0,⟨[],[],[]⟩⟩,⟨.ret,⟨[Mi 4],[],[]⟩⟩] fun p s=>qS p.1 (fun z0=>vC z0) p.2.2 s
def z8o:Hints:=Hz [(0,LJ)] [] []
theorem z2C:LO Tryz.f153 LJ 0:=lk t35 rn z8o [] zl
theorem zbn:zB Pz 153 ⟨[.ty (.sl zX),.xk 135 []],[i64],fun x=>xQ x.1 (fun z0=>vC z0)⟩:=qK t35 rn z8o Tryz.func153 [0] (zK rfl z2C zl)
def t36:=t35.d zbn
theorem zbP:zB Pz 100 ⟨[.ty (.sl zX),.xk 135 []],[.bool],fun x=>qE x.1 (fun z0=>vC z0)⟩:=qK t36 rn hN Tryz.func100 [] zl
def t37:=t36.d zbP
theorem zaS:zB Pz 138 ⟨[.ty .str],[.bool],fun x=>y4 x⟩:=qK t37 rn hN Tryz.func138 [] zl
def t38:=t37.d zaS
theorem zbv:zB Pz 137 ⟨[.ty qu],[.bool],fun x=>vG x⟩:=qK t38 (rz [1]) hN Tryz.func137 [] zl
def t39:=t38.d zbv
def Lg:zE:=Lz [] [Mm 0 (.sl qu),.s 1 (.xk 137 []),Mi 7] ⟨[Mi 8],[],[]⟩ [⟨.exit 0,⟨[],[],[]⟩⟩,⟨.ret,⟨[Mi 4],[],[]⟩⟩] fun p s=>xB p.1 (fun z0=>vG z0) p.2.2 s
def zaw:Hints:=Hz [(0,Lg)] [] []
theorem z1y:LO Tryz.f180 Lg 0:=lk t39 rn zaw [] zl
theorem z9d:zB Pz 180 ⟨[.ty (.sl qu),.xk 137 []],[i64],fun x=>wM x.1 (fun z0=>vG z0)⟩:=qK t39 rn zaw Tryz.func180 [0] (zK rfl z1y zl)
def t40:=t39.d z9d
theorem za2:zB Pz 136 ⟨[.ty (.sl qu),.xk 137 []],[.bool],fun x=>xF x.1 (fun z0=>vG z0)⟩:=qK t40 rn hN Tryz.func136 [] zl
def t41:=t40.d za2
theorem zdM:zB Pz 88 ⟨[.ty zG],[.bool],fun x=>lh x⟩:=qK t41 (rz [1]) hN Tryz.func88 [] zl
def t42:=t41.d zdM
def zfc:Hints:=Hz [] [(0,1,.flat [Mb 6])] []
theorem z9M:zB Pz 139 ⟨[.ty i64,.ty i64,.ty i64],[.bool],fun x=>b8 x.1 x.2.1 x.2.2⟩:=qK t42 rn zfc Tryz.func139 [] zl
def t43:=t42.d z9M
def TV:zE:=Lz [] [Mr 1 zG,Mm 7 (.sl q8),Mi 8] ⟨[Mi 3,Mi 9],[],[]⟩ [⟨.exit 0,⟨[],[],[]⟩⟩,⟨.ret,⟨[Mb 2],[],[]⟩⟩] fun p s=>ji p.1 p.2.1 p.2.2 s
def h89:Hints:=Hz [(0,TV)] [(0,5,.ways [⟨.normal,⟨[Mb 36,.v (.zW q8)],[],[.var (.zW q8)]⟩⟩])] []
theorem z7q:LO Tryz.f89 TV 0:=lk t43 (rz [1]) h89 [] zl
theorem zdr:zB Pz 89 ⟨[.ty zG],[.bool],fun x=>eR x⟩:=qK t43 (rz [1]) h89 Tryz.func89 [0] (zK rfl z7q zl)
def t44:=t43.d zdr
theorem zb3:zB Pz 140 ⟨[],[(.sl .str)],fun _=>uI⟩:=qK t44 rn hN Tryz.func140 [] zl
def t45:=t44.d zb3
def zez:Hints:=Hz [] [(3,2,.flat [Mb 4])] []
theorem zbJ:zB Pz 209 ⟨[.ty i64],[i64],fun x=>tb x⟩:=qK t45 rn zez Tryz.func209 [] zl
def t46:=t45.d zbJ
def LZ:zE:=Lz [] [Mm 1 (.sl u32),Mi 6,Mm 7 u32,Mm 21 (.sl u32),Mi 22,Mi 23,Mm 28 (.sl u32),Mi 29] ⟨[Mm 8 (.int .u64),Mi 30,.a u32],[(5,.cur 0 u32)],[.arr u32]⟩ [⟨.exit 2,⟨[Mm 8 (.int .u64),.a u32],[(5,.cur 0 u32)],[.arr u32]⟩⟩] fun p s=>nt p.1 p.2.1 p.2.2.1 p.2.2.2.1 p.2.2.2.2.1 p.2.2.2.2.2.1 p.2.2.2.2.2.2.1 p.2.2.2.2.2.2.2 s
def M1:zE:=Lz [] [Mm 1 (.sl u32),Mm 21 (.sl u32),Mi 22] ⟨[Mi 23,.a u32],[(5,.cur 0 u32)],[.arr u32]⟩ [⟨.exit 0,⟨[.a u32],[(5,.cur 0 u32)],[.arr u32]⟩⟩] fun p s=>nH p.1 p.2.1 p.2.2 s
def z5n:Hints:=Hz [(2,LZ),(0,M1)] [] [(16,[5])]
theorem z36:LO Tryz.f163 LZ 2:=lk t46 rn z5n [] zl
theorem z1q:LO Tryz.f163 M1 0:=lk t46 rn z5n [2] (zK rfl z36 zl)
theorem z8g:zB Pz 163 ⟨[.ty (.sl u32),.ty (.sl u32)],[(.sl u32)],fun x=>bn x.1 x.2⟩:=qK t46 rn z5n Tryz.func163 [0] (zK rfl z1q zl)
def t47:=t46.d z8g
def Ib:zE:=Lz [] [Mi 5] ⟨[Mm 3 (.sl u32),Mi 6],[],[]⟩ [⟨.exit 0,⟨[Mm 3 (.sl u32)],[],[]⟩⟩] fun p s=>ft p s
def zaG:Hints:=Hz [(0,Ib)] [] []
theorem z1x:LO Tryz.f218 Ib 0:=lk t47 rn zaG [] zl
theorem z9E:zB Pz 218 ⟨[.ty i64],[(.sl u32)],fun x=>U7 x⟩:=qK t47 rn zaG Tryz.func218 [0] (zK rfl z1x zl)
def t48:=t47.d z9E
theorem z8z:zB Pz 183 ⟨[.ty zI],[.str],fun x=>sj x⟩:=qK t48 (rz [1]) hN Tryz.func183 [] zl
def t49:=t48.d z8z
def LS:zE:=Lz [] [] ⟨[.s 0 (.sub 0 (.int .u8)),Mi 2,Mi 3,.a (.int .u8)],[],[.arr (.int .u8)]⟩ [⟨.exit 0,⟨[.a (.int .u8)],[],[.arr (.int .u8)]⟩⟩] fun p s=>we  s
def zam:Hints:=Hz [(0,LS)] [] []
theorem z1t:LO Tryz.f204 LS 0:=lk t49 rn zam [] zl
theorem zao:vL Pz 204 ⟨[.sub],⟨[.s 0 (.sub 0 (.int .u8)),.a (.int .u8)],[],[.arr (.int .u8)]⟩,[],⟨[.a (.int .u8)],[],[.arr (.int .u8)]⟩,0,fun x=>wH x.1 x.2⟩:=On t49 rn zam Tryz.func204 [0] (zK rfl z1t zl)
def t50:=t49.s zao
def Lh:zE:=Lz [] [Mm 4 (.sl u32)] ⟨[Mm 5 u32,Mi 19,.a (.int .u8)],[(3,.cur 0 (.int .u8))],[.arr (.int .u8)]⟩ [⟨.exit 2,⟨[.a (.int .u8)],[(3,.cur 0 (.int .u8))],[.arr (.int .u8)]⟩⟩] fun p s=>br p s
def Ii:zE:=Lz [.slot 3 (.int .u8)] [] ⟨[Mm 0 (.sl u32),.a (.int .u8)],[(3,.cur 0 (.int .u8))],[.arr (.int .u8)]⟩ [⟨.exit 0,⟨[.a (.int .u8)],[(3,.cur 0 (.int .u8))],[.arr (.int .u8)]⟩⟩] fun p s=>bj  s
def Lr:zE:=Lz [] [] ⟨[.s 3 (.sub 0 (.int .u8)),.a (.int .u8)],[],[.arr (.int .u8)]⟩ [⟨.exit 4,⟨[.s 3 (.sub 0 (.int .u8)),.a (.int .u8)],[],[.arr (.int .u8)]⟩⟩] fun p s=>bN  s
def z1w:Hints:=Hz [(2,Lh),(0,Ii),(4,Lr)] [(0,13,.flat [Mb 42])] []
theorem z2t:LO Tryz.f184 Lh 2:=lk t50 rn z1w [] zl
theorem z1C:LO Tryz.f184 Ii 0:=lk t50 rn z1w [2] (zK rfl z2t zl)
theorem z2D:LO Tryz.f184 Lr 4:=lk t50 rn z1w [] zl
theorem zbM:zB Pz 184 ⟨[.ty (.sl u32)],[.str],fun x=>fb x⟩:=qK t50 rn z1w Tryz.func184 [0,4] (zK rfl z1C (zK rfl z2D zl))
def t51:=t50.d zbM
theorem zbN:zB Tryz.prog 224 ⟨[.ty .str,.ty i64],[.str],fun x=>strings_Repeat x.1 x.2⟩:=by
 refine lj Tryz.func224 (by kernel_rfl) rfl fun κ x qi y hy hI ha => ?_
 obtain⟨s,n⟩:=x
 obtain⟨⟨h0,h1,h2⟩,hy⟩:=hy
 cases hy
 obtain⟨v0,r,rfl,ha0,ha⟩:=xv.cons_inv (show xv κ [.zW .str s,.zW i64 n] qi from ha)
 obtain⟨v1,r,rfl,ha1,ha⟩:=ha.cons_inv
 rw[ha.qG,ha0.lH,ha1.eV]
 obtain⟨m,rfl⟩:=Int.eq_ofNat_of_zero_le h0
 refine(Go.Proofs.Tryz.strings_Repeat ⟨s.toArray⟩ m κ.w (by simp only at h1; omega) (by rw[show(ByteArray.size ⟨s.toArray⟩)=List.length s from List.size_toArray]; simpa using h2)).mono ?_
 rintro e w' ⟨rfl,hB⟩
 refine⟨hB,fun _=>⟨_,rfl,?_⟩⟩
 have e1:Lib.repeatL s m=jL s m:=Ma s m
 have e2:(Int.toNat (m:Int))=m:=by omega
 show RD _ (.zW .str (jL s (Int.toNat (m:Int)))) _
 rw[e2,← e1]
 exact RD.str
def t52:=t51.d zbN
theorem z8i:zB Pz 219 ⟨[.ty .str,.ty i64],[.str],fun x=>lD x.1 x.2⟩:=qK t52 rn hN Tryz.func219 [] zl
def t53:=t52.d z8i
def Le:zE:=Lz [] [] ⟨[Mi 10,.v (.zW zI)],[(1,.ptr 0 0)],[.var (.zW zI)]⟩ [⟨.exit 0,⟨[.v (.zW zI)],[],[.var (.zW zI)]⟩⟩,⟨.ret,⟨[Ms 2,Mb 3,.v (.zW zI)],[],[.var (.zW zI)]⟩⟩] fun p s=>kZ  s
def zbW:Hints:=Hz [(0,Le)] [] []
theorem z0Q:LO Tryz.f214 Le 0:=lk t53 rn zbW [] zl
theorem zaj:zB Pz 214 ⟨[.ty zI],[.str,.bool],fun x=>mO x⟩:=qK t53 rn zbW Tryz.func214 [0] (zK rfl z0Q zl)
def t54:=t53.d zaj
def zed:Hints:=Hz [] [(0,1,.ways [⟨.normal,⟨[Mb 15],[],[]⟩⟩])] []
theorem zaI:zB Pz 210 ⟨[.ty zI],[.bool],fun x=>og x⟩:=qK t54 (rz [1]) zed Tryz.func210 [] zl
def t55:=t54.d zaI
theorem zb6:zB Pz 211 ⟨[.ty zI],[.bool],fun x=>dA x⟩:=qK t55 (rz [1]) hN Tryz.func211 [] zl
def t56:=t55.d zb6
theorem z9y:zB Pz 193 ⟨[.ty .expr],[.bool],fun x=>gn x⟩:=qK t56 (rz [1]) hN Tryz.func193 [] zl
def t57:=t56.d z9y
abbrev Y0:=mm.den ⟨[Mm 0 .expr,Mi 1,.v (.zW i64)],[(2,.ptr 0 0)],[.var (.zW i64)]⟩→T (mm.den ⟨[Mb 0,.v (.zW i64)],[],[.var (.zW i64)]⟩)
abbrev NX(F:Y0):=vL Pz 160 ⟨[.any,.any,.ptr],⟨[Mm 0 .expr,Mi 1,.v (.zW i64)],[(2,.ptr 0 0)],[.var (.zW i64)]⟩,[],⟨[Mb 0,.v (.zW i64)],[],[.var (.zW i64)]⟩,1,F⟩
theorem zb4(vA:Y0)(lI:NX vA):vL Pz 194 ⟨[.any,.any,.ptr],⟨[Mm 0 .expr,Mr 1 i64,.v (.zW i64)],[(2,.ptr 0 0)],[.cvar (.ptr 1 0),.var (.zW i64)]⟩,[],⟨[Mb 0,.v (.zW i64)],[],[.cvar (.ptr 1 0),.var (.zW i64)]⟩,1,fun x=>jr (fun y0 y1 y2=>vA (y0,y1,y2)) x.1 x.2.1 x.2.2⟩:=On (t57.s lI) (rz [3]) hN Tryz.func194 [] zl
def z8w(vA:Y0)(lI:NX vA):Tb:=t57.s (zb4 _ lI)
def Iz(vA:Y0):zE:=Lz [] [Mm 0 (.sl .expr),Mi 7] ⟨[.s 1 (.mclo 194 [.rp i64,.pt 0]),Mi 8,.v (.zW i64)],[],[.cvar (.ptr 1 0),.var (.zW i64)]⟩ [⟨.exit 0,⟨[.v (.zW i64)],[],[.cvar (.ptr 1 0),.var (.zW i64)]⟩⟩,⟨.ret,⟨[Mi 4,.v (.zW i64)],[],[.cvar (.ptr 1 0),.var (.zW i64)]⟩⟩] fun p s=>zQ (fun y0 y1 y2=>vA (y0,y1,y2)) p.1 p.2 s
def z8b(vA:Y0):Hints:=Hz [(0,Iz vA)] [] []
theorem z2m(vA:Y0)(lI:NX vA):LO Tryz.f156 (Iz vA) 0:=lk (z8w vA lI) rn (z8b vA) [] zl
theorem zaC(vA:Y0)(lI:NX vA):vL Pz 156 ⟨[.any,.xk 194],⟨[Mm 0 (.sl .expr),.s 1 (.mclo 194 [.rp i64,.pt 0]),.v (.zW i64)],[],[.cvar (.ptr 1 0),.var (.zW i64)]⟩,[],⟨[Mi 0,.v (.zW i64)],[],[.cvar (.ptr 1 0),.var (.zW i64)]⟩,1,fun x=>qU (fun y0 y1 y2=>vA (y0,y1,y2)) x.1 x.2.1 x.2.2⟩:=On (z8w vA lI) rn (z8b vA) Tryz.func156 [0] (zK rfl (z2m vA lI) zl)
theorem zaJ(vA:Y0)(lI:NX vA):vL Pz 103 ⟨[.any,.xk 194],⟨[Mm 0 (.sl .expr),.s 1 (.mclo 194 [.rp i64,.pt 0]),.v (.zW i64)],[],[.cvar (.ptr 1 0),.var (.zW i64)]⟩,[],⟨[Mb 0,.v (.zW i64)],[],[.cvar (.ptr 1 0),.var (.zW i64)]⟩,1,fun x=>qj (fun y0 y1 y2=>vA (y0,y1,y2)) x.1 x.2.1 x.2.2⟩:=On (t57.s (zaC _ lI)) rn hN Tryz.func103 [] zl
def zew(vA:Y0):Hints:=Hz [] [(0,2,.ways [⟨.normal,⟨[Mb 24,.v (.zW i64)],[],[.var (.zW i64),.cvar (.ptr 0 0)]⟩⟩])] []
theorem z2i(vA:Y0)(lI:NX vA):vL Pz 160 ⟨[.any,.any,.ptr],⟨[Mm 0 .expr,Mi 1,.v (.zW i64)],[(2,.ptr 0 0)],[.var (.zW i64)]⟩,[],⟨[Mb 0,.v (.zW i64)],[],[.var (.zW i64)]⟩,1,fun x=>gR (fun y0 y1 y2=>vA (y0,y1,y2)) x.1 x.2.1 x.2.2⟩:=On (t57.s (zaJ _ lI)) (rz [3,4]) (zew vA) Tryz.func160 [] zl
theorem zag:vL Pz 160 ⟨[.any,.any,.ptr],⟨[Mm 0 .expr,Mi 1,.v (.zW i64)],[(2,.ptr 0 0)],[.var (.zW i64)]⟩,[],⟨[Mb 0,.v (.zW i64)],[],[.var (.zW i64)]⟩,1,fun x=>jV x.1 x.2.1 x.2.2⟩:=IB (fun vA x=>gR (fun y0 y1 y2=>vA (y0,y1,y2)) x.1 x.2.1 x.2.2) (fun x=>rfl) (fun vA lI=>z2i vA lI)
def t58:=t57.s zag
theorem zch:zB Pz 109 ⟨[.ty .expr],[.bool],fun x=>uA x⟩:=qK t58 (rz [1]) hN Tryz.func109 [] zl
def t59:=t58.d zch
theorem z9C:zB Pz 143 ⟨[],[(.sl .str)],fun _=>vY⟩:=qK t59 rn hN Tryz.func143 [] zl
def t60:=t59.d z9C
theorem zcq:zB Pz 142 ⟨[.ty zn],[.bool],fun x=>wy x⟩:=qK t60 (rz [1]) hN Tryz.func142 [] zl
def t61:=t60.d zcq
def LW:zE:=Lz [] [Mm 0 (.sl zn),.s 1 (.xk 142 []),Mi 7] ⟨[Mi 8],[],[]⟩ [⟨.exit 0,⟨[],[],[]⟩⟩,⟨.ret,⟨[Mi 4],[],[]⟩⟩] fun p s=>xC p.1 (fun z0=>wy z0) p.2.2 s
def zac:Hints:=Hz [(0,LW)] [] []
theorem z0I:LO Tryz.f181 LW 0:=lk t61 rn zac [] zl
theorem z9b:zB Pz 181 ⟨[.ty (.sl zn),.xk 142 []],[i64],fun x=>wN x.1 (fun z0=>wy z0)⟩:=qK t61 rn zac Tryz.func181 [0] (zK rfl z0I zl)
def t62:=t61.d z9b
theorem z8W:zB Pz 141 ⟨[.ty (.sl zn),.xk 142 []],[.bool],fun x=>xy x.1 (fun z0=>wy z0)⟩:=qK t62 rn hN Tryz.func141 [] zl
def t63:=t62.d z8W
def RY:zE:=Lz [] [Mr 1 zG,Mm 7 (.sl zm),Mi 8] ⟨[Mi 3,Mi 9],[],[]⟩ [⟨.exit 0,⟨[],[],[]⟩⟩,⟨.ret,⟨[Mb 2],[],[]⟩⟩] fun p s=>jd p.1 p.2.1 p.2.2 s
def h90:Hints:=Hz [(0,RY)] [(0,5,.ways [⟨.normal,⟨[Mb 50,.v (.zW zm)],[],[.var (.zW zm)]⟩⟩])] []
theorem z6y:LO Tryz.f90 RY 0:=lk t63 (rz [1]) h90 [] zl
theorem zfU:zB Pz 90 ⟨[.ty zG],[.bool],fun x=>eW x⟩:=qK t63 (rz [1]) h90 Tryz.func90 [0] (zK rfl z6y zl)
def t64:=t63.d zfU
end Go.AM.Lf
namespace Go.Proofs
section
open Go.RowKit
attribute [local go_sem] Oper.semAt_some
set_option maxRecDepth 100000
set_option maxHeartbeats 2000000
theorem ry.size:(Tryz.prog.info? 167).map (·.size)=some 2:=by kernel_rfl
theorem ry.pt:Tryz.prog.underlying 164=some (.pointer 167):=by kernel_rfl
theorem ry.up:Tryz.prog.underlying 213=some .unsafePointer:=by kernel_rfl
theorem ry.used(b:Nat)(w:World)(h0:w.cell? ⟨b,0,none⟩=some (.pointer (some ⟨b,0,none⟩))) :
  Calls Tryz.prog 182 #[.pointer (some ⟨b,0,none⟩)] w fun e w'=>e=.returned (.tuple #[])∧w'=w:=by
 obtain⟨j,hj,hjs⟩:=Option.map_eq_some_iff.1 ry.size
 go_enter Tryz.func182,Tryz.ntmps182
 go_wp2
 rw[Lib.run_neq_ptr_same w _ ry.pt hj]
 go_wp2
 go_end0
 exact⟨rfl,rfl⟩
theorem ry.fresh(b:Nat)(w:World)(h0:w.cell? ⟨b,0,none⟩=some (.pointer none))(hsh:w.shape? b=some (167,2))(hfz:w.frozen? ⟨b,0,none⟩=false) :
  Calls Tryz.prog 182 #[.pointer (some ⟨b,0,none⟩)] w fun e w'=>e=.returned (.tuple #[])∧w'=w.setCell ⟨b,0,none⟩ (.pointer (some ⟨b,0,none⟩)):=by
 obtain⟨j,hj,hjs⟩:=Option.map_eq_some_iff.1 ry.size
 go_enter Tryz.func182,Tryz.ntmps182
 go_wp2
 rw[Lib.run_to_unsafe w ⟨b,0,none⟩ ry.pt ry.up hj (by rw[hjs]; decide) hsh (Nat.zero_lt_succ 1)]
 simp only[Result.andThen]
 rw[Oper.upon_value]
 go_wp2
 rw[run_callFunc_extern Tryz.func203 (by kernel_rfl) (by kernel_rfl) (by kernel_rfl) (e:=Extern.AbiNoEscape.same) (by kernel_rfl)]
 rw[Lib.run_noEscape]
 simp only[Result.andThen]
 rw[Oper.upon_value]
 go_wp2
 rw[Lib.run_from_unsafe w ⟨b,0,none⟩ ry.up ry.pt hj hsh (by kernel_rfl)]
 simp only[Result.andThen]
 rw[Oper.upon_value]
 go_wp2
 go_end0
 exact⟨rfl,rfl⟩
end
end Go.Proofs

namespace Go.AM.Lf
open Go.Proofs
theorem zaY:vL Tryz.prog 182 ⟨[.ptr],⟨[.v (.st [.op 0 167,.row 1 (.int .u8)]),.a (.int .u8)],[(0,.ptr 0 0)],[.var (.st [.op 0 167,.row 1 (.int .u8)]),.arr (.int .u8)]⟩,[],⟨[.v (.st [.op 0 167,.row 1 (.int .u8)]),.a (.int .u8)],[],[.var (.st [.op 0 167,.row 1 (.int .u8)]),.arr (.int .u8)]⟩,0,fun x=>lY x.1 x.2⟩:=HM (P:=Tryz.prog) (g:=182) (t:=167) (enters_of Tryz.func182 (by kernel_rfl) rfl) ry.used ry.fresh
def t65:=t64.s zaY
theorem zcF:vL Pz 144 ⟨[.ptr,.any],⟨[Ms 1,.v (.st [.op 0 167,.row 1 (.int .u8)]),.a (.int .u8)],[(0,.ptr 0 0)],[.var (.st [.op 0 167,.row 1 (.int .u8)]),.arr (.int .u8)]⟩,[.pcell 0 1 (.int .u8)],⟨[Mi 0,.v (.st [.op 0 167,.row 1 (.int .u8)]),.a (.int .u8)],[(1,.xX)],[.var (.st [.op 0 167,.row 1 (.int .u8)]),.arr (.int .u8)]⟩,2,fun x=>qk x.1 x.2.1 x.2.2⟩:=On t65 rn hN Tryz.func144 [] zl
def t66:=t65.s zcF
theorem zcG:zB Pz 145 ⟨[.ty zI],[.str],fun x=>mH x⟩:=qK t66 rn hN Tryz.func145 [] zl
def t67:=t66.d zcG
theorem z9T:zB Pz 147 ⟨[.ty .str],[.str],fun x=>fG x⟩:=qK t67 rn hN Tryz.func147 [] zl
def t68:=t67.d z9T
theorem zaR:zB Tryz.prog 205 ⟨[.ty i64],[.str],fun x=>strconv_Itoa x⟩:=by
 refine lj Tryz.func205 (by kernel_rfl) rfl fun κ n qi y hy hI ha => ?_
 obtain⟨⟨h0,h1⟩,hy⟩:=hy
 cases hy
 obtain⟨v0,r,rfl,ha0,ha⟩:=xv.cons_inv (show xv κ [.zW i64 n] qi from ha)
 rw[ha.qG,ha0.eV]
 refine(Go.Proofs.Tryz.strconv_Itoa n h0 h1 κ.w (gK hI)).mono ?_
 rintro e w' ⟨rfl,k,os,rfl⟩
 refine⟨DN _ _ _,fun _=>⟨_,rfl,?_⟩⟩
 have e1:Lib.itoa n=pC n:=T9 n
 show RD _ (.zW .str (pC n)) _
 rw[← e1]
 exact RD.str
def t69:=t68.d zaR
def zeM:Hints:=Hz [] [(3,2,.flat [Ms 3])] []
theorem zaX:zB Pz 185 ⟨[.ty q8],[.str],fun x=>iV x⟩:=qK t69 (rz [1]) zeM Tryz.func185 [] zl
def t70:=t69.d zaX
def zfN:Hints:=Hz [] [(3,2,.flat [Mb 5]),(3,5,.flat [Mb 8])] []
theorem zcJ:zB Pz 216 ⟨[.ty .expr],[i64],fun x=>cu x⟩:=qK t70 (rz [1]) zfN Tryz.func216 [] zl
def t71:=t70.d zcJ
abbrev z1K:=uN [.ty .expr]→T (UC [.str])
abbrev zbm(F:z1K):=zB Pz 206 ⟨[.ty .expr],[.str],F⟩
theorem z9s(sa:z1K)(CZ:zbm sa):zB Pz 215 ⟨[.ty .expr,.ty i64],[.str],fun x=>gI (fun y0=>sa (y0)) x.1 x.2⟩:=qK (t71.d CZ) (rz [2]) hN Tryz.func215 [] zl
def zg1(sa:z1K):Hints:=Hz [] [(3,2,.ways [⟨.normal,⟨[Ms 3],[],[]⟩⟩,⟨.ret,⟨[Ms 2],[],[]⟩⟩])] []
theorem z1f(sa:z1K)(CZ:zbm sa):zB Pz 206 ⟨[.ty .expr],[.str],fun x=>eK (fun y0=>sa (y0)) x⟩:=qK (t71.d (z9s _ CZ)) (rz [1]) (zg1 sa) Tryz.func206 [] zl
theorem z8P:zB Pz 206 ⟨[.ty .expr],[.str],fun x=>nF x⟩:=mb (fun sa x=>eK (fun y0=>sa (y0)) x) (fun x=>rfl) (fun sa CZ=>z1f sa CZ)
def t72:=t71.d z8P
theorem z8T:zB Pz 186 ⟨[.ty .expr],[.str],fun x=>cj x⟩:=qK t72 (rz [1]) hN Tryz.func186 [] zl
def t73:=t72.d z8T
theorem z8L:zB Pz 148 ⟨[.ty .expr,.ty .str,.ty .expr],[.str],fun x=>dG x.1 x.2.1 x.2.2⟩:=qK t73 (rz [3,5]) hN Tryz.func148 [] zl
def t74:=t73.d z8L
def Ll:zE:=Lz [] [Mi 2,Mr 4 zG,Mm 29 (.sl q8),Mi 30] ⟨[Mi 31,.v (.st [.op 0 167,.row 1 (.int .u8)]),.a (.int .u8)],[(0,.ptr 0 0)],[.var (.st [.op 0 167,.row 1 (.int .u8)]),.arr (.int .u8)]⟩ [⟨.exit 0,⟨[.v (.st [.op 0 167,.row 1 (.int .u8)]),.a (.int .u8)],[],[.var (.st [.op 0 167,.row 1 (.int .u8)]),.arr (.int .u8)]⟩⟩] fun p s=>j7 p.1 p.2.1 p.2.2.1 p.2.2.2 s
def L8:zE:=Lz [] [Mi 2,Mm 45 (.sl zm),Mi 46] ⟨[Mi 47,.v (.st [.op 0 167,.row 1 (.int .u8)]),.a (.int .u8)],[(0,.ptr 0 0)],[.var (.st [.op 0 167,.row 1 (.int .u8)]),.arr (.int .u8)]⟩ [⟨.exit 2,⟨[.v (.st [.op 0 167,.row 1 (.int .u8)]),.a (.int .u8)],[],[.var (.st [.op 0 167,.row 1 (.int .u8)]),.arr (.int .u8)]⟩⟩] fun p s=>jj p.1 p.2.1 p.2.2 s
def z4G:Hints:=Hz [(0,Ll),(2,L8)] [] []
theorem z2n:LO Tryz.f146 Ll 0:=lk t74 (rz [4]) z4G [] zl
theorem z2H:LO Tryz.f146 L8 2:=lk t74 (rz [4]) z4G [] zl
theorem z8c:vL Pz 146 ⟨[.ptr,.any,.any],⟨[Mm 1 zG,Mi 2,.v (.st [.op 0 167,.row 1 (.int .u8)]),.a (.int .u8)],[(0,.ptr 0 0)],[.var (.st [.op 0 167,.row 1 (.int .u8)]),.arr (.int .u8)]⟩,[.pcell 0 1 (.int .u8)],⟨[.v (.st [.op 0 167,.row 1 (.int .u8)]),.a (.int .u8)],[],[.var (.st [.op 0 167,.row 1 (.int .u8)]),.arr (.int .u8)]⟩,0,fun x=>eJ x.1 x.2.1 x.2.2.1 x.2.2.2⟩:=On t74 (rz [4]) z4G Tryz.func146 [0,2] (zK rfl z2n (zK rfl z2H zl))
def t75:=t74.s z8c
end Go.AM.Lf
namespace Go.Proofs
section
open Go.RowKit
attribute [local go_sem] Oper.semAt_some
set_option maxRecDepth 100000
set_option maxHeartbeats 2000000
theorem ry.mixed:Tryz.prog.follows .mixedOrders=true:=by kernel_rfl
theorem ry.pb:Tryz.prog.underlying 202=some (.pointer 5):=by kernel_rfl
theorem ry.c5:Tryz.prog.cellsOf 5=1:=by kernel_rfl
theorem ry.Rp(W:World)(q:Option Addr):(Builtin.unsafeString_ #[202,3] 9 #[.pointer q,.int .i64 0]).run Tryz.prog W=.ok (.string .empty) W:=Lib.run_unsafeString_none W _ _ _ q
theorem ry.nil(b:Nat)(p:Value)(w:World)(DH:w.heap[b]? = some (.cells #[p,.slice none 0 0] 167 (0,0))) :
  Calls Tryz.prog 149 #[.pointer (some ⟨b,0,none⟩)] w fun e w'=>e=.returned (.string ⟨#[]⟩)∧w'=w.drew:=by
 have hUS:=ry.Rp
 have c1:w.drew.cell? ⟨b,1,none⟩=some (.slice none 0 0):=by
  have:w.drew.heap[b]? = some (.cells #[p,.slice none 0 0] 167 (0,0)):=DH
  rw[Lib.cell_of_heap this]; rfl
 have hSD:(Builtin.unsafeSliceData_ #[165] 202 #[.slice none 0 0]).run Tryz.prog w.drew=.ok (.pointer none) w.drew:=rfl
 have mixed:Tryz.prog.follows .mixedOrders=true:=ry.mixed
 go_enter Tryz.func149,Tryz.ntmps149
 go_wp2
 go_region_o
 all_goals (go_wp2; go_ret; exact⟨rfl,rfl⟩)
theorem ry.room(b g o cap:Nat)(p:Value)(w:World)(hc0:cap≠0)(DH:w.heap[b]? = some (.cells #[p,.slice (some ⟨g,o,none⟩) 0 cap] 167 (0,0))) :
  Calls Tryz.prog 149 #[.pointer (some ⟨b,0,none⟩)] w fun e w'=>e=.returned (.string ⟨#[]⟩)∧w'=w.drew:=by
 have hUS:=ry.Rp
 have c1:w.drew.cell? ⟨b,1,none⟩=some (.slice (some ⟨g,o,none⟩) 0 cap):=by
  have:w.drew.heap[b]? = some (.cells #[p,.slice (some ⟨g,o,none⟩) 0 cap] 167 (0,0)):=DH
  rw[Lib.cell_of_heap this]; rfl
 have hSD:(Builtin.unsafeSliceData_ #[165] 202 #[.slice (some ⟨g,o,none⟩) 0 cap]).run Tryz.prog w.drew=.ok (.pointer (some ⟨g,o,none⟩)) w.drew :=
  Lib.run_unsafeSliceData_row _ _ _ _ _ _ hc0
 clear hc0
 have mixed:Tryz.prog.follows .mixedOrders=true:=ry.mixed
 go_enter Tryz.func149,Tryz.ntmps149
 go_wp2
 go_region_o
 all_goals (go_wp2; go_ret; exact⟨rfl,rfl⟩)
theorem ry.full(b g cap:Nat)(p:Value)(cur:Array Value)(l:List UInt8)(w:World)(h0:l≠[])(wD:l.length≤cap)(PQ:l.length≤140737488355328)(DH:w.heap[b]? = some (.cells #[p,.slice (some ⟨g,0,none⟩) l.length cap] 167 (0,0)))
  (hg:w.heap[g]? = some (.cells cur 5 (0,0))) (z4V:l.length≤cur.size) (bX:∀ j x,l[j]? = some x→w.cell? ⟨g,j,none⟩=some (.int .u8 x.toNat)) :
  Calls Tryz.prog 149 #[.pointer (some ⟨b,0,none⟩)] w fun e w'=>e=.returned (.string ⟨l.toArray⟩)∧w'=w.drew.freeze ⟨g,0,none⟩ l.length:=by
 have hl0:l.length≠0:=by simpa using h0
 have c1:w.drew.cell? ⟨b,1,none⟩=some (.slice (some ⟨g,0,none⟩) l.length cap):=by
  have:w.drew.heap[b]? = some (.cells #[p,.slice (some ⟨g,0,none⟩) l.length cap] 167 (0,0)):=DH
  rw[Lib.cell_of_heap this]; rfl
 have hSD:(Builtin.unsafeSliceData_ #[165] 202 #[.slice (some ⟨g,0,none⟩) l.length cap]).run Tryz.prog w.drew=.ok (.pointer (some ⟨g,0,none⟩)) w.drew :=
  Lib.run_unsafeSliceData_row _ _ _ _ _ _ (by omega)
 have hUS:(Builtin.unsafeString_ #[202,3] 9 #[.pointer (some ⟨g,0,none⟩),.int .i64 l.length]).run Tryz.prog w.drew=.ok (.string ⟨l.toArray⟩) (w.drew.freeze ⟨g,0,none⟩ l.length):=by
  refine Lib.run_unsafeString_row w.drew 202 3 9 5 ry.pb ry.c5 g cur.size (by have hg':w.drew.heap[g]? = some (.cells cur 5 (0,0)):=hg; simp[World.shape?,hg']) l h0 (by omega) (by omega) ?_
  intro j x hx
  have e:(⟨g,0,none⟩:Addr).add j=⟨g,j,none⟩:=by unfold Addr.add; split<;>simp_all
  rw[e]
  exact bX j x hx
 have mixed:Tryz.prog.follows .mixedOrders=true:=ry.mixed
 go_enter Tryz.func149,Tryz.ntmps149
 go_wp2
 go_region_o
 all_goals (go_wp2; go_ret; exact⟨rfl,rfl⟩)
theorem ry.z78(b g o:Nat)(p:Value)(cur:Array Value)(w:World)(DH:w.heap[b]? = some (.cells #[p,.slice (some ⟨g,o,none⟩) 0 0] 167 (0,0)))(hg:w.heap[g]? = some (.cells cur 5 (0,0))) :
  Calls Tryz.prog 149 #[.pointer (some ⟨b,0,none⟩)] w fun e w'=>e=.returned (.string ⟨#[]⟩)∧w'=w.drew.alloc (.view ⟨g,o,none⟩ 5):=by
 have hUS:=ry.Rp
 have qp:b<w.heap.size:=by
  rcases Nat.lt_or_ge b w.heap.size with h' | h'
  ·exact h'
  ·simp[Array.getElem?_eq_none h']at DH
 have c1:w.drew.cell? ⟨b,1,none⟩=some (.slice (some ⟨g,o,none⟩) 0 0):=by
  have:w.drew.heap[b]? = some (.cells #[p,.slice (some ⟨g,o,none⟩) 0 0] 167 (0,0)):=DH
  rw[Lib.cell_of_heap this]; rfl
 have hSD:(Builtin.unsafeSliceData_ #[165] 202 #[.slice (some ⟨g,o,none⟩) 0 0]).run Tryz.prog w.drew=.ok (.pointer (some ⟨w.drew.heap.size,0,none⟩)) (w.drew.alloc (.view ⟨g,o,none⟩ 5)) :=
  Lib.run_unsafeSliceData_zero w.drew _ _ 5 ry.pb ⟨g,o,none⟩ 0 (5,cur.size) (by have hg':w.drew.heap[g]? = some (.cells cur 5 (0,0)):=hg; simp[World.shape?,hg'])
 have c2:(w.drew.alloc (.view ⟨g,o,none⟩ 5)).cell? ⟨b,1,none⟩=some (.slice (some ⟨g,o,none⟩) 0 0):=by
  have:(w.drew.alloc (.view ⟨g,o,none⟩ 5)).heap[b]? = _:=(Lib.alloc_old w.drew _ b qp).trans DH
  rw[Lib.cell_of_heap this]; rfl
 have c3:(w.alloc (.view ⟨g,o,none⟩ 5)).drew.cell? ⟨b,1,none⟩=some (.slice (some ⟨g,o,none⟩) 0 0):=c2
 have c0:w.cell? ⟨b,1,none⟩=some (.slice (some ⟨g,o,none⟩) 0 0):=c1
 have mixed:Tryz.prog.follows .mixedOrders=true:=ry.mixed
 go_enter Tryz.func149,Tryz.ntmps149
 go_wp2
 go_region_o
 all_goals (go_wp2; go_ret; exact⟨rfl,rfl⟩)
end
end Go.Proofs

namespace Go.AM.Lf
open Go.Proofs
theorem zaF:vL Tryz.prog 149 ⟨[.ptr],⟨[.v (.st [.op 0 167,.row 1 (.int .u8)]),.a (.int .u8)],[(0,.ptr 0 0)],[.var (.st [.op 0 167,.row 1 (.int .u8)]),.arr (.int .u8)]⟩,[],⟨[Ms 0,.v (.st [.op 0 167,.un])],[],[.var (.st [.op 0 167,.un]),.dead]⟩,1,fun x=>ox x.1 x.2⟩:=Oa (P:=Tryz.prog) (g:=149) (t:=167) (enters_of Tryz.func149 (by kernel_rfl) rfl) ry.nil ry.room ry.full ry.z78
def t76:=t75.s zaF
def Tp:zE:=Lz [.cell 0 1 (.int .u8)] [Mr 1 zG,Mm 13 (.sl zV),Mi 14] ⟨[Mi 15,.v (.st [.op 0 167,.row 1 (.int .u8)]),.a (.int .u8)],[(3,.ptr 0 0)],[.var (.st [.op 0 167,.row 1 (.int .u8)]),.arr (.int .u8)]⟩ [⟨.exit 0,⟨[.v (.st [.op 0 167,.row 1 (.int .u8)]),.a (.int .u8)],[],[.var (.st [.op 0 167,.row 1 (.int .u8)]),.arr (.int .u8)]⟩⟩] fun p s=>jZ p.1 p.2.1 p.2.2 s
def Sn:zE:=Lz [] [Mr 1 zG,Mm 29 (.sl zX),Mi 30] ⟨[Mi 31,.v (.st [.op 0 167,.row 1 (.int .u8)]),.a (.int .u8)],[(3,.ptr 0 0)],[.var (.st [.op 0 167,.row 1 (.int .u8)]),.arr (.int .u8)]⟩ [⟨.exit 2,⟨[.v (.st [.op 0 167,.row 1 (.int .u8)]),.a (.int .u8)],[],[.var (.st [.op 0 167,.row 1 (.int .u8)]),.arr (.int .u8)]⟩⟩] fun p s=>kI p.1 p.2.1 p.2.2 s
def Pd:zE:=Lz [] [Mr 1 zG,Mi 48] ⟨[Mi 49,.v (.st [.op 0 167,.row 1 (.int .u8)]),.a (.int .u8)],[(3,.ptr 0 0)],[.var (.st [.op 0 167,.row 1 (.int .u8)]),.arr (.int .u8)]⟩ [⟨.exit 4,⟨[.v (.st [.op 0 167,.row 1 (.int .u8)]),.a (.int .u8)],[],[.var (.st [.op 0 167,.row 1 (.int .u8)]),.arr (.int .u8)]⟩⟩] fun p s=>kg p.1 p.2 s
def OR:zE:=Lz [] [Mm 57 (.sl zn),Mi 58] ⟨[Mi 59,.v (.st [.op 0 167,.row 1 (.int .u8)]),.a (.int .u8)],[(3,.ptr 0 0)],[.var (.st [.op 0 167,.row 1 (.int .u8)]),.arr (.int .u8)]⟩ [⟨.exit 6,⟨[.v (.st [.op 0 167,.row 1 (.int .u8)]),.a (.int .u8)],[],[.var (.st [.op 0 167,.row 1 (.int .u8)]),.arr (.int .u8)]⟩⟩] fun p s=>jN p.1 p.2 s
def h91:Hints:=Hz [(0,Tp),(2,Sn),(4,Pd),(6,OR)] [(3,6,.flat [Ms 6])] []
theorem z5k:LO Tryz.f91 Tp 0:=lk t76 (rz [1]) h91 [] zl
theorem z5L:LO Tryz.f91 Sn 2:=lk t76 (rz [1]) h91 [] zl
theorem z5v:LO Tryz.f91 Pd 4:=lk t76 (rz [1]) h91 [] zl
theorem z6J:LO Tryz.f91 OR 6:=lk t76 (rz [1]) h91 [] zl
theorem zeq:zB Pz 91 ⟨[.ty zG],[.str],fun x=>lJ x⟩:=qK t76 (rz [1]) h91 Tryz.func91 [0,2,4,6] (zK rfl z5k (zK rfl z5L (zK rfl z5v (zK rfl z6J zl))))
def t77:=t76.d zeq
theorem zdT:zB Pz 42 ⟨[.ty zG],[.bool],fun x=>QO x⟩:=qK t77 (rz [1]) hN Tryz.func42 [] zl
def t78:=t77.d zdT
def Rd:zE:=Lz [.slot 3 .str] [Mr 1 zG,Mm 17 (.sl zV),Mi 18] ⟨[Mi 19,.a .str],[(3,.cur 0 .str)],[.arr .str]⟩ [⟨.exit 0,⟨[.a .str],[(3,.cur 0 .str)],[.arr .str]⟩⟩] fun p s=>jS p.1 p.2.1 p.2.2 s
def Re:zE:=Lz [] [Mr 1 zG,Mm 30 (.sl zX),Mi 31] ⟨[Mi 32,.a .str],[(3,.cur 0 .str)],[.arr .str]⟩ [⟨.exit 2,⟨[.a .str],[(3,.cur 0 .str)],[.arr .str]⟩⟩] fun p s=>ko p.1 p.2.1 p.2.2 s
def Tn:zE:=Lz [] [Mr 1 zG,Mm 43 (.sl qu),Mi 44] ⟨[Mi 45,.a .str],[(3,.cur 0 .str)],[.arr .str]⟩ [⟨.exit 4,⟨[.a .str],[(3,.cur 0 .str)],[.arr .str]⟩⟩] fun p s=>jP p.1 p.2.1 p.2.2 s
def TG:zE:=Lz [] [Mr 1 zG,Mm 56 (.sl q8),Mi 57] ⟨[Mi 58,.a .str],[(3,.cur 0 .str)],[.arr .str]⟩ [⟨.exit 6,⟨[.a .str],[(3,.cur 0 .str)],[.arr .str]⟩⟩] fun p s=>ke p.1 p.2.1 p.2.2 s
def OE:zE:=Lz [] [Mr 1 zG,Mm 69 (.sl zn),Mi 70] ⟨[Mi 71,.a .str],[(3,.cur 0 .str)],[.arr .str]⟩ [⟨.exit 8,⟨[.a .str],[(3,.cur 0 .str)],[.arr .str]⟩⟩] fun p s=>jJ p.1 p.2.1 p.2.2 s
def L1:zE:=Lz [] [Mm 82 (.sl zm),Mi 83] ⟨[Mi 84,.a .str],[(3,.cur 0 .str)],[.arr .str]⟩ [⟨.exit 10,⟨[.a .str],[(3,.cur 0 .str)],[.arr .str]⟩⟩] fun p s=>kv p.1 p.2 s
def h44:Hints:=Hz [(0,Rd),(2,Re),(4,Tn),(6,TG),(8,OE),(10,L1)] [] []
theorem z73:LO Tryz.f44 Rd 0:=lk t78 (rz [1]) h44 [] zl
theorem z5V:LO Tryz.f44 Re 2:=lk t78 (rz [1]) h44 [] zl
theorem z7a:LO Tryz.f44 Tn 4:=lk t78 (rz [1]) h44 [] zl
theorem z4R:LO Tryz.f44 TG 6:=lk t78 (rz [1]) h44 [] zl
theorem z71:LO Tryz.f44 OE 8:=lk t78 (rz [1]) h44 [] zl
theorem z3g:LO Tryz.f44 L1 10:=lk t78 (rz [1]) h44 [] zl
theorem zgJ:zB Pz 44 ⟨[.ty zG],[(.sl .str)],fun x=>iU x⟩:=qK t78 (rz [1]) h44 Tryz.func44 [0,2,4,6,8,10] (zK rfl z73 (zK rfl z5V (zK rfl z7a (zK rfl z4R (zK rfl z71 (zK rfl z3g zl))))))
def t79:=t78.d zgJ
end Go.AM.Lf
namespace Go.Proofs
section
open Go.RowKit Go.Maps Go.WideMaps
attribute [local go_sem] Oper.semAt_some
set_option maxRecDepth 100000
set_option maxHeartbeats 2000000
/-- What a map reads as when texts,all different,came. -/
def TW.Seen(D:DataW Unit)(l:List (List UInt8)):Prop:=IsMap D∧∀ s:List UInt8,D.atKey (.string s) (.lit (.int .i64 0))=.lit (.int .i64 (if s∈l then 1 else 0))
theorem TW.za6:TW.Seen (.map []) []:=⟨⟨_,rfl⟩,fun s=>by simp only[List.not_mem_nil,if_false]; rfl⟩
theorem TW.step{D:DataW Unit}{l:List (List UInt8)}{s:List UInt8}(h:TW.Seen D l)(hk:WideAt.IsKeyLit (.string s)):TW.Seen (D.put (.string s) (.lit (.int .i64 1))) (l++[s]):=by
 refine⟨h.1.put _ _,fun x => ?_⟩
 by_cases c:x=s
 ·subst c
  rw[atKey_put_same h.1 hk,if_pos (by simp)]
 ·rw[atKey_put_other (fun e=>c (by cases e; rfl)),h.2 x]
  congr 3
  simp[c]
theorem TW.cOf{D:DataW Unit}{l:List (List UInt8)}{s:List UInt8}{c:Int}(h:TW.Seen D l)(hat:D.atKey (.string s) (.lit (.int .i64 0))=.lit (.int .i64 c)):c=if s∈l then 1 else 0:=by
 rw[h.2 s]at hat
 cases hat; rfl
theorem TW.key:Keyed Tryz.prog 9:=string_keyed Tryz.underlying9
theorem TW.I1(w:World):(zeroValue 3).run Tryz.prog w=.ok (.int .i64 0) w:=by kernel_rfl
theorem TW.zero(a:Option Addr)(cap:Nat)(w:World):Calls Tryz.prog 43 #[.slice a 0 cap] w fun e w'=>e=.returned (.tuple #[.string ⟨#[]⟩,.bool false])∧Below w.heap.size w w':=by
 have hmm := @run_makeMap Tryz.prog
 go_enter Tryz.func43,Tryz.ntmps43
 go_wp2
 refine wp_loop_rounds 1 ?_
 rw[rounds_succ]
 go_wp2
 go_ret2
 exact⟨rfl,(Below.refl _ _).alloc (Nat.le_refl _) _⟩
theorem TW.more(b off cap:Nat)(l:List (List UInt8))(w:World)(z6D:l.length*16≤140737488351232)(hb:b<w.heap.size)
  (hc:∀ j (hj:j<l.length),w.cell? ⟨b,off+j,none⟩=some (.string ⟨l[j].toArray⟩)) (jk:∀ s∈l,s.length≤maxLen) :
  Calls Tryz.prog 43 #[.slice (some ⟨b,off,none⟩) l.length cap] w fun e w'=>e=.returned (.tuple #[.string ⟨(Go.AM.Lf.tn [] l).1.toArray⟩,.bool (Go.AM.Lf.tn [] l).2])∧Below w.heap.size w w':=by
 have hmm := @run_makeMap Tryz.prog
 go_enter Tryz.func43,Tryz.ntmps43
 go_wp2
 go_loopw [10] (fun i wr=>∃ (k:Nat) (D:DataW Unit),k≤l.length∧i=.int .i64 k∧wr.ownsMap Tryz.prog 9 (plainElem Tryz.prog 3) w.heap.size k D∧TW.Seen D (l.take k)∧Go.AM.Lf.tn [] l=Go.AM.Lf.tn (l.take k) (l.drop k)∧Below w.heap.size w wr)
  (fun i _=>l.length-(intOf i).toNat)
 case atStart=>exact⟨0,.map [],Nat.zero_le _,rfl,World.ownsMap_made _ _ _ _,TW.za6,rfl,(Below.refl _ _).alloc (Nat.le_refl _) _⟩
 case round =>
  obtain⟨k,D,hk,rfl,z1b,Cr,htw,hnx⟩:=hrel
  obtain⟨s,hs⟩:∃ s:List UInt8,s=l.getD k []:=⟨_,rfl⟩
  have hse:∀ qp:k<l.length,s=l[k]:=fun qp=>by rw[hs]; simp[qp]
  have hcx:k<l.length→wr.cell? ⟨b,off+k,none⟩=some (.string ⟨s.toArray⟩):=fun qp=>by rw[hse qp]; exact(hnx.cell (by exact hb)).trans (hc k qp)
  have hlen:s.length≤maxLen:=by
   by_cases qp:k<l.length
   ·rw[hse qp]; exact jk _ (List.getElem_mem qp)
   ·rw[hs]; simp[qp]
  have FC:keyOf Tryz.prog 9 (.string ⟨s.toArray⟩)=some (.string s):=keyOf_string_mk Tryz.underlying9 (by exact hlen)
  have Ev:WideAt.IsKeyLit (.string s):=TW.key.key FC
  have DC:∀ qp:k<l.length,l.drop k=s::l.drop (k+1):=fun qp=>by rw[hse qp]; exact List.drop_eq_getElem_cons qp
  have Lp:∀ qp:k<l.length,l.take (k+1)=l.take k++[s]:=fun qp=>by rw[hse qp]; exact List.take_succ_eq_append_getElem qp
  clear hse hs
  by_cases Xd:s∈l.take k
  ·have z5h:∀ qp:k<l.length,Go.AM.Lf.tn [] l=(s,true):=fun qp=>by rw[htw,DC qp]; unfold Go.AM.Lf.tn; rw[if_pos Xd]
   go_wp2_with (first
    | (at_lookup; refine wpList_lookup_own_int _ rfl _ _ 137 rfl 9 3 .i64 TW.key Tryz.underlying137 Tryz.underlying3 (TW.I1 _) w.heap.size k _ rfl z1b _ _ rfl FC ?_; intro c hat hwc; obtain rfl:c=1:=by rw[TW.cOf Cr hat,if_pos Xd])
    | (at_mapUpdate; refine wpList_mapUpdate_own _ rfl _ _ _ 137 rfl 9 3 TW.key Tryz.underlying137 _ w.heap.size k _ rfl z1b (by unfold maxLen; omega) _ _ _ rfl rfl FC _ [] (plainElem_int (a:=2) Tryz.underlying3 rfl) ?_; intro w1 La Eo)
    | (at_lookup; refine wpList_lookup_own_int _ rfl _ _ 137 rfl 9 3 .i64 TW.key Tryz.underlying137 Tryz.underlying3 (TW.I1 _) w.heap.size (k+1) _ rfl La _ _ rfl FC ?_; intro c2 Rl zfw; obtain rfl:c2=2:=by rw[atKey_put_same Cr.1 Ev]at Rl; cases Rl; rfl)
    | go_in)
   ·have qp:k<l.length:=by assumption
    go_ret2
    rw[z5h qp]
    exact⟨rfl,hnx.grown Eo hnx.size (fun j hj=>by cases hj; exact Nat.le_refl _)⟩
   ·have:k=l.length:=by omega
    subst this
    rw[List.drop_length]at htw
    go_ret2
    rw[htw]
    exact⟨rfl,hnx⟩
  ·have hgo:∀ qp:k<l.length,Go.AM.Lf.tn [] l=Go.AM.Lf.tn (l.take (k+1)) (l.drop (k+1)):=fun qp=>by
    rw[htw,DC qp,Lp qp]
    conv=>lhs; unfold Go.AM.Lf.tn
    rw[if_neg Xd]
   go_wp2_with (first
    | (at_lookup; refine wpList_lookup_own_int _ rfl _ _ 137 rfl 9 3 .i64 TW.key Tryz.underlying137 Tryz.underlying3 (TW.I1 _) w.heap.size k _ rfl z1b _ _ rfl FC ?_; intro c hat hwc; obtain rfl:c=0:=by rw[TW.cOf Cr hat,if_neg Xd])
    | (at_mapUpdate; refine wpList_mapUpdate_own _ rfl _ _ _ 137 rfl 9 3 TW.key Tryz.underlying137 _ w.heap.size k _ rfl z1b (by unfold maxLen; omega) _ _ _ rfl rfl FC _ [] (plainElem_int (a:=1) Tryz.underlying3 rfl) ?_; intro w1 La Eo)
    | (at_lookup; refine wpList_lookup_own_int _ rfl _ _ 137 rfl 9 3 .i64 TW.key Tryz.underlying137 Tryz.underlying3 (TW.I1 _) w.heap.size (k+1) _ rfl La _ _ rfl FC ?_; intro c2 Rl zfw; obtain rfl:c2=1:=by rw[atKey_put_same Cr.1 Ev]at Rl; cases Rl; rfl)
    | go_in)
   ·have qp:k<l.length:=by assumption
    go_roundw
    case rel=>exact⟨k+1,_,by omega,by go_num,La,(Lp qp).symm▸TW.step Cr Ev,hgo qp,hnx.grown Eo hnx.size (fun j hj=>by cases hj; exact Nat.le_refl _)⟩
    case measure=>simp[intOf]; omega
   ·have:k=l.length:=by omega
    subst this
    rw[List.drop_length]at htw
    go_ret2
    rw[htw]
    exact⟨rfl,hnx⟩
end
end Go.Proofs
namespace Go.AM.Lf
open Go.Proofs
theorem zf5:zB Tryz.prog 43 ⟨[.ty (.sl .str)],[.str,.bool],fun x=>lO x⟩:=by
 refine lj Tryz.func43 (by kernel_rfl) rfl fun κ (l:List zf) qi y hy hI ha => ?_
 obtain⟨⟨h0,h1⟩,hy⟩:=hy
 cases hy
 obtain⟨v0,r,rfl,ha0,ha⟩:=xv.cons_inv (show xv κ [.zW (.sl .str) l] qi from ha)
 rw[ha.qG]
 have hv:=RD.wJ (κ:=κ) (τ:=.sl .str) (x:=l) ha0 rfl
 rcases hv.ny with⟨rfl,a,e⟩ | ⟨blk,off,cap,g,e,wg,wD,hg,hc⟩
 ·cases e
  refine(TW.zero a 0 κ.w).mono ?_
  rintro e w' ⟨rfl,hB⟩
  exact⟨hB,fun _=>⟨_,rfl,RD.zaq RD.str RD.bool⟩⟩
 ·cases e
  refine(TW.more blk off cap l κ.w h0 (hI.y5 blk wg) (fun j hj => ?_) h1).mono ?_
  ·have h3:=hc j hj 0 (.string ⟨l[j].toArray⟩) (by rw[(hg j hj).lH]; rfl)
   simpa[Ty.size]using h3
  ·rintro e w' ⟨rfl,hB⟩
   exact⟨hB,fun _=>⟨_,rfl,RD.zaq RD.str RD.bool⟩⟩
end Go.AM.Lf

namespace Go.AM.Lf
open Go.Proofs
def t80:=t79.d zf5
theorem zeC:zB Pz 95 ⟨[.ty zV,.rp .str],[.bool],fun x=>xW x.1 x.2⟩:=qK t80 (rz [2]) hN Tryz.func95 [] zl
def t81:=t80.d zeC
def CF:zE:=Lz [] [Mm 0 (.sl zV),.s 1 (.xk 95 [.rp .str]),Mi 7] ⟨[Mi 8],[],[]⟩ [⟨.exit 0,⟨[],[],[]⟩⟩,⟨.ret,⟨[Mi 4],[],[]⟩⟩] fun p s=>qf p.1 (fun z0=>xW z0 p.2.1) p.2.2 s
def z4b:Hints:=Hz [(0,CF)] [] []
theorem Sl:LO Tryz.f55 CF 0:=lk t81 rn z4b [] zl
theorem SO:zB Pz 55 ⟨[.ty (.sl zV),.xk 95 [.rp .str]],[i64],fun x=>ql x.1 (fun z0=>xW z0 x.2)⟩:=qK t81 rn z4b Tryz.func55 [0] (zK rfl Sl zl)
def t82:=t81.d SO
theorem S7:zB Pz 94 ⟨[.ty (.sl zV),.xk 95 [.rp .str]],[.bool],fun x=>qC x.1 (fun z0=>xW z0 x.2)⟩:=qK (t82.d SO) rn hN Tryz.func94 [] zl
def t83:=t82.d S7
theorem zfF:zB Pz 93 ⟨[.ty .str,.rp zG],[.bool],fun x=>wF x.1 x.2⟩:=qK (t83.d S7) (rz [2]) hN Tryz.func93 [] zl
def t84:=t83.d zfF
def Tg:zE:=Lz [] [Mm 0 (.sl .str),.s 1 (.xk 93 [.rp zG]),Mi 7] ⟨[Mi 8],[],[]⟩ [⟨.exit 0,⟨[],[],[]⟩⟩,⟨.ret,⟨[Mi 4],[],[]⟩⟩] fun p s=>qe p.1 (fun z0=>wF z0 p.2.1) p.2.2 s
def h92:Hints:=Hz [(0,Tg)] [] []
theorem z5l:LO Tryz.f92 Tg 0:=lk t84 rn h92 [] zl
theorem zef:zB Pz 92 ⟨[.ty (.sl .str),.xk 93 [.rp zG]],[i64],fun x=>qm x.1 (fun z0=>wF z0 x.2)⟩:=qK t84 rn h92 Tryz.func92 [0] (zK rfl z5l zl)
def t85:=t84.d zef
def PY:zE:=Lz [.slot 4 .str] [Mr 1 zG,Mm 11 (.sl qu),Mi 12] ⟨[Mi 13,.a .str],[(4,.cur 0 .str)],[.arr .str]⟩ [⟨.exit 0,⟨[.a .str],[(4,.cur 0 .str)],[.arr .str]⟩⟩] fun p s=>vw p.1 p.2.1 p.2.2 s
def SV:zE:=Lz [] [Mr 1 zG,Mm 24 (.sl zn),Mi 25] ⟨[Mi 26,.a .str],[(4,.cur 0 .str)],[.arr .str]⟩ [⟨.exit 2,⟨[.a .str],[(4,.cur 0 .str)],[.arr .str]⟩⟩] fun p s=>vu p.1 p.2.1 p.2.2 s
def h45:Hints:=Hz [(0,PY),(2,SV)] [] []
theorem z5z:LO Tryz.f45 PY 0:=lk t85 (rz [1]) h45 [] zl
theorem z4J:LO Tryz.f45 SV 2:=lk t85 (rz [1]) h45 [] zl
theorem zdu:zB Pz 45 ⟨[.ty zG],[.str,.bool],fun x=>ga x⟩:=qK t85 (rz [1]) h45 Tryz.func45 [0,2] (zK rfl z5z (zK rfl z4J zl))
def t86:=t85.d zdu
def Il:zE:=Lz [] [Mm 0 (.sl .str),Ms 1,Mi 7] ⟨[Mi 8],[],[]⟩ [⟨.exit 0,⟨[],[],[]⟩⟩,⟨.ret,⟨[Mi 4],[],[]⟩⟩] fun p s=>qs p.1 p.2.1 p.2.2 s
def zbz:Hints:=Hz [(0,Il)] [] []
theorem z1L:LO Tryz.f152 Il 0:=lk t86 rn zbz [] zl
theorem zax:zB Pz 152 ⟨[.ty (.sl .str),.ty .str],[i64],fun x=>qw x.1 x.2⟩:=qK t86 rn zbz Tryz.func152 [0] (zK rfl z1L zl)
def t87:=t86.d zax
theorem zgb:zB Pz 99 ⟨[.ty (.sl .str),.ty .str],[.bool],fun x=>qQ x.1 x.2⟩:=qK t87 rn hN Tryz.func99 [] zl
def t88:=t87.d zgb
abbrev NA:=mm.den ⟨[Mm 1 .expr,.a .str],[(0,.cur 0 .str)],[.arr .str]⟩→T (mm.den ⟨[.a .str],[(0,.cur 0 .str)],[.arr .str]⟩)
abbrev z4W(F:NA):=vL Pz 151 ⟨[.cur,.any],⟨[Mm 1 .expr,.a .str],[(0,.cur 0 .str)],[.arr .str]⟩,[],⟨[.a .str],[(0,.cur 0 .str)],[.arr .str]⟩,1,F⟩
def zbb(gw:NA)(Vi:z4W gw):Tb:=t88.s Vi
def Lc(gw:NA):zE:=Lz [] [Mm 23 (.sl .expr),Mi 24] ⟨[Mi 25,.a .str],[(0,.cur 0 .str)],[.arr .str]⟩ [⟨.exit 0,⟨[.a .str],[(0,.cur 0 .str)],[.arr .str]⟩⟩] fun p s=>yY (fun y0 y1=>gw (y0,y1)) p.1 p.2 s
def zcA(gw:NA):Hints:=Hz [(0,Lc gw)] [(0,1,.ways [⟨.normal,⟨[Mb 16,.a .str],[(0,.cur 0 .str)],[.arr .str]⟩⟩]),(3,1,.ways [⟨.normal,⟨[.a .str],[(0,.cur 0 .str)],[.arr .str]⟩⟩])] []
theorem z16(gw:NA)(Vi:z4W gw):LO Tryz.f151 (Lc gw) 0:=lk (zbb gw Vi) (rz [3]) (zcA gw) [] zl
theorem z2T(gw:NA)(Vi:z4W gw):vL Pz 151 ⟨[.cur,.any],⟨[Mm 1 .expr,.a .str],[(0,.cur 0 .str)],[.arr .str]⟩,[],⟨[.a .str],[(0,.cur 0 .str)],[.arr .str]⟩,1,fun x=>bz (fun y0 y1=>gw (y0,y1)) x.1 x.2⟩:=On (zbb gw Vi) (rz [3]) (zcA gw) Tryz.func151 [0] (zK rfl (z16 gw Vi) zl)
theorem z3D:vL Pz 151 ⟨[.cur,.any],⟨[Mm 1 .expr,.a .str],[(0,.cur 0 .str)],[.arr .str]⟩,[],⟨[.a .str],[(0,.cur 0 .str)],[.arr .str]⟩,1,fun x=>eS x.1 x.2⟩:=IB (fun gw x=>bz (fun y0 y1=>gw (y0,y1)) x.1 x.2) (fun x=>rfl) (fun gw Vi=>z2T gw Vi)
def t89:=t88.s z3D
def ON:Tb:=t89.s z3D
def G6:zE:=Lz [] [Mm 23 (.sl .expr),Mi 24] ⟨[Mi 25,.a .str],[(0,.cur 0 .str)],[.arr .str]⟩ [⟨.exit 0,⟨[.a .str],[(0,.cur 0 .str)],[.arr .str]⟩⟩] fun p s=>kT p.1 p.2 s
def TI:Hints:=Hz [(0,G6)] [(0,1,.ways [⟨.normal,⟨[Mb 16,.a .str],[(0,.cur 0 .str)],[.arr .str]⟩⟩]),(3,1,.ways [⟨.normal,⟨[.a .str],[(0,.cur 0 .str)],[.arr .str]⟩⟩])] []
theorem MY:LO Tryz.f151 G6 0:=lk ON (rz [3]) TI [] zl
theorem LG:vL Pz 151 ⟨[.cur,.any],⟨[Mm 1 .expr,.a .str],[(0,.cur 0 .str)],[.arr .str]⟩,[.slot 0 .str],⟨[.a .str],[(0,.cur 0 .str)],[.arr .str]⟩,1,fun x=>cC x.1 x.2⟩:=On ON (rz [3]) TI Tryz.func151 [0] (zK rfl MY zl)
def t90:=t89.s LG
theorem zdf:zB Pz 97 ⟨[.ty .expr],[(.sl .str)],fun x=>kt x⟩:=qK (t90.s LG) (rz [1]) hN Tryz.func97 [] zl
def t91:=t90.d zdf
end Go.AM.Lf
namespace Go.Proofs
section
open Go.RowKit Go.Maps
attribute [local go_sem] Oper.semAt_some
set_option maxRecDepth 100000
set_option maxHeartbeats 2000000
theorem CC.info:(Tryz.prog.info? 9).map (fun i=>(i.zero,i.size,i.bytes))=some (some (.string ⟨#[]⟩),1,16):=by kernel_rfl
theorem CC.wp{ops:Array Oper}{rest:List Oper}{o:Oper}{a:Act}{Q:Exit→Act→World→Prop}(w:World)(hgd:o.guard=Option.none)(s x:Operand)(t u:TypeId)
  (ho:o.op=.call { callee:=.builtin .append,args := #[s,x],argTypes := #[t,u] }) (v':Value) (w':World)
  (hr:(Builtin.append_ #[t,u] o.type #[a.eval s,a.eval x]).run Tryz.prog w=.ok v' w') (h:wpList Tryz.prog ops Q rest (a.put o.dst v') w'):wpList Tryz.prog ops Q (o::rest) a w :=
 wpList_plain hgd fun _ hK=>by
  unfold Oper.wp execOp
  simp only[ho,resolve,invoke,builtin,Sem.run_bind,Sem.run_pure,Result.andThen_ok,List.map_toArray,List.map_cons,List.map_nil,hr]
  exact hK _ _ h
/-- An append of nothing. -/
theorem CC.Dg{base:Option Addr}{n cap:Nat}{a:Option Addr}{ty:TypeId}(w:World)(wD:n≤cap) :
  (Builtin.append_ #[56,56] ty #[.slice base n cap,.slice a 0 0]).run Tryz.prog w=.ok (.slice base n cap) w:=by
 obtain⟨i0,hi,DJ,hz1,hz2⟩:=info_parts CC.info
 have hu:=Tryz.underlying56
 cases a<;>cases base<;>simp[Builtin.append_,run_underlying hu,sizeOf,typeInfo,hi,Builtin.lenOf,Builtin.firstCells,loadCells,loadCellsFrom,storeCells,wD]
theorem CC.Be{n:Nat}{ty:TypeId}(w:World)(hn:0<n)(hb:n*16≤140737488355328) :
  ∃ cs:Array Value,cs.size=grownCap w n 0 9∧(Builtin.append_ #[56,3] ty #[.slice Option.none 0 0,.int .i64 (n:Int)]).run Tryz.prog w=.ok (.slice (some ⟨w.heap.size,0,Option.none⟩) n (grownCap w n 0 9)) (w.drew.alloc (.cells cs 9)):=by
 obtain⟨i0,hi,DJ,hz1,hz2⟩:=info_parts CC.info
 have hu:=Tryz.underlying56
 have he:=Tryz.underlying3
 have w1:IntKind.i64.wrap (n:Int)=n:=IntWalk.i64_in _ (by omega)
 have h5:IntKind.i64.max=9223372036854775807:=by decide
 have ai:∀ w,(Go.asInt (.int .i64 (n:Int))).run Tryz.prog w=.ok (n:Int) w:=fun w=>by simp[Go.asInt,asIntOf]
 have g1:¬ ((n:Int)<0):=by omega
 have g2:¬ ((281474976710656:Int)<(n:Int)*16):=by omega
 have g3:¬ (n=0):=by omega
 have g4:¬ (281474976710656<Builtin.nextslicecap n 0*16):=by
  have:=growslice_fits (bytes:=16) (need:=n) (old:=0) (by omega) (by omega)
  omega
 have hge:=grownCap_ge w n 0 9
 refine⟨Builtin.zeroCells (Value.string ⟨#[]⟩).cells n++Builtin.zeroCells (Value.string ⟨#[]⟩).cells (grownCap w n 0 9-n),?_,?_⟩
 ·simp[Builtin.zeroCells,Value.cells]; omega
 ·simp[Builtin.append_,run_underlying hu,run_underlying he,sizeOf,typeInfo,zeroValue,hi,DJ,hz1,hz2,ai,w1,Builtin.lenOf,Builtin.firstCells,Question.forced,newRow,grownCap,g1,g2,g3,g4]
  intro h
  omega
theorem CC.grow(n:Nat)(w:World)(hb:n*16≤140737488355328):Calls Tryz.prog 150 #[.slice Option.none 0 0,.int .i64 (n:Int)] w fun e w'=>∃ v,e=.returned v∧w'.ownsRow w.heap.size 9 1 v 0 []∧Below w.heap.size w w':=by
 go_enter Tryz.func150,Tryz.ntmps150
 by_cases hn:0<n
 ·obtain⟨cs,Kh,hr⟩:=CC.Be (ty:=56) w hn hb
  go_wp2_with (first
   | (at_builtin; refine CC.wp _ rfl _ _ _ _ rfl _ _ hr ?_)
   | go_in)
  go_ret
  refine⟨_,rfl,⟨rfl,.inr ⟨w.heap.size,_,cs,rfl,Nat.le_refl _,by show(w.heap.push (Obj.cells cs 9))[w.heap.size]? = _; exact Array.getElem?_push_size,Nat.zero_le _,grownCap_le_maxLen w n 0 9 (by unfold maxLen; omega),by rw[Kh,Nat.mul_one],rfl⟩⟩,?_⟩
  have hB:Below w.heap.size w (w.alloc (.cells cs 9)):=(Below.refl _ _).alloc (Nat.le_refl _) _
  exact⟨hB.os,hB.tape,hB.output,hB.size,hB.block⟩
 ·obtain rfl:n=0:=by omega
  go_wp2
  go_ret
  exact⟨_,rfl,World.ownsRow_nil _ _ _ _,Below.refl _ _⟩
/-- The texts of a slice whose block lies below n₀. -/
def CC.z5E(n₀:Nat)(W:World)(sv:Value)(l:List (List UInt8)):Prop:=(∃ a,sv=.slice a 0 0∧l=[])∨∃ b off cap,sv=.slice (some ⟨b,off,Option.none⟩) l.length cap∧b<n₀∧∀ j (hj:j<l.length),W.cell? ⟨b,off+j,Option.none⟩=some (.string ⟨l[j].toArray⟩)
def CC.cells(l:List (List UInt8)):List Value:=l.map fun s=>.string ⟨s.toArray⟩
/-- How many texts the first k slices have; which. -/
def CC.fl(ls:List (List (List UInt8)))(k:Nat):Nat:=(ls.take k).flatten.length
def CC.out(ls:List (List (List UInt8)))(k:Nat):List Value:=CC.cells (ls.take k).flatten
def CC.at(ls:List (List (List UInt8)))(k:Nat):List (List UInt8):=ls.getD k []
theorem CC.take_succ{ls:List (List (List UInt8))}{k:Nat}(hk:k<ls.length):(ls.take (k+1)).flatten=(ls.take k).flatten++CC.at ls k:=by
 rw[List.take_succ_eq_append_getElem hk,List.flatten_append,List.flatten_singleton]
 simp[CC.at,hk]
theorem CC.z30{ls:List (List (List UInt8))}{k:Nat}(hk:k<ls.length):CC.fl ls (k+1)=CC.fl ls k+(CC.at ls k).length:=by
 unfold CC.fl; rw[CC.take_succ hk,List.length_append]
theorem CC.TZ{ls:List (List (List UInt8))}{k:Nat}(hk:k<ls.length):CC.out ls (k+1)=CC.out ls k++CC.cells (CC.at ls k):=by
 unfold CC.out CC.cells; rw[CC.take_succ hk,List.map_append]
theorem CC.z8F(ls:List (List (List UInt8)))(k:Nat):CC.fl ls k≤CC.fl ls ls.length:=by
 unfold CC.fl
 rw[List.take_length]
 conv=>rhs; rw[← List.take_append_drop k ls,List.flatten_append,List.length_append]
 omega
theorem CC.concat(b off cap L:Nat)(svs:Nat→Value)(ls:List (List (List UInt8)))(w:World)(hL:L=ls.length)(z6D:L*24≤140737488351232)(hb:b<w.heap.size)
  (hc:∀ j,j<L→w.cell? ⟨b,off+j,Option.none⟩=some (svs j)) (hs:∀ j,j<L→CC.z5E w.heap.size w (svs j) (CC.at ls j)) (z5O:CC.fl ls L*16≤140737488355328) :
  Calls Tryz.prog 96 #[.slice (some ⟨b,off,Option.none⟩) L cap] w fun e w'=>∃ v,e=.returned v∧w'.ownsRow w.heap.size 9 1 v (CC.fl ls L) (CC.out ls L)∧Below w.heap.size w w':=by
 obtain⟨i0,hi,DJ,hz1,hz2⟩:=info_parts CC.info
 have XU:∀ k,k<L→CC.fl ls (k+1)=CC.fl ls k+(CC.at ls k).length:=fun k hk=>CC.z30 (by omega)
 have hou:∀ k,k<L→CC.out ls (k+1)=CC.out ls k++CC.cells (CC.at ls k):=fun k hk=>CC.TZ (by omega)
 have hle:∀ k,CC.fl ls k≤CC.fl ls L:=fun k=>hL▸CC.z8F ls k
 have hf0:CC.fl ls 0=0:=rfl
 have ho0:CC.out ls 0=[]:=rfl
 generalize CC.fl ls=fl at *
 generalize CC.out ls=out at *
 generalize CC.at ls=at_ at *
 clear hL ls
 generalize hM:fl L=M at *
 go_enter Tryz.func96,Tryz.ntmps96
 go_wp2
 go_loopw [3,11] (fun sz i wr=>∃ k:Nat,k≤L∧i=.int .i64 k∧sz=.int .i64 (fl k:Int)∧w=wr) (fun _ i _=>L-(intOf i).toNat)
 case atStart=>exact⟨0,Nat.zero_le _,rfl,by rw[hf0]; rfl,rfl⟩
 case round =>
  obtain⟨k,hk,rfl,rfl,rfl⟩:=hrel
  by_cases qp:k<L
  ·have bX:=hc k qp
   have hS:=hs k qp
   have h1:=XU k qp
   have h2:=hle (k+1)
   have hSq:∃ a c,svs k=.slice a (at_ k).length c:=by
    rcases hS with⟨a,e,he⟩ | ⟨b1,o1,c1,e,_,_⟩
    ·exact⟨a,0,by rw[e,he]; rfl⟩
    ·exact⟨_,c1,e⟩
   obtain⟨a1,c1,e1⟩:=hSq
   rw[e1]at bX
   clear hc hs hS XU hou hle e1
   generalize hq:(at_ k).length=q at *
   generalize hm:fl k=m at *
   generalize hm':fl (k+1)=m' at *
   go_wp2
   go_roundw
   case rel=>exact⟨k+1,by omega,by go_num,by rw[hm',h1]; go_num,by first | rfl | trivial⟩
   case measure=>simp[intOf]; omega
  ·have Ev:k=L:=by omega
   subst Ev
   rw[hM]
   have hg:=CC.grow M w z5O
   go_wp2_with (first
    | (go_at_call 150; refine hg.mono ?_; rintro e w1 ⟨v1,rfl,fE,hB⟩)
    | go_in)
   clear hg
   go_loopw [6,27] (fun o i wr'=>∃ j:Nat,j≤k∧i=.int .i64 j∧wr'.ownsRow w.heap.size 9 1 o (fl j) (out j)∧Below w.heap.size w wr') (fun _ i _=>k-(intOf i).toNat)
   case atStart=>exact⟨0,Nat.zero_le _,rfl,by rw[hf0,ho0]; exact fE,hB⟩
   case round =>
    obtain⟨j,hj,rfl,fE,hB⟩:=hrel
    by_cases GX:j<k
    ·have bX:wr.cell? ⟨b,off+j,Option.none⟩=some (svs j):=(hB.cell (p:=⟨b,off+j,Option.none⟩) hb).trans (hc j GX)
     have h1:=XU j GX
     have h2:=hle (j+1)
     have h3:=hou j GX
     rcases hs j GX with⟨a,e,he⟩ | ⟨b1,o1,c1,e,Bc,Kh⟩
     ·rw[e]at bX
      rw[he]at h1 h3
      have e1:fl (j+1)=fl j:=by rw[h1]; rfl
      have e2:out (j+1)=out j:=by rw[h3]; simp[CC.cells]
      have hv:∃ base n cap,u6=.slice base n cap∧n≤cap:=by
       rcases fE.2 with⟨rfl,_⟩ | ⟨g,VT,cur,rfl,_,_,wD,_⟩
       ·exact⟨_,_,_,rfl,Nat.le_refl _⟩
       ·exact⟨_,_,_,rfl,wD⟩
      obtain⟨base,n,VT,rfl,wD⟩:=hv
      have hr:=CC.Dg (base:=base) (n:=n) (cap:=VT) (a:=a) (ty:=56) wr wD
      clear hc hs XU hou hle hf0 ho0 he e
      go_wp2_with (first
       | (at_builtin; refine CC.wp _ rfl _ _ _ _ rfl _ _ hr ?_)
       | go_in)
      go_roundw
      case rel=>exact⟨j+1,by omega,by go_num,by rw[e1,e2]; exact fE,hB⟩
      case measure=>simp[intOf]; omega
     ·rw[e]at bX
      have hB1:=hB.size
      have hl:(CC.cells (at_ j)).length=(at_ j).length*1:=by simp[CC.cells]
      have oq:∀ u∈CC.cells (at_ j),u.oneCell'=true:=by
       intro u hu
       obtain⟨s,_,rfl⟩:=List.mem_map.1 hu
       rfl
      have z8t:∀ i u,(CC.cells (at_ j))[i]? = some u→wr.cell? ((⟨b1,o1,Option.none⟩:Addr).add i)=some u:=by
       intro i u hu
       have Zw:i<(at_ j).length:=by
        have:=(List.getElem?_eq_some_iff.1 hu).1
        simpa[CC.cells]using this
       have Jo:(⟨b1,o1,Option.none⟩:Addr).add i=⟨b1,o1+i,Option.none⟩:=by unfold Addr.add; split<;>simp_all
       rw[Jo,(hB.cell (p:=⟨b1,o1+i,Option.none⟩) Bc),Kh i Zw,← hu]
       simp[CC.cells,Zw]
      clear hc hs XU hou hle hf0 ho0 e Kh
      generalize CC.cells (at_ j)=news at *
      generalize hq:(at_ j).length=q at *
      go_wp2_with (first
       | (at_builtin; refine wpList_append_own _ rfl _ _ 56 rfl w.heap.size 9 i0 (.string ⟨#[]⟩) 1 16 Tryz.underlying56 hi DJ hz1 hz2 rfl (by decide) _ _ _ rfl fE ⟨b1,o1,Option.none⟩ q c1 news rfl hl z8t oq (by unfold maxLen; omega) (by omega) hB1 ?_; intro v' w' zbe z6v zhq)
       | go_in)
      go_roundw
      case rel=>exact⟨j+1,by omega,by go_num,by rw[h1,h3]; exact zbe,hB.grown z6v hB.size (fun i hi=>(fE.lt i hi).1)⟩
      case measure=>simp[intOf]; omega
    ·have hjk:j=k:=by omega
     subst hjk
     clear hc hs XU hou hle
     go_wp2
     go_ret
     exact⟨_,rfl,by rw[hM]at fE; exact fE,hB⟩
end
end Go.Proofs
namespace Go.AM.Lf
open Go.Proofs
theorem z0S{κ:KS}{l:List zf}{cs:List Value}(hI:Inv κ)(h:Rc κ.w κ.ok (.sl .str) l cs):∃ v,cs=[v]∧CC.z5E κ.w.heap.size κ.w v l:=by
 rcases h.ny with⟨rfl,a,e⟩ | ⟨blk,off,cap,g,e,wg,wD,hg,hc⟩
 ·exact⟨_,e,.inl ⟨a,rfl,rfl⟩⟩
 ·refine⟨_,e,.inr ⟨blk,off,cap,rfl,hI.y5 blk wg,fun j hj => ?_⟩⟩
  have h3:=hc j hj 0 (.string ⟨l[j].toArray⟩) (by rw[(hg j hj).lH]; rfl)
  simpa[Ty.size]using h3
theorem zfM:zB Tryz.prog 96 ⟨[.ty (.sl (.sl .str))],[.sl .str],fun x=>wb x⟩:=by
 refine lj Tryz.func96 (by kernel_rfl) rfl fun κ (ls:List (List zf)) qi y hy hI ha => ?_
 obtain⟨⟨h0,h1,h2⟩,hy⟩:=hy
 cases hy
 obtain⟨v0,r,rfl,ha0,ha⟩:=xv.cons_inv (show xv κ [.zW (.sl (.sl .str)) ls] qi from ha)
 rw[ha.qG]
 have hv:=RD.wJ (κ:=κ) (τ:=.sl (.sl .str)) (x:=ls) ha0 rfl
 rcases hv.ny with⟨rfl,a,e⟩ | ⟨blk,off,cap,g,e,wg,wD,hg,hc⟩
 ·exact absurd rfl h2
 ·cases e
  have mY:∀ j (hj:j<ls.length),∃ v,g j=[v]∧CC.z5E κ.w.heap.size κ.w v ls[j]:=fun j hj=>z0S hI (hg j hj)
  have bX:∀ j,j<ls.length→κ.w.cell? ⟨blk,off+j,none⟩=some ((g j).headD (.bool false)):=fun j hj=>by
   obtain⟨v,hv,_⟩:=mY j hj
   have h3:=hc j hj 0 v (by rw[hv]; rfl)
   rw[hv]
   simpa[Ty.size]using h3
  have XU:ls.flatten=(ls.take ls.length).flatten:=by rw[List.take_length]
  refine(CC.concat blk off cap ls.length (fun j=>(g j).headD (.bool false)) ls κ.w rfl h0 (hI.y5 blk wg) bX (fun j hj => ?_) (by unfold CC.fl; rw[← XU]; exact h1)).mono ?_
  ·obtain⟨v,hv,hs⟩:=mY j hj
   rw[hv]
   have:CC.at ls j=ls[j]:=by simp[CC.at,hj]
   rw[this]; exact hs
  ·rintro e w' ⟨v,rfl,fE,hB⟩
   refine⟨hB,fun _=>⟨_,rfl,?_⟩⟩
   unfold CC.fl CC.out at fE
   rw[← XU]at fE
   show RD _ (.zW (.sl .str) ls.flatten) v
   refine RD.my rfl ?_
   rcases fE.2 with⟨rfl,hn⟩ | ⟨gb,VT,cur,rfl,hgb,z4V,hle,PQ,jk,htk⟩
   ·rw[List.eq_nil_of_length_eq_zero hn]
    exact .iE .str none
   ·refine .sl .str _ gb 0 VT (fun i=>[.string ⟨(ls.flatten[i]?.getD []).toArray⟩]) (.inr ⟨hgb,(Array.getElem?_eq_some_iff.1 z4V).1⟩) hle (fun i hi => ?_) (fun i hi j u hu => ?_)
    ·rw[List.getElem?_eq_getElem hi]
     exact .str _
    ·match j,hu with
     | 0,hu =>
      simp only[List.getElem?_cons_zero,Option.some.injEq]at hu
      have e0:(0:Nat)+i*Ty.size .str+0=i:=by show 0+i*1+0=i; omega
      show w'.cell? ⟨gb,0+i*Ty.size .str+0,none⟩=some u
      rw[e0,cell_of_row w' gb i cur _ (0,0) z4V,← hu]
      have h4:(cur.toList.take (ls.flatten.length*1))[i]? = (CC.cells ls.flatten)[i]? := by rw[htk]
      rw[List.getElem?_take_of_lt (by omega)]at h4
      rw[← Array.getElem?_toList,h4]
      unfold CC.cells
      rw[List.getElem?_map,List.getElem?_eq_getElem hi]; rfl
end Go.AM.Lf

namespace Go.AM.Lf
open Go.Proofs
def t92:=t91.d zfM
theorem zca:zB Pz 101 ⟨[.ty zX,.rp .str],[.bool],fun x=>wo x.1 x.2⟩:=qK t92 (rz [2]) hN Tryz.func101 [] zl
def t93:=t92.d zca
def YK:zE:=Lz [] [Mm 0 (.sl zX),.s 1 (.xk 101 [.rp .str]),Mi 7] ⟨[Mi 8],[],[]⟩ [⟨.exit 0,⟨[],[],[]⟩⟩,⟨.ret,⟨[Mi 4],[],[]⟩⟩] fun p s=>qS p.1 (fun z0=>wo z0 p.2.1) p.2.2 s
def RR:Hints:=Hz [(0,YK)] [] []
theorem N7:LO Tryz.f153 YK 0:=lk t93 rn RR [] zl
theorem I3:zB Pz 153 ⟨[.ty (.sl zX),.xk 101 [.rp .str]],[i64],fun x=>xQ x.1 (fun z0=>wo z0 x.2)⟩:=qK t93 rn RR Tryz.func153 [0] (zK rfl N7 zl)
def t94:=t93.d I3
theorem I9:zB Pz 100 ⟨[.ty (.sl zX),.xk 101 [.rp .str]],[.bool],fun x=>qE x.1 (fun z0=>wo z0 x.2)⟩:=qK (t94.d I3) rn hN Tryz.func100 [] zl
def t95:=t94.d I9
theorem zfJ:zB Pz 98 ⟨[.ty .str,.rp (.sl .str),.rp zG],[.bool],fun x=>vq x.1 x.2.1 x.2.2⟩:=qK (t95.d I9) (rz [3]) hN Tryz.func98 [] zl
def t96:=t95.d zfJ
def Cx:zE:=Lz [] [Mm 0 (.sl .str),.s 1 (.xk 98 [.rp (.sl .str),.rp zG]),Mi 7] ⟨[Mi 8],[],[]⟩ [⟨.exit 0,⟨[],[],[]⟩⟩,⟨.ret,⟨[Mi 4],[],[]⟩⟩] fun p s=>qe p.1 (fun z0=>vq z0 p.2.1.1 p.2.1.2) p.2.2 s
def z4g:Hints:=Hz [(0,Cx)] [] []
theorem R3:LO Tryz.f92 Cx 0:=lk t96 rn z4g [] zl
theorem PU:zB Pz 92 ⟨[.ty (.sl .str),.xk 98 [.rp (.sl .str),.rp zG]],[i64],fun x=>qm x.1 (fun z0=>vq z0 x.2.1 x.2.2)⟩:=qK t96 rn z4g Tryz.func92 [0] (zK rfl R3 zl)
def t97:=t96.d PU
def T46:Tb:=t97.d PU
def RX:zE:=Lz [] [Mr 2 zG,Mr 3 (.sl .str),Mm 13 (.sl zm),Mi 14] ⟨[Mm 6 (.sl .str),Mi 15],[],[]⟩ [⟨.exit 0,⟨[Mm 6 (.sl .str)],[],[]⟩⟩] fun p s=>uG p.1 p.2.1 p.2.2.1 p.2.2.2 s
def TP:zE:=Lz [] [Mr 2 zG,Mr 3 (.sl .str),Mm 30 (.sl zn),Mi 31] ⟨[Mm 6 (.sl .str),Mi 32],[],[]⟩ [⟨.exit 2,⟨[Mm 6 (.sl .str)],[],[]⟩⟩] fun p s=>uS p.1 p.2.1 p.2.2.1 p.2.2.2 s
def h46:Hints:=Hz [(0,RX),(2,TP)] [] []
theorem z6X:LO Tryz.f46 RX 0:=lk T46 (rz [2,3]) h46 [] zl
theorem z4M:LO Tryz.f46 TP 2:=lk T46 (rz [2,3]) h46 [] zl
theorem zfD:zB Pz 46 ⟨[.ty zG,.ty (.sl .str)],[.str,.bool],fun x=>cA x.1 x.2⟩:=qK T46 (rz [2,3]) h46 Tryz.func46 [0,2] (zK rfl z6X (zK rfl z4M zl))
def t98:=t97.d zfD
theorem zah:zB Pz 155 ⟨[.ty .str,.rp (.sl .str)],[.bool],fun x=>wQ x.1 x.2⟩:=qK t98 rn hN Tryz.func155 [] zl
def t99:=t98.d zah
def Bw:zE:=Lz [] [Mm 0 (.sl .str),.s 1 (.xk 155 [.rp (.sl .str)]),Mi 7] ⟨[Mi 8],[],[]⟩ [⟨.exit 0,⟨[],[],[]⟩⟩,⟨.ret,⟨[Mi 4],[],[]⟩⟩] fun p s=>qe p.1 (fun z0=>wQ z0 p.2.1) p.2.2 s
def z41:Hints:=Hz [(0,Bw)] [] []
theorem Rj:LO Tryz.f92 Bw 0:=lk t99 rn z41 [] zl
theorem PZ:zB Pz 92 ⟨[.ty (.sl .str),.xk 155 [.rp (.sl .str)]],[i64],fun x=>qm x.1 (fun z0=>wQ z0 x.2)⟩:=qK t99 rn z41 Tryz.func92 [0] (zK rfl Rj zl)
def t100:=t99.d PZ
theorem zae:zB Pz 154 ⟨[.ty (.sl .str),.xk 155 [.rp (.sl .str)]],[.bool],fun x=>xS x.1 (fun z0=>wQ z0 x.2)⟩:=qK (t100.d PZ) rn hN Tryz.func154 [] zl
def t101:=t100.d zae
theorem z9n:zB Pz 102 ⟨[.ty .expr,.ty (.sl .str)],[.bool],fun x=>gE x.1 x.2⟩:=qK t101 (rz [2,3]) hN Tryz.func102 [] zl
def t102:=t101.d z9n
abbrev Y47:=uN [.ty .expr,.ty (.sl .str)]→T (UC [.bool])
abbrev H47(F:Y47):=zB Pz 47 ⟨[.ty .expr,.ty (.sl .str)],[.bool],F⟩
theorem z4n(y3:Y47)(ZH:H47 y3):zB Pz 104 ⟨[.ty .expr,.rp (.sl .str)],[.bool],fun x=>xL (fun y0 y1=>y3 (y0,y1)) x.1 x.2⟩:=qK (t102.d ZH) (rz [2]) hN Tryz.func104 [] zl
def Tx(y3:Y47)(ZH:H47 y3):Tb:=t102.d (z4n _ ZH)
def Gy(y3:Y47):zE:=Lz [] [Mm 0 (.sl .expr),.s 1 (.xk 104 [.rp (.sl .str)]),Mi 7] ⟨[Mi 8],[],[]⟩ [⟨.exit 0,⟨[],[],[]⟩⟩,⟨.ret,⟨[Mi 4],[],[]⟩⟩] fun p s=>xx (fun y0 y1=>y3 (y0,y1)) p.1 (fun z0=>(xL (fun y0 y1=>y3 (y0,y1))) z0 p.2.1) p.2.2 s
def Rz(y3:Y47):Hints:=Hz [(0,Gy y3)] [] []
theorem Og(y3:Y47)(ZH:H47 y3):LO Tryz.f156 (Gy y3) 0:=lk (Tx y3 ZH) rn (Rz y3) [] zl
theorem z1P(y3:Y47)(ZH:H47 y3):zB Pz 156 ⟨[.ty (.sl .expr),.xk 104 [.rp (.sl .str)]],[i64],fun x=>wI (fun y0 y1=>y3 (y0,y1)) x.1 (fun z0=>(xL (fun y0 y1=>y3 (y0,y1))) z0 x.2)⟩:=qK (Tx y3 ZH) rn (Rz y3) Tryz.func156 [0] (zK rfl (Og y3 ZH) zl)
theorem z2g(y3:Y47)(ZH:H47 y3):zB Pz 103 ⟨[.ty (.sl .expr),.xk 104 [.rp (.sl .str)]],[.bool],fun x=>wc (fun y0 y1=>y3 (y0,y1)) x.1 (fun z0=>(xL (fun y0 y1=>y3 (y0,y1))) z0 x.2)⟩:=qK (t102.d (z1P _ ZH)) rn hN Tryz.func103 [] zl
def h47(y3:Y47):Hints:=Hz [] [(0,3,.ways [⟨.normal,⟨[Mb 41,.v (.zW .expr),.v (.zW .expr)],[],[.var (.zW .expr),.var (.zW .expr)]⟩⟩]),(3,1,.ways [⟨.normal,⟨[],[],[]⟩⟩,⟨.ret,⟨[Mb 4],[],[]⟩⟩])] []
theorem z58(y3:Y47)(ZH:H47 y3):zB Pz 47 ⟨[.ty .expr,.ty (.sl .str)],[.bool],fun x=>gO (fun y0 y1=>y3 (y0,y1)) x.1 x.2⟩:=qK ((t102.d (z2g _ ZH)).d (z4n _ ZH)) (rz [2,3]) (h47 y3) Tryz.func47 [] zl
theorem zeQ:zB Pz 47 ⟨[.ty .expr,.ty (.sl .str)],[.bool],fun x=>gP x.1 x.2⟩:=mb (fun y3 x=>gO (fun y0 y1=>y3 (y0,y1)) x.1 x.2) (fun x=>rfl) (fun y3 ZH=>z58 y3 ZH)
def t103:=t102.d zeQ
def SH:zE:=Lz [.slot 8 .str] [Mr 1 zG,Mm 46 (.sl q8),Mi 47] ⟨[Mi 48,.a .str],[(8,.cur 0 .str)],[.arr .str]⟩ [⟨.exit 1,⟨[.a .str],[(8,.cur 0 .str)],[.arr .str]⟩⟩] fun p s=>jh p.1 p.2.1 p.2.2 s
def OX:zE:=Lz [] [Mm 67 (.sl zn),Mi 68] ⟨[Mi 69,.a .str],[(8,.cur 0 .str)],[.arr .str]⟩ [⟨.exit 3,⟨[.a .str],[],[.arr .str]⟩⟩,⟨.ret,⟨[Mi 2,Ms 3,.a .str],[],[.arr .str]⟩⟩] fun p s=>j6 p.1 p.2 s
def h20:Hints:=Hz [(1,SH),(3,OX)] [(0,3,.flat [Mb 19]),(0,23,.ways [⟨.normal,⟨[Mb 84,.a .str,.v (.zW zn)],[(8,.cur 0 .str)],[.arr .str,.var (.zW zn)]⟩⟩])] []
theorem z7f:LO Tryz.f20 SH 1:=lk t103 (rz [1]) h20 [] zl
theorem z5g:LO Tryz.f20 OX 3:=lk t103 (rz [1]) h20 [] zl
theorem zeB:zB Pz 20 ⟨[.ty zG],[i64,.str],fun x=>eL x⟩:=qK t103 (rz [1]) h20 Tryz.func20 [1,3] (zK rfl z7f (zK rfl z5g zl))
def t104:=t103.d zeB
theorem zfG:zB Pz 22 ⟨[.ty zI],[.bool],fun x=>wL x⟩:=qK t104 (rz [1]) hN Tryz.func22 [] zl
def t105:=t104.d zfG
def Ro:zE:=Lz [] [Mm 0 (.sl zI),.s 1 (.xk 22 []),Mi 7] ⟨[Mi 8],[],[]⟩ [⟨.exit 0,⟨[],[],[]⟩⟩,⟨.ret,⟨[Mi 4],[],[]⟩⟩] fun p s=>xJ p.1 (fun z0=>wL z0) p.2.2 s
def h48:Hints:=Hz [(0,Ro)] [] []
theorem z4S:LO Tryz.f48 Ro 0:=lk t105 rn h48 [] zl
theorem zdi:zB Pz 48 ⟨[.ty (.sl zI),.xk 22 []],[i64],fun x=>wX x.1 (fun z0=>wL z0)⟩:=qK t105 rn h48 Tryz.func48 [0] (zK rfl z4S zl)
def t106:=t105.d zdi
theorem zfv:zB Pz 21 ⟨[.ty (.sl zI),.xk 22 []],[.bool],fun x=>xf x.1 (fun z0=>wL z0)⟩:=qK t106 rn hN Tryz.func21 [] zl
def t107:=t106.d zfv
def RI:zE:=Lz [.slot 3 .str] [Mm 7 (.sl q8),Mi 8] ⟨[Mi 9,.a .str],[(3,.cur 0 .str)],[.arr .str]⟩ [⟨.exit 0,⟨[.a .str],[(3,.cur 0 .str)],[.arr .str]⟩⟩] fun p s=>kC p.1 p.2 s
def h12:Hints:=Hz [(0,RI)] [] []
theorem z5B:LO Tryz.f12 RI 0:=lk t107 (rz [1]) h12 [] zl
theorem zeL:zB Pz 12 ⟨[.ty zG],[(.sl .str)],fun x=>iS x⟩:=qK t107 (rz [1]) h12 Tryz.func12 [0] (zK rfl z5B zl)
def t108:=t107.d zeL
def h54:Hints:=Hz [] [(0,1,.z4I)] []
theorem zeJ:zB Pz 54 ⟨[.ty (.sl zI)],[(.sl zI)],fun x=>uB x⟩:=qK t108 rn h54 Tryz.func54 [] zl
def t109:=t108.d zeJ
def Ra:zE:=Lz [.cell 0 0 .str,.cell 0 1 .str,.cell 1 1 .str] [Mm 14 (.sl zX),Mi 15] ⟨[Mi 16,.v (.st [.row 2 .str,.row 3 .str,.im (.sl zI)]),.v (.st [.im (.sl .str),.row 4 .str,.im (.sl zI)]),.a .str,.a .str,.a .str],[(4,.ptr 0 0),(5,.ptr 1 0)],[.var (.st [.row 2 .str,.row 3 .str,.im (.sl zI)]),.var (.st [.im (.sl .str),.row 4 .str,.im (.sl zI)]),.arr .str,.arr .str,.arr .str]⟩ [⟨.exit 0,⟨[.v (.st [.row 2 .str,.row 3 .str,.im (.sl zI)]),.v (.st [.im (.sl .str),.row 4 .str,.im (.sl zI)]),.a .str,.a .str,.a .str],[],[.var (.st [.row 2 .str,.row 3 .str,.im (.sl zI)]),.var (.st [.im (.sl .str),.row 4 .str,.im (.sl zI)]),.arr .str,.arr .str,.arr .str]⟩⟩] fun p s=>cS p.1 p.2 s
def h25:Hints:=Hz [(0,Ra)] [] []
theorem z7v:LO Tryz.f25 Ra 0:=lk t109 (rz [2]) h25 [] zl
theorem zdn:zB Pz 25 ⟨[.ty zG,.ty (.sl zI)],[zP],fun x=>sE x.1 x.2⟩:=qK t109 (rz [2]) h25 Tryz.func25 [0] (zK rfl z7v zl)
def t110:=t109.d zdn
theorem zgH:zB Pz 56 ⟨[.ty zV,.rp .str],[.bool],fun x=>kQ x.1 x.2⟩:=qK t110 (rz [2]) hN Tryz.func56 [] zl
def t111:=t110.d zgH
def CM:zE:=Lz [] [Mm 0 (.sl zV),.s 1 (.xk 56 [.rp .str]),Mi 7] ⟨[Mi 8],[],[]⟩ [⟨.exit 0,⟨[],[],[]⟩⟩,⟨.ret,⟨[Mi 4],[],[]⟩⟩] fun p s=>qf p.1 (fun z0=>kQ z0 p.2.1) p.2.2 s
def z3S:Hints:=Hz [(0,CM)] [] []
theorem Su:LO Tryz.f55 CM 0:=lk t111 rn z3S [] zl
theorem PC:zB Pz 55 ⟨[.ty (.sl zV),.xk 56 [.rp .str]],[i64],fun x=>ql x.1 (fun z0=>kQ z0 x.2)⟩:=qK t111 rn z3S Tryz.func55 [0] (zK rfl Su zl)
def t112:=t111.d PC
def h26:Hints:=Hz [] [(0,2,.flat [Mb 6])] []
theorem zgP:zB Pz 26 ⟨[.ty zG,.ty (.sl .bool),.ty .str],[.bool],fun x=>sV x.1 x.2.1 x.2.2⟩:=qK (t112.d PC) (rz [3,5]) h26 Tryz.func26 [] zl
def t113:=t112.d zgP
def h60:Hints:=Hz [] [(3,2,.flat [Mm 3 (.int .u64)])] []
theorem zdj:zB Pz 60 ⟨[.ty i64],[zI],fun x=>uZ x⟩:=qK t113 rn h60 Tryz.func60 [] zl
def t114:=t113.d zdj
def zgm:Hints:=Hz [] [(0,1,.flat [Mb 12])] []
theorem z9W:zB Pz 195 ⟨[.ty (.sl zI),.ty i64],[zI],fun x=>tF x.1 x.2⟩:=qK t114 rn zgm Tryz.func195 [] zl
def t115:=t114.d z9W
theorem zaH:zB Pz 161 ⟨[.ty .str,.ty zP],[zZ,i64],fun x=>tB x.1 x.2⟩:=qK t115 (rz [3]) hN Tryz.func161 [] zl
def t116:=t115.d zaH
theorem zct:zB Pz 113 ⟨[.ty zI,.ty zI],[zI],fun x=>eQ x.1 x.2⟩:=qK t116 rn hN Tryz.func113 [] zl
def t117:=t116.d zct
theorem zcI:zB Pz 112 ⟨[.ty zI],[.bool],fun x=>dc x⟩:=qK t117 (rz [1]) hN Tryz.func112 [] zl
def t118:=t117.d zcI
def OC:zE:=Lz [.cell 0 1 zq,.cell 1 1 zq] [Mr 3 zI,Mm 17 (.sl zq),Mi 18] ⟨[Mi 19,.v (.st [.im i64,.row 2 zq,.im .bool,.im (.sl u32),.im (.sl u32)]),.v (.st [.im i64,.row 3 zq,.im .bool,.im (.sl u32),.im (.sl u32)]),.a zq,.a zq],[(4,.ptr 0 0),(5,.ptr 1 0)],[.var (.st [.im i64,.row 2 zq,.im .bool,.im (.sl u32),.im (.sl u32)]),.var (.st [.im i64,.row 3 zq,.im .bool,.im (.sl u32),.im (.sl u32)]),.arr zq,.arr zq]⟩ [⟨.exit 0,⟨[.v (.st [.im i64,.row 2 zq,.im .bool,.im (.sl u32),.im (.sl u32)]),.v (.st [.im i64,.row 3 zq,.im .bool,.im (.sl u32),.im (.sl u32)]),.a zq,.a zq],[],[.var (.st [.im i64,.row 2 zq,.im .bool,.im (.sl u32),.im (.sl u32)]),.var (.st [.im i64,.row 3 zq,.im .bool,.im (.sl u32),.im (.sl u32)]),.arr zq,.arr zq]⟩⟩] fun p s=>bw p.1 p.2.1 p.2.2 s
def h59:Hints:=Hz [(0,OC)] [] []
theorem z6N:LO Tryz.f59 OC 0:=lk t118 (rz [2,3]) h59 [] zl
theorem zea:zB Pz 59 ⟨[.ty zZ,.ty zI],[zZ],fun x=>uQ x.1 x.2⟩:=qK t118 (rz [2,3]) h59 Tryz.func59 [0] (zK rfl z6N zl)
def t119:=t118.d zea
def M8:zE:=Lz [] [Mm 0 (.sl u32),Mm 1 (.sl u32),Mm 24 (.sl u32),Mi 25] ⟨[Mm 6 (.int .u64),Mi 26,.a u32],[(5,.cur 0 u32)],[.arr u32]⟩ [⟨.exit 0,⟨[Mm 6 (.int .u64),.a u32],[(5,.cur 0 u32)],[.arr u32]⟩⟩] fun p s=>nN p.1 p.2.1 p.2.2.1 p.2.2.2 s
def zak:Hints:=Hz [(0,M8)] [(3,2,.flat [Mm 0 (.sl u32),Mm 1 (.sl u32)]),(3,10,.flat [Mm 6 (.int .u64)])] [(16,[5])]
theorem z2h:LO Tryz.f164 M8 0:=lk t119 rn zak [] zl
theorem zcl:zB Pz 164 ⟨[.ty (.sl u32),.ty (.sl u32)],[(.sl u32)],fun x=>Qk x.1 x.2⟩:=qK t119 rn zak Tryz.func164 [0] (zK rfl z2h zl)
def t120:=t119.d zcl
def IJ:zE:=Lz [] [Mm 1 (.sl u32),Mm 22 (.sl u32),Mi 23] ⟨[Mm 7 u32,Mi 24,.a u32],[(6,.cur 0 u32)],[.arr u32]⟩ [⟨.exit 0,⟨[.a u32],[(6,.cur 0 u32)],[.arr u32]⟩⟩] fun p s=>oJ p.1 p.2.1 p.2.2 s
def z9f:Hints:=Hz [(0,IJ)] [(3,10,.flat [Mm 10 u32])] [(14,[6])]
theorem z0r:LO Tryz.f165 IJ 0:=lk t120 rn z9f [] zl
theorem z8u:zB Pz 165 ⟨[.ty (.sl u32),.ty (.sl u32)],[(.sl u32),.bool],fun x=>th x.1 x.2⟩:=qK t120 rn z9f Tryz.func165 [0] (zK rfl z0r zl)
def t121:=t120.d z8u
theorem z8D:zB Pz 111 ⟨[.ty zI,.ty zI],[zI],fun x=>lQ x.1 x.2⟩:=qK t121 rn hN Tryz.func111 [] zl
def t122:=t121.d z8D
def RH:zE:=Lz [.cell 0 1 zq,.cell 1 1 zq] [] ⟨[Mm 6 (.sl zq),Mm 7 (.sl zq),.v (.st [.im i64,.row 2 zq,.im .bool,.im (.sl u32),.im (.sl u32)]),.v (.st [.im i64,.row 3 zq,.im .bool,.im (.sl u32),.im (.sl u32)]),.a zq,.a zq],[(4,.ptr 0 0),(5,.ptr 1 0)],[.var (.st [.im i64,.row 2 zq,.im .bool,.im (.sl u32),.im (.sl u32)]),.var (.st [.im i64,.row 3 zq,.im .bool,.im (.sl u32),.im (.sl u32)]),.arr zq,.arr zq]⟩ [⟨.exit 0,⟨[.v (.st [.im i64,.row 2 zq,.im .bool,.im (.sl u32),.im (.sl u32)]),.v (.st [.im i64,.row 3 zq,.im .bool,.im (.sl u32),.im (.sl u32)]),.a zq,.a zq],[],[.var (.st [.im i64,.row 2 zq,.im .bool,.im (.sl u32),.im (.sl u32)]),.var (.st [.im i64,.row 3 zq,.im .bool,.im (.sl u32),.im (.sl u32)]),.arr zq,.arr zq]⟩⟩] fun p s=>vc  s
def h58:Hints:=Hz [(0,RH)] [(0,6,.flat [Mb 46]),(0,8,.flat [Mb 78]),(2,6,.ways [⟨.normal,⟨[Mm 6 (.sl zq),Mm 7 (.sl zq),.v (.st [.im i64,.row 2 zq,.im .bool,.im (.sl u32),.im (.sl u32)]),.v (.st [.im i64,.row 3 zq,.im .bool,.im (.sl u32),.im (.sl u32)]),.a zq,.a zq,.v (.zW zq)],[],[.var (.st [.im i64,.row 2 zq,.im .bool,.im (.sl u32),.im (.sl u32)]),.var (.st [.im i64,.row 3 zq,.im .bool,.im (.sl u32),.im (.sl u32)]),.arr zq,.arr zq,.var (.zW zq)]⟩⟩])] []
theorem z4X:LO Tryz.f58 RH 0:=lk t122 (rz [2,3]) h58 [] zl
theorem zfl:zB Pz 58 ⟨[.ty zZ,.ty zZ],[zZ],fun x=>sM x.1 x.2⟩:=qK t122 (rz [2,3]) h58 Tryz.func58 [0] (zK rfl z4X zl)
def t123:=t122.d zfl
theorem zaO:zB Pz 196 ⟨[.ty zI,.ty zI],[zI,.bool],fun x=>Xa x.1 x.2⟩:=qK t123 (rz [2]) hN Tryz.func196 [] zl
def t124:=t123.d zaO
def zej:Hints:=Hz [] [(0,7,.flat [Mb 34])] []
theorem z9Y:zB Pz 162 ⟨[.ty i64,.ty zZ,.ty zZ],[zZ,i64],fun x=>nR x.1 x.2.1 x.2.2⟩:=qK t124 (rz [4,5]) zej Tryz.func162 [] zl
def t125:=t124.d z9Y
abbrev zav:=uN [.ty .expr,.ty zP]→T (UC [zZ,i64])
abbrev zdB(F:zav):=zB Pz 110 ⟨[.ty .expr,.ty zP],[zZ,i64],F⟩
theorem z3e(Yl:zav)(Pm:zdB Yl):zB Pz 110 ⟨[.ty .expr,.ty zP],[zZ,i64],fun x=>tk (fun y0 y1=>Yl (y0,y1)) x.1 x.2⟩:=qK (t125.d Pm) (rz [2,3]) hN Tryz.func110 [] zl
theorem zap:zB Pz 110 ⟨[.ty .expr,.ty zP],[zZ,i64],fun x=>Uo x.1 x.2⟩:=mb (fun Yl x=>tk (fun y0 y1=>Yl (y0,y1)) x.1 x.2) (fun x=>rfl) (fun Yl Pm=>z3e Yl Pm)
def t126:=t125.d zap
theorem zfs:zB Pz 57 ⟨[.ty .expr,.ty zP],[zZ,i64],fun x=>Km x.1 x.2⟩:=qK t126 (rz [2,3]) hN Tryz.func57 [] zl
def t127:=t126.d zfs
theorem zgo:zB Pz 27 ⟨[.ty zn,.ty zP],[zZ,i64],fun x=>oP x.1 x.2⟩:=qK t127 (rz [2,3]) hN Tryz.func27 [] zl
def t128:=t127.d zgo
theorem zdh:zB Pz 62 ⟨[.ty zq],[.bool],fun x=>vk x⟩:=qK t128 (rz [1]) hN Tryz.func62 [] zl
def t129:=t128.d zdh
def Im:zE:=Lz [] [Mm 0 (.sl zq),.s 1 (.xk 62 []),Mi 7] ⟨[Mi 8],[],[]⟩ [⟨.exit 0,⟨[],[],[]⟩⟩,⟨.ret,⟨[Mi 4],[],[]⟩⟩] fun p s=>xD p.1 (fun z0=>vk z0) p.2.2 s
def zcc:Hints:=Hz [(0,Im)] [] []
theorem z3b:LO Tryz.f114 Im 0:=lk t129 rn zcc [] zl
theorem zbO:zB Pz 114 ⟨[.ty (.sl zq),.xk 62 []],[i64],fun x=>wO x.1 (fun z0=>vk z0)⟩:=qK t129 rn zcc Tryz.func114 [0] (zK rfl z3b zl)
def t130:=t129.d zbO
theorem zdo:zB Pz 61 ⟨[.ty (.sl zq),.xk 62 []],[.bool],fun x=>xb x.1 (fun z0=>vk z0)⟩:=qK t130 rn hN Tryz.func61 [] zl
def t131:=t130.d zdo
theorem zey:zB Pz 28 ⟨[.ty zZ],[.bool],fun x=>oI x⟩:=qK t131 (rz [1]) hN Tryz.func28 [] zl
def t132:=t131.d zey
def z43:zE:=Lz [.cell 1 0 zZ,.cell 1 1 i64] [Mm 2 (.sl .bool),Mr 3 zG,Mm 52 (.sl zn),Mi 53] ⟨[Mi 54,.v (.zW zY),.v (.st [.row 3 zZ,.row 4 i64]),.v (.zW zP),.a zZ,.a i64],[(6,.ptr 0 0),(11,.ptr 1 0),(12,.ptr 2 0)],[.var (.zW zY),.var (.st [.row 3 zZ,.row 4 i64]),.var (.zW zP),.arr zZ,.arr i64]⟩ [⟨.exit 0,⟨[.v (.zW zY),.v (.st [.row 3 zZ,.row 4 i64]),.v (.zW zP),.a zZ,.a i64],[],[.var (.zW zY),.var (.st [.row 3 zZ,.row 4 i64]),.var (.zW zP),.arr zZ,.arr i64]⟩⟩,⟨.ret,⟨[Ms 7,Mi 8,.v (.zW zY),.v (.st [.row 3 zZ,.row 4 i64]),.v (.zW zP),.a zZ,.a i64],[],[.var (.zW zY),.var (.st [.row 3 zZ,.row 4 i64]),.var (.zW zP),.arr zZ,.arr i64]⟩⟩] fun p s=>uf p.1 p.2.1 p.2.2.1 p.2.2.2 s
def z3L:zE:=Lz [] [Mr 3 zG,Mi 92] ⟨[Mi 93,.v (.zW zY),.v (.st [.row 3 zZ,.row 4 i64]),.v (.zW zP),.a zZ,.a i64],[(6,.ptr 0 0),(11,.ptr 1 0),(91,.cur 3 zZ)],[.var (.zW zY),.var (.st [.row 3 zZ,.row 4 i64]),.var (.zW zP),.arr zZ,.arr i64]⟩ [⟨.exit 2,⟨[.v (.zW zY),.v (.st [.row 3 zZ,.row 4 i64]),.v (.zW zP),.a zZ,.a i64],[],[.var (.zW zY),.var (.st [.row 3 zZ,.row 4 i64]),.var (.zW zP),.arr zZ,.arr i64]⟩⟩,⟨.ret,⟨[Ms 7,Mi 8,.v (.zW zY),.v (.st [.row 3 zZ,.row 4 i64]),.v (.zW zP),.a zZ,.a i64],[],[.var (.zW zY),.var (.st [.row 3 zZ,.row 4 i64]),.var (.zW zP),.arr zZ,.arr i64]⟩⟩] fun p s=>b9 p.1 p.2 s
def h8:Hints:=Hz [(0,z43),(2,z3L)] [(0,4,.ways [⟨.normal,⟨[Mb 46,.v (.zW zY)],[],[.var (.zW zY)]⟩⟩])] []
theorem zat:LO Tryz.f8 z43 0:=lk t132 (rz [3]) h8 [] zl
theorem zcf:LO Tryz.f8 z3L 2:=lk t132 (rz [3]) h8 [] zl
theorem ok8:zB Pz 8 ⟨[.ty zG,.ty (.sl zI),.ty (.sl .bool)],[zY,.str,i64],fun x=>cp x.1 x.2.1 x.2.2⟩:=qK t132 (rz [3]) h8 Tryz.func8 [0,2] (zK rfl zat (zK rfl zcf zl))
def t133:=t132.d ok8
def zdv:Hints:=Hz [] [(0,1,.flat [Mb 2])] []
theorem zcH:zB Pz 166 ⟨[.ty (.int .u8)],[.bool],fun x=>kJ x⟩:=qK t133 rn zdv Tryz.func166 [] zl
def t134:=t133.d zcH
def zeK:Hints:=Hz [] [(0,1,.flat [Mb 2])] []
theorem z9m:zB Pz 167 ⟨[.ty (.int .u8)],[.bool],fun x=>oi x⟩:=qK t134 rn zeK Tryz.func167 [] zl
def t135:=t134.d z9m
def IE:zE:=Lz [] [Ms 0] ⟨[Mi 3],[],[]⟩ [⟨.exit 0,⟨[],[],[]⟩⟩,⟨.ret,⟨[Mb 2],[],[]⟩⟩] fun p s=>kN p s
def zaA:Hints:=Hz [(0,IE)] [(0,1,.ways [⟨.normal,⟨[Mb 17],[],[]⟩⟩]),(0,6,.ways [⟨.normal,⟨[Mb 41],[],[]⟩⟩])] []
theorem z2U:LO Tryz.f115 IE 0:=lk t135 rn zaA [] zl
theorem zbA:zB Pz 115 ⟨[.ty .str],[.bool],fun x=>vV x⟩:=qK t135 rn zaA Tryz.func115 [0] (zK rfl z2U zl)
def t136:=t135.d zbA
def TE:zE:=Lz [] [Mm 0 (.sl u32)] ⟨[Mi 3],[],[]⟩ [⟨.exit 0,⟨[Mi 3],[],[]⟩⟩] fun p s=>bK p s
def h85:Hints:=Hz [(0,TE)] [(0,2,.flat [Mb 15])] []
theorem z7g:LO Tryz.f85 TE 0:=lk t136 rn h85 [] zl
theorem zfm:zB Pz 85 ⟨[.ty (.sl u32)],[(.sl u32)],fun x=>xl x⟩:=qK t136 rn h85 Tryz.func85 [0] (zK rfl z7g zl)
def t137:=t136.d zfm
def M4:zE:=Lz [] [Mm 4 (.sl u32)] ⟨[Mm 5 (.int .u64),Mi 6],[],[]⟩ [⟨.exit 0,⟨[Mm 5 (.int .u64)],[],[]⟩⟩] fun p s=>iv p s
def zc7:Hints:=Hz [(0,M4)] [] []
theorem z1p:LO Tryz.f130 M4 0:=lk t137 rn zc7 [] zl
theorem zbw:zB Pz 130 ⟨[.ty (.sl u32)],[(.int .u64),.bool],fun x=>Qe x⟩:=qK t137 rn zc7 Tryz.func130 [0] (zK rfl z1p zl)
def t138:=t137.d zbw
theorem zft:zB Pz 76 ⟨[.ty (.int .u64)],[(.sl u32)],fun x=>nT x⟩:=qK t138 rn hN Tryz.func76 [] zl
def t139:=t138.d zft
def Io:zE:=Lz [] [Mm 0 (.sl u32),Mm 1 (.int .u64)] ⟨[Mm 7 (.int .u64),Mi 8,.a u32],[(6,.cur 0 u32)],[.arr u32]⟩ [⟨.exit 0,⟨[Mm 7 (.int .u64),.a u32],[(6,.cur 0 u32)],[.arr u32]⟩⟩] fun p s=>cQ p.1 p.2 s
def zaT:Hints:=Hz [(0,Io)] [] [(9,[6])]
theorem z1s:LO Tryz.f131 Io 0:=lk t139 rn zaT [] zl
theorem z8A:zB Pz 131 ⟨[.ty (.sl u32),.ty (.int .u64)],[(.sl u32),(.int .u64)],fun x=>cy x.1 x.2⟩:=qK t139 rn zaT Tryz.func131 [0] (zK rfl z1s zl)
def t140:=t139.d z8A
theorem zbH:zB Pz 177 ⟨[.ty (.sl u32),.ty i64],[(.int .u64)],fun x=>gY x.1 x.2⟩:=qK t140 rn hN Tryz.func177 [] zl
def t141:=t140.d zbH
def IM:zE:=Lz [.slot 8 u32] [Mm 5 (.sl u32),Mm 7 (.int .u64)] ⟨[Mi 9,.a u32],[(8,.cur 0 u32)],[.arr u32]⟩ [⟨.exit 0,⟨[.a u32],[(8,.cur 0 u32)],[.arr u32]⟩⟩] fun p s=>Zj p.1 p.2 s
def L2:zE:=Lz [] [Mm 5 (.sl u32),Mm 11 (.int .u64)] ⟨[Mm 12 (.int .u64),Mi 13,.a u32],[(10,.cur 0 u32)],[.arr u32]⟩ [⟨.exit 2,⟨[.a u32],[(10,.cur 0 u32)],[.arr u32]⟩⟩] fun p s=>cN p.1 p.2 s
def z4Z:Hints:=Hz [(0,IM),(2,L2)] [] [(14,[8]),(24,[10])]
theorem z1A:LO Tryz.f132 IM 0:=lk t141 rn z4Z [] zl
theorem z0x:LO Tryz.f132 L2 2:=lk t141 rn z4Z [] zl
theorem z9Q:zB Pz 132 ⟨[.ty (.sl u32),.ty i64],[(.sl u32)],fun x=>od x.1 x.2⟩:=qK t141 rn z4Z Tryz.func132 [0,2] (zK rfl z1A (zK rfl z0x zl))
def t142:=t141.d z9Q
def Iu:zE:=Lz [.slot 5 u32] [Mm 0 (.sl u32),Mm 1 (.sl u32)] ⟨[Mm 6 (.int .u64),Mi 7,.a u32],[(5,.cur 0 u32)],[.arr u32]⟩ [⟨.exit 0,⟨[.a u32],[(5,.cur 0 u32)],[.arr u32]⟩⟩] fun p s=>lM p.1 p.2 s
def z8S:Hints:=Hz [(0,Iu)] [] [(9,[5])]
theorem z0L:LO Tryz.f127 Iu 0:=lk t142 rn z8S [] zl
theorem z8I:zB Pz 127 ⟨[.ty (.sl u32),.ty (.sl u32)],[(.sl u32)],fun x=>mw x.1 x.2⟩:=qK t142 rn z8S Tryz.func127 [0] (zK rfl z0L zl)
def t143:=t142.d z8I
def I2:zE:=Lz [] [Mm 5 (.sl u32),Mm 6 (.sl u32)] ⟨[Mi 7],[],[]⟩ [⟨.exit 0,⟨[],[],[]⟩⟩,⟨.ret,⟨[Mi 4],[],[]⟩⟩] fun p s=>du p.1 p.2 s
def zab:Hints:=Hz [(0,I2)] [] []
theorem z2d:LO Tryz.f128 I2 0:=lk t143 rn zab [] zl
theorem zbj:zB Pz 128 ⟨[.ty (.sl u32),.ty (.sl u32)],[i64],fun x=>iF x.1 x.2⟩:=qK t143 rn zab Tryz.func128 [0] (zK rfl z2d zl)
def t144:=t143.d zbj
def IQ:zE:=Lz [.slot 6 u32] [Mm 0 (.sl u32),Mm 1 (.sl u32)] ⟨[Mm 7 (.int .u64),Mi 8,.a u32],[(6,.cur 0 u32)],[.arr u32]⟩ [⟨.exit 0,⟨[.a u32],[(6,.cur 0 u32)],[.arr u32]⟩⟩] fun p s=>iR p.1 p.2 s
def z9t:Hints:=Hz [(0,IQ)] [(3,10,.flat [Mm 7 (.int .u64),Mm 9 (.int .u64)])] [(14,[6])]
theorem z19:LO Tryz.f129 IQ 0:=lk t144 rn z9t [] zl
theorem z9p:zB Pz 129 ⟨[.ty (.sl u32),.ty (.sl u32)],[(.sl u32),.bool],fun x=>fH x.1 x.2⟩:=qK t144 rn z9t Tryz.func129 [0] (zK rfl z19 zl)
def t145:=t144.d z9p
def SD:zE:=Lz [] [Mm 0 (.sl u32),Mm 1 (.sl u32)] ⟨[Mm 14 (.sl u32),Mi 15,.a u32],[(13,.cur 0 u32)],[.arr u32]⟩ [⟨.exit 0,⟨[Mm 14 (.sl u32),.a u32],[(13,.cur 0 u32)],[.arr u32]⟩⟩] fun p s=>uL p.1 p.2 s
def h87:Hints:=Hz [(0,SD)] [(0,5,.flat [Mb 33]),(0,7,.flat [Mb 46]),(3,16,.ways [⟨.normal,⟨[Mm 14 (.sl u32),.a u32],[(13,.cur 0 u32)],[.arr u32]⟩⟩])] [(21,[13])]
theorem z4Q:LO Tryz.f87 SD 0:=lk t145 rn h87 [] zl
theorem zeE:zB Pz 87 ⟨[.ty (.sl u32),.ty (.sl u32)],[(.sl u32),(.sl u32),.bool],fun x=>kE x.1 x.2⟩:=qK t145 rn h87 Tryz.func87 [0] (zK rfl z4Q zl)
def t146:=t145.d zeE
def Rq:zE:=Lz [] [] ⟨[Mm 5 (.sl u32),Mm 6 (.sl u32)],[],[]⟩ [⟨.exit 0,⟨[Mm 5 (.sl u32)],[],[]⟩⟩] fun p s=>dD  s
def h86:Hints:=Hz [(0,Rq)] [] []
theorem z5C:LO Tryz.f86 Rq 0:=lk t146 rn h86 [] zl
theorem zeI:zB Pz 86 ⟨[.ty (.sl u32),.ty (.sl u32)],[(.sl u32)],fun x=>X0 x.1 x.2⟩:=qK t146 rn h86 Tryz.func86 [0] (zK rfl z5C zl)
def t147:=t146.d zeI
def h40:Hints:=Hz [] [(0,2,.flat [Mb 19])] []
theorem zek:zB Pz 40 ⟨[.ty zI],[zI],fun x=>xc x⟩:=qK t147 (rz [1]) h40 Tryz.func40 [] zl
def t148:=t147.d zek
def Pb:zE:=Lz [] [Mm 0 (.sl u32),Mm 1 (.sl u32)] ⟨[Mi 5],[],[]⟩ [⟨.exit 0,⟨[],[],[]⟩⟩,⟨.ret,⟨[Mb 4],[],[]⟩⟩] fun p s=>wP p.1 p.2 s
def h41:Hints:=Hz [(0,Pb)] [] []
theorem z7e:LO Tryz.f41 Pb 0:=lk t148 rn h41 [] zl
theorem zfy:zB Pz 41 ⟨[.ty (.sl u32),.ty (.sl u32)],[.bool],fun x=>uW x.1 x.2⟩:=qK t148 rn h41 Tryz.func41 [0] (zK rfl z7e zl)
def t149:=t148.d zfy
theorem zgq:zB Pz 70 ⟨[.ty zI],[.bool],fun x=>QG x⟩:=qK t149 (rz [1]) hN Tryz.func70 [] zl
def t150:=t149.d zgq
def h71:Hints:=Hz [] [(0,2,.flat [Mb 2])] []
theorem zfV:zB Pz 71 ⟨[.ty zI],[.bool],fun x=>ki x⟩:=qK t150 (rz [1]) h71 Tryz.func71 [] zl
def t151:=t150.d zfV
theorem zfh:zB Pz 30 ⟨[.ty zI],[.bool],fun x=>cx x⟩:=qK t151 (rz [1]) hN Tryz.func30 [] zl
def t152:=t151.d zfh
theorem zau:zB Pz 116 ⟨[.ty .str],[.bool],fun x=>fR x⟩:=qK t152 rn hN Tryz.func116 [] zl
def t153:=t152.d zau
def Lk:zE:=Lz [] [Mm 0 (.sl u32),Mm 1 (.sl u32),Mi 6] ⟨[Mm 7 (.int .u64),Mi 8,.a u32],[(5,.cur 0 u32)],[.arr u32]⟩ [⟨.exit 2,⟨[.a u32],[(5,.cur 0 u32)],[.arr u32]⟩⟩] fun p s=>dF p.1 p.2.1 p.2.2 s
def IC:zE:=Lz [] [Mm 0 (.sl u32),Mm 1 (.sl u32)] ⟨[Mi 6,.a u32],[(5,.cur 0 u32)],[.arr u32]⟩ [⟨.exit 0,⟨[.a u32],[(5,.cur 0 u32)],[.arr u32]⟩⟩] fun p s=>iZ p.1 p.2 s
def z5J:Hints:=Hz [(2,Lk),(0,IC)] [(0,7,.flat [Mb 28])] [(13,[5])]
theorem z0F:LO Tryz.f126 Lk 2:=lk t153 rn z5J [] zl
theorem z1r:LO Tryz.f126 IC 0:=lk t153 rn z5J [2] (zK rfl z0F zl)
theorem zc6:zB Pz 126 ⟨[.ty (.sl u32),.ty (.sl u32)],[(.sl u32)],fun x=>uC x.1 x.2⟩:=qK t153 rn z5J Tryz.func126 [0] (zK rfl z1r zl)
def t154:=t153.d zc6
def Ip:zE:=Lz [] [] ⟨[Mm 3 (.sl u32),Ms 4],[],[]⟩ [⟨.exit 0,⟨[Ms 4],[],[]⟩⟩] fun p s=>yK  s
def zc0:Hints:=Hz [(0,Ip)] [] []
theorem z0O:LO Tryz.f199 Ip 0:=lk t154 rn zc0 [] zl
theorem zcy:zB Pz 199 ⟨[.ty (.sl u32)],[.str],fun x=>cf x⟩:=qK t154 rn zc0 Tryz.func199 [0] (zK rfl z0O zl)
def t155:=t154.d zcy
def IU:zE:=Lz [] [Mi 1] ⟨[Ms 5],[],[]⟩ [⟨.exit 0,⟨[Ms 5],[],[]⟩⟩] fun p s=>kz p s
def z9K:Hints:=Hz [(0,IU)] [] []
theorem z2p:LO Tryz.f201 IU 0:=lk t155 rn z9K [] zl
theorem zbo:zB Pz 201 ⟨[.ty (.sl u32),.ty i64],[.str],fun x=>iX x.1 x.2⟩:=qK t155 rn z9K Tryz.func201 [0] (zK rfl z2p zl)
def t156:=t155.d zbo
theorem z9h:zB Pz 198 ⟨[.ty .bool],[.str],fun x=>ff x⟩:=qK t156 rn hN Tryz.func198 [] zl
def t157:=t156.d z9h
def zgl:Hints:=Hz [] [(3,2,.flat [Ms 7])] []
theorem z8l:zB Pz 176 ⟨[.ty .bool,.ty (.sl u32),.ty i64],[.str],fun x=>oO x.1 x.2.1 x.2.2⟩:=qK t157 rn zgl Tryz.func176 [] zl
def t158:=t157.d z8l
def LA:zE:=Lz [] [] ⟨[Mm 5 (.sl u32),Mi 6,.v (.zW zI)],[(4,.ptr 0 0)],[.var (.zW zI)]⟩ [⟨.exit 0,⟨[.v (.zW zI)],[],[.var (.zW zI)]⟩⟩,⟨.ret,⟨[Ms 2,Mb 3,.v (.zW zI)],[],[.var (.zW zI)]⟩⟩] fun p s=>js  s
def z9r:Hints:=Hz [(0,LA)] [] []
theorem z2a:LO Tryz.f124 LA 0:=lk t158 (rz [1]) z9r [] zl
theorem zbg:zB Pz 124 ⟨[.ty zI],[.str,.bool],fun x=>ct x⟩:=qK t158 (rz [1]) z9r Tryz.func124 [0] (zK rfl z2a zl)
def t159:=t158.d zbg
theorem zbk:zB Pz 125 ⟨[.ty zI],[.bool],fun x=>jU x⟩:=qK t159 (rz [1]) hN Tryz.func125 [] zl
def t160:=t159.d zbk
abbrev Y77:=uN [.ty .expr,.ty i64]→T (UC [.bool])
abbrev H77(F:Y77):=zB Pz 77 ⟨[.ty .expr,.ty i64],[.bool],F⟩
def T77(nc:Y77)(BK:H77 nc):Tb:=t160.d BK
def Sr(nc:Y77):zE:=Lz [] [Mi 1,Mr 2 .expr,Mi 5] ⟨[Mi 8],[],[]⟩ [⟨.exit 1,⟨[],[],[]⟩⟩,⟨.ret,⟨[Mb 4],[],[]⟩⟩] fun p s=>cV (fun y0 y1=>nc (y0,y1)) p.1 p.2.1 p.2.2 s
def h77(nc:Y77):Hints:=Hz [(1,Sr nc)] [(3,4,.ways [⟨.normal,⟨[Mi 5],[],[]⟩⟩,⟨.ret,⟨[Mb 4],[],[]⟩⟩]),(0,17,.ways [⟨.normal,⟨[Mb 82],[],[]⟩⟩])] []
theorem z4F(nc:Y77)(BK:H77 nc):LO Tryz.f77 (Sr nc) 1:=lk (T77 nc BK) (rz [2]) (h77 nc) [] zl
theorem z5H(nc:Y77)(BK:H77 nc):zB Pz 77 ⟨[.ty .expr,.ty i64],[.bool],fun x=>nB (fun y0 y1=>nc (y0,y1)) x.1 x.2⟩:=qK (T77 nc BK) (rz [2]) (h77 nc) Tryz.func77 [1] (zK rfl (z4F nc BK) zl)
theorem zeX:zB Pz 77 ⟨[.ty .expr,.ty i64],[.bool],fun x=>nj x.1 x.2⟩:=mb (fun nc x=>nB (fun y0 y1=>nc (y0,y1)) x.1 x.2) (fun x=>rfl) (fun nc BK=>z5H nc BK)
def t161:=t160.d zeX
abbrev Y78:=uN [.ty .expr]→T (UC [i64])
abbrev H78(F:Y78):=zB Pz 78 ⟨[.ty .expr],[i64],F⟩
def T78(mA:Y78)(Cq:H78 mA):Tb:=t161.d Cq
def Sa(mA:Y78):zE:=Lz [] [Mr 1 .expr] ⟨[Mi 3,Mi 4],[],[]⟩ [⟨.exit 0,⟨[Mi 3],[],[]⟩⟩] fun p s=>yp (fun y0=>mA (y0)) p s
def h78(mA:Y78):Hints:=Hz [(0,Sa mA)] [] []
theorem z6h(mA:Y78)(Cq:H78 mA):LO Tryz.f78 (Sa mA) 0:=lk (T78 mA Cq) (rz [1]) (h78 mA) [] zl
theorem z5x(mA:Y78)(Cq:H78 mA):zB Pz 78 ⟨[.ty .expr],[i64],fun x=>eF (fun y0=>mA (y0)) x⟩:=qK (T78 mA Cq) (rz [1]) (h78 mA) Tryz.func78 [0] (zK rfl (z6h mA Cq) zl)
theorem zfp:zB Pz 78 ⟨[.ty .expr],[i64],fun x=>nL x⟩:=mb (fun mA x=>eF (fun y0=>mA (y0)) x) (fun x=>rfl) (fun mA Cq=>z5x mA Cq)
def t162:=t161.d zfp
theorem zel:zB Pz 36 ⟨[.ty .expr],[.bool],fun x=>yU x⟩:=qK t162 (rz [1]) hN Tryz.func36 [] zl
def t163:=t162.d zel
def IP:zE:=Lz [] [Mr 1 zG] ⟨[Mi 3,Mi 4],[],[]⟩ [⟨.exit 0,⟨[],[],[]⟩⟩,⟨.ret,⟨[Mb 2],[],[]⟩⟩] fun p s=>yQ p s
def Ml:zE:=Lz [] [Mr 1 zG] ⟨[Mi 3,Mi 6],[],[]⟩ [⟨.exit 2,⟨[],[],[]⟩⟩,⟨.ret,⟨[Mb 2],[],[]⟩⟩] fun p s=>yn p s
def z7m:Hints:=Hz [(0,IP),(2,Ml)] [(0,6,.ways [⟨.normal,⟨[Mb 47,.v (.zW q8)],[],[.var (.zW q8)]⟩⟩]),(0,14,.ways [⟨.normal,⟨[Mb 101,.v (.zW zm)],[],[.var (.zW zm)]⟩⟩])] []
theorem z1D:LO Tryz.f117 IP 0:=lk t163 (rz [1]) z7m [] zl
theorem z2o:LO Tryz.f117 Ml 2:=lk t163 (rz [1]) z7m [] zl
theorem za0:zB Pz 117 ⟨[.ty zG],[.bool],fun x=>nq x⟩:=qK t163 (rz [1]) z7m Tryz.func117 [0,2] (zK rfl z1D (zK rfl z2o zl))
def t164:=t163.d za0
def zge:Hints:=Hz [] [(0,3,.flat [Mb 24])] []
theorem z8U:zB Pz 168 ⟨[.ty zI],[.str],fun x=>oL x⟩:=qK t164 (rz [1]) zge Tryz.func168 [] zl
def t165:=t164.d z8U
theorem z90:zB Pz 169 ⟨[.ty .str],[.str],fun x=>tw x⟩:=qK t165 rn hN Tryz.func169 [] zl
def t166:=t165.d z90
def zec:Hints:=Hz [] [(3,2,.flat [Ms 3])] []
theorem zb5:zB Pz 170 ⟨[.ty q8],[.str],fun x=>o0 x⟩:=qK t166 (rz [1]) zec Tryz.func170 [] zl
def t167:=t166.d zb5
def zei:Hints:=Hz [] [(3,2,.flat [Mb 4]),(3,5,.flat [Mb 7])] []
theorem zc5:zB Pz 212 ⟨[.ty i64],[i64],fun x=>rF x⟩:=qK t167 rn zei Tryz.func212 [] zl
def t168:=t167.d zc5
abbrev z6H:=uN [.ty .expr,.ty i64]→T (UC [.str])
abbrev zgy(F:z6H):=zB Pz 200 ⟨[.ty .expr,.ty i64],[.str],F⟩
def zfk(Vb:z6H):Hints:=Hz [] [(3,2,.ways [⟨.normal,⟨[Ms 5],[],[]⟩⟩])] []
theorem z1e(Vb:z6H)(OW:zgy Vb):zB Pz 200 ⟨[.ty .expr,.ty i64],[.str],fun x=>lG (fun y0 y1=>Vb (y0,y1)) x.1 x.2⟩:=qK (t168.d OW) (rz [2]) (zfk Vb) Tryz.func200 [] zl
theorem zco:zB Pz 200 ⟨[.ty .expr,.ty i64],[.str],fun x=>tJ x.1 x.2⟩:=mb (fun Vb x=>lG (fun y0 y1=>Vb (y0,y1)) x.1 x.2) (fun x=>rfl) (fun Vb OW=>z1e Vb OW)
def t169:=t168.d zco
theorem zbf:zB Pz 171 ⟨[.ty .expr],[.str],fun x=>jM x⟩:=qK t169 (rz [1]) hN Tryz.func171 [] zl
def t170:=t169.d zbf
theorem z9J:zB Pz 172 ⟨[.ty i64],[.str],fun x=>Xf x⟩:=qK t170 rn hN Tryz.func172 [] zl
def t171:=t170.d z9J
theorem zck:zB Pz 173 ⟨[.ty i64],[.str],fun x=>cK x⟩:=qK t171 rn hN Tryz.func173 [] zl
def t172:=t171.d zck
def LD:zE:=Lz [] [Mr 1 zG] ⟨[Ms 3,Mi 4],[],[]⟩ [⟨.exit 0,⟨[Ms 3],[],[]⟩⟩] fun p s=>bq p s
def LB:zE:=Lz [] [Mr 1 zG] ⟨[Ms 3,Mi 6],[],[]⟩ [⟨.exit 2,⟨[Ms 3],[],[]⟩⟩] fun p s=>bJ p s
def IS:zE:=Lz [] [Mr 1 zG,Mi 7] ⟨[Ms 3,Mi 8],[],[]⟩ [⟨.exit 6,⟨[Ms 3],[],[]⟩⟩] fun p s=>bm p.1 p.2 s
def Ih:zE:=Lz [] [Mr 1 zG,Mi 7] ⟨[Ms 3,Mi 9],[],[]⟩ [⟨.exit 8,⟨[Ms 3],[],[]⟩⟩] fun p s=>bc p.1 p.2 s
def M0:zE:=Lz [] [Mr 1 zG] ⟨[Ms 3,Mi 7],[],[]⟩ [⟨.exit 4,⟨[Ms 3],[],[]⟩⟩] fun p s=>bf p s
def BH:zE:=Lz [] [Mr 1 zG] ⟨[Ms 3,Mi 11],[],[]⟩ [⟨.exit 10,⟨[Ms 3],[],[]⟩⟩] fun p s=>bS p s
def DU:Hints:=Hz [(0,LD),(2,LB),(6,IS),(8,Ih),(4,M0),(10,BH)] [(3,6,.flat [Ms 5])] []
theorem z1c:LO Tryz.f118 LD 0:=lk t172 (rz [1]) DU [] zl
theorem z1n:LO Tryz.f118 LB 2:=lk t172 (rz [1]) DU [] zl
theorem z13:LO Tryz.f118 IS 6:=lk t172 (rz [1]) DU [] zl
theorem z1M:LO Tryz.f118 Ih 8:=lk t172 (rz [1]) DU [] zl
theorem z33:LO Tryz.f118 M0 4:=lk t172 (rz [1]) DU [6,8] (zK rfl z13 (zK rfl z1M zl))
theorem RJ:LO Tryz.f118 BH 10:=lk t172 (rz [1]) DU [] zl
theorem zbG:zB Pz 118 ⟨[.ty zG],[.str],fun x=>sZ x⟩:=qK t172 (rz [1]) DU Tryz.func118 [0,2,4,10] (zK rfl z1c (zK rfl z1n (zK rfl z33 (zK rfl RJ zl))))
def t173:=t172.d zbG
def Px:zE:=Lz [] [Mr 1 zG] ⟨[Mi 3],[],[]⟩ [⟨.exit 0,⟨[],[],[]⟩⟩,⟨.ret,⟨[Mb 2],[],[]⟩⟩] fun p s=>ig p s
def OF:zE:=Lz [] [Mr 1 zG] ⟨[Mi 4],[],[]⟩ [⟨.exit 2,⟨[],[],[]⟩⟩,⟨.ret,⟨[Mb 2],[],[]⟩⟩] fun p s=>fU p s
def Sx:zE:=Lz [] [Mr 1 zG] ⟨[Mi 5],[],[]⟩ [⟨.exit 4,⟨[],[],[]⟩⟩,⟨.ret,⟨[Mb 2],[],[]⟩⟩] fun p s=>fW p s
def TT:zE:=Lz [] [Mr 1 zG] ⟨[Mi 6],[],[]⟩ [⟨.exit 6,⟨[],[],[]⟩⟩,⟨.ret,⟨[Mb 2],[],[]⟩⟩] fun p s=>fv p s
def h63:Hints:=Hz [(0,Px),(2,OF),(4,Sx),(6,TT)] [(0,9,.ways [⟨.normal,⟨[Mb 47],[],[]⟩⟩]),(0,14,.ways [⟨.normal,⟨[Mb 72],[],[]⟩⟩]),(0,20,.ways [⟨.normal,⟨[Mb 116,.v (.zW zn)],[],[.var (.zW zn)]⟩⟩])] []
theorem z5R:LO Tryz.f63 Px 0:=lk t173 (rz [1]) h63 [] zl
theorem z5d:LO Tryz.f63 OF 2:=lk t173 (rz [1]) h63 [] zl
theorem z6B:LO Tryz.f63 Sx 4:=lk t173 (rz [1]) h63 [] zl
theorem z4Y:LO Tryz.f63 TT 6:=lk t173 (rz [1]) h63 [] zl
theorem zf9:zB Pz 63 ⟨[.ty zG],[.bool],fun x=>Um x⟩:=qK t173 (rz [1]) h63 Tryz.func63 [0,2,4,6] (zK rfl z5R (zK rfl z5d (zK rfl z6B (zK rfl z4Y zl))))
def t174:=t173.d zf9
def TK:zE:=Lz [.slot 3 .str] [Mr 1 zG] ⟨[Mi 4,.a .str],[(3,.cur 0 .str)],[.arr .str]⟩ [⟨.exit 0,⟨[.a .str],[(3,.cur 0 .str)],[.arr .str]⟩⟩] fun p s=>k9 p s
def h34:Hints:=Hz [(0,TK)] [] []
theorem z5Y:LO Tryz.f34 TK 0:=lk t174 (rz [1]) h34 [] zl
theorem zgD:zB Pz 34 ⟨[.ty zG],[(.sl .str)],fun x=>gu x⟩:=qK t174 (rz [1]) h34 Tryz.func34 [0] (zK rfl z5Y zl)
def t175:=t174.d zgD
def RS:zE:=Lz [.slot 3 .str] [Mr 1 zG] ⟨[Mi 4,.a .str],[(3,.cur 0 .str)],[.arr .str]⟩ [⟨.exit 0,⟨[.a .str],[(3,.cur 0 .str)],[.arr .str]⟩⟩] fun p s=>yx p s
def z07:zE:=Lz [] [Mr 1 zG] ⟨[Mi 5,.a .str],[(3,.cur 0 .str)],[.arr .str]⟩ [⟨.exit 2,⟨[.a .str],[(3,.cur 0 .str)],[.arr .str]⟩⟩] fun p s=>yr p s
def Rn:zE:=Lz [] [Mr 1 zG] ⟨[Mi 6,.a .str],[(3,.cur 0 .str)],[.arr .str]⟩ [⟨.exit 4,⟨[.a .str],[(3,.cur 0 .str)],[.arr .str]⟩⟩] fun p s=>yy p s
def PH:zE:=Lz [] [Mr 1 zG] ⟨[Mi 7,.a .str],[(3,.cur 0 .str)],[.arr .str]⟩ [⟨.exit 6,⟨[.a .str],[(3,.cur 0 .str)],[.arr .str]⟩⟩] fun p s=>yz p s
def OQ:zE:=Lz [] [Mr 1 zG] ⟨[Mi 8,.a .str],[(3,.cur 0 .str)],[.arr .str]⟩ [⟨.exit 8,⟨[.a .str],[(3,.cur 0 .str)],[.arr .str]⟩⟩] fun p s=>yP p s
def h65:Hints:=Hz [(0,RS),(2,z07),(4,Rn),(6,PH),(8,OQ)] [] []
theorem z6q:LO Tryz.f65 RS 0:=lk t175 (rz [1]) h65 [] zl
theorem z7n:LO Tryz.f65 z07 2:=lk t175 (rz [1]) h65 [] zl
theorem z65:LO Tryz.f65 Rn 4:=lk t175 (rz [1]) h65 [] zl
theorem z6m:LO Tryz.f65 PH 6:=lk t175 (rz [1]) h65 [] zl
theorem z60:LO Tryz.f65 OQ 8:=lk t175 (rz [1]) h65 [] zl
theorem zfE:zB Pz 65 ⟨[.ty zG],[(.sl .str)],fun x=>nW x⟩:=qK t175 (rz [1]) h65 Tryz.func65 [0,2,4,6,8] (zK rfl z6q (zK rfl z7n (zK rfl z65 (zK rfl z6m (zK rfl z60 zl)))))
def t176:=t175.d zfE
def Iv:zE:=Lz [] [Mm 0 (.sl .str),Ms 1] ⟨[Mi 5],[],[]⟩ [⟨.exit 0,⟨[],[],[]⟩⟩,⟨.ret,⟨[Mb 4],[],[]⟩⟩] fun p s=>dm p.1 p.2 s
def z9w:Hints:=Hz [(0,Iv)] [] []
theorem z0M:LO Tryz.f119 Iv 0:=lk t176 rn z9w [] zl
theorem zbE:zB Pz 119 ⟨[.ty (.sl .str),.ty .str],[.bool],fun x=>yN x.1 x.2⟩:=qK t176 rn z9w Tryz.func119 [0] (zK rfl z0M zl)
def t177:=t176.d zbE
def Rf:zE:=Lz [] [Mm 0 (.sl .str)] ⟨[Mi 3],[],[]⟩ [⟨.exit 0,⟨[],[],[]⟩⟩,⟨.ret,⟨[Ms 2],[],[]⟩⟩] fun p s=>yo p s
def h64:Hints:=Hz [(0,Rf)] [] []
theorem z5K:LO Tryz.f64 Rf 0:=lk t177 rn h64 [] zl
theorem zgs:zB Pz 64 ⟨[.ty (.sl .str)],[.str],fun x=>o5 x⟩:=qK t177 rn h64 Tryz.func64 [0] (zK rfl z5K zl)
def t178:=t177.d zgs
def SN:zE:=Lz [.slot 3 .str] [Mr 1 zG] ⟨[Mi 4,.a .str],[(3,.cur 0 .str)],[.arr .str]⟩ [⟨.exit 0,⟨[.a .str],[(3,.cur 0 .str)],[.arr .str]⟩⟩] fun p s=>kc p s
def S0:zE:=Lz [] [Mr 1 zG] ⟨[Mi 5,.a .str],[(3,.cur 0 .str)],[.arr .str]⟩ [⟨.exit 2,⟨[.a .str],[(3,.cur 0 .str)],[.arr .str]⟩⟩,⟨.ret,⟨[Ms 2,.a .str],[],[.arr .str]⟩⟩] fun p s=>jI p s
def PW:zE:=Lz [] [Mr 1 zG] ⟨[Mi 6,.a .str],[(3,.cur 0 .str)],[.arr .str]⟩ [⟨.exit 4,⟨[.a .str],[],[.arr .str]⟩⟩,⟨.ret,⟨[Ms 2,.a .str],[],[.arr .str]⟩⟩] fun p s=>kH p s
def h66:Hints:=Hz [(0,SN),(2,S0),(4,PW)] [(0,9,.ways [⟨.normal,⟨[Mb 47,.a .str],[(3,.cur 0 .str)],[.arr .str]⟩⟩]),(0,14,.ways [⟨.normal,⟨[Mb 78,.a .str],[(3,.cur 0 .str)],[.arr .str]⟩⟩])] []
theorem z74:LO Tryz.f66 SN 0:=lk t178 (rz [1]) h66 [] zl
theorem z4K:LO Tryz.f66 S0 2:=lk t178 (rz [1]) h66 [] zl
theorem z6M:LO Tryz.f66 PW 4:=lk t178 (rz [1]) h66 [] zl
theorem zdJ:zB Pz 66 ⟨[.ty zG],[.str],fun x=>cX x⟩:=qK t178 (rz [1]) h66 Tryz.func66 [0,2,4] (zK rfl z74 (zK rfl z4K (zK rfl z6M zl)))
def t179:=t178.d zdJ
def Pl:zE:=Lz [.slot 3 .expr] [Mr 1 zG] ⟨[Mi 4,.a .expr],[(3,.cur 0 .expr)],[.arr .expr]⟩ [⟨.exit 0,⟨[.a .expr],[(3,.cur 0 .expr)],[.arr .expr]⟩⟩] fun p s=>yM p s
def Tq:zE:=Lz [] [Mr 1 zG] ⟨[Mi 5,.a .expr],[(3,.cur 0 .expr)],[.arr .expr]⟩ [⟨.exit 2,⟨[.a .expr],[(3,.cur 0 .expr)],[.arr .expr]⟩⟩] fun p s=>yE p s
def h68:Hints:=Hz [(0,Pl),(2,Tq)] [] []
theorem z5i:LO Tryz.f68 Pl 0:=lk t179 (rz [1]) h68 [] zl
theorem z6P:LO Tryz.f68 Tq 2:=lk t179 (rz [1]) h68 [] zl
theorem zex:zB Pz 68 ⟨[.ty zG],[(.sl .expr)],fun x=>fP x⟩:=qK t179 (rz [1]) h68 Tryz.func68 [0,2] (zK rfl z5i (zK rfl z6P zl))
def t180:=t179.d zex
abbrev BZ:=uN [.ty .expr]→T (UC [(.sl .str)])
abbrev z1E(F:BZ):=zB Pz 120 ⟨[.ty .expr],[(.sl .str)],F⟩
def z6s(ui:BZ)(sC:z1E ui):Tb:=t180.d sC
def L9(ui:BZ):zE:=Lz [] [Mr 1 .expr,Mi 4,Mm 5 (.sl .str)] ⟨[Mi 6,.a .str],[(3,.cur 0 .str)],[.arr .str]⟩ [⟨.exit 2,⟨[.a .str],[(3,.cur 0 .str)],[.arr .str]⟩⟩] fun p s=>yi (fun y0=>ui (y0)) p.1 p.2.1 p.2.2 s
def LY(ui:BZ):zE:=Lz [.slot 3 .str] [Mr 1 .expr] ⟨[Mi 4,.a .str],[(3,.cur 0 .str)],[.arr .str]⟩ [⟨.exit 0,⟨[.a .str],[(3,.cur 0 .str)],[.arr .str]⟩⟩] fun p s=>yD (fun y0=>ui (y0)) p s
def z7s(ui:BZ):Hints:=Hz [(2,L9 ui),(0,LY ui)] [] []
theorem z0V(ui:BZ)(sC:z1E ui):LO Tryz.f120 (L9 ui) 2:=lk (z6s ui sC) (rz [1]) (z7s ui) [] zl
theorem z38(ui:BZ)(sC:z1E ui):LO Tryz.f120 (LY ui) 0:=lk (z6s ui sC) (rz [1]) (z7s ui) [2] (zK rfl (z0V ui sC) zl)
theorem z1k(ui:BZ)(sC:z1E ui):zB Pz 120 ⟨[.ty .expr],[(.sl .str)],fun x=>eT (fun y0=>ui (y0)) x⟩:=qK (z6s ui sC) (rz [1]) (z7s ui) Tryz.func120 [0] (zK rfl (z38 ui sC) zl)
theorem zbh:zB Pz 120 ⟨[.ty .expr],[(.sl .str)],fun x=>fB x⟩:=mb (fun ui x=>eT (fun y0=>ui (y0)) x) (fun x=>rfl) (fun ui sC=>z1k ui sC)
def t181:=t180.d zbh
def Pu:zE:=Lz [] [Mm 0 (.sl .expr),Mm 1 (.sl .str),Mi 5,Mm 6 (.sl .str)] ⟨[Mi 7],[],[]⟩ [⟨.exit 2,⟨[],[],[]⟩⟩,⟨.ret,⟨[Ms 4],[],[]⟩⟩] fun p s=>j9 p.1 p.2.1 p.2.2.1 p.2.2.2 s
def OT:zE:=Lz [] [Mm 0 (.sl .expr),Mm 1 (.sl .str)] ⟨[Mi 5],[],[]⟩ [⟨.exit 0,⟨[],[],[]⟩⟩,⟨.ret,⟨[Ms 4],[],[]⟩⟩] fun p s=>jg p.1 p.2 s
def h67:Hints:=Hz [(2,Pu),(0,OT)] [] []
theorem z62:LO Tryz.f67 Pu 2:=lk t181 rn h67 [] zl
theorem z4H:LO Tryz.f67 OT 0:=lk t181 rn h67 [2] (zK rfl z62 zl)
theorem zdd:zB Pz 67 ⟨[.ty (.sl .expr),.ty (.sl .str)],[.str],fun x=>bO x.1 x.2⟩:=qK t181 rn h67 Tryz.func67 [0] (zK rfl z4H zl)
def t182:=t181.d zdd
def IF:zE:=Lz [] [Mm 1 (.sl .str),Mm 5 (.sl .str)] ⟨[Mi 6],[],[]⟩ [⟨.exit 0,⟨[],[],[]⟩⟩,⟨.ret,⟨[Mb 4],[],[]⟩⟩] fun p s=>cU p.1 p.2 s
def zcD:Hints:=Hz [(0,IF)] [] []
theorem z2v:LO Tryz.f121 IF 0:=lk t182 (rz [2]) zcD [] zl
theorem zcx:zB Pz 121 ⟨[.ty .expr,.ty (.sl .str)],[.bool],fun x=>gV x.1 x.2⟩:=qK t182 (rz [2]) zcD Tryz.func121 [0] (zK rfl z2v zl)
def t183:=t182.d zcx
abbrev Y69:=uN [.ty .expr,.ty (.sl .str)]→T (UC [.bool])
abbrev H69(F:Y69):=zB Pz 69 ⟨[.ty .expr,.ty (.sl .str)],[.bool],F⟩
def T69(mF:Y69)(Co:H69 mF):Tb:=t183.d Co
def SF(mF:Y69):zE:=Lz [] [Mm 1 (.sl .str),Mr 2 .expr] ⟨[Mi 5],[],[]⟩ [⟨.exit 0,⟨[],[],[]⟩⟩,⟨.ret,⟨[Mb 4],[],[]⟩⟩] fun p s=>kB (fun y0 y1=>mF (y0,y1)) p.1 p.2 s
def h69(mF:Y69):Hints:=Hz [(0,SF mF)] [(0,6,.flat [Mb 21]),(0,8,.flat [Mb 47])] []
theorem z5y(mF:Y69)(Co:H69 mF):LO Tryz.f69 (SF mF) 0:=lk (T69 mF Co) (rz [2]) (h69 mF) [] zl
theorem z5D(mF:Y69)(Co:H69 mF):zB Pz 69 ⟨[.ty .expr,.ty (.sl .str)],[.bool],fun x=>cJ (fun y0 y1=>mF (y0,y1)) x.1 x.2⟩:=qK (T69 mF Co) (rz [2]) (h69 mF) Tryz.func69 [0] (zK rfl (z5y mF Co) zl)
theorem ze6:zB Pz 69 ⟨[.ty .expr,.ty (.sl .str)],[.bool],fun x=>dB x.1 x.2⟩:=mb (fun mF x=>cJ (fun y0 y1=>mF (y0,y1)) x.1 x.2) (fun x=>rfl) (fun mF Co=>z5D mF Co)
def t184:=t183.d ze6
def OH:zE:=Lz [] [Mr 1 zG,Mm 5 (.sl .str)] ⟨[Mi 7,.a .str],[(6,.cur 0 .str)],[.arr .str]⟩ [⟨.exit 0,⟨[.a .str],[(6,.cur 0 .str)],[.arr .str]⟩⟩] fun p s=>k8 p.1 p.2 s
def PS:zE:=Lz [] [Mr 1 zG,Mm 5 (.sl .str)] ⟨[Mi 8],[],[]⟩ [⟨.exit 2,⟨[],[],[]⟩⟩,⟨.ret,⟨[Mi 2,Ms 3],[],[]⟩⟩] fun p s=>jT p.1 p.2 s
def h29:Hints:=Hz [(0,OH),(2,PS)] [(0,3,.flat [Mb 21]),(3,6,.ways [⟨.normal,⟨[Ms 4],[],[]⟩⟩]),(3,9,.ways [⟨.normal,⟨[Ms 4],[],[]⟩⟩]),(0,21,.ways [⟨.normal,⟨[Mb 85],[],[]⟩⟩])] []
theorem z4P:LO Tryz.f29 OH 0:=lk t184 (rz [1]) h29 [] zl
theorem z77:LO Tryz.f29 PS 2:=lk t184 (rz [1]) h29 [] zl
theorem zep:zB Pz 29 ⟨[.ty zG],[i64,.str],fun x=>lN x⟩:=qK t184 (rz [1]) h29 Tryz.func29 [0,2] (zK rfl z4P (zK rfl z77 zl))
def t185:=t184.d zep
def R8:zE:=Lz [.cell 0 0 .str,.cell 0 1 .str,.cell 2 1 .str] [Mr 2 zG] ⟨[Mi 6,.v (.st [.row 3 .str,.row 4 .str,.im (.sl zI)]),.a zI,.v (.st [.im (.sl .str),.row 5 .str,.row 1 zI]),.a .str,.a .str,.a .str],[(4,.ptr 0 0),(5,.ptr 2 0)],[.var (.st [.row 3 .str,.row 4 .str,.im (.sl zI)]),.arr zI,.var (.st [.im (.sl .str),.row 5 .str,.row 1 zI]),.arr .str,.arr .str,.arr .str]⟩ [⟨.exit 0,⟨[.v (.st [.row 3 .str,.row 4 .str,.im (.sl zI)]),.a zI,.v (.st [.im (.sl .str),.row 5 .str,.row 1 zI]),.a .str,.a .str,.a .str],[],[.var (.st [.row 3 .str,.row 4 .str,.im (.sl zI)]),.arr zI,.var (.st [.im (.sl .str),.row 5 .str,.row 1 zI]),.arr .str,.arr .str,.arr .str]⟩⟩] fun p s=>di p s
def h13:Hints:=Hz [(0,R8)] [] []
theorem z50:LO Tryz.f13 R8 0:=lk t185 (rz [2]) h13 [] zl
theorem zdw:zB Pz 13 ⟨[.ty zG,.ty (.sl zI)],[zP],fun x=>XK x.1 x.2⟩:=qK t185 (rz [2]) h13 Tryz.func13 [0] (zK rfl z50 zl)
def t186:=t185.d zdw
def Tc:zE:=Lz [] [Mm 1 (.sl .bool),Ms 2,Mr 3 zG] ⟨[Mi 7],[],[]⟩ [⟨.exit 0,⟨[],[],[]⟩⟩,⟨.ret,⟨[Mb 6],[],[]⟩⟩] fun p s=>iD p.1 p.2.1 p.2.2 s
def h31:Hints:=Hz [(0,Tc)] [(0,5,.flat [Mb 6])] []
theorem z5r:LO Tryz.f31 Tc 0:=lk t186 (rz [3]) h31 [] zl
theorem zfe:zB Pz 31 ⟨[.ty zG,.ty (.sl .bool),.ty .str],[.bool],fun x=>Un x.1 x.2.1 x.2.2⟩:=qK t186 (rz [3]) h31 Tryz.func31 [0] (zK rfl z5r zl)
def t187:=t186.d zfe
theorem zfZ:zB Pz 75 ⟨[.ty .bool,.ty (.sl u32),.ty (.sl u32)],[zI],fun x=>cz x.1 x.2.1 x.2.2⟩:=qK t187 rn hN Tryz.func75 [] zl
def t188:=t187.d zfZ
def h35:Hints:=Hz [] [(3,2,.flat [Mm 3 (.int .u64)])] []
theorem zfR:zB Pz 35 ⟨[.ty i64],[zI],fun x=>wa x⟩:=qK t188 rn h35 Tryz.func35 [] zl
def t189:=t188.d zfR
def Sh:zE:=Lz [] [Ms 0,Mr 3 zP] ⟨[Mi 6,.v (.zW zZ)],[(4,.ptr 0 0)],[.var (.zW zZ)]⟩ [⟨.exit 0,⟨[.v (.zW zZ)],[],[.var (.zW zZ)]⟩⟩,⟨.ret,⟨[Mi 5,.v (.zW zZ)],[],[.var (.zW zZ)]⟩⟩] fun p s=>bE p.1 p.2 s
def PV:zE:=Lz [] [Ms 0,Mr 3 zP] ⟨[Mi 7,.v (.zW zZ)],[(4,.ptr 0 0)],[.var (.zW zZ)]⟩ [⟨.exit 2,⟨[.v (.zW zZ)],[],[.var (.zW zZ)]⟩⟩,⟨.ret,⟨[Mi 5,.v (.zW zZ)],[],[.var (.zW zZ)]⟩⟩] fun p s=>bP p.1 p.2 s
def h79:Hints:=Hz [(0,Sh),(2,PV)] [(0,9,.flat [Mb 48])] []
theorem z5T:LO Tryz.f79 Sh 0:=lk t189 (rz [3]) h79 [] zl
theorem z66:LO Tryz.f79 PV 2:=lk t189 (rz [3]) h79 [] zl
theorem zgw:zB Pz 79 ⟨[.ty .str,.ty zP],[zZ,i64],fun x=>tv x.1 x.2⟩:=qK t189 (rz [3]) h79 Tryz.func79 [0,2] (zK rfl z5T (zK rfl z66 zl))
def t190:=t189.d zgw
theorem zg9:zB Pz 83 ⟨[.ty zI,.ty zI],[zI],fun x=>dy x.1 x.2⟩:=qK t190 (rz [2,3]) hN Tryz.func83 [] zl
def t191:=t190.d zg9
theorem zfP:zB Pz 38 ⟨[.ty zI],[.bool],fun x=>mG x⟩:=qK t191 (rz [1]) hN Tryz.func38 [] zl
def t192:=t191.d zfP
theorem zaZ:vL Pz 123 ⟨[.cur,.any,.any],⟨[Mi 1,Mm 2 zI,.a zq],[(0,.cur 0 zq)],[.arr zq]⟩,[],⟨[.a zq],[(0,.cur 0 zq)],[.arr zq]⟩,1,fun x=>vD x.1 x.2.1 x.2.2⟩:=On t192 (rz [5]) hN Tryz.func123 [] zl
def t193:=t192.s zaZ
def z03:zE:=Lz [.cell 0 1 zq,.cell 1 1 zq] [Mr 2 zZ,Mr 3 zI] ⟨[Mi 6,.v (.st [.im i64,.row 2 zq,.im .bool,.im (.sl u32),.im (.sl u32)]),.v (.st [.im i64,.row 3 zq,.im .bool,.im (.sl u32),.im (.sl u32)]),.a zq,.a zq],[(4,.ptr 0 0),(5,.ptr 1 0)],[.var (.st [.im i64,.row 2 zq,.im .bool,.im (.sl u32),.im (.sl u32)]),.var (.st [.im i64,.row 3 zq,.im .bool,.im (.sl u32),.im (.sl u32)]),.arr zq,.arr zq]⟩ [⟨.exit 0,⟨[.v (.st [.im i64,.row 2 zq,.im .bool,.im (.sl u32),.im (.sl u32)]),.v (.st [.im i64,.row 3 zq,.im .bool,.im (.sl u32),.im (.sl u32)]),.a zq,.a zq],[],[.var (.st [.im i64,.row 2 zq,.im .bool,.im (.sl u32),.im (.sl u32)]),.var (.st [.im i64,.row 3 zq,.im .bool,.im (.sl u32),.im (.sl u32)]),.arr zq,.arr zq]⟩⟩] fun p s=>yj p.1 p.2 s
def h74:Hints:=Hz [(0,z03)] [] []
theorem z6E:LO Tryz.f74 z03 0:=lk t193 (rz [2,3]) h74 [] zl
theorem zdl:zB Pz 74 ⟨[.ty zZ,.ty zI],[zZ],fun x=>wZ x.1 x.2⟩:=qK t193 (rz [2,3]) h74 Tryz.func74 [0] (zK rfl z6E zl)
def t194:=t193.d zdl
theorem zfQ:zB Pz 81 ⟨[.ty zI,.ty zI],[zI],fun x=>dx x.1 x.2⟩:=qK t194 (rz [2,3]) hN Tryz.func81 [] zl
def t195:=t194.d zfQ
def TC:zE:=Lz [.cell 0 1 zq,.cell 1 1 zq] [Mr 2 zZ,Mr 3 zZ] ⟨[Mi 6,Mi 7,.v (.st [.im i64,.row 2 zq,.im .bool,.im (.sl u32),.im (.sl u32)]),.v (.st [.im i64,.row 3 zq,.im .bool,.im (.sl u32),.im (.sl u32)]),.a zq,.a zq],[(4,.ptr 0 0),(5,.ptr 1 0)],[.var (.st [.im i64,.row 2 zq,.im .bool,.im (.sl u32),.im (.sl u32)]),.var (.st [.im i64,.row 3 zq,.im .bool,.im (.sl u32),.im (.sl u32)]),.arr zq,.arr zq]⟩ [⟨.exit 0,⟨[.v (.st [.im i64,.row 2 zq,.im .bool,.im (.sl u32),.im (.sl u32)]),.v (.st [.im i64,.row 3 zq,.im .bool,.im (.sl u32),.im (.sl u32)]),.a zq,.a zq],[],[.var (.st [.im i64,.row 2 zq,.im .bool,.im (.sl u32),.im (.sl u32)]),.var (.st [.im i64,.row 3 zq,.im .bool,.im (.sl u32),.im (.sl u32)]),.arr zq,.arr zq]⟩⟩] fun p s=>uU p.1 p.2 s
def h73:Hints:=Hz [(0,TC)] [(0,3,.flat [Mb 27]),(0,7,.flat [Mb 55]),(0,10,.flat [Mb 101])] []
theorem z5w:LO Tryz.f73 TC 0:=lk t195 (rz [2,3]) h73 [] zl
theorem zgk:zB Pz 73 ⟨[.ty zZ,.ty zZ],[zZ],fun x=>dC x.1 x.2⟩:=qK t195 (rz [2,3]) h73 Tryz.func73 [0] (zK rfl z5w zl)
def t196:=t195.d zgk
def zgO:Hints:=Hz [] [(0,1,.flat [Mb 6])] []
theorem z8N:zB Pz 174 ⟨[.ty zZ,.ty zZ],[zZ,i64],fun x=>sJ x.1 x.2⟩:=qK t196 (rz [2,3]) zgO Tryz.func174 [] zl
def t197:=t196.d z8N
theorem zgu:zB Pz 84 ⟨[.ty zI,.ty zI],[zI,.bool],fun x=>iI x.1 x.2⟩:=qK t197 (rz [2,3]) hN Tryz.func84 [] zl
def t198:=t197.d zgu
theorem z9x:zB Pz 175 ⟨[.ty zZ,.ty zZ],[zZ,i64],fun x=>pN x.1 x.2⟩:=qK t198 (rz [2,3]) hN Tryz.func175 [] zl
def t199:=t198.d z9x
abbrev z9H:=uN [.ty .expr,.ty zP]→T (UC [zZ,i64])
abbrev zfd(F:z9H):=zB Pz 122 ⟨[.ty .expr,.ty zP],[zZ,i64],F⟩
theorem z3c(Gl:z9H)(OI:zfd Gl):zB Pz 122 ⟨[.ty .expr,.ty zP],[zZ,i64],fun x=>tp (fun y0 y1=>Gl (y0,y1)) x.1 x.2⟩:=qK (t199.d OI) (rz [2,3]) hN Tryz.func122 [] zl
theorem zce:zB Pz 122 ⟨[.ty .expr,.ty zP],[zZ,i64],fun x=>Uu x.1 x.2⟩:=mb (fun Gl x=>tp (fun y0 y1=>Gl (y0,y1)) x.1 x.2) (fun x=>rfl) (fun Gl OI=>z3c Gl OI)
def t200:=t199.d zce
theorem zde:zB Pz 72 ⟨[.ty .expr,.ty zP],[zZ,i64],fun x=>QM x.1 x.2⟩:=qK t200 (rz [2,3]) hN Tryz.func72 [] zl
def t201:=t200.d zde
theorem zgr:zB Pz 32 ⟨[.ty zn,.ty zP],[zZ,i64],fun x=>cF x.1 x.2⟩:=qK t201 (rz [2,3]) hN Tryz.func32 [] zl
def t202:=t201.d zgr
def Te:zE:=Lz [] [Mr 1 zZ] ⟨[Mi 3],[],[]⟩ [⟨.exit 0,⟨[],[],[]⟩⟩,⟨.ret,⟨[Mb 2],[],[]⟩⟩] fun p s=>yI p s
def h33:Hints:=Hz [(0,Te)] [] []
theorem z7u:LO Tryz.f33 Te 0:=lk t202 (rz [1]) h33 [] zl
theorem zdz:zB Pz 33 ⟨[.ty zZ],[.bool],fun x=>oM x⟩:=qK t202 (rz [1]) h33 Tryz.func33 [0] (zK rfl z7u zl)
def t203:=t202.d zdz
def z3u:zE:=Lz [] [Mm 1 (.sl zI),Mm 2 (.sl .bool),Mr 3 zG] ⟨[Mi 12],[],[]⟩ [⟨.exit 0,⟨[],[],[]⟩⟩,⟨.ret,⟨[Ms 8,Mi 9],[(6,.xm),(7,.xm)],[]⟩⟩] fun p s=>bh p.1 p.2.1 p.2.2 s
def z4r:zE:=Lz [.slot 14 zZ,.slot 15 i64] [Mm 2 (.sl .bool),Mr 3 zG] ⟨[Mi 16,.v (.zW zP),.a zZ,.a i64],[(13,.ptr 0 0),(14,.cur 1 zZ),(15,.cur 2 i64)],[.var (.zW zP),.arr zZ,.arr i64]⟩ [⟨.exit 2,⟨[.v (.zW zP),.a zZ,.a i64],[(14,.cur 1 zZ),(15,.cur 2 i64)],[.var (.zW zP),.arr zZ,.arr i64]⟩⟩,⟨.ret,⟨[Ms 8,Mi 9,.v (.zW zP),.a zZ,.a i64],[(6,.xm),(7,.xm)],[.var (.zW zP),.arr zZ,.arr i64]⟩⟩] fun p s=>ub p.1 p.2 s
def z45:zE:=Lz [] [Mr 3 zG] ⟨[Mi 19,.v (.zW zP),.a zZ,.a i64],[(14,.cur 1 zZ),(15,.cur 2 i64)],[.var (.zW zP),.arr zZ,.arr i64]⟩ [⟨.exit 4,⟨[.v (.zW zP),.a zZ,.a i64],[(14,.cur 1 zZ),(15,.cur 2 i64)],[.var (.zW zP),.arr zZ,.arr i64]⟩⟩,⟨.ret,⟨[Ms 8,Mi 9,.v (.zW zP),.a zZ,.a i64],[(6,.xm),(7,.xm)],[.var (.zW zP),.arr zZ,.arr i64]⟩⟩] fun p s=>bQ p s
def h9:Hints:=Hz [(0,z3u),(2,z4r),(4,z45)] [(0,4,.flat [Mb 42])] []
theorem zba:LO Tryz.f9 z3u 0:=lk t203 (rz [3]) h9 [] zl
theorem z9j:LO Tryz.f9 z4r 2:=lk t203 (rz [3]) h9 [] zl
theorem zaN:LO Tryz.f9 z45 4:=lk t203 (rz [3]) h9 [] zl
theorem ok9:zB Pz 9 ⟨[.ty zG,.ty (.sl zI),.ty (.sl .bool)],[(.sl zZ),(.sl i64),.str,i64],fun x=>fh x.1 x.2.1 x.2.2⟩:=qK t203 (rz [3]) h9 Tryz.func9 [0,2,4] (zK rfl zba (zK rfl z9j (zK rfl zaN zl)))
def t204:=t203.d ok9
theorem zdO:zB Pz 17 ⟨[.ty zI,.ty zI],[.bool],fun x=>fc x.1 x.2⟩:=qK t204 (rz [2,3]) hN Tryz.func17 [] zl
def t205:=t204.d zdO
theorem ze5:zB Pz 14 ⟨[],[.bool],fun _=>c7⟩:=qK t205 rn hN Tryz.func14 [] zl
def t206:=t205.d ze5
def Rt:zE:=Lz [] [Mm 0 (.sl i64),Mi 1] ⟨[Mi 5],[],[]⟩ [⟨.exit 0,⟨[],[],[]⟩⟩,⟨.ret,⟨[Mb 4],[],[]⟩⟩] fun p s=>gp p.1 p.2 s
def h18:Hints:=Hz [(0,Rt)] [] []
theorem z4L:LO Tryz.f18 Rt 0:=lk t206 rn h18 [] zl
theorem zg5:zB Pz 18 ⟨[.ty (.sl i64),.ty i64],[.bool],fun x=>rv x.1 x.2⟩:=qK t206 rn h18 Tryz.func18 [0] (zK rfl z4L zl)
def t207:=t206.d zg5
def z3q:zE:=Lz [] [Mi 3,Mr 4 zG] ⟨[Mi 20,.v (.zW zY),.v (.zW zY)],[(9,.ptr 0 0),(13,.ptr 2 0)],[.var (.zW zY),.dead,.var (.zW zY)]⟩ [⟨.exit 0,⟨[.v (.zW zY),.v (.zW zY)],[],[.var (.zW zY),.dead,.var (.zW zY)]⟩⟩,⟨.ret,⟨[Mb 8,.v (.zW zY),.v (.zW zY)],[],[.var (.zW zY),.dead,.var (.zW zY)]⟩⟩] fun p s=>uY p.1 p.2 s
def h5:Hints:=Hz [(0,z3q)] [(0,1,.ways [⟨.normal,⟨[Mb 38],[],[]⟩⟩]),(0,8,.flat [Mb 76])] [(7,[12])]
theorem z8f:LO Tryz.f5 z3q 0:=lk t207 (rz [4]) h5 [] zl
theorem ok5:zB Pz 5 ⟨[.ty zG,.ty (.sl zI),.ty (.sl .bool),.ty i64],[.bool],fun x=>yT x.1 x.2.1 x.2.2.1 x.2.2.2⟩:=qK t207 (rz [4]) h5 Tryz.func5 [0] (zK rfl z8f zl)
def t208:=t207.d ok5
end Go.AM.Lf
