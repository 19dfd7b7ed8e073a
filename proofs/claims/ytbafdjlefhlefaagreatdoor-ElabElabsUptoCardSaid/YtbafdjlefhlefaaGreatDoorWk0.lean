/-
  The walk, part 0: each function of the program is the tree that the lifted text says; printed by a program of ours.
-/
import Derived.Test.YtbafdjlefhlefaaGreatDoorProg
import Derived.KernelRfl
import Derived.Test.YtbafdjlefhlefaaGreatDoorAmD
import Derived.Test.YtbafdjlefhlefaaGreatDoorLf1
import Derived.Lib.Builder
import Derived.Shelf.Strings.Builder1
import Derived.WalkKit
import Derived.TacticsInMore
import Derived.Maps.OwnOps
import Derived.Maps.AppendAt
import Derived.StringKeys
import Derived.Maps.Views
import Derived.Test.YtbafdjlefhlefaaGreatDoorSh
set_option linter.unusedVariables false
set_option maxRecDepth 100000
noncomputable section
namespace Go.AM.Lf
open Go.Proofs
abbrev XID:Nat:=52
abbrev Pz:Program:=Tryz.prog
def lR(f:Func):Code:=match f.body with | some c=>c | none=>.skip
def lb(k:Nat)(f:Func):Code:=match ZH k (lR f)with | some c=>c | none=>.skip
theorem mixed:Pz.follows .mixedOrders=true:=by kernel_rfl
instance:uA:={ u8:=5,tab:=[(1,C7 .u64 Lib.pow10Tab)] }
theorem gL{κ:KS}(hI:Inv κ):Lib.TabIs Tryz.prog κ.w "internal/strconv.uint64pow10" .u64 Lib.pow10Tab :=
 z7z (g:=1) (by kernel_rfl) (hI.gl (1,C7 .u64 Lib.pow10Tab) (by simp[uA.tab])).2
structure Tb where
 t:fW
 ok:eE Pz t
def Tb.d(T:Tb){g:Nat}{d:Ba}(h:zB Pz g d):Tb:=⟨(g,.d d)::T.t,Eh h T.ok⟩
def Tb.s(T:Tb){g:Nat}{d:cE}(h:vK Pz g d):Tb:=⟨(g,.s d)::T.t,CJ h T.ok⟩
def Tb.p(T:Tb){g:Nat}{d:lX}(h:YM Pz g d):Tb:=⟨(g,.p d)::T.t,Cu h T.ok⟩
def t0:Tb:=⟨[],Og _⟩
def fL:List (Nat×zE)→Nat→Option zE
 | [],_=>none
 | x::r,n=>bif Nat.beq x.1 n then some x.2 else fL r n
def fC:List (Nat×Nat×z1g)→Nat→Nat→Option z1g
 | [],_,_=>none
 | x::r,k,n=>bif Nat.beq x.1 k&&Nat.beq x.2.1 n then some x.2.2 else fC r k n
def fF:List (Nat×List Nat)→Nat→List Nat
 | [],_=>[]
 | x::r,n=>bif Nat.beq x.1 n then x.2 else fF r n
def Hz(l:List (Nat×zE))(c:List (Nat×Nat×z1g))(f:List (Nat×List Nat)):Hints:=⟨fL l,fC c,fF f⟩
def hN:Hints:=Hz [] [] []
def rz(l:List Nat)(s:Nat):Bool:=l.any (Nat.beq s)
def rn(_:Nat):Bool:=false
def Lz(gh:List Gh)(ps:List It)(sh:mm)(ws:List Way)(R:wU ps→sh.den→T (sh.den⊕yH ws)):zE:=⟨gh,ps,sh,ws,fun p s=>T.loop (R p) s⟩
abbrev LO(f:Func)(l:zE)(i:Nat):Prop:=X9 Pz f.ntmps l (lb i f)
def ls(f:Func):List Nat→List (Nat×Code)
 | []=>[]
 | i::r=>(i,lb i f)::ls f r
abbrev Mi(n:Nat):It:=.s n (.zY i64)
abbrev Mb(n:Nat):It:=.s n (.zY .bool)
abbrev Ms(n:Nat):It:=.s n (.zY .str)
abbrev Mm(n:Nat)(t:Ty):It:=.s n (.zY t)
abbrev Mr(n:Nat)(t:Ty):It:=.s n (.xp t)
abbrev Sh0(l:List It):mm:=⟨l,[],[]⟩
theorem lk{f:Func}{i:Nat}{gh:List Gh}{ps:List It}{sh:mm}{ws:List Way}{R:wU ps→sh.den→T (sh.den⊕yH ws)}(T:Tb)(ro:Nat→Bool)(H:Hints)(L:List Nat)(ha:H0 Pz f.ntmps H (ls f L))
  (h:∀ p s,z04 (ya Pz XID T.t ro) T.t f.ntmps H (Lz gh ps sh ws R) (lb i f) p s=R p s:=by intro p s; kernel_rfl) (hl:vG (lb i f)=ls f L:=by kernel_rfl):LO f (Lz gh ps sh ws R) i :=
 z1i (xid:=XID) (ro:=ro) (H:=H) mixed T.ok (XQ hl ha) R h fun _ _=>rfl
theorem qJ{f:Nat}{fn:Func}{d:Ba}(T:Tb)(ro:Nat→Bool)(H:Hints)(hf:Pz.funcs[f]? = some fn)(L:List Nat)(ha:H0 Pz fn.ntmps H (ls fn L))
  (h:∀ x,Tt (ya Pz XID T.t ro) T.t H fn (lR fn) d x=d.F x:=by intro x; kernel_rfl) (hb:fn.body=some (lR fn):=by rfl) (hn:(fn.name == "runtime.NumGoroutine")=false:=by kernel_rfl) (hl:vG (lR fn)=ls fn L:=by kernel_rfl):zB Pz f d :=
 z9M (xid:=XID) (ro:=ro) (H:=H) mixed T.ok hf hb hn (XQ hl ha) h
theorem Ol{f:Nat}{fn:Func}{d:cE}(T:Tb)(ro:Nat→Bool)(H:Hints)(hf:Pz.funcs[f]? = some fn)(L:List Nat)(ha:H0 Pz fn.ntmps H (ls fn L))
  (h:∀ x,Fl (ya Pz XID T.t ro) T.t H fn (lR fn) d x=d.F x:=by intro x; kernel_rfl) (hb:fn.body=some (lR fn):=by rfl) (hn:(fn.name == "runtime.NumGoroutine")=false:=by kernel_rfl) (hl:vG (lR fn)=ls fn L:=by kernel_rfl):vK Pz f d :=
 z5e (xid:=XID) (ro:=ro) (H:=H) mixed T.ok hf hb hn (XQ hl ha) h
def hdB(c:Code):Code:=match c with | .seq _ b=>b | _=>.skip
def hdO(c:Code):Array Oper:=match c with | .seq (.region _ ops _) _=>ops | _ => #[]
def hdI(c:Code):Nat:=match c with | .seq (.region id _ _) _=>id | _=>0
theorem fkp{f:Nat}{fn:Func}{d:lX}(T:Tb)(ro:Nat→Bool)(H:Hints)(hf:Pz.funcs[f]? = some fn)(L:List Nat)(ha:H0 Pz fn.ntmps H (ls fn L))
  (h:∀ x,EE (ya Pz XID T.t ro) T.t H fn (lR fn) d x=d.F x:=by intro x; kernel_rfl) (hb:fn.body=some (lR fn):=by rfl) (hn:(fn.name == "runtime.NumGoroutine")=false:=by kernel_rfl) (hl:vG (lR fn)=ls fn L:=by kernel_rfl):YM Pz f d :=
 z5b (xid:=XID) (ro:=ro) (H:=H) mixed T.ok hf hb hn (XQ hl ha) h
abbrev Y19:=uT [.ty .expr,.ty i64]→T (K7 [i64])
abbrev H19(F:Y19):=zB Pz 19 ⟨[.ty .expr,.ty i64],[i64],F⟩
def T19(nd:Y19)(Bf:H19 nd):Tb:=t0.d Bf
def RC(nd:Y19):zE:=Lz [] [Mr 2 .expr] ⟨[Mi 1,Mi 5],[],[]⟩ [⟨.exit 0,⟨[Mi 1],[],[]⟩⟩] fun p s=>jW (fun y0 y1=>nd (y0,y1)) p s
def h19(nd:Y19):Hints:=Hz [(0,RC nd)] [(0,3,.flat [Mb 32])] []
theorem z4O(nd:Y19)(Bf:H19 nd):LO Tryz.f19 (RC nd) 0:=lk (T19 nd Bf) (rz [2]) (h19 nd) [] zl
theorem z5Z(nd:Y19)(Bf:H19 nd):zB Pz 19 ⟨[.ty .expr,.ty i64],[i64],fun x=>cA (fun y0 y1=>nd (y0,y1)) x.1 x.2⟩:=qJ (T19 nd Bf) (rz [2]) (h19 nd) Tryz.func19 [0] (zI rfl (z4O nd Bf) zl)
theorem zes:zB Pz 19 ⟨[.ty .expr,.ty i64],[i64],fun x=>kE x.1 x.2⟩:=mg (fun nd x=>cA (fun y0 y1=>nd (y0,y1)) x.1 x.2) (fun x=>rfl) (fun nd Bf=>z5Z nd Bf)
def t1:=t0.d zes
def z4i:zE:=Lz [] [Mr 1 zG] ⟨[Mi 3,Mi 4],[],[]⟩ [⟨.exit 0,⟨[Mi 3],[],[]⟩⟩] fun p s=>yJ p s
def z3F:zE:=Lz [] [Mr 1 zG] ⟨[Mi 3,Mi 5],[],[]⟩ [⟨.exit 2,⟨[Mi 3],[],[]⟩⟩] fun p s=>yQ p s
def z4f:zE:=Lz [] [Mr 1 zG] ⟨[Mi 3,Mi 6],[],[]⟩ [⟨.exit 4,⟨[Mi 3],[],[]⟩⟩] fun p s=>yR p s
def z3Q:zE:=Lz [] [Mr 1 zG] ⟨[Mi 3,Mi 7],[],[]⟩ [⟨.exit 6,⟨[Mi 3],[],[]⟩⟩] fun p s=>yj p s
def z4m:zE:=Lz [] [Mr 1 zG] ⟨[Mi 3,Mi 8],[],[]⟩ [⟨.exit 8,⟨[Mi 3],[],[]⟩⟩] fun p s=>yO p s
def R9:zE:=Lz [] [Mr 1 zG] ⟨[Mi 3,Mi 9],[],[]⟩ [⟨.exit 10,⟨[Mi 3],[],[]⟩⟩] fun p s=>yk p s
def h6:Hints:=Hz [(0,z4i),(2,z3F),(4,z4f),(6,z3Q),(8,z4m),(10,R9)] [(0,3,.flat [Mb 43]),(0,7,.flat [Mb 83]),(0,11,.flat [Mb 103]),(0,15,.flat [Mb 131]),(0,19,.flat [Mb 151]),(0,23,.flat [Mb 193])] []
theorem zcy:LO Tryz.f6 z4i 0:=lk t1 (rz [1]) h6 [] zl
theorem zaP:LO Tryz.f6 z3F 2:=lk t1 (rz [1]) h6 [] zl
theorem zcn:LO Tryz.f6 z4f 4:=lk t1 (rz [1]) h6 [] zl
theorem z89:LO Tryz.f6 z3Q 6:=lk t1 (rz [1]) h6 [] zl
theorem z8Y:LO Tryz.f6 z4m 8:=lk t1 (rz [1]) h6 [] zl
theorem z6C:LO Tryz.f6 R9 10:=lk t1 (rz [1]) h6 [] zl
theorem ok6:zB Pz 6 ⟨[.ty zG],[.bool],fun x=>cj x⟩:=qJ t1 (rz [1]) h6 Tryz.func6 [0,2,4,6,8,10] (zI rfl zcy (zI rfl zaP (zI rfl zcn (zI rfl z89 (zI rfl z8Y (zI rfl z6C zl))))))
def t2:=t1.d ok6
def z4u:zE:=Lz [] [Mm 0 (.sl zJ)] ⟨[Mi 3,Mi 4],[],[]⟩ [⟨.exit 0,⟨[],[],[]⟩⟩,⟨.ret,⟨[Mb 2],[],[]⟩⟩] fun p s=>bL p s
def h7:Hints:=Hz [(0,z4u)] [(0,6,.flat [Mb 46])] []
theorem zca:LO Tryz.f7 z4u 0:=lk t2 rn h7 [] zl
theorem ok7:zB Pz 7 ⟨[.ty (.sl zJ)],[.bool],fun x=>fe x⟩:=qJ t2 rn h7 Tryz.func7 [0] (zI rfl zca zl)
def t3:=t2.d ok7
def zdY:Hints:=Hz [] [(0,1,.flat [Mb 2])] []
theorem zct:zB Pz 178 ⟨[.ty (.int .u8)],[.bool],fun x=>uv x⟩:=qJ t3 rn zdY Tryz.func178 [] zl
def t4:=t3.d zct
def zgt:Hints:=Hz [] [(0,1,.flat [Mb 2])] []
theorem zap:zB Pz 202 ⟨[.ty (.int .u8)],[.bool],fun x=>o5 x⟩:=qJ t4 rn zgt Tryz.func202 [] zl
def t5:=t4.d zap
theorem z8T:zB Pz 179 ⟨[.ty (.int .u8)],[.bool],fun x=>eS x⟩:=qJ t5 rn hN Tryz.func179 [] zl
def t6:=t5.d z8T
def M5:zE:=Lz [] [Ms 0,Mi 18] ⟨[Mi 19],[],[]⟩ [⟨.exit 0,⟨[],[],[]⟩⟩,⟨.ret,⟨[Mb 2],[],[]⟩⟩] fun p s=>kS p.1 p.2 s
def zb8:Hints:=Hz [(0,M5)] [(0,1,.ways [⟨.normal,⟨[Mb 16],[],[]⟩⟩])] []
theorem z29:LO Tryz.f134 M5 0:=lk t6 rn zb8 [] zl
theorem z8O:zB Pz 134 ⟨[.ty .str],[.bool],fun x=>uI x⟩:=qJ t6 rn zb8 Tryz.func134 [0] (zI rfl z29 zl)
def t7:=t6.d z8O
theorem zcF:zB Pz 133 ⟨[.ty zW],[.bool],fun x=>vE x⟩:=qJ t7 (rz [1]) hN Tryz.func133 [] zl
def t8:=t7.d zcF
def TB:zE:=Lz [] [Mm 0 (.sl zW),.s 1 (.xk 133 []),Mi 7] ⟨[Mi 8],[],[]⟩ [⟨.exit 0,⟨[],[],[]⟩⟩,⟨.ret,⟨[Mi 4],[],[]⟩⟩] fun p s=>qe p.1 (fun z0=>vE z0) p.2.2 s
def h55:Hints:=Hz [(0,TB)] [] []
theorem z5V:LO Tryz.f55 TB 0:=lk t8 rn h55 [] zl
theorem zgK:zB Pz 55 ⟨[.ty (.sl zW),.xk 133 []],[i64],fun x=>qm x.1 (fun z0=>vE z0)⟩:=qJ t8 rn h55 Tryz.func55 [0] (zI rfl z5V zl)
def t9:=t8.d zgK
theorem zek:zB Pz 94 ⟨[.ty (.sl zW),.xk 133 []],[.bool],fun x=>qA x.1 (fun z0=>vE z0)⟩:=qJ t9 rn hN Tryz.func94 [] zl
def t10:=t9.d zek
def h49:Hints:=Hz [] [(0,1,.flat [Mb 2])] []
theorem zdo:zB Pz 49 ⟨[.ty (.sl u32)],[.bool],fun x=>ig x⟩:=qJ t10 rn h49 Tryz.func49 [] zl
def t11:=t10.d zdo
def Iy:zE:=Lz [] [] ⟨[Mm 0 (.sl u32)],[],[]⟩ [⟨.exit 0,⟨[Mm 0 (.sl u32)],[],[]⟩⟩] fun p s=>lC  s
def z8H:Hints:=Hz [(0,Iy)] [] []
theorem z2n:LO Tryz.f105 Iy 0:=lk t11 rn z8H [] zl
theorem zam:zB Pz 105 ⟨[.ty (.sl u32)],[(.sl u32)],fun x=>xJ x⟩:=qJ t11 rn z8H Tryz.func105 [0] (zI rfl z2n zl)
def t12:=t11.d zam
def zeJ:Hints:=Hz [] [(0,1,.z4E)] []
theorem zbp:zB Pz 157 ⟨[.ty (.sl u32)],[(.sl u32)],fun x=>vi x⟩:=qJ t12 rn zeJ Tryz.func157 [] zl
def t13:=t12.d zbp
theorem z8l:zB Pz 106 ⟨[.ty (.sl u32)],[(.sl u32)],fun x=>bI x⟩:=qJ t13 rn hN Tryz.func106 [] zl
def t14:=t13.d z8l
def TV:zE:=Lz [] [Mm 0 (.sl u32),Mm 1 (.sl u32)] ⟨[Mi 5],[],[]⟩ [⟨.exit 0,⟨[],[],[]⟩⟩,⟨.ret,⟨[Mi 4],[],[]⟩⟩] fun p s=>fS p.1 p.2 s
def h50:Hints:=Hz [(0,TV)] [] []
theorem z4Y:LO Tryz.f50 TV 0:=lk t14 rn h50 [] zl
theorem zdH:zB Pz 50 ⟨[.ty (.sl u32),.ty (.sl u32)],[i64],fun x=>iS x.1 x.2⟩:=qJ t14 rn h50 Tryz.func50 [0] (zI rfl z4Y zl)
def t15:=t14.d zdH
def zdJ:Hints:=Hz [] [(0,1,.flat [Mb 15])] []
theorem za2:zB Pz 187 ⟨[.ty u32,.ty u32,.ty u32],[u32,u32],fun x=>yW x.1 x.2.1 x.2.2⟩:=qJ t15 rn zdJ Tryz.func187 [] zl
def t16:=t15.d za2
def Lx:zE:=Lz [] [Mm 0 (.sl u32),Mm 1 u32] ⟨[Mm 7 u32,Mi 8,.a u32],[(6,.cur 0 u32)],[.arr u32]⟩ [⟨.exit 0,⟨[Mm 7 u32,.a u32],[(6,.cur 0 u32)],[.arr u32]⟩⟩] fun p s=>eZ p.1 p.2 s
def z9C:Hints:=Hz [(0,Lx)] [] [(7,[6])]
theorem z2c:LO Tryz.f158 Lx 0:=lk t16 rn z9C [] zl
theorem zaT:zB Pz 158 ⟨[.ty (.sl u32),.ty u32],[(.sl u32),u32],fun x=>fc x.1 x.2⟩:=qJ t16 rn z9C Tryz.func158 [0] (zI rfl z2c zl)
def t17:=t16.d zaT
theorem ze7:zB Pz 52 ⟨[.ty (.int .u64)],[(.sl u32)],fun x=>jP x⟩:=qJ t17 rn hN Tryz.func52 [] zl
def t18:=t17.d ze7
def zdf:Hints:=Hz [] [(3,1,.flat [Mm 0 u32,Mi 2]),(3,4,.flat [Mm 0 u32,Mi 2])] []
theorem z9f:zB Pz 207 ⟨[.ty u32],[i64],fun x=>yU x⟩:=qJ t18 rn zdf Tryz.func207 [] zl
def t19:=t18.d z9f
theorem zb5:zB Pz 188 ⟨[.ty u32],[i64],fun x=>wQ x⟩:=qJ t19 rn hN Tryz.func188 [] zl
def t20:=t19.d zb5
def L1:zE:=Lz [] [Mm 1 (.int .u64),Mi 2,Mm 13 (.sl u32),Mi 14] ⟨[Mi 15,.a u32],[(7,.cur 0 u32)],[.arr u32]⟩ [⟨.exit 0,⟨[.a u32],[(7,.cur 0 u32)],[.arr u32]⟩⟩] fun p s=>Zj p.1 p.2.1 p.2.2.1 p.2.2.2 s
def zao:Hints:=Hz [(0,L1)] [] []
theorem z1Y:LO Tryz.f189 L1 0:=lk t20 rn zao [] zl
theorem z3K:vK Pz 189 ⟨[.any,.any,.any],⟨[Mm 0 (.sl u32),Mm 1 (.int .u64),Mi 2],[],[]⟩,[],⟨[.a u32],[(0,.cur 0 u32)],[.arr u32]⟩,1,fun x=>fK x.1 x.2.1 x.2.2⟩:=Ol t20 rn zao Tryz.func189 [0] (zI rfl z1Y zl)
def t21:=t20.s z3K
def I7:zE:=Lz [] [Mm 2 u32,Mm 3 u32,Mm 4 u32] ⟨[Mm 12 (.int .u64),Mm 13 (.int .u64)],[],[]⟩ [⟨.exit 0,⟨[Mm 12 (.int .u64)],[],[]⟩⟩] fun p s=>bD p.1 p.2.1 p.2.2 s
def zbJ:Hints:=Hz [(0,I7)] [(0,3,.flat [Mb 42])] []
theorem z0q:LO Tryz.f190 I7 0:=lk t21 rn zbJ [] zl
theorem zbt:zB Pz 190 ⟨[.ty u32,.ty u32,.ty u32,.ty u32,.ty u32],[(.int .u64)],fun x=>fm x.1 x.2.1 x.2.2.1 x.2.2.2.1 x.2.2.2.2⟩:=qJ t21 rn zbJ Tryz.func190 [0] (zI rfl z0q zl)
def t22:=t21.d zbt
theorem zbR:zB Pz 197 ⟨[.ty u32,.ty u32,.ty u32],[u32,u32],fun x=>vV x.1 x.2.1 x.2.2⟩:=qJ t22 rn hN Tryz.func197 [] zl
def t23:=t22.d zbR
theorem z8Q:zB Pz 208 ⟨[.ty u32,.ty u32,.ty u32],[u32,u32],fun x=>yX x.1 x.2.1 x.2.2⟩:=qJ t23 rn hN Tryz.func208 [] zl
def t24:=t23.d z8Q
def LG:zE:=Lz [] [Mm 1 (.sl u32),Mm 2 (.int .u64),Mm 14 (.sl u32),Mi 15] ⟨[.s 0 (.sub 0 u32),Mm 7 (.int .u64),Mm 8 u32,Mi 16,.a u32],[],[.arr u32]⟩ [⟨.exit 0,⟨[.s 0 (.sub 0 u32),Mm 7 (.int .u64),Mm 8 u32,.a u32],[],[.arr u32]⟩⟩] fun p s=>bA p.1 p.2.1 p.2.2.1 p.2.2.2 s
def I6:zE:=Lz [] [Mm 1 (.sl u32),Mm 62 (.sl u32),Mi 63] ⟨[.s 0 (.sub 0 u32),Mm 11 u32,Mi 64,.a u32],[],[.arr u32]⟩ [⟨.exit 2,⟨[.s 0 (.sub 0 u32),Mm 11 u32,.a u32],[],[.arr u32]⟩⟩] fun p s=>bP p.1 p.2.1 p.2.2 s
def z4S:Hints:=Hz [(0,LG),(2,I6)] [] []
theorem z1A:LO Tryz.f191 LG 0:=lk t24 rn z4S [] zl
theorem z0F:LO Tryz.f191 I6 2:=lk t24 rn z4S [] zl
theorem z9c:vK Pz 191 ⟨[.sub,.any,.any],⟨[.s 0 (.sub 0 u32),Mm 1 (.sl u32),Mm 2 (.int .u64),.a u32],[],[.arr u32]⟩,[],⟨[Mb 0,.a u32],[],[.arr u32]⟩,1,fun x=>lA x.1 x.2.1 x.2.2.1 x.2.2.2⟩:=Ol t24 rn z4S Tryz.func191 [0,2] (zI rfl z1A (zI rfl z0F zl))
def t25:=t24.s z9c
def YT:zE:=Lz [] [Mm 1 (.int .u64),Mi 2,Mm 13 (.sl u32),Mi 14] ⟨[Mi 15,.a u32],[(7,.cur 0 u32)],[.arr u32]⟩ [⟨.exit 0,⟨[.a u32],[(7,.cur 0 u32)],[.arr u32]⟩⟩] fun p s=>cY p.1 p.2.1 p.2.2.1 p.2.2.2 s
def PY:Hints:=Hz [(0,YT)] [] []
theorem NK:LO Tryz.f189 YT 0:=lk t25 rn PY [] zl
theorem Md:zB Pz 189 ⟨[.ty (.sl u32),.ty (.int .u64),.ty i64],[(.sl u32)],fun x=>Xu x.1 x.2.1 x.2.2⟩:=qJ t25 rn PY Tryz.func189 [0] (zI rfl NK zl)
def t26:=t25.d Md
def z8p:Tb:=t26.d Md
def LV:zE:=Lz [] [Mm 6 (.int .u64),Mm 38 (.sl u32),Mi 39] ⟨[Mi 40,.a u32],[(7,.cur 0 u32)],[.arr u32]⟩ [⟨.exit 0,⟨[.a u32],[(7,.cur 0 u32)],[.arr u32]⟩⟩] fun p s=>b9 p.1 p.2.1 p.2.2 s
def zaE:Hints:=Hz [(0,LV)] [] [(17,[7]),(21,[12])]
theorem z2V:LO Tryz.f192 LV 0:=lk z8p rn zaE [] zl
theorem z9B:zB Pz 192 ⟨[.ty (.sl u32),.ty i64],[(.sl u32)],fun x=>c9 x.1 x.2⟩:=qJ z8p rn zaE Tryz.func192 [0] (zI rfl z2V zl)
def t27:=t26.d z9B
def zb3:Tb:=t27.s z3K
def LF:zE:=Lz [] [Mm 6 (.int .u64),Mm 8 (.sl u32),Mi 9] ⟨[Mi 10,.a u32,.a u32],[(4,.cur 2 u32),(7,.cur 0 u32)],[.arr u32,.dead,.arr u32]⟩ [⟨.exit 0,⟨[.a u32,.a u32],[(4,.cur 2 u32),(7,.cur 0 u32)],[.arr u32,.dead,.arr u32]⟩⟩] fun p s=>dH p.1 p.2.1 p.2.2 s
def zaG:Hints:=Hz [(0,LF)] [(3,9,.ways [⟨.normal,⟨[Mm 11 (.int .u64),.a u32,.a u32],[(4,.cur 2 u32),(7,.cur 0 u32)],[.arr u32,.dead,.arr u32]⟩⟩])] [(5,[8]),(12,[4,7])]
theorem z1K:LO Tryz.f159 LF 0:=lk zb3 rn zaG [] zl
theorem z8t:zB Pz 159 ⟨[.ty (.sl u32),.ty (.sl u32)],[(.sl u32),(.sl u32)],fun x=>Qo x.1 x.2⟩:=qJ zb3 rn zaG Tryz.func159 [0] (zI rfl z1K zl)
def t28:=t27.d z8t
theorem z9j:zB Pz 107 ⟨[.ty (.sl u32),.ty (.sl u32)],[(.sl u32),(.sl u32),.bool],fun x=>gm x.1 x.2⟩:=qJ t28 rn hN Tryz.func107 [] zl
def t29:=t28.d z9j
def z03:zE:=Lz [] [] ⟨[Mm 0 (.sl u32),Mm 1 (.sl u32)],[],[]⟩ [⟨.exit 0,⟨[Mm 0 (.sl u32)],[],[]⟩⟩] fun p s=>fA  s
def h51:Hints:=Hz [(0,z03)] [] []
theorem z5N:LO Tryz.f51 z03 0:=lk t29 rn h51 [] zl
theorem zgm:zB Pz 51 ⟨[.ty (.sl u32),.ty (.sl u32)],[(.sl u32)],fun x=>Xj x.1 x.2⟩:=qJ t29 rn h51 Tryz.func51 [0] (zI rfl z5N zl)
def t30:=t29.d zgm
def h23:Hints:=Hz [] [(0,1,.ways [⟨.normal,⟨[Mb 28],[],[]⟩⟩])] []
theorem zfI:zB Pz 23 ⟨[.ty zJ],[.bool],fun x=>rf x⟩:=qJ t30 (rz [1]) h23 Tryz.func23 [] zl
def t31:=t30.d zfI
def zgg:Hints:=Hz [] [(0,2,.flat [Mb 19])] []
theorem zai:zB Pz 108 ⟨[.ty .bool,.ty (.sl u32),.ty (.sl u32)],[zJ],fun x=>np x.1 x.2.1 x.2.2⟩:=qJ t31 rn zgg Tryz.func108 [] zl
def t32:=t31.d zai
theorem zgF:zB Pz 53 ⟨[.ty zJ],[zJ],fun x=>xQ x⟩:=qJ t32 (rz [1]) hN Tryz.func53 [] zl
def t33:=t32.d zgF
def h24:Hints:=Hz [] [(0,2,.flat [Mb 2])] []
theorem zga:zB Pz 24 ⟨[.ty zJ],[.bool],fun x=>uS x⟩:=qJ t33 rn h24 Tryz.func24 [] zl
def t34:=t33.d zga
theorem zbb:zB Pz 135 ⟨[.ty zX],[.bool],fun x=>vC x⟩:=qJ t34 (rz [1]) hN Tryz.func135 [] zl
def t35:=t34.d zbb
def IH:zE:=Lz [] [Mm 0 (.sl zX),.s 1 (.xk 135 []),Mi 7] ⟨[Mi 8],[],[]⟩ [⟨.exit 0,⟨[],[],[]⟩⟩,⟨.ret,⟨[Mi 4],[],[]⟩⟩] fun p s=>qS p.1 (fun z0=>vC z0) p.2.2 s
def zay:Hints:=Hz [(0,IH)] [] []
theorem z2y:LO Tryz.f153 IH 0:=lk t35 rn zay [] zl
theorem zbo:zB Pz 153 ⟨[.ty (.sl zX),.xk 135 []],[i64],fun x=>xP x.1 (fun z0=>vC z0)⟩:=qJ t35 rn zay Tryz.func153 [0] (zI rfl z2y zl)
def t36:=t35.d zbo
theorem z9a:zB Pz 100 ⟨[.ty (.sl zX),.xk 135 []],[.bool],fun x=>qE x.1 (fun z0=>vC z0)⟩:=qJ t36 rn hN Tryz.func100 [] zl
def t37:=t36.d z9a
theorem z9Y:zB Pz 138 ⟨[.ty .str],[.bool],fun x=>kX x⟩:=qJ t37 rn hN Tryz.func138 [] zl
def t38:=t37.d z9Y
theorem za1:zB Pz 137 ⟨[.ty qu],[.bool],fun x=>vu x⟩:=qJ t38 (rz [1]) hN Tryz.func137 [] zl
def t39:=t38.d za1
def Ln:zE:=Lz [] [Mm 0 (.sl qu),.s 1 (.xk 137 []),Mi 7] ⟨[Mi 8],[],[]⟩ [⟨.exit 0,⟨[],[],[]⟩⟩,⟨.ret,⟨[Mi 4],[],[]⟩⟩] fun p s=>xG p.1 (fun z0=>vu z0) p.2.2 s
def zb4:Hints:=Hz [(0,Ln)] [] []
theorem z3f:LO Tryz.f180 Ln 0:=lk t39 rn zb4 [] zl
theorem zbF:zB Pz 180 ⟨[.ty (.sl qu),.xk 137 []],[i64],fun x=>wR x.1 (fun z0=>vu z0)⟩:=qJ t39 rn zb4 Tryz.func180 [0] (zI rfl z3f zl)
def t40:=t39.d zbF
theorem z9n:zB Pz 136 ⟨[.ty (.sl qu),.xk 137 []],[.bool],fun x=>xB x.1 (fun z0=>vu z0)⟩:=qJ t40 rn hN Tryz.func136 [] zl
def t41:=t40.d z9n
theorem zgo:zB Pz 88 ⟨[.ty zG],[.bool],fun x=>lL x⟩:=qJ t41 (rz [1]) hN Tryz.func88 [] zl
def t42:=t41.d zgo
def zgD:Hints:=Hz [] [(0,1,.flat [Mb 6])] []
theorem zbD:zB Pz 139 ⟨[.ty i64,.ty i64,.ty i64],[.bool],fun x=>bw x.1 x.2.1 x.2.2⟩:=qJ t42 rn zgD Tryz.func139 [] zl
def t43:=t42.d zbD
def Ra:zE:=Lz [] [Mr 1 zG,Mm 7 (.sl q7),Mi 8] ⟨[Mi 3,Mi 9],[],[]⟩ [⟨.exit 0,⟨[],[],[]⟩⟩,⟨.ret,⟨[Mb 2],[],[]⟩⟩] fun p s=>jg p.1 p.2.1 p.2.2 s
def h89:Hints:=Hz [(0,Ra)] [(0,5,.ways [⟨.normal,⟨[Mb 36,.v (.zY q7)],[],[.var (.zY q7)]⟩⟩])] []
theorem z5D:LO Tryz.f89 Ra 0:=lk t43 (rz [1]) h89 [] zl
theorem zgH:zB Pz 89 ⟨[.ty zG],[.bool],fun x=>eX x⟩:=qJ t43 (rz [1]) h89 Tryz.func89 [0] (zI rfl z5D zl)
def t44:=t43.d zgH
theorem zaC:zB Pz 140 ⟨[],[(.sl .str)],fun _=>uL⟩:=qJ t44 rn hN Tryz.func140 [] zl
def t45:=t44.d zaC
def zfd:Hints:=Hz [] [(3,2,.flat [Mb 4])] []
theorem zaN:zB Pz 209 ⟨[.ty i64],[i64],fun x=>sV x⟩:=qJ t45 rn zfd Tryz.func209 [] zl
def t46:=t45.d zaN
def LY:zE:=Lz [] [Mm 1 (.sl u32),Mi 6,Mm 7 u32,Mm 21 (.sl u32),Mi 22,Mi 23,Mm 28 (.sl u32),Mi 29] ⟨[Mm 8 (.int .u64),Mi 30,.a u32],[(5,.cur 0 u32)],[.arr u32]⟩ [⟨.exit 2,⟨[Mm 8 (.int .u64),.a u32],[(5,.cur 0 u32)],[.arr u32]⟩⟩] fun p s=>oc p.1 p.2.1 p.2.2.1 p.2.2.2.1 p.2.2.2.2.1 p.2.2.2.2.2.1 p.2.2.2.2.2.2.1 p.2.2.2.2.2.2.2 s
def Im:zE:=Lz [] [Mm 1 (.sl u32),Mm 21 (.sl u32),Mi 22] ⟨[Mi 23,.a u32],[(5,.cur 0 u32)],[.arr u32]⟩ [⟨.exit 0,⟨[.a u32],[(5,.cur 0 u32)],[.arr u32]⟩⟩] fun p s=>nt p.1 p.2.1 p.2.2 s
def z6S:Hints:=Hz [(2,LY),(0,Im)] [] [(16,[5])]
theorem z2e:LO Tryz.f163 LY 2:=lk t46 rn z6S [] zl
theorem z1Q:LO Tryz.f163 Im 0:=lk t46 rn z6S [2] (zI rfl z2e zl)
theorem zbi:zB Pz 163 ⟨[.ty (.sl u32),.ty (.sl u32)],[(.sl u32)],fun x=>gR x.1 x.2⟩:=qJ t46 rn z6S Tryz.func163 [0] (zI rfl z1Q zl)
def t47:=t46.d zbi
def Iu:zE:=Lz [] [Mi 5] ⟨[Mm 3 (.sl u32),Mi 6],[],[]⟩ [⟨.exit 0,⟨[Mm 3 (.sl u32)],[],[]⟩⟩] fun p s=>iH p s
def zbN:Hints:=Hz [(0,Iu)] [] []
theorem z22:LO Tryz.f218 Iu 0:=lk t47 rn zbN [] zl
theorem zcw:zB Pz 218 ⟨[.ty i64],[(.sl u32)],fun x=>U8 x⟩:=qJ t47 rn zbN Tryz.func218 [0] (zI rfl z22 zl)
def t48:=t47.d zcw
theorem zbE:zB Pz 183 ⟨[.ty zJ],[.str],fun x=>rZ x⟩:=qJ t48 (rz [1]) hN Tryz.func183 [] zl
def t49:=t48.d zbE
def Le:zE:=Lz [] [] ⟨[.s 0 (.sub 0 (.int .u8)),Mi 2,Mi 3,.a (.int .u8)],[],[.arr (.int .u8)]⟩ [⟨.exit 0,⟨[.a (.int .u8)],[],[.arr (.int .u8)]⟩⟩] fun p s=>wb  s
def zcz:Hints:=Hz [(0,Le)] [] []
theorem z16:LO Tryz.f204 Le 0:=lk t49 rn zcz [] zl
theorem zaj:vK Pz 204 ⟨[.sub],⟨[.s 0 (.sub 0 (.int .u8)),.a (.int .u8)],[],[.arr (.int .u8)]⟩,[],⟨[.a (.int .u8)],[],[.arr (.int .u8)]⟩,0,fun x=>wP x.1 x.2⟩:=Ol t49 rn zcz Tryz.func204 [0] (zI rfl z16 zl)
def t50:=t49.s zaj
def IU:zE:=Lz [] [Mm 4 (.sl u32)] ⟨[Mm 5 u32,Mi 19,.a (.int .u8)],[(3,.cur 0 (.int .u8))],[.arr (.int .u8)]⟩ [⟨.exit 2,⟨[.a (.int .u8)],[(3,.cur 0 (.int .u8))],[.arr (.int .u8)]⟩⟩] fun p s=>bO p s
def I5:zE:=Lz [.slot 3 (.int .u8)] [] ⟨[Mm 0 (.sl u32),.a (.int .u8)],[(3,.cur 0 (.int .u8))],[.arr (.int .u8)]⟩ [⟨.exit 0,⟨[.a (.int .u8)],[(3,.cur 0 (.int .u8))],[.arr (.int .u8)]⟩⟩] fun p s=>ba  s
def ID:zE:=Lz [] [] ⟨[.s 3 (.sub 0 (.int .u8)),.a (.int .u8)],[],[.arr (.int .u8)]⟩ [⟨.exit 4,⟨[.s 3 (.sub 0 (.int .u8)),.a (.int .u8)],[],[.arr (.int .u8)]⟩⟩] fun p s=>gM  s
def z1y:Hints:=Hz [(2,IU),(0,I5),(4,ID)] [(0,13,.flat [Mb 42])] []
theorem z2K:LO Tryz.f184 IU 2:=lk t50 rn z1y [] zl
theorem z2f:LO Tryz.f184 I5 0:=lk t50 rn z1y [2] (zI rfl z2K zl)
theorem z3l:LO Tryz.f184 ID 4:=lk t50 rn z1y [] zl
theorem z8G:zB Pz 184 ⟨[.ty (.sl u32)],[.str],fun x=>fg x⟩:=qJ t50 rn z1y Tryz.func184 [0,4] (zI rfl z2f (zI rfl z3l zl))
def t51:=t50.d z8G
theorem zak:zB Tryz.prog 224 ⟨[.ty .str,.ty i64],[.str],fun x=>strings_Repeat x.1 x.2⟩:=by
 refine iW Tryz.func224 (by kernel_rfl) rfl fun κ x qh y hy hI ha => ?_
 obtain⟨s,n⟩:=x
 obtain⟨⟨h0,h1,h2⟩,hy⟩:=hy
 cases hy
 obtain⟨v0,r,rfl,ha0,ha⟩:=xv.cons_inv (show xv κ [.zY .str s,.zY i64 n] qh from ha)
 obtain⟨v1,r,rfl,ha1,ha⟩:=ha.cons_inv
 rw[ha.qF,ha0.iU,ha1.eJ]
 obtain⟨m,rfl⟩:=Int.eq_ofNat_of_zero_le h0
 refine(Go.Proofs.Tryz.strings_Repeat ⟨s.toArray⟩ m κ.w (by simp only at h1; omega) (by rw[show(ByteArray.size ⟨s.toArray⟩)=List.length s from List.size_toArray]; simpa using h2)).mono ?_
 rintro e w' ⟨rfl,hB⟩
 refine⟨hB,fun _=>⟨_,rfl,?_⟩⟩
 have e1:Lib.repeatL s m=kB s m:=Ie s m
 have e2:(Int.toNat (m:Int))=m:=by omega
 show RD _ (.zY .str (kB s (Int.toNat (m:Int)))) _
 rw[e2,← e1]
 exact RD.str
def t52:=t51.d zak
theorem zaZ:zB Pz 219 ⟨[.ty .str,.ty i64],[.str],fun x=>iY x.1 x.2⟩:=qJ t52 rn hN Tryz.func219 [] zl
def t53:=t52.d zaZ
def LJ:zE:=Lz [] [] ⟨[Mi 10,.v (.zY zJ)],[(1,.ptr 0 0)],[.var (.zY zJ)]⟩ [⟨.exit 0,⟨[.v (.zY zJ)],[],[.var (.zY zJ)]⟩⟩,⟨.ret,⟨[Ms 2,Mb 3,.v (.zY zJ)],[],[.var (.zY zJ)]⟩⟩] fun p s=>y3  s
def z8q:Hints:=Hz [(0,LJ)] [] []
theorem z0T:LO Tryz.f214 LJ 0:=lk t53 rn z8q [] zl
theorem z9v:zB Pz 214 ⟨[.ty zJ],[.str,.bool],fun x=>mv x⟩:=qJ t53 rn z8q Tryz.func214 [0] (zI rfl z0T zl)
def t54:=t53.d z9v
def zfN:Hints:=Hz [] [(0,1,.ways [⟨.normal,⟨[Mb 15],[],[]⟩⟩])] []
theorem z8e:zB Pz 210 ⟨[.ty zJ],[.bool],fun x=>oR x⟩:=qJ t54 (rz [1]) zfN Tryz.func210 [] zl
def t55:=t54.d z8e
theorem z9N:zB Pz 211 ⟨[.ty zJ],[.bool],fun x=>dK x⟩:=qJ t55 (rz [1]) hN Tryz.func211 [] zl
def t56:=t55.d z9N
theorem za0:zB Pz 193 ⟨[.ty .expr],[.bool],fun x=>gy x⟩:=qJ t56 (rz [1]) hN Tryz.func193 [] zl
def t57:=t56.d za0
abbrev Y7:=mm.den ⟨[Mm 0 .expr,Mi 1,.v (.zY i64)],[(2,.ptr 0 0)],[.var (.zY i64)]⟩→T (mm.den ⟨[Mb 0,.v (.zY i64)],[],[.var (.zY i64)]⟩)
abbrev Nv(F:Y7):=vK Pz 160 ⟨[.any,.any,.ptr],⟨[Mm 0 .expr,Mi 1,.v (.zY i64)],[(2,.ptr 0 0)],[.var (.zY i64)]⟩,[],⟨[Mb 0,.v (.zY i64)],[],[.var (.zY i64)]⟩,1,F⟩
theorem z9r(vv:Y7)(lF:Nv vv):vK Pz 194 ⟨[.any,.any,.ptr],⟨[Mm 0 .expr,Mr 1 i64,.v (.zY i64)],[(2,.ptr 0 0)],[.cvar (.ptr 1 0),.var (.zY i64)]⟩,[],⟨[Mb 0,.v (.zY i64)],[],[.cvar (.ptr 1 0),.var (.zY i64)]⟩,1,fun x=>jr (fun y0 y1 y2=>vv (y0,y1,y2)) x.1 x.2.1 x.2.2⟩:=Ol (t57.s lF) (rz [3]) hN Tryz.func194 [] zl
def zbL(vv:Y7)(lF:Nv vv):Tb:=t57.s (z9r _ lF)
def I4(vv:Y7):zE:=Lz [] [Mm 0 (.sl .expr),Mi 7] ⟨[.s 1 (.mclo 194 [.rp i64,.pt 0]),Mi 8,.v (.zY i64)],[],[.cvar (.ptr 1 0),.var (.zY i64)]⟩ [⟨.exit 0,⟨[.v (.zY i64)],[],[.cvar (.ptr 1 0),.var (.zY i64)]⟩⟩,⟨.ret,⟨[Mi 4,.v (.zY i64)],[],[.cvar (.ptr 1 0),.var (.zY i64)]⟩⟩] fun p s=>zQ (fun y0 y1 y2=>vv (y0,y1,y2)) p.1 p.2 s
def zah(vv:Y7):Hints:=Hz [(0,I4 vv)] [] []
theorem z38(vv:Y7)(lF:Nv vv):LO Tryz.f156 (I4 vv) 0:=lk (zbL vv lF) rn (zah vv) [] zl
theorem zcg(vv:Y7)(lF:Nv vv):vK Pz 156 ⟨[.any,.xk 194],⟨[Mm 0 (.sl .expr),.s 1 (.mclo 194 [.rp i64,.pt 0]),.v (.zY i64)],[],[.cvar (.ptr 1 0),.var (.zY i64)]⟩,[],⟨[Mi 0,.v (.zY i64)],[],[.cvar (.ptr 1 0),.var (.zY i64)]⟩,1,fun x=>qU (fun y0 y1 y2=>vv (y0,y1,y2)) x.1 x.2.1 x.2.2⟩:=Ol (zbL vv lF) rn (zah vv) Tryz.func156 [0] (zI rfl (z38 vv lF) zl)
theorem z96(vv:Y7)(lF:Nv vv):vK Pz 103 ⟨[.any,.xk 194],⟨[Mm 0 (.sl .expr),.s 1 (.mclo 194 [.rp i64,.pt 0]),.v (.zY i64)],[],[.cvar (.ptr 1 0),.var (.zY i64)]⟩,[],⟨[Mb 0,.v (.zY i64)],[],[.cvar (.ptr 1 0),.var (.zY i64)]⟩,1,fun x=>qj (fun y0 y1 y2=>vv (y0,y1,y2)) x.1 x.2.1 x.2.2⟩:=Ol (t57.s (zcg _ lF)) rn hN Tryz.func103 [] zl
def zg2(vv:Y7):Hints:=Hz [] [(0,2,.ways [⟨.normal,⟨[Mb 24,.v (.zY i64)],[],[.var (.zY i64),.cvar (.ptr 0 0)]⟩⟩])] []
theorem z0x(vv:Y7)(lF:Nv vv):vK Pz 160 ⟨[.any,.any,.ptr],⟨[Mm 0 .expr,Mi 1,.v (.zY i64)],[(2,.ptr 0 0)],[.var (.zY i64)]⟩,[],⟨[Mb 0,.v (.zY i64)],[],[.var (.zY i64)]⟩,1,fun x=>bB (fun y0 y1 y2=>vv (y0,y1,y2)) x.1 x.2.1 x.2.2⟩:=Ol (t57.s (z96 _ lF)) (rz [3,4]) (zg2 vv) Tryz.func160 [] zl
theorem z8x:vK Pz 160 ⟨[.any,.any,.ptr],⟨[Mm 0 .expr,Mi 1,.v (.zY i64)],[(2,.ptr 0 0)],[.var (.zY i64)]⟩,[],⟨[Mb 0,.v (.zY i64)],[],[.var (.zY i64)]⟩,1,fun x=>jK x.1 x.2.1 x.2.2⟩:=LC (fun vv x=>bB (fun y0 y1 y2=>vv (y0,y1,y2)) x.1 x.2.1 x.2.2) (fun x=>rfl) (fun vv lF=>z0x vv lF)
def t58:=t57.s z8x
theorem zco:zB Pz 109 ⟨[.ty .expr],[.bool],fun x=>uB x⟩:=qJ t58 (rz [1]) hN Tryz.func109 [] zl
def t59:=t58.d zco
theorem zcu:zB Pz 143 ⟨[],[(.sl .str)],fun _=>vT⟩:=qJ t59 rn hN Tryz.func143 [] zl
def t60:=t59.d zcu
theorem zce:zB Pz 142 ⟨[.ty zo],[.bool],fun x=>wy x⟩:=qJ t60 (rz [1]) hN Tryz.func142 [] zl
def t61:=t60.d zce
def IE:zE:=Lz [] [Mm 0 (.sl zo),.s 1 (.xk 142 []),Mi 7] ⟨[Mi 8],[],[]⟩ [⟨.exit 0,⟨[],[],[]⟩⟩,⟨.ret,⟨[Mi 4],[],[]⟩⟩] fun p s=>xE p.1 (fun z0=>wy z0) p.2.2 s
def zc7:Hints:=Hz [(0,IE)] [] []
theorem z2C:LO Tryz.f181 IE 0:=lk t61 rn zc7 [] zl
theorem zbW:zB Pz 181 ⟨[.ty (.sl zo),.xk 142 []],[i64],fun x=>wO x.1 (fun z0=>wy z0)⟩:=qJ t61 rn zc7 Tryz.func181 [0] (zI rfl z2C zl)
def t62:=t61.d zbW
theorem zab:zB Pz 141 ⟨[.ty (.sl zo),.xk 142 []],[.bool],fun x=>xF x.1 (fun z0=>wy z0)⟩:=qJ t62 rn hN Tryz.func141 [] zl
def t63:=t62.d zab
def TH:zE:=Lz [] [Mr 1 zG,Mm 7 (.sl zn),Mi 8] ⟨[Mi 3,Mi 9],[],[]⟩ [⟨.exit 0,⟨[],[],[]⟩⟩,⟨.ret,⟨[Mb 2],[],[]⟩⟩] fun p s=>jd p.1 p.2.1 p.2.2 s
def h90:Hints:=Hz [(0,TH)] [(0,5,.ways [⟨.normal,⟨[Mb 50,.v (.zY zn)],[],[.var (.zY zn)]⟩⟩])] []
theorem z7n:LO Tryz.f90 TH 0:=lk t63 (rz [1]) h90 [] zl
theorem zdX:zB Pz 90 ⟨[.ty zG],[.bool],fun x=>eQ x⟩:=qJ t63 (rz [1]) h90 Tryz.func90 [0] (zI rfl z7n zl)
def t64:=t63.d zdX
end Go.AM.Lf
namespace Go.Proofs
section
open Go.RowKit
attribute [local go_sem] Oper.semAt_some
set_option maxRecDepth 100000
set_option maxHeartbeats 2000000
theorem so.size:(Tryz.prog.info? 167).map (·.size)=some 2:=by kernel_rfl
theorem so.pt:Tryz.prog.underlying 164=some (.pointer 167):=by kernel_rfl
theorem so.up:Tryz.prog.underlying 213=some .unsafePointer:=by kernel_rfl
theorem so.used(b:Nat)(w:World)(h0:w.cell? ⟨b,0,none⟩=some (.pointer (some ⟨b,0,none⟩))) :
  Calls Tryz.prog 182 #[.pointer (some ⟨b,0,none⟩)] w fun e w'=>e=.returned (.tuple #[])∧w'=w:=by
 obtain⟨j,hj,hjs⟩:=Option.map_eq_some_iff.1 so.size
 go_enter Tryz.func182,Tryz.ntmps182
 go_wp2
 rw[Lib.run_neq_ptr_same w _ so.pt hj]
 go_wp2
 go_end0
 exact⟨rfl,rfl⟩
theorem so.fresh(b:Nat)(w:World)(h0:w.cell? ⟨b,0,none⟩=some (.pointer none))(hsh:w.shape? b=some (167,2))(hfz:w.frozen? ⟨b,0,none⟩=false) :
  Calls Tryz.prog 182 #[.pointer (some ⟨b,0,none⟩)] w fun e w'=>e=.returned (.tuple #[])∧w'=w.setCell ⟨b,0,none⟩ (.pointer (some ⟨b,0,none⟩)):=by
 obtain⟨j,hj,hjs⟩:=Option.map_eq_some_iff.1 so.size
 go_enter Tryz.func182,Tryz.ntmps182
 go_wp2
 rw[Lib.run_to_unsafe w ⟨b,0,none⟩ so.pt so.up hj (by rw[hjs]; decide) hsh (Nat.zero_lt_succ 1)]
 simp only[Result.andThen]
 rw[Oper.upon_value]
 go_wp2
 rw[run_callFunc_extern Tryz.func203 (by kernel_rfl) (by kernel_rfl) (by kernel_rfl) (e:=Extern.AbiNoEscape.same) (by kernel_rfl)]
 rw[Lib.run_noEscape]
 simp only[Result.andThen]
 rw[Oper.upon_value]
 go_wp2
 rw[Lib.run_from_unsafe w ⟨b,0,none⟩ so.up so.pt hj hsh (by kernel_rfl)]
 simp only[Result.andThen]
 rw[Oper.upon_value]
 go_wp2
 go_end0
 exact⟨rfl,rfl⟩
end
end Go.Proofs

namespace Go.AM.Lf
open Go.Proofs
theorem zbM:vK Tryz.prog 182 ⟨[.ptr],⟨[.v (.st [.op 0 167,.row 1 (.int .u8)]),.a (.int .u8)],[(0,.ptr 0 0)],[.var (.st [.op 0 167,.row 1 (.int .u8)]),.arr (.int .u8)]⟩,[],⟨[.v (.st [.op 0 167,.row 1 (.int .u8)]),.a (.int .u8)],[],[.var (.st [.op 0 167,.row 1 (.int .u8)]),.arr (.int .u8)]⟩,0,fun x=>lZ x.1 x.2⟩:=Hp (P:=Tryz.prog) (g:=182) (t:=167) (enters_of Tryz.func182 (by kernel_rfl) rfl) so.used so.fresh
def t65:=t64.s zbM
theorem z9z:vK Pz 144 ⟨[.ptr,.any],⟨[Ms 1,.v (.st [.op 0 167,.row 1 (.int .u8)]),.a (.int .u8)],[(0,.ptr 0 0)],[.var (.st [.op 0 167,.row 1 (.int .u8)]),.arr (.int .u8)]⟩,[.pcell 0 1 (.int .u8)],⟨[Mi 0,.v (.st [.op 0 167,.row 1 (.int .u8)]),.a (.int .u8)],[(1,.xZ)],[.var (.st [.op 0 167,.row 1 (.int .u8)]),.arr (.int .u8)]⟩,2,fun x=>qk x.1 x.2.1 x.2.2⟩:=Ol t65 rn hN Tryz.func144 [] zl
def t66:=t65.s z9z
theorem zbm:zB Pz 145 ⟨[.ty zJ],[.str],fun x=>mS x⟩:=qJ t66 rn hN Tryz.func145 [] zl
def t67:=t66.d zbm
theorem z8W:zB Pz 147 ⟨[.ty .str],[.str],fun x=>fV x⟩:=qJ t67 rn hN Tryz.func147 [] zl
def t68:=t67.d z8W
theorem z8B:zB Tryz.prog 205 ⟨[.ty i64],[.str],fun x=>strconv_Itoa x⟩:=by
 refine iW Tryz.func205 (by kernel_rfl) rfl fun κ n qh y hy hI ha => ?_
 obtain⟨⟨h0,h1⟩,hy⟩:=hy
 cases hy
 obtain⟨v0,r,rfl,ha0,ha⟩:=xv.cons_inv (show xv κ [.zY i64 n] qh from ha)
 rw[ha.qF,ha0.eJ]
 refine(Go.Proofs.Tryz.strconv_Itoa n h0 h1 κ.w (gL hI)).mono ?_
 rintro e w' ⟨rfl,k,os,rfl⟩
 refine⟨F7 _ _ _,fun _=>⟨_,rfl,?_⟩⟩
 have e1:Lib.itoa n=pw n:=OX n
 show RD _ (.zY .str (pw n)) _
 rw[← e1]
 exact RD.str
def t69:=t68.d z8B
def zex:Hints:=Hz [] [(3,2,.flat [Ms 3])] []
theorem zcl:zB Pz 185 ⟨[.ty q7],[.str],fun x=>l8 x⟩:=qJ t69 (rz [1]) zex Tryz.func185 [] zl
def t70:=t69.d zcl
def zf0:Hints:=Hz [] [(3,2,.flat [Mb 5]),(3,5,.flat [Mb 8])] []
theorem z9d:zB Pz 216 ⟨[.ty .expr],[i64],fun x=>cm x⟩:=qJ t70 (rz [1]) zf0 Tryz.func216 [] zl
def t71:=t70.d z9d
abbrev z0Z:=uT [.ty .expr]→T (K7 [.str])
abbrev zb1(F:z0Z):=zB Pz 206 ⟨[.ty .expr],[.str],F⟩
theorem z8E(sd:z0Z)(CF:zb1 sd):zB Pz 215 ⟨[.ty .expr,.ty i64],[.str],fun x=>gn (fun y0=>sd (y0)) x.1 x.2⟩:=qJ (t71.d CF) (rz [2]) hN Tryz.func215 [] zl
def zeA(sd:z0Z):Hints:=Hz [] [(3,2,.ways [⟨.normal,⟨[Ms 3],[],[]⟩⟩,⟨.ret,⟨[Ms 2],[],[]⟩⟩])] []
theorem z1e(sd:z0Z)(CF:zb1 sd):zB Pz 206 ⟨[.ty .expr],[.str],fun x=>eY (fun y0=>sd (y0)) x⟩:=qJ (t71.d (z8E _ CF)) (rz [1]) (zeA sd) Tryz.func206 [] zl
theorem za4:zB Pz 206 ⟨[.ty .expr],[.str],fun x=>oN x⟩:=mg (fun sd x=>eY (fun y0=>sd (y0)) x) (fun x=>rfl) (fun sd CF=>z1e sd CF)
def t72:=t71.d za4
theorem z8g:zB Pz 186 ⟨[.ty .expr],[.str],fun x=>cx x⟩:=qJ t72 (rz [1]) hN Tryz.func186 [] zl
def t73:=t72.d z8g
theorem zaB:zB Pz 148 ⟨[.ty .expr,.ty .str,.ty .expr],[.str],fun x=>dc x.1 x.2.1 x.2.2⟩:=qJ t73 (rz [3,5]) hN Tryz.func148 [] zl
def t74:=t73.d zaB
def Mf:zE:=Lz [] [Mi 2,Mr 4 zG,Mm 29 (.sl q7),Mi 30] ⟨[Mi 31,.v (.st [.op 0 167,.row 1 (.int .u8)]),.a (.int .u8)],[(0,.ptr 0 0)],[.var (.st [.op 0 167,.row 1 (.int .u8)]),.arr (.int .u8)]⟩ [⟨.exit 0,⟨[.v (.st [.op 0 167,.row 1 (.int .u8)]),.a (.int .u8)],[],[.var (.st [.op 0 167,.row 1 (.int .u8)]),.arr (.int .u8)]⟩⟩] fun p s=>j7 p.1 p.2.1 p.2.2.1 p.2.2.2 s
def Lw:zE:=Lz [] [Mi 2,Mm 45 (.sl zn),Mi 46] ⟨[Mi 47,.v (.st [.op 0 167,.row 1 (.int .u8)]),.a (.int .u8)],[(0,.ptr 0 0)],[.var (.st [.op 0 167,.row 1 (.int .u8)]),.arr (.int .u8)]⟩ [⟨.exit 2,⟨[.v (.st [.op 0 167,.row 1 (.int .u8)]),.a (.int .u8)],[],[.var (.st [.op 0 167,.row 1 (.int .u8)]),.arr (.int .u8)]⟩⟩] fun p s=>j8 p.1 p.2.1 p.2.2 s
def z6j:Hints:=Hz [(0,Mf),(2,Lw)] [] []
theorem z2B:LO Tryz.f146 Mf 0:=lk t74 (rz [4]) z6j [] zl
theorem z0W:LO Tryz.f146 Lw 2:=lk t74 (rz [4]) z6j [] zl
theorem z9F:vK Pz 146 ⟨[.ptr,.any,.any],⟨[Mm 1 zG,Mi 2,.v (.st [.op 0 167,.row 1 (.int .u8)]),.a (.int .u8)],[(0,.ptr 0 0)],[.var (.st [.op 0 167,.row 1 (.int .u8)]),.arr (.int .u8)]⟩,[.pcell 0 1 (.int .u8)],⟨[.v (.st [.op 0 167,.row 1 (.int .u8)]),.a (.int .u8)],[],[.var (.st [.op 0 167,.row 1 (.int .u8)]),.arr (.int .u8)]⟩,0,fun x=>eW x.1 x.2.1 x.2.2.1 x.2.2.2⟩:=Ol t74 (rz [4]) z6j Tryz.func146 [0,2] (zI rfl z2B (zI rfl z0W zl))
def t75:=t74.s z9F
end Go.AM.Lf
namespace Go.Proofs
section
open Go.RowKit
attribute [local go_sem] Oper.semAt_some
set_option maxRecDepth 100000
set_option maxHeartbeats 2000000
theorem so.mixed:Tryz.prog.follows .mixedOrders=true:=by kernel_rfl
theorem so.pb:Tryz.prog.underlying 202=some (.pointer 5):=by kernel_rfl
theorem so.c5:Tryz.prog.cellsOf 5=1:=by kernel_rfl
theorem so.Sh(W:World)(q:Option Addr):(Builtin.unsafeString_ #[202,3] 9 #[.pointer q,.int .i64 0]).run Tryz.prog W=.ok (.string .empty) W:=Lib.run_unsafeString_none W _ _ _ q
theorem so.nil(b:Nat)(p:Value)(w:World)(DG:w.heap[b]? = some (.cells #[p,.slice none 0 0] 167 (0,0))) :
  Calls Tryz.prog 149 #[.pointer (some ⟨b,0,none⟩)] w fun e w'=>e=.returned (.string ⟨#[]⟩)∧w'=w.drew:=by
 have hUS:=so.Sh
 have c1:w.drew.cell? ⟨b,1,none⟩=some (.slice none 0 0):=by
  have:w.drew.heap[b]? = some (.cells #[p,.slice none 0 0] 167 (0,0)):=DG
  rw[Lib.cell_of_heap this]; rfl
 have hSD:(Builtin.unsafeSliceData_ #[165] 202 #[.slice none 0 0]).run Tryz.prog w.drew=.ok (.pointer none) w.drew:=rfl
 have mixed:Tryz.prog.follows .mixedOrders=true:=so.mixed
 go_enter Tryz.func149,Tryz.ntmps149
 go_wp2
 go_region_o
 all_goals (go_wp2; go_ret; exact⟨rfl,rfl⟩)
theorem so.room(b g o cap:Nat)(p:Value)(w:World)(hc0:cap≠0)(DG:w.heap[b]? = some (.cells #[p,.slice (some ⟨g,o,none⟩) 0 cap] 167 (0,0))) :
  Calls Tryz.prog 149 #[.pointer (some ⟨b,0,none⟩)] w fun e w'=>e=.returned (.string ⟨#[]⟩)∧w'=w.drew:=by
 have hUS:=so.Sh
 have c1:w.drew.cell? ⟨b,1,none⟩=some (.slice (some ⟨g,o,none⟩) 0 cap):=by
  have:w.drew.heap[b]? = some (.cells #[p,.slice (some ⟨g,o,none⟩) 0 cap] 167 (0,0)):=DG
  rw[Lib.cell_of_heap this]; rfl
 have hSD:(Builtin.unsafeSliceData_ #[165] 202 #[.slice (some ⟨g,o,none⟩) 0 cap]).run Tryz.prog w.drew=.ok (.pointer (some ⟨g,o,none⟩)) w.drew :=
  Lib.run_unsafeSliceData_row _ _ _ _ _ _ hc0
 clear hc0
 have mixed:Tryz.prog.follows .mixedOrders=true:=so.mixed
 go_enter Tryz.func149,Tryz.ntmps149
 go_wp2
 go_region_o
 all_goals (go_wp2; go_ret; exact⟨rfl,rfl⟩)
theorem so.full(b g cap:Nat)(p:Value)(cur:Array Value)(l:List UInt8)(w:World)(h0:l≠[])(wD:l.length≤cap)(TA:l.length≤140737488355328)(DG:w.heap[b]? = some (.cells #[p,.slice (some ⟨g,0,none⟩) l.length cap] 167 (0,0)))
  (hg:w.heap[g]? = some (.cells cur 5 (0,0))) (z6e:l.length≤cur.size) (bW:∀ j x,l[j]? = some x→w.cell? ⟨g,j,none⟩=some (.int .u8 x.toNat)) :
  Calls Tryz.prog 149 #[.pointer (some ⟨b,0,none⟩)] w fun e w'=>e=.returned (.string ⟨l.toArray⟩)∧w'=w.drew.freeze ⟨g,0,none⟩ l.length:=by
 have hl0:l.length≠0:=by simpa using h0
 have c1:w.drew.cell? ⟨b,1,none⟩=some (.slice (some ⟨g,0,none⟩) l.length cap):=by
  have:w.drew.heap[b]? = some (.cells #[p,.slice (some ⟨g,0,none⟩) l.length cap] 167 (0,0)):=DG
  rw[Lib.cell_of_heap this]; rfl
 have hSD:(Builtin.unsafeSliceData_ #[165] 202 #[.slice (some ⟨g,0,none⟩) l.length cap]).run Tryz.prog w.drew=.ok (.pointer (some ⟨g,0,none⟩)) w.drew :=
  Lib.run_unsafeSliceData_row _ _ _ _ _ _ (by omega)
 have hUS:(Builtin.unsafeString_ #[202,3] 9 #[.pointer (some ⟨g,0,none⟩),.int .i64 l.length]).run Tryz.prog w.drew=.ok (.string ⟨l.toArray⟩) (w.drew.freeze ⟨g,0,none⟩ l.length):=by
  refine Lib.run_unsafeString_row w.drew 202 3 9 5 so.pb so.c5 g cur.size (by have hg':w.drew.heap[g]? = some (.cells cur 5 (0,0)):=hg; simp[World.shape?,hg']) l h0 (by omega) (by omega) ?_
  intro j x hx
  have e:(⟨g,0,none⟩:Addr).add j=⟨g,j,none⟩:=by unfold Addr.add; split<;>simp_all
  rw[e]
  exact bW j x hx
 have mixed:Tryz.prog.follows .mixedOrders=true:=so.mixed
 go_enter Tryz.func149,Tryz.ntmps149
 go_wp2
 go_region_o
 all_goals (go_wp2; go_ret; exact⟨rfl,rfl⟩)
theorem so.z6c(b g o:Nat)(p:Value)(cur:Array Value)(w:World)(DG:w.heap[b]? = some (.cells #[p,.slice (some ⟨g,o,none⟩) 0 0] 167 (0,0)))(hg:w.heap[g]? = some (.cells cur 5 (0,0))) :
  Calls Tryz.prog 149 #[.pointer (some ⟨b,0,none⟩)] w fun e w'=>e=.returned (.string ⟨#[]⟩)∧w'=w.drew.alloc (.view ⟨g,o,none⟩ 5):=by
 have hUS:=so.Sh
 have qp:b<w.heap.size:=by
  rcases Nat.lt_or_ge b w.heap.size with h' | h'
  ·exact h'
  ·simp[Array.getElem?_eq_none h']at DG
 have c1:w.drew.cell? ⟨b,1,none⟩=some (.slice (some ⟨g,o,none⟩) 0 0):=by
  have:w.drew.heap[b]? = some (.cells #[p,.slice (some ⟨g,o,none⟩) 0 0] 167 (0,0)):=DG
  rw[Lib.cell_of_heap this]; rfl
 have hSD:(Builtin.unsafeSliceData_ #[165] 202 #[.slice (some ⟨g,o,none⟩) 0 0]).run Tryz.prog w.drew=.ok (.pointer (some ⟨w.drew.heap.size,0,none⟩)) (w.drew.alloc (.view ⟨g,o,none⟩ 5)) :=
  Lib.run_unsafeSliceData_zero w.drew _ _ 5 so.pb ⟨g,o,none⟩ 0 (5,cur.size) (by have hg':w.drew.heap[g]? = some (.cells cur 5 (0,0)):=hg; simp[World.shape?,hg'])
 have c2:(w.drew.alloc (.view ⟨g,o,none⟩ 5)).cell? ⟨b,1,none⟩=some (.slice (some ⟨g,o,none⟩) 0 0):=by
  have:(w.drew.alloc (.view ⟨g,o,none⟩ 5)).heap[b]? = _:=(Lib.alloc_old w.drew _ b qp).trans DG
  rw[Lib.cell_of_heap this]; rfl
 have c3:(w.alloc (.view ⟨g,o,none⟩ 5)).drew.cell? ⟨b,1,none⟩=some (.slice (some ⟨g,o,none⟩) 0 0):=c2
 have c0:w.cell? ⟨b,1,none⟩=some (.slice (some ⟨g,o,none⟩) 0 0):=c1
 have mixed:Tryz.prog.follows .mixedOrders=true:=so.mixed
 go_enter Tryz.func149,Tryz.ntmps149
 go_wp2
 go_region_o
 all_goals (go_wp2; go_ret; exact⟨rfl,rfl⟩)
end
end Go.Proofs

namespace Go.AM.Lf
open Go.Proofs
theorem z8N:vK Tryz.prog 149 ⟨[.ptr],⟨[.v (.st [.op 0 167,.row 1 (.int .u8)]),.a (.int .u8)],[(0,.ptr 0 0)],[.var (.st [.op 0 167,.row 1 (.int .u8)]),.arr (.int .u8)]⟩,[],⟨[Ms 0,.v (.st [.op 0 167,.un])],[],[.var (.st [.op 0 167,.un]),.dead]⟩,1,fun x=>nS x.1 x.2⟩:=Nq (P:=Tryz.prog) (g:=149) (t:=167) (enters_of Tryz.func149 (by kernel_rfl) rfl) so.nil so.room so.full so.z6c
def t76:=t75.s z8N
def Td:zE:=Lz [.cell 0 1 (.int .u8)] [Mr 1 zG,Mm 13 (.sl zW),Mi 14] ⟨[Mi 15,.v (.st [.op 0 167,.row 1 (.int .u8)]),.a (.int .u8)],[(3,.ptr 0 0)],[.var (.st [.op 0 167,.row 1 (.int .u8)]),.arr (.int .u8)]⟩ [⟨.exit 0,⟨[.v (.st [.op 0 167,.row 1 (.int .u8)]),.a (.int .u8)],[],[.var (.st [.op 0 167,.row 1 (.int .u8)]),.arr (.int .u8)]⟩⟩] fun p s=>jZ p.1 p.2.1 p.2.2 s
def TQ:zE:=Lz [] [Mr 1 zG,Mm 29 (.sl zX),Mi 30] ⟨[Mi 31,.v (.st [.op 0 167,.row 1 (.int .u8)]),.a (.int .u8)],[(3,.ptr 0 0)],[.var (.st [.op 0 167,.row 1 (.int .u8)]),.arr (.int .u8)]⟩ [⟨.exit 2,⟨[.v (.st [.op 0 167,.row 1 (.int .u8)]),.a (.int .u8)],[],[.var (.st [.op 0 167,.row 1 (.int .u8)]),.arr (.int .u8)]⟩⟩] fun p s=>jR p.1 p.2.1 p.2.2 s
def RJ:zE:=Lz [] [Mr 1 zG,Mi 48] ⟨[Mi 49,.v (.st [.op 0 167,.row 1 (.int .u8)]),.a (.int .u8)],[(3,.ptr 0 0)],[.var (.st [.op 0 167,.row 1 (.int .u8)]),.arr (.int .u8)]⟩ [⟨.exit 4,⟨[.v (.st [.op 0 167,.row 1 (.int .u8)]),.a (.int .u8)],[],[.var (.st [.op 0 167,.row 1 (.int .u8)]),.arr (.int .u8)]⟩⟩] fun p s=>kt p.1 p.2 s
def Ox:zE:=Lz [] [Mm 57 (.sl zo),Mi 58] ⟨[Mi 59,.v (.st [.op 0 167,.row 1 (.int .u8)]),.a (.int .u8)],[(3,.ptr 0 0)],[.var (.st [.op 0 167,.row 1 (.int .u8)]),.arr (.int .u8)]⟩ [⟨.exit 6,⟨[.v (.st [.op 0 167,.row 1 (.int .u8)]),.a (.int .u8)],[],[.var (.st [.op 0 167,.row 1 (.int .u8)]),.arr (.int .u8)]⟩⟩] fun p s=>ko p.1 p.2 s
def h91:Hints:=Hz [(0,Td),(2,TQ),(4,RJ),(6,Ox)] [(3,6,.flat [Ms 6])] []
theorem z7k:LO Tryz.f91 Td 0:=lk t76 (rz [1]) h91 [] zl
theorem z6B:LO Tryz.f91 TQ 2:=lk t76 (rz [1]) h91 [] zl
theorem z5C:LO Tryz.f91 RJ 4:=lk t76 (rz [1]) h91 [] zl
theorem z6F:LO Tryz.f91 Ox 6:=lk t76 (rz [1]) h91 [] zl
theorem zg3:zB Pz 91 ⟨[.ty zG],[.str],fun x=>iZ x⟩:=qJ t76 (rz [1]) h91 Tryz.func91 [0,2,4,6] (zI rfl z7k (zI rfl z6B (zI rfl z5C (zI rfl z6F zl))))
def t77:=t76.d zg3
theorem zg4:zB Pz 42 ⟨[.ty zG],[.bool],fun x=>Xg x⟩:=qJ t77 (rz [1]) hN Tryz.func42 [] zl
def t78:=t77.d zg4
def PE:zE:=Lz [.slot 3 .str] [Mr 1 zG,Mm 17 (.sl zW),Mi 18] ⟨[Mi 19,.a .str],[(3,.cur 0 .str)],[.arr .str]⟩ [⟨.exit 0,⟨[.a .str],[(3,.cur 0 .str)],[.arr .str]⟩⟩] fun p s=>kH p.1 p.2.1 p.2.2 s
def RV:zE:=Lz [] [Mr 1 zG,Mm 30 (.sl zX),Mi 31] ⟨[Mi 32,.a .str],[(3,.cur 0 .str)],[.arr .str]⟩ [⟨.exit 2,⟨[.a .str],[(3,.cur 0 .str)],[.arr .str]⟩⟩] fun p s=>ke p.1 p.2.1 p.2.2 s
def PQ:zE:=Lz [] [Mr 1 zG,Mm 43 (.sl qu),Mi 44] ⟨[Mi 45,.a .str],[(3,.cur 0 .str)],[.arr .str]⟩ [⟨.exit 4,⟨[.a .str],[(3,.cur 0 .str)],[.arr .str]⟩⟩] fun p s=>kf p.1 p.2.1 p.2.2 s
def Rv:zE:=Lz [] [Mr 1 zG,Mm 56 (.sl q7),Mi 57] ⟨[Mi 58,.a .str],[(3,.cur 0 .str)],[.arr .str]⟩ [⟨.exit 6,⟨[.a .str],[(3,.cur 0 .str)],[.arr .str]⟩⟩] fun p s=>kF p.1 p.2.1 p.2.2 s
def RM:zE:=Lz [] [Mr 1 zG,Mm 69 (.sl zo),Mi 70] ⟨[Mi 71,.a .str],[(3,.cur 0 .str)],[.arr .str]⟩ [⟨.exit 8,⟨[.a .str],[(3,.cur 0 .str)],[.arr .str]⟩⟩] fun p s=>kA p.1 p.2.1 p.2.2 s
def IB:zE:=Lz [] [Mm 82 (.sl zn),Mi 83] ⟨[Mi 84,.a .str],[(3,.cur 0 .str)],[.arr .str]⟩ [⟨.exit 10,⟨[.a .str],[(3,.cur 0 .str)],[.arr .str]⟩⟩] fun p s=>kD p.1 p.2 s
def h44:Hints:=Hz [(0,PE),(2,RV),(4,PQ),(6,Rv),(8,RM),(10,IB)] [] []
theorem z5l:LO Tryz.f44 PE 0:=lk t78 (rz [1]) h44 [] zl
theorem z4P:LO Tryz.f44 RV 2:=lk t78 (rz [1]) h44 [] zl
theorem z6w:LO Tryz.f44 PQ 4:=lk t78 (rz [1]) h44 [] zl
theorem z7s:LO Tryz.f44 Rv 6:=lk t78 (rz [1]) h44 [] zl
theorem z74:LO Tryz.f44 RM 8:=lk t78 (rz [1]) h44 [] zl
theorem z0U:LO Tryz.f44 IB 10:=lk t78 (rz [1]) h44 [] zl
theorem zeQ:zB Pz 44 ⟨[.ty zG],[(.sl .str)],fun x=>lM x⟩:=qJ t78 (rz [1]) h44 Tryz.func44 [0,2,4,6,8,10] (zI rfl z5l (zI rfl z4P (zI rfl z6w (zI rfl z7s (zI rfl z74 (zI rfl z0U zl))))))
def t79:=t78.d zeQ
end Go.AM.Lf
namespace Go.Proofs
section
open Go.RowKit Go.Maps Go.WideMaps
attribute [local go_sem] Oper.semAt_some
set_option maxRecDepth 100000
set_option maxHeartbeats 2000000
/-- What a map reads as when texts,all different,came. -/
def TW.Seen(D:DataW Unit)(l:List (List UInt8)):Prop:=IsMap D∧∀ s:List UInt8,D.atKey (.string s) (.lit (.int .i64 0))=.lit (.int .i64 (if s∈l then 1 else 0))
theorem TW.z98:TW.Seen (.map []) []:=⟨⟨_,rfl⟩,fun s=>by simp only[List.not_mem_nil,if_false]; rfl⟩
theorem TW.step{D:DataW Unit}{l:List (List UInt8)}{s:List UInt8}(h:TW.Seen D l)(hk:WideAt.IsKeyLit (.string s)):TW.Seen (D.put (.string s) (.lit (.int .i64 1))) (l++[s]):=by
 refine⟨h.1.put _ _,fun x => ?_⟩
 by_cases c:x=s
 ·subst c
  rw[atKey_put_same h.1 hk,if_pos (by simp)]
 ·rw[atKey_put_other (fun e=>c (by cases e; rfl)),h.2 x]
  congr 3
  simp[c]
theorem TW.cOf{D:DataW Unit}{l:List (List UInt8)}{s:List UInt8}{c:Int}(h:TW.Seen D l)(hat:D.atKey (.string s) (.lit (.int .i64 0))=.lit (.int .i64 c)):c=if s∈l then 1 else 0:=by
 rw[h.2 s]at hat
 cases hat; rfl
theorem TW.key:Keyed Tryz.prog 9:=string_keyed Tryz.underlying9
theorem TW.IY(w:World):(zeroValue 3).run Tryz.prog w=.ok (.int .i64 0) w:=by kernel_rfl
theorem TW.zero(a:Option Addr)(cap:Nat)(w:World):Calls Tryz.prog 43 #[.slice a 0 cap] w fun e w'=>e=.returned (.tuple #[.string ⟨#[]⟩,.bool false])∧Below w.heap.size w w':=by
 have hmm := @run_makeMap Tryz.prog
 go_enter Tryz.func43,Tryz.ntmps43
 go_wp2
 refine wp_loop_rounds 1 ?_
 rw[rounds_succ]
 go_wp2
 go_ret2
 exact⟨rfl,(Below.refl _ _).alloc (Nat.le_refl _) _⟩
theorem TW.more(b off cap:Nat)(l:List (List UInt8))(w:World)(z4G:l.length*16≤140737488351232)(hb:b<w.heap.size)
  (hc:∀ j (hj:j<l.length),w.cell? ⟨b,off+j,none⟩=some (.string ⟨l[j].toArray⟩)) (jn:∀ s∈l,s.length≤maxLen) :
  Calls Tryz.prog 43 #[.slice (some ⟨b,off,none⟩) l.length cap] w fun e w'=>e=.returned (.tuple #[.string ⟨(Go.AM.Lf.tT [] l).1.toArray⟩,.bool (Go.AM.Lf.tT [] l).2])∧Below w.heap.size w w':=by
 have hmm := @run_makeMap Tryz.prog
 go_enter Tryz.func43,Tryz.ntmps43
 go_wp2
 go_loopw [10] (fun i wr=>∃ (k:Nat) (D:DataW Unit),k≤l.length∧i=.int .i64 k∧wr.ownsMap Tryz.prog 9 (plainElem Tryz.prog 3) w.heap.size k D∧TW.Seen D (l.take k)∧Go.AM.Lf.tT [] l=Go.AM.Lf.tT (l.take k) (l.drop k)∧Below w.heap.size w wr)
  (fun i _=>l.length-(intOf i).toNat)
 case atStart=>exact⟨0,.map [],Nat.zero_le _,rfl,World.ownsMap_made _ _ _ _,TW.z98,rfl,(Below.refl _ _).alloc (Nat.le_refl _) _⟩
 case round =>
  obtain⟨k,D,hk,rfl,z0p,CU,htw,hnx⟩:=hrel
  obtain⟨s,hs⟩:∃ s:List UInt8,s=l.getD k []:=⟨_,rfl⟩
  have hse:∀ qp:k<l.length,s=l[k]:=fun qp=>by rw[hs]; simp[qp]
  have hcx:k<l.length→wr.cell? ⟨b,off+k,none⟩=some (.string ⟨s.toArray⟩):=fun qp=>by rw[hse qp]; exact(hnx.cell (by exact hb)).trans (hc k qp)
  have hlen:s.length≤maxLen:=by
   by_cases qp:k<l.length
   ·rw[hse qp]; exact jn _ (List.getElem_mem qp)
   ·rw[hs]; simp[qp]
  have DU:keyOf Tryz.prog 9 (.string ⟨s.toArray⟩)=some (.string s):=keyOf_string_mk Tryz.underlying9 (by exact hlen)
  have DP:WideAt.IsKeyLit (.string s):=TW.key.key DU
  have Di:∀ qp:k<l.length,l.drop k=s::l.drop (k+1):=fun qp=>by rw[hse qp]; exact List.drop_eq_getElem_cons qp
  have IA:∀ qp:k<l.length,l.take (k+1)=l.take k++[s]:=fun qp=>by rw[hse qp]; exact List.take_succ_eq_append_getElem qp
  clear hse hs
  by_cases Qp:s∈l.take k
  ·have z5h:∀ qp:k<l.length,Go.AM.Lf.tT [] l=(s,true):=fun qp=>by rw[htw,Di qp]; unfold Go.AM.Lf.tT; rw[if_pos Qp]
   go_wp2_with (first
    | (at_lookup; refine wpList_lookup_own_int _ rfl _ _ 137 rfl 9 3 .i64 TW.key Tryz.underlying137 Tryz.underlying3 (TW.IY _) w.heap.size k _ rfl z0p _ _ rfl DU ?_; intro c hat hwc; obtain rfl:c=1:=by rw[TW.cOf CU hat,if_pos Qp])
    | (at_mapUpdate; refine wpList_mapUpdate_own _ rfl _ _ _ 137 rfl 9 3 TW.key Tryz.underlying137 _ w.heap.size k _ rfl z0p (by unfold maxLen; omega) _ _ _ rfl rfl DU _ [] (plainElem_int (a:=2) Tryz.underlying3 rfl) ?_; intro w1 Ir EM)
    | (at_lookup; refine wpList_lookup_own_int _ rfl _ _ 137 rfl 9 3 .i64 TW.key Tryz.underlying137 Tryz.underlying3 (TW.IY _) w.heap.size (k+1) _ rfl Ir _ _ rfl DU ?_; intro c2 SM zeF; obtain rfl:c2=2:=by rw[atKey_put_same CU.1 DP]at SM; cases SM; rfl)
    | go_in)
   ·have qp:k<l.length:=by assumption
    go_ret2
    rw[z5h qp]
    exact⟨rfl,hnx.grown EM hnx.size (fun j hj=>by cases hj; exact Nat.le_refl _)⟩
   ·have:k=l.length:=by omega
    subst this
    rw[List.drop_length]at htw
    go_ret2
    rw[htw]
    exact⟨rfl,hnx⟩
  ·have hgo:∀ qp:k<l.length,Go.AM.Lf.tT [] l=Go.AM.Lf.tT (l.take (k+1)) (l.drop (k+1)):=fun qp=>by
    rw[htw,Di qp,IA qp]
    conv=>lhs; unfold Go.AM.Lf.tT
    rw[if_neg Qp]
   go_wp2_with (first
    | (at_lookup; refine wpList_lookup_own_int _ rfl _ _ 137 rfl 9 3 .i64 TW.key Tryz.underlying137 Tryz.underlying3 (TW.IY _) w.heap.size k _ rfl z0p _ _ rfl DU ?_; intro c hat hwc; obtain rfl:c=0:=by rw[TW.cOf CU hat,if_neg Qp])
    | (at_mapUpdate; refine wpList_mapUpdate_own _ rfl _ _ _ 137 rfl 9 3 TW.key Tryz.underlying137 _ w.heap.size k _ rfl z0p (by unfold maxLen; omega) _ _ _ rfl rfl DU _ [] (plainElem_int (a:=1) Tryz.underlying3 rfl) ?_; intro w1 Ir EM)
    | (at_lookup; refine wpList_lookup_own_int _ rfl _ _ 137 rfl 9 3 .i64 TW.key Tryz.underlying137 Tryz.underlying3 (TW.IY _) w.heap.size (k+1) _ rfl Ir _ _ rfl DU ?_; intro c2 SM zeF; obtain rfl:c2=1:=by rw[atKey_put_same CU.1 DP]at SM; cases SM; rfl)
    | go_in)
   ·have qp:k<l.length:=by assumption
    go_roundw
    case rel=>exact⟨k+1,_,by omega,by go_num,Ir,(IA qp).symm▸TW.step CU DP,hgo qp,hnx.grown EM hnx.size (fun j hj=>by cases hj; exact Nat.le_refl _)⟩
    case measure=>simp[intOf]; omega
   ·have:k=l.length:=by omega
    subst this
    rw[List.drop_length]at htw
    go_ret2
    rw[htw]
    exact⟨rfl,hnx⟩
end
end Go.Proofs
namespace Go.AM.Lf
open Go.Proofs
theorem zea:zB Tryz.prog 43 ⟨[.ty (.sl .str)],[.str,.bool],fun x=>lN x⟩:=by
 refine iW Tryz.func43 (by kernel_rfl) rfl fun κ (l:List zf) qh y hy hI ha => ?_
 obtain⟨⟨h0,h1⟩,hy⟩:=hy
 cases hy
 obtain⟨v0,r,rfl,ha0,ha⟩:=xv.cons_inv (show xv κ [.zY (.sl .str) l] qh from ha)
 rw[ha.qF]
 have hv:=RD.wK (κ:=κ) (τ:=.sl .str) (x:=l) ha0 rfl
 rcases hv.om with⟨rfl,a,e⟩ | ⟨blk,off,cap,g,e,we,wD,hg,hc⟩
 ·cases e
  refine(TW.zero a 0 κ.w).mono ?_
  rintro e w' ⟨rfl,hB⟩
  exact⟨hB,fun _=>⟨_,rfl,RD.z8L RD.str RD.bool⟩⟩
 ·cases e
  refine(TW.more blk off cap l κ.w h0 (hI.y6 blk we) (fun j hj => ?_) h1).mono ?_
  ·have h3:=hc j hj 0 (.string ⟨l[j].toArray⟩) (by rw[(hg j hj).iU]; rfl)
   simpa[Ty.size]using h3
  ·rintro e w' ⟨rfl,hB⟩
   exact⟨hB,fun _=>⟨_,rfl,RD.z8L RD.str RD.bool⟩⟩
end Go.AM.Lf

namespace Go.AM.Lf
open Go.Proofs
def t80:=t79.d zea
theorem zgk:zB Pz 95 ⟨[.ty zW,.rp .str],[.bool],fun x=>xV x.1 x.2⟩:=qJ t80 (rz [2]) hN Tryz.func95 [] zl
def t81:=t80.d zgk
def BF:zE:=Lz [] [Mm 0 (.sl zW),.s 1 (.xk 95 [.rp .str]),Mi 7] ⟨[Mi 8],[],[]⟩ [⟨.exit 0,⟨[],[],[]⟩⟩,⟨.ret,⟨[Mi 4],[],[]⟩⟩] fun p s=>qe p.1 (fun z0=>xV z0 p.2.1) p.2.2 s
def z3n:Hints:=Hz [(0,BF)] [] []
theorem OM:LO Tryz.f55 BF 0:=lk t81 rn z3n [] zl
theorem Sz:zB Pz 55 ⟨[.ty (.sl zW),.xk 95 [.rp .str]],[i64],fun x=>qm x.1 (fun z0=>xV z0 x.2)⟩:=qJ t81 rn z3n Tryz.func55 [0] (zI rfl OM zl)
def t82:=t81.d Sz
theorem S8:zB Pz 94 ⟨[.ty (.sl zW),.xk 95 [.rp .str]],[.bool],fun x=>qA x.1 (fun z0=>xV z0 x.2)⟩:=qJ (t82.d Sz) rn hN Tryz.func94 [] zl
def t83:=t82.d S8
theorem zdc:zB Pz 93 ⟨[.ty .str,.rp zG],[.bool],fun x=>wE x.1 x.2⟩:=qJ (t83.d S8) (rz [2]) hN Tryz.func93 [] zl
def t84:=t83.d zdc
def Ti:zE:=Lz [] [Mm 0 (.sl .str),.s 1 (.xk 93 [.rp zG]),Mi 7] ⟨[Mi 8],[],[]⟩ [⟨.exit 0,⟨[],[],[]⟩⟩,⟨.ret,⟨[Mi 4],[],[]⟩⟩] fun p s=>qc p.1 (fun z0=>wE z0 p.2.1) p.2.2 s
def h92:Hints:=Hz [(0,Ti)] [] []
theorem z7g:LO Tryz.f92 Ti 0:=lk t84 rn h92 [] zl
theorem ze8:zB Pz 92 ⟨[.ty (.sl .str),.xk 93 [.rp zG]],[i64],fun x=>ql x.1 (fun z0=>wE z0 x.2)⟩:=qJ t84 rn h92 Tryz.func92 [0] (zI rfl z7g zl)
def t85:=t84.d ze8
def OK:zE:=Lz [.slot 4 .str] [Mr 1 zG,Mm 11 (.sl qu),Mi 12] ⟨[Mi 13,.a .str],[(4,.cur 0 .str)],[.arr .str]⟩ [⟨.exit 0,⟨[.a .str],[(4,.cur 0 .str)],[.arr .str]⟩⟩] fun p s=>vt p.1 p.2.1 p.2.2 s
def Ro:zE:=Lz [] [Mr 1 zG,Mm 24 (.sl zo),Mi 25] ⟨[Mi 26,.a .str],[(4,.cur 0 .str)],[.arr .str]⟩ [⟨.exit 2,⟨[.a .str],[(4,.cur 0 .str)],[.arr .str]⟩⟩] fun p s=>vD p.1 p.2.1 p.2.2 s
def h45:Hints:=Hz [(0,OK),(2,Ro)] [] []
theorem z4N:LO Tryz.f45 OK 0:=lk t85 (rz [1]) h45 [] zl
theorem z6s:LO Tryz.f45 Ro 2:=lk t85 (rz [1]) h45 [] zl
theorem zg5:zB Pz 45 ⟨[.ty zG],[.str,.bool],fun x=>yY x⟩:=qJ t85 (rz [1]) h45 Tryz.func45 [0,2] (zI rfl z4N (zI rfl z6s zl))
def t86:=t85.d zg5
def IV:zE:=Lz [] [Mm 0 (.sl .str),Ms 1,Mi 7] ⟨[Mi 8],[],[]⟩ [⟨.exit 0,⟨[],[],[]⟩⟩,⟨.ret,⟨[Mi 4],[],[]⟩⟩] fun p s=>qt p.1 p.2.1 p.2.2 s
def zaL:Hints:=Hz [(0,IV)] [] []
theorem z2W:LO Tryz.f152 IV 0:=lk t86 rn zaL [] zl
theorem za9:zB Pz 152 ⟨[.ty (.sl .str),.ty .str],[i64],fun x=>qx x.1 x.2⟩:=qJ t86 rn zaL Tryz.func152 [0] (zI rfl z2W zl)
def t87:=t86.d za9
theorem zez:zB Pz 99 ⟨[.ty (.sl .str),.ty .str],[.bool],fun x=>qQ x.1 x.2⟩:=qJ t87 rn hN Tryz.func99 [] zl
def t88:=t87.d zez
abbrev ND:=mm.den ⟨[Mm 1 .expr,.a .str],[(0,.cur 0 .str)],[.arr .str]⟩→T (mm.den ⟨[.a .str],[(0,.cur 0 .str)],[.arr .str]⟩)
abbrev z6v(F:ND):=vK Pz 151 ⟨[.cur,.any],⟨[Mm 1 .expr,.a .str],[(0,.cur 0 .str)],[.arr .str]⟩,[],⟨[.a .str],[(0,.cur 0 .str)],[.arr .str]⟩,1,F⟩
def z9t(gG:ND)(Vm:z6v gG):Tb:=t88.s Vm
def LQ(gG:ND):zE:=Lz [] [Mm 23 (.sl .expr),Mi 24] ⟨[Mi 25,.a .str],[(0,.cur 0 .str)],[.arr .str]⟩ [⟨.exit 0,⟨[.a .str],[(0,.cur 0 .str)],[.arr .str]⟩⟩] fun p s=>yT (fun y0 y1=>gG (y0,y1)) p.1 p.2 s
def z9p(gG:ND):Hints:=Hz [(0,LQ gG)] [(0,1,.ways [⟨.normal,⟨[Mb 16,.a .str],[(0,.cur 0 .str)],[.arr .str]⟩⟩]),(3,1,.ways [⟨.normal,⟨[.a .str],[(0,.cur 0 .str)],[.arr .str]⟩⟩])] []
theorem z1S(gG:ND)(Vm:z6v gG):LO Tryz.f151 (LQ gG) 0:=lk (z9t gG Vm) (rz [3]) (z9p gG) [] zl
theorem z0D(gG:ND)(Vm:z6v gG):vK Pz 151 ⟨[.cur,.any],⟨[Mm 1 .expr,.a .str],[(0,.cur 0 .str)],[.arr .str]⟩,[],⟨[.a .str],[(0,.cur 0 .str)],[.arr .str]⟩,1,fun x=>bM (fun y0 y1=>gG (y0,y1)) x.1 x.2⟩:=Ol (z9t gG Vm) (rz [3]) (z9p gG) Tryz.func151 [0] (zI rfl (z1S gG Vm) zl)
theorem z4a:vK Pz 151 ⟨[.cur,.any],⟨[Mm 1 .expr,.a .str],[(0,.cur 0 .str)],[.arr .str]⟩,[],⟨[.a .str],[(0,.cur 0 .str)],[.arr .str]⟩,1,fun x=>eP x.1 x.2⟩:=LC (fun gG x=>bM (fun y0 y1=>gG (y0,y1)) x.1 x.2) (fun x=>rfl) (fun gG Vm=>z0D gG Vm)
def t89:=t88.s z4a
def Oz:Tb:=t89.s z4a
def GB:zE:=Lz [] [Mm 23 (.sl .expr),Mi 24] ⟨[Mi 25,.a .str],[(0,.cur 0 .str)],[.arr .str]⟩ [⟨.exit 0,⟨[.a .str],[(0,.cur 0 .str)],[.arr .str]⟩⟩] fun p s=>y7 p.1 p.2 s
def Tg:Hints:=Hz [(0,GB)] [(0,1,.ways [⟨.normal,⟨[Mb 16,.a .str],[(0,.cur 0 .str)],[.arr .str]⟩⟩]),(3,1,.ways [⟨.normal,⟨[.a .str],[(0,.cur 0 .str)],[.arr .str]⟩⟩])] []
theorem NS:LO Tryz.f151 GB 0:=lk Oz (rz [3]) Tg [] zl
theorem Is:vK Pz 151 ⟨[.cur,.any],⟨[Mm 1 .expr,.a .str],[(0,.cur 0 .str)],[.arr .str]⟩,[.slot 0 .str],⟨[.a .str],[(0,.cur 0 .str)],[.arr .str]⟩,1,fun x=>cJ x.1 x.2⟩:=Ol Oz (rz [3]) Tg Tryz.func151 [0] (zI rfl NS zl)
def t90:=t89.s Is
theorem zfa:zB Pz 97 ⟨[.ty .expr],[(.sl .str)],fun x=>jL x⟩:=qJ (t90.s Is) (rz [1]) hN Tryz.func97 [] zl
def t91:=t90.d zfa
end Go.AM.Lf
namespace Go.Proofs
section
open Go.RowKit Go.Maps
attribute [local go_sem] Oper.semAt_some
set_option maxRecDepth 100000
set_option maxHeartbeats 2000000
theorem CC.info:(Tryz.prog.info? 9).map (fun i=>(i.zero,i.size,i.bytes))=some (some (.string ⟨#[]⟩),1,16):=by kernel_rfl
theorem CC.wp{ops:Array Oper}{rest:List Oper}{o:Oper}{a:Act}{Q:Exit→Act→World→Prop}(w:World)(hgd:o.guard=Option.none)(s x:Operand)(t u:TypeId)
  (ho:o.op=.call { callee:=.builtin .append,args := #[s,x],argTypes := #[t,u] }) (v':Value) (w':World)
  (hr:(Builtin.append_ #[t,u] o.type #[a.eval s,a.eval x]).run Tryz.prog w=.ok v' w') (h:wpList Tryz.prog ops Q rest (a.put o.dst v') w'):wpList Tryz.prog ops Q (o::rest) a w :=
 wpList_plain hgd fun _ hK=>by
  unfold Oper.wp execOp
  simp only[ho,resolve,invoke,builtin,Sem.run_bind,Sem.run_pure,Result.andThen_ok,List.map_toArray,List.map_cons,List.map_nil,hr]
  exact hK _ _ h
/-- An append of nothing. -/
theorem CC.Dg{base:Option Addr}{n cap:Nat}{a:Option Addr}{ty:TypeId}(w:World)(wD:n≤cap) :
  (Builtin.append_ #[56,56] ty #[.slice base n cap,.slice a 0 0]).run Tryz.prog w=.ok (.slice base n cap) w:=by
 obtain⟨i0,hi,DD,hz1,hz2⟩:=info_parts CC.info
 have hu:=Tryz.underlying56
 cases a<;>cases base<;>simp[Builtin.append_,run_underlying hu,sizeOf,typeInfo,hi,Builtin.lenOf,Builtin.firstCells,loadCells,loadCellsFrom,storeCells,wD]
theorem CC.Ds{n:Nat}{ty:TypeId}(w:World)(hn:0<n)(hb:n*16≤140737488355328) :
  ∃ cs:Array Value,cs.size=grownCap w n 0 9∧(Builtin.append_ #[56,3] ty #[.slice Option.none 0 0,.int .i64 (n:Int)]).run Tryz.prog w=.ok (.slice (some ⟨w.heap.size,0,Option.none⟩) n (grownCap w n 0 9)) (w.drew.alloc (.cells cs 9)):=by
 obtain⟨i0,hi,DD,hz1,hz2⟩:=info_parts CC.info
 have hu:=Tryz.underlying56
 have he:=Tryz.underlying3
 have w1:IntKind.i64.wrap (n:Int)=n:=IntWalk.i64_in _ (by omega)
 have h5:IntKind.i64.max=9223372036854775807:=by decide
 have ai:∀ w,(Go.asInt (.int .i64 (n:Int))).run Tryz.prog w=.ok (n:Int) w:=fun w=>by simp[Go.asInt,asIntOf]
 have g1:¬ ((n:Int)<0):=by omega
 have g2:¬ ((281474976710656:Int)<(n:Int)*16):=by omega
 have g3:¬ (n=0):=by omega
 have g4:¬ (281474976710656<Builtin.nextslicecap n 0*16):=by
  have:=growslice_fits (bytes:=16) (need:=n) (old:=0) (by omega) (by omega)
  omega
 have hge:=grownCap_ge w n 0 9
 refine⟨Builtin.zeroCells (Value.string ⟨#[]⟩).cells n++Builtin.zeroCells (Value.string ⟨#[]⟩).cells (grownCap w n 0 9-n),?_,?_⟩
 ·simp[Builtin.zeroCells,Value.cells]; omega
 ·simp[Builtin.append_,run_underlying hu,run_underlying he,sizeOf,typeInfo,zeroValue,hi,DD,hz1,hz2,ai,w1,Builtin.lenOf,Builtin.firstCells,Question.forced,newRow,grownCap,g1,g2,g3,g4]
  intro h
  omega
theorem CC.grow(n:Nat)(w:World)(hb:n*16≤140737488355328):Calls Tryz.prog 150 #[.slice Option.none 0 0,.int .i64 (n:Int)] w fun e w'=>∃ v,e=.returned v∧w'.ownsRow w.heap.size 9 1 v 0 []∧Below w.heap.size w w':=by
 go_enter Tryz.func150,Tryz.ntmps150
 by_cases hn:0<n
 ·obtain⟨cs,UD,hr⟩:=CC.Ds (ty:=56) w hn hb
  go_wp2_with (first
   | (at_builtin; refine CC.wp _ rfl _ _ _ _ rfl _ _ hr ?_)
   | go_in)
  go_ret
  refine⟨_,rfl,⟨rfl,.inr ⟨w.heap.size,_,cs,rfl,Nat.le_refl _,by show(w.heap.push (Obj.cells cs 9))[w.heap.size]? = _; exact Array.getElem?_push_size,Nat.zero_le _,grownCap_le_maxLen w n 0 9 (by unfold maxLen; omega),by rw[UD,Nat.mul_one],rfl⟩⟩,?_⟩
  have hB:Below w.heap.size w (w.alloc (.cells cs 9)):=(Below.refl _ _).alloc (Nat.le_refl _) _
  exact⟨hB.os,hB.tape,hB.output,hB.size,hB.block⟩
 ·obtain rfl:n=0:=by omega
  go_wp2
  go_ret
  exact⟨_,rfl,World.ownsRow_nil _ _ _ _,Below.refl _ _⟩
/-- The texts of a slice whose block lies below n₀. -/
def CC.z5W(n₀:Nat)(W:World)(sv:Value)(l:List (List UInt8)):Prop:=(∃ a,sv=.slice a 0 0∧l=[])∨∃ b off cap,sv=.slice (some ⟨b,off,Option.none⟩) l.length cap∧b<n₀∧∀ j (hj:j<l.length),W.cell? ⟨b,off+j,Option.none⟩=some (.string ⟨l[j].toArray⟩)
def CC.cells(l:List (List UInt8)):List Value:=l.map fun s=>.string ⟨s.toArray⟩
/-- How many texts the first k slices have; which. -/
def CC.fl(ls:List (List (List UInt8)))(k:Nat):Nat:=(ls.take k).flatten.length
def CC.out(ls:List (List (List UInt8)))(k:Nat):List Value:=CC.cells (ls.take k).flatten
def CC.at(ls:List (List (List UInt8)))(k:Nat):List (List UInt8):=ls.getD k []
theorem CC.take_succ{ls:List (List (List UInt8))}{k:Nat}(hk:k<ls.length):(ls.take (k+1)).flatten=(ls.take k).flatten++CC.at ls k:=by
 rw[List.take_succ_eq_append_getElem hk,List.flatten_append,List.flatten_singleton]
 simp[CC.at,hk]
theorem CC.z0s{ls:List (List (List UInt8))}{k:Nat}(hk:k<ls.length):CC.fl ls (k+1)=CC.fl ls k+(CC.at ls k).length:=by
 unfold CC.fl; rw[CC.take_succ hk,List.length_append]
theorem CC.Pm{ls:List (List (List UInt8))}{k:Nat}(hk:k<ls.length):CC.out ls (k+1)=CC.out ls k++CC.cells (CC.at ls k):=by
 unfold CC.out CC.cells; rw[CC.take_succ hk,List.map_append]
theorem CC.z9I(ls:List (List (List UInt8)))(k:Nat):CC.fl ls k≤CC.fl ls ls.length:=by
 unfold CC.fl
 rw[List.take_length]
 conv=>rhs; rw[← List.take_append_drop k ls,List.flatten_append,List.length_append]
 omega
theorem CC.concat(b off cap L:Nat)(svs:Nat→Value)(ls:List (List (List UInt8)))(w:World)(hL:L=ls.length)(z4G:L*24≤140737488351232)(hb:b<w.heap.size)
  (hc:∀ j,j<L→w.cell? ⟨b,off+j,Option.none⟩=some (svs j)) (hs:∀ j,j<L→CC.z5W w.heap.size w (svs j) (CC.at ls j)) (z6L:CC.fl ls L*16≤140737488355328) :
  Calls Tryz.prog 96 #[.slice (some ⟨b,off,Option.none⟩) L cap] w fun e w'=>∃ v,e=.returned v∧w'.ownsRow w.heap.size 9 1 v (CC.fl ls L) (CC.out ls L)∧Below w.heap.size w w':=by
 obtain⟨i0,hi,DD,hz1,hz2⟩:=info_parts CC.info
 have XX:∀ k,k<L→CC.fl ls (k+1)=CC.fl ls k+(CC.at ls k).length:=fun k hk=>CC.z0s (by omega)
 have hou:∀ k,k<L→CC.out ls (k+1)=CC.out ls k++CC.cells (CC.at ls k):=fun k hk=>CC.Pm (by omega)
 have hle:∀ k,CC.fl ls k≤CC.fl ls L:=fun k=>hL▸CC.z9I ls k
 have hf0:CC.fl ls 0=0:=rfl
 have ho0:CC.out ls 0=[]:=rfl
 generalize CC.fl ls=fl at *
 generalize CC.out ls=out at *
 generalize CC.at ls=at_ at *
 clear hL ls
 generalize hM:fl L=M at *
 go_enter Tryz.func96,Tryz.ntmps96
 go_wp2
 go_loopw [3,11] (fun sz i wr=>∃ k:Nat,k≤L∧i=.int .i64 k∧sz=.int .i64 (fl k:Int)∧w=wr) (fun _ i _=>L-(intOf i).toNat)
 case atStart=>exact⟨0,Nat.zero_le _,rfl,by rw[hf0]; rfl,rfl⟩
 case round =>
  obtain⟨k,hk,rfl,rfl,rfl⟩:=hrel
  by_cases qp:k<L
  ·have bW:=hc k qp
   have hS:=hs k qp
   have h1:=XX k qp
   have h2:=hle (k+1)
   have hSq:∃ a c,svs k=.slice a (at_ k).length c:=by
    rcases hS with⟨a,e,he⟩ | ⟨b1,o1,c1,e,_,_⟩
    ·exact⟨a,0,by rw[e,he]; rfl⟩
    ·exact⟨_,c1,e⟩
   obtain⟨a1,c1,e1⟩:=hSq
   rw[e1]at bW
   clear hc hs hS XX hou hle e1
   generalize hq:(at_ k).length=q at *
   generalize hm:fl k=m at *
   generalize hm':fl (k+1)=m' at *
   go_wp2
   go_roundw
   case rel=>exact⟨k+1,by omega,by go_num,by rw[hm',h1]; go_num,by first | rfl | trivial⟩
   case measure=>simp[intOf]; omega
  ·have DP:k=L:=by omega
   subst DP
   rw[hM]
   have hg:=CC.grow M w z6L
   go_wp2_with (first
    | (go_at_call 150; refine hg.mono ?_; rintro e w1 ⟨v1,rfl,fD,hB⟩)
    | go_in)
   clear hg
   go_loopw [6,27] (fun o i wr'=>∃ j:Nat,j≤k∧i=.int .i64 j∧wr'.ownsRow w.heap.size 9 1 o (fl j) (out j)∧Below w.heap.size w wr') (fun _ i _=>k-(intOf i).toNat)
   case atStart=>exact⟨0,Nat.zero_le _,rfl,by rw[hf0,ho0]; exact fD,hB⟩
   case round =>
    obtain⟨j,hj,rfl,fD,hB⟩:=hrel
    by_cases Hj:j<k
    ·have bW:wr.cell? ⟨b,off+j,Option.none⟩=some (svs j):=(hB.cell (p:=⟨b,off+j,Option.none⟩) hb).trans (hc j Hj)
     have h1:=XX j Hj
     have h2:=hle (j+1)
     have h3:=hou j Hj
     rcases hs j Hj with⟨a,e,he⟩ | ⟨b1,o1,c1,e,B6,UD⟩
     ·rw[e]at bW
      rw[he]at h1 h3
      have e1:fl (j+1)=fl j:=by rw[h1]; rfl
      have e2:out (j+1)=out j:=by rw[h3]; simp[CC.cells]
      have hv:∃ base n cap,u6=.slice base n cap∧n≤cap:=by
       rcases fD.2 with⟨rfl,_⟩ | ⟨g,VW,cur,rfl,_,_,wD,_⟩
       ·exact⟨_,_,_,rfl,Nat.le_refl _⟩
       ·exact⟨_,_,_,rfl,wD⟩
      obtain⟨base,n,VW,rfl,wD⟩:=hv
      have hr:=CC.Dg (base:=base) (n:=n) (cap:=VW) (a:=a) (ty:=56) wr wD
      clear hc hs XX hou hle hf0 ho0 he e
      go_wp2_with (first
       | (at_builtin; refine CC.wp _ rfl _ _ _ _ rfl _ _ hr ?_)
       | go_in)
      go_roundw
      case rel=>exact⟨j+1,by omega,by go_num,by rw[e1,e2]; exact fD,hB⟩
      case measure=>simp[intOf]; omega
     ·rw[e]at bW
      have hB1:=hB.size
      have hl:(CC.cells (at_ j)).length=(at_ j).length*1:=by simp[CC.cells]
      have nE:∀ u∈CC.cells (at_ j),u.oneCell'=true:=by
       intro u hu
       obtain⟨s,_,rfl⟩:=List.mem_map.1 hu
       rfl
      have zaw:∀ i u,(CC.cells (at_ j))[i]? = some u→wr.cell? ((⟨b1,o1,Option.none⟩:Addr).add i)=some u:=by
       intro i u hu
       have ZP:i<(at_ j).length:=by
        have:=(List.getElem?_eq_some_iff.1 hu).1
        simpa[CC.cells]using this
       have Jb:(⟨b1,o1,Option.none⟩:Addr).add i=⟨b1,o1+i,Option.none⟩:=by unfold Addr.add; split<;>simp_all
       rw[Jb,(hB.cell (p:=⟨b1,o1+i,Option.none⟩) B6),UD i ZP,← hu]
       simp[CC.cells,ZP]
      clear hc hs XX hou hle hf0 ho0 e UD
      generalize CC.cells (at_ j)=news at *
      generalize hq:(at_ j).length=q at *
      go_wp2_with (first
       | (at_builtin; refine wpList_append_own _ rfl _ _ 56 rfl w.heap.size 9 i0 (.string ⟨#[]⟩) 1 16 Tryz.underlying56 hi DD hz1 hz2 rfl (by decide) _ _ _ rfl fD ⟨b1,o1,Option.none⟩ q c1 news rfl hl zaw nE (by unfold maxLen; omega) (by omega) hB1 ?_; intro v' w' zcm z7m zhf)
       | go_in)
      go_roundw
      case rel=>exact⟨j+1,by omega,by go_num,by rw[h1,h3]; exact zcm,hB.grown z7m hB.size (fun i hi=>(fD.lt i hi).1)⟩
      case measure=>simp[intOf]; omega
    ·have hjk:j=k:=by omega
     subst hjk
     clear hc hs XX hou hle
     go_wp2
     go_ret
     exact⟨_,rfl,by rw[hM]at fD; exact fD,hB⟩
end
end Go.Proofs
namespace Go.AM.Lf
open Go.Proofs
theorem z1L{κ:KS}{l:List zf}{cs:List Value}(hI:Inv κ)(h:Rc κ.w κ.ok (.sl .str) l cs):∃ v,cs=[v]∧CC.z5W κ.w.heap.size κ.w v l:=by
 rcases h.om with⟨rfl,a,e⟩ | ⟨blk,off,cap,g,e,we,wD,hg,hc⟩
 ·exact⟨_,e,.inl ⟨a,rfl,rfl⟩⟩
 ·refine⟨_,e,.inr ⟨blk,off,cap,rfl,hI.y6 blk we,fun j hj => ?_⟩⟩
  have h3:=hc j hj 0 (.string ⟨l[j].toArray⟩) (by rw[(hg j hj).iU]; rfl)
  simpa[Ty.size]using h3
theorem ze4:zB Tryz.prog 96 ⟨[.ty (.sl (.sl .str))],[.sl .str],fun x=>w9 x⟩:=by
 refine iW Tryz.func96 (by kernel_rfl) rfl fun κ (ls:List (List zf)) qh y hy hI ha => ?_
 obtain⟨⟨h0,h1,h2⟩,hy⟩:=hy
 cases hy
 obtain⟨v0,r,rfl,ha0,ha⟩:=xv.cons_inv (show xv κ [.zY (.sl (.sl .str)) ls] qh from ha)
 rw[ha.qF]
 have hv:=RD.wK (κ:=κ) (τ:=.sl (.sl .str)) (x:=ls) ha0 rfl
 rcases hv.om with⟨rfl,a,e⟩ | ⟨blk,off,cap,g,e,we,wD,hg,hc⟩
 ·exact absurd rfl h2
 ·cases e
  have mX:∀ j (hj:j<ls.length),∃ v,g j=[v]∧CC.z5W κ.w.heap.size κ.w v ls[j]:=fun j hj=>z1L hI (hg j hj)
  have bW:∀ j,j<ls.length→κ.w.cell? ⟨blk,off+j,none⟩=some ((g j).headD (.bool false)):=fun j hj=>by
   obtain⟨v,hv,_⟩:=mX j hj
   have h3:=hc j hj 0 v (by rw[hv]; rfl)
   rw[hv]
   simpa[Ty.size]using h3
  have XX:ls.flatten=(ls.take ls.length).flatten:=by rw[List.take_length]
  refine(CC.concat blk off cap ls.length (fun j=>(g j).headD (.bool false)) ls κ.w rfl h0 (hI.y6 blk we) bW (fun j hj => ?_) (by unfold CC.fl; rw[← XX]; exact h1)).mono ?_
  ·obtain⟨v,hv,hs⟩:=mX j hj
   rw[hv]
   have:CC.at ls j=ls[j]:=by simp[CC.at,hj]
   rw[this]; exact hs
  ·rintro e w' ⟨v,rfl,fD,hB⟩
   refine⟨hB,fun _=>⟨_,rfl,?_⟩⟩
   unfold CC.fl CC.out at fD
   rw[← XX]at fD
   show RD _ (.zY (.sl .str) ls.flatten) v
   refine RD.mO rfl ?_
   rcases fD.2 with⟨rfl,hn⟩ | ⟨gb,VW,cur,rfl,hgb,z6e,hle,TA,jn,htk⟩
   ·rw[List.eq_nil_of_length_eq_zero hn]
    exact .iE .str none
   ·refine .sl .str _ gb 0 VW (fun i=>[.string ⟨(ls.flatten[i]?.getD []).toArray⟩]) (.inr ⟨hgb,(Array.getElem?_eq_some_iff.1 z6e).1⟩) hle (fun i hi => ?_) (fun i hi j u hu => ?_)
    ·rw[List.getElem?_eq_getElem hi]
     exact .str _
    ·match j,hu with
     | 0,hu =>
      simp only[List.getElem?_cons_zero,Option.some.injEq]at hu
      have e0:(0:Nat)+i*Ty.size .str+0=i:=by show 0+i*1+0=i; omega
      show w'.cell? ⟨gb,0+i*Ty.size .str+0,none⟩=some u
      rw[e0,cell_of_row w' gb i cur _ (0,0) z6e,← hu]
      have h4:(cur.toList.take (ls.flatten.length*1))[i]? = (CC.cells ls.flatten)[i]? := by rw[htk]
      rw[List.getElem?_take_of_lt (by omega)]at h4
      rw[← Array.getElem?_toList,h4]
      unfold CC.cells
      rw[List.getElem?_map,List.getElem?_eq_getElem hi]; rfl
end Go.AM.Lf

namespace Go.AM.Lf
open Go.Proofs
def t92:=t91.d ze4
theorem z8n:zB Pz 101 ⟨[.ty zX,.rp .str],[.bool],fun x=>wo x.1 x.2⟩:=qJ t92 (rz [2]) hN Tryz.func101 [] zl
def t93:=t92.d z8n
def Gl:zE:=Lz [] [Mm 0 (.sl zX),.s 1 (.xk 101 [.rp .str]),Mi 7] ⟨[Mi 8],[],[]⟩ [⟨.exit 0,⟨[],[],[]⟩⟩,⟨.ret,⟨[Mi 4],[],[]⟩⟩] fun p s=>qS p.1 (fun z0=>wo z0 p.2.1) p.2.2 s
def Rs:Hints:=Hz [(0,Gl)] [] []
theorem NG:LO Tryz.f153 Gl 0:=lk t93 rn Rs [] zl
theorem IC:zB Pz 153 ⟨[.ty (.sl zX),.xk 101 [.rp .str]],[i64],fun x=>xP x.1 (fun z0=>wo z0 x.2)⟩:=qJ t93 rn Rs Tryz.func153 [0] (zI rfl NG zl)
def t94:=t93.d IC
theorem Me:zB Pz 100 ⟨[.ty (.sl zX),.xk 101 [.rp .str]],[.bool],fun x=>qE x.1 (fun z0=>wo z0 x.2)⟩:=qJ (t94.d IC) rn hN Tryz.func100 [] zl
def t95:=t94.d Me
theorem zeP:zB Pz 98 ⟨[.ty .str,.rp (.sl .str),.rp zG],[.bool],fun x=>vq x.1 x.2.1 x.2.2⟩:=qJ (t95.d Me) (rz [3]) hN Tryz.func98 [] zl
def t96:=t95.d zeP
def CG:zE:=Lz [] [Mm 0 (.sl .str),.s 1 (.xk 98 [.rp (.sl .str),.rp zG]),Mi 7] ⟨[Mi 8],[],[]⟩ [⟨.exit 0,⟨[],[],[]⟩⟩,⟨.ret,⟨[Mi 4],[],[]⟩⟩] fun p s=>qc p.1 (fun z0=>vq z0 p.2.1.1 p.2.1.2) p.2.2 s
def z3o:Hints:=Hz [(0,CG)] [] []
theorem Te:LO Tryz.f92 CG 0:=lk t96 rn z3o [] zl
theorem z00:zB Pz 92 ⟨[.ty (.sl .str),.xk 98 [.rp (.sl .str),.rp zG]],[i64],fun x=>ql x.1 (fun z0=>vq z0 x.2.1 x.2.2)⟩:=qJ t96 rn z3o Tryz.func92 [0] (zI rfl Te zl)
def t97:=t96.d z00
def T46:Tb:=t97.d z00
def Po:zE:=Lz [] [Mr 2 zG,Mr 3 (.sl .str),Mm 13 (.sl zn),Mi 14] ⟨[Mm 6 (.sl .str),Mi 15],[],[]⟩ [⟨.exit 0,⟨[Mm 6 (.sl .str)],[],[]⟩⟩] fun p s=>uG p.1 p.2.1 p.2.2.1 p.2.2.2 s
def PC:zE:=Lz [] [Mr 2 zG,Mr 3 (.sl .str),Mm 30 (.sl zo),Mi 31] ⟨[Mm 6 (.sl .str),Mi 32],[],[]⟩ [⟨.exit 2,⟨[Mm 6 (.sl .str)],[],[]⟩⟩] fun p s=>uM p.1 p.2.1 p.2.2.1 p.2.2.2 s
def h46:Hints:=Hz [(0,Po),(2,PC)] [] []
theorem z5A:LO Tryz.f46 Po 0:=lk T46 (rz [2,3]) h46 [] zl
theorem z6Z:LO Tryz.f46 PC 2:=lk T46 (rz [2,3]) h46 [] zl
theorem zgN:zB Pz 46 ⟨[.ty zG,.ty (.sl .str)],[.str,.bool],fun x=>cC x.1 x.2⟩:=qJ T46 (rz [2,3]) h46 Tryz.func46 [0,2] (zI rfl z5A (zI rfl z6Z zl))
def t98:=t97.d zgN
theorem za8:zB Pz 155 ⟨[.ty .str,.rp (.sl .str)],[.bool],fun x=>wM x.1 x.2⟩:=qJ t98 rn hN Tryz.func155 [] zl
def t99:=t98.d za8
def Dm:zE:=Lz [] [Mm 0 (.sl .str),.s 1 (.xk 155 [.rp (.sl .str)]),Mi 7] ⟨[Mi 8],[],[]⟩ [⟨.exit 0,⟨[],[],[]⟩⟩,⟨.ret,⟨[Mi 4],[],[]⟩⟩] fun p s=>qc p.1 (fun z0=>wM z0 p.2.1) p.2.2 s
def z3I:Hints:=Hz [(0,Dm)] [] []
theorem OA:LO Tryz.f92 Dm 0:=lk t99 rn z3I [] zl
theorem Rg:zB Pz 92 ⟨[.ty (.sl .str),.xk 155 [.rp (.sl .str)]],[i64],fun x=>ql x.1 (fun z0=>wM z0 x.2)⟩:=qJ t99 rn z3I Tryz.func92 [0] (zI rfl OA zl)
def t100:=t99.d Rg
theorem zb2:zB Pz 154 ⟨[.ty (.sl .str),.xk 155 [.rp (.sl .str)]],[.bool],fun x=>xS x.1 (fun z0=>wM z0 x.2)⟩:=qJ (t100.d Rg) rn hN Tryz.func154 [] zl
def t101:=t100.d zb2
theorem zbC:zB Pz 102 ⟨[.ty .expr,.ty (.sl .str)],[.bool],fun x=>gD x.1 x.2⟩:=qJ t101 (rz [2,3]) hN Tryz.func102 [] zl
def t102:=t101.d zbC
abbrev Y47:=uT [.ty .expr,.ty (.sl .str)]→T (K7 [.bool])
abbrev H47(F:Y47):=zB Pz 47 ⟨[.ty .expr,.ty (.sl .str)],[.bool],F⟩
theorem z4d(kN:Y47)(ZY:H47 kN):zB Pz 104 ⟨[.ty .expr,.rp (.sl .str)],[.bool],fun x=>xL (fun y0 y1=>kN (y0,y1)) x.1 x.2⟩:=qJ (t102.d ZY) (rz [2]) hN Tryz.func104 [] zl
def PG(kN:Y47)(ZY:H47 kN):Tb:=t102.d (z4d _ ZY)
def Yv(kN:Y47):zE:=Lz [] [Mm 0 (.sl .expr),.s 1 (.xk 104 [.rp (.sl .str)]),Mi 7] ⟨[Mi 8],[],[]⟩ [⟨.exit 0,⟨[],[],[]⟩⟩,⟨.ret,⟨[Mi 4],[],[]⟩⟩] fun p s=>xA (fun y0 y1=>kN (y0,y1)) p.1 (fun z0=>(xL (fun y0 y1=>kN (y0,y1))) z0 p.2.1) p.2.2 s
def Oy(kN:Y47):Hints:=Hz [(0,Yv kN)] [] []
theorem NH(kN:Y47)(ZY:H47 kN):LO Tryz.f156 (Yv kN) 0:=lk (PG kN ZY) rn (Oy kN) [] zl
theorem z1I(kN:Y47)(ZY:H47 kN):zB Pz 156 ⟨[.ty (.sl .expr),.xk 104 [.rp (.sl .str)]],[i64],fun x=>wL (fun y0 y1=>kN (y0,y1)) x.1 (fun z0=>(xL (fun y0 y1=>kN (y0,y1))) z0 x.2)⟩:=qJ (PG kN ZY) rn (Oy kN) Tryz.func156 [0] (zI rfl (NH kN ZY) zl)
theorem z1X(kN:Y47)(ZY:H47 kN):zB Pz 103 ⟨[.ty (.sl .expr),.xk 104 [.rp (.sl .str)]],[.bool],fun x=>wc (fun y0 y1=>kN (y0,y1)) x.1 (fun z0=>(xL (fun y0 y1=>kN (y0,y1))) z0 x.2)⟩:=qJ (t102.d (z1I _ ZY)) rn hN Tryz.func103 [] zl
def h47(kN:Y47):Hints:=Hz [] [(0,3,.ways [⟨.normal,⟨[Mb 41,.v (.zY .expr),.v (.zY .expr)],[],[.var (.zY .expr),.var (.zY .expr)]⟩⟩]),(3,1,.ways [⟨.normal,⟨[],[],[]⟩⟩,⟨.ret,⟨[Mb 4],[],[]⟩⟩])] []
theorem z5I(kN:Y47)(ZY:H47 kN):zB Pz 47 ⟨[.ty .expr,.ty (.sl .str)],[.bool],fun x=>bm (fun y0 y1=>kN (y0,y1)) x.1 x.2⟩:=qJ ((t102.d (z1X _ ZY)).d (z4d _ ZY)) (rz [2,3]) (h47 kN) Tryz.func47 [] zl
theorem ze1:zB Pz 47 ⟨[.ty .expr,.ty (.sl .str)],[.bool],fun x=>br x.1 x.2⟩:=mg (fun kN x=>bm (fun y0 y1=>kN (y0,y1)) x.1 x.2) (fun x=>rfl) (fun kN ZY=>z5I kN ZY)
def t103:=t102.d ze1
def Pr:zE:=Lz [.slot 8 .str] [Mr 1 zG,Mm 46 (.sl q7),Mi 47] ⟨[Mi 48,.a .str],[(8,.cur 0 .str)],[.arr .str]⟩ [⟨.exit 1,⟨[.a .str],[(8,.cur 0 .str)],[.arr .str]⟩⟩] fun p s=>jk p.1 p.2.1 p.2.2 s
def TK:zE:=Lz [] [Mm 67 (.sl zo),Mi 68] ⟨[Mi 69,.a .str],[(8,.cur 0 .str)],[.arr .str]⟩ [⟨.exit 3,⟨[.a .str],[],[.arr .str]⟩⟩,⟨.ret,⟨[Mi 2,Ms 3,.a .str],[],[.arr .str]⟩⟩] fun p s=>ja p.1 p.2 s
def h20:Hints:=Hz [(1,Pr),(3,TK)] [(0,3,.flat [Mb 19]),(0,23,.ways [⟨.normal,⟨[Mb 84,.a .str,.v (.zY zo)],[(8,.cur 0 .str)],[.arr .str,.var (.zY zo)]⟩⟩])] []
theorem z7e:LO Tryz.f20 Pr 1:=lk t103 (rz [1]) h20 [] zl
theorem z54:LO Tryz.f20 TK 3:=lk t103 (rz [1]) h20 [] zl
theorem zdw:zB Pz 20 ⟨[.ty zG],[i64,.str],fun x=>eH x⟩:=qJ t103 (rz [1]) h20 Tryz.func20 [1,3] (zI rfl z7e (zI rfl z54 zl))
def t104:=t103.d zdw
theorem zdm:zB Pz 22 ⟨[.ty zJ],[.bool],fun x=>wI x⟩:=qJ t104 (rz [1]) hN Tryz.func22 [] zl
def t105:=t104.d zdm
def Tx:zE:=Lz [] [Mm 0 (.sl zJ),.s 1 (.xk 22 []),Mi 7] ⟨[Mi 8],[],[]⟩ [⟨.exit 0,⟨[],[],[]⟩⟩,⟨.ret,⟨[Mi 4],[],[]⟩⟩] fun p s=>xI p.1 (fun z0=>wI z0) p.2.2 s
def h48:Hints:=Hz [(0,Tx)] [] []
theorem z5m:LO Tryz.f48 Tx 0:=lk t105 rn h48 [] zl
theorem zfg:zB Pz 48 ⟨[.ty (.sl zJ),.xk 22 []],[i64],fun x=>wZ x.1 (fun z0=>wI z0)⟩:=qJ t105 rn h48 Tryz.func48 [0] (zI rfl z5m zl)
def t106:=t105.d zfg
theorem zeS:zB Pz 21 ⟨[.ty (.sl zJ),.xk 22 []],[.bool],fun x=>xg x.1 (fun z0=>wI z0)⟩:=qJ t106 rn hN Tryz.func21 [] zl
def t107:=t106.d zeS
def PH:zE:=Lz [.slot 3 .str] [Mm 7 (.sl q7),Mi 8] ⟨[Mi 9,.a .str],[(3,.cur 0 .str)],[.arr .str]⟩ [⟨.exit 0,⟨[.a .str],[(3,.cur 0 .str)],[.arr .str]⟩⟩] fun p s=>kI p.1 p.2 s
def h12:Hints:=Hz [(0,PH)] [] []
theorem z5r:LO Tryz.f12 PH 0:=lk t107 (rz [1]) h12 [] zl
theorem zeC:zB Pz 12 ⟨[.ty zG],[(.sl .str)],fun x=>gF x⟩:=qJ t107 (rz [1]) h12 Tryz.func12 [0] (zI rfl z5r zl)
def t108:=t107.d zeC
def h54:Hints:=Hz [] [(0,1,.z4E)] []
theorem zdV:zB Pz 54 ⟨[.ty (.sl zJ)],[(.sl zJ)],fun x=>uC x⟩:=qJ t108 rn h54 Tryz.func54 [] zl
def t109:=t108.d zdV
def T9:zE:=Lz [.cell 0 0 .str,.cell 0 1 .str,.cell 1 1 .str] [Mm 14 (.sl zX),Mi 15] ⟨[Mi 16,.v (.st [.row 2 .str,.row 3 .str,.im (.sl zJ)]),.v (.st [.im (.sl .str),.row 4 .str,.im (.sl zJ)]),.a .str,.a .str,.a .str],[(4,.ptr 0 0),(5,.ptr 1 0)],[.var (.st [.row 2 .str,.row 3 .str,.im (.sl zJ)]),.var (.st [.im (.sl .str),.row 4 .str,.im (.sl zJ)]),.arr .str,.arr .str,.arr .str]⟩ [⟨.exit 0,⟨[.v (.st [.row 2 .str,.row 3 .str,.im (.sl zJ)]),.v (.st [.im (.sl .str),.row 4 .str,.im (.sl zJ)]),.a .str,.a .str,.a .str],[],[.var (.st [.row 2 .str,.row 3 .str,.im (.sl zJ)]),.var (.st [.im (.sl .str),.row 4 .str,.im (.sl zJ)]),.arr .str,.arr .str,.arr .str]⟩⟩] fun p s=>dG p.1 p.2 s
def h25:Hints:=Hz [(0,T9)] [] []
theorem z6y:LO Tryz.f25 T9 0:=lk t109 (rz [2]) h25 [] zl
theorem zgd:zB Pz 25 ⟨[.ty zG,.ty (.sl zJ)],[zP],fun x=>pW x.1 x.2⟩:=qJ t109 (rz [2]) h25 Tryz.func25 [0] (zI rfl z6y zl)
def t110:=t109.d zgd
theorem zdj:zB Pz 56 ⟨[.ty zW,.rp .str],[.bool],fun x=>kM x.1 x.2⟩:=qJ t110 (rz [2]) hN Tryz.func56 [] zl
def t111:=t110.d zdj
def D8:zE:=Lz [] [Mm 0 (.sl zW),.s 1 (.xk 56 [.rp .str]),Mi 7] ⟨[Mi 8],[],[]⟩ [⟨.exit 0,⟨[],[],[]⟩⟩,⟨.ret,⟨[Mi 4],[],[]⟩⟩] fun p s=>qe p.1 (fun z0=>kM z0 p.2.1) p.2.2 s
def z4s:Hints:=Hz [(0,D8)] [] []
theorem PW:LO Tryz.f55 D8 0:=lk t111 rn z4s [] zl
theorem SQ:zB Pz 55 ⟨[.ty (.sl zW),.xk 56 [.rp .str]],[i64],fun x=>qm x.1 (fun z0=>kM z0 x.2)⟩:=qJ t111 rn z4s Tryz.func55 [0] (zI rfl PW zl)
def t112:=t111.d SQ
def h26:Hints:=Hz [] [(0,2,.flat [Mb 6])] []
theorem zgj:zB Pz 26 ⟨[.ty zG,.ty (.sl .bool),.ty .str],[.bool],fun x=>tm x.1 x.2.1 x.2.2⟩:=qJ (t112.d SQ) (rz [3,5]) h26 Tryz.func26 [] zl
def t113:=t112.d zgj
def h60:Hints:=Hz [] [(3,2,.flat [Mm 3 (.int .u64)])] []
theorem zfm:zB Pz 60 ⟨[.ty i64],[zJ],fun x=>uY x⟩:=qJ t113 rn h60 Tryz.func60 [] zl
def t114:=t113.d zfm
def zfz:Hints:=Hz [] [(0,1,.flat [Mb 12])] []
theorem zcA:zB Pz 195 ⟨[.ty (.sl zJ),.ty i64],[zJ],fun x=>tx x.1 x.2⟩:=qJ t114 rn zfz Tryz.func195 [] zl
def t115:=t114.d zcA
theorem z8r:zB Pz 161 ⟨[.ty .str,.ty zP],[zV,i64],fun x=>sS x.1 x.2⟩:=qJ t115 (rz [3]) hN Tryz.func161 [] zl
def t116:=t115.d z8r
theorem zbf:zB Pz 113 ⟨[.ty zJ,.ty zJ],[zJ],fun x=>fa x.1 x.2⟩:=qJ t116 rn hN Tryz.func113 [] zl
def t117:=t116.d zbf
theorem zbw:zB Pz 112 ⟨[.ty zJ],[.bool],fun x=>dD x⟩:=qJ t117 (rz [1]) hN Tryz.func112 [] zl
def t118:=t117.d zbw
def Pt:zE:=Lz [.cell 0 1 zp,.cell 1 1 zp] [Mr 3 zJ,Mm 17 (.sl zp),Mi 18] ⟨[Mi 19,.v (.st [.im i64,.row 2 zp,.im .bool,.im (.sl u32),.im (.sl u32)]),.v (.st [.im i64,.row 3 zp,.im .bool,.im (.sl u32),.im (.sl u32)]),.a zp,.a zp],[(4,.ptr 0 0),(5,.ptr 1 0)],[.var (.st [.im i64,.row 2 zp,.im .bool,.im (.sl u32),.im (.sl u32)]),.var (.st [.im i64,.row 3 zp,.im .bool,.im (.sl u32),.im (.sl u32)]),.arr zp,.arr zp]⟩ [⟨.exit 0,⟨[.v (.st [.im i64,.row 2 zp,.im .bool,.im (.sl u32),.im (.sl u32)]),.v (.st [.im i64,.row 3 zp,.im .bool,.im (.sl u32),.im (.sl u32)]),.a zp,.a zp],[],[.var (.st [.im i64,.row 2 zp,.im .bool,.im (.sl u32),.im (.sl u32)]),.var (.st [.im i64,.row 3 zp,.im .bool,.im (.sl u32),.im (.sl u32)]),.arr zp,.arr zp]⟩⟩] fun p s=>gS p.1 p.2.1 p.2.2 s
def h59:Hints:=Hz [(0,Pt)] [] []
theorem z61:LO Tryz.f59 Pt 0:=lk t118 (rz [2,3]) h59 [] zl
theorem zdg:zB Pz 59 ⟨[.ty zV,.ty zJ],[zV],fun x=>uF x.1 x.2⟩:=qJ t118 (rz [2,3]) h59 Tryz.func59 [0] (zI rfl z61 zl)
def t119:=t118.d zdg
def LP:zE:=Lz [] [Mm 0 (.sl u32),Mm 1 (.sl u32),Mm 24 (.sl u32),Mi 25] ⟨[Mm 6 (.int .u64),Mi 26,.a u32],[(5,.cur 0 u32)],[.arr u32]⟩ [⟨.exit 0,⟨[Mm 6 (.int .u64),.a u32],[(5,.cur 0 u32)],[.arr u32]⟩⟩] fun p s=>nz p.1 p.2.1 p.2.2.1 p.2.2.2 s
def zby:Hints:=Hz [(0,LP)] [(3,2,.flat [Mm 0 (.sl u32),Mm 1 (.sl u32)]),(3,10,.flat [Mm 6 (.int .u64)])] [(16,[5])]
theorem z2q:LO Tryz.f164 LP 0:=lk t119 rn zby [] zl
theorem z9i:zB Pz 164 ⟨[.ty (.sl u32),.ty (.sl u32)],[(.sl u32)],fun x=>QH x.1 x.2⟩:=qJ t119 rn zby Tryz.func164 [0] (zI rfl z2q zl)
def t120:=t119.d z9i
def M4:zE:=Lz [] [Mm 1 (.sl u32),Mm 22 (.sl u32),Mi 23] ⟨[Mm 7 u32,Mi 24,.a u32],[(6,.cur 0 u32)],[.arr u32]⟩ [⟨.exit 0,⟨[.a u32],[(6,.cur 0 u32)],[.arr u32]⟩⟩] fun p s=>oP p.1 p.2.1 p.2.2 s
def zaD:Hints:=Hz [(0,M4)] [(3,10,.flat [Mm 10 u32])] [(14,[6])]
theorem z1f:LO Tryz.f165 M4 0:=lk t120 rn zaD [] zl
theorem z9e:zB Pz 165 ⟨[.ty (.sl u32),.ty (.sl u32)],[(.sl u32),.bool],fun x=>tk x.1 x.2⟩:=qJ t120 rn zaD Tryz.func165 [0] (zI rfl z1f zl)
def t121:=t120.d z9e
theorem za3:zB Pz 111 ⟨[.ty zJ,.ty zJ],[zJ],fun x=>lJ x.1 x.2⟩:=qJ t121 rn hN Tryz.func111 [] zl
def t122:=t121.d za3
def SV:zE:=Lz [.cell 0 1 zp,.cell 1 1 zp] [] ⟨[Mm 6 (.sl zp),Mm 7 (.sl zp),.v (.st [.im i64,.row 2 zp,.im .bool,.im (.sl u32),.im (.sl u32)]),.v (.st [.im i64,.row 3 zp,.im .bool,.im (.sl u32),.im (.sl u32)]),.a zp,.a zp],[(4,.ptr 0 0),(5,.ptr 1 0)],[.var (.st [.im i64,.row 2 zp,.im .bool,.im (.sl u32),.im (.sl u32)]),.var (.st [.im i64,.row 3 zp,.im .bool,.im (.sl u32),.im (.sl u32)]),.arr zp,.arr zp]⟩ [⟨.exit 0,⟨[.v (.st [.im i64,.row 2 zp,.im .bool,.im (.sl u32),.im (.sl u32)]),.v (.st [.im i64,.row 3 zp,.im .bool,.im (.sl u32),.im (.sl u32)]),.a zp,.a zp],[],[.var (.st [.im i64,.row 2 zp,.im .bool,.im (.sl u32),.im (.sl u32)]),.var (.st [.im i64,.row 3 zp,.im .bool,.im (.sl u32),.im (.sl u32)]),.arr zp,.arr zp]⟩⟩] fun p s=>vc  s
def h58:Hints:=Hz [(0,SV)] [(0,6,.flat [Mb 46]),(0,8,.flat [Mb 78]),(2,6,.ways [⟨.normal,⟨[Mm 6 (.sl zp),Mm 7 (.sl zp),.v (.st [.im i64,.row 2 zp,.im .bool,.im (.sl u32),.im (.sl u32)]),.v (.st [.im i64,.row 3 zp,.im .bool,.im (.sl u32),.im (.sl u32)]),.a zp,.a zp,.v (.zY zp)],[],[.var (.st [.im i64,.row 2 zp,.im .bool,.im (.sl u32),.im (.sl u32)]),.var (.st [.im i64,.row 3 zp,.im .bool,.im (.sl u32),.im (.sl u32)]),.arr zp,.arr zp,.var (.zY zp)]⟩⟩])] []
theorem z7l:LO Tryz.f58 SV 0:=lk t122 (rz [2,3]) h58 [] zl
theorem zdD:zB Pz 58 ⟨[.ty zV,.ty zV],[zV],fun x=>tg x.1 x.2⟩:=qJ t122 (rz [2,3]) h58 Tryz.func58 [0] (zI rfl z7l zl)
def t123:=t122.d zdD
theorem z8S:zB Pz 196 ⟨[.ty zJ,.ty zJ],[zJ,.bool],fun x=>XL x.1 x.2⟩:=qJ t123 (rz [2]) hN Tryz.func196 [] zl
def t124:=t123.d z8S
def zdu:Hints:=Hz [] [(0,7,.flat [Mb 34])] []
theorem zcB:zB Pz 162 ⟨[.ty i64,.ty zV,.ty zV],[zV,i64],fun x=>nL x.1 x.2.1 x.2.2⟩:=qJ t124 (rz [4,5]) zdu Tryz.func162 [] zl
def t125:=t124.d zcB
abbrev zc5:=uT [.ty .expr,.ty zP]→T (K7 [zV,i64])
abbrev zfK(F:zc5):=zB Pz 110 ⟨[.ty .expr,.ty zP],[zV,i64],F⟩
theorem z0M(Yo:zc5)(Ps:zfK Yo):zB Pz 110 ⟨[.ty .expr,.ty zP],[zV,i64],fun x=>tb (fun y0 y1=>Yo (y0,y1)) x.1 x.2⟩:=qJ (t125.d Ps) (rz [2,3]) hN Tryz.func110 [] zl
theorem z8c:zB Pz 110 ⟨[.ty .expr,.ty zP],[zV,i64],fun x=>Uh x.1 x.2⟩:=mg (fun Yo x=>tb (fun y0 y1=>Yo (y0,y1)) x.1 x.2) (fun x=>rfl) (fun Yo Ps=>z0M Yo Ps)
def t126:=t125.d z8c
theorem zgz:zB Pz 57 ⟨[.ty .expr,.ty zP],[zV,i64],fun x=>JP x.1 x.2⟩:=qJ t126 (rz [2,3]) hN Tryz.func57 [] zl
def t127:=t126.d zgz
theorem zdB:zB Pz 27 ⟨[.ty zo,.ty zP],[zV,i64],fun x=>oy x.1 x.2⟩:=qJ t127 (rz [2,3]) hN Tryz.func27 [] zl
def t128:=t127.d zdB
theorem zdy:zB Pz 62 ⟨[.ty zp],[.bool],fun x=>vo x⟩:=qJ t128 (rz [1]) hN Tryz.func62 [] zl
def t129:=t128.d zdy
def IX:zE:=Lz [] [Mm 0 (.sl zp),.s 1 (.xk 62 []),Mi 7] ⟨[Mi 8],[],[]⟩ [⟨.exit 0,⟨[],[],[]⟩⟩,⟨.ret,⟨[Mi 4],[],[]⟩⟩] fun p s=>xx p.1 (fun z0=>vo z0) p.2.2 s
def z9D:Hints:=Hz [(0,IX)] [] []
theorem z1u:LO Tryz.f114 IX 0:=lk t129 rn z9D [] zl
theorem z9o:zB Pz 114 ⟨[.ty (.sl zp),.xk 62 []],[i64],fun x=>wJ x.1 (fun z0=>vo z0)⟩:=qJ t129 rn z9D Tryz.func114 [0] (zI rfl z1u zl)
def t130:=t129.d z9o
theorem zdk:zB Pz 61 ⟨[.ty (.sl zp),.xk 62 []],[.bool],fun x=>xb x.1 (fun z0=>vo z0)⟩:=qJ t130 rn hN Tryz.func61 [] zl
def t131:=t130.d zdk
theorem zfp:zB Pz 28 ⟨[.ty zV],[.bool],fun x=>oh x⟩:=qJ t131 (rz [1]) hN Tryz.func28 [] zl
def t132:=t131.d zfp
def z4z:zE:=Lz [.cell 1 0 zV,.cell 1 1 i64] [Mm 2 (.sl .bool),Mr 3 zG,Mm 52 (.sl zo),Mi 53] ⟨[Mi 54,.v (.zY qi),.v (.st [.row 3 zV,.row 4 i64]),.v (.zY zP),.a zV,.a i64],[(6,.ptr 0 0),(11,.ptr 1 0),(12,.ptr 2 0)],[.var (.zY qi),.var (.st [.row 3 zV,.row 4 i64]),.var (.zY zP),.arr zV,.arr i64]⟩ [⟨.exit 0,⟨[.v (.zY qi),.v (.st [.row 3 zV,.row 4 i64]),.v (.zY zP),.a zV,.a i64],[],[.var (.zY qi),.var (.st [.row 3 zV,.row 4 i64]),.var (.zY zP),.arr zV,.arr i64]⟩⟩,⟨.ret,⟨[Ms 7,Mi 8,.v (.zY qi),.v (.st [.row 3 zV,.row 4 i64]),.v (.zY zP),.a zV,.a i64],[],[.var (.zY qi),.var (.st [.row 3 zV,.row 4 i64]),.var (.zY zP),.arr zV,.arr i64]⟩⟩] fun p s=>ui p.1 p.2.1 p.2.2.1 p.2.2.2 s
def z4n:zE:=Lz [] [Mr 3 zG,Mi 92] ⟨[Mi 93,.v (.zY qi),.v (.st [.row 3 zV,.row 4 i64]),.v (.zY zP),.a zV,.a i64],[(6,.ptr 0 0),(11,.ptr 1 0),(91,.cur 3 zV)],[.var (.zY qi),.var (.st [.row 3 zV,.row 4 i64]),.var (.zY zP),.arr zV,.arr i64]⟩ [⟨.exit 2,⟨[.v (.zY qi),.v (.st [.row 3 zV,.row 4 i64]),.v (.zY zP),.a zV,.a i64],[],[.var (.zY qi),.var (.st [.row 3 zV,.row 4 i64]),.var (.zY zP),.arr zV,.arr i64]⟩⟩,⟨.ret,⟨[Ms 7,Mi 8,.v (.zY qi),.v (.st [.row 3 zV,.row 4 i64]),.v (.zY zP),.a zV,.a i64],[],[.var (.zY qi),.var (.st [.row 3 zV,.row 4 i64]),.var (.zY zP),.arr zV,.arr i64]⟩⟩] fun p s=>hZ p.1 p.2 s
def h8:Hints:=Hz [(0,z4z),(2,z4n)] [(0,4,.ways [⟨.normal,⟨[Mb 46,.v (.zY qi)],[],[.var (.zY qi)]⟩⟩])] []
theorem z9K:LO Tryz.f8 z4z 0:=lk t132 (rz [3]) h8 [] zl
theorem z8i:LO Tryz.f8 z4n 2:=lk t132 (rz [3]) h8 [] zl
theorem ok8:zB Pz 8 ⟨[.ty zG,.ty (.sl zJ),.ty (.sl .bool)],[qi,.str,i64],fun x=>fj x.1 x.2.1 x.2.2⟩:=qJ t132 (rz [3]) h8 Tryz.func8 [0,2] (zI rfl z9K (zI rfl z8i zl))
def t133:=t132.d ok8
def zd9:Hints:=Hz [] [(0,1,.flat [Mb 2])] []
theorem zaR:zB Pz 166 ⟨[.ty (.int .u8)],[.bool],fun x=>kJ x⟩:=qJ t133 rn zd9 Tryz.func166 [] zl
def t134:=t133.d zaR
def zdW:Hints:=Hz [] [(0,1,.flat [Mb 2])] []
theorem z8V:zB Pz 167 ⟨[.ty (.int .u8)],[.bool],fun x=>oT x⟩:=qJ t134 rn zdW Tryz.func167 [] zl
def t135:=t134.d z8V
def Lc:zE:=Lz [] [Ms 0] ⟨[Mi 3],[],[]⟩ [⟨.exit 0,⟨[],[],[]⟩⟩,⟨.ret,⟨[Mb 2],[],[]⟩⟩] fun p s=>kP p s
def zae:Hints:=Hz [(0,Lc)] [(0,1,.ways [⟨.normal,⟨[Mb 17],[],[]⟩⟩]),(0,6,.ways [⟨.normal,⟨[Mb 41],[],[]⟩⟩])] []
theorem z2i:LO Tryz.f115 Lc 0:=lk t135 rn zae [] zl
theorem z95:zB Pz 115 ⟨[.ty .str],[.bool],fun x=>vS x⟩:=qJ t135 rn zae Tryz.func115 [0] (zI rfl z2i zl)
def t136:=t135.d z95
def PZ:zE:=Lz [] [Mm 0 (.sl u32)] ⟨[Mi 3],[],[]⟩ [⟨.exit 0,⟨[Mi 3],[],[]⟩⟩] fun p s=>bg p s
def h85:Hints:=Hz [(0,PZ)] [(0,2,.flat [Mb 15])] []
theorem z5t:LO Tryz.f85 PZ 0:=lk t136 rn h85 [] zl
theorem zdn:zB Pz 85 ⟨[.ty (.sl u32)],[(.sl u32)],fun x=>xn x⟩:=qJ t136 rn h85 Tryz.func85 [0] (zI rfl z5t zl)
def t137:=t136.d zdn
def Il:zE:=Lz [] [Mm 4 (.sl u32)] ⟨[Mm 5 (.int .u64),Mi 6],[],[]⟩ [⟨.exit 0,⟨[Mm 5 (.int .u64)],[],[]⟩⟩] fun p s=>fZ p s
def z8s:Hints:=Hz [(0,Il)] [] []
theorem z2o:LO Tryz.f130 Il 0:=lk t137 rn z8s [] zl
theorem z8C:zB Pz 130 ⟨[.ty (.sl u32)],[(.int .u64),.bool],fun x=>QS x⟩:=qJ t137 rn z8s Tryz.func130 [0] (zI rfl z2o zl)
def t138:=t137.d z8C
theorem zgx:zB Pz 76 ⟨[.ty (.int .u64)],[(.sl u32)],fun x=>oF x⟩:=qJ t138 rn hN Tryz.func76 [] zl
def t139:=t138.d zgx
def IM:zE:=Lz [] [Mm 0 (.sl u32),Mm 1 (.int .u64)] ⟨[Mm 7 (.int .u64),Mi 8,.a u32],[(6,.cur 0 u32)],[.arr u32]⟩ [⟨.exit 0,⟨[Mm 7 (.int .u64),.a u32],[(6,.cur 0 u32)],[.arr u32]⟩⟩] fun p s=>cK p.1 p.2 s
def zbl:Hints:=Hz [(0,IM)] [] [(9,[6])]
theorem z0N:LO Tryz.f131 IM 0:=lk t139 rn zbl [] zl
theorem zcj:zB Pz 131 ⟨[.ty (.sl u32),.ty (.int .u64)],[(.sl u32),(.int .u64)],fun x=>cg x.1 x.2⟩:=qJ t139 rn zbl Tryz.func131 [0] (zI rfl z0N zl)
def t140:=t139.d zcj
theorem zcE:zB Pz 177 ⟨[.ty (.sl u32),.ty i64],[(.int .u64)],fun x=>bf x.1 x.2⟩:=qJ t140 rn hN Tryz.func177 [] zl
def t141:=t140.d zcE
def I0:zE:=Lz [.slot 8 u32] [Mm 5 (.sl u32),Mm 7 (.int .u64)] ⟨[Mi 9,.a u32],[(8,.cur 0 u32)],[.arr u32]⟩ [⟨.exit 0,⟨[.a u32],[(8,.cur 0 u32)],[.arr u32]⟩⟩] fun p s=>Ze p.1 p.2 s
def LN:zE:=Lz [] [Mm 5 (.sl u32),Mm 11 (.int .u64)] ⟨[Mm 12 (.int .u64),Mi 13,.a u32],[(10,.cur 0 u32)],[.arr u32]⟩ [⟨.exit 2,⟨[.a u32],[(10,.cur 0 u32)],[.arr u32]⟩⟩] fun p s=>cM p.1 p.2 s
def z65:Hints:=Hz [(0,I0),(2,LN)] [] [(14,[8]),(24,[10])]
theorem z1c:LO Tryz.f132 I0 0:=lk t141 rn z65 [] zl
theorem z0z:LO Tryz.f132 LN 2:=lk t141 rn z65 [] zl
theorem zbG:zB Pz 132 ⟨[.ty (.sl u32),.ty i64],[(.sl u32)],fun x=>ou x.1 x.2⟩:=qJ t141 rn z65 Tryz.func132 [0,2] (zI rfl z1c (zI rfl z0z zl))
def t142:=t141.d zbG
def Lm:zE:=Lz [.slot 5 u32] [Mm 0 (.sl u32),Mm 1 (.sl u32)] ⟨[Mm 6 (.int .u64),Mi 7,.a u32],[(5,.cur 0 u32)],[.arr u32]⟩ [⟨.exit 0,⟨[.a u32],[(5,.cur 0 u32)],[.arr u32]⟩⟩] fun p s=>lG p.1 p.2 s
def zcd:Hints:=Hz [(0,Lm)] [] [(9,[5])]
theorem z0V:LO Tryz.f127 Lm 0:=lk t142 rn zcd [] zl
theorem zc3:zB Pz 127 ⟨[.ty (.sl u32),.ty (.sl u32)],[(.sl u32)],fun x=>mq x.1 x.2⟩:=qJ t142 rn zcd Tryz.func127 [0] (zI rfl z0V zl)
def t143:=t142.d zc3
def IQ:zE:=Lz [] [Mm 5 (.sl u32),Mm 6 (.sl u32)] ⟨[Mi 7],[],[]⟩ [⟨.exit 0,⟨[],[],[]⟩⟩,⟨.ret,⟨[Mi 4],[],[]⟩⟩] fun p s=>cZ p.1 p.2 s
def zbH:Hints:=Hz [(0,IQ)] [] []
theorem z11:LO Tryz.f128 IQ 0:=lk t143 rn zbH [] zl
theorem zbd:zB Pz 128 ⟨[.ty (.sl u32),.ty (.sl u32)],[i64],fun x=>fM x.1 x.2⟩:=qJ t143 rn zbH Tryz.func128 [0] (zI rfl z11 zl)
def t144:=t143.d zbd
def LD:zE:=Lz [.slot 6 u32] [Mm 0 (.sl u32),Mm 1 (.sl u32)] ⟨[Mm 7 (.int .u64),Mi 8,.a u32],[(6,.cur 0 u32)],[.arr u32]⟩ [⟨.exit 0,⟨[.a u32],[(6,.cur 0 u32)],[.arr u32]⟩⟩] fun p s=>iR p.1 p.2 s
def z9E:Hints:=Hz [(0,LD)] [(3,10,.flat [Mm 7 (.int .u64),Mm 9 (.int .u64)])] [(14,[6])]
theorem z0o:LO Tryz.f129 LD 0:=lk t144 rn z9E [] zl
theorem zbT:zB Pz 129 ⟨[.ty (.sl u32),.ty (.sl u32)],[(.sl u32),.bool],fun x=>iw x.1 x.2⟩:=qJ t144 rn z9E Tryz.func129 [0] (zI rfl z0o zl)
def t145:=t144.d zbT
def TS:zE:=Lz [] [Mm 0 (.sl u32),Mm 1 (.sl u32)] ⟨[Mm 14 (.sl u32),Mi 15,.a u32],[(13,.cur 0 u32)],[.arr u32]⟩ [⟨.exit 0,⟨[Mm 14 (.sl u32),.a u32],[(13,.cur 0 u32)],[.arr u32]⟩⟩] fun p s=>uJ p.1 p.2 s
def h87:Hints:=Hz [(0,TS)] [(0,5,.flat [Mb 33]),(0,7,.flat [Mb 46]),(3,16,.ways [⟨.normal,⟨[Mm 14 (.sl u32),.a u32],[(13,.cur 0 u32)],[.arr u32]⟩⟩])] [(21,[13])]
theorem z7a:LO Tryz.f87 TS 0:=lk t145 rn h87 [] zl
theorem ze5:zB Pz 87 ⟨[.ty (.sl u32),.ty (.sl u32)],[(.sl u32),(.sl u32),.bool],fun x=>ku x.1 x.2⟩:=qJ t145 rn h87 Tryz.func87 [0] (zI rfl z7a zl)
def t146:=t145.d ze5
def T8:zE:=Lz [] [] ⟨[Mm 5 (.sl u32),Mm 6 (.sl u32)],[],[]⟩ [⟨.exit 0,⟨[Mm 5 (.sl u32)],[],[]⟩⟩] fun p s=>dJ  s
def h86:Hints:=Hz [(0,T8)] [] []
theorem z73:LO Tryz.f86 T8 0:=lk t146 rn h86 [] zl
theorem zg8:zB Pz 86 ⟨[.ty (.sl u32),.ty (.sl u32)],[(.sl u32)],fun x=>Xo x.1 x.2⟩:=qJ t146 rn h86 Tryz.func86 [0] (zI rfl z73 zl)
def t147:=t146.d zg8
def h40:Hints:=Hz [] [(0,2,.flat [Mb 19])] []
theorem zfe:zB Pz 40 ⟨[.ty zJ],[zJ],fun x=>xd x⟩:=qJ t147 (rz [1]) h40 Tryz.func40 [] zl
def t148:=t147.d zfe
def Rx:zE:=Lz [] [Mm 0 (.sl u32),Mm 1 (.sl u32)] ⟨[Mi 5],[],[]⟩ [⟨.exit 0,⟨[],[],[]⟩⟩,⟨.ret,⟨[Mb 4],[],[]⟩⟩] fun p s=>wH p.1 p.2 s
def h41:Hints:=Hz [(0,Rx)] [] []
theorem z7r:LO Tryz.f41 Rx 0:=lk t148 rn h41 [] zl
theorem zgE:zB Pz 41 ⟨[.ty (.sl u32),.ty (.sl u32)],[.bool],fun x=>j0 x.1 x.2⟩:=qJ t148 rn h41 Tryz.func41 [0] (zI rfl z7r zl)
def t149:=t148.d zgE
theorem zfT:zB Pz 70 ⟨[.ty zJ],[.bool],fun x=>QI x⟩:=qJ t149 (rz [1]) hN Tryz.func70 [] zl
def t150:=t149.d zfT
def h71:Hints:=Hz [] [(0,2,.flat [Mb 2])] []
theorem zfQ:zB Pz 71 ⟨[.ty zJ],[.bool],fun x=>kg x⟩:=qJ t150 (rz [1]) h71 Tryz.func71 [] zl
def t151:=t150.d zfQ
theorem zdP:zB Pz 30 ⟨[.ty zJ],[.bool],fun x=>cn x⟩:=qJ t151 (rz [1]) hN Tryz.func30 [] zl
def t152:=t151.d zdP
theorem zaY:zB Pz 116 ⟨[.ty .str],[.bool],fun x=>fR x⟩:=qJ t152 rn hN Tryz.func116 [] zl
def t153:=t152.d zaY
def Ik:zE:=Lz [] [Mm 0 (.sl u32),Mm 1 (.sl u32),Mi 6] ⟨[Mm 7 (.int .u64),Mi 8,.a u32],[(5,.cur 0 u32)],[.arr u32]⟩ [⟨.exit 2,⟨[.a u32],[(5,.cur 0 u32)],[.arr u32]⟩⟩] fun p s=>de p.1 p.2.1 p.2.2 s
def L3:zE:=Lz [] [Mm 0 (.sl u32),Mm 1 (.sl u32)] ⟨[Mi 6,.a u32],[(5,.cur 0 u32)],[.arr u32]⟩ [⟨.exit 0,⟨[.a u32],[(5,.cur 0 u32)],[.arr u32]⟩⟩] fun p s=>lv p.1 p.2 s
def z5K:Hints:=Hz [(2,Ik),(0,L3)] [(0,7,.flat [Mb 28])] [(13,[5])]
theorem z1E:LO Tryz.f126 Ik 2:=lk t153 rn z5K [] zl
theorem z1B:LO Tryz.f126 L3 0:=lk t153 rn z5K [2] (zI rfl z1E zl)
theorem z8Z:zB Pz 126 ⟨[.ty (.sl u32),.ty (.sl u32)],[(.sl u32)],fun x=>uK x.1 x.2⟩:=qJ t153 rn z5K Tryz.func126 [0] (zI rfl z1B zl)
def t154:=t153.d z8Z
def IN:zE:=Lz [] [] ⟨[Mm 3 (.sl u32),Ms 4],[],[]⟩ [⟨.exit 0,⟨[Ms 4],[],[]⟩⟩] fun p s=>yI  s
def z8A:Hints:=Hz [(0,IN)] [] []
theorem z2U:LO Tryz.f199 IN 0:=lk t154 rn z8A [] zl
theorem z8k:zB Pz 199 ⟨[.ty (.sl u32)],[.str],fun x=>cp x⟩:=qJ t154 rn z8A Tryz.func199 [0] (zI rfl z2U zl)
def t155:=t154.d z8k
def Ml:zE:=Lz [] [Mi 1] ⟨[Ms 5],[],[]⟩ [⟨.exit 0,⟨[Ms 5],[],[]⟩⟩] fun p s=>kc p s
def z8h:Hints:=Hz [(0,Ml)] [] []
theorem z1O:LO Tryz.f201 Ml 0:=lk t155 rn z8h [] zl
theorem z8v:zB Pz 201 ⟨[.ty (.sl u32),.ty i64],[.str],fun x=>lj x.1 x.2⟩:=qJ t155 rn z8h Tryz.func201 [0] (zI rfl z1O zl)
def t156:=t155.d z8v
theorem za7:zB Pz 198 ⟨[.ty .bool],[.str],fun x=>fb x⟩:=qJ t156 rn hN Tryz.func198 [] zl
def t157:=t156.d za7
def zg9:Hints:=Hz [] [(3,2,.flat [Ms 7])] []
theorem zaV:zB Pz 176 ⟨[.ty .bool,.ty (.sl u32),.ty i64],[.str],fun x=>nV x.1 x.2.1 x.2.2⟩:=qJ t157 rn zg9 Tryz.func176 [] zl
def t158:=t157.d zaV
def L2:zE:=Lz [] [] ⟨[Mm 5 (.sl u32),Mi 6,.v (.zY zJ)],[(4,.ptr 0 0)],[.var (.zY zJ)]⟩ [⟨.exit 0,⟨[.v (.zY zJ)],[],[.var (.zY zJ)]⟩⟩,⟨.ret,⟨[Ms 2,Mb 3,.v (.zY zJ)],[],[.var (.zY zJ)]⟩⟩] fun p s=>jt  s
def z8D:Hints:=Hz [(0,L2)] [] []
theorem z1F:LO Tryz.f124 L2 0:=lk t158 (rz [1]) z8D [] zl
theorem zaW:zB Pz 124 ⟨[.ty zJ],[.str,.bool],fun x=>cq x⟩:=qJ t158 (rz [1]) z8D Tryz.func124 [0] (zI rfl z1F zl)
def t159:=t158.d zaW
theorem z8w:zB Pz 125 ⟨[.ty zJ],[.bool],fun x=>k8 x⟩:=qJ t159 (rz [1]) hN Tryz.func125 [] zl
def t160:=t159.d z8w
abbrev Y77:=uT [.ty .expr,.ty i64]→T (K7 [.bool])
abbrev H77(F:Y77):=zB Pz 77 ⟨[.ty .expr,.ty i64],[.bool],F⟩
def T77(mP:Y77)(Cq:H77 mP):Tb:=t160.d Cq
def RA(mP:Y77):zE:=Lz [] [Mi 1,Mr 2 .expr,Mi 5] ⟨[Mi 8],[],[]⟩ [⟨.exit 1,⟨[],[],[]⟩⟩,⟨.ret,⟨[Mb 4],[],[]⟩⟩] fun p s=>dw (fun y0 y1=>mP (y0,y1)) p.1 p.2.1 p.2.2 s
def h77(mP:Y77):Hints:=Hz [(1,RA mP)] [(3,4,.ways [⟨.normal,⟨[Mi 5],[],[]⟩⟩,⟨.ret,⟨[Mb 4],[],[]⟩⟩]),(0,17,.ways [⟨.normal,⟨[Mb 82],[],[]⟩⟩])] []
theorem z5O(mP:Y77)(Cq:H77 mP):LO Tryz.f77 (RA mP) 1:=lk (T77 mP Cq) (rz [2]) (h77 mP) [] zl
theorem z5Q(mP:Y77)(Cq:H77 mP):zB Pz 77 ⟨[.ty .expr,.ty i64],[.bool],fun x=>oC (fun y0 y1=>mP (y0,y1)) x.1 x.2⟩:=qJ (T77 mP Cq) (rz [2]) (h77 mP) Tryz.func77 [1] (zI rfl (z5O mP Cq) zl)
theorem zdR:zB Pz 77 ⟨[.ty .expr,.ty i64],[.bool],fun x=>mD x.1 x.2⟩:=mg (fun mP x=>oC (fun y0 y1=>mP (y0,y1)) x.1 x.2) (fun x=>rfl) (fun mP Cq=>z5Q mP Cq)
def t161:=t160.d zdR
abbrev Y78:=uT [.ty .expr]→T (K7 [i64])
abbrev H78(F:Y78):=zB Pz 78 ⟨[.ty .expr],[i64],F⟩
def T78(mW:Y78)(Bq:H78 mW):Tb:=t161.d Bq
def Sp(mW:Y78):zE:=Lz [] [Mr 1 .expr] ⟨[Mi 3,Mi 4],[],[]⟩ [⟨.exit 0,⟨[Mi 3],[],[]⟩⟩] fun p s=>yA (fun y0=>mW (y0)) p s
def h78(mW:Y78):Hints:=Hz [(0,Sp mW)] [] []
theorem z6g(mW:Y78)(Bq:H78 mW):LO Tryz.f78 (Sp mW) 0:=lk (T78 mW Bq) (rz [1]) (h78 mW) [] zl
theorem z7d(mW:Y78)(Bq:H78 mW):zB Pz 78 ⟨[.ty .expr],[i64],fun x=>eT (fun y0=>mW (y0)) x⟩:=qJ (T78 mW Bq) (rz [1]) (h78 mW) Tryz.func78 [0] (zI rfl (z6g mW Bq) zl)
theorem zeH:zB Pz 78 ⟨[.ty .expr],[i64],fun x=>nR x⟩:=mg (fun mW x=>eT (fun y0=>mW (y0)) x) (fun x=>rfl) (fun mW Bq=>z7d mW Bq)
def t162:=t161.d zeH
theorem zee:zB Pz 36 ⟨[.ty .expr],[.bool],fun x=>yV x⟩:=qJ t162 (rz [1]) hN Tryz.func36 [] zl
def t163:=t162.d zee
def Ib:zE:=Lz [] [Mr 1 zG] ⟨[Mi 3,Mi 4],[],[]⟩ [⟨.exit 0,⟨[],[],[]⟩⟩,⟨.ret,⟨[Mb 2],[],[]⟩⟩] fun p s=>yE p s
def Lg:zE:=Lz [] [Mr 1 zG] ⟨[Mi 3,Mi 6],[],[]⟩ [⟨.exit 2,⟨[],[],[]⟩⟩,⟨.ret,⟨[Mb 2],[],[]⟩⟩] fun p s=>yt p s
def z5X:Hints:=Hz [(0,Ib),(2,Lg)] [(0,6,.ways [⟨.normal,⟨[Mb 47,.v (.zY q7)],[],[.var (.zY q7)]⟩⟩]),(0,14,.ways [⟨.normal,⟨[Mb 101,.v (.zY zn)],[],[.var (.zY zn)]⟩⟩])] []
theorem z1H:LO Tryz.f117 Ib 0:=lk t163 (rz [1]) z5X [] zl
theorem z3c:LO Tryz.f117 Lg 2:=lk t163 (rz [1]) z5X [] zl
theorem zci:zB Pz 117 ⟨[.ty zG],[.bool],fun x=>nC x⟩:=qJ t163 (rz [1]) z5X Tryz.func117 [0,2] (zI rfl z1H (zI rfl z3c zl))
def t164:=t163.d zci
def zgw:Hints:=Hz [] [(0,3,.flat [Mb 24])] []
theorem zbA:zB Pz 168 ⟨[.ty zJ],[.str],fun x=>oB x⟩:=qJ t164 (rz [1]) zgw Tryz.func168 [] zl
def t165:=t164.d zbA
theorem z8f:zB Pz 169 ⟨[.ty .str],[.str],fun x=>tH x⟩:=qJ t165 rn hN Tryz.func169 [] zl
def t166:=t165.d z8f
def zdU:Hints:=Hz [] [(3,2,.flat [Ms 3])] []
theorem z8m:zB Pz 170 ⟨[.ty q7],[.str],fun x=>oi x⟩:=qJ t166 (rz [1]) zdU Tryz.func170 [] zl
def t167:=t166.d z8m
def zeI:Hints:=Hz [] [(3,2,.flat [Mb 4]),(3,5,.flat [Mb 7])] []
theorem z9W:zB Pz 212 ⟨[.ty i64],[i64],fun x=>rO x⟩:=qJ t167 rn zeI Tryz.func212 [] zl
def t168:=t167.d z9W
abbrev z7y:=uT [.ty .expr,.ty i64]→T (K7 [.str])
abbrev zdq(F:z7y):=zB Pz 200 ⟨[.ty .expr,.ty i64],[.str],F⟩
def zfl(WG:z7y):Hints:=Hz [] [(3,2,.ways [⟨.normal,⟨[Ms 5],[],[]⟩⟩])] []
theorem z1l(WG:z7y)(Ri:zdq WG):zB Pz 200 ⟨[.ty .expr,.ty i64],[.str],fun x=>iT (fun y0 y1=>WG (y0,y1)) x.1 x.2⟩:=qJ (t168.d Ri) (rz [2]) (zfl WG) Tryz.func200 [] zl
theorem z9m:zB Pz 200 ⟨[.ty .expr,.ty i64],[.str],fun x=>sY x.1 x.2⟩:=mg (fun WG x=>iT (fun y0 y1=>WG (y0,y1)) x.1 x.2) (fun x=>rfl) (fun WG Ri=>z1l WG Ri)
def t169:=t168.d z9m
theorem zat:zB Pz 171 ⟨[.ty .expr],[.str],fun x=>kG x⟩:=qJ t169 (rz [1]) hN Tryz.func171 [] zl
def t170:=t169.d zat
theorem zbv:zB Pz 172 ⟨[.ty i64],[.str],fun x=>Xs x⟩:=qJ t170 rn hN Tryz.func172 [] zl
def t171:=t170.d zbv
theorem zac:zB Pz 173 ⟨[.ty i64],[.str],fun x=>cF x⟩:=qJ t171 rn hN Tryz.func173 [] zl
def t172:=t171.d zac
def Lr:zE:=Lz [] [Mr 1 zG] ⟨[Ms 3,Mi 4],[],[]⟩ [⟨.exit 0,⟨[Ms 3],[],[]⟩⟩] fun p s=>bq p s
def Lk:zE:=Lz [] [Mr 1 zG] ⟨[Ms 3,Mi 6],[],[]⟩ [⟨.exit 2,⟨[Ms 3],[],[]⟩⟩] fun p s=>bN p s
def Ix:zE:=Lz [] [Mr 1 zG,Mi 7] ⟨[Ms 3,Mi 8],[],[]⟩ [⟨.exit 6,⟨[Ms 3],[],[]⟩⟩] fun p s=>bh p.1 p.2 s
def Ij:zE:=Lz [] [Mr 1 zG,Mi 7] ⟨[Ms 3,Mi 9],[],[]⟩ [⟨.exit 8,⟨[Ms 3],[],[]⟩⟩] fun p s=>bj p.1 p.2 s
def LH:zE:=Lz [] [Mr 1 zG] ⟨[Ms 3,Mi 7],[],[]⟩ [⟨.exit 4,⟨[Ms 3],[],[]⟩⟩] fun p s=>bR p s
def Cp:zE:=Lz [] [Mr 1 zG] ⟨[Ms 3,Mi 11],[],[]⟩ [⟨.exit 10,⟨[Ms 3],[],[]⟩⟩] fun p s=>bC p s
def E0:Hints:=Hz [(0,Lr),(2,Lk),(6,Ix),(8,Ij),(4,LH),(10,Cp)] [(3,6,.flat [Ms 5])] []
theorem z1x:LO Tryz.f118 Lr 0:=lk t172 (rz [1]) E0 [] zl
theorem z2E:LO Tryz.f118 Lk 2:=lk t172 (rz [1]) E0 [] zl
theorem z1h:LO Tryz.f118 Ix 6:=lk t172 (rz [1]) E0 [] zl
theorem z10:LO Tryz.f118 Ij 8:=lk t172 (rz [1]) E0 [] zl
theorem z15:LO Tryz.f118 LH 4:=lk t172 (rz [1]) E0 [6,8] (zI rfl z1h (zI rfl z10 zl))
theorem PF:LO Tryz.f118 Cp 10:=lk t172 (rz [1]) E0 [] zl
theorem zan:zB Pz 118 ⟨[.ty zG],[.str],fun x=>td x⟩:=qJ t172 (rz [1]) E0 Tryz.func118 [0,2,4,10] (zI rfl z1x (zI rfl z2E (zI rfl z15 (zI rfl PF zl))))
def t173:=t172.d zan
def Pl:zE:=Lz [] [Mr 1 zG] ⟨[Mi 3],[],[]⟩ [⟨.exit 0,⟨[],[],[]⟩⟩,⟨.ret,⟨[Mb 2],[],[]⟩⟩] fun p s=>iJ p s
def TZ:zE:=Lz [] [Mr 1 zG] ⟨[Mi 4],[],[]⟩ [⟨.exit 2,⟨[],[],[]⟩⟩,⟨.ret,⟨[Mb 2],[],[]⟩⟩] fun p s=>fU p s
def Rd:zE:=Lz [] [Mr 1 zG] ⟨[Mi 5],[],[]⟩ [⟨.exit 4,⟨[],[],[]⟩⟩,⟨.ret,⟨[Mb 2],[],[]⟩⟩] fun p s=>fQ p s
def Rn:zE:=Lz [] [Mr 1 zG] ⟨[Mi 6],[],[]⟩ [⟨.exit 6,⟨[],[],[]⟩⟩,⟨.ret,⟨[Mb 2],[],[]⟩⟩] fun p s=>fY p s
def h63:Hints:=Hz [(0,Pl),(2,TZ),(4,Rd),(6,Rn)] [(0,9,.ways [⟨.normal,⟨[Mb 47],[],[]⟩⟩]),(0,14,.ways [⟨.normal,⟨[Mb 72],[],[]⟩⟩]),(0,20,.ways [⟨.normal,⟨[Mb 116,.v (.zY zo)],[],[.var (.zY zo)]⟩⟩])] []
theorem z6V:LO Tryz.f63 Pl 0:=lk t173 (rz [1]) h63 [] zl
theorem z7w:LO Tryz.f63 TZ 2:=lk t173 (rz [1]) h63 [] zl
theorem z5a:LO Tryz.f63 Rd 4:=lk t173 (rz [1]) h63 [] zl
theorem z7h:LO Tryz.f63 Rn 6:=lk t173 (rz [1]) h63 [] zl
theorem zdK:zB Pz 63 ⟨[.ty zG],[.bool],fun x=>Ug x⟩:=qJ t173 (rz [1]) h63 Tryz.func63 [0,2,4,6] (zI rfl z6V (zI rfl z7w (zI rfl z5a (zI rfl z7h zl))))
def t174:=t173.d zdK
def Sl:zE:=Lz [.slot 3 .str] [Mr 1 zG] ⟨[Mi 4,.a .str],[(3,.cur 0 .str)],[.arr .str]⟩ [⟨.exit 0,⟨[.a .str],[(3,.cur 0 .str)],[.arr .str]⟩⟩] fun p s=>jO p s
def h34:Hints:=Hz [(0,Sl)] [] []
theorem z6o:LO Tryz.f34 Sl 0:=lk t174 (rz [1]) h34 [] zl
theorem zf4:zB Pz 34 ⟨[.ty zG],[(.sl .str)],fun x=>gH x⟩:=qJ t174 (rz [1]) h34 Tryz.func34 [0] (zI rfl z6o zl)
def t175:=t174.d zf4
def TT:zE:=Lz [.slot 3 .str] [Mr 1 zG] ⟨[Mi 4,.a .str],[(3,.cur 0 .str)],[.arr .str]⟩ [⟨.exit 0,⟨[.a .str],[(3,.cur 0 .str)],[.arr .str]⟩⟩] fun p s=>yG p s
def Rr:zE:=Lz [] [Mr 1 zG] ⟨[Mi 5,.a .str],[(3,.cur 0 .str)],[.arr .str]⟩ [⟨.exit 2,⟨[.a .str],[(3,.cur 0 .str)],[.arr .str]⟩⟩] fun p s=>yN p s
def TC:zE:=Lz [] [Mr 1 zG] ⟨[Mi 6,.a .str],[(3,.cur 0 .str)],[.arr .str]⟩ [⟨.exit 4,⟨[.a .str],[(3,.cur 0 .str)],[.arr .str]⟩⟩] fun p s=>yx p s
def OJ:zE:=Lz [] [Mr 1 zG] ⟨[Mi 7,.a .str],[(3,.cur 0 .str)],[.arr .str]⟩ [⟨.exit 6,⟨[.a .str],[(3,.cur 0 .str)],[.arr .str]⟩⟩] fun p s=>ym p s
def OT:zE:=Lz [] [Mr 1 zG] ⟨[Mi 8,.a .str],[(3,.cur 0 .str)],[.arr .str]⟩ [⟨.exit 8,⟨[.a .str],[(3,.cur 0 .str)],[.arr .str]⟩⟩] fun p s=>yy p s
def h65:Hints:=Hz [(0,TT),(2,Rr),(4,TC),(6,OJ),(8,OT)] [] []
theorem z6q:LO Tryz.f65 TT 0:=lk t175 (rz [1]) h65 [] zl
theorem z5d:LO Tryz.f65 Rr 2:=lk t175 (rz [1]) h65 [] zl
theorem z6D:LO Tryz.f65 TC 4:=lk t175 (rz [1]) h65 [] zl
theorem z4J:LO Tryz.f65 OJ 6:=lk t175 (rz [1]) h65 [] zl
theorem z6a:LO Tryz.f65 OT 8:=lk t175 (rz [1]) h65 [] zl
theorem zdl:zB Pz 65 ⟨[.ty zG],[(.sl .str)],fun x=>ot x⟩:=qJ t175 (rz [1]) h65 Tryz.func65 [0,2,4,6,8] (zI rfl z6q (zI rfl z5d (zI rfl z6D (zI rfl z4J (zI rfl z6a zl)))))
def t176:=t175.d zdl
def L7:zE:=Lz [] [Mm 0 (.sl .str),Ms 1] ⟨[Mi 5],[],[]⟩ [⟨.exit 0,⟨[],[],[]⟩⟩,⟨.ret,⟨[Mb 4],[],[]⟩⟩] fun p s=>dI p.1 p.2 s
def z8M:Hints:=Hz [(0,L7)] [] []
theorem z3k:LO Tryz.f119 L7 0:=lk t176 rn z8M [] zl
theorem zcq:zB Pz 119 ⟨[.ty (.sl .str),.ty .str],[.bool],fun x=>yK x.1 x.2⟩:=qJ t176 rn z8M Tryz.func119 [0] (zI rfl z3k zl)
def t177:=t176.d zcq
def Rw:zE:=Lz [] [Mm 0 (.sl .str)] ⟨[Mi 3],[],[]⟩ [⟨.exit 0,⟨[],[],[]⟩⟩,⟨.ret,⟨[Ms 2],[],[]⟩⟩] fun p s=>yF p s
def h64:Hints:=Hz [(0,Rw)] [] []
theorem z6k:LO Tryz.f64 Rw 0:=lk t177 rn h64 [] zl
theorem zdv:zB Pz 64 ⟨[.ty (.sl .str)],[.str],fun x=>nn x⟩:=qJ t177 rn h64 Tryz.func64 [0] (zI rfl z6k zl)
def t178:=t177.d zdv
def Rl:zE:=Lz [.slot 3 .str] [Mr 1 zG] ⟨[Mi 4,.a .str],[(3,.cur 0 .str)],[.arr .str]⟩ [⟨.exit 0,⟨[.a .str],[(3,.cur 0 .str)],[.arr .str]⟩⟩] fun p s=>jT p s
def z05:zE:=Lz [] [Mr 1 zG] ⟨[Mi 5,.a .str],[(3,.cur 0 .str)],[.arr .str]⟩ [⟨.exit 2,⟨[.a .str],[(3,.cur 0 .str)],[.arr .str]⟩⟩,⟨.ret,⟨[Ms 2,.a .str],[],[.arr .str]⟩⟩] fun p s=>kz p s
def Rj:zE:=Lz [] [Mr 1 zG] ⟨[Mi 6,.a .str],[(3,.cur 0 .str)],[.arr .str]⟩ [⟨.exit 4,⟨[.a .str],[],[.arr .str]⟩⟩,⟨.ret,⟨[Ms 2,.a .str],[],[.arr .str]⟩⟩] fun p s=>kK p s
def h66:Hints:=Hz [(0,Rl),(2,z05),(4,Rj)] [(0,9,.ways [⟨.normal,⟨[Mb 47,.a .str],[(3,.cur 0 .str)],[.arr .str]⟩⟩]),(0,14,.ways [⟨.normal,⟨[Mb 78,.a .str],[(3,.cur 0 .str)],[.arr .str]⟩⟩])] []
theorem z5i:LO Tryz.f66 Rl 0:=lk t178 (rz [1]) h66 [] zl
theorem z7i:LO Tryz.f66 z05 2:=lk t178 (rz [1]) h66 [] zl
theorem z7f:LO Tryz.f66 Rj 4:=lk t178 (rz [1]) h66 [] zl
theorem zeM:zB Pz 66 ⟨[.ty zG],[.str],fun x=>dr x⟩:=qJ t178 (rz [1]) h66 Tryz.func66 [0,2,4] (zI rfl z5i (zI rfl z7i (zI rfl z7f zl)))
def t179:=t178.d zeM
def R3:zE:=Lz [.slot 3 .expr] [Mr 1 zG] ⟨[Mi 4,.a .expr],[(3,.cur 0 .expr)],[.arr .expr]⟩ [⟨.exit 0,⟨[.a .expr],[(3,.cur 0 .expr)],[.arr .expr]⟩⟩] fun p s=>yr p s
def z06:zE:=Lz [] [Mr 1 zG] ⟨[Mi 5,.a .expr],[(3,.cur 0 .expr)],[.arr .expr]⟩ [⟨.exit 2,⟨[.a .expr],[(3,.cur 0 .expr)],[.arr .expr]⟩⟩] fun p s=>yq p s
def h68:Hints:=Hz [(0,R3),(2,z06)] [] []
theorem z6t:LO Tryz.f68 R3 0:=lk t179 (rz [1]) h68 [] zl
theorem z6n:LO Tryz.f68 z06 2:=lk t179 (rz [1]) h68 [] zl
theorem zdN:zB Pz 68 ⟨[.ty zG],[(.sl .expr)],fun x=>fX x⟩:=qJ t179 (rz [1]) h68 Tryz.func68 [0,2] (zI rfl z6t (zI rfl z6n zl))
def t180:=t179.d zdN
abbrev CO:=uT [.ty .expr]→T (K7 [(.sl .str)])
abbrev z2P(F:CO):=zB Pz 120 ⟨[.ty .expr],[(.sl .str)],F⟩
def z5H(u7:CO)(sg:z2P u7):Tb:=t180.d sg
def LA(u7:CO):zE:=Lz [] [Mr 1 .expr,Mi 4,Mm 5 (.sl .str)] ⟨[Mi 6,.a .str],[(3,.cur 0 .str)],[.arr .str]⟩ [⟨.exit 2,⟨[.a .str],[(3,.cur 0 .str)],[.arr .str]⟩⟩] fun p s=>yv (fun y0=>u7 (y0)) p.1 p.2.1 p.2.2 s
def M3(u7:CO):zE:=Lz [.slot 3 .str] [Mr 1 .expr] ⟨[Mi 4,.a .str],[(3,.cur 0 .str)],[.arr .str]⟩ [⟨.exit 0,⟨[.a .str],[(3,.cur 0 .str)],[.arr .str]⟩⟩] fun p s=>yo (fun y0=>u7 (y0)) p s
def z7x(u7:CO):Hints:=Hz [(2,LA u7),(0,M3 u7)] [] []
theorem z1j(u7:CO)(sg:z2P u7):LO Tryz.f120 (LA u7) 2:=lk (z5H u7 sg) (rz [1]) (z7x u7) [] zl
theorem z1z(u7:CO)(sg:z2P u7):LO Tryz.f120 (M3 u7) 0:=lk (z5H u7 sg) (rz [1]) (z7x u7) [2] (zI rfl (z1j u7 sg) zl)
theorem z0Q(u7:CO)(sg:z2P u7):zB Pz 120 ⟨[.ty .expr],[(.sl .str)],fun x=>eU (fun y0=>u7 (y0)) x⟩:=qJ (z5H u7 sg) (rz [1]) (z7x u7) Tryz.func120 [0] (zI rfl (z1z u7 sg) zl)
theorem z8I:zB Pz 120 ⟨[.ty .expr],[(.sl .str)],fun x=>fO x⟩:=mg (fun u7 x=>eU (fun y0=>u7 (y0)) x) (fun x=>rfl) (fun u7 sg=>z0Q u7 sg)
def t181:=t180.d z8I
def OW:zE:=Lz [] [Mm 0 (.sl .expr),Mm 1 (.sl .str),Mi 5,Mm 6 (.sl .str)] ⟨[Mi 7],[],[]⟩ [⟨.exit 2,⟨[],[],[]⟩⟩,⟨.ret,⟨[Ms 4],[],[]⟩⟩] fun p s=>jf p.1 p.2.1 p.2.2.1 p.2.2.2 s
def Sw:zE:=Lz [] [Mm 0 (.sl .expr),Mm 1 (.sl .str)] ⟨[Mi 5],[],[]⟩ [⟨.exit 0,⟨[],[],[]⟩⟩,⟨.ret,⟨[Ms 4],[],[]⟩⟩] fun p s=>j9 p.1 p.2 s
def h67:Hints:=Hz [(2,OW),(0,Sw)] [] []
theorem z6i:LO Tryz.f67 OW 2:=lk t181 rn h67 [] zl
theorem z5n:LO Tryz.f67 Sw 0:=lk t181 rn h67 [2] (zI rfl z6i zl)
theorem zgu:zB Pz 67 ⟨[.ty (.sl .expr),.ty (.sl .str)],[.str],fun x=>gP x.1 x.2⟩:=qJ t181 rn h67 Tryz.func67 [0] (zI rfl z5n zl)
def t182:=t181.d zgu
def L9:zE:=Lz [] [Mm 1 (.sl .str),Mm 5 (.sl .str)] ⟨[Mi 6],[],[]⟩ [⟨.exit 0,⟨[],[],[]⟩⟩,⟨.ret,⟨[Mb 4],[],[]⟩⟩] fun p s=>dy p.1 p.2 s
def zbe:Hints:=Hz [(0,L9)] [] []
theorem z0u:LO Tryz.f121 L9 0:=lk t182 (rz [2]) zbe [] zl
theorem zba:zB Pz 121 ⟨[.ty .expr,.ty (.sl .str)],[.bool],fun x=>bc x.1 x.2⟩:=qJ t182 (rz [2]) zbe Tryz.func121 [0] (zI rfl z0u zl)
def t183:=t182.d zba
abbrev Y69:=uT [.ty .expr,.ty (.sl .str)]→T (K7 [.bool])
abbrev H69(F:Y69):=zB Pz 69 ⟨[.ty .expr,.ty (.sl .str)],[.bool],F⟩
def T69(nj:Y69)(CN:H69 nj):Tb:=t183.d CN
def OR(nj:Y69):zE:=Lz [] [Mm 1 (.sl .str),Mr 2 .expr] ⟨[Mi 5],[],[]⟩ [⟨.exit 0,⟨[],[],[]⟩⟩,⟨.ret,⟨[Mb 4],[],[]⟩⟩] fun p s=>jS (fun y0 y1=>nj (y0,y1)) p.1 p.2 s
def h69(nj:Y69):Hints:=Hz [(0,OR nj)] [(0,6,.flat [Mb 21]),(0,8,.flat [Mb 47])] []
theorem z6N(nj:Y69)(CN:H69 nj):LO Tryz.f69 (OR nj) 0:=lk (T69 nj CN) (rz [2]) (h69 nj) [] zl
theorem z6X(nj:Y69)(CN:H69 nj):zB Pz 69 ⟨[.ty .expr,.ty (.sl .str)],[.bool],fun x=>cN (fun y0 y1=>nj (y0,y1)) x.1 x.2⟩:=qJ (T69 nj CN) (rz [2]) (h69 nj) Tryz.func69 [0] (zI rfl (z6N nj CN) zl)
theorem zfR:zB Pz 69 ⟨[.ty .expr,.ty (.sl .str)],[.bool],fun x=>dn x.1 x.2⟩:=mg (fun nj x=>cN (fun y0 y1=>nj (y0,y1)) x.1 x.2) (fun x=>rfl) (fun nj CN=>z6X nj CN)
def t184:=t183.d zfR
def TE:zE:=Lz [] [Mr 1 zG,Mm 5 (.sl .str)] ⟨[Mi 7,.a .str],[(6,.cur 0 .str)],[.arr .str]⟩ [⟨.exit 0,⟨[.a .str],[(6,.cur 0 .str)],[.arr .str]⟩⟩] fun p s=>jQ p.1 p.2 s
def Rz:zE:=Lz [] [Mr 1 zG,Mm 5 (.sl .str)] ⟨[Mi 8],[],[]⟩ [⟨.exit 2,⟨[],[],[]⟩⟩,⟨.ret,⟨[Mi 2,Ms 3],[],[]⟩⟩] fun p s=>jU p.1 p.2 s
def h29:Hints:=Hz [(0,TE),(2,Rz)] [(0,3,.flat [Mb 21]),(3,6,.ways [⟨.normal,⟨[Ms 4],[],[]⟩⟩]),(3,9,.ways [⟨.normal,⟨[Ms 4],[],[]⟩⟩]),(0,21,.ways [⟨.normal,⟨[Mb 85],[],[]⟩⟩])] []
theorem z5j:LO Tryz.f29 TE 0:=lk t184 (rz [1]) h29 [] zl
theorem z69:LO Tryz.f29 Rz 2:=lk t184 (rz [1]) h29 [] zl
theorem zdA:zB Pz 29 ⟨[.ty zG],[i64,.str],fun x=>lI x⟩:=qJ t184 (rz [1]) h29 Tryz.func29 [0,2] (zI rfl z5j (zI rfl z69 zl))
def t185:=t184.d zdA
def OE:zE:=Lz [.cell 0 0 .str,.cell 0 1 .str,.cell 2 1 .str] [Mr 2 zG] ⟨[Mi 6,.v (.st [.row 3 .str,.row 4 .str,.im (.sl zJ)]),.a zJ,.v (.st [.im (.sl .str),.row 5 .str,.row 1 zJ]),.a .str,.a .str,.a .str],[(4,.ptr 0 0),(5,.ptr 2 0)],[.var (.st [.row 3 .str,.row 4 .str,.im (.sl zJ)]),.arr zJ,.var (.st [.im (.sl .str),.row 5 .str,.row 1 zJ]),.arr .str,.arr .str,.arr .str]⟩ [⟨.exit 0,⟨[.v (.st [.row 3 .str,.row 4 .str,.im (.sl zJ)]),.a zJ,.v (.st [.im (.sl .str),.row 5 .str,.row 1 zJ]),.a .str,.a .str,.a .str],[],[.var (.st [.row 3 .str,.row 4 .str,.im (.sl zJ)]),.arr zJ,.var (.st [.im (.sl .str),.row 5 .str,.row 1 zJ]),.arr .str,.arr .str,.arr .str]⟩⟩] fun p s=>cT p s
def h13:Hints:=Hz [(0,OE)] [] []
theorem z5k:LO Tryz.f13 OE 0:=lk t185 (rz [2]) h13 [] zl
theorem zfU:zB Pz 13 ⟨[.ty zG,.ty (.sl zJ)],[zP],fun x=>mQ x.1 x.2⟩:=qJ t185 (rz [2]) h13 Tryz.func13 [0] (zI rfl z5k zl)
def t186:=t185.d zfU
def PT:zE:=Lz [] [Mm 1 (.sl .bool),Ms 2,Mr 3 zG] ⟨[Mi 7],[],[]⟩ [⟨.exit 0,⟨[],[],[]⟩⟩,⟨.ret,⟨[Mb 6],[],[]⟩⟩] fun p s=>il p.1 p.2.1 p.2.2 s
def h31:Hints:=Hz [(0,PT)] [(0,5,.flat [Mb 6])] []
theorem z6J:LO Tryz.f31 PT 0:=lk t186 (rz [3]) h31 [] zl
theorem ze2:zB Pz 31 ⟨[.ty zG,.ty (.sl .bool),.ty .str],[.bool],fun x=>Uk x.1 x.2.1 x.2.2⟩:=qJ t186 (rz [3]) h31 Tryz.func31 [0] (zI rfl z6J zl)
def t187:=t186.d ze2
theorem zep:zB Pz 75 ⟨[.ty .bool,.ty (.sl u32),.ty (.sl u32)],[zJ],fun x=>cz x.1 x.2.1 x.2.2⟩:=qJ t187 rn hN Tryz.func75 [] zl
def t188:=t187.d zep
def h35:Hints:=Hz [] [(3,2,.flat [Mm 3 (.int .u64)])] []
theorem ze6:zB Pz 35 ⟨[.ty i64],[zJ],fun x=>wa x⟩:=qJ t188 rn h35 Tryz.func35 [] zl
def t189:=t188.d ze6
def Tv:zE:=Lz [] [Ms 0,Mr 3 zP] ⟨[Mi 6,.v (.zY zV)],[(4,.ptr 0 0)],[.var (.zY zV)]⟩ [⟨.exit 0,⟨[.v (.zY zV)],[],[.var (.zY zV)]⟩⟩,⟨.ret,⟨[Mi 5,.v (.zY zV)],[],[.var (.zY zV)]⟩⟩] fun p s=>bu p.1 p.2 s
def Tk:zE:=Lz [] [Ms 0,Mr 3 zP] ⟨[Mi 7,.v (.zY zV)],[(4,.ptr 0 0)],[.var (.zY zV)]⟩ [⟨.exit 2,⟨[.v (.zY zV)],[],[.var (.zY zV)]⟩⟩,⟨.ret,⟨[Mi 5,.v (.zY zV)],[],[.var (.zY zV)]⟩⟩] fun p s=>gX p.1 p.2 s
def h79:Hints:=Hz [(0,Tv),(2,Tk)] [(0,9,.flat [Mb 48])] []
theorem z58:LO Tryz.f79 Tv 0:=lk t189 (rz [3]) h79 [] zl
theorem z5Y:LO Tryz.f79 Tk 2:=lk t189 (rz [3]) h79 [] zl
theorem zed:zB Pz 79 ⟨[.ty .str,.ty zP],[zV,i64],fun x=>tJ x.1 x.2⟩:=qJ t189 (rz [3]) h79 Tryz.func79 [0,2] (zI rfl z58 (zI rfl z5Y zl))
def t190:=t189.d zed
theorem zgv:zB Pz 83 ⟨[.ty zJ,.ty zJ],[zJ],fun x=>dz x.1 x.2⟩:=qJ t190 (rz [2,3]) hN Tryz.func83 [] zl
def t191:=t190.d zgv
theorem zdC:zB Pz 38 ⟨[.ty zJ],[.bool],fun x=>mG x⟩:=qJ t191 (rz [1]) hN Tryz.func38 [] zl
def t192:=t191.d zdC
theorem zbI:vK Pz 123 ⟨[.cur,.any,.any],⟨[Mi 1,Mm 2 zJ,.a zp],[(0,.cur 0 zp)],[.arr zp]⟩,[],⟨[.a zp],[(0,.cur 0 zp)],[.arr zp]⟩,1,fun x=>vA x.1 x.2.1 x.2.2⟩:=Ol t192 (rz [5]) hN Tryz.func123 [] zl
def t193:=t192.s zbI
def RF:zE:=Lz [.cell 0 1 zp,.cell 1 1 zp] [Mr 2 zV,Mr 3 zJ] ⟨[Mi 6,.v (.st [.im i64,.row 2 zp,.im .bool,.im (.sl u32),.im (.sl u32)]),.v (.st [.im i64,.row 3 zp,.im .bool,.im (.sl u32),.im (.sl u32)]),.a zp,.a zp],[(4,.ptr 0 0),(5,.ptr 1 0)],[.var (.st [.im i64,.row 2 zp,.im .bool,.im (.sl u32),.im (.sl u32)]),.var (.st [.im i64,.row 3 zp,.im .bool,.im (.sl u32),.im (.sl u32)]),.arr zp,.arr zp]⟩ [⟨.exit 0,⟨[.v (.st [.im i64,.row 2 zp,.im .bool,.im (.sl u32),.im (.sl u32)]),.v (.st [.im i64,.row 3 zp,.im .bool,.im (.sl u32),.im (.sl u32)]),.a zp,.a zp],[],[.var (.st [.im i64,.row 2 zp,.im .bool,.im (.sl u32),.im (.sl u32)]),.var (.st [.im i64,.row 3 zp,.im .bool,.im (.sl u32),.im (.sl u32)]),.arr zp,.arr zp]⟩⟩] fun p s=>yP p.1 p.2 s
def h74:Hints:=Hz [(0,RF)] [] []
theorem z63:LO Tryz.f74 RF 0:=lk t193 (rz [2,3]) h74 [] zl
theorem zd8:zB Pz 74 ⟨[.ty zV,.ty zJ],[zV],fun x=>va x.1 x.2⟩:=qJ t193 (rz [2,3]) h74 Tryz.func74 [0] (zI rfl z63 zl)
def t194:=t193.d zd8
theorem zei:zB Pz 81 ⟨[.ty zJ,.ty zJ],[zJ],fun x=>db x.1 x.2⟩:=qJ t194 (rz [2,3]) hN Tryz.func81 [] zl
def t195:=t194.d zei
def RO:zE:=Lz [.cell 0 1 zp,.cell 1 1 zp] [Mr 2 zV,Mr 3 zV] ⟨[Mi 6,Mi 7,.v (.st [.im i64,.row 2 zp,.im .bool,.im (.sl u32),.im (.sl u32)]),.v (.st [.im i64,.row 3 zp,.im .bool,.im (.sl u32),.im (.sl u32)]),.a zp,.a zp],[(4,.ptr 0 0),(5,.ptr 1 0)],[.var (.st [.im i64,.row 2 zp,.im .bool,.im (.sl u32),.im (.sl u32)]),.var (.st [.im i64,.row 3 zp,.im .bool,.im (.sl u32),.im (.sl u32)]),.arr zp,.arr zp]⟩ [⟨.exit 0,⟨[.v (.st [.im i64,.row 2 zp,.im .bool,.im (.sl u32),.im (.sl u32)]),.v (.st [.im i64,.row 3 zp,.im .bool,.im (.sl u32),.im (.sl u32)]),.a zp,.a zp],[],[.var (.st [.im i64,.row 2 zp,.im .bool,.im (.sl u32),.im (.sl u32)]),.var (.st [.im i64,.row 3 zp,.im .bool,.im (.sl u32),.im (.sl u32)]),.arr zp,.arr zp]⟩⟩] fun p s=>uV p.1 p.2 s
def h73:Hints:=Hz [(0,RO)] [(0,3,.flat [Mb 27]),(0,7,.flat [Mb 55]),(0,10,.flat [Mb 101])] []
theorem z7j:LO Tryz.f73 RO 0:=lk t195 (rz [2,3]) h73 [] zl
theorem zgf:zB Pz 73 ⟨[.ty zV,.ty zV],[zV],fun x=>cU x.1 x.2⟩:=qJ t195 (rz [2,3]) h73 Tryz.func73 [0] (zI rfl z7j zl)
def t196:=t195.d zgf
def zeT:Hints:=Hz [] [(0,1,.flat [Mb 6])] []
theorem zaK:zB Pz 174 ⟨[.ty zV,.ty zV],[zV,i64],fun x=>sj x.1 x.2⟩:=qJ t196 (rz [2,3]) zeT Tryz.func174 [] zl
def t197:=t196.d zaK
theorem zgJ:zB Pz 84 ⟨[.ty zJ,.ty zJ],[zJ,.bool],fun x=>fH x.1 x.2⟩:=qJ t197 (rz [2,3]) hN Tryz.func84 [] zl
def t198:=t197.d zgJ
theorem z8y:zB Pz 175 ⟨[.ty zV,.ty zV],[zV,i64],fun x=>rT x.1 x.2⟩:=qJ t198 (rz [2,3]) hN Tryz.func175 [] zl
def t199:=t198.d z8y
abbrev z9Q:=uT [.ty .expr,.ty zP]→T (K7 [zV,i64])
abbrev zec(F:z9Q):=zB Pz 122 ⟨[.ty .expr,.ty zP],[zV,i64],F⟩
theorem z36(YY:z9Q)(Sq:zec YY):zB Pz 122 ⟨[.ty .expr,.ty zP],[zV,i64],fun x=>sW (fun y0 y1=>YY (y0,y1)) x.1 x.2⟩:=qJ (t199.d Sq) (rz [2,3]) hN Tryz.func122 [] zl
theorem z8F:zB Pz 122 ⟨[.ty .expr,.ty zP],[zV,i64],fun x=>Uo x.1 x.2⟩:=mg (fun YY x=>sW (fun y0 y1=>YY (y0,y1)) x.1 x.2) (fun x=>rfl) (fun YY Sq=>z36 YY Sq)
def t200:=t199.d z8F
theorem zeX:zB Pz 72 ⟨[.ty .expr,.ty zP],[zV,i64],fun x=>XE x.1 x.2⟩:=qJ t200 (rz [2,3]) hN Tryz.func72 [] zl
def t201:=t200.d zeX
theorem zfr:zB Pz 32 ⟨[.ty zo,.ty zP],[zV,i64],fun x=>cI x.1 x.2⟩:=qJ t201 (rz [2,3]) hN Tryz.func32 [] zl
def t202:=t201.d zfr
def SG:zE:=Lz [] [Mr 1 zV] ⟨[Mi 3],[],[]⟩ [⟨.exit 0,⟨[],[],[]⟩⟩,⟨.ret,⟨[Mb 2],[],[]⟩⟩] fun p s=>yp p s
def h33:Hints:=Hz [(0,SG)] [] []
theorem z4D:LO Tryz.f33 SG 0:=lk t202 (rz [1]) h33 [] zl
theorem zet:zB Pz 33 ⟨[.ty zV],[.bool],fun x=>oz x⟩:=qJ t202 (rz [1]) h33 Tryz.func33 [0] (zI rfl z4D zl)
def t203:=t202.d zet
def z3r:zE:=Lz [] [Mm 1 (.sl zJ),Mm 2 (.sl .bool),Mr 3 zG] ⟨[Mi 12],[],[]⟩ [⟨.exit 0,⟨[],[],[]⟩⟩,⟨.ret,⟨[Ms 8,Mi 9],[(6,.xo),(7,.xo)],[]⟩⟩] fun p s=>b8 p.1 p.2.1 p.2.2 s
def z3t:zE:=Lz [.slot 14 zV,.slot 15 i64] [Mm 2 (.sl .bool),Mr 3 zG] ⟨[Mi 16,.v (.zY zP),.a zV,.a i64],[(13,.ptr 0 0),(14,.cur 1 zV),(15,.cur 2 i64)],[.var (.zY zP),.arr zV,.arr i64]⟩ [⟨.exit 2,⟨[.v (.zY zP),.a zV,.a i64],[(14,.cur 1 zV),(15,.cur 2 i64)],[.var (.zY zP),.arr zV,.arr i64]⟩⟩,⟨.ret,⟨[Ms 8,Mi 9,.v (.zY zP),.a zV,.a i64],[(6,.xo),(7,.xo)],[.var (.zY zP),.arr zV,.arr i64]⟩⟩] fun p s=>u9 p.1 p.2 s
def z44:zE:=Lz [] [Mr 3 zG] ⟨[Mi 19,.v (.zY zP),.a zV,.a i64],[(14,.cur 1 zV),(15,.cur 2 i64)],[.var (.zY zP),.arr zV,.arr i64]⟩ [⟨.exit 4,⟨[.v (.zY zP),.a zV,.a i64],[(14,.cur 1 zV),(15,.cur 2 i64)],[.var (.zY zP),.arr zV,.arr i64]⟩⟩,⟨.ret,⟨[Ms 8,Mi 9,.v (.zY zP),.a zV,.a i64],[(6,.xo),(7,.xo)],[.var (.zY zP),.arr zV,.arr i64]⟩⟩] fun p s=>gQ p s
def h9:Hints:=Hz [(0,z3r),(2,z3t),(4,z44)] [(0,4,.flat [Mb 42])] []
theorem z9S:LO Tryz.f9 z3r 0:=lk t203 (rz [3]) h9 [] zl
theorem z9x:LO Tryz.f9 z3t 2:=lk t203 (rz [3]) h9 [] zl
theorem zaa:LO Tryz.f9 z44 4:=lk t203 (rz [3]) h9 [] zl
theorem ok9:zB Pz 9 ⟨[.ty zG,.ty (.sl zJ),.ty (.sl .bool)],[(.sl zV),(.sl i64),.str,i64],fun x=>tL x.1 x.2.1 x.2.2⟩:=qJ t203 (rz [3]) h9 Tryz.func9 [0,2,4] (zI rfl z9S (zI rfl z9x (zI rfl zaa zl)))
def t204:=t203.d ok9
theorem zdd:zB Pz 17 ⟨[.ty zJ,.ty zJ],[.bool],fun x=>uD x.1 x.2⟩:=qJ t204 (rz [2,3]) hN Tryz.func17 [] zl
def t205:=t204.d zdd
def SP:zE:=Lz [] [Mr 2 zV,Mr 3 zV] ⟨[Mi 5],[],[]⟩ [⟨.exit 0,⟨[],[],[]⟩⟩,⟨.ret,⟨[Mb 4],[],[]⟩⟩] fun p s=>eI p.1 p.2 s
def h10:Hints:=Hz [(0,SP)] [(0,1,.ways [⟨.normal,⟨[Mb 27],[],[]⟩⟩]),(0,6,.ways [⟨.normal,⟨[Mb 63],[],[]⟩⟩])] []
theorem z4H:LO Tryz.f10 SP 0:=lk t205 (rz [2,3]) h10 [] zl
theorem zf3:zB Pz 10 ⟨[.ty zV,.ty zV],[.bool],fun x=>tM x.1 x.2⟩:=qJ t205 (rz [2,3]) h10 Tryz.func10 [0] (zI rfl z4H zl)
def t206:=t205.d zf3
def R6:zE:=Lz [] [Mm 0 (.sl .str),Mm 1 (.sl .str)] ⟨[Mi 5],[],[]⟩ [⟨.exit 0,⟨[],[],[]⟩⟩,⟨.ret,⟨[Mb 4],[],[]⟩⟩] fun p s=>cS p.1 p.2 s
def h11:Hints:=Hz [(0,R6)] [] []
theorem z5u:LO Tryz.f11 R6 0:=lk t206 rn h11 [] zl
theorem zff:zB Pz 11 ⟨[.ty (.sl .str),.ty (.sl .str)],[.bool],fun x=>cu x.1 x.2⟩:=qJ t206 rn h11 Tryz.func11 [0] (zI rfl z5u zl)
def t207:=t206.d zff
theorem zfu:zB Pz 14 ⟨[],[.bool],fun _=>fG⟩:=qJ t207 rn hN Tryz.func14 [] zl
def t208:=t207.d zfu
def z4e:zE:=Lz [] [Mm 1 (.sl zJ),Mr 3 zG,Mm 10 (.sl zV),Mm 11 (.sl i64)] ⟨[Mi 14,.v (.zY qi)],[(7,.ptr 0 0)],[.var (.zY qi)]⟩ [⟨.exit 0,⟨[.v (.zY qi)],[],[.var (.zY qi)]⟩⟩,⟨.ret,⟨[Mb 6,.v (.zY qi)],[],[.var (.zY qi)]⟩⟩] fun p s=>uc p.1 p.2.1 p.2.2.1 p.2.2.2 s
def h3:Hints:=Hz [(0,z4e)] [(0,1,.ways [⟨.normal,⟨[Mb 25],[],[]⟩⟩]),(0,5,.flat [Mb 66]),(0,10,.ways [⟨.normal,⟨[Mb 113,.v (.zY qi)],[],[.var (.zY qi)]⟩⟩])] []
theorem z9L:LO Tryz.f3 z4e 0:=lk t208 (rz [3]) h3 [] zl
theorem ok3:zB Pz 3 ⟨[.ty zG,.ty (.sl zJ),.ty (.sl .bool)],[.bool],fun x=>bn x.1 x.2.1 x.2.2⟩:=qJ t208 (rz [3]) h3 Tryz.func3 [0] (zI rfl z9L zl)
def t209:=t208.d ok3
end Go.AM.Lf
