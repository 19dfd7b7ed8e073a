/-
  The walk, part 0: each function of the program is the tree that the lifted text says; printed by a program of ours.
-/
import Derived.Test.YtgadkkagiejlkaaGreatDoorProg
import Derived.KernelRfl
import Derived.Test.YtgadkkagiejlkaaGreatDoorAmD
import Derived.Test.YtgadkkagiejlkaaGreatDoorLf0
import Derived.Test.YtgadkkagiejlkaaGreatDoorSh
set_option linter.unusedVariables false
set_option maxRecDepth 100000
noncomputable section
namespace Go.AM.Lf
open Go.Proofs
abbrev GO:Nat:=27
abbrev Pz:Program:=Tryz.prog
def wJ(f:Func):Code:=match f.body with | some c=>c | none=>.skip
def lb(k:Nat)(f:Func):Code:=match o0 k (wJ f)with | some c=>c | none=>.skip
theorem mixed:Pz.follows .mixedOrders=true:=by kernel_rfl
instance:vP:={ u8:=5,tab:=[(0,Vf .i64)] }
theorem gR{κ:KS}(hI:Inv κ):∃ m,κ.w.cell? ⟨0,0,none⟩=some (.int .i64 m) :=
 Dc (hI.gl (0,Vf .i64) (by simp[vP.tab])).2
structure Tb where
 t:b8
 ok:jI Pz t
def Tb.d(T:Tb){g:Nat}{d:Ux}(h:zT Pz g d):Tb:=⟨(g,.d d)::T.t,G4 h T.ok⟩
def Tb.s(T:Tb){g:Nat}{d:js}(h:xB Pz g d):Tb:=⟨(g,.s d)::T.t,Jj h T.ok⟩
def Tb.p(T:Tb){g:Nat}{d:cJ}(h:jm Pz g d):Tb:=⟨(g,.p d)::T.t,JD h T.ok⟩
def t0:Tb:=⟨[],Cj _⟩
def fL:List (Nat×zZ)→Nat→Option zZ
 | [],_=>none
 | x::r,n=>bif Nat.beq x.1 n then some x.2 else fL r n
def fC:List (Nat×Nat×Nx)→Nat→Nat→Option Nx
 | [],_,_=>none
 | x::r,k,n=>bif Nat.beq x.1 k&&Nat.beq x.2.1 n then some x.2.2 else fC r k n
def fF:List (Nat×List Nat)→Nat→List Nat
 | [],_=>[]
 | x::r,n=>bif Nat.beq x.1 n then x.2 else fF r n
def Hz(l:List (Nat×zZ))(c:List (Nat×Nat×Nx))(f:List (Nat×List Nat)):Hints:=⟨fL l,fC c,fF f⟩
def hN:Hints:=Hz [] [] []
def rz(l:List Nat)(s:Nat):Bool:=l.any (Nat.beq s)
def rn(_:Nat):Bool:=false
def Lz(gh:List Gh)(ps:List It)(sh:yx)(ws:List Way)(R:wv ps→sh.den→T (sh.den⊕jA ws)):zZ:=⟨gh,ps,sh,ws,fun p s=>T.loop (R p) s⟩
abbrev LO(f:Func)(l:zZ)(i:Nat):Prop:=pH Pz f.ntmps l (lb i f)
def ls(f:Func):List Nat→List (Nat×Code)
 | []=>[]
 | i::r=>(i,lb i f)::ls f r
abbrev Mi(n:Nat):It:=.s n (.zi i64)
abbrev Mb(n:Nat):It:=.s n (.zi .bool)
abbrev Ms(n:Nat):It:=.s n (.zi .str)
abbrev Mm(n:Nat)(t:Ty):It:=.s n (.zi t)
abbrev Mr(n:Nat)(t:Ty):It:=.s n (.qK t)
abbrev Sh0(l:List It):yx:=⟨l,[],[]⟩
theorem lk{f:Func}{i:Nat}{gh:List Gh}{ps:List It}{sh:yx}{ws:List Way}{R:wv ps→sh.den→T (sh.den⊕jA ws)}(T:Tb)(ro:Nat→Bool)(H:Hints)(L:List Nat)(ha:VR Pz f.ntmps H (ls f L))
  (h:∀ p s,EF (vy Pz GO T.t ro) T.t f.ntmps H (Lz gh ps sh ws R) (lb i f) p s=R p s:=by intro p s; kernel_rfl) (hl:qY (lb i f)=ls f L:=by kernel_rfl):LO f (Lz gh ps sh ws R) i :=
 Md (xid:=GO) (ro:=ro) (H:=H) mixed T.ok (pG hl ha) R h fun _ _=>rfl
theorem wZ{f:Nat}{fn:Func}{d:Ux}(T:Tb)(ro:Nat→Bool)(H:Hints)(hf:Pz.funcs[f]? = some fn)(L:List Nat)(ha:VR Pz fn.ntmps H (ls fn L))
  (h:∀ x,IZ (vy Pz GO T.t ro) T.t H fn (wJ fn) d x=d.F x:=by intro x; kernel_rfl) (hb:fn.body=some (wJ fn):=by rfl) (hn:(fn.name == "runtime.NumGoroutine")=false:=by kernel_rfl) (hl:qY (wJ fn)=ls fn L:=by kernel_rfl):zT Pz f d :=
 z2x (xid:=GO) (ro:=ro) (H:=H) mixed T.ok hf hb hn (pG hl ha) h
theorem X4{f:Nat}{fn:Func}{d:js}(T:Tb)(ro:Nat→Bool)(H:Hints)(hf:Pz.funcs[f]? = some fn)(L:List Nat)(ha:VR Pz fn.ntmps H (ls fn L))
  (h:∀ x,Gf (vy Pz GO T.t ro) T.t H fn (wJ fn) d x=d.F x:=by intro x; kernel_rfl) (hb:fn.body=some (wJ fn):=by rfl) (hn:(fn.name == "runtime.NumGoroutine")=false:=by kernel_rfl) (hl:qY (wJ fn)=ls fn L:=by kernel_rfl):xB Pz f d :=
 RU (xid:=GO) (ro:=ro) (H:=H) mixed T.ok hf hb hn (pG hl ha) h
def Sr(c:Code):Code:=match c with | .seq _ b=>b | _=>.skip
def hdO(c:Code):Array Oper:=match c with | .seq (.region _ ops _) _=>ops | _ => #[]
def hdI(c:Code):Nat:=match c with | .seq (.region id _ _) _=>id | _=>0
theorem fkr{f:Nat}{fn:Func}{d:js}(T:Tb)(ro:Nat→Bool)(H:Hints)(hf:Pz.funcs[f]? = some fn)
  (h:∀ x,S6 (vy Pz GO T.t ro) T.t H fn (hdO (wJ fn)) (Sr (wJ fn)) d d.ks.length none x=d.F x:=by intro x; kernel_rfl) (hb:fn.body=some (.seq (.region (hdI (wJ fn)) (hdO (wJ fn)) false) (Sr (wJ fn))):=by kernel_rfl) (hn:(fn.name == "runtime.NumGoroutine")=false:=by kernel_rfl) (hl:qY (Sr (wJ fn))=[]:=by kernel_rfl):jZ (DU Pz) f d :=
 O4 (xid:=GO) (ro:=ro) (H:=H) mixed T.ok hf hb hn (Z3 hl) h
theorem fkh{f t:Nat}{fn:Func}{d:js}(T:Tb)(ro:Nat→Bool)(H:Hints)(hf:Pz.funcs[f]? = some fn)(k:Nat)
  (h:∀ x,S6 (vy Pz GO T.t ro) T.t H fn (hdO (wJ fn)) (Sr (wJ fn)) d k (some t) x=d.F x:=by intro x; kernel_rfl) (hk:d.ks.length=k+1:=by kernel_rfl) (hb:fn.body=some (.seq (.region (hdI (wJ fn)) (hdO (wJ fn)) false) (Sr (wJ fn))):=by kernel_rfl) (hn:(fn.name == "runtime.NumGoroutine")=false:=by kernel_rfl) (hl:qY (Sr (wJ fn))=[]:=by kernel_rfl):jZ (DV Pz t) f d :=
 LF (xid:=GO) (ro:=ro) (H:=H) mixed T.ok hf hb hn (Z3 hl) hk h
theorem z6A{g:Nat}{d:js}(_:jZ (DU Pz) g d):jZ (DV Pz 0) g { d with F:=fun _=>.fail }:=fun _ _ _ _ _ hy=>hy.elim
theorem fkf{f g pt:Nat}{fn:Func}{d d0 d1:js}(T:Tb)(ro:Nat→Bool)(H:Hints)(h0:jZ (DU Pz) g d0)(h1:jZ (DV Pz pt) g d1)(hf:Pz.funcs[f]? = some fn)
  (h:∀ x,Ee (vy Pz GO T.t ro) T.t H ⟨g,d0,pt,d1⟩ fn (wJ fn) d x=d.F x:=by intro x; kernel_rfl) (hb:fn.body=some (wJ fn):=by rfl) (hn:(fn.name == "runtime.NumGoroutine")=false:=by kernel_rfl) (hl:qY (wJ fn)=[]:=by kernel_rfl):xB Pz f d :=
 Ra (xid:=GO) (ro:=ro) (H:=H) mixed T.ok (h:=⟨g,d0,pt,d1⟩) h0 h1 hf hb hn hl h
theorem OW{f:Nat}{fn:Func}{d:cJ}(T:Tb)(ro:Nat→Bool)(H:Hints)(hf:Pz.funcs[f]? = some fn)(L:List Nat)(ha:VR Pz fn.ntmps H (ls fn L))
  (h:∀ x,Yj (vy Pz GO T.t ro) T.t H fn (wJ fn) d x=d.F x:=by intro x; kernel_rfl) (hb:fn.body=some (wJ fn):=by rfl) (hn:(fn.name == "runtime.NumGoroutine")=false:=by kernel_rfl) (hl:qY (wJ fn)=ls fn L:=by kernel_rfl):jm Pz f d :=
 RQ (xid:=GO) (ro:=ro) (H:=H) mixed T.ok hf hb hn (pG hl ha) h
abbrev S9:=uX [.ty .expr,.ty i64]→T (Uj [i64])
abbrev H11(F:S9):=zT Pz 11 ⟨[.ty .expr,.ty i64],[i64],F⟩
def T11(dL:S9)(KD:H11 dL):Tb:=t0.d KD
def EZ(dL:S9):zZ:=Lz [] [Mr 2 .expr] ⟨[Mi 1,Mi 5],[],[]⟩ [⟨.exit 0,⟨[Mi 1],[],[]⟩⟩] fun p s=>j4 (fun y0 y1=>dL (y0,y1)) p s
def h11(dL:S9):Hints:=Hz [(0,EZ dL)] [(0,3,.flat [Mb 32])] []
theorem RV(dL:S9)(KD:H11 dL):LO Tryz.f11 (EZ dL) 0:=lk (T11 dL KD) (rz [2]) (h11 dL) [] zB
theorem Pg(dL:S9)(KD:H11 dL):zT Pz 11 ⟨[.ty .expr,.ty i64],[i64],fun x=>gj (fun y0 y1=>dL (y0,y1)) x.1 x.2⟩:=wZ (T11 dL KD) (rz [2]) (h11 dL) Tryz.func11 [0] (qq rfl (RV dL KD) zB)
theorem z68:zT Pz 11 ⟨[.ty .expr,.ty i64],[i64],fun x=>kI x.1 x.2⟩:=rO (fun dL x=>gj (fun y0 y1=>dL (y0,y1)) x.1 x.2) (fun x=>rfl) (fun dL KD=>Pg dL KD)
def t1:=t0.d z68
def B8:zZ:=Lz [] [Mm 0 (.sl u32)] ⟨[Mi 3],[],[]⟩ [⟨.exit 0,⟨[Mi 3],[],[]⟩⟩] fun p s=>kS p s
def z2r:Hints:=Hz [(0,B8)] [(0,2,.flat [Mb 15])] []
theorem Oe:LO Tryz.f137 B8 0:=lk t1 rn z2r [] zB
theorem z2B:zT Pz 137 ⟨[.ty (.sl u32)],[(.sl u32)],fun x=>qH x⟩:=wZ t1 rn z2r Tryz.func137 [0] (qq rfl Oe zB)
def t2:=t1.d z2B
def HS:zZ:=Lz [] [Mm 4 (.sl u32)] ⟨[Mm 5 (.int .u64),Mi 6],[],[]⟩ [⟨.exit 0,⟨[Mm 5 (.int .u64)],[],[]⟩⟩] fun p s=>bN p s
def z1t:Hints:=Hz [(0,HS)] [] []
theorem Mh:LO Tryz.f178 HS 0:=lk t2 rn z1t [] zB
theorem Tk:zT Pz 178 ⟨[.ty (.sl u32)],[(.int .u64),.bool],fun x=>ow x⟩:=wZ t2 rn z1t Tryz.func178 [0] (qq rfl Mh zB)
def t3:=t2.d Tk
theorem z1S:zT Pz 179 ⟨[.ty (.int .u64)],[(.sl u32)],fun x=>eQ x⟩:=wZ t3 rn hN Tryz.func179 [] zB
def t4:=t3.d z1S
def BU:zZ:=Lz [] [Mm 0 (.sl u32),Mm 1 (.int .u64)] ⟨[Mm 7 (.int .u64),Mi 8,.a u32],[(6,.cur 0 u32)],[.arr u32]⟩ [⟨.exit 0,⟨[Mm 7 (.int .u64),.a u32],[(6,.cur 0 u32)],[.arr u32]⟩⟩] fun p s=>gb p.1 p.2 s
def z0S:Hints:=Hz [(0,BU)] [] [(9,[6])]
theorem N0:LO Tryz.f180 BU 0:=lk t4 rn z0S [] zB
theorem z0T:zT Pz 180 ⟨[.ty (.sl u32),.ty (.int .u64)],[(.sl u32),(.int .u64)],fun x=>yQ x.1 x.2⟩:=wZ t4 rn z0S Tryz.func180 [0] (qq rfl N0 zB)
def t5:=t4.d z0T
theorem SU:zT Pz 184 ⟨[.ty (.sl u32),.ty i64],[(.int .u64)],fun x=>yg x.1 x.2⟩:=wZ t5 rn hN Tryz.func184 [] zB
def t6:=t5.d SU
def B3:zZ:=Lz [.slot 8 u32] [Mm 5 (.sl u32),Mm 7 (.int .u64)] ⟨[Mi 9,.a u32],[(8,.cur 0 u32)],[.arr u32]⟩ [⟨.exit 0,⟨[.a u32],[(8,.cur 0 u32)],[.arr u32]⟩⟩] fun p s=>nq p.1 p.2 s
def Bf:zZ:=Lz [] [Mm 5 (.sl u32),Mm 11 (.int .u64)] ⟨[Mm 12 (.int .u64),Mi 13,.a u32],[(10,.cur 0 u32)],[.arr u32]⟩ [⟨.exit 2,⟨[.a u32],[(10,.cur 0 u32)],[.arr u32]⟩⟩] fun p s=>gf p.1 p.2 s
def PH:Hints:=Hz [(0,B3),(2,Bf)] [] [(14,[8]),(24,[10])]
theorem NQ:LO Tryz.f181 B3 0:=lk t6 rn PH [] zB
theorem N6:LO Tryz.f181 Bf 2:=lk t6 rn PH [] zB
theorem TC:zT Pz 181 ⟨[.ty (.sl u32),.ty i64],[(.sl u32)],fun x=>fy x.1 x.2⟩:=wZ t6 rn PH Tryz.func181 [0,2] (qq rfl NQ (qq rfl N6 zB))
def t7:=t6.d TC
def Hr:zZ:=Lz [.slot 5 u32] [Mm 0 (.sl u32),Mm 1 (.sl u32)] ⟨[Mm 6 (.int .u64),Mi 7,.a u32],[(5,.cur 0 u32)],[.arr u32]⟩ [⟨.exit 0,⟨[.a u32],[(5,.cur 0 u32)],[.arr u32]⟩⟩] fun p s=>cq p.1 p.2 s
def TM:Hints:=Hz [(0,Hr)] [] [(9,[5])]
theorem LH:LO Tryz.f156 Hr 0:=lk t7 rn TM [] zB
theorem z1N:zT Pz 156 ⟨[.ty (.sl u32),.ty (.sl u32)],[(.sl u32)],fun x=>gA x.1 x.2⟩:=wZ t7 rn TM Tryz.func156 [0] (qq rfl LH zB)
def t8:=t7.d z1N
def BP:zZ:=Lz [] [Mm 5 (.sl u32),Mm 6 (.sl u32)] ⟨[Mi 7],[],[]⟩ [⟨.exit 0,⟨[],[],[]⟩⟩,⟨.ret,⟨[Mi 4],[],[]⟩⟩] fun p s=>gF p.1 p.2 s
def z2z:Hints:=Hz [(0,BP)] [] []
theorem NL:LO Tryz.f182 BP 0:=lk t8 rn z2z [] zB
theorem z1J:zT Pz 182 ⟨[.ty (.sl u32),.ty (.sl u32)],[i64],fun x=>lN x.1 x.2⟩:=wZ t8 rn z2z Tryz.func182 [0] (qq rfl NL zB)
def t9:=t8.d z1J
def Bl:zZ:=Lz [.slot 6 u32] [Mm 0 (.sl u32),Mm 1 (.sl u32)] ⟨[Mm 7 (.int .u64),Mi 8,.a u32],[(6,.cur 0 u32)],[.arr u32]⟩ [⟨.exit 0,⟨[.a u32],[(6,.cur 0 u32)],[.arr u32]⟩⟩] fun p s=>cy p.1 p.2 s
def z0r:Hints:=Hz [(0,Bl)] [(3,10,.flat [Mm 7 (.int .u64),Mm 9 (.int .u64)])] [(14,[6])]
theorem Nd:LO Tryz.f183 Bl 0:=lk t9 rn z0r [] zB
theorem z1D:zT Pz 183 ⟨[.ty (.sl u32),.ty (.sl u32)],[(.sl u32),.bool],fun x=>oU x.1 x.2⟩:=wZ t9 rn z0r Tryz.func183 [0] (qq rfl Nd zB)
def t10:=t9.d z1D
def Bz:zZ:=Lz [] [Mm 0 (.sl u32),Mm 1 (.sl u32)] ⟨[Mm 14 (.sl u32),Mi 15,.a u32],[(13,.cur 0 u32)],[.arr u32]⟩ [⟨.exit 0,⟨[Mm 14 (.sl u32),.a u32],[(13,.cur 0 u32)],[.arr u32]⟩⟩] fun p s=>vU p.1 p.2 s
def TZ:Hints:=Hz [(0,Bz)] [(0,5,.flat [Mb 33]),(0,7,.flat [Mb 46]),(3,16,.ways [⟨.normal,⟨[Mm 14 (.sl u32),.a u32],[(13,.cur 0 u32)],[.arr u32]⟩⟩])] [(21,[13])]
theorem ML:LO Tryz.f125 Bz 0:=lk t10 rn TZ [] zB
theorem z1B:zT Pz 125 ⟨[.ty (.sl u32),.ty (.sl u32)],[(.sl u32),(.sl u32),.bool],fun x=>uS x.1 x.2⟩:=wZ t10 rn TZ Tryz.func125 [0] (qq rfl ML zB)
def t11:=t10.d z1B
def BV:zZ:=Lz [] [] ⟨[Mm 5 (.sl u32),Mm 6 (.sl u32)],[],[]⟩ [⟨.exit 0,⟨[Mm 5 (.sl u32)],[],[]⟩⟩] fun p s=>gB  s
def SX:Hints:=Hz [(0,BV)] [] []
theorem NU:LO Tryz.f138 BV 0:=lk t11 rn SX [] zB
theorem z2v:zT Pz 138 ⟨[.ty (.sl u32),.ty (.sl u32)],[(.sl u32)],fun x=>pU x.1 x.2⟩:=wZ t11 rn SX Tryz.func138 [0] (qq rfl NU zB)
def t12:=t11.d z2v
def h78:Hints:=Hz [] [(0,2,.flat [Mb 19])] []
theorem z5Y:zT Pz 78 ⟨[.ty xN],[xN],fun x=>uC x⟩:=wZ t12 (rz [1]) h78 Tryz.func78 [] zB
def t13:=t12.d z5Y
def B4:zZ:=Lz [] [Mm 0 (.sl u32),Mm 1 (.sl u32),Mi 6] ⟨[Mm 7 (.int .u64),Mi 8,.a u32],[(5,.cur 0 u32)],[.arr u32]⟩ [⟨.exit 2,⟨[.a u32],[(5,.cur 0 u32)],[.arr u32]⟩⟩] fun p s=>gw p.1 p.2.1 p.2.2 s
def Hh:zZ:=Lz [] [Mm 0 (.sl u32),Mm 1 (.sl u32)] ⟨[Mi 6,.a u32],[(5,.cur 0 u32)],[.arr u32]⟩ [⟨.exit 0,⟨[.a u32],[(5,.cur 0 u32)],[.arr u32]⟩⟩] fun p s=>cH p.1 p.2 s
def PB:Hints:=Hz [(2,B4),(0,Hh)] [(0,7,.flat [Mb 28])] [(13,[5])]
theorem Me:LO Tryz.f126 B4 2:=lk t13 rn PB [] zB
theorem Ns:LO Tryz.f126 Hh 0:=lk t13 rn PB [2] (qq rfl Me zB)
theorem z0Y:zT Pz 126 ⟨[.ty (.sl u32),.ty (.sl u32)],[(.sl u32)],fun x=>jG x.1 x.2⟩:=wZ t13 rn PB Tryz.func126 [0] (qq rfl Ns zB)
def t14:=t13.d z0Y
def BG:zZ:=Lz [] [] ⟨[Mm 3 (.sl u32),Ms 4],[],[]⟩ [⟨.exit 0,⟨[Ms 4],[],[]⟩⟩] fun p s=>jL  s
def SN:Hints:=Hz [(0,BG)] [] []
theorem NS:LO Tryz.f161 BG 0:=lk t14 rn SN [] zB
theorem z1P:zT Pz 161 ⟨[.ty (.sl u32)],[.str],fun x=>fj x⟩:=wZ t14 rn SN Tryz.func161 [0] (qq rfl NS zB)
def t15:=t14.d z1P
def C3:zZ:=Lz [] [Mi 1] ⟨[Ms 5],[],[]⟩ [⟨.exit 0,⟨[Ms 5],[],[]⟩⟩] fun p s=>j6 p s
def z1l:Hints:=Hz [(0,C3)] [] []
theorem LC:LO Tryz.f185 C3 0:=lk t15 rn z1l [] zB
theorem z13:zT Pz 185 ⟨[.ty (.sl u32),.ty i64],[.str],fun x=>cM x.1 x.2⟩:=wZ t15 rn z1l Tryz.func185 [0] (qq rfl LC zB)
def t16:=t15.d z13
theorem z1T:zT Pz 160 ⟨[.ty .bool],[.str],fun x=>dO x⟩:=wZ t16 rn hN Tryz.func160 [] zB
def t17:=t16.d z1T
def z4A:Hints:=Hz [] [(3,2,.flat [Ms 7])] []
theorem z0i:zT Pz 127 ⟨[.ty .bool,.ty (.sl u32),.ty i64],[.str],fun x=>dZ x.1 x.2.1 x.2.2⟩:=wZ t17 rn z4A Tryz.func127 [] zB
def t18:=t17.d z0i
def Fs:zZ:=Lz [] [] ⟨[Mm 5 (.sl u32),Mi 6,.v (.zi xN)],[(4,.ptr 0 0)],[.var (.zi xN)]⟩ [⟨.exit 0,⟨[.v (.zi xN)],[],[.var (.zi xN)]⟩⟩,⟨.ret,⟨[Ms 2,Mb 3,.v (.zi xN)],[],[.var (.zi xN)]⟩⟩] fun p s=>uy  s
def h67:Hints:=Hz [(0,Fs)] [] []
theorem Pc:LO Tryz.f67 Fs 0:=lk t18 (rz [1]) h67 [] zB
theorem z4V:zT Pz 67 ⟨[.ty xN],[.str,.bool],fun x=>yT x⟩:=wZ t18 (rz [1]) h67 Tryz.func67 [0] (qq rfl Pc zB)
def t19:=t18.d z4V
def Iv:zZ:=Lz [] [Mm 0 (.sl u32),Mm 1 (.sl u32)] ⟨[Mi 5],[],[]⟩ [⟨.exit 0,⟨[],[],[]⟩⟩,⟨.ret,⟨[Mb 4],[],[]⟩⟩] fun p s=>uA p.1 p.2 s
def h79:Hints:=Hz [(0,Iv)] [] []
theorem S0:LO Tryz.f79 Iv 0:=lk t19 rn h79 [] zB
theorem z3J:zT Pz 79 ⟨[.ty (.sl u32),.ty (.sl u32)],[.bool],fun x=>ko x.1 x.2⟩:=wZ t19 rn h79 Tryz.func79 [0] (qq rfl S0 zB)
def t20:=t19.d z3J
theorem z5n:zT Pz 95 ⟨[.ty xN],[.bool],fun x=>oD x⟩:=wZ t20 (rz [1]) hN Tryz.func95 [] zB
def t21:=t20.d z5n
def h96:Hints:=Hz [] [(0,2,.flat [Mb 2])] []
theorem z3U:zT Pz 96 ⟨[.ty xN],[.bool],fun x=>fq x⟩:=wZ t21 (rz [1]) h96 Tryz.func96 [] zB
def t22:=t21.d z3U
theorem z5y:zT Pz 48 ⟨[.ty xN],[.bool],fun x=>dB x⟩:=wZ t22 (rz [1]) hN Tryz.func48 [] zB
def t23:=t22.d z5y
def h93:Hints:=Hz [] [(0,1,.flat [Mb 2])] []
theorem z4F:zT Pz 93 ⟨[.ty (.int .u8)],[.bool],fun x=>xH x⟩:=wZ t23 rn h93 Tryz.func93 [] zB
def t24:=t23.d z4F
def h94:Hints:=Hz [] [(0,1,.flat [Mb 2])] []
theorem z4w:zT Pz 94 ⟨[.ty (.int .u8)],[.bool],fun x=>vf x⟩:=wZ t24 rn h94 Tryz.func94 [] zB
def t25:=t24.d z4w
def L0:zZ:=Lz [] [Ms 0] ⟨[Mi 3],[],[]⟩ [⟨.exit 0,⟨[],[],[]⟩⟩,⟨.ret,⟨[Mb 2],[],[]⟩⟩] fun p s=>jj p s
def h47:Hints:=Hz [(0,L0)] [(0,1,.ways [⟨.normal,⟨[Mb 17],[],[]⟩⟩]),(0,6,.ways [⟨.normal,⟨[Mb 41],[],[]⟩⟩])] []
theorem Rr:LO Tryz.f47 L0 0:=lk t25 rn h47 [] zB
theorem z5F:zT Pz 47 ⟨[.ty .str],[.bool],fun x=>dr x⟩:=wZ t25 rn h47 Tryz.func47 [0] (qq rfl Rr zB)
def t26:=t25.d z5F
theorem z3X:zT Pz 68 ⟨[.ty xN],[.bool],fun x=>j3 x⟩:=wZ t26 (rz [1]) hN Tryz.func68 [] zB
def t27:=t26.d z3X
abbrev Sq:=uX [.ty .expr,.ty i64]→T (Uj [.bool])
abbrev H30(F:Sq):=zT Pz 30 ⟨[.ty .expr,.ty i64],[.bool],F⟩
def T30(dT:Sq)(Kk:H30 dT):Tb:=t27.d Kk
def Fb(dT:Sq):zZ:=Lz [] [Mi 1,Mr 2 .expr,Mi 5] ⟨[Mi 8],[],[]⟩ [⟨.exit 1,⟨[],[],[]⟩⟩,⟨.ret,⟨[Mb 4],[],[]⟩⟩] fun p s=>gv (fun y0 y1=>dT (y0,y1)) p.1 p.2.1 p.2.2 s
def h30(dT:Sq):Hints:=Hz [(1,Fb dT)] [(3,4,.ways [⟨.normal,⟨[Mi 5],[],[]⟩⟩,⟨.ret,⟨[Mb 4],[],[]⟩⟩]),(0,17,.ways [⟨.normal,⟨[Mb 82],[],[]⟩⟩])] []
theorem RX(dT:Sq)(Kk:H30 dT):LO Tryz.f30 (Fb dT) 1:=lk (T30 dT Kk) (rz [2]) (h30 dT) [] zB
theorem PK(dT:Sq)(Kk:H30 dT):zT Pz 30 ⟨[.ty .expr,.ty i64],[.bool],fun x=>eC (fun y0 y1=>dT (y0,y1)) x.1 x.2⟩:=wZ (T30 dT Kk) (rz [2]) (h30 dT) Tryz.func30 [1] (qq rfl (RX dT Kk) zB)
theorem z4e:zT Pz 30 ⟨[.ty .expr,.ty i64],[.bool],fun x=>dN x.1 x.2⟩:=rO (fun dT x=>eC (fun y0 y1=>dT (y0,y1)) x.1 x.2) (fun x=>rfl) (fun dT Kk=>PK dT Kk)
def t28:=t27.d z4e
abbrev So:=uX [.ty .expr]→T (Uj [i64])
abbrev H31(F:So):=zT Pz 31 ⟨[.ty .expr],[i64],F⟩
def T31(dv:So)(Km:H31 dv):Tb:=t28.d Km
def Ix(dv:So):zZ:=Lz [] [Mr 1 .expr] ⟨[Mi 3,Mi 4],[],[]⟩ [⟨.exit 0,⟨[Mi 3],[],[]⟩⟩] fun p s=>jz (fun y0=>dv (y0)) p s
def h31(dv:So):Hints:=Hz [(0,Ix dv)] [] []
theorem PE(dv:So)(Km:H31 dv):LO Tryz.f31 (Ix dv) 0:=lk (T31 dv Km) (rz [1]) (h31 dv) [] zB
theorem PN(dv:So)(Km:H31 dv):zT Pz 31 ⟨[.ty .expr],[i64],fun x=>b7 (fun y0=>dv (y0)) x⟩:=wZ (T31 dv Km) (rz [1]) (h31 dv) Tryz.func31 [0] (qq rfl (PE dv Km) zB)
theorem z4H:zT Pz 31 ⟨[.ty .expr],[i64],fun x=>fA x⟩:=rO (fun dv x=>b7 (fun y0=>dv (y0)) x) (fun x=>rfl) (fun dv Km=>PN dv Km)
def t29:=t28.d z4H
theorem z3T:zT Pz 12 ⟨[.ty .expr],[.bool],fun x=>jW x⟩:=wZ t29 (rz [1]) hN Tryz.func12 [] zB
def t30:=t29.d z3T
def h69:Hints:=Hz [] [(3,2,.flat [Mb 4]),(3,5,.flat [Mb 7])] []
theorem z5X:zT Pz 69 ⟨[.ty i64],[i64],fun x=>iF x⟩:=wZ t30 rn h69 Tryz.func69 [] zB
def t31:=t30.d z5X
abbrev Y32:=uX [.ty .expr,.ty i64]→T (Uj [.str])
abbrev H32(F:Y32):=zT Pz 32 ⟨[.ty .expr,.ty i64],[.str],F⟩
def h32(Y1:Y32):Hints:=Hz [] [(3,2,.ways [⟨.normal,⟨[Ms 5],[],[]⟩⟩])] []
theorem PW(Y1:Y32)(S4:H32 Y1):zT Pz 32 ⟨[.ty .expr,.ty i64],[.str],fun x=>ct (fun y0 y1=>Y1 (y0,y1)) x.1 x.2⟩:=wZ (t31.d S4) (rz [2]) (h32 Y1) Tryz.func32 [] zB
theorem z5R:zT Pz 32 ⟨[.ty .expr,.ty i64],[.str],fun x=>mh x.1 x.2⟩:=rO (fun Y1 x=>ct (fun y0 y1=>Y1 (y0,y1)) x.1 x.2) (fun x=>rfl) (fun Y1 S4=>PW Y1 S4)
def t32:=t31.d z5R
theorem z5c:zT Pz 13 ⟨[.ty .expr],[.str],fun x=>bB x⟩:=wZ t32 (rz [1]) hN Tryz.func13 [] zB
def t33:=t32.d z5c
def B7:zZ:=Lz [] [] ⟨[.v (.zi z7)],[(0,.ptr 0 0)],[.var (.zi z7)]⟩ [⟨.exit 0,⟨[.v (.zi z7)],[],[.var (.zi z7)]⟩⟩] fun p s=>xJ  s
def z0n:Hints:=Hz [(0,B7)] [(0,0,.flat [Mb 23])] []
theorem ME:LO Tryz.f217 B7 0:=lk t33 rn z0n [] zB
theorem z0R:xB Pz 217 ⟨[.ptr],⟨[.v (.zi z7)],[(0,.ptr 0 0)],[.var (.zi z7)]⟩,[],⟨[.v (.zi z7)],[],[.var (.zi z7)]⟩,0,fun x=>vw x⟩:=X4 t33 rn z0n Tryz.func217 [0] (qq rfl ME zB)
def t34:=t33.s z0R
theorem Th:zT Tryz.prog 187 ⟨[.ty .str,.ty (.int .u8)],[i64],fun x=>strings_IndexByte x.1 x.2⟩:=by
 refine gu Tryz.func187 (by kernel_rfl) rfl fun κ x zM y hy hI ha => ?_
 obtain⟨s,c⟩:=x
 cases hy
 obtain⟨v0,r,rfl,La,ha⟩:=qG.cons_inv (show qG κ [.zi .str s,.zi (.int .u8) c] zM from ha)
 obtain⟨v1,r,rfl,R7,ha⟩:=ha.cons_inv
 rw[ha.qo,La.jT,R7.cD]
 refine(Go.Proofs.Tryz.strings_IndexByte ⟨s.toArray⟩ c κ.w).mono ?_
 rintro e w' ⟨rfl,rfl⟩
 refine⟨Q8 _,fun _=>⟨_,rfl,?_⟩⟩
 have e1:Lib.indexByte s (byteOf c)=iw s (byteOf c):=LS s (byteOf c)
 show RD _ (.zi i64 (iw s (byteOf c))) _
 rw[← e1]
 exact RD.int
def t35:=t34.d Th
def z4N:Hints:=Hz [] [(0,2,.ways [⟨.normal,⟨[Mb 30,.v (.zi z7)],[],[.var (.zi z7)]⟩⟩])] []
theorem z06:xB Pz 186 ⟨[.ptr,.any],⟨[Ms 1,.v (.zi z7)],[(0,.ptr 0 0)],[.var (.zi z7)]⟩,[],⟨[Mm 0 (.int .u8),.v (.zi z7)],[],[.var (.zi z7)]⟩,1,fun x=>qM x.1 x.2⟩:=X4 t35 rn z4N Tryz.func186 [] zB
def t36:=t35.s z06
theorem z4h:jm Pz 72 ⟨[.ptr,.any,.any],⟨[Mi 1,Mi 2,.v (.zi z7)],[(0,.ptr 0 0)],[.var (.zi z7)]⟩,[],⟨[.v (.zi z7)],[],[.var (.zi z7)]⟩,0,111,⟨[Mm 0 zU,.v (.zi z7)],[],[.var (.zi z7)]⟩,fun x=>xy x.1 x.2.1 x.2.2⟩:=OW t36 rn hN Tryz.func72 [] zB
def t37:=t36.p z4h
theorem SA:jm Pz 219 ⟨[.ptr],⟨[.v (.zi z7)],[(0,.ptr 0 0)],[.var (.zi z7)]⟩,[],⟨[.v (.zi z7)],[],[.var (.zi z7)]⟩,0,111,⟨[Mm 0 zU,.v (.zi z7)],[],[.var (.zi z7)]⟩,fun x=>wA x⟩:=OW t37 rn hN Tryz.func219 [] zB
def t38:=t37.p SA
def z3E:Hints:=Hz [] [(0,1,.flat [Mb 2])] []
theorem z1o:zT Pz 216 ⟨[.ty (.int .u8)],[.bool],fun x=>xw x⟩:=wZ t38 rn z3E Tryz.func216 [] zB
def t39:=t38.d z1o
def Hq:zZ:=Lz [] [.s 1 (.xg 216 []),Mi 2,Mi 7] ⟨[.v (.zi z7)],[(0,.ptr 0 0)],[.var (.zi z7)]⟩ [⟨.exit 0,⟨[.v (.zi z7)],[],[.var (.zi z7)]⟩⟩] fun p s=>qI (fun z0=>xw z0) p.2.1 p.2.2 s
def z1Z:Hints:=Hz [(0,Hq)] [(0,2,.ways [⟨.normal,⟨[Mb 44,.v (.zi z7)],[],[.var (.zi z7)]⟩⟩])] []
theorem N8:LO Tryz.f221 Hq 0:=lk t39 rn z1Z [] zB
theorem z1g:xB Pz 221 ⟨[.ptr,.xg 216,.any],⟨[.s 1 (.xg 216 []),Mi 2,.v (.zi z7)],[(0,.ptr 0 0)],[.var (.zi z7)]⟩,[],⟨[Ms 0,.v (.zi z7)],[],[.var (.zi z7)]⟩,1,fun x=>qN (fun z0=>xw z0) x.2.1 x.2.2⟩:=X4 t39 rn z1Z Tryz.func221 [0] (qq rfl N8 zB)
def t40:=t39.s z1g
theorem Tt:zT Tryz.prog 208 ⟨[.ty .str,.ty .str],[.str,.bool],fun x=>strings_CutPrefix x.1 x.2⟩:=by
 refine gu Tryz.func208 (by kernel_rfl) rfl fun κ x zM y hy hI ha => ?_
 obtain⟨s,p⟩:=x
 cases hy
 obtain⟨v0,r,rfl,La,ha⟩:=qG.cons_inv (show qG κ [.zi .str s,.zi .str p] zM from ha)
 obtain⟨v1,r,rfl,R7,ha⟩:=ha.cons_inv
 rw[ha.qo,La.jT,R7.jT]
 refine(Go.Proofs.Tryz.strings_CutPrefix ⟨s.toArray⟩ ⟨p.toArray⟩ κ.w).mono ?_
 rintro e w' ⟨rfl,rfl⟩
 refine⟨Q8 _,fun _=>⟨_,rfl,?_⟩⟩
 exact RD.z0U RD.str RD.bool
def t41:=t40.d Tt
theorem z4L:zT Tryz.prog 81 ⟨[.ty .str,.ty .str],[.str,.str,.bool],fun x=>strings_Cut x.1 x.2⟩:=by
 refine gu Tryz.func81 (by kernel_rfl) rfl fun κ x zM y hy hI ha => ?_
 obtain⟨s,sep⟩:=x
 obtain⟨h0,hy⟩:=hy
 cases hy
 obtain⟨v0,r,rfl,La,ha⟩:=qG.cons_inv (show qG κ [.zi .str s,.zi .str sep] zM from ha)
 obtain⟨v1,r,rfl,R7,ha⟩:=ha.cons_inv
 rw[ha.qo,La.jT,R7.jT]
 obtain⟨m,hm⟩:=gR hI
 refine(Go.Proofs.Tryz.strings_Cut ⟨s.toArray⟩ ⟨sep.toArray⟩ m κ.w (by rw[show(ByteArray.size ⟨s.toArray⟩)=List.length s from List.size_toArray]; exact h0) hm).mono ?_
 rintro e w' ⟨rfl,n,rfl⟩
 refine⟨JU _ _,fun _=>⟨_,rfl,?_⟩⟩
 rw[show Lib.cut (⟨s.toArray⟩:ByteArray).data.toList (⟨sep.toArray⟩:ByteArray).data.toList=oH s sep from F3 s sep]
 exact RD.z4K RD.str RD.str RD.bool
def t42:=t41.d z4L
def GZ:zZ:=Lz [] [Mm 1 (.int .u8)] ⟨[Ms 0],[],[]⟩ [⟨.exit 0,⟨[Ms 0],[],[]⟩⟩] fun p s=>jC p s
def z0X:Hints:=Hz [(0,GZ)] [(0,1,.flat [Mb 16])] []
theorem Mz:LO Tryz.f252 GZ 0:=lk t42 rn z0X [] zB
theorem TJ:zT Pz 252 ⟨[.ty .str,.ty (.int .u8)],[.str],fun x=>strings_trimRightByte x.1 x.2⟩:=wZ t42 rn z0X Tryz.func252 [0] (qq rfl Mz zB)
def t43:=t42.d TJ
def BZ:zZ:=Lz [] [Mm 1 (.int .u8)] ⟨[Ms 0],[],[]⟩ [⟨.exit 0,⟨[Ms 0],[],[]⟩⟩] fun p s=>kH p s
def z0x:Hints:=Hz [(0,BZ)] [(0,1,.flat [Mb 13])] []
theorem NC:LO Tryz.f251 BZ 0:=lk t43 rn z0x [] zB
theorem z04:zT Pz 251 ⟨[.ty .str,.ty (.int .u8)],[.str],fun x=>strings_trimLeftByte x.1 x.2⟩:=wZ t43 rn z0x Tryz.func251 [0] (qq rfl NC zB)
def t44:=t43.d z04
theorem TK:zT Tryz.prog 231 ⟨[.ty .str],[(hO .bool 256),.bool],fun x=>strings_makeASCIISet x⟩:=by
 refine gu Tryz.func231 (by kernel_rfl) rfl fun κ s zM y hy hI ha => ?_
 obtain⟨⟨h0,h1⟩,hy⟩:=hy
 cases hy
 obtain⟨v0,r,rfl,La,ha⟩:=qG.cons_inv (show qG κ [.zi .str s] zM from ha)
 rw[ha.qo,La.jT]
 refine(Go.Proofs.Tryz.strings_makeASCIISet (fun _=>by kernel_rfl) ⟨s.toArray⟩ κ.w (by rw[show(ByteArray.size ⟨s.toArray⟩)=List.length s from List.size_toArray]; exact h0) (by simpa using h1)).mono ?_
 rintro e w' ⟨rfl,rfl⟩
 refine⟨K1 _ _,fun _=>⟨_,rfl,?_⟩⟩
 exact RD.z0U (I2 s) RD.bool
def t45:=t44.d TK
theorem z16:zT Pz 232 ⟨[.rp (hO .bool 256),.ty (.int .u8)],[.bool],fun x=>xi x.1 x.2⟩:=wZ t45 rn hN Tryz.func232 [] zB
def t46:=t45.d z16
def HH:zZ:=Lz [] [Mr 1 (hO .bool 256)] ⟨[Ms 0],[],[]⟩ [⟨.exit 0,⟨[Ms 0],[],[]⟩⟩] fun p s=>xj p s
def T9:Hints:=Hz [(0,HH)] [] []
theorem MS:LO Tryz.f254 HH 0:=lk t46 rn T9 [] zB
theorem z1m:zT Pz 254 ⟨[.ty .str,.rp (hO .bool 256)],[.str],fun x=>wR x.1 x.2⟩:=wZ t46 rn T9 Tryz.func254 [0] (qq rfl MS zB)
def t47:=t46.d z1m
def Hj:zZ:=Lz [] [Mr 1 (hO .bool 256)] ⟨[Ms 0],[],[]⟩ [⟨.exit 0,⟨[Ms 0],[],[]⟩⟩] fun p s=>xv p s
def T7:Hints:=Hz [(0,Hj)] [] []
theorem MZ:LO Tryz.f253 Hj 0:=lk t47 rn T7 [] zB
theorem z2H:zT Pz 253 ⟨[.ty .str,.rp (hO .bool 256)],[.str],fun x=>vk x.1 x.2⟩:=wZ t47 rn T7 Tryz.func253 [0] (qq rfl MZ zB)
def t48:=t47.d z2H
def z5V:Hints:=Hz [] [(0,1,.flat [Mb 12]),(0,3,.flat [Mb 21])] []
theorem z2y:zT Pz 235 ⟨[.ty .str,.ty .str],[.str],fun x=>j8 x.1 x.2⟩:=wZ t48 rn z5V Tryz.func235 [] zB
def t49:=t48.d z2y
def z4a:Hints:=Hz [] [(0,1,.flat [Mb 2])] []
theorem Tn:zT Pz 172 ⟨[.ty (.sl u32)],[.bool],fun x=>bQ x⟩:=wZ t49 rn z4a Tryz.func172 [] zB
def t50:=t49.d Tn
def Bo:zZ:=Lz [] [] ⟨[Mm 0 (.sl u32)],[],[]⟩ [⟨.exit 0,⟨[Mm 0 (.sl u32)],[],[]⟩⟩] fun p s=>cv  s
def z18:Hints:=Hz [(0,Bo)] [] []
theorem O1:LO Tryz.f214 Bo 0:=lk t50 rn z18 [] zB
theorem SW:zT Pz 214 ⟨[.ty (.sl u32)],[(.sl u32)],fun x=>xC x⟩:=wZ t50 rn z18 Tryz.func214 [0] (qq rfl O1 zB)
def t51:=t50.d SW
def HK:zZ:=Lz [] [Mm 1 (.sl u32),Mi 6,Mm 7 u32,Mm 21 (.sl u32),Mi 22,Mi 23,Mm 28 (.sl u32),Mi 29] ⟨[Mm 8 (.int .u64),Mi 30,.a u32],[(5,.cur 0 u32)],[.arr u32]⟩ [⟨.exit 2,⟨[Mm 8 (.int .u64),.a u32],[(5,.cur 0 u32)],[.arr u32]⟩⟩] fun p s=>eM p.1 p.2.1 p.2.2.1 p.2.2.2.1 p.2.2.2.2.1 p.2.2.2.2.2.1 p.2.2.2.2.2.2.1 p.2.2.2.2.2.2.2 s
def H6:zZ:=Lz [] [Mm 1 (.sl u32),Mm 21 (.sl u32),Mi 22] ⟨[Mi 23,.a u32],[(5,.cur 0 u32)],[.arr u32]⟩ [⟨.exit 0,⟨[.a u32],[(5,.cur 0 u32)],[.arr u32]⟩⟩] fun p s=>fa p.1 p.2.1 p.2.2 s
def PO:Hints:=Hz [(2,HK),(0,H6)] [] [(16,[5])]
theorem Mf:LO Tryz.f198 HK 2:=lk t51 rn PO [] zB
theorem Mx:LO Tryz.f198 H6 0:=lk t51 rn PO [2] (qq rfl Mf zB)
theorem z2s:zT Pz 198 ⟨[.ty (.sl u32),.ty (.sl u32)],[(.sl u32)],fun x=>mm x.1 x.2⟩:=wZ t51 rn PO Tryz.func198 [0] (qq rfl Mx zB)
def t52:=t51.d z2s
theorem z11:zT Pz 166 ⟨[.ty (.int .u64)],[(.sl u32)],fun x=>yR x⟩:=wZ t52 rn hN Tryz.func166 [] zB
def t53:=t52.d z11
def H9:zZ:=Lz [] [Mm 0 (.sl u32),Mm 1 (.sl u32),Mm 24 (.sl u32),Mi 25] ⟨[Mm 6 (.int .u64),Mi 26,.a u32],[(5,.cur 0 u32)],[.arr u32]⟩ [⟨.exit 0,⟨[Mm 6 (.int .u64),.a u32],[(5,.cur 0 u32)],[.arr u32]⟩⟩] fun p s=>eH p.1 p.2.1 p.2.2.1 p.2.2.2 s
def z1d:Hints:=Hz [(0,H9)] [(3,2,.flat [Mm 0 (.sl u32),Mm 1 (.sl u32)]),(3,10,.flat [Mm 6 (.int .u64)])] [(16,[5])]
theorem Nt:LO Tryz.f236 H9 0:=lk t53 rn z1d [] zB
theorem z1e:zT Pz 236 ⟨[.ty (.sl u32),.ty (.sl u32)],[(.sl u32)],fun x=>tP x.1 x.2⟩:=wZ t53 rn z1d Tryz.func236 [0] (qq rfl Nt zB)
def t54:=t53.d z1e
def Bm:zZ:=Lz [] [Ms 0,Mi 19] ⟨[Mm 4 (.sl u32),Mi 20],[],[]⟩ [⟨.exit 0,⟨[Mm 4 (.sl u32)],[],[]⟩⟩] fun p s=>y4 p.1 p.2 s
def z2u:Hints:=Hz [(0,Bm)] [(0,1,.ways [⟨.normal,⟨[Mb 17],[],[]⟩⟩])] []
theorem NX:LO Tryz.f209 Bm 0:=lk t54 rn z2u [] zB
theorem z1V:zT Pz 209 ⟨[.ty .str],[(.sl u32),.bool],fun x=>wX x⟩:=wZ t54 rn z2u Tryz.func209 [0] (qq rfl NX zB)
def t55:=t54.d z1V
def Bw:zZ:=Lz [] [Mi 5] ⟨[Mm 3 (.sl u32),Mi 6],[],[]⟩ [⟨.exit 0,⟨[Mm 3 (.sl u32)],[],[]⟩⟩] fun p s=>c6 p s
def z0W:Hints:=Hz [(0,Bw)] [] []
theorem O9:LO Tryz.f199 Bw 0:=lk t55 rn z0W [] zB
theorem z2n:zT Pz 199 ⟨[.ty i64],[(.sl u32)],fun x=>mb x⟩:=wZ t55 rn z0W Tryz.func199 [0] (qq rfl O9 zB)
def t56:=t55.d z2n
def z5t:Hints:=Hz [] [(0,1,.Sz)] []
theorem z2b:zT Pz 237 ⟨[.ty (.sl u32)],[(.sl u32)],fun x=>wM x⟩:=wZ t56 rn z5t Tryz.func237 [] zB
def t57:=t56.d z2b
theorem z27:zT Pz 211 ⟨[.ty (.sl u32)],[(.sl u32)],fun x=>y8 x⟩:=wZ t57 rn hN Tryz.func211 [] zB
def t58:=t57.d z27
def BO:zZ:=Lz [] [Mm 0 (.sl u32),Mm 1 (.sl u32)] ⟨[Mi 5],[],[]⟩ [⟨.exit 0,⟨[],[],[]⟩⟩,⟨.ret,⟨[Mi 4],[],[]⟩⟩] fun p s=>bY p.1 p.2 s
def z2h:Hints:=Hz [(0,BO)] [] []
theorem MH:LO Tryz.f165 BO 0:=lk t58 rn z2h [] zB
theorem z2E:zT Pz 165 ⟨[.ty (.sl u32),.ty (.sl u32)],[i64],fun x=>mo x.1 x.2⟩:=wZ t58 rn z2h Tryz.func165 [0] (qq rfl MH zB)
def t59:=t58.d z2E
def z3G:Hints:=Hz [] [(0,1,.flat [Mb 15])] []
theorem Tp:zT Pz 238 ⟨[.ty u32,.ty u32,.ty u32],[u32,u32],fun x=>jS x.1 x.2.1 x.2.2⟩:=wZ t59 rn z3G Tryz.func238 [] zB
def t60:=t59.d Tp
def HN:zZ:=Lz [] [Mm 0 (.sl u32),Mm 1 u32] ⟨[Mm 7 u32,Mi 8,.a u32],[(6,.cur 0 u32)],[.arr u32]⟩ [⟨.exit 0,⟨[Mm 7 u32,.a u32],[(6,.cur 0 u32)],[.arr u32]⟩⟩] fun p s=>hM p.1 p.2 s
def z1w:Hints:=Hz [(0,HN)] [] [(7,[6])]
theorem Mw:LO Tryz.f212 HN 0:=lk t60 rn z1w [] zB
theorem z0h:zT Pz 212 ⟨[.ty (.sl u32),.ty u32],[(.sl u32),u32],fun x=>bf x.1 x.2⟩:=wZ t60 rn z1w Tryz.func212 [0] (qq rfl Mw zB)
def t61:=t60.d z0h
def z3x:Hints:=Hz [] [(3,1,.flat [Mm 0 u32,Mi 2]),(3,4,.flat [Mm 0 u32,Mi 2])] []
theorem TV:zT Pz 258 ⟨[.ty u32],[i64],fun x=>jX x⟩:=wZ t61 rn z3x Tryz.func258 [] zB
def t62:=t61.d TV
theorem TY:zT Pz 241 ⟨[.ty u32],[i64],fun x=>wj x⟩:=wZ t62 rn hN Tryz.func241 [] zB
def t63:=t62.d TY
def C1:zZ:=Lz [] [Mm 1 (.int .u64),Mi 2,Mm 13 (.sl u32),Mi 14] ⟨[Mi 15,.a u32],[(7,.cur 0 u32)],[.arr u32]⟩ [⟨.exit 0,⟨[.a u32],[(7,.cur 0 u32)],[.arr u32]⟩⟩] fun p s=>n8 p.1 p.2.1 p.2.2.1 p.2.2.2 s
def z1r:Hints:=Hz [(0,C1)] [] []
theorem Mv:LO Tryz.f242 C1 0:=lk t63 rn z1r [] zB
theorem Ou:xB Pz 242 ⟨[.any,.any,.any],⟨[Mm 0 (.sl u32),Mm 1 (.int .u64),Mi 2],[],[]⟩,[],⟨[.a u32],[(0,.cur 0 u32)],[.arr u32]⟩,1,fun x=>bG x.1 x.2.1 x.2.2⟩:=X4 t63 rn z1r Tryz.func242 [0] (qq rfl Mv zB)
def t64:=t63.s Ou
def Hd:zZ:=Lz [] [Mm 2 u32,Mm 3 u32,Mm 4 u32] ⟨[Mm 12 (.int .u64),Mm 13 (.int .u64)],[],[]⟩ [⟨.exit 0,⟨[Mm 12 (.int .u64)],[],[]⟩⟩] fun p s=>yj p.1 p.2.1 p.2.2 s
def z0t:Hints:=Hz [(0,Hd)] [(0,3,.flat [Mb 42])] []
theorem Nv:LO Tryz.f243 Hd 0:=lk t64 rn z0t [] zB
theorem TS:zT Pz 243 ⟨[.ty u32,.ty u32,.ty u32,.ty u32,.ty u32],[(.int .u64)],fun x=>bn x.1 x.2.1 x.2.2.1 x.2.2.2.1 x.2.2.2.2⟩:=wZ t64 rn z0t Tryz.func243 [0] (qq rfl Nv zB)
def t65:=t64.d TS
theorem z2I:zT Pz 259 ⟨[.ty u32,.ty u32,.ty u32],[u32,u32],fun x=>uk x.1 x.2.1 x.2.2⟩:=wZ t65 rn hN Tryz.func259 [] zB
def t66:=t65.d z2I
theorem SD:zT Pz 260 ⟨[.ty u32,.ty u32,.ty u32],[u32,u32],fun x=>jR x.1 x.2.1 x.2.2⟩:=wZ t66 rn hN Tryz.func260 [] zB
def t67:=t66.d SD
def Ba:zZ:=Lz [] [Mm 1 (.sl u32),Mm 2 (.int .u64),Mm 14 (.sl u32),Mi 15] ⟨[.s 0 (.sub 0 u32),Mm 7 (.int .u64),Mm 8 u32,Mi 16,.a u32],[],[.arr u32]⟩ [⟨.exit 0,⟨[.s 0 (.sub 0 u32),Mm 7 (.int .u64),Mm 8 u32,.a u32],[],[.arr u32]⟩⟩] fun p s=>yl p.1 p.2.1 p.2.2.1 p.2.2.2 s
def Hv:zZ:=Lz [] [Mm 1 (.sl u32),Mm 62 (.sl u32),Mi 63] ⟨[.s 0 (.sub 0 u32),Mm 11 u32,Mi 64,.a u32],[],[.arr u32]⟩ [⟨.exit 2,⟨[.s 0 (.sub 0 u32),Mm 11 u32,.a u32],[],[.arr u32]⟩⟩] fun p s=>yc p.1 p.2.1 p.2.2 s
def RA:Hints:=Hz [(0,Ba),(2,Hv)] [] []
theorem Nb:LO Tryz.f244 Ba 0:=lk t67 rn RA [] zB
theorem Od:LO Tryz.f244 Hv 2:=lk t67 rn RA [] zB
theorem z0Q:xB Pz 244 ⟨[.sub,.any,.any],⟨[.s 0 (.sub 0 u32),Mm 1 (.sl u32),Mm 2 (.int .u64),.a u32],[],[.arr u32]⟩,[],⟨[Mb 0,.a u32],[],[.arr u32]⟩,1,fun x=>cr x.1 x.2.1 x.2.2.1 x.2.2.2⟩:=X4 t67 rn RA Tryz.func244 [0,2] (qq rfl Nb (qq rfl Od zB))
def t68:=t67.s z0Q
def Wl:zZ:=Lz [] [Mm 1 (.int .u64),Mi 2,Mm 13 (.sl u32),Mi 14] ⟨[Mi 15,.a u32],[(7,.cur 0 u32)],[.arr u32]⟩ [⟨.exit 0,⟨[.a u32],[(7,.cur 0 u32)],[.arr u32]⟩⟩] fun p s=>gD p.1 p.2.1 p.2.2.1 p.2.2.2 s
def Iw:Hints:=Hz [(0,Wl)] [] []
theorem Di:LO Tryz.f242 Wl 0:=lk t68 rn Iw [] zB
theorem HR:zT Pz 242 ⟨[.ty (.sl u32),.ty (.int .u64),.ty i64],[(.sl u32)],fun x=>pQ x.1 x.2.1 x.2.2⟩:=wZ t68 rn Iw Tryz.func242 [0] (qq rfl Di zB)
def t69:=t68.d HR
def z0I:Tb:=t69.d HR
def Hw:zZ:=Lz [] [Mm 6 (.int .u64),Mm 38 (.sl u32),Mi 39] ⟨[Mi 40,.a u32],[(7,.cur 0 u32)],[.arr u32]⟩ [⟨.exit 0,⟨[.a u32],[(7,.cur 0 u32)],[.arr u32]⟩⟩] fun p s=>yi p.1 p.2.1 p.2.2 s
def z1X:Hints:=Hz [(0,Hw)] [] [(17,[7]),(21,[12])]
theorem Mt:LO Tryz.f245 Hw 0:=lk z0I rn z1X [] zB
theorem SG:zT Pz 245 ⟨[.ty (.sl u32),.ty i64],[(.sl u32)],fun x=>yH x.1 x.2⟩:=wZ z0I rn z1X Tryz.func245 [0] (qq rfl Mt zB)
def t70:=t69.d SG
def z1K:Tb:=t70.s Ou
def BD:zZ:=Lz [] [Mm 6 (.int .u64),Mm 8 (.sl u32),Mi 9] ⟨[Mi 10,.a u32,.a u32],[(4,.cur 2 u32),(7,.cur 0 u32)],[.arr u32,.dead,.arr u32]⟩ [⟨.exit 0,⟨[.a u32,.a u32],[(4,.cur 2 u32),(7,.cur 0 u32)],[.arr u32,.dead,.arr u32]⟩⟩] fun p s=>gy p.1 p.2.1 p.2.2 s
def z1E:Hints:=Hz [(0,BD)] [(3,9,.ways [⟨.normal,⟨[Mm 11 (.int .u64),.a u32,.a u32],[(4,.cur 2 u32),(7,.cur 0 u32)],[.arr u32,.dead,.arr u32]⟩⟩])] [(5,[8]),(12,[4,7])]
theorem My:LO Tryz.f223 BD 0:=lk z1K rn z1E [] zB
theorem z2g:zT Pz 223 ⟨[.ty (.sl u32),.ty (.sl u32)],[(.sl u32),(.sl u32)],fun x=>rj x.1 x.2⟩:=wZ z1K rn z1E Tryz.func223 [0] (qq rfl My zB)
def t71:=t70.d z2g
theorem Tx:zT Pz 197 ⟨[.ty (.sl u32),.ty (.sl u32)],[(.sl u32),(.sl u32),.bool],fun x=>ke x.1 x.2⟩:=wZ t71 rn hN Tryz.func197 [] zB
def t72:=t71.d Tx
def HF:zZ:=Lz [] [] ⟨[Mm 0 (.sl u32),Mm 1 (.sl u32)],[],[]⟩ [⟨.exit 0,⟨[Mm 0 (.sl u32)],[],[]⟩⟩] fun p s=>br  s
def z2A:Hints:=Hz [(0,HF)] [] []
theorem M9:LO Tryz.f173 HF 0:=lk t72 rn z2A [] zB
theorem z1A:zT Pz 173 ⟨[.ty (.sl u32),.ty (.sl u32)],[(.sl u32)],fun x=>oS x.1 x.2⟩:=wZ t72 rn z2A Tryz.func173 [0] (qq rfl M9 zB)
def t73:=t72.d z1A
def z5E:Hints:=Hz [] [(0,2,.flat [Mb 19])] []
theorem z0B:zT Pz 176 ⟨[.ty .bool,.ty (.sl u32),.ty (.sl u32)],[xN],fun x=>dV x.1 x.2.1 x.2.2⟩:=wZ t73 rn z5E Tryz.func176 [] zB
def t74:=t73.d z0B
def z4t:Hints:=Hz [] [(0,9,.flat [Mb 58]),(3,13,.flat [Ms 14]),(0,17,.flat [Mb 94])] []
theorem TW:zT Pz 149 ⟨[.ty .str],[xN,i64],fun x=>jk x⟩:=wZ t74 rn z4t Tryz.func149 [] zB
def t75:=t74.d TW
def z3W:Hints:=Hz [] [(0,2,.flat [Mb 35]),(3,2,.ways [⟨.normal,⟨[Ms 3,.v (.zi z7),.v (.zi .expr)],[],[.var (.zi z7),.var (.zi .expr)]⟩⟩,⟨.jq (.iface 111 .qQ),⟨[Mm 0 zU,.v (.zi z7),.v (.zi .expr)],[],[.var (.zi z7),.var (.zi .expr)]⟩⟩])] []
theorem z2o:jm Pz 220 ⟨[.ptr],⟨[.v (.zi z7)],[(0,.ptr 0 0)],[.var (.zi z7)]⟩,[],⟨[Mm 0 .expr,.v (.zi z7)],[],[.var (.zi z7)]⟩,1,111,⟨[Mm 0 zU,.v (.zi z7)],[],[.var (.zi z7)]⟩,fun x=>vG x⟩:=OW t75 rn z3W Tryz.func220 [] zB
def t76:=t75.p z2o
def z3Q:Hints:=Hz [] [(0,1,.flat [Mb 2])] []
theorem z0p:zT Pz 169 ⟨[.ty (.int .u8)],[.bool],fun x=>wi x⟩:=wZ t76 rn z3Q Tryz.func169 [] zB
def t77:=t76.d z0p
theorem TT:zT Pz 170 ⟨[.ty (.int .u8)],[.bool],fun x=>wO x⟩:=wZ t77 rn hN Tryz.func170 [] zB
def t78:=t77.d TT
def XG:zZ:=Lz [] [.s 1 (.xg 170 []),Mi 2,Mi 7] ⟨[.v (.zi z7)],[(0,.ptr 0 0)],[.var (.zi z7)]⟩ [⟨.exit 0,⟨[.v (.zi z7)],[],[.var (.zi z7)]⟩⟩] fun p s=>qI (fun z0=>wO z0) p.2.1 p.2.2 s
def FL:Hints:=Hz [(0,XG)] [(0,2,.ways [⟨.normal,⟨[Mb 44,.v (.zi z7)],[],[.var (.zi z7)]⟩⟩])] []
theorem De:LO Tryz.f221 XG 0:=lk t78 rn FL [] zB
theorem Bi:xB Pz 221 ⟨[.ptr,.xg 170,.any],⟨[.s 1 (.xg 170 []),Mi 2,.v (.zi z7)],[(0,.ptr 0 0)],[.var (.zi z7)]⟩,[],⟨[Ms 0,.v (.zi z7)],[],[.var (.zi z7)]⟩,1,fun x=>qN (fun z0=>wO z0) x.2.1 x.2.2⟩:=X4 t78 rn FL Tryz.func221 [0] (qq rfl De zB)
def t79:=t78.s Bi
abbrev Rn:=yx.den ⟨[.v (.zi z7)],[(0,.ptr 0 0)],[.var (.zi z7)]⟩→T (yx.den ⟨[Mm 0 .expr,.v (.zi z7)],[],[.var (.zi z7)]⟩⊕yx.den ⟨[Mm 0 zU,.v (.zi z7)],[],[.var (.zi z7)]⟩)
abbrev z3Y(F:Rn):=jm Pz 188 ⟨[.ptr],⟨[.v (.zi z7)],[(0,.ptr 0 0)],[.var (.zi z7)]⟩,[],⟨[Mm 0 .expr,.v (.zi z7)],[],[.var (.zi z7)]⟩,1,111,⟨[Mm 0 zU,.v (.zi z7)],[],[.var (.zi z7)]⟩,F⟩
abbrev Y6:=yx.den ⟨[.v (.zi z7)],[(0,.ptr 0 0)],[.var (.zi z7)]⟩→T (yx.den ⟨[Mm 0 .expr,.v (.zi z7)],[],[.var (.zi z7)]⟩⊕yx.den ⟨[Mm 0 zU,.v (.zi z7)],[],[.var (.zi z7)]⟩)
abbrev Ls(F:Y6):=jm Pz 71 ⟨[.ptr],⟨[.v (.zi z7)],[(0,.ptr 0 0)],[.var (.zi z7)]⟩,[],⟨[Mm 0 .expr,.v (.zi z7)],[],[.var (.zi z7)]⟩,1,111,⟨[Mm 0 zU,.v (.zi z7)],[],[.var (.zi z7)]⟩,F⟩
def z5v(te:Rn)(wB:Y6):Hints:=Hz [] [(3,10,.ways [⟨.normal,⟨[.v (.zi z7),.v (.zi .expr),.v (.zi .expr)],[],[.var (.zi z7),.var (.zi .expr),.var (.zi .expr)]⟩⟩,⟨.jq (.iface 111 .qQ),⟨[Mm 0 zU,.v (.zi z7),.v (.zi .expr),.v (.zi .expr)],[],[.var (.zi z7),.var (.zi .expr),.var (.zi .expr)]⟩⟩]),(0,14,.ways [⟨.normal,⟨[Mb 46,.v (.zi z7),.v (.zi .expr)],[],[.var (.zi z7),.var (.zi .expr)]⟩⟩]),(0,16,.ways [⟨.normal,⟨[Mb 71,.v (.zi z7),.v (.zi .expr)],[],[.var (.zi z7),.var (.zi .expr)]⟩⟩])] []
theorem M5(te:Rn)(FM:z3Y te)(wB:Y6)(bT:Ls wB):jm Pz 188 ⟨[.ptr],⟨[.v (.zi z7)],[(0,.ptr 0 0)],[.var (.zi z7)]⟩,[],⟨[Mm 0 .expr,.v (.zi z7)],[],[.var (.zi z7)]⟩,1,111,⟨[Mm 0 zU,.v (.zi z7)],[],[.var (.zi z7)]⟩,fun x=>xU (fun y0=>te (y0)) (fun y0=>wB (y0)) x⟩:=OW (((t79.s Bi).p bT).p FM) rn (z5v te wB) Tryz.func188 [] zB
theorem z2w(wB:Y6)(bT:Ls wB):jm Pz 188 ⟨[.ptr],⟨[.v (.zi z7)],[(0,.ptr 0 0)],[.var (.zi z7)]⟩,[],⟨[Mm 0 .expr,.v (.zi z7)],[],[.var (.zi z7)]⟩,1,111,⟨[Mm 0 zU,.v (.zi z7)],[],[.var (.zi z7)]⟩,fun x=>xc (fun y0=>wB (y0)) x⟩:=Bs (fun te x=>xU (fun y0=>te (y0)) (fun y0=>wB (y0)) x) (fun x=>rfl) (fun te FM=>M5 te FM wB bT)
def z10(wB:Y6)(bT:Ls wB):Tb:=t79.p (z2w _ bT)
def BL(wB:Y6):zZ:=Lz [] [Ms 2,Mr 7 zU] ⟨[.v (.zi z7),.v (.zi .expr),.v (.zi .expr)],[(0,.ptr 0 0),(1,.xg 1000188 [(0,0)]),(8,.ptr 1 0),(9,.ptr 2 0)],[.var (.zi z7),.var (.zi .expr),.var (.zi .expr)]⟩ [⟨.ret,⟨[.v (.zi z7),.v (.zi .expr),.v (.zi .expr)],[],[.var (.zi z7),.var (.zi .expr),.var (.zi .expr)]⟩⟩,⟨.jq (.iface 111 .qQ),⟨[Mm 0 zU,.v (.zi z7),.v (.zi .expr),.v (.zi .expr)],[],[.var (.zi z7),.var (.zi .expr),.var (.zi .expr)]⟩⟩] fun p s=>wh (fun y0=>wB (y0)) p.1 p.2 s
def z1H(wB:Y6):Hints:=Hz [(0,BL wB)] [] []
theorem LW(wB:Y6)(bT:Ls wB):LO Tryz.f128 (BL wB) 0:=lk (z10 wB bT) (rz [7]) (z1H wB) [] zB
theorem SR(wB:Y6)(bT:Ls wB):jm Pz 128 ⟨[.ptr,.xg 1000188,.any,.any],⟨[.s 1 (.mclo 1000188 [.pt 0]),Ms 2,Mm 3 zU,.v (.zi z7)],[(0,.ptr 0 0)],[.var (.zi z7)]⟩,[],⟨[Mm 0 .expr,.v (.zi z7)],[],[.var (.zi z7)]⟩,1,111,⟨[Mm 0 zU,.v (.zi z7)],[],[.var (.zi z7)]⟩,fun x=>xl (fun y0=>wB (y0)) x.1 x.2.1 x.2.2.1 x.2.2.2⟩:=OW (z10 wB bT) (rz [7]) (z1H wB) Tryz.func128 [0] (qq rfl (LW wB bT) zB)
theorem SL(wB:Y6)(bT:Ls wB):jm Pz 129 ⟨[.ptr],⟨[.v (.zi z7)],[(0,.ptr 0 0)],[.var (.zi z7)]⟩,[],⟨[Mm 0 .expr,.v (.zi z7)],[],[.var (.zi z7)]⟩,1,111,⟨[Mm 0 zU,.v (.zi z7)],[],[.var (.zi z7)]⟩,fun x=>qO (fun y0=>wB (y0)) x⟩:=OW (t79.p (SR _ bT)) rn hN Tryz.func129 [] zB
def Ij(wB:Y6)(bT:Ls wB):Tb:=t79.p (SL _ bT)
def WG(wB:Y6):zZ:=Lz [] [Ms 2,Mr 7 zU] ⟨[.v (.zi z7),.v (.zi .expr),.v (.zi .expr)],[(0,.ptr 0 0),(1,.xg 1000129 [(0,0)]),(8,.ptr 1 0),(9,.ptr 2 0)],[.var (.zi z7),.var (.zi .expr),.var (.zi .expr)]⟩ [⟨.ret,⟨[.v (.zi z7),.v (.zi .expr),.v (.zi .expr)],[],[.var (.zi z7),.var (.zi .expr),.var (.zi .expr)]⟩⟩,⟨.jq (.iface 111 .qQ),⟨[Mm 0 zU,.v (.zi z7),.v (.zi .expr),.v (.zi .expr)],[],[.var (.zi z7),.var (.zi .expr),.var (.zi .expr)]⟩⟩] fun p s=>wb (fun y0=>wB (y0)) p.1 p.2 s
def Ez(wB:Y6):Hints:=Hz [(0,WG wB)] [] []
theorem Cp(wB:Y6)(bT:Ls wB):LO Tryz.f128 (WG wB) 0:=lk (Ij wB bT) (rz [7]) (Ez wB) [] zB
theorem MC(wB:Y6)(bT:Ls wB):jm Pz 128 ⟨[.ptr,.xg 1000129,.any,.any],⟨[.s 1 (.mclo 1000129 [.pt 0]),Ms 2,Mm 3 zU,.v (.zi z7)],[(0,.ptr 0 0)],[.var (.zi z7)]⟩,[],⟨[Mm 0 .expr,.v (.zi z7)],[],[.var (.zi z7)]⟩,1,111,⟨[Mm 0 zU,.v (.zi z7)],[],[.var (.zi z7)]⟩,fun x=>xe (fun y0=>wB (y0)) x.1 x.2.1 x.2.2.1 x.2.2.2⟩:=OW (Ij wB bT) (rz [7]) (Ez wB) Tryz.func128 [0] (qq rfl (Cp wB bT) zB)
theorem PM(wB:Y6)(bT:Ls wB):jm Pz 71 ⟨[.ptr],⟨[.v (.zi z7)],[(0,.ptr 0 0)],[.var (.zi z7)]⟩,[],⟨[Mm 0 .expr,.v (.zi z7)],[],[.var (.zi z7)]⟩,1,111,⟨[Mm 0 zU,.v (.zi z7)],[],[.var (.zi z7)]⟩,fun x=>vQ (fun y0=>wB (y0)) x⟩:=OW (t79.p (MC _ bT)) rn hN Tryz.func71 [] zB
theorem z3H:jm Pz 71 ⟨[.ptr],⟨[.v (.zi z7)],[(0,.ptr 0 0)],[.var (.zi z7)]⟩,[],⟨[Mm 0 .expr,.v (.zi z7)],[],[.var (.zi z7)]⟩,1,111,⟨[Mm 0 zU,.v (.zi z7)],[],[.var (.zi z7)]⟩,fun x=>vD x⟩:=Bs (fun wB x=>vQ (fun y0=>wB (y0)) x) (fun x=>rfl) (fun wB bT=>PM wB bT)
def t80:=t79.p z3H
theorem z4v:jZ (DU Pz) 70 ⟨[.ptr,.ptr,.ptr],⟨[.v (.zi .expr),.v (.zi i64),.v (.zi i64)],[(0,.ptr 0 0),(1,.ptr 1 0),(2,.ptr 2 0)],[.var (.zi .expr),.var (.zi i64),.var (.zi i64)]⟩,[],⟨[.v (.zi .expr),.v (.zi i64),.v (.zi i64)],[],[.var (.zi .expr),.var (.zi i64),.var (.zi i64)]⟩,0,fun x=>uU x.1 x.2.1 x.2.2⟩:=fkr t80 rn hN Tryz.func70
theorem P7:jZ (DV Pz 111) 70 ⟨[.ptr,.ptr,.ptr,.any],⟨[Mm 3 zU,.v (.zi .expr),.v (.zi i64),.v (.zi i64)],[(0,.ptr 0 0),(1,.ptr 1 0),(2,.ptr 2 0)],[.var (.zi .expr),.var (.zi i64),.var (.zi i64)]⟩,[],⟨[.v (.zi .expr),.v (.zi i64),.v (.zi i64)],[],[.var (.zi .expr),.var (.zi i64),.var (.zi i64)]⟩,0,fun x=>uE x.1 x.2.1 x.2.2.1 x.2.2.2⟩:=fkh t80 rn hN Tryz.func70 3
theorem z41:xB Pz 33 ⟨[.ptr],⟨[.v (.zi z7)],[(0,.ptr 0 0)],[.var (.zi z7)]⟩,[],⟨[Mm 0 .expr,Mi 1,Mi 2,.v (.zi z7)],[],[.var (.zi z7)]⟩,3,fun x=>uO x⟩:=fkf t80 rn hN (g:=70) (pt:=111) z4v P7 Tryz.func33
def t81:=t80.s z41
def z47:Hints:=Hz [] [(3,2,.flat [Mb 4])] []
theorem TA:zT Pz 189 ⟨[.ty i64],[i64],fun x=>mR x⟩:=wZ t81 rn z47 Tryz.func189 [] zB
def t82:=t81.d TA
def z5a:Hints:=Hz [] [(0,1,.ways [⟨.normal,⟨[Mb 28],[],[]⟩⟩])] []
theorem z1b:zT Pz 113 ⟨[.ty xN],[.bool],fun x=>rK x⟩:=wZ t82 (rz [1]) z5a Tryz.func113 [] zB
def t83:=t82.d z1b
theorem z0J:zT Pz 122 ⟨[.ty xN],[xN],fun x=>dA x⟩:=wZ t83 (rz [1]) hN Tryz.func122 [] zB
def t84:=t83.d z0J
def z5q:Hints:=Hz [] [(0,2,.flat [Mb 2])] []
theorem z07:zT Pz 114 ⟨[.ty xN],[.bool],fun x=>dh x⟩:=wZ t84 rn z5q Tryz.func114 [] zB
def t85:=t84.d z07
theorem z2D:zT Pz 163 ⟨[.ty xN],[.str],fun x=>pj x⟩:=wZ t85 (rz [1]) hN Tryz.func163 [] zB
def t86:=t85.d z2D
def Be:zZ:=Lz [] [] ⟨[.s 0 (.sub 0 (.int .u8)),Mi 2,Mi 3,.a (.int .u8)],[],[.arr (.int .u8)]⟩ [⟨.exit 0,⟨[.a (.int .u8)],[],[.arr (.int .u8)]⟩⟩] fun p s=>xK  s
def z2c:Hints:=Hz [(0,Be)] [] []
theorem MV:LO Tryz.f213 Be 0:=lk t86 rn z2c [] zB
theorem z0K:xB Pz 213 ⟨[.sub],⟨[.s 0 (.sub 0 (.int .u8)),.a (.int .u8)],[],[.arr (.int .u8)]⟩,[],⟨[.a (.int .u8)],[],[.arr (.int .u8)]⟩,0,fun x=>wm x.1 x.2⟩:=X4 t86 rn z2c Tryz.func213 [0] (qq rfl MV zB)
def t87:=t86.s z0K
def BS:zZ:=Lz [] [Mm 4 (.sl u32)] ⟨[Mm 5 u32,Mi 19,.a (.int .u8)],[(3,.cur 0 (.int .u8))],[.arr (.int .u8)]⟩ [⟨.exit 2,⟨[.a (.int .u8)],[(3,.cur 0 (.int .u8))],[.arr (.int .u8)]⟩⟩] fun p s=>yv p s
def Hc:zZ:=Lz [.slot 3 (.int .u8)] [] ⟨[Mm 0 (.sl u32),.a (.int .u8)],[(3,.cur 0 (.int .u8))],[.arr (.int .u8)]⟩ [⟨.exit 0,⟨[.a (.int .u8)],[(3,.cur 0 (.int .u8))],[.arr (.int .u8)]⟩⟩] fun p s=>yk  s
def Hf:zZ:=Lz [] [] ⟨[.s 3 (.sub 0 (.int .u8)),.a (.int .u8)],[],[.arr (.int .u8)]⟩ [⟨.exit 4,⟨[.s 3 (.sub 0 (.int .u8)),.a (.int .u8)],[],[.arr (.int .u8)]⟩⟩] fun p s=>ye  s
def No:Hints:=Hz [(2,BS),(0,Hc),(4,Hf)] [(0,13,.flat [Mb 42])] []
theorem Nu:LO Tryz.f164 BS 2:=lk t87 rn No [] zB
theorem LB:LO Tryz.f164 Hc 0:=lk t87 rn No [2] (qq rfl Nu zB)
theorem MW:LO Tryz.f164 Hf 4:=lk t87 rn No [] zB
theorem T3:zT Pz 164 ⟨[.ty (.sl u32)],[.str],fun x=>mv x⟩:=wZ t87 rn No Tryz.func164 [0,4] (qq rfl LB (qq rfl MW zB))
def t88:=t87.d T3
theorem z0Z:zT Tryz.prog 224 ⟨[.ty .str,.ty i64],[.str],fun x=>strings_Repeat x.1 x.2⟩:=by
 refine gu Tryz.func224 (by kernel_rfl) rfl fun κ x zM y hy hI ha => ?_
 obtain⟨s,n⟩:=x
 obtain⟨⟨h0,h1,h2⟩,hy⟩:=hy
 cases hy
 obtain⟨v0,r,rfl,La,ha⟩:=qG.cons_inv (show qG κ [.zi .str s,.zi i64 n] zM from ha)
 obtain⟨v1,r,rfl,R7,ha⟩:=ha.cons_inv
 rw[ha.qo,La.jT,R7.cD]
 obtain⟨m,rfl⟩:=Int.eq_ofNat_of_zero_le h0
 refine(Go.Proofs.Tryz.strings_Repeat ⟨s.toArray⟩ m κ.w (by simp only at h1; omega) (by rw[show(ByteArray.size ⟨s.toArray⟩)=List.length s from List.size_toArray]; simpa using h2)).mono ?_
 rintro e w' ⟨rfl,hB⟩
 refine⟨hB,fun _=>⟨_,rfl,?_⟩⟩
 have e1:Lib.repeatL s m=j2 s m:=B5 s m
 have e2:(Int.toNat (m:Int))=m:=by omega
 show RD _ (.zi .str (j2 s (Int.toNat (m:Int)))) _
 rw[e2,← e1]
 exact RD.str
def t89:=t88.d z0Z
theorem T4:zT Pz 200 ⟨[.ty .str,.ty i64],[.str],fun x=>cw x.1 x.2⟩:=wZ t89 rn hN Tryz.func200 [] zB
def t90:=t89.d T4
def Hp:zZ:=Lz [] [] ⟨[Mi 10,.v (.zi xN)],[(1,.ptr 0 0)],[.var (.zi xN)]⟩ [⟨.exit 0,⟨[.v (.zi xN)],[],[.var (.zi xN)]⟩⟩,⟨.ret,⟨[Ms 2,Mb 3,.v (.zi xN)],[],[.var (.zi xN)]⟩⟩] fun p s=>je  s
def z1k:Hints:=Hz [(0,Hp)] [] []
theorem LZ:LO Tryz.f134 Hp 0:=lk t90 rn z1k [] zB
theorem z05:zT Pz 134 ⟨[.ty xN],[.str,.bool],fun x=>dn x⟩:=wZ t90 rn z1k Tryz.func134 [0] (qq rfl LZ zB)
def t91:=t90.d z05
def z4M:Hints:=Hz [] [(0,1,.ways [⟨.normal,⟨[Mb 15],[],[]⟩⟩])] []
theorem z2K:zT Pz 190 ⟨[.ty xN],[.bool],fun x=>ep x⟩:=wZ t91 (rz [1]) z4M Tryz.func190 [] zB
def t92:=t91.d z2K
theorem z15:zT Pz 191 ⟨[.ty xN],[.bool],fun x=>gC x⟩:=wZ t92 (rz [1]) hN Tryz.func191 [] zB
def t93:=t92.d z15
def H5:zZ:=Lz [] [Ms 0,Mi 18] ⟨[Mi 19],[],[]⟩ [⟨.exit 0,⟨[],[],[]⟩⟩,⟨.ret,⟨[Mb 2],[],[]⟩⟩] fun p s=>jg p.1 p.2 s
def TL:Hints:=Hz [(0,H5)] [(0,1,.ways [⟨.normal,⟨[Mb 16],[],[]⟩⟩])] []
theorem LP:LO Tryz.f110 H5 0:=lk t93 rn TL [] zB
theorem SB:zT Pz 110 ⟨[.ty .str],[.bool],fun x=>mA x⟩:=wZ t93 rn TL Tryz.func110 [0] (qq rfl LP zB)
def t94:=t93.d SB
theorem Tv:zT Pz 130 ⟨[.ty .expr],[.bool],fun x=>gp x⟩:=wZ t94 (rz [1]) hN Tryz.func130 [] zB
def t95:=t94.d Tv
abbrev Le:=yx.den ⟨[Mm 0 .expr,Mi 1,.v (.zi i64)],[(2,.ptr 0 0)],[.var (.zi i64)]⟩→T (yx.den ⟨[Mb 0,.v (.zi i64)],[],[.var (.zi i64)]⟩)
abbrev Si(F:Le):=xB Pz 73 ⟨[.any,.any,.ptr],⟨[Mm 0 .expr,Mi 1,.v (.zi i64)],[(2,.ptr 0 0)],[.var (.zi i64)]⟩,[],⟨[Mb 0,.v (.zi i64)],[],[.var (.zi i64)]⟩,1,F⟩
theorem SC(k8:Le)(oF:Si k8):xB Pz 132 ⟨[.any,.any,.ptr],⟨[Mm 0 .expr,Mr 1 i64,.v (.zi i64)],[(2,.ptr 0 0)],[.cvar (.ptr 1 0),.var (.zi i64)]⟩,[],⟨[Mb 0,.v (.zi i64)],[],[.cvar (.ptr 1 0),.var (.zi i64)]⟩,1,fun x=>gn (fun y0 y1 y2=>k8 (y0,y1,y2)) x.1 x.2.1 x.2.2⟩:=X4 (t95.s oF) (rz [3]) hN Tryz.func132 [] zB
def z1M(k8:Le)(oF:Si k8):Tb:=t95.s (SC _ oF)
def HM(k8:Le):zZ:=Lz [] [Mm 0 (.sl .expr),Mi 7] ⟨[.s 1 (.mclo 132 [.rp i64,.pt 0]),Mi 8,.v (.zi i64)],[],[.cvar (.ptr 1 0),.var (.zi i64)]⟩ [⟨.exit 0,⟨[.v (.zi i64)],[],[.cvar (.ptr 1 0),.var (.zi i64)]⟩⟩,⟨.ret,⟨[Mi 4,.v (.zi i64)],[],[.cvar (.ptr 1 0),.var (.zi i64)]⟩⟩] fun p s=>zX (fun y0 y1 y2=>k8 (y0,y1,y2)) p.1 p.2 s
def z0s(k8:Le):Hints:=Hz [(0,HM k8)] [] []
theorem NA(k8:Le)(oF:Si k8):LO Tryz.f192 (HM k8) 0:=lk (z1M k8 oF) rn (z0s k8) [] zB
theorem Tz(k8:Le)(oF:Si k8):xB Pz 192 ⟨[.any,.xg 132],⟨[Mm 0 (.sl .expr),.s 1 (.mclo 132 [.rp i64,.pt 0]),.v (.zi i64)],[],[.cvar (.ptr 1 0),.var (.zi i64)]⟩,[],⟨[Mi 0,.v (.zi i64)],[],[.cvar (.ptr 1 0),.var (.zi i64)]⟩,1,fun x=>qZ (fun y0 y1 y2=>k8 (y0,y1,y2)) x.1 x.2.1 x.2.2⟩:=X4 (z1M k8 oF) rn (z0s k8) Tryz.func192 [0] (qq rfl (NA k8 oF) zB)
theorem TX(k8:Le)(oF:Si k8):xB Pz 131 ⟨[.any,.xg 132],⟨[Mm 0 (.sl .expr),.s 1 (.mclo 132 [.rp i64,.pt 0]),.v (.zi i64)],[],[.cvar (.ptr 1 0),.var (.zi i64)]⟩,[],⟨[Mb 0,.v (.zi i64)],[],[.cvar (.ptr 1 0),.var (.zi i64)]⟩,1,fun x=>ql (fun y0 y1 y2=>k8 (y0,y1,y2)) x.1 x.2.1 x.2.2⟩:=X4 (t95.s (Tz _ oF)) rn hN Tryz.func131 [] zB
def h73(k8:Le):Hints:=Hz [] [(0,2,.ways [⟨.normal,⟨[Mb 24,.v (.zi i64)],[],[.var (.zi i64),.cvar (.ptr 0 0)]⟩⟩])] []
theorem Pq(k8:Le)(oF:Si k8):xB Pz 73 ⟨[.any,.any,.ptr],⟨[Mm 0 .expr,Mi 1,.v (.zi i64)],[(2,.ptr 0 0)],[.var (.zi i64)]⟩,[],⟨[Mb 0,.v (.zi i64)],[],[.var (.zi i64)]⟩,1,fun x=>bc (fun y0 y1 y2=>k8 (y0,y1,y2)) x.1 x.2.1 x.2.2⟩:=X4 (t95.s (TX _ oF)) (rz [3,4]) (h73 k8) Tryz.func73 [] zB
theorem z5B:xB Pz 73 ⟨[.any,.any,.ptr],⟨[Mm 0 .expr,Mi 1,.v (.zi i64)],[(2,.ptr 0 0)],[.var (.zi i64)]⟩,[],⟨[Mb 0,.v (.zi i64)],[],[.var (.zi i64)]⟩,1,fun x=>bE x.1 x.2.1 x.2.2⟩:=Vy (fun k8 x=>bc (fun y0 y1 y2=>k8 (y0,y1,y2)) x.1 x.2.1 x.2.2) (fun x=>rfl) (fun k8 oF=>Pq k8 oF)
def t96:=t95.s z5B
theorem z4k:zT Pz 34 ⟨[.ty .expr],[.bool],fun x=>pI x⟩:=wZ t96 (rz [1]) hN Tryz.func34 [] zB
def t97:=t96.d z4k
def h14:Hints:=Hz [] [(0,5,.ways [⟨.normal,⟨[Mb 31,.v (.zi .expr),.v (.zi z7),.v (.zi .expr)],[],[.var (.zi .expr),.var (.zi z7),.var (.zi .expr)]⟩⟩])] []
theorem z3C:zT Pz 14 ⟨[.ty .str],[.expr,i64,i64],fun x=>bS x⟩:=wZ t97 rn h14 Tryz.func14 [] zB
def t98:=t97.d z3C
def F0:zZ:=Lz [] [] ⟨[.v (.zi zb)],[(0,.ptr 0 0)],[.var (.zi zb)]⟩ [⟨.exit 0,⟨[.v (.zi zb)],[],[.var (.zi zb)]⟩⟩] fun p s=>xE  s
def OZ:Hints:=Hz [(0,F0)] [(0,0,.flat [Mb 23])] []
theorem Ph:LO Tryz.f36 F0 0:=lk t98 rn OZ [] zB
theorem z3V:xB Pz 36 ⟨[.ptr],⟨[.v (.zi zb)],[(0,.ptr 0 0)],[.var (.zi zb)]⟩,[],⟨[.v (.zi zb)],[],[.var (.zi zb)]⟩,0,fun x=>xI x⟩:=X4 t98 rn OZ Tryz.func36 [0] (qq rfl Ph zB)
def t99:=t98.s z3V
def h75:Hints:=Hz [] [(0,2,.flat [Mb 21])] []
theorem z3K:xB Pz 75 ⟨[.ptr],⟨[.v (.zi zb)],[(0,.ptr 0 0)],[.var (.zi zb)]⟩,[],⟨[Mm 0 (.int .u8),.v (.zi zb)],[],[.var (.zi zb)]⟩,1,fun x=>xA x⟩:=X4 t99 rn h75 Tryz.func75 [] zB
def t100:=t99.s z3K
theorem z4Z:xB Pz 37 ⟨[.ptr,.any],⟨[Mi 1,.v (.zi zb)],[(0,.ptr 0 0)],[.var (.zi zb)]⟩,[],⟨[Mm 0 .expr,.v (.zi zb)],[],[.var (.zi zb)]⟩,1,fun x=>qJ x.1 x.2⟩:=X4 t100 rn hN Tryz.func37 [] zB
def t101:=t100.s z4Z
theorem z0H:xB Pz 193 ⟨[.ptr],⟨[.v (.zi zb)],[(0,.ptr 0 0)],[.var (.zi zb)]⟩,[],⟨[Mb 0,.v (.zi zb)],[],[.var (.zi zb)]⟩,1,fun x=>wz x⟩:=X4 t101 rn hN Tryz.func193 [] zB
def t102:=t101.s z0H
def z50:Hints:=Hz [] [(0,2,.flat [Mb 36])] []
theorem z14:xB Pz 194 ⟨[.ptr,.any],⟨[Mm 1 (.int .u8),.v (.zi zb)],[(0,.ptr 0 0)],[.var (.zi zb)]⟩,[],⟨[Mb 0,.v (.zi zb)],[],[.var (.zi zb)]⟩,1,fun x=>ue x.1 x.2⟩:=X4 t102 rn z50 Tryz.func194 [] zB
def t103:=t102.s z14
def BH:zZ:=Lz [] [] ⟨[Mi 3,.v (.zi zb)],[(0,.ptr 0 0)],[.var (.zi zb)]⟩ [⟨.exit 0,⟨[Mi 3,.v (.zi zb)],[],[.var (.zi zb)]⟩⟩] fun p s=>xG  s
def TU:Hints:=Hz [(0,BH)] [(0,2,.ways [⟨.normal,⟨[Mb 25,.v (.zi zb)],[],[.var (.zi zb)]⟩⟩])] []
theorem MU:LO Tryz.f222 BH 0:=lk t103 rn TU [] zB
theorem z0a:xB Pz 222 ⟨[.ptr],⟨[.v (.zi zb)],[(0,.ptr 0 0)],[.var (.zi zb)]⟩,[],⟨[Mi 0,.v (.zi zb)],[],[.var (.zi zb)]⟩,1,fun x=>wu x⟩:=X4 t103 rn TU Tryz.func222 [0] (qq rfl MU zB)
def t104:=t103.s z0a
theorem z19:zT Pz 154 ⟨[.ty .bool,.ty (.sl u32),.ty (.sl u32)],[xN],fun x=>ga x.1 x.2.1 x.2.2⟩:=wZ t104 rn hN Tryz.func154 [] zB
def t105:=t104.d z19
def z56:Hints:=Hz [] [(3,2,.flat [Mm 3 (.int .u64)])] []
theorem Ti:zT Pz 151 ⟨[.ty i64],[xN],fun x=>jN x⟩:=wZ t105 rn z56 Tryz.func151 [] zB
def t106:=t105.d Ti
def HZ:zZ:=Lz [] [Ms 0] ⟨[Mi 3],[],[]⟩ [⟨.exit 0,⟨[Mi 3],[],[]⟩⟩] fun p s=>cA p s
def z0c:Hints:=Hz [(0,HZ)] [(0,2,.flat [Mb 19])] []
theorem Lw:LO Tryz.f152 HZ 0:=lk t106 rn z0c [] zB
theorem z2d:zT Pz 152 ⟨[.ty .str],[i64],fun x=>bW x⟩:=wZ t106 rn z0c Tryz.func152 [0] (qq rfl Lw zB)
def t107:=t106.d z2d
def Bc:zZ:=Lz [] [Ms 0] ⟨[Mm 4 (.sl u32),Mi 5],[],[]⟩ [⟨.exit 0,⟨[Mm 4 (.sl u32)],[],[]⟩⟩,⟨.ret,⟨[Mb 3],[(2,.xb)],[]⟩⟩] fun p s=>gm p s
def z2f:Hints:=Hz [(0,Bc)] [(0,1,.flat [Mb 13]),(0,7,.flat [Mb 29])] []
theorem Mp:LO Tryz.f153 Bc 0:=lk t107 rn z2f [] zB
theorem z1i:zT Pz 153 ⟨[.ty .str],[(.sl u32),.bool],fun x=>ki x⟩:=wZ t107 rn z2f Tryz.func153 [0] (qq rfl Mp zB)
def t108:=t107.d z1i
def Bq:zZ:=Lz [] [Mi 0] ⟨[Mm 3 (.sl u32),Mi 4],[],[]⟩ [⟨.exit 0,⟨[Mm 3 (.sl u32)],[],[]⟩⟩] fun p s=>gE p s
def z1u:Hints:=Hz [(0,Bq)] [] []
theorem Mk:LO Tryz.f155 Bq 0:=lk t108 rn z1u [] zB
theorem z0M:zT Pz 155 ⟨[.ty i64],[(.sl u32)],fun x=>lT x⟩:=wZ t108 rn z1u Tryz.func155 [0] (qq rfl Mk zB)
def t109:=t108.d z0M
def h89:Hints:=Hz [] [(0,3,.flat [Mb 4]),(3,4,.flat [Ms 0]),(0,14,.flat [Mb 71])] []
theorem z5j:zT Pz 89 ⟨[.ty .str],[xN,i64],fun x=>cd x⟩:=wZ t109 rn h89 Tryz.func89 [] zB
def t110:=t109.d z5j
def z5L:Hints:=Hz [] [(0,3,.flat [Mb 33]),(3,3,.ways [⟨.normal,⟨[.v (.zi zb),.v (.zi .expr)],[],[.var (.zi zb),.var (.zi .expr)]⟩⟩,⟨.ret,⟨[.v (.zi zb),.v (.zi .expr)],[],[.var (.zi zb),.var (.zi .expr)]⟩⟩]),(0,8,.ways [⟨.normal,⟨[.v (.zi zb),.v (.zi .expr),.v (.zi xN)],[],[.var (.zi zb),.var (.zi .expr),.var (.zi xN)]⟩⟩])] []
theorem Sx:xB Pz 195 ⟨[.ptr],⟨[.v (.zi zb)],[(0,.ptr 0 0)],[.var (.zi zb)]⟩,[],⟨[Mm 0 .expr,.v (.zi zb)],[],[.var (.zi zb)]⟩,1,fun x=>vv x⟩:=X4 t110 rn z5L Tryz.func195 [] zB
def t111:=t110.s Sx
def He:zZ:=Lz [] [Mi 3] ⟨[.v (.zi zb),.v (.zi .expr)],[(0,.ptr 0 0),(2,.ptr 1 0)],[.var (.zi zb),.var (.zi .expr)]⟩ [⟨.exit 0,⟨[.v (.zi zb),.v (.zi .expr)],[],[.var (.zi zb),.var (.zi .expr)]⟩⟩,⟨.ret,⟨[.v (.zi zb),.v (.zi .expr)],[],[.var (.zi zb),.var (.zi .expr)]⟩⟩] fun p s=>xo p s
def z09:Hints:=Hz [(0,He)] [(0,2,.ways [⟨.normal,⟨[Mb 53,.v (.zi zb),.v (.zi .expr)],[],[.var (.zi zb),.var (.zi .expr)]⟩⟩])] []
theorem MG:LO Tryz.f196 He 0:=lk t111 rn z09 [] zB
theorem z2m:xB Pz 196 ⟨[.ptr],⟨[.v (.zi zb)],[(0,.ptr 0 0)],[.var (.zi zb)]⟩,[],⟨[Mm 0 .expr,.v (.zi zb)],[],[.var (.zi zb)]⟩,1,fun x=>uc x⟩:=X4 t111 rn z09 Tryz.func196 [0] (qq rfl MG zB)
def t112:=t111.s z2m
abbrev z1y:=yx.den ⟨[.v (.zi zb)],[(0,.ptr 0 0)],[.var (.zi zb)]⟩→T (yx.den ⟨[Mm 0 .expr,.v (.zi zb)],[],[.var (.zi zb)]⟩)
abbrev z5Z(F:z1y):=xB Pz 133 ⟨[.ptr],⟨[.v (.zi zb)],[(0,.ptr 0 0)],[.var (.zi zb)]⟩,[],⟨[Mm 0 .expr,.v (.zi zb)],[],[.var (.zi zb)]⟩,1,F⟩
abbrev DJ:=yx.den ⟨[.v (.zi zb)],[(0,.ptr 0 0)],[.var (.zi zb)]⟩→T (yx.den ⟨[Mm 0 .expr,.v (.zi zb)],[],[.var (.zi zb)]⟩)
abbrev Oi(F:DJ):=xB Pz 35 ⟨[.ptr],⟨[.v (.zi zb)],[(0,.ptr 0 0)],[.var (.zi zb)]⟩,[],⟨[Mm 0 .expr,.v (.zi zb)],[],[.var (.zi zb)]⟩,1,F⟩
theorem NP(W9:z1y)(FI:z5Z W9)(vt:DJ)(fP:Oi vt):xB Pz 133 ⟨[.ptr],⟨[.v (.zi zb)],[(0,.ptr 0 0)],[.var (.zi zb)]⟩,[],⟨[Mm 0 .expr,.v (.zi zb)],[],[.var (.zi zb)]⟩,1,fun x=>xM (fun y0=>W9 (y0)) (fun y0=>vt (y0)) x⟩:=X4 ((t112.s fP).s FI) rn hN Tryz.func133 [] zB
theorem z0o(vt:DJ)(fP:Oi vt):xB Pz 133 ⟨[.ptr],⟨[.v (.zi zb)],[(0,.ptr 0 0)],[.var (.zi zb)]⟩,[],⟨[Mm 0 .expr,.v (.zi zb)],[],[.var (.zi zb)]⟩,1,fun x=>qE (fun y0=>vt (y0)) x⟩:=Vy (fun W9 x=>xM (fun y0=>W9 (y0)) (fun y0=>vt (y0)) x) (fun x=>rfl) (fun W9 FI=>NP W9 FI vt fP)
theorem z4p:zT Pz 76 ⟨[.ty i64,.ty .expr,.ty .expr],[.expr],fun x=>bJ x.1 x.2.1 x.2.2⟩:=wZ t112 (rz [4,5]) hN Tryz.func76 [] zB
def t113:=t112.d z4p
def T74(vt:DJ)(fP:Oi vt):Tb:=t113.s (z0o _ fP)
def F7(vt:DJ):zZ:=Lz [] [] ⟨[.v (.zi zb),.v (.zi .expr),.v (.zi .expr)],[(0,.ptr 0 0),(2,.ptr 1 0),(3,.ptr 2 0)],[.var (.zi zb),.var (.zi .expr),.var (.zi .expr)]⟩ [⟨.ret,⟨[.v (.zi zb),.v (.zi .expr),.v (.zi .expr)],[],[.var (.zi zb),.var (.zi .expr),.var (.zi .expr)]⟩⟩] fun p s=>jO (fun y0=>vt (y0))  s
def h74(vt:DJ):Hints:=Hz [(0,F7 vt)] [] []
theorem Ry(vt:DJ)(fP:Oi vt):LO Tryz.f74 (F7 vt) 0:=lk (T74 vt fP) rn (h74 vt) [] zB
theorem z4T(vt:DJ)(fP:Oi vt):xB Pz 74 ⟨[.ptr],⟨[.v (.zi zb)],[(0,.ptr 0 0)],[.var (.zi zb)]⟩,[],⟨[Mm 0 .expr,.v (.zi zb)],[],[.var (.zi zb)]⟩,1,fun x=>qA (fun y0=>vt (y0)) x⟩:=X4 (T74 vt fP) rn (h74 vt) Tryz.func74 [0] (qq rfl (Ry vt fP) zB)
def T35(vt:DJ)(fP:Oi vt):Tb:=t113.s (z4T _ fP)
def EC(vt:DJ):zZ:=Lz [] [] ⟨[.v (.zi zb),.v (.zi .expr),.v (.zi .expr)],[(0,.ptr 0 0),(2,.ptr 1 0),(3,.ptr 2 0)],[.var (.zi zb),.var (.zi .expr),.var (.zi .expr)]⟩ [⟨.ret,⟨[.v (.zi zb),.v (.zi .expr),.v (.zi .expr)],[],[.var (.zi zb),.var (.zi .expr),.var (.zi .expr)]⟩⟩] fun p s=>gK (fun y0=>vt (y0))  s
def h35(vt:DJ):Hints:=Hz [(0,EC vt)] [] []
theorem Ps(vt:DJ)(fP:Oi vt):LO Tryz.f35 (EC vt) 0:=lk (T35 vt fP) rn (h35 vt) [] zB
theorem Rx(vt:DJ)(fP:Oi vt):xB Pz 35 ⟨[.ptr],⟨[.v (.zi zb)],[(0,.ptr 0 0)],[.var (.zi zb)]⟩,[],⟨[Mm 0 .expr,.v (.zi zb)],[],[.var (.zi zb)]⟩,1,fun x=>vS (fun y0=>vt (y0)) x⟩:=X4 (T35 vt fP) rn (h35 vt) Tryz.func35 [0] (qq rfl (Ps vt fP) zB)
theorem z3t:xB Pz 35 ⟨[.ptr],⟨[.v (.zi zb)],[(0,.ptr 0 0)],[.var (.zi zb)]⟩,[],⟨[Mm 0 .expr,.v (.zi zb)],[],[.var (.zi zb)]⟩,1,fun x=>wE x⟩:=Vy (fun vt x=>vS (fun y0=>vt (y0)) x) (fun x=>rfl) (fun vt fP=>Rx vt fP)
def t114:=t113.s z3t
def h15:Hints:=Hz [] [(0,4,.flat [Mb 27]),(3,4,.ways [⟨.normal,⟨[.v (.zi .expr),.v (.zi zb),.v (.zi .expr)],[],[.var (.zi .expr),.var (.zi zb),.var (.zi .expr)]⟩⟩]),(0,8,.ways [⟨.normal,⟨[Mb 52,.v (.zi .expr),.v (.zi zb),.v (.zi .expr)],[],[.var (.zi .expr),.var (.zi zb),.var (.zi .expr)]⟩⟩])] []
theorem z43:zT Pz 15 ⟨[.ty .str],[.expr,i64,i64],fun x=>yI x⟩:=wZ t114 rn h15 Tryz.func15 [] zB
def t115:=t114.d z43
def z45:Hints:=Hz [] [(3,2,.flat [Mb 5]),(3,5,.flat [Mb 8])] []
theorem z29:zT Pz 136 ⟨[.ty .expr],[i64],fun x=>yV x⟩:=wZ t115 (rz [1]) z45 Tryz.func136 [] zB
def t116:=t115.d z29
abbrev Y77:=uX [.ty .expr]→T (Uj [.str])
abbrev H77(F:Y77):=zT Pz 77 ⟨[.ty .expr],[.str],F⟩
theorem SY(ZO:Y77)(Ei:H77 ZO):zT Pz 135 ⟨[.ty .expr,.ty i64],[.str],fun x=>kN (fun y0=>ZO (y0)) x.1 x.2⟩:=wZ (t116.d Ei) (rz [2]) hN Tryz.func135 [] zB
def h77(ZO:Y77):Hints:=Hz [] [(3,2,.ways [⟨.normal,⟨[Ms 3],[],[]⟩⟩,⟨.ret,⟨[Ms 2],[],[]⟩⟩])] []
theorem RG(ZO:Y77)(Ei:H77 ZO):zT Pz 77 ⟨[.ty .expr],[.str],fun x=>b0 (fun y0=>ZO (y0)) x⟩:=wZ (t116.d (SY _ Ei)) (rz [1]) (h77 ZO) Tryz.func77 [] zB
theorem z4n:zT Pz 77 ⟨[.ty .expr],[.str],fun x=>eL x⟩:=rO (fun ZO x=>b0 (fun y0=>ZO (y0)) x) (fun x=>rfl) (fun ZO Ei=>RG ZO Ei)
def t117:=t116.d z4n
theorem z4c:zT Pz 38 ⟨[.ty .expr],[.str],fun x=>eR x⟩:=wZ t117 (rz [1]) hN Tryz.func38 [] zB
def t118:=t117.d z4c
theorem z3w:zT Pz 16 ⟨[],[.bool],fun _=>ca⟩:=wZ t118 rn hN Tryz.func16 [] zB
def t119:=t118.d z3w
theorem z4Q:zT Pz 39 ⟨[.ty xN,.ty xN],[.bool],fun x=>bg x.1 x.2⟩:=wZ t119 (rz [2,3]) hN Tryz.func39 [] zB
def t120:=t119.d z4Q
abbrev Su:=uX [.ty .expr,.ty .expr]→T (Uj [.bool])
abbrev H17(F:Su):=zT Pz 17 ⟨[.ty .expr,.ty .expr],[.bool],F⟩
def T17(dR:Su)(Js:H17 dR):Tb:=t120.d Js
def IK(dR:Su):zZ:=Lz [] [Mr 2 .expr,Mr 3 .expr] ⟨[Mi 5],[],[]⟩ [⟨.exit 0,⟨[],[],[]⟩⟩,⟨.ret,⟨[Mb 4],[],[]⟩⟩] fun p s=>kT (fun y0 y1=>dR (y0,y1)) p.1 p.2 s
def h17(dR:Su):Hints:=Hz [(0,IK dR)] [(0,1,.ways [⟨.normal,⟨[Mb 34],[],[]⟩⟩])] []
theorem PV(dR:Su)(Js:H17 dR):LO Tryz.f17 (IK dR) 0:=lk (T17 dR Js) (rz [2,3]) (h17 dR) [] zB
theorem PC(dR:Su)(Js:H17 dR):zT Pz 17 ⟨[.ty .expr,.ty .expr],[.bool],fun x=>cO (fun y0 y1=>dR (y0,y1)) x.1 x.2⟩:=wZ (T17 dR Js) (rz [2,3]) (h17 dR) Tryz.func17 [0] (qq rfl (PV dR Js) zB)
theorem z4C:zT Pz 17 ⟨[.ty .expr,.ty .expr],[.bool],fun x=>mq x.1 x.2⟩:=rO (fun dR x=>cO (fun y0 y1=>dR (y0,y1)) x.1 x.2) (fun x=>rfl) (fun dR Js=>PC dR Js)
def t121:=t120.d z4C
def OT:zZ:=Lz [] [Mi 2,Mr 3 .expr,Mr 4 .expr] ⟨[Ms 7,Mi 8],[],[]⟩ [⟨.exit 0,⟨[Ms 7],[],[]⟩⟩] fun p s=>ud p.1 p.2.1 p.2.2 s
def h3:Hints:=Hz [(0,OT)] [(0,1,.ways [⟨.normal,⟨[Mb 42],[],[]⟩⟩]),(0,11,.ways [⟨.normal,⟨[Mb 90,.v (.zi .expr),.v (.zi .expr)],[],[.var (.zi .expr),.var (.zi .expr)]⟩⟩])] []
theorem z1F:LO Tryz.f3 OT 0:=lk t121 (rz [3,4]) h3 [] zB
theorem ok3:zT Pz 3 ⟨[.ty .expr,.ty .expr,.ty i64],[.bool],fun x=>jQ x.1 x.2.1 x.2.2⟩:=wZ t121 (rz [3,4]) h3 Tryz.func3 [0] (qq rfl z1F zB)
def t122:=t121.d ok3
end Go.AM.Lf
