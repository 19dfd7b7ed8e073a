/-
  The walk, part 0: each function of the program is the tree that the lifted text says; printed by a program of ours.
-/
import Derived.Test.YthhgaidlooddpaaGreatDoorProg
import Derived.KernelRfl
import Derived.Test.YthhgaidlooddpaaGreatDoorAmE
import Derived.Test.YthhgaidlooddpaaGreatDoorLf0
import Derived.Lib.Builder
import Derived.Shelf.Strings.Builder1
import Derived.WalkKit
import Derived.TacticsInMore
import Derived.Shelf.Strings.FieldsFuncAny
import Derived.Test.YthhgaidlooddpaaGreatDoorSh
set_option linter.unusedVariables false
set_option maxRecDepth 100000
noncomputable section
namespace Go.AM.Lf
open Go.Proofs
abbrev Dc:Nat:=50
abbrev Pz:Program:=Tryz.prog
def wJ(f:Func):Code:=match f.body with | some c=>c | none=>.skip
def lb(k:Nat)(f:Func):Code:=match rK k (wJ f)with | some c=>c | none=>.skip
theorem mixed:Pz.follows .mixedOrders=true:=by kernel_rfl
instance:vz:={ u8:=5,tab:=[(4,GP .u64 Lib.pow10Tab),(0,KR .i64)] }
theorem yy{κ:KS}(hI:Inv κ):Lib.TabIs Tryz.prog κ.w "internal/strconv.uint64pow10" .u64 Lib.pow10Tab :=
 z3V (g:=4) (by kernel_rfl) (hI.gl (4,GP .u64 Lib.pow10Tab) (by simp[vz.tab])).2
theorem wI{κ:KS}(hI:Inv κ):∃ m,κ.w.cell? ⟨0,0,none⟩=some (.int .i64 m) :=
 Ls (hI.gl (0,KR .i64) (by simp[vz.tab])).2
structure Tb where
 t:c8
 ok:kM Pz t
def Tb.d(T:Tb){g:Nat}{d:G0}(h:zG Pz g d):Tb:=⟨(g,.d d)::T.t,Dp h T.ok⟩
def Tb.s(T:Tb){g:Nat}{d:jD}(h:xN Pz g d):Tb:=⟨(g,.s d)::T.t,HO h T.ok⟩
def Tb.p(T:Tb){g:Nat}{d:eA}(h:jV Pz g d):Tb:=⟨(g,.p d)::T.t,Hr h T.ok⟩
def t0:Tb:=⟨[],Im _⟩
def fL:List (Nat×zU)->Nat->Option zU
 | [],_=>none
 | x::r,n=>bif Nat.beq x.1 n then some x.2 else fL r n
def fC:List (Nat×Nat×TM)->Nat->Nat->Option TM
 | [],_,_=>none
 | x::r,k,n=>bif Nat.beq x.1 k&&Nat.beq x.2.1 n then some x.2.2 else fC r k n
def fF:List (Nat×List Nat)->Nat->List Nat
 | [],_=>[]
 | x::r,n=>bif Nat.beq x.1 n then x.2 else fF r n
def Hz(l:List (Nat×zU))(c:List (Nat×Nat×TM))(f:List (Nat×List Nat)):Hints:=⟨fL l,fC c,fF f⟩
def hN:Hints:=Hz [] [] []
def rz(l:List Nat)(s:Nat):Bool:=l.any (Nat.beq s)
def rn(_:Nat):Bool:=false
def Lz(gh:List Gh)(ps:List It)(sh:vH)(ws:List Way)(R:wC ps->sh.den->T (sh.den⊕yL ws)):zU:=⟨gh,ps,sh,ws,λp s=>T.loop (R p) s⟩
abbrev LO(f:Func)(l:zU)(i:Nat):Prop:=Za Pz f.ntmps l (lb i f)
def ls(f:Func):List Nat->List (Nat×Code)
 | []=>[]
 | i::r=>(i,lb i f)::ls f r
abbrev Mi(n:Nat):It:=.s n (.zD i64)
abbrev Mb(n:Nat):It:=.s n (.zD .bool)
abbrev Ms(n:Nat):It:=.s n (.zD .str)
abbrev Mm(n:Nat)(t:Ty):It:=.s n (.zD t)
abbrev Mr(n:Nat)(t:Ty):It:=.s n (.qN t)
abbrev Sh0(l:List It):vH:=⟨l,[],[]⟩
theorem lk{f:Func}{i:Nat}{gh:List Gh}{ps:List It}{sh:vH}{ws:List Way}{R:wC ps->sh.den->T (sh.den⊕yL ws)}(T:Tb)(ro:Nat->Bool)(H:Hints)(L:List Nat)(ha:Kd Pz f.ntmps H (ls f L))
  (h:∀ p s,N5 (vJ Pz Dc T.t ro) T.t f.ntmps H (Lz gh ps sh ws R) (lb i f) p s=R p s:=by intro p s; kernel_rfl) (hl:xh (lb i f)=ls f L:=by kernel_rfl):LO f (Lz gh ps sh ws R) i :=
 TL (xid:=Dc) (ro:=ro) (H:=H) mixed T.ok (sW hl ha) R h λ_ _=>rfl
theorem xy{f:Nat}{fn:Func}{d:G0}(T:Tb)(ro:Nat->Bool)(H:Hints)(hf:Pz.funcs[f]? = some fn)(L:List Nat)(ha:Kd Pz fn.ntmps H (ls fn L))
  (h:∀ x,Rd (vJ Pz Dc T.t ro) T.t H fn (wJ fn) d x=d.F x:=by intro x; kernel_rfl) (hb:fn.body=some (wJ fn):=by rfl) (hn:(fn.name == "runtime.NumGoroutine")=false:=by kernel_rfl) (hl:xh (wJ fn)=ls fn L:=by kernel_rfl):zG Pz f d :=
 z8z (xid:=Dc) (ro:=ro) (H:=H) mixed T.ok hf hb hn (sW hl ha) h
theorem J0{f:Nat}{fn:Func}{d:jD}(T:Tb)(ro:Nat->Bool)(H:Hints)(hf:Pz.funcs[f]? = some fn)(L:List Nat)(ha:Kd Pz fn.ntmps H (ls fn L))
  (h:∀ x,BL (vJ Pz Dc T.t ro) T.t H fn (wJ fn) d x=d.F x:=by intro x; kernel_rfl) (hb:fn.body=some (wJ fn):=by rfl) (hn:(fn.name == "runtime.NumGoroutine")=false:=by kernel_rfl) (hl:xh (wJ fn)=ls fn L:=by kernel_rfl):xN Pz f d :=
 z47 (xid:=Dc) (ro:=ro) (H:=H) mixed T.ok hf hb hn (sW hl ha) h
def hdB(c:Code):Code:=match c with | .seq _ b=>b | _=>.skip
def hdO(c:Code):Array Oper:=match c with | .seq (.region _ ops _) _=>ops | _ => #[]
def hdI(c:Code):Nat:=match c with | .seq (.region id _ _) _=>id | _=>0
theorem fkr{f:Nat}{fn:Func}{d:jD}(T:Tb)(ro:Nat->Bool)(H:Hints)(hf:Pz.funcs[f]? = some fn)
  (h:∀ x,evH (vJ Pz Dc T.t ro) T.t H fn (hdO (wJ fn)) (hdB (wJ fn)) d d.ks.length none x=d.F x:=by intro x; kernel_rfl) (hb:fn.body=some (.seq (.region (hdI (wJ fn)) (hdO (wJ fn)) false) (hdB (wJ fn))):=by kernel_rfl) (hn:(fn.name == "runtime.NumGoroutine")=false:=by kernel_rfl) (hl:xh (hdB (wJ fn))=[]:=by kernel_rfl):yb (Mj Pz) f d :=
 Tk (xid:=Dc) (ro:=ro) (H:=H) mixed T.ok hf hb hn (Xj hl) h
theorem fkh{f t:Nat}{fn:Func}{d:jD}(T:Tb)(ro:Nat->Bool)(H:Hints)(hf:Pz.funcs[f]? = some fn)(k:Nat)
  (h:∀ x,evH (vJ Pz Dc T.t ro) T.t H fn (hdO (wJ fn)) (hdB (wJ fn)) d k (some t) x=d.F x:=by intro x; kernel_rfl) (hk:d.ks.length=k+1:=by kernel_rfl) (hb:fn.body=some (.seq (.region (hdI (wJ fn)) (hdO (wJ fn)) false) (hdB (wJ fn))):=by kernel_rfl) (hn:(fn.name == "runtime.NumGoroutine")=false:=by kernel_rfl) (hl:xh (hdB (wJ fn))=[]:=by kernel_rfl):yb (Ml Pz t) f d :=
 TW (xid:=Dc) (ro:=ro) (H:=H) mixed T.ok hf hb hn (Xj hl) hk h
theorem zee{g:Nat}{d:jD}(_:yb (Mj Pz) g d):yb (Ml Pz 0) g { d with F:=λ_=>.fail }:=λ_ _ _ _ _ hy=>hy.elim
theorem fkf{f g pt:Nat}{fn:Func}{d d0 d1:jD}(T:Tb)(ro:Nat->Bool)(H:Hints)(h0:yb (Mj Pz) g d0)(h1:yb (Ml Pz pt) g d1)(hf:Pz.funcs[f]? = some fn)
  (h:∀ x,NL (vJ Pz Dc T.t ro) T.t H ⟨g,d0,pt,d1⟩ fn (wJ fn) d x=d.F x:=by intro x; kernel_rfl) (hb:fn.body=some (wJ fn):=by rfl) (hn:(fn.name == "runtime.NumGoroutine")=false:=by kernel_rfl) (hl:xh (wJ fn)=[]:=by kernel_rfl):xN Pz f d :=
 z2P (xid:=Dc) (ro:=ro) (H:=H) mixed T.ok (h:=⟨g,d0,pt,d1⟩) h0 h1 hf hb hn hl h
theorem fkp{f:Nat}{fn:Func}{d:eA}(T:Tb)(ro:Nat->Bool)(H:Hints)(hf:Pz.funcs[f]? = some fn)(L:List Nat)(ha:Kd Pz fn.ntmps H (ls fn L))
  (h:∀ x,CW (vJ Pz Dc T.t ro) T.t H fn (wJ fn) d x=d.F x:=by intro x; kernel_rfl) (hb:fn.body=some (wJ fn):=by rfl) (hn:(fn.name == "runtime.NumGoroutine")=false:=by kernel_rfl) (hl:xh (wJ fn)=ls fn L:=by kernel_rfl):jV Pz f d :=
 z3I (xid:=Dc) (ro:=ro) (H:=H) mixed T.ok hf hb hn (sW hl ha) h
abbrev rO:Dk:=.st [.row 1 zJ,.row 2 zP,.row 3 zV,.row 4 zL,.row 5 qf,.row 6 zX]
abbrev Ui:List Bk:=[.var rO,.arr zJ,.arr zP,.arr zV,.arr zL,.arr qf,.arr zX]
abbrev s9:List Bk:=[.var (.zD zI)]
abbrev QN:Dk:=.st [.op 0 111,.row 1 (.int .u8)]
abbrev tx:vH:=⟨[Mm 0 xk,.v (.zD zI)],[],s9⟩
abbrev p7:vH:=⟨[.v (.zD zI)],[(0,.ptr 0 0)],s9⟩
abbrev QV:vH:=⟨[Mm 0 .expr,.v (.zD zI)],[],s9⟩
abbrev yw:List Bk:=[.arr u32]
abbrev RE:Dk:=.st [.row 7 zJ,.row 9 zP,.row 11 zV,.row 13 zL,.row 5 qf,.row 3 zX]
abbrev Wn:List Bk:=[.var QN,.arr (.int .u8)]
abbrev EM:List Bk:=[.var (.zD zI),.var (.zD .expr),.var (.zD .expr)]
abbrev F4:vH:=⟨[Mm 1 (.sl .str),.v rO,.a zJ,.a zP,.a zV,.a zL,.a qf,.a zX],[(0,.ptr 0 0)],Ui⟩
abbrev rf:Way:=⟨.ret,⟨[Mb 2],[],[]⟩⟩
abbrev tc:vH:=⟨[Mi 3],[],[]⟩
abbrev FE:vH:=⟨[Mm 0 .expr,Mi 1,.v (.zD i64)],[(2,.ptr 0 0)],[.var (.zD i64)]⟩
abbrev ez:Way:=⟨.exit 0,⟨[],[],[]⟩⟩
abbrev EJ:vH:=⟨[Mb 0,.v rO,.a zJ,.a zP,.a zV,.a zL,.a qf,.a zX],[],Ui⟩
abbrev Rm:Dk:=.st [.row 6 zJ,.row 8 zP,.row 10 zV,.row 12 zL,.row 4 qf,.row 2 zX]
abbrev Wt:Way:=⟨.ret,⟨[Mi 4],[],[]⟩⟩
abbrev z1T:Way:=⟨.normal,⟨[Mm 1 (.sl .str),.v rO,.a zJ,.a zP,.a zV,.a zL,.a qf,.a zX,.v (.zD zL)],[],[.var rO,.arr zJ,.arr zP,.arr zV,.arr zL,.arr qf,.arr zX,.var (.zD zL)]⟩⟩
abbrev Qo:vH:=⟨[.v QN,.a (.int .u8)],[],Wn⟩
abbrev DW:vH:=⟨[Mb 0,.v (.zD i64)],[],[.var (.zD i64)]⟩
abbrev Px:vH:=⟨[Mi 0,.v rO,.a zJ,.a zP,.a zV,.a zL,.a qf,.a zX],[],Ui⟩
abbrev PN:vH:=⟨[Mm 0 xk,.v (.zD zI),.v (.zD .expr),.v (.zD .expr)],[],EM⟩
abbrev PV:List Bk:=[.var (.zD .expr),.var (.zD i64),.var (.zD i64)]
abbrev Gq:vH:=⟨[Ms 0],[],[]⟩
abbrev Ed:vH:=⟨[.v (.zD zI)],[],s9⟩
abbrev z1Y:List Bk:=[.var Rm,.var RE,.arr zX,.arr zX,.arr qf,.arr qf,.arr zJ,.arr zJ,.arr zP,.arr zP,.arr zV,.arr zV,.arr zL,.arr zL]
abbrev UM:vH:=⟨[Mi 8],[],[]⟩
abbrev WR:vH:=⟨[Ms 3],[],[]⟩
abbrev z1z:vH:=⟨[.a u32],[(5,.cur 0 u32)],yw⟩
abbrev z1J:vH:=⟨[Mm 0 (.sl .expr),.s 1 (.mclo 183 [.rp i64,.pt 0]),.v (.zD i64)],[],[.cvar (.ptr 1 0),.var (.zD i64)]⟩
abbrev MZ:vH:=⟨[.v (.zD zI),.v (.zD .expr),.v (.zD .expr)],[],EM⟩
abbrev z1F:vH:=⟨[Mm 1 (.sl .str),Ms 2,.v rO,.a zJ,.a zP,.a zV,.a zL,.a qf,.a zX],[(0,.ptr 0 0)],Ui⟩
abbrev OC:Way:=⟨.exit 0,⟨[.a u32],[(7,.cur 0 u32)],yw⟩⟩
abbrev Fk:List Bk:=[.var (.zD zI),.var (.zD .expr)]
abbrev Wb:List Bk:=[.arr (.int .u8)]
abbrev z1W:Way:=⟨.normal,⟨[Mb 16,.v rO,.a zJ,.a zP,.a zV,.a zL,.a qf,.a zX],[],Ui⟩⟩
abbrev PT:vH:=⟨[Mi 3,Mi 4],[],[]⟩
abbrev Oo:vH:=⟨[Mi 3,Mi 9],[],[]⟩
abbrev FO:vH:=⟨[Mi 5],[],[]⟩
abbrev Ib:List Bk:=[.var (.zD .expr),.var (.zD .expr)]
abbrev z1K:vH:=⟨[Mm 7 (.int .u64),Mi 8,.a u32],[(6,.cur 0 u32)],yw⟩
abbrev z1V:vH:=⟨[Mb 0,.v (.zD i64)],[],[.cvar (.ptr 1 0),.var (.zD i64)]⟩
abbrev z1Z:Way:=⟨.ret,⟨[Ms 2,Mb 3,.v (.zD vn)],[],[.var (.zD vn)]⟩⟩
abbrev z1D:vH:=⟨[Mm 14 (.sl u32),.a u32],[(13,.cur 0 u32)],yw⟩
abbrev Om:vH:=⟨[Mm 0 (.sl u32)],[],[]⟩
abbrev Rf:Way:=⟨.ret,⟨[Mb 4],[],[]⟩⟩
abbrev z1P:vH:=⟨[Mi 15,.a u32],[(7,.cur 0 u32)],yw⟩
abbrev z2A:vH:=⟨[.v (.zD .expr),.v (.zD i64),.v (.zD i64)],[],PV⟩
abbrev z2o:Way:=⟨.normal,⟨[Mb 44,.v (.zD zI)],[],s9⟩⟩
abbrev z1C:vH:=⟨[Mi 3,Mi 6],[],[]⟩
abbrev z1n:Way:=⟨.exit 0,⟨[.v (.zD vn)],[],[.var (.zD vn)]⟩⟩
abbrev Oq:vH:=⟨[Ms 5],[],[]⟩
abbrev z2v:vH:=⟨[Ms 0,.v (.zD zI)],[],s9⟩
abbrev z1k:vH:=⟨[.s 3 (.sub 0 (.int .u8)),.a (.int .u8)],[],Wb⟩
abbrev z2t:vH:=⟨[.a (.int .u8)],[(3,.cur 0 (.int .u8))],Wb⟩
abbrev z2n:vH:=⟨[.v QN,.a (.int .u8)],[(0,.ptr 0 0)],Wn⟩
abbrev EB:Way:=⟨.exit 0,Gq⟩
abbrev z2w:Way:=⟨.normal,⟨[Mb 17],[],[]⟩⟩
abbrev Wd:List AK:=[.ptr,.any]
abbrev Bb:vH:=⟨[],[],[]⟩
abbrev F8:List AK:=[.any,.any,.ptr]
abbrev Fu:List AK:=[.ptr,.any,.any]
abbrev Mu:Way:=⟨.exit 0,tc⟩
abbrev N9:Way:=⟨.exit 0,z1z⟩
abbrev PK:Way:=⟨.exit 0,Ed⟩
abbrev z1m:vH:=⟨[.a (.int .u8)],[],Wb⟩
abbrev Y29:=jX [.ty .expr,.ty i64]->T (YD [i64])
abbrev H29(F:Y29):=zG Pz 29 ⟨[.ty .expr,.ty i64],[i64],F⟩
def T29(fu:Y29)(H8:H29 fu):Tb:=t0.d H8
def OA(fu:Y29):zU:=Lz [] [Mr 2 .expr] ⟨[Mi 1,Mi 5],[],[]⟩ [⟨.exit 0,⟨[Mi 1],[],[]⟩⟩] λp s=>jb (λy0 y1=>fu (y0,y1)) p s
def h29(fu:Y29):Hints:=Hz [(0,OA fu)] [(0,3,.flat [Mb 32])] []
theorem z3o(fu:Y29)(H8:H29 fu):LO Tryz.f29 (OA fu) 0:=lk (T29 fu H8) (rz [2]) (h29 fu) [] zm
theorem z3R(fu:Y29)(H8:H29 fu):zG Pz 29 ⟨[.ty .expr,.ty i64],[i64],λx=>hJ (λy0 y1=>fu (y0,y1)) x.1 x.2⟩:=xy (T29 fu H8) (rz [2]) (h29 fu) Tryz.func29 [0] (zZ rfl (z3o fu H8) zm)
theorem zdA:zG Pz 29 ⟨[.ty .expr,.ty i64],[i64],λx=>jz x.1 x.2⟩:=Wx (λfu x=>hJ (λy0 y1=>fu (y0,y1)) x.1 x.2) (λx=>rfl) (λfu H8=>z3R fu H8)
def t1:=t0.d zdA
def O2:zU:=Lz [] [Mr 1 qg] PT [Mu] λp s=>kB p s
def NP:zU:=Lz [] [Mr 1 qg] ⟨[Mi 3,Mi 5],[],[]⟩ [⟨.exit 2,tc⟩] λp s=>kF p s
def O6:zU:=Lz [] [Mr 1 qg] z1C [⟨.exit 4,tc⟩] λp s=>ki p s
def Nn:zU:=Lz [] [Mr 1 qg] ⟨[Mi 3,Mi 7],[],[]⟩ [⟨.exit 6,tc⟩] λp s=>ko p s
def MJ:zU:=Lz [] [Mr 1 qg] ⟨[Mi 3,Mi 8],[],[]⟩ [⟨.exit 8,tc⟩] λp s=>kI p s
def DP:zU:=Lz [] [Mr 1 qg] Oo [⟨.exit 10,tc⟩] λp s=>kC p s
def h14:Hints:=Hz [(0,O2),(2,NP),(4,O6),(6,Nn),(8,MJ),(10,DP)] [(0,3,.flat [Mb 43]),(0,7,.flat [Mb 83]),(0,11,.flat [Mb 103]),(0,15,.flat [Mb 131]),(0,19,.flat [Mb 151]),(0,23,.flat [Mb 193])] []
theorem z4m:LO Tryz.f14 O2 0:=lk t1 (rz [1]) h14 [] zm
theorem z2G:LO Tryz.f14 NP 2:=lk t1 (rz [1]) h14 [] zm
theorem z4G:LO Tryz.f14 O6 4:=lk t1 (rz [1]) h14 [] zm
theorem z4p:LO Tryz.f14 Nn 6:=lk t1 (rz [1]) h14 [] zm
theorem z30:LO Tryz.f14 MJ 8:=lk t1 (rz [1]) h14 [] zm
theorem z0U:LO Tryz.f14 DP 10:=lk t1 (rz [1]) h14 [] zm
theorem zbv:zG Pz 14 ⟨[.ty qg],[.bool],λx=>du x⟩:=xy t1 (rz [1]) h14 Tryz.func14 [0,2,4,6,8,10] (zZ rfl z4m (zZ rfl z2G (zZ rfl z4G (zZ rfl z4p (zZ rfl z30 (zZ rfl z0U zm))))))
def t2:=t1.d zbv
def h67:Hints:=Hz [] [(0,1,.flat [Mb 2])] []
theorem zcO:zG Pz 67 ⟨[.ty (.int .u8)],[.bool],λx=>je x⟩:=xy t2 rn h67 Tryz.func67 [] zm
def t3:=t2.d zcO
def h68:Hints:=Hz [] [(0,1,.flat [Mb 2])] []
theorem zb1:zG Pz 68 ⟨[.ty (.int .u8)],[.bool],λx=>il x⟩:=xy t3 rn h68 Tryz.func68 [] zm
def t4:=t3.d zb1
def Po:zU:=Lz [] [Ms 0] tc [ez,rf] λp s=>jH p s
def h30:Hints:=Hz [(0,Po)] [(0,1,.ways [z2w]),(0,6,.ways [⟨.normal,⟨[Mb 41],[],[]⟩⟩])] []
theorem z3O:LO Tryz.f30 Po 0:=lk t4 rn h30 [] zm
theorem zdH:zG Pz 30 ⟨[.ty .str],[.bool],λx=>vF x⟩:=xy t4 rn h30 Tryz.func30 [0] (zZ rfl z3O zm)
def t5:=t4.d zdH
def Ft:zU:=Lz [] [Mm 0 (.sl u32)] tc [Mu] λp s=>yD p s
def z6h:Hints:=Hz [(0,Ft)] [(0,2,.flat [Mb 15])] []
theorem SU:LO Tryz.f125 Ft 0:=lk t5 rn z6h [] zm
theorem z6x:zG Pz 125 ⟨[.ty (.sl u32)],[(.sl u32)],λx=>qK x⟩:=xy t5 rn z6h Tryz.func125 [0] (zZ rfl SU zm)
def t6:=t5.d z6x
def Fi:zU:=Lz [] [Mm 4 (.sl u32)] ⟨[Mm 5 (.int .u64),Mi 6],[],[]⟩ [⟨.exit 0,⟨[Mm 5 (.int .u64)],[],[]⟩⟩] λp s=>cE p s
def z7i:Hints:=Hz [(0,Fi)] [] []
theorem S5:LO Tryz.f165 Fi 0:=lk t6 rn z7i [] zm
theorem z6e:zG Pz 165 ⟨[.ty (.sl u32)],[(.int .u64),.bool],λx=>tG x⟩:=xy t6 rn z7i Tryz.func165 [0] (zZ rfl S5 zm)
def t7:=t6.d z6e
theorem z8B:zG Pz 162 ⟨[.ty (.int .u64)],[(.sl u32)],λx=>oS x⟩:=xy t7 rn hN Tryz.func162 [] zm
def t8:=t7.d z8B
def FI:zU:=Lz [] [Mm 0 (.sl u32),Mm 1 (.int .u64)] z1K [⟨.exit 0,⟨[Mm 7 (.int .u64),.a u32],[(6,.cur 0 u32)],yw⟩⟩] λp s=>gW p.1 p.2 s
def z9U:Hints:=Hz [(0,FI)] [] [(9,[6])]
theorem SN:LO Tryz.f166 FI 0:=lk t8 rn z9U [] zm
theorem z7l:zG Pz 166 ⟨[.ty (.sl u32),.ty (.int .u64)],[(.sl u32),(.int .u64)],λx=>gI x.1 x.2⟩:=xy t8 rn z9U Tryz.func166 [0] (zZ rfl SN zm)
def t9:=t8.d z7l
theorem z5S:zG Pz 163 ⟨[.ty (.sl u32),.ty i64],[(.int .u64)],λx=>yI x.1 x.2⟩:=xy t9 rn hN Tryz.func163 [] zm
def t10:=t9.d z5S
def Ej:zU:=Lz [.slot 8 u32] [Mm 5 (.sl u32),Mm 7 (.int .u64)] ⟨[Mi 9,.a u32],[(8,.cur 0 u32)],yw⟩ [⟨.exit 0,⟨[.a u32],[(8,.cur 0 u32)],yw⟩⟩] λp s=>pq p.1 p.2 s
def EE:zU:=Lz [] [Mm 5 (.sl u32),Mm 11 (.int .u64)] ⟨[Mm 12 (.int .u64),Mi 13,.a u32],[(10,.cur 0 u32)],yw⟩ [⟨.exit 2,⟨[.a u32],[(10,.cur 0 u32)],yw⟩⟩] λp s=>hO p.1 p.2 s
def z2M:Hints:=Hz [(0,Ej),(2,EE)] [] [(14,[8]),(24,[10])]
theorem z0r:LO Tryz.f167 Ej 0:=lk t10 rn z2M [] zm
theorem Ta:LO Tryz.f167 EE 2:=lk t10 rn z2M [] zm
theorem z9h:zG Pz 167 ⟨[.ty (.sl u32),.ty i64],[(.sl u32)],λx=>lv x.1 x.2⟩:=xy t10 rn z2M Tryz.func167 [0,2] (zZ rfl z0r (zZ rfl Ta zm))
def t11:=t10.d z9h
def I0:zU:=Lz [.slot 5 u32] [Mm 0 (.sl u32),Mm 1 (.sl u32)] ⟨[Mm 6 (.int .u64),Mi 7,.a u32],[(5,.cur 0 u32)],yw⟩ [N9] λp s=>dY p.1 p.2 s
def z9g:Hints:=Hz [(0,I0)] [] [(9,[5])]
theorem z0N:LO Tryz.f120 I0 0:=lk t11 rn z9g [] zm
theorem z5C:zG Pz 120 ⟨[.ty (.sl u32),.ty (.sl u32)],[(.sl u32)],λx=>sx x.1 x.2⟩:=xy t11 rn z9g Tryz.func120 [0] (zZ rfl z0N zm)
def t12:=t11.d z5C
def En:zU:=Lz [] [Mm 5 (.sl u32),Mm 6 (.sl u32)] ⟨[Mi 7],[],[]⟩ [ez,Wt] λp s=>bg p.1 p.2 s
def z8l:Hints:=Hz [(0,En)] [] []
theorem S6:LO Tryz.f168 En 0:=lk t12 rn z8l [] zm
theorem z9X:zG Pz 168 ⟨[.ty (.sl u32),.ty (.sl u32)],[i64],λx=>nq x.1 x.2⟩:=xy t12 rn z8l Tryz.func168 [0] (zZ rfl S6 zm)
def t13:=t12.d z9X
def FY:zU:=Lz [.slot 6 u32] [Mm 0 (.sl u32),Mm 1 (.sl u32)] z1K [⟨.exit 0,⟨[.a u32],[(6,.cur 0 u32)],yw⟩⟩] λp s=>dT p.1 p.2 s
def z9j:Hints:=Hz [(0,FY)] [(3,10,.flat [Mm 7 (.int .u64),Mm 9 (.int .u64)])] [(14,[6])]
theorem z0a:LO Tryz.f169 FY 0:=lk t13 rn z9j [] zm
theorem z6v:zG Pz 169 ⟨[.ty (.sl u32),.ty (.sl u32)],[(.sl u32),.bool],λx=>tD x.1 x.2⟩:=xy t13 rn z9j Tryz.func169 [0] (zZ rfl z0a zm)
def t14:=t13.d z6v
def F1:zU:=Lz [] [Mm 0 (.sl u32),Mm 1 (.sl u32)] ⟨[Mm 14 (.sl u32),Mi 15,.a u32],[(13,.cur 0 u32)],yw⟩ [⟨.exit 0,z1D⟩] λp s=>uc p.1 p.2 s
def z9k:Hints:=Hz [(0,F1)] [(0,5,.flat [Mb 33]),(0,7,.flat [Mb 46]),(3,16,.ways [⟨.normal,z1D⟩])] [(21,[13])]
theorem TG:LO Tryz.f127 F1 0:=lk t14 rn z9k [] zm
theorem z6H:zG Pz 127 ⟨[.ty (.sl u32),.ty (.sl u32)],[(.sl u32),(.sl u32),.bool],λx=>ju x.1 x.2⟩:=xy t14 rn z9k Tryz.func127 [0] (zZ rfl TG zm)
def t15:=t14.d z6H
def E0:zU:=Lz [] [] ⟨[Mm 5 (.sl u32),Mm 6 (.sl u32)],[],[]⟩ [⟨.exit 0,⟨[Mm 5 (.sl u32)],[],[]⟩⟩] λp s=>bA  s
def z74:Hints:=Hz [(0,E0)] [] []
theorem TK:LO Tryz.f126 E0 0:=lk t15 rn z74 [] zm
theorem z6Q:zG Pz 126 ⟨[.ty (.sl u32),.ty (.sl u32)],[(.sl u32)],λx=>tM x.1 x.2⟩:=xy t15 rn z74 Tryz.func126 [0] (zZ rfl TK zm)
def t16:=t15.d z6Q
def h64:Hints:=Hz [] [(0,2,.flat [Mb 19])] []
theorem zaW:zG Pz 64 ⟨[.ty vn],[vn],λx=>yf x⟩:=xy t16 (rz [1]) h64 Tryz.func64 [] zm
def t17:=t16.d zaW
def MF:zU:=Lz [] [Mm 0 (.sl u32),Mm 1 (.sl u32)] FO [ez,Rf] λp s=>uP p.1 p.2 s
def h65:Hints:=Hz [(0,MF)] [] []
theorem z3S:LO Tryz.f65 MF 0:=lk t17 rn h65 [] zm
theorem zb8:zG Pz 65 ⟨[.ty (.sl u32),.ty (.sl u32)],[.bool],λx=>cI x.1 x.2⟩:=xy t17 rn h65 Tryz.func65 [0] (zZ rfl z3S zm)
def t18:=t17.d zb8
theorem zct:zG Pz 69 ⟨[.ty vn],[.bool],λx=>sQ x⟩:=xy t18 (rz [1]) hN Tryz.func69 [] zm
def t19:=t18.d zct
def h70:Hints:=Hz [] [(0,2,.flat [Mb 2])] []
theorem zbO:zG Pz 70 ⟨[.ty vn],[.bool],λx=>iT x⟩:=xy t19 (rz [1]) h70 Tryz.func70 [] zm
def t20:=t19.d zbO
theorem zd5:zG Pz 31 ⟨[.ty vn],[.bool],λx=>cu x⟩:=xy t20 (rz [1]) hN Tryz.func31 [] zm
def t21:=t20.d zd5
theorem zdJ:zG Pz 32 ⟨[.ty .str],[.bool],λx=>cT x⟩:=xy t21 rn hN Tryz.func32 [] zm
def t22:=t21.d zdJ
def E5:zU:=Lz [] [Mm 0 (.sl u32),Mm 1 (.sl u32),Mi 6] ⟨[Mm 7 (.int .u64),Mi 8,.a u32],[(5,.cur 0 u32)],yw⟩ [⟨.exit 2,z1z⟩] λp s=>b8 p.1 p.2.1 p.2.2 s
def E4:zU:=Lz [] [Mm 0 (.sl u32),Mm 1 (.sl u32)] ⟨[Mi 6,.a u32],[(5,.cur 0 u32)],yw⟩ [N9] λp s=>eI p.1 p.2 s
def z4S:Hints:=Hz [(2,E5),(0,E4)] [(0,7,.flat [Mb 28])] [(13,[5])]
theorem TC:LO Tryz.f121 E5 2:=lk t22 rn z4S [] zm
theorem z0h:LO Tryz.f121 E4 0:=lk t22 rn z4S [2] (zZ rfl TC zm)
theorem z8J:zG Pz 121 ⟨[.ty (.sl u32),.ty (.sl u32)],[(.sl u32)],λx=>mo x.1 x.2⟩:=xy t22 rn z4S Tryz.func121 [0] (zZ rfl z0h zm)
def t23:=t22.d z8J
def F0:zU:=Lz [] [] ⟨[Mm 3 (.sl u32),Ms 4],[],[]⟩ [⟨.exit 0,⟨[Ms 4],[],[]⟩⟩] λp s=>kA  s
def z9T:Hints:=Hz [(0,F0)] [] []
theorem z1g:LO Tryz.f131 F0 0:=lk t23 rn z9T [] zm
theorem z6P:zG Pz 131 ⟨[.ty (.sl u32)],[.str],λx=>gR x⟩:=xy t23 rn z9T Tryz.func131 [0] (zZ rfl z1g zm)
def t24:=t23.d z6P
def DS:zU:=Lz [] [Mi 1] Oq [⟨.exit 0,Oq⟩] λp s=>j8 p s
def z8u:Hints:=Hz [(0,DS)] [] []
theorem z1i:LO Tryz.f202 DS 0:=lk t24 rn z8u [] zm
theorem z7f:zG Pz 202 ⟨[.ty (.sl u32),.ty i64],[.str],λx=>eH x.1 x.2⟩:=xy t24 rn z8u Tryz.func202 [0] (zZ rfl z1i zm)
def t25:=t24.d z7f
theorem z6w:zG Pz 130 ⟨[.ty .bool],[.str],λx=>cv x⟩:=xy t25 rn hN Tryz.func130 [] zm
def t26:=t25.d z6w
def zcZ:Hints:=Hz [] [(3,2,.flat [Ms 7])] []
theorem z8j:zG Pz 170 ⟨[.ty .bool,.ty (.sl u32),.ty i64],[.str],λx=>l8 x.1 x.2.1 x.2.2⟩:=xy t26 rn zcZ Tryz.func170 [] zm
def t27:=t26.d z8j
def Eu:zU:=Lz [] [] ⟨[Mm 5 (.sl u32),Mi 6,.v (.zD vn)],[(4,.ptr 0 0)],[.var (.zD vn)]⟩ [z1n,z1Z] λp s=>uJ  s
def Lj:Hints:=Hz [(0,Eu)] [] []
theorem SE:LO Tryz.f128 Eu 0:=lk t27 (rz [1]) Lj [] zm
theorem z7O:zG Pz 128 ⟨[.ty vn],[.str,.bool],λx=>gQ x⟩:=xy t27 (rz [1]) Lj Tryz.func128 [0] (zZ rfl SE zm)
def t28:=t27.d z7O
theorem z7b:zG Pz 129 ⟨[.ty vn],[.bool],λx=>jd x⟩:=xy t28 (rz [1]) hN Tryz.func129 [] zm
def t29:=t28.d z7b
abbrev Y71:=jX [.ty .expr,.ty i64]->T (YD [.bool])
abbrev H71(F:Y71):=zG Pz 71 ⟨[.ty .expr,.ty i64],[.bool],F⟩
def T71(fk:Y71)(HG:H71 fk):Tb:=t29.d HG
def Na(fk:Y71):zU:=Lz [] [Mi 1,Mr 2 .expr,Mi 5] UM [⟨.exit 1,Bb⟩,Rf] λp s=>br (λy0 y1=>fk (y0,y1)) p.1 p.2.1 p.2.2 s
def h71(fk:Y71):Hints:=Hz [(1,Na fk)] [(3,4,.ways [⟨.normal,FO⟩,Rf]),(0,17,.ways [⟨.normal,⟨[Mb 82],[],[]⟩⟩])] []
theorem z3j(fk:Y71)(HG:H71 fk):LO Tryz.f71 (Na fk) 1:=lk (T71 fk HG) (rz [2]) (h71 fk) [] zm
theorem z2J(fk:Y71)(HG:H71 fk):zG Pz 71 ⟨[.ty .expr,.ty i64],[.bool],λx=>iL (λy0 y1=>fk (y0,y1)) x.1 x.2⟩:=xy (T71 fk HG) (rz [2]) (h71 fk) Tryz.func71 [1] (zZ rfl (z3j fk HG) zm)
theorem zbq:zG Pz 71 ⟨[.ty .expr,.ty i64],[.bool],λx=>mC x.1 x.2⟩:=Wx (λfk x=>iL (λy0 y1=>fk (y0,y1)) x.1 x.2) (λx=>rfl) (λfk HG=>z2J fk HG)
def t30:=t29.d zbq
abbrev Y72:=jX [.ty .expr]->T (YD [i64])
abbrev H72(F:Y72):=zG Pz 72 ⟨[.ty .expr],[i64],F⟩
def T72(fR:Y72)(HB:H72 fR):Tb:=t30.d HB
def N6(fR:Y72):zU:=Lz [] [Mr 1 .expr] PT [Mu] λp s=>kK (λy0=>fR (y0)) p s
def h72(fR:Y72):Hints:=Hz [(0,N6 fR)] [] []
theorem z45(fR:Y72)(HB:H72 fR):LO Tryz.f72 (N6 fR) 0:=lk (T72 fR HB) (rz [1]) (h72 fR) [] zm
theorem z4N(fR:Y72)(HB:H72 fR):zG Pz 72 ⟨[.ty .expr],[i64],λx=>bW (λy0=>fR (y0)) x⟩:=xy (T72 fR HB) (rz [1]) (h72 fR) Tryz.func72 [0] (zZ rfl (z45 fR HB) zm)
theorem zaZ:zG Pz 72 ⟨[.ty .expr],[i64],λx=>ig x⟩:=Wx (λfR x=>bW (λy0=>fR (y0)) x) (λx=>rfl) (λfR HB=>z4N fR HB)
def t31:=t30.d zaZ
theorem zdc:zG Pz 33 ⟨[.ty .expr],[.bool],λx=>cf x⟩:=xy t31 (rz [1]) hN Tryz.func33 [] zm
def t32:=t31.d zdc
def NT:zU:=Lz [] [Mr 1 qg] PT [ez,rf] λp s=>kL p s
def Pd:zU:=Lz [] [Mr 1 qg] z1C [⟨.exit 2,Bb⟩,rf] λp s=>kt p s
def h34:Hints:=Hz [(0,NT),(2,Pd)] [(0,6,.ways [⟨.normal,⟨[Mb 47,.v (.zD zL)],[],[.var (.zD zL)]⟩⟩]),(0,14,.ways [⟨.normal,⟨[Mb 101,.v (.zD zX)],[],[.var (.zD zX)]⟩⟩])] []
theorem z3N:LO Tryz.f34 NT 0:=lk t32 (rz [1]) h34 [] zm
theorem z3D:LO Tryz.f34 Pd 2:=lk t32 (rz [1]) h34 [] zm
theorem zaQ:zG Pz 34 ⟨[.ty qg],[.bool],λx=>lr x⟩:=xy t32 (rz [1]) h34 Tryz.func34 [0,2] (zZ rfl z3N (zZ rfl z3D zm))
def t33:=t32.d zaQ
def h73:Hints:=Hz [] [(0,3,.flat [Mb 24])] []
theorem zd8:zG Pz 73 ⟨[.ty vn],[.str],λx=>iB x⟩:=xy t33 (rz [1]) h73 Tryz.func73 [] zm
def t34:=t33.d zd8
theorem zbF:zG Pz 74 ⟨[.ty .str],[.str],λx=>oT x⟩:=xy t34 rn hN Tryz.func74 [] zm
def t35:=t34.d zbF
def h75:Hints:=Hz [] [(3,2,.flat [Ms 3])] []
theorem zdR:zG Pz 75 ⟨[.ty zL],[.str],λx=>iZ x⟩:=xy t35 (rz [1]) h75 Tryz.func75 [] zm
def t36:=t35.d zdR
def zcv:Hints:=Hz [] [(3,2,.flat [Mb 4]),(3,5,.flat [Mb 7])] []
theorem za5:zG Pz 171 ⟨[.ty i64],[i64],λx=>nL x⟩:=xy t36 rn zcv Tryz.func171 [] zm
def t37:=t36.d za5
abbrev z3g:=jX [.ty .expr,.ty i64]->T (YD [.str])
abbrev zdt(F:z3g):=zG Pz 132 ⟨[.ty .expr,.ty i64],[.str],F⟩
def zcR(Qr:z3g):Hints:=Hz [] [(3,2,.ways [⟨.normal,Oq⟩])] []
theorem Se(Qr:z3g)(OZ:zdt Qr):zG Pz 132 ⟨[.ty .expr,.ty i64],[.str],λx=>dW (λy0 y1=>Qr (y0,y1)) x.1 x.2⟩:=xy (t37.d OZ) (rz [2]) (zcR Qr) Tryz.func132 [] zm
theorem z5E:zG Pz 132 ⟨[.ty .expr,.ty i64],[.str],λx=>o0 x.1 x.2⟩:=Wx (λQr x=>dW (λy0 y1=>Qr (y0,y1)) x.1 x.2) (λx=>rfl) (λQr OZ=>Se Qr OZ)
def t38:=t37.d z5E
theorem zcA:zG Pz 76 ⟨[.ty .expr],[.str],λx=>kX x⟩:=xy t38 (rz [1]) hN Tryz.func76 [] zm
def t39:=t38.d zcA
theorem zdl:zG Pz 77 ⟨[.ty i64],[.str],λx=>sY x⟩:=xy t39 rn hN Tryz.func77 [] zm
def t40:=t39.d zdl
theorem zc2:zG Pz 19 ⟨[.ty i64],[.str],λx=>gZ x⟩:=xy t40 rn hN Tryz.func19 [] zm
def t41:=t40.d zc2
def Nx:zU:=Lz [] [Mr 1 qg] ⟨[Ms 3,Mi 4],[],[]⟩ [⟨.exit 0,WR⟩] λp s=>yP p s
def OY:zU:=Lz [] [Mr 1 qg] ⟨[Ms 3,Mi 6],[],[]⟩ [⟨.exit 2,WR⟩] λp s=>yK p s
def NI:zU:=Lz [] [Mr 1 qg,Mi 7] ⟨[Ms 3,Mi 8],[],[]⟩ [⟨.exit 6,WR⟩] λp s=>gu p.1 p.2 s
def P7:zU:=Lz [] [Mr 1 qg,Mi 7] ⟨[Ms 3,Mi 9],[],[]⟩ [⟨.exit 8,WR⟩] λp s=>yC p.1 p.2 s
def NU:zU:=Lz [] [Mr 1 qg] ⟨[Ms 3,Mi 7],[],[]⟩ [⟨.exit 4,WR⟩] λp s=>gw p s
def Fl:zU:=Lz [] [Mr 1 qg] ⟨[Ms 3,Mi 11],[],[]⟩ [⟨.exit 10,WR⟩] λp s=>yY p s
def h35:Hints:=Hz [(0,Nx),(2,OY),(6,NI),(8,P7),(4,NU),(10,Fl)] [(3,6,.flat [Ms 5])] []
theorem z3G:LO Tryz.f35 Nx 0:=lk t41 (rz [1]) h35 [] zm
theorem z3v:LO Tryz.f35 OY 2:=lk t41 (rz [1]) h35 [] zm
theorem z3K:LO Tryz.f35 NI 6:=lk t41 (rz [1]) h35 [] zm
theorem z3h:LO Tryz.f35 P7 8:=lk t41 (rz [1]) h35 [] zm
theorem z4M:LO Tryz.f35 NU 4:=lk t41 (rz [1]) h35 [6,8] (zZ rfl z3K (zZ rfl z3h zm))
theorem Sb:LO Tryz.f35 Fl 10:=lk t41 (rz [1]) h35 [] zm
theorem zaP:zG Pz 35 ⟨[.ty qg],[.str],λx=>nZ x⟩:=xy t41 (rz [1]) h35 Tryz.func35 [0,2,4,10] (zZ rfl z3G (zZ rfl z3v (zZ rfl z4M (zZ rfl Sb zm))))
def t42:=t41.d zaP
def R5:zU:=Lz [] [Mr 1 qg] tc [ez,rf] λp s=>cC p s
def PX:zU:=Lz [] [Mr 1 qg] ⟨[Mi 4],[],[]⟩ [⟨.exit 2,Bb⟩,rf] λp s=>cK p s
def Ph:zU:=Lz [] [Mr 1 qg] FO [⟨.exit 4,Bb⟩,rf] λp s=>dw p s
def MP:zU:=Lz [] [Mr 1 qg] ⟨[Mi 6],[],[]⟩ [⟨.exit 6,Bb⟩,rf] λp s=>cL p s
def h15:Hints:=Hz [(0,R5),(2,PX),(4,Ph),(6,MP)] [(0,9,.ways [⟨.normal,⟨[Mb 47],[],[]⟩⟩]),(0,14,.ways [⟨.normal,⟨[Mb 72],[],[]⟩⟩]),(0,20,.ways [⟨.normal,⟨[Mb 116,.v (.zD qf)],[],[.var (.zD qf)]⟩⟩])] []
theorem z4X:LO Tryz.f15 R5 0:=lk t42 (rz [1]) h15 [] zm
theorem z2I:LO Tryz.f15 PX 2:=lk t42 (rz [1]) h15 [] zm
theorem z3b:LO Tryz.f15 Ph 4:=lk t42 (rz [1]) h15 [] zm
theorem z4R:LO Tryz.f15 MP 6:=lk t42 (rz [1]) h15 [] zm
theorem zdq:zG Pz 15 ⟨[.ty qg],[.bool],λx=>X4 x⟩:=xy t42 (rz [1]) h15 Tryz.func15 [0,2,4,6] (zZ rfl z4X (zZ rfl z2I (zZ rfl z3b (zZ rfl z4R zm))))
def t43:=t42.d zdq
def zcK:Hints:=Hz [] [(0,1,.flat [Mb 2])] []
theorem z8R:zG Pz 141 ⟨[.ty (.int .u8)],[.bool],λx=>wi x⟩:=xy t43 rn zcK Tryz.func141 [] zm
def t44:=t43.d z8R
def zbM:Hints:=Hz [] [(0,1,.flat [Mb 2])] []
theorem z6g:zG Pz 179 ⟨[.ty (.int .u8)],[.bool],λx=>xD x⟩:=xy t44 rn zbM Tryz.func179 [] zm
def t45:=t44.d z6g
theorem z6F:zG Pz 142 ⟨[.ty (.int .u8)],[.bool],λx=>wP x⟩:=xy t45 rn hN Tryz.func142 [] zm
def t46:=t45.d z6F
def R4:zU:=Lz [] [Ms 0,Mi 18] ⟨[Mi 19],[],[]⟩ [ez,rf] λp s=>jN p.1 p.2 s
def h87:Hints:=Hz [(0,R4)] [(0,1,.ways [⟨.normal,⟨[Mb 16],[],[]⟩⟩])] []
theorem z42:LO Tryz.f87 R4 0:=lk t46 rn h87 [] zm
theorem zbc:zG Pz 87 ⟨[.ty .str],[.bool],λx=>xg x⟩:=xy t46 rn h87 Tryz.func87 [0] (zZ rfl z42 zm)
def t47:=t46.d zbc
theorem zb9:zG Pz 86 ⟨[.ty zJ],[.bool],λx=>ve x⟩:=xy t47 (rz [1]) hN Tryz.func86 [] zm
def t48:=t47.d zb9
def DN:zU:=Lz [] [Mm 0 (.sl zJ),.s 1 (.qS 86 []),Mi 7] UM [ez,Wt] λp s=>qI p.1 (λz0=>ve z0) p.2.2 s
def z8I:Hints:=Hz [(0,DN)] [] []
theorem Ts:LO Tryz.f140 DN 0:=lk t48 rn z8I [] zm
theorem z7N:zG Pz 140 ⟨[.ty (.sl zJ),.qS 86 []],[i64],λx=>xP x.1 (λz0=>ve z0)⟩:=xy t48 rn z8I Tryz.func140 [0] (zZ rfl Ts zm)
def t49:=t48.d z7N
theorem zc4:zG Pz 85 ⟨[.ty (.sl zJ),.qS 86 []],[.bool],λx=>qG x.1 (λz0=>ve z0)⟩:=xy t49 rn hN Tryz.func85 [] zm
def t50:=t49.d zc4
def zdP:Hints:=Hz [] [(0,1,.flat [Mb 2])] []
theorem z9M:zG Pz 144 ⟨[.ty (.sl u32)],[.bool],λx=>dx x⟩:=xy t50 rn zdP Tryz.func144 [] zm
def t51:=t50.d z9M
def Ev:zU:=Lz [] [] Om [⟨.exit 0,Om⟩] λp s=>dX  s
def z5R:Hints:=Hz [(0,Ev)] [] []
theorem z0C:LO Tryz.f176 Ev 0:=lk t51 rn z5R [] zm
theorem za1:zG Pz 176 ⟨[.ty (.sl u32)],[(.sl u32)],λx=>xH x⟩:=xy t51 rn z5R Tryz.func176 [0] (zZ rfl z0C zm)
def t52:=t51.d za1
def zbZ:Hints:=Hz [] [(0,1,.z98)] []
theorem z7D:zG Pz 203 ⟨[.ty (.sl u32)],[(.sl u32)],λx=>wQ x⟩:=xy t52 rn zbZ Tryz.func203 [] zm
def t53:=t52.d z7D
theorem z61:zG Pz 173 ⟨[.ty (.sl u32)],[(.sl u32)],λx=>gn x⟩:=xy t53 rn hN Tryz.func173 [] zm
def t54:=t53.d z61
def EG:zU:=Lz [] [Mm 0 (.sl u32),Mm 1 (.sl u32)] FO [ez,Wt] λp s=>cD p.1 p.2 s
def z8y:Hints:=Hz [(0,EG)] [] []
theorem TZ:LO Tryz.f136 EG 0:=lk t54 rn z8y [] zm
theorem z5H:zG Pz 136 ⟨[.ty (.sl u32),.ty (.sl u32)],[i64],λx=>iS x.1 x.2⟩:=xy t54 rn z8y Tryz.func136 [0] (zZ rfl TZ zm)
def t55:=t54.d z5H
def zbA:Hints:=Hz [] [(0,1,.flat [Mb 15])] []
theorem z8x:zG Pz 204 ⟨[.ty u32,.ty u32,.ty u32],[u32,u32],λx=>kQ x.1 x.2.1 x.2.2⟩:=xy t55 rn zbA Tryz.func204 [] zm
def t56:=t55.d z8x
def Eo:zU:=Lz [] [Mm 0 (.sl u32),Mm 1 u32] ⟨[Mm 7 u32,Mi 8,.a u32],[(6,.cur 0 u32)],yw⟩ [⟨.exit 0,⟨[Mm 7 u32,.a u32],[(6,.cur 0 u32)],yw⟩⟩] λp s=>bZ p.1 p.2 s
def z6D:Hints:=Hz [(0,Eo)] [] [(7,[6])]
theorem SH:LO Tryz.f174 Eo 0:=lk t56 rn z6D [] zm
theorem z8O:zG Pz 174 ⟨[.ty (.sl u32),.ty u32],[(.sl u32),u32],λx=>cx x.1 x.2⟩:=xy t56 rn z6D Tryz.func174 [0] (zZ rfl SH zm)
def t57:=t56.d z8O
theorem za6:zG Pz 137 ⟨[.ty (.int .u64)],[(.sl u32)],λx=>y3 x⟩:=xy t57 rn hN Tryz.func137 [] zm
def t58:=t57.d za6
def zbJ:Hints:=Hz [] [(3,1,.flat [Mm 0 u32,Mi 2]),(3,4,.flat [Mm 0 u32,Mi 2])] []
theorem z9G:zG Pz 247 ⟨[.ty u32],[i64],λx=>kR x⟩:=xy t58 rn zbJ Tryz.func247 [] zm
def t59:=t58.d z9G
theorem z8n:zG Pz 232 ⟨[.ty u32],[i64],λx=>wm x⟩:=xy t59 rn hN Tryz.func232 [] zm
def t60:=t59.d z8n
def EU:zU:=Lz [] [Mm 1 (.int .u64),Mi 2,Mm 13 (.sl u32),Mi 14] z1P [OC] λp s=>pD p.1 p.2.1 p.2.2.1 p.2.2.2 s
def z6C:Hints:=Hz [(0,EU)] [] []
theorem z0l:LO Tryz.f233 EU 0:=lk t60 rn z6C [] zm
theorem z1t:xN Pz 233 ⟨[.any,.any,.any],⟨[Mm 0 (.sl u32),Mm 1 (.int .u64),Mi 2],[],[]⟩,[],⟨[.a u32],[(0,.cur 0 u32)],yw⟩,1,λx=>cP x.1 x.2.1 x.2.2⟩:=J0 t60 rn z6C Tryz.func233 [0] (zZ rfl z0l zm)
def t61:=t60.s z1t
def EI:zU:=Lz [] [Mm 2 u32,Mm 3 u32,Mm 4 u32] ⟨[Mm 12 (.int .u64),Mm 13 (.int .u64)],[],[]⟩ [⟨.exit 0,⟨[Mm 12 (.int .u64)],[],[]⟩⟩] λp s=>yO p.1 p.2.1 p.2.2 s
def z5N:Hints:=Hz [(0,EI)] [(0,3,.flat [Mb 42])] []
theorem TY:LO Tryz.f234 EI 0:=lk t61 rn z5N [] zm
theorem z7G:zG Pz 234 ⟨[.ty u32,.ty u32,.ty u32,.ty u32,.ty u32],[(.int .u64)],λx=>cB x.1 x.2.1 x.2.2.1 x.2.2.2.1 x.2.2.2.2⟩:=xy t61 rn z5N Tryz.func234 [0] (zZ rfl TY zm)
def t62:=t61.d z7G
theorem z96:zG Pz 248 ⟨[.ty u32,.ty u32,.ty u32],[u32,u32],λx=>uG x.1 x.2.1 x.2.2⟩:=xy t62 rn hN Tryz.func248 [] zm
def t63:=t62.d z96
theorem z6u:zG Pz 249 ⟨[.ty u32,.ty u32,.ty u32],[u32,u32],λx=>kP x.1 x.2.1 x.2.2⟩:=xy t63 rn hN Tryz.func249 [] zm
def t64:=t63.d z6u
def EN:zU:=Lz [] [Mm 1 (.sl u32),Mm 2 (.int .u64),Mm 14 (.sl u32),Mi 15] ⟨[.s 0 (.sub 0 u32),Mm 7 (.int .u64),Mm 8 u32,Mi 16,.a u32],[],yw⟩ [⟨.exit 0,⟨[.s 0 (.sub 0 u32),Mm 7 (.int .u64),Mm 8 u32,.a u32],[],yw⟩⟩] λp s=>yT p.1 p.2.1 p.2.2.1 p.2.2.2 s
def Er:zU:=Lz [] [Mm 1 (.sl u32),Mm 62 (.sl u32),Mi 63] ⟨[.s 0 (.sub 0 u32),Mm 11 u32,Mi 64,.a u32],[],yw⟩ [⟨.exit 2,⟨[.s 0 (.sub 0 u32),Mm 11 u32,.a u32],[],yw⟩⟩] λp s=>yF p.1 p.2.1 p.2.2 s
def z2F:Hints:=Hz [(0,EN),(2,Er)] [] []
theorem TQ:LO Tryz.f235 EN 0:=lk t64 rn z2F [] zm
theorem S7:LO Tryz.f235 Er 2:=lk t64 rn z2F [] zm
theorem z9Q:xN Pz 235 ⟨[.sub,.any,.any],⟨[.s 0 (.sub 0 u32),Mm 1 (.sl u32),Mm 2 (.int .u64),.a u32],[],yw⟩,[],⟨[Mb 0,.a u32],[],yw⟩,1,λx=>eC x.1 x.2.1 x.2.2.1 x.2.2.2⟩:=J0 t64 rn z2F Tryz.func235 [0,2] (zZ rfl TQ (zZ rfl S7 zm))
def t65:=t64.s z9Q
def UO:zU:=Lz [] [Mm 1 (.int .u64),Mi 2,Mm 13 (.sl u32),Mi 14] z1P [OC] λp s=>bu p.1 p.2.1 p.2.2.1 p.2.2.2 s
def PS:Hints:=Hz [(0,UO)] [] []
theorem IH:LO Tryz.f233 UO 0:=lk t65 rn PS [] zm
theorem Fz:zG Pz 233 ⟨[.ty (.sl u32),.ty (.int .u64),.ty i64],[(.sl u32)],λx=>sD x.1 x.2.1 x.2.2⟩:=xy t65 rn PS Tryz.func233 [0] (zZ rfl IH zm)
def t66:=t65.d Fz
def z6G:Tb:=t66.d Fz
def EY:zU:=Lz [] [Mm 6 (.int .u64),Mm 38 (.sl u32),Mi 39] ⟨[Mi 40,.a u32],[(7,.cur 0 u32)],yw⟩ [OC] λp s=>yB p.1 p.2.1 p.2.2 s
def z6n:Hints:=Hz [(0,EY)] [] [(17,[7]),(21,[12])]
theorem z0M:LO Tryz.f236 EY 0:=lk z6G rn z6n [] zm
theorem z9v:zG Pz 236 ⟨[.ty (.sl u32),.ty i64],[(.sl u32)],λx=>gP x.1 x.2⟩:=xy z6G rn z6n Tryz.func236 [0] (zZ rfl z0M zm)
def t67:=t66.d z9v
def z8r:Tb:=t67.s z1t
def Ez:zU:=Lz [] [Mm 6 (.int .u64),Mm 8 (.sl u32),Mi 9] ⟨[Mi 10,.a u32,.a u32],[(4,.cur 2 u32),(7,.cur 0 u32)],[.arr u32,.dead,.arr u32]⟩ [⟨.exit 0,⟨[.a u32,.a u32],[(4,.cur 2 u32),(7,.cur 0 u32)],[.arr u32,.dead,.arr u32]⟩⟩] λp s=>ba p.1 p.2.1 p.2.2 s
def z7c:Hints:=Hz [(0,Ez)] [(3,9,.ways [⟨.normal,⟨[Mm 11 (.int .u64),.a u32,.a u32],[(4,.cur 2 u32),(7,.cur 0 u32)],[.arr u32,.dead,.arr u32]⟩⟩])] [(5,[8]),(12,[4,7])]
theorem TT:LO Tryz.f209 Ez 0:=lk z8r rn z7c [] zm
theorem z7r:zG Pz 209 ⟨[.ty (.sl u32),.ty (.sl u32)],[(.sl u32),(.sl u32)],λx=>Z5 x.1 x.2⟩:=xy z8r rn z7c Tryz.func209 [0] (zZ rfl TT zm)
def t68:=t67.d z7r
theorem z7L:zG Pz 180 ⟨[.ty (.sl u32),.ty (.sl u32)],[(.sl u32),(.sl u32),.bool],λx=>yd x.1 x.2⟩:=xy t68 rn hN Tryz.func180 [] zm
def t69:=t68.d z7L
def Ee:zU:=Lz [] [] ⟨[Mm 0 (.sl u32),Mm 1 (.sl u32)],[],[]⟩ [⟨.exit 0,Om⟩] λp s=>dG  s
def z9J:Hints:=Hz [(0,Ee)] [] []
theorem z1d:LO Tryz.f145 Ee 0:=lk t69 rn z9J [] zm
theorem za3:zG Pz 145 ⟨[.ty (.sl u32),.ty (.sl u32)],[(.sl u32)],λx=>sq x.1 x.2⟩:=xy t69 rn z9J Tryz.func145 [0] (zZ rfl z1d zm)
def t70:=t69.d za3
def h90:Hints:=Hz [] [(0,1,.ways [⟨.normal,⟨[Mb 28],[],[]⟩⟩])] []
theorem zbn:zG Pz 90 ⟨[.ty vn],[.bool],λx=>rE x⟩:=xy t70 (rz [1]) h90 Tryz.func90 [] zm
def t71:=t70.d zbn
def zcM:Hints:=Hz [] [(0,2,.flat [Mb 19])] []
theorem z7H:zG Pz 149 ⟨[.ty .bool,.ty (.sl u32),.ty (.sl u32)],[vn],λx=>lM x.1 x.2.1 x.2.2⟩:=xy t71 rn zcM Tryz.func149 [] zm
def t72:=t71.d z7H
theorem z6q:zG Pz 100 ⟨[.ty vn],[vn],λx=>cH x⟩:=xy t72 (rz [1]) hN Tryz.func100 [] zm
def t73:=t72.d z6q
def h91:Hints:=Hz [] [(0,2,.flat [Mb 2])] []
theorem zcx:zG Pz 91 ⟨[.ty vn],[.bool],λx=>cw x⟩:=xy t73 rn h91 Tryz.func91 [] zm
def t74:=t73.d zcx
theorem zcX:zG Pz 89 ⟨[.ty zP],[.bool],λx=>vp x⟩:=xy t74 (rz [1]) hN Tryz.func89 [] zm
def t75:=t74.d zcX
def Ey:zU:=Lz [] [Mm 0 (.sl zP),.s 1 (.qS 89 []),Mi 7] UM [ez,Wt] λp s=>qQ p.1 (λz0=>vp z0) p.2.2 s
def z7d:Hints:=Hz [(0,Ey)] [] []
theorem T0:LO Tryz.f143 Ey 0:=lk t75 rn z7d [] zm
theorem z5W:zG Pz 143 ⟨[.ty (.sl zP),.qS 89 []],[i64],λx=>xX x.1 (λz0=>vp z0)⟩:=xy t75 rn z7d Tryz.func143 [0] (zZ rfl T0 zm)
def t76:=t75.d z5W
theorem zdb:zG Pz 88 ⟨[.ty (.sl zP),.qS 89 []],[.bool],λx=>qO x.1 (λz0=>vp z0)⟩:=xy t76 rn hN Tryz.func88 [] zm
def t77:=t76.d zdb
theorem zb2:zG Pz 94 ⟨[.ty .str],[.bool],λx=>jE x⟩:=xy t77 rn hN Tryz.func94 [] zm
def t78:=t77.d zb2
theorem zde:zG Pz 93 ⟨[.ty zV],[.bool],λx=>vg x⟩:=xy t78 (rz [1]) hN Tryz.func93 [] zm
def t79:=t78.d zde
def FR:zU:=Lz [] [Mm 0 (.sl zV),.s 1 (.qS 93 []),Mi 7] UM [ez,Wt] λp s=>qY p.1 (λz0=>vg z0) p.2.2 s
def z6Y:Hints:=Hz [(0,FR)] [] []
theorem TD:LO Tryz.f146 FR 0:=lk t79 rn z6Y [] zm
theorem z5L:zG Pz 146 ⟨[.ty (.sl zV),.qS 93 []],[i64],λx=>wk x.1 (λz0=>vg z0)⟩:=xy t79 rn z6Y Tryz.func146 [0] (zZ rfl TD zm)
def t80:=t79.d z5L
theorem zbP:zG Pz 92 ⟨[.ty (.sl zV),.qS 93 []],[.bool],λx=>xa x.1 (λz0=>vg z0)⟩:=xy t80 rn hN Tryz.func92 [] zm
def t81:=t80.d zbP
theorem zbH:zG Pz 37 ⟨[.ty qg],[.bool],λx=>eF x⟩:=xy t81 (rz [1]) hN Tryz.func37 [] zm
def t82:=t81.d zbH
def h95:Hints:=Hz [] [(0,1,.flat [Mb 6])] []
theorem zdB:zG Pz 95 ⟨[.ty i64,.ty i64,.ty i64],[.bool],λx=>yU x.1 x.2.1 x.2.2⟩:=xy t82 rn h95 Tryz.func95 [] zm
def t83:=t82.d zdB
def On:zU:=Lz [] [Mr 1 qg,Mm 7 (.sl zL),Mi 8] Oo [ez,rf] λp s=>uy p.1 p.2.1 p.2.2 s
def h38:Hints:=Hz [(0,On)] [(0,5,.ways [⟨.normal,⟨[Mb 36,.v (.zD zL)],[],[.var (.zD zL)]⟩⟩])] []
theorem z4l:LO Tryz.f38 On 0:=lk t83 (rz [1]) h38 [] zm
theorem zbb:zG Pz 38 ⟨[.ty qg],[.bool],λx=>bY x⟩:=xy t83 (rz [1]) h38 Tryz.func38 [0] (zZ rfl z4l zm)
def t84:=t83.d zbb
theorem zbj:zG Pz 96 ⟨[],[(.sl .str)],λ_=>wy⟩:=xy t84 rn hN Tryz.func96 [] zm
def t85:=t84.d zbj
def zdQ:Hints:=Hz [] [(3,2,.flat [Mb 4])] []
theorem z9m:zG Pz 210 ⟨[.ty i64],[i64],λx=>oa x⟩:=xy t85 rn zdQ Tryz.func210 [] zm
def t86:=t85.d z9m
def FK:zU:=Lz [] [Mm 1 (.sl u32),Mi 6,Mm 7 u32,Mm 21 (.sl u32),Mi 22,Mi 23,Mm 28 (.sl u32),Mi 29] ⟨[Mm 8 (.int .u64),Mi 30,.a u32],[(5,.cur 0 u32)],yw⟩ [⟨.exit 2,⟨[Mm 8 (.int .u64),.a u32],[(5,.cur 0 u32)],yw⟩⟩] λp s=>iD p.1 p.2.1 p.2.2.1 p.2.2.2.1 p.2.2.2.2.1 p.2.2.2.2.2.1 p.2.2.2.2.2.2.1 p.2.2.2.2.2.2.2 s
def F9:zU:=Lz [] [Mm 1 (.sl u32),Mm 21 (.sl u32),Mi 22] ⟨[Mi 23,.a u32],[(5,.cur 0 u32)],yw⟩ [N9] λp s=>iE p.1 p.2.1 p.2.2 s
def z4H:Hints:=Hz [(2,FK),(0,F9)] [] [(16,[5])]
theorem z1b:LO Tryz.f198 FK 2:=lk t86 rn z4H [] zm
theorem Sh:LO Tryz.f198 F9 0:=lk t86 rn z4H [2] (zZ rfl z1b zm)
theorem z86:zG Pz 198 ⟨[.ty (.sl u32),.ty (.sl u32)],[(.sl u32)],λx=>oJ x.1 x.2⟩:=xy t86 rn z4H Tryz.func198 [0] (zZ rfl Sh zm)
def t87:=t86.d z86
def DI:zU:=Lz [] [Mi 5] ⟨[Mm 3 (.sl u32),Mi 6],[],[]⟩ [⟨.exit 0,⟨[Mm 3 (.sl u32)],[],[]⟩⟩] λp s=>dm p s
def z8w:Hints:=Hz [(0,DI)] [] []
theorem Td:LO Tryz.f161 DI 0:=lk t87 rn z8w [] zm
theorem z9q:zG Pz 161 ⟨[.ty i64],[(.sl u32)],λx=>o9 x⟩:=xy t87 rn z8w Tryz.func161 [0] (zZ rfl Td zm)
def t88:=t87.d z9q
theorem z65:zG Pz 134 ⟨[.ty vn],[.str],λx=>n7 x⟩:=xy t88 (rz [1]) hN Tryz.func134 [] zm
def t89:=t88.d z65
def E9:zU:=Lz [] [] ⟨[.s 0 (.sub 0 (.int .u8)),Mi 2,Mi 3,.a (.int .u8)],[],Wb⟩ [⟨.exit 0,z1m⟩] λp s=>xJ  s
def z9o:Hints:=Hz [(0,E9)] [] []
theorem z0Z:LO Tryz.f175 E9 0:=lk t89 rn z9o [] zm
theorem z9O:xN Pz 175 ⟨[.sub],⟨[.s 0 (.sub 0 (.int .u8)),.a (.int .u8)],[],Wb⟩,[],z1m,0,λx=>wh x.1 x.2⟩:=J0 t89 rn z9o Tryz.func175 [0] (zZ rfl z0Z zm)
def t90:=t89.s z9O
def DU:zU:=Lz [] [Mm 4 (.sl u32)] ⟨[Mm 5 u32,Mi 19,.a (.int .u8)],[(3,.cur 0 (.int .u8))],Wb⟩ [⟨.exit 2,z2t⟩] λp s=>gf p s
def DM:zU:=Lz [.slot 3 (.int .u8)] [] ⟨[Mm 0 (.sl u32),.a (.int .u8)],[(3,.cur 0 (.int .u8))],Wb⟩ [⟨.exit 0,z2t⟩] λp s=>yH  s
def DT:zU:=Lz [] [] z1k [⟨.exit 4,z1k⟩] λp s=>yE  s
def Tu:Hints:=Hz [(2,DU),(0,DM),(4,DT)] [(0,13,.flat [Mb 42])] []
theorem SC:LO Tryz.f135 DU 2:=lk t90 rn Tu [] zm
theorem Tv:LO Tryz.f135 DM 0:=lk t90 rn Tu [2] (zZ rfl SC zm)
theorem SM:LO Tryz.f135 DT 4:=lk t90 rn Tu [] zm
theorem z6d:zG Pz 135 ⟨[.ty (.sl u32)],[.str],λx=>cy x⟩:=xy t90 rn Tu Tryz.func135 [0,4] (zZ rfl Tv (zZ rfl SM zm))
def t91:=t90.d z6d
theorem z9y:zG Tryz.prog 246 ⟨[.ty .str,.ty i64],[.str],λx=>strings_Repeat x.1 x.2⟩:=by
 refine wW Tryz.func246 (by kernel_rfl) rfl λκ x zw y hy hI ha => ?_
 obtain⟨s,n⟩:=x
 obtain⟨⟨h0,h1,h2⟩,hy⟩:=hy
 cases hy
 obtain⟨v0,r,rfl,JO,ha⟩:=qA.cons_inv (show qA κ [.zD .str s,.zD i64 n] zw from ha)
 obtain⟨v1,r,rfl,Ds,ha⟩:=ha.cons_inv
 rw[ha.qc,JO.wj,Ds.kT]
 obtain⟨m,rfl⟩:=Int.eq_ofNat_of_zero_le h0
 refine(Go.Proofs.Tryz.strings_Repeat ⟨s.toArray⟩ m κ.w (by simp only at h1; omega) (by rw[show(ByteArray.size ⟨s.toArray⟩)=List.length s from List.size_toArray]; simpa using h2)).mono ?_
 rintro e w' ⟨rfl,hB⟩
 refine⟨hB,λ_=>⟨_,rfl,?_⟩⟩
 have e1:Lib.repeatL s m=jh s m:=DG s m
 have e2:(Int.toNat (m:Int))=m:=by omega
 show RD _ (.zD .str (jh s (Int.toNat (m:Int)))) _
 rw[e2,<- e1]
 exact RD.str
def t92:=t91.d z9y
theorem z7B:zG Pz 231 ⟨[.ty .str,.ty i64],[.str],λx=>dS x.1 x.2⟩:=xy t92 rn hN Tryz.func231 [] zm
def t93:=t92.d z7B
def Eh:zU:=Lz [] [] ⟨[Mi 10,.v (.zD vn)],[(1,.ptr 0 0)],[.var (.zD vn)]⟩ [z1n,z1Z] λp s=>jI  s
def z9x:Hints:=Hz [(0,Eh)] [] []
theorem z0P:LO Tryz.f206 Eh 0:=lk t93 rn z9x [] zm
theorem z6l:zG Pz 206 ⟨[.ty vn],[.str,.bool],λx=>fY x⟩:=xy t93 rn z9x Tryz.func206 [0] (zZ rfl z0P zm)
def t94:=t93.d z6l
def zdy:Hints:=Hz [] [(0,1,.ways [⟨.normal,⟨[Mb 15],[],[]⟩⟩])] []
theorem z8s:zG Pz 211 ⟨[.ty vn],[.bool],λx=>iH x⟩:=xy t94 (rz [1]) zdy Tryz.func211 [] zm
def t95:=t94.d z8s
theorem z9C:zG Pz 212 ⟨[.ty vn],[.bool],λx=>bq x⟩:=xy t95 (rz [1]) hN Tryz.func212 [] zm
def t96:=t95.d z9C
theorem z8Y:zG Pz 181 ⟨[.ty .expr],[.bool],λx=>yr x⟩:=xy t96 (rz [1]) hN Tryz.func181 [] zm
def t97:=t96.d z8Y
abbrev UA:=vH.den FE->T (vH.den DW)
abbrev LY(F:UA):=xN Pz 147 ⟨F8,FE,[],DW,1,F⟩
theorem z9l(vf:UA)(dO:LY vf):xN Pz 183 ⟨F8,⟨[Mm 0 .expr,Mr 1 i64,.v (.zD i64)],[(2,.ptr 0 0)],[.cvar (.ptr 1 0),.var (.zD i64)]⟩,[],z1V,1,λx=>uI (λy0 y1 y2=>vf (y0,y1,y2)) x.1 x.2.1 x.2.2⟩:=J0 (t97.s dO) (rz [3]) hN Tryz.func183 [] zm
def z7J(vf:UA)(dO:LY vf):Tb:=t97.s (z9l _ dO)
def Eb(vf:UA):zU:=Lz [] [Mm 0 (.sl .expr),Mi 7] ⟨[.s 1 (.mclo 183 [.rp i64,.pt 0]),Mi 8,.v (.zD i64)],[],[.cvar (.ptr 1 0),.var (.zD i64)]⟩ [⟨.exit 0,⟨[.v (.zD i64)],[],[.cvar (.ptr 1 0),.var (.zD i64)]⟩⟩,⟨.ret,⟨[Mi 4,.v (.zD i64)],[],[.cvar (.ptr 1 0),.var (.zD i64)]⟩⟩] λp s=>zx (λy0 y1 y2=>vf (y0,y1,y2)) p.1 p.2 s
def z8f(vf:UA):Hints:=Hz [(0,Eb vf)] [] []
theorem SJ(vf:UA)(dO:LY vf):LO Tryz.f213 (Eb vf) 0:=lk (z7J vf dO) rn (z8f vf) [] zm
theorem z6M(vf:UA)(dO:LY vf):xN Pz 213 ⟨[.any,.qS 183],z1J,[],⟨[Mi 0,.v (.zD i64)],[],[.cvar (.ptr 1 0),.var (.zD i64)]⟩,1,λx=>qx (λy0 y1 y2=>vf (y0,y1,y2)) x.1 x.2.1 x.2.2⟩:=J0 (z7J vf dO) rn (z8f vf) Tryz.func213 [0] (zZ rfl (SJ vf dO) zm)
theorem z83(vf:UA)(dO:LY vf):xN Pz 182 ⟨[.any,.qS 183],z1J,[],z1V,1,λx=>zW (λy0 y1 y2=>vf (y0,y1,y2)) x.1 x.2.1 x.2.2⟩:=J0 (t97.s (z6M _ dO)) rn hN Tryz.func182 [] zm
def zcb(vf:UA):Hints:=Hz [] [(0,2,.ways [⟨.normal,⟨[Mb 24,.v (.zD i64)],[],[.var (.zD i64),.cvar (.ptr 0 0)]⟩⟩])] []
theorem z04(vf:UA)(dO:LY vf):xN Pz 147 ⟨F8,FE,[],DW,1,λx=>gx (λy0 y1 y2=>vf (y0,y1,y2)) x.1 x.2.1 x.2.2⟩:=J0 (t97.s (z83 _ dO)) (rz [3,4]) (zcb vf) Tryz.func147 [] zm
theorem z8k:xN Pz 147 ⟨F8,FE,[],DW,1,λx=>jn x.1 x.2.1 x.2.2⟩:=TF (λvf x=>gx (λy0 y1 y2=>vf (y0,y1,y2)) x.1 x.2.1 x.2.2) (λx=>rfl) (λvf dO=>z04 vf dO)
def t98:=t97.s z8k
theorem zd2:zG Pz 97 ⟨[.ty .expr],[.bool],λx=>vZ x⟩:=xy t98 (rz [1]) hN Tryz.func97 [] zm
def t99:=t98.d zd2
theorem zbu:zG Pz 81 ⟨[],[(.sl .str)],λ_=>xC⟩:=xy t99 rn hN Tryz.func81 [] zm
def t100:=t99.d zbu
theorem zcN:zG Pz 99 ⟨[.ty qf],[.bool],λx=>xU x⟩:=xy t100 (rz [1]) hN Tryz.func99 [] zm
def t101:=t100.d zcN
def Fc:zU:=Lz [] [Mm 0 (.sl qf),.s 1 (.qS 99 []),Mi 7] UM [ez,Wt] λp s=>xb p.1 (λz0=>xU z0) p.2.2 s
def z6E:Hints:=Hz [(0,Fc)] [] []
theorem z08:LO Tryz.f148 Fc 0:=lk t101 rn z6E [] zm
theorem z9L:zG Pz 148 ⟨[.ty (.sl qf),.qS 99 []],[i64],λx=>wo x.1 (λz0=>xU z0)⟩:=xy t101 rn z6E Tryz.func148 [0] (zZ rfl z08 zm)
def t102:=t101.d z9L
theorem zdO:zG Pz 98 ⟨[.ty (.sl qf),.qS 99 []],[.bool],λx=>qZ x.1 (λz0=>xU z0)⟩:=xy t102 rn hN Tryz.func98 [] zm
def t103:=t102.d zdO
def Od:zU:=Lz [] [Mr 1 qg,Mm 7 (.sl zX),Mi 8] Oo [ez,rf] λp s=>uH p.1 p.2.1 p.2.2 s
def h39:Hints:=Hz [(0,Od)] [(0,5,.ways [⟨.normal,⟨[Mb 50,.v (.zD zX)],[],[.var (.zD zX)]⟩⟩])] []
theorem z4I:LO Tryz.f39 Od 0:=lk t103 (rz [1]) h39 [] zm
theorem zbC:zG Pz 39 ⟨[.ty qg],[.bool],λx=>bV x⟩:=xy t103 (rz [1]) h39 Tryz.func39 [0] (zZ rfl z4I zm)
def t104:=t103.d zbC
end Go.AM.Lf
namespace Go.Proofs
section
open Go.RowKit
attribute [local go_sem] Oper.semAt_some
set_option maxRecDepth 100000
set_option maxHeartbeats 2000000
theorem mI.size:(Tryz.prog.info? 111).map (·.size)=some 2:=by kernel_rfl
theorem mI.pt:Tryz.prog.underlying 109=some (.pointer 111):=by kernel_rfl
theorem mI.up:Tryz.prog.underlying 191=some .unsafePointer:=by kernel_rfl
theorem mI.used(b:Nat)(w:World)(h0:w.cell? ⟨b,0,none⟩=some (.pointer (some ⟨b,0,none⟩))) :
  Calls Tryz.prog 133 #[.pointer (some ⟨b,0,none⟩)] w λe w'=>e=.returned (.tuple #[])/\w'=w:=by
 obtain⟨j,hj,hjs⟩:=Option.map_eq_some_iff.1 mI.size
 go_enter Tryz.func133,Tryz.ntmps133
 go_wp2
 rw[Lib.run_neq_ptr_same w _ mI.pt hj]
 go_wp2
 go_end0
 exact⟨rfl,rfl⟩
theorem mI.fresh(b:Nat)(w:World)(h0:w.cell? ⟨b,0,none⟩=some (.pointer none))(hsh:w.shape? b=some (111,2))(hfz:w.frozen? ⟨b,0,none⟩=false) :
  Calls Tryz.prog 133 #[.pointer (some ⟨b,0,none⟩)] w λe w'=>e=.returned (.tuple #[])/\w'=w.setCell ⟨b,0,none⟩ (.pointer (some ⟨b,0,none⟩)):=by
 obtain⟨j,hj,hjs⟩:=Option.map_eq_some_iff.1 mI.size
 go_enter Tryz.func133,Tryz.ntmps133
 go_wp2
 rw[Lib.run_to_unsafe w ⟨b,0,none⟩ mI.pt mI.up hj (by rw[hjs]; decide) hsh (Nat.zero_lt_succ 1)]
 simp only[Result.andThen]
 rw[Oper.upon_value]
 go_wp2
 rw[run_callFunc_extern Tryz.func172 (by kernel_rfl) (by kernel_rfl) (by kernel_rfl) (e:=Extern.AbiNoEscape.same) (by kernel_rfl)]
 rw[Lib.run_noEscape]
 simp only[Result.andThen]
 rw[Oper.upon_value]
 go_wp2
 rw[Lib.run_from_unsafe w ⟨b,0,none⟩ mI.up mI.pt hj hsh (by kernel_rfl)]
 simp only[Result.andThen]
 rw[Oper.upon_value]
 go_wp2
 go_end0
 exact⟨rfl,rfl⟩
end
end Go.Proofs

namespace Go.AM.Lf
open Go.Proofs
theorem z8o:xN Tryz.prog 133 ⟨[.ptr],z2n,[],Qo,0,λx=>eZ x.1 x.2⟩:=Y9 (P:=Tryz.prog) (g:=133) (t:=111) (enters_of Tryz.func133 (by kernel_rfl) rfl) mI.used mI.fresh
def t105:=t104.s z8o
theorem zdw:xN Pz 78 ⟨Wd,⟨[Ms 1,.v QN,.a (.int .u8)],[(0,.ptr 0 0)],Wn⟩,[.pcell 0 1 (.int .u8)],⟨[Mi 0,.v QN,.a (.int .u8)],[(1,.qP)],Wn⟩,2,λx=>zY x.1 x.2.1 x.2.2⟩:=J0 t105 rn hN Tryz.func78 [] zm
def t106:=t105.s zdw
theorem zcc:zG Pz 79 ⟨[.ty vn],[.str],λx=>fH x⟩:=xy t106 rn hN Tryz.func79 [] zm
def t107:=t106.d zcc
theorem zcY:zG Pz 82 ⟨[.ty .str],[.str],λx=>cU x⟩:=xy t107 rn hN Tryz.func82 [] zm
def t108:=t107.d zcY
theorem z8q:zG Tryz.prog 177 ⟨[.ty i64],[.str],λx=>strconv_Itoa x⟩:=by
 refine wW Tryz.func177 (by kernel_rfl) rfl λκ n zw y hy hI ha => ?_
 obtain⟨⟨h0,h1⟩,hy⟩:=hy
 cases hy
 obtain⟨v0,r,rfl,JO,ha⟩:=qA.cons_inv (show qA κ [.zD i64 n] zw from ha)
 rw[ha.qc,JO.kT]
 refine(Go.Proofs.Tryz.strconv_Itoa n h0 h1 κ.w (yy hI)).mono ?_
 rintro e w' ⟨rfl,k,os,rfl⟩
 refine⟨BV _ _ _,λ_=>⟨_,rfl,?_⟩⟩
 have e1:Lib.itoa n=fj n:=Rl n
 show RD _ (.zD .str (fj n)) _
 rw[<- e1]
 exact RD.str
def t109:=t108.d z8q
def zbx:Hints:=Hz [] [(3,2,.flat [Ms 3])] []
theorem z6Z:zG Pz 138 ⟨[.ty zL],[.str],λx=>dV x⟩:=xy t109 (rz [1]) zbx Tryz.func138 [] zm
def t110:=t109.d z6Z
def zbI:Hints:=Hz [] [(3,2,.flat [Mb 5]),(3,5,.flat [Mb 8])] []
theorem z6U:zG Pz 208 ⟨[.ty .expr],[i64],λx=>gH x⟩:=xy t110 (rz [1]) zbI Tryz.func208 [] zm
def t111:=t110.d z6U
abbrev z09:=jX [.ty .expr]->T (YD [.str])
abbrev z6m(F:z09):=zG Pz 178 ⟨[.ty .expr],[.str],F⟩
theorem z9E(ny:z09)(HX:z6m ny):zG Pz 207 ⟨[.ty .expr,.ty i64],[.str],λx=>yl (λy0=>ny (y0)) x.1 x.2⟩:=xy (t111.d HX) (rz [2]) hN Tryz.func207 [] zm
def zcq(ny:z09):Hints:=Hz [] [(3,2,.ways [⟨.normal,WR⟩,⟨.ret,⟨[Ms 2],[],[]⟩⟩])] []
theorem z0v(ny:z09)(HX:z6m ny):zG Pz 178 ⟨[.ty .expr],[.str],λx=>cq (λy0=>ny (y0)) x⟩:=xy (t111.d (z9E _ HX)) (rz [1]) (zcq ny) Tryz.func178 [] zm
theorem z9R:zG Pz 178 ⟨[.ty .expr],[.str],λx=>iJ x⟩:=Wx (λny x=>cq (λy0=>ny (y0)) x) (λx=>rfl) (λny HX=>z0v ny HX)
def t112:=t111.d z9R
theorem z7F:zG Pz 139 ⟨[.ty .expr],[.str],λx=>cY x⟩:=xy t112 (rz [1]) hN Tryz.func139 [] zm
def t113:=t112.d z7F
theorem zdF:zG Pz 83 ⟨[.ty .expr,.ty .str,.ty .expr],[.str],λx=>bm x.1 x.2.1 x.2.2⟩:=xy t113 (rz [3,5]) hN Tryz.func83 [] zm
def t114:=t113.d zdF
def ON:zU:=Lz [] [Mi 2,Mr 4 qg,Mm 29 (.sl zL),Mi 30] ⟨[Mi 31,.v QN,.a (.int .u8)],[(0,.ptr 0 0)],Wn⟩ [⟨.exit 0,Qo⟩] λp s=>uz p.1 p.2.1 p.2.2.1 p.2.2.2 s
def Np:zU:=Lz [] [Mi 2,Mm 45 (.sl zX),Mi 46] ⟨[Mi 47,.v QN,.a (.int .u8)],[(0,.ptr 0 0)],Wn⟩ [⟨.exit 2,Qo⟩] λp s=>uC p.1 p.2.1 p.2.2 s
def h80:Hints:=Hz [(0,ON),(2,Np)] [] []
theorem z4h:LO Tryz.f80 ON 0:=lk t114 (rz [4]) h80 [] zm
theorem z3L:LO Tryz.f80 Np 2:=lk t114 (rz [4]) h80 [] zm
theorem zc8:xN Pz 80 ⟨Fu,⟨[Mm 1 qg,Mi 2,.v QN,.a (.int .u8)],[(0,.ptr 0 0)],Wn⟩,[.pcell 0 1 (.int .u8)],Qo,0,λx=>c6 x.1 x.2.1 x.2.2.1 x.2.2.2⟩:=J0 t114 (rz [4]) h80 Tryz.func80 [0,2] (zZ rfl z4h (zZ rfl z3L zm))
def t115:=t114.s zc8
end Go.AM.Lf
namespace Go.Proofs
section
open Go.RowKit
attribute [local go_sem] Oper.semAt_some
set_option maxRecDepth 100000
set_option maxHeartbeats 2000000
theorem mI.mixed:Tryz.prog.follows .mixedOrders=true:=by kernel_rfl
theorem mI.pb:Tryz.prog.underlying 161=some (.pointer 5):=by kernel_rfl
theorem mI.c5:Tryz.prog.cellsOf 5=1:=by kernel_rfl
theorem mI.OS(W:World)(q:Option Addr):(Builtin.unsafeString_ #[161,3] 9 #[.pointer q,.int .i64 0]).run Tryz.prog W=.ok (.string .empty) W:=Lib.run_unsafeString_none W _ _ _ q
theorem mI.nil(b:Nat)(p:Value)(w:World)(Bs:w.heap[b]? = some (.cells #[p,.slice none 0 0] 111 (0,0))) :
  Calls Tryz.prog 84 #[.pointer (some ⟨b,0,none⟩)] w λe w'=>e=.returned (.string ⟨#[]⟩)/\w'=w.drew:=by
 have hUS:=mI.OS
 have c1:w.drew.cell? ⟨b,1,none⟩=some (.slice none 0 0):=by
  have:w.drew.heap[b]? = some (.cells #[p,.slice none 0 0] 111 (0,0)):=Bs
  rw[Lib.cell_of_heap this]; rfl
 have hSD:(Builtin.unsafeSliceData_ #[77] 161 #[.slice none 0 0]).run Tryz.prog w.drew=.ok (.pointer none) w.drew:=rfl
 have mixed:Tryz.prog.follows .mixedOrders=true:=mI.mixed
 go_enter Tryz.func84,Tryz.ntmps84
 go_wp2
 go_region_o
 all_goals (go_wp2; go_ret; exact⟨rfl,rfl⟩)
theorem mI.room(b g o cap:Nat)(p:Value)(w:World)(T4:cap≠0)(Bs:w.heap[b]? = some (.cells #[p,.slice (some ⟨g,o,none⟩) 0 cap] 111 (0,0))) :
  Calls Tryz.prog 84 #[.pointer (some ⟨b,0,none⟩)] w λe w'=>e=.returned (.string ⟨#[]⟩)/\w'=w.drew:=by
 have hUS:=mI.OS
 have c1:w.drew.cell? ⟨b,1,none⟩=some (.slice (some ⟨g,o,none⟩) 0 cap):=by
  have:w.drew.heap[b]? = some (.cells #[p,.slice (some ⟨g,o,none⟩) 0 cap] 111 (0,0)):=Bs
  rw[Lib.cell_of_heap this]; rfl
 have hSD:(Builtin.unsafeSliceData_ #[77] 161 #[.slice (some ⟨g,o,none⟩) 0 cap]).run Tryz.prog w.drew=.ok (.pointer (some ⟨g,o,none⟩)) w.drew :=
  Lib.run_unsafeSliceData_row _ _ _ _ _ _ T4
 clear T4
 have mixed:Tryz.prog.follows .mixedOrders=true:=mI.mixed
 go_enter Tryz.func84,Tryz.ntmps84
 go_wp2
 go_region_o
 all_goals (go_wp2; go_ret; exact⟨rfl,rfl⟩)
theorem mI.full(b g cap:Nat)(p:Value)(cur:Array Value)(l:List UInt8)(w:World)(h0:l≠[])(wM:l.length<=cap)(z14:l.length<=140737488355328)(Bs:w.heap[b]? = some (.cells #[p,.slice (some ⟨g,0,none⟩) l.length cap] 111 (0,0)))
  (hg:w.heap[g]? = some (.cells cur 5 (0,0))) (zg6:l.length<=cur.size) (rh:∀ j x,l[j]? = some x->w.cell? ⟨g,j,none⟩=some (.int .u8 x.toNat)) :
  Calls Tryz.prog 84 #[.pointer (some ⟨b,0,none⟩)] w λe w'=>e=.returned (.string ⟨l.toArray⟩)/\w'=w.drew.freeze ⟨g,0,none⟩ l.length:=by
 have hl0:l.length≠0:=by simpa using h0
 have c1:w.drew.cell? ⟨b,1,none⟩=some (.slice (some ⟨g,0,none⟩) l.length cap):=by
  have:w.drew.heap[b]? = some (.cells #[p,.slice (some ⟨g,0,none⟩) l.length cap] 111 (0,0)):=Bs
  rw[Lib.cell_of_heap this]; rfl
 have hSD:(Builtin.unsafeSliceData_ #[77] 161 #[.slice (some ⟨g,0,none⟩) l.length cap]).run Tryz.prog w.drew=.ok (.pointer (some ⟨g,0,none⟩)) w.drew :=
  Lib.run_unsafeSliceData_row _ _ _ _ _ _ (by omega)
 have hUS:(Builtin.unsafeString_ #[161,3] 9 #[.pointer (some ⟨g,0,none⟩),.int .i64 l.length]).run Tryz.prog w.drew=.ok (.string ⟨l.toArray⟩) (w.drew.freeze ⟨g,0,none⟩ l.length):=by
  refine Lib.run_unsafeString_row w.drew 161 3 9 5 mI.pb mI.c5 g cur.size (by have hg':w.drew.heap[g]? = some (.cells cur 5 (0,0)):=hg; simp[World.shape?,hg']) l h0 (by omega) (by omega) ?_
  intro j x hx
  have e:(⟨g,0,none⟩:Addr).add j=⟨g,j,none⟩:=by unfold Addr.add; split<;>simp_all
  rw[e]
  exact rh j x hx
 have mixed:Tryz.prog.follows .mixedOrders=true:=mI.mixed
 go_enter Tryz.func84,Tryz.ntmps84
 go_wp2
 go_region_o
 all_goals (go_wp2; go_ret; exact⟨rfl,rfl⟩)
theorem mI.z2Y(b g o:Nat)(p:Value)(cur:Array Value)(w:World)(Bs:w.heap[b]? = some (.cells #[p,.slice (some ⟨g,o,none⟩) 0 0] 111 (0,0)))(hg:w.heap[g]? = some (.cells cur 5 (0,0))) :
  Calls Tryz.prog 84 #[.pointer (some ⟨b,0,none⟩)] w λe w'=>e=.returned (.string ⟨#[]⟩)/\w'=w.drew.alloc (.view ⟨g,o,none⟩ 5):=by
 have hUS:=mI.OS
 have qs:b<w.heap.size:=by
  rcases Nat.lt_or_ge b w.heap.size with h' | h'
  ·exact h'
  ·simp[Array.getElem?_eq_none h']at Bs
 have c1:w.drew.cell? ⟨b,1,none⟩=some (.slice (some ⟨g,o,none⟩) 0 0):=by
  have:w.drew.heap[b]? = some (.cells #[p,.slice (some ⟨g,o,none⟩) 0 0] 111 (0,0)):=Bs
  rw[Lib.cell_of_heap this]; rfl
 have hSD:(Builtin.unsafeSliceData_ #[77] 161 #[.slice (some ⟨g,o,none⟩) 0 0]).run Tryz.prog w.drew=.ok (.pointer (some ⟨w.drew.heap.size,0,none⟩)) (w.drew.alloc (.view ⟨g,o,none⟩ 5)) :=
  Lib.run_unsafeSliceData_zero w.drew _ _ 5 mI.pb ⟨g,o,none⟩ 0 (5,cur.size) (by have hg':w.drew.heap[g]? = some (.cells cur 5 (0,0)):=hg; simp[World.shape?,hg'])
 have c2:(w.drew.alloc (.view ⟨g,o,none⟩ 5)).cell? ⟨b,1,none⟩=some (.slice (some ⟨g,o,none⟩) 0 0):=by
  have:(w.drew.alloc (.view ⟨g,o,none⟩ 5)).heap[b]? = _:=(Lib.alloc_old w.drew _ b qs).trans Bs
  rw[Lib.cell_of_heap this]; rfl
 have c3:(w.alloc (.view ⟨g,o,none⟩ 5)).drew.cell? ⟨b,1,none⟩=some (.slice (some ⟨g,o,none⟩) 0 0):=c2
 have c0:w.cell? ⟨b,1,none⟩=some (.slice (some ⟨g,o,none⟩) 0 0):=c1
 have mixed:Tryz.prog.follows .mixedOrders=true:=mI.mixed
 go_enter Tryz.func84,Tryz.ntmps84
 go_wp2
 go_region_o
 all_goals (go_wp2; go_ret; exact⟨rfl,rfl⟩)
end
end Go.Proofs

namespace Go.AM.Lf
open Go.Proofs
theorem zds:xN Tryz.prog 84 ⟨[.ptr],z2n,[],⟨[Ms 0,.v (.st [.op 0 111,.un])],[],[.var (.st [.op 0 111,.un]),.dead]⟩,1,λx=>iw x.1 x.2⟩:=Lm (P:=Tryz.prog) (g:=84) (t:=111) (enters_of Tryz.func84 (by kernel_rfl) rfl) mI.nil mI.room mI.full mI.z2Y
def t116:=t115.s zds
def P0:zU:=Lz [.cell 0 1 (.int .u8)] [Mr 1 qg,Mm 13 (.sl zJ),Mi 14] ⟨[Mi 15,.v QN,.a (.int .u8)],[(3,.ptr 0 0)],Wn⟩ [⟨.exit 0,Qo⟩] λp s=>jg p.1 p.2.1 p.2.2 s
def R0:zU:=Lz [] [Mr 1 qg,Mm 29 (.sl zP),Mi 30] ⟨[Mi 31,.v QN,.a (.int .u8)],[(3,.ptr 0 0)],Wn⟩ [⟨.exit 2,Qo⟩] λp s=>jr p.1 p.2.1 p.2.2 s
def Mz:zU:=Lz [] [Mr 1 qg,Mi 48] ⟨[Mi 49,.v QN,.a (.int .u8)],[(3,.ptr 0 0)],Wn⟩ [⟨.exit 4,Qo⟩] λp s=>jk p.1 p.2 s
def RC:zU:=Lz [] [Mm 57 (.sl qf),Mi 58] ⟨[Mi 59,.v QN,.a (.int .u8)],[(3,.ptr 0 0)],Wn⟩ [⟨.exit 6,Qo⟩] λp s=>j9 p.1 p.2 s
def Ou:Hints:=Hz [(0,P0),(2,R0),(4,Mz),(6,RC)] [(3,6,.flat [Ms 6])] []
theorem z3f:LO Tryz.f36 P0 0:=lk t116 (rz [1]) Ou [] zm
theorem z4Q:LO Tryz.f36 R0 2:=lk t116 (rz [1]) Ou [] zm
theorem z3y:LO Tryz.f36 Mz 4:=lk t116 (rz [1]) Ou [] zm
theorem z2E:LO Tryz.f36 RC 6:=lk t116 (rz [1]) Ou [] zm
theorem zby:zG Pz 36 ⟨[.ty qg],[.str],λx=>bB x⟩:=xy t116 (rz [1]) Ou Tryz.func36 [0,2,4,6] (zZ rfl z3f (zZ rfl z4Q (zZ rfl z3y (zZ rfl z2E zm))))
def t117:=t116.d zby
theorem zaX:zG Pz 20 ⟨[.ty qg],[.bool],λx=>kH x⟩:=xy t117 (rz [1]) hN Tryz.func20 [] zm
def t118:=t117.d zaX
theorem zcI:zG Pz 16 ⟨[.ty qg],[.str],λx=>vQ x⟩:=xy t118 (rz [1]) hN Tryz.func16 [] zm
def t119:=t118.d zcI
theorem zdp:zG Tryz.prog 22 ⟨[.ty .str,.ty .str],[.sl .str],λx=>strings_Split x.1 x.2⟩:=by
 refine wW Tryz.func22 (by kernel_rfl) rfl λκ x zw y hy hI ha => ?_
 obtain⟨s,sep⟩:=x
 obtain⟨⟨h0,h1⟩,hy⟩:=hy
 cases hy
 obtain⟨v0,r,rfl,JO,ha⟩:=qA.cons_inv (show qA κ [.zD .str s,.zD .str sep] zw from ha)
 obtain⟨v1,r,rfl,Ds,ha⟩:=ha.cons_inv
 rw[ha.qc,JO.wj,Ds.wj]
 obtain⟨m,hm⟩:=wI hI
 refine(Go.Proofs.Tryz.strings_Split ⟨s.toArray⟩ ⟨sep.toArray⟩ m κ.w (by rw[show(ByteArray.size ⟨s.toArray⟩)=List.length s from List.size_toArray]; exact h0) hm (by rw[show(ByteArray.size ⟨sep.toArray⟩)=List.length sep from List.size_toArray]; simp only at h1; omega)).mono ?_
 rintro e w' ⟨rfl,rfl⟩
 refine⟨Q8 _ _,λ_=>⟨_,rfl,?_⟩⟩
 exact OU s sep h1 _
def t120:=t119.d zdp
theorem zbG:zG Tryz.prog 52 ⟨[.ty .str,.ty .str],[.str,.str,.bool],λx=>strings_Cut x.1 x.2⟩:=by
 refine wW Tryz.func52 (by kernel_rfl) rfl λκ x zw y hy hI ha => ?_
 obtain⟨s,sep⟩:=x
 obtain⟨h0,hy⟩:=hy
 cases hy
 obtain⟨v0,r,rfl,JO,ha⟩:=qA.cons_inv (show qA κ [.zD .str s,.zD .str sep] zw from ha)
 obtain⟨v1,r,rfl,Ds,ha⟩:=ha.cons_inv
 rw[ha.qc,JO.wj,Ds.wj]
 obtain⟨m,hm⟩:=wI hI
 refine(Go.Proofs.Tryz.strings_Cut ⟨s.toArray⟩ ⟨sep.toArray⟩ m κ.w (by rw[show(ByteArray.size ⟨s.toArray⟩)=List.length s from List.size_toArray]; exact h0) hm).mono ?_
 rintro e w' ⟨rfl,n,rfl⟩
 refine⟨below_drewN _ _,λ_=>⟨_,rfl,?_⟩⟩
 rw[show Lib.cut (⟨s.toArray⟩:ByteArray).data.toList (⟨sep.toArray⟩:ByteArray).data.toList=ua s sep from Rb s sep]
 exact RD.zda RD.str RD.str RD.bool
def t121:=t120.d zbG
theorem z8Z:zG Pz 108 ⟨[.ty (.int .i32)],[.bool],λx=>yN x⟩:=xy t121 rn hN Tryz.func108 [] zm
def t122:=t121.d z8Z
theorem T6(w:World):Go.Proofs.PredAtRunes Tryz.prog 108 #[] (λn=>n==32) w:=λW x hx hb=>by
 show Calls Tryz.prog 108 #[.int .i32 (x:Int)] W _
 have hn:Tryz.f108.ntmps=5:=by kernel_rfl
 have hd:((x:Int)==32)=(x==32):=by rw[Bool.eq_iff_iff,beq_iff_eq,beq_iff_eq]; omega
 go_enter Tryz.func108,hn
 go_wp2
 go_ret
 exact⟨by rw[<- hd]; rfl,0,rfl⟩
theorem z6S:zG Tryz.prog 107 ⟨[.ty .str,.qS 108 []],[.sl .str],λx=>strings_FieldsFunc x.1 (λz0=>yN z0)⟩:=by
 refine wW Tryz.func107 (by kernel_rfl) rfl λκ x zw y hy hI ha => ?_
 obtain⟨s,c⟩:=x
 obtain⟨h0,hy⟩:=hy
 cases hy
 obtain⟨v0,r,rfl,JO,ha⟩:=qA.cons_inv (show qA κ [.zD .str s,.qS 108 []] zw from ha)
 obtain⟨v1,r,rfl,Ds,ha⟩:=ha.cons_inv
 rw[ha.qc,JO.wj,Ds.PH (by rfl)]
 refine(Go.Proofs.Tryz.strings_FieldsFunc_runes 108 #[] (λargs w=>lQ Tryz.func108 (by kernel_rfl) rfl w) (λn=>n==32) ⟨s.toArray⟩ κ.w (by rw[show(ByteArray.size ⟨s.toArray⟩)=List.length s from List.size_toArray]; exact h0) (T6 κ.w)).mono ?_
 rintro e w' ⟨A,rfl,hA,ho,hB⟩
 refine⟨hB,λ_=>⟨_,rfl,?_⟩⟩
 exact LM s ho
def t123:=t122.d z6S
theorem zb4:zG Pz 53 ⟨[.ty .str],[(.sl .str)],λx=>dR x⟩:=xy t123 rn hN Tryz.func53 [] zm
def t124:=t123.d zb4
theorem z8d:zG Tryz.prog 155 ⟨[.ty .str,.ty .str],[i64],λx=>strings_IndexAny x.1 x.2⟩:=by
 refine wW Tryz.func155 (by kernel_rfl) rfl λκ x zw y hy hI ha => ?_
 obtain⟨s,chars⟩:=x
 obtain⟨⟨h0,h1,h2,h3⟩,hy⟩:=hy
 cases hy
 obtain⟨v0,r,rfl,JO,ha⟩:=qA.cons_inv (show qA κ [.zD .str s,.zD .str chars] zw from ha)
 obtain⟨v1,r,rfl,Ds,ha⟩:=ha.cons_inv
 rw[ha.qc,JO.wj,Ds.wj]
 refine(Go.Proofs.Any.ni Go.Proofs.Tryz.lays153 (λ_=>by kernel_rfl) (by kernel_rfl) ⟨s.toArray⟩ ⟨chars.toArray⟩ κ.w (by rw[show(ByteArray.size ⟨chars.toArray⟩)=List.length chars from List.size_toArray]; exact h1) (by rw[show(ByteArray.size ⟨s.toArray⟩)=List.length s from List.size_toArray]; exact h0) (by rw[show(ByteArray.size ⟨chars.toArray⟩)=List.length chars from List.size_toArray]; exact h2) h3).mono ?_
 rintro e w' ⟨rfl,hB⟩
 refine⟨hB,λ_=>⟨_,rfl,?_⟩⟩
 have e1:Lib.indexAny s chars=yZ s chars:=JB chars s
 show RD _ (.zD i64 (yZ s chars)) _
 rw[<- e1]
 exact RD.int
def t125:=t124.d z8d
def zdi:Hints:=Hz [] [(0,1,.flat [Mb 4])] []
theorem za7:zG Pz 193 ⟨[.ty .str,.ty .str],[.bool],λx=>xr x.1 x.2⟩:=xy t125 rn zdi Tryz.func193 [] zm
def t126:=t125.d za7
theorem z8E:zG Pz 156 ⟨[.ty .str,.ty .str],[.bool],λx=>strings_HasPrefix x.1 x.2⟩:=xy t126 rn hN Tryz.func156 [] zm
def t127:=t126.d z8E
def F7:zU:=Lz [] [] p7 [PK] λp s=>xI  s
def z92:Hints:=Hz [(0,F7)] [(0,0,.flat [Mb 23])] []
theorem z0V:LO Tryz.f265 F7 0:=lk t127 rn z92 [] zm
theorem z5F:xN Pz 265 ⟨[.ptr],p7,[],Ed,0,λx=>vL x⟩:=J0 t127 rn z92 Tryz.func265 [0] (zZ rfl z0V zm)
def t128:=t127.s z5F
theorem z5B:zG Tryz.prog 216 ⟨[.ty .str,.ty (.int .u8)],[i64],λx=>strings_IndexByte x.1 x.2⟩:=by
 refine wW Tryz.func216 (by kernel_rfl) rfl λκ x zw y hy hI ha => ?_
 obtain⟨s,c⟩:=x
 cases hy
 obtain⟨v0,r,rfl,JO,ha⟩:=qA.cons_inv (show qA κ [.zD .str s,.zD (.int .u8) c] zw from ha)
 obtain⟨v1,r,rfl,Ds,ha⟩:=ha.cons_inv
 rw[ha.qc,JO.wj,Ds.kT]
 refine(Go.Proofs.Tryz.strings_IndexByte ⟨s.toArray⟩ c κ.w).mono ?_
 rintro e w' ⟨rfl,rfl⟩
 refine⟨ri _,λ_=>⟨_,rfl,?_⟩⟩
 have e1:Lib.indexByte s (byteOf c)=mc s (byteOf c):=z0x s (byteOf c)
 show RD _ (.zD i64 (mc s (byteOf c))) _
 rw[<- e1]
 exact RD.int
def t129:=t128.d z5B
def zcV:Hints:=Hz [] [(0,2,.ways [⟨.normal,⟨[Mb 30,.v (.zD zI)],[],s9⟩⟩])] []
theorem z7C:xN Pz 250 ⟨Wd,⟨[Ms 1,.v (.zD zI)],[(0,.ptr 0 0)],s9⟩,[],⟨[Mm 0 (.int .u8),.v (.zD zI)],[],s9⟩,1,λx=>qT x.1 x.2⟩:=J0 t129 rn zcV Tryz.func250 [] zm
def t130:=t129.s z7C
theorem z8b:jV Pz 220 ⟨Fu,⟨[Mi 1,Mi 2,.v (.zD zI)],[(0,.ptr 0 0)],s9⟩,[],Ed,0,226,tx,λx=>xG x.1 x.2.1 x.2.2⟩:=fkp t130 rn hN Tryz.func220 [] zm
def t131:=t130.p z8b
theorem z9F:jV Pz 266 ⟨[.ptr],p7,[],Ed,0,226,tx,λx=>wu x⟩:=fkp t131 rn hN Tryz.func266 [] zm
def t132:=t131.p z9F
def E1:zU:=Lz [] [.s 1 (.qS 179 []),Mi 2,Mi 7] p7 [PK] λp s=>qL (λz0=>xD z0) p.2.1 p.2.2 s
def z5D:Hints:=Hz [(0,E1)] [(0,2,.ways [z2o])] []
theorem z10:LO Tryz.f268 E1 0:=lk t132 rn z5D [] zm
theorem z81:xN Pz 268 ⟨[.ptr,.qS 179,.any],⟨[.s 1 (.qS 179 []),Mi 2,.v (.zD zI)],[(0,.ptr 0 0)],s9⟩,[],z2v,1,λx=>qU (λz0=>xD z0) x.2.1 x.2.2⟩:=J0 t132 rn z5D Tryz.func268 [0] (zZ rfl z10 zm)
def t133:=t132.s z81
theorem z8i:zG Tryz.prog 159 ⟨[.ty .str,.ty .str],[.str,.bool],λx=>strings_CutPrefix x.1 x.2⟩:=by
 refine wW Tryz.func159 (by kernel_rfl) rfl λκ x zw y hy hI ha => ?_
 obtain⟨s,p⟩:=x
 cases hy
 obtain⟨v0,r,rfl,JO,ha⟩:=qA.cons_inv (show qA κ [.zD .str s,.zD .str p] zw from ha)
 obtain⟨v1,r,rfl,Ds,ha⟩:=ha.cons_inv
 rw[ha.qc,JO.wj,Ds.wj]
 refine(Go.Proofs.Tryz.strings_CutPrefix ⟨s.toArray⟩ ⟨p.toArray⟩ κ.w).mono ?_
 rintro e w' ⟨rfl,rfl⟩
 refine⟨ri _,λ_=>⟨_,rfl,?_⟩⟩
 exact RD.z63 RD.str RD.bool
def t134:=t133.d z8i
def FX:zU:=Lz [] [Mm 1 (.int .u8)] Gq [EB] λp s=>kD p s
def z5x:Hints:=Hz [(0,FX)] [(0,1,.flat [Mb 16])] []
theorem T7:LO Tryz.f222 FX 0:=lk t134 rn z5x [] zm
theorem z7t:zG Pz 222 ⟨[.ty .str,.ty (.int .u8)],[.str],λx=>strings_trimRightByte x.1 x.2⟩:=xy t134 rn z5x Tryz.func222 [0] (zZ rfl T7 zm)
def t135:=t134.d z7t
def Ff:zU:=Lz [] [Mm 1 (.int .u8)] Gq [EB] λp s=>yj p s
def z6o:Hints:=Hz [(0,Ff)] [(0,1,.flat [Mb 13])] []
theorem S8:LO Tryz.f221 Ff 0:=lk t135 rn z6o [] zm
theorem z9s:zG Pz 221 ⟨[.ty .str,.ty (.int .u8)],[.str],λx=>strings_trimLeftByte x.1 x.2⟩:=xy t135 rn z6o Tryz.func221 [0] (zZ rfl S8 zm)
def t136:=t135.d z9s
theorem z5A:zG Tryz.prog 191 ⟨[.ty .str],[(cj .bool 256),.bool],λx=>strings_makeASCIISet x⟩:=by
 refine wW Tryz.func191 (by kernel_rfl) rfl λκ s zw y hy hI ha => ?_
 obtain⟨⟨h0,h1⟩,hy⟩:=hy
 cases hy
 obtain⟨v0,r,rfl,JO,ha⟩:=qA.cons_inv (show qA κ [.zD .str s] zw from ha)
 rw[ha.qc,JO.wj]
 refine(Go.Proofs.Tryz.strings_makeASCIISet (λ_=>by kernel_rfl) ⟨s.toArray⟩ κ.w (by rw[show(ByteArray.size ⟨s.toArray⟩)=List.length s from List.size_toArray]; exact h0) (by simpa using h1)).mono ?_
 rintro e w' ⟨rfl,rfl⟩
 refine⟨Q8 _ _,λ_=>⟨_,rfl,?_⟩⟩
 exact RD.z63 (Rh s) RD.bool
def t137:=t136.d z5A
theorem z9N:zG Pz 192 ⟨[.rp (cj .bool 256),.ty (.int .u8)],[.bool],λx=>xw x.1 x.2⟩:=xy t137 rn hN Tryz.func192 [] zm
def t138:=t137.d z9N
def Ig:zU:=Lz [] [Mr 1 (cj .bool 256)] Gq [EB] λp s=>xv p s
def z7h:Hints:=Hz [(0,Ig)] [] []
theorem SQ:LO Tryz.f224 Ig 0:=lk t138 rn z7h [] zm
theorem z5O:zG Pz 224 ⟨[.ty .str,.rp (cj .bool 256)],[.str],λx=>wO x.1 x.2⟩:=xy t138 rn z7h Tryz.func224 [0] (zZ rfl SQ zm)
def t139:=t138.d z5O
def Ie:zU:=Lz [] [Mr 1 (cj .bool 256)] Gq [EB] λp s=>xA p s
def z6c:Hints:=Hz [(0,Ie)] [] []
theorem z1a:LO Tryz.f223 Ie 0:=lk t139 rn z6c [] zm
theorem z9H:zG Pz 223 ⟨[.ty .str,.rp (cj .bool 256)],[.str],λx=>vt x.1 x.2⟩:=xy t139 rn z6c Tryz.func223 [0] (zZ rfl z1a zm)
def t140:=t139.d z9H
def zdh:Hints:=Hz [] [(0,1,.flat [Mb 12]),(0,3,.flat [Mb 21])] []
theorem z6I:zG Pz 196 ⟨[.ty .str,.ty .str],[.str],λx=>jG x.1 x.2⟩:=xy t140 rn zdh Tryz.func196 [] zm
def t141:=t140.d z6I
def Ec:zU:=Lz [] [Mm 0 (.sl u32),Mm 1 (.sl u32),Mm 24 (.sl u32),Mi 25] ⟨[Mm 6 (.int .u64),Mi 26,.a u32],[(5,.cur 0 u32)],yw⟩ [⟨.exit 0,⟨[Mm 6 (.int .u64),.a u32],[(5,.cur 0 u32)],yw⟩⟩] λp s=>lg p.1 p.2.1 p.2.2.1 p.2.2.2 s
def z9e:Hints:=Hz [(0,Ec)] [(3,2,.flat [Mm 0 (.sl u32),Mm 1 (.sl u32)]),(3,10,.flat [Mm 6 (.int .u64)])] [(16,[5])]
theorem TB:LO Tryz.f197 Ec 0:=lk t141 rn z9e [] zm
theorem z89:zG Pz 197 ⟨[.ty (.sl u32),.ty (.sl u32)],[(.sl u32)],λx=>Xg x.1 x.2⟩:=xy t141 rn z9e Tryz.func197 [0] (zZ rfl TB zm)
def t142:=t141.d z89
def FM:zU:=Lz [] [Ms 0,Mi 19] ⟨[Mm 4 (.sl u32),Mi 20],[],[]⟩ [⟨.exit 0,⟨[Mm 4 (.sl u32)],[],[]⟩⟩] λp s=>yG p.1 p.2 s
def z6t:Hints:=Hz [(0,FM)] [(0,1,.ways [z2w])] []
theorem TR:LO Tryz.f160 FM 0:=lk t142 rn z6t [] zm
theorem z9Z:zG Pz 160 ⟨[.ty .str],[(.sl u32),.bool],λx=>vb x⟩:=xy t142 rn z6t Tryz.func160 [0] (zZ rfl TR zm)
def t143:=t142.d z9Z
def zcC:Hints:=Hz [] [(0,9,.flat [Mb 58]),(3,13,.flat [Ms 14]),(0,17,.flat [Mb 94])] []
theorem z7j:zG Pz 113 ⟨[.ty .str],[vn,i64],λx=>yq x⟩:=xy t143 rn zcC Tryz.func113 [] zm
def t144:=t143.d z7j
def zbd:Hints:=Hz [] [(0,2,.flat [Mb 35]),(3,2,.ways [⟨.normal,⟨[Ms 3,.v (.zD zI),.v (.zD .expr)],[],Fk⟩⟩,⟨.kb (.iface 226 .qP),⟨[Mm 0 xk,.v (.zD zI),.v (.zD .expr)],[],Fk⟩⟩])] []
theorem z8F:jV Pz 267 ⟨[.ptr],p7,[],QV,1,226,tx,λx=>vO x⟩:=fkp t144 rn zbd Tryz.func267 [] zm
def t145:=t144.p z8F
def UL:zU:=Lz [] [.s 1 (.qS 142 []),Mi 2,Mi 7] p7 [PK] λp s=>qL (λz0=>wP z0) p.2.1 p.2.2 s
def N2:Hints:=Hz [(0,UL)] [(0,2,.ways [z2o])] []
theorem M6:LO Tryz.f268 UL 0:=lk t145 rn N2 [] zm
theorem E6:xN Pz 268 ⟨[.ptr,.qS 142,.any],⟨[.s 1 (.qS 142 []),Mi 2,.v (.zD zI)],[(0,.ptr 0 0)],s9⟩,[],z2v,1,λx=>qU (λz0=>wP z0) x.2.1 x.2.2⟩:=J0 t145 rn N2 Tryz.func268 [0] (zZ rfl M6 zm)
def t146:=t145.s E6
abbrev z3C:=vH.den p7->T (vH.den QV⊕vH.den tx)
abbrev zbU(F:z3C):=jV Pz 251 ⟨[.ptr],p7,[],QV,1,226,tx,F⟩
abbrev pc:=vH.den p7->T (vH.den QV⊕vH.den tx)
abbrev Ud(F:pc):=jV Pz 219 ⟨[.ptr],p7,[],QV,1,226,tx,F⟩
def zch(Qp:z3C)(qH:pc):Hints:=Hz [] [(3,10,.ways [⟨.normal,MZ⟩,⟨.kb (.iface 226 .qP),PN⟩]),(0,14,.ways [⟨.normal,⟨[Mb 46,.v (.zD zI),.v (.zD .expr)],[],Fk⟩⟩]),(0,16,.ways [⟨.normal,⟨[Mb 71,.v (.zD zI),.v (.zD .expr)],[],Fk⟩⟩])] []
theorem Sj(Qp:z3C)(Rr:zbU Qp)(qH:pc)(j7:Ud qH):jV Pz 251 ⟨[.ptr],p7,[],QV,1,226,tx,λx=>xO (λy0=>Qp (y0)) (λy0=>qH (y0)) x⟩:=fkp (((t146.s E6).p j7).p Rr) rn (zch Qp qH) Tryz.func251 [] zm
theorem z6B(qH:pc)(j7:Ud qH):jV Pz 251 ⟨[.ptr],p7,[],QV,1,226,tx,λx=>xi (λy0=>qH (y0)) x⟩:=Ep (λQp x=>xO (λy0=>Qp (y0)) (λy0=>qH (y0)) x) (λx=>rfl) (λQp Rr=>Sj Qp Rr qH j7)
def z7v(qH:pc)(j7:Ud qH):Tb:=t146.p (z6B _ j7)
def Fq(qH:pc):zU:=Lz [] [Ms 2,Mr 7 xk] ⟨[.v (.zD zI),.v (.zD .expr),.v (.zD .expr)],[(0,.ptr 0 0),(1,.qS 1000251 [(0,0)]),(8,.ptr 1 0),(9,.ptr 2 0)],EM⟩ [⟨.ret,MZ⟩,⟨.kb (.iface 226 .qP),PN⟩] λp s=>we (λy0=>qH (y0)) p.1 p.2 s
def z5K(qH:pc):Hints:=Hz [(0,Fq qH)] [] []
theorem z0G(qH:pc)(j7:Ud qH):LO Tryz.f237 (Fq qH) 0:=lk (z7v qH j7) (rz [7]) (z5K qH) [] zm
theorem z6y(qH:pc)(j7:Ud qH):jV Pz 237 ⟨[.ptr,.qS 1000251,.any,.any],⟨[.s 1 (.mclo 1000251 [.pt 0]),Ms 2,Mm 3 xk,.v (.zD zI)],[(0,.ptr 0 0)],s9⟩,[],QV,1,226,tx,λx=>xx (λy0=>qH (y0)) x.1 x.2.1 x.2.2.1 x.2.2.2⟩:=fkp (z7v qH j7) (rz [7]) (z5K qH) Tryz.func237 [0] (zZ rfl (z0G qH j7) zm)
theorem z9i(qH:pc)(j7:Ud qH):jV Pz 238 ⟨[.ptr],p7,[],QV,1,226,tx,λx=>qW (λy0=>qH (y0)) x⟩:=fkp (t146.p (z6y _ j7)) rn hN Tryz.func238 [] zm
def OR(qH:pc)(j7:Ud qH):Tb:=t146.p (z9i _ j7)
def UJ(qH:pc):zU:=Lz [] [Ms 2,Mr 7 xk] ⟨[.v (.zD zI),.v (.zD .expr),.v (.zD .expr)],[(0,.ptr 0 0),(1,.qS 1000238 [(0,0)]),(8,.ptr 1 0),(9,.ptr 2 0)],EM⟩ [⟨.ret,MZ⟩,⟨.kb (.iface 226 .qP),PN⟩] λp s=>w9 (λy0=>qH (y0)) p.1 p.2 s
def R6(qH:pc):Hints:=Hz [(0,UJ qH)] [] []
theorem M1(qH:pc)(j7:Ud qH):LO Tryz.f237 (UJ qH) 0:=lk (OR qH j7) (rz [7]) (R6 qH) [] zm
theorem Sf(qH:pc)(j7:Ud qH):jV Pz 237 ⟨[.ptr,.qS 1000238,.any,.any],⟨[.s 1 (.mclo 1000238 [.pt 0]),Ms 2,Mm 3 xk,.v (.zD zI)],[(0,.ptr 0 0)],s9⟩,[],QV,1,226,tx,λx=>xp (λy0=>qH (y0)) x.1 x.2.1 x.2.2.1 x.2.2.2⟩:=fkp (OR qH j7) (rz [7]) (R6 qH) Tryz.func237 [0] (zZ rfl (M1 qH j7) zm)
theorem z0X(qH:pc)(j7:Ud qH):jV Pz 219 ⟨[.ptr],p7,[],QV,1,226,tx,λx=>u7 (λy0=>qH (y0)) x⟩:=fkp (t146.p (Sf _ j7)) rn hN Tryz.func219 [] zm
theorem z8P:jV Pz 219 ⟨[.ptr],p7,[],QV,1,226,tx,λx=>vN x⟩:=Ep (λqH x=>u7 (λy0=>qH (y0)) x) (λx=>rfl) (λqH j7=>z0X qH j7)
def t147:=t146.p z8P
theorem z7P:yb (Mj Pz) 218 ⟨[.ptr,.ptr,.ptr],⟨[.v (.zD .expr),.v (.zD i64),.v (.zD i64)],[(0,.ptr 0 0),(1,.ptr 1 0),(2,.ptr 2 0)],PV⟩,[],z2A,0,λx=>jC x.1 x.2.1 x.2.2⟩:=fkr t147 rn hN Tryz.func218
theorem z0t:yb (Ml Pz 226) 218 ⟨[.ptr,.ptr,.ptr,.any],⟨[Mm 3 xk,.v (.zD .expr),.v (.zD i64),.v (.zD i64)],[(0,.ptr 0 0),(1,.ptr 1 0),(2,.ptr 2 0)],PV⟩,[],z2A,0,λx=>uU x.1 x.2.1 x.2.2.1 x.2.2.2⟩:=fkh t147 rn hN Tryz.func218 3
theorem z8h:xN Pz 194 ⟨[.ptr],p7,[],⟨[Mm 0 .expr,Mi 1,Mi 2,.v (.zD zI)],[],s9⟩,3,λx=>uX x⟩:=fkf t147 rn hN (g:=218) (pt:=226) z7P z0t Tryz.func194
def t148:=t147.s z8h
def zcl:Hints:=Hz [] [(0,5,.ways [⟨.normal,⟨[Mb 31,.v (.zD .expr),.v (.zD zI),.v (.zD .expr)],[],[.var (.zD .expr),.var (.zD zI),.var (.zD .expr)]⟩⟩])] []
theorem z7W:zG Pz 157 ⟨[.ty .str],[.expr,i64,i64],λx=>jt x⟩:=xy t148 rn zcl Tryz.func157 [] zm
def t149:=t148.d z7W
theorem z7w:zG Tryz.prog 158 ⟨[.ty .str,.ty .str],[.bool],λx=>strings_Contains x.1 x.2⟩:=by
 refine wW Tryz.func158 (by kernel_rfl) rfl λκ x zw y hy hI ha => ?_
 obtain⟨s,sub⟩:=x
 obtain⟨h0,hy⟩:=hy
 cases hy
 obtain⟨v0,r,rfl,JO,ha⟩:=qA.cons_inv (show qA κ [.zD .str s,.zD .str sub] zw from ha)
 obtain⟨v1,r,rfl,Ds,ha⟩:=ha.cons_inv
 rw[ha.qc,JO.wj,Ds.wj]
 obtain⟨m,hm⟩:=wI hI
 refine(Go.Proofs.Tryz.strings_Contains ⟨s.toArray⟩ ⟨sub.toArray⟩ m κ.w (by rw[show(ByteArray.size ⟨s.toArray⟩)=List.length s from List.size_toArray]; exact h0) hm).mono ?_
 rintro e w' ⟨rfl,rfl⟩
 refine⟨ri _,λ_=>⟨_,rfl,?_⟩⟩
 have e1:Lib.contains s sub=decide ((0:Int)<=cn s sub):=contains_eq s sub
 show RD _ (.zD .bool (decide ((0:Int)<=cn s sub))) _
 rw[<- e1]
 exact RD.bool
def t150:=t149.d z7w
def zbi:Hints:=Hz [] [(0,6,.ways [⟨.normal,⟨[Mb 34,.v (.zD .expr),.v (.zD .expr)],[],Ib⟩⟩]),(3,6,.ways [⟨.normal,⟨[Ms 6,Ms 10,.v (.zD .expr),.v (.zD .expr)],[],Ib⟩⟩]),(0,12,.ways [⟨.normal,⟨[Mb 61,.v (.zD .expr),.v (.zD .expr)],[],Ib⟩⟩]),(3,11,.ways [⟨.normal,⟨[Mi 7,.v (.zD .expr),.v (.zD .expr)],[],Ib⟩⟩])] []
theorem z7q:zG Pz 109 ⟨[.ty .str,.ty .str],[.expr,.expr,.str,i64],λx=>vr x.1 x.2⟩:=xy t150 rn zbi Tryz.func109 [] zm
def t151:=t150.d z7q
def F6:zU:=Lz [] [Mm 0 (.sl .str),Ms 1,Mi 7] UM [ez,Wt] λp s=>qJ p.1 p.2.1 p.2.2 s
def z90:Hints:=Hz [(0,F6)] [] []
theorem TJ:LO Tryz.f110 F6 0:=lk t151 rn z90 [] zm
theorem z8T:zG Pz 110 ⟨[.ty (.sl .str),.ty .str],[i64],λx=>qM x.1 x.2⟩:=xy t151 rn z90 Tryz.func110 [0] (zZ rfl TJ zm)
def t152:=t151.d z8T
theorem z6V:zG Pz 111 ⟨[.ty (.sl .str),.ty .str],[.bool],λx=>xY x.1 x.2⟩:=xy t152 rn hN Tryz.func111 [] zm
def t154:=t152.d z6V
def zcT:Hints:=Hz [] [(0,1,.flat [Mb 8])] []
theorem z8t:zG Pz 114 ⟨[.ty (.sl .str),.ty i64,.ty i64,.ty .str],[.bool],λx=>xV x.1 x.2.1 x.2.2.1 x.2.2.2⟩:=xy t154 rn zcT Tryz.func114 [] zm
def t155:=t154.d z8t
def zcy:Hints:=Hz [] [(0,3,.ways [⟨.normal,⟨[Mb 11],[],[]⟩⟩])] []
theorem z5M:zG Pz 112 ⟨[.ty (.sl .str),.ty i64],[.str,.bool],λx=>jy x.1 x.2⟩:=xy t155 rn zcy Tryz.func112 [] zm
def t156:=t155.d z5M
def z9A:Hints:=Hz [] [(0,1,.ways [⟨.normal,⟨[Mb 29,.v rO,.a zJ,.a zP,.a zV,.a zL,.a qf,.a zX],[],Ui⟩⟩])] []
theorem Pt:xN Pz 54 ⟨Fu,z1F,[],Px,1,λx=>wN x.1 x.2.1 x.2.2.1 x.2.2.2.1 x.2.2.2.2.1 x.2.2.2.2.2.1 x.2.2.2.2.2.2.1 x.2.2.2.2.2.2.2.1 x.2.2.2.2.2.2.2.2⟩:=J0 t156 rn z9A Tryz.func54 [] zm
def t171:=t156.s Pt
def z9D:Hints:=Hz [] [(0,1,.ways [⟨.normal,⟨[Mb 31,.v rO,.a zJ,.a zP,.a zV,.a zL,.a qf,.a zX],[],Ui⟩⟩])] []
theorem Rt:xN Pz 55 ⟨Fu,z1F,[],Px,1,λx=>wa x.1 x.2.1 x.2.2.1 x.2.2.2.1 x.2.2.2.2.1 x.2.2.2.2.2.1 x.2.2.2.2.2.2.1 x.2.2.2.2.2.2.2.1 x.2.2.2.2.2.2.2.2⟩:=J0 t171 rn z9D Tryz.func55 [] zm
def t172:=t171.s Rt
def z6K:Hints:=Hz [] [(0,1,.ways [⟨.normal,⟨[Mb 26,.v rO,.a zJ,.a zP,.a zV,.a zL,.a qf,.a zX],[],Ui⟩⟩])] []
theorem O0:xN Pz 56 ⟨Wd,F4,[],EJ,1,λx=>ur x.1 x.2.1 x.2.2.1 x.2.2.2.1 x.2.2.2.2.1 x.2.2.2.2.2.1 x.2.2.2.2.2.2.1 x.2.2.2.2.2.2.2⟩:=J0 t172 rn z6K Tryz.func56 [] zm
def t173:=t172.s O0
def z7n:Hints:=Hz [] [(0,1,.ways [z1W])] []
theorem Nk:xN Pz 57 ⟨Wd,F4,[],EJ,1,λx=>vI x.1 x.2.1 x.2.2.1 x.2.2.2.1 x.2.2.2.2.1 x.2.2.2.2.2.1 x.2.2.2.2.2.2.1 x.2.2.2.2.2.2.2⟩:=J0 t173 rn z7n Tryz.func57 [] zm
def t174:=t173.s Nk
def z7u:Hints:=Hz [] [(0,1,.ways [z1W])] []
theorem Rv:xN Pz 58 ⟨Wd,F4,[],EJ,1,λx=>vo x.1 x.2.1 x.2.2.1 x.2.2.2.1 x.2.2.2.2.1 x.2.2.2.2.2.1 x.2.2.2.2.2.2.1 x.2.2.2.2.2.2.2⟩:=J0 t174 rn z7u Tryz.func58 [] zm
def t175:=t174.s Rv
def h59:Hints:=Hz [] [(0,1,.ways [⟨.normal,⟨[Mb 23,.v rO,.a zJ,.a zP,.a zV,.a zL,.a qf,.a zX],[],Ui⟩⟩]),(0,5,.flat [Mb 44]),(3,5,.ways [z1T]),(0,8,.ways [⟨.normal,⟨[Mb 68,.v rO,.a zJ,.a zP,.a zV,.a zL,.a qf,.a zX,.v (.zD zL)],[],[.var rO,.arr zJ,.arr zP,.arr zV,.arr zL,.arr qf,.arr zX,.var (.zD zL)]⟩⟩]),(3,8,.ways [z1T])] []
theorem zaR:xN Pz 59 ⟨Wd,F4,[],EJ,1,λx=>vR x.1 x.2.1 x.2.2.1 x.2.2.2.1 x.2.2.2.2.1 x.2.2.2.2.2.1 x.2.2.2.2.2.2.1 x.2.2.2.2.2.2.2⟩:=J0 t175 rn h59 Tryz.func59 [] zm
def t176:=t175.s zaR
def h23:Hints:=Hz [] [(0,3,.flat [Mb 36]),(0,7,.flat [Mb 41]),(0,9,.flat [Mb 53])] []
theorem zbf:xN Pz 23 ⟨Wd,⟨[Ms 1,.v rO,.a zJ,.a zP,.a zV,.a zL,.a qf,.a zX],[(0,.ptr 0 0)],Ui⟩,[],Px,1,λx=>c7 x.1 x.2.1 x.2.2.1 x.2.2.2.1 x.2.2.2.2.1 x.2.2.2.2.2.1 x.2.2.2.2.2.2.1 x.2.2.2.2.2.2.2⟩:=J0 (((((t176.s Rv).s Nk).s O0).s Rt).s Pt) rn h23 Tryz.func23 [] zm
def t177:=t176.s zbf
def Py:zU:=Lz [.cell 0 5 zX,.cell 1 5 zX,.cell 0 4 qf,.cell 1 4 qf,.cell 0 0 zJ,.cell 1 0 zJ,.cell 0 1 zP,.cell 1 1 zP,.cell 0 2 zV,.cell 1 2 zV,.cell 0 3 zL,.cell 1 3 zL] [Mm 14 (.sl .str),Mi 15] ⟨[Mi 16,.v Rm,.v RE,.a zX,.a zX,.a qf,.a qf,.a zJ,.a zJ,.a zP,.a zP,.a zV,.a zV,.a zL,.a zL],[(2,.ptr 0 0),(5,.ptr 1 0)],z1Y⟩ [⟨.exit 0,⟨[.v Rm,.v RE,.a zX,.a zX,.a qf,.a qf,.a zJ,.a zJ,.a zP,.a zP,.a zV,.a zV,.a zL,.a zL],[],z1Y⟩⟩,⟨.ret,⟨[Mi 3,Mi 4,.v (.zD qg),.v RE,.a zX,.a zX,.a qf,.a qf,.a zJ,.a zJ,.a zP,.a zP,.a zV,.a zV,.a zL,.a zL],[],[.var (.zD qg),.var RE,.arr zX,.arr zX,.arr qf,.arr qf,.arr zJ,.arr zJ,.arr zP,.arr zP,.arr zV,.arr zV,.arr zL,.arr zL]⟩⟩] λp s=>ja p.1 p.2 s
def SL:Hints:=Hz [(0,Py)] [] []
theorem z38:LO Tryz.f10 Py 0:=lk t177 rn SL [] zm
theorem zcU:zG Pz 10 ⟨[.ty .str],[qg,i64,i64],λx=>bn x⟩:=xy t177 rn SL Tryz.func10 [0] (zZ rfl z38 zm)
def t178:=t177.d zcU
theorem zcP:zG Pz 13 ⟨[],[.bool],λ_=>dz⟩:=xy t178 rn hN Tryz.func13 [] zm
def t179:=t178.d zcP
def h8:Hints:=Hz [] [(0,1,.ways [⟨.normal,⟨[Mb 22],[],[]⟩⟩])] []
theorem ok8:zG Pz 8 ⟨[.ty qg,.ty i64,.ty i64],[.bool],λx=>jO x.1 x.2.1 x.2.2⟩:=xy t179 (rz [3]) h8 Tryz.func8 [] zm
def t180:=t179.d ok8
end Go.AM.Lf
