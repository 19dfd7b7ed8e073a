/-
  The walk, part 0: each function of the program is the tree that the lifted text says; printed by a program of ours.
-/
import Derived.Test.YthhgaidlooddpaaGreatDoorProg
import Derived.KernelRfl
import Derived.Test.YthhgaidlooddpaaGreatDoorAmE
import Derived.Test.YthhgaidlooddpaaGreatDoorLf0
import Derived.WalkKit
import Derived.Shelf.Strings.FieldsFuncAny
import Derived.Lib.Builder
import Derived.Shelf.Strings.Builder1
import Derived.TacticsInMore
import Derived.Test.YthhgaidlooddpaaGreatDoorSh
set_option linter.unusedVariables false
set_option maxRecDepth 100000
noncomputable section
namespace Go.AM.Lf
open Go.Proofs
abbrev Ij:Nat:=50
abbrev Pz:Program:=Tryz.prog
def vJ(f:Func):Code:=match f.body with | some c=>c | none=>.skip
def lb(k:Nat)(f:Func):Code:=match ZN k (vJ f)with | some c=>c | none=>.skip
theorem mixed:Pz.follows .mixedOrders=true:=by kernel_rfl
instance:uy:={ u8:=5,tab:=[(0,HY .i64),(4,CQ .u64 Lib.pow10Tab)] }
theorem vI{κ:KS}(hI:Inv κ):∃ m,κ.w.cell? ⟨0,0,none⟩=some (.int .i64 m) :=
 OW (hI.gl (0,HY .i64) (by simp[uy.tab])).2
theorem hM{κ:KS}(hI:Inv κ):Lib.TabIs Tryz.prog κ.w "internal/strconv.uint64pow10" .u64 Lib.pow10Tab :=
 z6k (g:=4) (by kernel_rfl) (hI.gl (4,CQ .u64 Lib.pow10Tab) (by simp[uy.tab])).2
structure Tb where
 t:dX
 ok:yG Pz t
def Tb.d(T:Tb){g:Nat}{d:CY}(h:zH Pz g d):Tb:=⟨(g,.d d)::T.t,Il h T.ok⟩
def Tb.s(T:Tb){g:Nat}{d:kT}(h:qR Pz g d):Tb:=⟨(g,.s d)::T.t,BW h T.ok⟩
def Tb.p(T:Tb){g:Nat}{d:iH}(h:yi Pz g d):Tb:=⟨(g,.p d)::T.t,Dy h T.ok⟩
def t0:Tb:=⟨[],NL _⟩
def fL:List (Nat×zW)->Nat->Option zW
 | [],_=>none
 | x::r,n=>bif Nat.beq x.1 n then some x.2 else fL r n
def fC:List (Nat×Nat×z2R)->Nat->Nat->Option z2R
 | [],_,_=>none
 | x::r,k,n=>bif Nat.beq x.1 k&&Nat.beq x.2.1 n then some x.2.2 else fC r k n
def fF:List (Nat×List Nat)->Nat->List Nat
 | [],_=>[]
 | x::r,n=>bif Nat.beq x.1 n then x.2 else fF r n
def Hz(l:List (Nat×zW))(c:List (Nat×Nat×z2R))(f:List (Nat×List Nat)):Hints:=⟨fL l,fC c,fF f⟩
def hN:Hints:=Hz [] [] []
def rz(l:List Nat)(s:Nat):Bool:=l.any (Nat.beq s)
def rn(_:Nat):Bool:=false
def Lz(gh:List Gh)(ps:List It)(sh:vH)(ws:List Way)(R:vu ps->sh.den->T (sh.den⊕bq ws)):zW:=⟨gh,ps,sh,ws,λp s=>T.loop (R p) s⟩
abbrev LO(f:Func)(l:zW)(i:Nat):Prop:=QU Pz f.ntmps l (lb i f)
def ls(f:Func):List Nat->List (Nat×Code)
 | []=>[]
 | i::r=>(i,lb i f)::ls f r
abbrev Mi(n:Nat):It:=.s n (.zC i64)
abbrev Mb(n:Nat):It:=.s n (.zC .bool)
abbrev Ms(n:Nat):It:=.s n (.zC .str)
abbrev Mm(n:Nat)(t:Ty):It:=.s n (.zC t)
abbrev Mr(n:Nat)(t:Ty):It:=.s n (.xg t)
abbrev Sh0(l:List It):vH:=⟨l,[],[]⟩
theorem lk{f:Func}{i:Nat}{gh:List Gh}{ps:List It}{sh:vH}{ws:List Way}{R:vu ps->sh.den->T (sh.den⊕bq ws)}(T:Tb)(ro:Nat->Bool)(H:Hints)(L:List Nat)(ha:GM Pz f.ntmps H (ls f L))
  (h:∀ p s,TF (uP Pz Ij T.t ro) T.t f.ntmps H (Lz gh ps sh ws R) (lb i f) p s=R p s:=by intro p s; kernel_rfl) (hl:xE (lb i f)=ls f L:=by kernel_rfl):LO f (Lz gh ps sh ws R) i :=
 z3y (xid:=Ij) (ro:=ro) (H:=H) mixed T.ok (QZ hl ha) R h λ_ _=>rfl
theorem xp{f:Nat}{fn:Func}{d:CY}(T:Tb)(ro:Nat->Bool)(H:Hints)(hf:Pz.funcs[f]? = some fn)(L:List Nat)(ha:GM Pz fn.ntmps H (ls fn L))
  (h:∀ x,z0B (uP Pz Ij T.t ro) T.t H fn (vJ fn) d x=d.F x:=by intro x; kernel_rfl) (hb:fn.body=some (vJ fn):=by rfl) (hn:(fn.name == "runtime.NumGoroutine")=false:=by kernel_rfl) (hl:xE (vJ fn)=ls fn L:=by kernel_rfl):zH Pz f d :=
 zcK (xid:=Ij) (ro:=ro) (H:=H) mixed T.ok hf hb hn (QZ hl ha) h
theorem tk{f:Nat}{fn:Func}{d:kT}(T:Tb)(ro:Nat->Bool)(H:Hints)(hf:Pz.funcs[f]? = some fn)(L:List Nat)(ha:GM Pz fn.ntmps H (ls fn L))
  (h:∀ x,EX (uP Pz Ij T.t ro) T.t H fn (vJ fn) d x=d.F x:=by intro x; kernel_rfl) (hb:fn.body=some (vJ fn):=by rfl) (hn:(fn.name == "runtime.NumGoroutine")=false:=by kernel_rfl) (hl:xE (vJ fn)=ls fn L:=by kernel_rfl):qR Pz f d :=
 z6m (xid:=Ij) (ro:=ro) (H:=H) mixed T.ok hf hb hn (QZ hl ha) h
def hdB(c:Code):Code:=match c with | .seq _ b=>b | _=>.skip
def hdO(c:Code):Array Oper:=match c with | .seq (.region _ ops _) _=>ops | _ => #[]
def hdI(c:Code):Nat:=match c with | .seq (.region id _ _) _=>id | _=>0
theorem fkr{f:Nat}{fn:Func}{d:kT}(T:Tb)(ro:Nat->Bool)(H:Hints)(hf:Pz.funcs[f]? = some fn)
  (h:∀ x,evH (uP Pz Ij T.t ro) T.t H fn (hdO (vJ fn)) (hdB (vJ fn)) d d.ks.length none x=d.F x:=by intro x; kernel_rfl) (hb:fn.body=some (.seq (.region (hdI (vJ fn)) (hdO (vJ fn)) false) (hdB (vJ fn))):=by kernel_rfl) (hn:(fn.name == "runtime.NumGoroutine")=false:=by kernel_rfl) (hl:xE (hdB (vJ fn))=[]:=by kernel_rfl):gx (Pe Pz) f d :=
 z2t (xid:=Ij) (ro:=ro) (H:=H) mixed T.ok hf hb hn (VQ hl) h
theorem fkh{f t:Nat}{fn:Func}{d:kT}(T:Tb)(ro:Nat->Bool)(H:Hints)(hf:Pz.funcs[f]? = some fn)(k:Nat)
  (h:∀ x,evH (uP Pz Ij T.t ro) T.t H fn (hdO (vJ fn)) (hdB (vJ fn)) d k (some t) x=d.F x:=by intro x; kernel_rfl) (hk:d.ks.length=k+1:=by kernel_rfl) (hb:fn.body=some (.seq (.region (hdI (vJ fn)) (hdO (vJ fn)) false) (hdB (vJ fn))):=by kernel_rfl) (hn:(fn.name == "runtime.NumGoroutine")=false:=by kernel_rfl) (hl:xE (hdB (vJ fn))=[]:=by kernel_rfl):gx (Pg Pz t) f d :=
 z2l (xid:=Ij) (ro:=ro) (H:=H) mixed T.ok hf hb hn (VQ hl) hk h
theorem ziT{g:Nat}{d:kT}(_:gx (Pe Pz) g d):gx (Pg Pz 0) g { d with F:=λ_=>.fail }:=λ_ _ _ _ _ hy=>hy.elim
theorem fkf{f g pt:Nat}{fn:Func}{d d0 d1:kT}(T:Tb)(ro:Nat->Bool)(H:Hints)(h0:gx (Pe Pz) g d0)(h1:gx (Pg Pz pt) g d1)(hf:Pz.funcs[f]? = some fn)
  (h:∀ x,PI (uP Pz Ij T.t ro) T.t H ⟨g,d0,pt,d1⟩ fn (vJ fn) d x=d.F x:=by intro x; kernel_rfl) (hb:fn.body=some (vJ fn):=by rfl) (hn:(fn.name == "runtime.NumGoroutine")=false:=by kernel_rfl) (hl:xE (vJ fn)=[]:=by kernel_rfl):qR Pz f d :=
 z7m (xid:=Ij) (ro:=ro) (H:=H) mixed T.ok (h:=⟨g,d0,pt,d1⟩) h0 h1 hf hb hn hl h
theorem fkp{f:Nat}{fn:Func}{d:iH}(T:Tb)(ro:Nat->Bool)(H:Hints)(hf:Pz.funcs[f]? = some fn)(L:List Nat)(ha:GM Pz fn.ntmps H (ls fn L))
  (h:∀ x,Ia (uP Pz Ij T.t ro) T.t H fn (vJ fn) d x=d.F x:=by intro x; kernel_rfl) (hb:fn.body=some (vJ fn):=by rfl) (hn:(fn.name == "runtime.NumGoroutine")=false:=by kernel_rfl) (hl:xE (vJ fn)=ls fn L:=by kernel_rfl):yi Pz f d :=
 z89 (xid:=Ij) (ro:=ro) (H:=H) mixed T.ok hf hb hn (QZ hl ha) h
abbrev lH:Dk:=.st [.row 1 zu,.row 2 zD,.row 3 zO,.row 4 zw,.row 5 zY,.row 6 zF]
abbrev tq:List Bk:=[.var lH,.arr zu,.arr zD,.arr zO,.arr zw,.arr zY,.arr zF]
abbrev Zc:List Bk:=[.var (.zC zU)]
abbrev Vk:Dk:=.st [.op 0 111,.row 1 (.int .u8)]
abbrev td:vH:=⟨[.v (.zC zX)],[(0,.ptr 0 0)],[.var (.zC zX)]⟩
abbrev Sw:Dk:=.st [.row 3 zu,.row 5 zD,.row 7 zO,.row 9 zw,.row 13 zY,.row 11 zF]
abbrev Vp:vH:=⟨[Mm 0 .expr,.v (.zC zX)],[],[.var (.zC zX)]⟩
abbrev QG:vH:=⟨[Mm 0 xJ,.v (.zC zU)],[],Zc⟩
abbrev tx:vH:=⟨[.v (.zC zU)],[(0,.ptr 0 0)],Zc⟩
abbrev Vn:vH:=⟨[Mm 0 .expr,.v (.zC zU)],[],Zc⟩
abbrev z4y:List Bk:=[.var (.st [.row 2 zu,.row 4 zD,.row 6 zO,.row 8 zw,.row 12 zY,.row 10 zF]),.var Sw,.arr zu,.arr zu,.arr zD,.arr zD,.arr zO,.arr zO,.arr zw,.arr zw,.arr zF,.arr zF,.arr zY,.arr zY]
abbrev uo:List Bk:=[.arr u32]
abbrev Dn:Dk:=.st [.row 7 zu,.row 9 zD,.row 11 zO,.row 13 zw,.row 5 zY,.row 3 zF]
abbrev gS:Way:=⟨.exit 0,⟨[],[],[]⟩⟩
abbrev CW:vH:=⟨[Mi 0,.v lH,.a zu,.a zD,.a zO,.a zw,.a zY,.a zF],[],tq⟩
abbrev rS:List Bk:=[.var Vk,.arr (.int .u8)]
abbrev L1:List Bk:=[.var (.zC zU),.var (.zC .expr),.var (.zC .expr)]
abbrev z5W:Way:=⟨.ret,⟨[Mi 3,Mi 4,.v (.zC qG),.v Sw,.a zu,.a zu,.a zD,.a zD,.a zO,.a zO,.a zw,.a zw,.a zF,.a zF,.a zY,.a zY],[],[.var (.zC qG),.var Sw,.arr zu,.arr zu,.arr zD,.arr zD,.arr zO,.arr zO,.arr zw,.arr zw,.arr zF,.arr zF,.arr zY,.arr zY]⟩⟩
abbrev Lj:vH:=⟨[Mm 1 (.sl .str),.v lH,.a zu,.a zD,.a zO,.a zw,.a zY,.a zF],[(0,.ptr 0 0)],tq⟩
abbrev tE:Way:=⟨.ret,⟨[Mb 2],[],[]⟩⟩
abbrev Z4:Way:=⟨.ret,⟨[Mb 4],[],[]⟩⟩
abbrev M8:vH:=⟨[Mm 0 .expr,Mi 1,.v (.zC i64)],[(2,.ptr 0 0)],[.var (.zC i64)]⟩
abbrev V9:Way:=⟨.ret,⟨[Mi 4],[],[]⟩⟩
abbrev L7:vH:=⟨[Mb 0,.v lH,.a zu,.a zD,.a zO,.a zw,.a zY,.a zF],[],tq⟩
abbrev Td:Dk:=.st [.row 6 zu,.row 8 zD,.row 10 zO,.row 12 zw,.row 4 zY,.row 2 zF]
abbrev IZ:vH:=⟨[.v (.zC zX),.v (.zC .expr)],[],[.var (.zC zX),.var (.zC .expr)]⟩
abbrev X7:vH:=⟨[Mi 5],[],[]⟩
abbrev z57:vH:=⟨[.v (.st [.row 2 zu,.row 4 zD,.row 6 zO,.row 8 zw,.row 12 zY,.row 10 zF]),.v Sw,.a zu,.a zu,.a zD,.a zD,.a zO,.a zO,.a zw,.a zw,.a zF,.a zF,.a zY,.a zY],[],z4y⟩
abbrev z4R:Way:=⟨.normal,⟨[Mm 1 (.sl .str),.v lH,.a zu,.a zD,.a zO,.a zw,.a zY,.a zF,.v (.zC zw)],[],[.var lH,.arr zu,.arr zD,.arr zO,.arr zw,.arr zY,.arr zF,.var (.zC zw)]⟩⟩
abbrev WB:vH:=⟨[.v Vk,.a (.int .u8)],[],rS⟩
abbrev Yr:vH:=⟨[Mi 3],[],[]⟩
abbrev Q3:List Bk:=[.var (.zC zX)]
abbrev Ni:vH:=⟨[Mb 0,.v (.zC i64)],[],[.var (.zC i64)]⟩
abbrev UP:vH:=⟨[Mi 8],[],[]⟩
abbrev SY:vH:=⟨[Mm 0 xJ,.v (.zC zU),.v (.zC .expr),.v (.zC .expr)],[],L1⟩
abbrev SD:List Bk:=[.var (.zC .expr),.var (.zC i64),.var (.zC i64)]
abbrev Cj:vH:=⟨[Ms 0],[],[]⟩
abbrev z4N:List Bk:=[.var (.zC zX),.var (.zC .expr),.var (.zC .expr)]
abbrev Lm:vH:=⟨[.v (.zC zU)],[],Zc⟩
abbrev z5K:List Bk:=[.var Td,.var Dn,.arr zF,.arr zF,.arr zY,.arr zY,.arr zu,.arr zu,.arr zD,.arr zD,.arr zO,.arr zO,.arr zw,.arr zw]
abbrev Yd:List Bk:=[.var (.zC .expr),.var (.zC .expr)]
abbrev U2:vH:=⟨[Ms 3],[],[]⟩
abbrev z5m:vH:=⟨[.a u32],[(5,.cur 0 u32)],uo⟩
abbrev Px:vH:=⟨[.v (.zC zU),.v (.zC .expr),.v (.zC .expr)],[],L1⟩
abbrev z5G:vH:=⟨[Mm 0 (.sl .expr),.s 1 (.mclo 183 [.rp i64,.pt 0]),.v (.zC i64)],[],[.cvar (.ptr 1 0),.var (.zC i64)]⟩
abbrev z5r:vH:=⟨[Mm 1 (.sl .str),Ms 2,.v lH,.a zu,.a zD,.a zO,.a zw,.a zY,.a zF],[(0,.ptr 0 0)],tq⟩
abbrev SZ:Way:=⟨.exit 0,⟨[.a u32],[(7,.cur 0 u32)],uo⟩⟩
abbrev II:List Bk:=[.var (.zC zU),.var (.zC .expr)]
abbrev z4U:Way:=⟨.normal,⟨[Mm 0 (.sl .str),.v (.zC zw),.v (.zC zw)],[],[.var (.zC zw),.var (.zC zw)]⟩⟩
abbrev JB:List Bk:=[.arr (.int .u8)]
abbrev z6c:Way:=⟨.normal,⟨[Mb 16,.v lH,.a zu,.a zD,.a zO,.a zw,.a zY,.a zF],[],tq⟩⟩
abbrev z50:vH:=⟨[Ms 1,.v lH,.a zu,.a zD,.a zO,.a zw,.a zY,.a zF],[(0,.ptr 0 0)],tq⟩
abbrev z4D:vH:=⟨[.v (.zC zX),.v (.zC .expr),.v (.zC .expr)],[(0,.ptr 0 0),(2,.ptr 1 0),(3,.ptr 2 0)],z4N⟩
abbrev z5R:vH:=⟨[Mm 7 (.int .u64),Mi 8,.a u32],[(6,.cur 0 u32)],uo⟩
abbrev z6d:vH:=⟨[Mb 0,.v (.zC i64)],[],[.cvar (.ptr 1 0),.var (.zC i64)]⟩
abbrev z5P:Way:=⟨.ret,⟨[Ms 2,Mb 3,.v (.zC wL)],[],[.var (.zC wL)]⟩⟩
abbrev z5Q:vH:=⟨[Mm 14 (.sl u32),.a u32],[(13,.cur 0 u32)],uo⟩
abbrev z5E:Way:=⟨.ret,⟨[.v (.zC zX),.v (.zC .expr),.v (.zC .expr)],[],z4N⟩⟩
abbrev Sh:vH:=⟨[Mm 0 (.sl u32)],[],[]⟩
abbrev z5o:vH:=⟨[Mi 15,.a u32],[(7,.cur 0 u32)],uo⟩
abbrev z4X:vH:=⟨[.v (.zC .expr),.v (.zC i64),.v (.zC i64)],[],SD⟩
abbrev Gd:vH:=⟨[],[],[]⟩
abbrev z61:Way:=⟨.normal,⟨[Mb 44,.v (.zC zU)],[],Zc⟩⟩
abbrev z5c:vH:=⟨[Mi 5,.a .str],[(3,.cur 0 .str)],[.arr .str]⟩
abbrev tK:List AK:=[.ptr,.any]
abbrev z4K:List Bk:=[.var (.zC .expr),.var (.zC zX),.var (.zC .expr)]
abbrev z5Y:vH:=⟨[Mi 3,Mi 9],[],[]⟩
abbrev z55:vH:=⟨[Mi 3,Mi 4],[],[]⟩
abbrev z5S:Way:=⟨.exit 0,⟨[.v (.zC wL)],[],[.var (.zC wL)]⟩⟩
abbrev z5y:vH:=⟨[Mb 0,.v (.zC zX)],[],Q3⟩
abbrev z4G:Way:=⟨.exit 0,⟨[Mm 4 (.sl u32)],[],[]⟩⟩
abbrev z52:Way:=⟨.exit 0,⟨[Mm 3 (.sl u32)],[],[]⟩⟩
abbrev z5k:vH:=⟨[Ms 0,.v (.zC zU)],[],Zc⟩
abbrev z0F:vH:=⟨[Ms 5],[],[]⟩
abbrev z5h:vH:=⟨[.s 3 (.sub 0 (.int .u8)),.a (.int .u8)],[],JB⟩
abbrev Eg:List AK:=[.ptr,.any,.any]
abbrev z5p:vH:=⟨[.a (.int .u8)],[(3,.cur 0 (.int .u8))],JB⟩
abbrev z5a:vH:=⟨[.v Vk,.a (.int .u8)],[(0,.ptr 0 0)],rS⟩
abbrev IN:Way:=⟨.exit 0,Cj⟩
abbrev z6a:Way:=⟨.normal,⟨[Mb 17],[],[]⟩⟩
abbrev z5Z:Way:=⟨.normal,⟨[Mb 11],[],[]⟩⟩
abbrev z5U:Way:=⟨.normal,⟨[Mb 81],[],[]⟩⟩
abbrev z5T:List Bk:=[.var (.zC zX),.var (.zC .expr)]
abbrev IT:List AK:=[.any,.any,.ptr]
abbrev z4I:vH:=⟨[.v (.zC zX)],[],Q3⟩
abbrev z4W:vH:=⟨[Mi 7],[],[]⟩
abbrev z5C:vH:=⟨[Mi 6],[],[]⟩
abbrev z5N:List Bk:=[.var (.zC qG),.arr i64]
abbrev Tv:Way:=⟨.exit 0,Lm⟩
abbrev R8:Way:=⟨.exit 0,z5m⟩
abbrev R5:Way:=⟨.exit 0,Yr⟩
abbrev Sz:Way:=⟨.exit 2,Gd⟩
abbrev z4Z:vH:=⟨[.a (.int .u8)],[],JB⟩
theorem zhu:zH Tryz.prog 22 ⟨[.ty .str,.ty .str],[.sl .str],λx=>strings_Split x.1 x.2⟩:=by
 refine vX Tryz.func22 (by kernel_rfl) rfl λκ x zJ y hy hI ha => ?_
 obtain⟨s,sep⟩:=x
 obtain⟨⟨h0,h1⟩,hy⟩:=hy
 cases hy
 obtain⟨v0,r,rfl,GA,ha⟩:=qN.cons_inv (show qN κ [.zC .str s,.zC .str sep] zJ from ha)
 obtain⟨v1,r,rfl,Io,ha⟩:=ha.cons_inv
 rw[ha.ql,GA.vo,Io.vo]
 obtain⟨m,hm⟩:=vI hI
 refine(Go.Proofs.Tryz.strings_Split ⟨s.toArray⟩ ⟨sep.toArray⟩ m κ.w (by rw[show(ByteArray.size ⟨s.toArray⟩)=List.length s from List.size_toArray]; exact h0) hm (by rw[show(ByteArray.size ⟨sep.toArray⟩)=List.length sep from List.size_toArray]; simp only at h1; omega)).mono ?_
 rintro e w' ⟨rfl,rfl⟩
 refine⟨WH _ _,λ_=>⟨_,rfl,?_⟩⟩
 exact z0s s sep h1 _
def t1:=t0.d zhu
theorem zhB:zH Tryz.prog 52 ⟨[.ty .str,.ty .str],[.str,.str,.bool],λx=>strings_Cut x.1 x.2⟩:=by
 refine vX Tryz.func52 (by kernel_rfl) rfl λκ x zJ y hy hI ha => ?_
 obtain⟨s,sep⟩:=x
 obtain⟨h0,hy⟩:=hy
 cases hy
 obtain⟨v0,r,rfl,GA,ha⟩:=qN.cons_inv (show qN κ [.zC .str s,.zC .str sep] zJ from ha)
 obtain⟨v1,r,rfl,Io,ha⟩:=ha.cons_inv
 rw[ha.ql,GA.vo,Io.vo]
 obtain⟨m,hm⟩:=vI hI
 refine(Go.Proofs.Tryz.strings_Cut ⟨s.toArray⟩ ⟨sep.toArray⟩ m κ.w (by rw[show(ByteArray.size ⟨s.toArray⟩)=List.length s from List.size_toArray]; exact h0) hm).mono ?_
 rintro e w' ⟨rfl,n,rfl⟩
 refine⟨below_drewN _ _,λ_=>⟨_,rfl,?_⟩⟩
 rw[show Lib.cut (⟨s.toArray⟩:ByteArray).data.toList (⟨sep.toArray⟩:ByteArray).data.toList=wR s sep from Rh s sep]
 exact RD.zgi RD.str RD.str RD.bool
def t2:=t1.d zhB
theorem zdO:zH Pz 108 ⟨[.ty (.int .i32)],[.bool],λx=>bU x⟩:=xp t2 rn hN Tryz.func108 [] zo
def t3:=t2.d zdO
theorem z4n(w:World):Go.Proofs.PredAtRunes Tryz.prog 108 #[] (λn=>n==32) w:=λW x hx hb=>by
 show Calls Tryz.prog 108 #[.int .i32 (x:Int)] W _
 have hn:Tryz.f108.ntmps=5:=by kernel_rfl
 have hd:((x:Int)==32)=(x==32):=by rw[Bool.eq_iff_iff,beq_iff_eq,beq_iff_eq]; omega
 go_enter Tryz.func108,hn
 go_wp2
 go_ret
 exact⟨by rw[<- hd]; rfl,0,rfl⟩
theorem zdF:zH Tryz.prog 107 ⟨[.ty .str,.xl 108 []],[.sl .str],λx=>strings_FieldsFunc x.1 (λz0=>bU z0)⟩:=by
 refine vX Tryz.func107 (by kernel_rfl) rfl λκ x zJ y hy hI ha => ?_
 obtain⟨s,c⟩:=x
 obtain⟨h0,hy⟩:=hy
 cases hy
 obtain⟨v0,r,rfl,GA,ha⟩:=qN.cons_inv (show qN κ [.zC .str s,.xl 108 []] zJ from ha)
 obtain⟨v1,r,rfl,Io,ha⟩:=ha.cons_inv
 rw[ha.ql,GA.vo,Io.PZ (by rfl)]
 refine(Go.Proofs.Tryz.strings_FieldsFunc_runes 108 #[] (λargs w=>o6 Tryz.func108 (by kernel_rfl) rfl w) (λn=>n==32) ⟨s.toArray⟩ κ.w (by rw[show(ByteArray.size ⟨s.toArray⟩)=List.length s from List.size_toArray]; exact h0) (z4n κ.w)).mono ?_
 rintro e w' ⟨A,rfl,hA,ho,hB⟩
 refine⟨hB,λ_=>⟨_,rfl,?_⟩⟩
 exact OR s ho
def t4:=t3.d zdF
theorem zgs:zH Pz 53 ⟨[.ty .str],[(.sl .str)],λx=>lh x⟩:=xp t4 rn hN Tryz.func53 [] zo
def t5:=t4.d zgs
def zfU:Hints:=Hz [] [(0,1,.flat [Mb 2])] []
theorem zdH:zH Pz 141 ⟨[.ty (.int .u8)],[.bool],λx=>ve x⟩:=xp t5 rn zfU Tryz.func141 [] zo
def t6:=t5.d zdH
def zgM:Hints:=Hz [] [(0,1,.flat [Mb 2])] []
theorem z9B:zH Pz 179 ⟨[.ty (.int .u8)],[.bool],λx=>xX x⟩:=xp t6 rn zgM Tryz.func179 [] zo
def t7:=t6.d z9B
theorem z9T:zH Pz 142 ⟨[.ty (.int .u8)],[.bool],λx=>vV x⟩:=xp t7 rn hN Tryz.func142 [] zo
def t8:=t7.d z9T
def z0y:zW:=Lz [] [Ms 0,Mi 18] ⟨[Mi 19],[],[]⟩ [gS,tE] λp s=>kZ p.1 p.2 s
def h87:Hints:=Hz [(0,z0y)] [(0,1,.ways [⟨.normal,⟨[Mb 16],[],[]⟩⟩])] []
theorem z6S:LO Tryz.f87 z0y 0:=lk t8 rn h87 [] zo
theorem zgS:zH Pz 87 ⟨[.ty .str],[.bool],λx=>xD x⟩:=xp t8 rn h87 Tryz.func87 [0] (qe rfl z6S zo)
def t9:=t8.d zgS
theorem zdc:zH Tryz.prog 155 ⟨[.ty .str,.ty .str],[i64],λx=>strings_IndexAny x.1 x.2⟩:=by
 refine vX Tryz.func155 (by kernel_rfl) rfl λκ x zJ y hy hI ha => ?_
 obtain⟨s,chars⟩:=x
 obtain⟨⟨h0,h1,h2,h3⟩,hy⟩:=hy
 cases hy
 obtain⟨v0,r,rfl,GA,ha⟩:=qN.cons_inv (show qN κ [.zC .str s,.zC .str chars] zJ from ha)
 obtain⟨v1,r,rfl,Io,ha⟩:=ha.cons_inv
 rw[ha.ql,GA.vo,Io.vo]
 refine(Go.Proofs.Any.rD Go.Proofs.Tryz.lays153 (λ_=>by kernel_rfl) (by kernel_rfl) ⟨s.toArray⟩ ⟨chars.toArray⟩ κ.w (by rw[show(ByteArray.size ⟨chars.toArray⟩)=List.length chars from List.size_toArray]; exact h1) (by rw[show(ByteArray.size ⟨s.toArray⟩)=List.length s from List.size_toArray]; exact h0) (by rw[show(ByteArray.size ⟨chars.toArray⟩)=List.length chars from List.size_toArray]; exact h2) h3).mono ?_
 rintro e w' ⟨rfl,hB⟩
 refine⟨hB,λ_=>⟨_,rfl,?_⟩⟩
 have e1:Lib.indexAny s chars=c6 s chars:=YY chars s
 show RD _ (.zC i64 (c6 s chars)) _
 rw[<- e1]
 exact RD.int
def t10:=t9.d zdc
def zh4:Hints:=Hz [] [(0,1,.flat [Mb 4])] []
theorem zd2:zH Pz 193 ⟨[.ty .str,.ty .str],[.bool],λx=>xM x.1 x.2⟩:=xp t10 rn zh4 Tryz.func193 [] zo
def t11:=t10.d zd2
theorem z9x:zH Pz 156 ⟨[.ty .str,.ty .str],[.bool],λx=>strings_HasPrefix x.1 x.2⟩:=xp t11 rn hN Tryz.func156 [] zo
def t12:=t11.d z9x
def L8:zW:=Lz [] [] tx [Tv] λp s=>wh  s
def zdq:Hints:=Hz [(0,L8)] [(0,0,.flat [Mb 23])] []
theorem z4o:LO Tryz.f265 L8 0:=lk t12 rn zdq [] zo
theorem zcI:qR Pz 265 ⟨[.ptr],tx,[],Lm,0,λx=>uM x⟩:=tk t12 rn zdq Tryz.func265 [0] (qe rfl z4o zo)
def t13:=t12.s zcI
theorem zcb:zH Tryz.prog 216 ⟨[.ty .str,.ty (.int .u8)],[i64],λx=>strings_IndexByte x.1 x.2⟩:=by
 refine vX Tryz.func216 (by kernel_rfl) rfl λκ x zJ y hy hI ha => ?_
 obtain⟨s,c⟩:=x
 cases hy
 obtain⟨v0,r,rfl,GA,ha⟩:=qN.cons_inv (show qN κ [.zC .str s,.zC (.int .u8) c] zJ from ha)
 obtain⟨v1,r,rfl,Io,ha⟩:=ha.cons_inv
 rw[ha.ql,GA.vo,Io.gb]
 refine(Go.Proofs.Tryz.strings_IndexByte ⟨s.toArray⟩ c κ.w).mono ?_
 rintro e w' ⟨rfl,rfl⟩
 refine⟨Za _,λ_=>⟨_,rfl,?_⟩⟩
 have e1:Lib.indexByte s (byteOf c)=Xa s (byteOf c):=z22 s (byteOf c)
 show RD _ (.zC i64 (Xa s (byteOf c))) _
 rw[<- e1]
 exact RD.int
def t14:=t13.d zcb
def zfC:Hints:=Hz [] [(0,2,.ways [⟨.normal,⟨[Mb 30,.v (.zC zU)],[],Zc⟩⟩])] []
theorem zaW:qR Pz 250 ⟨tK,⟨[Ms 1,.v (.zC zU)],[(0,.ptr 0 0)],Zc⟩,[],⟨[Mm 0 (.int .u8),.v (.zC zU)],[],Zc⟩,1,λx=>xm x.1 x.2⟩:=tk t14 rn zfC Tryz.func250 [] zo
def t15:=t14.s zaW
theorem z97:yi Pz 220 ⟨Eg,⟨[Mi 1,Mi 2,.v (.zC zU)],[(0,.ptr 0 0)],Zc⟩,[],Lm,0,226,QG,λx=>w8 x.1 x.2.1 x.2.2⟩:=fkp t15 rn hN Tryz.func220 [] zo
def t16:=t15.p z97
theorem zcA:yi Pz 266 ⟨[.ptr],tx,[],Lm,0,226,QG,λx=>vw x⟩:=fkp t16 rn hN Tryz.func266 [] zo
def t17:=t16.p zcA
def MF:zW:=Lz [] [.s 1 (.xl 179 []),Mi 2,Mi 7] tx [Tv] λp s=>xc (λz0=>xX z0) p.2.1 p.2.2 s
def zaN:Hints:=Hz [(0,MF)] [(0,2,.ways [z61])] []
theorem z1s:LO Tryz.f268 MF 0:=lk t17 rn zaN [] zo
theorem zbm:qR Pz 268 ⟨[.ptr,.xl 179,.any],⟨[.s 1 (.xl 179 []),Mi 2,.v (.zC zU)],[(0,.ptr 0 0)],Zc⟩,[],z5k,1,λx=>xn (λz0=>xX z0) x.2.1 x.2.2⟩:=tk t17 rn zaN Tryz.func268 [0] (qe rfl z1s zo)
def t18:=t17.s zbm
theorem za9:zH Tryz.prog 159 ⟨[.ty .str,.ty .str],[.str,.bool],λx=>strings_CutPrefix x.1 x.2⟩:=by
 refine vX Tryz.func159 (by kernel_rfl) rfl λκ x zJ y hy hI ha => ?_
 obtain⟨s,p⟩:=x
 cases hy
 obtain⟨v0,r,rfl,GA,ha⟩:=qN.cons_inv (show qN κ [.zC .str s,.zC .str p] zJ from ha)
 obtain⟨v1,r,rfl,Io,ha⟩:=ha.cons_inv
 rw[ha.ql,GA.vo,Io.vo]
 refine(Go.Proofs.Tryz.strings_CutPrefix ⟨s.toArray⟩ ⟨p.toArray⟩ κ.w).mono ?_
 rintro e w' ⟨rfl,rfl⟩
 refine⟨Za _,λ_=>⟨_,rfl,?_⟩⟩
 exact RD.zaI RD.str RD.bool
def t19:=t18.d za9
def MU:zW:=Lz [] [Mm 1 (.int .u8)] Cj [IN] λp s=>yD p s
def zcg:Hints:=Hz [(0,MU)] [(0,1,.flat [Mb 16])] []
theorem z1b:LO Tryz.f222 MU 0:=lk t19 rn zcg [] zo
theorem zcP:zH Pz 222 ⟨[.ty .str,.ty (.int .u8)],[.str],λx=>strings_trimRightByte x.1 x.2⟩:=xp t19 rn zcg Tryz.func222 [0] (qe rfl z1b zo)
def t20:=t19.d zcP
def LZ:zW:=Lz [] [Mm 1 (.int .u8)] Cj [IN] λp s=>gT p s
def zcc:Hints:=Hz [(0,LZ)] [(0,1,.flat [Mb 13])] []
theorem z2j:LO Tryz.f221 LZ 0:=lk t20 rn zcc [] zo
theorem zbE:zH Pz 221 ⟨[.ty .str,.ty (.int .u8)],[.str],λx=>strings_trimLeftByte x.1 x.2⟩:=xp t20 rn zcc Tryz.func221 [0] (qe rfl z2j zo)
def t21:=t20.d zbE
theorem zdZ:zH Tryz.prog 191 ⟨[.ty .str],[(ep .bool 256),.bool],λx=>strings_makeASCIISet x⟩:=by
 refine vX Tryz.func191 (by kernel_rfl) rfl λκ s zJ y hy hI ha => ?_
 obtain⟨⟨h0,h1⟩,hy⟩:=hy
 cases hy
 obtain⟨v0,r,rfl,GA,ha⟩:=qN.cons_inv (show qN κ [.zC .str s] zJ from ha)
 rw[ha.ql,GA.vo]
 refine(Go.Proofs.Tryz.strings_makeASCIISet (λ_=>by kernel_rfl) ⟨s.toArray⟩ κ.w (by rw[show(ByteArray.size ⟨s.toArray⟩)=List.length s from List.size_toArray]; exact h0) (by simpa using h1)).mono ?_
 rintro e w' ⟨rfl,rfl⟩
 refine⟨WH _ _,λ_=>⟨_,rfl,?_⟩⟩
 exact RD.zaI (RE s) RD.bool
def t22:=t21.d zdZ
theorem zag:zH Pz 192 ⟨[.rp (ep .bool 256),.ty (.int .u8)],[.bool],λx=>xO x.1 x.2⟩:=xp t22 rn hN Tryz.func192 [] zo
def t23:=t22.d zag
def LR:zW:=Lz [] [Mr 1 (ep .bool 256)] Cj [IN] λp s=>wG p s
def zbK:Hints:=Hz [(0,LR)] [] []
theorem z1M:LO Tryz.f224 LR 0:=lk t23 rn zbK [] zo
theorem zc9:zH Pz 224 ⟨[.ty .str,.rp (ep .bool 256)],[.str],λx=>vU x.1 x.2⟩:=xp t23 rn zbK Tryz.func224 [0] (qe rfl z1M zo)
def t24:=t23.d zc9
def N7:zW:=Lz [] [Mr 1 (ep .bool 256)] Cj [IN] λp s=>vg p s
def zbM:Hints:=Hz [(0,N7)] [] []
theorem z1S:LO Tryz.f223 N7 0:=lk t24 rn zbM [] zo
theorem z9f:zH Pz 223 ⟨[.ty .str,.rp (ep .bool 256)],[.str],λx=>uk x.1 x.2⟩:=xp t24 rn zbM Tryz.func223 [0] (qe rfl z1S zo)
def t25:=t24.d z9f
def zfu:Hints:=Hz [] [(0,1,.flat [Mb 12]),(0,3,.flat [Mb 21])] []
theorem za4:zH Pz 196 ⟨[.ty .str,.ty .str],[.str],λx=>ya x.1 x.2⟩:=xp t25 rn zfu Tryz.func196 [] zo
def t26:=t25.d za4
def zfY:Hints:=Hz [] [(0,1,.flat [Mb 2])] []
theorem zbq:zH Pz 144 ⟨[.ty (.sl u32)],[.bool],λx=>fY x⟩:=xp t26 rn zfY Tryz.func144 [] zo
def t27:=t26.d zbq
def IM:zW:=Lz [] [] Sh [⟨.exit 0,Sh⟩] λp s=>lz  s
def zcv:Hints:=Hz [(0,IM)] [] []
theorem z25:LO Tryz.f176 IM 0:=lk t27 rn zcv [] zo
theorem z9Q:zH Pz 176 ⟨[.ty (.sl u32)],[(.sl u32)],λx=>wc x⟩:=xp t27 rn zcv Tryz.func176 [0] (qe rfl z25 zo)
def t28:=t27.d z9Q
def Mg:zW:=Lz [] [Mm 1 (.sl u32),Mi 6,Mm 7 u32,Mm 21 (.sl u32),Mi 22,Mi 23,Mm 28 (.sl u32),Mi 29] ⟨[Mm 8 (.int .u64),Mi 30,.a u32],[(5,.cur 0 u32)],uo⟩ [⟨.exit 2,⟨[Mm 8 (.int .u64),.a u32],[(5,.cur 0 u32)],uo⟩⟩] λp s=>nt p.1 p.2.1 p.2.2.1 p.2.2.2.1 p.2.2.2.2.1 p.2.2.2.2.2.1 p.2.2.2.2.2.2.1 p.2.2.2.2.2.2.2 s
def LL:zW:=Lz [] [Mm 1 (.sl u32),Mm 21 (.sl u32),Mi 22] ⟨[Mi 23,.a u32],[(5,.cur 0 u32)],uo⟩ [R8] λp s=>nE p.1 p.2.1 p.2.2 s
def z7J:Hints:=Hz [(2,Mg),(0,LL)] [] [(16,[5])]
theorem z2O:LO Tryz.f198 Mg 2:=lk t28 rn z7J [] zo
theorem z36:LO Tryz.f198 LL 0:=lk t28 rn z7J [2] (qe rfl z2O zo)
theorem zbk:zH Pz 198 ⟨[.ty (.sl u32),.ty (.sl u32)],[(.sl u32)],λx=>sO x.1 x.2⟩:=xp t28 rn z7J Tryz.func198 [0] (qe rfl z36 zo)
def t29:=t28.d zbk
theorem zco:zH Pz 137 ⟨[.ty (.int .u64)],[(.sl u32)],λx=>gy x⟩:=xp t29 rn hN Tryz.func137 [] zo
def t30:=t29.d zco
def MM:zW:=Lz [] [Mm 0 (.sl u32),Mm 1 (.sl u32),Mm 24 (.sl u32),Mi 25] ⟨[Mm 6 (.int .u64),Mi 26,.a u32],[(5,.cur 0 u32)],uo⟩ [⟨.exit 0,⟨[Mm 6 (.int .u64),.a u32],[(5,.cur 0 u32)],uo⟩⟩] λp s=>nh p.1 p.2.1 p.2.2.1 p.2.2.2 s
def zaC:Hints:=Hz [(0,MM)] [(3,2,.flat [Mm 0 (.sl u32),Mm 1 (.sl u32)]),(3,10,.flat [Mm 6 (.int .u64)])] [(16,[5])]
theorem z3b:LO Tryz.f197 MM 0:=lk t30 rn zaC [] zo
theorem zam:zH Pz 197 ⟨[.ty (.sl u32),.ty (.sl u32)],[(.sl u32)],λx=>U0 x.1 x.2⟩:=xp t30 rn zaC Tryz.func197 [0] (qe rfl z3b zo)
def t31:=t30.d zam
def Mu:zW:=Lz [] [Ms 0,Mi 19] ⟨[Mm 4 (.sl u32),Mi 20],[],[]⟩ [z4G] λp s=>bF p.1 p.2 s
def zaq:Hints:=Hz [(0,Mu)] [(0,1,.ways [z6a])] []
theorem z4v:LO Tryz.f160 Mu 0:=lk t31 rn zaq [] zo
theorem z9c:zH Pz 160 ⟨[.ty .str],[(.sl u32),.bool],λx=>vY x⟩:=xp t31 rn zaq Tryz.func160 [0] (qe rfl z4v zo)
def t32:=t31.d z9c
def IY:zW:=Lz [] [Mi 5] ⟨[Mm 3 (.sl u32),Mi 6],[],[]⟩ [z52] λp s=>fq p s
def zdK:Hints:=Hz [(0,IY)] [] []
theorem z2B:LO Tryz.f161 IY 0:=lk t32 rn zdK [] zo
theorem zaQ:zH Pz 161 ⟨[.ty i64],[(.sl u32)],λx=>sq x⟩:=xp t32 rn zdK Tryz.func161 [0] (qe rfl z2B zo)
def t33:=t32.d zaQ
def zgr:Hints:=Hz [] [(0,1,.zcV)] []
theorem zbh:zH Pz 203 ⟨[.ty (.sl u32)],[(.sl u32)],λx=>vS x⟩:=xp t33 rn zgr Tryz.func203 [] zo
def t34:=t33.d zbh
theorem z9P:zH Pz 173 ⟨[.ty (.sl u32)],[(.sl u32)],λx=>bY x⟩:=xp t34 rn hN Tryz.func173 [] zo
def t35:=t34.d z9P
def LX:zW:=Lz [] [Mm 0 (.sl u32),Mm 1 (.sl u32)] X7 [gS,V9] λp s=>fx p.1 p.2 s
def zcR:Hints:=Hz [(0,LX)] [] []
theorem z2I:LO Tryz.f136 LX 0:=lk t35 rn zcR [] zo
theorem zc7:zH Pz 136 ⟨[.ty (.sl u32),.ty (.sl u32)],[i64],λx=>n3 x.1 x.2⟩:=xp t35 rn zcR Tryz.func136 [0] (qe rfl z2I zo)
def t36:=t35.d zc7
def zg6:Hints:=Hz [] [(0,1,.flat [Mb 15])] []
theorem zcX:zH Pz 204 ⟨[.ty u32,.ty u32,.ty u32],[u32,u32],λx=>yY x.1 x.2.1 x.2.2⟩:=xp t36 rn zg6 Tryz.func204 [] zo
def t37:=t36.d zcX
def ML:zW:=Lz [] [Mm 0 (.sl u32),Mm 1 u32] ⟨[Mm 7 u32,Mi 8,.a u32],[(6,.cur 0 u32)],uo⟩ [⟨.exit 0,⟨[Mm 7 u32,.a u32],[(6,.cur 0 u32)],uo⟩⟩] λp s=>eA p.1 p.2 s
def zb5:Hints:=Hz [(0,ML)] [] [(7,[6])]
theorem z42:LO Tryz.f174 ML 0:=lk t37 rn zb5 [] zo
theorem zdM:zH Pz 174 ⟨[.ty (.sl u32),.ty u32],[(.sl u32),u32],λx=>eR x.1 x.2⟩:=xp t37 rn zb5 Tryz.func174 [0] (qe rfl z42 zo)
def t38:=t37.d zdM
def zfk:Hints:=Hz [] [(3,1,.flat [Mm 0 u32,Mi 2]),(3,4,.flat [Mm 0 u32,Mi 2])] []
theorem z9H:zH Pz 247 ⟨[.ty u32],[i64],λx=>yX x⟩:=xp t38 rn zfk Tryz.func247 [] zo
def t39:=t38.d z9H
theorem zc1:zH Pz 232 ⟨[.ty u32],[i64],λx=>vi x⟩:=xp t39 rn hN Tryz.func232 [] zo
def t40:=t39.d zc1
def MG:zW:=Lz [] [Mm 1 (.int .u64),Mi 2,Mm 13 (.sl u32),Mi 14] z5o [SZ] λp s=>tJ p.1 p.2.1 p.2.2.1 p.2.2.2 s
def zd6:Hints:=Hz [(0,MG)] [] []
theorem z3f:LO Tryz.f233 MG 0:=lk t40 rn zd6 [] zo
theorem z5s:qR Pz 233 ⟨[.any,.any,.any],⟨[Mm 0 (.sl u32),Mm 1 (.int .u64),Mi 2],[],[]⟩,[],⟨[.a u32],[(0,.cur 0 u32)],uo⟩,1,λx=>fe x.1 x.2.1 x.2.2⟩:=tk t40 rn zd6 Tryz.func233 [0] (qe rfl z3f zo)
def t41:=t40.s z5s
def LK:zW:=Lz [] [Mm 2 u32,Mm 3 u32,Mm 4 u32] ⟨[Mm 12 (.int .u64),Mm 13 (.int .u64)],[],[]⟩ [⟨.exit 0,⟨[Mm 12 (.int .u64)],[],[]⟩⟩] λp s=>bf p.1 p.2.1 p.2.2 s
def zcj:Hints:=Hz [(0,LK)] [(0,3,.flat [Mb 42])] []
theorem z2c:LO Tryz.f234 LK 0:=lk t41 rn zcj [] zo
theorem zcF:zH Pz 234 ⟨[.ty u32,.ty u32,.ty u32,.ty u32,.ty u32],[(.int .u64)],λx=>eO x.1 x.2.1 x.2.2.1 x.2.2.2.1 x.2.2.2.2⟩:=xp t41 rn zcj Tryz.func234 [0] (qe rfl z2c zo)
def t42:=t41.d zcF
theorem zcQ:zH Pz 248 ⟨[.ty u32,.ty u32,.ty u32],[u32,u32],λx=>jG x.1 x.2.1 x.2.2⟩:=xp t42 rn hN Tryz.func248 [] zo
def t43:=t42.d zcQ
theorem zdT:zH Pz 249 ⟨[.ty u32,.ty u32,.ty u32],[u32,u32],λx=>yT x.1 x.2.1 x.2.2⟩:=xp t43 rn hN Tryz.func249 [] zo
def t44:=t43.d zdT
def LH:zW:=Lz [] [Mm 1 (.sl u32),Mm 2 (.int .u64),Mm 14 (.sl u32),Mi 15] ⟨[.s 0 (.sub 0 u32),Mm 7 (.int .u64),Mm 8 u32,Mi 16,.a u32],[],uo⟩ [⟨.exit 0,⟨[.s 0 (.sub 0 u32),Mm 7 (.int .u64),Mm 8 u32,.a u32],[],uo⟩⟩] λp s=>b5 p.1 p.2.1 p.2.2.1 p.2.2.2 s
def IQ:zW:=Lz [] [Mm 1 (.sl u32),Mm 62 (.sl u32),Mi 63] ⟨[.s 0 (.sub 0 u32),Mm 11 u32,Mi 64,.a u32],[],uo⟩ [⟨.exit 2,⟨[.s 0 (.sub 0 u32),Mm 11 u32,.a u32],[],uo⟩⟩] λp s=>b9 p.1 p.2.1 p.2.2 s
def z71:Hints:=Hz [(0,LH),(2,IQ)] [] []
theorem z4e:LO Tryz.f235 LH 0:=lk t44 rn z71 [] zo
theorem z3Y:LO Tryz.f235 IQ 2:=lk t44 rn z71 [] zo
theorem zdS:qR Pz 235 ⟨[.sub,.any,.any],⟨[.s 0 (.sub 0 u32),Mm 1 (.sl u32),Mm 2 (.int .u64),.a u32],[],uo⟩,[],⟨[Mb 0,.a u32],[],uo⟩,1,λx=>iO x.1 x.2.1 x.2.2.1 x.2.2.2⟩:=tk t44 rn z71 Tryz.func235 [0,2] (qe rfl z4e (qe rfl z3Y zo))
def t45:=t44.s zdS
def YS:zW:=Lz [] [Mm 1 (.int .u64),Mi 2,Mm 13 (.sl u32),Mi 14] z5o [SZ] λp s=>dy p.1 p.2.1 p.2.2.1 p.2.2.2 s
def Sy:Hints:=Hz [(0,YS)] [] []
theorem Ok:LO Tryz.f233 YS 0:=lk t45 rn Sy [] zo
theorem L3:zH Pz 233 ⟨[.ty (.sl u32),.ty (.int .u64),.ty i64],[(.sl u32)],λx=>Qb x.1 x.2.1 x.2.2⟩:=xp t45 rn Sy Tryz.func233 [0] (qe rfl Ok zo)
def t46:=t45.d L3
def zdf:Tb:=t46.d L3
def La:zW:=Lz [] [Mm 6 (.int .u64),Mm 38 (.sl u32),Mi 39] ⟨[Mi 40,.a u32],[(7,.cur 0 u32)],uo⟩ [SZ] λp s=>bn p.1 p.2.1 p.2.2 s
def zaz:Hints:=Hz [(0,La)] [] [(17,[7]),(21,[12])]
theorem z1K:LO Tryz.f236 La 0:=lk zdf rn zaz [] zo
theorem z9r:zH Pz 236 ⟨[.ty (.sl u32),.ty i64],[(.sl u32)],λx=>cI x.1 x.2⟩:=xp zdf rn zaz Tryz.func236 [0] (qe rfl z1K zo)
def t47:=t46.d z9r
def zaL:Tb:=t47.s z5s
def MW:zW:=Lz [] [Mm 6 (.int .u64),Mm 8 (.sl u32),Mi 9] ⟨[Mi 10,.a u32,.a u32],[(4,.cur 2 u32),(7,.cur 0 u32)],[.arr u32,.dead,.arr u32]⟩ [⟨.exit 0,⟨[.a u32,.a u32],[(4,.cur 2 u32),(7,.cur 0 u32)],[.arr u32,.dead,.arr u32]⟩⟩] λp s=>di p.1 p.2.1 p.2.2 s
def z9h:Hints:=Hz [(0,MW)] [(3,9,.ways [⟨.normal,⟨[Mm 11 (.int .u64),.a u32,.a u32],[(4,.cur 2 u32),(7,.cur 0 u32)],[.arr u32,.dead,.arr u32]⟩⟩])] [(5,[8]),(12,[4,7])]
theorem z1Z:LO Tryz.f209 MW 0:=lk zaL rn z9h [] zo
theorem zc0:zH Pz 209 ⟨[.ty (.sl u32),.ty (.sl u32)],[(.sl u32),(.sl u32)],λx=>QK x.1 x.2⟩:=xp zaL rn z9h Tryz.func209 [0] (qe rfl z1Z zo)
def t48:=t47.d zc0
theorem z9I:zH Pz 180 ⟨[.ty (.sl u32),.ty (.sl u32)],[(.sl u32),(.sl u32),.bool],λx=>gj x.1 x.2⟩:=xp t48 rn hN Tryz.func180 [] zo
def t49:=t48.d z9I
def Mw:zW:=Lz [] [] ⟨[Mm 0 (.sl u32),Mm 1 (.sl u32)],[],[]⟩ [⟨.exit 0,Sh⟩] λp s=>eX  s
def zba:Hints:=Hz [(0,Mw)] [] []
theorem z2A:LO Tryz.f145 Mw 0:=lk t49 rn zba [] zo
theorem za0:zH Pz 145 ⟨[.ty (.sl u32),.ty (.sl u32)],[(.sl u32)],λx=>Q6 x.1 x.2⟩:=xp t49 rn zba Tryz.func145 [0] (qe rfl z2A zo)
def t50:=t49.d za0
def zgD:Hints:=Hz [] [(0,2,.flat [Mb 19])] []
theorem z9s:zH Pz 149 ⟨[.ty .bool,.ty (.sl u32),.ty (.sl u32)],[wL],λx=>ns x.1 x.2.1 x.2.2⟩:=xp t50 rn zgD Tryz.func149 [] zo
def t51:=t50.d z9s
def zhp:Hints:=Hz [] [(0,9,.flat [Mb 58]),(3,13,.flat [Ms 14]),(0,17,.flat [Mb 94])] []
theorem zaF:zH Pz 113 ⟨[.ty .str],[wL,i64],λx=>gK x⟩:=xp t51 rn zhp Tryz.func113 [] zo
def t52:=t51.d zaF
def zfj:Hints:=Hz [] [(0,2,.flat [Mb 35]),(3,2,.ways [⟨.normal,⟨[Ms 3,.v (.zC zU),.v (.zC .expr)],[],II⟩⟩,⟨.yk (.iface 226 .xj),⟨[Mm 0 xJ,.v (.zC zU),.v (.zC .expr)],[],II⟩⟩])] []
theorem zdU:yi Pz 267 ⟨[.ptr],tx,[],Vn,1,226,QG,λx=>uK x⟩:=fkp t52 rn zfj Tryz.func267 [] zo
def t53:=t52.p zdU
def Yj:zW:=Lz [] [.s 1 (.xl 142 []),Mi 2,Mi 7] tx [Tv] λp s=>xc (λz0=>vV z0) p.2.1 p.2.2 s
def PF:Hints:=Hz [(0,Yj)] [(0,2,.ways [z61])] []
theorem OB:LO Tryz.f268 Yj 0:=lk t53 rn PF [] zo
theorem Lv:qR Pz 268 ⟨[.ptr,.xl 142,.any],⟨[.s 1 (.xl 142 []),Mi 2,.v (.zC zU)],[(0,.ptr 0 0)],Zc⟩,[],z5k,1,λx=>xn (λz0=>vV z0) x.2.1 x.2.2⟩:=tk t53 rn PF Tryz.func268 [0] (qe rfl OB zo)
def t54:=t53.s Lv
abbrev z7d:=vH.den tx->T (vH.den Vn⊕vH.den QG)
abbrev zgb(F:z7d):=yi Pz 251 ⟨[.ptr],tx,[],Vn,1,226,QG,F⟩
abbrev th:=vH.den tx->T (vH.den Vn⊕vH.den QG)
abbrev KH(F:th):=yi Pz 219 ⟨[.ptr],tx,[],Vn,1,226,QG,F⟩
def zhQ(V7:z7d)(qX:th):Hints:=Hz [] [(3,10,.ways [⟨.normal,Px⟩,⟨.yk (.iface 226 .xj),SY⟩]),(0,14,.ways [⟨.normal,⟨[Mb 46,.v (.zC zU),.v (.zC .expr)],[],II⟩⟩]),(0,16,.ways [⟨.normal,⟨[Mb 71,.v (.zC zU),.v (.zC .expr)],[],II⟩⟩])] []
theorem z3A(V7:z7d)(Rr:zgb V7)(qX:th)(kJ:KH qX):yi Pz 251 ⟨[.ptr],tx,[],Vn,1,226,QG,λx=>wy (λy0=>V7 (y0)) (λy0=>qX (y0)) x⟩:=fkp (((t54.s Lv).p kJ).p Rr) rn (zhQ V7 qX) Tryz.func251 [] zo
theorem z9V(qX:th)(kJ:KH qX):yi Pz 251 ⟨[.ptr],tx,[],Vn,1,226,QG,λx=>vt (λy0=>qX (y0)) x⟩:=LC (λV7 x=>wy (λy0=>V7 (y0)) (λy0=>qX (y0)) x) (λx=>rfl) (λV7 Rr=>z3A V7 Rr qX kJ)
def zdp(qX:th)(kJ:KH qX):Tb:=t54.p (z9V _ kJ)
def N0(qX:th):zW:=Lz [] [Ms 2,Mr 7 xJ] ⟨[.v (.zC zU),.v (.zC .expr),.v (.zC .expr)],[(0,.ptr 0 0),(1,.xl 1000251 [(0,0)]),(8,.ptr 1 0),(9,.ptr 2 0)],L1⟩ [⟨.ret,Px⟩,⟨.yk (.iface 226 .xj),SY⟩] λp s=>vc (λy0=>qX (y0)) p.1 p.2 s
def zc4(qX:th):Hints:=Hz [(0,N0 qX)] [] []
theorem z3n(qX:th)(kJ:KH qX):LO Tryz.f237 (N0 qX) 0:=lk (zdp qX kJ) (rz [7]) (zc4 qX) [] zo
theorem zbX(qX:th)(kJ:KH qX):yi Pz 237 ⟨[.ptr,.xl 1000251,.any,.any],⟨[.s 1 (.mclo 1000251 [.pt 0]),Ms 2,Mm 3 xJ,.v (.zC zU)],[(0,.ptr 0 0)],Zc⟩,[],Vn,1,226,QG,λx=>vL (λy0=>qX (y0)) x.1 x.2.1 x.2.2.1 x.2.2.2⟩:=fkp (zdp qX kJ) (rz [7]) (zc4 qX) Tryz.func237 [0] (qe rfl (z3n qX kJ) zo)
theorem zdb(qX:th)(kJ:KH qX):yi Pz 238 ⟨[.ptr],tx,[],Vn,1,226,QG,λx=>wM (λy0=>qX (y0)) x⟩:=fkp (t54.p (zbX _ kJ)) rn hN Tryz.func238 [] zo
def T7(qX:th)(kJ:KH qX):Tb:=t54.p (zdb _ kJ)
def YN(qX:th):zW:=Lz [] [Ms 2,Mr 7 xJ] ⟨[.v (.zC zU),.v (.zC .expr),.v (.zC .expr)],[(0,.ptr 0 0),(1,.xl 1000238 [(0,0)]),(8,.ptr 1 0),(9,.ptr 2 0)],L1⟩ [⟨.ret,Px⟩,⟨.yk (.iface 226 .xj),SY⟩] λp s=>wN (λy0=>qX (y0)) p.1 p.2 s
def z0d(qX:th):Hints:=Hz [(0,YN qX)] [] []
theorem P5(qX:th)(kJ:KH qX):LO Tryz.f237 (YN qX) 0:=lk (T7 qX kJ) (rz [7]) (z0d qX) [] zo
theorem z1x(qX:th)(kJ:KH qX):yi Pz 237 ⟨[.ptr,.xl 1000238,.any,.any],⟨[.s 1 (.mclo 1000238 [.pt 0]),Ms 2,Mm 3 xJ,.v (.zC zU)],[(0,.ptr 0 0)],Zc⟩,[],Vn,1,226,QG,λx=>vG (λy0=>qX (y0)) x.1 x.2.1 x.2.2.1 x.2.2.2⟩:=fkp (T7 qX kJ) (rz [7]) (z0d qX) Tryz.func237 [0] (qe rfl (P5 qX kJ) zo)
theorem z3k(qX:th)(kJ:KH qX):yi Pz 219 ⟨[.ptr],tx,[],Vn,1,226,QG,λx=>yv (λy0=>qX (y0)) x⟩:=fkp (t54.p (z1x _ kJ)) rn hN Tryz.func219 [] zo
theorem zbz:yi Pz 219 ⟨[.ptr],tx,[],Vn,1,226,QG,λx=>k9 x⟩:=LC (λqX x=>yv (λy0=>qX (y0)) x) (λx=>rfl) (λqX kJ=>z3k qX kJ)
def t55:=t54.p zbz
theorem zb2:gx (Pe Pz) 218 ⟨[.ptr,.ptr,.ptr],⟨[.v (.zC .expr),.v (.zC i64),.v (.zC i64)],[(0,.ptr 0 0),(1,.ptr 1 0),(2,.ptr 2 0)],SD⟩,[],z4X,0,λx=>ku x.1 x.2.1 x.2.2⟩:=fkr t55 rn hN Tryz.func218
theorem z2F:gx (Pg Pz 226) 218 ⟨[.ptr,.ptr,.ptr,.any],⟨[Mm 3 xJ,.v (.zC .expr),.v (.zC i64),.v (.zC i64)],[(0,.ptr 0 0),(1,.ptr 1 0),(2,.ptr 2 0)],SD⟩,[],z4X,0,λx=>jY x.1 x.2.1 x.2.2.1 x.2.2.2⟩:=fkh t55 rn hN Tryz.func218 3
theorem z9z:qR Pz 194 ⟨[.ptr],tx,[],⟨[Mm 0 .expr,Mi 1,Mi 2,.v (.zC zU)],[],Zc⟩,3,λx=>kf x⟩:=fkf t55 rn hN (g:=218) (pt:=226) zb2 z2F Tryz.func194
def t56:=t55.s z9z
def zft:Hints:=Hz [] [(3,2,.flat [Mb 4])] []
theorem zbP:zH Pz 210 ⟨[.ty i64],[i64],λx=>sD x⟩:=xp t56 rn zft Tryz.func210 [] zo
def t57:=t56.d zbP
def h90:Hints:=Hz [] [(0,1,.ways [⟨.normal,⟨[Mb 28],[],[]⟩⟩])] []
theorem zgu:zH Pz 90 ⟨[.ty wL],[.bool],λx=>Zn x⟩:=xp t57 (rz [1]) h90 Tryz.func90 [] zo
def t58:=t57.d zgu
theorem zd5:zH Pz 100 ⟨[.ty wL],[wL],λx=>fE x⟩:=xp t58 (rz [1]) hN Tryz.func100 [] zo
def t59:=t58.d zd5
def h91:Hints:=Hz [] [(0,2,.flat [Mb 2])] []
theorem zgY:zH Pz 91 ⟨[.ty wL],[.bool],λx=>eH x⟩:=xp t59 rn h91 Tryz.func91 [] zo
def t60:=t59.d zgY
theorem zbt:zH Pz 134 ⟨[.ty wL],[.str],λx=>oS x⟩:=xp t60 (rz [1]) hN Tryz.func134 [] zo
def t61:=t60.d zbt
def LY:zW:=Lz [] [] ⟨[.s 0 (.sub 0 (.int .u8)),Mi 2,Mi 3,.a (.int .u8)],[],JB⟩ [⟨.exit 0,z4Z⟩] λp s=>wi  s
def zcD:Hints:=Hz [(0,LY)] [] []
theorem z1D:LO Tryz.f175 LY 0:=lk t61 rn zcD [] zo
theorem zcm:qR Pz 175 ⟨[.sub],⟨[.s 0 (.sub 0 (.int .u8)),.a (.int .u8)],[],JB⟩,[],z4Z,0,λx=>vn x.1 x.2⟩:=tk t61 rn zcD Tryz.func175 [0] (qe rfl z1D zo)
def t62:=t61.s zcm
def LN:zW:=Lz [] [Mm 4 (.sl u32)] ⟨[Mm 5 u32,Mi 19,.a (.int .u8)],[(3,.cur 0 (.int .u8))],JB⟩ [⟨.exit 2,z5p⟩] λp s=>bO p s
def Lb:zW:=Lz [.slot 3 (.int .u8)] [] ⟨[Mm 0 (.sl u32),.a (.int .u8)],[(3,.cur 0 (.int .u8))],JB⟩ [⟨.exit 0,z5p⟩] λp s=>bL  s
def Me:zW:=Lz [] [] z5h [⟨.exit 4,z5h⟩] λp s=>cf  s
def z1k:Hints:=Hz [(2,LN),(0,Lb),(4,Me)] [(0,13,.flat [Mb 42])] []
theorem z3Z:LO Tryz.f135 LN 2:=lk t62 rn z1k [] zo
theorem z1E:LO Tryz.f135 Lb 0:=lk t62 rn z1k [2] (qe rfl z3Z zo)
theorem z4k:LO Tryz.f135 Me 4:=lk t62 rn z1k [] zo
theorem zbr:zH Pz 135 ⟨[.ty (.sl u32)],[.str],λx=>eJ x⟩:=xp t62 rn z1k Tryz.func135 [0,4] (qe rfl z1E (qe rfl z4k zo))
def t63:=t62.d zbr
theorem z98:zH Tryz.prog 246 ⟨[.ty .str,.ty i64],[.str],λx=>strings_Repeat x.1 x.2⟩:=by
 refine vX Tryz.func246 (by kernel_rfl) rfl λκ x zJ y hy hI ha => ?_
 obtain⟨s,n⟩:=x
 obtain⟨⟨h0,h1,h2⟩,hy⟩:=hy
 cases hy
 obtain⟨v0,r,rfl,GA,ha⟩:=qN.cons_inv (show qN κ [.zC .str s,.zC i64 n] zJ from ha)
 obtain⟨v1,r,rfl,Io,ha⟩:=ha.cons_inv
 rw[ha.ql,GA.vo,Io.gb]
 obtain⟨m,rfl⟩:=Int.eq_ofNat_of_zero_le h0
 refine(Go.Proofs.Tryz.strings_Repeat ⟨s.toArray⟩ m κ.w (by simp only at h1; omega) (by rw[show(ByteArray.size ⟨s.toArray⟩)=List.length s from List.size_toArray]; simpa using h2)).mono ?_
 rintro e w' ⟨rfl,hB⟩
 refine⟨hB,λ_=>⟨_,rfl,?_⟩⟩
 have e1:Lib.repeatL s m=kz s m:=L6 s m
 have e2:(Int.toNat (m:Int))=m:=by omega
 show RD _ (.zC .str (kz s (Int.toNat (m:Int)))) _
 rw[e2,<- e1]
 exact RD.str
def t64:=t63.d z98
theorem zds:zH Pz 231 ⟨[.ty .str,.ty i64],[.str],λx=>iP x.1 x.2⟩:=xp t64 rn hN Tryz.func231 [] zo
def t65:=t64.d zds
def IW:zW:=Lz [] [] ⟨[Mi 10,.v (.zC wL)],[(1,.ptr 0 0)],[.var (.zC wL)]⟩ [z5S,z5P] λp s=>yc  s
def zb0:Hints:=Hz [(0,IW)] [] []
theorem z45:LO Tryz.f206 IW 0:=lk t65 rn zb0 [] zo
theorem zaM:zH Pz 206 ⟨[.ty wL],[.str,.bool],λx=>mo x⟩:=xp t65 rn zb0 Tryz.func206 [0] (qe rfl z45 zo)
def t66:=t65.d zaM
def zhD:Hints:=Hz [] [(0,1,.ways [⟨.normal,⟨[Mb 15],[],[]⟩⟩])] []
theorem zbH:zH Pz 211 ⟨[.ty wL],[.bool],λx=>nM x⟩:=xp t66 (rz [1]) zhD Tryz.func211 [] zo
def t67:=t66.d zbH
theorem zcH:zH Pz 212 ⟨[.ty wL],[.bool],λx=>dz x⟩:=xp t67 (rz [1]) hN Tryz.func212 [] zo
def t68:=t67.d zcH
theorem zcx:zH Pz 181 ⟨[.ty .expr],[.bool],λx=>h9 x⟩:=xp t68 (rz [1]) hN Tryz.func181 [] zo
def t69:=t68.d zcx
abbrev Ya:=vH.den M8->T (vH.den Ni)
abbrev Oo(F:Ya):=qR Pz 147 ⟨IT,M8,[],Ni,1,F⟩
theorem zcC(ua:Ya)(iG:Oo ua):qR Pz 183 ⟨IT,⟨[Mm 0 .expr,Mr 1 i64,.v (.zC i64)],[(2,.ptr 0 0)],[.cvar (.ptr 1 0),.var (.zC i64)]⟩,[],z6d,1,λx=>jL (λy0 y1 y2=>ua (y0,y1,y2)) x.1 x.2.1 x.2.2⟩:=tk (t69.s iG) (rz [3]) hN Tryz.func183 [] zo
def zda(ua:Ya)(iG:Oo ua):Tb:=t69.s (zcC _ iG)
def Mp(ua:Ya):zW:=Lz [] [Mm 0 (.sl .expr),Mi 7] ⟨[.s 1 (.mclo 183 [.rp i64,.pt 0]),Mi 8,.v (.zC i64)],[],[.cvar (.ptr 1 0),.var (.zC i64)]⟩ [⟨.exit 0,⟨[.v (.zC i64)],[],[.cvar (.ptr 1 0),.var (.zC i64)]⟩⟩,⟨.ret,⟨[Mi 4,.v (.zC i64)],[],[.cvar (.ptr 1 0),.var (.zC i64)]⟩⟩] λp s=>zK (λy0 y1 y2=>ua (y0,y1,y2)) p.1 p.2 s
def zck(ua:Ya):Hints:=Hz [(0,Mp ua)] [] []
theorem z2u(ua:Ya)(iG:Oo ua):LO Tryz.f213 (Mp ua) 0:=lk (zda ua iG) rn (zck ua) [] zo
theorem zaB(ua:Ya)(iG:Oo ua):qR Pz 213 ⟨[.any,.xl 183],z5G,[],⟨[Mi 0,.v (.zC i64)],[],[.cvar (.ptr 1 0),.var (.zC i64)]⟩,1,λx=>qM (λy0 y1 y2=>ua (y0,y1,y2)) x.1 x.2.1 x.2.2⟩:=tk (zda ua iG) rn (zck ua) Tryz.func213 [0] (qe rfl (z2u ua iG) zo)
theorem zb3(ua:Ya)(iG:Oo ua):qR Pz 182 ⟨[.any,.xl 183],z5G,[],z6d,1,λx=>qh (λy0 y1 y2=>ua (y0,y1,y2)) x.1 x.2.1 x.2.2⟩:=tk (t69.s (zaB _ iG)) rn hN Tryz.func182 [] zo
def zhn(ua:Ya):Hints:=Hz [] [(0,2,.ways [⟨.normal,⟨[Mb 24,.v (.zC i64)],[],[.var (.zC i64),.cvar (.ptr 0 0)]⟩⟩])] []
theorem z4h(ua:Ya)(iG:Oo ua):qR Pz 147 ⟨IT,M8,[],Ni,1,λx=>bE (λy0 y1 y2=>ua (y0,y1,y2)) x.1 x.2.1 x.2.2⟩:=tk (t69.s (zb3 _ iG)) (rz [3,4]) (zhn ua) Tryz.func147 [] zo
theorem ze1:qR Pz 147 ⟨IT,M8,[],Ni,1,λx=>kB x.1 x.2.1 x.2.2⟩:=Hh (λua x=>bE (λy0 y1 y2=>ua (y0,y1,y2)) x.1 x.2.1 x.2.2) (λx=>rfl) (λua iG=>z4h ua iG)
def t70:=t69.s ze1
theorem zeS:zH Pz 97 ⟨[.ty .expr],[.bool],λx=>j3 x⟩:=xp t70 (rz [1]) hN Tryz.func97 [] zo
def t71:=t70.d zeS
def zeP:Hints:=Hz [] [(0,5,.ways [⟨.normal,⟨[Mb 31,.v (.zC .expr),.v (.zC zU),.v (.zC .expr)],[],[.var (.zC .expr),.var (.zC zU),.var (.zC .expr)]⟩⟩])] []
theorem zbn:zH Pz 157 ⟨[.ty .str],[.expr,i64,i64],λx=>kD x⟩:=xp t71 rn zeP Tryz.func157 [] zo
def t72:=t71.d zbn
theorem zbV:zH Tryz.prog 158 ⟨[.ty .str,.ty .str],[.bool],λx=>strings_Contains x.1 x.2⟩:=by
 refine vX Tryz.func158 (by kernel_rfl) rfl λκ x zJ y hy hI ha => ?_
 obtain⟨s,sub⟩:=x
 obtain⟨h0,hy⟩:=hy
 cases hy
 obtain⟨v0,r,rfl,GA,ha⟩:=qN.cons_inv (show qN κ [.zC .str s,.zC .str sub] zJ from ha)
 obtain⟨v1,r,rfl,Io,ha⟩:=ha.cons_inv
 rw[ha.ql,GA.vo,Io.vo]
 obtain⟨m,hm⟩:=vI hI
 refine(Go.Proofs.Tryz.strings_Contains ⟨s.toArray⟩ ⟨sub.toArray⟩ m κ.w (by rw[show(ByteArray.size ⟨s.toArray⟩)=List.length s from List.size_toArray]; exact h0) hm).mono ?_
 rintro e w' ⟨rfl,rfl⟩
 refine⟨Za _,λ_=>⟨_,rfl,?_⟩⟩
 have e1:Lib.contains s sub=decide ((0:Int)<=dZ s sub):=contains_eq s sub
 show RD _ (.zC .bool (decide ((0:Int)<=dZ s sub))) _
 rw[<- e1]
 exact RD.bool
def t73:=t72.d zbV
def zhf:Hints:=Hz [] [(0,6,.ways [⟨.normal,⟨[Mb 34,.v (.zC .expr),.v (.zC .expr)],[],Yd⟩⟩]),(3,6,.ways [⟨.normal,⟨[Ms 6,Ms 10,.v (.zC .expr),.v (.zC .expr)],[],Yd⟩⟩]),(0,12,.ways [⟨.normal,⟨[Mb 61,.v (.zC .expr),.v (.zC .expr)],[],Yd⟩⟩]),(3,11,.ways [⟨.normal,⟨[Mi 7,.v (.zC .expr),.v (.zC .expr)],[],Yd⟩⟩])] []
theorem zdP:zH Pz 109 ⟨[.ty .str,.ty .str],[.expr,.expr,.str,i64],λx=>u7 x.1 x.2⟩:=xp t73 rn zhf Tryz.func109 [] zo
def t74:=t73.d zdP
theorem zgx:zH Pz 96 ⟨[],[(.sl .str)],λ_=>vA⟩:=xp t74 rn hN Tryz.func96 [] zo
def t75:=t74.d zgx
def IP:zW:=Lz [] [Mm 0 (.sl .str),Ms 1,Mi 7] UP [gS,V9] λp s=>xb p.1 p.2.1 p.2.2 s
def zcG:Hints:=Hz [(0,IP)] [] []
theorem z3t:LO Tryz.f110 IP 0:=lk t75 rn zcG [] zo
theorem zaA:zH Pz 110 ⟨[.ty (.sl .str),.ty .str],[i64],λx=>xd x.1 x.2⟩:=xp t75 rn zcG Tryz.func110 [0] (qe rfl z3t zo)
def t76:=t75.d zaA
theorem zg8:zH Pz 81 ⟨[],[(.sl .str)],λ_=>wF⟩:=xp t76 rn hN Tryz.func81 [] zo
def t78:=t76.d zg8
theorem zd8:zH Pz 111 ⟨[.ty (.sl .str),.ty .str],[.bool],λx=>wJ x.1 x.2⟩:=xp t78 rn hN Tryz.func111 [] zo
def t79:=t78.d zd8
def zfo:Hints:=Hz [] [(0,1,.flat [Mb 8])] []
theorem zaT:zH Pz 114 ⟨[.ty (.sl .str),.ty i64,.ty i64,.ty .str],[.bool],λx=>wC x.1 x.2.1 x.2.2.1 x.2.2.2⟩:=xp t79 rn zfo Tryz.func114 [] zo
def t80:=t79.d zaT
def zf9:Hints:=Hz [] [(0,3,.ways [z5Z])] []
theorem z9u:zH Pz 112 ⟨[.ty (.sl .str),.ty i64],[.str,.bool],λx=>kQ x.1 x.2⟩:=xp t80 rn zf9 Tryz.func112 [] zo
def t81:=t80.d z9u
def z99:Hints:=Hz [] [(0,1,.ways [⟨.normal,⟨[Mb 29,.v lH,.a zu,.a zD,.a zO,.a zw,.a zY,.a zF],[],tq⟩⟩])] []
theorem z0O:qR Pz 54 ⟨Eg,z5r,[],CW,1,λx=>j4 x.1 x.2.1 x.2.2.1 x.2.2.2.1 x.2.2.2.2.1 x.2.2.2.2.2.1 x.2.2.2.2.2.2.1 x.2.2.2.2.2.2.2.1 x.2.2.2.2.2.2.2.2⟩:=tk t81 rn z99 Tryz.func54 [] zo
def t96:=t81.s z0O
def zcr:Hints:=Hz [] [(0,1,.ways [⟨.normal,⟨[Mb 31,.v lH,.a zu,.a zD,.a zO,.a zw,.a zY,.a zF],[],tq⟩⟩])] []
theorem z0Q:qR Pz 55 ⟨Eg,z5r,[],CW,1,λx=>vb x.1 x.2.1 x.2.2.1 x.2.2.2.1 x.2.2.2.2.1 x.2.2.2.2.2.1 x.2.2.2.2.2.2.1 x.2.2.2.2.2.2.2.1 x.2.2.2.2.2.2.2.2⟩:=tk t96 rn zcr Tryz.func55 [] zo
def t97:=t96.s z0Q
def zbf:Hints:=Hz [] [(0,1,.ways [⟨.normal,⟨[Mb 26,.v lH,.a zu,.a zD,.a zO,.a zw,.a zY,.a zF],[],tq⟩⟩])] []
theorem z00:qR Pz 56 ⟨tK,Lj,[],L7,1,λx=>jy x.1 x.2.1 x.2.2.1 x.2.2.2.1 x.2.2.2.2.1 x.2.2.2.2.2.1 x.2.2.2.2.2.2.1 x.2.2.2.2.2.2.2⟩:=tk t97 rn zbf Tryz.func56 [] zo
def t98:=t97.s z00
def zbw:Hints:=Hz [] [(0,1,.ways [z6c])] []
theorem RO:qR Pz 57 ⟨tK,Lj,[],L7,1,λx=>uN x.1 x.2.1 x.2.2.1 x.2.2.2.1 x.2.2.2.2.1 x.2.2.2.2.2.1 x.2.2.2.2.2.2.1 x.2.2.2.2.2.2.2⟩:=tk t98 rn zbw Tryz.func57 [] zo
def t99:=t98.s RO
def zbS:Hints:=Hz [] [(0,1,.ways [z6c])] []
theorem Tj:qR Pz 58 ⟨tK,Lj,[],L7,1,λx=>ud x.1 x.2.1 x.2.2.1 x.2.2.2.1 x.2.2.2.2.1 x.2.2.2.2.2.1 x.2.2.2.2.2.2.1 x.2.2.2.2.2.2.2⟩:=tk t99 rn zbS Tryz.func58 [] zo
def t100:=t99.s Tj
def h59:Hints:=Hz [] [(0,1,.ways [⟨.normal,⟨[Mb 23,.v lH,.a zu,.a zD,.a zO,.a zw,.a zY,.a zF],[],tq⟩⟩]),(0,5,.flat [Mb 44]),(3,5,.ways [z4R]),(0,8,.ways [⟨.normal,⟨[Mb 68,.v lH,.a zu,.a zD,.a zO,.a zw,.a zY,.a zF,.v (.zC zw)],[],[.var lH,.arr zu,.arr zD,.arr zO,.arr zw,.arr zY,.arr zF,.var (.zC zw)]⟩⟩]),(3,8,.ways [z4R])] []
theorem zfA:qR Pz 59 ⟨tK,Lj,[],L7,1,λx=>uG x.1 x.2.1 x.2.2.1 x.2.2.2.1 x.2.2.2.2.1 x.2.2.2.2.2.1 x.2.2.2.2.2.2.1 x.2.2.2.2.2.2.2⟩:=tk t100 rn h59 Tryz.func59 [] zo
def t101:=t100.s zfA
def h23:Hints:=Hz [] [(0,3,.flat [Mb 36]),(0,7,.flat [Mb 41]),(0,9,.flat [Mb 53])] []
theorem zfE:qR Pz 23 ⟨tK,z50,[],CW,1,λx=>en x.1 x.2.1 x.2.2.1 x.2.2.2.1 x.2.2.2.2.1 x.2.2.2.2.2.1 x.2.2.2.2.2.2.1 x.2.2.2.2.2.2.2⟩:=tk (((((t101.s Tj).s RO).s z00).s z0Q).s z0O) rn h23 Tryz.func23 [] zo
def t102:=t101.s zfE
theorem zhx:zH Pz 86 ⟨[.ty zu],[.bool],λx=>j9 x⟩:=xp t102 (rz [1]) hN Tryz.func86 [] zo
def t103:=t102.d zhx
def MA:zW:=Lz [] [Mm 0 (.sl zu),.s 1 (.xl 86 []),Mi 7] UP [gS,V9] λp s=>qV p.1 (λz0=>j9 z0) p.2.2 s
def zcU:Hints:=Hz [(0,MA)] [] []
theorem z2e:LO Tryz.f140 MA 0:=lk t103 rn zcU [] zo
theorem zbU:zH Pz 140 ⟨[.ty (.sl zu),.xl 86 []],[i64],λx=>wv x.1 (λz0=>j9 z0)⟩:=xp t103 rn zcU Tryz.func140 [0] (qe rfl z2e zo)
def t104:=t103.d zbU
theorem zg9:zH Pz 85 ⟨[.ty (.sl zu),.xl 86 []],[.bool],λx=>qW x.1 (λz0=>j9 z0)⟩:=xp t104 rn hN Tryz.func85 [] zo
def t105:=t104.d zg9
theorem zh7:zH Pz 89 ⟨[.ty zD],[.bool],λx=>j6 x⟩:=xp t105 (rz [1]) hN Tryz.func89 [] zo
def t106:=t105.d zh7
def MQ:zW:=Lz [] [Mm 0 (.sl zD),.s 1 (.xl 89 []),Mi 7] UP [gS,V9] λp s=>xh p.1 (λz0=>j6 z0) p.2.2 s
def zaa:Hints:=Hz [(0,MQ)] [] []
theorem z1G:LO Tryz.f143 MQ 0:=lk t106 rn zaa [] zo
theorem zbA:zH Pz 143 ⟨[.ty (.sl zD),.xl 89 []],[i64],λx=>wI x.1 (λz0=>j6 z0)⟩:=xp t106 rn zaa Tryz.func143 [0] (qe rfl z1G zo)
def t107:=t106.d zbA
theorem zge:zH Pz 88 ⟨[.ty (.sl zD),.xl 89 []],[.bool],λx=>xi x.1 (λz0=>j6 z0)⟩:=xp t107 rn hN Tryz.func88 [] zo
def t108:=t107.d zge
theorem zgk:zH Pz 94 ⟨[.ty .str],[.bool],λx=>y4 x⟩:=xp t108 rn hN Tryz.func94 [] zo
def t109:=t108.d zgk
theorem zi4:zH Pz 93 ⟨[.ty zO],[.bool],λx=>j8 x⟩:=xp t109 (rz [1]) hN Tryz.func93 [] zo
def t110:=t109.d zi4
def Ng:zW:=Lz [] [Mm 0 (.sl zO),.s 1 (.xl 93 []),Mi 7] UP [gS,V9] λp s=>xB p.1 (λz0=>j8 z0) p.2.2 s
def zcM:Hints:=Hz [(0,Ng)] [] []
theorem z4f:LO Tryz.f146 Ng 0:=lk t110 rn zcM [] zo
theorem zcu:zH Pz 146 ⟨[.ty (.sl zO),.xl 93 []],[i64],λx=>vd x.1 (λz0=>j8 z0)⟩:=xp t110 rn zcM Tryz.func146 [0] (qe rfl z4f zo)
def t111:=t110.d zcu
theorem zfK:zH Pz 92 ⟨[.ty (.sl zO),.xl 93 []],[.bool],λx=>xy x.1 (λz0=>j8 z0)⟩:=xp t111 rn hN Tryz.func92 [] zo
def t112:=t111.d zfK
theorem zgz:zH Pz 37 ⟨[.ty qG],[.bool],λx=>iN x⟩:=xp t112 (rz [1]) hN Tryz.func37 [] zo
def t113:=t112.d zgz
def h95:Hints:=Hz [] [(0,1,.flat [Mb 6])] []
theorem zfm:zH Pz 95 ⟨[.ty i64,.ty i64,.ty i64],[.bool],λx=>ca x.1 x.2.1 x.2.2⟩:=xp t113 rn h95 Tryz.func95 [] zo
def t114:=t113.d zfm
def Sj:zW:=Lz [] [Mr 1 qG,Mm 7 (.sl zw),Mi 8] z5Y [gS,tE] λp s=>jF p.1 p.2.1 p.2.2 s
def h38:Hints:=Hz [(0,Sj)] [(0,5,.ways [⟨.normal,⟨[Mb 36,.v (.zC zw)],[],[.var (.zC zw)]⟩⟩])] []
theorem z7x:LO Tryz.f38 Sj 0:=lk t114 (rz [1]) h38 [] zo
theorem zi1:zH Pz 38 ⟨[.ty qG],[.bool],λx=>eC x⟩:=xp t114 (rz [1]) h38 Tryz.func38 [0] (qe rfl z7x zo)
def t115:=t114.d zi1
theorem zhG:zH Pz 99 ⟨[.ty zY],[.bool],λx=>vK x⟩:=xp t115 (rz [1]) hN Tryz.func99 [] zo
def t116:=t115.d zhG
def Lr:zW:=Lz [] [Mm 0 (.sl zY),.s 1 (.xl 99 []),Mi 7] UP [gS,V9] λp s=>xw p.1 (λz0=>vK z0) p.2.2 s
def z9n:Hints:=Hz [(0,Lr)] [] []
theorem z3W:LO Tryz.f148 Lr 0:=lk t116 rn z9n [] zo
theorem z9X:zH Pz 148 ⟨[.ty (.sl zY),.xl 99 []],[i64],λx=>vk x.1 (λz0=>vK z0)⟩:=xp t116 rn z9n Tryz.func148 [0] (qe rfl z3W zo)
def t117:=t116.d z9X
theorem zfh:zH Pz 98 ⟨[.ty (.sl zY),.xl 99 []],[.bool],λx=>xA x.1 (λz0=>vK z0)⟩:=xp t117 rn hN Tryz.func98 [] zo
def t118:=t117.d zfh
def Si:zW:=Lz [] [Mr 1 qG,Mm 7 (.sl zF),Mi 8] z5Y [gS,tE] λp s=>jE p.1 p.2.1 p.2.2 s
def h39:Hints:=Hz [(0,Si)] [(0,5,.ways [⟨.normal,⟨[Mb 50,.v (.zC zF)],[],[.var (.zC zF)]⟩⟩])] []
theorem z6z:LO Tryz.f39 Si 0:=lk t118 (rz [1]) h39 [] zo
theorem zfW:zH Pz 39 ⟨[.ty qG],[.bool],λx=>dU x⟩:=xp t118 (rz [1]) h39 Tryz.func39 [0] (qe rfl z6z zo)
def t119:=t118.d zfW
end Go.AM.Lf
namespace Go.Proofs
section
open Go.RowKit
attribute [local go_sem] Oper.semAt_some
set_option maxRecDepth 100000
set_option maxHeartbeats 2000000
theorem pU.size:(Tryz.prog.info? 111).map (·.size)=some 2:=by kernel_rfl
theorem pU.pt:Tryz.prog.underlying 109=some (.pointer 111):=by kernel_rfl
theorem pU.up:Tryz.prog.underlying 191=some .unsafePointer:=by kernel_rfl
theorem pU.used(b:Nat)(w:World)(h0:w.cell? ⟨b,0,none⟩=some (.pointer (some ⟨b,0,none⟩))) :
  Calls Tryz.prog 133 #[.pointer (some ⟨b,0,none⟩)] w λe w'=>e=.returned (.tuple #[])/\w'=w:=by
 obtain⟨j,hj,hjs⟩:=Option.map_eq_some_iff.1 pU.size
 go_enter Tryz.func133,Tryz.ntmps133
 go_wp2
 rw[Lib.run_neq_ptr_same w _ pU.pt hj]
 go_wp2
 go_end0
 exact⟨rfl,rfl⟩
theorem pU.fresh(b:Nat)(w:World)(h0:w.cell? ⟨b,0,none⟩=some (.pointer none))(hsh:w.shape? b=some (111,2))(hfz:w.frozen? ⟨b,0,none⟩=false) :
  Calls Tryz.prog 133 #[.pointer (some ⟨b,0,none⟩)] w λe w'=>e=.returned (.tuple #[])/\w'=w.setCell ⟨b,0,none⟩ (.pointer (some ⟨b,0,none⟩)):=by
 obtain⟨j,hj,hjs⟩:=Option.map_eq_some_iff.1 pU.size
 go_enter Tryz.func133,Tryz.ntmps133
 go_wp2
 rw[Lib.run_to_unsafe w ⟨b,0,none⟩ pU.pt pU.up hj (by rw[hjs]; decide) hsh (Nat.zero_lt_succ 1)]
 simp only[Result.andThen]
 rw[Oper.upon_value]
 go_wp2
 rw[run_callFunc_extern Tryz.func172 (by kernel_rfl) (by kernel_rfl) (by kernel_rfl) (e:=Extern.AbiNoEscape.same) (by kernel_rfl)]
 rw[Lib.run_noEscape]
 simp only[Result.andThen]
 rw[Oper.upon_value]
 go_wp2
 rw[Lib.run_from_unsafe w ⟨b,0,none⟩ pU.up pU.pt hj hsh (by kernel_rfl)]
 simp only[Result.andThen]
 rw[Oper.upon_value]
 go_wp2
 go_end0
 exact⟨rfl,rfl⟩
end
end Go.Proofs

namespace Go.AM.Lf
open Go.Proofs
theorem zdQ:qR Tryz.prog 133 ⟨[.ptr],z5a,[],WB,0,λx=>lO x.1 x.2⟩:=HP (P:=Tryz.prog) (g:=133) (t:=111) (enters_of Tryz.func133 (by kernel_rfl) rfl) pU.used pU.fresh
def t120:=t119.s zdQ
theorem zhh:qR Pz 78 ⟨tK,⟨[Ms 1,.v Vk,.a (.int .u8)],[(0,.ptr 0 0)],rS⟩,[.pcell 0 1 (.int .u8)],⟨[Mi 0,.v Vk,.a (.int .u8)],[(1,.xj)],rS⟩,2,λx=>qi x.1 x.2.1 x.2.2⟩:=tk t120 rn hN Tryz.func78 [] zo
def t121:=t120.s zhh
theorem zhi:zH Pz 79 ⟨[.ty wL],[.str],λx=>mc x⟩:=xp t121 rn hN Tryz.func79 [] zo
def t122:=t121.d zhi
theorem zi7:zH Pz 82 ⟨[.ty .str],[.str],λx=>fH x⟩:=xp t122 rn hN Tryz.func82 [] zo
def t123:=t122.d zi7
theorem zdm:zH Tryz.prog 177 ⟨[.ty i64],[.str],λx=>strconv_Itoa x⟩:=by
 refine vX Tryz.func177 (by kernel_rfl) rfl λκ n zJ y hy hI ha => ?_
 obtain⟨⟨h0,h1⟩,hy⟩:=hy
 cases hy
 obtain⟨v0,r,rfl,GA,ha⟩:=qN.cons_inv (show qN κ [.zC i64 n] zJ from ha)
 rw[ha.ql,GA.gb]
 refine(Go.Proofs.Tryz.strconv_Itoa n h0 h1 κ.w (hM hI)).mono ?_
 rintro e w' ⟨rfl,k,os,rfl⟩
 refine⟨I1 _ _ _,λ_=>⟨_,rfl,?_⟩⟩
 have e1:Lib.itoa n=od n:=S1 n
 show RD _ (.zC .str (od n)) _
 rw[<- e1]
 exact RD.str
def t124:=t123.d zdm
def zhZ:Hints:=Hz [] [(3,2,.flat [Ms 3])] []
theorem zbO:zH Pz 138 ⟨[.ty zw],[.str],λx=>iQ x⟩:=xp t124 (rz [1]) zhZ Tryz.func138 [] zo
def t125:=t124.d zbO
def zht:Hints:=Hz [] [(3,2,.flat [Mb 5]),(3,5,.flat [Mb 8])] []
theorem zdk:zH Pz 208 ⟨[.ty .expr],[i64],λx=>cB x⟩:=xp t125 (rz [1]) zht Tryz.func208 [] zo
def t126:=t125.d zdk
abbrev z4m:=yn [.ty .expr]->T (BG [.str])
abbrev zc8(F:z4m):=zH Pz 178 ⟨[.ty .expr],[.str],F⟩
theorem za3(rA:z4m)(DW:zc8 rA):zH Pz 207 ⟨[.ty .expr,.ty i64],[.str],λx=>gJ (λy0=>rA (y0)) x.1 x.2⟩:=xp (t126.d DW) (rz [2]) hN Tryz.func207 [] zo
def zf8(rA:z4m):Hints:=Hz [] [(3,2,.ways [⟨.normal,U2⟩,⟨.ret,⟨[Ms 2],[],[]⟩⟩])] []
theorem z1I(rA:z4m)(DW:zc8 rA):zH Pz 178 ⟨[.ty .expr],[.str],λx=>dY (λy0=>rA (y0)) x⟩:=xp (t126.d (za3 _ DW)) (rz [1]) (zf8 rA) Tryz.func178 [] zo
theorem zdw:zH Pz 178 ⟨[.ty .expr],[.str],λx=>ng x⟩:=Uk (λrA x=>dY (λy0=>rA (y0)) x) (λx=>rfl) (λrA DW=>z1I rA DW)
def t127:=t126.d zdw
theorem zas:zH Pz 139 ⟨[.ty .expr],[.str],λx=>fM x⟩:=xp t127 (rz [1]) hN Tryz.func139 [] zo
def t128:=t127.d zas
theorem zf7:zH Pz 83 ⟨[.ty .expr,.ty .str,.ty .expr],[.str],λx=>dw x.1 x.2.1 x.2.2⟩:=xp t128 (rz [3,5]) hN Tryz.func83 [] zo
def t129:=t128.d zf7
def R0:zW:=Lz [] [Mi 2,Mr 4 qG,Mm 29 (.sl zw),Mi 30] ⟨[Mi 31,.v Vk,.a (.int .u8)],[(0,.ptr 0 0)],rS⟩ [⟨.exit 0,WB⟩] λp s=>jH p.1 p.2.1 p.2.2.1 p.2.2.2 s
def RP:zW:=Lz [] [Mi 2,Mm 45 (.sl zF),Mi 46] ⟨[Mi 47,.v Vk,.a (.int .u8)],[(0,.ptr 0 0)],rS⟩ [⟨.exit 2,WB⟩] λp s=>jB p.1 p.2.1 p.2.2 s
def h80:Hints:=Hz [(0,R0),(2,RP)] [] []
theorem z7n:LO Tryz.f80 R0 0:=lk t129 (rz [4]) h80 [] zo
theorem z6Y:LO Tryz.f80 RP 2:=lk t129 (rz [4]) h80 [] zo
theorem zhM:qR Pz 80 ⟨Eg,⟨[Mm 1 qG,Mi 2,.v Vk,.a (.int .u8)],[(0,.ptr 0 0)],rS⟩,[.pcell 0 1 (.int .u8)],WB,0,λx=>eF x.1 x.2.1 x.2.2.1 x.2.2.2⟩:=tk t129 (rz [4]) h80 Tryz.func80 [0,2] (qe rfl z7n (qe rfl z6Y zo))
def t130:=t129.s zhM
end Go.AM.Lf
namespace Go.Proofs
section
open Go.RowKit
attribute [local go_sem] Oper.semAt_some
set_option maxRecDepth 100000
set_option maxHeartbeats 2000000
theorem pU.mixed:Tryz.prog.follows .mixedOrders=true:=by kernel_rfl
theorem pU.pb:Tryz.prog.underlying 161=some (.pointer 5):=by kernel_rfl
theorem pU.c5:Tryz.prog.cellsOf 5=1:=by kernel_rfl
theorem pU.SF(W:World)(q:Option Addr):(Builtin.unsafeString_ #[161,3] 9 #[.pointer q,.int .i64 0]).run Tryz.prog W=.ok (.string .empty) W:=Lib.run_unsafeString_none W _ _ _ q
theorem pU.nil(b:Nat)(p:Value)(w:World)(Ep:w.heap[b]? = some (.cells #[p,.slice none 0 0] 111 (0,0))) :
  Calls Tryz.prog 84 #[.pointer (some ⟨b,0,none⟩)] w λe w'=>e=.returned (.string ⟨#[]⟩)/\w'=w.drew:=by
 have hUS:=pU.SF
 have c1:w.drew.cell? ⟨b,1,none⟩=some (.slice none 0 0):=by
  have:w.drew.heap[b]? = some (.cells #[p,.slice none 0 0] 111 (0,0)):=Ep
  rw[Lib.cell_of_heap this]; rfl
 have hSD:(Builtin.unsafeSliceData_ #[77] 161 #[.slice none 0 0]).run Tryz.prog w.drew=.ok (.pointer none) w.drew:=rfl
 have mixed:Tryz.prog.follows .mixedOrders=true:=pU.mixed
 go_enter Tryz.func84,Tryz.ntmps84
 go_wp2
 go_region_o
 all_goals (go_wp2; go_ret; exact⟨rfl,rfl⟩)
theorem pU.room(b g o cap:Nat)(p:Value)(w:World)(hc0:cap≠0)(Ep:w.heap[b]? = some (.cells #[p,.slice (some ⟨g,o,none⟩) 0 cap] 111 (0,0))) :
  Calls Tryz.prog 84 #[.pointer (some ⟨b,0,none⟩)] w λe w'=>e=.returned (.string ⟨#[]⟩)/\w'=w.drew:=by
 have hUS:=pU.SF
 have c1:w.drew.cell? ⟨b,1,none⟩=some (.slice (some ⟨g,o,none⟩) 0 cap):=by
  have:w.drew.heap[b]? = some (.cells #[p,.slice (some ⟨g,o,none⟩) 0 cap] 111 (0,0)):=Ep
  rw[Lib.cell_of_heap this]; rfl
 have hSD:(Builtin.unsafeSliceData_ #[77] 161 #[.slice (some ⟨g,o,none⟩) 0 cap]).run Tryz.prog w.drew=.ok (.pointer (some ⟨g,o,none⟩)) w.drew :=
  Lib.run_unsafeSliceData_row _ _ _ _ _ _ hc0
 clear hc0
 have mixed:Tryz.prog.follows .mixedOrders=true:=pU.mixed
 go_enter Tryz.func84,Tryz.ntmps84
 go_wp2
 go_region_o
 all_goals (go_wp2; go_ret; exact⟨rfl,rfl⟩)
theorem pU.full(b g cap:Nat)(p:Value)(cur:Array Value)(l:List UInt8)(w:World)(h0:l≠[])(vO:l.length<=cap)(z3X:l.length<=140737488355328)(Ep:w.heap[b]? = some (.cells #[p,.slice (some ⟨g,0,none⟩) l.length cap] 111 (0,0)))
  (hg:w.heap[g]? = some (.cells cur 5 (0,0))) (zka:l.length<=cur.size) (tF:∀ j x,l[j]? = some x->w.cell? ⟨g,j,none⟩=some (.int .u8 x.toNat)) :
  Calls Tryz.prog 84 #[.pointer (some ⟨b,0,none⟩)] w λe w'=>e=.returned (.string ⟨l.toArray⟩)/\w'=w.drew.freeze ⟨g,0,none⟩ l.length:=by
 have hl0:l.length≠0:=by simpa using h0
 have c1:w.drew.cell? ⟨b,1,none⟩=some (.slice (some ⟨g,0,none⟩) l.length cap):=by
  have:w.drew.heap[b]? = some (.cells #[p,.slice (some ⟨g,0,none⟩) l.length cap] 111 (0,0)):=Ep
  rw[Lib.cell_of_heap this]; rfl
 have hSD:(Builtin.unsafeSliceData_ #[77] 161 #[.slice (some ⟨g,0,none⟩) l.length cap]).run Tryz.prog w.drew=.ok (.pointer (some ⟨g,0,none⟩)) w.drew :=
  Lib.run_unsafeSliceData_row _ _ _ _ _ _ (by omega)
 have hUS:(Builtin.unsafeString_ #[161,3] 9 #[.pointer (some ⟨g,0,none⟩),.int .i64 l.length]).run Tryz.prog w.drew=.ok (.string ⟨l.toArray⟩) (w.drew.freeze ⟨g,0,none⟩ l.length):=by
  refine Lib.run_unsafeString_row w.drew 161 3 9 5 pU.pb pU.c5 g cur.size (by have hg':w.drew.heap[g]? = some (.cells cur 5 (0,0)):=hg; simp[World.shape?,hg']) l h0 (by omega) (by omega) ?_
  intro j x hx
  have e:(⟨g,0,none⟩:Addr).add j=⟨g,j,none⟩:=by unfold Addr.add; split<;>simp_all
  rw[e]
  exact tF j x hx
 have mixed:Tryz.prog.follows .mixedOrders=true:=pU.mixed
 go_enter Tryz.func84,Tryz.ntmps84
 go_wp2
 go_region_o
 all_goals (go_wp2; go_ret; exact⟨rfl,rfl⟩)
theorem pU.z6P(b g o:Nat)(p:Value)(cur:Array Value)(w:World)(Ep:w.heap[b]? = some (.cells #[p,.slice (some ⟨g,o,none⟩) 0 0] 111 (0,0)))(hg:w.heap[g]? = some (.cells cur 5 (0,0))) :
  Calls Tryz.prog 84 #[.pointer (some ⟨b,0,none⟩)] w λe w'=>e=.returned (.string ⟨#[]⟩)/\w'=w.drew.alloc (.view ⟨g,o,none⟩ 5):=by
 have hUS:=pU.SF
 have qD:b<w.heap.size:=by
  rcases Nat.lt_or_ge b w.heap.size with h' | h'
  ·exact h'
  ·simp[Array.getElem?_eq_none h']at Ep
 have c1:w.drew.cell? ⟨b,1,none⟩=some (.slice (some ⟨g,o,none⟩) 0 0):=by
  have:w.drew.heap[b]? = some (.cells #[p,.slice (some ⟨g,o,none⟩) 0 0] 111 (0,0)):=Ep
  rw[Lib.cell_of_heap this]; rfl
 have hSD:(Builtin.unsafeSliceData_ #[77] 161 #[.slice (some ⟨g,o,none⟩) 0 0]).run Tryz.prog w.drew=.ok (.pointer (some ⟨w.drew.heap.size,0,none⟩)) (w.drew.alloc (.view ⟨g,o,none⟩ 5)) :=
  Lib.run_unsafeSliceData_zero w.drew _ _ 5 pU.pb ⟨g,o,none⟩ 0 (5,cur.size) (by have hg':w.drew.heap[g]? = some (.cells cur 5 (0,0)):=hg; simp[World.shape?,hg'])
 have c2:(w.drew.alloc (.view ⟨g,o,none⟩ 5)).cell? ⟨b,1,none⟩=some (.slice (some ⟨g,o,none⟩) 0 0):=by
  have:(w.drew.alloc (.view ⟨g,o,none⟩ 5)).heap[b]? = _:=(Lib.alloc_old w.drew _ b qD).trans Ep
  rw[Lib.cell_of_heap this]; rfl
 have c3:(w.alloc (.view ⟨g,o,none⟩ 5)).drew.cell? ⟨b,1,none⟩=some (.slice (some ⟨g,o,none⟩) 0 0):=c2
 have c0:w.cell? ⟨b,1,none⟩=some (.slice (some ⟨g,o,none⟩) 0 0):=c1
 have mixed:Tryz.prog.follows .mixedOrders=true:=pU.mixed
 go_enter Tryz.func84,Tryz.ntmps84
 go_wp2
 go_region_o
 all_goals (go_wp2; go_ret; exact⟨rfl,rfl⟩)
end
end Go.Proofs

namespace Go.AM.Lf
open Go.Proofs
theorem zfi:qR Tryz.prog 84 ⟨[.ptr],z5a,[],⟨[Ms 0,.v (.st [.op 0 111,.un])],[],[.var (.st [.op 0 111,.un]),.dead]⟩,1,λx=>nH x.1 x.2⟩:=OL (P:=Tryz.prog) (g:=84) (t:=111) (enters_of Tryz.func84 (by kernel_rfl) rfl) pU.nil pU.room pU.full pU.z6P
def t131:=t130.s zfi
def TZ:zW:=Lz [.cell 0 1 (.int .u8)] [Mr 1 qG,Mm 13 (.sl zu),Mi 14] ⟨[Mi 15,.v Vk,.a (.int .u8)],[(3,.ptr 0 0)],rS⟩ [⟨.exit 0,WB⟩] λp s=>kR p.1 p.2.1 p.2.2 s
def TK:zW:=Lz [] [Mr 1 qG,Mm 29 (.sl zD),Mi 30] ⟨[Mi 31,.v Vk,.a (.int .u8)],[(3,.ptr 0 0)],rS⟩ [⟨.exit 2,WB⟩] λp s=>kE p.1 p.2.1 p.2.2 s
def TO:zW:=Lz [] [Mr 1 qG,Mi 48] ⟨[Mi 49,.v Vk,.a (.int .u8)],[(3,.ptr 0 0)],rS⟩ [⟨.exit 4,WB⟩] λp s=>kv p.1 p.2 s
def PC:zW:=Lz [] [Mm 57 (.sl zY),Mi 58] ⟨[Mi 59,.v Vk,.a (.int .u8)],[(3,.ptr 0 0)],rS⟩ [⟨.exit 6,WB⟩] λp s=>kA p.1 p.2 s
def h36:Hints:=Hz [(0,TZ),(2,TK),(4,TO),(6,PC)] [(3,6,.flat [Ms 6])] []
theorem z7D:LO Tryz.f36 TZ 0:=lk t131 (rz [1]) h36 [] zo
theorem z7P:LO Tryz.f36 TK 2:=lk t131 (rz [1]) h36 [] zo
theorem z7U:LO Tryz.f36 TO 4:=lk t131 (rz [1]) h36 [] zo
theorem z6T:LO Tryz.f36 PC 6:=lk t131 (rz [1]) h36 [] zo
theorem zhK:zH Pz 36 ⟨[.ty qG],[.str],λx=>de x⟩:=xp t131 (rz [1]) h36 Tryz.func36 [0,2,4,6] (qe rfl z7D (qe rfl z7P (qe rfl z7U (qe rfl z6T zo))))
def t132:=t131.d zhK
theorem zi3:zH Pz 20 ⟨[.ty qG],[.bool],λx=>mK x⟩:=xp t132 (rz [1]) hN Tryz.func20 [] zo
def t133:=t132.d zi3
def TY:zW:=Lz [.cell 0 5 zF,.cell 1 5 zF,.cell 0 4 zY,.cell 1 4 zY,.cell 0 0 zu,.cell 1 0 zu,.cell 0 1 zD,.cell 1 1 zD,.cell 0 2 zO,.cell 1 2 zO,.cell 0 3 zw,.cell 1 3 zw] [Mm 14 (.sl .str),Mi 15] ⟨[Mi 16,.v Td,.v Dn,.a zF,.a zF,.a zY,.a zY,.a zu,.a zu,.a zD,.a zD,.a zO,.a zO,.a zw,.a zw],[(2,.ptr 0 0),(5,.ptr 1 0)],z5K⟩ [⟨.exit 0,⟨[.v Td,.v Dn,.a zF,.a zF,.a zY,.a zY,.a zu,.a zu,.a zD,.a zD,.a zO,.a zO,.a zw,.a zw],[],z5K⟩⟩,⟨.ret,⟨[Mi 3,Mi 4,.v (.zC qG),.v Dn,.a zF,.a zF,.a zY,.a zY,.a zu,.a zu,.a zD,.a zD,.a zO,.a zO,.a zw,.a zw],[],[.var (.zC qG),.var Dn,.arr zF,.arr zF,.arr zY,.arr zY,.arr zu,.arr zu,.arr zD,.arr zD,.arr zO,.arr zO,.arr zw,.arr zw]⟩⟩] λp s=>kO p.1 p.2 s
def T6:Hints:=Hz [(0,TY)] [] []
theorem z7T:LO Tryz.f10 TY 0:=lk t133 rn T6 [] zo
theorem zhC:zH Pz 10 ⟨[.ty .str],[qG,i64,i64],λx=>uQ x⟩:=xp t133 rn T6 Tryz.func10 [0] (qe rfl z7T zo)
def t134:=t133.d zhC
def PH:zW:=Lz [] [Ms 0,Mi 4] z5c [⟨.exit 2,z5c⟩] λp s=>yQ p.1 p.2 s
def Tm:zW:=Lz [.slot 3 .str] [Ms 0] ⟨[Mi 4,.a .str],[(3,.cur 0 .str)],[.arr .str]⟩ [⟨.exit 0,⟨[.a .str],[(3,.cur 0 .str)],[.arr .str]⟩⟩] λp s=>jR p s
def h24:Hints:=Hz [(2,PH),(0,Tm)] [(0,7,.flat [Mb 26])] []
theorem z8v:LO Tryz.f24 PH 2:=lk t134 rn h24 [] zo
theorem z7i:LO Tryz.f24 Tm 0:=lk t134 rn h24 [2] (qe rfl z8v zo)
theorem zeU:zH Pz 24 ⟨[.ty .str],[(.sl .str)],λx=>eY x⟩:=xp t134 rn h24 Tryz.func24 [0] (qe rfl z7i zo)
def t135:=t134.d zeU
def h67:Hints:=Hz [] [(0,1,.flat [Mb 2])] []
theorem zfG:zH Pz 67 ⟨[.ty (.int .u8)],[.bool],λx=>wB x⟩:=xp t135 rn h67 Tryz.func67 [] zo
def t136:=t135.d zfG
def h68:Hints:=Hz [] [(0,1,.flat [Mb 2])] []
theorem zf4:zH Pz 68 ⟨[.ty (.int .u8)],[.bool],λx=>uX x⟩:=xp t136 rn h68 Tryz.func68 [] zo
def t137:=t136.d zf4
def TI:zW:=Lz [] [Ms 0] Yr [gS,tE] λp s=>yb p s
def h30:Hints:=Hz [(0,TI)] [(0,1,.ways [z6a]),(0,6,.ways [⟨.normal,⟨[Mb 41],[],[]⟩⟩])] []
theorem z8G:LO Tryz.f30 TI 0:=lk t137 rn h30 [] zo
theorem zhl:zH Pz 30 ⟨[.ty .str],[.bool],λx=>xk x⟩:=xp t137 rn h30 Tryz.func30 [0] (qe rfl z8G zo)
def t138:=t137.d zhl
def LV:zW:=Lz [] [Mm 0 (.sl u32)] Yr [R5] λp s=>b8 p s
def zcq:Hints:=Hz [(0,LV)] [(0,2,.flat [Mb 15])] []
theorem z3T:LO Tryz.f125 LV 0:=lk t138 rn zcq [] zo
theorem zcn:zH Pz 125 ⟨[.ty (.sl u32)],[(.sl u32)],λx=>xa x⟩:=xp t138 rn zcq Tryz.func125 [0] (qe rfl z3T zo)
def t139:=t138.d zcn
theorem zdA:zH Pz 162 ⟨[.ty (.int .u64)],[(.sl u32)],λx=>n9 x⟩:=xp t139 rn hN Tryz.func162 [] zo
def t140:=t139.d zdA
def Lh:zW:=Lz [] [Mm 4 (.sl u32)] ⟨[Mm 5 (.int .u64),Mi 6],[],[]⟩ [⟨.exit 0,⟨[Mm 5 (.int .u64)],[],[]⟩⟩] λp s=>fR p s
def zbb:Hints:=Hz [(0,Lh)] [] []
theorem z2T:LO Tryz.f165 Lh 0:=lk t140 rn zbb [] zo
theorem zaR:zH Pz 165 ⟨[.ty (.sl u32)],[(.int .u64),.bool],λx=>Q2 x⟩:=xp t140 rn zbb Tryz.func165 [0] (qe rfl z2T zo)
def t141:=t140.d zaR
def M6:zW:=Lz [] [Mm 0 (.sl u32),Mm 1 (.int .u64)] z5R [⟨.exit 0,⟨[Mm 7 (.int .u64),.a u32],[(6,.cur 0 u32)],uo⟩⟩] λp s=>cY p.1 p.2 s
def zap:Hints:=Hz [(0,M6)] [] [(9,[6])]
theorem z1P:LO Tryz.f166 M6 0:=lk t141 rn zap [] zo
theorem zbg:zH Pz 166 ⟨[.ty (.sl u32),.ty (.int .u64)],[(.sl u32),(.int .u64)],λx=>cA x.1 x.2⟩:=xp t141 rn zap Tryz.func166 [0] (qe rfl z1P zo)
def t142:=t141.d zbg
theorem zdd:zH Pz 163 ⟨[.ty (.sl u32),.ty i64],[(.int .u64)],λx=>c9 x.1 x.2⟩:=xp t142 rn hN Tryz.func163 [] zo
def t143:=t142.d zdd
def LM:zW:=Lz [.slot 8 u32] [Mm 5 (.sl u32),Mm 7 (.int .u64)] ⟨[Mi 9,.a u32],[(8,.cur 0 u32)],uo⟩ [⟨.exit 0,⟨[.a u32],[(8,.cur 0 u32)],uo⟩⟩] λp s=>Z0 p.1 p.2 s
def Ll:zW:=Lz [] [Mm 5 (.sl u32),Mm 11 (.int .u64)] ⟨[Mm 12 (.int .u64),Mi 13,.a u32],[(10,.cur 0 u32)],uo⟩ [⟨.exit 2,⟨[.a u32],[(10,.cur 0 u32)],uo⟩⟩] λp s=>cW p.1 p.2 s
def z88:Hints:=Hz [(0,LM),(2,Ll)] [] [(14,[8]),(24,[10])]
theorem z1J:LO Tryz.f167 LM 0:=lk t143 rn z88 [] zo
theorem z3l:LO Tryz.f167 Ll 2:=lk t143 rn z88 [] zo
theorem zab:zH Pz 167 ⟨[.ty (.sl u32),.ty i64],[(.sl u32)],λx=>nc x.1 x.2⟩:=xp t143 rn z88 Tryz.func167 [0,2] (qe rfl z1J (qe rfl z3l zo))
def t144:=t143.d zab
def IH:zW:=Lz [.slot 5 u32] [Mm 0 (.sl u32),Mm 1 (.sl u32)] ⟨[Mm 6 (.int .u64),Mi 7,.a u32],[(5,.cur 0 u32)],uo⟩ [R8] λp s=>lq p.1 p.2 s
def zaK:Hints:=Hz [(0,IH)] [] [(9,[5])]
theorem z2s:LO Tryz.f120 IH 0:=lk t144 rn zaK [] zo
theorem zb7:zH Pz 120 ⟨[.ty (.sl u32),.ty (.sl u32)],[(.sl u32)],λx=>cZ x.1 x.2⟩:=xp t144 rn zaK Tryz.func120 [0] (qe rfl z2s zo)
def t145:=t144.d zb7
def LJ:zW:=Lz [] [Mm 5 (.sl u32),Mm 6 (.sl u32)] z4W [gS,V9] λp s=>da p.1 p.2 s
def zce:Hints:=Hz [(0,LJ)] [] []
theorem z3h:LO Tryz.f168 LJ 0:=lk t145 rn zce [] zo
theorem zdL:zH Pz 168 ⟨[.ty (.sl u32),.ty (.sl u32)],[i64],λx=>ri x.1 x.2⟩:=xp t145 rn zce Tryz.func168 [0] (qe rfl z3h zo)
def t146:=t145.d zdL
def Ly:zW:=Lz [.slot 6 u32] [Mm 0 (.sl u32),Mm 1 (.sl u32)] z5R [⟨.exit 0,⟨[.a u32],[(6,.cur 0 u32)],uo⟩⟩] λp s=>lA p.1 p.2 s
def zbi:Hints:=Hz [(0,Ly)] [(3,10,.flat [Mm 7 (.int .u64),Mm 9 (.int .u64)])] [(14,[6])]
theorem z2X:LO Tryz.f169 Ly 0:=lk t146 rn zbi [] zo
theorem z9W:zH Pz 169 ⟨[.ty (.sl u32),.ty (.sl u32)],[(.sl u32),.bool],λx=>Xk x.1 x.2⟩:=xp t146 rn zbi Tryz.func169 [0] (qe rfl z2X zo)
def t147:=t146.d z9W
def L9:zW:=Lz [] [Mm 0 (.sl u32),Mm 1 (.sl u32)] ⟨[Mm 14 (.sl u32),Mi 15,.a u32],[(13,.cur 0 u32)],uo⟩ [⟨.exit 0,z5Q⟩] λp s=>ja p.1 p.2 s
def zaD:Hints:=Hz [(0,L9)] [(0,5,.flat [Mb 33]),(0,7,.flat [Mb 46]),(3,16,.ways [⟨.normal,z5Q⟩])] [(21,[13])]
theorem z1w:LO Tryz.f127 L9 0:=lk t147 rn zaD [] zo
theorem zcz:zH Pz 127 ⟨[.ty (.sl u32),.ty (.sl u32)],[(.sl u32),(.sl u32),.bool],λx=>kN x.1 x.2⟩:=xp t147 rn zaD Tryz.func127 [0] (qe rfl z1w zo)
def t148:=t147.d zcz
def MH:zW:=Lz [] [] ⟨[Mm 5 (.sl u32),Mm 6 (.sl u32)],[],[]⟩ [⟨.exit 0,⟨[Mm 5 (.sl u32)],[],[]⟩⟩] λp s=>dv  s
def z9b:Hints:=Hz [(0,MH)] [] []
theorem z4r:LO Tryz.f126 MH 0:=lk t148 rn z9b [] zo
theorem zao:zH Pz 126 ⟨[.ty (.sl u32),.ty (.sl u32)],[(.sl u32)],λx=>Xd x.1 x.2⟩:=xp t148 rn z9b Tryz.func126 [0] (qe rfl z4r zo)
def t149:=t148.d zao
def h64:Hints:=Hz [] [(0,2,.flat [Mb 19])] []
theorem zfX:zH Pz 64 ⟨[.ty wL],[wL],λx=>jd x⟩:=xp t149 (rz [1]) h64 Tryz.func64 [] zo
def t150:=t149.d zfX
theorem zai:zH Pz 118 ⟨[.ty .bool,.ty (.sl u32),.ty (.sl u32)],[wL],λx=>cX x.1 x.2.1 x.2.2⟩:=xp t150 rn hN Tryz.func118 [] zo
def t151:=t150.d zai
def zfV:Hints:=Hz [] [(3,2,.flat [Mm 3 (.int .u64)])] []
theorem zaJ:zH Pz 115 ⟨[.ty i64],[wL],λx=>yy x⟩:=xp t151 rn zfV Tryz.func115 [] zo
def t152:=t151.d zaJ
def LS:zW:=Lz [] [Ms 0] Yr [R5] λp s=>iT p s
def zat:Hints:=Hz [(0,LS)] [(0,2,.flat [Mb 19])] []
theorem z2Q:LO Tryz.f116 LS 0:=lk t152 rn zat [] zo
theorem zav:zH Pz 116 ⟨[.ty .str],[i64],λx=>fJ x⟩:=xp t152 rn zat Tryz.func116 [0] (qe rfl z2Q zo)
def t153:=t152.d zav
def L5:zW:=Lz [] [Mm 0 (.sl u32),Mm 1 (.sl u32),Mi 6] ⟨[Mm 7 (.int .u64),Mi 8,.a u32],[(5,.cur 0 u32)],uo⟩ [⟨.exit 2,z5m⟩] λp s=>dF p.1 p.2.1 p.2.2 s
def Na:zW:=Lz [] [Mm 0 (.sl u32),Mm 1 (.sl u32)] ⟨[Mi 6,.a u32],[(5,.cur 0 u32)],uo⟩ [R8] λp s=>iD p.1 p.2 s
def z6l:Hints:=Hz [(2,L5),(0,Na)] [(0,7,.flat [Mb 28])] [(13,[5])]
theorem z1q:LO Tryz.f121 L5 2:=lk t153 rn z6l [] zo
theorem z3m:LO Tryz.f121 Na 0:=lk t153 rn z6l [2] (qe rfl z1q zo)
theorem zcB:zH Pz 121 ⟨[.ty (.sl u32),.ty (.sl u32)],[(.sl u32)],λx=>yS x.1 x.2⟩:=xp t153 rn z6l Tryz.func121 [0] (qe rfl z3m zo)
def t154:=t153.d zcB
def M7:zW:=Lz [] [Ms 0] ⟨[Mm 4 (.sl u32),Mi 5],[],[]⟩ [z4G,⟨.ret,⟨[Mb 3],[(2,.xH)],[]⟩⟩] λp s=>cP p s
def zbl:Hints:=Hz [(0,M7)] [(0,1,.flat [Mb 13]),(0,7,.flat [Mb 29])] []
theorem z1W:LO Tryz.f117 M7 0:=lk t154 rn zbl [] zo
theorem za1:zH Pz 117 ⟨[.ty .str],[(.sl u32),.bool],λx=>gv x⟩:=xp t154 rn zbl Tryz.func117 [0] (qe rfl z1W zo)
def t155:=t154.d za1
def L2:zW:=Lz [] [Mi 0] ⟨[Mm 3 (.sl u32),Mi 4],[],[]⟩ [z52] λp s=>dD p s
def z9O:Hints:=Hz [(0,L2)] [] []
theorem z3I:LO Tryz.f119 L2 0:=lk t155 rn z9O [] zo
theorem zbF:zH Pz 119 ⟨[.ty i64],[(.sl u32)],λx=>rW x⟩:=xp t155 rn z9O Tryz.func119 [0] (qe rfl z3I zo)
def t156:=t155.d zbF
def h60:Hints:=Hz [] [(0,3,.flat [Mb 4]),(3,4,.flat [Ms 0]),(0,14,.flat [Mb 71])] []
theorem zgX:zH Pz 60 ⟨[.ty .str],[wL,i64],λx=>kK x⟩:=xp t156 rn h60 Tryz.func60 [] zo
def t157:=t156.d zgX
def h61:Hints:=Hz [] [(0,3,.ways [z5Z])] []
theorem zgK:zH Pz 61 ⟨[.ty (.sl .str),.ty i64],[.str,.bool],λx=>jz x.1 x.2⟩:=xp t157 rn h61 Tryz.func61 [] zo
def t158:=t157.d zgK
def h62:Hints:=Hz [] [(0,1,.flat [Mb 13]),(0,5,.flat [Mb 30]),(3,5,.ways [z4U]),(0,8,.flat [Mb 63]),(3,8,.ways [z4U])] []
theorem zfr:zH Pz 62 ⟨[.ty (.sl .str),.ty i64],[zw,.bool],λx=>kP x.1 x.2⟩:=xp t158 rn h62 Tryz.func62 [] zo
def t159:=t158.d zfr
def MS:zW:=Lz [] [Ms 0,Mm 1 (.int .u8)] X7 [gS,V9] λp s=>bG p.1 p.2 s
def zdg:Hints:=Hz [(0,MS)] [] []
theorem z1y:LO Tryz.f122 MS 0:=lk t159 rn zdg [] zo
theorem zcZ:zH Pz 122 ⟨[.ty .str,.ty (.int .u8)],[i64],λx=>mB x.1 x.2⟩:=xp t159 rn zdg Tryz.func122 [0] (qe rfl z1y zo)
def t160:=t159.d zcZ
def Mf:zW:=Lz [] [] td [⟨.exit 0,z4I⟩] λp s=>wa  s
def zan:Hints:=Hz [(0,Mf)] [(0,0,.flat [Mb 23])] []
theorem z1m:LO Tryz.f200 Mf 0:=lk t160 rn zan [] zo
theorem zac:qR Pz 200 ⟨[.ptr],td,[],z4I,0,λx=>we x⟩:=tk t160 rn zan Tryz.func200 [0] (qe rfl z1m zo)
def t161:=t160.s zac
def zi5:Hints:=Hz [] [(0,2,.flat [Mb 21])] []
theorem zd7:qR Pz 228 ⟨[.ptr],td,[],⟨[Mm 0 (.int .u8),.v (.zC zX)],[],Q3⟩,1,λx=>w7 x⟩:=tk t161 rn zi5 Tryz.func228 [] zo
def t162:=t161.s zd7
theorem z9t:qR Pz 201 ⟨tK,⟨[Mi 1,.v (.zC zX)],[(0,.ptr 0 0)],Q3⟩,[],Vp,1,λx=>xe x.1 x.2⟩:=tk t162 rn hN Tryz.func201 [] zo
def t163:=t162.s z9t
theorem zaY:qR Pz 253 ⟨[.ptr],td,[],z5y,1,λx=>vz x⟩:=tk t163 rn hN Tryz.func253 [] zo
def t164:=t163.s zaY
def zh5:Hints:=Hz [] [(0,2,.flat [Mb 36])] []
theorem zca:qR Pz 254 ⟨tK,⟨[Mm 1 (.int .u8),.v (.zC zX)],[(0,.ptr 0 0)],Q3⟩,[],z5y,1,λx=>jo x.1 x.2⟩:=tk t164 rn zh5 Tryz.func254 [] zo
def t165:=t164.s zca
def Lo:zW:=Lz [] [] ⟨[Mi 3,.v (.zC zX)],[(0,.ptr 0 0)],Q3⟩ [⟨.exit 0,⟨[Mi 3,.v (.zC zX)],[],Q3⟩⟩] λp s=>wg  s
def zay:Hints:=Hz [(0,Lo)] [(0,2,.ways [⟨.normal,⟨[Mb 25,.v (.zC zX)],[],Q3⟩⟩])] []
theorem z2h:LO Tryz.f269 Lo 0:=lk t165 rn zay [] zo
theorem zbQ:qR Pz 269 ⟨[.ptr],td,[],⟨[Mi 0,.v (.zC zX)],[],Q3⟩,1,λx=>vq x⟩:=tk t165 rn zay Tryz.func269 [0] (qe rfl z2h zo)
def t166:=t165.s zbQ
def zfl:Hints:=Hz [] [(0,3,.flat [Mb 33]),(3,3,.ways [⟨.normal,IZ⟩,⟨.ret,IZ⟩]),(0,8,.ways [⟨.normal,⟨[.v (.zC zX),.v (.zC .expr),.v (.zC wL)],[],[.var (.zC zX),.var (.zC .expr),.var (.zC wL)]⟩⟩])] []
theorem zdI:qR Pz 255 ⟨[.ptr],td,[],Vp,1,λx=>uL x⟩:=tk t166 rn zfl Tryz.func255 [] zo
def t167:=t166.s zdI
def N1:zW:=Lz [] [Mi 3] ⟨[.v (.zC zX),.v (.zC .expr)],[(0,.ptr 0 0),(2,.ptr 1 0)],z5T⟩ [⟨.exit 0,IZ⟩,⟨.ret,IZ⟩] λp s=>xT p s
def zbp:Hints:=Hz [(0,N1)] [(0,2,.ways [⟨.normal,⟨[Mb 53,.v (.zC zX),.v (.zC .expr)],[],z5T⟩⟩])] []
theorem z3D:LO Tryz.f256 N1 0:=lk t167 rn zbp [] zo
theorem zad:qR Pz 256 ⟨[.ptr],td,[],Vp,1,λx=>jn x⟩:=tk t167 rn zbp Tryz.func256 [0] (qe rfl z3D zo)
def t168:=t167.s zad
abbrev zaX:=vH.den td->T (vH.den Vp)
abbrev zgC(F:zaX):=qR Pz 241 ⟨[.ptr],td,[],Vp,1,F⟩
abbrev W6:=vH.den td->T (vH.den Vp)
abbrev E2(F:W6):=qR Pz 199 ⟨[.ptr],td,[],Vp,1,F⟩
theorem z4l(YJ:zaX)(RJ:zgC YJ)(xQ:W6)(bh:E2 xQ):qR Pz 241 ⟨[.ptr],td,[],Vp,1,λx=>wq (λy0=>YJ (y0)) (λy0=>xQ (y0)) x⟩:=tk ((t168.s bh).s RJ) rn hN Tryz.func241 [] zo
theorem zdl(xQ:W6)(bh:E2 xQ):qR Pz 241 ⟨[.ptr],td,[],Vp,1,λx=>vp (λy0=>xQ (y0)) x⟩:=Hh (λYJ x=>wq (λy0=>YJ (y0)) (λy0=>xQ (y0)) x) (λx=>rfl) (λYJ RJ=>z4l YJ RJ xQ bh)
theorem ze7:zH Pz 229 ⟨[.ty i64,.ty .expr,.ty .expr],[.expr],λx=>fB x.1 x.2.1 x.2.2⟩:=xp t168 (rz [4,5]) hN Tryz.func229 [] zo
def t169:=t168.d ze7
def z9d(xQ:W6)(bh:E2 xQ):Tb:=t169.s (zdl _ bh)
def Nd(xQ:W6):zW:=Lz [] [] z4D [z5E] λp s=>yz (λy0=>xQ (y0))  s
def zdu(xQ:W6):Hints:=Hz [(0,Nd xQ)] [] []
theorem z4x(xQ:W6)(bh:E2 xQ):LO Tryz.f227 (Nd xQ) 0:=lk (z9d xQ bh) rn (zdu xQ) [] zo
theorem zaZ(xQ:W6)(bh:E2 xQ):qR Pz 227 ⟨[.ptr],td,[],Vp,1,λx=>wS (λy0=>xQ (y0)) x⟩:=tk (z9d xQ bh) rn (zdu xQ) Tryz.func227 [0] (qe rfl (z4x xQ bh) zo)
def z9M(xQ:W6)(bh:E2 xQ):Tb:=t169.s (zaZ _ bh)
def Le(xQ:W6):zW:=Lz [] [] z4D [z5E] λp s=>dE (λy0=>xQ (y0))  s
def z9l(xQ:W6):Hints:=Hz [(0,Le xQ)] [] []
theorem z1r(xQ:W6)(bh:E2 xQ):LO Tryz.f199 (Le xQ) 0:=lk (z9M xQ bh) rn (z9l xQ) [] zo
theorem z4q(xQ:W6)(bh:E2 xQ):qR Pz 199 ⟨[.ptr],td,[],Vp,1,λx=>yp (λy0=>xQ (y0)) x⟩:=tk (z9M xQ bh) rn (z9l xQ) Tryz.func199 [0] (qe rfl (z1r xQ bh) zo)
theorem zc3:qR Pz 199 ⟨[.ptr],td,[],Vp,1,λx=>uE x⟩:=Hh (λxQ x=>yp (λy0=>xQ (y0)) x) (λx=>rfl) (λxQ bh=>z4q xQ bh)
def t170:=t169.s zc3
def MJ:zW:=Lz [] [] ⟨[Mm 3 (.sl u32),Ms 4],[],[]⟩ [⟨.exit 0,⟨[Ms 4],[],[]⟩⟩] λp s=>yK  s
def zcy:Hints:=Hz [(0,MJ)] [] []
theorem z2m:LO Tryz.f131 MJ 0:=lk t170 rn zcy [] zo
theorem zar:zH Pz 131 ⟨[.ty (.sl u32)],[.str],λx=>cz x⟩:=xp t170 rn zcy Tryz.func131 [0] (qe rfl z2m zo)
def t171:=t170.d zar
def Ld:zW:=Lz [] [Mi 1] z0F [⟨.exit 0,z0F⟩] λp s=>kI p s
def zaP:Hints:=Hz [(0,Ld)] [] []
theorem z2q:LO Tryz.f202 Ld 0:=lk t171 rn zaP [] zo
theorem zcT:zH Pz 202 ⟨[.ty (.sl u32),.ty i64],[.str],λx=>ll x.1 x.2⟩:=xp t171 rn zaP Tryz.func202 [0] (qe rfl z2q zo)
def t172:=t171.d zcT
theorem zaE:zH Pz 130 ⟨[.ty .bool],[.str],λx=>eM x⟩:=xp t172 rn hN Tryz.func130 [] zo
def t173:=t172.d zaE
def zhR:Hints:=Hz [] [(3,2,.flat [Ms 7])] []
theorem zaV:zH Pz 170 ⟨[.ty .bool,.ty (.sl u32),.ty i64],[.str],λx=>nJ x.1 x.2.1 x.2.2⟩:=xp t173 rn zhR Tryz.func170 [] zo
def t174:=t173.d zaV
def Lc:zW:=Lz [] [] ⟨[Mm 5 (.sl u32),Mi 6,.v (.zC wL)],[(4,.ptr 0 0)],[.var (.zC wL)]⟩ [z5S,z5P] λp s=>jS  s
def OA:Hints:=Hz [(0,Lc)] [] []
theorem z1B:LO Tryz.f128 Lc 0:=lk t174 (rz [1]) OA [] zo
theorem zb9:zH Pz 128 ⟨[.ty wL],[.str,.bool],λx=>ct x⟩:=xp t174 (rz [1]) OA Tryz.func128 [0] (qe rfl z1B zo)
def t175:=t174.d zb9
def Sf:zW:=Lz [] [Mm 0 (.sl u32),Mm 1 (.sl u32)] X7 [gS,Z4] λp s=>jK p.1 p.2 s
def h65:Hints:=Hz [(0,Sf)] [] []
theorem z8w:LO Tryz.f65 Sf 0:=lk t175 rn h65 [] zo
theorem zhT:zH Pz 65 ⟨[.ty (.sl u32),.ty (.sl u32)],[.bool],λx=>gA x.1 x.2⟩:=xp t175 rn h65 Tryz.func65 [0] (qe rfl z8w zo)
def t176:=t175.d zhT
theorem zf1:zH Pz 69 ⟨[.ty wL],[.bool],λx=>QD x⟩:=xp t176 (rz [1]) hN Tryz.func69 [] zo
def t177:=t176.d zf1
def h70:Hints:=Hz [] [(0,2,.flat [Mb 2])] []
theorem zfv:zH Pz 70 ⟨[.ty wL],[.bool],λx=>nU x⟩:=xp t177 (rz [1]) h70 Tryz.func70 [] zo
def t178:=t177.d zfv
theorem zgl:zH Pz 31 ⟨[.ty wL],[.bool],λx=>eL x⟩:=xp t178 (rz [1]) hN Tryz.func31 [] zo
def t179:=t178.d zgl
theorem zdB:zH Pz 129 ⟨[.ty wL],[.bool],λx=>kH x⟩:=xp t179 (rz [1]) hN Tryz.func129 [] zo
def t180:=t179.d zdB
abbrev Y71:=yn [.ty .expr,.ty i64]->T (BG [.bool])
abbrev H71(F:Y71):=zH Pz 71 ⟨[.ty .expr,.ty i64],[.bool],F⟩
def T71(me:Y71)(Ds:H71 me):Tb:=t180.d Ds
def z0h(me:Y71):zW:=Lz [] [Mi 1,Mr 2 .expr,Mi 5] UP [⟨.exit 1,Gd⟩,Z4] λp s=>dA (λy0 y1=>me (y0,y1)) p.1 p.2.1 p.2.2 s
def h71(me:Y71):Hints:=Hz [(1,z0h me)] [(3,4,.ways [⟨.normal,X7⟩,Z4]),(0,17,.ways [⟨.normal,⟨[Mb 82],[],[]⟩⟩])] []
theorem z8z(me:Y71)(Ds:H71 me):LO Tryz.f71 (z0h me) 1:=lk (T71 me Ds) (rz [2]) (h71 me) [] zo
theorem z6Z(me:Y71)(Ds:H71 me):zH Pz 71 ⟨[.ty .expr,.ty i64],[.bool],λx=>nF (λy0 y1=>me (y0,y1)) x.1 x.2⟩:=xp (T71 me Ds) (rz [2]) (h71 me) Tryz.func71 [1] (qe rfl (z8z me Ds) zo)
theorem zi6:zH Pz 71 ⟨[.ty .expr,.ty i64],[.bool],λx=>mE x.1 x.2⟩:=Uk (λme x=>nF (λy0 y1=>me (y0,y1)) x.1 x.2) (λx=>rfl) (λme Ds=>z6Z me Ds)
def t181:=t180.d zi6
abbrev Y72:=yn [.ty .expr]->T (BG [i64])
abbrev H72(F:Y72):=zH Pz 72 ⟨[.ty .expr],[i64],F⟩
def T72(mJ:Y72)(D7:H72 mJ):Tb:=t181.d D7
def S6(mJ:Y72):zW:=Lz [] [Mr 1 .expr] z55 [R5] λp s=>yN (λy0=>mJ (y0)) p s
def h72(mJ:Y72):Hints:=Hz [(0,S6 mJ)] [] []
theorem z6K(mJ:Y72)(D7:H72 mJ):LO Tryz.f72 (S6 mJ) 0:=lk (T72 mJ D7) (rz [1]) (h72 mJ) [] zo
theorem z7r(mJ:Y72)(D7:H72 mJ):zH Pz 72 ⟨[.ty .expr],[i64],λx=>eE (λy0=>mJ (y0)) x⟩:=xp (T72 mJ D7) (rz [1]) (h72 mJ) Tryz.func72 [0] (qe rfl (z6K mJ D7) zo)
theorem zgf:zH Pz 72 ⟨[.ty .expr],[i64],λx=>nz x⟩:=Uk (λmJ x=>eE (λy0=>mJ (y0)) x) (λx=>rfl) (λmJ D7=>z7r mJ D7)
def t182:=t181.d zgf
theorem zff:zH Pz 33 ⟨[.ty .expr],[.bool],λx=>gf x⟩:=xp t182 (rz [1]) hN Tryz.func33 [] zo
def t183:=t182.d zff
def zhk:Hints:=Hz [] [(0,4,.flat [Mb 27]),(3,4,.ways [⟨.normal,⟨[.v (.zC .expr),.v (.zC zX),.v (.zC .expr)],[],z4K⟩⟩]),(0,8,.ways [⟨.normal,⟨[Mb 52,.v (.zC .expr),.v (.zC zX),.v (.zC .expr)],[],z4K⟩⟩])] []
theorem zcs:zH Pz 164 ⟨[.ty .str],[.expr,i64,i64],λx=>jr x⟩:=xp t183 rn zhk Tryz.func164 [] zo
def t184:=t183.d zcs
def Lq:zW:=Lz [] [Ms 0] ⟨[Mi 6,.v (.zC .expr),.v (.zC .expr)],[(2,.ptr 0 0),(3,.ptr 1 0)],Yd⟩ [⟨.exit 0,⟨[Mi 6,.v (.zC .expr),.v (.zC .expr)],[],Yd⟩⟩] λp s=>yM p s
def zcO:Hints:=Hz [(0,Lq)] [(0,2,.flat [Mb 29]),(0,9,.flat [Mb 53]),(3,7,.flat [Mi 7,Mi 8])] []
theorem z1l:LO Tryz.f123 Lq 0:=lk t184 rn zcO [] zo
theorem zdD:zH Pz 123 ⟨[.ty .str],[.expr,.expr,i64,i64],λx=>cF x⟩:=xp t184 rn zcO Tryz.func123 [0] (qe rfl z1l zo)
def t185:=t184.d zdD
theorem zgg:zH Pz 19 ⟨[.ty i64],[.str],λx=>yO x⟩:=xp t185 rn hN Tryz.func19 [] zo
def t186:=t185.d zgg
def Mx:zW:=Lz [] [Ms 0] Yr [gS,⟨.ret,⟨[Mi 2],[],[]⟩⟩] λp s=>y5 p s
def zby:Hints:=Hz [(0,Mx)] [] []
theorem z3q:LO Tryz.f124 Mx 0:=lk t186 rn zby [] zo
theorem zcL:zH Pz 124 ⟨[.ty .str],[i64],λx=>uR x⟩:=xp t186 rn zby Tryz.func124 [0] (qe rfl z3q zo)
def t187:=t186.d zcL
def h63:Hints:=Hz [] [(0,5,.ways [⟨.normal,⟨[Mb 47,.v lH,.a zu,.a zD,.a zO,.a zw,.a zY,.a zF],[],tq⟩⟩]),(0,10,.ways [⟨.normal,⟨[Mb 107,.v lH,.a zu,.a zD,.a zO,.a zw,.a zY,.a zF],[],tq⟩⟩]),(0,13,.flat [Mb 123])] []
theorem zhP:qR Pz 63 ⟨tK,z50,[],CW,1,λx=>eB x.1 x.2.1 x.2.2.1 x.2.2.2.1 x.2.2.2.2.1 x.2.2.2.2.2.1 x.2.2.2.2.2.2.1 x.2.2.2.2.2.2.2⟩:=tk t187 rn h63 Tryz.func63 [] zo
def t188:=t187.s zhP
def h25:Hints:=Hz [] [(0,3,.ways [⟨.normal,⟨[Mb 38,.v lH,.a zu,.a zD,.a zO,.a zw,.a zY,.a zF],[],tq⟩⟩]),(0,7,.ways [⟨.normal,⟨[Mb 66,.v lH,.a zu,.a zD,.a zO,.a zw,.a zY,.a zF],[],tq⟩⟩]),(0,13,.ways [⟨.normal,⟨[Mb 103,.v lH,.a zu,.a zD,.a zO,.a zw,.a zY,.a zF],[],tq⟩⟩]),(3,21,.flat [Mb 142])] []
theorem zi2:qR Pz 25 ⟨Eg,⟨[Ms 1,Mm 2 (.sl .str),.v lH,.a zu,.a zD,.a zO,.a zw,.a zY,.a zF],[(0,.ptr 0 0)],tq⟩,[],CW,1,λx=>lr x.1 x.2.1 x.2.2.1 x.2.2.2.1 x.2.2.2.2.1 x.2.2.2.2.2.1 x.2.2.2.2.2.2.1 x.2.2.2.2.2.2.2.1 x.2.2.2.2.2.2.2.2⟩:=tk t188 rn h25 Tryz.func25 [] zo
def t189:=t188.s zi2
theorem zf5:zH Pz 32 ⟨[.ty .str],[.bool],λx=>fX x⟩:=xp t189 rn hN Tryz.func32 [] zo
def t190:=t189.d zf5
def PD:zW:=Lz [] [Mr 1 qG] z55 [gS,tE] λp s=>yA p s
def z0H:zW:=Lz [] [Mr 1 qG] ⟨[Mi 3,Mi 6],[],[]⟩ [Sz,tE] λp s=>yL p s
def h34:Hints:=Hz [(0,PD),(2,z0H)] [(0,6,.ways [⟨.normal,⟨[Mb 47,.v (.zC zw)],[],[.var (.zC zw)]⟩⟩]),(0,14,.ways [⟨.normal,⟨[Mb 101,.v (.zC zF)],[],[.var (.zC zF)]⟩⟩])] []
theorem z81:LO Tryz.f34 PD 0:=lk t190 (rz [1]) h34 [] zo
theorem z6i:LO Tryz.f34 z0H 2:=lk t190 (rz [1]) h34 [] zo
theorem zgI:zH Pz 34 ⟨[.ty qG],[.bool],λx=>nI x⟩:=xp t190 (rz [1]) h34 Tryz.func34 [0,2] (qe rfl z81 (qe rfl z6i zo))
def t191:=t190.d zgI
def h73:Hints:=Hz [] [(0,3,.flat [Mb 24])] []
theorem zfa:zH Pz 73 ⟨[.ty wL],[.str],λx=>ny x⟩:=xp t191 (rz [1]) h73 Tryz.func73 [] zo
def t192:=t191.d zfa
theorem zh1:zH Pz 74 ⟨[.ty .str],[.str],λx=>sK x⟩:=xp t192 rn hN Tryz.func74 [] zo
def t193:=t192.d zh1
def h75:Hints:=Hz [] [(3,2,.flat [Ms 3])] []
theorem zgA:zH Pz 75 ⟨[.ty zw],[.str],λx=>n8 x⟩:=xp t193 (rz [1]) h75 Tryz.func75 [] zo
def t194:=t193.d zgA
def zeR:Hints:=Hz [] [(3,2,.flat [Mb 4]),(3,5,.flat [Mb 7])] []
theorem zbL:zH Pz 171 ⟨[.ty i64],[i64],λx=>pI x⟩:=xp t194 rn zeR Tryz.func171 [] zo
def t195:=t194.d zbL
abbrev z8g:=yn [.ty .expr,.ty i64]->T (BG [.str])
abbrev zgq(F:z8g):=zH Pz 132 ⟨[.ty .expr,.ty i64],[.str],F⟩
def zga(V6:z8g):Hints:=Hz [] [(3,2,.ways [⟨.normal,z0F⟩])] []
theorem z4s(V6:z8g)(T1:zgq V6):zH Pz 132 ⟨[.ty .expr,.ty i64],[.str],λx=>iV (λy0 y1=>V6 (y0,y1)) x.1 x.2⟩:=xp (t195.d T1) (rz [2]) (zga V6) Tryz.func132 [] zo
theorem zdj:zH Pz 132 ⟨[.ty .expr,.ty i64],[.str],λx=>sj x.1 x.2⟩:=Uk (λV6 x=>iV (λy0 y1=>V6 (y0,y1)) x.1 x.2) (λx=>rfl) (λV6 T1=>z4s V6 T1)
def t196:=t195.d zdj
theorem zgO:zH Pz 76 ⟨[.ty .expr],[.str],λx=>gm x⟩:=xp t196 (rz [1]) hN Tryz.func76 [] zo
def t197:=t196.d zgO
theorem zgW:zH Pz 77 ⟨[.ty i64],[.str],λx=>Q1 x⟩:=xp t197 rn hN Tryz.func77 [] zo
def t198:=t197.d zgW
def Se:zW:=Lz [] [Mr 1 qG] ⟨[Ms 3,Mi 4],[],[]⟩ [⟨.exit 0,U2⟩] λp s=>bJ p s
def z0J:zW:=Lz [] [Mr 1 qG] ⟨[Ms 3,Mi 6],[],[]⟩ [⟨.exit 2,U2⟩] λp s=>c8 p s
def Tw:zW:=Lz [] [Mr 1 qG,Mi 7] ⟨[Ms 3,Mi 8],[],[]⟩ [⟨.exit 6,U2⟩] λp s=>c7 p.1 p.2 s
def R4:zW:=Lz [] [Mr 1 qG,Mi 7] ⟨[Ms 3,Mi 9],[],[]⟩ [⟨.exit 8,U2⟩] λp s=>bC p.1 p.2 s
def Su:zW:=Lz [] [Mr 1 qG] ⟨[Ms 3,Mi 7],[],[]⟩ [⟨.exit 4,U2⟩] λp s=>bg p s
def MN:zW:=Lz [] [Mr 1 qG] ⟨[Ms 3,Mi 11],[],[]⟩ [⟨.exit 10,U2⟩] λp s=>bX p s
def h35:Hints:=Hz [(0,Se),(2,z0J),(6,Tw),(8,R4),(4,Su),(10,MN)] [(3,6,.flat [Ms 5])] []
theorem z7t:LO Tryz.f35 Se 0:=lk t198 (rz [1]) h35 [] zo
theorem z6o:LO Tryz.f35 z0J 2:=lk t198 (rz [1]) h35 [] zo
theorem z86:LO Tryz.f35 Tw 6:=lk t198 (rz [1]) h35 [] zo
theorem z7h:LO Tryz.f35 R4 8:=lk t198 (rz [1]) h35 [] zo
theorem z7E:LO Tryz.f35 Su 4:=lk t198 (rz [1]) h35 [6,8] (qe rfl z86 (qe rfl z7h zo))
theorem z3p:LO Tryz.f35 MN 10:=lk t198 (rz [1]) h35 [] zo
theorem zhd:zH Pz 35 ⟨[.ty qG],[.str],λx=>sX x⟩:=xp t198 (rz [1]) h35 Tryz.func35 [0,2,4,10] (qe rfl z7t (qe rfl z6o (qe rfl z7E (qe rfl z3p zo))))
def t199:=t198.d zhd
def TS:zW:=Lz [] [Mr 1 qG] Yr [gS,tE] λp s=>ij p s
def TU:zW:=Lz [] [Mr 1 qG] ⟨[Mi 4],[],[]⟩ [Sz,tE] λp s=>fU p s
def Sg:zW:=Lz [] [Mr 1 qG] X7 [⟨.exit 4,Gd⟩,tE] λp s=>ic p s
def Pv:zW:=Lz [] [Mr 1 qG] z5C [⟨.exit 6,Gd⟩,tE] λp s=>fp p s
def h15:Hints:=Hz [(0,TS),(2,TU),(4,Sg),(6,Pv)] [(0,9,.ways [⟨.normal,⟨[Mb 47],[],[]⟩⟩]),(0,14,.ways [⟨.normal,⟨[Mb 72],[],[]⟩⟩]),(0,20,.ways [⟨.normal,⟨[Mb 116,.v (.zC zY)],[],[.var (.zC zY)]⟩⟩])] []
theorem z8x:LO Tryz.f15 TS 0:=lk t199 (rz [1]) h15 [] zo
theorem z7I:LO Tryz.f15 TU 2:=lk t199 (rz [1]) h15 [] zo
theorem z6e:LO Tryz.f15 Sg 4:=lk t199 (rz [1]) h15 [] zo
theorem z7j:LO Tryz.f15 Pv 6:=lk t199 (rz [1]) h15 [] zo
theorem zhX:zH Pz 15 ⟨[.ty qG],[.bool],λx=>Xb x⟩:=xp t199 (rz [1]) h15 Tryz.func15 [0,2,4,6] (qe rfl z8x (qe rfl z7I (qe rfl z6e (qe rfl z7j zo))))
def t200:=t199.d zhX
def Sp:zW:=Lz [.cell 0 0 zu,.cell 1 0 zu,.cell 0 1 zD,.cell 1 1 zD,.cell 0 2 zO,.cell 1 2 zO,.cell 0 3 zw,.cell 1 3 zw,.cell 0 5 zF,.cell 1 5 zF,.cell 0 4 zY,.cell 1 4 zY] [Ms 0] ⟨[Mi 6,Mi 7,Mi 8,.v (.st [.row 2 zu,.row 4 zD,.row 6 zO,.row 8 zw,.row 12 zY,.row 10 zF]),.v Sw,.a zu,.a zu,.a zD,.a zD,.a zO,.a zO,.a zw,.a zw,.a zF,.a zF,.a zY,.a zY],[(2,.ptr 0 0),(5,.ptr 1 0)],z4y⟩ [⟨.exit 0,z57⟩,z5W] λp s=>wm p s
def h11:Hints:=Hz [(0,Sp)] [(0,8,.flat [Mb 31]),(0,10,.flat [Mb 46]),(3,10,.ways [⟨.normal,z57⟩,z5W])] []
theorem z6F:LO Tryz.f11 Sp 0:=lk t200 rn h11 [] zo
theorem zg2:zH Pz 11 ⟨[.ty .str],[qG,i64,i64],λx=>eW x⟩:=xp t200 rn h11 Tryz.func11 [0] (qe rfl z6F zo)
def t201:=t200.d zg2
theorem zfd:zH Pz 16 ⟨[.ty qG],[.str],λx=>iS x⟩:=xp t201 (rz [1]) hN Tryz.func16 [] zo
def t202:=t201.d zfd
theorem zha:zH Pz 13 ⟨[],[.bool],λ_=>cy⟩:=xp t202 rn hN Tryz.func13 [] zo
def t203:=t202.d zha
theorem zeZ:zH Pz 26 ⟨[.ty wL,.ty wL],[.bool],λx=>cK x.1 x.2⟩:=xp t203 (rz [2,3]) hN Tryz.func26 [] zo
def t204:=t203.d zeZ
abbrev Y66:=yn [.ty .expr,.ty .expr]->T (BG [.bool])
abbrev H66(F:Y66):=zH Pz 66 ⟨[.ty .expr,.ty .expr],[.bool],F⟩
def T66(mD:Y66)(BV:H66 mD):Tb:=t204.d BV
def S4(mD:Y66):zW:=Lz [] [Mr 2 .expr,Mr 3 .expr] X7 [gS,Z4] λp s=>bm (λy0 y1=>mD (y0,y1)) p.1 p.2 s
def h66(mD:Y66):Hints:=Hz [(0,S4 mD)] [(0,1,.ways [⟨.normal,⟨[Mb 34],[],[]⟩⟩])] []
theorem z7N(mD:Y66)(BV:H66 mD):LO Tryz.f66 (S4 mD) 0:=lk (T66 mD BV) (rz [2,3]) (h66 mD) [] zo
theorem z6E(mD:Y66)(BV:H66 mD):zH Pz 66 ⟨[.ty .expr,.ty .expr],[.bool],λx=>pW (λy0 y1=>mD (y0,y1)) x.1 x.2⟩:=xp (T66 mD BV) (rz [2,3]) (h66 mD) Tryz.func66 [0] (qe rfl (z7N mD BV) zo)
theorem zfP:zH Pz 66 ⟨[.ty .expr,.ty .expr],[.bool],λx=>eP x.1 x.2⟩:=Uk (λmD x=>pW (λy0 y1=>mD (y0,y1)) x.1 x.2) (λx=>rfl) (λmD BV=>z6E mD BV)
def t205:=t204.d zfP
def TT:zW:=Lz [] [Mm 0 (.sl zY),Mm 1 (.sl zY)] X7 [gS,Z4] λp s=>uO p.1 p.2 s
def h27:Hints:=Hz [(0,TT)] [(0,6,.ways [z5U])] []
theorem z7u:LO Tryz.f27 TT 0:=lk t205 rn h27 [] zo
theorem zgV:zH Pz 27 ⟨[.ty (.sl zY),.ty (.sl zY)],[.bool],λx=>br x.1 x.2⟩:=xp t205 rn h27 Tryz.func27 [0] (qe rfl z7u zo)
def t206:=t205.d zgV
def z0v:zW:=Lz [] [Mm 0 (.sl zF),Mm 1 (.sl zF)] X7 [gS,Z4] λp s=>uf p.1 p.2 s
def h28:Hints:=Hz [(0,z0v)] [(0,6,.ways [z5U])] []
theorem z7y:LO Tryz.f28 z0v 0:=lk t206 rn h28 [] zo
theorem zfL:zH Pz 28 ⟨[.ty (.sl zF),.ty (.sl zF)],[.bool],λx=>yZ x.1 x.2⟩:=xp t206 rn h28 Tryz.func28 [0] (qe rfl z7y zo)
def t207:=t206.d zfL
def Sa:zW:=Lz [] [Mr 2 qG,Mr 3 qG] X7 [gS,Z4] λp s=>bP p.1 p.2 s
def z0m:zW:=Lz [] [Mr 2 qG,Mr 3 qG] z5C [Sz,Z4] λp s=>bp p.1 p.2 s
def SV:zW:=Lz [] [Mr 2 qG,Mr 3 qG] z4W [⟨.exit 4,Gd⟩,Z4] λp s=>bT p.1 p.2 s
def PT:zW:=Lz [] [Mr 2 qG,Mr 3 qG] UP [⟨.exit 6,Gd⟩,Z4] λp s=>bS p.1 p.2 s
def h12:Hints:=Hz [(0,Sa),(2,z0m),(4,SV),(6,PT)] [(0,1,.flat [Mb 42]),(0,11,.ways [⟨.normal,⟨[Mb 96],[],[]⟩⟩])] []
theorem z7b:LO Tryz.f12 Sa 0:=lk t207 (rz [2,3]) h12 [] zo
theorem z6Q:LO Tryz.f12 z0m 2:=lk t207 (rz [2,3]) h12 [] zo
theorem z8l:LO Tryz.f12 SV 4:=lk t207 (rz [2,3]) h12 [] zo
theorem z6v:LO Tryz.f12 PT 6:=lk t207 (rz [2,3]) h12 [] zo
theorem zhS:zH Pz 12 ⟨[.ty qG,.ty qG],[.bool],λx=>so x.1 x.2⟩:=xp t207 (rz [2,3]) h12 Tryz.func12 [0,2,4,6] (qe rfl z7b (qe rfl z6Q (qe rfl z8l (qe rfl z6v zo))))
def t208:=t207.d zhS
def z5d:zW:=Lz [.slot 11 i64] [Ms 0,Mi 1] ⟨[Mi 12,.v (.zC qG),.a i64],[(5,.ptr 0 0),(11,.cur 1 i64)],z5N⟩ [⟨.exit 0,⟨[.v (.zC qG),.a i64],[(11,.cur 1 i64)],z5N⟩⟩] λp s=>va p.1 p.2 s
def h5:Hints:=Hz [(0,z5d)] [] []
theorem ze4:LO Tryz.f5 z5d 0:=lk t208 rn h5 [] zo
theorem ok5:zH Pz 5 ⟨[.ty .str,.ty i64],[.bool],λx=>yW x.1 x.2⟩:=xp t208 rn h5 Tryz.func5 [0] (qe rfl ze4 zo)
def t209:=t208.d ok5
end Go.AM.Lf
