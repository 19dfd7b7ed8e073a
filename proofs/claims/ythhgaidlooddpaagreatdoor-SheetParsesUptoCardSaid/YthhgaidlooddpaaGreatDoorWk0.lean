/-
  The walk, part 0: each function of the program is the tree that the lifted text says; printed by a program of ours.
-/
import Derived.Test.YthhgaidlooddpaaGreatDoorProg
import Derived.KernelRfl
import Derived.Test.YthhgaidlooddpaaGreatDoorAmE
import Derived.Test.YthhgaidlooddpaaGreatDoorLf0
import Derived.WalkKit
import Derived.Shelf.Strings.FieldsFuncAny
import Derived.Lib.Builder
import Derived.Shelf.Strings.Builder1
import Derived.TacticsInMore
import Derived.Test.YthhgaidlooddpaaGreatDoorSh
set_option linter.unusedVariables false
set_option maxRecDepth 100000
noncomputable section
namespace Go.AM.Lf
open Go.Proofs
abbrev F2:Nat:=50
abbrev Pz:Program:=Tryz.prog
def vE(f:Func):Code:=match f.body with | some c=>c | none=>.skip
def lb(k:Nat)(f:Func):Code:=match ZA k (vE f)with | some c=>c | none=>.skip
theorem mixed:Pz.follows .mixedOrders=true:=by kernel_rfl
instance:ur:={ u8:=5,tab:=[(0,Be .i64),(4,Du .u64 Lib.pow10Tab)] }
theorem vF{κ:KS}(hI:Inv κ):∃ m,κ.w.cell? ⟨0,0,none⟩=some (.int .i64 m) :=
 Ol (hI.gl (0,Be .i64) (by simp[ur.tab])).2
theorem gX{κ:KS}(hI:Inv κ):Lib.TabIs Tryz.prog κ.w "internal/strconv.uint64pow10" .u64 Lib.pow10Tab :=
 z8d (g:=4) (by kernel_rfl) (hI.gl (4,Du .u64 Lib.pow10Tab) (by simp[ur.tab])).2
structure Tb where
 t:ez
 ok:yx Pz t
def Tb.d(T:Tb){g:Nat}{d:Dc}(h:zG Pz g d):Tb:=⟨(g,.d d)::T.t,Ek h T.ok⟩
def Tb.s(T:Tb){g:Nat}{d:kQ}(h:qQ Pz g d):Tb:=⟨(g,.s d)::T.t,CD h T.ok⟩
def Tb.p(T:Tb){g:Nat}{d:l9}(h:yl Pz g d):Tb:=⟨(g,.p d)::T.t,CR h T.ok⟩
def t0:Tb:=⟨[],N8 _⟩
def fL:List (Nat×zW)->Nat->Option zW
 | [],_=>none
 | x::r,n=>bif Nat.beq x.1 n then some x.2 else fL r n
def fC:List (Nat×Nat×z1C)->Nat->Nat->Option z1C
 | [],_,_=>none
 | x::r,k,n=>bif Nat.beq x.1 k&&Nat.beq x.2.1 n then some x.2.2 else fC r k n
def fF:List (Nat×List Nat)->Nat->List Nat
 | [],_=>[]
 | x::r,n=>bif Nat.beq x.1 n then x.2 else fF r n
def Hz(l:List (Nat×zW))(c:List (Nat×Nat×z1C))(f:List (Nat×List Nat)):Hints:=⟨fL l,fC c,fF f⟩
def hN:Hints:=Hz [] [] []
def rz(l:List Nat)(s:Nat):Bool:=l.any (Nat.beq s)
def rn(_:Nat):Bool:=false
def Lz(gh:List Gh)(ps:List It)(sh:vG)(ws:List Way)(R:vu ps->sh.den->T (sh.den⊕hJ ws)):zW:=⟨gh,ps,sh,ws,λp s=>T.loop (R p) s⟩
abbrev LO(f:Func)(l:zW)(i:Nat):Prop:=Qd Pz f.ntmps l (lb i f)
def ls(f:Func):List Nat->List (Nat×Code)
 | []=>[]
 | i::r=>(i,lb i f)::ls f r
abbrev Mi(n:Nat):It:=.s n (.zC i64)
abbrev Mb(n:Nat):It:=.s n (.zC .bool)
abbrev Ms(n:Nat):It:=.s n (.zC .str)
abbrev Mm(n:Nat)(t:Ty):It:=.s n (.zC t)
abbrev Mr(n:Nat)(t:Ty):It:=.s n (.xe t)
abbrev Sh0(l:List It):vG:=⟨l,[],[]⟩
theorem lk{f:Func}{i:Nat}{gh:List Gh}{ps:List It}{sh:vG}{ws:List Way}{R:vu ps->sh.den->T (sh.den⊕hJ ws)}(T:Tb)(ro:Nat->Bool)(H:Hints)(L:List Nat)(ha:HZ Pz f.ntmps H (ls f L))
  (h:∀ p s,PK (uE Pz F2 T.t ro) T.t f.ntmps H (Lz gh ps sh ws R) (lb i f) p s=R p s:=by intro p s; kernel_rfl) (hl:xD (lb i f)=ls f L:=by kernel_rfl):LO f (Lz gh ps sh ws R) i :=
 z2B (xid:=F2) (ro:=ro) (H:=H) mixed T.ok (Xa hl ha) R h λ_ _=>rfl
theorem xo{f:Nat}{fn:Func}{d:Dc}(T:Tb)(ro:Nat->Bool)(H:Hints)(hf:Pz.funcs[f]? = some fn)(L:List Nat)(ha:HZ Pz fn.ntmps H (ls fn L))
  (h:∀ x,Sr (uE Pz F2 T.t ro) T.t H fn (vE fn) d x=d.F x:=by intro x; kernel_rfl) (hb:fn.body=some (vE fn):=by rfl) (hn:(fn.name == "runtime.NumGoroutine")=false:=by kernel_rfl) (hl:xD (vE fn)=ls fn L:=by kernel_rfl):zG Pz f d :=
 zcM (xid:=F2) (ro:=ro) (H:=H) mixed T.ok hf hb hn (Xa hl ha) h
theorem tk{f:Nat}{fn:Func}{d:kQ}(T:Tb)(ro:Nat->Bool)(H:Hints)(hf:Pz.funcs[f]? = some fn)(L:List Nat)(ha:HZ Pz fn.ntmps H (ls fn L))
  (h:∀ x,FA (uE Pz F2 T.t ro) T.t H fn (vE fn) d x=d.F x:=by intro x; kernel_rfl) (hb:fn.body=some (vE fn):=by rfl) (hn:(fn.name == "runtime.NumGoroutine")=false:=by kernel_rfl) (hl:xD (vE fn)=ls fn L:=by kernel_rfl):qQ Pz f d :=
 z6H (xid:=F2) (ro:=ro) (H:=H) mixed T.ok hf hb hn (Xa hl ha) h
def hdB(c:Code):Code:=match c with | .seq _ b=>b | _=>.skip
def hdO(c:Code):Array Oper:=match c with | .seq (.region _ ops _) _=>ops | _ => #[]
def hdI(c:Code):Nat:=match c with | .seq (.region id _ _) _=>id | _=>0
theorem fkr{f:Nat}{fn:Func}{d:kQ}(T:Tb)(ro:Nat->Bool)(H:Hints)(hf:Pz.funcs[f]? = some fn)
  (h:∀ x,evH (uE Pz F2 T.t ro) T.t H fn (hdO (vE fn)) (hdB (vE fn)) d d.ks.length none x=d.F x:=by intro x; kernel_rfl) (hb:fn.body=some (.seq (.region (hdI (vE fn)) (hdO (vE fn)) false) (hdB (vE fn))):=by kernel_rfl) (hn:(fn.name == "runtime.NumGoroutine")=false:=by kernel_rfl) (hl:xD (hdB (vE fn))=[]:=by kernel_rfl):gy (Pb Pz) f d :=
 z2U (xid:=F2) (ro:=ro) (H:=H) mixed T.ok hf hb hn (VP hl) h
theorem fkh{f t:Nat}{fn:Func}{d:kQ}(T:Tb)(ro:Nat->Bool)(H:Hints)(hf:Pz.funcs[f]? = some fn)(k:Nat)
  (h:∀ x,evH (uE Pz F2 T.t ro) T.t H fn (hdO (vE fn)) (hdB (vE fn)) d k (some t) x=d.F x:=by intro x; kernel_rfl) (hk:d.ks.length=k+1:=by kernel_rfl) (hb:fn.body=some (.seq (.region (hdI (vE fn)) (hdO (vE fn)) false) (hdB (vE fn))):=by kernel_rfl) (hn:(fn.name == "runtime.NumGoroutine")=false:=by kernel_rfl) (hl:xD (hdB (vE fn))=[]:=by kernel_rfl):gy (P2 Pz t) f d :=
 z0Y (xid:=F2) (ro:=ro) (H:=H) mixed T.ok hf hb hn (VP hl) hk h
theorem ziY{g:Nat}{d:kQ}(_:gy (Pb Pz) g d):gy (P2 Pz 0) g { d with F:=λ_=>.fail }:=λ_ _ _ _ _ hy=>hy.elim
theorem fkf{f g pt:Nat}{fn:Func}{d d0 d1:kQ}(T:Tb)(ro:Nat->Bool)(H:Hints)(h0:gy (Pb Pz) g d0)(h1:gy (P2 Pz pt) g d1)(hf:Pz.funcs[f]? = some fn)
  (h:∀ x,PG (uE Pz F2 T.t ro) T.t H ⟨g,d0,pt,d1⟩ fn (vE fn) d x=d.F x:=by intro x; kernel_rfl) (hb:fn.body=some (vE fn):=by rfl) (hn:(fn.name == "runtime.NumGoroutine")=false:=by kernel_rfl) (hl:xD (vE fn)=[]:=by kernel_rfl):qQ Pz f d :=
 z6E (xid:=F2) (ro:=ro) (H:=H) mixed T.ok (h:=⟨g,d0,pt,d1⟩) h0 h1 hf hb hn hl h
theorem fkp{f:Nat}{fn:Func}{d:l9}(T:Tb)(ro:Nat->Bool)(H:Hints)(hf:Pz.funcs[f]? = some fn)(L:List Nat)(ha:HZ Pz fn.ntmps H (ls fn L))
  (h:∀ x,Ev (uE Pz F2 T.t ro) T.t H fn (vE fn) d x=d.F x:=by intro x; kernel_rfl) (hb:fn.body=some (vE fn):=by rfl) (hn:(fn.name == "runtime.NumGoroutine")=false:=by kernel_rfl) (hl:xD (vE fn)=ls fn L:=by kernel_rfl):yl Pz f d :=
 z86 (xid:=F2) (ro:=ro) (H:=H) mixed T.ok hf hb hn (Xa hl ha) h
abbrev lv:Dk:=.st [.row 1 zu,.row 2 zD,.row 3 zO,.row 4 zw,.row 5 zY,.row 6 zF]
abbrev tc:List Bk:=[.var lv,.arr zu,.arr zD,.arr zO,.arr zw,.arr zY,.arr zF]
abbrev ZG:List Bk:=[.var (.zC zU)]
abbrev Vb:Dk:=.st [.op 0 111,.row 1 (.int .u8)]
abbrev ta:vG:=⟨[.v (.zC zX)],[(0,.ptr 0 0)],[.var (.zC zX)]⟩
abbrev Ri:Dk:=.st [.row 3 zu,.row 5 zD,.row 7 zO,.row 9 zw,.row 13 zY,.row 11 zF]
abbrev Vp:vG:=⟨[Mm 0 .expr,.v (.zC zX)],[],[.var (.zC zX)]⟩
abbrev Q4:vG:=⟨[Mm 0 xH,.v (.zC zU)],[],ZG⟩
abbrev tf:vG:=⟨[.v (.zC zU)],[(0,.ptr 0 0)],ZG⟩
abbrev V8:vG:=⟨[Mm 0 .expr,.v (.zC zU)],[],ZG⟩
abbrev z50:List Bk:=[.var (.st [.row 2 zu,.row 4 zD,.row 6 zO,.row 8 zw,.row 12 zY,.row 10 zF]),.var Ri,.arr zu,.arr zu,.arr zD,.arr zD,.arr zO,.arr zO,.arr zw,.arr zw,.arr zF,.arr zF,.arr zY,.arr zY]
abbrev uj:List Bk:=[.arr u32]
abbrev C0:Dk:=.st [.row 7 zu,.row 9 zD,.row 11 zO,.row 13 zw,.row 5 zY,.row 3 zF]
abbrev gL:Way:=⟨.exit 0,⟨[],[],[]⟩⟩
abbrev Bw:vG:=⟨[Mi 0,.v lv,.a zu,.a zD,.a zO,.a zw,.a zY,.a zF],[],tc⟩
abbrev rR:List Bk:=[.var Vb,.arr (.int .u8)]
abbrev MX:List Bk:=[.var (.zC zU),.var (.zC .expr),.var (.zC .expr)]
abbrev z5e:Way:=⟨.ret,⟨[Mi 3,Mi 4,.v (.zC qI),.v Ri,.a zu,.a zu,.a zD,.a zD,.a zO,.a zO,.a zw,.a zw,.a zF,.a zF,.a zY,.a zY],[],[.var (.zC qI),.var Ri,.arr zu,.arr zu,.arr zD,.arr zD,.arr zO,.arr zO,.arr zw,.arr zw,.arr zF,.arr zF,.arr zY,.arr zY]⟩⟩
abbrev MZ:vG:=⟨[Mm 1 (.sl .str),.v lv,.a zu,.a zD,.a zO,.a zw,.a zY,.a zF],[(0,.ptr 0 0)],tc⟩
abbrev tU:Way:=⟨.ret,⟨[Mb 2],[],[]⟩⟩
abbrev tN:Way:=⟨.ret,⟨[Mb 4],[],[]⟩⟩
abbrev ME:vG:=⟨[Mm 0 .expr,Mi 1,.v (.zC i64)],[(2,.ptr 0 0)],[.var (.zC i64)]⟩
abbrev Wc:Way:=⟨.ret,⟨[Mi 4],[],[]⟩⟩
abbrev LF:vG:=⟨[Mb 0,.v lv,.a zu,.a zD,.a zO,.a zw,.a zY,.a zF],[],tc⟩
abbrev TG:Dk:=.st [.row 6 zu,.row 8 zD,.row 10 zO,.row 12 zw,.row 4 zY,.row 2 zF]
abbrev LU:vG:=⟨[.v (.zC zX),.v (.zC .expr)],[],[.var (.zC zX),.var (.zC .expr)]⟩
abbrev QL:vG:=⟨[Mi 5],[],[]⟩
abbrev z4p:vG:=⟨[.v (.st [.row 2 zu,.row 4 zD,.row 6 zO,.row 8 zw,.row 12 zY,.row 10 zF]),.v Ri,.a zu,.a zu,.a zD,.a zD,.a zO,.a zO,.a zw,.a zw,.a zF,.a zF,.a zY,.a zY],[],z50⟩
abbrev z4o:Way:=⟨.normal,⟨[Mm 1 (.sl .str),.v lv,.a zu,.a zD,.a zO,.a zw,.a zY,.a zF,.v (.zC zw)],[],[.var lv,.arr zu,.arr zD,.arr zO,.arr zw,.arr zY,.arr zF,.var (.zC zw)]⟩⟩
abbrev Wh:vG:=⟨[.v Vb,.a (.int .u8)],[],rR⟩
abbrev Gl:vG:=⟨[Mi 3],[],[]⟩
abbrev Qy:List Bk:=[.var (.zC zX)]
abbrev Li:vG:=⟨[Mb 0,.v (.zC i64)],[],[.var (.zC i64)]⟩
abbrev Js:vG:=⟨[Mi 8],[],[]⟩
abbrev S4:vG:=⟨[Mm 0 xH,.v (.zC zU),.v (.zC .expr),.v (.zC .expr)],[],MX⟩
abbrev SZ:List Bk:=[.var (.zC .expr),.var (.zC i64),.var (.zC i64)]
abbrev Dw:vG:=⟨[Ms 0],[],[]⟩
abbrev z4t:List Bk:=[.var (.zC zX),.var (.zC .expr),.var (.zC .expr)]
abbrev IB:vG:=⟨[.v (.zC zU)],[],ZG⟩
abbrev z5u:List Bk:=[.var TG,.var C0,.arr zF,.arr zF,.arr zY,.arr zY,.arr zu,.arr zu,.arr zD,.arr zD,.arr zO,.arr zO,.arr zw,.arr zw]
abbrev YM:List Bk:=[.var (.zC .expr),.var (.zC .expr)]
abbrev UR:vG:=⟨[Ms 3],[],[]⟩
abbrev z4J:vG:=⟨[.a u32],[(5,.cur 0 u32)],uj⟩
abbrev Pg:vG:=⟨[.v (.zC zU),.v (.zC .expr),.v (.zC .expr)],[],MX⟩
abbrev z4L:vG:=⟨[Mm 0 (.sl .expr),.s 1 (.mclo 183 [.rp i64,.pt 0]),.v (.zC i64)],[],[.cvar (.ptr 1 0),.var (.zC i64)]⟩
abbrev z4s:vG:=⟨[Mm 1 (.sl .str),Ms 2,.v lv,.a zu,.a zD,.a zO,.a zw,.a zY,.a zF],[(0,.ptr 0 0)],tc⟩
abbrev Rj:Way:=⟨.exit 0,⟨[.a u32],[(7,.cur 0 u32)],uj⟩⟩
abbrev MU:List Bk:=[.var (.zC zU),.var (.zC .expr)]
abbrev z5f:Way:=⟨.normal,⟨[Mm 0 (.sl .str),.v (.zC zw),.v (.zC zw)],[],[.var (.zC zw),.var (.zC zw)]⟩⟩
abbrev Jx:List Bk:=[.arr (.int .u8)]
abbrev z5G:Way:=⟨.normal,⟨[Mb 16,.v lv,.a zu,.a zD,.a zO,.a zw,.a zY,.a zF],[],tc⟩⟩
abbrev z5a:vG:=⟨[Ms 1,.v lv,.a zu,.a zD,.a zO,.a zw,.a zY,.a zF],[(0,.ptr 0 0)],tc⟩
abbrev z5k:vG:=⟨[.v (.zC zX),.v (.zC .expr),.v (.zC .expr)],[(0,.ptr 0 0),(2,.ptr 1 0),(3,.ptr 2 0)],z4t⟩
abbrev z4A:vG:=⟨[Mm 7 (.int .u64),Mi 8,.a u32],[(6,.cur 0 u32)],uj⟩
abbrev z4D:vG:=⟨[Mb 0,.v (.zC i64)],[],[.cvar (.ptr 1 0),.var (.zC i64)]⟩
abbrev z5C:Way:=⟨.ret,⟨[Ms 2,Mb 3,.v (.zC wS)],[],[.var (.zC wS)]⟩⟩
abbrev z4x:vG:=⟨[Mm 14 (.sl u32),.a u32],[(13,.cur 0 u32)],uj⟩
abbrev z4R:Way:=⟨.ret,⟨[.v (.zC zX),.v (.zC .expr),.v (.zC .expr)],[],z4t⟩⟩
abbrev Ru:vG:=⟨[Mm 0 (.sl u32)],[],[]⟩
abbrev z4u:vG:=⟨[Mi 15,.a u32],[(7,.cur 0 u32)],uj⟩
abbrev z4P:vG:=⟨[.v (.zC .expr),.v (.zC i64),.v (.zC i64)],[],SZ⟩
abbrev G4:vG:=⟨[],[],[]⟩
abbrev z5B:Way:=⟨.normal,⟨[Mb 44,.v (.zC zU)],[],ZG⟩⟩
abbrev z5F:vG:=⟨[Mi 5,.a .str],[(3,.cur 0 .str)],[.arr .str]⟩
abbrev tI:List AK:=[.ptr,.any]
abbrev z4y:List Bk:=[.var (.zC .expr),.var (.zC zX),.var (.zC .expr)]
abbrev z4V:vG:=⟨[Mi 3,Mi 9],[],[]⟩
abbrev z52:vG:=⟨[Mi 3,Mi 4],[],[]⟩
abbrev z4X:Way:=⟨.exit 0,⟨[.v (.zC wS)],[],[.var (.zC wS)]⟩⟩
abbrev z4w:vG:=⟨[Mb 0,.v (.zC zX)],[],Qy⟩
abbrev z5M:Way:=⟨.exit 0,⟨[Mm 4 (.sl u32)],[],[]⟩⟩
abbrev z4K:Way:=⟨.exit 0,⟨[Mm 3 (.sl u32)],[],[]⟩⟩
abbrev z5E:vG:=⟨[Ms 0,.v (.zC zU)],[],ZG⟩
abbrev SR:vG:=⟨[Ms 5],[],[]⟩
abbrev z4Y:vG:=⟨[.s 3 (.sub 0 (.int .u8)),.a (.int .u8)],[],Jx⟩
abbrev Cm:List AK:=[.ptr,.any,.any]
abbrev z4h:vG:=⟨[.a (.int .u8)],[(3,.cur 0 (.int .u8))],Jx⟩
abbrev z5t:vG:=⟨[.v Vb,.a (.int .u8)],[(0,.ptr 0 0)],rR⟩
abbrev Mj:Way:=⟨.exit 0,Dw⟩
abbrev z5o:Way:=⟨.normal,⟨[Mb 17],[],[]⟩⟩
abbrev z4v:Way:=⟨.normal,⟨[Mb 11],[],[]⟩⟩
abbrev z4N:Way:=⟨.normal,⟨[Mb 81],[],[]⟩⟩
abbrev z5g:List Bk:=[.var (.zC zX),.var (.zC .expr)]
abbrev Mw:List AK:=[.any,.any,.ptr]
abbrev z4S:vG:=⟨[.v (.zC zX)],[],Qy⟩
abbrev z4q:vG:=⟨[Mi 7],[],[]⟩
abbrev z5A:vG:=⟨[Mi 6],[],[]⟩
abbrev SH:Way:=⟨.exit 0,IB⟩
abbrev TQ:Way:=⟨.exit 0,z4J⟩
abbrev RU:Way:=⟨.exit 0,Gl⟩
abbrev S3:Way:=⟨.exit 2,G4⟩
abbrev z4M:vG:=⟨[.a (.int .u8)],[],Jx⟩
theorem zfY:zG Tryz.prog 22 ⟨[.ty .str,.ty .str],[.sl .str],λx=>strings_Split x.1 x.2⟩:=by
 refine vS Tryz.func22 (by kernel_rfl) rfl λκ x zJ y hy hI ha => ?_
 obtain⟨s,sep⟩:=x
 obtain⟨⟨h0,h1⟩,hy⟩:=hy
 cases hy
 obtain⟨v0,r,rfl,Y1,ha⟩:=qM.cons_inv (show qM κ [.zC .str s,.zC .str sep] zJ from ha)
 obtain⟨v1,r,rfl,ET,ha⟩:=ha.cons_inv
 rw[ha.ql,Y1.vc,ET.vc]
 obtain⟨m,hm⟩:=vF hI
 refine(Go.Proofs.Tryz.strings_Split ⟨s.toArray⟩ ⟨sep.toArray⟩ m κ.w (by rw[show(ByteArray.size ⟨s.toArray⟩)=List.length s from List.size_toArray]; exact h0) hm (by rw[show(ByteArray.size ⟨sep.toArray⟩)=List.length sep from List.size_toArray]; simp only at h1; omega)).mono ?_
 rintro e w' ⟨rfl,rfl⟩
 refine⟨W8 _ _,λ_=>⟨_,rfl,?_⟩⟩
 exact Sx s sep h1 _
def t1:=t0.d zfY
theorem zfz:zG Tryz.prog 52 ⟨[.ty .str,.ty .str],[.str,.str,.bool],λx=>strings_Cut x.1 x.2⟩:=by
 refine vS Tryz.func52 (by kernel_rfl) rfl λκ x zJ y hy hI ha => ?_
 obtain⟨s,sep⟩:=x
 obtain⟨h0,hy⟩:=hy
 cases hy
 obtain⟨v0,r,rfl,Y1,ha⟩:=qM.cons_inv (show qM κ [.zC .str s,.zC .str sep] zJ from ha)
 obtain⟨v1,r,rfl,ET,ha⟩:=ha.cons_inv
 rw[ha.ql,Y1.vc,ET.vc]
 obtain⟨m,hm⟩:=vF hI
 refine(Go.Proofs.Tryz.strings_Cut ⟨s.toArray⟩ ⟨sep.toArray⟩ m κ.w (by rw[show(ByteArray.size ⟨s.toArray⟩)=List.length s from List.size_toArray]; exact h0) hm).mono ?_
 rintro e w' ⟨rfl,n,rfl⟩
 refine⟨below_drewN _ _,λ_=>⟨_,rfl,?_⟩⟩
 rw[show Lib.cut (⟨s.toArray⟩:ByteArray).data.toList (⟨sep.toArray⟩:ByteArray).data.toList=wT s sep from Rx s sep]
 exact RD.zge RD.str RD.str RD.bool
def t2:=t1.d zfz
theorem zbs:zG Pz 108 ⟨[.ty (.int .i32)],[.bool],λx=>bF x⟩:=xo t2 rn hN Tryz.func108 [] zp
def t3:=t2.d zbs
theorem z1x(w:World):Go.Proofs.PredAtRunes Tryz.prog 108 #[] (λn=>n==32) w:=λW x hx hb=>by
 show Calls Tryz.prog 108 #[.int .i32 (x:Int)] W _
 have hn:Tryz.f108.ntmps=5:=by kernel_rfl
 have hd:((x:Int)==32)=(x==32):=by rw[Bool.eq_iff_iff,beq_iff_eq,beq_iff_eq]; omega
 go_enter Tryz.func108,hn
 go_wp2
 go_ret
 exact⟨by rw[<- hd]; rfl,0,rfl⟩
theorem zaI:zG Tryz.prog 107 ⟨[.ty .str,.xk 108 []],[.sl .str],λx=>strings_FieldsFunc x.1 (λz0=>bF z0)⟩:=by
 refine vS Tryz.func107 (by kernel_rfl) rfl λκ x zJ y hy hI ha => ?_
 obtain⟨s,c⟩:=x
 obtain⟨h0,hy⟩:=hy
 cases hy
 obtain⟨v0,r,rfl,Y1,ha⟩:=qM.cons_inv (show qM κ [.zC .str s,.xk 108 []] zJ from ha)
 obtain⟨v1,r,rfl,ET,ha⟩:=ha.cons_inv
 rw[ha.ql,Y1.vc,ET.SM (by rfl)]
 refine(Go.Proofs.Tryz.strings_FieldsFunc_runes 108 #[] (λargs w=>nZ Tryz.func108 (by kernel_rfl) rfl w) (λn=>n==32) ⟨s.toArray⟩ κ.w (by rw[show(ByteArray.size ⟨s.toArray⟩)=List.length s from List.size_toArray]; exact h0) (z1x κ.w)).mono ?_
 rintro e w' ⟨A,rfl,hA,ho,hB⟩
 refine⟨hB,λ_=>⟨_,rfl,?_⟩⟩
 exact Nt s ho
def t4:=t3.d zaI
theorem zgC:zG Pz 53 ⟨[.ty .str],[(.sl .str)],λx=>ll x⟩:=xo t4 rn hN Tryz.func53 [] zp
def t5:=t4.d zgC
def zfI:Hints:=Hz [] [(0,1,.flat [Mb 2])] []
theorem zbX:zG Pz 141 ⟨[.ty (.int .u8)],[.bool],λx=>vg x⟩:=xo t5 rn zfI Tryz.func141 [] zp
def t6:=t5.d zbX
def zgP:Hints:=Hz [] [(0,1,.flat [Mb 2])] []
theorem z9g:zG Pz 179 ⟨[.ty (.int .u8)],[.bool],λx=>xV x⟩:=xo t6 rn zgP Tryz.func179 [] zp
def t7:=t6.d z9g
theorem z9N:zG Pz 142 ⟨[.ty (.int .u8)],[.bool],λx=>vP x⟩:=xo t7 rn hN Tryz.func142 [] zp
def t8:=t7.d z9N
def RC:zW:=Lz [] [Ms 0,Mi 18] ⟨[Mi 19],[],[]⟩ [gL,tU] λp s=>y3 p.1 p.2 s
def h87:Hints:=Hz [(0,RC)] [(0,1,.ways [⟨.normal,⟨[Mb 16],[],[]⟩⟩])] []
theorem z7p:LO Tryz.f87 RC 0:=lk t8 rn h87 [] zp
theorem zg5:zG Pz 87 ⟨[.ty .str],[.bool],λx=>xC x⟩:=xo t8 rn h87 Tryz.func87 [0] (qc rfl z7p zp)
def t9:=t8.d zg5
theorem z9l:zG Tryz.prog 155 ⟨[.ty .str,.ty .str],[i64],λx=>strings_IndexAny x.1 x.2⟩:=by
 refine vS Tryz.func155 (by kernel_rfl) rfl λκ x zJ y hy hI ha => ?_
 obtain⟨s,chars⟩:=x
 obtain⟨⟨h0,h1,h2,h3⟩,hy⟩:=hy
 cases hy
 obtain⟨v0,r,rfl,Y1,ha⟩:=qM.cons_inv (show qM κ [.zC .str s,.zC .str chars] zJ from ha)
 obtain⟨v1,r,rfl,ET,ha⟩:=ha.cons_inv
 rw[ha.ql,Y1.vc,ET.vc]
 refine(Go.Proofs.Any.pA Go.Proofs.Tryz.lays153 (λ_=>by kernel_rfl) (by kernel_rfl) ⟨s.toArray⟩ ⟨chars.toArray⟩ κ.w (by rw[show(ByteArray.size ⟨chars.toArray⟩)=List.length chars from List.size_toArray]; exact h1) (by rw[show(ByteArray.size ⟨s.toArray⟩)=List.length s from List.size_toArray]; exact h0) (by rw[show(ByteArray.size ⟨chars.toArray⟩)=List.length chars from List.size_toArray]; exact h2) h3).mono ?_
 rintro e w' ⟨rfl,hB⟩
 refine⟨hB,λ_=>⟨_,rfl,?_⟩⟩
 have e1:Lib.indexAny s chars=bJ s chars:=Yy chars s
 show RD _ (.zC i64 (bJ s chars)) _
 rw[<- e1]
 exact RD.int
def t10:=t9.d z9l
def zhz:Hints:=Hz [] [(0,1,.flat [Mb 4])] []
theorem zdz:zG Pz 193 ⟨[.ty .str,.ty .str],[.bool],λx=>xJ x.1 x.2⟩:=xo t10 rn zhz Tryz.func193 [] zp
def t11:=t10.d zdz
theorem zbY:zG Pz 156 ⟨[.ty .str,.ty .str],[.bool],λx=>strings_HasPrefix x.1 x.2⟩:=xo t11 rn hN Tryz.func156 [] zp
def t12:=t11.d zbY
def N2:zW:=Lz [] [] tf [SH] λp s=>w8  s
def z8X:Hints:=Hz [(0,N2)] [(0,0,.flat [Mb 23])] []
theorem z3I:LO Tryz.f265 N2 0:=lk t12 rn z8X [] zp
theorem z9X:qQ Pz 265 ⟨[.ptr],tf,[],IB,0,λx=>uB x⟩:=tk t12 rn z8X Tryz.func265 [0] (qc rfl z3I zp)
def t13:=t12.s z9X
theorem zd1:zG Tryz.prog 216 ⟨[.ty .str,.ty (.int .u8)],[i64],λx=>strings_IndexByte x.1 x.2⟩:=by
 refine vS Tryz.func216 (by kernel_rfl) rfl λκ x zJ y hy hI ha => ?_
 obtain⟨s,c⟩:=x
 cases hy
 obtain⟨v0,r,rfl,Y1,ha⟩:=qM.cons_inv (show qM κ [.zC .str s,.zC (.int .u8) c] zJ from ha)
 obtain⟨v1,r,rfl,ET,ha⟩:=ha.cons_inv
 rw[ha.ql,Y1.vc,ET.yW]
 refine(Go.Proofs.Tryz.strings_IndexByte ⟨s.toArray⟩ c κ.w).mono ?_
 rintro e w' ⟨rfl,rfl⟩
 refine⟨Zb _,λ_=>⟨_,rfl,?_⟩⟩
 have e1:Lib.indexByte s (byteOf c)=ZL s (byteOf c):=z2p s (byteOf c)
 show RD _ (.zC i64 (ZL s (byteOf c))) _
 rw[<- e1]
 exact RD.int
def t14:=t13.d zd1
def zgQ:Hints:=Hz [] [(0,2,.ways [⟨.normal,⟨[Mb 30,.v (.zC zU)],[],ZG⟩⟩])] []
theorem z9J:qQ Pz 250 ⟨tI,⟨[Ms 1,.v (.zC zU)],[(0,.ptr 0 0)],ZG⟩,[],⟨[Mm 0 (.int .u8),.v (.zC zU)],[],ZG⟩,1,λx=>xm x.1 x.2⟩:=tk t14 rn zgQ Tryz.func250 [] zp
def t15:=t14.s z9J
theorem zcp:yl Pz 220 ⟨Cm,⟨[Mi 1,Mi 2,.v (.zC zU)],[(0,.ptr 0 0)],ZG⟩,[],IB,0,226,Q4,λx=>w7 x.1 x.2.1 x.2.2⟩:=fkp t15 rn hN Tryz.func220 [] zp
def t16:=t15.p zcp
theorem zd4:yl Pz 266 ⟨[.ptr],tf,[],IB,0,226,Q4,λx=>vk x⟩:=fkp t16 rn hN Tryz.func266 [] zp
def t17:=t16.p zd4
def Md:zW:=Lz [] [.s 1 (.xk 179 []),Mi 2,Mi 7] tf [SH] λp s=>xc (λz0=>xV z0) p.2.1 p.2.2 s
def zcA:Hints:=Hz [(0,Md)] [(0,2,.ways [z5B])] []
theorem z1g:LO Tryz.f268 Md 0:=lk t17 rn zcA [] zp
theorem zb5:qQ Pz 268 ⟨[.ptr,.xk 179,.any],⟨[.s 1 (.xk 179 []),Mi 2,.v (.zC zU)],[(0,.ptr 0 0)],ZG⟩,[],z5E,1,λx=>xl (λz0=>xV z0) x.2.1 x.2.2⟩:=tk t17 rn zcA Tryz.func268 [0] (qc rfl z1g zp)
def t18:=t17.s zb5
theorem z97:zG Tryz.prog 159 ⟨[.ty .str,.ty .str],[.str,.bool],λx=>strings_CutPrefix x.1 x.2⟩:=by
 refine vS Tryz.func159 (by kernel_rfl) rfl λκ x zJ y hy hI ha => ?_
 obtain⟨s,p⟩:=x
 cases hy
 obtain⟨v0,r,rfl,Y1,ha⟩:=qM.cons_inv (show qM κ [.zC .str s,.zC .str p] zJ from ha)
 obtain⟨v1,r,rfl,ET,ha⟩:=ha.cons_inv
 rw[ha.ql,Y1.vc,ET.vc]
 refine(Go.Proofs.Tryz.strings_CutPrefix ⟨s.toArray⟩ ⟨p.toArray⟩ κ.w).mono ?_
 rintro e w' ⟨rfl,rfl⟩
 refine⟨Zb _,λ_=>⟨_,rfl,?_⟩⟩
 exact RD.zdh RD.str RD.bool
def t19:=t18.d z97
def IH:zW:=Lz [] [Mm 1 (.int .u8)] Dw [Mj] λp s=>yz p s
def zcK:Hints:=Hz [(0,IH)] [(0,1,.flat [Mb 16])] []
theorem z0S:LO Tryz.f222 IH 0:=lk t19 rn zcK [] zp
theorem zd6:zG Pz 222 ⟨[.ty .str,.ty (.int .u8)],[.str],λx=>strings_trimRightByte x.1 x.2⟩:=xo t19 rn zcK Tryz.func222 [0] (qc rfl z0S zp)
def t20:=t19.d zd6
def MT:zW:=Lz [] [Mm 1 (.int .u8)] Dw [Mj] λp s=>gF p s
def zaX:Hints:=Hz [(0,MT)] [(0,1,.flat [Mb 13])] []
theorem z2q:LO Tryz.f221 MT 0:=lk t20 rn zaX [] zp
theorem zaQ:zG Pz 221 ⟨[.ty .str,.ty (.int .u8)],[.str],λx=>strings_trimLeftByte x.1 x.2⟩:=xo t20 rn zaX Tryz.func221 [0] (qc rfl z2q zp)
def t21:=t20.d zaQ
theorem zcF:zG Tryz.prog 191 ⟨[.ty .str],[(dY .bool 256),.bool],λx=>strings_makeASCIISet x⟩:=by
 refine vS Tryz.func191 (by kernel_rfl) rfl λκ s zJ y hy hI ha => ?_
 obtain⟨⟨h0,h1⟩,hy⟩:=hy
 cases hy
 obtain⟨v0,r,rfl,Y1,ha⟩:=qM.cons_inv (show qM κ [.zC .str s] zJ from ha)
 rw[ha.ql,Y1.vc]
 refine(Go.Proofs.Tryz.strings_makeASCIISet (λ_=>by kernel_rfl) ⟨s.toArray⟩ κ.w (by rw[show(ByteArray.size ⟨s.toArray⟩)=List.length s from List.size_toArray]; exact h0) (by simpa using h1)).mono ?_
 rintro e w' ⟨rfl,rfl⟩
 refine⟨W8 _ _,λ_=>⟨_,rfl,?_⟩⟩
 exact RD.zdh (Sb s) RD.bool
def t22:=t21.d zcF
theorem zce:zG Pz 192 ⟨[.rp (dY .bool 256),.ty (.int .u8)],[.bool],λx=>xN x.1 x.2⟩:=xo t22 rn hN Tryz.func192 [] zp
def t23:=t22.d zce
def Lh:zW:=Lz [] [Mr 1 (dY .bool 256)] Dw [Mj] λp s=>wG p s
def zdd:Hints:=Hz [(0,Lh)] [] []
theorem z2R:LO Tryz.f224 Lh 0:=lk t23 rn zdd [] zp
theorem zaJ:zG Pz 224 ⟨[.ty .str,.rp (dY .bool 256)],[.str],λx=>vM x.1 x.2⟩:=xo t23 rn zdd Tryz.func224 [0] (qc rfl z2R zp)
def t24:=t23.d zaJ
def N4:zW:=Lz [] [Mr 1 (dY .bool 256)] Dw [Mj] λp s=>va p s
def z9V:Hints:=Hz [(0,N4)] [] []
theorem z1c:LO Tryz.f223 N4 0:=lk t24 rn z9V [] zp
theorem zbe:zG Pz 223 ⟨[.ty .str,.rp (dY .bool 256)],[.str],λx=>uf x.1 x.2⟩:=xo t24 rn z9V Tryz.func223 [0] (qc rfl z1c zp)
def t25:=t24.d zbe
def zga:Hints:=Hz [] [(0,1,.flat [Mb 12]),(0,3,.flat [Mb 21])] []
theorem zbV:zG Pz 196 ⟨[.ty .str,.ty .str],[.str],λx=>ya x.1 x.2⟩:=xo t25 rn zga Tryz.func196 [] zp
def t26:=t25.d zbV
def zh9:Hints:=Hz [] [(0,1,.flat [Mb 2])] []
theorem zd5:zG Pz 144 ⟨[.ty (.sl u32)],[.bool],λx=>eW x⟩:=xo t26 rn zh9 Tryz.func144 [] zp
def t27:=t26.d zd5
def MH:zW:=Lz [] [] Ru [⟨.exit 0,Ru⟩] λp s=>iK  s
def za3:Hints:=Hz [(0,MH)] [] []
theorem z3R:LO Tryz.f176 MH 0:=lk t27 rn za3 [] zp
theorem zbl:zG Pz 176 ⟨[.ty (.sl u32)],[(.sl u32)],λx=>we x⟩:=xo t27 rn za3 Tryz.func176 [0] (qc rfl z3R zp)
def t28:=t27.d zbl
def LW:zW:=Lz [] [Mm 1 (.sl u32),Mi 6,Mm 7 u32,Mm 21 (.sl u32),Mi 22,Mi 23,Mm 28 (.sl u32),Mi 29] ⟨[Mm 8 (.int .u64),Mi 30,.a u32],[(5,.cur 0 u32)],uj⟩ [⟨.exit 2,⟨[Mm 8 (.int .u64),.a u32],[(5,.cur 0 u32)],uj⟩⟩] λp s=>nq p.1 p.2.1 p.2.2.1 p.2.2.2.1 p.2.2.2.2.1 p.2.2.2.2.2.1 p.2.2.2.2.2.2.1 p.2.2.2.2.2.2.2 s
def Lu:zW:=Lz [] [Mm 1 (.sl u32),Mm 21 (.sl u32),Mi 22] ⟨[Mi 23,.a u32],[(5,.cur 0 u32)],uj⟩ [TQ] λp s=>mY p.1 p.2.1 p.2.2 s
def z7O:Hints:=Hz [(2,LW),(0,Lu)] [] [(16,[5])]
theorem z2T:LO Tryz.f198 LW 2:=lk t28 rn z7O [] zp
theorem z1r:LO Tryz.f198 Lu 0:=lk t28 rn z7O [2] (qc rfl z2T zp)
theorem zbL:zG Pz 198 ⟨[.ty (.sl u32),.ty (.sl u32)],[(.sl u32)],λx=>sJ x.1 x.2⟩:=xo t28 rn z7O Tryz.func198 [0] (qc rfl z1r zp)
def t29:=t28.d zbL
theorem zcz:zG Pz 137 ⟨[.ty (.int .u64)],[(.sl u32)],λx=>gf x⟩:=xo t29 rn hN Tryz.func137 [] zp
def t30:=t29.d zcz
def MB:zW:=Lz [] [Mm 0 (.sl u32),Mm 1 (.sl u32),Mm 24 (.sl u32),Mi 25] ⟨[Mm 6 (.int .u64),Mi 26,.a u32],[(5,.cur 0 u32)],uj⟩ [⟨.exit 0,⟨[Mm 6 (.int .u64),.a u32],[(5,.cur 0 u32)],uj⟩⟩] λp s=>mT p.1 p.2.1 p.2.2.1 p.2.2.2 s
def z9W:Hints:=Hz [(0,MB)] [(3,2,.flat [Mm 0 (.sl u32),Mm 1 (.sl u32)]),(3,10,.flat [Mm 6 (.int .u64)])] [(16,[5])]
theorem z1l:LO Tryz.f197 MB 0:=lk t30 rn z9W [] zp
theorem zah:zG Pz 197 ⟨[.ty (.sl u32),.ty (.sl u32)],[(.sl u32)],λx=>VF x.1 x.2⟩:=xo t30 rn z9W Tryz.func197 [0] (qc rfl z1l zp)
def t31:=t30.d zah
def IV:zW:=Lz [] [Ms 0,Mi 19] ⟨[Mm 4 (.sl u32),Mi 20],[],[]⟩ [z5M] λp s=>b7 p.1 p.2 s
def z9o:Hints:=Hz [(0,IV)] [(0,1,.ways [z5o])] []
theorem z2h:LO Tryz.f160 IV 0:=lk t31 rn z9o [] zp
theorem zbr:zG Pz 160 ⟨[.ty .str],[(.sl u32),.bool],λx=>vV x⟩:=xo t31 rn z9o Tryz.func160 [0] (qc rfl z2h zp)
def t32:=t31.d zbr
def Me:zW:=Lz [] [Mi 5] ⟨[Mm 3 (.sl u32),Mi 6],[],[]⟩ [z4K] λp s=>fG p s
def z9K:Hints:=Hz [(0,Me)] [] []
theorem z1h:LO Tryz.f161 Me 0:=lk t32 rn z9K [] zp
theorem z9L:zG Pz 161 ⟨[.ty i64],[(.sl u32)],λx=>sa x⟩:=xo t32 rn z9K Tryz.func161 [0] (qc rfl z1h zp)
def t33:=t32.d z9L
def zgh:Hints:=Hz [] [(0,1,.z9w)] []
theorem zcD:zG Pz 203 ⟨[.ty (.sl u32)],[(.sl u32)],λx=>vO x⟩:=xo t33 rn zgh Tryz.func203 [] zp
def t34:=t33.d zcD
theorem z9m:zG Pz 173 ⟨[.ty (.sl u32)],[(.sl u32)],λx=>bN x⟩:=xo t34 rn hN Tryz.func173 [] zp
def t35:=t34.d z9m
def IS:zW:=Lz [] [Mm 0 (.sl u32),Mm 1 (.sl u32)] QL [gL,Wc] λp s=>fX p.1 p.2 s
def zcg:Hints:=Hz [(0,IS)] [] []
theorem z1y:LO Tryz.f136 IS 0:=lk t35 rn zcg [] zp
theorem zcZ:zG Pz 136 ⟨[.ty (.sl u32),.ty (.sl u32)],[i64],λx=>mN x.1 x.2⟩:=xo t35 rn zcg Tryz.func136 [0] (qc rfl z1y zp)
def t36:=t35.d zcZ
def zfM:Hints:=Hz [] [(0,1,.flat [Mb 15])] []
theorem z9H:zG Pz 204 ⟨[.ty u32,.ty u32,.ty u32],[u32,u32],λx=>yR x.1 x.2.1 x.2.2⟩:=xo t36 rn zfM Tryz.func204 [] zp
def t37:=t36.d z9H
def Lb:zW:=Lz [] [Mm 0 (.sl u32),Mm 1 u32] ⟨[Mm 7 u32,Mi 8,.a u32],[(6,.cur 0 u32)],uj⟩ [⟨.exit 0,⟨[Mm 7 u32,.a u32],[(6,.cur 0 u32)],uj⟩⟩] λp s=>dV p.1 p.2 s
def zae:Hints:=Hz [(0,Lb)] [] [(7,[6])]
theorem z1M:LO Tryz.f174 Lb 0:=lk t37 rn zae [] zp
theorem zbG:zG Pz 174 ⟨[.ty (.sl u32),.ty u32],[(.sl u32),u32],λx=>eK x.1 x.2⟩:=xo t37 rn zae Tryz.func174 [0] (qc rfl z1M zp)
def t38:=t37.d zbG
def zeF:Hints:=Hz [] [(3,1,.flat [Mm 0 u32,Mi 2]),(3,4,.flat [Mm 0 u32,Mi 2])] []
theorem zbv:zG Pz 247 ⟨[.ty u32],[i64],λx=>yY x⟩:=xo t38 rn zeF Tryz.func247 [] zp
def t39:=t38.d zbv
theorem zbS:zG Pz 232 ⟨[.ty u32],[i64],λx=>wZ x⟩:=xo t39 rn hN Tryz.func232 [] zp
def t40:=t39.d zbS
def L3:zW:=Lz [] [Mm 1 (.int .u64),Mi 2,Mm 13 (.sl u32),Mi 14] z4u [Rj] λp s=>tF p.1 p.2.1 p.2.2.1 p.2.2.2 s
def za7:Hints:=Hz [(0,L3)] [] []
theorem z1W:LO Tryz.f233 L3 0:=lk t40 rn za7 [] zp
theorem z4G:qQ Pz 233 ⟨[.any,.any,.any],⟨[Mm 0 (.sl u32),Mm 1 (.int .u64),Mi 2],[],[]⟩,[],⟨[.a u32],[(0,.cur 0 u32)],uj⟩,1,λx=>ft x.1 x.2.1 x.2.2⟩:=tk t40 rn za7 Tryz.func233 [0] (qc rfl z1W zp)
def t41:=t40.s z4G
def MI:zW:=Lz [] [Mm 2 u32,Mm 3 u32,Mm 4 u32] ⟨[Mm 12 (.int .u64),Mm 13 (.int .u64)],[],[]⟩ [⟨.exit 0,⟨[Mm 12 (.int .u64)],[],[]⟩⟩] λp s=>bU p.1 p.2.1 p.2.2 s
def zcf:Hints:=Hz [(0,MI)] [(0,3,.flat [Mb 42])] []
theorem z2z:LO Tryz.f234 MI 0:=lk t41 rn zcf [] zp
theorem zbu:zG Pz 234 ⟨[.ty u32,.ty u32,.ty u32,.ty u32,.ty u32],[(.int .u64)],λx=>eJ x.1 x.2.1 x.2.2.1 x.2.2.2.1 x.2.2.2.2⟩:=xo t41 rn zcf Tryz.func234 [0] (qc rfl z2z zp)
def t42:=t41.d zbu
theorem zdu:zG Pz 248 ⟨[.ty u32,.ty u32,.ty u32],[u32,u32],λx=>jB x.1 x.2.1 x.2.2⟩:=xo t42 rn hN Tryz.func248 [] zp
def t43:=t42.d zdu
theorem zdw:zG Pz 249 ⟨[.ty u32,.ty u32,.ty u32],[u32,u32],λx=>yV x.1 x.2.1 x.2.2⟩:=xo t43 rn hN Tryz.func249 [] zp
def t44:=t43.d zdw
def LR:zW:=Lz [] [Mm 1 (.sl u32),Mm 2 (.int .u64),Mm 14 (.sl u32),Mi 15] ⟨[.s 0 (.sub 0 u32),Mm 7 (.int .u64),Mm 8 u32,Mi 16,.a u32],[],uj⟩ [⟨.exit 0,⟨[.s 0 (.sub 0 u32),Mm 7 (.int .u64),Mm 8 u32,.a u32],[],uj⟩⟩] λp s=>bG p.1 p.2.1 p.2.2.1 p.2.2.2 s
def LA:zW:=Lz [] [Mm 1 (.sl u32),Mm 62 (.sl u32),Mi 63] ⟨[.s 0 (.sub 0 u32),Mm 11 u32,Mi 64,.a u32],[],uj⟩ [⟨.exit 2,⟨[.s 0 (.sub 0 u32),Mm 11 u32,.a u32],[],uj⟩⟩] λp s=>bP p.1 p.2.1 p.2.2 s
def z7U:Hints:=Hz [(0,LR),(2,LA)] [] []
theorem z3q:LO Tryz.f235 LR 0:=lk t44 rn z7U [] zp
theorem z1O:LO Tryz.f235 LA 2:=lk t44 rn z7U [] zp
theorem zdA:qQ Pz 235 ⟨[.sub,.any,.any],⟨[.s 0 (.sub 0 u32),Mm 1 (.sl u32),Mm 2 (.int .u64),.a u32],[],uj⟩,[],⟨[Mb 0,.a u32],[],uj⟩,1,λx=>iS x.1 x.2.1 x.2.2.1 x.2.2.2⟩:=tk t44 rn z7U Tryz.func235 [0,2] (qc rfl z3q (qc rfl z1O zp))
def t45:=t44.s zdA
def YQ:zW:=Lz [] [Mm 1 (.int .u64),Mi 2,Mm 13 (.sl u32),Mi 14] z4u [Rj] λp s=>du p.1 p.2.1 p.2.2.1 p.2.2.2 s
def Tf:Hints:=Hz [(0,YQ)] [] []
theorem Oi:LO Tryz.f233 YQ 0:=lk t45 rn Tf [] zp
theorem Lj:zG Pz 233 ⟨[.ty (.sl u32),.ty (.int .u64),.ty i64],[(.sl u32)],λx=>QV x.1 x.2.1 x.2.2⟩:=xo t45 rn Tf Tryz.func233 [0] (qc rfl Oi zp)
def t46:=t45.d Lj
def zao:Tb:=t46.d Lj
def Mu:zW:=Lz [] [Mm 6 (.int .u64),Mm 38 (.sl u32),Mi 39] ⟨[Mi 40,.a u32],[(7,.cur 0 u32)],uj⟩ [Rj] λp s=>bg p.1 p.2.1 p.2.2 s
def zac:Hints:=Hz [(0,Mu)] [] [(17,[7]),(21,[12])]
theorem z47:LO Tryz.f236 Mu 0:=lk zao rn zac [] zp
theorem z90:zG Pz 236 ⟨[.ty (.sl u32),.ty i64],[(.sl u32)],λx=>cJ x.1 x.2⟩:=xo zao rn zac Tryz.func236 [0] (qc rfl z47 zp)
def t47:=t46.d z90
def zcW:Tb:=t47.s z4G
def Lr:zW:=Lz [] [Mm 6 (.int .u64),Mm 8 (.sl u32),Mi 9] ⟨[Mi 10,.a u32,.a u32],[(4,.cur 2 u32),(7,.cur 0 u32)],[.arr u32,.dead,.arr u32]⟩ [⟨.exit 0,⟨[.a u32,.a u32],[(4,.cur 2 u32),(7,.cur 0 u32)],[.arr u32,.dead,.arr u32]⟩⟩] λp s=>dc p.1 p.2.1 p.2.2 s
def z9n:Hints:=Hz [(0,Lr)] [(3,9,.ways [⟨.normal,⟨[Mm 11 (.int .u64),.a u32,.a u32],[(4,.cur 2 u32),(7,.cur 0 u32)],[.arr u32,.dead,.arr u32]⟩⟩])] [(5,[8]),(12,[4,7])]
theorem z19:LO Tryz.f209 Lr 0:=lk zcW rn z9n [] zp
theorem zca:zG Pz 209 ⟨[.ty (.sl u32),.ty (.sl u32)],[(.sl u32),(.sl u32)],λx=>Qq x.1 x.2⟩:=xo zcW rn z9n Tryz.func209 [0] (qc rfl z19 zp)
def t48:=t47.d zca
theorem z9z:zG Pz 180 ⟨[.ty (.sl u32),.ty (.sl u32)],[(.sl u32),(.sl u32),.bool],λx=>gw x.1 x.2⟩:=xo t48 rn hN Tryz.func180 [] zp
def t49:=t48.d z9z
def Ly:zW:=Lz [] [] ⟨[Mm 0 (.sl u32),Mm 1 (.sl u32)],[],[]⟩ [⟨.exit 0,Ru⟩] λp s=>fh  s
def zcJ:Hints:=Hz [(0,Ly)] [] []
theorem z2c:LO Tryz.f145 Ly 0:=lk t49 rn zcJ [] zp
theorem zbH:zG Pz 145 ⟨[.ty (.sl u32),.ty (.sl u32)],[(.sl u32)],λx=>QD x.1 x.2⟩:=xo t49 rn zcJ Tryz.func145 [0] (qc rfl z2c zp)
def t50:=t49.d zbH
def zez:Hints:=Hz [] [(0,2,.flat [Mb 19])] []
theorem z9a:zG Pz 149 ⟨[.ty .bool,.ty (.sl u32),.ty (.sl u32)],[wS],λx=>nc x.1 x.2.1 x.2.2⟩:=xo t50 rn zez Tryz.func149 [] zp
def t51:=t50.d z9a
def zg2:Hints:=Hz [] [(0,9,.flat [Mb 58]),(3,13,.flat [Ms 14]),(0,17,.flat [Mb 94])] []
theorem z9G:zG Pz 113 ⟨[.ty .str],[wS,i64],λx=>gK x⟩:=xo t51 rn zg2 Tryz.func113 [] zp
def t52:=t51.d z9G
def zgx:Hints:=Hz [] [(0,2,.flat [Mb 35]),(3,2,.ways [⟨.normal,⟨[Ms 3,.v (.zC zU),.v (.zC .expr)],[],MU⟩⟩,⟨.ye (.iface 226 .xh),⟨[Mm 0 xH,.v (.zC zU),.v (.zC .expr)],[],MU⟩⟩])] []
theorem zc0:yl Pz 267 ⟨[.ptr],tf,[],V8,1,226,Q4,λx=>uL x⟩:=fkp t52 rn zgx Tryz.func267 [] zp
def t53:=t52.p zc0
def Yp:zW:=Lz [] [.s 1 (.xk 142 []),Mi 2,Mi 7] tf [SH] λp s=>xc (λz0=>vP z0) p.2.1 p.2.2 s
def Sy:Hints:=Hz [(0,Yp)] [(0,2,.ways [z5B])] []
theorem NK:LO Tryz.f268 Yp 0:=lk t53 rn Sy [] zp
theorem IJ:qQ Pz 268 ⟨[.ptr,.xk 142,.any],⟨[.s 1 (.xk 142 []),Mi 2,.v (.zC zU)],[(0,.ptr 0 0)],ZG⟩,[],z5E,1,λx=>xl (λz0=>vP z0) x.2.1 x.2.2⟩:=tk t53 rn Sy Tryz.func268 [0] (qc rfl NK zp)
def t54:=t53.s IJ
abbrev z6W:=vG.den tf->T (vG.den V8⊕vG.den Q4)
abbrev zgp(F:z6W):=yl Pz 251 ⟨[.ptr],tf,[],V8,1,226,Q4,F⟩
abbrev te:=vG.den tf->T (vG.den V8⊕vG.den Q4)
abbrev KJ(F:te):=yl Pz 219 ⟨[.ptr],tf,[],V8,1,226,Q4,F⟩
def zfQ(V1:z6W)(qT:te):Hints:=Hz [] [(3,10,.ways [⟨.normal,Pg⟩,⟨.ye (.iface 226 .xh),S4⟩]),(0,14,.ways [⟨.normal,⟨[Mb 46,.v (.zC zU),.v (.zC .expr)],[],MU⟩⟩]),(0,16,.ways [⟨.normal,⟨[Mb 71,.v (.zC zU),.v (.zC .expr)],[],MU⟩⟩])] []
theorem z10(V1:z6W)(SG:zgp V1)(qT:te)(kD:KJ qT):yl Pz 251 ⟨[.ptr],tf,[],V8,1,226,Q4,λx=>wo (λy0=>V1 (y0)) (λy0=>qT (y0)) x⟩:=fkp (((t54.s IJ).p kD).p SG) rn (zfQ V1 qT) Tryz.func251 [] zp
theorem za5(qT:te)(kD:KJ qT):yl Pz 251 ⟨[.ptr],tf,[],V8,1,226,Q4,λx=>vp (λy0=>qT (y0)) x⟩:=II (λV1 x=>wo (λy0=>V1 (y0)) (λy0=>qT (y0)) x) (λx=>rfl) (λV1 SG=>z10 V1 SG qT kD)
def zaD(qT:te)(kD:KJ qT):Tb:=t54.p (za5 _ kD)
def ML(qT:te):zW:=Lz [] [Ms 2,Mr 7 xH] ⟨[.v (.zC zU),.v (.zC .expr),.v (.zC .expr)],[(0,.ptr 0 0),(1,.xk 1000251 [(0,0)]),(8,.ptr 1 0),(9,.ptr 2 0)],MX⟩ [⟨.ret,Pg⟩,⟨.ye (.iface 226 .xh),S4⟩] λp s=>wY (λy0=>qT (y0)) p.1 p.2 s
def zcP(qT:te):Hints:=Hz [(0,ML qT)] [] []
theorem z3o(qT:te)(kD:KJ qT):LO Tryz.f237 (ML qT) 0:=lk (zaD qT kD) (rz [7]) (zcP qT) [] zp
theorem zcX(qT:te)(kD:KJ qT):yl Pz 237 ⟨[.ptr,.xk 1000251,.any,.any],⟨[.s 1 (.mclo 1000251 [.pt 0]),Ms 2,Mm 3 xH,.v (.zC zU)],[(0,.ptr 0 0)],ZG⟩,[],V8,1,226,Q4,λx=>vL (λy0=>qT (y0)) x.1 x.2.1 x.2.2.1 x.2.2.2⟩:=fkp (zaD qT kD) (rz [7]) (zcP qT) Tryz.func237 [0] (qc rfl (z3o qT kD) zp)
theorem z8K(qT:te)(kD:KJ qT):yl Pz 238 ⟨[.ptr],tf,[],V8,1,226,Q4,λx=>wJ (λy0=>qT (y0)) x⟩:=fkp (t54.p (zcX _ kD)) rn hN Tryz.func238 [] zp
def PZ(qT:te)(kD:KJ qT):Tb:=t54.p (z8K _ kD)
def Y6(qT:te):zW:=Lz [] [Ms 2,Mr 7 xH] ⟨[.v (.zC zU),.v (.zC .expr),.v (.zC .expr)],[(0,.ptr 0 0),(1,.xk 1000238 [(0,0)]),(8,.ptr 1 0),(9,.ptr 2 0)],MX⟩ [⟨.ret,Pg⟩,⟨.ye (.iface 226 .xh),S4⟩] λp s=>wR (λy0=>qT (y0)) p.1 p.2 s
def z00(qT:te):Hints:=Hz [(0,Y6 qT)] [] []
theorem OB(qT:te)(kD:KJ qT):LO Tryz.f237 (Y6 qT) 0:=lk (PZ qT kD) (rz [7]) (z00 qT) [] zp
theorem z3F(qT:te)(kD:KJ qT):yl Pz 237 ⟨[.ptr,.xk 1000238,.any,.any],⟨[.s 1 (.mclo 1000238 [.pt 0]),Ms 2,Mm 3 xH,.v (.zC zU)],[(0,.ptr 0 0)],ZG⟩,[],V8,1,226,Q4,λx=>vz (λy0=>qT (y0)) x.1 x.2.1 x.2.2.1 x.2.2.2⟩:=fkp (PZ qT kD) (rz [7]) (z00 qT) Tryz.func237 [0] (qc rfl (OB qT kD) zp)
theorem z3L(qT:te)(kD:KJ qT):yl Pz 219 ⟨[.ptr],tf,[],V8,1,226,Q4,λx=>yo (λy0=>qT (y0)) x⟩:=fkp (t54.p (z3F _ kD)) rn hN Tryz.func219 [] zp
theorem zaj:yl Pz 219 ⟨[.ptr],tf,[],V8,1,226,Q4,λx=>ka x⟩:=II (λqT x=>yo (λy0=>qT (y0)) x) (λx=>rfl) (λqT kD=>z3L qT kD)
def t55:=t54.p zaj
theorem zcn:gy (Pb Pz) 218 ⟨[.ptr,.ptr,.ptr],⟨[.v (.zC .expr),.v (.zC i64),.v (.zC i64)],[(0,.ptr 0 0),(1,.ptr 1 0),(2,.ptr 2 0)],SZ⟩,[],z4P,0,λx=>kB x.1 x.2.1 x.2.2⟩:=fkr t55 rn hN Tryz.func218
theorem z1F:gy (P2 Pz 226) 218 ⟨[.ptr,.ptr,.ptr,.any],⟨[Mm 3 xH,.v (.zC .expr),.v (.zC i64),.v (.zC i64)],[(0,.ptr 0 0),(1,.ptr 1 0),(2,.ptr 2 0)],SZ⟩,[],z4P,0,λx=>jU x.1 x.2.1 x.2.2.1 x.2.2.2⟩:=fkh t55 rn hN Tryz.func218 3
theorem z8P:qQ Pz 194 ⟨[.ptr],tf,[],⟨[Mm 0 .expr,Mi 1,Mi 2,.v (.zC zU)],[],ZG⟩,3,λx=>jX x⟩:=fkf t55 rn hN (g:=218) (pt:=226) zcn z1F Tryz.func194
def t56:=t55.s z8P
def zev:Hints:=Hz [] [(3,2,.flat [Mb 4])] []
theorem zaY:zG Pz 210 ⟨[.ty i64],[i64],λx=>se x⟩:=xo t56 rn zev Tryz.func210 [] zp
def t57:=t56.d zaY
def h90:Hints:=Hz [] [(0,1,.ways [⟨.normal,⟨[Mb 28],[],[]⟩⟩])] []
theorem zff:zG Pz 90 ⟨[.ty wS],[.bool],λx=>Zs x⟩:=xo t57 (rz [1]) h90 Tryz.func90 [] zp
def t58:=t57.d zff
theorem zby:zG Pz 100 ⟨[.ty wS],[wS],λx=>fp x⟩:=xo t58 (rz [1]) hN Tryz.func100 [] zp
def t59:=t58.d zby
def h91:Hints:=Hz [] [(0,2,.flat [Mb 2])] []
theorem zeP:zG Pz 91 ⟨[.ty wS],[.bool],λx=>eG x⟩:=xo t59 rn h91 Tryz.func91 [] zp
def t60:=t59.d zeP
theorem zd3:zG Pz 134 ⟨[.ty wS],[.str],λx=>rL x⟩:=xo t60 (rz [1]) hN Tryz.func134 [] zp
def t61:=t60.d zd3
def L7:zW:=Lz [] [] ⟨[.s 0 (.sub 0 (.int .u8)),Mi 2,Mi 3,.a (.int .u8)],[],Jx⟩ [⟨.exit 0,z4M⟩] λp s=>wg  s
def zbm:Hints:=Hz [(0,L7)] [] []
theorem z3x:LO Tryz.f175 L7 0:=lk t61 rn zbm [] zp
theorem zaR:qQ Pz 175 ⟨[.sub],⟨[.s 0 (.sub 0 (.int .u8)),.a (.int .u8)],[],Jx⟩,[],z4M,0,λx=>vf x.1 x.2⟩:=tk t61 rn zbm Tryz.func175 [0] (qc rfl z3x zp)
def t62:=t61.s zaR
def Ir:zW:=Lz [] [Mm 4 (.sl u32)] ⟨[Mm 5 u32,Mi 19,.a (.int .u8)],[(3,.cur 0 (.int .u8))],Jx⟩ [⟨.exit 2,z4h⟩] λp s=>b6 p s
def Lk:zW:=Lz [.slot 3 (.int .u8)] [] ⟨[Mm 0 (.sl u32),.a (.int .u8)],[(3,.cur 0 (.int .u8))],Jx⟩ [⟨.exit 0,z4h⟩] λp s=>bf  s
def L1:zW:=Lz [] [] z4Y [⟨.exit 4,z4Y⟩] λp s=>bT  s
def z0U:Hints:=Hz [(2,Ir),(0,Lk),(4,L1)] [(0,13,.flat [Mb 42])] []
theorem z1P:LO Tryz.f135 Ir 2:=lk t62 rn z0U [] zp
theorem z1t:LO Tryz.f135 Lk 0:=lk t62 rn z0U [2] (qc rfl z1P zp)
theorem z2Y:LO Tryz.f135 L1 4:=lk t62 rn z0U [] zp
theorem zcm:zG Pz 135 ⟨[.ty (.sl u32)],[.str],λx=>eB x⟩:=xo t62 rn z0U Tryz.func135 [0,4] (qc rfl z1t (qc rfl z2Y zp))
def t63:=t62.d zcm
theorem z9r:zG Tryz.prog 246 ⟨[.ty .str,.ty i64],[.str],λx=>strings_Repeat x.1 x.2⟩:=by
 refine vS Tryz.func246 (by kernel_rfl) rfl λκ x zJ y hy hI ha => ?_
 obtain⟨s,n⟩:=x
 obtain⟨⟨h0,h1,h2⟩,hy⟩:=hy
 cases hy
 obtain⟨v0,r,rfl,Y1,ha⟩:=qM.cons_inv (show qM κ [.zC .str s,.zC i64 n] zJ from ha)
 obtain⟨v1,r,rfl,ET,ha⟩:=ha.cons_inv
 rw[ha.ql,Y1.vc,ET.yW]
 obtain⟨m,rfl⟩:=Int.eq_ofNat_of_zero_le h0
 refine(Go.Proofs.Tryz.strings_Repeat ⟨s.toArray⟩ m κ.w (by simp only at h1; omega) (by rw[show(ByteArray.size ⟨s.toArray⟩)=List.length s from List.size_toArray]; simpa using h2)).mono ?_
 rintro e w' ⟨rfl,hB⟩
 refine⟨hB,λ_=>⟨_,rfl,?_⟩⟩
 have e1:Lib.repeatL s m=kA s m:=N5 s m
 have e2:(Int.toNat (m:Int))=m:=by omega
 show RD _ (.zC .str (kA s (Int.toNat (m:Int)))) _
 rw[e2,<- e1]
 exact RD.str
def t64:=t63.d z9r
theorem zd8:zG Pz 231 ⟨[.ty .str,.ty i64],[.str],λx=>iG x.1 x.2⟩:=xo t64 rn hN Tryz.func231 [] zp
def t65:=t64.d zd8
def Ma:zW:=Lz [] [] ⟨[Mi 10,.v (.zC wS)],[(1,.ptr 0 0)],[.var (.zC wS)]⟩ [z4X,z5C] λp s=>yc  s
def zcE:Hints:=Hz [(0,Ma)] [] []
theorem z2s:LO Tryz.f206 Ma 0:=lk t65 rn zcE [] zp
theorem zbM:zG Pz 206 ⟨[.ty wS],[.str,.bool],λx=>mj x⟩:=xo t65 rn zcE Tryz.func206 [0] (qc rfl z2s zp)
def t66:=t65.d zbM
def zf5:Hints:=Hz [] [(0,1,.ways [⟨.normal,⟨[Mb 15],[],[]⟩⟩])] []
theorem zdg:zG Pz 211 ⟨[.ty wS],[.bool],λx=>mV x⟩:=xo t66 (rz [1]) zf5 Tryz.func211 [] zp
def t67:=t66.d zdg
theorem z99:zG Pz 212 ⟨[.ty wS],[.bool],λx=>dz x⟩:=xo t67 (rz [1]) hN Tryz.func212 [] zp
def t68:=t67.d z99
theorem zaw:zG Pz 181 ⟨[.ty .expr],[.bool],λx=>gU x⟩:=xo t68 (rz [1]) hN Tryz.func181 [] zp
def t69:=t68.d zaw
abbrev KD:=vG.den ME->T (vG.den Li)
abbrev O5(F:KD):=qQ Pz 147 ⟨Mw,ME,[],Li,1,F⟩
theorem zch(vZ:KD)(lh:O5 vZ):qQ Pz 183 ⟨Mw,⟨[Mm 0 .expr,Mr 1 i64,.v (.zC i64)],[(2,.ptr 0 0)],[.cvar (.ptr 1 0),.var (.zC i64)]⟩,[],z4D,1,λx=>jM (λy0 y1 y2=>vZ (y0,y1,y2)) x.1 x.2.1 x.2.2⟩:=tk (t69.s lh) (rz [3]) hN Tryz.func183 [] zp
def zbW(vZ:KD)(lh:O5 vZ):Tb:=t69.s (zch _ lh)
def LB(vZ:KD):zW:=Lz [] [Mm 0 (.sl .expr),Mi 7] ⟨[.s 1 (.mclo 183 [.rp i64,.pt 0]),Mi 8,.v (.zC i64)],[],[.cvar (.ptr 1 0),.var (.zC i64)]⟩ [⟨.exit 0,⟨[.v (.zC i64)],[],[.cvar (.ptr 1 0),.var (.zC i64)]⟩⟩,⟨.ret,⟨[Mi 4,.v (.zC i64)],[],[.cvar (.ptr 1 0),.var (.zC i64)]⟩⟩] λp s=>zK (λy0 y1 y2=>vZ (y0,y1,y2)) p.1 p.2 s
def zc6(vZ:KD):Hints:=Hz [(0,LB vZ)] [] []
theorem z3l(vZ:KD)(lh:O5 vZ):LO Tryz.f213 (LB vZ) 0:=lk (zbW vZ lh) rn (zc6 vZ) [] zp
theorem zav(vZ:KD)(lh:O5 vZ):qQ Pz 213 ⟨[.any,.xk 183],z4L,[],⟨[Mi 0,.v (.zC i64)],[],[.cvar (.ptr 1 0),.var (.zC i64)]⟩,1,λx=>qK (λy0 y1 y2=>vZ (y0,y1,y2)) x.1 x.2.1 x.2.2⟩:=tk (zbW vZ lh) rn (zc6 vZ) Tryz.func213 [0] (qc rfl (z3l vZ lh) zp)
theorem zab(vZ:KD)(lh:O5 vZ):qQ Pz 182 ⟨[.any,.xk 183],z4L,[],z4D,1,λx=>qh (λy0 y1 y2=>vZ (y0,y1,y2)) x.1 x.2.1 x.2.2⟩:=tk (t69.s (zav _ lh)) rn hN Tryz.func182 [] zp
def zfU(vZ:KD):Hints:=Hz [] [(0,2,.ways [⟨.normal,⟨[Mb 24,.v (.zC i64)],[],[.var (.zC i64),.cvar (.ptr 0 0)]⟩⟩])] []
theorem z3M(vZ:KD)(lh:O5 vZ):qQ Pz 147 ⟨Mw,ME,[],Li,1,λx=>bE (λy0 y1 y2=>vZ (y0,y1,y2)) x.1 x.2.1 x.2.2⟩:=tk (t69.s (zab _ lh)) (rz [3,4]) (zfU vZ) Tryz.func147 [] zp
theorem zdq:qQ Pz 147 ⟨Mw,ME,[],Li,1,λx=>ku x.1 x.2.1 x.2.2⟩:=Hd (λvZ x=>bE (λy0 y1 y2=>vZ (y0,y1,y2)) x.1 x.2.1 x.2.2) (λx=>rfl) (λvZ lh=>z3M vZ lh)
def t70:=t69.s zdq
theorem zfq:zG Pz 97 ⟨[.ty .expr],[.bool],λx=>uX x⟩:=xo t70 (rz [1]) hN Tryz.func97 [] zp
def t71:=t70.d zfq
def zhi:Hints:=Hz [] [(0,5,.ways [⟨.normal,⟨[Mb 31,.v (.zC .expr),.v (.zC zU),.v (.zC .expr)],[],[.var (.zC .expr),.var (.zC zU),.var (.zC .expr)]⟩⟩])] []
theorem zbK:zG Pz 157 ⟨[.ty .str],[.expr,i64,i64],λx=>kg x⟩:=xo t71 rn zhi Tryz.func157 [] zp
def t72:=t71.d zbK
theorem z9P:zG Tryz.prog 158 ⟨[.ty .str,.ty .str],[.bool],λx=>strings_Contains x.1 x.2⟩:=by
 refine vS Tryz.func158 (by kernel_rfl) rfl λκ x zJ y hy hI ha => ?_
 obtain⟨s,sub⟩:=x
 obtain⟨h0,hy⟩:=hy
 cases hy
 obtain⟨v0,r,rfl,Y1,ha⟩:=qM.cons_inv (show qM κ [.zC .str s,.zC .str sub] zJ from ha)
 obtain⟨v1,r,rfl,ET,ha⟩:=ha.cons_inv
 rw[ha.ql,Y1.vc,ET.vc]
 obtain⟨m,hm⟩:=vF hI
 refine(Go.Proofs.Tryz.strings_Contains ⟨s.toArray⟩ ⟨sub.toArray⟩ m κ.w (by rw[show(ByteArray.size ⟨s.toArray⟩)=List.length s from List.size_toArray]; exact h0) hm).mono ?_
 rintro e w' ⟨rfl,rfl⟩
 refine⟨Zb _,λ_=>⟨_,rfl,?_⟩⟩
 have e1:Lib.contains s sub=decide ((0:Int)<=dX s sub):=contains_eq s sub
 show RD _ (.zC .bool (decide ((0:Int)<=dX s sub))) _
 rw[<- e1]
 exact RD.bool
def t73:=t72.d z9P
def zf7:Hints:=Hz [] [(0,6,.ways [⟨.normal,⟨[Mb 34,.v (.zC .expr),.v (.zC .expr)],[],YM⟩⟩]),(3,6,.ways [⟨.normal,⟨[Ms 6,Ms 10,.v (.zC .expr),.v (.zC .expr)],[],YM⟩⟩]),(0,12,.ways [⟨.normal,⟨[Mb 61,.v (.zC .expr),.v (.zC .expr)],[],YM⟩⟩]),(3,11,.ways [⟨.normal,⟨[Mi 7,.v (.zC .expr),.v (.zC .expr)],[],YM⟩⟩])] []
theorem zb3:zG Pz 109 ⟨[.ty .str,.ty .str],[.expr,.expr,.str,i64],λx=>uc x.1 x.2⟩:=xo t73 rn zf7 Tryz.func109 [] zp
def t74:=t73.d zb3
theorem zh2:zG Pz 96 ⟨[],[(.sl .str)],λ_=>vq⟩:=xo t74 rn hN Tryz.func96 [] zp
def t75:=t74.d zh2
def L9:zW:=Lz [] [Mm 0 (.sl .str),Ms 1,Mi 7] Js [gL,Wc] λp s=>qZ p.1 p.2.1 p.2.2 s
def zc7:Hints:=Hz [(0,L9)] [] []
theorem z1p:LO Tryz.f110 L9 0:=lk t75 rn zc7 [] zp
theorem z9E:zG Pz 110 ⟨[.ty (.sl .str),.ty .str],[i64],λx=>xd x.1 x.2⟩:=xo t75 rn zc7 Tryz.func110 [0] (qc rfl z1p zp)
def t76:=t75.d z9E
theorem zh6:zG Pz 81 ⟨[],[(.sl .str)],λ_=>wA⟩:=xo t76 rn hN Tryz.func81 [] zp
def t78:=t76.d zh6
theorem zc8:zG Pz 111 ⟨[.ty (.sl .str),.ty .str],[.bool],λx=>wF x.1 x.2⟩:=xo t78 rn hN Tryz.func111 [] zp
def t79:=t78.d zc8
def zhd:Hints:=Hz [] [(0,1,.flat [Mb 8])] []
theorem zdD:zG Pz 114 ⟨[.ty (.sl .str),.ty i64,.ty i64,.ty .str],[.bool],λx=>wB x.1 x.2.1 x.2.2.1 x.2.2.2⟩:=xo t79 rn zhd Tryz.func114 [] zp
def t80:=t79.d zdD
def zfC:Hints:=Hz [] [(0,3,.ways [z4v])] []
theorem zar:zG Pz 112 ⟨[.ty (.sl .str),.ty i64],[.str,.bool],λx=>kH x.1 x.2⟩:=xo t80 rn zfC Tryz.func112 [] zp
def t81:=t80.d zar
def zat:Hints:=Hz [] [(0,1,.ways [⟨.normal,⟨[Mb 29,.v lv,.a zu,.a zD,.a zO,.a zw,.a zY,.a zF],[],tc⟩⟩])] []
theorem R7:qQ Pz 54 ⟨Cm,z4s,[],Bw,1,λx=>uW x.1 x.2.1 x.2.2.1 x.2.2.2.1 x.2.2.2.2.1 x.2.2.2.2.2.1 x.2.2.2.2.2.2.1 x.2.2.2.2.2.2.2.1 x.2.2.2.2.2.2.2.2⟩:=tk t81 rn zat Tryz.func54 [] zp
def t96:=t81.s R7
def zbd:Hints:=Hz [] [(0,1,.ways [⟨.normal,⟨[Mb 31,.v lv,.a zu,.a zD,.a zO,.a zw,.a zY,.a zF],[],tc⟩⟩])] []
theorem z0i:qQ Pz 55 ⟨Cm,z4s,[],Bw,1,λx=>wU x.1 x.2.1 x.2.2.1 x.2.2.2.1 x.2.2.2.2.1 x.2.2.2.2.2.1 x.2.2.2.2.2.2.1 x.2.2.2.2.2.2.2.1 x.2.2.2.2.2.2.2.2⟩:=tk t96 rn zbd Tryz.func55 [] zp
def t97:=t96.s z0i
def zbU:Hints:=Hz [] [(0,1,.ways [⟨.normal,⟨[Mb 26,.v lv,.a zu,.a zD,.a zO,.a zw,.a zY,.a zF],[],tc⟩⟩])] []
theorem z0x:qQ Pz 56 ⟨tI,MZ,[],LF,1,λx=>jn x.1 x.2.1 x.2.2.1 x.2.2.2.1 x.2.2.2.2.1 x.2.2.2.2.2.1 x.2.2.2.2.2.2.1 x.2.2.2.2.2.2.2⟩:=tk t97 rn zbU Tryz.func56 [] zp
def t98:=t97.s z0x
def zba:Hints:=Hz [] [(0,1,.ways [z5G])] []
theorem z0h:qQ Pz 57 ⟨tI,MZ,[],LF,1,λx=>uJ x.1 x.2.1 x.2.2.1 x.2.2.2.1 x.2.2.2.2.1 x.2.2.2.2.2.1 x.2.2.2.2.2.2.1 x.2.2.2.2.2.2.2⟩:=tk t98 rn zba Tryz.func57 [] zp
def t99:=t98.s z0h
def zbp:Hints:=Hz [] [(0,1,.ways [z5G])] []
theorem SK:qQ Pz 58 ⟨tI,MZ,[],LF,1,λx=>ud x.1 x.2.1 x.2.2.1 x.2.2.2.1 x.2.2.2.2.1 x.2.2.2.2.2.1 x.2.2.2.2.2.2.1 x.2.2.2.2.2.2.2⟩:=tk t99 rn zbp Tryz.func58 [] zp
def t100:=t99.s SK
def h59:Hints:=Hz [] [(0,1,.ways [⟨.normal,⟨[Mb 23,.v lv,.a zu,.a zD,.a zO,.a zw,.a zY,.a zF],[],tc⟩⟩]),(0,5,.flat [Mb 44]),(3,5,.ways [z4o]),(0,8,.ways [⟨.normal,⟨[Mb 68,.v lv,.a zu,.a zD,.a zO,.a zw,.a zY,.a zF,.v (.zC zw)],[],[.var lv,.arr zu,.arr zD,.arr zO,.arr zw,.arr zY,.arr zF,.var (.zC zw)]⟩⟩]),(3,8,.ways [z4o])] []
theorem zgG:qQ Pz 59 ⟨tI,MZ,[],LF,1,λx=>uF x.1 x.2.1 x.2.2.1 x.2.2.2.1 x.2.2.2.2.1 x.2.2.2.2.2.1 x.2.2.2.2.2.2.1 x.2.2.2.2.2.2.2⟩:=tk t100 rn h59 Tryz.func59 [] zp
def t101:=t100.s zgG
def h23:Hints:=Hz [] [(0,3,.flat [Mb 36]),(0,7,.flat [Mb 41]),(0,9,.flat [Mb 53])] []
theorem zhG:qQ Pz 23 ⟨tI,z5a,[],Bw,1,λx=>ep x.1 x.2.1 x.2.2.1 x.2.2.2.1 x.2.2.2.2.1 x.2.2.2.2.2.1 x.2.2.2.2.2.2.1 x.2.2.2.2.2.2.2⟩:=tk (((((t101.s SK).s z0h).s z0x).s z0i).s R7) rn h23 Tryz.func23 [] zp
def t102:=t101.s zhG
theorem zgt:zG Pz 86 ⟨[.ty zu],[.bool],λx=>j9 x⟩:=xo t102 (rz [1]) hN Tryz.func86 [] zp
def t103:=t102.d zgt
def LK:zW:=Lz [] [Mm 0 (.sl zu),.s 1 (.xk 86 []),Mi 7] Js [gL,Wc] λp s=>qV p.1 (λz0=>j9 z0) p.2.2 s
def zdH:Hints:=Hz [(0,LK)] [] []
theorem z2a:LO Tryz.f140 LK 0:=lk t103 rn zdH [] zp
theorem zdo:zG Pz 140 ⟨[.ty (.sl zu),.xk 86 []],[i64],λx=>wk x.1 (λz0=>j9 z0)⟩:=xo t103 rn zdH Tryz.func140 [0] (qc rfl z2a zp)
def t104:=t103.d zdo
theorem zhL:zG Pz 85 ⟨[.ty (.sl zu),.xk 86 []],[.bool],λx=>qU x.1 (λz0=>j9 z0)⟩:=xo t104 rn hN Tryz.func85 [] zp
def t105:=t104.d zhL
theorem zep:zG Pz 89 ⟨[.ty zD],[.bool],λx=>j7 x⟩:=xo t105 (rz [1]) hN Tryz.func89 [] zp
def t106:=t105.d zep
def Iw:zW:=Lz [] [Mm 0 (.sl zD),.s 1 (.xk 89 []),Mi 7] Js [gL,Wc] λp s=>xg p.1 (λz0=>j7 z0) p.2.2 s
def z95:Hints:=Hz [(0,Iw)] [] []
theorem z1S:LO Tryz.f143 Iw 0:=lk t106 rn z95 [] zp
theorem z9S:zG Pz 143 ⟨[.ty (.sl zD),.xk 89 []],[i64],λx=>wH x.1 (λz0=>j7 z0)⟩:=xo t106 rn z95 Tryz.func143 [0] (qc rfl z1S zp)
def t107:=t106.d z9S
theorem zhE:zG Pz 88 ⟨[.ty (.sl zD),.xk 89 []],[.bool],λx=>xi x.1 (λz0=>j7 z0)⟩:=xo t107 rn hN Tryz.func88 [] zp
def t108:=t107.d zhE
theorem zhr:zG Pz 94 ⟨[.ty .str],[.bool],λx=>kZ x⟩:=xo t108 rn hN Tryz.func94 [] zp
def t109:=t108.d zhr
theorem zgm:zG Pz 93 ⟨[.ty zO],[.bool],λx=>j5 x⟩:=xo t109 (rz [1]) hN Tryz.func93 [] zp
def t110:=t109.d zgm
def Mn:zW:=Lz [] [Mm 0 (.sl zO),.s 1 (.xk 93 []),Mi 7] Js [gL,Wc] λp s=>xA p.1 (λz0=>j5 z0) p.2.2 s
def z8O:Hints:=Hz [(0,Mn)] [] []
theorem z18:LO Tryz.f146 Mn 0:=lk t110 rn z8O [] zp
theorem z9A:zG Pz 146 ⟨[.ty (.sl zO),.xk 93 []],[i64],λx=>ve x.1 (λz0=>j5 z0)⟩:=xo t110 rn z8O Tryz.func146 [0] (qc rfl z18 zp)
def t111:=t110.d z9A
theorem zfR:zG Pz 92 ⟨[.ty (.sl zO),.xk 93 []],[.bool],λx=>xr x.1 (λz0=>j5 z0)⟩:=xo t111 rn hN Tryz.func92 [] zp
def t112:=t111.d zfR
theorem zht:zG Pz 37 ⟨[.ty qI],[.bool],λx=>iW x⟩:=xo t112 (rz [1]) hN Tryz.func37 [] zp
def t113:=t112.d zht
def h95:Hints:=Hz [] [(0,1,.flat [Mb 6])] []
theorem zgc:zG Pz 95 ⟨[.ty i64,.ty i64,.ty i64],[.bool],λx=>bZ x.1 x.2.1 x.2.2⟩:=xo t113 rn h95 Tryz.func95 [] zp
def t114:=t113.d zgc
def SN:zW:=Lz [] [Mr 1 qI,Mm 7 (.sl zw),Mi 8] z4V [gL,tU] λp s=>jz p.1 p.2.1 p.2.2 s
def h38:Hints:=Hz [(0,SN)] [(0,5,.ways [⟨.normal,⟨[Mb 36,.v (.zC zw)],[],[.var (.zC zw)]⟩⟩])] []
theorem z6P:LO Tryz.f38 SN 0:=lk t114 (rz [1]) h38 [] zp
theorem zfO:zG Pz 38 ⟨[.ty qI],[.bool],λx=>dT x⟩:=xo t114 (rz [1]) h38 Tryz.func38 [0] (qc rfl z6P zp)
def t115:=t114.d zfO
theorem zfm:zG Pz 99 ⟨[.ty zY],[.bool],λx=>vH x⟩:=xo t115 (rz [1]) hN Tryz.func99 [] zp
def t116:=t115.d zfm
def L5:zW:=Lz [] [Mm 0 (.sl zY),.s 1 (.xk 99 []),Mi 7] Js [gL,Wc] λp s=>xp p.1 (λz0=>vH z0) p.2.2 s
def zdm:Hints:=Hz [(0,L5)] [] []
theorem z2N:LO Tryz.f148 L5 0:=lk t116 rn zdm [] zp
theorem zam:zG Pz 148 ⟨[.ty (.sl zY),.xk 99 []],[i64],λx=>vb x.1 (λz0=>vH z0)⟩:=xo t116 rn zdm Tryz.func148 [0] (qc rfl z2N zp)
def t117:=t116.d zam
theorem zfv:zG Pz 98 ⟨[.ty (.sl zY),.xk 99 []],[.bool],λx=>xv x.1 (λz0=>vH z0)⟩:=xo t117 rn hN Tryz.func98 [] zp
def t118:=t117.d zfv
def SV:zW:=Lz [] [Mr 1 qI,Mm 7 (.sl zF),Mi 8] z4V [gL,tU] λp s=>jx p.1 p.2.1 p.2.2 s
def h39:Hints:=Hz [(0,SV)] [(0,5,.ways [⟨.normal,⟨[Mb 50,.v (.zC zF)],[],[.var (.zC zF)]⟩⟩])] []
theorem z6O:LO Tryz.f39 SV 0:=lk t118 (rz [1]) h39 [] zp
theorem zfe:zG Pz 39 ⟨[.ty qI],[.bool],λx=>dP x⟩:=xo t118 (rz [1]) h39 Tryz.func39 [0] (qc rfl z6O zp)
def t119:=t118.d zfe
end Go.AM.Lf
namespace Go.Proofs
section
open Go.RowKit
attribute [local go_sem] Oper.semAt_some
set_option maxRecDepth 100000
set_option maxHeartbeats 2000000
theorem pj.size:(Tryz.prog.info? 111).map (·.size)=some 2:=by kernel_rfl
theorem pj.pt:Tryz.prog.underlying 109=some (.pointer 111):=by kernel_rfl
theorem pj.up:Tryz.prog.underlying 191=some .unsafePointer:=by kernel_rfl
theorem pj.used(b:Nat)(w:World)(h0:w.cell? ⟨b,0,none⟩=some (.pointer (some ⟨b,0,none⟩))) :
  Calls Tryz.prog 133 #[.pointer (some ⟨b,0,none⟩)] w λe w'=>e=.returned (.tuple #[])/\w'=w:=by
 obtain⟨j,hj,hjs⟩:=Option.map_eq_some_iff.1 pj.size
 go_enter Tryz.func133,Tryz.ntmps133
 go_wp2
 rw[Lib.run_neq_ptr_same w _ pj.pt hj]
 go_wp2
 go_end0
 exact⟨rfl,rfl⟩
theorem pj.fresh(b:Nat)(w:World)(h0:w.cell? ⟨b,0,none⟩=some (.pointer none))(hsh:w.shape? b=some (111,2))(hfz:w.frozen? ⟨b,0,none⟩=false) :
  Calls Tryz.prog 133 #[.pointer (some ⟨b,0,none⟩)] w λe w'=>e=.returned (.tuple #[])/\w'=w.setCell ⟨b,0,none⟩ (.pointer (some ⟨b,0,none⟩)):=by
 obtain⟨j,hj,hjs⟩:=Option.map_eq_some_iff.1 pj.size
 go_enter Tryz.func133,Tryz.ntmps133
 go_wp2
 rw[Lib.run_to_unsafe w ⟨b,0,none⟩ pj.pt pj.up hj (by rw[hjs]; decide) hsh (Nat.zero_lt_succ 1)]
 simp only[Result.andThen]
 rw[Oper.upon_value]
 go_wp2
 rw[run_callFunc_extern Tryz.func172 (by kernel_rfl) (by kernel_rfl) (by kernel_rfl) (e:=Extern.AbiNoEscape.same) (by kernel_rfl)]
 rw[Lib.run_noEscape]
 simp only[Result.andThen]
 rw[Oper.upon_value]
 go_wp2
 rw[Lib.run_from_unsafe w ⟨b,0,none⟩ pj.up pj.pt hj hsh (by kernel_rfl)]
 simp only[Result.andThen]
 rw[Oper.upon_value]
 go_wp2
 go_end0
 exact⟨rfl,rfl⟩
end
end Go.Proofs

namespace Go.AM.Lf
open Go.Proofs
theorem zbi:qQ Tryz.prog 133 ⟨[.ptr],z5t,[],Wh,0,λx=>lC x.1 x.2⟩:=GB (P:=Tryz.prog) (g:=133) (t:=111) (enters_of Tryz.func133 (by kernel_rfl) rfl) pj.used pj.fresh
def t120:=t119.s zbi
theorem zeA:qQ Pz 78 ⟨tI,⟨[Ms 1,.v Vb,.a (.int .u8)],[(0,.ptr 0 0)],rR⟩,[.pcell 0 1 (.int .u8)],⟨[Mi 0,.v Vb,.a (.int .u8)],[(1,.xh)],rR⟩,2,λx=>qi x.1 x.2.1 x.2.2⟩:=tk t120 rn hN Tryz.func78 [] zp
def t121:=t120.s zeA
theorem zfo:zG Pz 79 ⟨[.ty wS],[.str],λx=>lM x⟩:=xo t121 rn hN Tryz.func79 [] zp
def t122:=t121.d zfo
theorem zgY:zG Pz 82 ⟨[.ty .str],[.str],λx=>fU x⟩:=xo t122 rn hN Tryz.func82 [] zp
def t123:=t122.d zgY
theorem zaT:zG Tryz.prog 177 ⟨[.ty i64],[.str],λx=>strconv_Itoa x⟩:=by
 refine vS Tryz.func177 (by kernel_rfl) rfl λκ n zJ y hy hI ha => ?_
 obtain⟨⟨h0,h1⟩,hy⟩:=hy
 cases hy
 obtain⟨v0,r,rfl,Y1,ha⟩:=qM.cons_inv (show qM κ [.zC i64 n] zJ from ha)
 rw[ha.ql,Y1.yW]
 refine(Go.Proofs.Tryz.strconv_Itoa n h0 h1 κ.w (gX hI)).mono ?_
 rintro e w' ⟨rfl,k,os,rfl⟩
 refine⟨Ig _ _ _,λ_=>⟨_,rfl,?_⟩⟩
 have e1:Lib.itoa n=nV n:=RT n
 show RD _ (.zC .str (nV n)) _
 rw[<- e1]
 exact RD.str
def t124:=t123.d zaT
def zfF:Hints:=Hz [] [(3,2,.flat [Ms 3])] []
theorem zdF:zG Pz 138 ⟨[.ty zw],[.str],λx=>iN x⟩:=xo t124 (rz [1]) zfF Tryz.func138 [] zp
def t125:=t124.d zdF
def zf6:Hints:=Hz [] [(3,2,.flat [Mb 5]),(3,5,.flat [Mb 8])] []
theorem z9U:zG Pz 208 ⟨[.ty .expr],[i64],λx=>cy x⟩:=xo t125 (rz [1]) zf6 Tryz.func208 [] zp
def t126:=t125.d z9U
abbrev z3Y:=ym [.ty .expr]->T (Bt [.str])
abbrev z8W(F:z3Y):=zG Pz 178 ⟨[.ty .expr],[.str],F⟩
theorem zcc(oT:z3Y)(CS:z8W oT):zG Pz 207 ⟨[.ty .expr,.ty i64],[.str],λx=>gJ (λy0=>oT (y0)) x.1 x.2⟩:=xo (t126.d CS) (rz [2]) hN Tryz.func207 [] zp
def zeO(oT:z3Y):Hints:=Hz [] [(3,2,.ways [⟨.normal,UR⟩,⟨.ret,⟨[Ms 2],[],[]⟩⟩])] []
theorem z1f(oT:z3Y)(CS:z8W oT):zG Pz 178 ⟨[.ty .expr],[.str],λx=>dQ (λy0=>oT (y0)) x⟩:=xo (t126.d (zcc _ CS)) (rz [1]) (zeO oT) Tryz.func178 [] zp
theorem zdv:zG Pz 178 ⟨[.ty .expr],[.str],λx=>nj x⟩:=K0 (λoT x=>dQ (λy0=>oT (y0)) x) (λx=>rfl) (λoT CS=>z1f oT CS)
def t127:=t126.d zdv
theorem zdc:zG Pz 139 ⟨[.ty .expr],[.str],λx=>eU x⟩:=xo t127 (rz [1]) hN Tryz.func139 [] zp
def t128:=t127.d zdc
theorem zfp:zG Pz 83 ⟨[.ty .expr,.ty .str,.ty .expr],[.str],λx=>dx x.1 x.2.1 x.2.2⟩:=xo t128 (rz [3,5]) hN Tryz.func83 [] zp
def t129:=t128.d zfp
def z0z:zW:=Lz [] [Mi 2,Mr 4 qI,Mm 29 (.sl zw),Mi 30] ⟨[Mi 31,.v Vb,.a (.int .u8)],[(0,.ptr 0 0)],rR⟩ [⟨.exit 0,Wh⟩] λp s=>jy p.1 p.2.1 p.2.2.1 p.2.2.2 s
def Pw:zW:=Lz [] [Mi 2,Mm 45 (.sl zF),Mi 46] ⟨[Mi 47,.v Vb,.a (.int .u8)],[(0,.ptr 0 0)],rR⟩ [⟨.exit 2,Wh⟩] λp s=>jA p.1 p.2.1 p.2.2 s
def h80:Hints:=Hz [(0,z0z),(2,Pw)] [] []
theorem z7I:LO Tryz.f80 z0z 0:=lk t129 (rz [4]) h80 [] zp
theorem z5T:LO Tryz.f80 Pw 2:=lk t129 (rz [4]) h80 [] zp
theorem zhs:qQ Pz 80 ⟨Cm,⟨[Mm 1 qI,Mi 2,.v Vb,.a (.int .u8)],[(0,.ptr 0 0)],rR⟩,[.pcell 0 1 (.int .u8)],Wh,0,λx=>en x.1 x.2.1 x.2.2.1 x.2.2.2⟩:=tk t129 (rz [4]) h80 Tryz.func80 [0,2] (qc rfl z7I (qc rfl z5T zp))
def t130:=t129.s zhs
end Go.AM.Lf
namespace Go.Proofs
section
open Go.RowKit
attribute [local go_sem] Oper.semAt_some
set_option maxRecDepth 100000
set_option maxHeartbeats 2000000
theorem pj.mixed:Tryz.prog.follows .mixedOrders=true:=by kernel_rfl
theorem pj.pb:Tryz.prog.underlying 161=some (.pointer 5):=by kernel_rfl
theorem pj.c5:Tryz.prog.cellsOf 5=1:=by kernel_rfl
theorem pj.Pk(W:World)(q:Option Addr):(Builtin.unsafeString_ #[161,3] 9 #[.pointer q,.int .i64 0]).run Tryz.prog W=.ok (.string .empty) W:=Lib.run_unsafeString_none W _ _ _ q
theorem pj.nil(b:Nat)(p:Value)(w:World)(E5:w.heap[b]? = some (.cells #[p,.slice none 0 0] 111 (0,0))) :
  Calls Tryz.prog 84 #[.pointer (some ⟨b,0,none⟩)] w λe w'=>e=.returned (.string ⟨#[]⟩)/\w'=w.drew:=by
 have hUS:=pj.Pk
 have c1:w.drew.cell? ⟨b,1,none⟩=some (.slice none 0 0):=by
  have:w.drew.heap[b]? = some (.cells #[p,.slice none 0 0] 111 (0,0)):=E5
  rw[Lib.cell_of_heap this]; rfl
 have hSD:(Builtin.unsafeSliceData_ #[77] 161 #[.slice none 0 0]).run Tryz.prog w.drew=.ok (.pointer none) w.drew:=rfl
 have mixed:Tryz.prog.follows .mixedOrders=true:=pj.mixed
 go_enter Tryz.func84,Tryz.ntmps84
 go_wp2
 go_region_o
 all_goals (go_wp2; go_ret; exact⟨rfl,rfl⟩)
theorem pj.room(b g o cap:Nat)(p:Value)(w:World)(hc0:cap≠0)(E5:w.heap[b]? = some (.cells #[p,.slice (some ⟨g,o,none⟩) 0 cap] 111 (0,0))) :
  Calls Tryz.prog 84 #[.pointer (some ⟨b,0,none⟩)] w λe w'=>e=.returned (.string ⟨#[]⟩)/\w'=w.drew:=by
 have hUS:=pj.Pk
 have c1:w.drew.cell? ⟨b,1,none⟩=some (.slice (some ⟨g,o,none⟩) 0 cap):=by
  have:w.drew.heap[b]? = some (.cells #[p,.slice (some ⟨g,o,none⟩) 0 cap] 111 (0,0)):=E5
  rw[Lib.cell_of_heap this]; rfl
 have hSD:(Builtin.unsafeSliceData_ #[77] 161 #[.slice (some ⟨g,o,none⟩) 0 cap]).run Tryz.prog w.drew=.ok (.pointer (some ⟨g,o,none⟩)) w.drew :=
  Lib.run_unsafeSliceData_row _ _ _ _ _ _ hc0
 clear hc0
 have mixed:Tryz.prog.follows .mixedOrders=true:=pj.mixed
 go_enter Tryz.func84,Tryz.ntmps84
 go_wp2
 go_region_o
 all_goals (go_wp2; go_ret; exact⟨rfl,rfl⟩)
theorem pj.full(b g cap:Nat)(p:Value)(cur:Array Value)(l:List UInt8)(w:World)(h0:l≠[])(vJ:l.length<=cap)(z3B:l.length<=140737488355328)(E5:w.heap[b]? = some (.cells #[p,.slice (some ⟨g,0,none⟩) l.length cap] 111 (0,0)))
  (hg:w.heap[g]? = some (.cells cur 5 (0,0))) (zjn:l.length<=cur.size) (tR:∀ j x,l[j]? = some x->w.cell? ⟨g,j,none⟩=some (.int .u8 x.toNat)) :
  Calls Tryz.prog 84 #[.pointer (some ⟨b,0,none⟩)] w λe w'=>e=.returned (.string ⟨l.toArray⟩)/\w'=w.drew.freeze ⟨g,0,none⟩ l.length:=by
 have hl0:l.length≠0:=by simpa using h0
 have c1:w.drew.cell? ⟨b,1,none⟩=some (.slice (some ⟨g,0,none⟩) l.length cap):=by
  have:w.drew.heap[b]? = some (.cells #[p,.slice (some ⟨g,0,none⟩) l.length cap] 111 (0,0)):=E5
  rw[Lib.cell_of_heap this]; rfl
 have hSD:(Builtin.unsafeSliceData_ #[77] 161 #[.slice (some ⟨g,0,none⟩) l.length cap]).run Tryz.prog w.drew=.ok (.pointer (some ⟨g,0,none⟩)) w.drew :=
  Lib.run_unsafeSliceData_row _ _ _ _ _ _ (by omega)
 have hUS:(Builtin.unsafeString_ #[161,3] 9 #[.pointer (some ⟨g,0,none⟩),.int .i64 l.length]).run Tryz.prog w.drew=.ok (.string ⟨l.toArray⟩) (w.drew.freeze ⟨g,0,none⟩ l.length):=by
  refine Lib.run_unsafeString_row w.drew 161 3 9 5 pj.pb pj.c5 g cur.size (by have hg':w.drew.heap[g]? = some (.cells cur 5 (0,0)):=hg; simp[World.shape?,hg']) l h0 (by omega) (by omega) ?_
  intro j x hx
  have e:(⟨g,0,none⟩:Addr).add j=⟨g,j,none⟩:=by unfold Addr.add; split<;>simp_all
  rw[e]
  exact tR j x hx
 have mixed:Tryz.prog.follows .mixedOrders=true:=pj.mixed
 go_enter Tryz.func84,Tryz.ntmps84
 go_wp2
 go_region_o
 all_goals (go_wp2; go_ret; exact⟨rfl,rfl⟩)
theorem pj.z7Y(b g o:Nat)(p:Value)(cur:Array Value)(w:World)(E5:w.heap[b]? = some (.cells #[p,.slice (some ⟨g,o,none⟩) 0 0] 111 (0,0)))(hg:w.heap[g]? = some (.cells cur 5 (0,0))) :
  Calls Tryz.prog 84 #[.pointer (some ⟨b,0,none⟩)] w λe w'=>e=.returned (.string ⟨#[]⟩)/\w'=w.drew.alloc (.view ⟨g,o,none⟩ 5):=by
 have hUS:=pj.Pk
 have qD:b<w.heap.size:=by
  rcases Nat.lt_or_ge b w.heap.size with h' | h'
  ·exact h'
  ·simp[Array.getElem?_eq_none h']at E5
 have c1:w.drew.cell? ⟨b,1,none⟩=some (.slice (some ⟨g,o,none⟩) 0 0):=by
  have:w.drew.heap[b]? = some (.cells #[p,.slice (some ⟨g,o,none⟩) 0 0] 111 (0,0)):=E5
  rw[Lib.cell_of_heap this]; rfl
 have hSD:(Builtin.unsafeSliceData_ #[77] 161 #[.slice (some ⟨g,o,none⟩) 0 0]).run Tryz.prog w.drew=.ok (.pointer (some ⟨w.drew.heap.size,0,none⟩)) (w.drew.alloc (.view ⟨g,o,none⟩ 5)) :=
  Lib.run_unsafeSliceData_zero w.drew _ _ 5 pj.pb ⟨g,o,none⟩ 0 (5,cur.size) (by have hg':w.drew.heap[g]? = some (.cells cur 5 (0,0)):=hg; simp[World.shape?,hg'])
 have c2:(w.drew.alloc (.view ⟨g,o,none⟩ 5)).cell? ⟨b,1,none⟩=some (.slice (some ⟨g,o,none⟩) 0 0):=by
  have:(w.drew.alloc (.view ⟨g,o,none⟩ 5)).heap[b]? = _:=(Lib.alloc_old w.drew _ b qD).trans E5
  rw[Lib.cell_of_heap this]; rfl
 have c3:(w.alloc (.view ⟨g,o,none⟩ 5)).drew.cell? ⟨b,1,none⟩=some (.slice (some ⟨g,o,none⟩) 0 0):=c2
 have c0:w.cell? ⟨b,1,none⟩=some (.slice (some ⟨g,o,none⟩) 0 0):=c1
 have mixed:Tryz.prog.follows .mixedOrders=true:=pj.mixed
 go_enter Tryz.func84,Tryz.ntmps84
 go_wp2
 go_region_o
 all_goals (go_wp2; go_ret; exact⟨rfl,rfl⟩)
end
end Go.Proofs

namespace Go.AM.Lf
open Go.Proofs
theorem zew:qQ Tryz.prog 84 ⟨[.ptr],z5t,[],⟨[Ms 0,.v (.st [.op 0 111,.un])],[],[.var (.st [.op 0 111,.un]),.dead]⟩,1,λx=>mF x.1 x.2⟩:=OU (P:=Tryz.prog) (g:=84) (t:=111) (enters_of Tryz.func84 (by kernel_rfl) rfl) pj.nil pj.room pj.full pj.z7Y
def t131:=t130.s zew
def z0q:zW:=Lz [.cell 0 1 (.int .u8)] [Mr 1 qI,Mm 13 (.sl zu),Mi 14] ⟨[Mi 15,.v Vb,.a (.int .u8)],[(3,.ptr 0 0)],rR⟩ [⟨.exit 0,Wh⟩] λp s=>kC p.1 p.2.1 p.2.2 s
def Tu:zW:=Lz [] [Mr 1 qI,Mm 29 (.sl zD),Mi 30] ⟨[Mi 31,.v Vb,.a (.int .u8)],[(3,.ptr 0 0)],rR⟩ [⟨.exit 2,Wh⟩] λp s=>kJ p.1 p.2.1 p.2.2 s
def Pn:zW:=Lz [] [Mr 1 qI,Mi 48] ⟨[Mi 49,.v Vb,.a (.int .u8)],[(3,.ptr 0 0)],rR⟩ [⟨.exit 4,Wh⟩] λp s=>kv p.1 p.2 s
def R6:zW:=Lz [] [Mm 57 (.sl zY),Mi 58] ⟨[Mi 59,.v Vb,.a (.int .u8)],[(3,.ptr 0 0)],rR⟩ [⟨.exit 6,Wh⟩] λp s=>kL p.1 p.2 s
def h36:Hints:=Hz [(0,z0q),(2,Tu),(4,Pn),(6,R6)] [(3,6,.flat [Ms 6])] []
theorem z7V:LO Tryz.f36 z0q 0:=lk t131 (rz [1]) h36 [] zp
theorem z74:LO Tryz.f36 Tu 2:=lk t131 (rz [1]) h36 [] zp
theorem z7Z:LO Tryz.f36 Pn 4:=lk t131 (rz [1]) h36 [] zp
theorem z7b:LO Tryz.f36 R6 6:=lk t131 (rz [1]) h36 [] zp
theorem zgH:zG Pz 36 ⟨[.ty qI],[.str],λx=>cZ x⟩:=xo t131 (rz [1]) h36 Tryz.func36 [0,2,4,6] (qc rfl z7V (qc rfl z74 (qc rfl z7Z (qc rfl z7b zp))))
def t132:=t131.d zgH
theorem zgO:zG Pz 20 ⟨[.ty qI],[.bool],λx=>mv x⟩:=xo t132 (rz [1]) hN Tryz.func20 [] zp
def t133:=t132.d zgO
def SS:zW:=Lz [.cell 0 5 zF,.cell 1 5 zF,.cell 0 4 zY,.cell 1 4 zY,.cell 0 0 zu,.cell 1 0 zu,.cell 0 1 zD,.cell 1 1 zD,.cell 0 2 zO,.cell 1 2 zO,.cell 0 3 zw,.cell 1 3 zw] [Mm 14 (.sl .str),Mi 15] ⟨[Mi 16,.v TG,.v C0,.a zF,.a zF,.a zY,.a zY,.a zu,.a zu,.a zD,.a zD,.a zO,.a zO,.a zw,.a zw],[(2,.ptr 0 0),(5,.ptr 1 0)],z5u⟩ [⟨.exit 0,⟨[.v TG,.v C0,.a zF,.a zF,.a zY,.a zY,.a zu,.a zu,.a zD,.a zD,.a zO,.a zO,.a zw,.a zw],[],z5u⟩⟩,⟨.ret,⟨[Mi 3,Mi 4,.v (.zC qI),.v C0,.a zF,.a zF,.a zY,.a zY,.a zu,.a zu,.a zD,.a zD,.a zO,.a zO,.a zw,.a zw],[],[.var (.zC qI),.var C0,.arr zF,.arr zF,.arr zY,.arr zY,.arr zu,.arr zu,.arr zD,.arr zD,.arr zO,.arr zO,.arr zw,.arr zw]⟩⟩] λp s=>kG p.1 p.2 s
def Pu:Hints:=Hz [(0,SS)] [] []
theorem z6Q:LO Tryz.f10 SS 0:=lk t133 rn Pu [] zp
theorem zh0:zG Pz 10 ⟨[.ty .str],[qI,i64,i64],λx=>ko x⟩:=xo t133 rn Pu Tryz.func10 [0] (qc rfl z6Q zp)
def t134:=t133.d zh0
def Ph:zW:=Lz [] [Ms 0,Mi 4] z5F [⟨.exit 2,z5F⟩] λp s=>yP p.1 p.2 s
def z04:zW:=Lz [.slot 3 .str] [Ms 0] ⟨[Mi 4,.a .str],[(3,.cur 0 .str)],[.arr .str]⟩ [⟨.exit 0,⟨[.a .str],[(3,.cur 0 .str)],[.arr .str]⟩⟩] λp s=>jJ p s
def h24:Hints:=Hz [(2,Ph),(0,z04)] [(0,7,.flat [Mb 26])] []
theorem z5X:LO Tryz.f24 Ph 2:=lk t134 rn h24 [] zp
theorem z7c:LO Tryz.f24 z04 0:=lk t134 rn h24 [2] (qc rfl z5X zp)
theorem zeJ:zG Pz 24 ⟨[.ty .str],[(.sl .str)],λx=>eM x⟩:=xo t134 rn h24 Tryz.func24 [0] (qc rfl z7c zp)
def t135:=t134.d zeJ
def h67:Hints:=Hz [] [(0,1,.flat [Mb 2])] []
theorem zgn:zG Pz 67 ⟨[.ty (.int .u8)],[.bool],λx=>wy x⟩:=xo t135 rn h67 Tryz.func67 [] zp
def t136:=t135.d zgn
def h68:Hints:=Hz [] [(0,1,.flat [Mb 2])] []
theorem zgR:zG Pz 68 ⟨[.ty (.int .u8)],[.bool],λx=>uR x⟩:=xo t136 rn h68 Tryz.func68 [] zp
def t137:=t136.d zgR
def RB:zW:=Lz [] [Ms 0] Gl [gL,tU] λp s=>y9 p s
def h30:Hints:=Hz [(0,RB)] [(0,1,.ways [z5o]),(0,6,.ways [⟨.normal,⟨[Mb 41],[],[]⟩⟩])] []
theorem z65:LO Tryz.f30 RB 0:=lk t137 rn h30 [] zp
theorem zgA:zG Pz 30 ⟨[.ty .str],[.bool],λx=>xj x⟩:=xo t137 rn h30 Tryz.func30 [0] (qc rfl z65 zp)
def t138:=t137.d zgA
def IU:zW:=Lz [] [Mm 0 (.sl u32)] Gl [RU] λp s=>bj p s
def z9s:Hints:=Hz [(0,IU)] [(0,2,.flat [Mb 15])] []
theorem z48:LO Tryz.f125 IU 0:=lk t138 rn z9s [] zp
theorem zdt:zG Pz 125 ⟨[.ty (.sl u32)],[(.sl u32)],λx=>xa x⟩:=xo t138 rn z9s Tryz.func125 [0] (qc rfl z48 zp)
def t139:=t138.d zdt
theorem zaN:zG Pz 162 ⟨[.ty (.int .u64)],[(.sl u32)],λx=>nf x⟩:=xo t139 rn hN Tryz.func162 [] zp
def t140:=t139.d zaN
def LJ:zW:=Lz [] [Mm 4 (.sl u32)] ⟨[Mm 5 (.int .u64),Mi 6],[],[]⟩ [⟨.exit 0,⟨[Mm 5 (.int .u64)],[],[]⟩⟩] λp s=>fK p s
def zdp:Hints:=Hz [(0,LJ)] [] []
theorem z2V:LO Tryz.f165 LJ 0:=lk t140 rn zdp [] zp
theorem zc9:zG Pz 165 ⟨[.ty (.sl u32)],[(.int .u64),.bool],λx=>ZR x⟩:=xo t140 rn zdp Tryz.func165 [0] (qc rfl z2V zp)
def t141:=t140.d zc9
def MO:zW:=Lz [] [Mm 0 (.sl u32),Mm 1 (.int .u64)] z4A [⟨.exit 0,⟨[Mm 7 (.int .u64),.a u32],[(6,.cur 0 u32)],uj⟩⟩] λp s=>cU p.1 p.2 s
def zb6:Hints:=Hz [(0,MO)] [] [(9,[6])]
theorem z1d:LO Tryz.f166 MO 0:=lk t141 rn zb6 [] zp
theorem za8:zG Pz 166 ⟨[.ty (.sl u32),.ty (.int .u64)],[(.sl u32),(.int .u64)],λx=>cK x.1 x.2⟩:=xo t141 rn zb6 Tryz.func166 [0] (qc rfl z1d zp)
def t142:=t141.d za8
theorem zcu:zG Pz 163 ⟨[.ty (.sl u32),.ty i64],[(.int .u64)],λx=>bR x.1 x.2⟩:=xo t142 rn hN Tryz.func163 [] zp
def t143:=t142.d zcu
def Lc:zW:=Lz [.slot 8 u32] [Mm 5 (.sl u32),Mm 7 (.int .u64)] ⟨[Mi 9,.a u32],[(8,.cur 0 u32)],uj⟩ [⟨.exit 0,⟨[.a u32],[(8,.cur 0 u32)],uj⟩⟩] λp s=>tu p.1 p.2 s
def Mf:zW:=Lz [] [Mm 5 (.sl u32),Mm 11 (.int .u64)] ⟨[Mm 12 (.int .u64),Mi 13,.a u32],[(10,.cur 0 u32)],uj⟩ [⟨.exit 2,⟨[.a u32],[(10,.cur 0 u32)],uj⟩⟩] λp s=>cM p.1 p.2 s
def z6J:Hints:=Hz [(0,Lc),(2,Mf)] [] [(14,[8]),(24,[10])]
theorem z2Z:LO Tryz.f167 Lc 0:=lk t143 rn z6J [] zp
theorem z42:LO Tryz.f167 Mf 2:=lk t143 rn z6J [] zp
theorem zcb:zG Pz 167 ⟨[.ty (.sl u32),.ty i64],[(.sl u32)],λx=>ns x.1 x.2⟩:=xo t143 rn z6J Tryz.func167 [0,2] (qc rfl z2Z (qc rfl z42 zp))
def t144:=t143.d zcb
def MC:zW:=Lz [.slot 5 u32] [Mm 0 (.sl u32),Mm 1 (.sl u32)] ⟨[Mm 6 (.int .u64),Mi 7,.a u32],[(5,.cur 0 u32)],uj⟩ [TQ] λp s=>iE p.1 p.2 s
def z9b:Hints:=Hz [(0,MC)] [] [(9,[5])]
theorem z2M:LO Tryz.f120 MC 0:=lk t144 rn z9b [] zp
theorem zaZ:zG Pz 120 ⟨[.ty (.sl u32),.ty (.sl u32)],[(.sl u32)],λx=>dq x.1 x.2⟩:=xo t144 rn z9b Tryz.func120 [0] (qc rfl z2M zp)
def t145:=t144.d zaZ
def IN:zW:=Lz [] [Mm 5 (.sl u32),Mm 6 (.sl u32)] z4q [gL,Wc] λp s=>dw p.1 p.2 s
def zbP:Hints:=Hz [(0,IN)] [] []
theorem z2m:LO Tryz.f168 IN 0:=lk t145 rn zbP [] zp
theorem zcL:zG Pz 168 ⟨[.ty (.sl u32),.ty (.sl u32)],[i64],λx=>rU x.1 x.2⟩:=xo t145 rn zbP Tryz.func168 [0] (qc rfl z2m zp)
def t146:=t145.d zcL
def ID:zW:=Lz [.slot 6 u32] [Mm 0 (.sl u32),Mm 1 (.sl u32)] z4A [⟨.exit 0,⟨[.a u32],[(6,.cur 0 u32)],uj⟩⟩] λp s=>iD p.1 p.2 s
def zbD:Hints:=Hz [(0,ID)] [(3,10,.flat [Mm 7 (.int .u64),Mm 9 (.int .u64)])] [(14,[6])]
theorem z1J:LO Tryz.f169 ID 0:=lk t146 rn zbD [] zp
theorem zc3:zG Pz 169 ⟨[.ty (.sl u32),.ty (.sl u32)],[(.sl u32),.bool],λx=>X5 x.1 x.2⟩:=xo t146 rn zbD Tryz.func169 [0] (qc rfl z1J zp)
def t147:=t146.d zc3
def IE:zW:=Lz [] [Mm 0 (.sl u32),Mm 1 (.sl u32)] ⟨[Mm 14 (.sl u32),Mi 15,.a u32],[(13,.cur 0 u32)],uj⟩ [⟨.exit 0,z4x⟩] λp s=>uZ p.1 p.2 s
def zds:Hints:=Hz [(0,IE)] [(0,5,.flat [Mb 33]),(0,7,.flat [Mb 46]),(3,16,.ways [⟨.normal,z4x⟩])] [(21,[13])]
theorem z3G:LO Tryz.f127 IE 0:=lk t147 rn zds [] zp
theorem zbb:zG Pz 127 ⟨[.ty (.sl u32),.ty (.sl u32)],[(.sl u32),(.sl u32),.bool],λx=>kO x.1 x.2⟩:=xo t147 rn zds Tryz.func127 [0] (qc rfl z3G zp)
def t148:=t147.d zbb
def LD:zW:=Lz [] [] ⟨[Mm 5 (.sl u32),Mm 6 (.sl u32)],[],[]⟩ [⟨.exit 0,⟨[Mm 5 (.sl u32)],[],[]⟩⟩] λp s=>dm  s
def z9q:Hints:=Hz [(0,LD)] [] []
theorem z3j:LO Tryz.f126 LD 0:=lk t148 rn z9q [] zp
theorem zb1:zG Pz 126 ⟨[.ty (.sl u32),.ty (.sl u32)],[(.sl u32)],λx=>QZ x.1 x.2⟩:=xo t148 rn z9q Tryz.func126 [0] (qc rfl z3j zp)
def t149:=t148.d zb1
def h64:Hints:=Hz [] [(0,2,.flat [Mb 19])] []
theorem zhq:zG Pz 64 ⟨[.ty wS],[wS],λx=>ja x⟩:=xo t149 (rz [1]) h64 Tryz.func64 [] zp
def t150:=t149.d zhq
theorem zbt:zG Pz 118 ⟨[.ty .bool,.ty (.sl u32),.ty (.sl u32)],[wS],λx=>cS x.1 x.2.1 x.2.2⟩:=xo t150 rn hN Tryz.func118 [] zp
def t151:=t150.d zbt
def zhF:Hints:=Hz [] [(3,2,.flat [Mm 3 (.int .u64)])] []
theorem zb0:zG Pz 115 ⟨[.ty i64],[wS],λx=>yH x⟩:=xo t151 rn zhF Tryz.func115 [] zp
def t152:=t151.d zb0
def LZ:zW:=Lz [] [Ms 0] Gl [RU] λp s=>iB p s
def zcG:Hints:=Hz [(0,LZ)] [(0,2,.flat [Mb 19])] []
theorem z1z:LO Tryz.f116 LZ 0:=lk t152 rn zcG [] zp
theorem zd2:zG Pz 116 ⟨[.ty .str],[i64],λx=>fH x⟩:=xo t152 rn zcG Tryz.func116 [0] (qc rfl z1z zp)
def t153:=t152.d zd2
def IC:zW:=Lz [] [Mm 0 (.sl u32),Mm 1 (.sl u32),Mi 6] ⟨[Mm 7 (.int .u64),Mi 8,.a u32],[(5,.cur 0 u32)],uj⟩ [⟨.exit 2,z4J⟩] λp s=>dt p.1 p.2.1 p.2.2 s
def IG:zW:=Lz [] [Mm 0 (.sl u32),Mm 1 (.sl u32)] ⟨[Mi 6,.a u32],[(5,.cur 0 u32)],uj⟩ [TQ] λp s=>iO p.1 p.2 s
def z7h:Hints:=Hz [(2,IC),(0,IG)] [(0,7,.flat [Mb 28])] [(13,[5])]
theorem z34:LO Tryz.f121 IC 2:=lk t153 rn z7h [] zp
theorem z2d:LO Tryz.f121 IG 0:=lk t153 rn z7h [2] (qc rfl z34 zp)
theorem z9Y:zG Pz 121 ⟨[.ty (.sl u32),.ty (.sl u32)],[(.sl u32)],λx=>yB x.1 x.2⟩:=xo t153 rn z7h Tryz.func121 [0] (qc rfl z2d zp)
def t154:=t153.d z9Y
def Iz:zW:=Lz [] [Ms 0] ⟨[Mm 4 (.sl u32),Mi 5],[],[]⟩ [z5M,⟨.ret,⟨[Mb 3],[(2,.xE)],[]⟩⟩] λp s=>cO p s
def zdk:Hints:=Hz [(0,Iz)] [(0,1,.flat [Mb 13]),(0,7,.flat [Mb 29])] []
theorem z2C:LO Tryz.f117 Iz 0:=lk t154 rn zdk [] zp
theorem zbn:zG Pz 117 ⟨[.ty .str],[(.sl u32),.bool],λx=>gj x⟩:=xo t154 rn zdk Tryz.func117 [0] (qc rfl z2C zp)
def t155:=t154.d zbn
def Ls:zW:=Lz [] [Mi 0] ⟨[Mm 3 (.sl u32),Mi 4],[],[]⟩ [z4K] λp s=>dh p s
def zaM:Hints:=Hz [(0,Ls)] [] []
theorem z1A:LO Tryz.f119 Ls 0:=lk t155 rn zaM [] zp
theorem zbx:zG Pz 119 ⟨[.ty i64],[(.sl u32)],λx=>rh x⟩:=xo t155 rn zaM Tryz.func119 [0] (qc rfl z1A zp)
def t156:=t155.d zbx
def h60:Hints:=Hz [] [(0,3,.flat [Mb 4]),(3,4,.flat [Ms 0]),(0,14,.flat [Mb 71])] []
theorem zgZ:zG Pz 60 ⟨[.ty .str],[wS,i64],λx=>ki x⟩:=xo t156 rn h60 Tryz.func60 [] zp
def t157:=t156.d zgZ
def h61:Hints:=Hz [] [(0,3,.ways [z4v])] []
theorem zfT:zG Pz 61 ⟨[.ty (.sl .str),.ty i64],[.str,.bool],λx=>jj x.1 x.2⟩:=xo t157 rn h61 Tryz.func61 [] zp
def t158:=t157.d zfT
def h62:Hints:=Hz [] [(0,1,.flat [Mb 13]),(0,5,.flat [Mb 30]),(3,5,.ways [z5f]),(0,8,.flat [Mb 63]),(3,8,.ways [z5f])] []
theorem zgu:zG Pz 62 ⟨[.ty (.sl .str),.ty i64],[zw,.bool],λx=>kK x.1 x.2⟩:=xo t158 rn h62 Tryz.func62 [] zp
def t159:=t158.d zgu
def MW:zW:=Lz [] [Ms 0,Mm 1 (.int .u8)] QL [gL,Wc] λp s=>b8 p.1 p.2 s
def za0:Hints:=Hz [(0,MW)] [] []
theorem z1N:LO Tryz.f122 MW 0:=lk t159 rn za0 [] zp
theorem zcd:zG Pz 122 ⟨[.ty .str,.ty (.int .u8)],[i64],λx=>mc x.1 x.2⟩:=xo t159 rn za0 Tryz.func122 [0] (qc rfl z1N zp)
def t160:=t159.d zcd
def IX:zW:=Lz [] [] ta [⟨.exit 0,z4S⟩] λp s=>wc  s
def za9:Hints:=Hz [(0,IX)] [(0,0,.flat [Mb 23])] []
theorem z3s:LO Tryz.f200 IX 0:=lk t160 rn za9 [] zp
theorem zap:qQ Pz 200 ⟨[.ptr],ta,[],z4S,0,λx=>w9 x⟩:=tk t160 rn za9 Tryz.func200 [0] (qc rfl z3s zp)
def t161:=t160.s zap
def zeo:Hints:=Hz [] [(0,2,.flat [Mb 21])] []
theorem zdI:qQ Pz 228 ⟨[.ptr],ta,[],⟨[Mm 0 (.int .u8),.v (.zC zX)],[],Qy⟩,1,λx=>xX x⟩:=tk t161 rn zeo Tryz.func228 [] zp
def t162:=t161.s zdI
theorem zaf:qQ Pz 201 ⟨tI,⟨[Mi 1,.v (.zC zX)],[(0,.ptr 0 0)],Qy⟩,[],Vp,1,λx=>xb x.1 x.2⟩:=tk t162 rn hN Tryz.func201 [] zp
def t163:=t162.s zaf
theorem zaA:qQ Pz 253 ⟨[.ptr],ta,[],z4w,1,λx=>vx x⟩:=tk t163 rn hN Tryz.func253 [] zp
def t164:=t163.s zaA
def zgv:Hints:=Hz [] [(0,2,.flat [Mb 36])] []
theorem zcw:qQ Pz 254 ⟨tI,⟨[Mm 1 (.int .u8),.v (.zC zX)],[(0,.ptr 0 0)],Qy⟩,[],z4w,1,λx=>jr x.1 x.2⟩:=tk t164 rn zgv Tryz.func254 [] zp
def t165:=t164.s zcw
def N1:zW:=Lz [] [] ⟨[Mi 3,.v (.zC zX)],[(0,.ptr 0 0)],Qy⟩ [⟨.exit 0,⟨[Mi 3,.v (.zC zX)],[],Qy⟩⟩] λp s=>wa  s
def zbQ:Hints:=Hz [(0,N1)] [(0,2,.ways [⟨.normal,⟨[Mb 25,.v (.zC zX)],[],Qy⟩⟩])] []
theorem z1m:LO Tryz.f269 N1 0:=lk t165 rn zbQ [] zp
theorem zcN:qQ Pz 269 ⟨[.ptr],ta,[],⟨[Mi 0,.v (.zC zX)],[],Qy⟩,1,λx=>vn x⟩:=tk t165 rn zbQ Tryz.func269 [0] (qc rfl z1m zp)
def t166:=t165.s zcN
def zhN:Hints:=Hz [] [(0,3,.flat [Mb 33]),(3,3,.ways [⟨.normal,LU⟩,⟨.ret,LU⟩]),(0,8,.ways [⟨.normal,⟨[.v (.zC zX),.v (.zC .expr),.v (.zC wS)],[],[.var (.zC zX),.var (.zC .expr),.var (.zC wS)]⟩⟩])] []
theorem z8Y:qQ Pz 255 ⟨[.ptr],ta,[],Vp,1,λx=>uD x⟩:=tk t166 rn zhN Tryz.func255 [] zp
def t167:=t166.s z8Y
def MF:zW:=Lz [] [Mi 3] ⟨[.v (.zC zX),.v (.zC .expr)],[(0,.ptr 0 0),(2,.ptr 1 0)],z5g⟩ [⟨.exit 0,LU⟩,⟨.ret,LU⟩] λp s=>xO p s
def zaF:Hints:=Hz [(0,MF)] [(0,2,.ways [⟨.normal,⟨[Mb 53,.v (.zC zX),.v (.zC .expr)],[],z5g⟩⟩])] []
theorem z3N:LO Tryz.f256 MF 0:=lk t167 rn zaF [] zp
theorem z9t:qQ Pz 256 ⟨[.ptr],ta,[],Vp,1,λx=>jo x⟩:=tk t167 rn zaF Tryz.func256 [0] (qc rfl z3N zp)
def t168:=t167.s z9t
abbrev zbI:=vG.den ta->T (vG.den Vp)
abbrev zeC(F:zbI):=qQ Pz 241 ⟨[.ptr],ta,[],Vp,1,F⟩
abbrev Xp:=vG.den ta->T (vG.den Vp)
abbrev CX(F:Xp):=qQ Pz 199 ⟨[.ptr],ta,[],Vp,1,F⟩
theorem z1q(YS:zbI)(z05:zeC YS)(xM:Xp)(bH:CX xM):qQ Pz 241 ⟨[.ptr],ta,[],Vp,1,λx=>wu (λy0=>YS (y0)) (λy0=>xM (y0)) x⟩:=tk ((t168.s bH).s z05) rn hN Tryz.func241 [] zp
theorem zb7(xM:Xp)(bH:CX xM):qQ Pz 241 ⟨[.ptr],ta,[],Vp,1,λx=>vi (λy0=>xM (y0)) x⟩:=Hd (λYS x=>wu (λy0=>YS (y0)) (λy0=>xM (y0)) x) (λx=>rfl) (λYS z05=>z1q YS z05 xM bH)
theorem zcS:zG Pz 229 ⟨[.ty i64,.ty .expr,.ty .expr],[.expr],λx=>fm x.1 x.2.1 x.2.2⟩:=xo t168 (rz [4,5]) hN Tryz.func229 [] zp
def t169:=t168.d zcS
def zak(xM:Xp)(bH:CX xM):Tb:=t169.s (zb7 _ bH)
def Mv(xM:Xp):zW:=Lz [] [] z5k [z4R] λp s=>yO (λy0=>xM (y0))  s
def zbT(xM:Xp):Hints:=Hz [(0,Mv xM)] [] []
theorem z1G(xM:Xp)(bH:CX xM):LO Tryz.f227 (Mv xM) 0:=lk (zak xM bH) rn (zbT xM) [] zp
theorem zbR(xM:Xp)(bH:CX xM):qQ Pz 227 ⟨[.ptr],ta,[],Vp,1,λx=>wO (λy0=>xM (y0)) x⟩:=tk (zak xM bH) rn (zbT xM) Tryz.func227 [0] (qc rfl (z1G xM bH) zp)
def zcC(xM:Xp)(bH:CX xM):Tb:=t169.s (zbR _ bH)
def LG(xM:Xp):zW:=Lz [] [] z5k [z4R] λp s=>dB (λy0=>xM (y0))  s
def z8U(xM:Xp):Hints:=Hz [(0,LG xM)] [] []
theorem z3u(xM:Xp)(bH:CX xM):LO Tryz.f199 (LG xM) 0:=lk (zcC xM bH) rn (z8U xM) [] zp
theorem z1K(xM:Xp)(bH:CX xM):qQ Pz 199 ⟨[.ptr],ta,[],Vp,1,λx=>yn (λy0=>xM (y0)) x⟩:=tk (zcC xM bH) rn (z8U xM) Tryz.func199 [0] (qc rfl (z3u xM bH) zp)
theorem zaB:qQ Pz 199 ⟨[.ptr],ta,[],Vp,1,λx=>uM x⟩:=Hd (λxM x=>yn (λy0=>xM (y0)) x) (λx=>rfl) (λxM bH=>z1K xM bH)
def t170:=t169.s zaB
def MP:zW:=Lz [] [] ⟨[Mm 3 (.sl u32),Ms 4],[],[]⟩ [⟨.exit 0,⟨[Ms 4],[],[]⟩⟩] λp s=>yA  s
def z8Q:Hints:=Hz [(0,MP)] [] []
theorem z3A:LO Tryz.f131 MP 0:=lk t170 rn z8Q [] zp
theorem zda:zG Pz 131 ⟨[.ty (.sl u32)],[.str],λx=>cn x⟩:=xo t170 rn z8Q Tryz.func131 [0] (qc rfl z3A zp)
def t171:=t170.d zda
def IQ:zW:=Lz [] [Mi 1] SR [⟨.exit 0,SR⟩] λp s=>kE p s
def z8H:Hints:=Hz [(0,IQ)] [] []
theorem z2S:LO Tryz.f202 IQ 0:=lk t171 rn z8H [] zp
theorem zcO:zG Pz 202 ⟨[.ty (.sl u32),.ty i64],[.str],λx=>l8 x.1 x.2⟩:=xo t171 rn z8H Tryz.func202 [0] (qc rfl z2S zp)
def t172:=t171.d zcO
theorem zbB:zG Pz 130 ⟨[.ty .bool],[.str],λx=>eI x⟩:=xo t172 rn hN Tryz.func130 [] zp
def t173:=t172.d zbB
def zhg:Hints:=Hz [] [(3,2,.flat [Ms 7])] []
theorem zan:zG Pz 170 ⟨[.ty .bool,.ty (.sl u32),.ty i64],[.str],λx=>mW x.1 x.2.1 x.2.2⟩:=xo t173 rn zhg Tryz.func170 [] zp
def t174:=t173.d zan
def Mg:zW:=Lz [] [] ⟨[Mm 5 (.sl u32),Mi 6,.v (.zC wS)],[(4,.ptr 0 0)],[.var (.zC wS)]⟩ [z4X,z5C] λp s=>jH  s
def Ns:Hints:=Hz [(0,Mg)] [] []
theorem z1i:LO Tryz.f128 Mg 0:=lk t174 (rz [1]) Ns [] zp
theorem z9F:zG Pz 128 ⟨[.ty wS],[.str,.bool],λx=>cv x⟩:=xo t174 (rz [1]) Ns Tryz.func128 [0] (qc rfl z1i zp)
def t175:=t174.d z9F
def PT:zW:=Lz [] [Mm 0 (.sl u32),Mm 1 (.sl u32)] QL [gL,tN] λp s=>jO p.1 p.2 s
def h65:Hints:=Hz [(0,PT)] [] []
theorem z6S:LO Tryz.f65 PT 0:=lk t175 rn h65 [] zp
theorem zeG:zG Pz 65 ⟨[.ty (.sl u32),.ty (.sl u32)],[.bool],λx=>gq x.1 x.2⟩:=xo t175 rn h65 Tryz.func65 [0] (qc rfl z6S zp)
def t176:=t175.d zeG
theorem zg7:zG Pz 69 ⟨[.ty wS],[.bool],λx=>QY x⟩:=xo t176 (rz [1]) hN Tryz.func69 [] zp
def t177:=t176.d zg7
def h70:Hints:=Hz [] [(0,2,.flat [Mb 2])] []
theorem zft:zG Pz 70 ⟨[.ty wS],[.bool],λx=>n3 x⟩:=xo t177 (rz [1]) h70 Tryz.func70 [] zp
def t178:=t177.d zft
theorem zfN:zG Pz 31 ⟨[.ty wS],[.bool],λx=>eH x⟩:=xo t178 (rz [1]) hN Tryz.func31 [] zp
def t179:=t178.d zfN
theorem za4:zG Pz 129 ⟨[.ty wS],[.bool],λx=>kM x⟩:=xo t179 (rz [1]) hN Tryz.func129 [] zp
def t180:=t179.d za4
abbrev Y71:=ym [.ty .expr,.ty i64]->T (Bt [.bool])
abbrev H71(F:Y71):=zG Pz 71 ⟨[.ty .expr,.ty i64],[.bool],F⟩
def T71(me:Y71)(BN:H71 me):Tb:=t180.d BN
def TY(me:Y71):zW:=Lz [] [Mi 1,Mr 2 .expr,Mi 5] Js [⟨.exit 1,G4⟩,tN] λp s=>di (λy0 y1=>me (y0,y1)) p.1 p.2.1 p.2.2 s
def h71(me:Y71):Hints:=Hz [(1,TY me)] [(3,4,.ways [⟨.normal,QL⟩,tN]),(0,17,.ways [⟨.normal,⟨[Mb 82],[],[]⟩⟩])] []
theorem z8k(me:Y71)(BN:H71 me):LO Tryz.f71 (TY me) 1:=lk (T71 me BN) (rz [2]) (h71 me) [] zp
theorem z5V(me:Y71)(BN:H71 me):zG Pz 71 ⟨[.ty .expr,.ty i64],[.bool],λx=>mM (λy0 y1=>me (y0,y1)) x.1 x.2⟩:=xo (T71 me BN) (rz [2]) (h71 me) Tryz.func71 [1] (qc rfl (z8k me BN) zp)
theorem zeR:zG Pz 71 ⟨[.ty .expr,.ty i64],[.bool],λx=>lS x.1 x.2⟩:=K0 (λme x=>mM (λy0 y1=>me (y0,y1)) x.1 x.2) (λx=>rfl) (λme BN=>z5V me BN)
def t181:=t180.d zeR
abbrev Y72:=ym [.ty .expr]->T (Bt [i64])
abbrev H72(F:Y72):=zG Pz 72 ⟨[.ty .expr],[i64],F⟩
def T72(lZ:Y72)(CQ:H72 lZ):Tb:=t181.d CQ
def z0a(lZ:Y72):zW:=Lz [] [Mr 1 .expr] z52 [RU] λp s=>yG (λy0=>lZ (y0)) p s
def h72(lZ:Y72):Hints:=Hz [(0,z0a lZ)] [] []
theorem z7g(lZ:Y72)(CQ:H72 lZ):LO Tryz.f72 (z0a lZ) 0:=lk (T72 lZ CQ) (rz [1]) (h72 lZ) [] zp
theorem z7X(lZ:Y72)(CQ:H72 lZ):zG Pz 72 ⟨[.ty .expr],[i64],λx=>dS (λy0=>lZ (y0)) x⟩:=xo (T72 lZ CQ) (rz [1]) (h72 lZ) Tryz.func72 [0] (qc rfl (z7g lZ CQ) zp)
theorem zhe:zG Pz 72 ⟨[.ty .expr],[i64],λx=>nJ x⟩:=K0 (λlZ x=>dS (λy0=>lZ (y0)) x) (λx=>rfl) (λlZ CQ=>z7X lZ CQ)
def t182:=t181.d zhe
theorem zgL:zG Pz 33 ⟨[.ty .expr],[.bool],λx=>yQ x⟩:=xo t182 (rz [1]) hN Tryz.func33 [] zp
def t183:=t182.d zgL
def zgs:Hints:=Hz [] [(0,4,.flat [Mb 27]),(3,4,.ways [⟨.normal,⟨[.v (.zC .expr),.v (.zC zX),.v (.zC .expr)],[],z4y⟩⟩]),(0,8,.ways [⟨.normal,⟨[Mb 52,.v (.zC .expr),.v (.zC zX),.v (.zC .expr)],[],z4y⟩⟩])] []
theorem zaz:zG Pz 164 ⟨[.ty .str],[.expr,i64,i64],λx=>jk x⟩:=xo t183 rn zgs Tryz.func164 [] zp
def t184:=t183.d zaz
def Ln:zW:=Lz [] [Ms 0] ⟨[Mi 6,.v (.zC .expr),.v (.zC .expr)],[(2,.ptr 0 0),(3,.ptr 1 0)],YM⟩ [⟨.exit 0,⟨[Mi 6,.v (.zC .expr),.v (.zC .expr)],[],YM⟩⟩] λp s=>yM p s
def zdi:Hints:=Hz [(0,Ln)] [(0,2,.flat [Mb 29]),(0,9,.flat [Mb 53]),(3,7,.flat [Mi 7,Mi 8])] []
theorem z3t:LO Tryz.f123 Ln 0:=lk t184 rn zdi [] zp
theorem z9T:zG Pz 123 ⟨[.ty .str],[.expr,.expr,i64,i64],λx=>cB x⟩:=xo t184 rn zdi Tryz.func123 [0] (qc rfl z3t zp)
def t185:=t184.d z9T
theorem zhJ:zG Pz 19 ⟨[.ty i64],[.str],λx=>yK x⟩:=xo t185 rn hN Tryz.func19 [] zp
def t186:=t185.d zhJ
def Mq:zW:=Lz [] [Ms 0] Gl [gL,⟨.ret,⟨[Mi 2],[],[]⟩⟩] λp s=>y5 p s
def zb8:Hints:=Hz [(0,Mq)] [] []
theorem z2A:LO Tryz.f124 Mq 0:=lk t186 rn zb8 [] zp
theorem z9x:zG Pz 124 ⟨[.ty .str],[i64],λx=>uS x⟩:=xo t186 rn zb8 Tryz.func124 [0] (qc rfl z2A zp)
def t187:=t186.d z9x
def h63:Hints:=Hz [] [(0,5,.ways [⟨.normal,⟨[Mb 47,.v lv,.a zu,.a zD,.a zO,.a zw,.a zY,.a zF],[],tc⟩⟩]),(0,10,.ways [⟨.normal,⟨[Mb 107,.v lv,.a zu,.a zD,.a zO,.a zw,.a zY,.a zF],[],tc⟩⟩]),(0,13,.flat [Mb 123])] []
theorem zhx:qQ Pz 63 ⟨tI,z5a,[],Bw,1,λx=>dN x.1 x.2.1 x.2.2.1 x.2.2.2.1 x.2.2.2.2.1 x.2.2.2.2.2.1 x.2.2.2.2.2.2.1 x.2.2.2.2.2.2.2⟩:=tk t187 rn h63 Tryz.func63 [] zp
def t188:=t187.s zhx
def h25:Hints:=Hz [] [(0,3,.ways [⟨.normal,⟨[Mb 38,.v lv,.a zu,.a zD,.a zO,.a zw,.a zY,.a zF],[],tc⟩⟩]),(0,7,.ways [⟨.normal,⟨[Mb 66,.v lv,.a zu,.a zD,.a zO,.a zw,.a zY,.a zF],[],tc⟩⟩]),(0,13,.ways [⟨.normal,⟨[Mb 103,.v lv,.a zu,.a zD,.a zO,.a zw,.a zY,.a zF],[],tc⟩⟩]),(3,21,.flat [Mb 142])] []
theorem zfj:qQ Pz 25 ⟨Cm,⟨[Ms 1,Mm 2 (.sl .str),.v lv,.a zu,.a zD,.a zO,.a zw,.a zY,.a zF],[(0,.ptr 0 0)],tc⟩,[],Bw,1,λx=>iA x.1 x.2.1 x.2.2.1 x.2.2.2.1 x.2.2.2.2.1 x.2.2.2.2.2.1 x.2.2.2.2.2.2.1 x.2.2.2.2.2.2.2.1 x.2.2.2.2.2.2.2.2⟩:=tk t188 rn h25 Tryz.func25 [] zp
def t189:=t188.s zfj
theorem zfx:zG Pz 32 ⟨[.ty .str],[.bool],λx=>fM x⟩:=xo t189 rn hN Tryz.func32 [] zp
def t190:=t189.d zfx
def SA:zW:=Lz [] [Mr 1 qI] z52 [gL,tU] λp s=>yJ p s
def T9:zW:=Lz [] [Mr 1 qI] ⟨[Mi 3,Mi 6],[],[]⟩ [S3,tU] λp s=>yC p s
def h34:Hints:=Hz [(0,SA),(2,T9)] [(0,6,.ways [⟨.normal,⟨[Mb 47,.v (.zC zw)],[],[.var (.zC zw)]⟩⟩]),(0,14,.ways [⟨.normal,⟨[Mb 101,.v (.zC zF)],[],[.var (.zC zF)]⟩⟩])] []
theorem z7u:LO Tryz.f34 SA 0:=lk t190 (rz [1]) h34 [] zp
theorem z6f:LO Tryz.f34 T9 2:=lk t190 (rz [1]) h34 [] zp
theorem zeK:zG Pz 34 ⟨[.ty qI],[.bool],λx=>nH x⟩:=xo t190 (rz [1]) h34 Tryz.func34 [0,2] (qc rfl z7u (qc rfl z6f zp))
def t191:=t190.d zeK
def h73:Hints:=Hz [] [(0,3,.flat [Mb 24])] []
theorem zfn:zG Pz 73 ⟨[.ty wS],[.str],λx=>ni x⟩:=xo t191 (rz [1]) h73 Tryz.func73 [] zp
def t192:=t191.d zfn
theorem zhk:zG Pz 74 ⟨[.ty .str],[.str],λx=>sq x⟩:=xo t192 rn hN Tryz.func74 [] zp
def t193:=t192.d zhk
def h75:Hints:=Hz [] [(3,2,.flat [Ms 3])] []
theorem zhM:zG Pz 75 ⟨[.ty zw],[.str],λx=>n9 x⟩:=xo t193 (rz [1]) h75 Tryz.func75 [] zp
def t194:=t193.d zhM
def zhB:Hints:=Hz [] [(3,2,.flat [Mb 4]),(3,5,.flat [Mb 7])] []
theorem zcV:zG Pz 171 ⟨[.ty i64],[i64],λx=>rO x⟩:=xo t194 rn zhB Tryz.func171 [] zp
def t195:=t194.d zcV
abbrev z7z:=ym [.ty .expr,.ty i64]->T (Bt [.str])
abbrev zgl(F:z7z):=zG Pz 132 ⟨[.ty .expr,.ty i64],[.str],F⟩
def zfs(WQ:z7z):Hints:=Hz [] [(3,2,.ways [⟨.normal,SR⟩])] []
theorem z4e(WQ:z7z)(RL:zgl WQ):zG Pz 132 ⟨[.ty .expr,.ty i64],[.str],λx=>iv (λy0 y1=>WQ (y0,y1)) x.1 x.2⟩:=xo (t195.d RL) (rz [2]) (zfs WQ) Tryz.func132 [] zp
theorem zdE:zG Pz 132 ⟨[.ty .expr,.ty i64],[.str],λx=>sP x.1 x.2⟩:=K0 (λWQ x=>iv (λy0 y1=>WQ (y0,y1)) x.1 x.2) (λx=>rfl) (λWQ RL=>z4e WQ RL)
def t196:=t195.d zdE
theorem zgI:zG Pz 76 ⟨[.ty .expr],[.str],λx=>gB x⟩:=xo t196 (rz [1]) hN Tryz.func76 [] zp
def t197:=t196.d zgI
theorem zf2:zG Pz 77 ⟨[.ty i64],[.str],λx=>ZS x⟩:=xo t197 rn hN Tryz.func77 [] zp
def t198:=t197.d zf2
def RS:zW:=Lz [] [Mr 1 qI] ⟨[Ms 3,Mi 4],[],[]⟩ [⟨.exit 0,UR⟩] λp s=>bK p s
def Rs:zW:=Lz [] [Mr 1 qI] ⟨[Ms 3,Mi 6],[],[]⟩ [⟨.exit 2,UR⟩] λp s=>bY p s
def Sz:zW:=Lz [] [Mr 1 qI,Mi 7] ⟨[Ms 3,Mi 8],[],[]⟩ [⟨.exit 6,UR⟩] λp s=>ba p.1 p.2 s
def PY:zW:=Lz [] [Mr 1 qI,Mi 7] ⟨[Ms 3,Mi 9],[],[]⟩ [⟨.exit 8,UR⟩] λp s=>bw p.1 p.2 s
def T3:zW:=Lz [] [Mr 1 qI] ⟨[Ms 3,Mi 7],[],[]⟩ [⟨.exit 4,UR⟩] λp s=>br p s
def M3:zW:=Lz [] [Mr 1 qI] ⟨[Ms 3,Mi 11],[],[]⟩ [⟨.exit 10,UR⟩] λp s=>bp p s
def h35:Hints:=Hz [(0,RS),(2,Rs),(6,Sz),(8,PY),(4,T3),(10,M3)] [(3,6,.flat [Ms 5])] []
theorem z6a:LO Tryz.f35 RS 0:=lk t198 (rz [1]) h35 [] zp
theorem z8h:LO Tryz.f35 Rs 2:=lk t198 (rz [1]) h35 [] zp
theorem z81:LO Tryz.f35 Sz 6:=lk t198 (rz [1]) h35 [] zp
theorem z62:LO Tryz.f35 PY 8:=lk t198 (rz [1]) h35 [] zp
theorem z6Z:LO Tryz.f35 T3 4:=lk t198 (rz [1]) h35 [6,8] (qc rfl z81 (qc rfl z62 zp))
theorem z2n:LO Tryz.f35 M3 10:=lk t198 (rz [1]) h35 [] zp
theorem zg6:zG Pz 35 ⟨[.ty qI],[.str],λx=>sI x⟩:=xo t198 (rz [1]) h35 Tryz.func35 [0,2,4,10] (qc rfl z6a (qc rfl z8h (qc rfl z6Z (qc rfl z2n zp))))
def t199:=t198.d zg6
def TK:zW:=Lz [] [Mr 1 qI] Gl [gL,tU] λp s=>fR p s
def TW:zW:=Lz [] [Mr 1 qI] ⟨[Mi 4],[],[]⟩ [S3,tU] λp s=>fT p s
def Px:zW:=Lz [] [Mr 1 qI] QL [⟨.exit 4,G4⟩,tU] λp s=>eR p s
def Rf:zW:=Lz [] [Mr 1 qI] z5A [⟨.exit 6,G4⟩,tU] λp s=>fV p s
def h15:Hints:=Hz [(0,TK),(2,TW),(4,Px),(6,Rf)] [(0,9,.ways [⟨.normal,⟨[Mb 47],[],[]⟩⟩]),(0,14,.ways [⟨.normal,⟨[Mb 72],[],[]⟩⟩]),(0,20,.ways [⟨.normal,⟨[Mb 116,.v (.zC zY)],[],[.var (.zC zY)]⟩⟩])] []
theorem z63:LO Tryz.f15 TK 0:=lk t199 (rz [1]) h15 [] zp
theorem z6G:LO Tryz.f15 TW 2:=lk t199 (rz [1]) h15 [] zp
theorem z5Z:LO Tryz.f15 Px 4:=lk t199 (rz [1]) h15 [] zp
theorem z6d:LO Tryz.f15 Rf 6:=lk t199 (rz [1]) h15 [] zp
theorem zfE:zG Pz 15 ⟨[.ty qI],[.bool],λx=>Qn x⟩:=xo t199 (rz [1]) h15 Tryz.func15 [0,2,4,6] (qc rfl z63 (qc rfl z6G (qc rfl z5Z (qc rfl z6d zp))))
def t200:=t199.d zfE
def Ss:zW:=Lz [.cell 0 0 zu,.cell 1 0 zu,.cell 0 1 zD,.cell 1 1 zD,.cell 0 2 zO,.cell 1 2 zO,.cell 0 3 zw,.cell 1 3 zw,.cell 0 5 zF,.cell 1 5 zF,.cell 0 4 zY,.cell 1 4 zY] [Ms 0] ⟨[Mi 6,Mi 7,Mi 8,.v (.st [.row 2 zu,.row 4 zD,.row 6 zO,.row 8 zw,.row 12 zY,.row 10 zF]),.v Ri,.a zu,.a zu,.a zD,.a zD,.a zO,.a zO,.a zw,.a zw,.a zF,.a zF,.a zY,.a zY],[(2,.ptr 0 0),(5,.ptr 1 0)],z50⟩ [⟨.exit 0,z4p⟩,z5e] λp s=>wj p s
def h11:Hints:=Hz [(0,Ss)] [(0,8,.flat [Mb 31]),(0,10,.flat [Mb 46]),(3,10,.ways [⟨.normal,z4p⟩,z5e])] []
theorem z7G:LO Tryz.f11 Ss 0:=lk t200 rn h11 [] zp
theorem zfa:zG Pz 11 ⟨[.ty .str],[qI,i64,i64],λx=>fJ x⟩:=xo t200 rn h11 Tryz.func11 [0] (qc rfl z7G zp)
def t201:=t200.d zfa
theorem zhp:zG Pz 26 ⟨[.ty wS,.ty wS],[.bool],λx=>ct x.1 x.2⟩:=xo t201 (rz [2,3]) hN Tryz.func26 [] zp
def t202:=t201.d zhp
abbrev Y66:=ym [.ty .expr,.ty .expr]->T (Bt [.bool])
abbrev H66(F:Y66):=zG Pz 66 ⟨[.ty .expr,.ty .expr],[.bool],F⟩
def T66(mh:Y66)(D6:H66 mh):Tb:=t202.d D6
def Rb(mh:Y66):zW:=Lz [] [Mr 2 .expr,Mr 3 .expr] QL [gL,tN] λp s=>bS (λy0 y1=>mh (y0,y1)) p.1 p.2 s
def h66(mh:Y66):Hints:=Hz [(0,Rb mh)] [(0,1,.ways [⟨.normal,⟨[Mb 34],[],[]⟩⟩])] []
theorem z6w(mh:Y66)(D6:H66 mh):LO Tryz.f66 (Rb mh) 0:=lk (T66 mh D6) (rz [2,3]) (h66 mh) [] zp
theorem z89(mh:Y66)(D6:H66 mh):zG Pz 66 ⟨[.ty .expr,.ty .expr],[.bool],λx=>ry (λy0 y1=>mh (y0,y1)) x.1 x.2⟩:=xo (T66 mh D6) (rz [2,3]) (h66 mh) Tryz.func66 [0] (qc rfl (z6w mh D6) zp)
theorem zfg:zG Pz 66 ⟨[.ty .expr,.ty .expr],[.bool],λx=>eC x.1 x.2⟩:=K0 (λmh x=>ry (λy0 y1=>mh (y0,y1)) x.1 x.2) (λx=>rfl) (λmh D6=>z89 mh D6)
def t203:=t202.d zfg
def RM:zW:=Lz [] [Mm 0 (.sl zY),Mm 1 (.sl zY)] QL [gL,tN] λp s=>uI p.1 p.2 s
def h27:Hints:=Hz [(0,RM)] [(0,6,.ways [z4N])] []
theorem z7i:LO Tryz.f27 RM 0:=lk t203 rn h27 [] zp
theorem zh7:zG Pz 27 ⟨[.ty (.sl zY),.ty (.sl zY)],[.bool],λx=>bM x.1 x.2⟩:=xo t203 rn h27 Tryz.func27 [0] (qc rfl z7i zp)
def t204:=t203.d zh7
def SJ:zW:=Lz [] [Mm 0 (.sl zF),Mm 1 (.sl zF)] QL [gL,tN] λp s=>ue p.1 p.2 s
def h28:Hints:=Hz [(0,SJ)] [(0,6,.ways [z4N])] []
theorem z88:LO Tryz.f28 SJ 0:=lk t204 rn h28 [] zp
theorem zf0:zG Pz 28 ⟨[.ty (.sl zF),.ty (.sl zF)],[.bool],λx=>yX x.1 x.2⟩:=xo t204 rn h28 Tryz.func28 [0] (qc rfl z88 zp)
def t205:=t204.d zf0
def Ro:zW:=Lz [] [Mr 2 qI,Mr 3 qI] QL [gL,tN] λp s=>c7 p.1 p.2 s
def PO:zW:=Lz [] [Mr 2 qI,Mr 3 qI] z5A [S3,tN] λp s=>bW p.1 p.2 s
def Sw:zW:=Lz [] [Mr 2 qI,Mr 3 qI] z4q [⟨.exit 4,G4⟩,tN] λp s=>bD p.1 p.2 s
def S2:zW:=Lz [] [Mr 2 qI,Mr 3 qI] Js [⟨.exit 6,G4⟩,tN] λp s=>c8 p.1 p.2 s
def h12:Hints:=Hz [(0,Ro),(2,PO),(4,Sw),(6,S2)] [(0,1,.flat [Mb 42]),(0,11,.ways [⟨.normal,⟨[Mb 96],[],[]⟩⟩])] []
theorem z6n:LO Tryz.f12 Ro 0:=lk t205 (rz [2,3]) h12 [] zp
theorem z7d:LO Tryz.f12 PO 2:=lk t205 (rz [2,3]) h12 [] zp
theorem z5P:LO Tryz.f12 Sw 4:=lk t205 (rz [2,3]) h12 [] zp
theorem z7P:LO Tryz.f12 S2 6:=lk t205 (rz [2,3]) h12 [] zp
theorem zhH:zG Pz 12 ⟨[.ty qI,.ty qI],[.bool],λx=>s9 x.1 x.2⟩:=xo t205 (rz [2,3]) h12 Tryz.func12 [0,2,4,6] (qc rfl z6n (qc rfl z7d (qc rfl z5P (qc rfl z7P zp))))
def t206:=t205.d zhH
theorem zeI:zG Pz 16 ⟨[.ty qI],[.str],λx=>iH x⟩:=xo t206 (rz [1]) hN Tryz.func16 [] zp
def t207:=t206.d zeI
theorem zhm:zG Pz 13 ⟨[],[.bool],λ_=>mX⟩:=xo t207 rn hN Tryz.func13 [] zp
def t208:=t207.d zhm
theorem ok3:zG Pz 3 ⟨[.ty .str],[.bool],λx=>kW x⟩:=xo t208 rn hN Tryz.func3 [] zp
def t209:=t208.d ok3
end Go.AM.Lf
