/-
  The walk, part 0: each function of the program is the tree that the lifted text says; printed by a program of ours.
-/
import Derived.Test.YthhgaidlooddpaaGreatDoorProg
import Derived.KernelRfl
import Derived.Test.YthhgaidlooddpaaGreatDoorAmE
import Derived.Test.YthhgaidlooddpaaGreatDoorLf0
import Derived.WalkKit
import Derived.Laws.IdiomStrings
import Derived.Shelf.Strings.FieldsFuncAny
import Derived.Lib.Builder
import Derived.Shelf.Strings.Builder1
import Derived.TacticsInMore
import Derived.Test.YthhgaidlooddpaaGreatDoorSh
set_option linter.unusedVariables false
set_option maxRecDepth 100000
noncomputable section
namespace Go.AM.Lf
open Go.Proofs
abbrev Yl:Nat:=50
abbrev Pz:Program:=Tryz.prog
def wz(f:Func):Code:=match f.body with | some c=>c | none=>.skip
def lb(k:Nat)(f:Func):Code:=match mA k (wz f)with | some c=>c | none=>.skip
theorem mixed:Pz.follows .mixedOrders=true:=by kernel_rfl
instance:vi:={ u8:=5,tab:=[(0,WN .i64),(4,Jj .u64 Lib.pow10Tab)] }
theorem wA{κ:KS}(hI:Inv κ):∃ m,κ.w.cell? ⟨0,0,none⟩=some (.int .i64 m) :=
 Cl (hI.gl (0,WN .i64) (by simp[vi.tab])).2
theorem kt{κ:KS}(hI:Inv κ):Lib.TabIs Tryz.prog κ.w "internal/strconv.uint64pow10" .u64 Lib.pow10Tab :=
 SD (g:=4) (by kernel_rfl) (hI.gl (4,Jj .u64 Lib.pow10Tab) (by simp[vi.tab])).2
structure Tb where
 t:gH
 ok:jE Pz t
def Tb.d(T:Tb){g:Nat}{d:Ur}(h:zT Pz g d):Tb:=⟨(g,.d d)::T.t,Gd h T.ok⟩
def Tb.s(T:Tb){g:Nat}{d:j3}(h:xA Pz g d):Tb:=⟨(g,.s d)::T.t,UZ h T.ok⟩
def Tb.p(T:Tb){g:Nat}{d:bF}(h:jk Pz g d):Tb:=⟨(g,.p d)::T.t,U8 h T.ok⟩
def t0:Tb:=⟨[],C9 _⟩
def fL:List (Nat×qp)->Nat->Option qp
 | [],_=>none
 | x::r,n=>bif Nat.beq x.1 n then some x.2 else fL r n
def fC:List (Nat×Nat×Mt)->Nat->Nat->Option Mt
 | [],_,_=>none
 | x::r,k,n=>bif Nat.beq x.1 k&&Nat.beq x.2.1 n then some x.2.2 else fC r k n
def fF:List (Nat×List Nat)->Nat->List Nat
 | [],_=>[]
 | x::r,n=>bif Nat.beq x.1 n then x.2 else fF r n
def Hz(l:List (Nat×qp))(c:List (Nat×Nat×Mt))(f:List (Nat×List Nat)):Hints:=⟨fL l,fC c,fF f⟩
def hN:Hints:=Hz [] [] []
def rz(l:List Nat)(s:Nat):Bool:=l.any (Nat.beq s)
def rn(_:Nat):Bool:=false
def Lz(gh:List Gh)(ps:List It)(sh:vY)(ws:List Way)(R:wg ps->sh.den->T (sh.den⊕kz ws)):qp:=⟨gh,ps,sh,ws,λp s=>T.loop (R p) s⟩
abbrev LO(f:Func)(l:qp)(i:Nat):Prop:=nF Pz f.ntmps l (lb i f)
def ls(f:Func):List Nat->List (Nat×Code)
 | []=>[]
 | i::r=>(i,lb i f)::ls f r
abbrev Mi(n:Nat):It:=.s n (.zx i64)
abbrev Mb(n:Nat):It:=.s n (.zx .bool)
abbrev Ms(n:Nat):It:=.s n (.zx .str)
abbrev Mm(n:Nat)(t:Ty):It:=.s n (.zx t)
abbrev Mr(n:Nat)(t:Ty):It:=.s n (.qA t)
abbrev Sh0(l:List It):vY:=⟨l,[],[]⟩
theorem lk{f:Func}{i:Nat}{gh:List Gh}{ps:List It}{sh:vY}{ws:List Way}{R:wg ps->sh.den->T (sh.den⊕kz ws)}(T:Tb)(ro:Nat->Bool)(H:Hints)(L:List Nat)(ha:Wg Pz f.ntmps H (ls f L))
  (h:∀ p s,DA (vw Pz Yl T.t ro) T.t f.ntmps H (Lz gh ps sh ws R) (lb i f) p s=R p s:=by intro p s; kernel_rfl) (hl:qU (lb i f)=ls f L:=by kernel_rfl):LO f (Lz gh ps sh ws R) i :=
 Ml (xid:=Yl) (ro:=ro) (H:=H) mixed T.ok (nY hl ha) R h λ_ _=>rfl
theorem vy{f:Nat}{fn:Func}{d:Ur}(T:Tb)(ro:Nat->Bool)(H:Hints)(hf:Pz.funcs[f]? = some fn)(L:List Nat)(ha:Wg Pz fn.ntmps H (ls fn L))
  (h:∀ x,Fv (vw Pz Yl T.t ro) T.t H fn (wz fn) d x=d.F x:=by intro x; kernel_rfl) (hb:fn.body=some (wz fn):=by rfl) (hn:(fn.name == "runtime.NumGoroutine")=false:=by kernel_rfl) (hl:qU (wz fn)=ls fn L:=by kernel_rfl):zT Pz f d :=
 z1O (xid:=Yl) (ro:=ro) (H:=H) mixed T.ok hf hb hn (nY hl ha) h
theorem XR{f:Nat}{fn:Func}{d:j3}(T:Tb)(ro:Nat->Bool)(H:Hints)(hf:Pz.funcs[f]? = some fn)(L:List Nat)(ha:Wg Pz fn.ntmps H (ls fn L))
  (h:∀ x,KO (vw Pz Yl T.t ro) T.t H fn (wz fn) d x=d.F x:=by intro x; kernel_rfl) (hb:fn.body=some (wz fn):=by rfl) (hn:(fn.name == "runtime.NumGoroutine")=false:=by kernel_rfl) (hl:qU (wz fn)=ls fn L:=by kernel_rfl):xA Pz f d :=
 S2 (xid:=Yl) (ro:=ro) (H:=H) mixed T.ok hf hb hn (nY hl ha) h
def T3(c:Code):Code:=match c with | .seq _ b=>b | _=>.skip
def hdO(c:Code):Array Oper:=match c with | .seq (.region _ ops _) _=>ops | _ => #[]
def hdI(c:Code):Nat:=match c with | .seq (.region id _ _) _=>id | _=>0
theorem fkr{f:Nat}{fn:Func}{d:j3}(T:Tb)(ro:Nat->Bool)(H:Hints)(hf:Pz.funcs[f]? = some fn)
  (h:∀ x,SU (vw Pz Yl T.t ro) T.t H fn (hdO (wz fn)) (T3 (wz fn)) d d.ks.length none x=d.F x:=by intro x; kernel_rfl) (hb:fn.body=some (.seq (.region (hdI (wz fn)) (hdO (wz fn)) false) (T3 (wz fn))):=by kernel_rfl) (hn:(fn.name == "runtime.NumGoroutine")=false:=by kernel_rfl) (hl:qU (T3 (wz fn))=[]:=by kernel_rfl):jL (Dl Pz) f d :=
 N1 (xid:=Yl) (ro:=ro) (H:=H) mixed T.ok hf hb hn (sL hl) h
theorem fkh{f t:Nat}{fn:Func}{d:j3}(T:Tb)(ro:Nat->Bool)(H:Hints)(hf:Pz.funcs[f]? = some fn)(k:Nat)
  (h:∀ x,SU (vw Pz Yl T.t ro) T.t H fn (hdO (wz fn)) (T3 (wz fn)) d k (some t) x=d.F x:=by intro x; kernel_rfl) (hk:d.ks.length=k+1:=by kernel_rfl) (hb:fn.body=some (.seq (.region (hdI (wz fn)) (hdO (wz fn)) false) (T3 (wz fn))):=by kernel_rfl) (hn:(fn.name == "runtime.NumGoroutine")=false:=by kernel_rfl) (hl:qU (T3 (wz fn))=[]:=by kernel_rfl):jL (Da Pz t) f d :=
 N6 (xid:=Yl) (ro:=ro) (H:=H) mixed T.ok hf hb hn (sL hl) hk h
theorem z7n{g:Nat}{d:j3}(_:jL (Dl Pz) g d):jL (Da Pz 0) g { d with F:=λ_=>.fail }:=λ_ _ _ _ _ hy=>hy.elim
theorem fkf{f g pt:Nat}{fn:Func}{d d0 d1:j3}(T:Tb)(ro:Nat->Bool)(H:Hints)(h0:jL (Dl Pz) g d0)(h1:jL (Da Pz pt) g d1)(hf:Pz.funcs[f]? = some fn)
  (h:∀ x,Ea (vw Pz Yl T.t ro) T.t H ⟨g,d0,pt,d1⟩ fn (wz fn) d x=d.F x:=by intro x; kernel_rfl) (hb:fn.body=some (wz fn):=by rfl) (hn:(fn.name == "runtime.NumGoroutine")=false:=by kernel_rfl) (hl:qU (wz fn)=[]:=by kernel_rfl):xA Pz f d :=
 R8 (xid:=Yl) (ro:=ro) (H:=H) mixed T.ok (h:=⟨g,d0,pt,d1⟩) h0 h1 hf hb hn hl h
theorem OW{f:Nat}{fn:Func}{d:bF}(T:Tb)(ro:Nat->Bool)(H:Hints)(hf:Pz.funcs[f]? = some fn)(L:List Nat)(ha:Wg Pz fn.ntmps H (ls fn L))
  (h:∀ x,G6 (vw Pz Yl T.t ro) T.t H fn (wz fn) d x=d.F x:=by intro x; kernel_rfl) (hb:fn.body=some (wz fn):=by rfl) (hn:(fn.name == "runtime.NumGoroutine")=false:=by kernel_rfl) (hl:qU (wz fn)=ls fn L:=by kernel_rfl):jk Pz f d :=
 Ra (xid:=Yl) (ro:=ro) (H:=H) mixed T.ok hf hb hn (nY hl ha) h
abbrev mI:Dk:=.st [.row 1 zG,.row 2 zV,.row 3 q9,.row 4 zQ,.row 5 ql,.row 6 q8]
abbrev Qp:List Bk:=[.var mI,.arr zG,.arr zV,.arr q9,.arr zQ,.arr ql,.arr q8]
abbrev mT:List Bk:=[.var (.zx zw)]
abbrev sb:Dk:=.st [.op 0 111,.row 1 (.int .u8)]
abbrev ny:vY:=⟨[Mm 0 qY,.v (.zx zw)],[],mT⟩
abbrev lG:vY:=⟨[.v (.zx zw)],[(0,.ptr 0 0)],mT⟩
abbrev rU:vY:=⟨[Mm 0 .expr,.v (.zx zw)],[],mT⟩
abbrev Fe:Dk:=.st [.row 7 zG,.row 9 zV,.row 11 q9,.row 13 zQ,.row 5 ql,.row 3 q8]
abbrev tO:List Bk:=[.var sb,.arr (.int .u8)]
abbrev N7:List Bk:=[.var (.zx zw),.var (.zx .expr),.var (.zx .expr)]
abbrev Gz:vY:=⟨[Mm 1 (.sl .str),.v mI,.a zG,.a zV,.a q9,.a zQ,.a ql,.a q8],[(0,.ptr 0 0)],Qp⟩
abbrev Hv:vY:=⟨[Mm 0 .expr,Mi 1,.v (.zx i64)],[(2,.ptr 0 0)],[.var (.zx i64)]⟩
abbrev Bl:vY:=⟨[Mb 0,.v mI,.a zG,.a zV,.a q9,.a zQ,.a ql,.a q8],[],Qp⟩
abbrev EA:Dk:=.st [.row 6 zG,.row 8 zV,.row 10 q9,.row 12 zQ,.row 4 ql,.row 2 q8]
abbrev yg:List Bk:=[.arr u32]
abbrev Pw:Way:=⟨.normal,⟨[Mm 1 (.sl .str),.v mI,.a zG,.a zV,.a q9,.a zQ,.a ql,.a q8,.v (.zx zQ)],[],[.var mI,.arr zG,.arr zV,.arr q9,.arr zQ,.arr ql,.arr q8,.var (.zx zQ)]⟩⟩
abbrev pZ:vY:=⟨[.v sb,.a (.int .u8)],[],tO⟩
abbrev Xt:Way:=⟨.ret,⟨[Mi 4],[],[]⟩⟩
abbrev GI:vY:=⟨[Mb 0,.v (.zx i64)],[],[.var (.zx i64)]⟩
abbrev I5:vY:=⟨[Mi 0,.v mI,.a zG,.a zV,.a q9,.a zQ,.a ql,.a q8],[],Qp⟩
abbrev o7:Way:=⟨.exit 0,⟨[],[],[]⟩⟩
abbrev I4:List Bk:=[.var (.zx .expr),.var (.zx i64),.var (.zx i64)]
abbrev FR:vY:=⟨[Mm 0 qY,.v (.zx zw),.v (.zx .expr),.v (.zx .expr)],[],N7⟩
abbrev JC:vY:=⟨[Ms 0],[],[]⟩
abbrev H2:vY:=⟨[.v (.zx zw)],[],mT⟩
abbrev OQ:List Bk:=[.var EA,.var Fe,.arr q8,.arr q8,.arr ql,.arr ql,.arr zG,.arr zG,.arr zV,.arr zV,.arr q9,.arr q9,.arr zQ,.arr zQ]
abbrev Pv:vY:=⟨[Mm 0 (.sl .expr),.s 1 (.mclo 183 [.rp i64,.pt 0]),.v (.zx i64)],[],[.cvar (.ptr 1 0),.var (.zx i64)]⟩
abbrev Pb:vY:=⟨[Mm 1 (.sl .str),Ms 2,.v mI,.a zG,.a zV,.a q9,.a zQ,.a ql,.a q8],[(0,.ptr 0 0)],Qp⟩
abbrev Fj:vY:=⟨[.v (.zx zw),.v (.zx .expr),.v (.zx .expr)],[],N7⟩
abbrev Jv:vY:=⟨[Mi 8],[],[]⟩
abbrev EE:Way:=⟨.exit 0,⟨[.a u32],[(7,.cur 0 u32)],yg⟩⟩
abbrev Gj:List Bk:=[.var (.zx zw),.var (.zx .expr)]
abbrev Zk:List Bk:=[.arr (.int .u8)]
abbrev Pe:Way:=⟨.normal,⟨[Mb 16,.v mI,.a zG,.a zV,.a q9,.a zQ,.a ql,.a q8],[],Qp⟩⟩
abbrev GY:List Bk:=[.var (.zx .expr),.var (.zx .expr)]
abbrev OX:vY:=⟨[Mb 0,.v (.zx i64)],[],[.cvar (.ptr 1 0),.var (.zx i64)]⟩
abbrev E1:vY:=⟨[Mm 0 (.sl u32)],[],[]⟩
abbrev E8:Way:=⟨.ret,⟨[Mb 2],[],[]⟩⟩
abbrev P6:vY:=⟨[Mi 15,.a u32],[(7,.cur 0 u32)],yg⟩
abbrev Pr:vY:=⟨[.v (.zx .expr),.v (.zx i64),.v (.zx i64)],[],I4⟩
abbrev Pf:Way:=⟨.normal,⟨[Mb 44,.v (.zx zw)],[],mT⟩⟩
abbrev Pu:vY:=⟨[Mi 3,Mi 9],[],[]⟩
abbrev OS:vY:=⟨[Ms 0,.v (.zx zw)],[],mT⟩
abbrev ON:vY:=⟨[.s 3 (.sub 0 (.int .u8)),.a (.int .u8)],[],Zk⟩
abbrev Pt:vY:=⟨[.a (.int .u8)],[(3,.cur 0 (.int .u8))],Zk⟩
abbrev Bg:Way:=⟨.exit 0,JC⟩
abbrev Px:vY:=⟨[.v sb,.a (.int .u8)],[(0,.ptr 0 0)],tO⟩
abbrev tf:List AK:=[.ptr,.any]
abbrev Ba:List AK:=[.ptr,.any,.any]
abbrev H8:List AK:=[.any,.any,.ptr]
abbrev Er:Way:=⟨.exit 0,H2⟩
abbrev I1:List Bk:=[.var (.zx yj)]
abbrev Pg:vY:=⟨[.a (.int .u8)],[],Zk⟩
end Go.AM.Lf
namespace Go.Proofs
section
open Go.RowKit
attribute [local go_sem] Oper.semAt_some
set_option maxRecDepth 100000
set_option maxHeartbeats 2000000
theorem Z7(b o j:Nat):(⟨b,o,none⟩:Addr).add j=⟨b,o+j,none⟩:=by unfold Addr.add; split<;>simp_all
theorem B2.z6l(w:World)(B k:Nat)(C:Array Value)(t:TypeId)(fr:Nat×Nat)(v:Value)(h:w.heap[B]? = some (.cells C t fr)) :
  (w.setCell ⟨B,k,none⟩ v).heap[B]? = some (.cells (C.setIfInBounds k v) t fr):=by
 simp[World.setCell,Array.getElem?_modify,h]
theorem B2.walk(l:List UInt8)(w:World)(h0:l.length<4294967281):Calls Tryz.prog 17 #[.string ⟨l.toArray⟩] w λe w'=>e=.returned (.string ⟨(l.map Go.AM.Lf.lA).toArray⟩)/\Below w.heap.size w w':=by
 have hcv:=run_bytes_of_string (P:=Tryz.prog) w 9 77 5 ⟨l.toArray⟩ Tryz.underlying9 Tryz.underlying77 Tryz.underlying5
 have hlen:(ByteArray.mk l.toArray).size=l.length:=List.size_toArray
 have s7:∀ c j (hj:j<l.length),(bytesRow ⟨l.toArray⟩ c)[j]? = some (.int .u8 (l[j].toNat:Int)):=λc j hj=>bytesRow_at ⟨l.toArray⟩ c j (by simpa using hj)
 rw[hlen]at hcv
 generalize grownCap w l.length 0 5=cap at hcv
 have P4:=s7 cap
 generalize bytesRow ⟨l.toArray⟩ cap=R at hcv P4
 have hB0:Below w.heap.size w (w.drew.alloc (.cells R 5 (R.size,R.size+1))):=((Below.refl _ _).drew).alloc (Nat.le_refl _) _
 have hC0:(w.drew.alloc (.cells R 5 (R.size,R.size+1))).heap[w.heap.size]? = some (.cells R 5 (R.size,R.size+1)):=by
  show(w.heap.push _)[w.heap.size]? = _
  simp
 generalize w.drew.alloc (.cells R 5 (R.size,R.size+1))=W0 at hcv hB0 hC0
 go_enter Tryz.func17,Tryz.ntmps17
 go_wp2
 go_loopw [4] (λi wr=>∃ (k:Nat) (C:Array Value),k<=l.length/\i=.int .i64 k/\wr.heap[w.heap.size]? = some (.cells C 5 (R.size,R.size+1))/\C.size=R.size /\
   (∀ j (hj:j<l.length),C[j]? = some (.int .u8 ((if j<k then Go.AM.Lf.lA l[j]else l[j]).toNat:Int)))/\Below w.heap.size w wr)
  (λi _=>l.length-(intOf i).toNat)
 case atStart=>exact⟨0,R,Nat.zero_le _,rfl,hC0,rfl,λj hj=>by simpa using P4 j hj,hB0⟩
 case round =>
  obtain⟨k,C,hk,rfl,hC,vV,hv,Ly⟩:=hrel
  obtain⟨b,hb⟩:∃ b:UInt8,b=l.getD k 0:=⟨_,rfl⟩
  have hbe:∀ qc:k<l.length,b=l[k]:=λqc=>by rw[hb]; simp[qc]
  have hcx:k<l.length->wr.cell? ⟨w.heap.size,k,none⟩=some (.int .u8 (b.toNat:Int)):=λqc=>by
   have:=hv k qc
   rw[if_neg (Nat.lt_irrefl k)]at this
   rw[hbe qc]
   unfold World.cell?
   rw[hC]; exact this
  have hfx:k<l.length->wr.frozen? ⟨w.heap.size,k,none⟩=false:=λqc=>by
   have h:=(Array.getElem?_eq_some_iff.1 (hv k qc)).1
   unfold World.frozen?
   rw[hC]; simp; omega
  have By:¬ k<l.length->(convert 77 9 (.slice (some ⟨w.heap.size,0,none⟩) l.length cap)).run Tryz.prog wr=.ok (.string ⟨(l.map Go.AM.Lf.lA).toArray⟩) wr:=λe=>by
   have:=run_convert_bytes_back (P:=Tryz.prog) wr 77 9 5 ⟨w.heap.size,0,none⟩ cap (l.map Go.AM.Lf.lA) Tryz.underlying77 Tryz.underlying5 Tryz.underlying9 (λj hj=>by
    have RG:j<l.length:=by simpa using hj
    have h:=hv j RG
    rw[if_pos (by omega)]at h
    rw[show(⟨w.heap.size,0,none⟩:Addr).add j=⟨w.heap.size,j,none⟩from by simpa using Z7 _ 0 j]
    unfold World.cell?
    rw[hC]; simpa using h)
   rw[List.length_map]at this
   exact this
  have PI:∀ (qc:k<l.length) (C':Array Value),(∀ j,j≠k->C'[j]? = C[j]?)->C'[k]? = some (.int .u8 ((Go.AM.Lf.lA b).toNat:Int))->∀ j (hj:j<l.length),C'[j]? = some (.int .u8 ((if j<k+1 then Go.AM.Lf.lA l[j]else l[j]).toNat:Int)):=λqc C' h1 h2 j hj=>by
   by_cases e:j=k
   ·subst e; rw[h2,if_pos (by omega),hbe qc]
   ·rw[h1 j e,hv j hj]
    by_cases h3:j<k
    ·rw[if_pos h3,if_pos (by omega)]
    ·rw[if_neg h3,if_neg (by omega)]
  clear hb
  go_wp2
  ·have qc:k<l.length:=by assumption
   have c:(((l[k]).toNat:Int)==10)=true:=by assumption
   have c10:l[k]=10:=UInt8.toNat_inj.1 (by have:=eq_of_beq c; simpa using congrArg Int.toNat this)
   go_roundw
   case rel =>
    exact⟨k+1,_,by omega,by go_num,B2.z6l _ _ _ _ _ _ _ hC,by rw[Array.size_setIfInBounds,vV],PI qc _ (λj hj=>by rw[Array.getElem?_setIfInBounds,if_neg (Ne.symm hj)]) (by
     have h:=(Array.getElem?_eq_some_iff.1 (hv k qc)).1
     rw[Array.getElem?_setIfInBounds,if_pos rfl,if_pos h,hbe qc,c10]; rfl),Ly.setCell (p:=⟨w.heap.size,k,none⟩) (Nat.le_refl _) _⟩
   case measure=>simp[intOf]; omega
  ·have qc:k<l.length:=by assumption
   have c:(((l[k]).toNat:Int)==10)=false:=by assumption
   have c10:¬ l[k]=10:=λe=>by rw[e]at c; exact absurd c (by decide)
   go_roundw
   case rel =>
    exact⟨k+1,C,by omega,by go_num,hC,vV,PI qc C (λ_ _=>rfl) (by
     have:=hv k qc
     rw[if_neg (Nat.lt_irrefl k)]at this
     rw[hbe qc,this]; unfold Go.AM.Lf.lA; rw[if_neg c10]),Ly⟩
   case measure=>simp[intOf]; omega
  ·go_ret
   exact⟨rfl,Ly⟩
end
end Go.Proofs
namespace Go.AM.Lf
open Go.Proofs
theorem z5Y:zT Tryz.prog 17 ⟨[.ty .str],[.str],λx=>lp x⟩:=by
 refine wi Tryz.func17 (by kernel_rfl) rfl λκ (l:zf) zn y hy hI ha => ?_
 obtain⟨h0,hy⟩:=hy
 cases hy
 obtain⟨v0,r,rfl,Q4,ha⟩:=qj.cons_inv (show qj κ [.zx .str l] zn from ha)
 rw[ha.zN,Q4.xM]
 refine(B2.walk l κ.w h0).mono ?_
 rintro e w' ⟨rfl,hB⟩
 exact⟨hB,λ_=>⟨_,rfl,RD.str⟩⟩
end Go.AM.Lf

namespace Go.AM.Lf
open Go.Proofs
def t1:=t0.d z5Y
theorem z5l:zT Tryz.prog 22 ⟨[.ty .str,.ty .str],[.sl .str],λx=>strings_Split x.1 x.2⟩:=by
 refine wi Tryz.func22 (by kernel_rfl) rfl λκ x zn y hy hI ha => ?_
 obtain⟨s,sep⟩:=x
 obtain⟨⟨h0,h1⟩,hy⟩:=hy
 cases hy
 obtain⟨v0,r,rfl,Q4,ha⟩:=qj.cons_inv (show qj κ [.zx .str s,.zx .str sep] zn from ha)
 obtain⟨v1,r,rfl,YD,ha⟩:=ha.cons_inv
 rw[ha.zN,Q4.xM,YD.xM]
 obtain⟨m,hm⟩:=wA hI
 refine(Go.Proofs.Tryz.strings_Split ⟨s.toArray⟩ ⟨sep.toArray⟩ m κ.w (by rw[show(ByteArray.size ⟨s.toArray⟩)=List.length s from List.size_toArray]; exact h0) hm (by rw[show(ByteArray.size ⟨sep.toArray⟩)=List.length sep from List.size_toArray]; simp only at h1; omega)).mono ?_
 rintro e w' ⟨rfl,rfl⟩
 refine⟨rT _ _,λ_=>⟨_,rfl,?_⟩⟩
 exact E5 s sep h1 _
def t2:=t1.d z5l
theorem z5D:zT Tryz.prog 52 ⟨[.ty .str,.ty .str],[.str,.str,.bool],λx=>strings_Cut x.1 x.2⟩:=by
 refine wi Tryz.func52 (by kernel_rfl) rfl λκ x zn y hy hI ha => ?_
 obtain⟨s,sep⟩:=x
 obtain⟨h0,hy⟩:=hy
 cases hy
 obtain⟨v0,r,rfl,Q4,ha⟩:=qj.cons_inv (show qj κ [.zx .str s,.zx .str sep] zn from ha)
 obtain⟨v1,r,rfl,YD,ha⟩:=ha.cons_inv
 rw[ha.zN,Q4.xM,YD.xM]
 obtain⟨m,hm⟩:=wA hI
 refine(Go.Proofs.Tryz.strings_Cut ⟨s.toArray⟩ ⟨sep.toArray⟩ m κ.w (by rw[show(ByteArray.size ⟨s.toArray⟩)=List.length s from List.size_toArray]; exact h0) hm).mono ?_
 rintro e w' ⟨rfl,n,rfl⟩
 refine⟨below_drewN _ _,λ_=>⟨_,rfl,?_⟩⟩
 rw[show Lib.cut (⟨s.toArray⟩:ByteArray).data.toList (⟨sep.toArray⟩:ByteArray).data.toList=wm s sep from En s sep]
 exact RD.z4j RD.str RD.str RD.bool
def t3:=t2.d z5D
theorem z1j:zT Pz 108 ⟨[.ty (.int .i32)],[.bool],λx=>kX x⟩:=vy t3 rn hN Tryz.func108 [] zt
def t4:=t3.d z1j
theorem MW(w:World):Go.Proofs.PredAtRunes Tryz.prog 108 #[] (λn=>n==32) w:=λW x hx hb=>by
 show Calls Tryz.prog 108 #[.int .i32 (x:Int)] W _
 have hn:Tryz.f108.ntmps=5:=by kernel_rfl
 have hd:((x:Int)==32)=(x==32):=by rw[Bool.eq_iff_iff,beq_iff_eq,beq_iff_eq]; omega
 go_enter Tryz.func108,hn
 go_wp2
 go_ret
 exact⟨by rw[<- hd]; rfl,0,rfl⟩
theorem z2A:zT Tryz.prog 107 ⟨[.ty .str,.qE 108 []],[.sl .str],λx=>strings_FieldsFunc x.1 (λz0=>kX z0)⟩:=by
 refine wi Tryz.func107 (by kernel_rfl) rfl λκ x zn y hy hI ha => ?_
 obtain⟨s,c⟩:=x
 obtain⟨h0,hy⟩:=hy
 cases hy
 obtain⟨v0,r,rfl,Q4,ha⟩:=qj.cons_inv (show qj κ [.zx .str s,.qE 108 []] zn from ha)
 obtain⟨v1,r,rfl,YD,ha⟩:=ha.cons_inv
 rw[ha.zN,Q4.xM,YD.I3 (by rfl)]
 refine(Go.Proofs.Tryz.strings_FieldsFunc_runes 108 #[] (λargs w=>dW Tryz.func108 (by kernel_rfl) rfl w) (λn=>n==32) ⟨s.toArray⟩ κ.w (by rw[show(ByteArray.size ⟨s.toArray⟩)=List.length s from List.size_toArray]; exact h0) (MW κ.w)).mono ?_
 rintro e w' ⟨A,rfl,hA,ho,hB⟩
 refine⟨hB,λ_=>⟨_,rfl,?_⟩⟩
 exact BB s ho
def t5:=t4.d z2A
theorem z57:zT Pz 53 ⟨[.ty .str],[(.sl .str)],λx=>bP x⟩:=vy t5 rn hN Tryz.func53 [] zt
def t6:=t5.d z57
def z5n:Hints:=Hz [] [(0,1,.flat [Mb 2])] []
theorem TG:zT Pz 141 ⟨[.ty (.int .u8)],[.bool],λx=>xZ x⟩:=vy t6 rn z5n Tryz.func141 [] zt
def t7:=t6.d TG
def z6y:Hints:=Hz [] [(0,1,.flat [Mb 2])] []
theorem z1W:zT Pz 179 ⟨[.ty (.int .u8)],[.bool],λx=>xk x⟩:=vy t7 rn z6y Tryz.func179 [] zt
def t8:=t7.d z1W
theorem z0M:zT Pz 142 ⟨[.ty (.int .u8)],[.bool],λx=>wI x⟩:=vy t8 rn hN Tryz.func142 [] zt
def t9:=t8.d z0M
def Et:qp:=Lz [] [Ms 0,Mi 18] ⟨[Mi 19],[],[]⟩ [o7,E8] λp s=>jb p.1 p.2 s
def h87:Hints:=Hz [(0,Et)] [(0,1,.ways [⟨.normal,⟨[Mb 16],[],[]⟩⟩])] []
theorem PQ:LO Tryz.f87 Et 0:=lk t9 rn h87 [] zt
theorem z45:zT Pz 87 ⟨[.ty .str],[.bool],λx=>qS x⟩:=vy t9 rn h87 Tryz.func87 [0] (qW rfl PQ zt)
def t10:=t9.d z45
theorem z1J:zT Tryz.prog 155 ⟨[.ty .str,.ty .str],[i64],λx=>strings_IndexAny x.1 x.2⟩:=by
 refine wi Tryz.func155 (by kernel_rfl) rfl λκ x zn y hy hI ha => ?_
 obtain⟨s,chars⟩:=x
 obtain⟨⟨h0,h1,h2,h3⟩,hy⟩:=hy
 cases hy
 obtain⟨v0,r,rfl,Q4,ha⟩:=qj.cons_inv (show qj κ [.zx .str s,.zx .str chars] zn from ha)
 obtain⟨v1,r,rfl,YD,ha⟩:=ha.cons_inv
 rw[ha.zN,Q4.xM,YD.xM]
 refine(Go.Proofs.Any.eV Go.Proofs.Tryz.lays153 (λ_=>by kernel_rfl) (by kernel_rfl) ⟨s.toArray⟩ ⟨chars.toArray⟩ κ.w (by rw[show(ByteArray.size ⟨chars.toArray⟩)=List.length chars from List.size_toArray]; exact h1) (by rw[show(ByteArray.size ⟨s.toArray⟩)=List.length s from List.size_toArray]; exact h0) (by rw[show(ByteArray.size ⟨chars.toArray⟩)=List.length chars from List.size_toArray]; exact h2) h3).mono ?_
 rintro e w' ⟨rfl,hB⟩
 refine⟨hB,λ_=>⟨_,rfl,?_⟩⟩
 have e1:Lib.indexAny s chars=kG s chars:=QL chars s
 show RD _ (.zx i64 (kG s chars)) _
 rw[<- e1]
 exact RD.int
def t11:=t10.d z1J
def z5a:Hints:=Hz [] [(0,1,.flat [Mb 4])] []
theorem z0V:zT Pz 193 ⟨[.ty .str,.ty .str],[.bool],λx=>xb x.1 x.2⟩:=vy t11 rn z5a Tryz.func193 [] zt
def t12:=t11.d z0V
theorem z1c:zT Pz 156 ⟨[.ty .str,.ty .str],[.bool],λx=>strings_HasPrefix x.1 x.2⟩:=vy t12 rn hN Tryz.func156 [] zt
def t13:=t12.d z1c
def HD:qp:=Lz [] [] lG [Er] λp s=>xv  s
def TK:Hints:=Hz [(0,HD)] [(0,0,.flat [Mb 23])] []
theorem LG:LO Tryz.f265 HD 0:=lk t13 rn TK [] zt
theorem z1U:xA Pz 265 ⟨[.ptr],lG,[],H2,0,λx=>vz x⟩:=XR t13 rn TK Tryz.func265 [0] (qW rfl LG zt)
def t14:=t13.s z1U
theorem z2s:zT Tryz.prog 216 ⟨[.ty .str,.ty (.int .u8)],[i64],λx=>strings_IndexByte x.1 x.2⟩:=by
 refine wi Tryz.func216 (by kernel_rfl) rfl λκ x zn y hy hI ha => ?_
 obtain⟨s,c⟩:=x
 cases hy
 obtain⟨v0,r,rfl,Q4,ha⟩:=qj.cons_inv (show qj κ [.zx .str s,.zx (.int .u8) c] zn from ha)
 obtain⟨v1,r,rfl,YD,ha⟩:=ha.cons_inv
 rw[ha.zN,Q4.xM,YD.jJ]
 refine(Go.Proofs.Tryz.strings_IndexByte ⟨s.toArray⟩ c κ.w).mono ?_
 rintro e w' ⟨rfl,rfl⟩
 refine⟨lZ _,λ_=>⟨_,rfl,?_⟩⟩
 have e1:Lib.indexByte s (byteOf c)=eK s (byteOf c):=LX s (byteOf c)
 show RD _ (.zx i64 (eK s (byteOf c))) _
 rw[<- e1]
 exact RD.int
def t15:=t14.d z2s
def z56:Hints:=Hz [] [(0,2,.ways [⟨.normal,⟨[Mb 30,.v (.zx zw)],[],mT⟩⟩])] []
theorem z0A:xA Pz 250 ⟨tf,⟨[Ms 1,.v (.zx zw)],[(0,.ptr 0 0)],mT⟩,[],⟨[Mm 0 (.int .u8),.v (.zx zw)],[],mT⟩,1,λx=>qF x.1 x.2⟩:=XR t15 rn z56 Tryz.func250 [] zt
def t16:=t15.s z0A
theorem z0F:jk Pz 220 ⟨Ba,⟨[Mi 1,Mi 2,.v (.zx zw)],[(0,.ptr 0 0)],mT⟩,[],H2,0,226,ny,λx=>xn x.1 x.2.1 x.2.2⟩:=OW t16 rn hN Tryz.func220 [] zt
def t17:=t16.p z0F
theorem z2v:jk Pz 266 ⟨[.ptr],lG,[],H2,0,226,ny,λx=>wj x⟩:=OW t17 rn hN Tryz.func266 [] zt
def t18:=t17.p z2v
def GD:qp:=Lz [] [.s 1 (.qE 179 []),Mi 2,Mi 7] lG [Er] λp s=>qy (λz0=>xk z0) p.2.1 p.2.2 s
def z2U:Hints:=Hz [(0,GD)] [(0,2,.ways [Pf])] []
theorem MG:LO Tryz.f268 GD 0:=lk t18 rn z2U [] zt
theorem z0K:xA Pz 268 ⟨[.ptr,.qE 179,.any],⟨[.s 1 (.qE 179 []),Mi 2,.v (.zx zw)],[(0,.ptr 0 0)],mT⟩,[],OS,1,λx=>qG (λz0=>xk z0) x.2.1 x.2.2⟩:=XR t18 rn z2U Tryz.func268 [0] (qW rfl MG zt)
def t19:=t18.s z0K
theorem z1R:zT Tryz.prog 159 ⟨[.ty .str,.ty .str],[.str,.bool],λx=>strings_CutPrefix x.1 x.2⟩:=by
 refine wi Tryz.func159 (by kernel_rfl) rfl λκ x zn y hy hI ha => ?_
 obtain⟨s,p⟩:=x
 cases hy
 obtain⟨v0,r,rfl,Q4,ha⟩:=qj.cons_inv (show qj κ [.zx .str s,.zx .str p] zn from ha)
 obtain⟨v1,r,rfl,YD,ha⟩:=ha.cons_inv
 rw[ha.zN,Q4.xM,YD.xM]
 refine(Go.Proofs.Tryz.strings_CutPrefix ⟨s.toArray⟩ ⟨p.toArray⟩ κ.w).mono ?_
 rintro e w' ⟨rfl,rfl⟩
 refine⟨lZ _,λ_=>⟨_,rfl,?_⟩⟩
 exact RD.z27 RD.str RD.bool
def t20:=t19.d z1R
def HZ:qp:=Lz [] [Mm 1 (.int .u8)] JC [Bg] λp s=>jt p s
def z1d:Hints:=Hz [(0,HZ)] [(0,1,.flat [Mb 16])] []
theorem MP:LO Tryz.f222 HZ 0:=lk t20 rn z1d [] zt
theorem z15:zT Pz 222 ⟨[.ty .str,.ty (.int .u8)],[.str],λx=>strings_trimRightByte x.1 x.2⟩:=vy t20 rn z1d Tryz.func222 [0] (qW rfl MP zt)
def t21:=t20.d z15
def Bq:qp:=Lz [] [Mm 1 (.int .u8)] JC [Bg] λp s=>ke p s
def z0c:Hints:=Hz [(0,Bq)] [(0,1,.flat [Mb 13])] []
theorem MD:LO Tryz.f221 Bq 0:=lk t21 rn z0c [] zt
theorem z0L:zT Pz 221 ⟨[.ty .str,.ty (.int .u8)],[.str],λx=>strings_trimLeftByte x.1 x.2⟩:=vy t21 rn z0c Tryz.func221 [0] (qW rfl MD zt)
def t22:=t21.d z0L
theorem To:zT Tryz.prog 191 ⟨[.ty .str],[(gA .bool 256),.bool],λx=>strings_makeASCIISet x⟩:=by
 refine wi Tryz.func191 (by kernel_rfl) rfl λκ s zn y hy hI ha => ?_
 obtain⟨⟨h0,h1⟩,hy⟩:=hy
 cases hy
 obtain⟨v0,r,rfl,Q4,ha⟩:=qj.cons_inv (show qj κ [.zx .str s] zn from ha)
 rw[ha.zN,Q4.xM]
 refine(Go.Proofs.Tryz.strings_makeASCIISet (λ_=>by kernel_rfl) ⟨s.toArray⟩ κ.w (by rw[show(ByteArray.size ⟨s.toArray⟩)=List.length s from List.size_toArray]; exact h0) (by simpa using h1)).mono ?_
 rintro e w' ⟨rfl,rfl⟩
 refine⟨rT _ _,λ_=>⟨_,rfl,?_⟩⟩
 exact RD.z27 (Fm s) RD.bool
def t23:=t22.d To
theorem z02:zT Pz 192 ⟨[.rp (gA .bool 256),.ty (.int .u8)],[.bool],λx=>xe x.1 x.2⟩:=vy t23 rn hN Tryz.func192 [] zt
def t24:=t23.d z02
def B0:qp:=Lz [] [Mr 1 (gA .bool 256)] JC [Bg] λp s=>xd p s
def z0x:Hints:=Hz [(0,B0)] [] []
theorem Ma:LO Tryz.f224 B0 0:=lk t24 rn z0x [] zt
theorem z1h:zT Pz 224 ⟨[.ty .str,.rp (gA .bool 256)],[.str],λx=>wH x.1 x.2⟩:=vy t24 rn z0x Tryz.func224 [0] (qW rfl Ma zt)
def t25:=t24.d z1h
def Gv:qp:=Lz [] [Mr 1 (gA .bool 256)] JC [Bg] λp s=>xh p s
def z2E:Hints:=Hz [(0,Gv)] [] []
theorem O8:LO Tryz.f223 Gv 0:=lk t25 rn z2E [] zt
theorem z0O:zT Pz 223 ⟨[.ty .str,.rp (gA .bool 256)],[.str],λx=>vb x.1 x.2⟩:=vy t25 rn z2E Tryz.func223 [0] (qW rfl O8 zt)
def t26:=t25.d z0O
def z4A:Hints:=Hz [] [(0,1,.flat [Mb 12]),(0,3,.flat [Mb 21])] []
theorem z2m:zT Pz 196 ⟨[.ty .str,.ty .str],[.str],λx=>j7 x.1 x.2⟩:=vy t26 rn z4A Tryz.func196 [] zt
def t27:=t26.d z2m
def z4e:Hints:=Hz [] [(0,1,.flat [Mb 2])] []
theorem z1I:zT Pz 144 ⟨[.ty (.sl u32)],[.bool],λx=>b4 x⟩:=vy t27 rn z4e Tryz.func144 [] zt
def t28:=t27.d z1I
def GJ:qp:=Lz [] [] E1 [⟨.exit 0,E1⟩] λp s=>bL  s
def z0k:Hints:=Hz [(0,GJ)] [] []
theorem MN:LO Tryz.f176 GJ 0:=lk t28 rn z0k [] zt
theorem z1b:zT Pz 176 ⟨[.ty (.sl u32)],[(.sl u32)],λx=>xp x⟩:=vy t28 rn z0k Tryz.func176 [0] (qW rfl MN zt)
def t29:=t28.d z1b
def HJ:qp:=Lz [] [Mm 1 (.sl u32),Mi 6,Mm 7 u32,Mm 21 (.sl u32),Mi 22,Mi 23,Mm 28 (.sl u32),Mi 29] ⟨[Mm 8 (.int .u64),Mi 30,.a u32],[(5,.cur 0 u32)],yg⟩ [⟨.exit 2,⟨[Mm 8 (.int .u64),.a u32],[(5,.cur 0 u32)],yg⟩⟩] λp s=>dv p.1 p.2.1 p.2.2.1 p.2.2.2.1 p.2.2.2.2.1 p.2.2.2.2.2.1 p.2.2.2.2.2.2.1 p.2.2.2.2.2.2.2 s
def Hf:qp:=Lz [] [Mm 1 (.sl u32),Mm 21 (.sl u32),Mi 22] ⟨[Mi 23,.a u32],[(5,.cur 0 u32)],yg⟩ [⟨.exit 0,⟨[.a u32],[(5,.cur 0 u32)],yg⟩⟩] λp s=>dA p.1 p.2.1 p.2.2 s
def PO:Hints:=Hz [(2,HJ),(0,Hf)] [] [(16,[5])]
theorem O3:LO Tryz.f198 HJ 2:=lk t29 rn PO [] zt
theorem M1:LO Tryz.f198 Hf 0:=lk t29 rn PO [2] (qW rfl O3 zt)
theorem z0r:zT Pz 198 ⟨[.ty (.sl u32),.ty (.sl u32)],[(.sl u32)],λx=>iO x.1 x.2⟩:=vy t29 rn PO Tryz.func198 [0] (qW rfl M1 zt)
def t30:=t29.d z0r
theorem z2R:zT Pz 137 ⟨[.ty (.int .u64)],[(.sl u32)],λx=>jS x⟩:=vy t30 rn hN Tryz.func137 [] zt
def t31:=t30.d z2R
def HU:qp:=Lz [] [Mm 0 (.sl u32),Mm 1 (.sl u32),Mm 24 (.sl u32),Mi 25] ⟨[Mm 6 (.int .u64),Mi 26,.a u32],[(5,.cur 0 u32)],yg⟩ [⟨.exit 0,⟨[Mm 6 (.int .u64),.a u32],[(5,.cur 0 u32)],yg⟩⟩] λp s=>dz p.1 p.2.1 p.2.2.1 p.2.2.2 s
def TL:Hints:=Hz [(0,HU)] [(3,2,.flat [Mm 0 (.sl u32),Mm 1 (.sl u32)]),(3,10,.flat [Mm 6 (.int .u64)])] [(16,[5])]
theorem NK:LO Tryz.f197 HU 0:=lk t31 rn TL [] zt
theorem z0W:zT Pz 197 ⟨[.ty (.sl u32),.ty (.sl u32)],[(.sl u32)],λx=>so x.1 x.2⟩:=vy t31 rn TL Tryz.func197 [0] (qW rfl NK zt)
def t32:=t31.d z0W
def HW:qp:=Lz [] [Ms 0,Mi 19] ⟨[Mm 4 (.sl u32),Mi 20],[],[]⟩ [⟨.exit 0,⟨[Mm 4 (.sl u32)],[],[]⟩⟩] λp s=>kC p.1 p.2 s
def z2H:Hints:=Hz [(0,HW)] [(0,1,.ways [⟨.normal,⟨[Mb 17],[],[]⟩⟩])] []
theorem ME:LO Tryz.f160 HW 0:=lk t32 rn z2H [] zt
theorem TA:zT Pz 160 ⟨[.ty .str],[(.sl u32),.bool],λx=>wL x⟩:=vy t32 rn z2H Tryz.func160 [0] (qW rfl ME zt)
def t33:=t32.d TA
def Gw:qp:=Lz [] [Mi 5] ⟨[Mm 3 (.sl u32),Mi 6],[],[]⟩ [⟨.exit 0,⟨[Mm 3 (.sl u32)],[],[]⟩⟩] λp s=>bc p s
def z08:Hints:=Hz [(0,Gw)] [] []
theorem Nr:LO Tryz.f161 Gw 0:=lk t33 rn z08 [] zt
theorem z2w:zT Pz 161 ⟨[.ty i64],[(.sl u32)],λx=>iJ x⟩:=vy t33 rn z08 Tryz.func161 [0] (qW rfl Nr zt)
def t34:=t33.d z2w
def z6t:Hints:=Hz [] [(0,1,.z1u)] []
theorem TE:zT Pz 203 ⟨[.ty (.sl u32)],[(.sl u32)],λx=>wG x⟩:=vy t34 rn z6t Tryz.func203 [] zt
def t35:=t34.d TE
theorem z0s:zT Pz 173 ⟨[.ty (.sl u32)],[(.sl u32)],λx=>yb x⟩:=vy t35 rn hN Tryz.func173 [] zt
def t36:=t35.d z0s
def GF:qp:=Lz [] [Mm 0 (.sl u32),Mm 1 (.sl u32)] ⟨[Mi 5],[],[]⟩ [o7,Xt] λp s=>gY p.1 p.2 s
def z1v:Hints:=Hz [(0,GF)] [] []
theorem LI:LO Tryz.f136 GF 0:=lk t36 rn z1v [] zt
theorem TD:zT Pz 136 ⟨[.ty (.sl u32),.ty (.sl u32)],[i64],λx=>dw x.1 x.2⟩:=vy t36 rn z1v Tryz.func136 [0] (qW rfl LI zt)
def t37:=t36.d TD
def z6n:Hints:=Hz [] [(0,1,.flat [Mb 15])] []
theorem Tv:zT Pz 204 ⟨[.ty u32,.ty u32,.ty u32],[u32,u32],λx=>jK x.1 x.2.1 x.2.2⟩:=vy t37 rn z6n Tryz.func204 [] zt
def t38:=t37.d Tv
def Bo:qp:=Lz [] [Mm 0 (.sl u32),Mm 1 u32] ⟨[Mm 7 u32,Mi 8,.a u32],[(6,.cur 0 u32)],yg⟩ [⟨.exit 0,⟨[Mm 7 u32,.a u32],[(6,.cur 0 u32)],yg⟩⟩] λp s=>gF p.1 p.2 s
def z2i:Hints:=Hz [(0,Bo)] [] [(7,[6])]
theorem O0:LO Tryz.f174 Bo 0:=lk t38 rn z2i [] zt
theorem TF:zT Pz 174 ⟨[.ty (.sl u32),.ty u32],[(.sl u32),u32],λx=>gP x.1 x.2⟩:=vy t38 rn z2i Tryz.func174 [0] (qW rfl O0 zt)
def t39:=t38.d TF
def z5N:Hints:=Hz [] [(3,1,.flat [Mm 0 u32,Mi 2]),(3,4,.flat [Mm 0 u32,Mi 2])] []
theorem z0t:zT Pz 247 ⟨[.ty u32],[i64],λx=>jI x⟩:=vy t39 rn z5N Tryz.func247 [] zt
def t40:=t39.d z0t
theorem z1V:zT Pz 232 ⟨[.ty u32],[i64],λx=>wa x⟩:=vy t40 rn hN Tryz.func232 [] zt
def t41:=t40.d z1V
def GN:qp:=Lz [] [Mm 1 (.int .u64),Mi 2,Mm 13 (.sl u32),Mi 14] P6 [EE] λp s=>lP p.1 p.2.1 p.2.2.1 p.2.2.2 s
def Tp:Hints:=Hz [(0,GN)] [] []
theorem Ot:LO Tryz.f233 GN 0:=lk t41 rn Tp [] zt
theorem Po:xA Pz 233 ⟨[.any,.any,.any],⟨[Mm 0 (.sl u32),Mm 1 (.int .u64),Mi 2],[],[]⟩,[],⟨[.a u32],[(0,.cur 0 u32)],yg⟩,1,λx=>bz x.1 x.2.1 x.2.2⟩:=XR t41 rn Tp Tryz.func233 [0] (qW rfl Ot zt)
def t42:=t41.s Po
def HA:qp:=Lz [] [Mm 2 u32,Mm 3 u32,Mm 4 u32] ⟨[Mm 12 (.int .u64),Mm 13 (.int .u64)],[],[]⟩ [⟨.exit 0,⟨[Mm 12 (.int .u64)],[],[]⟩⟩] λp s=>kD p.1 p.2.1 p.2.2 s
def T5:Hints:=Hz [(0,HA)] [(0,3,.flat [Mb 42])] []
theorem LJ:LO Tryz.f234 HA 0:=lk t42 rn T5 [] zt
theorem z19:zT Pz 234 ⟨[.ty u32,.ty u32,.ty u32,.ty u32,.ty u32],[(.int .u64)],λx=>gR x.1 x.2.1 x.2.2.1 x.2.2.2.1 x.2.2.2.2⟩:=vy t42 rn T5 Tryz.func234 [0] (qW rfl LJ zt)
def t43:=t42.d z19
theorem z0b:zT Pz 248 ⟨[.ty u32,.ty u32,.ty u32],[u32,u32],λx=>u7 x.1 x.2.1 x.2.2⟩:=vy t43 rn hN Tryz.func248 [] zt
def t44:=t43.d z0b
theorem TH:zT Pz 249 ⟨[.ty u32,.ty u32,.ty u32],[u32,u32],λx=>jH x.1 x.2.1 x.2.2⟩:=vy t44 rn hN Tryz.func249 [] zt
def t45:=t44.d TH
def B7:qp:=Lz [] [Mm 1 (.sl u32),Mm 2 (.int .u64),Mm 14 (.sl u32),Mi 15] ⟨[.s 0 (.sub 0 u32),Mm 7 (.int .u64),Mm 8 u32,Mi 16,.a u32],[],yg⟩ [⟨.exit 0,⟨[.s 0 (.sub 0 u32),Mm 7 (.int .u64),Mm 8 u32,.a u32],[],yg⟩⟩] λp s=>kK p.1 p.2.1 p.2.2.1 p.2.2.2 s
def HY:qp:=Lz [] [Mm 1 (.sl u32),Mm 62 (.sl u32),Mi 63] ⟨[.s 0 (.sub 0 u32),Mm 11 u32,Mi 64,.a u32],[],yg⟩ [⟨.exit 2,⟨[.s 0 (.sub 0 u32),Mm 11 u32,.a u32],[],yg⟩⟩] λp s=>kJ p.1 p.2.1 p.2.2 s
def Sf:Hints:=Hz [(0,B7),(2,HY)] [] []
theorem Mx:LO Tryz.f235 B7 0:=lk t45 rn Sf [] zt
theorem Og:LO Tryz.f235 HY 2:=lk t45 rn Sf [] zt
theorem Ts:xA Pz 235 ⟨[.sub,.any,.any],⟨[.s 0 (.sub 0 u32),Mm 1 (.sl u32),Mm 2 (.int .u64),.a u32],[],yg⟩,[],⟨[Mb 0,.a u32],[],yg⟩,1,λx=>bW x.1 x.2.1 x.2.2.1 x.2.2.2⟩:=XR t45 rn Sf Tryz.func235 [0,2] (qW rfl Mx (qW rfl Og zt))
def t46:=t45.s Ts
def Xn:qp:=Lz [] [Mm 1 (.int .u64),Mi 2,Mm 13 (.sl u32),Mi 14] P6 [EE] λp s=>yP p.1 p.2.1 p.2.2.1 p.2.2.2 s
def IL:Hints:=Hz [(0,Xn)] [] []
theorem Ci:LO Tryz.f233 Xn 0:=lk t46 rn IL [] zt
theorem B6:zT Pz 233 ⟨[.ty (.sl u32),.ty (.int .u64),.ty i64],[(.sl u32)],λx=>nT x.1 x.2.1 x.2.2⟩:=vy t46 rn IL Tryz.func233 [0] (qW rfl Ci zt)
def t47:=t46.d B6
def z2J:Tb:=t47.d B6
def Hl:qp:=Lz [] [Mm 6 (.int .u64),Mm 38 (.sl u32),Mi 39] ⟨[Mi 40,.a u32],[(7,.cur 0 u32)],yg⟩ [EE] λp s=>kP p.1 p.2.1 p.2.2 s
def T6:Hints:=Hz [(0,Hl)] [] [(17,[7]),(21,[12])]
theorem MH:LO Tryz.f236 Hl 0:=lk z2J rn T6 [] zt
theorem Th:zT Pz 236 ⟨[.ty (.sl u32),.ty i64],[(.sl u32)],λx=>yn x.1 x.2⟩:=vy z2J rn T6 Tryz.func236 [0] (qW rfl MH zt)
def t48:=t47.d Th
def z0X:Tb:=t48.s Po
def Hs:qp:=Lz [] [Mm 6 (.int .u64),Mm 8 (.sl u32),Mi 9] ⟨[Mi 10,.a u32,.a u32],[(4,.cur 2 u32),(7,.cur 0 u32)],[.arr u32,.dead,.arr u32]⟩ [⟨.exit 0,⟨[.a u32,.a u32],[(4,.cur 2 u32),(7,.cur 0 u32)],[.arr u32,.dead,.arr u32]⟩⟩] λp s=>yQ p.1 p.2.1 p.2.2 s
def z25:Hints:=Hz [(0,Hs)] [(3,9,.ways [⟨.normal,⟨[Mm 11 (.int .u64),.a u32,.a u32],[(4,.cur 2 u32),(7,.cur 0 u32)],[.arr u32,.dead,.arr u32]⟩⟩])] [(5,[8]),(12,[4,7])]
theorem MO:LO Tryz.f209 Hs 0:=lk z0X rn z25 [] zt
theorem z2d:zT Pz 209 ⟨[.ty (.sl u32),.ty (.sl u32)],[(.sl u32),(.sl u32)],λx=>ou x.1 x.2⟩:=vy z0X rn z25 Tryz.func209 [0] (qW rfl MO zt)
def t49:=t48.d z2d
theorem z0v:zT Pz 180 ⟨[.ty (.sl u32),.ty (.sl u32)],[(.sl u32),(.sl u32),.bool],λx=>jX x.1 x.2⟩:=vy t49 rn hN Tryz.func180 [] zt
def t50:=t49.d z0v
def B9:qp:=Lz [] [] ⟨[Mm 0 (.sl u32),Mm 1 (.sl u32)],[],[]⟩ [⟨.exit 0,E1⟩] λp s=>gS  s
def z2f:Hints:=Hz [(0,B9)] [] []
theorem N3:LO Tryz.f145 B9 0:=lk t50 rn z2f [] zt
theorem TC:zT Pz 145 ⟨[.ty (.sl u32),.ty (.sl u32)],[(.sl u32)],λx=>nN x.1 x.2⟩:=vy t50 rn z2f Tryz.func145 [0] (qW rfl N3 zt)
def t51:=t50.d TC
def z5X:Hints:=Hz [] [(0,2,.flat [Mb 19])] []
theorem z2g:zT Pz 149 ⟨[.ty .bool,.ty (.sl u32),.ty (.sl u32)],[yj],λx=>dh x.1 x.2.1 x.2.2⟩:=vy t51 rn z5X Tryz.func149 [] zt
def t52:=t51.d z2g
def z50:Hints:=Hz [] [(0,9,.flat [Mb 58]),(3,13,.flat [Ms 14]),(0,17,.flat [Mb 94])] []
theorem z13:zT Pz 113 ⟨[.ty .str],[yj,i64],λx=>kh x⟩:=vy t52 rn z50 Tryz.func113 [] zt
def t53:=t52.d z13
def z5w:Hints:=Hz [] [(0,2,.flat [Mb 35]),(3,2,.ways [⟨.normal,⟨[Ms 3,.v (.zx zw),.v (.zx .expr)],[],Gj⟩⟩,⟨.jg (.iface 226 .qB),⟨[Mm 0 qY,.v (.zx zw),.v (.zx .expr)],[],Gj⟩⟩])] []
theorem Tq:jk Pz 267 ⟨[.ptr],lG,[],rU,1,226,ny,λx=>vu x⟩:=OW t53 rn z5w Tryz.func267 [] zt
def t54:=t53.p Tq
def QO:qp:=Lz [] [.s 1 (.qE 142 []),Mi 2,Mi 7] lG [Er] λp s=>qy (λz0=>wI z0) p.2.1 p.2.2 s
def FP:Hints:=Hz [(0,QO)] [(0,2,.ways [Pf])] []
theorem Cr:LO Tryz.f268 QO 0:=lk t54 rn FP [] zt
theorem HO:xA Pz 268 ⟨[.ptr,.qE 142,.any],⟨[.s 1 (.qE 142 []),Mi 2,.v (.zx zw)],[(0,.ptr 0 0)],mT⟩,[],OS,1,λx=>qG (λz0=>wI z0) x.2.1 x.2.2⟩:=XR t54 rn FP Tryz.func268 [0] (qW rfl Cr zt)
def t55:=t54.s HO
abbrev Rf:=vY.den lG->T (vY.den rU⊕vY.den ny)
abbrev z5A(F:Rf):=jk Pz 251 ⟨[.ptr],lG,[],rU,1,226,ny,F⟩
abbrev lC:=vY.den lG->T (vY.den rU⊕vY.den ny)
abbrev Qx(F:lC):=jk Pz 219 ⟨[.ptr],lG,[],rU,1,226,ny,F⟩
def z61(rf:Rf)(qs:lC):Hints:=Hz [] [(3,10,.ways [⟨.normal,Fj⟩,⟨.jg (.iface 226 .qB),FR⟩]),(0,14,.ways [⟨.normal,⟨[Mb 46,.v (.zx zw),.v (.zx .expr)],[],Gj⟩⟩]),(0,16,.ways [⟨.normal,⟨[Mb 71,.v (.zx zw),.v (.zx .expr)],[],Gj⟩⟩])] []
theorem Md(rf:Rf)(FL:z5A rf)(qs:lC)(uP:Qx qs):jk Pz 251 ⟨[.ptr],lG,[],rU,1,226,ny,λx=>xC (λy0=>rf (y0)) (λy0=>qs (y0)) x⟩:=OW (((t55.s HO).p uP).p FL) rn (z61 rf qs) Tryz.func251 [] zt
theorem z1m(qs:lC)(uP:Qx qs):jk Pz 251 ⟨[.ptr],lG,[],rU,1,226,ny,λx=>qX (λy0=>qs (y0)) x⟩:=HG (λrf x=>xC (λy0=>rf (y0)) (λy0=>qs (y0)) x) (λx=>rfl) (λrf FL=>Md rf FL qs uP)
def Tm(qs:lC)(uP:Qx qs):Tb:=t55.p (z1m _ uP)
def HM(qs:lC):qp:=Lz [] [Ms 2,Mr 7 qY] ⟨[.v (.zx zw),.v (.zx .expr),.v (.zx .expr)],[(0,.ptr 0 0),(1,.qE 1000251 [(0,0)]),(8,.ptr 1 0),(9,.ptr 2 0)],N7⟩ [⟨.ret,Fj⟩,⟨.jg (.iface 226 .qB),FR⟩] λp s=>xY (λy0=>qs (y0)) p.1 p.2 s
def z2O(qs:lC):Hints:=Hz [(0,HM qs)] [] []
theorem Ni(qs:lC)(uP:Qx qs):LO Tryz.f237 (HM qs) 0:=lk (Tm qs uP) (rz [7]) (z2O qs) [] zt
theorem z2I(qs:lC)(uP:Qx qs):jk Pz 237 ⟨[.ptr,.qE 1000251,.any,.any],⟨[.s 1 (.mclo 1000251 [.pt 0]),Ms 2,Mm 3 qY,.v (.zx zw)],[(0,.ptr 0 0)],mT⟩,[],rU,1,226,ny,λx=>xg (λy0=>qs (y0)) x.1 x.2.1 x.2.2.1 x.2.2.2⟩:=OW (Tm qs uP) (rz [7]) (z2O qs) Tryz.func237 [0] (qW rfl (Ni qs uP) zt)
theorem z0i(qs:lC)(uP:Qx qs):jk Pz 238 ⟨[.ptr],lG,[],rU,1,226,ny,λx=>qH (λy0=>qs (y0)) x⟩:=OW (t55.p (z2I _ uP)) rn hN Tryz.func238 [] zt
def F5(qs:lC)(uP:Qx qs):Tb:=t55.p (z0i _ uP)
def XY(qs:lC):qp:=Lz [] [Ms 2,Mr 7 qY] ⟨[.v (.zx zw),.v (.zx .expr),.v (.zx .expr)],[(0,.ptr 0 0),(1,.qE 1000238 [(0,0)]),(8,.ptr 1 0),(9,.ptr 2 0)],N7⟩ [⟨.ret,Fj⟩,⟨.jg (.iface 226 .qB),FR⟩] λp s=>xQ (λy0=>qs (y0)) p.1 p.2 s
def Im(qs:lC):Hints:=Hz [(0,XY qs)] [] []
theorem D9(qs:lC)(uP:Qx qs):LO Tryz.f237 (XY qs) 0:=lk (F5 qs uP) (rz [7]) (Im qs) [] zt
theorem Mv(qs:lC)(uP:Qx qs):jk Pz 237 ⟨[.ptr,.qE 1000238,.any,.any],⟨[.s 1 (.mclo 1000238 [.pt 0]),Ms 2,Mm 3 qY,.v (.zx zw)],[(0,.ptr 0 0)],mT⟩,[],rU,1,226,ny,λx=>xa (λy0=>qs (y0)) x.1 x.2.1 x.2.2.1 x.2.2.2⟩:=OW (F5 qs uP) (rz [7]) (Im qs) Tryz.func237 [0] (qW rfl (D9 qs uP) zt)
theorem MV(qs:lC)(uP:Qx qs):jk Pz 219 ⟨[.ptr],lG,[],rU,1,226,ny,λx=>vH (λy0=>qs (y0)) x⟩:=OW (t55.p (Mv _ uP)) rn hN Tryz.func219 [] zt
theorem z1Y:jk Pz 219 ⟨[.ptr],lG,[],rU,1,226,ny,λx=>vt x⟩:=HG (λqs x=>vH (λy0=>qs (y0)) x) (λx=>rfl) (λqs uP=>MV qs uP)
def t56:=t55.p z1Y
theorem Tt:jL (Dl Pz) 218 ⟨[.ptr,.ptr,.ptr],⟨[.v (.zx .expr),.v (.zx i64),.v (.zx i64)],[(0,.ptr 0 0),(1,.ptr 1 0),(2,.ptr 2 0)],I4⟩,[],Pr,0,λx=>j1 x.1 x.2.1 x.2.2⟩:=fkr t56 rn hN Tryz.func218
theorem NL:jL (Da Pz 226) 218 ⟨[.ptr,.ptr,.ptr,.any],⟨[Mm 3 qY,.v (.zx .expr),.v (.zx i64),.v (.zx i64)],[(0,.ptr 0 0),(1,.ptr 1 0),(2,.ptr 2 0)],I4⟩,[],Pr,0,λx=>uu x.1 x.2.1 x.2.2.1 x.2.2.2⟩:=fkh t56 rn hN Tryz.func218 3
theorem z0P:xA Pz 194 ⟨[.ptr],lG,[],⟨[Mm 0 .expr,Mi 1,Mi 2,.v (.zx zw)],[],mT⟩,3,λx=>uB x⟩:=fkf t56 rn hN (g:=218) (pt:=226) Tt NL Tryz.func194
def t57:=t56.s z0P
def z5h:Hints:=Hz [] [(3,2,.flat [Mb 4])] []
theorem z2L:zT Pz 210 ⟨[.ty i64],[i64],λx=>iW x⟩:=vy t57 rn z5h Tryz.func210 [] zt
def t58:=t57.d z2L
def h90:Hints:=Hz [] [(0,1,.ways [⟨.normal,⟨[Mb 28],[],[]⟩⟩])] []
theorem z4X:zT Pz 90 ⟨[.ty yj],[.bool],λx=>my x⟩:=vy t58 (rz [1]) h90 Tryz.func90 [] zt
def t59:=t58.d z4X
theorem TR:zT Pz 100 ⟨[.ty yj],[yj],λx=>hO x⟩:=vy t59 (rz [1]) hN Tryz.func100 [] zt
def t60:=t59.d TR
def h91:Hints:=Hz [] [(0,2,.flat [Mb 2])] []
theorem z5o:zT Pz 91 ⟨[.ty yj],[.bool],λx=>gL x⟩:=vy t60 rn h91 Tryz.func91 [] zt
def t61:=t60.d z5o
theorem z1i:zT Pz 134 ⟨[.ty yj],[.str],λx=>fh x⟩:=vy t61 (rz [1]) hN Tryz.func134 [] zt
def t62:=t61.d z1i
def B4:qp:=Lz [] [] ⟨[.s 0 (.sub 0 (.int .u8)),Mi 2,Mi 3,.a (.int .u8)],[],Zk⟩ [⟨.exit 0,Pg⟩] λp s=>xx  s
def z2k:Hints:=Hz [(0,B4)] [] []
theorem M3:LO Tryz.f175 B4 0:=lk t62 rn z2k [] zt
theorem z0D:xA Pz 175 ⟨[.sub],⟨[.s 0 (.sub 0 (.int .u8)),.a (.int .u8)],[],Zk⟩,[],Pg,0,λx=>w9 x.1 x.2⟩:=XR t62 rn z2k Tryz.func175 [0] (qW rfl M3 zt)
def t63:=t62.s z0D
def H4:qp:=Lz [] [Mm 4 (.sl u32)] ⟨[Mm 5 u32,Mi 19,.a (.int .u8)],[(3,.cur 0 (.int .u8))],Zk⟩ [⟨.exit 2,Pt⟩] λp s=>y9 p s
def Gr:qp:=Lz [.slot 3 (.int .u8)] [] ⟨[Mm 0 (.sl u32),.a (.int .u8)],[(3,.cur 0 (.int .u8))],Zk⟩ [⟨.exit 0,Pt⟩] λp s=>kV  s
def Bf:qp:=Lz [] [] ON [⟨.exit 4,ON⟩] λp s=>kF  s
def O7:Hints:=Hz [(2,H4),(0,Gr),(4,Bf)] [(0,13,.flat [Mb 42])] []
theorem Oq:LO Tryz.f135 H4 2:=lk t63 rn O7 [] zt
theorem MM:LO Tryz.f135 Gr 0:=lk t63 rn O7 [2] (qW rfl Oq zt)
theorem MS:LO Tryz.f135 Bf 4:=lk t63 rn O7 [] zt
theorem TO:zT Pz 135 ⟨[.ty (.sl u32)],[.str],λx=>gO x⟩:=vy t63 rn O7 Tryz.func135 [0,4] (qW rfl MM (qW rfl MS zt))
def t64:=t63.d TO
theorem z1a:zT Tryz.prog 246 ⟨[.ty .str,.ty i64],[.str],λx=>strings_Repeat x.1 x.2⟩:=by
 refine wi Tryz.func246 (by kernel_rfl) rfl λκ x zn y hy hI ha => ?_
 obtain⟨s,n⟩:=x
 obtain⟨⟨h0,h1,h2⟩,hy⟩:=hy
 cases hy
 obtain⟨v0,r,rfl,Q4,ha⟩:=qj.cons_inv (show qj κ [.zx .str s,.zx i64 n] zn from ha)
 obtain⟨v1,r,rfl,YD,ha⟩:=ha.cons_inv
 rw[ha.zN,Q4.xM,YD.jJ]
 obtain⟨m,rfl⟩:=Int.eq_ofNat_of_zero_le h0
 refine(Go.Proofs.Tryz.strings_Repeat ⟨s.toArray⟩ m κ.w (by simp only at h1; omega) (by rw[show(ByteArray.size ⟨s.toArray⟩)=List.length s from List.size_toArray]; simpa using h2)).mono ?_
 rintro e w' ⟨rfl,hB⟩
 refine⟨hB,λ_=>⟨_,rfl,?_⟩⟩
 have e1:Lib.repeatL s m=bB s m:=HL s m
 have e2:(Int.toNat (m:Int))=m:=by omega
 show RD _ (.zx .str (bB s (Int.toNat (m:Int)))) _
 rw[e2,<- e1]
 exact RD.str
def t65:=t64.d z1a
theorem Td:zT Pz 231 ⟨[.ty .str,.ty i64],[.str],λx=>bG x.1 x.2⟩:=vy t65 rn hN Tryz.func231 [] zt
def t66:=t65.d Td
def GU:qp:=Lz [] [] ⟨[Mi 10,.v (.zx yj)],[(1,.ptr 0 0)],I1⟩ [⟨.exit 0,⟨[.v (.zx yj)],[],I1⟩⟩,⟨.ret,⟨[Ms 2,Mb 3,.v (.zx yj)],[],I1⟩⟩] λp s=>j4  s
def TV:Hints:=Hz [(0,GU)] [] []
theorem Ou:LO Tryz.f206 GU 0:=lk t66 rn TV [] zt
theorem z2t:zT Pz 206 ⟨[.ty yj],[.str,.bool],λx=>cz x⟩:=vy t66 rn TV Tryz.func206 [0] (qW rfl Ou zt)
def t67:=t66.d z2t
def z6h:Hints:=Hz [] [(0,1,.ways [⟨.normal,⟨[Mb 15],[],[]⟩⟩])] []
theorem T7:zT Pz 211 ⟨[.ty yj],[.bool],λx=>dR x⟩:=vy t67 (rz [1]) z6h Tryz.func211 [] zt
def t68:=t67.d T7
theorem z2l:zT Pz 212 ⟨[.ty yj],[.bool],λx=>yI x⟩:=vy t68 (rz [1]) hN Tryz.func212 [] zt
def t69:=t68.d z2l
theorem z2F:zT Pz 181 ⟨[.ty .expr],[.bool],λx=>kb x⟩:=vy t69 (rz [1]) hN Tryz.func181 [] zt
def t70:=t69.d z2F
abbrev Qo:=vY.den Hv->T (vY.den GI)
abbrev C2(F:Qo):=xA Pz 147 ⟨H8,Hv,[],GI,1,F⟩
theorem z1y(wX:Qo)(c7:C2 wX):xA Pz 183 ⟨H8,⟨[Mm 0 .expr,Mr 1 i64,.v (.zx i64)],[(2,.ptr 0 0)],[.cvar (.ptr 1 0),.var (.zx i64)]⟩,[],OX,1,λx=>ui (λy0 y1 y2=>wX (y0,y1,y2)) x.1 x.2.1 x.2.2⟩:=XR (t70.s c7) (rz [3]) hN Tryz.func183 [] zt
def z1P(wX:Qo)(c7:C2 wX):Tb:=t70.s (z1y _ c7)
def Ho(wX:Qo):qp:=Lz [] [Mm 0 (.sl .expr),Mi 7] ⟨[.s 1 (.mclo 183 [.rp i64,.pt 0]),Mi 8,.v (.zx i64)],[],[.cvar (.ptr 1 0),.var (.zx i64)]⟩ [⟨.exit 0,⟨[.v (.zx i64)],[],[.cvar (.ptr 1 0),.var (.zx i64)]⟩⟩,⟨.ret,⟨[Mi 4,.v (.zx i64)],[],[.cvar (.ptr 1 0),.var (.zx i64)]⟩⟩] λp s=>zo (λy0 y1 y2=>wX (y0,y1,y2)) p.1 p.2 s
def Tl(wX:Qo):Hints:=Hz [(0,Ho wX)] [] []
theorem NC(wX:Qo)(c7:C2 wX):LO Tryz.f213 (Ho wX) 0:=lk (z1P wX c7) rn (Tl wX) [] zt
theorem z0j(wX:Qo)(c7:C2 wX):xA Pz 213 ⟨[.any,.qE 183],Pv,[],⟨[Mi 0,.v (.zx i64)],[],[.cvar (.ptr 1 0),.var (.zx i64)]⟩,1,λx=>qk (λy0 y1 y2=>wX (y0,y1,y2)) x.1 x.2.1 x.2.2⟩:=XR (z1P wX c7) rn (Tl wX) Tryz.func213 [0] (qW rfl (NC wX c7) zt)
theorem z2N(wX:Qo)(c7:C2 wX):xA Pz 182 ⟨[.any,.qE 183],Pv,[],OX,1,λx=>zD (λy0 y1 y2=>wX (y0,y1,y2)) x.1 x.2.1 x.2.2⟩:=XR (t70.s (z0j _ c7)) rn hN Tryz.func182 [] zt
def z3W(wX:Qo):Hints:=Hz [] [(0,2,.ways [⟨.normal,⟨[Mb 24,.v (.zx i64)],[],[.var (.zx i64),.cvar (.ptr 0 0)]⟩⟩])] []
theorem LQ(wX:Qo)(c7:C2 wX):xA Pz 147 ⟨H8,Hv,[],GI,1,λx=>kT (λy0 y1 y2=>wX (y0,y1,y2)) x.1 x.2.1 x.2.2⟩:=XR (t70.s (z2N _ c7)) (rz [3,4]) (z3W wX) Tryz.func147 [] zt
theorem z1n:xA Pz 147 ⟨H8,Hv,[],GI,1,λx=>uL x.1 x.2.1 x.2.2⟩:=O5 (λwX x=>kT (λy0 y1 y2=>wX (y0,y1,y2)) x.1 x.2.1 x.2.2) (λx=>rfl) (λwX c7=>LQ wX c7)
def t71:=t70.s z1n
theorem z4t:zT Pz 97 ⟨[.ty .expr],[.bool],λx=>vI x⟩:=vy t71 (rz [1]) hN Tryz.func97 [] zt
def t72:=t71.d z4t
def z5L:Hints:=Hz [] [(0,5,.ways [⟨.normal,⟨[Mb 31,.v (.zx .expr),.v (.zx zw),.v (.zx .expr)],[],[.var (.zx .expr),.var (.zx zw),.var (.zx .expr)]⟩⟩])] []
theorem z30:zT Pz 157 ⟨[.ty .str],[.expr,i64,i64],λx=>uI x⟩:=vy t72 rn z5L Tryz.func157 [] zt
def t73:=t72.d z30
theorem z0q:zT Tryz.prog 158 ⟨[.ty .str,.ty .str],[.bool],λx=>strings_Contains x.1 x.2⟩:=by
 refine wi Tryz.func158 (by kernel_rfl) rfl λκ x zn y hy hI ha => ?_
 obtain⟨s,sub⟩:=x
 obtain⟨h0,hy⟩:=hy
 cases hy
 obtain⟨v0,r,rfl,Q4,ha⟩:=qj.cons_inv (show qj κ [.zx .str s,.zx .str sub] zn from ha)
 obtain⟨v1,r,rfl,YD,ha⟩:=ha.cons_inv
 rw[ha.zN,Q4.xM,YD.xM]
 obtain⟨m,hm⟩:=wA hI
 refine(Go.Proofs.Tryz.strings_Contains ⟨s.toArray⟩ ⟨sub.toArray⟩ m κ.w (by rw[show(ByteArray.size ⟨s.toArray⟩)=List.length s from List.size_toArray]; exact h0) hm).mono ?_
 rintro e w' ⟨rfl,rfl⟩
 refine⟨lZ _,λ_=>⟨_,rfl,?_⟩⟩
 have e1:Lib.contains s sub=decide ((0:Int)<=gK s sub):=contains_eq s sub
 show RD _ (.zx .bool (decide ((0:Int)<=gK s sub))) _
 rw[<- e1]
 exact RD.bool
def t74:=t73.d z0q
def z5I:Hints:=Hz [] [(0,6,.ways [⟨.normal,⟨[Mb 34,.v (.zx .expr),.v (.zx .expr)],[],GY⟩⟩]),(3,6,.ways [⟨.normal,⟨[Ms 6,Ms 10,.v (.zx .expr),.v (.zx .expr)],[],GY⟩⟩]),(0,12,.ways [⟨.normal,⟨[Mb 61,.v (.zx .expr),.v (.zx .expr)],[],GY⟩⟩]),(3,11,.ways [⟨.normal,⟨[Mi 7,.v (.zx .expr),.v (.zx .expr)],[],GY⟩⟩])] []
theorem z1q:zT Pz 109 ⟨[.ty .str,.ty .str],[.expr,.expr,.str,i64],λx=>wR x.1 x.2⟩:=vy t74 rn z5I Tryz.func109 [] zt
def t75:=t74.d z1q
theorem z4E:zT Pz 96 ⟨[],[(.sl .str)],λ_=>wb⟩:=vy t75 rn hN Tryz.func96 [] zt
def t76:=t75.d z4E
def H9:qp:=Lz [] [Mm 0 (.sl .str),Ms 1,Mi 7] Jv [o7,Xt] λp s=>qw p.1 p.2.1 p.2.2 s
def z1x:Hints:=Hz [(0,H9)] [] []
theorem Mw:LO Tryz.f110 H9 0:=lk t76 rn z1x [] zt
theorem z0y:zT Pz 110 ⟨[.ty (.sl .str),.ty .str],[i64],λx=>qx x.1 x.2⟩:=vy t76 rn z1x Tryz.func110 [0] (qW rfl Mw zt)
def t77:=t76.d z0y
theorem z4T:zT Pz 81 ⟨[],[(.sl .str)],λ_=>xl⟩:=vy t77 rn hN Tryz.func81 [] zt
def t79:=t77.d z4T
theorem z1g:zT Pz 111 ⟨[.ty (.sl .str),.ty .str],[.bool],λx=>xJ x.1 x.2⟩:=vy t79 rn hN Tryz.func111 [] zt
def t80:=t79.d z1g
def z62:Hints:=Hz [] [(0,1,.flat [Mb 8])] []
theorem z2q:zT Pz 114 ⟨[.ty (.sl .str),.ty i64,.ty i64,.ty .str],[.bool],λx=>xG x.1 x.2.1 x.2.2.1 x.2.2.2⟩:=vy t80 rn z62 Tryz.func114 [] zt
def t81:=t80.d z2q
def z4v:Hints:=Hz [] [(0,3,.ways [⟨.normal,⟨[Mb 11],[],[]⟩⟩])] []
theorem z1p:zT Pz 112 ⟨[.ty (.sl .str),.ty i64],[.str,.bool],λx=>uJ x.1 x.2⟩:=vy t81 rn z4v Tryz.func112 [] zt
def t82:=t81.d z1p
def z1o:Hints:=Hz [] [(0,1,.ways [⟨.normal,⟨[Mb 29,.v mI,.a zG,.a zV,.a q9,.a zQ,.a ql,.a q8],[],Qp⟩⟩])] []
theorem DC:xA Pz 54 ⟨Ba,Pb,[],I5,1,λx=>wC x.1 x.2.1 x.2.2.1 x.2.2.2.1 x.2.2.2.2.1 x.2.2.2.2.2.1 x.2.2.2.2.2.2.1 x.2.2.2.2.2.2.2.1 x.2.2.2.2.2.2.2.2⟩:=XR t82 rn z1o Tryz.func54 [] zt
def t97:=t82.s DC
def z0B:Hints:=Hz [] [(0,1,.ways [⟨.normal,⟨[Mb 31,.v mI,.a zG,.a zV,.a q9,.a zQ,.a ql,.a q8],[],Qp⟩⟩])] []
theorem FY:xA Pz 55 ⟨Ba,Pb,[],I5,1,λx=>xT x.1 x.2.1 x.2.2.1 x.2.2.2.1 x.2.2.2.2.1 x.2.2.2.2.2.1 x.2.2.2.2.2.2.1 x.2.2.2.2.2.2.2.1 x.2.2.2.2.2.2.2.2⟩:=XR t97 rn z0B Tryz.func55 [] zt
def t98:=t97.s FY
def z1E:Hints:=Hz [] [(0,1,.ways [⟨.normal,⟨[Mb 26,.v mI,.a zG,.a zV,.a q9,.a zQ,.a ql,.a q8],[],Qp⟩⟩])] []
theorem Ig:xA Pz 56 ⟨tf,Gz,[],Bl,1,λx=>vW x.1 x.2.1 x.2.2.1 x.2.2.2.1 x.2.2.2.2.1 x.2.2.2.2.2.1 x.2.2.2.2.2.2.1 x.2.2.2.2.2.2.2⟩:=XR t98 rn z1E Tryz.func56 [] zt
def t99:=t98.s Ig
def TY:Hints:=Hz [] [(0,1,.ways [Pe])] []
theorem Ec:xA Pz 57 ⟨tf,Gz,[],Bl,1,λx=>vq x.1 x.2.1 x.2.2.1 x.2.2.2.1 x.2.2.2.2.1 x.2.2.2.2.2.1 x.2.2.2.2.2.2.1 x.2.2.2.2.2.2.2⟩:=XR t99 rn TY Tryz.func57 [] zt
def t100:=t99.s Ec
def z07:Hints:=Hz [] [(0,1,.ways [Pe])] []
theorem F6:xA Pz 58 ⟨tf,Gz,[],Bl,1,λx=>wQ x.1 x.2.1 x.2.2.1 x.2.2.2.1 x.2.2.2.2.1 x.2.2.2.2.2.1 x.2.2.2.2.2.2.1 x.2.2.2.2.2.2.2⟩:=XR t100 rn z07 Tryz.func58 [] zt
def t101:=t100.s F6
def h59:Hints:=Hz [] [(0,1,.ways [⟨.normal,⟨[Mb 23,.v mI,.a zG,.a zV,.a q9,.a zQ,.a ql,.a q8],[],Qp⟩⟩]),(0,5,.flat [Mb 44]),(3,5,.ways [Pw]),(0,8,.ways [⟨.normal,⟨[Mb 68,.v mI,.a zG,.a zV,.a q9,.a zQ,.a ql,.a q8,.v (.zx zQ)],[],[.var mI,.arr zG,.arr zV,.arr q9,.arr zQ,.arr ql,.arr q8,.var (.zx zQ)]⟩⟩]),(3,8,.ways [Pw])] []
theorem z4B:xA Pz 59 ⟨tf,Gz,[],Bl,1,λx=>vp x.1 x.2.1 x.2.2.1 x.2.2.2.1 x.2.2.2.2.1 x.2.2.2.2.2.1 x.2.2.2.2.2.2.1 x.2.2.2.2.2.2.2⟩:=XR t101 rn h59 Tryz.func59 [] zt
def t102:=t101.s z4B
def h23:Hints:=Hz [] [(0,3,.flat [Mb 36]),(0,7,.flat [Mb 41]),(0,9,.flat [Mb 53])] []
theorem z4F:xA Pz 23 ⟨tf,⟨[Ms 1,.v mI,.a zG,.a zV,.a q9,.a zQ,.a ql,.a q8],[(0,.ptr 0 0)],Qp⟩,[],I5,1,λx=>gx x.1 x.2.1 x.2.2.1 x.2.2.2.1 x.2.2.2.2.1 x.2.2.2.2.2.1 x.2.2.2.2.2.2.1 x.2.2.2.2.2.2.2⟩:=XR (((((t102.s F6).s Ec).s Ig).s FY).s DC) rn h23 Tryz.func23 [] zt
def t103:=t102.s z4F
theorem z68:zT Pz 86 ⟨[.ty zG],[.bool],λx=>wU x⟩:=vy t103 (rz [1]) hN Tryz.func86 [] zt
def t104:=t103.d z68
def HR:qp:=Lz [] [Mm 0 (.sl zG),.s 1 (.qE 86 []),Mi 7] Jv [o7,Xt] λp s=>qt p.1 (λz0=>wU z0) p.2.2 s
def z1M:Hints:=Hz [(0,HR)] [] []
theorem NG:LO Tryz.f140 HR 0:=lk t104 rn z1M [] zt
theorem z10:zT Pz 140 ⟨[.ty (.sl zG),.qE 86 []],[i64],λx=>xB x.1 (λz0=>wU z0)⟩:=vy t104 rn z1M Tryz.func140 [0] (qW rfl NG zt)
def t105:=t104.d z10
theorem z5g:zT Pz 85 ⟨[.ty (.sl zG),.qE 86 []],[.bool],λx=>qu x.1 (λz0=>wU z0)⟩:=vy t105 rn hN Tryz.func85 [] zt
def t106:=t105.d z5g
theorem z6o:zT Pz 89 ⟨[.ty zV],[.bool],λx=>wT x⟩:=vy t106 (rz [1]) hN Tryz.func89 [] zt
def t107:=t106.d z6o
def Gf:qp:=Lz [] [Mm 0 (.sl zV),.s 1 (.qE 89 []),Mi 7] Jv [o7,Xt] λp s=>qD p.1 (λz0=>wT z0) p.2.2 s
def z0G:Hints:=Hz [(0,Gf)] [] []
theorem Nd:LO Tryz.f143 Gf 0:=lk t107 rn z0G [] zt
theorem z1N:zT Pz 143 ⟨[.ty (.sl zV),.qE 89 []],[i64],λx=>xK x.1 (λz0=>wT z0)⟩:=vy t107 rn z0G Tryz.func143 [0] (qW rfl Nd zt)
def t108:=t107.d z1N
theorem z4U:zT Pz 88 ⟨[.ty (.sl zV),.qE 89 []],[.bool],λx=>qC x.1 (λz0=>wT z0)⟩:=vy t108 rn hN Tryz.func88 [] zt
def t109:=t108.d z4U
theorem z3Q:zT Pz 94 ⟨[.ty .str],[.bool],λx=>jf x⟩:=vy t109 rn hN Tryz.func94 [] zt
def t110:=t109.d z3Q
theorem z5R:zT Pz 93 ⟨[.ty q9],[.bool],λx=>wN x⟩:=vy t110 (rz [1]) hN Tryz.func93 [] zt
def t111:=t110.d z5R
def GC:qp:=Lz [] [Mm 0 (.sl q9),.s 1 (.qE 93 []),Mi 7] Jv [o7,Xt] λp s=>qQ p.1 (λz0=>wN z0) p.2.2 s
def z0n:Hints:=Hz [(0,GC)] [] []
theorem Oc:LO Tryz.f146 GC 0:=lk t111 rn z0n [] zt
theorem z2P:zT Pz 146 ⟨[.ty (.sl q9),.qE 93 []],[i64],λx=>w8 x.1 (λz0=>wN z0)⟩:=vy t111 rn z0n Tryz.func146 [0] (qW rfl Oc zt)
def t112:=t111.d z2P
theorem z65:zT Pz 92 ⟨[.ty (.sl q9),.qE 93 []],[.bool],λx=>qN x.1 (λz0=>wN z0)⟩:=vy t112 rn hN Tryz.func92 [] zt
def t113:=t112.d z65
theorem z4K:zT Pz 37 ⟨[.ty uH],[.bool],λx=>bV x⟩:=vy t113 (rz [1]) hN Tryz.func37 [] zt
def t114:=t113.d z4K
def h95:Hints:=Hz [] [(0,1,.flat [Mb 6])] []
theorem z4g:zT Pz 95 ⟨[.ty i64,.ty i64,.ty i64],[.bool],λx=>kN x.1 x.2.1 x.2.2⟩:=vy t114 rn h95 Tryz.func95 [] zt
def t115:=t114.d z4g
def DP:qp:=Lz [] [Mr 1 uH,Mm 7 (.sl zQ),Mi 8] Pu [o7,E8] λp s=>ud p.1 p.2.1 p.2.2 s
def h38:Hints:=Hz [(0,DP)] [(0,5,.ways [⟨.normal,⟨[Mb 36,.v (.zx zQ)],[],[.var (.zx zQ)]⟩⟩])] []
theorem R7:LO Tryz.f38 DP 0:=lk t115 (rz [1]) h38 [] zt
theorem z6A:zT Pz 38 ⟨[.ty uH],[.bool],λx=>gw x⟩:=vy t115 (rz [1]) h38 Tryz.func38 [0] (qW rfl R7 zt)
def t116:=t115.d z6A
theorem z5s:zT Pz 99 ⟨[.ty ql],[.bool],λx=>xI x⟩:=vy t116 (rz [1]) hN Tryz.func99 [] zt
def t117:=t116.d z5s
def Hy:qp:=Lz [] [Mm 0 (.sl ql),.s 1 (.qE 99 []),Mi 7] Jv [o7,Xt] λp s=>qR p.1 (λz0=>xI z0) p.2.2 s
def z01:Hints:=Hz [(0,Hy)] [] []
theorem N4:LO Tryz.f148 Hy 0:=lk t117 rn z01 [] zt
theorem TZ:zT Pz 148 ⟨[.ty (.sl ql),.qE 99 []],[i64],λx=>w6 x.1 (λz0=>xI z0)⟩:=vy t117 rn z01 Tryz.func148 [0] (qW rfl N4 zt)
def t118:=t117.d TZ
theorem z6s:zT Pz 98 ⟨[.ty (.sl ql),.qE 99 []],[.bool],λx=>qJ x.1 (λz0=>xI z0)⟩:=vy t118 rn hN Tryz.func98 [] zt
def t119:=t118.d z6s
def Lg:qp:=Lz [] [Mr 1 uH,Mm 7 (.sl q8),Mi 8] Pu [o7,E8] λp s=>u6 p.1 p.2.1 p.2.2 s
def h39:Hints:=Hz [(0,Lg)] [(0,5,.ways [⟨.normal,⟨[Mb 50,.v (.zx q8)],[],[.var (.zx q8)]⟩⟩])] []
theorem S8:LO Tryz.f39 Lg 0:=lk t119 (rz [1]) h39 [] zt
theorem z5j:zT Pz 39 ⟨[.ty uH],[.bool],λx=>gC x⟩:=vy t119 (rz [1]) h39 Tryz.func39 [0] (qW rfl S8 zt)
def t120:=t119.d z5j
end Go.AM.Lf
namespace Go.Proofs
section
open Go.RowKit
attribute [local go_sem] Oper.semAt_some
set_option maxRecDepth 100000
set_option maxHeartbeats 2000000
theorem ig.size:(Tryz.prog.info? 111).map (·.size)=some 2:=by kernel_rfl
theorem ig.pt:Tryz.prog.underlying 109=some (.pointer 111):=by kernel_rfl
theorem ig.up:Tryz.prog.underlying 191=some .unsafePointer:=by kernel_rfl
theorem ig.used(b:Nat)(w:World)(h0:w.cell? ⟨b,0,none⟩=some (.pointer (some ⟨b,0,none⟩))) :
  Calls Tryz.prog 133 #[.pointer (some ⟨b,0,none⟩)] w λe w'=>e=.returned (.tuple #[])/\w'=w:=by
 obtain⟨j,hj,hjs⟩:=Option.map_eq_some_iff.1 ig.size
 go_enter Tryz.func133,Tryz.ntmps133
 go_wp2
 rw[Lib.run_neq_ptr_same w _ ig.pt hj]
 go_wp2
 go_end0
 exact⟨rfl,rfl⟩
theorem ig.fresh(b:Nat)(w:World)(h0:w.cell? ⟨b,0,none⟩=some (.pointer none))(hsh:w.shape? b=some (111,2))(hfz:w.frozen? ⟨b,0,none⟩=false) :
  Calls Tryz.prog 133 #[.pointer (some ⟨b,0,none⟩)] w λe w'=>e=.returned (.tuple #[])/\w'=w.setCell ⟨b,0,none⟩ (.pointer (some ⟨b,0,none⟩)):=by
 obtain⟨j,hj,hjs⟩:=Option.map_eq_some_iff.1 ig.size
 go_enter Tryz.func133,Tryz.ntmps133
 go_wp2
 rw[Lib.run_to_unsafe w ⟨b,0,none⟩ ig.pt ig.up hj (by rw[hjs]; decide) hsh (Nat.zero_lt_succ 1)]
 simp only[Result.andThen]
 rw[Oper.upon_value]
 go_wp2
 rw[run_callFunc_extern Tryz.func172 (by kernel_rfl) (by kernel_rfl) (by kernel_rfl) (e:=Extern.AbiNoEscape.same) (by kernel_rfl)]
 rw[Lib.run_noEscape]
 simp only[Result.andThen]
 rw[Oper.upon_value]
 go_wp2
 rw[Lib.run_from_unsafe w ⟨b,0,none⟩ ig.up ig.pt hj hsh (by kernel_rfl)]
 simp only[Result.andThen]
 rw[Oper.upon_value]
 go_wp2
 go_end0
 exact⟨rfl,rfl⟩
end
end Go.Proofs

namespace Go.AM.Lf
open Go.Proofs
theorem z0g:xA Tryz.prog 133 ⟨[.ptr],Px,[],pZ,0,λx=>cg x.1 x.2⟩:=Vm (P:=Tryz.prog) (g:=133) (t:=111) (enters_of Tryz.func133 (by kernel_rfl) rfl) ig.used ig.fresh
def t121:=t120.s z0g
theorem z5k:xA Pz 78 ⟨tf,⟨[Ms 1,.v sb,.a (.int .u8)],[(0,.ptr 0 0)],tO⟩,[.pcell 0 1 (.int .u8)],⟨[Mi 0,.v sb,.a (.int .u8)],[(1,.qB)],tO⟩,2,λx=>zF x.1 x.2.1 x.2.2⟩:=XR t121 rn hN Tryz.func78 [] zt
def t122:=t121.s z5k
theorem z4Q:zT Pz 79 ⟨[.ty yj],[.str],λx=>cG x⟩:=vy t122 rn hN Tryz.func79 [] zt
def t123:=t122.d z4Q
theorem z4c:zT Pz 82 ⟨[.ty .str],[.str],λx=>bg x⟩:=vy t123 rn hN Tryz.func82 [] zt
def t124:=t123.d z4c
theorem z2K:zT Tryz.prog 177 ⟨[.ty i64],[.str],λx=>strconv_Itoa x⟩:=by
 refine wi Tryz.func177 (by kernel_rfl) rfl λκ n zn y hy hI ha => ?_
 obtain⟨⟨h0,h1⟩,hy⟩:=hy
 cases hy
 obtain⟨v0,r,rfl,Q4,ha⟩:=qj.cons_inv (show qj κ [.zx i64 n] zn from ha)
 rw[ha.zN,Q4.jJ]
 refine(Go.Proofs.Tryz.strconv_Itoa n h0 h1 κ.w (kt hI)).mono ?_
 rintro e w' ⟨rfl,k,os,rfl⟩
 refine⟨G8 _ _ _,λ_=>⟨_,rfl,?_⟩⟩
 have e1:Lib.itoa n=nP n:=Il n
 show RD _ (.zx .str (nP n)) _
 rw[<- e1]
 exact RD.str
def t125:=t124.d z2K
def z4J:Hints:=Hz [] [(3,2,.flat [Ms 3])] []
theorem z1L:zT Pz 138 ⟨[.ty zQ],[.str],λx=>bT x⟩:=vy t125 (rz [1]) z4J Tryz.func138 [] zt
def t126:=t125.d z1L
def z5Q:Hints:=Hz [] [(3,2,.flat [Mb 5]),(3,5,.flat [Mb 8])] []
theorem z2W:zT Pz 208 ⟨[.ty .expr],[i64],λx=>yr x⟩:=vy t126 (rz [1]) z5Q Tryz.func208 [] zt
def t127:=t126.d z2W
abbrev Ok:=yi [.ty .expr]->T (Gy [.str])
abbrev z0T(F:Ok):=zT Pz 178 ⟨[.ty .expr],[.str],F⟩
theorem z0J(fj:Ok)(VO:z0T fj):zT Pz 207 ⟨[.ty .expr,.ty i64],[.str],λx=>kg (λy0=>fj (y0)) x.1 x.2⟩:=vy (t127.d VO) (rz [2]) hN Tryz.func207 [] zt
def z6m(fj:Ok):Hints:=Hz [] [(3,2,.ways [⟨.normal,⟨[Ms 3],[],[]⟩⟩,⟨.ret,⟨[Ms 2],[],[]⟩⟩])] []
theorem Na(fj:Ok)(VO:z0T fj):zT Pz 178 ⟨[.ty .expr],[.str],λx=>gD (λy0=>fj (y0)) x⟩:=vy (t127.d (z0J _ VO)) (rz [1]) (z6m fj) Tryz.func178 [] zt
theorem z03:zT Pz 178 ⟨[.ty .expr],[.str],λx=>dy x⟩:=Sc (λfj x=>gD (λy0=>fj (y0)) x) (λx=>rfl) (λfj VO=>Na fj VO)
def t128:=t127.d z03
theorem z1r:zT Pz 139 ⟨[.ty .expr],[.str],λx=>b5 x⟩:=vy t128 (rz [1]) hN Tryz.func139 [] zt
def t129:=t128.d z1r
theorem z43:zT Pz 83 ⟨[.ty .expr,.ty .str,.ty .expr],[.str],λx=>yE x.1 x.2.1 x.2.2⟩:=vy t129 (rz [3,5]) hN Tryz.func83 [] zt
def t130:=t129.d z43
def Ey:qp:=Lz [] [Mi 2,Mr 4 uH,Mm 29 (.sl zQ),Mi 30] ⟨[Mi 31,.v sb,.a (.int .u8)],[(0,.ptr 0 0)],tO⟩ [⟨.exit 0,pZ⟩] λp s=>ue p.1 p.2.1 p.2.2.1 p.2.2.2 s
def FN:qp:=Lz [] [Mi 2,Mm 45 (.sl q8),Mi 46] ⟨[Mi 47,.v sb,.a (.int .u8)],[(0,.ptr 0 0)],tO⟩ [⟨.exit 2,pZ⟩] λp s=>ua p.1 p.2.1 p.2.2 s
def h80:Hints:=Hz [(0,Ey),(2,FN)] [] []
theorem Rk:LO Tryz.f80 Ey 0:=lk t130 (rz [4]) h80 [] zt
theorem S6:LO Tryz.f80 FN 2:=lk t130 (rz [4]) h80 [] zt
theorem z4O:xA Pz 80 ⟨Ba,⟨[Mm 1 uH,Mi 2,.v sb,.a (.int .u8)],[(0,.ptr 0 0)],tO⟩,[.pcell 0 1 (.int .u8)],pZ,0,λx=>gJ x.1 x.2.1 x.2.2.1 x.2.2.2⟩:=XR t130 (rz [4]) h80 Tryz.func80 [0,2] (qW rfl Rk (qW rfl S6 zt))
def t131:=t130.s z4O
end Go.AM.Lf
namespace Go.Proofs
section
open Go.RowKit
attribute [local go_sem] Oper.semAt_some
set_option maxRecDepth 100000
set_option maxHeartbeats 2000000
theorem ig.mixed:Tryz.prog.follows .mixedOrders=true:=by kernel_rfl
theorem ig.pb:Tryz.prog.underlying 161=some (.pointer 5):=by kernel_rfl
theorem ig.c5:Tryz.prog.cellsOf 5=1:=by kernel_rfl
theorem ig.FQ(W:World)(q:Option Addr):(Builtin.unsafeString_ #[161,3] 9 #[.pointer q,.int .i64 0]).run Tryz.prog W=.ok (.string .empty) W:=Lib.run_unsafeString_none W _ _ _ q
theorem ig.nil(b:Nat)(p:Value)(w:World)(H5:w.heap[b]? = some (.cells #[p,.slice none 0 0] 111 (0,0))) :
  Calls Tryz.prog 84 #[.pointer (some ⟨b,0,none⟩)] w λe w'=>e=.returned (.string ⟨#[]⟩)/\w'=w.drew:=by
 have hUS:=ig.FQ
 have c1:w.drew.cell? ⟨b,1,none⟩=some (.slice none 0 0):=by
  have:w.drew.heap[b]? = some (.cells #[p,.slice none 0 0] 111 (0,0)):=H5
  rw[Lib.cell_of_heap this]; rfl
 have hSD:(Builtin.unsafeSliceData_ #[77] 161 #[.slice none 0 0]).run Tryz.prog w.drew=.ok (.pointer none) w.drew:=rfl
 have mixed:Tryz.prog.follows .mixedOrders=true:=ig.mixed
 go_enter Tryz.func84,Tryz.ntmps84
 go_wp2
 go_region_o
 all_goals (go_wp2; go_ret; exact⟨rfl,rfl⟩)
theorem ig.room(b g o cap:Nat)(p:Value)(w:World)(NP:cap≠0)(H5:w.heap[b]? = some (.cells #[p,.slice (some ⟨g,o,none⟩) 0 cap] 111 (0,0))) :
  Calls Tryz.prog 84 #[.pointer (some ⟨b,0,none⟩)] w λe w'=>e=.returned (.string ⟨#[]⟩)/\w'=w.drew:=by
 have hUS:=ig.FQ
 have c1:w.drew.cell? ⟨b,1,none⟩=some (.slice (some ⟨g,o,none⟩) 0 cap):=by
  have:w.drew.heap[b]? = some (.cells #[p,.slice (some ⟨g,o,none⟩) 0 cap] 111 (0,0)):=H5
  rw[Lib.cell_of_heap this]; rfl
 have hSD:(Builtin.unsafeSliceData_ #[77] 161 #[.slice (some ⟨g,o,none⟩) 0 cap]).run Tryz.prog w.drew=.ok (.pointer (some ⟨g,o,none⟩)) w.drew :=
  Lib.run_unsafeSliceData_row _ _ _ _ _ _ NP
 clear NP
 have mixed:Tryz.prog.follows .mixedOrders=true:=ig.mixed
 go_enter Tryz.func84,Tryz.ntmps84
 go_wp2
 go_region_o
 all_goals (go_wp2; go_ret; exact⟨rfl,rfl⟩)
theorem ig.full(b g cap:Nat)(p:Value)(cur:Array Value)(l:List UInt8)(w:World)(h0:l≠[])(wD:l.length<=cap)(Nz:l.length<=140737488355328)(H5:w.heap[b]? = some (.cells #[p,.slice (some ⟨g,0,none⟩) l.length cap] 111 (0,0)))
  (hg:w.heap[g]? = some (.cells cur 5 (0,0))) (z9o:l.length<=cur.size) (lO:∀ j x,l[j]? = some x->w.cell? ⟨g,j,none⟩=some (.int .u8 x.toNat)) :
  Calls Tryz.prog 84 #[.pointer (some ⟨b,0,none⟩)] w λe w'=>e=.returned (.string ⟨l.toArray⟩)/\w'=w.drew.freeze ⟨g,0,none⟩ l.length:=by
 have hl0:l.length≠0:=by simpa using h0
 have c1:w.drew.cell? ⟨b,1,none⟩=some (.slice (some ⟨g,0,none⟩) l.length cap):=by
  have:w.drew.heap[b]? = some (.cells #[p,.slice (some ⟨g,0,none⟩) l.length cap] 111 (0,0)):=H5
  rw[Lib.cell_of_heap this]; rfl
 have hSD:(Builtin.unsafeSliceData_ #[77] 161 #[.slice (some ⟨g,0,none⟩) l.length cap]).run Tryz.prog w.drew=.ok (.pointer (some ⟨g,0,none⟩)) w.drew :=
  Lib.run_unsafeSliceData_row _ _ _ _ _ _ (by omega)
 have hUS:(Builtin.unsafeString_ #[161,3] 9 #[.pointer (some ⟨g,0,none⟩),.int .i64 l.length]).run Tryz.prog w.drew=.ok (.string ⟨l.toArray⟩) (w.drew.freeze ⟨g,0,none⟩ l.length):=by
  refine Lib.run_unsafeString_row w.drew 161 3 9 5 ig.pb ig.c5 g cur.size (by have PM:w.drew.heap[g]? = some (.cells cur 5 (0,0)):=hg; simp[World.shape?,PM]) l h0 (by omega) (by omega) ?_
  intro j x hx
  have e:(⟨g,0,none⟩:Addr).add j=⟨g,j,none⟩:=by unfold Addr.add; split<;>simp_all
  rw[e]
  exact lO j x hx
 have mixed:Tryz.prog.follows .mixedOrders=true:=ig.mixed
 go_enter Tryz.func84,Tryz.ntmps84
 go_wp2
 go_region_o
 all_goals (go_wp2; go_ret; exact⟨rfl,rfl⟩)
theorem ig.Rh(b g o:Nat)(p:Value)(cur:Array Value)(w:World)(H5:w.heap[b]? = some (.cells #[p,.slice (some ⟨g,o,none⟩) 0 0] 111 (0,0)))(hg:w.heap[g]? = some (.cells cur 5 (0,0))) :
  Calls Tryz.prog 84 #[.pointer (some ⟨b,0,none⟩)] w λe w'=>e=.returned (.string ⟨#[]⟩)/\w'=w.drew.alloc (.view ⟨g,o,none⟩ 5):=by
 have hUS:=ig.FQ
 have qc:b<w.heap.size:=by
  rcases Nat.lt_or_ge b w.heap.size with h' | h'
  ·exact h'
  ·simp[Array.getElem?_eq_none h']at H5
 have c1:w.drew.cell? ⟨b,1,none⟩=some (.slice (some ⟨g,o,none⟩) 0 0):=by
  have:w.drew.heap[b]? = some (.cells #[p,.slice (some ⟨g,o,none⟩) 0 0] 111 (0,0)):=H5
  rw[Lib.cell_of_heap this]; rfl
 have hSD:(Builtin.unsafeSliceData_ #[77] 161 #[.slice (some ⟨g,o,none⟩) 0 0]).run Tryz.prog w.drew=.ok (.pointer (some ⟨w.drew.heap.size,0,none⟩)) (w.drew.alloc (.view ⟨g,o,none⟩ 5)) :=
  Lib.run_unsafeSliceData_zero w.drew _ _ 5 ig.pb ⟨g,o,none⟩ 0 (5,cur.size) (by have PM:w.drew.heap[g]? = some (.cells cur 5 (0,0)):=hg; simp[World.shape?,PM])
 have c2:(w.drew.alloc (.view ⟨g,o,none⟩ 5)).cell? ⟨b,1,none⟩=some (.slice (some ⟨g,o,none⟩) 0 0):=by
  have:(w.drew.alloc (.view ⟨g,o,none⟩ 5)).heap[b]? = _:=(Lib.alloc_old w.drew _ b qc).trans H5
  rw[Lib.cell_of_heap this]; rfl
 have c3:(w.alloc (.view ⟨g,o,none⟩ 5)).drew.cell? ⟨b,1,none⟩=some (.slice (some ⟨g,o,none⟩) 0 0):=c2
 have c0:w.cell? ⟨b,1,none⟩=some (.slice (some ⟨g,o,none⟩) 0 0):=c1
 have mixed:Tryz.prog.follows .mixedOrders=true:=ig.mixed
 go_enter Tryz.func84,Tryz.ntmps84
 go_wp2
 go_region_o
 all_goals (go_wp2; go_ret; exact⟨rfl,rfl⟩)
end
end Go.Proofs

namespace Go.AM.Lf
open Go.Proofs
theorem z47:xA Tryz.prog 84 ⟨[.ptr],Px,[],⟨[Ms 0,.v (.st [.op 0 111,.un])],[],[.var (.st [.op 0 111,.un]),.dead]⟩,1,λx=>dS x.1 x.2⟩:=Cp (P:=Tryz.prog) (g:=84) (t:=111) (enters_of Tryz.func84 (by kernel_rfl) rfl) ig.nil ig.room ig.full ig.Rh
def t132:=t131.s z47
def IA:qp:=Lz [.cell 0 1 (.int .u8)] [Mr 1 uH,Mm 13 (.sl zG),Mi 14] ⟨[Mi 15,.v sb,.a (.int .u8)],[(3,.ptr 0 0)],tO⟩ [⟨.exit 0,pZ⟩] λp s=>uM p.1 p.2.1 p.2.2 s
def Ff:qp:=Lz [] [Mr 1 uH,Mm 29 (.sl zV),Mi 30] ⟨[Mi 31,.v sb,.a (.int .u8)],[(3,.ptr 0 0)],tO⟩ [⟨.exit 2,pZ⟩] λp s=>uW p.1 p.2.1 p.2.2 s
def DJ:qp:=Lz [] [Mr 1 uH,Mi 48] ⟨[Mi 49,.v sb,.a (.int .u8)],[(3,.ptr 0 0)],tO⟩ [⟨.exit 4,pZ⟩] λp s=>uS p.1 p.2 s
def E9:qp:=Lz [] [Mm 57 (.sl ql),Mi 58] ⟨[Mi 59,.v sb,.a (.int .u8)],[(3,.ptr 0 0)],tO⟩ [⟨.exit 6,pZ⟩] λp s=>uX p.1 p.2 s
def Mz:Hints:=Hz [(0,IA),(2,Ff),(4,DJ),(6,E9)] [(3,6,.flat [Ms 6])] []
theorem R6:LO Tryz.f36 IA 0:=lk t132 (rz [1]) Mz [] zt
theorem Sv:LO Tryz.f36 Ff 2:=lk t132 (rz [1]) Mz [] zt
theorem RO:LO Tryz.f36 DJ 4:=lk t132 (rz [1]) Mz [] zt
theorem PT:LO Tryz.f36 E9 6:=lk t132 (rz [1]) Mz [] zt
theorem z5T:zT Pz 36 ⟨[.ty uH],[.str],λx=>yS x⟩:=vy t132 (rz [1]) Mz Tryz.func36 [0,2,4,6] (qW rfl R6 (qW rfl Sv (qW rfl RO (qW rfl PT zt))))
def t133:=t132.d z5T
theorem z4l:zT Pz 20 ⟨[.ty uH],[.bool],λx=>cu x⟩:=vy t133 (rz [1]) hN Tryz.func20 [] zt
def t134:=t133.d z4l
def Ib:qp:=Lz [.cell 0 5 q8,.cell 1 5 q8,.cell 0 4 ql,.cell 1 4 ql,.cell 0 0 zG,.cell 1 0 zG,.cell 0 1 zV,.cell 1 1 zV,.cell 0 2 q9,.cell 1 2 q9,.cell 0 3 zQ,.cell 1 3 zQ] [Mm 14 (.sl .str),Mi 15] ⟨[Mi 16,.v EA,.v Fe,.a q8,.a q8,.a ql,.a ql,.a zG,.a zG,.a zV,.a zV,.a q9,.a q9,.a zQ,.a zQ],[(2,.ptr 0 0),(5,.ptr 1 0)],OQ⟩ [⟨.exit 0,⟨[.v EA,.v Fe,.a q8,.a q8,.a ql,.a ql,.a zG,.a zG,.a zV,.a zV,.a q9,.a q9,.a zQ,.a zQ],[],OQ⟩⟩,⟨.ret,⟨[Mi 3,Mi 4,.v (.zx uH),.v Fe,.a q8,.a q8,.a ql,.a ql,.a zG,.a zG,.a zV,.a zV,.a q9,.a q9,.a zQ,.a zQ],[],[.var (.zx uH),.var Fe,.arr q8,.arr q8,.arr ql,.arr ql,.arr zG,.arr zG,.arr zV,.arr zV,.arr q9,.arr q9,.arr zQ,.arr zQ]⟩⟩] λp s=>uZ p.1 p.2 s
def SJ:Hints:=Hz [(0,Ib)] [] []
theorem R2:LO Tryz.f10 Ib 0:=lk t134 rn SJ [] zt
theorem z6c:zT Pz 10 ⟨[.ty .str],[uH,i64,i64],λx=>ki x⟩:=vy t134 rn SJ Tryz.func10 [0] (qW rfl R2 zt)
def t135:=t134.d z6c
theorem z5S:zT Pz 16 ⟨[.ty uH],[.str],λx=>bX x⟩:=vy t135 (rz [1]) hN Tryz.func16 [] zt
def t136:=t135.d z5S
theorem z6b:zT Pz 13 ⟨[],[.bool],λ_=>dJ⟩:=vy t136 rn hN Tryz.func13 [] zt
def t137:=t136.d z6b
def P9:qp:=Lz [] [Ms 0,Mi 1,Ms 2] ⟨[Ms 7,Mi 8],[],[]⟩ [⟨.exit 0,⟨[Ms 7],[],[]⟩⟩] λp s=>bQ p.1 p.2.1 p.2.2 s
def h6:Hints:=Hz [(0,P9)] [(0,1,.flat [Mb 27])] []
theorem z2G:LO Tryz.f6 P9 0:=lk t137 rn h6 [] zt
theorem ok6:zT Pz 6 ⟨[.ty .str,.ty i64,.ty .str],[.bool],λx=>kY x.1 x.2.1 x.2.2⟩:=vy t137 rn h6 Tryz.func6 [0] (qW rfl z2G zt)
def t138:=t137.d ok6
end Go.AM.Lf
