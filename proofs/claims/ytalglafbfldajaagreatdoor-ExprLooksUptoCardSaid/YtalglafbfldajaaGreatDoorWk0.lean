/-
  The walk, part 0: each function of the program is the tree that the lifted text says; printed by a program of ours.
-/
import Derived.Test.YtalglafbfldajaaGreatDoorProg
import Derived.KernelRfl
import Derived.Test.YtalglafbfldajaaGreatDoorAmD
import Derived.Test.YtalglafbfldajaaGreatDoorLf0
import Derived.Test.YtalglafbfldajaaGreatDoorSh
set_option linter.unusedVariables false
set_option maxRecDepth 100000
noncomputable section
namespace Go.AM.Lf
open Go.Proofs
abbrev XID : Nat := 27
abbrev Pz : Program := Tryz.prog
def bodyOf (f : Func) : Code := match f.body with | some c => c | none => .skip
def lb (k : Nat) (f : Func) : Code := match loopAt k (bodyOf f) with | some c => c | none => .skip
theorem mixed : Pz.follows .mixedOrders = true := by kernel_rfl
instance : Glob := { u8 := 5,tab := [(1,isInt1 .i64)] }
theorem glob_internal_bytealg_MaxLen {κ : KS} (hI : Inv κ) : ∃ m,κ.w.cell? ⟨1,0,none⟩ = some (.int .i64 m) :=
 int1_cell (hI.gl (1,isInt1 .i64) (by simp [Glob.tab])).2
structure Tb where
 t : Tab
 ok : TabOk Pz t
def Tb.d (T : Tb) {g : Nat} {d : FnD} (h : FnOk Pz g d) : Tb := ⟨(g,.d d) :: T.t,tabOk_cons h T.ok⟩
def Tb.s (T : Tb) {g : Nat} {d : FnS} (h : FnSOk Pz g d) : Tb := ⟨(g,.s d) :: T.t,tabOk_consS h T.ok⟩
def Tb.p (T : Tb) {g : Nat} {d : FnP} (h : FnPOk Pz g d) : Tb := ⟨(g,.p d) :: T.t,tabOk_consP h T.ok⟩
def t0 : Tb := ⟨[],tabOk_nil _⟩
def fL : List (Nat × LoopD) → Nat → Option LoopD
 | [],_ => none
 | x :: r,n => bif Nat.beq x.1 n then some x.2 else fL r n
def fC : List (Nat × Nat × CutD) → Nat → Nat → Option CutD
 | [],_,_ => none
 | x :: r,k,n => bif Nat.beq x.1 k && Nat.beq x.2.1 n then some x.2.2 else fC r k n
def fF : List (Nat × List Nat) → Nat → List Nat
 | [],_ => []
 | x :: r,n => bif Nat.beq x.1 n then x.2 else fF r n
def Hz (l : List (Nat × LoopD)) (c : List (Nat × Nat × CutD)) (f : List (Nat × List Nat)) : Hints := ⟨fL l,fC c,fF f⟩
def hN : Hints := Hz [] [] []
def rz (l : List Nat) (s : Nat) : Bool := l.any (Nat.beq s)
def rn (_ : Nat) : Bool := false
def Lz (gh : List Gh) (ps : List It) (sh : Shp) (ws : List Way) (R : denIts ps → sh.den → T (sh.den ⊕ denWs ws)) : LoopD := ⟨gh,ps,sh,ws,fun p s => T.loop (R p) s⟩
abbrev LO (f : Func) (l : LoopD) (i : Nat) : Prop := LoopOkK Pz f.ntmps l (lb i f)
def ls (f : Func) : List Nat → List (Nat × Code)
 | [] => []
 | i :: r => (i,lb i f) :: ls f r
abbrev Mi (n : Nat) : It := .s n (.imm i64)
abbrev Mb (n : Nat) : It := .s n (.imm .bool)
abbrev Ms (n : Nat) : It := .s n (.imm .str)
abbrev Mm (n : Nat) (t : Ty) : It := .s n (.imm t)
abbrev Mr (n : Nat) (t : Ty) : It := .s n (.rptr t)
abbrev Sh0 (l : List It) : Shp := ⟨l,[],[]⟩
theorem lk {f : Func} {i : Nat} {gh : List Gh} {ps : List It} {sh : Shp} {ws : List Way} {R : denIts ps → sh.den → T (sh.den ⊕ denWs ws)} (T : Tb) (ro : Nat → Bool) (H : Hints) (L : List Nat) (ha : AllL Pz f.ntmps H (ls f L))
  (h : ∀ p s,roundK (mkC Pz XID T.t ro) T.t f.ntmps H (Lz gh ps sh ws R) (lb i f) p s = R p s := by intro p s; kernel_rfl) (hl : loopsOf (lb i f) = ls f L := by kernel_rfl) : LO f (Lz gh ps sh ws R) i :=
 loop_ok (xid := XID) (ro := ro) (H := H) mixed T.ok (loops_of hl ha) R h fun _ _ => rfl
theorem fkd {f : Nat} {fn : Func} {d : FnD} (T : Tb) (ro : Nat → Bool) (H : Hints) (hf : Pz.funcs[f]? = some fn) (L : List Nat) (ha : AllL Pz fn.ntmps H (ls fn L))
  (h : ∀ x,evFnk (mkC Pz XID T.t ro) T.t H fn (bodyOf fn) d x = d.F x := by intro x; kernel_rfl) (hb : fn.body = some (bodyOf fn) := by rfl) (hn : (fn.name == "runtime.NumGoroutine") = false := by kernel_rfl) (hl : loopsOf (bodyOf fn) = ls fn L := by kernel_rfl) : FnOk Pz f d :=
 fn_ok (xid := XID) (ro := ro) (H := H) mixed T.ok hf hb hn (loops_of hl ha) h
theorem fks {f : Nat} {fn : Func} {d : FnS} (T : Tb) (ro : Nat → Bool) (H : Hints) (hf : Pz.funcs[f]? = some fn) (L : List Nat) (ha : AllL Pz fn.ntmps H (ls fn L))
  (h : ∀ x,evFnSk (mkC Pz XID T.t ro) T.t H fn (bodyOf fn) d x = d.F x := by intro x; kernel_rfl) (hb : fn.body = some (bodyOf fn) := by rfl) (hn : (fn.name == "runtime.NumGoroutine") = false := by kernel_rfl) (hl : loopsOf (bodyOf fn) = ls fn L := by kernel_rfl) : FnSOk Pz f d :=
 fns_ok (xid := XID) (ro := ro) (H := H) mixed T.ok hf hb hn (loops_of hl ha) h
def hdB (c : Code) : Code := match c with | .seq _ b => b | _ => .skip
def hdO (c : Code) : Array Oper := match c with | .seq (.region _ ops _) _ => ops | _ => #[]
def hdI (c : Code) : Nat := match c with | .seq (.region id _ _) _ => id | _ => 0
theorem fkr {f : Nat} {fn : Func} {d : FnS} (T : Tb) (ro : Nat → Bool) (H : Hints) (hf : Pz.funcs[f]? = some fn)
  (h : ∀ x,evH (mkC Pz XID T.t ro) T.t H fn (hdO (bodyOf fn)) (hdB (bodyOf fn)) d d.ks.length none x = d.F x := by intro x; kernel_rfl) (hb : fn.body = some (.seq (.region (hdI (bodyOf fn)) (hdO (bodyOf fn)) false) (hdB (bodyOf fn))) := by kernel_rfl) (hn : (fn.name == "runtime.NumGoroutine") = false := by kernel_rfl) (hl : loopsOf (hdB (bodyOf fn)) = [] := by kernel_rfl) : FnSOkG (DrR Pz) f d :=
 hdlR_ok (xid := XID) (ro := ro) (H := H) mixed T.ok hf hb hn (noLoops hl) h
theorem fkh {f t : Nat} {fn : Func} {d : FnS} (T : Tb) (ro : Nat → Bool) (H : Hints) (hf : Pz.funcs[f]? = some fn) (k : Nat)
  (h : ∀ x,evH (mkC Pz XID T.t ro) T.t H fn (hdO (bodyOf fn)) (hdB (bodyOf fn)) d k (some t) x = d.F x := by intro x; kernel_rfl) (hk : d.ks.length = k + 1 := by kernel_rfl) (hb : fn.body = some (.seq (.region (hdI (bodyOf fn)) (hdO (bodyOf fn)) false) (hdB (bodyOf fn))) := by kernel_rfl) (hn : (fn.name == "runtime.NumGoroutine") = false := by kernel_rfl) (hl : loopsOf (hdB (bodyOf fn)) = [] := by kernel_rfl) : FnSOkG (DrP Pz t) f d :=
 hdlP_ok (xid := XID) (ro := ro) (H := H) mixed T.ok hf hb hn (noLoops hl) hk h
theorem failG {g : Nat} {d : FnS} (_ : FnSOkG (DrR Pz) g d) : FnSOkG (DrP Pz 0) g { d with F := fun _ => .fail } := fun _ _ _ _ _ hy => hy.elim
theorem fkf {f g pt : Nat} {fn : Func} {d d0 d1 : FnS} (T : Tb) (ro : Nat → Bool) (H : Hints) (h0 : FnSOkG (DrR Pz) g d0) (h1 : FnSOkG (DrP Pz pt) g d1) (hf : Pz.funcs[f]? = some fn)
  (h : ∀ x,evFnD (mkC Pz XID T.t ro) T.t H ⟨g,d0,pt,d1⟩ fn (bodyOf fn) d x = d.F x := by intro x; kernel_rfl) (hb : fn.body = some (bodyOf fn) := by rfl) (hn : (fn.name == "runtime.NumGoroutine") = false := by kernel_rfl) (hl : loopsOf (bodyOf fn) = [] := by kernel_rfl) : FnSOk Pz f d :=
 fnd_ok (xid := XID) (ro := ro) (H := H) mixed T.ok (h := ⟨g,d0,pt,d1⟩) h0 h1 hf hb hn hl h
theorem fkp {f : Nat} {fn : Func} {d : FnP} (T : Tb) (ro : Nat → Bool) (H : Hints) (hf : Pz.funcs[f]? = some fn) (L : List Nat) (ha : AllL Pz fn.ntmps H (ls fn L))
  (h : ∀ x,evFnPk (mkC Pz XID T.t ro) T.t H fn (bodyOf fn) d x = d.F x := by intro x; kernel_rfl) (hb : fn.body = some (bodyOf fn) := by rfl) (hn : (fn.name == "runtime.NumGoroutine") = false := by kernel_rfl) (hl : loopsOf (bodyOf fn) = ls fn L := by kernel_rfl) : FnPOk Pz f d :=
 fnp_ok (xid := XID) (ro := ro) (H := H) mixed T.ok hf hb hn (loops_of hl ha) h
abbrev Y17 := denPs [.ty .expr,.ty i64] → T (Tup [i64])
abbrev H17 (F : Y17) := FnOk Pz 17 ⟨[.ty .expr,.ty i64],[i64],F⟩
def T17 (F_17 : Y17) (h_17 : H17 F_17) : Tb := t0.d h_17
def lp17_0 (F_17 : Y17) : LoopD := Lz [] [Mr 2 .expr] ⟨[Mi 1,Mi 5],[],[]⟩ [⟨.exit 0,⟨[Mi 1],[],[]⟩⟩] fun p s => law5_weight_R0 (fun y0 y1 => F_17 (y0,y1)) p s
def h17 (F_17 : Y17) : Hints := Hz [(0,lp17_0 F_17)] [(0,3,.flat [Mb 32])] []
theorem lo17_0 (F_17 : Y17) (h_17 : H17 F_17) : LO Tryz.f17 (lp17_0 F_17) 0 := lk (T17 F_17 h_17) (rz [2]) (h17 F_17) [] lnil
theorem ok17_B (F_17 : Y17) (h_17 : H17 F_17) : FnOk Pz 17 ⟨[.ty .expr,.ty i64],[i64],fun x => law5_weight_B (fun y0 y1 => F_17 (y0,y1)) x.1 x.2⟩ := fkd (T17 F_17 h_17) (rz [2]) (h17 F_17) Tryz.func17 [0] (lcons rfl (lo17_0 F_17 h_17) lnil)
theorem ok17 : FnOk Pz 17 ⟨[.ty .expr,.ty i64],[i64],fun x => law5_weight x.1 x.2⟩ := fn_fix (fun F_17 x => law5_weight_B (fun y0 y1 => F_17 (y0,y1)) x.1 x.2) (fun x => rfl) (fun F_17 h_17 => ok17_B F_17 h_17)
def t1 := t0.d ok17
def h85 : Hints := Hz [] [(3,2,.flat [Mb 4])] []
theorem ok85 : FnOk Pz 85 ⟨[.ty i64],[i64],fun x => expr_kids x⟩ := fkd t1 rn h85 Tryz.func85 [] lnil
def t2 := t1.d ok85
def h127 : Hints := Hz [] [(0,1,.flat [Mb 2])] []
theorem ok127 : FnOk Pz 127 ⟨[.ty (.sl u32)],[.bool],fun x => nat_Is x⟩ := fkd t2 rn h127 Tryz.func127 [] lnil
def t3 := t2.d ok127
def lp108_0 : LoopD := Lz [] [] ⟨[Mm 0 (.sl u32)],[],[]⟩ [⟨.exit 0,⟨[Mm 0 (.sl u32)],[],[]⟩⟩] fun p s => nat_trim_R0  s
def h108 : Hints := Hz [(0,lp108_0)] [] []
theorem lo108_0 : LO Tryz.f108 lp108_0 0 := lk t3 rn h108 [] lnil
theorem ok108 : FnOk Pz 108 ⟨[.ty (.sl u32)],[(.sl u32)],fun x => nat_trim x⟩ := fkd t3 rn h108 Tryz.func108 [0] (lcons rfl lo108_0 lnil)
def t4 := t3.d ok108
def h128 : Hints := Hz [] [(0,1,.nilt)] []
theorem ok128 : FnOk Pz 128 ⟨[.ty (.sl u32)],[(.sl u32)],fun x => slices_Clone_sl_uint32 x⟩ := fkd t4 rn h128 Tryz.func128 [] lnil
def t5 := t4.d ok128
theorem ok110 : FnOk Pz 110 ⟨[.ty (.sl u32)],[(.sl u32)],fun x => nat_Trim x⟩ := fkd t5 rn hN Tryz.func110 [] lnil
def t6 := t5.d ok110
def lp109_0 : LoopD := Lz [] [Mm 0 (.sl u32),Mm 1 (.sl u32)] ⟨[Mi 5],[],[]⟩ [⟨.exit 0,⟨[],[],[]⟩⟩,⟨.ret,⟨[Mi 4],[],[]⟩⟩] fun p s => nat_Cmp_R0 p.1 p.2 s
def h109 : Hints := Hz [(0,lp109_0)] [] []
theorem lo109_0 : LO Tryz.f109 lp109_0 0 := lk t6 rn h109 [] lnil
theorem ok109 : FnOk Pz 109 ⟨[.ty (.sl u32),.ty (.sl u32)],[i64],fun x => nat_Cmp x.1 x.2⟩ := fkd t6 rn h109 Tryz.func109 [0] (lcons rfl lo109_0 lnil)
def t7 := t6.d ok109
def h129 : Hints := Hz [] [(0,1,.flat [Mb 15])] []
theorem ok129 : FnOk Pz 129 ⟨[.ty u32,.ty u32,.ty u32],[u32,u32],fun x => math_bits_Div32 x.1 x.2.1 x.2.2⟩ := fkd t7 rn h129 Tryz.func129 [] lnil
def t8 := t7.d ok129
def lp111_0 : LoopD := Lz [] [Mm 0 (.sl u32),Mm 1 u32] ⟨[Mm 7 u32,Mi 8,.a u32],[(6,.cur 0 u32)],[.arr u32]⟩ [⟨.exit 0,⟨[Mm 7 u32,.a u32],[(6,.cur 0 u32)],[.arr u32]⟩⟩] fun p s => nat_small_R0 p.1 p.2 s
def h111 : Hints := Hz [(0,lp111_0)] [] [(7,[6])]
theorem lo111_0 : LO Tryz.f111 lp111_0 0 := lk t8 rn h111 [] lnil
theorem ok111 : FnOk Pz 111 ⟨[.ty (.sl u32),.ty u32],[(.sl u32),u32],fun x => nat_small x.1 x.2⟩ := fkd t8 rn h111 Tryz.func111 [0] (lcons rfl lo111_0 lnil)
def t9 := t8.d ok111
theorem ok112 : FnOk Pz 112 ⟨[.ty (.int .u64)],[(.sl u32)],fun x => nat_Of x⟩ := fkd t9 rn hN Tryz.func112 [] lnil
def t10 := t9.d ok112
def h148 : Hints := Hz [] [(3,1,.flat [Mm 0 u32,Mi 2]),(3,4,.flat [Mm 0 u32,Mi 2])] []
theorem ok148 : FnOk Pz 148 ⟨[.ty u32],[i64],fun x => math_bits_Len32 x⟩ := fkd t10 rn h148 Tryz.func148 [] lnil
def t11 := t10.d ok148
theorem ok130 : FnOk Pz 130 ⟨[.ty u32],[i64],fun x => math_bits_LeadingZeros32 x⟩ := fkd t11 rn hN Tryz.func130 [] lnil
def t12 := t11.d ok130
def lp131_0 : LoopD := Lz [] [Mm 1 (.int .u64),Mi 2,Mm 13 (.sl u32),Mi 14] ⟨[Mi 15,.a u32],[(7,.cur 0 u32)],[.arr u32]⟩ [⟨.exit 0,⟨[.a u32],[(7,.cur 0 u32)],[.arr u32]⟩⟩] fun p s => nat_left_S_R0 p.1 p.2.1 p.2.2.1 p.2.2.2 s
def h131 : Hints := Hz [(0,lp131_0)] [] []
theorem lo131_0 : LO Tryz.f131 lp131_0 0 := lk t12 rn h131 [] lnil
theorem ok131 : FnSOk Pz 131 ⟨[.any,.any,.any],⟨[Mm 0 (.sl u32),Mm 1 (.int .u64),Mi 2],[],[]⟩,[],⟨[.a u32],[(0,.cur 0 u32)],[.arr u32]⟩,1,fun x => nat_left_S x.1 x.2.1 x.2.2⟩ := fks t12 rn h131 Tryz.func131 [0] (lcons rfl lo131_0 lnil)
def t13 := t12.s ok131
def lp132_0 : LoopD := Lz [] [Mm 2 u32,Mm 3 u32,Mm 4 u32] ⟨[Mm 12 (.int .u64),Mm 13 (.int .u64)],[],[]⟩ [⟨.exit 0,⟨[Mm 12 (.int .u64)],[],[]⟩⟩] fun p s => nat_guess_R0 p.1 p.2.1 p.2.2 s
def h132 : Hints := Hz [(0,lp132_0)] [(0,3,.flat [Mb 42])] []
theorem lo132_0 : LO Tryz.f132 lp132_0 0 := lk t13 rn h132 [] lnil
theorem ok132 : FnOk Pz 132 ⟨[.ty u32,.ty u32,.ty u32,.ty u32,.ty u32],[(.int .u64)],fun x => nat_guess x.1 x.2.1 x.2.2.1 x.2.2.2.1 x.2.2.2.2⟩ := fkd t13 rn h132 Tryz.func132 [0] (lcons rfl lo132_0 lnil)
def t14 := t13.d ok132
theorem ok149 : FnOk Pz 149 ⟨[.ty u32,.ty u32,.ty u32],[u32,u32],fun x => math_bits_Sub32 x.1 x.2.1 x.2.2⟩ := fkd t14 rn hN Tryz.func149 [] lnil
def t15 := t14.d ok149
theorem ok150 : FnOk Pz 150 ⟨[.ty u32,.ty u32,.ty u32],[u32,u32],fun x => math_bits_Add32 x.1 x.2.1 x.2.2⟩ := fkd t15 rn hN Tryz.func150 [] lnil
def t16 := t15.d ok150
def lp133_0 : LoopD := Lz [] [Mm 1 (.sl u32),Mm 2 (.int .u64),Mm 14 (.sl u32),Mi 15] ⟨[.s 0 (.sub 0 u32),Mm 7 (.int .u64),Mm 8 u32,Mi 16,.a u32],[],[.arr u32]⟩ [⟨.exit 0,⟨[.s 0 (.sub 0 u32),Mm 7 (.int .u64),Mm 8 u32,.a u32],[],[.arr u32]⟩⟩] fun p s => nat_takes_S_R0 p.1 p.2.1 p.2.2.1 p.2.2.2 s
def lp133_2 : LoopD := Lz [] [Mm 1 (.sl u32),Mm 62 (.sl u32),Mi 63] ⟨[.s 0 (.sub 0 u32),Mm 11 u32,Mi 64,.a u32],[],[.arr u32]⟩ [⟨.exit 2,⟨[.s 0 (.sub 0 u32),Mm 11 u32,.a u32],[],[.arr u32]⟩⟩] fun p s => nat_takes_S_R1 p.1 p.2.1 p.2.2 s
def h133 : Hints := Hz [(0,lp133_0),(2,lp133_2)] [] []
theorem lo133_0 : LO Tryz.f133 lp133_0 0 := lk t16 rn h133 [] lnil
theorem lo133_2 : LO Tryz.f133 lp133_2 2 := lk t16 rn h133 [] lnil
theorem ok133 : FnSOk Pz 133 ⟨[.sub,.any,.any],⟨[.s 0 (.sub 0 u32),Mm 1 (.sl u32),Mm 2 (.int .u64),.a u32],[],[.arr u32]⟩,[],⟨[Mb 0,.a u32],[],[.arr u32]⟩,1,fun x => nat_takes_S x.1 x.2.1 x.2.2.1 x.2.2.2⟩ := fks t16 rn h133 Tryz.func133 [0,2] (lcons rfl lo133_0 (lcons rfl lo133_2 lnil))
def t17 := t16.s ok133
def lp131_1_0 : LoopD := Lz [] [Mm 1 (.int .u64),Mi 2,Mm 13 (.sl u32),Mi 14] ⟨[Mi 15,.a u32],[(7,.cur 0 u32)],[.arr u32]⟩ [⟨.exit 0,⟨[.a u32],[(7,.cur 0 u32)],[.arr u32]⟩⟩] fun p s => nat_left_R0 p.1 p.2.1 p.2.2.1 p.2.2.2 s
def h131_1 : Hints := Hz [(0,lp131_1_0)] [] []
theorem lo131_1_0 : LO Tryz.f131 lp131_1_0 0 := lk t17 rn h131_1 [] lnil
theorem ok131_1 : FnOk Pz 131 ⟨[.ty (.sl u32),.ty (.int .u64),.ty i64],[(.sl u32)],fun x => nat_left x.1 x.2.1 x.2.2⟩ := fkd t17 rn h131_1 Tryz.func131 [0] (lcons rfl lo131_1_0 lnil)
def t18 := t17.d ok131_1
def T134 : Tb := t18.d ok131_1
def lp134_0 : LoopD := Lz [] [Mm 6 (.int .u64),Mm 38 (.sl u32),Mi 39] ⟨[Mi 40,.a u32],[(7,.cur 0 u32)],[.arr u32]⟩ [⟨.exit 0,⟨[.a u32],[(7,.cur 0 u32)],[.arr u32]⟩⟩] fun p s => nat_Shift_R0 p.1 p.2.1 p.2.2 s
def h134 : Hints := Hz [(0,lp134_0)] [] [(17,[7]),(21,[12])]
theorem lo134_0 : LO Tryz.f134 lp134_0 0 := lk T134 rn h134 [] lnil
theorem ok134 : FnOk Pz 134 ⟨[.ty (.sl u32),.ty i64],[(.sl u32)],fun x => nat_Shift x.1 x.2⟩ := fkd T134 rn h134 Tryz.func134 [0] (lcons rfl lo134_0 lnil)
def t19 := t18.d ok134
def T113 : Tb := t19.s ok131
def lp113_0 : LoopD := Lz [] [Mm 6 (.int .u64),Mm 8 (.sl u32),Mi 9] ⟨[Mi 10,.a u32,.a u32],[(4,.cur 2 u32),(7,.cur 0 u32)],[.arr u32,.dead,.arr u32]⟩ [⟨.exit 0,⟨[.a u32,.a u32],[(4,.cur 2 u32),(7,.cur 0 u32)],[.arr u32,.dead,.arr u32]⟩⟩] fun p s => nat_long_R0 p.1 p.2.1 p.2.2 s
def h113 : Hints := Hz [(0,lp113_0)] [(3,9,.ways [⟨.normal,⟨[Mm 11 (.int .u64),.a u32,.a u32],[(4,.cur 2 u32),(7,.cur 0 u32)],[.arr u32,.dead,.arr u32]⟩⟩])] [(5,[8]),(12,[4,7])]
theorem lo113_0 : LO Tryz.f113 lp113_0 0 := lk T113 rn h113 [] lnil
theorem ok113 : FnOk Pz 113 ⟨[.ty (.sl u32),.ty (.sl u32)],[(.sl u32),(.sl u32)],fun x => nat_long x.1 x.2⟩ := fkd T113 rn h113 Tryz.func113 [0] (lcons rfl lo113_0 lnil)
def t20 := t19.d ok113
theorem ok79 : FnOk Pz 79 ⟨[.ty (.sl u32),.ty (.sl u32)],[(.sl u32),(.sl u32),.bool],fun x => nat_DivMod x.1 x.2⟩ := fkd t20 rn hN Tryz.func79 [] lnil
def t21 := t20.d ok79
def lp118_0 : LoopD := Lz [] [] ⟨[Mm 0 (.sl u32),Mm 1 (.sl u32)],[],[]⟩ [⟨.exit 0,⟨[Mm 0 (.sl u32)],[],[]⟩⟩] fun p s => nat_Gcd_R0  s
def h118 : Hints := Hz [(0,lp118_0)] [] []
theorem lo118_0 : LO Tryz.f118 lp118_0 0 := lk t21 rn h118 [] lnil
theorem ok118 : FnOk Pz 118 ⟨[.ty (.sl u32),.ty (.sl u32)],[(.sl u32)],fun x => nat_Gcd x.1 x.2⟩ := fkd t21 rn h118 Tryz.func118 [0] (lcons rfl lo118_0 lnil)
def t22 := t21.d ok118
def h116 : Hints := Hz [] [(0,1,.ways [⟨.normal,⟨[Mb 28],[],[]⟩⟩])] []
theorem ok116 : FnOk Pz 116 ⟨[.ty tyRat],[.bool],fun x => rat_Is x⟩ := fkd t22 (rz [1]) h116 Tryz.func116 [] lnil
def t23 := t22.d ok116
def h90 : Hints := Hz [] [(0,2,.flat [Mb 19])] []
theorem ok90 : FnOk Pz 90 ⟨[.ty .bool,.ty (.sl u32),.ty (.sl u32)],[tyRat],fun x => rat_Of x.1 x.2.1 x.2.2⟩ := fkd t23 rn h90 Tryz.func90 [] lnil
def t24 := t23.d ok90
theorem ok67 : FnOk Pz 67 ⟨[.ty tyRat],[tyRat],fun x => rat_Norm x⟩ := fkd t24 (rz [1]) hN Tryz.func67 [] lnil
def t25 := t24.d ok67
def h117 : Hints := Hz [] [(0,2,.flat [Mb 2])] []
theorem ok117 : FnOk Pz 117 ⟨[.ty tyRat],[.bool],fun x => rat_Large x⟩ := fkd t25 rn h117 Tryz.func117 [] lnil
def t26 := t25.d ok117
def lp80_2 : LoopD := Lz [] [Mm 1 (.sl u32),Mi 6,Mm 7 u32,Mm 21 (.sl u32),Mi 22,Mi 23,Mm 28 (.sl u32),Mi 29] ⟨[Mm 8 (.int .u64),Mi 30,.a u32],[(5,.cur 0 u32)],[.arr u32]⟩ [⟨.exit 2,⟨[Mm 8 (.int .u64),.a u32],[(5,.cur 0 u32)],[.arr u32]⟩⟩] fun p s => nat_Mul_R1 p.1 p.2.1 p.2.2.1 p.2.2.2.1 p.2.2.2.2.1 p.2.2.2.2.2.1 p.2.2.2.2.2.2.1 p.2.2.2.2.2.2.2 s
def lp80_0 : LoopD := Lz [] [Mm 1 (.sl u32),Mm 21 (.sl u32),Mi 22] ⟨[Mi 23,.a u32],[(5,.cur 0 u32)],[.arr u32]⟩ [⟨.exit 0,⟨[.a u32],[(5,.cur 0 u32)],[.arr u32]⟩⟩] fun p s => nat_Mul_R0 p.1 p.2.1 p.2.2 s
def h80 : Hints := Hz [(2,lp80_2),(0,lp80_0)] [] [(16,[5])]
theorem lo80_2 : LO Tryz.f80 lp80_2 2 := lk t26 rn h80 [] lnil
theorem lo80_0 : LO Tryz.f80 lp80_0 0 := lk t26 rn h80 [2] (lcons rfl lo80_2 lnil)
theorem ok80 : FnOk Pz 80 ⟨[.ty (.sl u32),.ty (.sl u32)],[(.sl u32)],fun x => nat_Mul x.1 x.2⟩ := fkd t26 rn h80 Tryz.func80 [0] (lcons rfl lo80_0 lnil)
def t27 := t26.d ok80
def lp81_0 : LoopD := Lz [] [Mi 5] ⟨[Mm 3 (.sl u32),Mi 6],[],[]⟩ [⟨.exit 0,⟨[Mm 3 (.sl u32)],[],[]⟩⟩] fun p s => dec_ten_R0 p s
def h81 : Hints := Hz [(0,lp81_0)] [] []
theorem lo81_0 : LO Tryz.f81 lp81_0 0 := lk t27 rn h81 [] lnil
theorem ok81 : FnOk Pz 81 ⟨[.ty i64],[(.sl u32)],fun x => dec_ten x⟩ := fkd t27 rn h81 Tryz.func81 [0] (lcons rfl lo81_0 lnil)
def t28 := t27.d ok81
theorem ok82 : FnOk Pz 82 ⟨[.ty tyRat],[.str],fun x => dec_sign x⟩ := fkd t28 (rz [1]) hN Tryz.func82 [] lnil
def t29 := t28.d ok82
def lp115_0 : LoopD := Lz [] [] ⟨[.s 0 (.sub 0 (.int .u8)),Mi 2,Mi 3,.a (.int .u8)],[],[.arr (.int .u8)]⟩ [⟨.exit 0,⟨[.a (.int .u8)],[],[.arr (.int .u8)]⟩⟩] fun p s => slices_Reverse_sl_byte_S_R0  s
def h115 : Hints := Hz [(0,lp115_0)] [] []
theorem lo115_0 : LO Tryz.f115 lp115_0 0 := lk t29 rn h115 [] lnil
theorem ok115 : FnSOk Pz 115 ⟨[.sub],⟨[.s 0 (.sub 0 (.int .u8)),.a (.int .u8)],[],[.arr (.int .u8)]⟩,[],⟨[.a (.int .u8)],[],[.arr (.int .u8)]⟩,0,fun x => slices_Reverse_sl_byte_S x.1 x.2⟩ := fks t29 rn h115 Tryz.func115 [0] (lcons rfl lo115_0 lnil)
def t30 := t29.s ok115
def lp84_2 : LoopD := Lz [] [Mm 4 (.sl u32)] ⟨[Mm 5 u32,Mi 19,.a (.int .u8)],[(3,.cur 0 (.int .u8))],[.arr (.int .u8)]⟩ [⟨.exit 2,⟨[.a (.int .u8)],[(3,.cur 0 (.int .u8))],[.arr (.int .u8)]⟩⟩] fun p s => nat_Print_R1 p s
def lp84_0 : LoopD := Lz [.slot 3 (.int .u8)] [] ⟨[Mm 0 (.sl u32),.a (.int .u8)],[(3,.cur 0 (.int .u8))],[.arr (.int .u8)]⟩ [⟨.exit 0,⟨[.a (.int .u8)],[(3,.cur 0 (.int .u8))],[.arr (.int .u8)]⟩⟩] fun p s => nat_Print_R0  s
def lp84_4 : LoopD := Lz [] [] ⟨[.s 3 (.sub 0 (.int .u8)),.a (.int .u8)],[],[.arr (.int .u8)]⟩ [⟨.exit 4,⟨[.s 3 (.sub 0 (.int .u8)),.a (.int .u8)],[],[.arr (.int .u8)]⟩⟩] fun p s => nat_Print_R2  s
def h84 : Hints := Hz [(2,lp84_2),(0,lp84_0),(4,lp84_4)] [(0,13,.flat [Mb 42])] []
theorem lo84_2 : LO Tryz.f84 lp84_2 2 := lk t30 rn h84 [] lnil
theorem lo84_0 : LO Tryz.f84 lp84_0 0 := lk t30 rn h84 [2] (lcons rfl lo84_2 lnil)
theorem lo84_4 : LO Tryz.f84 lp84_4 4 := lk t30 rn h84 [] lnil
theorem ok84 : FnOk Pz 84 ⟨[.ty (.sl u32)],[.str],fun x => nat_Print x⟩ := fkd t30 rn h84 Tryz.func84 [0,4] (lcons rfl lo84_0 (lcons rfl lo84_4 lnil))
def t31 := t30.d ok84
theorem ok114 : FnOk Tryz.prog 114 ⟨[.ty .str,.ty i64],[.str],fun x => strings_Repeat x.1 x.2⟩ := by
 refine fn_of_calls Tryz.func114 (by kernel_rfl) rfl fun κ x cargs y hy hI ha => ?_
 obtain ⟨s,n⟩ := x
 obtain ⟨⟨h0,h1,h2⟩,hy⟩ := hy
 cases hy
 obtain ⟨v0,r,rfl,ha0,ha⟩ := RDs.cons_inv (show RDs κ [.imm .str s,.imm i64 n] cargs from ha)
 obtain ⟨v1,r,rfl,ha1,ha⟩ := ha.cons_inv
 rw [ha.nil_inv,ha0.str_inv,ha1.int_inv]
 obtain ⟨m,rfl⟩ := Int.eq_ofNat_of_zero_le h0
 refine (Go.Proofs.Tryz.strings_Repeat ⟨s.toArray⟩ m κ.w (by simp only at h1; omega) (by rw [show (ByteArray.size ⟨s.toArray⟩) = List.length s from List.size_toArray]; simpa using h2)).mono ?_
 rintro e w' ⟨rfl,hB⟩
 refine ⟨hB,fun _ => ⟨_,rfl,?_⟩⟩
 have e1 : Lib.repeatL s m = repS s m := repS_eq s m
 have e2 : (Int.toNat (m : Int)) = m := by omega
 show RD _ (.imm .str (repS s (Int.toNat (m : Int)))) _
 rw [e2,← e1]
 exact RD.str
def t32 := t31.d ok114
theorem ok83 : FnOk Pz 83 ⟨[.ty .str,.ty i64],[.str],fun x => dec_pointed x.1 x.2⟩ := fkd t32 rn hN Tryz.func83 [] lnil
def t33 := t32.d ok83
def lp59_0 : LoopD := Lz [] [] ⟨[Mi 10,.v (.imm tyRat)],[(1,.ptr 0 0)],[.var (.imm tyRat)]⟩ [⟨.exit 0,⟨[.v (.imm tyRat)],[],[.var (.imm tyRat)]⟩⟩,⟨.ret,⟨[Ms 2,Mb 3,.v (.imm tyRat)],[],[.var (.imm tyRat)]⟩⟩] fun p s => dec_Exact_R0  s
def h59 : Hints := Hz [(0,lp59_0)] [] []
theorem lo59_0 : LO Tryz.f59 lp59_0 0 := lk t33 rn h59 [] lnil
theorem ok59 : FnOk Pz 59 ⟨[.ty tyRat],[.str,.bool],fun x => dec_Exact x⟩ := fkd t33 rn h59 Tryz.func59 [0] (lcons rfl lo59_0 lnil)
def t34 := t33.d ok59
def h86 : Hints := Hz [] [(0,1,.ways [⟨.normal,⟨[Mb 15],[],[]⟩⟩])] []
theorem ok86 : FnOk Pz 86 ⟨[.ty tyRat],[.bool],fun x => expr_isNum x⟩ := fkd t34 (rz [1]) h86 Tryz.func86 [] lnil
def t35 := t34.d ok86
theorem ok87 : FnOk Pz 87 ⟨[.ty tyRat],[.bool],fun x => expr_isNone x⟩ := fkd t35 (rz [1]) hN Tryz.func87 [] lnil
def t36 := t35.d ok87
def h35 : Hints := Hz [] [(0,1,.flat [Mb 2])] []
theorem ok35 : FnOk Pz 35 ⟨[.ty (.int .u8)],[.bool],fun x => expr_isLetter x⟩ := fkd t36 rn h35 Tryz.func35 [] lnil
def t37 := t36.d ok35
def h55 : Hints := Hz [] [(0,1,.flat [Mb 2])] []
theorem ok55 : FnOk Pz 55 ⟨[.ty (.int .u8)],[.bool],fun x => expr_isDigit x⟩ := fkd t37 rn h55 Tryz.func55 [] lnil
def t38 := t37.d ok55
theorem ok36 : FnOk Pz 36 ⟨[.ty (.int .u8)],[.bool],fun x => expr_isInner x⟩ := fkd t38 rn hN Tryz.func36 [] lnil
def t39 := t38.d ok36
def lp14_0 : LoopD := Lz [] [Ms 0,Mi 18] ⟨[Mi 19],[],[]⟩ [⟨.exit 0,⟨[],[],[]⟩⟩,⟨.ret,⟨[Mb 2],[],[]⟩⟩] fun p s => expr_Name_R0 p.1 p.2 s
def h14 : Hints := Hz [(0,lp14_0)] [(0,1,.ways [⟨.normal,⟨[Mb 16],[],[]⟩⟩])] []
theorem lo14_0 : LO Tryz.f14 lp14_0 0 := lk t39 rn h14 [] lnil
theorem ok14 : FnOk Pz 14 ⟨[.ty .str],[.bool],fun x => expr_Name x⟩ := fkd t39 rn h14 Tryz.func14 [0] (lcons rfl lo14_0 lnil)
def t40 := t39.d ok14
theorem ok62 : FnOk Pz 62 ⟨[.ty .expr],[.bool],fun x => expr_isNode x⟩ := fkd t40 (rz [1]) hN Tryz.func62 [] lnil
def t41 := t40.d ok62
abbrev Y41 := Shp.den ⟨[Mm 0 .expr,Mi 1,.v (.imm i64)],[(2,.ptr 0 0)],[.var (.imm i64)]⟩ → T (Shp.den ⟨[Mb 0,.v (.imm i64)],[],[.var (.imm i64)]⟩)
abbrev H41 (F : Y41) := FnSOk Pz 41 ⟨[.any,.any,.ptr],⟨[Mm 0 .expr,Mi 1,.v (.imm i64)],[(2,.ptr 0 0)],[.var (.imm i64)]⟩,[],⟨[Mb 0,.v (.imm i64)],[],[.var (.imm i64)]⟩,1,F⟩
theorem ok64 (F_41 : Y41) (h_41 : H41 F_41) : FnSOk Pz 64 ⟨[.any,.any,.ptr],⟨[Mm 0 .expr,Mr 1 i64,.v (.imm i64)],[(2,.ptr 0 0)],[.cvar (.ptr 1 0),.var (.imm i64)]⟩,[],⟨[Mb 0,.v (.imm i64)],[],[.cvar (.ptr 1 0),.var (.imm i64)]⟩,1,fun x => expr_may_f1_S (fun y0 y1 y2 => F_41 (y0,y1,y2)) x.1 x.2.1 x.2.2⟩ := fks (t41.s h_41) (rz [3]) hN Tryz.func64 [] lnil
def T88 (F_41 : Y41) (h_41 : H41 F_41) : Tb := t41.s (ok64 _ h_41)
def lp88_0 (F_41 : Y41) : LoopD := Lz [] [Mm 0 (.sl .expr),Mi 7] ⟨[.s 1 (.mclo 64 [.rp i64,.pt 0]),Mi 8,.v (.imm i64)],[],[.cvar (.ptr 1 0),.var (.imm i64)]⟩ [⟨.exit 0,⟨[.v (.imm i64)],[],[.cvar (.ptr 1 0),.var (.imm i64)]⟩⟩,⟨.ret,⟨[Mi 4,.v (.imm i64)],[],[.cvar (.ptr 1 0),.var (.imm i64)]⟩⟩] fun p s => slices_IndexFunc_sl_Expr_expr_may_f1_S_R0 (fun y0 y1 y2 => F_41 (y0,y1,y2)) p.1 p.2 s
def h88 (F_41 : Y41) : Hints := Hz [(0,lp88_0 F_41)] [] []
theorem lo88_0 (F_41 : Y41) (h_41 : H41 F_41) : LO Tryz.f88 (lp88_0 F_41) 0 := lk (T88 F_41 h_41) rn (h88 F_41) [] lnil
theorem ok88 (F_41 : Y41) (h_41 : H41 F_41) : FnSOk Pz 88 ⟨[.any,.clo 64],⟨[Mm 0 (.sl .expr),.s 1 (.mclo 64 [.rp i64,.pt 0]),.v (.imm i64)],[],[.cvar (.ptr 1 0),.var (.imm i64)]⟩,[],⟨[Mi 0,.v (.imm i64)],[],[.cvar (.ptr 1 0),.var (.imm i64)]⟩,1,fun x => slices_IndexFunc_sl_Expr_expr_may_f1_S (fun y0 y1 y2 => F_41 (y0,y1,y2)) x.1 x.2.1 x.2.2⟩ := fks (T88 F_41 h_41) rn (h88 F_41) Tryz.func88 [0] (lcons rfl (lo88_0 F_41 h_41) lnil)
theorem ok63 (F_41 : Y41) (h_41 : H41 F_41) : FnSOk Pz 63 ⟨[.any,.clo 64],⟨[Mm 0 (.sl .expr),.s 1 (.mclo 64 [.rp i64,.pt 0]),.v (.imm i64)],[],[.cvar (.ptr 1 0),.var (.imm i64)]⟩,[],⟨[Mb 0,.v (.imm i64)],[],[.cvar (.ptr 1 0),.var (.imm i64)]⟩,1,fun x => slices_ContainsFunc_sl_Expr_expr_may_f1_S (fun y0 y1 y2 => F_41 (y0,y1,y2)) x.1 x.2.1 x.2.2⟩ := fks (t41.s (ok88 _ h_41)) rn hN Tryz.func63 [] lnil
def h41 (F_41 : Y41) : Hints := Hz [] [(0,2,.ways [⟨.normal,⟨[Mb 24,.v (.imm i64)],[],[.var (.imm i64),.cvar (.ptr 0 0)]⟩⟩])] []
theorem ok41_B (F_41 : Y41) (h_41 : H41 F_41) : FnSOk Pz 41 ⟨[.any,.any,.ptr],⟨[Mm 0 .expr,Mi 1,.v (.imm i64)],[(2,.ptr 0 0)],[.var (.imm i64)]⟩,[],⟨[Mb 0,.v (.imm i64)],[],[.var (.imm i64)]⟩,1,fun x => expr_may_S_B (fun y0 y1 y2 => F_41 (y0,y1,y2)) x.1 x.2.1 x.2.2⟩ := fks (t41.s (ok63 _ h_41)) (rz [3,4]) (h41 F_41) Tryz.func41 [] lnil
theorem ok41 : FnSOk Pz 41 ⟨[.any,.any,.ptr],⟨[Mm 0 .expr,Mi 1,.v (.imm i64)],[(2,.ptr 0 0)],[.var (.imm i64)]⟩,[],⟨[Mb 0,.v (.imm i64)],[],[.var (.imm i64)]⟩,1,fun x => expr_may_S x.1 x.2.1 x.2.2⟩ := fns_fix (fun F_41 x => expr_may_S_B (fun y0 y1 y2 => F_41 (y0,y1,y2)) x.1 x.2.1 x.2.2) (fun x => rfl) (fun F_41 h_41 => ok41_B F_41 h_41)
def t42 := t41.s ok41
theorem ok20 : FnOk Pz 20 ⟨[.ty .expr],[.bool],fun x => expr_Is x⟩ := fkd t42 (rz [1]) hN Tryz.func20 [] lnil
def t43 := t42.d ok20
def h61 : Hints := Hz [] [(3,2,.flat [Mb 5]),(3,5,.flat [Mb 8])] []
theorem ok61 : FnOk Pz 61 ⟨[.ty .expr],[i64],fun x => expr_binds x⟩ := fkd t43 (rz [1]) h61 Tryz.func61 [] lnil
def t44 := t43.d ok61
abbrev Y40 := denPs [.ty .expr] → T (Tup [.str])
abbrev H40 (F : Y40) := FnOk Pz 40 ⟨[.ty .expr],[.str],F⟩
theorem ok60 (F_40 : Y40) (h_40 : H40 F_40) : FnOk Pz 60 ⟨[.ty .expr,.ty i64],[.str],fun x => expr_placed (fun y0 => F_40 (y0)) x.1 x.2⟩ := fkd (t44.d h_40) (rz [2]) hN Tryz.func60 [] lnil
def h40 (F_40 : Y40) : Hints := Hz [] [(3,2,.ways [⟨.normal,⟨[Ms 3],[],[]⟩⟩,⟨.ret,⟨[Ms 2],[],[]⟩⟩])] []
theorem ok40_B (F_40 : Y40) (h_40 : H40 F_40) : FnOk Pz 40 ⟨[.ty .expr],[.str],fun x => expr_print_B (fun y0 => F_40 (y0)) x⟩ := fkd (t44.d (ok60 _ h_40)) (rz [1]) (h40 F_40) Tryz.func40 [] lnil
theorem ok40 : FnOk Pz 40 ⟨[.ty .expr],[.str],fun x => expr_print x⟩ := fn_fix (fun F_40 x => expr_print_B (fun y0 => F_40 (y0)) x) (fun x => rfl) (fun F_40 h_40 => ok40_B F_40 h_40)
def t45 := t44.d ok40
theorem ok19 : FnOk Pz 19 ⟨[.ty .expr],[.str],fun x => expr_Print x⟩ := fkd t45 (rz [1]) hN Tryz.func19 [] lnil
def t46 := t45.d ok19
def lp72_0 : LoopD := Lz [] [Mm 0 (.sl u32)] ⟨[Mi 3],[],[]⟩ [⟨.exit 0,⟨[Mi 3],[],[]⟩⟩] fun p s => ref1_Trim_R0 p s
def h72 : Hints := Hz [(0,lp72_0)] [(0,2,.flat [Mb 15])] []
theorem lo72_0 : LO Tryz.f72 lp72_0 0 := lk t46 rn h72 [] lnil
theorem ok72 : FnOk Pz 72 ⟨[.ty (.sl u32)],[(.sl u32)],fun x => ref1_Trim x⟩ := fkd t46 rn h72 Tryz.func72 [0] (lcons rfl lo72_0 lnil)
def t47 := t46.d ok72
def lp98_0 : LoopD := Lz [] [Mm 4 (.sl u32)] ⟨[Mm 5 (.int .u64),Mi 6],[],[]⟩ [⟨.exit 0,⟨[Mm 5 (.int .u64)],[],[]⟩⟩] fun p s => ref1_To_R0 p s
def h98 : Hints := Hz [(0,lp98_0)] [] []
theorem lo98_0 : LO Tryz.f98 lp98_0 0 := lk t47 rn h98 [] lnil
theorem ok98 : FnOk Pz 98 ⟨[.ty (.sl u32)],[(.int .u64),.bool],fun x => ref1_To x⟩ := fkd t47 rn h98 Tryz.func98 [0] (lcons rfl lo98_0 lnil)
def t48 := t47.d ok98
theorem ok99 : FnOk Pz 99 ⟨[.ty (.int .u64)],[(.sl u32)],fun x => ref1_Of x⟩ := fkd t48 rn hN Tryz.func99 [] lnil
def t49 := t48.d ok99
def lp100_0 : LoopD := Lz [] [Mm 0 (.sl u32),Mm 1 (.int .u64)] ⟨[Mm 7 (.int .u64),Mi 8,.a u32],[(6,.cur 0 u32)],[.arr u32]⟩ [⟨.exit 0,⟨[Mm 7 (.int .u64),.a u32],[(6,.cur 0 u32)],[.arr u32]⟩⟩] fun p s => ref1_small_R0 p.1 p.2 s
def h100 : Hints := Hz [(0,lp100_0)] [] [(9,[6])]
theorem lo100_0 : LO Tryz.f100 lp100_0 0 := lk t49 rn h100 [] lnil
theorem ok100 : FnOk Pz 100 ⟨[.ty (.sl u32),.ty (.int .u64)],[(.sl u32),(.int .u64)],fun x => ref1_small x.1 x.2⟩ := fkd t49 rn h100 Tryz.func100 [0] (lcons rfl lo100_0 lnil)
def t50 := t49.d ok100
theorem ok105 : FnOk Pz 105 ⟨[.ty (.sl u32),.ty i64],[(.int .u64)],fun x => ref1_at x.1 x.2⟩ := fkd t50 rn hN Tryz.func105 [] lnil
def t51 := t50.d ok105
def lp101_0 : LoopD := Lz [.slot 8 u32] [Mm 5 (.sl u32),Mm 7 (.int .u64)] ⟨[Mi 9,.a u32],[(8,.cur 0 u32)],[.arr u32]⟩ [⟨.exit 0,⟨[.a u32],[(8,.cur 0 u32)],[.arr u32]⟩⟩] fun p s => ref1_Shift_R0 p.1 p.2 s
def lp101_2 : LoopD := Lz [] [Mm 5 (.sl u32),Mm 11 (.int .u64)] ⟨[Mm 12 (.int .u64),Mi 13,.a u32],[(10,.cur 0 u32)],[.arr u32]⟩ [⟨.exit 2,⟨[.a u32],[(10,.cur 0 u32)],[.arr u32]⟩⟩] fun p s => ref1_Shift_R1 p.1 p.2 s
def h101 : Hints := Hz [(0,lp101_0),(2,lp101_2)] [] [(14,[8]),(24,[10])]
theorem lo101_0 : LO Tryz.f101 lp101_0 0 := lk t51 rn h101 [] lnil
theorem lo101_2 : LO Tryz.f101 lp101_2 2 := lk t51 rn h101 [] lnil
theorem ok101 : FnOk Pz 101 ⟨[.ty (.sl u32),.ty i64],[(.sl u32)],fun x => ref1_Shift x.1 x.2⟩ := fkd t51 rn h101 Tryz.func101 [0,2] (lcons rfl lo101_0 (lcons rfl lo101_2 lnil))
def t52 := t51.d ok101
def lp102_0 : LoopD := Lz [.slot 5 u32] [Mm 0 (.sl u32),Mm 1 (.sl u32)] ⟨[Mm 6 (.int .u64),Mi 7,.a u32],[(5,.cur 0 u32)],[.arr u32]⟩ [⟨.exit 0,⟨[.a u32],[(5,.cur 0 u32)],[.arr u32]⟩⟩] fun p s => ref1_Add_R0 p.1 p.2 s
def h102 : Hints := Hz [(0,lp102_0)] [] [(9,[5])]
theorem lo102_0 : LO Tryz.f102 lp102_0 0 := lk t52 rn h102 [] lnil
theorem ok102 : FnOk Pz 102 ⟨[.ty (.sl u32),.ty (.sl u32)],[(.sl u32)],fun x => ref1_Add x.1 x.2⟩ := fkd t52 rn h102 Tryz.func102 [0] (lcons rfl lo102_0 lnil)
def t53 := t52.d ok102
def lp103_0 : LoopD := Lz [] [Mm 5 (.sl u32),Mm 6 (.sl u32)] ⟨[Mi 7],[],[]⟩ [⟨.exit 0,⟨[],[],[]⟩⟩,⟨.ret,⟨[Mi 4],[],[]⟩⟩] fun p s => ref1_Cmp_R0 p.1 p.2 s
def h103 : Hints := Hz [(0,lp103_0)] [] []
theorem lo103_0 : LO Tryz.f103 lp103_0 0 := lk t53 rn h103 [] lnil
theorem ok103 : FnOk Pz 103 ⟨[.ty (.sl u32),.ty (.sl u32)],[i64],fun x => ref1_Cmp x.1 x.2⟩ := fkd t53 rn h103 Tryz.func103 [0] (lcons rfl lo103_0 lnil)
def t54 := t53.d ok103
def lp104_0 : LoopD := Lz [.slot 6 u32] [Mm 0 (.sl u32),Mm 1 (.sl u32)] ⟨[Mm 7 (.int .u64),Mi 8,.a u32],[(6,.cur 0 u32)],[.arr u32]⟩ [⟨.exit 0,⟨[.a u32],[(6,.cur 0 u32)],[.arr u32]⟩⟩] fun p s => ref1_Sub_R0 p.1 p.2 s
def h104 : Hints := Hz [(0,lp104_0)] [(3,10,.flat [Mm 7 (.int .u64),Mm 9 (.int .u64)])] [(14,[6])]
theorem lo104_0 : LO Tryz.f104 lp104_0 0 := lk t54 rn h104 [] lnil
theorem ok104 : FnOk Pz 104 ⟨[.ty (.sl u32),.ty (.sl u32)],[(.sl u32),.bool],fun x => ref1_Sub x.1 x.2⟩ := fkd t54 rn h104 Tryz.func104 [0] (lcons rfl lo104_0 lnil)
def t55 := t54.d ok104
def lp74_0 : LoopD := Lz [] [Mm 0 (.sl u32),Mm 1 (.sl u32)] ⟨[Mm 14 (.sl u32),Mi 15,.a u32],[(13,.cur 0 u32)],[.arr u32]⟩ [⟨.exit 0,⟨[Mm 14 (.sl u32),.a u32],[(13,.cur 0 u32)],[.arr u32]⟩⟩] fun p s => ref1_DivMod_R0 p.1 p.2 s
def h74 : Hints := Hz [(0,lp74_0)] [(0,5,.flat [Mb 33]),(0,7,.flat [Mb 46]),(3,16,.ways [⟨.normal,⟨[Mm 14 (.sl u32),.a u32],[(13,.cur 0 u32)],[.arr u32]⟩⟩])] [(21,[13])]
theorem lo74_0 : LO Tryz.f74 lp74_0 0 := lk t55 rn h74 [] lnil
theorem ok74 : FnOk Pz 74 ⟨[.ty (.sl u32),.ty (.sl u32)],[(.sl u32),(.sl u32),.bool],fun x => ref1_DivMod x.1 x.2⟩ := fkd t55 rn h74 Tryz.func74 [0] (lcons rfl lo74_0 lnil)
def t56 := t55.d ok74
def lp73_0 : LoopD := Lz [] [] ⟨[Mm 5 (.sl u32),Mm 6 (.sl u32)],[],[]⟩ [⟨.exit 0,⟨[Mm 5 (.sl u32)],[],[]⟩⟩] fun p s => ref1_Gcd_R0  s
def h73 : Hints := Hz [(0,lp73_0)] [] []
theorem lo73_0 : LO Tryz.f73 lp73_0 0 := lk t56 rn h73 [] lnil
theorem ok73 : FnOk Pz 73 ⟨[.ty (.sl u32),.ty (.sl u32)],[(.sl u32)],fun x => ref1_Gcd x.1 x.2⟩ := fkd t56 rn h73 Tryz.func73 [0] (lcons rfl lo73_0 lnil)
def t57 := t56.d ok73
def h53 : Hints := Hz [] [(0,2,.flat [Mb 19])] []
theorem ok53 : FnOk Pz 53 ⟨[.ty tyRat],[tyRat],fun x => ref2_Norm x⟩ := fkd t57 (rz [1]) h53 Tryz.func53 [] lnil
def t58 := t57.d ok53
def lp75_2 : LoopD := Lz [] [Mm 0 (.sl u32),Mm 1 (.sl u32),Mi 6] ⟨[Mm 7 (.int .u64),Mi 8,.a u32],[(5,.cur 0 u32)],[.arr u32]⟩ [⟨.exit 2,⟨[.a u32],[(5,.cur 0 u32)],[.arr u32]⟩⟩] fun p s => ref1_Mul_R1 p.1 p.2.1 p.2.2 s
def lp75_0 : LoopD := Lz [] [Mm 0 (.sl u32),Mm 1 (.sl u32)] ⟨[Mi 6,.a u32],[(5,.cur 0 u32)],[.arr u32]⟩ [⟨.exit 0,⟨[.a u32],[(5,.cur 0 u32)],[.arr u32]⟩⟩] fun p s => ref1_Mul_R0 p.1 p.2 s
def h75 : Hints := Hz [(2,lp75_2),(0,lp75_0)] [(0,7,.flat [Mb 28])] [(13,[5])]
theorem lo75_2 : LO Tryz.f75 lp75_2 2 := lk t58 rn h75 [] lnil
theorem lo75_0 : LO Tryz.f75 lp75_0 0 := lk t58 rn h75 [2] (lcons rfl lo75_2 lnil)
theorem ok75 : FnOk Pz 75 ⟨[.ty (.sl u32),.ty (.sl u32)],[(.sl u32)],fun x => ref1_Mul x.1 x.2⟩ := fkd t58 rn h75 Tryz.func75 [0] (lcons rfl lo75_0 lnil)
def t59 := t58.d ok75
def lp126_0 : LoopD := Lz [] [] ⟨[Mm 3 (.sl u32),Ms 4],[],[]⟩ [⟨.exit 0,⟨[Ms 4],[],[]⟩⟩] fun p s => ref1_Print_R0  s
def h126 : Hints := Hz [(0,lp126_0)] [] []
theorem lo126_0 : LO Tryz.f126 lp126_0 0 := lk t59 rn h126 [] lnil
theorem ok126 : FnOk Pz 126 ⟨[.ty (.sl u32)],[.str],fun x => ref1_Print x⟩ := fkd t59 rn h126 Tryz.func126 [0] (lcons rfl lo126_0 lnil)
def t60 := t59.d ok126
def lp106_0 : LoopD := Lz [] [Mi 1] ⟨[Ms 5],[],[]⟩ [⟨.exit 0,⟨[Ms 5],[],[]⟩⟩] fun p s => ref3_digits_R0 p s
def h106 : Hints := Hz [(0,lp106_0)] [] []
theorem lo106_0 : LO Tryz.f106 lp106_0 0 := lk t60 rn h106 [] lnil
theorem ok106 : FnOk Pz 106 ⟨[.ty (.sl u32),.ty i64],[.str],fun x => ref3_digits x.1 x.2⟩ := fkd t60 rn h106 Tryz.func106 [0] (lcons rfl lo106_0 lnil)
def t61 := t60.d ok106
theorem ok107 : FnOk Pz 107 ⟨[.ty .bool],[.str],fun x => ref3_sign x⟩ := fkd t61 rn hN Tryz.func107 [] lnil
def t62 := t61.d ok107
def h76 : Hints := Hz [] [(3,2,.flat [Ms 7])] []
theorem ok76 : FnOk Pz 76 ⟨[.ty .bool,.ty (.sl u32),.ty i64],[.str],fun x => ref3_point x.1 x.2.1 x.2.2⟩ := fkd t62 rn h76 Tryz.func76 [] lnil
def t63 := t62.d ok76
def lp56_0 : LoopD := Lz [] [] ⟨[Mm 5 (.sl u32),Mi 6,.v (.imm tyRat)],[(4,.ptr 0 0)],[.var (.imm tyRat)]⟩ [⟨.exit 0,⟨[.v (.imm tyRat)],[],[.var (.imm tyRat)]⟩⟩,⟨.ret,⟨[Ms 2,Mb 3,.v (.imm tyRat)],[],[.var (.imm tyRat)]⟩⟩] fun p s => ref3_Exact_R0  s
def h56 : Hints := Hz [(0,lp56_0)] [] []
theorem lo56_0 : LO Tryz.f56 lp56_0 0 := lk t63 (rz [1]) h56 [] lnil
theorem ok56 : FnOk Pz 56 ⟨[.ty tyRat],[.str,.bool],fun x => ref3_Exact x⟩ := fkd t63 (rz [1]) h56 Tryz.func56 [0] (lcons rfl lo56_0 lnil)
def t64 := t63.d ok56
def lp54_0 : LoopD := Lz [] [Mm 0 (.sl u32),Mm 1 (.sl u32)] ⟨[Mi 5],[],[]⟩ [⟨.exit 0,⟨[],[],[]⟩⟩,⟨.ret,⟨[Mb 4],[],[]⟩⟩] fun p s => ref2_limbs_R0 p.1 p.2 s
def h54 : Hints := Hz [(0,lp54_0)] [] []
theorem lo54_0 : LO Tryz.f54 lp54_0 0 := lk t64 rn h54 [] lnil
theorem ok54 : FnOk Pz 54 ⟨[.ty (.sl u32),.ty (.sl u32)],[.bool],fun x => ref2_limbs x.1 x.2⟩ := fkd t64 rn h54 Tryz.func54 [0] (lcons rfl lo54_0 lnil)
def t65 := t64.d ok54
theorem ok77 : FnOk Pz 77 ⟨[.ty tyRat],[.bool],fun x => ref2_Is x⟩ := fkd t65 (rz [1]) hN Tryz.func77 [] lnil
def t66 := t65.d ok77
def h78 : Hints := Hz [] [(0,2,.flat [Mb 2])] []
theorem ok78 : FnOk Pz 78 ⟨[.ty tyRat],[.bool],fun x => ref2_Large x⟩ := fkd t66 (rz [1]) h78 Tryz.func78 [] lnil
def t67 := t66.d ok78
theorem ok57 : FnOk Pz 57 ⟨[.ty tyRat],[.bool],fun x => ref2_Good x⟩ := fkd t67 (rz [1]) hN Tryz.func57 [] lnil
def t68 := t67.d ok57
def h37 : Hints := Hz [] [(0,1,.flat [Mb 2])] []
theorem ok37 : FnOk Pz 37 ⟨[.ty (.int .u8)],[.bool],fun x => ref5_letter x⟩ := fkd t68 rn h37 Tryz.func37 [] lnil
def t69 := t68.d ok37
def h38 : Hints := Hz [] [(0,1,.flat [Mb 2])] []
theorem ok38 : FnOk Pz 38 ⟨[.ty (.int .u8)],[.bool],fun x => ref5_digit x⟩ := fkd t69 rn h38 Tryz.func38 [] lnil
def t70 := t69.d ok38
def lp15_0 : LoopD := Lz [] [Ms 0] ⟨[Mi 3],[],[]⟩ [⟨.exit 0,⟨[],[],[]⟩⟩,⟨.ret,⟨[Mb 2],[],[]⟩⟩] fun p s => ref5_Name_R0 p s
def h15 : Hints := Hz [(0,lp15_0)] [(0,1,.ways [⟨.normal,⟨[Mb 17],[],[]⟩⟩]),(0,6,.ways [⟨.normal,⟨[Mb 41],[],[]⟩⟩])] []
theorem lo15_0 : LO Tryz.f15 lp15_0 0 := lk t70 rn h15 [] lnil
theorem ok15 : FnOk Pz 15 ⟨[.ty .str],[.bool],fun x => ref5_Name x⟩ := fkd t70 rn h15 Tryz.func15 [0] (lcons rfl lo15_0 lnil)
def t71 := t70.d ok15
theorem ok58 : FnOk Pz 58 ⟨[.ty tyRat],[.bool],fun x => ref5_blank x⟩ := fkd t71 (rz [1]) hN Tryz.func58 [] lnil
def t72 := t71.d ok58
abbrev Y39 := denPs [.ty .expr,.ty i64] → T (Tup [.bool])
abbrev H39 (F : Y39) := FnOk Pz 39 ⟨[.ty .expr,.ty i64],[.bool],F⟩
def T39 (F_39 : Y39) (h_39 : H39 F_39) : Tb := t72.d h_39
def lp39_1 (F_39 : Y39) : LoopD := Lz [] [Mi 1,Mr 2 .expr,Mi 5] ⟨[Mi 8],[],[]⟩ [⟨.exit 1,⟨[],[],[]⟩⟩,⟨.ret,⟨[Mb 4],[],[]⟩⟩] fun p s => ref5_one_R0 (fun y0 y1 => F_39 (y0,y1)) p.1 p.2.1 p.2.2 s
def h39 (F_39 : Y39) : Hints := Hz [(1,lp39_1 F_39)] [(3,4,.ways [⟨.normal,⟨[Mi 5],[],[]⟩⟩,⟨.ret,⟨[Mb 4],[],[]⟩⟩]),(0,17,.ways [⟨.normal,⟨[Mb 82],[],[]⟩⟩])] []
theorem lo39_1 (F_39 : Y39) (h_39 : H39 F_39) : LO Tryz.f39 (lp39_1 F_39) 1 := lk (T39 F_39 h_39) (rz [2]) (h39 F_39) [] lnil
theorem ok39_B (F_39 : Y39) (h_39 : H39 F_39) : FnOk Pz 39 ⟨[.ty .expr,.ty i64],[.bool],fun x => ref5_one_B (fun y0 y1 => F_39 (y0,y1)) x.1 x.2⟩ := fkd (T39 F_39 h_39) (rz [2]) (h39 F_39) Tryz.func39 [1] (lcons rfl (lo39_1 F_39 h_39) lnil)
theorem ok39 : FnOk Pz 39 ⟨[.ty .expr,.ty i64],[.bool],fun x => ref5_one x.1 x.2⟩ := fn_fix (fun F_39 x => ref5_one_B (fun y0 y1 => F_39 (y0,y1)) x.1 x.2) (fun x => rfl) (fun F_39 h_39 => ok39_B F_39 h_39)
def t73 := t72.d ok39
abbrev Y25 := denPs [.ty .expr] → T (Tup [i64])
abbrev H25 (F : Y25) := FnOk Pz 25 ⟨[.ty .expr],[i64],F⟩
def T25 (F_25 : Y25) (h_25 : H25 F_25) : Tb := t73.d h_25
def lp25_0 (F_25 : Y25) : LoopD := Lz [] [Mr 1 .expr] ⟨[Mi 3,Mi 4],[],[]⟩ [⟨.exit 0,⟨[Mi 3],[],[]⟩⟩] fun p s => ref5_Nodes_R0 (fun y0 => F_25 (y0)) p s
def h25 (F_25 : Y25) : Hints := Hz [(0,lp25_0 F_25)] [] []
theorem lo25_0 (F_25 : Y25) (h_25 : H25 F_25) : LO Tryz.f25 (lp25_0 F_25) 0 := lk (T25 F_25 h_25) (rz [1]) (h25 F_25) [] lnil
theorem ok25_B (F_25 : Y25) (h_25 : H25 F_25) : FnOk Pz 25 ⟨[.ty .expr],[i64],fun x => ref5_Nodes_B (fun y0 => F_25 (y0)) x⟩ := fkd (T25 F_25 h_25) (rz [1]) (h25 F_25) Tryz.func25 [0] (lcons rfl (lo25_0 F_25 h_25) lnil)
theorem ok25 : FnOk Pz 25 ⟨[.ty .expr],[i64],fun x => ref5_Nodes x⟩ := fn_fix (fun F_25 x => ref5_Nodes_B (fun y0 => F_25 (y0)) x) (fun x => rfl) (fun F_25 h_25 => ok25_B F_25 h_25)
def t74 := t73.d ok25
theorem ok18 : FnOk Pz 18 ⟨[.ty .expr],[.bool],fun x => ref5_Is x⟩ := fkd t74 (rz [1]) hN Tryz.func18 [] lnil
def t75 := t74.d ok18
def h65 : Hints := Hz [] [(3,2,.flat [Mb 4]),(3,5,.flat [Mb 7])] []
theorem ok65 : FnOk Pz 65 ⟨[.ty i64],[i64],fun x => ref5_row x⟩ := fkd t75 rn h65 Tryz.func65 [] lnil
def t76 := t75.d ok65
abbrev Y42 := denPs [.ty .expr,.ty i64] → T (Tup [.str])
abbrev H42 (F : Y42) := FnOk Pz 42 ⟨[.ty .expr,.ty i64],[.str],F⟩
def h42 (F_42 : Y42) : Hints := Hz [] [(3,2,.ways [⟨.normal,⟨[Ms 5],[],[]⟩⟩])] []
theorem ok42_B (F_42 : Y42) (h_42 : H42 F_42) : FnOk Pz 42 ⟨[.ty .expr,.ty i64],[.str],fun x => ref5_text_B (fun y0 y1 => F_42 (y0,y1)) x.1 x.2⟩ := fkd (t76.d h_42) (rz [2]) (h42 F_42) Tryz.func42 [] lnil
theorem ok42 : FnOk Pz 42 ⟨[.ty .expr,.ty i64],[.str],fun x => ref5_text x.1 x.2⟩ := fn_fix (fun F_42 x => ref5_text_B (fun y0 y1 => F_42 (y0,y1)) x.1 x.2) (fun x => rfl) (fun F_42 h_42 => ok42_B F_42 h_42)
def t77 := t76.d ok42
theorem ok21 : FnOk Pz 21 ⟨[.ty .expr],[.str],fun x => ref5_Print x⟩ := fkd t77 (rz [1]) hN Tryz.func21 [] lnil
def t78 := t77.d ok21
abbrev Y22 := denPs [.ty .expr] → T (Tup [i64])
abbrev H22 (F : Y22) := FnOk Pz 22 ⟨[.ty .expr],[i64],F⟩
def T22 (F_22 : Y22) (h_22 : H22 F_22) : Tb := t78.d h_22
def lp22_0 (F_22 : Y22) : LoopD := Lz [] [Mm 7 (.sl .expr),Mi 8] ⟨[Mi 3,Mi 9],[],[]⟩ [⟨.exit 0,⟨[Mi 3],[],[]⟩⟩] fun p s => expr_Depth_R0 (fun y0 => F_22 (y0)) p.1 p.2 s
def h22 (F_22 : Y22) : Hints := Hz [(0,lp22_0 F_22)] [] []
theorem lo22_0 (F_22 : Y22) (h_22 : H22 F_22) : LO Tryz.f22 (lp22_0 F_22) 0 := lk (T22 F_22 h_22) (rz [1]) (h22 F_22) [] lnil
theorem ok22_B (F_22 : Y22) (h_22 : H22 F_22) : FnOk Pz 22 ⟨[.ty .expr],[i64],fun x => expr_Depth_B (fun y0 => F_22 (y0)) x⟩ := fkd (T22 F_22 h_22) (rz [1]) (h22 F_22) Tryz.func22 [0] (lcons rfl (lo22_0 F_22 h_22) lnil)
theorem ok22 : FnOk Pz 22 ⟨[.ty .expr],[i64],fun x => expr_Depth x⟩ := fn_fix (fun F_22 x => expr_Depth_B (fun y0 => F_22 (y0)) x) (fun x => rfl) (fun F_22 h_22 => ok22_B F_22 h_22)
def t79 := t78.d ok22
abbrev Y23 := denPs [.ty .expr] → T (Tup [i64])
abbrev H23 (F : Y23) := FnOk Pz 23 ⟨[.ty .expr],[i64],F⟩
def T23 (F_23 : Y23) (h_23 : H23 F_23) : Tb := t79.d h_23
def lp23_0 (F_23 : Y23) : LoopD := Lz [] [Mr 1 .expr] ⟨[Mi 3,Mi 4],[],[]⟩ [⟨.exit 0,⟨[Mi 3],[],[]⟩⟩] fun p s => ref5_Depth_R0 (fun y0 => F_23 (y0)) p s
def h23 (F_23 : Y23) : Hints := Hz [(0,lp23_0 F_23)] [] []
theorem lo23_0 (F_23 : Y23) (h_23 : H23 F_23) : LO Tryz.f23 (lp23_0 F_23) 0 := lk (T23 F_23 h_23) (rz [1]) (h23 F_23) [] lnil
theorem ok23_B (F_23 : Y23) (h_23 : H23 F_23) : FnOk Pz 23 ⟨[.ty .expr],[i64],fun x => ref5_Depth_B (fun y0 => F_23 (y0)) x⟩ := fkd (T23 F_23 h_23) (rz [1]) (h23 F_23) Tryz.func23 [0] (lcons rfl (lo23_0 F_23 h_23) lnil)
theorem ok23 : FnOk Pz 23 ⟨[.ty .expr],[i64],fun x => ref5_Depth x⟩ := fn_fix (fun F_23 x => ref5_Depth_B (fun y0 => F_23 (y0)) x) (fun x => rfl) (fun F_23 h_23 => ok23_B F_23 h_23)
def t80 := t79.d ok23
abbrev Y24 := denPs [.ty .expr] → T (Tup [i64])
abbrev H24 (F : Y24) := FnOk Pz 24 ⟨[.ty .expr],[i64],F⟩
def T24 (F_24 : Y24) (h_24 : H24 F_24) : Tb := t80.d h_24
def lp24_0 (F_24 : Y24) : LoopD := Lz [] [Mm 7 (.sl .expr),Mi 8] ⟨[Mi 3,Mi 9],[],[]⟩ [⟨.exit 0,⟨[Mi 3],[],[]⟩⟩] fun p s => expr_Nodes_R0 (fun y0 => F_24 (y0)) p.1 p.2 s
def h24 (F_24 : Y24) : Hints := Hz [(0,lp24_0 F_24)] [] []
theorem lo24_0 (F_24 : Y24) (h_24 : H24 F_24) : LO Tryz.f24 (lp24_0 F_24) 0 := lk (T24 F_24 h_24) (rz [1]) (h24 F_24) [] lnil
theorem ok24_B (F_24 : Y24) (h_24 : H24 F_24) : FnOk Pz 24 ⟨[.ty .expr],[i64],fun x => expr_Nodes_B (fun y0 => F_24 (y0)) x⟩ := fkd (T24 F_24 h_24) (rz [1]) (h24 F_24) Tryz.func24 [0] (lcons rfl (lo24_0 F_24 h_24) lnil)
theorem ok24 : FnOk Pz 24 ⟨[.ty .expr],[i64],fun x => expr_Nodes x⟩ := fn_fix (fun F_24 x => expr_Nodes_B (fun y0 => F_24 (y0)) x) (fun x => rfl) (fun F_24 h_24 => ok24_B F_24 h_24)
def t81 := t80.d ok24
def lp89_0 : LoopD := Lz [] [Mm 0 (.sl .str),Ms 1,Mi 7] ⟨[Mi 8],[],[]⟩ [⟨.exit 0,⟨[],[],[]⟩⟩,⟨.ret,⟨[Mi 4],[],[]⟩⟩] fun p s => slices_Index_sl_string_R0 p.1 p.2.1 p.2.2 s
def h89 : Hints := Hz [(0,lp89_0)] [] []
theorem lo89_0 : LO Tryz.f89 lp89_0 0 := lk t81 rn h89 [] lnil
theorem ok89 : FnOk Pz 89 ⟨[.ty (.sl .str),.ty .str],[i64],fun x => slices_Index_sl_string x.1 x.2⟩ := fkd t81 rn h89 Tryz.func89 [0] (lcons rfl lo89_0 lnil)
def t82 := t81.d ok89
theorem ok66 : FnOk Pz 66 ⟨[.ty (.sl .str),.ty .str],[.bool],fun x => slices_Contains_sl_string x.1 x.2⟩ := fkd t82 rn hN Tryz.func66 [] lnil
def t83 := t82.d ok66
abbrev Y43 := Shp.den ⟨[Mm 1 .expr,.a .str],[(0,.cur 0 .str)],[.arr .str]⟩ → T (Shp.den ⟨[.a .str],[(0,.cur 0 .str)],[.arr .str]⟩)
abbrev H43 (F : Y43) := FnSOk Pz 43 ⟨[.cur,.any],⟨[Mm 1 .expr,.a .str],[(0,.cur 0 .str)],[.arr .str]⟩,[],⟨[.a .str],[(0,.cur 0 .str)],[.arr .str]⟩,1,F⟩
def T43 (F_43 : Y43) (h_43 : H43 F_43) : Tb := t83.s h_43
def lp43_0 (F_43 : Y43) : LoopD := Lz [] [Mm 23 (.sl .expr),Mi 24] ⟨[Mi 25,.a .str],[(0,.cur 0 .str)],[.arr .str]⟩ [⟨.exit 0,⟨[.a .str],[(0,.cur 0 .str)],[.arr .str]⟩⟩] fun p s => expr_names_S_R0 (fun y0 y1 => F_43 (y0,y1)) p.1 p.2 s
def h43 (F_43 : Y43) : Hints := Hz [(0,lp43_0 F_43)] [(0,1,.ways [⟨.normal,⟨[Mb 16,.a .str],[(0,.cur 0 .str)],[.arr .str]⟩⟩]),(3,1,.ways [⟨.normal,⟨[.a .str],[(0,.cur 0 .str)],[.arr .str]⟩⟩])] []
theorem lo43_0 (F_43 : Y43) (h_43 : H43 F_43) : LO Tryz.f43 (lp43_0 F_43) 0 := lk (T43 F_43 h_43) (rz [3]) (h43 F_43) [] lnil
theorem ok43_B (F_43 : Y43) (h_43 : H43 F_43) : FnSOk Pz 43 ⟨[.cur,.any],⟨[Mm 1 .expr,.a .str],[(0,.cur 0 .str)],[.arr .str]⟩,[],⟨[.a .str],[(0,.cur 0 .str)],[.arr .str]⟩,1,fun x => expr_names_S_B (fun y0 y1 => F_43 (y0,y1)) x.1 x.2⟩ := fks (T43 F_43 h_43) (rz [3]) (h43 F_43) Tryz.func43 [0] (lcons rfl (lo43_0 F_43 h_43) lnil)
theorem ok43 : FnSOk Pz 43 ⟨[.cur,.any],⟨[Mm 1 .expr,.a .str],[(0,.cur 0 .str)],[.arr .str]⟩,[],⟨[.a .str],[(0,.cur 0 .str)],[.arr .str]⟩,1,fun x => expr_names_S x.1 x.2⟩ := fns_fix (fun F_43 x => expr_names_S_B (fun y0 y1 => F_43 (y0,y1)) x.1 x.2) (fun x => rfl) (fun F_43 h_43 => ok43_B F_43 h_43)
def t84 := t83.s ok43
def T43_1 : Tb := t84.s ok43
def lp43_1_0 : LoopD := Lz [] [Mm 23 (.sl .expr),Mi 24] ⟨[Mi 25,.a .str],[(0,.cur 0 .str)],[.arr .str]⟩ [⟨.exit 0,⟨[.a .str],[(0,.cur 0 .str)],[.arr .str]⟩⟩] fun p s => expr_names_SN_R0 p.1 p.2 s
def h43_1 : Hints := Hz [(0,lp43_1_0)] [(0,1,.ways [⟨.normal,⟨[Mb 16,.a .str],[(0,.cur 0 .str)],[.arr .str]⟩⟩]),(3,1,.ways [⟨.normal,⟨[.a .str],[(0,.cur 0 .str)],[.arr .str]⟩⟩])] []
theorem lo43_1_0 : LO Tryz.f43 lp43_1_0 0 := lk T43_1 (rz [3]) h43_1 [] lnil
theorem ok43_1 : FnSOk Pz 43 ⟨[.cur,.any],⟨[Mm 1 .expr,.a .str],[(0,.cur 0 .str)],[.arr .str]⟩,[.slot 0 .str],⟨[.a .str],[(0,.cur 0 .str)],[.arr .str]⟩,1,fun x => expr_names_SN x.1 x.2⟩ := fks T43_1 (rz [3]) h43_1 Tryz.func43 [0] (lcons rfl lo43_1_0 lnil)
def t85 := t84.s ok43_1
theorem ok27 : FnOk Pz 27 ⟨[.ty .expr],[(.sl .str)],fun x => expr_Names x⟩ := fkd (t85.s ok43_1) (rz [1]) hN Tryz.func27 [] lnil
def t86 := t85.d ok27
def lp44_0 : LoopD := Lz [] [Mm 0 (.sl .str),Ms 1] ⟨[Mi 5],[],[]⟩ [⟨.exit 0,⟨[],[],[]⟩⟩,⟨.ret,⟨[Mb 4],[],[]⟩⟩] fun p s => ref5_Has_R0 p.1 p.2 s
def h44 : Hints := Hz [(0,lp44_0)] [] []
theorem lo44_0 : LO Tryz.f44 lp44_0 0 := lk t86 rn h44 [] lnil
theorem ok44 : FnOk Pz 44 ⟨[.ty (.sl .str),.ty .str],[.bool],fun x => ref5_Has x.1 x.2⟩ := fkd t86 rn h44 Tryz.func44 [0] (lcons rfl lo44_0 lnil)
def t87 := t86.d ok44
abbrev Y28 := denPs [.ty .expr] → T (Tup [(.sl .str)])
abbrev H28 (F : Y28) := FnOk Pz 28 ⟨[.ty .expr],[(.sl .str)],F⟩
def T28 (F_28 : Y28) (h_28 : H28 F_28) : Tb := t87.d h_28
def lp28_2 (F_28 : Y28) : LoopD := Lz [] [Mr 1 .expr,Mi 4,Mm 5 (.sl .str)] ⟨[Mi 6,.a .str],[(3,.cur 0 .str)],[.arr .str]⟩ [⟨.exit 2,⟨[.a .str],[(3,.cur 0 .str)],[.arr .str]⟩⟩] fun p s => ref5_Names_R1 (fun y0 => F_28 (y0)) p.1 p.2.1 p.2.2 s
def lp28_0 (F_28 : Y28) : LoopD := Lz [.slot 3 .str] [Mr 1 .expr] ⟨[Mi 4,.a .str],[(3,.cur 0 .str)],[.arr .str]⟩ [⟨.exit 0,⟨[.a .str],[(3,.cur 0 .str)],[.arr .str]⟩⟩] fun p s => ref5_Names_R0 (fun y0 => F_28 (y0)) p s
def h28 (F_28 : Y28) : Hints := Hz [(2,lp28_2 F_28),(0,lp28_0 F_28)] [] []
theorem lo28_2 (F_28 : Y28) (h_28 : H28 F_28) : LO Tryz.f28 (lp28_2 F_28) 2 := lk (T28 F_28 h_28) (rz [1]) (h28 F_28) [] lnil
theorem lo28_0 (F_28 : Y28) (h_28 : H28 F_28) : LO Tryz.f28 (lp28_0 F_28) 0 := lk (T28 F_28 h_28) (rz [1]) (h28 F_28) [2] (lcons rfl (lo28_2 F_28 h_28) lnil)
theorem ok28_B (F_28 : Y28) (h_28 : H28 F_28) : FnOk Pz 28 ⟨[.ty .expr],[(.sl .str)],fun x => ref5_Names_B (fun y0 => F_28 (y0)) x⟩ := fkd (T28 F_28 h_28) (rz [1]) (h28 F_28) Tryz.func28 [0] (lcons rfl (lo28_0 F_28 h_28) lnil)
theorem ok28 : FnOk Pz 28 ⟨[.ty .expr],[(.sl .str)],fun x => ref5_Names x⟩ := fn_fix (fun F_28 x => ref5_Names_B (fun y0 => F_28 (y0)) x) (fun x => rfl) (fun F_28 h_28 => ok28_B F_28 h_28)
def t88 := t87.d ok28
def lp26_0 : LoopD := Lz [] [Mm 0 (.sl .str),Mm 1 (.sl .str)] ⟨[Mi 5],[],[]⟩ [⟨.exit 0,⟨[],[],[]⟩⟩,⟨.ret,⟨[Mb 4],[],[]⟩⟩] fun p s => law5_texts_R0 p.1 p.2 s
def h26 : Hints := Hz [(0,lp26_0)] [] []
theorem lo26_0 : LO Tryz.f26 lp26_0 0 := lk t88 rn h26 [] lnil
theorem ok26 : FnOk Pz 26 ⟨[.ty (.sl .str),.ty (.sl .str)],[.bool],fun x => law5_texts x.1 x.2⟩ := fkd t88 rn h26 Tryz.func26 [0] (lcons rfl lo26_0 lnil)
def t89 := t88.d ok26
def lp68_0 : LoopD := Lz [] [Mm 0 (.sl u32),Mm 1 (.sl u32),Mi 12] ⟨[Mi 13],[],[]⟩ [⟨.exit 0,⟨[],[],[]⟩⟩,⟨.ret,⟨[Mb 4],[],[]⟩⟩] fun p s => slices_Equal_sl_uint32_R0 p.1 p.2.1 p.2.2 s
def h68 : Hints := Hz [(0,lp68_0)] [] []
theorem lo68_0 : LO Tryz.f68 lp68_0 0 := lk t89 rn h68 [] lnil
theorem ok68 : FnOk Pz 68 ⟨[.ty (.sl u32),.ty (.sl u32)],[.bool],fun x => slices_Equal_sl_uint32 x.1 x.2⟩ := fkd t89 rn h68 Tryz.func68 [0] (lcons rfl lo68_0 lnil)
def t90 := t89.d ok68
theorem ok45 : FnOk Pz 45 ⟨[.ty tyRat,.ty tyRat],[.bool],fun x => rat_Same x.1 x.2⟩ := fkd t90 rn hN Tryz.func45 [] lnil
def t91 := t90.d ok45
abbrev Y29 := denPs [.ty .expr,.ty .expr] → T (Tup [.bool])
abbrev H29 (F : Y29) := FnOk Pz 29 ⟨[.ty .expr,.ty .expr],[.bool],F⟩
def T46 (F_29 : Y29) (h_29 : H29 F_29) : Tb := t91.d h_29
def lp46_0 (F_29 : Y29) : LoopD := Lz [] [Mm 1 (.sl .expr),.s 2 (.clo 29 []),Mm 15 (.sl .expr),Mi 16] ⟨[Mi 17],[],[]⟩ [⟨.exit 0,⟨[],[],[]⟩⟩,⟨.ret,⟨[Mb 6],[],[]⟩⟩] fun p s => slices_EqualFunc_sl_Expr_sl_Expr_R0 (fun y0 y1 => F_29 (y0,y1)) p.1 (fun z0 z1 => (fun y0 y1 => F_29 (y0,y1)) z0 z1) p.2.2.1 p.2.2.2 s
def h46 (F_29 : Y29) : Hints := Hz [(0,lp46_0 F_29)] [] []
theorem lo46_0 (F_29 : Y29) (h_29 : H29 F_29) : LO Tryz.f46 (lp46_0 F_29) 0 := lk (T46 F_29 h_29) rn (h46 F_29) [] lnil
theorem ok46 (F_29 : Y29) (h_29 : H29 F_29) : FnOk Pz 46 ⟨[.ty (.sl .expr),.ty (.sl .expr),.clo 29 []],[.bool],fun x => slices_EqualFunc_sl_Expr_sl_Expr (fun y0 y1 => F_29 (y0,y1)) x.1 x.2.1 (fun z0 z1 => (fun y0 y1 => F_29 (y0,y1)) z0 z1)⟩ := fkd (T46 F_29 h_29) rn (h46 F_29) Tryz.func46 [0] (lcons rfl (lo46_0 F_29 h_29) lnil)
theorem ok29_B (F_29 : Y29) (h_29 : H29 F_29) : FnOk Pz 29 ⟨[.ty .expr,.ty .expr],[.bool],fun x => expr_Same_B (fun y0 y1 => F_29 (y0,y1)) x.1 x.2⟩ := fkd ((t91.d (ok46 _ h_29)).d h_29) (rz [2,3]) hN Tryz.func29 [] lnil
theorem ok29 : FnOk Pz 29 ⟨[.ty .expr,.ty .expr],[.bool],fun x => expr_Same x.1 x.2⟩ := fn_fix (fun F_29 x => expr_Same_B (fun y0 y1 => F_29 (y0,y1)) x.1 x.2) (fun x => rfl) (fun F_29 h_29 => ok29_B F_29 h_29)
def t92 := t91.d ok29
theorem ok34 : FnOk Pz 34 ⟨[.ty tyRat,.ty tyRat],[.bool],fun x => ref2_Same x.1 x.2⟩ := fkd t92 (rz [2,3]) hN Tryz.func34 [] lnil
def t93 := t92.d ok34
abbrev Y13 := denPs [.ty .expr,.ty .expr] → T (Tup [.bool])
abbrev H13 (F : Y13) := FnOk Pz 13 ⟨[.ty .expr,.ty .expr],[.bool],F⟩
def T13 (F_13 : Y13) (h_13 : H13 F_13) : Tb := t93.d h_13
def lp13_0 (F_13 : Y13) : LoopD := Lz [] [Mr 2 .expr,Mr 3 .expr] ⟨[Mi 5],[],[]⟩ [⟨.exit 0,⟨[],[],[]⟩⟩,⟨.ret,⟨[Mb 4],[],[]⟩⟩] fun p s => ref5_Same_R0 (fun y0 y1 => F_13 (y0,y1)) p.1 p.2 s
def h13 (F_13 : Y13) : Hints := Hz [(0,lp13_0 F_13)] [(0,1,.ways [⟨.normal,⟨[Mb 34],[],[]⟩⟩])] []
theorem lo13_0 (F_13 : Y13) (h_13 : H13 F_13) : LO Tryz.f13 (lp13_0 F_13) 0 := lk (T13 F_13 h_13) (rz [2,3]) (h13 F_13) [] lnil
theorem ok13_B (F_13 : Y13) (h_13 : H13 F_13) : FnOk Pz 13 ⟨[.ty .expr,.ty .expr],[.bool],fun x => ref5_Same_B (fun y0 y1 => F_13 (y0,y1)) x.1 x.2⟩ := fkd (T13 F_13 h_13) (rz [2,3]) (h13 F_13) Tryz.func13 [0] (lcons rfl (lo13_0 F_13 h_13) lnil)
theorem ok13 : FnOk Pz 13 ⟨[.ty .expr,.ty .expr],[.bool],fun x => ref5_Same x.1 x.2⟩ := fn_fix (fun F_13 x => ref5_Same_B (fun y0 y1 => F_13 (y0,y1)) x.1 x.2) (fun x => rfl) (fun F_13 h_13 => ok13_B F_13 h_13)
def t94 := t93.d ok13
def lp119_0 : LoopD := Lz [] [] ⟨[.v (.imm tyexpr_parser)],[(0,.ptr 0 0)],[.var (.imm tyexpr_parser)]⟩ [⟨.exit 0,⟨[.v (.imm tyexpr_parser)],[],[.var (.imm tyexpr_parser)]⟩⟩] fun p s => expr_parser_blanks_S_R0  s
def h119 : Hints := Hz [(0,lp119_0)] [(0,0,.flat [Mb 23])] []
theorem lo119_0 : LO Tryz.f119 lp119_0 0 := lk t94 rn h119 [] lnil
theorem ok119 : FnSOk Pz 119 ⟨[.ptr],⟨[.v (.imm tyexpr_parser)],[(0,.ptr 0 0)],[.var (.imm tyexpr_parser)]⟩,[],⟨[.v (.imm tyexpr_parser)],[],[.var (.imm tyexpr_parser)]⟩,0,fun x => expr_parser_blanks_S x⟩ := fks t94 rn h119 Tryz.func119 [0] (lcons rfl lo119_0 lnil)
def t95 := t94.s ok119
theorem ok92 : FnOk Tryz.prog 92 ⟨[.ty .str,.ty (.int .u8)],[i64],fun x => strings_IndexByte x.1 x.2⟩ := by
 refine fn_of_calls Tryz.func92 (by kernel_rfl) rfl fun κ x cargs y hy hI ha => ?_
 obtain ⟨s,c⟩ := x
 cases hy
 obtain ⟨v0,r,rfl,ha0,ha⟩ := RDs.cons_inv (show RDs κ [.imm .str s,.imm (.int .u8) c] cargs from ha)
 obtain ⟨v1,r,rfl,ha1,ha⟩ := ha.cons_inv
 rw [ha.nil_inv,ha0.str_inv,ha1.int_inv]
 refine (Go.Proofs.Tryz.strings_IndexByte ⟨s.toArray⟩ c κ.w).mono ?_
 rintro e w' ⟨rfl,rfl⟩
 refine ⟨below_self _,fun _ => ⟨_,rfl,?_⟩⟩
 have e1 : Lib.indexByte s (byteOf c) = idxB s (byteOf c) := idxB_eq s (byteOf c)
 show RD _ (.imm i64 (idxB s (byteOf c))) _
 rw [← e1]
 exact RD.int
def t96 := t95.d ok92
def h91 : Hints := Hz [] [(0,2,.ways [⟨.normal,⟨[Mb 30,.v (.imm tyexpr_parser)],[],[.var (.imm tyexpr_parser)]⟩⟩])] []
theorem ok91 : FnSOk Pz 91 ⟨[.ptr,.any],⟨[Ms 1,.v (.imm tyexpr_parser)],[(0,.ptr 0 0)],[.var (.imm tyexpr_parser)]⟩,[],⟨[Mm 0 (.int .u8),.v (.imm tyexpr_parser)],[],[.var (.imm tyexpr_parser)]⟩,1,fun x => expr_parser_takes_S x.1 x.2⟩ := fks t96 rn h91 Tryz.func91 [] lnil
def t97 := t96.s ok91
theorem ok49 : FnPOk Pz 49 ⟨[.ptr,.any,.any],⟨[Mi 1,Mi 2,.v (.imm tyexpr_parser)],[(0,.ptr 0 0)],[.var (.imm tyexpr_parser)]⟩,[],⟨[.v (.imm tyexpr_parser)],[],[.var (.imm tyexpr_parser)]⟩,0,67,⟨[Mm 0 tyexpr_stop,.v (.imm tyexpr_parser)],[],[.var (.imm tyexpr_parser)]⟩,fun x => expr_parser_fail_S x.1 x.2.1 x.2.2⟩ := fkp t97 rn hN Tryz.func49 [] lnil
def t98 := t97.p ok49
theorem ok121 : FnPOk Pz 121 ⟨[.ptr],⟨[.v (.imm tyexpr_parser)],[(0,.ptr 0 0)],[.var (.imm tyexpr_parser)]⟩,[],⟨[.v (.imm tyexpr_parser)],[],[.var (.imm tyexpr_parser)]⟩,0,67,⟨[Mm 0 tyexpr_stop,.v (.imm tyexpr_parser)],[],[.var (.imm tyexpr_parser)]⟩,fun x => expr_parser_within_S x⟩ := fkp t98 rn hN Tryz.func121 [] lnil
def t99 := t98.p ok121
def lp123_0 : LoopD := Lz [] [.s 1 (.clo 55 []),Mi 2,Mi 7] ⟨[.v (.imm tyexpr_parser)],[(0,.ptr 0 0)],[.var (.imm tyexpr_parser)]⟩ [⟨.exit 0,⟨[.v (.imm tyexpr_parser)],[],[.var (.imm tyexpr_parser)]⟩⟩] fun p s => expr_parser_while_S_R0 (fun z0 => expr_isDigit z0) p.2.1 p.2.2 s
def h123 : Hints := Hz [(0,lp123_0)] [(0,2,.ways [⟨.normal,⟨[Mb 44,.v (.imm tyexpr_parser)],[],[.var (.imm tyexpr_parser)]⟩⟩])] []
theorem lo123_0 : LO Tryz.f123 lp123_0 0 := lk t99 rn h123 [] lnil
theorem ok123 : FnSOk Pz 123 ⟨[.ptr,.clo 55,.any],⟨[.s 1 (.clo 55 []),Mi 2,.v (.imm tyexpr_parser)],[(0,.ptr 0 0)],[.var (.imm tyexpr_parser)]⟩,[],⟨[Ms 0,.v (.imm tyexpr_parser)],[],[.var (.imm tyexpr_parser)]⟩,1,fun x => expr_parser_while_S (fun z0 => expr_isDigit z0) x.2.1 x.2.2⟩ := fks t99 rn h123 Tryz.func123 [0] (lcons rfl lo123_0 lnil)
def t100 := t99.s ok123
theorem ok156 : FnOk Tryz.prog 156 ⟨[.ty .str,.ty .str],[.str,.bool],fun x => strings_CutPrefix x.1 x.2⟩ := by
 refine fn_of_calls Tryz.func156 (by kernel_rfl) rfl fun κ x cargs y hy hI ha => ?_
 obtain ⟨s,p⟩ := x
 cases hy
 obtain ⟨v0,r,rfl,ha0,ha⟩ := RDs.cons_inv (show RDs κ [.imm .str s,.imm .str p] cargs from ha)
 obtain ⟨v1,r,rfl,ha1,ha⟩ := ha.cons_inv
 rw [ha.nil_inv,ha0.str_inv,ha1.str_inv]
 refine (Go.Proofs.Tryz.strings_CutPrefix ⟨s.toArray⟩ ⟨p.toArray⟩ κ.w).mono ?_
 rintro e w' ⟨rfl,rfl⟩
 refine ⟨below_self _,fun _ => ⟨_,rfl,?_⟩⟩
 exact RD.tup2 RD.str RD.bool
def t101 := t100.d ok156
theorem ok157 : FnOk Tryz.prog 157 ⟨[.ty .str,.ty .str],[.str,.str,.bool],fun x => strings_Cut x.1 x.2⟩ := by
 refine fn_of_calls Tryz.func157 (by kernel_rfl) rfl fun κ x cargs y hy hI ha => ?_
 obtain ⟨s,sep⟩ := x
 obtain ⟨h0,hy⟩ := hy
 cases hy
 obtain ⟨v0,r,rfl,ha0,ha⟩ := RDs.cons_inv (show RDs κ [.imm .str s,.imm .str sep] cargs from ha)
 obtain ⟨v1,r,rfl,ha1,ha⟩ := ha.cons_inv
 rw [ha.nil_inv,ha0.str_inv,ha1.str_inv]
 obtain ⟨m,hm⟩ := glob_internal_bytealg_MaxLen hI
 refine (Go.Proofs.Tryz.strings_Cut ⟨s.toArray⟩ ⟨sep.toArray⟩ m κ.w (by rw [show (ByteArray.size ⟨s.toArray⟩) = List.length s from List.size_toArray]; exact h0) hm).mono ?_
 rintro e w' ⟨rfl,n,rfl⟩
 refine ⟨below_drewN _ _,fun _ => ⟨_,rfl,?_⟩⟩
 rw [show Lib.cut (⟨s.toArray⟩ : ByteArray).data.toList (⟨sep.toArray⟩ : ByteArray).data.toList = cutSt s sep from cutSt_eq s sep]
 exact RD.tup3 RD.str RD.str RD.bool
def t102 := t101.d ok157
def lp167_0 : LoopD := Lz [] [Mm 1 (.int .u8)] ⟨[Ms 0],[],[]⟩ [⟨.exit 0,⟨[Ms 0],[],[]⟩⟩] fun p s => strings_trimRightByte_R0 p s
def h167 : Hints := Hz [(0,lp167_0)] [(0,1,.flat [Mb 16])] []
theorem lo167_0 : LO Tryz.f167 lp167_0 0 := lk t102 rn h167 [] lnil
theorem ok167 : FnOk Pz 167 ⟨[.ty .str,.ty (.int .u8)],[.str],fun x => strings_trimRightByte x.1 x.2⟩ := fkd t102 rn h167 Tryz.func167 [0] (lcons rfl lo167_0 lnil)
def t103 := t102.d ok167
def lp166_0 : LoopD := Lz [] [Mm 1 (.int .u8)] ⟨[Ms 0],[],[]⟩ [⟨.exit 0,⟨[Ms 0],[],[]⟩⟩] fun p s => strings_trimLeftByte_R0 p s
def h166 : Hints := Hz [(0,lp166_0)] [(0,1,.flat [Mb 13])] []
theorem lo166_0 : LO Tryz.f166 lp166_0 0 := lk t103 rn h166 [] lnil
theorem ok166 : FnOk Pz 166 ⟨[.ty .str,.ty (.int .u8)],[.str],fun x => strings_trimLeftByte x.1 x.2⟩ := fkd t103 rn h166 Tryz.func166 [0] (lcons rfl lo166_0 lnil)
def t104 := t103.d ok166
theorem ok168 : FnOk Tryz.prog 168 ⟨[.ty .str],[(arrN .bool 256),.bool],fun x => strings_makeASCIISet x⟩ := by
 refine fn_of_calls Tryz.func168 (by kernel_rfl) rfl fun κ s cargs y hy hI ha => ?_
 obtain ⟨⟨h0,h1⟩,hy⟩ := hy
 cases hy
 obtain ⟨v0,r,rfl,ha0,ha⟩ := RDs.cons_inv (show RDs κ [.imm .str s] cargs from ha)
 rw [ha.nil_inv,ha0.str_inv]
 refine (Go.Proofs.Tryz.strings_makeASCIISet (fun _ => by kernel_rfl) ⟨s.toArray⟩ κ.w (by rw [show (ByteArray.size ⟨s.toArray⟩) = List.length s from List.size_toArray]; exact h0) (by simpa using h1)).mono ?_
 rintro e w' ⟨rfl,rfl⟩
 refine ⟨below_alloc _ _,fun _ => ⟨_,rfl,?_⟩⟩
 exact RD.tup2 (ascii_rd s) RD.bool
def t105 := t104.d ok168
theorem ok176 : FnOk Pz 176 ⟨[.rp (arrN .bool 256),.ty (.int .u8)],[.bool],fun x => strings_asciiSet_contains x.1 x.2⟩ := fkd t105 rn hN Tryz.func176 [] lnil
def t106 := t105.d ok176
def lp170_0 : LoopD := Lz [] [Mr 1 (arrN .bool 256)] ⟨[Ms 0],[],[]⟩ [⟨.exit 0,⟨[Ms 0],[],[]⟩⟩] fun p s => strings_trimRightASCII_R0 p s
def h170 : Hints := Hz [(0,lp170_0)] [] []
theorem lo170_0 : LO Tryz.f170 lp170_0 0 := lk t106 rn h170 [] lnil
theorem ok170 : FnOk Pz 170 ⟨[.ty .str,.rp (arrN .bool 256)],[.str],fun x => strings_trimRightASCII x.1 x.2⟩ := fkd t106 rn h170 Tryz.func170 [0] (lcons rfl lo170_0 lnil)
def t107 := t106.d ok170
def lp169_0 : LoopD := Lz [] [Mr 1 (arrN .bool 256)] ⟨[Ms 0],[],[]⟩ [⟨.exit 0,⟨[Ms 0],[],[]⟩⟩] fun p s => strings_trimLeftASCII_R0 p s
def h169 : Hints := Hz [(0,lp169_0)] [] []
theorem lo169_0 : LO Tryz.f169 lp169_0 0 := lk t107 rn h169 [] lnil
theorem ok169 : FnOk Pz 169 ⟨[.ty .str,.rp (arrN .bool 256)],[.str],fun x => strings_trimLeftASCII x.1 x.2⟩ := fkd t107 rn h169 Tryz.func169 [0] (lcons rfl lo169_0 lnil)
def t108 := t107.d ok169
def h163 : Hints := Hz [] [(0,1,.flat [Mb 12]),(0,3,.flat [Mb 21])] []
theorem ok163 : FnOk Pz 163 ⟨[.ty .str,.ty .str],[.str],fun x => strings_Trim x.1 x.2⟩ := fkd t108 rn h163 Tryz.func163 [] lnil
def t109 := t108.d ok163
def lp164_0 : LoopD := Lz [] [Mm 0 (.sl u32),Mm 1 (.sl u32),Mm 24 (.sl u32),Mi 25] ⟨[Mm 6 (.int .u64),Mi 26,.a u32],[(5,.cur 0 u32)],[.arr u32]⟩ [⟨.exit 0,⟨[Mm 6 (.int .u64),.a u32],[(5,.cur 0 u32)],[.arr u32]⟩⟩] fun p s => nat_Add_R0 p.1 p.2.1 p.2.2.1 p.2.2.2 s
def h164 : Hints := Hz [(0,lp164_0)] [(3,2,.flat [Mm 0 (.sl u32),Mm 1 (.sl u32)]),(3,10,.flat [Mm 6 (.int .u64)])] [(16,[5])]
theorem lo164_0 : LO Tryz.f164 lp164_0 0 := lk t109 rn h164 [] lnil
theorem ok164 : FnOk Pz 164 ⟨[.ty (.sl u32),.ty (.sl u32)],[(.sl u32)],fun x => nat_Add x.1 x.2⟩ := fkd t109 rn h164 Tryz.func164 [0] (lcons rfl lo164_0 lnil)
def t110 := t109.d ok164
def lp158_0 : LoopD := Lz [] [Ms 0,Mi 19] ⟨[Mm 4 (.sl u32),Mi 20],[],[]⟩ [⟨.exit 0,⟨[Mm 4 (.sl u32)],[],[]⟩⟩] fun p s => nat_Parse_R0 p.1 p.2 s
def h158 : Hints := Hz [(0,lp158_0)] [(0,1,.ways [⟨.normal,⟨[Mb 17],[],[]⟩⟩])] []
theorem lo158_0 : LO Tryz.f158 lp158_0 0 := lk t110 rn h158 [] lnil
theorem ok158 : FnOk Pz 158 ⟨[.ty .str],[(.sl u32),.bool],fun x => nat_Parse x⟩ := fkd t110 rn h158 Tryz.func158 [0] (lcons rfl lo158_0 lnil)
def t111 := t110.d ok158
def h142 : Hints := Hz [] [(0,9,.flat [Mb 58]),(3,13,.flat [Ms 14]),(0,17,.flat [Mb 94])] []
theorem ok142 : FnOk Pz 142 ⟨[.ty .str],[tyRat,i64],fun x => dec_Parse x⟩ := fkd t111 rn h142 Tryz.func142 [] lnil
def t112 := t111.d ok142
def h122 : Hints := Hz [] [(0,2,.flat [Mb 35]),(3,2,.ways [⟨.normal,⟨[Ms 3,.v (.imm tyexpr_parser),.v (.imm .expr)],[],[.var (.imm tyexpr_parser),.var (.imm .expr)]⟩⟩,⟨.pan (.iface 67 .niface),⟨[Mm 0 tyexpr_stop,.v (.imm tyexpr_parser),.v (.imm .expr)],[],[.var (.imm tyexpr_parser),.var (.imm .expr)]⟩⟩])] []
theorem ok122 : FnPOk Pz 122 ⟨[.ptr],⟨[.v (.imm tyexpr_parser)],[(0,.ptr 0 0)],[.var (.imm tyexpr_parser)]⟩,[],⟨[Mm 0 .expr,.v (.imm tyexpr_parser)],[],[.var (.imm tyexpr_parser)]⟩,1,67,⟨[Mm 0 tyexpr_stop,.v (.imm tyexpr_parser)],[],[.var (.imm tyexpr_parser)]⟩,fun x => expr_parser_number_S x⟩ := fkp t112 rn h122 Tryz.func122 [] lnil
def t113 := t112.p ok122
def lp123_1_0 : LoopD := Lz [] [.s 1 (.clo 36 []),Mi 2,Mi 7] ⟨[.v (.imm tyexpr_parser)],[(0,.ptr 0 0)],[.var (.imm tyexpr_parser)]⟩ [⟨.exit 0,⟨[.v (.imm tyexpr_parser)],[],[.var (.imm tyexpr_parser)]⟩⟩] fun p s => expr_parser_while_S_R0 (fun z0 => expr_isInner z0) p.2.1 p.2.2 s
def h123_1 : Hints := Hz [(0,lp123_1_0)] [(0,2,.ways [⟨.normal,⟨[Mb 44,.v (.imm tyexpr_parser)],[],[.var (.imm tyexpr_parser)]⟩⟩])] []
theorem lo123_1_0 : LO Tryz.f123 lp123_1_0 0 := lk t113 rn h123_1 [] lnil
theorem ok123_1 : FnSOk Pz 123 ⟨[.ptr,.clo 36,.any],⟨[.s 1 (.clo 36 []),Mi 2,.v (.imm tyexpr_parser)],[(0,.ptr 0 0)],[.var (.imm tyexpr_parser)]⟩,[],⟨[Ms 0,.v (.imm tyexpr_parser)],[],[.var (.imm tyexpr_parser)]⟩,1,fun x => expr_parser_while_S (fun z0 => expr_isInner z0) x.2.1 x.2.2⟩ := fks t113 rn h123_1 Tryz.func123 [0] (lcons rfl lo123_1_0 lnil)
def t114 := t113.s ok123_1
abbrev Y93 := Shp.den ⟨[.v (.imm tyexpr_parser)],[(0,.ptr 0 0)],[.var (.imm tyexpr_parser)]⟩ → T (Shp.den ⟨[Mm 0 .expr,.v (.imm tyexpr_parser)],[],[.var (.imm tyexpr_parser)]⟩ ⊕ Shp.den ⟨[Mm 0 tyexpr_stop,.v (.imm tyexpr_parser)],[],[.var (.imm tyexpr_parser)]⟩)
abbrev H93 (F : Y93) := FnPOk Pz 93 ⟨[.ptr],⟨[.v (.imm tyexpr_parser)],[(0,.ptr 0 0)],[.var (.imm tyexpr_parser)]⟩,[],⟨[Mm 0 .expr,.v (.imm tyexpr_parser)],[],[.var (.imm tyexpr_parser)]⟩,1,67,⟨[Mm 0 tyexpr_stop,.v (.imm tyexpr_parser)],[],[.var (.imm tyexpr_parser)]⟩,F⟩
abbrev Y48 := Shp.den ⟨[.v (.imm tyexpr_parser)],[(0,.ptr 0 0)],[.var (.imm tyexpr_parser)]⟩ → T (Shp.den ⟨[Mm 0 .expr,.v (.imm tyexpr_parser)],[],[.var (.imm tyexpr_parser)]⟩ ⊕ Shp.den ⟨[Mm 0 tyexpr_stop,.v (.imm tyexpr_parser)],[],[.var (.imm tyexpr_parser)]⟩)
abbrev H48 (F : Y48) := FnPOk Pz 48 ⟨[.ptr],⟨[.v (.imm tyexpr_parser)],[(0,.ptr 0 0)],[.var (.imm tyexpr_parser)]⟩,[],⟨[Mm 0 .expr,.v (.imm tyexpr_parser)],[],[.var (.imm tyexpr_parser)]⟩,1,67,⟨[Mm 0 tyexpr_stop,.v (.imm tyexpr_parser)],[],[.var (.imm tyexpr_parser)]⟩,F⟩
def h93 (F_93 : Y93) (F_48 : Y48) : Hints := Hz [] [(3,10,.ways [⟨.normal,⟨[.v (.imm tyexpr_parser),.v (.imm .expr),.v (.imm .expr)],[],[.var (.imm tyexpr_parser),.var (.imm .expr),.var (.imm .expr)]⟩⟩,⟨.pan (.iface 67 .niface),⟨[Mm 0 tyexpr_stop,.v (.imm tyexpr_parser),.v (.imm .expr),.v (.imm .expr)],[],[.var (.imm tyexpr_parser),.var (.imm .expr),.var (.imm .expr)]⟩⟩]),(0,14,.ways [⟨.normal,⟨[Mb 46,.v (.imm tyexpr_parser),.v (.imm .expr)],[],[.var (.imm tyexpr_parser),.var (.imm .expr)]⟩⟩]),(0,16,.ways [⟨.normal,⟨[Mb 71,.v (.imm tyexpr_parser),.v (.imm .expr)],[],[.var (.imm tyexpr_parser),.var (.imm .expr)]⟩⟩])] []
theorem ok93_B (F_93 : Y93) (h_93 : H93 F_93) (F_48 : Y48) (h_48 : H48 F_48) : FnPOk Pz 93 ⟨[.ptr],⟨[.v (.imm tyexpr_parser)],[(0,.ptr 0 0)],[.var (.imm tyexpr_parser)]⟩,[],⟨[Mm 0 .expr,.v (.imm tyexpr_parser)],[],[.var (.imm tyexpr_parser)]⟩,1,67,⟨[Mm 0 tyexpr_stop,.v (.imm tyexpr_parser)],[],[.var (.imm tyexpr_parser)]⟩,fun x => expr_parser_factor_S_B (fun y0 => F_93 (y0)) (fun y0 => F_48 (y0)) x⟩ := fkp (((t114.s ok123_1).p h_48).p h_93) rn (h93 F_93 F_48) Tryz.func93 [] lnil
theorem ok93 (F_48 : Y48) (h_48 : H48 F_48) : FnPOk Pz 93 ⟨[.ptr],⟨[.v (.imm tyexpr_parser)],[(0,.ptr 0 0)],[.var (.imm tyexpr_parser)]⟩,[],⟨[Mm 0 .expr,.v (.imm tyexpr_parser)],[],[.var (.imm tyexpr_parser)]⟩,1,67,⟨[Mm 0 tyexpr_stop,.v (.imm tyexpr_parser)],[],[.var (.imm tyexpr_parser)]⟩,fun x => expr_parser_factor_S (fun y0 => F_48 (y0)) x⟩ := fnp_fix (fun F_93 x => expr_parser_factor_S_B (fun y0 => F_93 (y0)) (fun y0 => F_48 (y0)) x) (fun x => rfl) (fun F_93 h_93 => ok93_B F_93 h_93 F_48 h_48)
def T69 (F_48 : Y48) (h_48 : H48 F_48) : Tb := t114.p (ok93 _ h_48)
def lp69_0 (F_48 : Y48) : LoopD := Lz [] [Ms 2,Mr 7 tyexpr_stop] ⟨[.v (.imm tyexpr_parser),.v (.imm .expr),.v (.imm .expr)],[(0,.ptr 0 0),(1,.clo 1000093 [(0,0)]),(8,.ptr 1 0),(9,.ptr 2 0)],[.var (.imm tyexpr_parser),.var (.imm .expr),.var (.imm .expr)]⟩ [⟨.ret,⟨[.v (.imm tyexpr_parser),.v (.imm .expr),.v (.imm .expr)],[],[.var (.imm tyexpr_parser),.var (.imm .expr),.var (.imm .expr)]⟩⟩,⟨.pan (.iface 67 .niface),⟨[Mm 0 tyexpr_stop,.v (.imm tyexpr_parser),.v (.imm .expr),.v (.imm .expr)],[],[.var (.imm tyexpr_parser),.var (.imm .expr),.var (.imm .expr)]⟩⟩] fun p s => expr_parser_row_expr_parser_factor_S_R0 (fun y0 => F_48 (y0)) p.1 p.2 s
def h69 (F_48 : Y48) : Hints := Hz [(0,lp69_0 F_48)] [] []
theorem lo69_0 (F_48 : Y48) (h_48 : H48 F_48) : LO Tryz.f69 (lp69_0 F_48) 0 := lk (T69 F_48 h_48) (rz [7]) (h69 F_48) [] lnil
theorem ok69 (F_48 : Y48) (h_48 : H48 F_48) : FnPOk Pz 69 ⟨[.ptr,.clo 1000093,.any,.any],⟨[.s 1 (.mclo 1000093 [.pt 0]),Ms 2,Mm 3 tyexpr_stop,.v (.imm tyexpr_parser)],[(0,.ptr 0 0)],[.var (.imm tyexpr_parser)]⟩,[],⟨[Mm 0 .expr,.v (.imm tyexpr_parser)],[],[.var (.imm tyexpr_parser)]⟩,1,67,⟨[Mm 0 tyexpr_stop,.v (.imm tyexpr_parser)],[],[.var (.imm tyexpr_parser)]⟩,fun x => expr_parser_row_expr_parser_factor_S (fun y0 => F_48 (y0)) x.1 x.2.1 x.2.2.1 x.2.2.2⟩ := fkp (T69 F_48 h_48) (rz [7]) (h69 F_48) Tryz.func69 [0] (lcons rfl (lo69_0 F_48 h_48) lnil)
theorem ok70 (F_48 : Y48) (h_48 : H48 F_48) : FnPOk Pz 70 ⟨[.ptr],⟨[.v (.imm tyexpr_parser)],[(0,.ptr 0 0)],[.var (.imm tyexpr_parser)]⟩,[],⟨[Mm 0 .expr,.v (.imm tyexpr_parser)],[],[.var (.imm tyexpr_parser)]⟩,1,67,⟨[Mm 0 tyexpr_stop,.v (.imm tyexpr_parser)],[],[.var (.imm tyexpr_parser)]⟩,fun x => expr_parser_product_S (fun y0 => F_48 (y0)) x⟩ := fkp (t114.p (ok69 _ h_48)) rn hN Tryz.func70 [] lnil
def T69_1 (F_48 : Y48) (h_48 : H48 F_48) : Tb := t114.p (ok70 _ h_48)
def lp69_1_0 (F_48 : Y48) : LoopD := Lz [] [Ms 2,Mr 7 tyexpr_stop] ⟨[.v (.imm tyexpr_parser),.v (.imm .expr),.v (.imm .expr)],[(0,.ptr 0 0),(1,.clo 1000070 [(0,0)]),(8,.ptr 1 0),(9,.ptr 2 0)],[.var (.imm tyexpr_parser),.var (.imm .expr),.var (.imm .expr)]⟩ [⟨.ret,⟨[.v (.imm tyexpr_parser),.v (.imm .expr),.v (.imm .expr)],[],[.var (.imm tyexpr_parser),.var (.imm .expr),.var (.imm .expr)]⟩⟩,⟨.pan (.iface 67 .niface),⟨[Mm 0 tyexpr_stop,.v (.imm tyexpr_parser),.v (.imm .expr),.v (.imm .expr)],[],[.var (.imm tyexpr_parser),.var (.imm .expr),.var (.imm .expr)]⟩⟩] fun p s => expr_parser_row_expr_parser_product_S_R0 (fun y0 => F_48 (y0)) p.1 p.2 s
def h69_1 (F_48 : Y48) : Hints := Hz [(0,lp69_1_0 F_48)] [] []
theorem lo69_1_0 (F_48 : Y48) (h_48 : H48 F_48) : LO Tryz.f69 (lp69_1_0 F_48) 0 := lk (T69_1 F_48 h_48) (rz [7]) (h69_1 F_48) [] lnil
theorem ok69_1 (F_48 : Y48) (h_48 : H48 F_48) : FnPOk Pz 69 ⟨[.ptr,.clo 1000070,.any,.any],⟨[.s 1 (.mclo 1000070 [.pt 0]),Ms 2,Mm 3 tyexpr_stop,.v (.imm tyexpr_parser)],[(0,.ptr 0 0)],[.var (.imm tyexpr_parser)]⟩,[],⟨[Mm 0 .expr,.v (.imm tyexpr_parser)],[],[.var (.imm tyexpr_parser)]⟩,1,67,⟨[Mm 0 tyexpr_stop,.v (.imm tyexpr_parser)],[],[.var (.imm tyexpr_parser)]⟩,fun x => expr_parser_row_expr_parser_product_S (fun y0 => F_48 (y0)) x.1 x.2.1 x.2.2.1 x.2.2.2⟩ := fkp (T69_1 F_48 h_48) (rz [7]) (h69_1 F_48) Tryz.func69 [0] (lcons rfl (lo69_1_0 F_48 h_48) lnil)
theorem ok48_B (F_48 : Y48) (h_48 : H48 F_48) : FnPOk Pz 48 ⟨[.ptr],⟨[.v (.imm tyexpr_parser)],[(0,.ptr 0 0)],[.var (.imm tyexpr_parser)]⟩,[],⟨[Mm 0 .expr,.v (.imm tyexpr_parser)],[],[.var (.imm tyexpr_parser)]⟩,1,67,⟨[Mm 0 tyexpr_stop,.v (.imm tyexpr_parser)],[],[.var (.imm tyexpr_parser)]⟩,fun x => expr_parser_sum_S_B (fun y0 => F_48 (y0)) x⟩ := fkp (t114.p (ok69_1 _ h_48)) rn hN Tryz.func48 [] lnil
theorem ok48 : FnPOk Pz 48 ⟨[.ptr],⟨[.v (.imm tyexpr_parser)],[(0,.ptr 0 0)],[.var (.imm tyexpr_parser)]⟩,[],⟨[Mm 0 .expr,.v (.imm tyexpr_parser)],[],[.var (.imm tyexpr_parser)]⟩,1,67,⟨[Mm 0 tyexpr_stop,.v (.imm tyexpr_parser)],[],[.var (.imm tyexpr_parser)]⟩,fun x => expr_parser_sum_S x⟩ := fnp_fix (fun F_48 x => expr_parser_sum_S_B (fun y0 => F_48 (y0)) x) (fun x => rfl) (fun F_48 h_48 => ok48_B F_48 h_48)
def t115 := t114.p ok48
theorem ok47 : FnSOkG (DrR Pz) 47 ⟨[.ptr,.ptr,.ptr],⟨[.v (.imm .expr),.v (.imm i64),.v (.imm i64)],[(0,.ptr 0 0),(1,.ptr 1 0),(2,.ptr 2 0)],[.var (.imm .expr),.var (.imm i64),.var (.imm i64)]⟩,[],⟨[.v (.imm .expr),.v (.imm i64),.v (.imm i64)],[],[.var (.imm .expr),.var (.imm i64),.var (.imm i64)]⟩,0,fun x => expr_parser_all_f1_H x.1 x.2.1 x.2.2⟩ := fkr t115 rn hN Tryz.func47
theorem ok47_1 : FnSOkG (DrP Pz 67) 47 ⟨[.ptr,.ptr,.ptr,.any],⟨[Mm 3 tyexpr_stop,.v (.imm .expr),.v (.imm i64),.v (.imm i64)],[(0,.ptr 0 0),(1,.ptr 1 0),(2,.ptr 2 0)],[.var (.imm .expr),.var (.imm i64),.var (.imm i64)]⟩,[],⟨[.v (.imm .expr),.v (.imm i64),.v (.imm i64)],[],[.var (.imm .expr),.var (.imm i64),.var (.imm i64)]⟩,0,fun x => expr_parser_all_f1_Hp x.1 x.2.1 x.2.2.1 x.2.2.2⟩ := fkh t115 rn hN Tryz.func47 3
theorem ok30 : FnSOk Pz 30 ⟨[.ptr],⟨[.v (.imm tyexpr_parser)],[(0,.ptr 0 0)],[.var (.imm tyexpr_parser)]⟩,[],⟨[Mm 0 .expr,Mi 1,Mi 2,.v (.imm tyexpr_parser)],[],[.var (.imm tyexpr_parser)]⟩,3,fun x => expr_parser_all_S x⟩ := fkf t115 rn hN (g := 47) (pt := 67) ok47 ok47_1 Tryz.func30
def t116 := t115.s ok30
def h11 : Hints := Hz [] [(0,5,.ways [⟨.normal,⟨[Mb 31,.v (.imm .expr),.v (.imm tyexpr_parser),.v (.imm .expr)],[],[.var (.imm .expr),.var (.imm tyexpr_parser),.var (.imm .expr)]⟩⟩])] []
theorem ok11 : FnOk Pz 11 ⟨[.ty .str],[.expr,i64,i64],fun x => expr_Parse x⟩ := fkd t116 rn h11 Tryz.func11 [] lnil
def t117 := t116.d ok11
theorem ok16 : FnOk Pz 16 ⟨[],[.bool],fun _ => law5_known⟩ := fkd t117 rn hN Tryz.func16 [] lnil
def t118 := t117.d ok16
def h10 : Hints := Hz [] [(0,1,.ways [⟨.normal,⟨[Mb 12],[],[]⟩⟩])] []
theorem ok10 : FnOk Pz 10 ⟨[.ty .expr,.ty .expr],[.bool],fun x => law5_ExprLooks x.1 x.2⟩ := fkd t118 (rz [2,3]) h10 Tryz.func10 [] lnil
def t119 := t118.d ok10
end Go.AM.Lf
