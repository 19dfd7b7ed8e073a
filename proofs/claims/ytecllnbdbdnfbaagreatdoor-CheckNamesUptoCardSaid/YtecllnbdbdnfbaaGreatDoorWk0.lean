/-
  The walk, part 0: each function of the program is the tree that the lifted text says; printed by a program of ours.
-/
import Derived.Test.YtecllnbdbdnfbaaGreatDoorProg
import Derived.KernelRfl
import Derived.Test.YtecllnbdbdnfbaaGreatDoorAmD
import Derived.Test.YtecllnbdbdnfbaaGreatDoorLf1
import Derived.Lib.Builder
import Derived.Shelf.Strings.Builder1
import Derived.WalkKit
import Derived.TacticsInMore
import Derived.Maps.OwnOps
import Derived.Maps.AppendAt
import Derived.StringKeys
import Derived.Maps.Views
import Derived.Test.YtecllnbdbdnfbaaGreatDoorSh
set_option linter.unusedVariables false
set_option maxRecDepth 100000
noncomputable section
namespace Go.AM.Lf
open Go.Proofs
abbrev XID : Nat := 48
abbrev Pz : Program := Tryz.prog
def bodyOf (f : Func) : Code := match f.body with | some c => c | none => .skip
def lb (k : Nat) (f : Func) : Code := match loopAt k (bodyOf f) with | some c => c | none => .skip
theorem mixed : Pz.follows .mixedOrders = true := by kernel_rfl
instance : Glob := { u8 := 5,tab := [(1,isTab .u64 Lib.pow10Tab)] }
theorem glob_internal_strconv_uint64pow10 {κ : KS} (hI : Inv κ) : Lib.TabIs Tryz.prog κ.w "internal/strconv.uint64pow10" .u64 Lib.pow10Tab :=
 tab_of (g := 1) (by kernel_rfl) (hI.gl (1,isTab .u64 Lib.pow10Tab) (by simp [Glob.tab])).2
structure Tb where
 t : Tab
 ok : TabOk Pz t
def Tb.d (T : Tb) {g : Nat} {d : FnD} (h : FnOk Pz g d) : Tb := ⟨(g,.d d) :: T.t,tabOk_cons h T.ok⟩
def Tb.s (T : Tb) {g : Nat} {d : FnS} (h : FnSOk Pz g d) : Tb := ⟨(g,.s d) :: T.t,tabOk_consS h T.ok⟩
def Tb.p (T : Tb) {g : Nat} {d : FnP} (h : FnPOk Pz g d) : Tb := ⟨(g,.p d) :: T.t,tabOk_consP h T.ok⟩
def t0 : Tb := ⟨[],tabOk_nil _⟩
def fL : List (Nat × LoopD) → Nat → Option LoopD
 | [],_ => none
 | x :: r,n => bif Nat.beq x.1 n then some x.2 else fL r n
def fC : List (Nat × Nat × CutD) → Nat → Nat → Option CutD
 | [],_,_ => none
 | x :: r,k,n => bif Nat.beq x.1 k && Nat.beq x.2.1 n then some x.2.2 else fC r k n
def fF : List (Nat × List Nat) → Nat → List Nat
 | [],_ => []
 | x :: r,n => bif Nat.beq x.1 n then x.2 else fF r n
def Hz (l : List (Nat × LoopD)) (c : List (Nat × Nat × CutD)) (f : List (Nat × List Nat)) : Hints := ⟨fL l,fC c,fF f⟩
def hN : Hints := Hz [] [] []
def rz (l : List Nat) (s : Nat) : Bool := l.any (Nat.beq s)
def rn (_ : Nat) : Bool := false
def Lz (gh : List Gh) (ps : List It) (sh : Shp) (ws : List Way) (R : denIts ps → sh.den → T (sh.den ⊕ denWs ws)) : LoopD := ⟨gh,ps,sh,ws,fun p s => T.loop (R p) s⟩
abbrev LO (f : Func) (l : LoopD) (i : Nat) : Prop := LoopOkK Pz f.ntmps l (lb i f)
def ls (f : Func) : List Nat → List (Nat × Code)
 | [] => []
 | i :: r => (i,lb i f) :: ls f r
abbrev Mi (n : Nat) : It := .s n (.imm i64)
abbrev Mb (n : Nat) : It := .s n (.imm .bool)
abbrev Ms (n : Nat) : It := .s n (.imm .str)
abbrev Mm (n : Nat) (t : Ty) : It := .s n (.imm t)
abbrev Mr (n : Nat) (t : Ty) : It := .s n (.rptr t)
abbrev Sh0 (l : List It) : Shp := ⟨l,[],[]⟩
theorem lk {f : Func} {i : Nat} {gh : List Gh} {ps : List It} {sh : Shp} {ws : List Way} {R : denIts ps → sh.den → T (sh.den ⊕ denWs ws)} (T : Tb) (ro : Nat → Bool) (H : Hints) (L : List Nat) (ha : AllL Pz f.ntmps H (ls f L))
  (h : ∀ p s,roundK (mkC Pz XID T.t ro) T.t f.ntmps H (Lz gh ps sh ws R) (lb i f) p s = R p s := by intro p s; kernel_rfl) (hl : loopsOf (lb i f) = ls f L := by kernel_rfl) : LO f (Lz gh ps sh ws R) i :=
 loop_ok (xid := XID) (ro := ro) (H := H) mixed T.ok (loops_of hl ha) R h fun _ _ => rfl
theorem fkd {f : Nat} {fn : Func} {d : FnD} (T : Tb) (ro : Nat → Bool) (H : Hints) (hf : Pz.funcs[f]? = some fn) (L : List Nat) (ha : AllL Pz fn.ntmps H (ls fn L))
  (h : ∀ x,evFnk (mkC Pz XID T.t ro) T.t H fn (bodyOf fn) d x = d.F x := by intro x; kernel_rfl) (hb : fn.body = some (bodyOf fn) := by rfl) (hn : (fn.name == "runtime.NumGoroutine") = false := by kernel_rfl) (hl : loopsOf (bodyOf fn) = ls fn L := by kernel_rfl) : FnOk Pz f d :=
 fn_ok (xid := XID) (ro := ro) (H := H) mixed T.ok hf hb hn (loops_of hl ha) h
theorem fks {f : Nat} {fn : Func} {d : FnS} (T : Tb) (ro : Nat → Bool) (H : Hints) (hf : Pz.funcs[f]? = some fn) (L : List Nat) (ha : AllL Pz fn.ntmps H (ls fn L))
  (h : ∀ x,evFnSk (mkC Pz XID T.t ro) T.t H fn (bodyOf fn) d x = d.F x := by intro x; kernel_rfl) (hb : fn.body = some (bodyOf fn) := by rfl) (hn : (fn.name == "runtime.NumGoroutine") = false := by kernel_rfl) (hl : loopsOf (bodyOf fn) = ls fn L := by kernel_rfl) : FnSOk Pz f d :=
 fns_ok (xid := XID) (ro := ro) (H := H) mixed T.ok hf hb hn (loops_of hl ha) h
theorem fkp {f : Nat} {fn : Func} {d : FnP} (T : Tb) (ro : Nat → Bool) (H : Hints) (hf : Pz.funcs[f]? = some fn) (L : List Nat) (ha : AllL Pz fn.ntmps H (ls fn L))
  (h : ∀ x,evFnPk (mkC Pz XID T.t ro) T.t H fn (bodyOf fn) d x = d.F x := by intro x; kernel_rfl) (hb : fn.body = some (bodyOf fn) := by rfl) (hn : (fn.name == "runtime.NumGoroutine") = false := by kernel_rfl) (hl : loopsOf (bodyOf fn) = ls fn L := by kernel_rfl) : FnPOk Pz f d :=
 fnp_ok (xid := XID) (ro := ro) (H := H) mixed T.ok hf hb hn (loops_of hl ha) h
abbrev Y12 := denPs [.ty .expr,.ty i64] → T (Tup [i64])
abbrev H12 (F : Y12) := FnOk Pz 12 ⟨[.ty .expr,.ty i64],[i64],F⟩
def T12 (F_12 : Y12) (h_12 : H12 F_12) : Tb := t0.d h_12
def lp12_0 (F_12 : Y12) : LoopD := Lz [] [Mr 2 .expr] ⟨[Mi 1,Mi 5],[],[]⟩ [⟨.exit 0,⟨[Mi 1],[],[]⟩⟩] fun p s => law7_weight_R0 (fun y0 y1 => F_12 (y0,y1)) p s
def h12 (F_12 : Y12) : Hints := Hz [(0,lp12_0 F_12)] [(0,3,.flat [Mb 32])] []
theorem lo12_0 (F_12 : Y12) (h_12 : H12 F_12) : LO Tryz.f12 (lp12_0 F_12) 0 := lk (T12 F_12 h_12) (rz [2]) (h12 F_12) [] lnil
theorem ok12_B (F_12 : Y12) (h_12 : H12 F_12) : FnOk Pz 12 ⟨[.ty .expr,.ty i64],[i64],fun x => law7_weight_B (fun y0 y1 => F_12 (y0,y1)) x.1 x.2⟩ := fkd (T12 F_12 h_12) (rz [2]) (h12 F_12) Tryz.func12 [0] (lcons rfl (lo12_0 F_12 h_12) lnil)
theorem ok12 : FnOk Pz 12 ⟨[.ty .expr,.ty i64],[i64],fun x => law7_weight x.1 x.2⟩ := fn_fix (fun F_12 x => law7_weight_B (fun y0 y1 => F_12 (y0,y1)) x.1 x.2) (fun x => rfl) (fun F_12 h_12 => ok12_B F_12 h_12)
def t1 := t0.d ok12
def lp5_0 : LoopD := Lz [] [Mr 1 tyForm] ⟨[Mi 3,Mi 4],[],[]⟩ [⟨.exit 0,⟨[Mi 3],[],[]⟩⟩] fun p s => law7_heavy_R0 p s
def lp5_2 : LoopD := Lz [] [Mr 1 tyForm] ⟨[Mi 3,Mi 5],[],[]⟩ [⟨.exit 2,⟨[Mi 3],[],[]⟩⟩] fun p s => law7_heavy_R1 p s
def lp5_4 : LoopD := Lz [] [Mr 1 tyForm] ⟨[Mi 3,Mi 6],[],[]⟩ [⟨.exit 4,⟨[Mi 3],[],[]⟩⟩] fun p s => law7_heavy_R2 p s
def lp5_6 : LoopD := Lz [] [Mr 1 tyForm] ⟨[Mi 3,Mi 7],[],[]⟩ [⟨.exit 6,⟨[Mi 3],[],[]⟩⟩] fun p s => law7_heavy_R3 p s
def lp5_8 : LoopD := Lz [] [Mr 1 tyForm] ⟨[Mi 3,Mi 8],[],[]⟩ [⟨.exit 8,⟨[Mi 3],[],[]⟩⟩] fun p s => law7_heavy_R4 p s
def lp5_10 : LoopD := Lz [] [Mr 1 tyForm] ⟨[Mi 3,Mi 9],[],[]⟩ [⟨.exit 10,⟨[Mi 3],[],[]⟩⟩] fun p s => law7_heavy_R5 p s
def h5 : Hints := Hz [(0,lp5_0),(2,lp5_2),(4,lp5_4),(6,lp5_6),(8,lp5_8),(10,lp5_10)] [(0,3,.flat [Mb 43]),(0,7,.flat [Mb 83]),(0,11,.flat [Mb 103]),(0,15,.flat [Mb 131]),(0,19,.flat [Mb 151]),(0,23,.flat [Mb 193])] []
theorem lo5_0 : LO Tryz.f5 lp5_0 0 := lk t1 (rz [1]) h5 [] lnil
theorem lo5_2 : LO Tryz.f5 lp5_2 2 := lk t1 (rz [1]) h5 [] lnil
theorem lo5_4 : LO Tryz.f5 lp5_4 4 := lk t1 (rz [1]) h5 [] lnil
theorem lo5_6 : LO Tryz.f5 lp5_6 6 := lk t1 (rz [1]) h5 [] lnil
theorem lo5_8 : LO Tryz.f5 lp5_8 8 := lk t1 (rz [1]) h5 [] lnil
theorem lo5_10 : LO Tryz.f5 lp5_10 10 := lk t1 (rz [1]) h5 [] lnil
theorem ok5 : FnOk Pz 5 ⟨[.ty tyForm],[.bool],fun x => law7_heavy x⟩ := fkd t1 (rz [1]) h5 Tryz.func5 [0,2,4,6,8,10] (lcons rfl lo5_0 (lcons rfl lo5_2 (lcons rfl lo5_4 (lcons rfl lo5_6 (lcons rfl lo5_8 (lcons rfl lo5_10 lnil))))))
def t2 := t1.d ok5
def h90 : Hints := Hz [] [(0,1,.flat [Mb 2])] []
theorem ok90 : FnOk Pz 90 ⟨[.ty (.int .u8)],[.bool],fun x => expr_isLetter x⟩ := fkd t2 rn h90 Tryz.func90 [] lnil
def t3 := t2.d ok90
def h112 : Hints := Hz [] [(0,1,.flat [Mb 2])] []
theorem ok112 : FnOk Pz 112 ⟨[.ty (.int .u8)],[.bool],fun x => expr_isDigit x⟩ := fkd t3 rn h112 Tryz.func112 [] lnil
def t4 := t3.d ok112
theorem ok91 : FnOk Pz 91 ⟨[.ty (.int .u8)],[.bool],fun x => expr_isInner x⟩ := fkd t4 rn hN Tryz.func91 [] lnil
def t5 := t4.d ok91
def lp53_0 : LoopD := Lz [] [Ms 0,Mi 18] ⟨[Mi 19],[],[]⟩ [⟨.exit 0,⟨[],[],[]⟩⟩,⟨.ret,⟨[Mb 2],[],[]⟩⟩] fun p s => expr_Name_R0 p.1 p.2 s
def h53 : Hints := Hz [(0,lp53_0)] [(0,1,.ways [⟨.normal,⟨[Mb 16],[],[]⟩⟩])] []
theorem lo53_0 : LO Tryz.f53 lp53_0 0 := lk t5 rn h53 [] lnil
theorem ok53 : FnOk Pz 53 ⟨[.ty .str],[.bool],fun x => expr_Name x⟩ := fkd t5 rn h53 Tryz.func53 [0] (lcons rfl lo53_0 lnil)
def t6 := t5.d ok53
theorem ok52 : FnOk Pz 52 ⟨[.ty tySwitch],[.bool],fun x => sheet_heads_f1 x⟩ := fkd t6 (rz [1]) hN Tryz.func52 [] lnil
def t7 := t6.d ok52
def lp72_0 : LoopD := Lz [] [Mm 0 (.sl tySwitch),.s 1 (.clo 52 []),Mi 7] ⟨[Mi 8],[],[]⟩ [⟨.exit 0,⟨[],[],[]⟩⟩,⟨.ret,⟨[Mi 4],[],[]⟩⟩] fun p s => slices_IndexFunc_sl_Switch_R0 p.1 (fun z0 => sheet_heads_f1 z0) p.2.2 s
def h72 : Hints := Hz [(0,lp72_0)] [] []
theorem lo72_0 : LO Tryz.f72 lp72_0 0 := lk t7 rn h72 [] lnil
theorem ok72 : FnOk Pz 72 ⟨[.ty (.sl tySwitch),.clo 52 []],[i64],fun x => slices_IndexFunc_sl_Switch x.1 (fun z0 => sheet_heads_f1 z0)⟩ := fkd t7 rn h72 Tryz.func72 [0] (lcons rfl lo72_0 lnil)
def t8 := t7.d ok72
theorem ok33 : FnOk Pz 33 ⟨[.ty (.sl tySwitch),.clo 52 []],[.bool],fun x => slices_ContainsFunc_sl_Switch x.1 (fun z0 => sheet_heads_f1 z0)⟩ := fkd t8 rn hN Tryz.func33 [] lnil
def t9 := t8.d ok33
def h92 : Hints := Hz [] [(0,1,.flat [Mb 2])] []
theorem ok92 : FnOk Pz 92 ⟨[.ty (.sl u32)],[.bool],fun x => nat_Is x⟩ := fkd t9 rn h92 Tryz.func92 [] lnil
def t10 := t9.d ok92
def lp113_0 : LoopD := Lz [] [] ⟨[Mm 0 (.sl u32)],[],[]⟩ [⟨.exit 0,⟨[Mm 0 (.sl u32)],[],[]⟩⟩] fun p s => nat_trim_R0  s
def h113 : Hints := Hz [(0,lp113_0)] [] []
theorem lo113_0 : LO Tryz.f113 lp113_0 0 := lk t10 rn h113 [] lnil
theorem ok113 : FnOk Pz 113 ⟨[.ty (.sl u32)],[(.sl u32)],fun x => nat_trim x⟩ := fkd t10 rn h113 Tryz.func113 [0] (lcons rfl lo113_0 lnil)
def t11 := t10.d ok113
def h131 : Hints := Hz [] [(0,1,.nilt)] []
theorem ok131 : FnOk Pz 131 ⟨[.ty (.sl u32)],[(.sl u32)],fun x => slices_Clone_sl_uint32 x⟩ := fkd t11 rn h131 Tryz.func131 [] lnil
def t12 := t11.d ok131
theorem ok114 : FnOk Pz 114 ⟨[.ty (.sl u32)],[(.sl u32)],fun x => nat_Trim x⟩ := fkd t12 rn hN Tryz.func114 [] lnil
def t13 := t12.d ok114
def lp93_0 : LoopD := Lz [] [Mm 0 (.sl u32),Mm 1 (.sl u32)] ⟨[Mi 5],[],[]⟩ [⟨.exit 0,⟨[],[],[]⟩⟩,⟨.ret,⟨[Mi 4],[],[]⟩⟩] fun p s => nat_Cmp_R0 p.1 p.2 s
def h93 : Hints := Hz [(0,lp93_0)] [] []
theorem lo93_0 : LO Tryz.f93 lp93_0 0 := lk t13 rn h93 [] lnil
theorem ok93 : FnOk Pz 93 ⟨[.ty (.sl u32),.ty (.sl u32)],[i64],fun x => nat_Cmp x.1 x.2⟩ := fkd t13 rn h93 Tryz.func93 [0] (lcons rfl lo93_0 lnil)
def t14 := t13.d ok93
def h136 : Hints := Hz [] [(0,1,.flat [Mb 15])] []
theorem ok136 : FnOk Pz 136 ⟨[.ty u32,.ty u32,.ty u32],[u32,u32],fun x => math_bits_Div32 x.1 x.2.1 x.2.2⟩ := fkd t14 rn h136 Tryz.func136 [] lnil
def t15 := t14.d ok136
def lp120_0 : LoopD := Lz [] [Mm 0 (.sl u32),Mm 1 u32] ⟨[Mm 7 u32,Mi 8,.a u32],[(6,.cur 0 u32)],[.arr u32]⟩ [⟨.exit 0,⟨[Mm 7 u32,.a u32],[(6,.cur 0 u32)],[.arr u32]⟩⟩] fun p s => nat_small_R0 p.1 p.2 s
def h120 : Hints := Hz [(0,lp120_0)] [] [(7,[6])]
theorem lo120_0 : LO Tryz.f120 lp120_0 0 := lk t15 rn h120 [] lnil
theorem ok120 : FnOk Pz 120 ⟨[.ty (.sl u32),.ty u32],[(.sl u32),u32],fun x => nat_small x.1 x.2⟩ := fkd t15 rn h120 Tryz.func120 [0] (lcons rfl lo120_0 lnil)
def t16 := t15.d ok120
theorem ok95 : FnOk Pz 95 ⟨[.ty (.int .u64)],[(.sl u32)],fun x => nat_Of x⟩ := fkd t16 rn hN Tryz.func95 [] lnil
def t17 := t16.d ok95
def h158 : Hints := Hz [] [(3,1,.flat [Mm 0 u32,Mi 2]),(3,4,.flat [Mm 0 u32,Mi 2])] []
theorem ok158 : FnOk Pz 158 ⟨[.ty u32],[i64],fun x => math_bits_Len32 x⟩ := fkd t17 rn h158 Tryz.func158 [] lnil
def t18 := t17.d ok158
theorem ok149 : FnOk Pz 149 ⟨[.ty u32],[i64],fun x => math_bits_LeadingZeros32 x⟩ := fkd t18 rn hN Tryz.func149 [] lnil
def t19 := t18.d ok149
def lp150_0 : LoopD := Lz [] [Mm 1 (.int .u64),Mi 2,Mm 13 (.sl u32),Mi 14] ⟨[Mi 15,.a u32],[(7,.cur 0 u32)],[.arr u32]⟩ [⟨.exit 0,⟨[.a u32],[(7,.cur 0 u32)],[.arr u32]⟩⟩] fun p s => nat_left_S_R0 p.1 p.2.1 p.2.2.1 p.2.2.2 s
def h150 : Hints := Hz [(0,lp150_0)] [] []
theorem lo150_0 : LO Tryz.f150 lp150_0 0 := lk t19 rn h150 [] lnil
theorem ok150 : FnSOk Pz 150 ⟨[.any,.any,.any],⟨[Mm 0 (.sl u32),Mm 1 (.int .u64),Mi 2],[],[]⟩,[],⟨[.a u32],[(0,.cur 0 u32)],[.arr u32]⟩,1,fun x => nat_left_S x.1 x.2.1 x.2.2⟩ := fks t19 rn h150 Tryz.func150 [0] (lcons rfl lo150_0 lnil)
def t20 := t19.s ok150
def lp151_0 : LoopD := Lz [] [Mm 2 u32,Mm 3 u32,Mm 4 u32] ⟨[Mm 12 (.int .u64),Mm 13 (.int .u64)],[],[]⟩ [⟨.exit 0,⟨[Mm 12 (.int .u64)],[],[]⟩⟩] fun p s => nat_guess_R0 p.1 p.2.1 p.2.2 s
def h151 : Hints := Hz [(0,lp151_0)] [(0,3,.flat [Mb 42])] []
theorem lo151_0 : LO Tryz.f151 lp151_0 0 := lk t20 rn h151 [] lnil
theorem ok151 : FnOk Pz 151 ⟨[.ty u32,.ty u32,.ty u32,.ty u32,.ty u32],[(.int .u64)],fun x => nat_guess x.1 x.2.1 x.2.2.1 x.2.2.2.1 x.2.2.2.2⟩ := fkd t20 rn h151 Tryz.func151 [0] (lcons rfl lo151_0 lnil)
def t21 := t20.d ok151
theorem ok159 : FnOk Pz 159 ⟨[.ty u32,.ty u32,.ty u32],[u32,u32],fun x => math_bits_Sub32 x.1 x.2.1 x.2.2⟩ := fkd t21 rn hN Tryz.func159 [] lnil
def t22 := t21.d ok159
theorem ok160 : FnOk Pz 160 ⟨[.ty u32,.ty u32,.ty u32],[u32,u32],fun x => math_bits_Add32 x.1 x.2.1 x.2.2⟩ := fkd t22 rn hN Tryz.func160 [] lnil
def t23 := t22.d ok160
def lp152_0 : LoopD := Lz [] [Mm 1 (.sl u32),Mm 2 (.int .u64),Mm 14 (.sl u32),Mi 15] ⟨[.s 0 (.sub 0 u32),Mm 7 (.int .u64),Mm 8 u32,Mi 16,.a u32],[],[.arr u32]⟩ [⟨.exit 0,⟨[.s 0 (.sub 0 u32),Mm 7 (.int .u64),Mm 8 u32,.a u32],[],[.arr u32]⟩⟩] fun p s => nat_takes_S_R0 p.1 p.2.1 p.2.2.1 p.2.2.2 s
def lp152_2 : LoopD := Lz [] [Mm 1 (.sl u32),Mm 62 (.sl u32),Mi 63] ⟨[.s 0 (.sub 0 u32),Mm 11 u32,Mi 64,.a u32],[],[.arr u32]⟩ [⟨.exit 2,⟨[.s 0 (.sub 0 u32),Mm 11 u32,.a u32],[],[.arr u32]⟩⟩] fun p s => nat_takes_S_R1 p.1 p.2.1 p.2.2 s
def h152 : Hints := Hz [(0,lp152_0),(2,lp152_2)] [] []
theorem lo152_0 : LO Tryz.f152 lp152_0 0 := lk t23 rn h152 [] lnil
theorem lo152_2 : LO Tryz.f152 lp152_2 2 := lk t23 rn h152 [] lnil
theorem ok152 : FnSOk Pz 152 ⟨[.sub,.any,.any],⟨[.s 0 (.sub 0 u32),Mm 1 (.sl u32),Mm 2 (.int .u64),.a u32],[],[.arr u32]⟩,[],⟨[Mb 0,.a u32],[],[.arr u32]⟩,1,fun x => nat_takes_S x.1 x.2.1 x.2.2.1 x.2.2.2⟩ := fks t23 rn h152 Tryz.func152 [0,2] (lcons rfl lo152_0 (lcons rfl lo152_2 lnil))
def t24 := t23.s ok152
def lp150_1_0 : LoopD := Lz [] [Mm 1 (.int .u64),Mi 2,Mm 13 (.sl u32),Mi 14] ⟨[Mi 15,.a u32],[(7,.cur 0 u32)],[.arr u32]⟩ [⟨.exit 0,⟨[.a u32],[(7,.cur 0 u32)],[.arr u32]⟩⟩] fun p s => nat_left_R0 p.1 p.2.1 p.2.2.1 p.2.2.2 s
def h150_1 : Hints := Hz [(0,lp150_1_0)] [] []
theorem lo150_1_0 : LO Tryz.f150 lp150_1_0 0 := lk t24 rn h150_1 [] lnil
theorem ok150_1 : FnOk Pz 150 ⟨[.ty (.sl u32),.ty (.int .u64),.ty i64],[(.sl u32)],fun x => nat_left x.1 x.2.1 x.2.2⟩ := fkd t24 rn h150_1 Tryz.func150 [0] (lcons rfl lo150_1_0 lnil)
def t25 := t24.d ok150_1
def T153 : Tb := t25.d ok150_1
def lp153_0 : LoopD := Lz [] [Mm 6 (.int .u64),Mm 38 (.sl u32),Mi 39] ⟨[Mi 40,.a u32],[(7,.cur 0 u32)],[.arr u32]⟩ [⟨.exit 0,⟨[.a u32],[(7,.cur 0 u32)],[.arr u32]⟩⟩] fun p s => nat_Shift_R0 p.1 p.2.1 p.2.2 s
def h153 : Hints := Hz [(0,lp153_0)] [] [(17,[7]),(21,[12])]
theorem lo153_0 : LO Tryz.f153 lp153_0 0 := lk T153 rn h153 [] lnil
theorem ok153 : FnOk Pz 153 ⟨[.ty (.sl u32),.ty i64],[(.sl u32)],fun x => nat_Shift x.1 x.2⟩ := fkd T153 rn h153 Tryz.func153 [0] (lcons rfl lo153_0 lnil)
def t26 := t25.d ok153
def T132 : Tb := t26.s ok150
def lp132_0 : LoopD := Lz [] [Mm 6 (.int .u64),Mm 8 (.sl u32),Mi 9] ⟨[Mi 10,.a u32,.a u32],[(4,.cur 2 u32),(7,.cur 0 u32)],[.arr u32,.dead,.arr u32]⟩ [⟨.exit 0,⟨[.a u32,.a u32],[(4,.cur 2 u32),(7,.cur 0 u32)],[.arr u32,.dead,.arr u32]⟩⟩] fun p s => nat_long_R0 p.1 p.2.1 p.2.2 s
def h132 : Hints := Hz [(0,lp132_0)] [(3,9,.ways [⟨.normal,⟨[Mm 11 (.int .u64),.a u32,.a u32],[(4,.cur 2 u32),(7,.cur 0 u32)],[.arr u32,.dead,.arr u32]⟩⟩])] [(5,[8]),(12,[4,7])]
theorem lo132_0 : LO Tryz.f132 lp132_0 0 := lk T132 rn h132 [] lnil
theorem ok132 : FnOk Pz 132 ⟨[.ty (.sl u32),.ty (.sl u32)],[(.sl u32),(.sl u32)],fun x => nat_long x.1 x.2⟩ := fkd T132 rn h132 Tryz.func132 [0] (lcons rfl lo132_0 lnil)
def t27 := t26.d ok132
theorem ok115 : FnOk Pz 115 ⟨[.ty (.sl u32),.ty (.sl u32)],[(.sl u32),(.sl u32),.bool],fun x => nat_DivMod x.1 x.2⟩ := fkd t27 rn hN Tryz.func115 [] lnil
def t28 := t27.d ok115
def lp94_0 : LoopD := Lz [] [] ⟨[Mm 0 (.sl u32),Mm 1 (.sl u32)],[],[]⟩ [⟨.exit 0,⟨[Mm 0 (.sl u32)],[],[]⟩⟩] fun p s => nat_Gcd_R0  s
def h94 : Hints := Hz [(0,lp94_0)] [] []
theorem lo94_0 : LO Tryz.f94 lp94_0 0 := lk t28 rn h94 [] lnil
theorem ok94 : FnOk Pz 94 ⟨[.ty (.sl u32),.ty (.sl u32)],[(.sl u32)],fun x => nat_Gcd x.1 x.2⟩ := fkd t28 rn h94 Tryz.func94 [0] (lcons rfl lo94_0 lnil)
def t29 := t28.d ok94
def h55 : Hints := Hz [] [(0,1,.ways [⟨.normal,⟨[Mb 28],[],[]⟩⟩])] []
theorem ok55 : FnOk Pz 55 ⟨[.ty tyRat],[.bool],fun x => rat_Is x⟩ := fkd t29 (rz [1]) h55 Tryz.func55 [] lnil
def t30 := t29.d ok55
def h116 : Hints := Hz [] [(0,2,.flat [Mb 19])] []
theorem ok116 : FnOk Pz 116 ⟨[.ty .bool,.ty (.sl u32),.ty (.sl u32)],[tyRat],fun x => rat_Of x.1 x.2.1 x.2.2⟩ := fkd t30 rn h116 Tryz.func116 [] lnil
def t31 := t30.d ok116
theorem ok96 : FnOk Pz 96 ⟨[.ty tyRat],[tyRat],fun x => rat_Norm x⟩ := fkd t31 (rz [1]) hN Tryz.func96 [] lnil
def t32 := t31.d ok96
def h56 : Hints := Hz [] [(0,2,.flat [Mb 2])] []
theorem ok56 : FnOk Pz 56 ⟨[.ty tyRat],[.bool],fun x => rat_Large x⟩ := fkd t32 rn h56 Tryz.func56 [] lnil
def t33 := t32.d ok56
theorem ok54 : FnOk Pz 54 ⟨[.ty tyParam],[.bool],fun x => sheet_heads_f2 x⟩ := fkd t33 (rz [1]) hN Tryz.func54 [] lnil
def t34 := t33.d ok54
def lp76_0 : LoopD := Lz [] [Mm 0 (.sl tyParam),.s 1 (.clo 54 []),Mi 7] ⟨[Mi 8],[],[]⟩ [⟨.exit 0,⟨[],[],[]⟩⟩,⟨.ret,⟨[Mi 4],[],[]⟩⟩] fun p s => slices_IndexFunc_sl_Param_R0 p.1 (fun z0 => sheet_heads_f2 z0) p.2.2 s
def h76 : Hints := Hz [(0,lp76_0)] [] []
theorem lo76_0 : LO Tryz.f76 lp76_0 0 := lk t34 rn h76 [] lnil
theorem ok76 : FnOk Pz 76 ⟨[.ty (.sl tyParam),.clo 54 []],[i64],fun x => slices_IndexFunc_sl_Param x.1 (fun z0 => sheet_heads_f2 z0)⟩ := fkd t34 rn h76 Tryz.func76 [0] (lcons rfl lo76_0 lnil)
def t35 := t34.d ok76
theorem ok39 : FnOk Pz 39 ⟨[.ty (.sl tyParam),.clo 54 []],[.bool],fun x => slices_ContainsFunc_sl_Param x.1 (fun z0 => sheet_heads_f2 z0)⟩ := fkd t35 rn hN Tryz.func39 [] lnil
def t36 := t35.d ok39
theorem ok59 : FnOk Pz 59 ⟨[.ty .str],[.bool],fun x => sheet_isWhen x⟩ := fkd t36 rn hN Tryz.func59 [] lnil
def t37 := t36.d ok59
theorem ok58 : FnOk Pz 58 ⟨[.ty tyPage],[.bool],fun x => sheet_heads_f3 x⟩ := fkd t37 (rz [1]) hN Tryz.func58 [] lnil
def t38 := t37.d ok58
def lp97_0 : LoopD := Lz [] [Mm 0 (.sl tyPage),.s 1 (.clo 58 []),Mi 7] ⟨[Mi 8],[],[]⟩ [⟨.exit 0,⟨[],[],[]⟩⟩,⟨.ret,⟨[Mi 4],[],[]⟩⟩] fun p s => slices_IndexFunc_sl_Page_R0 p.1 (fun z0 => sheet_heads_f3 z0) p.2.2 s
def h97 : Hints := Hz [(0,lp97_0)] [] []
theorem lo97_0 : LO Tryz.f97 lp97_0 0 := lk t38 rn h97 [] lnil
theorem ok97 : FnOk Pz 97 ⟨[.ty (.sl tyPage),.clo 58 []],[i64],fun x => slices_IndexFunc_sl_Page x.1 (fun z0 => sheet_heads_f3 z0)⟩ := fkd t38 rn h97 Tryz.func97 [0] (lcons rfl lo97_0 lnil)
def t39 := t38.d ok97
theorem ok57 : FnOk Pz 57 ⟨[.ty (.sl tyPage),.clo 58 []],[.bool],fun x => slices_ContainsFunc_sl_Page x.1 (fun z0 => sheet_heads_f3 z0)⟩ := fkd t39 rn hN Tryz.func57 [] lnil
def t40 := t39.d ok57
theorem ok27 : FnOk Pz 27 ⟨[.ty tyForm],[.bool],fun x => sheet_heads x⟩ := fkd t40 (rz [1]) hN Tryz.func27 [] lnil
def t41 := t40.d ok27
def h60 : Hints := Hz [] [(0,1,.flat [Mb 6])] []
theorem ok60 : FnOk Pz 60 ⟨[.ty i64,.ty i64,.ty i64],[.bool],fun x => sheet_isPage x.1 x.2.1 x.2.2⟩ := fkd t41 rn h60 Tryz.func60 [] lnil
def t42 := t41.d ok60
def lp28_0 : LoopD := Lz [] [Mr 1 tyForm,Mm 7 (.sl tyField),Mi 8] ⟨[Mi 3,Mi 9],[],[]⟩ [⟨.exit 0,⟨[],[],[]⟩⟩,⟨.ret,⟨[Mb 2],[],[]⟩⟩] fun p s => sheet_fields_R0 p.1 p.2.1 p.2.2 s
def h28 : Hints := Hz [(0,lp28_0)] [(0,5,.ways [⟨.normal,⟨[Mb 36,.v (.imm tyField)],[],[.var (.imm tyField)]⟩⟩])] []
theorem lo28_0 : LO Tryz.f28 lp28_0 0 := lk t42 (rz [1]) h28 [] lnil
theorem ok28 : FnOk Pz 28 ⟨[.ty tyForm],[.bool],fun x => sheet_fields x⟩ := fkd t42 (rz [1]) h28 Tryz.func28 [0] (lcons rfl lo28_0 lnil)
def t43 := t42.d ok28
theorem ok61 : FnOk Pz 61 ⟨[],[(.sl .str)],fun _ => sheet_compares⟩ := fkd t43 rn hN Tryz.func61 [] lnil
def t44 := t43.d ok61
def h133 : Hints := Hz [] [(3,2,.flat [Mb 4])] []
theorem ok133 : FnOk Pz 133 ⟨[.ty i64],[i64],fun x => expr_kids x⟩ := fkd t44 rn h133 Tryz.func133 [] lnil
def t45 := t44.d ok133
def lp155_2 : LoopD := Lz [] [Mm 1 (.sl u32),Mi 6,Mm 7 u32,Mm 21 (.sl u32),Mi 22,Mi 23,Mm 28 (.sl u32),Mi 29] ⟨[Mm 8 (.int .u64),Mi 30,.a u32],[(5,.cur 0 u32)],[.arr u32]⟩ [⟨.exit 2,⟨[Mm 8 (.int .u64),.a u32],[(5,.cur 0 u32)],[.arr u32]⟩⟩] fun p s => nat_Mul_R1 p.1 p.2.1 p.2.2.1 p.2.2.2.1 p.2.2.2.2.1 p.2.2.2.2.2.1 p.2.2.2.2.2.2.1 p.2.2.2.2.2.2.2 s
def lp155_0 : LoopD := Lz [] [Mm 1 (.sl u32),Mm 21 (.sl u32),Mi 22] ⟨[Mi 23,.a u32],[(5,.cur 0 u32)],[.arr u32]⟩ [⟨.exit 0,⟨[.a u32],[(5,.cur 0 u32)],[.arr u32]⟩⟩] fun p s => nat_Mul_R0 p.1 p.2.1 p.2.2 s
def h155 : Hints := Hz [(2,lp155_2),(0,lp155_0)] [] [(16,[5])]
theorem lo155_2 : LO Tryz.f155 lp155_2 2 := lk t45 rn h155 [] lnil
theorem lo155_0 : LO Tryz.f155 lp155_0 0 := lk t45 rn h155 [2] (lcons rfl lo155_2 lnil)
theorem ok155 : FnOk Pz 155 ⟨[.ty (.sl u32),.ty (.sl u32)],[(.sl u32)],fun x => nat_Mul x.1 x.2⟩ := fkd t45 rn h155 Tryz.func155 [0] (lcons rfl lo155_0 lnil)
def t46 := t45.d ok155
def lp156_0 : LoopD := Lz [] [Mi 5] ⟨[Mm 3 (.sl u32),Mi 6],[],[]⟩ [⟨.exit 0,⟨[Mm 3 (.sl u32)],[],[]⟩⟩] fun p s => dec_ten_R0 p s
def h156 : Hints := Hz [(0,lp156_0)] [] []
theorem lo156_0 : LO Tryz.f156 lp156_0 0 := lk t46 rn h156 [] lnil
theorem ok156 : FnOk Pz 156 ⟨[.ty i64],[(.sl u32)],fun x => dec_ten x⟩ := fkd t46 rn h156 Tryz.func156 [0] (lcons rfl lo156_0 lnil)
def t47 := t46.d ok156
theorem ok101 : FnOk Pz 101 ⟨[.ty tyRat],[.str],fun x => dec_sign x⟩ := fkd t47 (rz [1]) hN Tryz.func101 [] lnil
def t48 := t47.d ok101
def lp121_0 : LoopD := Lz [] [] ⟨[.s 0 (.sub 0 (.int .u8)),Mi 2,Mi 3,.a (.int .u8)],[],[.arr (.int .u8)]⟩ [⟨.exit 0,⟨[.a (.int .u8)],[],[.arr (.int .u8)]⟩⟩] fun p s => slices_Reverse_sl_byte_S_R0  s
def h121 : Hints := Hz [(0,lp121_0)] [] []
theorem lo121_0 : LO Tryz.f121 lp121_0 0 := lk t48 rn h121 [] lnil
theorem ok121 : FnSOk Pz 121 ⟨[.sub],⟨[.s 0 (.sub 0 (.int .u8)),.a (.int .u8)],[],[.arr (.int .u8)]⟩,[],⟨[.a (.int .u8)],[],[.arr (.int .u8)]⟩,0,fun x => slices_Reverse_sl_byte_S x.1 x.2⟩ := fks t48 rn h121 Tryz.func121 [0] (lcons rfl lo121_0 lnil)
def t49 := t48.s ok121
def lp102_2 : LoopD := Lz [] [Mm 4 (.sl u32)] ⟨[Mm 5 u32,Mi 19,.a (.int .u8)],[(3,.cur 0 (.int .u8))],[.arr (.int .u8)]⟩ [⟨.exit 2,⟨[.a (.int .u8)],[(3,.cur 0 (.int .u8))],[.arr (.int .u8)]⟩⟩] fun p s => nat_Print_R1 p s
def lp102_0 : LoopD := Lz [.slot 3 (.int .u8)] [] ⟨[Mm 0 (.sl u32),.a (.int .u8)],[(3,.cur 0 (.int .u8))],[.arr (.int .u8)]⟩ [⟨.exit 0,⟨[.a (.int .u8)],[(3,.cur 0 (.int .u8))],[.arr (.int .u8)]⟩⟩] fun p s => nat_Print_R0  s
def lp102_4 : LoopD := Lz [] [] ⟨[.s 3 (.sub 0 (.int .u8)),.a (.int .u8)],[],[.arr (.int .u8)]⟩ [⟨.exit 4,⟨[.s 3 (.sub 0 (.int .u8)),.a (.int .u8)],[],[.arr (.int .u8)]⟩⟩] fun p s => nat_Print_R2  s
def h102 : Hints := Hz [(2,lp102_2),(0,lp102_0),(4,lp102_4)] [(0,13,.flat [Mb 42])] []
theorem lo102_2 : LO Tryz.f102 lp102_2 2 := lk t49 rn h102 [] lnil
theorem lo102_0 : LO Tryz.f102 lp102_0 0 := lk t49 rn h102 [2] (lcons rfl lo102_2 lnil)
theorem lo102_4 : LO Tryz.f102 lp102_4 4 := lk t49 rn h102 [] lnil
theorem ok102 : FnOk Pz 102 ⟨[.ty (.sl u32)],[.str],fun x => nat_Print x⟩ := fkd t49 rn h102 Tryz.func102 [0,4] (lcons rfl lo102_0 (lcons rfl lo102_4 lnil))
def t50 := t49.d ok102
theorem ok165 : FnOk Tryz.prog 165 ⟨[.ty .str,.ty i64],[.str],fun x => strings_Repeat x.1 x.2⟩ := by
 refine fn_of_calls Tryz.func165 (by kernel_rfl) rfl fun κ x cargs y hy hI ha => ?_
 obtain ⟨s,n⟩ := x
 obtain ⟨⟨h0,h1,h2⟩,hy⟩ := hy
 cases hy
 obtain ⟨v0,r,rfl,ha0,ha⟩ := RDs.cons_inv (show RDs κ [.imm .str s,.imm i64 n] cargs from ha)
 obtain ⟨v1,r,rfl,ha1,ha⟩ := ha.cons_inv
 rw [ha.nil_inv,ha0.str_inv,ha1.int_inv]
 obtain ⟨m,rfl⟩ := Int.eq_ofNat_of_zero_le h0
 refine (Go.Proofs.Tryz.strings_Repeat ⟨s.toArray⟩ m κ.w (by simp only at h1; omega) (by rw [show (ByteArray.size ⟨s.toArray⟩) = List.length s from List.size_toArray]; simpa using h2)).mono ?_
 rintro e w' ⟨rfl,hB⟩
 refine ⟨hB,fun _ => ⟨_,rfl,?_⟩⟩
 have e1 : Lib.repeatL s m = repS s m := repS_eq s m
 have e2 : (Int.toNat (m : Int)) = m := by omega
 show RD _ (.imm .str (repS s (Int.toNat (m : Int)))) _
 rw [e2,← e1]
 exact RD.str
def t51 := t50.d ok165
theorem ok157 : FnOk Pz 157 ⟨[.ty .str,.ty i64],[.str],fun x => dec_pointed x.1 x.2⟩ := fkd t51 rn hN Tryz.func157 [] lnil
def t52 := t51.d ok157
def lp138_0 : LoopD := Lz [] [] ⟨[Mi 10,.v (.imm tyRat)],[(1,.ptr 0 0)],[.var (.imm tyRat)]⟩ [⟨.exit 0,⟨[.v (.imm tyRat)],[],[.var (.imm tyRat)]⟩⟩,⟨.ret,⟨[Ms 2,Mb 3,.v (.imm tyRat)],[],[.var (.imm tyRat)]⟩⟩] fun p s => dec_Exact_R0  s
def h138 : Hints := Hz [(0,lp138_0)] [] []
theorem lo138_0 : LO Tryz.f138 lp138_0 0 := lk t52 rn h138 [] lnil
theorem ok138 : FnOk Pz 138 ⟨[.ty tyRat],[.str,.bool],fun x => dec_Exact x⟩ := fkd t52 rn h138 Tryz.func138 [0] (lcons rfl lo138_0 lnil)
def t53 := t52.d ok138
def h134 : Hints := Hz [] [(0,1,.ways [⟨.normal,⟨[Mb 15],[],[]⟩⟩])] []
theorem ok134 : FnOk Pz 134 ⟨[.ty tyRat],[.bool],fun x => expr_isNum x⟩ := fkd t53 (rz [1]) h134 Tryz.func134 [] lnil
def t54 := t53.d ok134
theorem ok135 : FnOk Pz 135 ⟨[.ty tyRat],[.bool],fun x => expr_isNone x⟩ := fkd t54 (rz [1]) hN Tryz.func135 [] lnil
def t55 := t54.d ok135
theorem ok117 : FnOk Pz 117 ⟨[.ty .expr],[.bool],fun x => expr_isNode x⟩ := fkd t55 (rz [1]) hN Tryz.func117 [] lnil
def t56 := t55.d ok117
abbrev Y98 := Shp.den ⟨[Mm 0 .expr,Mi 1,.v (.imm i64)],[(2,.ptr 0 0)],[.var (.imm i64)]⟩ → T (Shp.den ⟨[Mb 0,.v (.imm i64)],[],[.var (.imm i64)]⟩)
abbrev H98 (F : Y98) := FnSOk Pz 98 ⟨[.any,.any,.ptr],⟨[Mm 0 .expr,Mi 1,.v (.imm i64)],[(2,.ptr 0 0)],[.var (.imm i64)]⟩,[],⟨[Mb 0,.v (.imm i64)],[],[.var (.imm i64)]⟩,1,F⟩
theorem ok118 (F_98 : Y98) (h_98 : H98 F_98) : FnSOk Pz 118 ⟨[.any,.any,.ptr],⟨[Mm 0 .expr,Mr 1 i64,.v (.imm i64)],[(2,.ptr 0 0)],[.cvar (.ptr 1 0),.var (.imm i64)]⟩,[],⟨[Mb 0,.v (.imm i64)],[],[.cvar (.ptr 1 0),.var (.imm i64)]⟩,1,fun x => expr_may_f1_S (fun y0 y1 y2 => F_98 (y0,y1,y2)) x.1 x.2.1 x.2.2⟩ := fks (t56.s h_98) (rz [3]) hN Tryz.func118 [] lnil
def T77 (F_98 : Y98) (h_98 : H98 F_98) : Tb := t56.s (ok118 _ h_98)
def lp77_0 (F_98 : Y98) : LoopD := Lz [] [Mm 0 (.sl .expr),Mi 7] ⟨[.s 1 (.mclo 118 [.rp i64,.pt 0]),Mi 8,.v (.imm i64)],[],[.cvar (.ptr 1 0),.var (.imm i64)]⟩ [⟨.exit 0,⟨[.v (.imm i64)],[],[.cvar (.ptr 1 0),.var (.imm i64)]⟩⟩,⟨.ret,⟨[Mi 4,.v (.imm i64)],[],[.cvar (.ptr 1 0),.var (.imm i64)]⟩⟩] fun p s => slices_IndexFunc_sl_Expr_expr_may_f1_S_R0 (fun y0 y1 y2 => F_98 (y0,y1,y2)) p.1 p.2 s
def h77 (F_98 : Y98) : Hints := Hz [(0,lp77_0 F_98)] [] []
theorem lo77_0 (F_98 : Y98) (h_98 : H98 F_98) : LO Tryz.f77 (lp77_0 F_98) 0 := lk (T77 F_98 h_98) rn (h77 F_98) [] lnil
theorem ok77 (F_98 : Y98) (h_98 : H98 F_98) : FnSOk Pz 77 ⟨[.any,.clo 118],⟨[Mm 0 (.sl .expr),.s 1 (.mclo 118 [.rp i64,.pt 0]),.v (.imm i64)],[],[.cvar (.ptr 1 0),.var (.imm i64)]⟩,[],⟨[Mi 0,.v (.imm i64)],[],[.cvar (.ptr 1 0),.var (.imm i64)]⟩,1,fun x => slices_IndexFunc_sl_Expr_expr_may_f1_S (fun y0 y1 y2 => F_98 (y0,y1,y2)) x.1 x.2.1 x.2.2⟩ := fks (T77 F_98 h_98) rn (h77 F_98) Tryz.func77 [0] (lcons rfl (lo77_0 F_98 h_98) lnil)
theorem ok41 (F_98 : Y98) (h_98 : H98 F_98) : FnSOk Pz 41 ⟨[.any,.clo 118],⟨[Mm 0 (.sl .expr),.s 1 (.mclo 118 [.rp i64,.pt 0]),.v (.imm i64)],[],[.cvar (.ptr 1 0),.var (.imm i64)]⟩,[],⟨[Mb 0,.v (.imm i64)],[],[.cvar (.ptr 1 0),.var (.imm i64)]⟩,1,fun x => slices_ContainsFunc_sl_Expr_expr_may_f1_S (fun y0 y1 y2 => F_98 (y0,y1,y2)) x.1 x.2.1 x.2.2⟩ := fks (t56.s (ok77 _ h_98)) rn hN Tryz.func41 [] lnil
def h98 (F_98 : Y98) : Hints := Hz [] [(0,2,.ways [⟨.normal,⟨[Mb 24,.v (.imm i64)],[],[.var (.imm i64),.cvar (.ptr 0 0)]⟩⟩])] []
theorem ok98_B (F_98 : Y98) (h_98 : H98 F_98) : FnSOk Pz 98 ⟨[.any,.any,.ptr],⟨[Mm 0 .expr,Mi 1,.v (.imm i64)],[(2,.ptr 0 0)],[.var (.imm i64)]⟩,[],⟨[Mb 0,.v (.imm i64)],[],[.var (.imm i64)]⟩,1,fun x => expr_may_S_B (fun y0 y1 y2 => F_98 (y0,y1,y2)) x.1 x.2.1 x.2.2⟩ := fks (t56.s (ok41 _ h_98)) (rz [3,4]) (h98 F_98) Tryz.func98 [] lnil
theorem ok98 : FnSOk Pz 98 ⟨[.any,.any,.ptr],⟨[Mm 0 .expr,Mi 1,.v (.imm i64)],[(2,.ptr 0 0)],[.var (.imm i64)]⟩,[],⟨[Mb 0,.v (.imm i64)],[],[.var (.imm i64)]⟩,1,fun x => expr_may_S x.1 x.2.1 x.2.2⟩ := fns_fix (fun F_98 x => expr_may_S_B (fun y0 y1 y2 => F_98 (y0,y1,y2)) x.1 x.2.1 x.2.2) (fun x => rfl) (fun F_98 h_98 => ok98_B F_98 h_98)
def t57 := t56.s ok98
theorem ok62 : FnOk Pz 62 ⟨[.ty .expr],[.bool],fun x => expr_Is x⟩ := fkd t57 (rz [1]) hN Tryz.func62 [] lnil
def t58 := t57.d ok62
theorem ok65 : FnOk Pz 65 ⟨[],[(.sl .str)],fun _ => sheet_strengths⟩ := fkd t58 rn hN Tryz.func65 [] lnil
def t59 := t58.d ok65
theorem ok64 : FnOk Pz 64 ⟨[.ty tyRule],[.bool],fun x => sheet_checks_f1 x⟩ := fkd t59 (rz [1]) hN Tryz.func64 [] lnil
def t60 := t59.d ok64
def lp99_0 : LoopD := Lz [] [Mm 0 (.sl tyRule),.s 1 (.clo 64 []),Mi 7] ⟨[Mi 8],[],[]⟩ [⟨.exit 0,⟨[],[],[]⟩⟩,⟨.ret,⟨[Mi 4],[],[]⟩⟩] fun p s => slices_IndexFunc_sl_Rule_R0 p.1 (fun z0 => sheet_checks_f1 z0) p.2.2 s
def h99 : Hints := Hz [(0,lp99_0)] [] []
theorem lo99_0 : LO Tryz.f99 lp99_0 0 := lk t60 rn h99 [] lnil
theorem ok99 : FnOk Pz 99 ⟨[.ty (.sl tyRule),.clo 64 []],[i64],fun x => slices_IndexFunc_sl_Rule x.1 (fun z0 => sheet_checks_f1 z0)⟩ := fkd t60 rn h99 Tryz.func99 [0] (lcons rfl lo99_0 lnil)
def t61 := t60.d ok99
theorem ok63 : FnOk Pz 63 ⟨[.ty (.sl tyRule),.clo 64 []],[.bool],fun x => slices_ContainsFunc_sl_Rule x.1 (fun z0 => sheet_checks_f1 z0)⟩ := fkd t61 rn hN Tryz.func63 [] lnil
def t62 := t61.d ok63
def lp29_0 : LoopD := Lz [] [Mr 1 tyForm,Mm 7 (.sl tyCheck),Mi 8] ⟨[Mi 3,Mi 9],[],[]⟩ [⟨.exit 0,⟨[],[],[]⟩⟩,⟨.ret,⟨[Mb 2],[],[]⟩⟩] fun p s => sheet_checks_R0 p.1 p.2.1 p.2.2 s
def h29 : Hints := Hz [(0,lp29_0)] [(0,5,.ways [⟨.normal,⟨[Mb 50,.v (.imm tyCheck)],[],[.var (.imm tyCheck)]⟩⟩])] []
theorem lo29_0 : LO Tryz.f29 lp29_0 0 := lk t62 (rz [1]) h29 [] lnil
theorem ok29 : FnOk Pz 29 ⟨[.ty tyForm],[.bool],fun x => sheet_checks x⟩ := fkd t62 (rz [1]) h29 Tryz.func29 [0] (lcons rfl lo29_0 lnil)
def t63 := t62.d ok29
end Go.AM.Lf
namespace Go.Proofs
section
open Go.RowKit
attribute [local go_sem] Oper.semAt_some
set_option maxRecDepth 100000
set_option maxHeartbeats 2000000
theorem Bld.size : (Tryz.prog.info? 90).map (·.size) = some 2 := by kernel_rfl
theorem Bld.pt : Tryz.prog.underlying 87 = some (.pointer 90) := by kernel_rfl
theorem Bld.up : Tryz.prog.underlying 135 = some .unsafePointer := by kernel_rfl
theorem Bld.used (b : Nat) (w : World) (h0 : w.cell? ⟨b,0,none⟩ = some (.pointer (some ⟨b,0,none⟩))) :
  Calls Tryz.prog 100 #[.pointer (some ⟨b,0,none⟩)] w fun e w' => e = .returned (.tuple #[]) ∧ w' = w := by
 obtain ⟨j,hj,hjs⟩ := Option.map_eq_some_iff.1 Bld.size
 go_enter Tryz.func100,Tryz.ntmps100
 go_wp2
 rw [Lib.run_neq_ptr_same w _ Bld.pt hj]
 go_wp2
 go_end0
 exact ⟨rfl,rfl⟩
theorem Bld.fresh (b : Nat) (w : World) (h0 : w.cell? ⟨b,0,none⟩ = some (.pointer none)) (hsh : w.shape? b = some (90,2)) (hfz : w.frozen? ⟨b,0,none⟩ = false) :
  Calls Tryz.prog 100 #[.pointer (some ⟨b,0,none⟩)] w fun e w' => e = .returned (.tuple #[]) ∧ w' = w.setCell ⟨b,0,none⟩ (.pointer (some ⟨b,0,none⟩)) := by
 obtain ⟨j,hj,hjs⟩ := Option.map_eq_some_iff.1 Bld.size
 go_enter Tryz.func100,Tryz.ntmps100
 go_wp2
 rw [Lib.run_to_unsafe w ⟨b,0,none⟩ Bld.pt Bld.up hj (by rw [hjs]; decide) hsh (Nat.zero_lt_succ 1)]
 simp only [Result.andThen]
 rw [Oper.upon_value]
 go_wp2
 rw [run_callFunc_extern Tryz.func119 (by kernel_rfl) (by kernel_rfl) (by kernel_rfl) (e := Extern.AbiNoEscape.same) (by kernel_rfl)]
 rw [Lib.run_noEscape]
 simp only [Result.andThen]
 rw [Oper.upon_value]
 go_wp2
 rw [Lib.run_from_unsafe w ⟨b,0,none⟩ Bld.up Bld.pt hj hsh (by kernel_rfl)]
 simp only [Result.andThen]
 rw [Oper.upon_value]
 go_wp2
 go_end0
 exact ⟨rfl,rfl⟩
end
end Go.Proofs

namespace Go.AM.Lf
open Go.Proofs
theorem ok100 : FnSOk Tryz.prog 100 ⟨[.ptr],⟨[.v (.st [.op 0 90,.row 1 (.int .u8)]),.a (.int .u8)],[(0,.ptr 0 0)],[.var (.st [.op 0 90,.row 1 (.int .u8)]),.arr (.int .u8)]⟩,[],⟨[.v (.st [.op 0 90,.row 1 (.int .u8)]),.a (.int .u8)],[],[.var (.st [.op 0 90,.row 1 (.int .u8)]),.arr (.int .u8)]⟩,0,fun x => bld_copyCheck x.1 x.2⟩ := copyCheck_ok (P := Tryz.prog) (g := 100) (t := 90) (enters_of Tryz.func100 (by kernel_rfl) rfl) Bld.used Bld.fresh
def t64 := t63.s ok100
theorem ok66 : FnSOk Pz 66 ⟨[.ptr,.any],⟨[Ms 1,.v (.st [.op 0 90,.row 1 (.int .u8)]),.a (.int .u8)],[(0,.ptr 0 0)],[.var (.st [.op 0 90,.row 1 (.int .u8)]),.arr (.int .u8)]⟩,[.pcell 0 1 (.int .u8)],⟨[Mi 0,.v (.st [.op 0 90,.row 1 (.int .u8)]),.a (.int .u8)],[(1,.niface)],[.var (.st [.op 0 90,.row 1 (.int .u8)]),.arr (.int .u8)]⟩,2,fun x => strings_Builder_WriteString_S x.1 x.2.1 x.2.2⟩ := fks t64 rn hN Tryz.func66 [] lnil
def t65 := t64.s ok66
theorem ok67 : FnOk Pz 67 ⟨[.ty tyRat],[.str],fun x => dec_Print x⟩ := fkd t65 rn hN Tryz.func67 [] lnil
def t66 := t65.d ok67
theorem ok69 : FnOk Pz 69 ⟨[.ty .str],[.str],fun x => sheet_when x⟩ := fkd t66 rn hN Tryz.func69 [] lnil
def t67 := t66.d ok69
theorem ok122 : FnOk Tryz.prog 122 ⟨[.ty i64],[.str],fun x => strconv_Itoa x⟩ := by
 refine fn_of_calls Tryz.func122 (by kernel_rfl) rfl fun κ n cargs y hy hI ha => ?_
 obtain ⟨⟨h0,h1⟩,hy⟩ := hy
 cases hy
 obtain ⟨v0,r,rfl,ha0,ha⟩ := RDs.cons_inv (show RDs κ [.imm i64 n] cargs from ha)
 rw [ha.nil_inv,ha0.int_inv]
 refine (Go.Proofs.Tryz.strconv_Itoa n h0 h1 κ.w (glob_internal_strconv_uint64pow10 hI)).mono ?_
 rintro e w' ⟨rfl,k,os,rfl⟩
 refine ⟨below_grow _ _ _,fun _ => ⟨_,rfl,?_⟩⟩
 have e1 : Lib.itoa n = itoaS n := itoaS_eq n
 show RD _ (.imm .str (itoaS n)) _
 rw [← e1]
 exact RD.str
def t68 := t67.d ok122
def h103 : Hints := Hz [] [(3,2,.flat [Ms 3])] []
theorem ok103 : FnOk Pz 103 ⟨[.ty tyField],[.str],fun x => sheet_field x⟩ := fkd t68 (rz [1]) h103 Tryz.func103 [] lnil
def t69 := t68.d ok103
def h140 : Hints := Hz [] [(3,2,.flat [Mb 5]),(3,5,.flat [Mb 8])] []
theorem ok140 : FnOk Pz 140 ⟨[.ty .expr],[i64],fun x => expr_binds x⟩ := fkd t69 (rz [1]) h140 Tryz.func140 [] lnil
def t70 := t69.d ok140
abbrev Y123 := denPs [.ty .expr] → T (Tup [.str])
abbrev H123 (F : Y123) := FnOk Pz 123 ⟨[.ty .expr],[.str],F⟩
theorem ok139 (F_123 : Y123) (h_123 : H123 F_123) : FnOk Pz 139 ⟨[.ty .expr,.ty i64],[.str],fun x => expr_placed (fun y0 => F_123 (y0)) x.1 x.2⟩ := fkd (t70.d h_123) (rz [2]) hN Tryz.func139 [] lnil
def h123 (F_123 : Y123) : Hints := Hz [] [(3,2,.ways [⟨.normal,⟨[Ms 3],[],[]⟩⟩,⟨.ret,⟨[Ms 2],[],[]⟩⟩])] []
theorem ok123_B (F_123 : Y123) (h_123 : H123 F_123) : FnOk Pz 123 ⟨[.ty .expr],[.str],fun x => expr_print_B (fun y0 => F_123 (y0)) x⟩ := fkd (t70.d (ok139 _ h_123)) (rz [1]) (h123 F_123) Tryz.func123 [] lnil
theorem ok123 : FnOk Pz 123 ⟨[.ty .expr],[.str],fun x => expr_print x⟩ := fn_fix (fun F_123 x => expr_print_B (fun y0 => F_123 (y0)) x) (fun x => rfl) (fun F_123 h_123 => ok123_B F_123 h_123)
def t71 := t70.d ok123
theorem ok104 : FnOk Pz 104 ⟨[.ty .expr],[.str],fun x => expr_Print x⟩ := fkd t71 (rz [1]) hN Tryz.func104 [] lnil
def t72 := t71.d ok104
theorem ok70 : FnOk Pz 70 ⟨[.ty .expr,.ty .str,.ty .expr],[.str],fun x => sheet_sides x.1 x.2.1 x.2.2⟩ := fkd t72 (rz [3,5]) hN Tryz.func70 [] lnil
def t73 := t72.d ok70
def lp68_0 : LoopD := Lz [] [Mi 2,Mr 4 tyForm,Mm 29 (.sl tyField),Mi 30] ⟨[Mi 31,.v (.st [.op 0 90,.row 1 (.int .u8)]),.a (.int .u8)],[(0,.ptr 0 0)],[.var (.st [.op 0 90,.row 1 (.int .u8)]),.arr (.int .u8)]⟩ [⟨.exit 0,⟨[.v (.st [.op 0 90,.row 1 (.int .u8)]),.a (.int .u8)],[],[.var (.st [.op 0 90,.row 1 (.int .u8)]),.arr (.int .u8)]⟩⟩] fun p s => sheet_page_S_R0 p.1 p.2.1 p.2.2.1 p.2.2.2 s
def lp68_2 : LoopD := Lz [] [Mi 2,Mm 45 (.sl tyCheck),Mi 46] ⟨[Mi 47,.v (.st [.op 0 90,.row 1 (.int .u8)]),.a (.int .u8)],[(0,.ptr 0 0)],[.var (.st [.op 0 90,.row 1 (.int .u8)]),.arr (.int .u8)]⟩ [⟨.exit 2,⟨[.v (.st [.op 0 90,.row 1 (.int .u8)]),.a (.int .u8)],[],[.var (.st [.op 0 90,.row 1 (.int .u8)]),.arr (.int .u8)]⟩⟩] fun p s => sheet_page_S_R1 p.1 p.2.1 p.2.2 s
def h68 : Hints := Hz [(0,lp68_0),(2,lp68_2)] [] []
theorem lo68_0 : LO Tryz.f68 lp68_0 0 := lk t73 (rz [4]) h68 [] lnil
theorem lo68_2 : LO Tryz.f68 lp68_2 2 := lk t73 (rz [4]) h68 [] lnil
theorem ok68 : FnSOk Pz 68 ⟨[.ptr,.any,.any],⟨[Mm 1 tyForm,Mi 2,.v (.st [.op 0 90,.row 1 (.int .u8)]),.a (.int .u8)],[(0,.ptr 0 0)],[.var (.st [.op 0 90,.row 1 (.int .u8)]),.arr (.int .u8)]⟩,[.pcell 0 1 (.int .u8)],⟨[.v (.st [.op 0 90,.row 1 (.int .u8)]),.a (.int .u8)],[],[.var (.st [.op 0 90,.row 1 (.int .u8)]),.arr (.int .u8)]⟩,0,fun x => sheet_page_S x.1 x.2.1 x.2.2.1 x.2.2.2⟩ := fks t73 (rz [4]) h68 Tryz.func68 [0,2] (lcons rfl lo68_0 (lcons rfl lo68_2 lnil))
def t74 := t73.s ok68
end Go.AM.Lf
namespace Go.Proofs
section
open Go.RowKit
attribute [local go_sem] Oper.semAt_some
set_option maxRecDepth 100000
set_option maxHeartbeats 2000000
theorem Bld.mixed : Tryz.prog.follows .mixedOrders = true := by kernel_rfl
theorem Bld.pb : Tryz.prog.underlying 124 = some (.pointer 5) := by kernel_rfl
theorem Bld.c5 : Tryz.prog.cellsOf 5 = 1 := by kernel_rfl
theorem Bld.none0 (W : World) (q : Option Addr) : (Builtin.unsafeString_ #[124,3] 9 #[.pointer q,.int .i64 0]).run Tryz.prog W = .ok (.string .empty) W := Lib.run_unsafeString_none W _ _ _ q
theorem Bld.nil (b : Nat) (p : Value) (w : World) (hbk : w.heap[b]? = some (.cells #[p,.slice none 0 0] 90 (0,0))) :
  Calls Tryz.prog 71 #[.pointer (some ⟨b,0,none⟩)] w fun e w' => e = .returned (.string ⟨#[]⟩) ∧ w' = w.drew := by
 have hUS := Bld.none0
 have c1 : w.drew.cell? ⟨b,1,none⟩ = some (.slice none 0 0) := by
  have : w.drew.heap[b]? = some (.cells #[p,.slice none 0 0] 90 (0,0)) := hbk
  rw [Lib.cell_of_heap this]; rfl
 have hSD : (Builtin.unsafeSliceData_ #[88] 124 #[.slice none 0 0]).run Tryz.prog w.drew = .ok (.pointer none) w.drew := rfl
 have mixed : Tryz.prog.follows .mixedOrders = true := Bld.mixed
 go_enter Tryz.func71,Tryz.ntmps71
 go_wp2
 go_region_o
 all_goals (go_wp2; go_ret; exact ⟨rfl,rfl⟩)
theorem Bld.room (b g o cap : Nat) (p : Value) (w : World) (hc0 : cap ≠ 0) (hbk : w.heap[b]? = some (.cells #[p,.slice (some ⟨g,o,none⟩) 0 cap] 90 (0,0))) :
  Calls Tryz.prog 71 #[.pointer (some ⟨b,0,none⟩)] w fun e w' => e = .returned (.string ⟨#[]⟩) ∧ w' = w.drew := by
 have hUS := Bld.none0
 have c1 : w.drew.cell? ⟨b,1,none⟩ = some (.slice (some ⟨g,o,none⟩) 0 cap) := by
  have : w.drew.heap[b]? = some (.cells #[p,.slice (some ⟨g,o,none⟩) 0 cap] 90 (0,0)) := hbk
  rw [Lib.cell_of_heap this]; rfl
 have hSD : (Builtin.unsafeSliceData_ #[88] 124 #[.slice (some ⟨g,o,none⟩) 0 cap]).run Tryz.prog w.drew = .ok (.pointer (some ⟨g,o,none⟩)) w.drew :=
  Lib.run_unsafeSliceData_row _ _ _ _ _ _ hc0
 clear hc0
 have mixed : Tryz.prog.follows .mixedOrders = true := Bld.mixed
 go_enter Tryz.func71,Tryz.ntmps71
 go_wp2
 go_region_o
 all_goals (go_wp2; go_ret; exact ⟨rfl,rfl⟩)
theorem Bld.full (b g cap : Nat) (p : Value) (cur : Array Value) (l : List UInt8) (w : World) (h0 : l ≠ []) (hcap : l.length ≤ cap) (hmax : l.length ≤ 140737488355328) (hbk : w.heap[b]? = some (.cells #[p,.slice (some ⟨g,0,none⟩) l.length cap] 90 (0,0)))
  (hg : w.heap[g]? = some (.cells cur 5 (0,0))) (hcur : l.length ≤ cur.size) (hcell : ∀ j x,l[j]? = some x → w.cell? ⟨g,j,none⟩ = some (.int .u8 x.toNat)) :
  Calls Tryz.prog 71 #[.pointer (some ⟨b,0,none⟩)] w fun e w' => e = .returned (.string ⟨l.toArray⟩) ∧ w' = w.drew.freeze ⟨g,0,none⟩ l.length := by
 have hl0 : l.length ≠ 0 := by simpa using h0
 have c1 : w.drew.cell? ⟨b,1,none⟩ = some (.slice (some ⟨g,0,none⟩) l.length cap) := by
  have : w.drew.heap[b]? = some (.cells #[p,.slice (some ⟨g,0,none⟩) l.length cap] 90 (0,0)) := hbk
  rw [Lib.cell_of_heap this]; rfl
 have hSD : (Builtin.unsafeSliceData_ #[88] 124 #[.slice (some ⟨g,0,none⟩) l.length cap]).run Tryz.prog w.drew = .ok (.pointer (some ⟨g,0,none⟩)) w.drew :=
  Lib.run_unsafeSliceData_row _ _ _ _ _ _ (by omega)
 have hUS : (Builtin.unsafeString_ #[124,3] 9 #[.pointer (some ⟨g,0,none⟩),.int .i64 l.length]).run Tryz.prog w.drew = .ok (.string ⟨l.toArray⟩) (w.drew.freeze ⟨g,0,none⟩ l.length) := by
  refine Lib.run_unsafeString_row w.drew 124 3 9 5 Bld.pb Bld.c5 g cur.size (by have hg' : w.drew.heap[g]? = some (.cells cur 5 (0,0)) := hg; simp [World.shape?,hg']) l h0 (by omega) (by omega) ?_
  intro j x hx
  have e : (⟨g,0,none⟩ : Addr).add j = ⟨g,j,none⟩ := by unfold Addr.add; split <;> simp_all
  rw [e]
  exact hcell j x hx
 have mixed : Tryz.prog.follows .mixedOrders = true := Bld.mixed
 go_enter Tryz.func71,Tryz.ntmps71
 go_wp2
 go_region_o
 all_goals (go_wp2; go_ret; exact ⟨rfl,rfl⟩)
theorem Bld.noroom (b g o : Nat) (p : Value) (cur : Array Value) (w : World) (hbk : w.heap[b]? = some (.cells #[p,.slice (some ⟨g,o,none⟩) 0 0] 90 (0,0))) (hg : w.heap[g]? = some (.cells cur 5 (0,0))) :
  Calls Tryz.prog 71 #[.pointer (some ⟨b,0,none⟩)] w fun e w' => e = .returned (.string ⟨#[]⟩) ∧ w' = w.drew.alloc (.view ⟨g,o,none⟩ 5) := by
 have hUS := Bld.none0
 have hlt : b < w.heap.size := by
  rcases Nat.lt_or_ge b w.heap.size with h' | h'
  ·exact h'
  ·simp [Array.getElem?_eq_none h'] at hbk
 have c1 : w.drew.cell? ⟨b,1,none⟩ = some (.slice (some ⟨g,o,none⟩) 0 0) := by
  have : w.drew.heap[b]? = some (.cells #[p,.slice (some ⟨g,o,none⟩) 0 0] 90 (0,0)) := hbk
  rw [Lib.cell_of_heap this]; rfl
 have hSD : (Builtin.unsafeSliceData_ #[88] 124 #[.slice (some ⟨g,o,none⟩) 0 0]).run Tryz.prog w.drew = .ok (.pointer (some ⟨w.drew.heap.size,0,none⟩)) (w.drew.alloc (.view ⟨g,o,none⟩ 5)) :=
  Lib.run_unsafeSliceData_zero w.drew _ _ 5 Bld.pb ⟨g,o,none⟩ 0 (5,cur.size) (by have hg' : w.drew.heap[g]? = some (.cells cur 5 (0,0)) := hg; simp [World.shape?,hg'])
 have c2 : (w.drew.alloc (.view ⟨g,o,none⟩ 5)).cell? ⟨b,1,none⟩ = some (.slice (some ⟨g,o,none⟩) 0 0) := by
  have : (w.drew.alloc (.view ⟨g,o,none⟩ 5)).heap[b]? = _ := (Lib.alloc_old w.drew _ b hlt).trans hbk
  rw [Lib.cell_of_heap this]; rfl
 have c3 : (w.alloc (.view ⟨g,o,none⟩ 5)).drew.cell? ⟨b,1,none⟩ = some (.slice (some ⟨g,o,none⟩) 0 0) := c2
 have c0 : w.cell? ⟨b,1,none⟩ = some (.slice (some ⟨g,o,none⟩) 0 0) := c1
 have mixed : Tryz.prog.follows .mixedOrders = true := Bld.mixed
 go_enter Tryz.func71,Tryz.ntmps71
 go_wp2
 go_region_o
 all_goals (go_wp2; go_ret; exact ⟨rfl,rfl⟩)
end
end Go.Proofs

namespace Go.AM.Lf
open Go.Proofs
theorem ok71 : FnSOk Tryz.prog 71 ⟨[.ptr],⟨[.v (.st [.op 0 90,.row 1 (.int .u8)]),.a (.int .u8)],[(0,.ptr 0 0)],[.var (.st [.op 0 90,.row 1 (.int .u8)]),.arr (.int .u8)]⟩,[],⟨[Ms 0,.v (.st [.op 0 90,.un])],[],[.var (.st [.op 0 90,.un]),.dead]⟩,1,fun x => bld_String x.1 x.2⟩ := string_ok (P := Tryz.prog) (g := 71) (t := 90) (enters_of Tryz.func71 (by kernel_rfl) rfl) Bld.nil Bld.room Bld.full Bld.noroom
def t75 := t74.s ok71
def lp30_0 : LoopD := Lz [.cell 0 1 (.int .u8)] [Mr 1 tyForm,Mm 13 (.sl tySwitch),Mi 14] ⟨[Mi 15,.v (.st [.op 0 90,.row 1 (.int .u8)]),.a (.int .u8)],[(3,.ptr 0 0)],[.var (.st [.op 0 90,.row 1 (.int .u8)]),.arr (.int .u8)]⟩ [⟨.exit 0,⟨[.v (.st [.op 0 90,.row 1 (.int .u8)]),.a (.int .u8)],[],[.var (.st [.op 0 90,.row 1 (.int .u8)]),.arr (.int .u8)]⟩⟩] fun p s => sheet_print_R0 p.1 p.2.1 p.2.2 s
def lp30_2 : LoopD := Lz [] [Mr 1 tyForm,Mm 29 (.sl tyParam),Mi 30] ⟨[Mi 31,.v (.st [.op 0 90,.row 1 (.int .u8)]),.a (.int .u8)],[(3,.ptr 0 0)],[.var (.st [.op 0 90,.row 1 (.int .u8)]),.arr (.int .u8)]⟩ [⟨.exit 2,⟨[.v (.st [.op 0 90,.row 1 (.int .u8)]),.a (.int .u8)],[],[.var (.st [.op 0 90,.row 1 (.int .u8)]),.arr (.int .u8)]⟩⟩] fun p s => sheet_print_R1 p.1 p.2.1 p.2.2 s
def lp30_4 : LoopD := Lz [] [Mr 1 tyForm,Mi 48] ⟨[Mi 49,.v (.st [.op 0 90,.row 1 (.int .u8)]),.a (.int .u8)],[(3,.ptr 0 0)],[.var (.st [.op 0 90,.row 1 (.int .u8)]),.arr (.int .u8)]⟩ [⟨.exit 4,⟨[.v (.st [.op 0 90,.row 1 (.int .u8)]),.a (.int .u8)],[],[.var (.st [.op 0 90,.row 1 (.int .u8)]),.arr (.int .u8)]⟩⟩] fun p s => sheet_print_R2 p.1 p.2 s
def lp30_6 : LoopD := Lz [] [Mm 57 (.sl tyRule),Mi 58] ⟨[Mi 59,.v (.st [.op 0 90,.row 1 (.int .u8)]),.a (.int .u8)],[(3,.ptr 0 0)],[.var (.st [.op 0 90,.row 1 (.int .u8)]),.arr (.int .u8)]⟩ [⟨.exit 6,⟨[.v (.st [.op 0 90,.row 1 (.int .u8)]),.a (.int .u8)],[],[.var (.st [.op 0 90,.row 1 (.int .u8)]),.arr (.int .u8)]⟩⟩] fun p s => sheet_print_R3 p.1 p.2 s
def h30 : Hints := Hz [(0,lp30_0),(2,lp30_2),(4,lp30_4),(6,lp30_6)] [(3,6,.flat [Ms 6])] []
theorem lo30_0 : LO Tryz.f30 lp30_0 0 := lk t75 (rz [1]) h30 [] lnil
theorem lo30_2 : LO Tryz.f30 lp30_2 2 := lk t75 (rz [1]) h30 [] lnil
theorem lo30_4 : LO Tryz.f30 lp30_4 4 := lk t75 (rz [1]) h30 [] lnil
theorem lo30_6 : LO Tryz.f30 lp30_6 6 := lk t75 (rz [1]) h30 [] lnil
theorem ok30 : FnOk Pz 30 ⟨[.ty tyForm],[.str],fun x => sheet_print x⟩ := fkd t75 (rz [1]) h30 Tryz.func30 [0,2,4,6] (lcons rfl lo30_0 (lcons rfl lo30_2 (lcons rfl lo30_4 (lcons rfl lo30_6 lnil))))
def t76 := t75.d ok30
theorem ok13 : FnOk Pz 13 ⟨[.ty tyForm],[.bool],fun x => sheet_Is x⟩ := fkd t76 (rz [1]) hN Tryz.func13 [] lnil
def t77 := t76.d ok13
def lp15_0 : LoopD := Lz [.slot 3 .str] [Mr 1 tyForm,Mm 17 (.sl tySwitch),Mi 18] ⟨[Mi 19,.a .str],[(3,.cur 0 .str)],[.arr .str]⟩ [⟨.exit 0,⟨[.a .str],[(3,.cur 0 .str)],[.arr .str]⟩⟩] fun p s => check_names_R0 p.1 p.2.1 p.2.2 s
def lp15_2 : LoopD := Lz [] [Mr 1 tyForm,Mm 30 (.sl tyParam),Mi 31] ⟨[Mi 32,.a .str],[(3,.cur 0 .str)],[.arr .str]⟩ [⟨.exit 2,⟨[.a .str],[(3,.cur 0 .str)],[.arr .str]⟩⟩] fun p s => check_names_R1 p.1 p.2.1 p.2.2 s
def lp15_4 : LoopD := Lz [] [Mr 1 tyForm,Mm 43 (.sl tyPage),Mi 44] ⟨[Mi 45,.a .str],[(3,.cur 0 .str)],[.arr .str]⟩ [⟨.exit 4,⟨[.a .str],[(3,.cur 0 .str)],[.arr .str]⟩⟩] fun p s => check_names_R2 p.1 p.2.1 p.2.2 s
def lp15_6 : LoopD := Lz [] [Mr 1 tyForm,Mm 56 (.sl tyField),Mi 57] ⟨[Mi 58,.a .str],[(3,.cur 0 .str)],[.arr .str]⟩ [⟨.exit 6,⟨[.a .str],[(3,.cur 0 .str)],[.arr .str]⟩⟩] fun p s => check_names_R3 p.1 p.2.1 p.2.2 s
def lp15_8 : LoopD := Lz [] [Mr 1 tyForm,Mm 69 (.sl tyRule),Mi 70] ⟨[Mi 71,.a .str],[(3,.cur 0 .str)],[.arr .str]⟩ [⟨.exit 8,⟨[.a .str],[(3,.cur 0 .str)],[.arr .str]⟩⟩] fun p s => check_names_R4 p.1 p.2.1 p.2.2 s
def lp15_10 : LoopD := Lz [] [Mm 82 (.sl tyCheck),Mi 83] ⟨[Mi 84,.a .str],[(3,.cur 0 .str)],[.arr .str]⟩ [⟨.exit 10,⟨[.a .str],[(3,.cur 0 .str)],[.arr .str]⟩⟩] fun p s => check_names_R5 p.1 p.2 s
def h15 : Hints := Hz [(0,lp15_0),(2,lp15_2),(4,lp15_4),(6,lp15_6),(8,lp15_8),(10,lp15_10)] [] []
theorem lo15_0 : LO Tryz.f15 lp15_0 0 := lk t77 (rz [1]) h15 [] lnil
theorem lo15_2 : LO Tryz.f15 lp15_2 2 := lk t77 (rz [1]) h15 [] lnil
theorem lo15_4 : LO Tryz.f15 lp15_4 4 := lk t77 (rz [1]) h15 [] lnil
theorem lo15_6 : LO Tryz.f15 lp15_6 6 := lk t77 (rz [1]) h15 [] lnil
theorem lo15_8 : LO Tryz.f15 lp15_8 8 := lk t77 (rz [1]) h15 [] lnil
theorem lo15_10 : LO Tryz.f15 lp15_10 10 := lk t77 (rz [1]) h15 [] lnil
theorem ok15 : FnOk Pz 15 ⟨[.ty tyForm],[(.sl .str)],fun x => check_names x⟩ := fkd t77 (rz [1]) h15 Tryz.func15 [0,2,4,6,8,10] (lcons rfl lo15_0 (lcons rfl lo15_2 (lcons rfl lo15_4 (lcons rfl lo15_6 (lcons rfl lo15_8 (lcons rfl lo15_10 lnil))))))
def t78 := t77.d ok15
end Go.AM.Lf
namespace Go.Proofs
section
open Go.RowKit Go.Maps Go.WideMaps
attribute [local go_sem] Oper.semAt_some
set_option maxRecDepth 100000
set_option maxHeartbeats 2000000
/-- What a map reads as when texts,all different,came. -/
def TW.Seen (D : DataW Unit) (l : List (List UInt8)) : Prop := IsMap D ∧ ∀ s : List UInt8,D.atKey (.string s) (.lit (.int .i64 0)) = .lit (.int .i64 (if s ∈ l then 1 else 0))
theorem TW.seen0 : TW.Seen (.map []) [] := ⟨⟨_,rfl⟩,fun s => by simp only [List.not_mem_nil,if_false]; rfl⟩
theorem TW.step {D : DataW Unit} {l : List (List UInt8)} {s : List UInt8} (h : TW.Seen D l) (hk : WideAt.IsKeyLit (.string s)) : TW.Seen (D.put (.string s) (.lit (.int .i64 1))) (l ++ [s]) := by
 refine ⟨h.1.put _ _,fun x => ?_⟩
 by_cases c : x = s
 ·subst c
  rw [atKey_put_same h.1 hk,if_pos (by simp)]
 ·rw [atKey_put_other (fun e => c (by cases e; rfl)),h.2 x]
  congr 3
  simp [c]
theorem TW.cOf {D : DataW Unit} {l : List (List UInt8)} {s : List UInt8} {c : Int} (h : TW.Seen D l) (hat : D.atKey (.string s) (.lit (.int .i64 0)) = .lit (.int .i64 c)) : c = if s ∈ l then 1 else 0 := by
 rw [h.2 s] at hat
 cases hat; rfl
theorem TW.key : Keyed Tryz.prog 9 := string_keyed Tryz.underlying9
theorem TW.zeroE (w : World) : (zeroValue 3).run Tryz.prog w = .ok (.int .i64 0) w := by kernel_rfl
theorem TW.zero (a : Option Addr) (cap : Nat) (w : World) : Calls Tryz.prog 14 #[.slice a 0 cap] w fun e w' => e = .returned (.tuple #[.string ⟨#[]⟩,.bool false]) ∧ Below w.heap.size w w' := by
 have hmm := @run_makeMap Tryz.prog
 go_enter Tryz.func14,Tryz.ntmps14
 go_wp2
 refine wp_loop_rounds 1 ?_
 rw [rounds_succ]
 go_wp2
 go_ret2
 exact ⟨rfl,(Below.refl _ _).alloc (Nat.le_refl _) _⟩
theorem TW.more (b off cap : Nat) (l : List (List UInt8)) (w : World) (hreach : l.length * 16 ≤ 140737488351232) (hb : b < w.heap.size)
  (hc : ∀ j (hj : j < l.length),w.cell? ⟨b,off + j,none⟩ = some (.string ⟨l[j].toArray⟩)) (hsz : ∀ s ∈ l,s.length ≤ maxLen) :
  Calls Tryz.prog 14 #[.slice (some ⟨b,off,none⟩) l.length cap] w fun e w' => e = .returned (.tuple #[.string ⟨(Go.AM.Lf.twR [] l).1.toArray⟩,.bool (Go.AM.Lf.twR [] l).2]) ∧ Below w.heap.size w w' := by
 have hmm := @run_makeMap Tryz.prog
 go_enter Tryz.func14,Tryz.ntmps14
 go_wp2
 go_loopw [10] (fun i wr => ∃ (k : Nat) (D : DataW Unit),k ≤ l.length ∧ i = .int .i64 k ∧ wr.ownsMap Tryz.prog 9 (plainElem Tryz.prog 3) w.heap.size k D ∧ TW.Seen D (l.take k) ∧ Go.AM.Lf.twR [] l = Go.AM.Lf.twR (l.take k) (l.drop k) ∧ Below w.heap.size w wr)
  (fun i _ => l.length - (intOf i).toNat)
 case atStart => exact ⟨0,.map [],Nat.zero_le _,rfl,World.ownsMap_made _ _ _ _,TW.seen0,rfl,(Below.refl _ _).alloc (Nat.le_refl _) _⟩
 case round =>
  obtain ⟨k,D,hk,rfl,hown,hseen,htw,hnx⟩ := hrel
  obtain ⟨s,hs⟩ : ∃ s : List UInt8,s = l.getD k [] := ⟨_,rfl⟩
  have hse : ∀ hlt : k < l.length,s = l[k] := fun hlt => by rw [hs]; simp [hlt]
  have hcx : k < l.length → wr.cell? ⟨b,off + k,none⟩ = some (.string ⟨s.toArray⟩) := fun hlt => by rw [hse hlt]; exact (hnx.cell (by exact hb)).trans (hc k hlt)
  have hlen : s.length ≤ maxLen := by
   by_cases hlt : k < l.length
   ·rw [hse hlt]; exact hsz _ (List.getElem_mem hlt)
   ·rw [hs]; simp [hlt]
  have hkey : keyOf Tryz.prog 9 (.string ⟨s.toArray⟩) = some (.string s) := keyOf_string_mk Tryz.underlying9 (by exact hlen)
  have hkl : WideAt.IsKeyLit (.string s) := TW.key.key hkey
  have hdrop : ∀ hlt : k < l.length,l.drop k = s :: l.drop (k + 1) := fun hlt => by rw [hse hlt]; exact List.drop_eq_getElem_cons hlt
  have htake : ∀ hlt : k < l.length,l.take (k + 1) = l.take k ++ [s] := fun hlt => by rw [hse hlt]; exact List.take_succ_eq_append_getElem hlt
  clear hse hs
  by_cases hin : s ∈ l.take k
  ·have hfin : ∀ hlt : k < l.length,Go.AM.Lf.twR [] l = (s,true) := fun hlt => by rw [htw,hdrop hlt]; unfold Go.AM.Lf.twR; rw [if_pos hin]
   go_wp2_with (first
    | (at_lookup; refine wpList_lookup_own_int _ rfl _ _ 69 rfl 9 3 .i64 TW.key Tryz.underlying69 Tryz.underlying3 (TW.zeroE _) w.heap.size k _ rfl hown _ _ rfl hkey ?_; intro c hat hwc; obtain rfl : c = 1 := by rw [TW.cOf hseen hat,if_pos hin])
    | (at_mapUpdate; refine wpList_mapUpdate_own _ rfl _ _ _ 69 rfl 9 3 TW.key Tryz.underlying69 _ w.heap.size k _ rfl hown (by unfold maxLen; omega) _ _ _ rfl rfl hkey _ [] (plainElem_int (a := 2) Tryz.underlying3 rfl) ?_; intro w1 hown1 hgrow1)
    | (at_lookup; refine wpList_lookup_own_int _ rfl _ _ 69 rfl 9 3 .i64 TW.key Tryz.underlying69 Tryz.underlying3 (TW.zeroE _) w.heap.size (k + 1) _ rfl hown1 _ _ rfl hkey ?_; intro c2 hat2 hwc2; obtain rfl : c2 = 2 := by rw [atKey_put_same hseen.1 hkl] at hat2; cases hat2; rfl)
    | go_in)
   ·have hlt : k < l.length := by assumption
    go_ret2
    rw [hfin hlt]
    exact ⟨rfl,hnx.grown hgrow1 hnx.size (fun j hj => by cases hj; exact Nat.le_refl _)⟩
   ·have : k = l.length := by omega
    subst this
    rw [List.drop_length] at htw
    go_ret2
    rw [htw]
    exact ⟨rfl,hnx⟩
  ·have hgo : ∀ hlt : k < l.length,Go.AM.Lf.twR [] l = Go.AM.Lf.twR (l.take (k + 1)) (l.drop (k + 1)) := fun hlt => by
    rw [htw,hdrop hlt,htake hlt]
    conv => lhs; unfold Go.AM.Lf.twR
    rw [if_neg hin]
   go_wp2_with (first
    | (at_lookup; refine wpList_lookup_own_int _ rfl _ _ 69 rfl 9 3 .i64 TW.key Tryz.underlying69 Tryz.underlying3 (TW.zeroE _) w.heap.size k _ rfl hown _ _ rfl hkey ?_; intro c hat hwc; obtain rfl : c = 0 := by rw [TW.cOf hseen hat,if_neg hin])
    | (at_mapUpdate; refine wpList_mapUpdate_own _ rfl _ _ _ 69 rfl 9 3 TW.key Tryz.underlying69 _ w.heap.size k _ rfl hown (by unfold maxLen; omega) _ _ _ rfl rfl hkey _ [] (plainElem_int (a := 1) Tryz.underlying3 rfl) ?_; intro w1 hown1 hgrow1)
    | (at_lookup; refine wpList_lookup_own_int _ rfl _ _ 69 rfl 9 3 .i64 TW.key Tryz.underlying69 Tryz.underlying3 (TW.zeroE _) w.heap.size (k + 1) _ rfl hown1 _ _ rfl hkey ?_; intro c2 hat2 hwc2; obtain rfl : c2 = 1 := by rw [atKey_put_same hseen.1 hkl] at hat2; cases hat2; rfl)
    | go_in)
   ·have hlt : k < l.length := by assumption
    go_roundw
    case rel => exact ⟨k + 1,_,by omega,by go_num,hown1,(htake hlt).symm ▸ TW.step hseen hkl,hgo hlt,hnx.grown hgrow1 hnx.size (fun j hj => by cases hj; exact Nat.le_refl _)⟩
    case measure => simp [intOf]; omega
   ·have : k = l.length := by omega
    subst this
    rw [List.drop_length] at htw
    go_ret2
    rw [htw]
    exact ⟨rfl,hnx⟩
end
end Go.Proofs
namespace Go.AM.Lf
open Go.Proofs
theorem ok14 : FnOk Tryz.prog 14 ⟨[.ty (.sl .str)],[.str,.bool],fun x => check_twice x⟩ := by
 refine fn_of_calls Tryz.func14 (by kernel_rfl) rfl fun κ (l : List Str) cargs y hy hI ha => ?_
 obtain ⟨⟨h0,h1⟩,hy⟩ := hy
 cases hy
 obtain ⟨v0,r,rfl,ha0,ha⟩ := RDs.cons_inv (show RDs κ [.imm (.sl .str) l] cargs from ha)
 rw [ha.nil_inv]
 have hv := RD.imm_one (κ := κ) (τ := .sl .str) (x := l) ha0 rfl
 rcases hv.sl_inv with ⟨rfl,a,e⟩ | ⟨blk,off,cap,g,e,hok,hcap,hg,hc⟩
 ·cases e
  refine (TW.zero a 0 κ.w).mono ?_
  rintro e w' ⟨rfl,hB⟩
  exact ⟨hB,fun _ => ⟨_,rfl,RD.tup2 RD.str RD.bool⟩⟩
 ·cases e
  refine (TW.more blk off cap l κ.w h0 (hI.okLt blk hok) (fun j hj => ?_) h1).mono ?_
  ·have h3 := hc j hj 0 (.string ⟨l[j].toArray⟩) (by rw [(hg j hj).str_inv]; rfl)
   simpa [Ty.size] using h3
  ·rintro e w' ⟨rfl,hB⟩
   exact ⟨hB,fun _ => ⟨_,rfl,RD.tup2 RD.str RD.bool⟩⟩
end Go.AM.Lf

namespace Go.AM.Lf
open Go.Proofs
def t79 := t78.d ok14
theorem ok34 : FnOk Pz 34 ⟨[.ty tySwitch,.rp .str],[.bool],fun x => check_unguarded_f1_f1 x.1 x.2⟩ := fkd t79 (rz [2]) hN Tryz.func34 [] lnil
def t80 := t79.d ok34
def lp72_1_0 : LoopD := Lz [] [Mm 0 (.sl tySwitch),.s 1 (.clo 34 [.rp .str]),Mi 7] ⟨[Mi 8],[],[]⟩ [⟨.exit 0,⟨[],[],[]⟩⟩,⟨.ret,⟨[Mi 4],[],[]⟩⟩] fun p s => slices_IndexFunc_sl_Switch_R0 p.1 (fun z0 => check_unguarded_f1_f1 z0 p.2.1) p.2.2 s
def h72_1 : Hints := Hz [(0,lp72_1_0)] [] []
theorem lo72_1_0 : LO Tryz.f72 lp72_1_0 0 := lk t80 rn h72_1 [] lnil
theorem ok72_1 : FnOk Pz 72 ⟨[.ty (.sl tySwitch),.clo 34 [.rp .str]],[i64],fun x => slices_IndexFunc_sl_Switch x.1 (fun z0 => check_unguarded_f1_f1 z0 x.2)⟩ := fkd t80 rn h72_1 Tryz.func72 [0] (lcons rfl lo72_1_0 lnil)
def t81 := t80.d ok72_1
theorem ok33_1 : FnOk Pz 33 ⟨[.ty (.sl tySwitch),.clo 34 [.rp .str]],[.bool],fun x => slices_ContainsFunc_sl_Switch x.1 (fun z0 => check_unguarded_f1_f1 z0 x.2)⟩ := fkd (t81.d ok72_1) rn hN Tryz.func33 [] lnil
def t82 := t81.d ok33_1
theorem ok32 : FnOk Pz 32 ⟨[.ty .str,.rp tyForm],[.bool],fun x => check_unguarded_f1 x.1 x.2⟩ := fkd (t82.d ok33_1) (rz [2]) hN Tryz.func32 [] lnil
def t83 := t82.d ok32
def lp31_0 : LoopD := Lz [] [Mm 0 (.sl .str),.s 1 (.clo 32 [.rp tyForm]),Mi 7] ⟨[Mi 8],[],[]⟩ [⟨.exit 0,⟨[],[],[]⟩⟩,⟨.ret,⟨[Mi 4],[],[]⟩⟩] fun p s => slices_IndexFunc_sl_string_R0 p.1 (fun z0 => check_unguarded_f1 z0 p.2.1) p.2.2 s
def h31 : Hints := Hz [(0,lp31_0)] [] []
theorem lo31_0 : LO Tryz.f31 lp31_0 0 := lk t83 rn h31 [] lnil
theorem ok31 : FnOk Pz 31 ⟨[.ty (.sl .str),.clo 32 [.rp tyForm]],[i64],fun x => slices_IndexFunc_sl_string x.1 (fun z0 => check_unguarded_f1 z0 x.2)⟩ := fkd t83 rn h31 Tryz.func31 [0] (lcons rfl lo31_0 lnil)
def t84 := t83.d ok31
def lp16_0 : LoopD := Lz [.slot 4 .str] [Mr 1 tyForm,Mm 11 (.sl tyPage),Mi 12] ⟨[Mi 13,.a .str],[(4,.cur 0 .str)],[.arr .str]⟩ [⟨.exit 0,⟨[.a .str],[(4,.cur 0 .str)],[.arr .str]⟩⟩] fun p s => check_unguarded_R0 p.1 p.2.1 p.2.2 s
def lp16_2 : LoopD := Lz [] [Mr 1 tyForm,Mm 24 (.sl tyRule),Mi 25] ⟨[Mi 26,.a .str],[(4,.cur 0 .str)],[.arr .str]⟩ [⟨.exit 2,⟨[.a .str],[(4,.cur 0 .str)],[.arr .str]⟩⟩] fun p s => check_unguarded_R1 p.1 p.2.1 p.2.2 s
def h16 : Hints := Hz [(0,lp16_0),(2,lp16_2)] [] []
theorem lo16_0 : LO Tryz.f16 lp16_0 0 := lk t84 (rz [1]) h16 [] lnil
theorem lo16_2 : LO Tryz.f16 lp16_2 2 := lk t84 (rz [1]) h16 [] lnil
theorem ok16 : FnOk Pz 16 ⟨[.ty tyForm],[.str,.bool],fun x => check_unguarded x⟩ := fkd t84 (rz [1]) h16 Tryz.func16 [0,2] (lcons rfl lo16_0 (lcons rfl lo16_2 lnil))
def t85 := t84.d ok16
def lp75_0 : LoopD := Lz [] [Mm 0 (.sl .str),Ms 1,Mi 7] ⟨[Mi 8],[],[]⟩ [⟨.exit 0,⟨[],[],[]⟩⟩,⟨.ret,⟨[Mi 4],[],[]⟩⟩] fun p s => slices_Index_sl_string_R0 p.1 p.2.1 p.2.2 s
def h75 : Hints := Hz [(0,lp75_0)] [] []
theorem lo75_0 : LO Tryz.f75 lp75_0 0 := lk t85 rn h75 [] lnil
theorem ok75 : FnOk Pz 75 ⟨[.ty (.sl .str),.ty .str],[i64],fun x => slices_Index_sl_string x.1 x.2⟩ := fkd t85 rn h75 Tryz.func75 [0] (lcons rfl lo75_0 lnil)
def t86 := t85.d ok75
theorem ok38 : FnOk Pz 38 ⟨[.ty (.sl .str),.ty .str],[.bool],fun x => slices_Contains_sl_string x.1 x.2⟩ := fkd t86 rn hN Tryz.func38 [] lnil
def t87 := t86.d ok38
abbrev Y74 := Shp.den ⟨[Mm 1 .expr,.a .str],[(0,.cur 0 .str)],[.arr .str]⟩ → T (Shp.den ⟨[.a .str],[(0,.cur 0 .str)],[.arr .str]⟩)
abbrev H74 (F : Y74) := FnSOk Pz 74 ⟨[.cur,.any],⟨[Mm 1 .expr,.a .str],[(0,.cur 0 .str)],[.arr .str]⟩,[],⟨[.a .str],[(0,.cur 0 .str)],[.arr .str]⟩,1,F⟩
def T74 (F_74 : Y74) (h_74 : H74 F_74) : Tb := t87.s h_74
def lp74_0 (F_74 : Y74) : LoopD := Lz [] [Mm 23 (.sl .expr),Mi 24] ⟨[Mi 25,.a .str],[(0,.cur 0 .str)],[.arr .str]⟩ [⟨.exit 0,⟨[.a .str],[(0,.cur 0 .str)],[.arr .str]⟩⟩] fun p s => expr_names_S_R0 (fun y0 y1 => F_74 (y0,y1)) p.1 p.2 s
def h74 (F_74 : Y74) : Hints := Hz [(0,lp74_0 F_74)] [(0,1,.ways [⟨.normal,⟨[Mb 16,.a .str],[(0,.cur 0 .str)],[.arr .str]⟩⟩]),(3,1,.ways [⟨.normal,⟨[.a .str],[(0,.cur 0 .str)],[.arr .str]⟩⟩])] []
theorem lo74_0 (F_74 : Y74) (h_74 : H74 F_74) : LO Tryz.f74 (lp74_0 F_74) 0 := lk (T74 F_74 h_74) (rz [3]) (h74 F_74) [] lnil
theorem ok74_B (F_74 : Y74) (h_74 : H74 F_74) : FnSOk Pz 74 ⟨[.cur,.any],⟨[Mm 1 .expr,.a .str],[(0,.cur 0 .str)],[.arr .str]⟩,[],⟨[.a .str],[(0,.cur 0 .str)],[.arr .str]⟩,1,fun x => expr_names_S_B (fun y0 y1 => F_74 (y0,y1)) x.1 x.2⟩ := fks (T74 F_74 h_74) (rz [3]) (h74 F_74) Tryz.func74 [0] (lcons rfl (lo74_0 F_74 h_74) lnil)
theorem ok74 : FnSOk Pz 74 ⟨[.cur,.any],⟨[Mm 1 .expr,.a .str],[(0,.cur 0 .str)],[.arr .str]⟩,[],⟨[.a .str],[(0,.cur 0 .str)],[.arr .str]⟩,1,fun x => expr_names_S x.1 x.2⟩ := fns_fix (fun F_74 x => expr_names_S_B (fun y0 y1 => F_74 (y0,y1)) x.1 x.2) (fun x => rfl) (fun F_74 h_74 => ok74_B F_74 h_74)
def t88 := t87.s ok74
def T74_1 : Tb := t88.s ok74
def lp74_1_0 : LoopD := Lz [] [Mm 23 (.sl .expr),Mi 24] ⟨[Mi 25,.a .str],[(0,.cur 0 .str)],[.arr .str]⟩ [⟨.exit 0,⟨[.a .str],[(0,.cur 0 .str)],[.arr .str]⟩⟩] fun p s => expr_names_SN_R0 p.1 p.2 s
def h74_1 : Hints := Hz [(0,lp74_1_0)] [(0,1,.ways [⟨.normal,⟨[Mb 16,.a .str],[(0,.cur 0 .str)],[.arr .str]⟩⟩]),(3,1,.ways [⟨.normal,⟨[.a .str],[(0,.cur 0 .str)],[.arr .str]⟩⟩])] []
theorem lo74_1_0 : LO Tryz.f74 lp74_1_0 0 := lk T74_1 (rz [3]) h74_1 [] lnil
theorem ok74_1 : FnSOk Pz 74 ⟨[.cur,.any],⟨[Mm 1 .expr,.a .str],[(0,.cur 0 .str)],[.arr .str]⟩,[.slot 0 .str],⟨[.a .str],[(0,.cur 0 .str)],[.arr .str]⟩,1,fun x => expr_names_SN x.1 x.2⟩ := fks T74_1 (rz [3]) h74_1 Tryz.func74 [0] (lcons rfl lo74_1_0 lnil)
def t89 := t88.s ok74_1
theorem ok36 : FnOk Pz 36 ⟨[.ty .expr],[(.sl .str)],fun x => expr_Names x⟩ := fkd (t89.s ok74_1) (rz [1]) hN Tryz.func36 [] lnil
def t90 := t89.d ok36
end Go.AM.Lf
namespace Go.Proofs
section
open Go.RowKit Go.Maps
attribute [local go_sem] Oper.semAt_some
set_option maxRecDepth 100000
set_option maxHeartbeats 2000000
theorem CC.info : (Tryz.prog.info? 9).map (fun i => (i.zero,i.size,i.bytes)) = some (some (.string ⟨#[]⟩),1,16) := by kernel_rfl
theorem CC.wp {ops : Array Oper} {rest : List Oper} {o : Oper} {a : Act} {Q : Exit → Act → World → Prop} (w : World) (hgd : o.guard = Option.none) (s x : Operand) (t u : TypeId)
  (ho : o.op = .call { callee := .builtin .append,args := #[s,x],argTypes := #[t,u] }) (v' : Value) (w' : World)
  (hr : (Builtin.append_ #[t,u] o.type #[a.eval s,a.eval x]).run Tryz.prog w = .ok v' w') (h : wpList Tryz.prog ops Q rest (a.put o.dst v') w') : wpList Tryz.prog ops Q (o :: rest) a w :=
 wpList_plain hgd fun _ hK => by
  unfold Oper.wp execOp
  simp only [ho,resolve,invoke,builtin,Sem.run_bind,Sem.run_pure,Result.andThen_ok,List.map_toArray,List.map_cons,List.map_nil,hr]
  exact hK _ _ h
/-- An append of nothing. -/
theorem CC.append_none {base : Option Addr} {n cap : Nat} {a : Option Addr} {ty : TypeId} (w : World) (hcap : n ≤ cap) :
  (Builtin.append_ #[37,37] ty #[.slice base n cap,.slice a 0 0]).run Tryz.prog w = .ok (.slice base n cap) w := by
 obtain ⟨i0,hi,hz0,hz1,hz2⟩ := info_parts CC.info
 have hu := Tryz.underlying37
 cases a <;> cases base <;> simp [Builtin.append_,run_underlying hu,sizeOf,typeInfo,hi,Builtin.lenOf,Builtin.firstCells,loadCells,loadCellsFrom,storeCells,hcap]
theorem CC.append_make {n : Nat} {ty : TypeId} (w : World) (hn : 0 < n) (hb : n * 16 ≤ 140737488355328) :
  ∃ cs : Array Value,cs.size = grownCap w n 0 9 ∧ (Builtin.append_ #[37,3] ty #[.slice Option.none 0 0,.int .i64 (n : Int)]).run Tryz.prog w = .ok (.slice (some ⟨w.heap.size,0,Option.none⟩) n (grownCap w n 0 9)) (w.drew.alloc (.cells cs 9)) := by
 obtain ⟨i0,hi,hz0,hz1,hz2⟩ := info_parts CC.info
 have hu := Tryz.underlying37
 have he := Tryz.underlying3
 have w1 : IntKind.i64.wrap (n : Int) = n := IntWalk.i64_in _ (by omega)
 have h5 : IntKind.i64.max = 9223372036854775807 := by decide
 have ai : ∀ w,(Go.asInt (.int .i64 (n : Int))).run Tryz.prog w = .ok (n : Int) w := fun w => by simp [Go.asInt,asIntOf]
 have g1 : ¬ ((n : Int) < 0) := by omega
 have g2 : ¬ ((281474976710656 : Int) < (n : Int) * 16) := by omega
 have g3 : ¬ (n = 0) := by omega
 have g4 : ¬ (281474976710656 < Builtin.nextslicecap n 0 * 16) := by
  have := growslice_fits (bytes := 16) (need := n) (old := 0) (by omega) (by omega)
  omega
 have hge := grownCap_ge w n 0 9
 refine ⟨Builtin.zeroCells (Value.string ⟨#[]⟩).cells n ++ Builtin.zeroCells (Value.string ⟨#[]⟩).cells (grownCap w n 0 9 - n),?_,?_⟩
 ·simp [Builtin.zeroCells,Value.cells]; omega
 ·simp [Builtin.append_,run_underlying hu,run_underlying he,sizeOf,typeInfo,zeroValue,hi,hz0,hz1,hz2,ai,w1,Builtin.lenOf,Builtin.firstCells,Question.forced,newRow,grownCap,g1,g2,g3,g4]
  intro h
  omega
theorem CC.grow (n : Nat) (w : World) (hb : n * 16 ≤ 140737488355328) : Calls Tryz.prog 73 #[.slice Option.none 0 0,.int .i64 (n : Int)] w fun e w' => ∃ v,e = .returned v ∧ w'.ownsRow w.heap.size 9 1 v 0 [] ∧ Below w.heap.size w w' := by
 go_enter Tryz.func73,Tryz.ntmps73
 by_cases hn : 0 < n
 ·obtain ⟨cs,hcs,hr⟩ := CC.append_make (ty := 37) w hn hb
  go_wp2_with (first
   | (at_builtin; refine CC.wp _ rfl _ _ _ _ rfl _ _ hr ?_)
   | go_in)
  go_ret
  refine ⟨_,rfl,⟨rfl,.inr ⟨w.heap.size,_,cs,rfl,Nat.le_refl _,by show (w.heap.push (Obj.cells cs 9))[w.heap.size]? = _; exact Array.getElem?_push_size,Nat.zero_le _,grownCap_le_maxLen w n 0 9 (by unfold maxLen; omega),by rw [hcs,Nat.mul_one],rfl⟩⟩,?_⟩
  have hB : Below w.heap.size w (w.alloc (.cells cs 9)) := (Below.refl _ _).alloc (Nat.le_refl _) _
  exact ⟨hB.os,hB.tape,hB.output,hB.size,hB.block⟩
 ·obtain rfl : n = 0 := by omega
  go_wp2
  go_ret
  exact ⟨_,rfl,World.ownsRow_nil _ _ _ _,Below.refl _ _⟩
/-- The texts of a slice whose block lies below n₀. -/
def CC.Strs (n₀ : Nat) (W : World) (sv : Value) (l : List (List UInt8)) : Prop := (∃ a,sv = .slice a 0 0 ∧ l = []) ∨ ∃ b off cap,sv = .slice (some ⟨b,off,Option.none⟩) l.length cap ∧ b < n₀ ∧ ∀ j (hj : j < l.length),W.cell? ⟨b,off + j,Option.none⟩ = some (.string ⟨l[j].toArray⟩)
def CC.cells (l : List (List UInt8)) : List Value := l.map fun s => .string ⟨s.toArray⟩
/-- How many texts the first k slices have; which. -/
def CC.fl (ls : List (List (List UInt8))) (k : Nat) : Nat := (ls.take k).flatten.length
def CC.out (ls : List (List (List UInt8))) (k : Nat) : List Value := CC.cells (ls.take k).flatten
def CC.at (ls : List (List (List UInt8))) (k : Nat) : List (List UInt8) := ls.getD k []
theorem CC.take_succ {ls : List (List (List UInt8))} {k : Nat} (hk : k < ls.length) : (ls.take (k + 1)).flatten = (ls.take k).flatten ++ CC.at ls k := by
 rw [List.take_succ_eq_append_getElem hk,List.flatten_append,List.flatten_singleton]
 simp [CC.at,hk]
theorem CC.fl_succ {ls : List (List (List UInt8))} {k : Nat} (hk : k < ls.length) : CC.fl ls (k + 1) = CC.fl ls k + (CC.at ls k).length := by
 unfold CC.fl; rw [CC.take_succ hk,List.length_append]
theorem CC.out_succ {ls : List (List (List UInt8))} {k : Nat} (hk : k < ls.length) : CC.out ls (k + 1) = CC.out ls k ++ CC.cells (CC.at ls k) := by
 unfold CC.out CC.cells; rw [CC.take_succ hk,List.map_append]
theorem CC.fl_le (ls : List (List (List UInt8))) (k : Nat) : CC.fl ls k ≤ CC.fl ls ls.length := by
 unfold CC.fl
 rw [List.take_length]
 conv => rhs; rw [← List.take_append_drop k ls,List.flatten_append,List.length_append]
 omega
theorem CC.concat (b off cap L : Nat) (svs : Nat → Value) (ls : List (List (List UInt8))) (w : World) (hL : L = ls.length) (hreach : L * 24 ≤ 140737488351232) (hb : b < w.heap.size)
  (hc : ∀ j,j < L → w.cell? ⟨b,off + j,Option.none⟩ = some (svs j)) (hs : ∀ j,j < L → CC.Strs w.heap.size w (svs j) (CC.at ls j)) (hsum : CC.fl ls L * 16 ≤ 140737488355328) :
  Calls Tryz.prog 35 #[.slice (some ⟨b,off,Option.none⟩) L cap] w fun e w' => ∃ v,e = .returned v ∧ w'.ownsRow w.heap.size 9 1 v (CC.fl ls L) (CC.out ls L) ∧ Below w.heap.size w w' := by
 obtain ⟨i0,hi,hz0,hz1,hz2⟩ := info_parts CC.info
 have hfl : ∀ k,k < L → CC.fl ls (k + 1) = CC.fl ls k + (CC.at ls k).length := fun k hk => CC.fl_succ (by omega)
 have hou : ∀ k,k < L → CC.out ls (k + 1) = CC.out ls k ++ CC.cells (CC.at ls k) := fun k hk => CC.out_succ (by omega)
 have hle : ∀ k,CC.fl ls k ≤ CC.fl ls L := fun k => hL ▸ CC.fl_le ls k
 have hf0 : CC.fl ls 0 = 0 := rfl
 have ho0 : CC.out ls 0 = [] := rfl
 generalize CC.fl ls = fl at *
 generalize CC.out ls = out at *
 generalize CC.at ls = at_ at *
 clear hL ls
 generalize hM : fl L = M at *
 go_enter Tryz.func35,Tryz.ntmps35
 go_wp2
 go_loopw [3,11] (fun sz i wr => ∃ k : Nat,k ≤ L ∧ i = .int .i64 k ∧ sz = .int .i64 (fl k : Int) ∧ w = wr) (fun _ i _ => L - (intOf i).toNat)
 case atStart => exact ⟨0,Nat.zero_le _,rfl,by rw [hf0]; rfl,rfl⟩
 case round =>
  obtain ⟨k,hk,rfl,rfl,rfl⟩ := hrel
  by_cases hlt : k < L
  ·have hcell := hc k hlt
   have hS := hs k hlt
   have h1 := hfl k hlt
   have h2 := hle (k + 1)
   have hSq : ∃ a c,svs k = .slice a (at_ k).length c := by
    rcases hS with ⟨a,e,he⟩ | ⟨b1,o1,c1,e,_,_⟩
    ·exact ⟨a,0,by rw [e,he]; rfl⟩
    ·exact ⟨_,c1,e⟩
   obtain ⟨a1,c1,e1⟩ := hSq
   rw [e1] at hcell
   clear hc hs hS hfl hou hle e1
   generalize hq : (at_ k).length = q at *
   generalize hm : fl k = m at *
   generalize hm' : fl (k + 1) = m' at *
   go_wp2
   go_roundw
   case rel => exact ⟨k + 1,by omega,by go_num,by rw [hm',h1]; go_num,by first | rfl | trivial⟩
   case measure => simp [intOf]; omega
  ·have hkl : k = L := by omega
   subst hkl
   rw [hM]
   have hg := CC.grow M w hsum
   go_wp2_with (first
    | (go_at_call 73; refine hg.mono ?_; rintro e w1 ⟨v1,rfl,hrow,hB⟩)
    | go_in)
   clear hg
   go_loopw [6,27] (fun o i wr' => ∃ j : Nat,j ≤ k ∧ i = .int .i64 j ∧ wr'.ownsRow w.heap.size 9 1 o (fl j) (out j) ∧ Below w.heap.size w wr') (fun _ i _ => k - (intOf i).toNat)
   case atStart => exact ⟨0,Nat.zero_le _,rfl,by rw [hf0,ho0]; exact hrow,hB⟩
   case round =>
    obtain ⟨j,hj,rfl,hrow,hB⟩ := hrel
    by_cases hlt2 : j < k
    ·have hcell : wr.cell? ⟨b,off + j,Option.none⟩ = some (svs j) := (hB.cell (p := ⟨b,off + j,Option.none⟩) hb).trans (hc j hlt2)
     have h1 := hfl j hlt2
     have h2 := hle (j + 1)
     have h3 := hou j hlt2
     rcases hs j hlt2 with ⟨a,e,he⟩ | ⟨b1,o1,c1,e,hb1,hcs⟩
     ·rw [e] at hcell
      rw [he] at h1 h3
      have e1 : fl (j + 1) = fl j := by rw [h1]; rfl
      have e2 : out (j + 1) = out j := by rw [h3]; simp [CC.cells]
      have hv : ∃ base n cap,u6 = .slice base n cap ∧ n ≤ cap := by
       rcases hrow.2 with ⟨rfl,_⟩ | ⟨g,cap',cur,rfl,_,_,hcap,_⟩
       ·exact ⟨_,_,_,rfl,Nat.le_refl _⟩
       ·exact ⟨_,_,_,rfl,hcap⟩
      obtain ⟨base,n,cap',rfl,hcap⟩ := hv
      have hr := CC.append_none (base := base) (n := n) (cap := cap') (a := a) (ty := 37) wr hcap
      clear hc hs hfl hou hle hf0 ho0 he e
      go_wp2_with (first
       | (at_builtin; refine CC.wp _ rfl _ _ _ _ rfl _ _ hr ?_)
       | go_in)
      go_roundw
      case rel => exact ⟨j + 1,by omega,by go_num,by rw [e1,e2]; exact hrow,hB⟩
      case measure => simp [intOf]; omega
     ·rw [e] at hcell
      have hB1 := hB.size
      have hl : (CC.cells (at_ j)).length = (at_ j).length * 1 := by simp [CC.cells]
      have hone : ∀ u ∈ CC.cells (at_ j),u.oneCell' = true := by
       intro u hu
       obtain ⟨s,_,rfl⟩ := List.mem_map.1 hu
       rfl
      have hnews : ∀ i u,(CC.cells (at_ j))[i]? = some u → wr.cell? ((⟨b1,o1,Option.none⟩ : Addr).add i) = some u := by
       intro i u hu
       have hi2 : i < (at_ j).length := by
        have := (List.getElem?_eq_some_iff.1 hu).1
        simpa [CC.cells] using this
       have hadd : (⟨b1,o1,Option.none⟩ : Addr).add i = ⟨b1,o1 + i,Option.none⟩ := by unfold Addr.add; split <;> simp_all
       rw [hadd,(hB.cell (p := ⟨b1,o1 + i,Option.none⟩) hb1),hcs i hi2,← hu]
       simp [CC.cells,hi2]
      clear hc hs hfl hou hle hf0 ho0 e hcs
      generalize CC.cells (at_ j) = news at *
      generalize hq : (at_ j).length = q at *
      go_wp2_with (first
       | (at_builtin; refine wpList_append_own _ rfl _ _ 37 rfl w.heap.size 9 i0 (.string ⟨#[]⟩) 1 16 Tryz.underlying37 hi hz0 hz1 hz2 rfl (by decide) _ _ _ rfl hrow ⟨b1,o1,Option.none⟩ q c1 news rfl hl hnews hone (by unfold maxLen; omega) (by omega) hB1 ?_; intro v' w' hown' hgrow' hnil')
       | go_in)
      go_roundw
      case rel => exact ⟨j + 1,by omega,by go_num,by rw [h1,h3]; exact hown',hB.grown hgrow' hB.size (fun i hi => (hrow.lt i hi).1)⟩
      case measure => simp [intOf]; omega
    ·have hjk : j = k := by omega
     subst hjk
     clear hc hs hfl hou hle
     go_wp2
     go_ret
     exact ⟨_,rfl,by rw [hM] at hrow; exact hrow,hB⟩
end
end Go.Proofs
namespace Go.AM.Lf
open Go.Proofs
theorem strs_of {κ : KS} {l : List Str} {cs : List Value} (hI : Inv κ) (h : Rc κ.w κ.ok (.sl .str) l cs) : ∃ v,cs = [v] ∧ CC.Strs κ.w.heap.size κ.w v l := by
 rcases h.sl_inv with ⟨rfl,a,e⟩ | ⟨blk,off,cap,g,e,hok,hcap,hg,hc⟩
 ·exact ⟨_,e,.inl ⟨a,rfl,rfl⟩⟩
 ·refine ⟨_,e,.inr ⟨blk,off,cap,rfl,hI.okLt blk hok,fun j hj => ?_⟩⟩
  have h3 := hc j hj 0 (.string ⟨l[j].toArray⟩) (by rw [(hg j hj).str_inv]; rfl)
  simpa [Ty.size] using h3
theorem ok35 : FnOk Tryz.prog 35 ⟨[.ty (.sl (.sl .str))],[.sl .str],fun x => slices_Concat_sl_string x⟩ := by
 refine fn_of_calls Tryz.func35 (by kernel_rfl) rfl fun κ (ls : List (List Str)) cargs y hy hI ha => ?_
 obtain ⟨⟨h0,h1,h2⟩,hy⟩ := hy
 cases hy
 obtain ⟨v0,r,rfl,ha0,ha⟩ := RDs.cons_inv (show RDs κ [.imm (.sl (.sl .str)) ls] cargs from ha)
 rw [ha.nil_inv]
 have hv := RD.imm_one (κ := κ) (τ := .sl (.sl .str)) (x := ls) ha0 rfl
 rcases hv.sl_inv with ⟨rfl,a,e⟩ | ⟨blk,off,cap,g,e,hok,hcap,hg,hc⟩
 ·exact absurd rfl h2
 ·cases e
  have hall : ∀ j (hj : j < ls.length),∃ v,g j = [v] ∧ CC.Strs κ.w.heap.size κ.w v ls[j] := fun j hj => strs_of hI (hg j hj)
  have hcell : ∀ j,j < ls.length → κ.w.cell? ⟨blk,off + j,none⟩ = some ((g j).headD (.bool false)) := fun j hj => by
   obtain ⟨v,hv,_⟩ := hall j hj
   have h3 := hc j hj 0 v (by rw [hv]; rfl)
   rw [hv]
   simpa [Ty.size] using h3
  have hfl : ls.flatten = (ls.take ls.length).flatten := by rw [List.take_length]
  refine (CC.concat blk off cap ls.length (fun j => (g j).headD (.bool false)) ls κ.w rfl h0 (hI.okLt blk hok) hcell (fun j hj => ?_) (by unfold CC.fl; rw [← hfl]; exact h1)).mono ?_
  ·obtain ⟨v,hv,hs⟩ := hall j hj
   rw [hv]
   have : CC.at ls j = ls[j] := by simp [CC.at,hj]
   rw [this]; exact hs
  ·rintro e w' ⟨v,rfl,hrow,hB⟩
   refine ⟨hB,fun _ => ⟨_,rfl,?_⟩⟩
   unfold CC.fl CC.out at hrow
   rw [← hfl] at hrow
   show RD _ (.imm (.sl .str) ls.flatten) v
   refine RD.imm1 rfl ?_
   rcases hrow.2 with ⟨rfl,hn⟩ | ⟨gb,cap',cur,rfl,hgb,hcur,hle,hmax,hsz,htk⟩
   ·rw [List.eq_nil_of_length_eq_zero hn]
    exact .slNil .str none
   ·refine .sl .str _ gb 0 cap' (fun i => [.string ⟨(ls.flatten[i]?.getD []).toArray⟩]) (.inr ⟨hgb,(Array.getElem?_eq_some_iff.1 hcur).1⟩) hle (fun i hi => ?_) (fun i hi j u hu => ?_)
    ·rw [List.getElem?_eq_getElem hi]
     exact .str _
    ·match j,hu with
     | 0,hu =>
      simp only [List.getElem?_cons_zero,Option.some.injEq] at hu
      have e0 : (0 : Nat) + i * Ty.size .str + 0 = i := by show 0 + i * 1 + 0 = i; omega
      show w'.cell? ⟨gb,0 + i * Ty.size .str + 0,none⟩ = some u
      rw [e0,cell_of_row w' gb i cur _ (0,0) hcur,← hu]
      have h4 : (cur.toList.take (ls.flatten.length * 1))[i]? = (CC.cells ls.flatten)[i]? := by rw [htk]
      rw [List.getElem?_take_of_lt (by omega)] at h4
      rw [← Array.getElem?_toList,h4]
      unfold CC.cells
      rw [List.getElem?_map,List.getElem?_eq_getElem hi]; rfl
end Go.AM.Lf

namespace Go.AM.Lf
open Go.Proofs
def t91 := t90.d ok35
theorem ok40 : FnOk Pz 40 ⟨[.ty tyParam,.rp .str],[.bool],fun x => check_unknown_f1_f1 x.1 x.2⟩ := fkd t91 (rz [2]) hN Tryz.func40 [] lnil
def t92 := t91.d ok40
def lp76_1_0 : LoopD := Lz [] [Mm 0 (.sl tyParam),.s 1 (.clo 40 [.rp .str]),Mi 7] ⟨[Mi 8],[],[]⟩ [⟨.exit 0,⟨[],[],[]⟩⟩,⟨.ret,⟨[Mi 4],[],[]⟩⟩] fun p s => slices_IndexFunc_sl_Param_R0 p.1 (fun z0 => check_unknown_f1_f1 z0 p.2.1) p.2.2 s
def h76_1 : Hints := Hz [(0,lp76_1_0)] [] []
theorem lo76_1_0 : LO Tryz.f76 lp76_1_0 0 := lk t92 rn h76_1 [] lnil
theorem ok76_1 : FnOk Pz 76 ⟨[.ty (.sl tyParam),.clo 40 [.rp .str]],[i64],fun x => slices_IndexFunc_sl_Param x.1 (fun z0 => check_unknown_f1_f1 z0 x.2)⟩ := fkd t92 rn h76_1 Tryz.func76 [0] (lcons rfl lo76_1_0 lnil)
def t93 := t92.d ok76_1
theorem ok39_1 : FnOk Pz 39 ⟨[.ty (.sl tyParam),.clo 40 [.rp .str]],[.bool],fun x => slices_ContainsFunc_sl_Param x.1 (fun z0 => check_unknown_f1_f1 z0 x.2)⟩ := fkd (t93.d ok76_1) rn hN Tryz.func39 [] lnil
def t94 := t93.d ok39_1
theorem ok37 : FnOk Pz 37 ⟨[.ty .str,.rp (.sl .str),.rp tyForm],[.bool],fun x => check_unknown_f1 x.1 x.2.1 x.2.2⟩ := fkd (t94.d ok39_1) (rz [3]) hN Tryz.func37 [] lnil
def t95 := t94.d ok37
def lp31_1_0 : LoopD := Lz [] [Mm 0 (.sl .str),.s 1 (.clo 37 [.rp (.sl .str),.rp tyForm]),Mi 7] ⟨[Mi 8],[],[]⟩ [⟨.exit 0,⟨[],[],[]⟩⟩,⟨.ret,⟨[Mi 4],[],[]⟩⟩] fun p s => slices_IndexFunc_sl_string_R0 p.1 (fun z0 => check_unknown_f1 z0 p.2.1.1 p.2.1.2) p.2.2 s
def h31_1 : Hints := Hz [(0,lp31_1_0)] [] []
theorem lo31_1_0 : LO Tryz.f31 lp31_1_0 0 := lk t95 rn h31_1 [] lnil
theorem ok31_1 : FnOk Pz 31 ⟨[.ty (.sl .str),.clo 37 [.rp (.sl .str),.rp tyForm]],[i64],fun x => slices_IndexFunc_sl_string x.1 (fun z0 => check_unknown_f1 z0 x.2.1 x.2.2)⟩ := fkd t95 rn h31_1 Tryz.func31 [0] (lcons rfl lo31_1_0 lnil)
def t96 := t95.d ok31_1
def T17 : Tb := t96.d ok31_1
def lp17_0 : LoopD := Lz [] [Mr 2 tyForm,Mr 3 (.sl .str),Mm 13 (.sl tyCheck),Mi 14] ⟨[Mm 6 (.sl .str),Mi 15],[],[]⟩ [⟨.exit 0,⟨[Mm 6 (.sl .str)],[],[]⟩⟩] fun p s => check_unknown_R0 p.1 p.2.1 p.2.2.1 p.2.2.2 s
def lp17_2 : LoopD := Lz [] [Mr 2 tyForm,Mr 3 (.sl .str),Mm 30 (.sl tyRule),Mi 31] ⟨[Mm 6 (.sl .str),Mi 32],[],[]⟩ [⟨.exit 2,⟨[Mm 6 (.sl .str)],[],[]⟩⟩] fun p s => check_unknown_R1 p.1 p.2.1 p.2.2.1 p.2.2.2 s
def h17 : Hints := Hz [(0,lp17_0),(2,lp17_2)] [] []
theorem lo17_0 : LO Tryz.f17 lp17_0 0 := lk T17 (rz [2,3]) h17 [] lnil
theorem lo17_2 : LO Tryz.f17 lp17_2 2 := lk T17 (rz [2,3]) h17 [] lnil
theorem ok17 : FnOk Pz 17 ⟨[.ty tyForm,.ty (.sl .str)],[.str,.bool],fun x => check_unknown x.1 x.2⟩ := fkd T17 (rz [2,3]) h17 Tryz.func17 [0,2] (lcons rfl lo17_0 (lcons rfl lo17_2 lnil))
def t97 := t96.d ok17
theorem ok51 : FnOk Pz 51 ⟨[.ty .str,.rp (.sl .str)],[.bool],fun x => check_Has_f1 x.1 x.2⟩ := fkd t97 rn hN Tryz.func51 [] lnil
def t98 := t97.d ok51
def lp31_2_0 : LoopD := Lz [] [Mm 0 (.sl .str),.s 1 (.clo 51 [.rp (.sl .str)]),Mi 7] ⟨[Mi 8],[],[]⟩ [⟨.exit 0,⟨[],[],[]⟩⟩,⟨.ret,⟨[Mi 4],[],[]⟩⟩] fun p s => slices_IndexFunc_sl_string_R0 p.1 (fun z0 => check_Has_f1 z0 p.2.1) p.2.2 s
def h31_2 : Hints := Hz [(0,lp31_2_0)] [] []
theorem lo31_2_0 : LO Tryz.f31 lp31_2_0 0 := lk t98 rn h31_2 [] lnil
theorem ok31_2 : FnOk Pz 31 ⟨[.ty (.sl .str),.clo 51 [.rp (.sl .str)]],[i64],fun x => slices_IndexFunc_sl_string x.1 (fun z0 => check_Has_f1 z0 x.2)⟩ := fkd t98 rn h31_2 Tryz.func31 [0] (lcons rfl lo31_2_0 lnil)
def t99 := t98.d ok31_2
theorem ok50 : FnOk Pz 50 ⟨[.ty (.sl .str),.clo 51 [.rp (.sl .str)]],[.bool],fun x => slices_ContainsFunc_sl_string x.1 (fun z0 => check_Has_f1 z0 x.2)⟩ := fkd (t99.d ok31_2) rn hN Tryz.func50 [] lnil
def t100 := t99.d ok50
theorem ok26 : FnOk Pz 26 ⟨[.ty .expr,.ty (.sl .str)],[.bool],fun x => check_Has x.1 x.2⟩ := fkd t100 (rz [2,3]) hN Tryz.func26 [] lnil
def t101 := t100.d ok26
abbrev Y18 := denPs [.ty .expr,.ty (.sl .str)] → T (Tup [.bool])
abbrev H18 (F : Y18) := FnOk Pz 18 ⟨[.ty .expr,.ty (.sl .str)],[.bool],F⟩
theorem ok42 (F_18 : Y18) (h_18 : H18 F_18) : FnOk Pz 42 ⟨[.ty .expr,.rp (.sl .str)],[.bool],fun x => check_Linear_f1 (fun y0 y1 => F_18 (y0,y1)) x.1 x.2⟩ := fkd (t101.d h_18) (rz [2]) hN Tryz.func42 [] lnil
def T77_1 (F_18 : Y18) (h_18 : H18 F_18) : Tb := t101.d (ok42 _ h_18)
def lp77_1_0 (F_18 : Y18) : LoopD := Lz [] [Mm 0 (.sl .expr),.s 1 (.clo 42 [.rp (.sl .str)]),Mi 7] ⟨[Mi 8],[],[]⟩ [⟨.exit 0,⟨[],[],[]⟩⟩,⟨.ret,⟨[Mi 4],[],[]⟩⟩] fun p s => slices_IndexFunc_sl_Expr_R0 (fun y0 y1 => F_18 (y0,y1)) p.1 (fun z0 => (check_Linear_f1 (fun y0 y1 => F_18 (y0,y1))) z0 p.2.1) p.2.2 s
def h77_1 (F_18 : Y18) : Hints := Hz [(0,lp77_1_0 F_18)] [] []
theorem lo77_1_0 (F_18 : Y18) (h_18 : H18 F_18) : LO Tryz.f77 (lp77_1_0 F_18) 0 := lk (T77_1 F_18 h_18) rn (h77_1 F_18) [] lnil
theorem ok77_1 (F_18 : Y18) (h_18 : H18 F_18) : FnOk Pz 77 ⟨[.ty (.sl .expr),.clo 42 [.rp (.sl .str)]],[i64],fun x => slices_IndexFunc_sl_Expr (fun y0 y1 => F_18 (y0,y1)) x.1 (fun z0 => (check_Linear_f1 (fun y0 y1 => F_18 (y0,y1))) z0 x.2)⟩ := fkd (T77_1 F_18 h_18) rn (h77_1 F_18) Tryz.func77 [0] (lcons rfl (lo77_1_0 F_18 h_18) lnil)
theorem ok41_1 (F_18 : Y18) (h_18 : H18 F_18) : FnOk Pz 41 ⟨[.ty (.sl .expr),.clo 42 [.rp (.sl .str)]],[.bool],fun x => slices_ContainsFunc_sl_Expr (fun y0 y1 => F_18 (y0,y1)) x.1 (fun z0 => (check_Linear_f1 (fun y0 y1 => F_18 (y0,y1))) z0 x.2)⟩ := fkd (t101.d (ok77_1 _ h_18)) rn hN Tryz.func41 [] lnil
def h18 (F_18 : Y18) : Hints := Hz [] [(0,3,.ways [⟨.normal,⟨[Mb 41,.v (.imm .expr),.v (.imm .expr)],[],[.var (.imm .expr),.var (.imm .expr)]⟩⟩]),(3,1,.ways [⟨.normal,⟨[],[],[]⟩⟩,⟨.ret,⟨[Mb 4],[],[]⟩⟩])] []
theorem ok18_B (F_18 : Y18) (h_18 : H18 F_18) : FnOk Pz 18 ⟨[.ty .expr,.ty (.sl .str)],[.bool],fun x => check_Linear_B (fun y0 y1 => F_18 (y0,y1)) x.1 x.2⟩ := fkd ((t101.d (ok41_1 _ h_18)).d (ok42 _ h_18)) (rz [2,3]) (h18 F_18) Tryz.func18 [] lnil
theorem ok18 : FnOk Pz 18 ⟨[.ty .expr,.ty (.sl .str)],[.bool],fun x => check_Linear x.1 x.2⟩ := fn_fix (fun F_18 x => check_Linear_B (fun y0 y1 => F_18 (y0,y1)) x.1 x.2) (fun x => rfl) (fun F_18 h_18 => ok18_B F_18 h_18)
def t102 := t101.d ok18
def lp6_1 : LoopD := Lz [.slot 8 .str] [Mr 1 tyForm,Mm 46 (.sl tyField),Mi 47] ⟨[Mi 48,.a .str],[(8,.cur 0 .str)],[.arr .str]⟩ [⟨.exit 1,⟨[.a .str],[(8,.cur 0 .str)],[.arr .str]⟩⟩] fun p s => check_Static_R0 p.1 p.2.1 p.2.2 s
def lp6_3 : LoopD := Lz [] [Mm 67 (.sl tyRule),Mi 68] ⟨[Mi 69,.a .str],[(8,.cur 0 .str)],[.arr .str]⟩ [⟨.exit 3,⟨[.a .str],[],[.arr .str]⟩⟩,⟨.ret,⟨[Mi 2,Ms 3,.a .str],[],[.arr .str]⟩⟩] fun p s => check_Static_R1 p.1 p.2 s
def h6 : Hints := Hz [(1,lp6_1),(3,lp6_3)] [(0,3,.flat [Mb 19]),(0,23,.ways [⟨.normal,⟨[Mb 84,.a .str,.v (.imm tyRule)],[(8,.cur 0 .str)],[.arr .str,.var (.imm tyRule)]⟩⟩])] []
theorem lo6_1 : LO Tryz.f6 lp6_1 1 := lk t102 (rz [1]) h6 [] lnil
theorem lo6_3 : LO Tryz.f6 lp6_3 3 := lk t102 (rz [1]) h6 [] lnil
theorem ok6 : FnOk Pz 6 ⟨[.ty tyForm],[i64,.str],fun x => check_Static x⟩ := fkd t102 (rz [1]) h6 Tryz.func6 [1,3] (lcons rfl lo6_1 (lcons rfl lo6_3 lnil))
def t103 := t102.d ok6
def h78 : Hints := Hz [] [(0,1,.flat [Mb 2])] []
theorem ok78 : FnOk Pz 78 ⟨[.ty (.int .u8)],[.bool],fun x => ref5_letter x⟩ := fkd t103 rn h78 Tryz.func78 [] lnil
def t104 := t103.d ok78
def h79 : Hints := Hz [] [(0,1,.flat [Mb 2])] []
theorem ok79 : FnOk Pz 79 ⟨[.ty (.int .u8)],[.bool],fun x => ref5_digit x⟩ := fkd t104 rn h79 Tryz.func79 [] lnil
def t105 := t104.d ok79
def lp43_0 : LoopD := Lz [] [Ms 0] ⟨[Mi 3],[],[]⟩ [⟨.exit 0,⟨[],[],[]⟩⟩,⟨.ret,⟨[Mb 2],[],[]⟩⟩] fun p s => ref5_Name_R0 p s
def h43 : Hints := Hz [(0,lp43_0)] [(0,1,.ways [⟨.normal,⟨[Mb 17],[],[]⟩⟩]),(0,6,.ways [⟨.normal,⟨[Mb 41],[],[]⟩⟩])] []
theorem lo43_0 : LO Tryz.f43 lp43_0 0 := lk t105 rn h43 [] lnil
theorem ok43 : FnOk Pz 43 ⟨[.ty .str],[.bool],fun x => ref5_Name x⟩ := fkd t105 rn h43 Tryz.func43 [0] (lcons rfl lo43_0 lnil)
def t106 := t105.d ok43
def lp124_0 : LoopD := Lz [] [Mm 0 (.sl u32)] ⟨[Mi 3],[],[]⟩ [⟨.exit 0,⟨[Mi 3],[],[]⟩⟩] fun p s => ref1_Trim_R0 p s
def h124 : Hints := Hz [(0,lp124_0)] [(0,2,.flat [Mb 15])] []
theorem lo124_0 : LO Tryz.f124 lp124_0 0 := lk t106 rn h124 [] lnil
theorem ok124 : FnOk Pz 124 ⟨[.ty (.sl u32)],[(.sl u32)],fun x => ref1_Trim x⟩ := fkd t106 rn h124 Tryz.func124 [0] (lcons rfl lo124_0 lnil)
def t107 := t106.d ok124
def lp141_0 : LoopD := Lz [] [Mm 4 (.sl u32)] ⟨[Mm 5 (.int .u64),Mi 6],[],[]⟩ [⟨.exit 0,⟨[Mm 5 (.int .u64)],[],[]⟩⟩] fun p s => ref1_To_R0 p s
def h141 : Hints := Hz [(0,lp141_0)] [] []
theorem lo141_0 : LO Tryz.f141 lp141_0 0 := lk t107 rn h141 [] lnil
theorem ok141 : FnOk Pz 141 ⟨[.ty (.sl u32)],[(.int .u64),.bool],fun x => ref1_To x⟩ := fkd t107 rn h141 Tryz.func141 [0] (lcons rfl lo141_0 lnil)
def t108 := t107.d ok141
theorem ok142 : FnOk Pz 142 ⟨[.ty (.int .u64)],[(.sl u32)],fun x => ref1_Of x⟩ := fkd t108 rn hN Tryz.func142 [] lnil
def t109 := t108.d ok142
def lp129_0 : LoopD := Lz [] [Mm 0 (.sl u32),Mm 1 (.int .u64)] ⟨[Mm 7 (.int .u64),Mi 8,.a u32],[(6,.cur 0 u32)],[.arr u32]⟩ [⟨.exit 0,⟨[Mm 7 (.int .u64),.a u32],[(6,.cur 0 u32)],[.arr u32]⟩⟩] fun p s => ref1_small_R0 p.1 p.2 s
def h129 : Hints := Hz [(0,lp129_0)] [] [(9,[6])]
theorem lo129_0 : LO Tryz.f129 lp129_0 0 := lk t109 rn h129 [] lnil
theorem ok129 : FnOk Pz 129 ⟨[.ty (.sl u32),.ty (.int .u64)],[(.sl u32),(.int .u64)],fun x => ref1_small x.1 x.2⟩ := fkd t109 rn h129 Tryz.func129 [0] (lcons rfl lo129_0 lnil)
def t110 := t109.d ok129
theorem ok147 : FnOk Pz 147 ⟨[.ty (.sl u32),.ty i64],[(.int .u64)],fun x => ref1_at x.1 x.2⟩ := fkd t110 rn hN Tryz.func147 [] lnil
def t111 := t110.d ok147
def lp143_0 : LoopD := Lz [.slot 8 u32] [Mm 5 (.sl u32),Mm 7 (.int .u64)] ⟨[Mi 9,.a u32],[(8,.cur 0 u32)],[.arr u32]⟩ [⟨.exit 0,⟨[.a u32],[(8,.cur 0 u32)],[.arr u32]⟩⟩] fun p s => ref1_Shift_R0 p.1 p.2 s
def lp143_2 : LoopD := Lz [] [Mm 5 (.sl u32),Mm 11 (.int .u64)] ⟨[Mm 12 (.int .u64),Mi 13,.a u32],[(10,.cur 0 u32)],[.arr u32]⟩ [⟨.exit 2,⟨[.a u32],[(10,.cur 0 u32)],[.arr u32]⟩⟩] fun p s => ref1_Shift_R1 p.1 p.2 s
def h143 : Hints := Hz [(0,lp143_0),(2,lp143_2)] [] [(14,[8]),(24,[10])]
theorem lo143_0 : LO Tryz.f143 lp143_0 0 := lk t111 rn h143 [] lnil
theorem lo143_2 : LO Tryz.f143 lp143_2 2 := lk t111 rn h143 [] lnil
theorem ok143 : FnOk Pz 143 ⟨[.ty (.sl u32),.ty i64],[(.sl u32)],fun x => ref1_Shift x.1 x.2⟩ := fkd t111 rn h143 Tryz.func143 [0,2] (lcons rfl lo143_0 (lcons rfl lo143_2 lnil))
def t112 := t111.d ok143
def lp144_0 : LoopD := Lz [.slot 5 u32] [Mm 0 (.sl u32),Mm 1 (.sl u32)] ⟨[Mm 6 (.int .u64),Mi 7,.a u32],[(5,.cur 0 u32)],[.arr u32]⟩ [⟨.exit 0,⟨[.a u32],[(5,.cur 0 u32)],[.arr u32]⟩⟩] fun p s => ref1_Add_R0 p.1 p.2 s
def h144 : Hints := Hz [(0,lp144_0)] [] [(9,[5])]
theorem lo144_0 : LO Tryz.f144 lp144_0 0 := lk t112 rn h144 [] lnil
theorem ok144 : FnOk Pz 144 ⟨[.ty (.sl u32),.ty (.sl u32)],[(.sl u32)],fun x => ref1_Add x.1 x.2⟩ := fkd t112 rn h144 Tryz.func144 [0] (lcons rfl lo144_0 lnil)
def t113 := t112.d ok144
def lp145_0 : LoopD := Lz [] [Mm 5 (.sl u32),Mm 6 (.sl u32)] ⟨[Mi 7],[],[]⟩ [⟨.exit 0,⟨[],[],[]⟩⟩,⟨.ret,⟨[Mi 4],[],[]⟩⟩] fun p s => ref1_Cmp_R0 p.1 p.2 s
def h145 : Hints := Hz [(0,lp145_0)] [] []
theorem lo145_0 : LO Tryz.f145 lp145_0 0 := lk t113 rn h145 [] lnil
theorem ok145 : FnOk Pz 145 ⟨[.ty (.sl u32),.ty (.sl u32)],[i64],fun x => ref1_Cmp x.1 x.2⟩ := fkd t113 rn h145 Tryz.func145 [0] (lcons rfl lo145_0 lnil)
def t114 := t113.d ok145
def lp146_0 : LoopD := Lz [.slot 6 u32] [Mm 0 (.sl u32),Mm 1 (.sl u32)] ⟨[Mm 7 (.int .u64),Mi 8,.a u32],[(6,.cur 0 u32)],[.arr u32]⟩ [⟨.exit 0,⟨[.a u32],[(6,.cur 0 u32)],[.arr u32]⟩⟩] fun p s => ref1_Sub_R0 p.1 p.2 s
def h146 : Hints := Hz [(0,lp146_0)] [(3,10,.flat [Mm 7 (.int .u64),Mm 9 (.int .u64)])] [(14,[6])]
theorem lo146_0 : LO Tryz.f146 lp146_0 0 := lk t114 rn h146 [] lnil
theorem ok146 : FnOk Pz 146 ⟨[.ty (.sl u32),.ty (.sl u32)],[(.sl u32),.bool],fun x => ref1_Sub x.1 x.2⟩ := fkd t114 rn h146 Tryz.func146 [0] (lcons rfl lo146_0 lnil)
def t115 := t114.d ok146
def lp126_0 : LoopD := Lz [] [Mm 0 (.sl u32),Mm 1 (.sl u32)] ⟨[Mm 14 (.sl u32),Mi 15,.a u32],[(13,.cur 0 u32)],[.arr u32]⟩ [⟨.exit 0,⟨[Mm 14 (.sl u32),.a u32],[(13,.cur 0 u32)],[.arr u32]⟩⟩] fun p s => ref1_DivMod_R0 p.1 p.2 s
def h126 : Hints := Hz [(0,lp126_0)] [(0,5,.flat [Mb 33]),(0,7,.flat [Mb 46]),(3,16,.ways [⟨.normal,⟨[Mm 14 (.sl u32),.a u32],[(13,.cur 0 u32)],[.arr u32]⟩⟩])] [(21,[13])]
theorem lo126_0 : LO Tryz.f126 lp126_0 0 := lk t115 rn h126 [] lnil
theorem ok126 : FnOk Pz 126 ⟨[.ty (.sl u32),.ty (.sl u32)],[(.sl u32),(.sl u32),.bool],fun x => ref1_DivMod x.1 x.2⟩ := fkd t115 rn h126 Tryz.func126 [0] (lcons rfl lo126_0 lnil)
def t116 := t115.d ok126
def lp125_0 : LoopD := Lz [] [] ⟨[Mm 5 (.sl u32),Mm 6 (.sl u32)],[],[]⟩ [⟨.exit 0,⟨[Mm 5 (.sl u32)],[],[]⟩⟩] fun p s => ref1_Gcd_R0  s
def h125 : Hints := Hz [(0,lp125_0)] [] []
theorem lo125_0 : LO Tryz.f125 lp125_0 0 := lk t116 rn h125 [] lnil
theorem ok125 : FnOk Pz 125 ⟨[.ty (.sl u32),.ty (.sl u32)],[(.sl u32)],fun x => ref1_Gcd x.1 x.2⟩ := fkd t116 rn h125 Tryz.func125 [0] (lcons rfl lo125_0 lnil)
def t117 := t116.d ok125
def h105 : Hints := Hz [] [(0,2,.flat [Mb 19])] []
theorem ok105 : FnOk Pz 105 ⟨[.ty tyRat],[tyRat],fun x => ref2_Norm x⟩ := fkd t117 (rz [1]) h105 Tryz.func105 [] lnil
def t118 := t117.d ok105
def lp106_0 : LoopD := Lz [] [Mm 0 (.sl u32),Mm 1 (.sl u32)] ⟨[Mi 5],[],[]⟩ [⟨.exit 0,⟨[],[],[]⟩⟩,⟨.ret,⟨[Mb 4],[],[]⟩⟩] fun p s => ref2_limbs_R0 p.1 p.2 s
def h106 : Hints := Hz [(0,lp106_0)] [] []
theorem lo106_0 : LO Tryz.f106 lp106_0 0 := lk t118 rn h106 [] lnil
theorem ok106 : FnOk Pz 106 ⟨[.ty (.sl u32),.ty (.sl u32)],[.bool],fun x => ref2_limbs x.1 x.2⟩ := fkd t118 rn h106 Tryz.func106 [0] (lcons rfl lo106_0 lnil)
def t119 := t118.d ok106
theorem ok80 : FnOk Pz 80 ⟨[.ty tyRat],[.bool],fun x => ref2_Is x⟩ := fkd t119 (rz [1]) hN Tryz.func80 [] lnil
def t120 := t119.d ok80
def h81 : Hints := Hz [] [(0,2,.flat [Mb 2])] []
theorem ok81 : FnOk Pz 81 ⟨[.ty tyRat],[.bool],fun x => ref2_Large x⟩ := fkd t120 (rz [1]) h81 Tryz.func81 [] lnil
def t121 := t120.d ok81
theorem ok44 : FnOk Pz 44 ⟨[.ty tyRat],[.bool],fun x => ref2_Good x⟩ := fkd t121 (rz [1]) hN Tryz.func44 [] lnil
def t122 := t121.d ok44
theorem ok45 : FnOk Pz 45 ⟨[.ty .str],[.bool],fun x => ref6_guard x⟩ := fkd t122 rn hN Tryz.func45 [] lnil
def t123 := t122.d ok45
def lp127_2 : LoopD := Lz [] [Mm 0 (.sl u32),Mm 1 (.sl u32),Mi 6] ⟨[Mm 7 (.int .u64),Mi 8,.a u32],[(5,.cur 0 u32)],[.arr u32]⟩ [⟨.exit 2,⟨[.a u32],[(5,.cur 0 u32)],[.arr u32]⟩⟩] fun p s => ref1_Mul_R1 p.1 p.2.1 p.2.2 s
def lp127_0 : LoopD := Lz [] [Mm 0 (.sl u32),Mm 1 (.sl u32)] ⟨[Mi 6,.a u32],[(5,.cur 0 u32)],[.arr u32]⟩ [⟨.exit 0,⟨[.a u32],[(5,.cur 0 u32)],[.arr u32]⟩⟩] fun p s => ref1_Mul_R0 p.1 p.2 s
def h127 : Hints := Hz [(2,lp127_2),(0,lp127_0)] [(0,7,.flat [Mb 28])] [(13,[5])]
theorem lo127_2 : LO Tryz.f127 lp127_2 2 := lk t123 rn h127 [] lnil
theorem lo127_0 : LO Tryz.f127 lp127_0 0 := lk t123 rn h127 [2] (lcons rfl lo127_2 lnil)
theorem ok127 : FnOk Pz 127 ⟨[.ty (.sl u32),.ty (.sl u32)],[(.sl u32)],fun x => ref1_Mul x.1 x.2⟩ := fkd t123 rn h127 Tryz.func127 [0] (lcons rfl lo127_0 lnil)
def t124 := t123.d ok127
def lp110_0 : LoopD := Lz [] [] ⟨[Mm 3 (.sl u32),Ms 4],[],[]⟩ [⟨.exit 0,⟨[Ms 4],[],[]⟩⟩] fun p s => ref1_Print_R0  s
def h110 : Hints := Hz [(0,lp110_0)] [] []
theorem lo110_0 : LO Tryz.f110 lp110_0 0 := lk t124 rn h110 [] lnil
theorem ok110 : FnOk Pz 110 ⟨[.ty (.sl u32)],[.str],fun x => ref1_Print x⟩ := fkd t124 rn h110 Tryz.func110 [0] (lcons rfl lo110_0 lnil)
def t125 := t124.d ok110
def lp148_0 : LoopD := Lz [] [Mi 1] ⟨[Ms 5],[],[]⟩ [⟨.exit 0,⟨[Ms 5],[],[]⟩⟩] fun p s => ref3_digits_R0 p s
def h148 : Hints := Hz [(0,lp148_0)] [] []
theorem lo148_0 : LO Tryz.f148 lp148_0 0 := lk t125 rn h148 [] lnil
theorem ok148 : FnOk Pz 148 ⟨[.ty (.sl u32),.ty i64],[.str],fun x => ref3_digits x.1 x.2⟩ := fkd t125 rn h148 Tryz.func148 [0] (lcons rfl lo148_0 lnil)
def t126 := t125.d ok148
theorem ok109 : FnOk Pz 109 ⟨[.ty .bool],[.str],fun x => ref3_sign x⟩ := fkd t126 rn hN Tryz.func109 [] lnil
def t127 := t126.d ok109
def h128 : Hints := Hz [] [(3,2,.flat [Ms 7])] []
theorem ok128 : FnOk Pz 128 ⟨[.ty .bool,.ty (.sl u32),.ty i64],[.str],fun x => ref3_point x.1 x.2.1 x.2.2⟩ := fkd t127 rn h128 Tryz.func128 [] lnil
def t128 := t127.d ok128
def lp107_0 : LoopD := Lz [] [] ⟨[Mm 5 (.sl u32),Mi 6,.v (.imm tyRat)],[(4,.ptr 0 0)],[.var (.imm tyRat)]⟩ [⟨.exit 0,⟨[.v (.imm tyRat)],[],[.var (.imm tyRat)]⟩⟩,⟨.ret,⟨[Ms 2,Mb 3,.v (.imm tyRat)],[],[.var (.imm tyRat)]⟩⟩] fun p s => ref3_Exact_R0  s
def h107 : Hints := Hz [(0,lp107_0)] [] []
theorem lo107_0 : LO Tryz.f107 lp107_0 0 := lk t128 (rz [1]) h107 [] lnil
theorem ok107 : FnOk Pz 107 ⟨[.ty tyRat],[.str,.bool],fun x => ref3_Exact x⟩ := fkd t128 (rz [1]) h107 Tryz.func107 [0] (lcons rfl lo107_0 lnil)
def t129 := t128.d ok107
theorem ok108 : FnOk Pz 108 ⟨[.ty tyRat],[.bool],fun x => ref5_blank x⟩ := fkd t129 (rz [1]) hN Tryz.func108 [] lnil
def t130 := t129.d ok108
abbrev Y82 := denPs [.ty .expr,.ty i64] → T (Tup [.bool])
abbrev H82 (F : Y82) := FnOk Pz 82 ⟨[.ty .expr,.ty i64],[.bool],F⟩
def T82 (F_82 : Y82) (h_82 : H82 F_82) : Tb := t130.d h_82
def lp82_1 (F_82 : Y82) : LoopD := Lz [] [Mi 1,Mr 2 .expr,Mi 5] ⟨[Mi 8],[],[]⟩ [⟨.exit 1,⟨[],[],[]⟩⟩,⟨.ret,⟨[Mb 4],[],[]⟩⟩] fun p s => ref5_one_R0 (fun y0 y1 => F_82 (y0,y1)) p.1 p.2.1 p.2.2 s
def h82 (F_82 : Y82) : Hints := Hz [(1,lp82_1 F_82)] [(3,4,.ways [⟨.normal,⟨[Mi 5],[],[]⟩⟩,⟨.ret,⟨[Mb 4],[],[]⟩⟩]),(0,17,.ways [⟨.normal,⟨[Mb 82],[],[]⟩⟩])] []
theorem lo82_1 (F_82 : Y82) (h_82 : H82 F_82) : LO Tryz.f82 (lp82_1 F_82) 1 := lk (T82 F_82 h_82) (rz [2]) (h82 F_82) [] lnil
theorem ok82_B (F_82 : Y82) (h_82 : H82 F_82) : FnOk Pz 82 ⟨[.ty .expr,.ty i64],[.bool],fun x => ref5_one_B (fun y0 y1 => F_82 (y0,y1)) x.1 x.2⟩ := fkd (T82 F_82 h_82) (rz [2]) (h82 F_82) Tryz.func82 [1] (lcons rfl (lo82_1 F_82 h_82) lnil)
theorem ok82 : FnOk Pz 82 ⟨[.ty .expr,.ty i64],[.bool],fun x => ref5_one x.1 x.2⟩ := fn_fix (fun F_82 x => ref5_one_B (fun y0 y1 => F_82 (y0,y1)) x.1 x.2) (fun x => rfl) (fun F_82 h_82 => ok82_B F_82 h_82)
def t131 := t130.d ok82
abbrev Y83 := denPs [.ty .expr] → T (Tup [i64])
abbrev H83 (F : Y83) := FnOk Pz 83 ⟨[.ty .expr],[i64],F⟩
def T83 (F_83 : Y83) (h_83 : H83 F_83) : Tb := t131.d h_83
def lp83_0 (F_83 : Y83) : LoopD := Lz [] [Mr 1 .expr] ⟨[Mi 3,Mi 4],[],[]⟩ [⟨.exit 0,⟨[Mi 3],[],[]⟩⟩] fun p s => ref5_Nodes_R0 (fun y0 => F_83 (y0)) p s
def h83 (F_83 : Y83) : Hints := Hz [(0,lp83_0 F_83)] [] []
theorem lo83_0 (F_83 : Y83) (h_83 : H83 F_83) : LO Tryz.f83 (lp83_0 F_83) 0 := lk (T83 F_83 h_83) (rz [1]) (h83 F_83) [] lnil
theorem ok83_B (F_83 : Y83) (h_83 : H83 F_83) : FnOk Pz 83 ⟨[.ty .expr],[i64],fun x => ref5_Nodes_B (fun y0 => F_83 (y0)) x⟩ := fkd (T83 F_83 h_83) (rz [1]) (h83 F_83) Tryz.func83 [0] (lcons rfl (lo83_0 F_83 h_83) lnil)
theorem ok83 : FnOk Pz 83 ⟨[.ty .expr],[i64],fun x => ref5_Nodes x⟩ := fn_fix (fun F_83 x => ref5_Nodes_B (fun y0 => F_83 (y0)) x) (fun x => rfl) (fun F_83 h_83 => ok83_B F_83 h_83)
def t132 := t131.d ok83
theorem ok46 : FnOk Pz 46 ⟨[.ty .expr],[.bool],fun x => ref5_Is x⟩ := fkd t132 (rz [1]) hN Tryz.func46 [] lnil
def t133 := t132.d ok46
def lp47_0 : LoopD := Lz [] [Mr 1 tyForm] ⟨[Mi 3,Mi 4],[],[]⟩ [⟨.exit 0,⟨[],[],[]⟩⟩,⟨.ret,⟨[Mb 2],[],[]⟩⟩] fun p s => ref6_pages_R0 p s
def lp47_2 : LoopD := Lz [] [Mr 1 tyForm] ⟨[Mi 3,Mi 6],[],[]⟩ [⟨.exit 2,⟨[],[],[]⟩⟩,⟨.ret,⟨[Mb 2],[],[]⟩⟩] fun p s => ref6_pages_R1 p s
def h47 : Hints := Hz [(0,lp47_0),(2,lp47_2)] [(0,6,.ways [⟨.normal,⟨[Mb 47,.v (.imm tyField)],[],[.var (.imm tyField)]⟩⟩]),(0,14,.ways [⟨.normal,⟨[Mb 101,.v (.imm tyCheck)],[],[.var (.imm tyCheck)]⟩⟩])] []
theorem lo47_0 : LO Tryz.f47 lp47_0 0 := lk t133 (rz [1]) h47 [] lnil
theorem lo47_2 : LO Tryz.f47 lp47_2 2 := lk t133 (rz [1]) h47 [] lnil
theorem ok47 : FnOk Pz 47 ⟨[.ty tyForm],[.bool],fun x => ref6_pages x⟩ := fkd t133 (rz [1]) h47 Tryz.func47 [0,2] (lcons rfl lo47_0 (lcons rfl lo47_2 lnil))
def t134 := t133.d ok47
def h84 : Hints := Hz [] [(0,3,.flat [Mb 24])] []
theorem ok84 : FnOk Pz 84 ⟨[.ty tyRat],[.str],fun x => ref3_Print x⟩ := fkd t134 (rz [1]) h84 Tryz.func84 [] lnil
def t135 := t134.d ok84
theorem ok85 : FnOk Pz 85 ⟨[.ty .str],[.str],fun x => ref6_when x⟩ := fkd t135 rn hN Tryz.func85 [] lnil
def t136 := t135.d ok85
def h86 : Hints := Hz [] [(3,2,.flat [Ms 3])] []
theorem ok86 : FnOk Pz 86 ⟨[.ty tyField],[.str],fun x => ref6_field x⟩ := fkd t136 (rz [1]) h86 Tryz.func86 [] lnil
def t137 := t136.d ok86
def h130 : Hints := Hz [] [(3,2,.flat [Mb 4]),(3,5,.flat [Mb 7])] []
theorem ok130 : FnOk Pz 130 ⟨[.ty i64],[i64],fun x => ref5_row x⟩ := fkd t137 rn h130 Tryz.func130 [] lnil
def t138 := t137.d ok130
abbrev Y111 := denPs [.ty .expr,.ty i64] → T (Tup [.str])
abbrev H111 (F : Y111) := FnOk Pz 111 ⟨[.ty .expr,.ty i64],[.str],F⟩
def h111 (F_111 : Y111) : Hints := Hz [] [(3,2,.ways [⟨.normal,⟨[Ms 5],[],[]⟩⟩])] []
theorem ok111_B (F_111 : Y111) (h_111 : H111 F_111) : FnOk Pz 111 ⟨[.ty .expr,.ty i64],[.str],fun x => ref5_text_B (fun y0 y1 => F_111 (y0,y1)) x.1 x.2⟩ := fkd (t138.d h_111) (rz [2]) (h111 F_111) Tryz.func111 [] lnil
theorem ok111 : FnOk Pz 111 ⟨[.ty .expr,.ty i64],[.str],fun x => ref5_text x.1 x.2⟩ := fn_fix (fun F_111 x => ref5_text_B (fun y0 y1 => F_111 (y0,y1)) x.1 x.2) (fun x => rfl) (fun F_111 h_111 => ok111_B F_111 h_111)
def t139 := t138.d ok111
theorem ok87 : FnOk Pz 87 ⟨[.ty .expr],[.str],fun x => ref5_Print x⟩ := fkd t139 (rz [1]) hN Tryz.func87 [] lnil
def t140 := t139.d ok87
theorem ok88 : FnOk Pz 88 ⟨[.ty i64],[.str],fun x => ref6_Cmp x⟩ := fkd t140 rn hN Tryz.func88 [] lnil
def t141 := t140.d ok88
theorem ok89 : FnOk Pz 89 ⟨[.ty i64],[.str],fun x => ref6_Strength x⟩ := fkd t141 rn hN Tryz.func89 [] lnil
def t142 := t141.d ok89
def lp48_0 : LoopD := Lz [] [Mr 1 tyForm] ⟨[Ms 3,Mi 4],[],[]⟩ [⟨.exit 0,⟨[Ms 3],[],[]⟩⟩] fun p s => ref6_text_R0 p s
def lp48_2 : LoopD := Lz [] [Mr 1 tyForm] ⟨[Ms 3,Mi 6],[],[]⟩ [⟨.exit 2,⟨[Ms 3],[],[]⟩⟩] fun p s => ref6_text_R1 p s
def lp48_6 : LoopD := Lz [] [Mr 1 tyForm,Mi 7] ⟨[Ms 3,Mi 8],[],[]⟩ [⟨.exit 6,⟨[Ms 3],[],[]⟩⟩] fun p s => ref6_text_R3 p.1 p.2 s
def lp48_8 : LoopD := Lz [] [Mr 1 tyForm,Mi 7] ⟨[Ms 3,Mi 9],[],[]⟩ [⟨.exit 8,⟨[Ms 3],[],[]⟩⟩] fun p s => ref6_text_R4 p.1 p.2 s
def lp48_4 : LoopD := Lz [] [Mr 1 tyForm] ⟨[Ms 3,Mi 7],[],[]⟩ [⟨.exit 4,⟨[Ms 3],[],[]⟩⟩] fun p s => ref6_text_R2 p s
def lp48_10 : LoopD := Lz [] [Mr 1 tyForm] ⟨[Ms 3,Mi 11],[],[]⟩ [⟨.exit 10,⟨[Ms 3],[],[]⟩⟩] fun p s => ref6_text_R5 p s
def h48 : Hints := Hz [(0,lp48_0),(2,lp48_2),(6,lp48_6),(8,lp48_8),(4,lp48_4),(10,lp48_10)] [(3,6,.flat [Ms 5])] []
theorem lo48_0 : LO Tryz.f48 lp48_0 0 := lk t142 (rz [1]) h48 [] lnil
theorem lo48_2 : LO Tryz.f48 lp48_2 2 := lk t142 (rz [1]) h48 [] lnil
theorem lo48_6 : LO Tryz.f48 lp48_6 6 := lk t142 (rz [1]) h48 [] lnil
theorem lo48_8 : LO Tryz.f48 lp48_8 8 := lk t142 (rz [1]) h48 [] lnil
theorem lo48_4 : LO Tryz.f48 lp48_4 4 := lk t142 (rz [1]) h48 [6,8] (lcons rfl lo48_6 (lcons rfl lo48_8 lnil))
theorem lo48_10 : LO Tryz.f48 lp48_10 10 := lk t142 (rz [1]) h48 [] lnil
theorem ok48 : FnOk Pz 48 ⟨[.ty tyForm],[.str],fun x => ref6_text x⟩ := fkd t142 (rz [1]) h48 Tryz.func48 [0,2,4,10] (lcons rfl lo48_0 (lcons rfl lo48_2 (lcons rfl lo48_4 (lcons rfl lo48_10 lnil))))
def t143 := t142.d ok48
def lp19_0 : LoopD := Lz [] [Mr 1 tyForm] ⟨[Mi 3],[],[]⟩ [⟨.exit 0,⟨[],[],[]⟩⟩,⟨.ret,⟨[Mb 2],[],[]⟩⟩] fun p s => ref6_Is_R0 p s
def lp19_2 : LoopD := Lz [] [Mr 1 tyForm] ⟨[Mi 4],[],[]⟩ [⟨.exit 2,⟨[],[],[]⟩⟩,⟨.ret,⟨[Mb 2],[],[]⟩⟩] fun p s => ref6_Is_R1 p s
def lp19_4 : LoopD := Lz [] [Mr 1 tyForm] ⟨[Mi 5],[],[]⟩ [⟨.exit 4,⟨[],[],[]⟩⟩,⟨.ret,⟨[Mb 2],[],[]⟩⟩] fun p s => ref6_Is_R2 p s
def lp19_6 : LoopD := Lz [] [Mr 1 tyForm] ⟨[Mi 6],[],[]⟩ [⟨.exit 6,⟨[],[],[]⟩⟩,⟨.ret,⟨[Mb 2],[],[]⟩⟩] fun p s => ref6_Is_R3 p s
def h19 : Hints := Hz [(0,lp19_0),(2,lp19_2),(4,lp19_4),(6,lp19_6)] [(0,9,.ways [⟨.normal,⟨[Mb 47],[],[]⟩⟩]),(0,14,.ways [⟨.normal,⟨[Mb 72],[],[]⟩⟩]),(0,20,.ways [⟨.normal,⟨[Mb 116,.v (.imm tyRule)],[],[.var (.imm tyRule)]⟩⟩])] []
theorem lo19_0 : LO Tryz.f19 lp19_0 0 := lk t143 (rz [1]) h19 [] lnil
theorem lo19_2 : LO Tryz.f19 lp19_2 2 := lk t143 (rz [1]) h19 [] lnil
theorem lo19_4 : LO Tryz.f19 lp19_4 4 := lk t143 (rz [1]) h19 [] lnil
theorem lo19_6 : LO Tryz.f19 lp19_6 6 := lk t143 (rz [1]) h19 [] lnil
theorem ok19 : FnOk Pz 19 ⟨[.ty tyForm],[.bool],fun x => ref6_Is x⟩ := fkd t143 (rz [1]) h19 Tryz.func19 [0,2,4,6] (lcons rfl lo19_0 (lcons rfl lo19_2 (lcons rfl lo19_4 (lcons rfl lo19_6 lnil))))
def t144 := t143.d ok19
def lp9_0 : LoopD := Lz [.slot 3 .str] [Mr 1 tyForm] ⟨[Mi 4,.a .str],[(3,.cur 0 .str)],[.arr .str]⟩ [⟨.exit 0,⟨[.a .str],[(3,.cur 0 .str)],[.arr .str]⟩⟩] fun p s => ref7_Fields_R0 p s
def h9 : Hints := Hz [(0,lp9_0)] [] []
theorem lo9_0 : LO Tryz.f9 lp9_0 0 := lk t144 (rz [1]) h9 [] lnil
theorem ok9 : FnOk Pz 9 ⟨[.ty tyForm],[(.sl .str)],fun x => ref7_Fields x⟩ := fkd t144 (rz [1]) h9 Tryz.func9 [0] (lcons rfl lo9_0 lnil)
def t145 := t144.d ok9
def lp21_0 : LoopD := Lz [.slot 3 .str] [Mr 1 tyForm] ⟨[Mi 4,.a .str],[(3,.cur 0 .str)],[.arr .str]⟩ [⟨.exit 0,⟨[.a .str],[(3,.cur 0 .str)],[.arr .str]⟩⟩] fun p s => ref7_names_R0 p s
def lp21_2 : LoopD := Lz [] [Mr 1 tyForm] ⟨[Mi 5,.a .str],[(3,.cur 0 .str)],[.arr .str]⟩ [⟨.exit 2,⟨[.a .str],[(3,.cur 0 .str)],[.arr .str]⟩⟩] fun p s => ref7_names_R1 p s
def lp21_4 : LoopD := Lz [] [Mr 1 tyForm] ⟨[Mi 6,.a .str],[(3,.cur 0 .str)],[.arr .str]⟩ [⟨.exit 4,⟨[.a .str],[(3,.cur 0 .str)],[.arr .str]⟩⟩] fun p s => ref7_names_R2 p s
def lp21_6 : LoopD := Lz [] [Mr 1 tyForm] ⟨[Mi 7,.a .str],[(3,.cur 0 .str)],[.arr .str]⟩ [⟨.exit 6,⟨[.a .str],[(3,.cur 0 .str)],[.arr .str]⟩⟩] fun p s => ref7_names_R3 p s
def lp21_8 : LoopD := Lz [] [Mr 1 tyForm] ⟨[Mi 8,.a .str],[(3,.cur 0 .str)],[.arr .str]⟩ [⟨.exit 8,⟨[.a .str],[(3,.cur 0 .str)],[.arr .str]⟩⟩] fun p s => ref7_names_R4 p s
def h21 : Hints := Hz [(0,lp21_0),(2,lp21_2),(4,lp21_4),(6,lp21_6),(8,lp21_8)] [] []
theorem lo21_0 : LO Tryz.f21 lp21_0 0 := lk t145 (rz [1]) h21 [] lnil
theorem lo21_2 : LO Tryz.f21 lp21_2 2 := lk t145 (rz [1]) h21 [] lnil
theorem lo21_4 : LO Tryz.f21 lp21_4 4 := lk t145 (rz [1]) h21 [] lnil
theorem lo21_6 : LO Tryz.f21 lp21_6 6 := lk t145 (rz [1]) h21 [] lnil
theorem lo21_8 : LO Tryz.f21 lp21_8 8 := lk t145 (rz [1]) h21 [] lnil
theorem ok21 : FnOk Pz 21 ⟨[.ty tyForm],[(.sl .str)],fun x => ref7_names x⟩ := fkd t145 (rz [1]) h21 Tryz.func21 [0,2,4,6,8] (lcons rfl lo21_0 (lcons rfl lo21_2 (lcons rfl lo21_4 (lcons rfl lo21_6 (lcons rfl lo21_8 lnil)))))
def t146 := t145.d ok21
def lp10_0 : LoopD := Lz [] [Mm 0 (.sl .str),Ms 1] ⟨[Mi 5],[],[]⟩ [⟨.exit 0,⟨[],[],[]⟩⟩,⟨.ret,⟨[Mb 4],[],[]⟩⟩] fun p s => ref5_Has_R0 p.1 p.2 s
def h10 : Hints := Hz [(0,lp10_0)] [] []
theorem lo10_0 : LO Tryz.f10 lp10_0 0 := lk t146 rn h10 [] lnil
theorem ok10 : FnOk Pz 10 ⟨[.ty (.sl .str),.ty .str],[.bool],fun x => ref5_Has x.1 x.2⟩ := fkd t146 rn h10 Tryz.func10 [0] (lcons rfl lo10_0 lnil)
def t147 := t146.d ok10
def lp20_0 : LoopD := Lz [] [Mm 0 (.sl .str)] ⟨[Mi 3],[],[]⟩ [⟨.exit 0,⟨[],[],[]⟩⟩,⟨.ret,⟨[Ms 2],[],[]⟩⟩] fun p s => ref7_twice_R0 p s
def h20 : Hints := Hz [(0,lp20_0)] [] []
theorem lo20_0 : LO Tryz.f20 lp20_0 0 := lk t147 rn h20 [] lnil
theorem ok20 : FnOk Pz 20 ⟨[.ty (.sl .str)],[.str],fun x => ref7_twice x⟩ := fkd t147 rn h20 Tryz.func20 [0] (lcons rfl lo20_0 lnil)
def t148 := t147.d ok20
def lp22_0 : LoopD := Lz [.slot 3 .str] [Mr 1 tyForm] ⟨[Mi 4,.a .str],[(3,.cur 0 .str)],[.arr .str]⟩ [⟨.exit 0,⟨[.a .str],[(3,.cur 0 .str)],[.arr .str]⟩⟩] fun p s => ref7_guards_R0 p s
def lp22_2 : LoopD := Lz [] [Mr 1 tyForm] ⟨[Mi 5,.a .str],[(3,.cur 0 .str)],[.arr .str]⟩ [⟨.exit 2,⟨[.a .str],[(3,.cur 0 .str)],[.arr .str]⟩⟩,⟨.ret,⟨[Ms 2,.a .str],[],[.arr .str]⟩⟩] fun p s => ref7_guards_R1 p s
def lp22_4 : LoopD := Lz [] [Mr 1 tyForm] ⟨[Mi 6,.a .str],[(3,.cur 0 .str)],[.arr .str]⟩ [⟨.exit 4,⟨[.a .str],[],[.arr .str]⟩⟩,⟨.ret,⟨[Ms 2,.a .str],[],[.arr .str]⟩⟩] fun p s => ref7_guards_R2 p s
def h22 : Hints := Hz [(0,lp22_0),(2,lp22_2),(4,lp22_4)] [(0,9,.ways [⟨.normal,⟨[Mb 47,.a .str],[(3,.cur 0 .str)],[.arr .str]⟩⟩]),(0,14,.ways [⟨.normal,⟨[Mb 78,.a .str],[(3,.cur 0 .str)],[.arr .str]⟩⟩])] []
theorem lo22_0 : LO Tryz.f22 lp22_0 0 := lk t148 (rz [1]) h22 [] lnil
theorem lo22_2 : LO Tryz.f22 lp22_2 2 := lk t148 (rz [1]) h22 [] lnil
theorem lo22_4 : LO Tryz.f22 lp22_4 4 := lk t148 (rz [1]) h22 [] lnil
theorem ok22 : FnOk Pz 22 ⟨[.ty tyForm],[.str],fun x => ref7_guards x⟩ := fkd t148 (rz [1]) h22 Tryz.func22 [0,2,4] (lcons rfl lo22_0 (lcons rfl lo22_2 (lcons rfl lo22_4 lnil)))
def t149 := t148.d ok22
def lp24_0 : LoopD := Lz [.slot 3 .expr] [Mr 1 tyForm] ⟨[Mi 4,.a .expr],[(3,.cur 0 .expr)],[.arr .expr]⟩ [⟨.exit 0,⟨[.a .expr],[(3,.cur 0 .expr)],[.arr .expr]⟩⟩] fun p s => ref7_exprs_R0 p s
def lp24_2 : LoopD := Lz [] [Mr 1 tyForm] ⟨[Mi 5,.a .expr],[(3,.cur 0 .expr)],[.arr .expr]⟩ [⟨.exit 2,⟨[.a .expr],[(3,.cur 0 .expr)],[.arr .expr]⟩⟩] fun p s => ref7_exprs_R1 p s
def h24 : Hints := Hz [(0,lp24_0),(2,lp24_2)] [] []
theorem lo24_0 : LO Tryz.f24 lp24_0 0 := lk t149 (rz [1]) h24 [] lnil
theorem lo24_2 : LO Tryz.f24 lp24_2 2 := lk t149 (rz [1]) h24 [] lnil
theorem ok24 : FnOk Pz 24 ⟨[.ty tyForm],[(.sl .expr)],fun x => ref7_exprs x⟩ := fkd t149 (rz [1]) h24 Tryz.func24 [0,2] (lcons rfl lo24_0 (lcons rfl lo24_2 lnil))
def t150 := t149.d ok24
abbrev Y11 := denPs [.ty .expr] → T (Tup [(.sl .str)])
abbrev H11 (F : Y11) := FnOk Pz 11 ⟨[.ty .expr],[(.sl .str)],F⟩
def T11 (F_11 : Y11) (h_11 : H11 F_11) : Tb := t150.d h_11
def lp11_2 (F_11 : Y11) : LoopD := Lz [] [Mr 1 .expr,Mi 4,Mm 5 (.sl .str)] ⟨[Mi 6,.a .str],[(3,.cur 0 .str)],[.arr .str]⟩ [⟨.exit 2,⟨[.a .str],[(3,.cur 0 .str)],[.arr .str]⟩⟩] fun p s => ref5_Names_R1 (fun y0 => F_11 (y0)) p.1 p.2.1 p.2.2 s
def lp11_0 (F_11 : Y11) : LoopD := Lz [.slot 3 .str] [Mr 1 .expr] ⟨[Mi 4,.a .str],[(3,.cur 0 .str)],[.arr .str]⟩ [⟨.exit 0,⟨[.a .str],[(3,.cur 0 .str)],[.arr .str]⟩⟩] fun p s => ref5_Names_R0 (fun y0 => F_11 (y0)) p s
def h11 (F_11 : Y11) : Hints := Hz [(2,lp11_2 F_11),(0,lp11_0 F_11)] [] []
theorem lo11_2 (F_11 : Y11) (h_11 : H11 F_11) : LO Tryz.f11 (lp11_2 F_11) 2 := lk (T11 F_11 h_11) (rz [1]) (h11 F_11) [] lnil
theorem lo11_0 (F_11 : Y11) (h_11 : H11 F_11) : LO Tryz.f11 (lp11_0 F_11) 0 := lk (T11 F_11 h_11) (rz [1]) (h11 F_11) [2] (lcons rfl (lo11_2 F_11 h_11) lnil)
theorem ok11_B (F_11 : Y11) (h_11 : H11 F_11) : FnOk Pz 11 ⟨[.ty .expr],[(.sl .str)],fun x => ref5_Names_B (fun y0 => F_11 (y0)) x⟩ := fkd (T11 F_11 h_11) (rz [1]) (h11 F_11) Tryz.func11 [0] (lcons rfl (lo11_0 F_11 h_11) lnil)
theorem ok11 : FnOk Pz 11 ⟨[.ty .expr],[(.sl .str)],fun x => ref5_Names x⟩ := fn_fix (fun F_11 x => ref5_Names_B (fun y0 => F_11 (y0)) x) (fun x => rfl) (fun F_11 h_11 => ok11_B F_11 h_11)
def t151 := t150.d ok11
def lp23_2 : LoopD := Lz [] [Mm 0 (.sl .expr),Mm 1 (.sl .str),Mi 5,Mm 6 (.sl .str)] ⟨[Mi 7],[],[]⟩ [⟨.exit 2,⟨[],[],[]⟩⟩,⟨.ret,⟨[Ms 4],[],[]⟩⟩] fun p s => ref7_unknown_R1 p.1 p.2.1 p.2.2.1 p.2.2.2 s
def lp23_0 : LoopD := Lz [] [Mm 0 (.sl .expr),Mm 1 (.sl .str)] ⟨[Mi 5],[],[]⟩ [⟨.exit 0,⟨[],[],[]⟩⟩,⟨.ret,⟨[Ms 4],[],[]⟩⟩] fun p s => ref7_unknown_R0 p.1 p.2 s
def h23 : Hints := Hz [(2,lp23_2),(0,lp23_0)] [] []
theorem lo23_2 : LO Tryz.f23 lp23_2 2 := lk t151 rn h23 [] lnil
theorem lo23_0 : LO Tryz.f23 lp23_0 0 := lk t151 rn h23 [2] (lcons rfl lo23_2 lnil)
theorem ok23 : FnOk Pz 23 ⟨[.ty (.sl .expr),.ty (.sl .str)],[.str],fun x => ref7_unknown x.1 x.2⟩ := fkd t151 rn h23 Tryz.func23 [0] (lcons rfl lo23_0 lnil)
def t152 := t151.d ok23
def lp49_0 : LoopD := Lz [] [Mm 1 (.sl .str),Mm 5 (.sl .str)] ⟨[Mi 6],[],[]⟩ [⟨.exit 0,⟨[],[],[]⟩⟩,⟨.ret,⟨[Mb 4],[],[]⟩⟩] fun p s => ref7_Has_R0 p.1 p.2 s
def h49 : Hints := Hz [(0,lp49_0)] [] []
theorem lo49_0 : LO Tryz.f49 lp49_0 0 := lk t152 (rz [2]) h49 [] lnil
theorem ok49 : FnOk Pz 49 ⟨[.ty .expr,.ty (.sl .str)],[.bool],fun x => ref7_Has x.1 x.2⟩ := fkd t152 (rz [2]) h49 Tryz.func49 [0] (lcons rfl lo49_0 lnil)
def t153 := t152.d ok49
abbrev Y25 := denPs [.ty .expr,.ty (.sl .str)] → T (Tup [.bool])
abbrev H25 (F : Y25) := FnOk Pz 25 ⟨[.ty .expr,.ty (.sl .str)],[.bool],F⟩
def T25 (F_25 : Y25) (h_25 : H25 F_25) : Tb := t153.d h_25
def lp25_0 (F_25 : Y25) : LoopD := Lz [] [Mm 1 (.sl .str),Mr 2 .expr] ⟨[Mi 5],[],[]⟩ [⟨.exit 0,⟨[],[],[]⟩⟩,⟨.ret,⟨[Mb 4],[],[]⟩⟩] fun p s => ref7_Linear_R0 (fun y0 y1 => F_25 (y0,y1)) p.1 p.2 s
def h25 (F_25 : Y25) : Hints := Hz [(0,lp25_0 F_25)] [(0,6,.flat [Mb 21]),(0,8,.flat [Mb 47])] []
theorem lo25_0 (F_25 : Y25) (h_25 : H25 F_25) : LO Tryz.f25 (lp25_0 F_25) 0 := lk (T25 F_25 h_25) (rz [2]) (h25 F_25) [] lnil
theorem ok25_B (F_25 : Y25) (h_25 : H25 F_25) : FnOk Pz 25 ⟨[.ty .expr,.ty (.sl .str)],[.bool],fun x => ref7_Linear_B (fun y0 y1 => F_25 (y0,y1)) x.1 x.2⟩ := fkd (T25 F_25 h_25) (rz [2]) (h25 F_25) Tryz.func25 [0] (lcons rfl (lo25_0 F_25 h_25) lnil)
theorem ok25 : FnOk Pz 25 ⟨[.ty .expr,.ty (.sl .str)],[.bool],fun x => ref7_Linear x.1 x.2⟩ := fn_fix (fun F_25 x => ref7_Linear_B (fun y0 y1 => F_25 (y0,y1)) x.1 x.2) (fun x => rfl) (fun F_25 h_25 => ok25_B F_25 h_25)
def t154 := t153.d ok25
def lp7_0 : LoopD := Lz [] [Mr 1 tyForm,Mm 5 (.sl .str)] ⟨[Mi 7,.a .str],[(6,.cur 0 .str)],[.arr .str]⟩ [⟨.exit 0,⟨[.a .str],[(6,.cur 0 .str)],[.arr .str]⟩⟩] fun p s => ref7_Static_R0 p.1 p.2 s
def lp7_2 : LoopD := Lz [] [Mr 1 tyForm,Mm 5 (.sl .str)] ⟨[Mi 8],[],[]⟩ [⟨.exit 2,⟨[],[],[]⟩⟩,⟨.ret,⟨[Mi 2,Ms 3],[],[]⟩⟩] fun p s => ref7_Static_R1 p.1 p.2 s
def h7 : Hints := Hz [(0,lp7_0),(2,lp7_2)] [(0,3,.flat [Mb 21]),(3,6,.ways [⟨.normal,⟨[Ms 4],[],[]⟩⟩]),(3,9,.ways [⟨.normal,⟨[Ms 4],[],[]⟩⟩]),(0,21,.ways [⟨.normal,⟨[Mb 85],[],[]⟩⟩])] []
theorem lo7_0 : LO Tryz.f7 lp7_0 0 := lk t154 (rz [1]) h7 [] lnil
theorem lo7_2 : LO Tryz.f7 lp7_2 2 := lk t154 (rz [1]) h7 [] lnil
theorem ok7 : FnOk Pz 7 ⟨[.ty tyForm],[i64,.str],fun x => ref7_Static x⟩ := fkd t154 (rz [1]) h7 Tryz.func7 [0,2] (lcons rfl lo7_0 (lcons rfl lo7_2 lnil))
def t155 := t154.d ok7
theorem ok8 : FnOk Pz 8 ⟨[],[.bool],fun _ => law7_known⟩ := fkd t155 rn hN Tryz.func8 [] lnil
def t156 := t155.d ok8
def lp9_1_0 : LoopD := Lz [.slot 3 .str] [Mr 1 tyForm] ⟨[Mi 4,.a .str],[(3,.cur 0 .str)],[.arr .str]⟩ [⟨.exit 0,⟨[.a .str],[(3,.cur 0 .str)],[.arr .str]⟩⟩] fun p s => ref7_Fields_S_R0 p s
def h9_1 : Hints := Hz [(0,lp9_1_0)] [] []
theorem lo9_1_0 : LO Tryz.f9 lp9_1_0 0 := lk t156 (rz [1]) h9_1 [] lnil
theorem ok9_1 : FnSOk Pz 9 ⟨[.any],⟨[Mm 0 tyForm],[],[]⟩,[],⟨[.a .str],[(0,.cur 0 .str)],[.arr .str]⟩,1,fun x => ref7_Fields_S x⟩ := fks t156 (rz [1]) h9_1 Tryz.func9 [0] (lcons rfl lo9_1_0 lnil)
def t157 := t156.s ok9_1
def T11_1 : Tb := t157.d ok11
def lp11_1_2 : LoopD := Lz [] [Mr 1 .expr,Mi 4,Mm 5 (.sl .str)] ⟨[Mi 6,.a .str],[(3,.cur 0 .str)],[.arr .str]⟩ [⟨.exit 2,⟨[.a .str],[(3,.cur 0 .str)],[.arr .str]⟩⟩] fun p s => ref5_Names_S_R1 p.1 p.2.1 p.2.2 s
def lp11_1_0 : LoopD := Lz [.slot 3 .str] [Mr 1 .expr] ⟨[Mi 4,.a .str],[(3,.cur 0 .str)],[.arr .str]⟩ [⟨.exit 0,⟨[.a .str],[(3,.cur 0 .str)],[.arr .str]⟩⟩] fun p s => ref5_Names_S_R0 p s
def h11_1 : Hints := Hz [(2,lp11_1_2),(0,lp11_1_0)] [] []
theorem lo11_1_2 : LO Tryz.f11 lp11_1_2 2 := lk T11_1 (rz [1]) h11_1 [] lnil
theorem lo11_1_0 : LO Tryz.f11 lp11_1_0 0 := lk T11_1 (rz [1]) h11_1 [2] (lcons rfl lo11_1_2 lnil)
theorem ok11_1 : FnSOk Pz 11 ⟨[.any],⟨[Mm 0 .expr],[],[]⟩,[],⟨[.a .str],[(0,.cur 0 .str)],[.arr .str]⟩,1,fun x => ref5_Names_S x⟩ := fks T11_1 (rz [1]) h11_1 Tryz.func11 [0] (lcons rfl lo11_1_0 lnil)
def t158 := t157.s ok11_1
def T4 : Tb := (t158.s ok11_1).s ok9_1
def lp4_0 : LoopD := Lz [] [Mr 1 tyForm] ⟨[Mi 8,.a .str],[(7,.cur 0 .str)],[.arr .str]⟩ [⟨.exit 0,⟨[.a .str],[(7,.cur 0 .str)],[.arr .str]⟩⟩] fun p s => law7_CheckNames_R0 p s
def lp4_2 : LoopD := Lz [] [Mr 1 tyForm] ⟨[Mi 9,.a .str],[(7,.cur 0 .str)],[.arr .str]⟩ [⟨.exit 2,⟨[.a .str],[(7,.cur 0 .str)],[.arr .str]⟩⟩,⟨.ret,⟨[Mb 2,.a .str],[],[.arr .str]⟩⟩] fun p s => law7_CheckNames_R1 p s
def lp4_6 : LoopD := Lz [] [Mr 1 tyForm,Mi 10] ⟨[Mi 12,.a .str,.a .str,.a .str],[(7,.cur 0 .str),(11,.cur 1 .str)],[.arr .str,.arr .str,.arr .str]⟩ [⟨.exit 6,⟨[.a .str,.a .str,.a .str],[(7,.cur 0 .str)],[.arr .str,.arr .str,.arr .str]⟩⟩,⟨.ret,⟨[Mb 2,.a .str,.a .str,.a .str],[],[.arr .str,.arr .str,.arr .str]⟩⟩] fun p s => law7_CheckNames_R3 p.1 p.2 s
def lp4_4 : LoopD := Lz [] [Mr 1 tyForm] ⟨[Mi 10,.a .str],[(7,.cur 0 .str)],[.arr .str]⟩ [⟨.exit 4,⟨[.a .str],[],[.arr .str]⟩⟩,⟨.ret,⟨[Mb 2,.a .str],[],[.arr .str]⟩⟩] fun p s => law7_CheckNames_R2 p s
def h4 : Hints := Hz [(0,lp4_0),(2,lp4_2),(6,lp4_6),(4,lp4_4)] [] []
theorem lo4_0 : LO Tryz.f4 lp4_0 0 := lk T4 (rz [1]) h4 [] lnil
theorem lo4_2 : LO Tryz.f4 lp4_2 2 := lk T4 (rz [1]) h4 [] lnil
theorem lo4_6 : LO Tryz.f4 lp4_6 6 := lk T4 (rz [1]) h4 [] lnil
theorem lo4_4 : LO Tryz.f4 lp4_4 4 := lk T4 (rz [1]) h4 [6] (lcons rfl lo4_6 lnil)
theorem ok4 : FnOk Pz 4 ⟨[.ty tyForm],[.bool],fun x => law7_CheckNames x⟩ := fkd T4 (rz [1]) h4 Tryz.func4 [0,2,4] (lcons rfl lo4_0 (lcons rfl lo4_2 (lcons rfl lo4_4 lnil)))
def t159 := t158.d ok4
end Go.AM.Lf
