/-
  The walk, part 0: each function of the program is the tree that the lifted text says; printed by a program of ours.
-/
import Derived.Test.YtomlajjfoeopfaaProg
import Derived.KernelRfl
import Derived.Test.YtomlajjfoeopfaaAmD
import Derived.Test.YtomlajjfoeopfaaLf0
set_option linter.unusedVariables false
set_option maxRecDepth 100000
namespace Go.AM.Lf
open Go.Proofs
abbrev XID : Nat := 27
noncomputable def bodyOf (f : Func) : Code := match f.body with | some c => c | none => .skip
noncomputable def lb (k : Nat) (f : Func) : Code := match loopAt k (bodyOf f) with | some c => c | none => .skip
theorem mixed : Try.prog.follows .mixedOrders = true := by kernel_rfl
/-! 4: pantograph/pantographlaw7.weight -/
noncomputable def tab4 (F_4 : denPs [.ty .expr, .ty (.int .i64)] → T (Tup [(.int .i64)])) : Tab := [(4, .d ⟨[.ty .expr, .ty (.int .i64)], [(.int .i64)], F_4⟩)]
theorem tabOk4 (F_4 : denPs [.ty .expr, .ty (.int .i64)] → T (Tup [(.int .i64)])) (h_4 : FnOk Try.prog 4 ⟨[.ty .expr, .ty (.int .i64)], [(.int .i64)], F_4⟩) : TabOk Try.prog (tab4 F_4) := tabOk_cons h_4 (tabOk_nil _)
def ro4 : Nat → Bool := fun s => Nat.beq s 2
noncomputable def lp4_0 (F_4 : denPs [.ty .expr, .ty (.int .i64)] → T (Tup [(.int .i64)])) : LoopD := { gh := [], ps := [.s 2 (.rptr .expr)], sh := ⟨[.s 1 (.imm (.int .i64)), .s 5 (.imm (.int .i64))], [], []⟩, ws := [⟨.exit 0, ⟨[.s 1 (.imm (.int .i64))], [], []⟩⟩], F := fun p s => law7_weight_L0 (fun y0 y1 => F_4 (y0, y1)) p s }
noncomputable def h4 (F_4 : denPs [.ty .expr, .ty (.int .i64)] → T (Tup [(.int .i64)])) : Hints := { loop := fun id => bif Nat.beq id 0 then some (lp4_0 F_4) else none, cut := fun k r => bif Nat.beq k 0 && Nat.beq r 3 then some (.flat [.s 32 (.imm .bool)]) else none, frz := fun r => [] }
theorem lo4_0 (F_4 : denPs [.ty .expr, .ty (.int .i64)] → T (Tup [(.int .i64)])) (h_4 : FnOk Try.prog 4 ⟨[.ty .expr, .ty (.int .i64)], [(.int .i64)], F_4⟩) : LoopOkK Try.prog Try.f4.ntmps (lp4_0 F_4) (lb 0 Try.f4) :=
  loop_ok (xid := XID) (ro := ro4) (H := h4 F_4) mixed (tabOk4 F_4 h_4) (loops_of (L := []) (by kernel_rfl) (lnil)) (fun p s => law7_weight_R0 (fun y0 y1 => F_4 (y0, y1)) p s) (fun p s => by kernel_rfl) (fun p s => rfl)
theorem ok4_B (F_4 : denPs [.ty .expr, .ty (.int .i64)] → T (Tup [(.int .i64)])) (h_4 : FnOk Try.prog 4 ⟨[.ty .expr, .ty (.int .i64)], [(.int .i64)], F_4⟩) : FnOk Try.prog 4 ⟨[.ty .expr, .ty (.int .i64)], [(.int .i64)], fun x => law7_weight_B (fun y0 y1 => F_4 (y0, y1)) x.1 x.2⟩ :=
  fn_ok (xid := XID) (ro := ro4) (H := h4 F_4) (fn := Try.f4) (code := bodyOf Try.f4) mixed (tabOk4 F_4 h_4) Try.func4 rfl (by kernel_rfl) (loops_of (L := [(0, lb 0 Try.f4)]) (by kernel_rfl) (lcons rfl (lo4_0 F_4 h_4) (lnil))) (fun x => by kernel_rfl)
theorem ok4 : FnOk Try.prog 4 ⟨[.ty .expr, .ty (.int .i64)], [(.int .i64)], fun x => law7_weight x.1 x.2⟩ :=
  fn_fix (fun F_4 x => law7_weight_B (fun y0 y1 => F_4 (y0, y1)) x.1 x.2) (fun x => rfl) (fun F_4 h_4 => ok4_B F_4 h_4)
/-! 17: slices.Index[[]string,string] -/
noncomputable def tab17 : Tab := []
theorem tabOk17 : TabOk Try.prog (tab17) := tabOk_nil _
def ro17 : Nat → Bool := fun s => false
noncomputable def lp17_0 : LoopD := { gh := [], ps := [.s 0 (.imm (.sl .str)), .s 1 (.imm .str), .s 7 (.imm (.int .i64))], sh := ⟨[.s 8 (.imm (.int .i64))], [], []⟩, ws := [⟨.exit 0, ⟨[], [], []⟩⟩, ⟨.ret, ⟨[.s 4 (.imm (.int .i64))], [], []⟩⟩], F := fun p s => slices_Index_sl_string_L0 p.1 p.2.1 p.2.2 s }
noncomputable def h17 : Hints := { loop := fun id => bif Nat.beq id 0 then some (lp17_0) else none, cut := fun k r => none, frz := fun r => [] }
theorem lo17_0 : LoopOkK Try.prog Try.f17.ntmps (lp17_0) (lb 0 Try.f17) :=
  loop_ok (xid := XID) (ro := ro17) (H := h17) mixed (tabOk17) (loops_of (L := []) (by kernel_rfl) (lnil)) (fun p s => slices_Index_sl_string_R0 p.1 p.2.1 p.2.2 s) (fun p s => by kernel_rfl) (fun p s => rfl)
theorem ok17 : FnOk Try.prog 17 ⟨[.ty (.sl .str), .ty .str], [(.int .i64)], fun x => slices_Index_sl_string x.1 x.2⟩ :=
  fn_ok (xid := XID) (ro := ro17) (H := h17) (fn := Try.f17) (code := bodyOf Try.f17) mixed (tabOk17) Try.func17 rfl (by kernel_rfl) (loops_of (L := [(0, lb 0 Try.f17)]) (by kernel_rfl) (lcons rfl (lo17_0) (lnil))) (fun x => by kernel_rfl)
/-! 13: slices.Contains[[]string,string] -/
noncomputable def tab13 : Tab := [(17, .d ⟨[.ty (.sl .str), .ty .str], [(.int .i64)], fun x => slices_Index_sl_string x.1 x.2⟩)]
theorem tabOk13 : TabOk Try.prog (tab13) := tabOk_cons ok17 (tabOk_nil _)
def ro13 : Nat → Bool := fun s => false
noncomputable def h13 : Hints := { loop := fun id => none, cut := fun k r => none, frz := fun r => [] }
theorem ok13 : FnOk Try.prog 13 ⟨[.ty (.sl .str), .ty .str], [.bool], fun x => slices_Contains_sl_string x.1 x.2⟩ :=
  fn_ok (xid := XID) (ro := ro13) (H := h13) (fn := Try.f13) (code := bodyOf Try.f13) mixed (tabOk13) Try.func13 rfl (by kernel_rfl) (loops_of (L := []) (by kernel_rfl) (lnil)) (fun x => by kernel_rfl)
/-! 16: pantograph/expr.names -/
noncomputable def tab16 (F_16 : Shp.den ⟨[.s 1 (.imm .expr), .a .str], [(0, .cur 0 .str)], [.arr .str]⟩ → T (Shp.den ⟨[.a .str], [(0, .cur 0 .str)], [.arr .str]⟩)) : Tab := [(16, .s ⟨[.cur, .any], ⟨[.s 1 (.imm .expr), .a .str], [(0, .cur 0 .str)], [.arr .str]⟩, [(0, .str)], ⟨[.a .str], [(0, .cur 0 .str)], [.arr .str]⟩, 1, F_16⟩), (13, .d ⟨[.ty (.sl .str), .ty .str], [.bool], fun x => slices_Contains_sl_string x.1 x.2⟩)]
theorem tabOk16 (F_16 : Shp.den ⟨[.s 1 (.imm .expr), .a .str], [(0, .cur 0 .str)], [.arr .str]⟩ → T (Shp.den ⟨[.a .str], [(0, .cur 0 .str)], [.arr .str]⟩)) (h_16 : FnSOk Try.prog 16 ⟨[.cur, .any], ⟨[.s 1 (.imm .expr), .a .str], [(0, .cur 0 .str)], [.arr .str]⟩, [(0, .str)], ⟨[.a .str], [(0, .cur 0 .str)], [.arr .str]⟩, 1, F_16⟩) : TabOk Try.prog (tab16 F_16) := tabOk_consS h_16 (tabOk_cons ok13 (tabOk_nil _))
def ro16 : Nat → Bool := fun s => Nat.beq s 3
noncomputable def lp16_0 (F_16 : Shp.den ⟨[.s 1 (.imm .expr), .a .str], [(0, .cur 0 .str)], [.arr .str]⟩ → T (Shp.den ⟨[.a .str], [(0, .cur 0 .str)], [.arr .str]⟩)) : LoopD := { gh := [], ps := [.s 23 (.imm (.sl .expr)), .s 24 (.imm (.int .i64))], sh := ⟨[.s 25 (.imm (.int .i64)), .a .str], [(0, .cur 0 .str)], [.arr .str]⟩, ws := [⟨.exit 0, ⟨[.a .str], [(0, .cur 0 .str)], [.arr .str]⟩⟩], F := fun p s => expr_names_L0 (fun y0 y1 => F_16 (y0, y1)) p.1 p.2 s }
noncomputable def h16 (F_16 : Shp.den ⟨[.s 1 (.imm .expr), .a .str], [(0, .cur 0 .str)], [.arr .str]⟩ → T (Shp.den ⟨[.a .str], [(0, .cur 0 .str)], [.arr .str]⟩)) : Hints := { loop := fun id => bif Nat.beq id 0 then some (lp16_0 F_16) else none, cut := fun k r => bif Nat.beq k 0 && Nat.beq r 1 then some (.ways [⟨.normal, ⟨[.s 16 (.imm .bool), .a .str], [(0, .cur 0 .str)], [.arr .str]⟩⟩]) else bif Nat.beq k 3 && Nat.beq r 1 then some (.ways [⟨.normal, ⟨[.a .str], [(0, .cur 0 .str)], [.arr .str]⟩⟩]) else none, frz := fun r => [] }
theorem lo16_0 (F_16 : Shp.den ⟨[.s 1 (.imm .expr), .a .str], [(0, .cur 0 .str)], [.arr .str]⟩ → T (Shp.den ⟨[.a .str], [(0, .cur 0 .str)], [.arr .str]⟩)) (h_16 : FnSOk Try.prog 16 ⟨[.cur, .any], ⟨[.s 1 (.imm .expr), .a .str], [(0, .cur 0 .str)], [.arr .str]⟩, [(0, .str)], ⟨[.a .str], [(0, .cur 0 .str)], [.arr .str]⟩, 1, F_16⟩) : LoopOkK Try.prog Try.f16.ntmps (lp16_0 F_16) (lb 0 Try.f16) :=
  loop_ok (xid := XID) (ro := ro16) (H := h16 F_16) mixed (tabOk16 F_16 h_16) (loops_of (L := []) (by kernel_rfl) (lnil)) (fun p s => expr_names_R0 (fun y0 y1 => F_16 (y0, y1)) p.1 p.2 s) (fun p s => by kernel_rfl) (fun p s => rfl)
theorem ok16_B (F_16 : Shp.den ⟨[.s 1 (.imm .expr), .a .str], [(0, .cur 0 .str)], [.arr .str]⟩ → T (Shp.den ⟨[.a .str], [(0, .cur 0 .str)], [.arr .str]⟩)) (h_16 : FnSOk Try.prog 16 ⟨[.cur, .any], ⟨[.s 1 (.imm .expr), .a .str], [(0, .cur 0 .str)], [.arr .str]⟩, [(0, .str)], ⟨[.a .str], [(0, .cur 0 .str)], [.arr .str]⟩, 1, F_16⟩) : FnSOk Try.prog 16 ⟨[.cur, .any], ⟨[.s 1 (.imm .expr), .a .str], [(0, .cur 0 .str)], [.arr .str]⟩, [(0, .str)], ⟨[.a .str], [(0, .cur 0 .str)], [.arr .str]⟩, 1, fun x => expr_names_S_B (fun y0 y1 => F_16 (y0, y1)) x.1 x.2⟩ :=
  fns_ok (xid := XID) (ro := ro16) (H := h16 F_16) (fn := Try.f16) (code := bodyOf Try.f16) mixed (tabOk16 F_16 h_16) Try.func16 rfl (by kernel_rfl) (loops_of (L := [(0, lb 0 Try.f16)]) (by kernel_rfl) (lcons rfl (lo16_0 F_16 h_16) (lnil))) (fun x => by kernel_rfl)
theorem ok16 : FnSOk Try.prog 16 ⟨[.cur, .any], ⟨[.s 1 (.imm .expr), .a .str], [(0, .cur 0 .str)], [.arr .str]⟩, [(0, .str)], ⟨[.a .str], [(0, .cur 0 .str)], [.arr .str]⟩, 1, fun x => expr_names_S x.1 x.2⟩ :=
  fns_fix (fun F_16 x => expr_names_S_B (fun y0 y1 => F_16 (y0, y1)) x.1 x.2) (fun x => rfl) (fun F_16 h_16 => ok16_B F_16 h_16)
/-! 11: pantograph/expr.Names -/
noncomputable def tab11 : Tab := [(16, .s ⟨[.cur, .any], ⟨[.s 1 (.imm .expr), .a .str], [(0, .cur 0 .str)], [.arr .str]⟩, [(0, .str)], ⟨[.a .str], [(0, .cur 0 .str)], [.arr .str]⟩, 1, fun x => expr_names_S x.1 x.2⟩)]
theorem tabOk11 : TabOk Try.prog (tab11) := tabOk_consS ok16 (tabOk_nil _)
def ro11 : Nat → Bool := fun s => Nat.beq s 1
noncomputable def h11 : Hints := { loop := fun id => none, cut := fun k r => none, frz := fun r => [] }
theorem ok11 : FnOk Try.prog 11 ⟨[.ty .expr], [(.sl .str)], fun x => expr_Names x⟩ :=
  fn_ok (xid := XID) (ro := ro11) (H := h11) (fn := Try.f11) (code := bodyOf Try.f11) mixed (tabOk11) Try.func11 rfl (by kernel_rfl) (loops_of (L := []) (by kernel_rfl) (lnil)) (fun x => by kernel_rfl)
/-! 12: pantograph/check.Has$1 -/
noncomputable def tab12 : Tab := [(13, .d ⟨[.ty (.sl .str), .ty .str], [.bool], fun x => slices_Contains_sl_string x.1 x.2⟩)]
theorem tabOk12 : TabOk Try.prog (tab12) := tabOk_cons ok13 (tabOk_nil _)
def ro12 : Nat → Bool := fun s => false
noncomputable def h12 : Hints := { loop := fun id => none, cut := fun k r => none, frz := fun r => [] }
theorem ok12 : FnOk Try.prog 12 ⟨[.ty .str, .rp (.sl .str)], [.bool], fun x => check_Has_f1 x.1 x.2⟩ :=
  fn_ok (xid := XID) (ro := ro12) (H := h12) (fn := Try.f12) (code := bodyOf Try.f12) mixed (tabOk12) Try.func12 rfl (by kernel_rfl) (loops_of (L := []) (by kernel_rfl) (lnil)) (fun x => by kernel_rfl)
/-! 15: slices.IndexFunc[[]string,string] -/
noncomputable def tab15 : Tab := [(12, .d ⟨[.ty .str, .rp (.sl .str)], [.bool], fun x => check_Has_f1 x.1 x.2⟩)]
theorem tabOk15 : TabOk Try.prog (tab15) := tabOk_cons ok12 (tabOk_nil _)
def ro15 : Nat → Bool := fun s => false
noncomputable def lp15_0 : LoopD := { gh := [], ps := [.s 0 (.imm (.sl .str)), .s 1 (.clo 12 [.rp (.sl .str)]), .s 7 (.imm (.int .i64))], sh := ⟨[.s 8 (.imm (.int .i64))], [], []⟩, ws := [⟨.exit 0, ⟨[], [], []⟩⟩, ⟨.ret, ⟨[.s 4 (.imm (.int .i64))], [], []⟩⟩], F := fun p s => slices_IndexFunc_sl_string_L0 p.1 (fun z0 => check_Has_f1 z0 p.2.1) p.2.2 s }
noncomputable def h15 : Hints := { loop := fun id => bif Nat.beq id 0 then some (lp15_0) else none, cut := fun k r => none, frz := fun r => [] }
theorem lo15_0 : LoopOkK Try.prog Try.f15.ntmps (lp15_0) (lb 0 Try.f15) :=
  loop_ok (xid := XID) (ro := ro15) (H := h15) mixed (tabOk15) (loops_of (L := []) (by kernel_rfl) (lnil)) (fun p s => slices_IndexFunc_sl_string_R0 p.1 (fun z0 => check_Has_f1 z0 p.2.1) p.2.2 s) (fun p s => by kernel_rfl) (fun p s => rfl)
theorem ok15 : FnOk Try.prog 15 ⟨[.ty (.sl .str), .clo 12 [.rp (.sl .str)]], [(.int .i64)], fun x => slices_IndexFunc_sl_string x.1 (fun z0 => check_Has_f1 z0 x.2)⟩ :=
  fn_ok (xid := XID) (ro := ro15) (H := h15) (fn := Try.f15) (code := bodyOf Try.f15) mixed (tabOk15) Try.func15 rfl (by kernel_rfl) (loops_of (L := [(0, lb 0 Try.f15)]) (by kernel_rfl) (lcons rfl (lo15_0) (lnil))) (fun x => by kernel_rfl)
/-! 10: slices.ContainsFunc[[]string,string] -/
noncomputable def tab10 : Tab := [(15, .d ⟨[.ty (.sl .str), .clo 12 [.rp (.sl .str)]], [(.int .i64)], fun x => slices_IndexFunc_sl_string x.1 (fun z0 => check_Has_f1 z0 x.2)⟩)]
theorem tabOk10 : TabOk Try.prog (tab10) := tabOk_cons ok15 (tabOk_nil _)
def ro10 : Nat → Bool := fun s => false
noncomputable def h10 : Hints := { loop := fun id => none, cut := fun k r => none, frz := fun r => [] }
theorem ok10 : FnOk Try.prog 10 ⟨[.ty (.sl .str), .clo 12 [.rp (.sl .str)]], [.bool], fun x => slices_ContainsFunc_sl_string x.1 (fun z0 => check_Has_f1 z0 x.2)⟩ :=
  fn_ok (xid := XID) (ro := ro10) (H := h10) (fn := Try.f10) (code := bodyOf Try.f10) mixed (tabOk10) Try.func10 rfl (by kernel_rfl) (loops_of (L := []) (by kernel_rfl) (lnil)) (fun x => by kernel_rfl)
/-! 7: pantograph/check.Has -/
noncomputable def tab7 : Tab := [(11, .d ⟨[.ty .expr], [(.sl .str)], fun x => expr_Names x⟩), (12, .d ⟨[.ty .str, .rp (.sl .str)], [.bool], fun x => check_Has_f1 x.1 x.2⟩), (10, .d ⟨[.ty (.sl .str), .clo 12 [.rp (.sl .str)]], [.bool], fun x => slices_ContainsFunc_sl_string x.1 (fun z0 => check_Has_f1 z0 x.2)⟩)]
theorem tabOk7 : TabOk Try.prog (tab7) := tabOk_cons ok11 (tabOk_cons ok12 (tabOk_cons ok10 (tabOk_nil _)))
def ro7 : Nat → Bool := fun s => Nat.beq s 2 || Nat.beq s 3
noncomputable def h7 : Hints := { loop := fun id => none, cut := fun k r => none, frz := fun r => [] }
theorem ok7 : FnOk Try.prog 7 ⟨[.ty .expr, .ty (.sl .str)], [.bool], fun x => check_Has x.1 x.2⟩ :=
  fn_ok (xid := XID) (ro := ro7) (H := h7) (fn := Try.f7) (code := bodyOf Try.f7) mixed (tabOk7) Try.func7 rfl (by kernel_rfl) (loops_of (L := []) (by kernel_rfl) (lnil)) (fun x => by kernel_rfl)
/-! 9: pantograph/check.Linear$1 -/
noncomputable def tab9 (F_5 : denPs [.ty .expr, .ty (.sl .str)] → T (Tup [.bool])) : Tab := [(5, .d ⟨[.ty .expr, .ty (.sl .str)], [.bool], F_5⟩)]
theorem tabOk9 (F_5 : denPs [.ty .expr, .ty (.sl .str)] → T (Tup [.bool])) (h_5 : FnOk Try.prog 5 ⟨[.ty .expr, .ty (.sl .str)], [.bool], F_5⟩) : TabOk Try.prog (tab9 F_5) := tabOk_cons h_5 (tabOk_nil _)
def ro9 : Nat → Bool := fun s => Nat.beq s 2
noncomputable def h9 (F_5 : denPs [.ty .expr, .ty (.sl .str)] → T (Tup [.bool])) : Hints := { loop := fun id => none, cut := fun k r => none, frz := fun r => [] }
theorem ok9 (F_5 : denPs [.ty .expr, .ty (.sl .str)] → T (Tup [.bool])) (h_5 : FnOk Try.prog 5 ⟨[.ty .expr, .ty (.sl .str)], [.bool], F_5⟩) : FnOk Try.prog 9 ⟨[.ty .expr, .rp (.sl .str)], [.bool], fun x => check_Linear_f1 (fun y0 y1 => F_5 (y0, y1)) x.1 x.2⟩ :=
  fn_ok (xid := XID) (ro := ro9) (H := h9 F_5) (fn := Try.f9) (code := bodyOf Try.f9) mixed (tabOk9 F_5 h_5) Try.func9 rfl (by kernel_rfl) (loops_of (L := []) (by kernel_rfl) (lnil)) (fun x => by kernel_rfl)
/-! 14: slices.IndexFunc[[]pantograph/api.Expr,pantograph/api.Expr] -/
noncomputable def tab14 (F_5 : denPs [.ty .expr, .ty (.sl .str)] → T (Tup [.bool])) : Tab := [(9, .d ⟨[.ty .expr, .rp (.sl .str)], [.bool], fun x => (check_Linear_f1 (fun y0 y1 => F_5 (y0, y1))) x.1 x.2⟩)]
theorem tabOk14 (F_5 : denPs [.ty .expr, .ty (.sl .str)] → T (Tup [.bool])) (h_5 : FnOk Try.prog 5 ⟨[.ty .expr, .ty (.sl .str)], [.bool], F_5⟩) : TabOk Try.prog (tab14 F_5) := tabOk_cons (ok9 _ h_5) (tabOk_nil _)
def ro14 : Nat → Bool := fun s => false
noncomputable def lp14_0 (F_5 : denPs [.ty .expr, .ty (.sl .str)] → T (Tup [.bool])) : LoopD := { gh := [], ps := [.s 0 (.imm (.sl .expr)), .s 1 (.clo 9 [.rp (.sl .str)]), .s 7 (.imm (.int .i64))], sh := ⟨[.s 8 (.imm (.int .i64))], [], []⟩, ws := [⟨.exit 0, ⟨[], [], []⟩⟩, ⟨.ret, ⟨[.s 4 (.imm (.int .i64))], [], []⟩⟩], F := fun p s => slices_IndexFunc_sl_Expr_L0 (fun y0 y1 => F_5 (y0, y1)) p.1 (fun z0 => (check_Linear_f1 (fun y0 y1 => F_5 (y0, y1))) z0 p.2.1) p.2.2 s }
noncomputable def h14 (F_5 : denPs [.ty .expr, .ty (.sl .str)] → T (Tup [.bool])) : Hints := { loop := fun id => bif Nat.beq id 0 then some (lp14_0 F_5) else none, cut := fun k r => none, frz := fun r => [] }
theorem lo14_0 (F_5 : denPs [.ty .expr, .ty (.sl .str)] → T (Tup [.bool])) (h_5 : FnOk Try.prog 5 ⟨[.ty .expr, .ty (.sl .str)], [.bool], F_5⟩) : LoopOkK Try.prog Try.f14.ntmps (lp14_0 F_5) (lb 0 Try.f14) :=
  loop_ok (xid := XID) (ro := ro14) (H := h14 F_5) mixed (tabOk14 F_5 h_5) (loops_of (L := []) (by kernel_rfl) (lnil)) (fun p s => slices_IndexFunc_sl_Expr_R0 (fun y0 y1 => F_5 (y0, y1)) p.1 (fun z0 => (check_Linear_f1 (fun y0 y1 => F_5 (y0, y1))) z0 p.2.1) p.2.2 s) (fun p s => by kernel_rfl) (fun p s => rfl)
theorem ok14 (F_5 : denPs [.ty .expr, .ty (.sl .str)] → T (Tup [.bool])) (h_5 : FnOk Try.prog 5 ⟨[.ty .expr, .ty (.sl .str)], [.bool], F_5⟩) : FnOk Try.prog 14 ⟨[.ty (.sl .expr), .clo 9 [.rp (.sl .str)]], [(.int .i64)], fun x => slices_IndexFunc_sl_Expr (fun y0 y1 => F_5 (y0, y1)) x.1 (fun z0 => (check_Linear_f1 (fun y0 y1 => F_5 (y0, y1))) z0 x.2)⟩ :=
  fn_ok (xid := XID) (ro := ro14) (H := h14 F_5) (fn := Try.f14) (code := bodyOf Try.f14) mixed (tabOk14 F_5 h_5) Try.func14 rfl (by kernel_rfl) (loops_of (L := [(0, lb 0 Try.f14)]) (by kernel_rfl) (lcons rfl (lo14_0 F_5 h_5) (lnil))) (fun x => by kernel_rfl)
/-! 8: slices.ContainsFunc[[]pantograph/api.Expr,pantograph/api.Expr] -/
noncomputable def tab8 (F_5 : denPs [.ty .expr, .ty (.sl .str)] → T (Tup [.bool])) : Tab := [(14, .d ⟨[.ty (.sl .expr), .clo 9 [.rp (.sl .str)]], [(.int .i64)], fun x => (slices_IndexFunc_sl_Expr (fun y0 y1 => F_5 (y0, y1))) x.1 (fun z0 => (check_Linear_f1 (fun y0 y1 => F_5 (y0, y1))) z0 x.2)⟩)]
theorem tabOk8 (F_5 : denPs [.ty .expr, .ty (.sl .str)] → T (Tup [.bool])) (h_5 : FnOk Try.prog 5 ⟨[.ty .expr, .ty (.sl .str)], [.bool], F_5⟩) : TabOk Try.prog (tab8 F_5) := tabOk_cons (ok14 _ h_5) (tabOk_nil _)
def ro8 : Nat → Bool := fun s => false
noncomputable def h8 (F_5 : denPs [.ty .expr, .ty (.sl .str)] → T (Tup [.bool])) : Hints := { loop := fun id => none, cut := fun k r => none, frz := fun r => [] }
theorem ok8 (F_5 : denPs [.ty .expr, .ty (.sl .str)] → T (Tup [.bool])) (h_5 : FnOk Try.prog 5 ⟨[.ty .expr, .ty (.sl .str)], [.bool], F_5⟩) : FnOk Try.prog 8 ⟨[.ty (.sl .expr), .clo 9 [.rp (.sl .str)]], [.bool], fun x => slices_ContainsFunc_sl_Expr (fun y0 y1 => F_5 (y0, y1)) x.1 (fun z0 => (check_Linear_f1 (fun y0 y1 => F_5 (y0, y1))) z0 x.2)⟩ :=
  fn_ok (xid := XID) (ro := ro8) (H := h8 F_5) (fn := Try.f8) (code := bodyOf Try.f8) mixed (tabOk8 F_5 h_5) Try.func8 rfl (by kernel_rfl) (loops_of (L := []) (by kernel_rfl) (lnil)) (fun x => by kernel_rfl)
/-! 5: pantograph/check.Linear -/
noncomputable def tab5 (F_5 : denPs [.ty .expr, .ty (.sl .str)] → T (Tup [.bool])) : Tab := [(7, .d ⟨[.ty .expr, .ty (.sl .str)], [.bool], fun x => check_Has x.1 x.2⟩), (9, .d ⟨[.ty .expr, .rp (.sl .str)], [.bool], fun x => (check_Linear_f1 (fun y0 y1 => F_5 (y0, y1))) x.1 x.2⟩), (8, .d ⟨[.ty (.sl .expr), .clo 9 [.rp (.sl .str)]], [.bool], fun x => (slices_ContainsFunc_sl_Expr (fun y0 y1 => F_5 (y0, y1))) x.1 (fun z0 => (check_Linear_f1 (fun y0 y1 => F_5 (y0, y1))) z0 x.2)⟩)]
theorem tabOk5 (F_5 : denPs [.ty .expr, .ty (.sl .str)] → T (Tup [.bool])) (h_5 : FnOk Try.prog 5 ⟨[.ty .expr, .ty (.sl .str)], [.bool], F_5⟩) : TabOk Try.prog (tab5 F_5) := tabOk_cons ok7 (tabOk_cons (ok9 _ h_5) (tabOk_cons (ok8 _ h_5) (tabOk_nil _)))
def ro5 : Nat → Bool := fun s => Nat.beq s 2 || Nat.beq s 3
noncomputable def h5 (F_5 : denPs [.ty .expr, .ty (.sl .str)] → T (Tup [.bool])) : Hints := { loop := fun id => none, cut := fun k r => bif Nat.beq k 0 && Nat.beq r 3 then some (.ways [⟨.normal, ⟨[.s 41 (.imm .bool), .v (.imm .expr), .v (.imm .expr)], [], [.var (.imm .expr), .var (.imm .expr)]⟩⟩]) else bif Nat.beq k 3 && Nat.beq r 1 then some (.ways [⟨.normal, ⟨[], [], []⟩⟩, ⟨.ret, ⟨[.s 4 (.imm .bool)], [], []⟩⟩]) else none, frz := fun r => [] }
theorem ok5_B (F_5 : denPs [.ty .expr, .ty (.sl .str)] → T (Tup [.bool])) (h_5 : FnOk Try.prog 5 ⟨[.ty .expr, .ty (.sl .str)], [.bool], F_5⟩) : FnOk Try.prog 5 ⟨[.ty .expr, .ty (.sl .str)], [.bool], fun x => check_Linear_B (fun y0 y1 => F_5 (y0, y1)) x.1 x.2⟩ :=
  fn_ok (xid := XID) (ro := ro5) (H := h5 F_5) (fn := Try.f5) (code := bodyOf Try.f5) mixed (tabOk5 F_5 h_5) Try.func5 rfl (by kernel_rfl) (loops_of (L := []) (by kernel_rfl) (lnil)) (fun x => by kernel_rfl)
theorem ok5 : FnOk Try.prog 5 ⟨[.ty .expr, .ty (.sl .str)], [.bool], fun x => check_Linear x.1 x.2⟩ :=
  fn_fix (fun F_5 x => check_Linear_B (fun y0 y1 => F_5 (y0, y1)) x.1 x.2) (fun x => rfl) (fun F_5 h_5 => ok5_B F_5 h_5)
/-! 6: pantograph/pantographlaw7.known -/
noncomputable def tab6 : Tab := [(5, .d ⟨[.ty .expr, .ty (.sl .str)], [.bool], fun x => check_Linear x.1 x.2⟩), (7, .d ⟨[.ty .expr, .ty (.sl .str)], [.bool], fun x => check_Has x.1 x.2⟩)]
theorem tabOk6 : TabOk Try.prog (tab6) := tabOk_cons ok5 (tabOk_cons ok7 (tabOk_nil _))
def ro6 : Nat → Bool := fun s => false
noncomputable def h6 : Hints := { loop := fun id => none, cut := fun k r => none, frz := fun r => [] }
theorem ok6 : FnOk Try.prog 6 ⟨[], [.bool], fun _ => law7_known⟩ :=
  fn_ok (xid := XID) (ro := ro6) (H := h6) (fn := Try.f6) (code := bodyOf Try.f6) mixed (tabOk6) Try.func6 rfl (by kernel_rfl) (loops_of (L := []) (by kernel_rfl) (lnil)) (fun x => by kernel_rfl)
/-! 3: pantograph/pantographlaw7.CheckFewer -/
noncomputable def tab3 : Tab := [(4, .d ⟨[.ty .expr, .ty (.int .i64)], [(.int .i64)], fun x => law7_weight x.1 x.2⟩), (5, .d ⟨[.ty .expr, .ty (.sl .str)], [.bool], fun x => check_Linear x.1 x.2⟩), (6, .d ⟨[], [.bool], fun _ => law7_known⟩)]
theorem tabOk3 : TabOk Try.prog (tab3) := tabOk_cons ok4 (tabOk_cons ok5 (tabOk_cons ok6 (tabOk_nil _)))
def ro3 : Nat → Bool := fun s => Nat.beq s 3 || Nat.beq s 4
noncomputable def lp3_0 : LoopD := { gh := [], ps := [.s 2 (.imm (.sl .str)), .s 3 (.rptr .expr), .s 4 (.rptr .expr), .s 7 (.imm .bool), .s 8 (.imm .bool)], sh := ⟨[.s 9 (.imm (.int .i64))], [], []⟩, ws := [⟨.exit 0, ⟨[], [], []⟩⟩, ⟨.ret, ⟨[.s 6 (.imm .bool)], [], []⟩⟩], F := fun p s => law7_CheckFewer_L0 p.1 p.2.1 p.2.2.1 p.2.2.2.1 p.2.2.2.2 s }
noncomputable def h3 : Hints := { loop := fun id => bif Nat.beq id 0 then some (lp3_0) else none, cut := fun k r => bif Nat.beq k 0 && Nat.beq r 1 then some (.ways [⟨.normal, ⟨[.s 23 (.imm .bool)], [], []⟩⟩]) else bif Nat.beq k 0 && Nat.beq r 7 then some (.ways [⟨.normal, ⟨[.s 44 (.imm .bool)], [], []⟩⟩]) else none, frz := fun r => [] }
theorem lo3_0 : LoopOkK Try.prog Try.f3.ntmps (lp3_0) (lb 0 Try.f3) :=
  loop_ok (xid := XID) (ro := ro3) (H := h3) mixed (tabOk3) (loops_of (L := []) (by kernel_rfl) (lnil)) (fun p s => law7_CheckFewer_R0 p.1 p.2.1 p.2.2.1 p.2.2.2.1 p.2.2.2.2 s) (fun p s => by kernel_rfl) (fun p s => rfl)
theorem ok3 : FnOk Try.prog 3 ⟨[.ty .expr, .ty .expr, .ty (.sl .str)], [.bool], fun x => law7_CheckFewer x.1 x.2.1 x.2.2⟩ :=
  fn_ok (xid := XID) (ro := ro3) (H := h3) (fn := Try.f3) (code := bodyOf Try.f3) mixed (tabOk3) Try.func3 rfl (by kernel_rfl) (loops_of (L := [(0, lb 0 Try.f3)]) (by kernel_rfl) (lcons rfl (lo3_0) (lnil))) (fun x => by kernel_rfl)
end Go.AM.Lf
