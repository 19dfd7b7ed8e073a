/-
  The walk, part 0: each function of the program is the tree that the lifted text says; printed by a program of ours.
-/
import Derived.Test.YtehllfdnkcoehaaProg
import Derived.KernelRfl
import Derived.Test.YtehllfdnkcoehaaAmD
import Derived.Test.YtehllfdnkcoehaaLf0
import Derived.Lib.Builder
import Derived.Shelf.Strings.Builder1
import Derived.WalkKit
import Derived.TacticsInMore
import Derived.Test.YtehllfdnkcoehaaSh
set_option linter.unusedVariables false
set_option maxRecDepth 100000
namespace Go.AM.Lf
open Go.Proofs
abbrev XID : Nat := 58
noncomputable def bodyOf (f : Func) : Code := match f.body with | some c => c | none => .skip
noncomputable def lb (k : Nat) (f : Func) : Code := match loopAt k (bodyOf f) with | some c => c | none => .skip
theorem mixed : Try.prog.follows .mixedOrders = true := by kernel_rfl
instance : Glob := { u8 := 5, tab := [] }
/-! 9: pantograph/pantographlaw21.weight -/
noncomputable def tab9 (F_9 : denPs [.ty .expr, .ty (.int .i64)] → T (Tup [(.int .i64)])) : Tab := [(9, .d ⟨[.ty .expr, .ty (.int .i64)], [(.int .i64)], F_9⟩)]
theorem tabOk9 (F_9 : denPs [.ty .expr, .ty (.int .i64)] → T (Tup [(.int .i64)])) (h_9 : FnOk Try.prog 9 ⟨[.ty .expr, .ty (.int .i64)], [(.int .i64)], F_9⟩) : TabOk Try.prog (tab9 F_9) := tabOk_cons h_9 (tabOk_nil _)
def ro9 : Nat → Bool := fun s => Nat.beq s 2
noncomputable def lp9_0 (F_9 : denPs [.ty .expr, .ty (.int .i64)] → T (Tup [(.int .i64)])) : LoopD := { gh := [], ps := [.s 2 (.rptr .expr)], sh := ⟨[.s 1 (.imm (.int .i64)), .s 5 (.imm (.int .i64))], [], []⟩, ws := [⟨.exit 0, ⟨[.s 1 (.imm (.int .i64))], [], []⟩⟩], F := fun p s => law21_weight_L0 (fun y0 y1 => F_9 (y0, y1)) p s }
noncomputable def h9 (F_9 : denPs [.ty .expr, .ty (.int .i64)] → T (Tup [(.int .i64)])) : Hints := { loop := fun id => bif Nat.beq id 0 then some (lp9_0 F_9) else none, cut := fun k r => bif Nat.beq k 0 && Nat.beq r 3 then some (.flat [.s 32 (.imm .bool)]) else none, frz := fun r => [] }
theorem lo9_0 (F_9 : denPs [.ty .expr, .ty (.int .i64)] → T (Tup [(.int .i64)])) (h_9 : FnOk Try.prog 9 ⟨[.ty .expr, .ty (.int .i64)], [(.int .i64)], F_9⟩) : LoopOkK Try.prog Try.f9.ntmps (lp9_0 F_9) (lb 0 Try.f9) :=
  loop_ok (xid := XID) (ro := ro9) (H := h9 F_9) mixed (tabOk9 F_9 h_9) (loops_of (L := []) (by kernel_rfl) (lnil)) (fun p s => law21_weight_R0 (fun y0 y1 => F_9 (y0, y1)) p s) (fun p s => by kernel_rfl) (fun p s => rfl)
theorem ok9_B (F_9 : denPs [.ty .expr, .ty (.int .i64)] → T (Tup [(.int .i64)])) (h_9 : FnOk Try.prog 9 ⟨[.ty .expr, .ty (.int .i64)], [(.int .i64)], F_9⟩) : FnOk Try.prog 9 ⟨[.ty .expr, .ty (.int .i64)], [(.int .i64)], fun x => law21_weight_B (fun y0 y1 => F_9 (y0, y1)) x.1 x.2⟩ :=
  fn_ok (xid := XID) (ro := ro9) (H := h9 F_9) (fn := Try.f9) (code := bodyOf Try.f9) mixed (tabOk9 F_9 h_9) Try.func9 rfl (by kernel_rfl) (loops_of (L := [(0, lb 0 Try.f9)]) (by kernel_rfl) (lcons rfl (lo9_0 F_9 h_9) (lnil))) (fun x => by kernel_rfl)
theorem ok9 : FnOk Try.prog 9 ⟨[.ty .expr, .ty (.int .i64)], [(.int .i64)], fun x => law21_weight x.1 x.2⟩ :=
  fn_fix (fun F_9 x => law21_weight_B (fun y0 y1 => F_9 (y0, y1)) x.1 x.2) (fun x => rfl) (fun F_9 h_9 => ok9_B F_9 h_9)
/-! 4: pantograph/pantographlaw21.heavy -/
noncomputable def tab4 : Tab := [(9, .d ⟨[.ty .expr, .ty (.int .i64)], [(.int .i64)], fun x => law21_weight x.1 x.2⟩)]
theorem tabOk4 : TabOk Try.prog (tab4) := tabOk_cons ok9 (tabOk_nil _)
def ro4 : Nat → Bool := fun s => Nat.beq s 1
noncomputable def lp4_0 : LoopD := { gh := [], ps := [.s 1 (.rptr tyForm)], sh := ⟨[.s 3 (.imm (.int .i64)), .s 4 (.imm (.int .i64))], [], []⟩, ws := [⟨.exit 0, ⟨[.s 3 (.imm (.int .i64))], [], []⟩⟩], F := fun p s => law21_heavy_L0 p s }
noncomputable def lp4_2 : LoopD := { gh := [], ps := [.s 1 (.rptr tyForm)], sh := ⟨[.s 3 (.imm (.int .i64)), .s 5 (.imm (.int .i64))], [], []⟩, ws := [⟨.exit 2, ⟨[.s 3 (.imm (.int .i64))], [], []⟩⟩], F := fun p s => law21_heavy_L1 p s }
noncomputable def lp4_4 : LoopD := { gh := [], ps := [.s 1 (.rptr tyForm)], sh := ⟨[.s 3 (.imm (.int .i64)), .s 6 (.imm (.int .i64))], [], []⟩, ws := [⟨.exit 4, ⟨[.s 3 (.imm (.int .i64))], [], []⟩⟩], F := fun p s => law21_heavy_L2 p s }
noncomputable def lp4_6 : LoopD := { gh := [], ps := [.s 1 (.rptr tyForm)], sh := ⟨[.s 3 (.imm (.int .i64)), .s 7 (.imm (.int .i64))], [], []⟩, ws := [⟨.exit 6, ⟨[.s 3 (.imm (.int .i64))], [], []⟩⟩], F := fun p s => law21_heavy_L3 p s }
noncomputable def lp4_8 : LoopD := { gh := [], ps := [.s 1 (.rptr tyForm)], sh := ⟨[.s 3 (.imm (.int .i64)), .s 8 (.imm (.int .i64))], [], []⟩, ws := [⟨.exit 8, ⟨[.s 3 (.imm (.int .i64))], [], []⟩⟩], F := fun p s => law21_heavy_L4 p s }
noncomputable def lp4_10 : LoopD := { gh := [], ps := [.s 1 (.rptr tyForm)], sh := ⟨[.s 3 (.imm (.int .i64)), .s 9 (.imm (.int .i64))], [], []⟩, ws := [⟨.exit 10, ⟨[.s 3 (.imm (.int .i64))], [], []⟩⟩], F := fun p s => law21_heavy_L5 p s }
noncomputable def h4 : Hints := { loop := fun id => bif Nat.beq id 0 then some (lp4_0) else bif Nat.beq id 2 then some (lp4_2) else bif Nat.beq id 4 then some (lp4_4) else bif Nat.beq id 6 then some (lp4_6) else bif Nat.beq id 8 then some (lp4_8) else bif Nat.beq id 10 then some (lp4_10) else none, cut := fun k r => bif Nat.beq k 0 && Nat.beq r 3 then some (.flat [.s 43 (.imm .bool)]) else bif Nat.beq k 0 && Nat.beq r 7 then some (.flat [.s 83 (.imm .bool)]) else bif Nat.beq k 0 && Nat.beq r 11 then some (.flat [.s 103 (.imm .bool)]) else bif Nat.beq k 0 && Nat.beq r 15 then some (.flat [.s 131 (.imm .bool)]) else bif Nat.beq k 0 && Nat.beq r 19 then some (.flat [.s 151 (.imm .bool)]) else bif Nat.beq k 0 && Nat.beq r 23 then some (.flat [.s 193 (.imm .bool)]) else none, frz := fun r => [] }
theorem lo4_0 : LoopOkK Try.prog Try.f4.ntmps (lp4_0) (lb 0 Try.f4) :=
  loop_ok (xid := XID) (ro := ro4) (H := h4) mixed (tabOk4) (loops_of (L := []) (by kernel_rfl) (lnil)) (fun p s => law21_heavy_R0 p s) (fun p s => by kernel_rfl) (fun p s => rfl)
theorem lo4_2 : LoopOkK Try.prog Try.f4.ntmps (lp4_2) (lb 2 Try.f4) :=
  loop_ok (xid := XID) (ro := ro4) (H := h4) mixed (tabOk4) (loops_of (L := []) (by kernel_rfl) (lnil)) (fun p s => law21_heavy_R1 p s) (fun p s => by kernel_rfl) (fun p s => rfl)
theorem lo4_4 : LoopOkK Try.prog Try.f4.ntmps (lp4_4) (lb 4 Try.f4) :=
  loop_ok (xid := XID) (ro := ro4) (H := h4) mixed (tabOk4) (loops_of (L := []) (by kernel_rfl) (lnil)) (fun p s => law21_heavy_R2 p s) (fun p s => by kernel_rfl) (fun p s => rfl)
theorem lo4_6 : LoopOkK Try.prog Try.f4.ntmps (lp4_6) (lb 6 Try.f4) :=
  loop_ok (xid := XID) (ro := ro4) (H := h4) mixed (tabOk4) (loops_of (L := []) (by kernel_rfl) (lnil)) (fun p s => law21_heavy_R3 p s) (fun p s => by kernel_rfl) (fun p s => rfl)
theorem lo4_8 : LoopOkK Try.prog Try.f4.ntmps (lp4_8) (lb 8 Try.f4) :=
  loop_ok (xid := XID) (ro := ro4) (H := h4) mixed (tabOk4) (loops_of (L := []) (by kernel_rfl) (lnil)) (fun p s => law21_heavy_R4 p s) (fun p s => by kernel_rfl) (fun p s => rfl)
theorem lo4_10 : LoopOkK Try.prog Try.f4.ntmps (lp4_10) (lb 10 Try.f4) :=
  loop_ok (xid := XID) (ro := ro4) (H := h4) mixed (tabOk4) (loops_of (L := []) (by kernel_rfl) (lnil)) (fun p s => law21_heavy_R5 p s) (fun p s => by kernel_rfl) (fun p s => rfl)
theorem ok4 : FnOk Try.prog 4 ⟨[.ty tyForm], [.bool], fun x => law21_heavy x⟩ :=
  fn_ok (xid := XID) (ro := ro4) (H := h4) (fn := Try.f4) (code := bodyOf Try.f4) mixed (tabOk4) Try.func4 rfl (by kernel_rfl) (loops_of (L := [(0, lb 0 Try.f4), (2, lb 2 Try.f4), (4, lb 4 Try.f4), (6, lb 6 Try.f4), (8, lb 8 Try.f4), (10, lb 10 Try.f4)]) (by kernel_rfl) (lcons rfl (lo4_0) (lcons rfl (lo4_2) (lcons rfl (lo4_4) (lcons rfl (lo4_6) (lcons rfl (lo4_8) (lcons rfl (lo4_10) (lnil)))))))) (fun x => by kernel_rfl)
/-! 47: pantograph/nat.Is -/
noncomputable def tab47 : Tab := []
theorem tabOk47 : TabOk Try.prog (tab47) := tabOk_nil _
def ro47 : Nat → Bool := fun s => false
noncomputable def h47 : Hints := { loop := fun id => none, cut := fun k r => bif Nat.beq k 0 && Nat.beq r 1 then some (.flat [.s 2 (.imm .bool)]) else none, frz := fun r => [] }
theorem ok47 : FnOk Try.prog 47 ⟨[.ty (.sl (.int .u32))], [.bool], fun x => nat_Is x⟩ :=
  fn_ok (xid := XID) (ro := ro47) (H := h47) (fn := Try.f47) (code := bodyOf Try.f47) mixed (tabOk47) Try.func47 rfl (by kernel_rfl) (loops_of (L := []) (by kernel_rfl) (lnil)) (fun x => by kernel_rfl)
/-! 34: pantograph/nat.trim -/
noncomputable def tab34 : Tab := [(47, .d ⟨[.ty (.sl (.int .u32))], [.bool], fun x => nat_Is x⟩)]
theorem tabOk34 : TabOk Try.prog (tab34) := tabOk_cons ok47 (tabOk_nil _)
def ro34 : Nat → Bool := fun s => false
noncomputable def lp34_0 : LoopD := { gh := [], ps := [], sh := ⟨[.s 0 (.imm (.sl (.int .u32)))], [], []⟩, ws := [⟨.exit 0, ⟨[.s 0 (.imm (.sl (.int .u32)))], [], []⟩⟩], F := fun p s => nat_trim_L0  s }
noncomputable def h34 : Hints := { loop := fun id => bif Nat.beq id 0 then some (lp34_0) else none, cut := fun k r => none, frz := fun r => [] }
theorem lo34_0 : LoopOkK Try.prog Try.f34.ntmps (lp34_0) (lb 0 Try.f34) :=
  loop_ok (xid := XID) (ro := ro34) (H := h34) mixed (tabOk34) (loops_of (L := []) (by kernel_rfl) (lnil)) (fun p s => nat_trim_R0  s) (fun p s => by kernel_rfl) (fun p s => rfl)
theorem ok34 : FnOk Try.prog 34 ⟨[.ty (.sl (.int .u32))], [(.sl (.int .u32))], fun x => nat_trim x⟩ :=
  fn_ok (xid := XID) (ro := ro34) (H := h34) (fn := Try.f34) (code := bodyOf Try.f34) mixed (tabOk34) Try.func34 rfl (by kernel_rfl) (loops_of (L := [(0, lb 0 Try.f34)]) (by kernel_rfl) (lcons rfl (lo34_0) (lnil))) (fun x => by kernel_rfl)
/-! 48: slices.Clone[[]uint32,uint32] -/
noncomputable def tab48 : Tab := []
theorem tabOk48 : TabOk Try.prog (tab48) := tabOk_nil _
def ro48 : Nat → Bool := fun s => false
noncomputable def h48 : Hints := { loop := fun id => none, cut := fun k r => bif Nat.beq k 0 && Nat.beq r 1 then some (.nilt) else none, frz := fun r => [] }
theorem ok48 : FnOk Try.prog 48 ⟨[.ty (.sl (.int .u32))], [(.sl (.int .u32))], fun x => slices_Clone_sl_uint32 x⟩ :=
  fn_ok (xid := XID) (ro := ro48) (H := h48) (fn := Try.f48) (code := bodyOf Try.f48) mixed (tabOk48) Try.func48 rfl (by kernel_rfl) (loops_of (L := []) (by kernel_rfl) (lnil)) (fun x => by kernel_rfl)
/-! 35: pantograph/nat.Trim -/
noncomputable def tab35 : Tab := [(34, .d ⟨[.ty (.sl (.int .u32))], [(.sl (.int .u32))], fun x => nat_trim x⟩), (48, .d ⟨[.ty (.sl (.int .u32))], [(.sl (.int .u32))], fun x => slices_Clone_sl_uint32 x⟩)]
theorem tabOk35 : TabOk Try.prog (tab35) := tabOk_cons ok34 (tabOk_cons ok48 (tabOk_nil _))
def ro35 : Nat → Bool := fun s => false
noncomputable def h35 : Hints := { loop := fun id => none, cut := fun k r => none, frz := fun r => [] }
theorem ok35 : FnOk Try.prog 35 ⟨[.ty (.sl (.int .u32))], [(.sl (.int .u32))], fun x => nat_Trim x⟩ :=
  fn_ok (xid := XID) (ro := ro35) (H := h35) (fn := Try.f35) (code := bodyOf Try.f35) mixed (tabOk35) Try.func35 rfl (by kernel_rfl) (loops_of (L := []) (by kernel_rfl) (lnil)) (fun x => by kernel_rfl)
/-! 25: pantograph/nat.Of -/
noncomputable def tab25 : Tab := [(34, .d ⟨[.ty (.sl (.int .u32))], [(.sl (.int .u32))], fun x => nat_trim x⟩)]
theorem tabOk25 : TabOk Try.prog (tab25) := tabOk_cons ok34 (tabOk_nil _)
def ro25 : Nat → Bool := fun s => false
noncomputable def h25 : Hints := { loop := fun id => none, cut := fun k r => none, frz := fun r => [] }
theorem ok25 : FnOk Try.prog 25 ⟨[.ty (.int .u64)], [(.sl (.int .u32))], fun x => nat_Of x⟩ :=
  fn_ok (xid := XID) (ro := ro25) (H := h25) (fn := Try.f25) (code := bodyOf Try.f25) mixed (tabOk25) Try.func25 rfl (by kernel_rfl) (loops_of (L := []) (by kernel_rfl) (lnil)) (fun x => by kernel_rfl)
/-! 30: pantograph/nat.Cmp -/
noncomputable def tab30 : Tab := [(34, .d ⟨[.ty (.sl (.int .u32))], [(.sl (.int .u32))], fun x => nat_trim x⟩)]
theorem tabOk30 : TabOk Try.prog (tab30) := tabOk_cons ok34 (tabOk_nil _)
def ro30 : Nat → Bool := fun s => false
noncomputable def lp30_0 : LoopD := { gh := [], ps := [.s 0 (.imm (.sl (.int .u32))), .s 1 (.imm (.sl (.int .u32)))], sh := ⟨[.s 5 (.imm (.int .i64))], [], []⟩, ws := [⟨.exit 0, ⟨[], [], []⟩⟩, ⟨.ret, ⟨[.s 4 (.imm (.int .i64))], [], []⟩⟩], F := fun p s => nat_Cmp_L0 p.1 p.2 s }
noncomputable def h30 : Hints := { loop := fun id => bif Nat.beq id 0 then some (lp30_0) else none, cut := fun k r => none, frz := fun r => [] }
theorem lo30_0 : LoopOkK Try.prog Try.f30.ntmps (lp30_0) (lb 0 Try.f30) :=
  loop_ok (xid := XID) (ro := ro30) (H := h30) mixed (tabOk30) (loops_of (L := []) (by kernel_rfl) (lnil)) (fun p s => nat_Cmp_R0 p.1 p.2 s) (fun p s => by kernel_rfl) (fun p s => rfl)
theorem ok30 : FnOk Try.prog 30 ⟨[.ty (.sl (.int .u32)), .ty (.sl (.int .u32))], [(.int .i64)], fun x => nat_Cmp x.1 x.2⟩ :=
  fn_ok (xid := XID) (ro := ro30) (H := h30) (fn := Try.f30) (code := bodyOf Try.f30) mixed (tabOk30) Try.func30 rfl (by kernel_rfl) (loops_of (L := [(0, lb 0 Try.f30)]) (by kernel_rfl) (lcons rfl (lo30_0) (lnil))) (fun x => by kernel_rfl)
/-! 50: math/bits.Div32 -/
noncomputable def tab50 : Tab := []
theorem tabOk50 : TabOk Try.prog (tab50) := tabOk_nil _
def ro50 : Nat → Bool := fun s => false
noncomputable def h50 : Hints := { loop := fun id => none, cut := fun k r => bif Nat.beq k 0 && Nat.beq r 1 then some (.flat [.s 15 (.imm .bool)]) else none, frz := fun r => [] }
theorem ok50 : FnOk Try.prog 50 ⟨[.ty (.int .u32), .ty (.int .u32), .ty (.int .u32)], [(.int .u32), (.int .u32)], fun x => math_bits_Div32 x.1 x.2.1 x.2.2⟩ :=
  fn_ok (xid := XID) (ro := ro50) (H := h50) (fn := Try.f50) (code := bodyOf Try.f50) mixed (tabOk50) Try.func50 rfl (by kernel_rfl) (loops_of (L := []) (by kernel_rfl) (lnil)) (fun x => by kernel_rfl)
/-! 39: pantograph/nat.small -/
noncomputable def tab39 : Tab := [(50, .d ⟨[.ty (.int .u32), .ty (.int .u32), .ty (.int .u32)], [(.int .u32), (.int .u32)], fun x => math_bits_Div32 x.1 x.2.1 x.2.2⟩), (34, .d ⟨[.ty (.sl (.int .u32))], [(.sl (.int .u32))], fun x => nat_trim x⟩)]
theorem tabOk39 : TabOk Try.prog (tab39) := tabOk_cons ok50 (tabOk_cons ok34 (tabOk_nil _))
def ro39 : Nat → Bool := fun s => false
noncomputable def lp39_0 : LoopD := { gh := [], ps := [.s 0 (.imm (.sl (.int .u32))), .s 1 (.imm (.int .u32))], sh := ⟨[.s 7 (.imm (.int .u32)), .s 8 (.imm (.int .i64)), .a (.int .u32)], [(6, .cur 0 (.int .u32))], [.arr (.int .u32)]⟩, ws := [⟨.exit 0, ⟨[.s 7 (.imm (.int .u32)), .a (.int .u32)], [(6, .cur 0 (.int .u32))], [.arr (.int .u32)]⟩⟩], F := fun p s => nat_small_L0 p.1 p.2 s }
noncomputable def h39 : Hints := { loop := fun id => bif Nat.beq id 0 then some (lp39_0) else none, cut := fun k r => none, frz := fun r => bif Nat.beq r 7 then [6] else [] }
theorem lo39_0 : LoopOkK Try.prog Try.f39.ntmps (lp39_0) (lb 0 Try.f39) :=
  loop_ok (xid := XID) (ro := ro39) (H := h39) mixed (tabOk39) (loops_of (L := []) (by kernel_rfl) (lnil)) (fun p s => nat_small_R0 p.1 p.2 s) (fun p s => by kernel_rfl) (fun p s => rfl)
theorem ok39 : FnOk Try.prog 39 ⟨[.ty (.sl (.int .u32)), .ty (.int .u32)], [(.sl (.int .u32)), (.int .u32)], fun x => nat_small x.1 x.2⟩ :=
  fn_ok (xid := XID) (ro := ro39) (H := h39) (fn := Try.f39) (code := bodyOf Try.f39) mixed (tabOk39) Try.func39 rfl (by kernel_rfl) (loops_of (L := [(0, lb 0 Try.f39)]) (by kernel_rfl) (lcons rfl (lo39_0) (lnil))) (fun x => by kernel_rfl)
/-! 71: math/bits.Len32 -/
noncomputable def tab71 : Tab := []
theorem tabOk71 : TabOk Try.prog (tab71) := tabOk_nil _
def ro71 : Nat → Bool := fun s => false
noncomputable def h71 : Hints := { loop := fun id => none, cut := fun k r => bif Nat.beq k 3 && Nat.beq r 1 then some (.flat [.s 0 (.imm (.int .u32)), .s 2 (.imm (.int .i64))]) else bif Nat.beq k 3 && Nat.beq r 4 then some (.flat [.s 0 (.imm (.int .u32)), .s 2 (.imm (.int .i64))]) else none, frz := fun r => [] }
theorem ok71 : FnOk Try.prog 71 ⟨[.ty (.int .u32)], [(.int .i64)], fun x => math_bits_Len32 x⟩ :=
  fn_ok (xid := XID) (ro := ro71) (H := h71) (fn := Try.f71) (code := bodyOf Try.f71) mixed (tabOk71) Try.func71 rfl (by kernel_rfl) (loops_of (L := []) (by kernel_rfl) (lnil)) (fun x => by kernel_rfl)
/-! 60: math/bits.LeadingZeros32 -/
noncomputable def tab60 : Tab := [(71, .d ⟨[.ty (.int .u32)], [(.int .i64)], fun x => math_bits_Len32 x⟩)]
theorem tabOk60 : TabOk Try.prog (tab60) := tabOk_cons ok71 (tabOk_nil _)
def ro60 : Nat → Bool := fun s => false
noncomputable def h60 : Hints := { loop := fun id => none, cut := fun k r => none, frz := fun r => [] }
theorem ok60 : FnOk Try.prog 60 ⟨[.ty (.int .u32)], [(.int .i64)], fun x => math_bits_LeadingZeros32 x⟩ :=
  fn_ok (xid := XID) (ro := ro60) (H := h60) (fn := Try.f60) (code := bodyOf Try.f60) mixed (tabOk60) Try.func60 rfl (by kernel_rfl) (loops_of (L := []) (by kernel_rfl) (lnil)) (fun x => by kernel_rfl)
/-! 61: pantograph/nat.left -/
noncomputable def tab61 : Tab := []
theorem tabOk61 : TabOk Try.prog (tab61) := tabOk_nil _
def ro61 : Nat → Bool := fun s => false
noncomputable def lp61_0 : LoopD := { gh := [], ps := [.s 1 (.imm (.int .u64)), .s 2 (.imm (.int .i64)), .s 13 (.imm (.sl (.int .u32))), .s 14 (.imm (.int .i64))], sh := ⟨[.s 15 (.imm (.int .i64)), .a (.int .u32)], [(7, .cur 0 (.int .u32))], [.arr (.int .u32)]⟩, ws := [⟨.exit 0, ⟨[.a (.int .u32)], [(7, .cur 0 (.int .u32))], [.arr (.int .u32)]⟩⟩], F := fun p s => nat_left_S_L0 p.1 p.2.1 p.2.2.1 p.2.2.2 s }
noncomputable def h61 : Hints := { loop := fun id => bif Nat.beq id 0 then some (lp61_0) else none, cut := fun k r => none, frz := fun r => [] }
theorem lo61_0 : LoopOkK Try.prog Try.f61.ntmps (lp61_0) (lb 0 Try.f61) :=
  loop_ok (xid := XID) (ro := ro61) (H := h61) mixed (tabOk61) (loops_of (L := []) (by kernel_rfl) (lnil)) (fun p s => nat_left_S_R0 p.1 p.2.1 p.2.2.1 p.2.2.2 s) (fun p s => by kernel_rfl) (fun p s => rfl)
theorem ok61 : FnSOk Try.prog 61 ⟨[.any, .any, .any], ⟨[.s 0 (.imm (.sl (.int .u32))), .s 1 (.imm (.int .u64)), .s 2 (.imm (.int .i64))], [], []⟩, [], ⟨[.a (.int .u32)], [(0, .cur 0 (.int .u32))], [.arr (.int .u32)]⟩, 1, fun x => nat_left_S x.1 x.2.1 x.2.2⟩ :=
  fns_ok (xid := XID) (ro := ro61) (H := h61) (fn := Try.f61) (code := bodyOf Try.f61) mixed (tabOk61) Try.func61 rfl (by kernel_rfl) (loops_of (L := [(0, lb 0 Try.f61)]) (by kernel_rfl) (lcons rfl (lo61_0) (lnil))) (fun x => by kernel_rfl)
/-! 62: pantograph/nat.guess -/
noncomputable def tab62 : Tab := []
theorem tabOk62 : TabOk Try.prog (tab62) := tabOk_nil _
def ro62 : Nat → Bool := fun s => false
noncomputable def lp62_0 : LoopD := { gh := [], ps := [.s 2 (.imm (.int .u32)), .s 3 (.imm (.int .u32)), .s 4 (.imm (.int .u32))], sh := ⟨[.s 12 (.imm (.int .u64)), .s 13 (.imm (.int .u64))], [], []⟩, ws := [⟨.exit 0, ⟨[.s 12 (.imm (.int .u64))], [], []⟩⟩], F := fun p s => nat_guess_L0 p.1 p.2.1 p.2.2 s }
noncomputable def h62 : Hints := { loop := fun id => bif Nat.beq id 0 then some (lp62_0) else none, cut := fun k r => bif Nat.beq k 0 && Nat.beq r 3 then some (.flat [.s 42 (.imm .bool)]) else none, frz := fun r => [] }
theorem lo62_0 : LoopOkK Try.prog Try.f62.ntmps (lp62_0) (lb 0 Try.f62) :=
  loop_ok (xid := XID) (ro := ro62) (H := h62) mixed (tabOk62) (loops_of (L := []) (by kernel_rfl) (lnil)) (fun p s => nat_guess_R0 p.1 p.2.1 p.2.2 s) (fun p s => by kernel_rfl) (fun p s => rfl)
theorem ok62 : FnOk Try.prog 62 ⟨[.ty (.int .u32), .ty (.int .u32), .ty (.int .u32), .ty (.int .u32), .ty (.int .u32)], [(.int .u64)], fun x => nat_guess x.1 x.2.1 x.2.2.1 x.2.2.2.1 x.2.2.2.2⟩ :=
  fn_ok (xid := XID) (ro := ro62) (H := h62) (fn := Try.f62) (code := bodyOf Try.f62) mixed (tabOk62) Try.func62 rfl (by kernel_rfl) (loops_of (L := [(0, lb 0 Try.f62)]) (by kernel_rfl) (lcons rfl (lo62_0) (lnil))) (fun x => by kernel_rfl)
/-! 70: math/bits.Sub32 -/
noncomputable def tab70 : Tab := []
theorem tabOk70 : TabOk Try.prog (tab70) := tabOk_nil _
def ro70 : Nat → Bool := fun s => false
noncomputable def h70 : Hints := { loop := fun id => none, cut := fun k r => none, frz := fun r => [] }
theorem ok70 : FnOk Try.prog 70 ⟨[.ty (.int .u32), .ty (.int .u32), .ty (.int .u32)], [(.int .u32), (.int .u32)], fun x => math_bits_Sub32 x.1 x.2.1 x.2.2⟩ :=
  fn_ok (xid := XID) (ro := ro70) (H := h70) (fn := Try.f70) (code := bodyOf Try.f70) mixed (tabOk70) Try.func70 rfl (by kernel_rfl) (loops_of (L := []) (by kernel_rfl) (lnil)) (fun x => by kernel_rfl)
/-! 72: math/bits.Add32 -/
noncomputable def tab72 : Tab := []
theorem tabOk72 : TabOk Try.prog (tab72) := tabOk_nil _
def ro72 : Nat → Bool := fun s => false
noncomputable def h72 : Hints := { loop := fun id => none, cut := fun k r => none, frz := fun r => [] }
theorem ok72 : FnOk Try.prog 72 ⟨[.ty (.int .u32), .ty (.int .u32), .ty (.int .u32)], [(.int .u32), (.int .u32)], fun x => math_bits_Add32 x.1 x.2.1 x.2.2⟩ :=
  fn_ok (xid := XID) (ro := ro72) (H := h72) (fn := Try.f72) (code := bodyOf Try.f72) mixed (tabOk72) Try.func72 rfl (by kernel_rfl) (loops_of (L := []) (by kernel_rfl) (lnil)) (fun x => by kernel_rfl)
/-! 63: pantograph/nat.takes -/
noncomputable def tab63 : Tab := [(70, .d ⟨[.ty (.int .u32), .ty (.int .u32), .ty (.int .u32)], [(.int .u32), (.int .u32)], fun x => math_bits_Sub32 x.1 x.2.1 x.2.2⟩), (72, .d ⟨[.ty (.int .u32), .ty (.int .u32), .ty (.int .u32)], [(.int .u32), (.int .u32)], fun x => math_bits_Add32 x.1 x.2.1 x.2.2⟩)]
theorem tabOk63 : TabOk Try.prog (tab63) := tabOk_cons ok70 (tabOk_cons ok72 (tabOk_nil _))
def ro63 : Nat → Bool := fun s => false
noncomputable def lp63_0 : LoopD := { gh := [], ps := [.s 1 (.imm (.sl (.int .u32))), .s 2 (.imm (.int .u64)), .s 14 (.imm (.sl (.int .u32))), .s 15 (.imm (.int .i64))], sh := ⟨[.s 0 (.sub 0 (.int .u32)), .s 7 (.imm (.int .u64)), .s 8 (.imm (.int .u32)), .s 16 (.imm (.int .i64)), .a (.int .u32)], [], [.arr (.int .u32)]⟩, ws := [⟨.exit 0, ⟨[.s 0 (.sub 0 (.int .u32)), .s 7 (.imm (.int .u64)), .s 8 (.imm (.int .u32)), .a (.int .u32)], [], [.arr (.int .u32)]⟩⟩], F := fun p s => nat_takes_S_L0 p.1 p.2.1 p.2.2.1 p.2.2.2 s }
noncomputable def lp63_2 : LoopD := { gh := [], ps := [.s 1 (.imm (.sl (.int .u32))), .s 62 (.imm (.sl (.int .u32))), .s 63 (.imm (.int .i64))], sh := ⟨[.s 0 (.sub 0 (.int .u32)), .s 11 (.imm (.int .u32)), .s 64 (.imm (.int .i64)), .a (.int .u32)], [], [.arr (.int .u32)]⟩, ws := [⟨.exit 2, ⟨[.s 0 (.sub 0 (.int .u32)), .s 11 (.imm (.int .u32)), .a (.int .u32)], [], [.arr (.int .u32)]⟩⟩], F := fun p s => nat_takes_S_L1 p.1 p.2.1 p.2.2 s }
noncomputable def h63 : Hints := { loop := fun id => bif Nat.beq id 0 then some (lp63_0) else bif Nat.beq id 2 then some (lp63_2) else none, cut := fun k r => none, frz := fun r => [] }
theorem lo63_0 : LoopOkK Try.prog Try.f63.ntmps (lp63_0) (lb 0 Try.f63) :=
  loop_ok (xid := XID) (ro := ro63) (H := h63) mixed (tabOk63) (loops_of (L := []) (by kernel_rfl) (lnil)) (fun p s => nat_takes_S_R0 p.1 p.2.1 p.2.2.1 p.2.2.2 s) (fun p s => by kernel_rfl) (fun p s => rfl)
theorem lo63_2 : LoopOkK Try.prog Try.f63.ntmps (lp63_2) (lb 2 Try.f63) :=
  loop_ok (xid := XID) (ro := ro63) (H := h63) mixed (tabOk63) (loops_of (L := []) (by kernel_rfl) (lnil)) (fun p s => nat_takes_S_R1 p.1 p.2.1 p.2.2 s) (fun p s => by kernel_rfl) (fun p s => rfl)
theorem ok63 : FnSOk Try.prog 63 ⟨[.sub, .any, .any], ⟨[.s 0 (.sub 0 (.int .u32)), .s 1 (.imm (.sl (.int .u32))), .s 2 (.imm (.int .u64)), .a (.int .u32)], [], [.arr (.int .u32)]⟩, [], ⟨[.s 0 (.imm .bool), .a (.int .u32)], [], [.arr (.int .u32)]⟩, 1, fun x => nat_takes_S x.1 x.2.1 x.2.2.1 x.2.2.2⟩ :=
  fns_ok (xid := XID) (ro := ro63) (H := h63) (fn := Try.f63) (code := bodyOf Try.f63) mixed (tabOk63) Try.func63 rfl (by kernel_rfl) (loops_of (L := [(0, lb 0 Try.f63), (2, lb 2 Try.f63)]) (by kernel_rfl) (lcons rfl (lo63_0) (lcons rfl (lo63_2) (lnil)))) (fun x => by kernel_rfl)
/-! 61: pantograph/nat.left -/
noncomputable def tab61_1 : Tab := []
theorem tabOk61_1 : TabOk Try.prog (tab61_1) := tabOk_nil _
def ro61_1 : Nat → Bool := fun s => false
noncomputable def lp61_1_0 : LoopD := { gh := [], ps := [.s 1 (.imm (.int .u64)), .s 2 (.imm (.int .i64)), .s 13 (.imm (.sl (.int .u32))), .s 14 (.imm (.int .i64))], sh := ⟨[.s 15 (.imm (.int .i64)), .a (.int .u32)], [(7, .cur 0 (.int .u32))], [.arr (.int .u32)]⟩, ws := [⟨.exit 0, ⟨[.a (.int .u32)], [(7, .cur 0 (.int .u32))], [.arr (.int .u32)]⟩⟩], F := fun p s => nat_left_L0 p.1 p.2.1 p.2.2.1 p.2.2.2 s }
noncomputable def h61_1 : Hints := { loop := fun id => bif Nat.beq id 0 then some (lp61_1_0) else none, cut := fun k r => none, frz := fun r => [] }
theorem lo61_1_0 : LoopOkK Try.prog Try.f61.ntmps (lp61_1_0) (lb 0 Try.f61) :=
  loop_ok (xid := XID) (ro := ro61_1) (H := h61_1) mixed (tabOk61_1) (loops_of (L := []) (by kernel_rfl) (lnil)) (fun p s => nat_left_R0 p.1 p.2.1 p.2.2.1 p.2.2.2 s) (fun p s => by kernel_rfl) (fun p s => rfl)
theorem ok61_1 : FnOk Try.prog 61 ⟨[.ty (.sl (.int .u32)), .ty (.int .u64), .ty (.int .i64)], [(.sl (.int .u32))], fun x => nat_left x.1 x.2.1 x.2.2⟩ :=
  fn_ok (xid := XID) (ro := ro61_1) (H := h61_1) (fn := Try.f61) (code := bodyOf Try.f61) mixed (tabOk61_1) Try.func61 rfl (by kernel_rfl) (loops_of (L := [(0, lb 0 Try.f61)]) (by kernel_rfl) (lcons rfl (lo61_1_0) (lnil))) (fun x => by kernel_rfl)
/-! 64: pantograph/nat.Shift -/
noncomputable def tab64 : Tab := [(34, .d ⟨[.ty (.sl (.int .u32))], [(.sl (.int .u32))], fun x => nat_trim x⟩), (61, .d ⟨[.ty (.sl (.int .u32)), .ty (.int .u64), .ty (.int .i64)], [(.sl (.int .u32))], fun x => nat_left x.1 x.2.1 x.2.2⟩)]
theorem tabOk64 : TabOk Try.prog (tab64) := tabOk_cons ok34 (tabOk_cons ok61_1 (tabOk_nil _))
def ro64 : Nat → Bool := fun s => false
noncomputable def lp64_0 : LoopD := { gh := [], ps := [.s 6 (.imm (.int .u64)), .s 38 (.imm (.sl (.int .u32))), .s 39 (.imm (.int .i64))], sh := ⟨[.s 40 (.imm (.int .i64)), .a (.int .u32)], [(7, .cur 0 (.int .u32))], [.arr (.int .u32)]⟩, ws := [⟨.exit 0, ⟨[.a (.int .u32)], [(7, .cur 0 (.int .u32))], [.arr (.int .u32)]⟩⟩], F := fun p s => nat_Shift_L0 p.1 p.2.1 p.2.2 s }
noncomputable def h64 : Hints := { loop := fun id => bif Nat.beq id 0 then some (lp64_0) else none, cut := fun k r => none, frz := fun r => bif Nat.beq r 21 then [12] else bif Nat.beq r 17 then [7] else [] }
theorem lo64_0 : LoopOkK Try.prog Try.f64.ntmps (lp64_0) (lb 0 Try.f64) :=
  loop_ok (xid := XID) (ro := ro64) (H := h64) mixed (tabOk64) (loops_of (L := []) (by kernel_rfl) (lnil)) (fun p s => nat_Shift_R0 p.1 p.2.1 p.2.2 s) (fun p s => by kernel_rfl) (fun p s => rfl)
theorem ok64 : FnOk Try.prog 64 ⟨[.ty (.sl (.int .u32)), .ty (.int .i64)], [(.sl (.int .u32))], fun x => nat_Shift x.1 x.2⟩ :=
  fn_ok (xid := XID) (ro := ro64) (H := h64) (fn := Try.f64) (code := bodyOf Try.f64) mixed (tabOk64) Try.func64 rfl (by kernel_rfl) (loops_of (L := [(0, lb 0 Try.f64)]) (by kernel_rfl) (lcons rfl (lo64_0) (lnil))) (fun x => by kernel_rfl)
/-! 49: pantograph/nat.long -/
noncomputable def tab49 : Tab := [(61, .s ⟨[.any, .any, .any], ⟨[.s 0 (.imm (.sl (.int .u32))), .s 1 (.imm (.int .u64)), .s 2 (.imm (.int .i64))], [], []⟩, [], ⟨[.a (.int .u32)], [(0, .cur 0 (.int .u32))], [.arr (.int .u32)]⟩, 1, fun x => nat_left_S x.1 x.2.1 x.2.2⟩), (63, .s ⟨[.sub, .any, .any], ⟨[.s 0 (.sub 0 (.int .u32)), .s 1 (.imm (.sl (.int .u32))), .s 2 (.imm (.int .u64)), .a (.int .u32)], [], [.arr (.int .u32)]⟩, [], ⟨[.s 0 (.imm .bool), .a (.int .u32)], [], [.arr (.int .u32)]⟩, 1, fun x => nat_takes_S x.1 x.2.1 x.2.2.1 x.2.2.2⟩), (60, .d ⟨[.ty (.int .u32)], [(.int .i64)], fun x => math_bits_LeadingZeros32 x⟩), (62, .d ⟨[.ty (.int .u32), .ty (.int .u32), .ty (.int .u32), .ty (.int .u32), .ty (.int .u32)], [(.int .u64)], fun x => nat_guess x.1 x.2.1 x.2.2.1 x.2.2.2.1 x.2.2.2.2⟩), (34, .d ⟨[.ty (.sl (.int .u32))], [(.sl (.int .u32))], fun x => nat_trim x⟩), (64, .d ⟨[.ty (.sl (.int .u32)), .ty (.int .i64)], [(.sl (.int .u32))], fun x => nat_Shift x.1 x.2⟩)]
theorem tabOk49 : TabOk Try.prog (tab49) := tabOk_consS ok61 (tabOk_consS ok63 (tabOk_cons ok60 (tabOk_cons ok62 (tabOk_cons ok34 (tabOk_cons ok64 (tabOk_nil _))))))
def ro49 : Nat → Bool := fun s => false
noncomputable def lp49_0 : LoopD := { gh := [], ps := [.s 6 (.imm (.int .u64)), .s 8 (.imm (.sl (.int .u32))), .s 9 (.imm (.int .i64))], sh := ⟨[.s 10 (.imm (.int .i64)), .a (.int .u32), .a (.int .u32)], [(4, .cur 2 (.int .u32)), (7, .cur 0 (.int .u32))], [.arr (.int .u32), .dead, .arr (.int .u32)]⟩, ws := [⟨.exit 0, ⟨[.a (.int .u32), .a (.int .u32)], [(4, .cur 2 (.int .u32)), (7, .cur 0 (.int .u32))], [.arr (.int .u32), .dead, .arr (.int .u32)]⟩⟩], F := fun p s => nat_long_L0 p.1 p.2.1 p.2.2 s }
noncomputable def h49 : Hints := { loop := fun id => bif Nat.beq id 0 then some (lp49_0) else none, cut := fun k r => bif Nat.beq k 3 && Nat.beq r 9 then some (.ways [⟨.normal, ⟨[.s 11 (.imm (.int .u64)), .a (.int .u32), .a (.int .u32)], [(4, .cur 2 (.int .u32)), (7, .cur 0 (.int .u32))], [.arr (.int .u32), .dead, .arr (.int .u32)]⟩⟩]) else none, frz := fun r => bif Nat.beq r 12 then [4, 7] else bif Nat.beq r 5 then [8] else [] }
theorem lo49_0 : LoopOkK Try.prog Try.f49.ntmps (lp49_0) (lb 0 Try.f49) :=
  loop_ok (xid := XID) (ro := ro49) (H := h49) mixed (tabOk49) (loops_of (L := []) (by kernel_rfl) (lnil)) (fun p s => nat_long_R0 p.1 p.2.1 p.2.2 s) (fun p s => by kernel_rfl) (fun p s => rfl)
theorem ok49 : FnOk Try.prog 49 ⟨[.ty (.sl (.int .u32)), .ty (.sl (.int .u32))], [(.sl (.int .u32)), (.sl (.int .u32))], fun x => nat_long x.1 x.2⟩ :=
  fn_ok (xid := XID) (ro := ro49) (H := h49) (fn := Try.f49) (code := bodyOf Try.f49) mixed (tabOk49) Try.func49 rfl (by kernel_rfl) (loops_of (L := [(0, lb 0 Try.f49)]) (by kernel_rfl) (lcons rfl (lo49_0) (lnil))) (fun x => by kernel_rfl)
/-! 37: pantograph/nat.DivMod -/
noncomputable def tab37 : Tab := [(34, .d ⟨[.ty (.sl (.int .u32))], [(.sl (.int .u32))], fun x => nat_trim x⟩), (30, .d ⟨[.ty (.sl (.int .u32)), .ty (.sl (.int .u32))], [(.int .i64)], fun x => nat_Cmp x.1 x.2⟩), (35, .d ⟨[.ty (.sl (.int .u32))], [(.sl (.int .u32))], fun x => nat_Trim x⟩), (39, .d ⟨[.ty (.sl (.int .u32)), .ty (.int .u32)], [(.sl (.int .u32)), (.int .u32)], fun x => nat_small x.1 x.2⟩), (25, .d ⟨[.ty (.int .u64)], [(.sl (.int .u32))], fun x => nat_Of x⟩), (49, .d ⟨[.ty (.sl (.int .u32)), .ty (.sl (.int .u32))], [(.sl (.int .u32)), (.sl (.int .u32))], fun x => nat_long x.1 x.2⟩)]
theorem tabOk37 : TabOk Try.prog (tab37) := tabOk_cons ok34 (tabOk_cons ok30 (tabOk_cons ok35 (tabOk_cons ok39 (tabOk_cons ok25 (tabOk_cons ok49 (tabOk_nil _))))))
def ro37 : Nat → Bool := fun s => false
noncomputable def h37 : Hints := { loop := fun id => none, cut := fun k r => none, frz := fun r => [] }
theorem ok37 : FnOk Try.prog 37 ⟨[.ty (.sl (.int .u32)), .ty (.sl (.int .u32))], [(.sl (.int .u32)), (.sl (.int .u32)), .bool], fun x => nat_DivMod x.1 x.2⟩ :=
  fn_ok (xid := XID) (ro := ro37) (H := h37) (fn := Try.f37) (code := bodyOf Try.f37) mixed (tabOk37) Try.func37 rfl (by kernel_rfl) (loops_of (L := []) (by kernel_rfl) (lnil)) (fun x => by kernel_rfl)
/-! 36: pantograph/nat.Gcd -/
noncomputable def tab36 : Tab := [(35, .d ⟨[.ty (.sl (.int .u32))], [(.sl (.int .u32))], fun x => nat_Trim x⟩), (37, .d ⟨[.ty (.sl (.int .u32)), .ty (.sl (.int .u32))], [(.sl (.int .u32)), (.sl (.int .u32)), .bool], fun x => nat_DivMod x.1 x.2⟩)]
theorem tabOk36 : TabOk Try.prog (tab36) := tabOk_cons ok35 (tabOk_cons ok37 (tabOk_nil _))
def ro36 : Nat → Bool := fun s => false
noncomputable def lp36_0 : LoopD := { gh := [], ps := [], sh := ⟨[.s 0 (.imm (.sl (.int .u32))), .s 1 (.imm (.sl (.int .u32)))], [], []⟩, ws := [⟨.exit 0, ⟨[.s 0 (.imm (.sl (.int .u32)))], [], []⟩⟩], F := fun p s => nat_Gcd_L0  s }
noncomputable def h36 : Hints := { loop := fun id => bif Nat.beq id 0 then some (lp36_0) else none, cut := fun k r => none, frz := fun r => [] }
theorem lo36_0 : LoopOkK Try.prog Try.f36.ntmps (lp36_0) (lb 0 Try.f36) :=
  loop_ok (xid := XID) (ro := ro36) (H := h36) mixed (tabOk36) (loops_of (L := []) (by kernel_rfl) (lnil)) (fun p s => nat_Gcd_R0  s) (fun p s => by kernel_rfl) (fun p s => rfl)
theorem ok36 : FnOk Try.prog 36 ⟨[.ty (.sl (.int .u32)), .ty (.sl (.int .u32))], [(.sl (.int .u32))], fun x => nat_Gcd x.1 x.2⟩ :=
  fn_ok (xid := XID) (ro := ro36) (H := h36) (fn := Try.f36) (code := bodyOf Try.f36) mixed (tabOk36) Try.func36 rfl (by kernel_rfl) (loops_of (L := [(0, lb 0 Try.f36)]) (by kernel_rfl) (lcons rfl (lo36_0) (lnil))) (fun x => by kernel_rfl)
/-! 26: pantograph/rat.Of -/
noncomputable def tab26 : Tab := [(35, .d ⟨[.ty (.sl (.int .u32))], [(.sl (.int .u32))], fun x => nat_Trim x⟩), (25, .d ⟨[.ty (.int .u64)], [(.sl (.int .u32))], fun x => nat_Of x⟩), (36, .d ⟨[.ty (.sl (.int .u32)), .ty (.sl (.int .u32))], [(.sl (.int .u32))], fun x => nat_Gcd x.1 x.2⟩), (37, .d ⟨[.ty (.sl (.int .u32)), .ty (.sl (.int .u32))], [(.sl (.int .u32)), (.sl (.int .u32)), .bool], fun x => nat_DivMod x.1 x.2⟩)]
theorem tabOk26 : TabOk Try.prog (tab26) := tabOk_cons ok35 (tabOk_cons ok25 (tabOk_cons ok36 (tabOk_cons ok37 (tabOk_nil _))))
def ro26 : Nat → Bool := fun s => false
noncomputable def h26 : Hints := { loop := fun id => none, cut := fun k r => bif Nat.beq k 0 && Nat.beq r 2 then some (.flat [.s 19 (.imm .bool)]) else none, frz := fun r => [] }
theorem ok26 : FnOk Try.prog 26 ⟨[.ty .bool, .ty (.sl (.int .u32)), .ty (.sl (.int .u32))], [tyRat], fun x => rat_Of x.1 x.2.1 x.2.2⟩ :=
  fn_ok (xid := XID) (ro := ro26) (H := h26) (fn := Try.f26) (code := bodyOf Try.f26) mixed (tabOk26) Try.func26 rfl (by kernel_rfl) (loops_of (L := []) (by kernel_rfl) (lnil)) (fun x => by kernel_rfl)
/-! 15: pantograph/rat.Norm -/
noncomputable def tab15 : Tab := [(26, .d ⟨[.ty .bool, .ty (.sl (.int .u32)), .ty (.sl (.int .u32))], [tyRat], fun x => rat_Of x.1 x.2.1 x.2.2⟩)]
theorem tabOk15 : TabOk Try.prog (tab15) := tabOk_cons ok26 (tabOk_nil _)
def ro15 : Nat → Bool := fun s => Nat.beq s 1
noncomputable def h15 : Hints := { loop := fun id => none, cut := fun k r => none, frz := fun r => [] }
theorem ok15 : FnOk Try.prog 15 ⟨[.ty tyRat], [tyRat], fun x => rat_Norm x⟩ :=
  fn_ok (xid := XID) (ro := ro15) (H := h15) (fn := Try.f15) (code := bodyOf Try.f15) mixed (tabOk15) Try.func15 rfl (by kernel_rfl) (loops_of (L := []) (by kernel_rfl) (lnil)) (fun x => by kernel_rfl)
/-! 28: pantograph/dec.sign -/
noncomputable def tab28 : Tab := []
theorem tabOk28 : TabOk Try.prog (tab28) := tabOk_nil _
def ro28 : Nat → Bool := fun s => Nat.beq s 1
noncomputable def h28 : Hints := { loop := fun id => none, cut := fun k r => none, frz := fun r => [] }
theorem ok28 : FnOk Try.prog 28 ⟨[.ty tyRat], [.str], fun x => dec_sign x⟩ :=
  fn_ok (xid := XID) (ro := ro28) (H := h28) (fn := Try.f28) (code := bodyOf Try.f28) mixed (tabOk28) Try.func28 rfl (by kernel_rfl) (loops_of (L := []) (by kernel_rfl) (lnil)) (fun x => by kernel_rfl)
/-! 40: slices.Reverse[[]byte,byte] -/
noncomputable def tab40 : Tab := []
theorem tabOk40 : TabOk Try.prog (tab40) := tabOk_nil _
def ro40 : Nat → Bool := fun s => false
noncomputable def lp40_0 : LoopD := { gh := [], ps := [], sh := ⟨[.s 0 (.sub 0 (.int .u8)), .s 2 (.imm (.int .i64)), .s 3 (.imm (.int .i64)), .a (.int .u8)], [], [.arr (.int .u8)]⟩, ws := [⟨.exit 0, ⟨[.a (.int .u8)], [], [.arr (.int .u8)]⟩⟩], F := fun p s => slices_Reverse_sl_byte_S_L0  s }
noncomputable def h40 : Hints := { loop := fun id => bif Nat.beq id 0 then some (lp40_0) else none, cut := fun k r => none, frz := fun r => [] }
theorem lo40_0 : LoopOkK Try.prog Try.f40.ntmps (lp40_0) (lb 0 Try.f40) :=
  loop_ok (xid := XID) (ro := ro40) (H := h40) mixed (tabOk40) (loops_of (L := []) (by kernel_rfl) (lnil)) (fun p s => slices_Reverse_sl_byte_S_R0  s) (fun p s => by kernel_rfl) (fun p s => rfl)
theorem ok40 : FnSOk Try.prog 40 ⟨[.sub], ⟨[.s 0 (.sub 0 (.int .u8)), .a (.int .u8)], [], [.arr (.int .u8)]⟩, [], ⟨[.a (.int .u8)], [], [.arr (.int .u8)]⟩, 0, fun x => slices_Reverse_sl_byte_S x.1 x.2⟩ :=
  fns_ok (xid := XID) (ro := ro40) (H := h40) (fn := Try.f40) (code := bodyOf Try.f40) mixed (tabOk40) Try.func40 rfl (by kernel_rfl) (loops_of (L := [(0, lb 0 Try.f40)]) (by kernel_rfl) (lcons rfl (lo40_0) (lnil))) (fun x => by kernel_rfl)
/-! 29: pantograph/nat.Print -/
noncomputable def tab29 : Tab := [(40, .s ⟨[.sub], ⟨[.s 0 (.sub 0 (.int .u8)), .a (.int .u8)], [], [.arr (.int .u8)]⟩, [], ⟨[.a (.int .u8)], [], [.arr (.int .u8)]⟩, 0, fun x => slices_Reverse_sl_byte_S x.1 x.2⟩), (35, .d ⟨[.ty (.sl (.int .u32))], [(.sl (.int .u32))], fun x => nat_Trim x⟩), (39, .d ⟨[.ty (.sl (.int .u32)), .ty (.int .u32)], [(.sl (.int .u32)), (.int .u32)], fun x => nat_small x.1 x.2⟩)]
theorem tabOk29 : TabOk Try.prog (tab29) := tabOk_consS ok40 (tabOk_cons ok35 (tabOk_cons ok39 (tabOk_nil _)))
def ro29 : Nat → Bool := fun s => false
noncomputable def lp29_2 : LoopD := { gh := [], ps := [.s 4 (.imm (.sl (.int .u32)))], sh := ⟨[.s 5 (.imm (.int .u32)), .s 19 (.imm (.int .i64)), .a (.int .u8)], [(3, .cur 0 (.int .u8))], [.arr (.int .u8)]⟩, ws := [⟨.exit 2, ⟨[.a (.int .u8)], [(3, .cur 0 (.int .u8))], [.arr (.int .u8)]⟩⟩], F := fun p s => nat_Print_L1 p s }
noncomputable def lp29_0 : LoopD := { gh := [.slot 3 (.int .u8)], ps := [], sh := ⟨[.s 0 (.imm (.sl (.int .u32))), .a (.int .u8)], [(3, .cur 0 (.int .u8))], [.arr (.int .u8)]⟩, ws := [⟨.exit 0, ⟨[.a (.int .u8)], [(3, .cur 0 (.int .u8))], [.arr (.int .u8)]⟩⟩], F := fun p s => nat_Print_L0  s }
noncomputable def lp29_4 : LoopD := { gh := [], ps := [], sh := ⟨[.s 3 (.sub 0 (.int .u8)), .a (.int .u8)], [], [.arr (.int .u8)]⟩, ws := [⟨.exit 4, ⟨[.s 3 (.sub 0 (.int .u8)), .a (.int .u8)], [], [.arr (.int .u8)]⟩⟩], F := fun p s => nat_Print_L2  s }
noncomputable def h29 : Hints := { loop := fun id => bif Nat.beq id 2 then some (lp29_2) else bif Nat.beq id 0 then some (lp29_0) else bif Nat.beq id 4 then some (lp29_4) else none, cut := fun k r => bif Nat.beq k 0 && Nat.beq r 13 then some (.flat [.s 42 (.imm .bool)]) else none, frz := fun r => [] }
theorem lo29_2 : LoopOkK Try.prog Try.f29.ntmps (lp29_2) (lb 2 Try.f29) :=
  loop_ok (xid := XID) (ro := ro29) (H := h29) mixed (tabOk29) (loops_of (L := []) (by kernel_rfl) (lnil)) (fun p s => nat_Print_R1 p s) (fun p s => by kernel_rfl) (fun p s => rfl)
theorem lo29_0 : LoopOkK Try.prog Try.f29.ntmps (lp29_0) (lb 0 Try.f29) :=
  loop_ok (xid := XID) (ro := ro29) (H := h29) mixed (tabOk29) (loops_of (L := [(2, lb 2 Try.f29)]) (by kernel_rfl) (lcons rfl (lo29_2) (lnil))) (fun p s => nat_Print_R0  s) (fun p s => by kernel_rfl) (fun p s => rfl)
theorem lo29_4 : LoopOkK Try.prog Try.f29.ntmps (lp29_4) (lb 4 Try.f29) :=
  loop_ok (xid := XID) (ro := ro29) (H := h29) mixed (tabOk29) (loops_of (L := []) (by kernel_rfl) (lnil)) (fun p s => nat_Print_R2  s) (fun p s => by kernel_rfl) (fun p s => rfl)
theorem ok29 : FnOk Try.prog 29 ⟨[.ty (.sl (.int .u32))], [.str], fun x => nat_Print x⟩ :=
  fn_ok (xid := XID) (ro := ro29) (H := h29) (fn := Try.f29) (code := bodyOf Try.f29) mixed (tabOk29) Try.func29 rfl (by kernel_rfl) (loops_of (L := [(0, lb 0 Try.f29), (4, lb 4 Try.f29)]) (by kernel_rfl) (lcons rfl (lo29_0) (lcons rfl (lo29_4) (lnil)))) (fun x => by kernel_rfl)
/-! 17: pantograph/dec.Print -/
noncomputable def tab17 : Tab := [(15, .d ⟨[.ty tyRat], [tyRat], fun x => rat_Norm x⟩), (28, .d ⟨[.ty tyRat], [.str], fun x => dec_sign x⟩), (29, .d ⟨[.ty (.sl (.int .u32))], [.str], fun x => nat_Print x⟩), (25, .d ⟨[.ty (.int .u64)], [(.sl (.int .u32))], fun x => nat_Of x⟩), (30, .d ⟨[.ty (.sl (.int .u32)), .ty (.sl (.int .u32))], [(.int .i64)], fun x => nat_Cmp x.1 x.2⟩)]
theorem tabOk17 : TabOk Try.prog (tab17) := tabOk_cons ok15 (tabOk_cons ok28 (tabOk_cons ok29 (tabOk_cons ok25 (tabOk_cons ok30 (tabOk_nil _)))))
def ro17 : Nat → Bool := fun s => false
noncomputable def h17 : Hints := { loop := fun id => none, cut := fun k r => none, frz := fun r => [] }
theorem ok17 : FnOk Try.prog 17 ⟨[.ty tyRat], [.str], fun x => dec_Print x⟩ :=
  fn_ok (xid := XID) (ro := ro17) (H := h17) (fn := Try.f17) (code := bodyOf Try.f17) mixed (tabOk17) Try.func17 rfl (by kernel_rfl) (loops_of (L := []) (by kernel_rfl) (lnil)) (fun x => by kernel_rfl)
/-! 27: (*strings.Builder).copyCheck, by hand -/
end Go.AM.Lf
namespace Go.Proofs
section
open Go.RowKit
attribute [local go_sem] Oper.semAt_some
set_option maxRecDepth 100000
set_option maxHeartbeats 2000000
theorem Bld.size : (Try.prog.info? 76).map (·.size) = some 2 := by kernel_rfl
theorem Bld.pt : Try.prog.underlying 73 = some (.pointer 76) := by kernel_rfl
theorem Bld.up : Try.prog.underlying 104 = some .unsafePointer := by kernel_rfl
theorem Bld.used (b : Nat) (w : World) (h0 : w.cell? ⟨b, 0, none⟩ = some (.pointer (some ⟨b, 0, none⟩))) :
    Calls Try.prog 27 #[.pointer (some ⟨b, 0, none⟩)] w fun e w' => e = .returned (.tuple #[]) ∧ w' = w := by
  obtain ⟨j, hj, hjs⟩ := Option.map_eq_some_iff.1 Bld.size
  go_enter Try.func27, Try.ntmps27
  go_wp2
  rw [Lib.run_neq_ptr_same w _ Bld.pt hj]
  go_wp2
  go_end0
  exact ⟨rfl, rfl⟩
theorem Bld.fresh (b : Nat) (w : World) (h0 : w.cell? ⟨b, 0, none⟩ = some (.pointer none)) (hsh : w.shape? b = some (76, 2)) (hfz : w.frozen? ⟨b, 0, none⟩ = false) :
    Calls Try.prog 27 #[.pointer (some ⟨b, 0, none⟩)] w fun e w' => e = .returned (.tuple #[]) ∧ w' = w.setCell ⟨b, 0, none⟩ (.pointer (some ⟨b, 0, none⟩)) := by
  obtain ⟨j, hj, hjs⟩ := Option.map_eq_some_iff.1 Bld.size
  go_enter Try.func27, Try.ntmps27
  go_wp2
  rw [Lib.run_to_unsafe w ⟨b, 0, none⟩ Bld.pt Bld.up hj (by rw [hjs]; decide) hsh (Nat.zero_lt_succ 1)]
  simp only [Result.andThen]
  rw [Oper.upon_value]
  go_wp2
  rw [run_callFunc_extern Try.func38 (by kernel_rfl) (by kernel_rfl) (by kernel_rfl) (e := Extern.AbiNoEscape.same) (by kernel_rfl)]
  rw [Lib.run_noEscape]
  simp only [Result.andThen]
  rw [Oper.upon_value]
  go_wp2
  rw [Lib.run_from_unsafe w ⟨b, 0, none⟩ Bld.up Bld.pt hj hsh (by kernel_rfl)]
  simp only [Result.andThen]
  rw [Oper.upon_value]
  go_wp2
  go_end0
  exact ⟨rfl, rfl⟩
end
end Go.Proofs

namespace Go.AM.Lf
open Go.Proofs
theorem ok27 : FnSOk Try.prog 27 ⟨[.ptr], ⟨[.v (.st [.op 0 76, .row 1 (.int .u8)]), .a (.int .u8)], [(0, .ptr 0 0)], [.var (.st [.op 0 76, .row 1 (.int .u8)]), .arr (.int .u8)]⟩, [], ⟨[.v (.st [.op 0 76, .row 1 (.int .u8)]), .a (.int .u8)], [], [.var (.st [.op 0 76, .row 1 (.int .u8)]), .arr (.int .u8)]⟩, 0, fun x => bld_copyCheck x.1 x.2⟩ := copyCheck_ok (P := Try.prog) (g := 27) (t := 76) (enters_of Try.func27 (by kernel_rfl) rfl) Bld.used Bld.fresh
/-! 16: (*strings.Builder).WriteString -/
noncomputable def tab16 : Tab := [(27, .s ⟨[.ptr], ⟨[.v (.st [.op 0 76, .row 1 (.int .u8)]), .a (.int .u8)], [(0, .ptr 0 0)], [.var (.st [.op 0 76, .row 1 (.int .u8)]), .arr (.int .u8)]⟩, [], ⟨[.v (.st [.op 0 76, .row 1 (.int .u8)]), .a (.int .u8)], [], [.var (.st [.op 0 76, .row 1 (.int .u8)]), .arr (.int .u8)]⟩, 0, fun x => bld_copyCheck x.1 x.2⟩)]
theorem tabOk16 : TabOk Try.prog (tab16) := tabOk_consS ok27 (tabOk_nil _)
def ro16 : Nat → Bool := fun s => false
noncomputable def h16 : Hints := { loop := fun id => none, cut := fun k r => none, frz := fun r => [] }
theorem ok16 : FnSOk Try.prog 16 ⟨[.ptr, .any], ⟨[.s 1 (.imm .str), .v (.st [.op 0 76, .row 1 (.int .u8)]), .a (.int .u8)], [(0, .ptr 0 0)], [.var (.st [.op 0 76, .row 1 (.int .u8)]), .arr (.int .u8)]⟩, [.pcell 0 1 (.int .u8)], ⟨[.s 0 (.imm (.int .i64)), .v (.st [.op 0 76, .row 1 (.int .u8)]), .a (.int .u8)], [(1, .niface)], [.var (.st [.op 0 76, .row 1 (.int .u8)]), .arr (.int .u8)]⟩, 2, fun x => strings_Builder_WriteString_S x.1 x.2.1 x.2.2⟩ :=
  fns_ok (xid := XID) (ro := ro16) (H := h16) (fn := Try.f16) (code := bodyOf Try.f16) mixed (tabOk16) Try.func16 rfl (by kernel_rfl) (loops_of (L := []) (by kernel_rfl) (lnil)) (fun x => by kernel_rfl)
/-! 18: (*strings.Builder).String, by hand -/
end Go.AM.Lf
namespace Go.Proofs
section
open Go.RowKit
attribute [local go_sem] Oper.semAt_some
set_option maxRecDepth 100000
set_option maxHeartbeats 2000000
theorem Bld.mixed : Try.prog.follows .mixedOrders = true := by kernel_rfl
theorem Bld.pb : Try.prog.underlying 96 = some (.pointer 5) := by kernel_rfl
theorem Bld.c5 : Try.prog.cellsOf 5 = 1 := by kernel_rfl
theorem Bld.none0 (W : World) (q : Option Addr) : (Builtin.unsafeString_ #[96, 3] 9 #[.pointer q, .int .i64 0]).run Try.prog W = .ok (.string .empty) W := Lib.run_unsafeString_none W _ _ _ q
theorem Bld.nil (b : Nat) (p : Value) (w : World) (hbk : w.heap[b]? = some (.cells #[p, .slice none 0 0] 76 (0, 0))) :
    Calls Try.prog 18 #[.pointer (some ⟨b, 0, none⟩)] w fun e w' => e = .returned (.string ⟨#[]⟩) ∧ w' = w.drew := by
  have hUS := Bld.none0
  have c1 : w.drew.cell? ⟨b, 1, none⟩ = some (.slice none 0 0) := by
    have : w.drew.heap[b]? = some (.cells #[p, .slice none 0 0] 76 (0, 0)) := hbk
    rw [Lib.cell_of_heap this]; rfl
  have hSD : (Builtin.unsafeSliceData_ #[74] 96 #[.slice none 0 0]).run Try.prog w.drew = .ok (.pointer none) w.drew := rfl
  have mixed : Try.prog.follows .mixedOrders = true := Bld.mixed
  go_enter Try.func18, Try.ntmps18
  go_wp2
  go_region_o
  all_goals (go_wp2; go_ret; exact ⟨rfl, rfl⟩)
theorem Bld.room (b g o cap : Nat) (p : Value) (w : World) (hc0 : cap ≠ 0) (hbk : w.heap[b]? = some (.cells #[p, .slice (some ⟨g, o, none⟩) 0 cap] 76 (0, 0))) :
    Calls Try.prog 18 #[.pointer (some ⟨b, 0, none⟩)] w fun e w' => e = .returned (.string ⟨#[]⟩) ∧ w' = w.drew := by
  have hUS := Bld.none0
  have c1 : w.drew.cell? ⟨b, 1, none⟩ = some (.slice (some ⟨g, o, none⟩) 0 cap) := by
    have : w.drew.heap[b]? = some (.cells #[p, .slice (some ⟨g, o, none⟩) 0 cap] 76 (0, 0)) := hbk
    rw [Lib.cell_of_heap this]; rfl
  have hSD : (Builtin.unsafeSliceData_ #[74] 96 #[.slice (some ⟨g, o, none⟩) 0 cap]).run Try.prog w.drew = .ok (.pointer (some ⟨g, o, none⟩)) w.drew :=
    Lib.run_unsafeSliceData_row _ _ _ _ _ _ hc0
  clear hc0
  have mixed : Try.prog.follows .mixedOrders = true := Bld.mixed
  go_enter Try.func18, Try.ntmps18
  go_wp2
  go_region_o
  all_goals (go_wp2; go_ret; exact ⟨rfl, rfl⟩)
theorem Bld.full (b g cap : Nat) (p : Value) (cur : Array Value) (l : List UInt8) (w : World) (h0 : l ≠ []) (hcap : l.length ≤ cap) (hmax : l.length ≤ 140737488355328) (hbk : w.heap[b]? = some (.cells #[p, .slice (some ⟨g, 0, none⟩) l.length cap] 76 (0, 0)))
    (hg : w.heap[g]? = some (.cells cur 5 (0, 0))) (hcur : l.length ≤ cur.size) (hcell : ∀ j x, l[j]? = some x → w.cell? ⟨g, j, none⟩ = some (.int .u8 x.toNat)) :
    Calls Try.prog 18 #[.pointer (some ⟨b, 0, none⟩)] w fun e w' => e = .returned (.string ⟨l.toArray⟩) ∧ w' = w.drew.freeze ⟨g, 0, none⟩ l.length := by
  have hl0 : l.length ≠ 0 := by simpa using h0
  have c1 : w.drew.cell? ⟨b, 1, none⟩ = some (.slice (some ⟨g, 0, none⟩) l.length cap) := by
    have : w.drew.heap[b]? = some (.cells #[p, .slice (some ⟨g, 0, none⟩) l.length cap] 76 (0, 0)) := hbk
    rw [Lib.cell_of_heap this]; rfl
  have hSD : (Builtin.unsafeSliceData_ #[74] 96 #[.slice (some ⟨g, 0, none⟩) l.length cap]).run Try.prog w.drew = .ok (.pointer (some ⟨g, 0, none⟩)) w.drew :=
    Lib.run_unsafeSliceData_row _ _ _ _ _ _ (by omega)
  have hUS : (Builtin.unsafeString_ #[96, 3] 9 #[.pointer (some ⟨g, 0, none⟩), .int .i64 l.length]).run Try.prog w.drew = .ok (.string ⟨l.toArray⟩) (w.drew.freeze ⟨g, 0, none⟩ l.length) := by
    refine Lib.run_unsafeString_row w.drew 96 3 9 5 Bld.pb Bld.c5 g cur.size (by have hg' : w.drew.heap[g]? = some (.cells cur 5 (0, 0)) := hg; simp [World.shape?, hg']) l h0 (by omega) (by omega) ?_
    intro j x hx
    have e : (⟨g, 0, none⟩ : Addr).add j = ⟨g, j, none⟩ := by unfold Addr.add; split <;> simp_all
    rw [e]
    exact hcell j x hx
  have mixed : Try.prog.follows .mixedOrders = true := Bld.mixed
  go_enter Try.func18, Try.ntmps18
  go_wp2
  go_region_o
  all_goals (go_wp2; go_ret; exact ⟨rfl, rfl⟩)
theorem Bld.noroom (b g o : Nat) (p : Value) (cur : Array Value) (w : World) (hbk : w.heap[b]? = some (.cells #[p, .slice (some ⟨g, o, none⟩) 0 0] 76 (0, 0))) (hg : w.heap[g]? = some (.cells cur 5 (0, 0))) :
    Calls Try.prog 18 #[.pointer (some ⟨b, 0, none⟩)] w fun e w' => e = .returned (.string ⟨#[]⟩) ∧ w' = w.drew.alloc (.view ⟨g, o, none⟩ 5) := by
  have hUS := Bld.none0
  have hlt : b < w.heap.size := by
    rcases Nat.lt_or_ge b w.heap.size with h' | h'
    · exact h'
    · simp [Array.getElem?_eq_none h'] at hbk
  have c1 : w.drew.cell? ⟨b, 1, none⟩ = some (.slice (some ⟨g, o, none⟩) 0 0) := by
    have : w.drew.heap[b]? = some (.cells #[p, .slice (some ⟨g, o, none⟩) 0 0] 76 (0, 0)) := hbk
    rw [Lib.cell_of_heap this]; rfl
  have hSD : (Builtin.unsafeSliceData_ #[74] 96 #[.slice (some ⟨g, o, none⟩) 0 0]).run Try.prog w.drew = .ok (.pointer (some ⟨w.drew.heap.size, 0, none⟩)) (w.drew.alloc (.view ⟨g, o, none⟩ 5)) :=
    Lib.run_unsafeSliceData_zero w.drew _ _ 5 Bld.pb ⟨g, o, none⟩ 0 (5, cur.size) (by have hg' : w.drew.heap[g]? = some (.cells cur 5 (0, 0)) := hg; simp [World.shape?, hg'])
  have c2 : (w.drew.alloc (.view ⟨g, o, none⟩ 5)).cell? ⟨b, 1, none⟩ = some (.slice (some ⟨g, o, none⟩) 0 0) := by
    have : (w.drew.alloc (.view ⟨g, o, none⟩ 5)).heap[b]? = _ := (Lib.alloc_old w.drew _ b hlt).trans hbk
    rw [Lib.cell_of_heap this]; rfl
  have c3 : (w.alloc (.view ⟨g, o, none⟩ 5)).drew.cell? ⟨b, 1, none⟩ = some (.slice (some ⟨g, o, none⟩) 0 0) := c2
  have c0 : w.cell? ⟨b, 1, none⟩ = some (.slice (some ⟨g, o, none⟩) 0 0) := c1
  have mixed : Try.prog.follows .mixedOrders = true := Bld.mixed
  go_enter Try.func18, Try.ntmps18
  go_wp2
  go_region_o
  all_goals (go_wp2; go_ret; exact ⟨rfl, rfl⟩)
end
end Go.Proofs

namespace Go.AM.Lf
open Go.Proofs
theorem ok18 : FnSOk Try.prog 18 ⟨[.ptr], ⟨[.v (.st [.op 0 76, .row 1 (.int .u8)]), .a (.int .u8)], [(0, .ptr 0 0)], [.var (.st [.op 0 76, .row 1 (.int .u8)]), .arr (.int .u8)]⟩, [], ⟨[.s 0 (.imm .str), .v (.st [.op 0 76, .un])], [], [.var (.st [.op 0 76, .un]), .dead]⟩, 1, fun x => bld_String x.1 x.2⟩ := string_ok (P := Try.prog) (g := 18) (t := 76) (enters_of Try.func18 (by kernel_rfl) rfl) Bld.nil Bld.room Bld.full Bld.noroom
/-! 10: pantograph/record.Encode -/
noncomputable def tab10 : Tab := [(16, .s ⟨[.ptr, .any], ⟨[.s 1 (.imm .str), .v (.st [.op 0 76, .row 1 (.int .u8)]), .a (.int .u8)], [(0, .ptr 0 0)], [.var (.st [.op 0 76, .row 1 (.int .u8)]), .arr (.int .u8)]⟩, [.pcell 0 1 (.int .u8)], ⟨[.s 0 (.imm (.int .i64)), .v (.st [.op 0 76, .row 1 (.int .u8)]), .a (.int .u8)], [(1, .niface)], [.var (.st [.op 0 76, .row 1 (.int .u8)]), .arr (.int .u8)]⟩, 2, fun x => strings_Builder_WriteString_S x.1 x.2.1 x.2.2⟩), (18, .s ⟨[.ptr], ⟨[.v (.st [.op 0 76, .row 1 (.int .u8)]), .a (.int .u8)], [(0, .ptr 0 0)], [.var (.st [.op 0 76, .row 1 (.int .u8)]), .arr (.int .u8)]⟩, [], ⟨[.s 0 (.imm .str), .v (.st [.op 0 76, .un])], [], [.var (.st [.op 0 76, .un]), .dead]⟩, 1, fun x => bld_String x.1 x.2⟩), (17, .d ⟨[.ty tyRat], [.str], fun x => dec_Print x⟩)]
theorem tabOk10 : TabOk Try.prog (tab10) := tabOk_consS ok16 (tabOk_consS ok18 (tabOk_cons ok17 (tabOk_nil _)))
def ro10 : Nat → Bool := fun s => false
noncomputable def lp10_0 : LoopD := { gh := [.cell 0 1 (.int .u8)], ps := [.s 6 (.imm (.sl tyParam)), .s 7 (.imm (.int .i64))], sh := ⟨[.s 8 (.imm (.int .i64)), .v (.st [.op 0 76, .row 1 (.int .u8)]), .a (.int .u8)], [(3, .ptr 0 0)], [.var (.st [.op 0 76, .row 1 (.int .u8)]), .arr (.int .u8)]⟩, ws := [⟨.exit 0, ⟨[.v (.st [.op 0 76, .row 1 (.int .u8)]), .a (.int .u8)], [], [.var (.st [.op 0 76, .row 1 (.int .u8)]), .arr (.int .u8)]⟩⟩], F := fun p s => record_Encode_L0 p.1 p.2 s }
noncomputable def h10 : Hints := { loop := fun id => bif Nat.beq id 0 then some (lp10_0) else none, cut := fun k r => none, frz := fun r => [] }
theorem lo10_0 : LoopOkK Try.prog Try.f10.ntmps (lp10_0) (lb 0 Try.f10) :=
  loop_ok (xid := XID) (ro := ro10) (H := h10) mixed (tabOk10) (loops_of (L := []) (by kernel_rfl) (lnil)) (fun p s => record_Encode_R0 p.1 p.2 s) (fun p s => by kernel_rfl) (fun p s => rfl)
theorem ok10 : FnOk Try.prog 10 ⟨[.ty (.sl tyParam)], [.str], fun x => record_Encode x⟩ :=
  fn_ok (xid := XID) (ro := ro10) (H := h10) (fn := Try.f10) (code := bodyOf Try.f10) mixed (tabOk10) Try.func10 rfl (by kernel_rfl) (loops_of (L := [(0, lb 0 Try.f10)]) (by kernel_rfl) (lcons rfl (lo10_0) (lnil))) (fun x => by kernel_rfl)
/-! 5: pantograph/pantographlaw21.known -/
noncomputable def tab5 : Tab := [(10, .d ⟨[.ty (.sl tyParam)], [.str], fun x => record_Encode x⟩)]
theorem tabOk5 : TabOk Try.prog (tab5) := tabOk_cons ok10 (tabOk_nil _)
def ro5 : Nat → Bool := fun s => false
noncomputable def h5 : Hints := { loop := fun id => none, cut := fun k r => none, frz := fun r => [] }
theorem ok5 : FnOk Try.prog 5 ⟨[], [.bool], fun _ => law21_known⟩ :=
  fn_ok (xid := XID) (ro := ro5) (H := h5) (fn := Try.f5) (code := bodyOf Try.f5) mixed (tabOk5) Try.func5 rfl (by kernel_rfl) (loops_of (L := []) (by kernel_rfl) (lnil)) (fun x => by kernel_rfl)
/-! 19: pantograph/elab.Fields -/
noncomputable def tab19 : Tab := []
theorem tabOk19 : TabOk Try.prog (tab19) := tabOk_nil _
def ro19 : Nat → Bool := fun s => Nat.beq s 1
noncomputable def lp19_0 : LoopD := { gh := [.slot 3 .str], ps := [.s 7 (.imm (.sl tyField)), .s 8 (.imm (.int .i64))], sh := ⟨[.s 9 (.imm (.int .i64)), .a .str], [(3, .cur 0 .str)], [.arr .str]⟩, ws := [⟨.exit 0, ⟨[.a .str], [(3, .cur 0 .str)], [.arr .str]⟩⟩], F := fun p s => elab_Fields_L0 p.1 p.2 s }
noncomputable def h19 : Hints := { loop := fun id => bif Nat.beq id 0 then some (lp19_0) else none, cut := fun k r => none, frz := fun r => [] }
theorem lo19_0 : LoopOkK Try.prog Try.f19.ntmps (lp19_0) (lb 0 Try.f19) :=
  loop_ok (xid := XID) (ro := ro19) (H := h19) mixed (tabOk19) (loops_of (L := []) (by kernel_rfl) (lnil)) (fun p s => elab_Fields_R0 p.1 p.2 s) (fun p s => by kernel_rfl) (fun p s => rfl)
theorem ok19 : FnOk Try.prog 19 ⟨[.ty tyForm], [(.sl .str)], fun x => elab_Fields x⟩ :=
  fn_ok (xid := XID) (ro := ro19) (H := h19) (fn := Try.f19) (code := bodyOf Try.f19) mixed (tabOk19) Try.func19 rfl (by kernel_rfl) (loops_of (L := [(0, lb 0 Try.f19)]) (by kernel_rfl) (lcons rfl (lo19_0) (lnil))) (fun x => by kernel_rfl)
/-! 20: slices.Clone[[]pantograph/api.Rat,pantograph/api.Rat] -/
noncomputable def tab20 : Tab := []
theorem tabOk20 : TabOk Try.prog (tab20) := tabOk_nil _
def ro20 : Nat → Bool := fun s => false
noncomputable def h20 : Hints := { loop := fun id => none, cut := fun k r => bif Nat.beq k 0 && Nat.beq r 1 then some (.nilt) else none, frz := fun r => [] }
theorem ok20 : FnOk Try.prog 20 ⟨[.ty (.sl tyRat)], [(.sl tyRat)], fun x => slices_Clone_sl_Rat x⟩ :=
  fn_ok (xid := XID) (ro := ro20) (H := h20) (fn := Try.f20) (code := bodyOf Try.f20) mixed (tabOk20) Try.func20 rfl (by kernel_rfl) (loops_of (L := []) (by kernel_rfl) (lnil)) (fun x => by kernel_rfl)
/-! 11: pantograph/elab.Env -/
noncomputable def tab11 : Tab := [(19, .d ⟨[.ty tyForm], [(.sl .str)], fun x => elab_Fields x⟩), (20, .d ⟨[.ty (.sl tyRat)], [(.sl tyRat)], fun x => slices_Clone_sl_Rat x⟩)]
theorem tabOk11 : TabOk Try.prog (tab11) := tabOk_cons ok19 (tabOk_cons ok20 (tabOk_nil _))
def ro11 : Nat → Bool := fun s => Nat.beq s 2
noncomputable def lp11_0 : LoopD := { gh := [.cell 0 0 .str, .cell 0 1 .str, .cell 1 1 .str], ps := [.s 14 (.imm (.sl tyParam)), .s 15 (.imm (.int .i64))], sh := ⟨[.s 16 (.imm (.int .i64)), .v (.st [.row 2 .str, .row 3 .str, .im (.sl tyRat)]), .v (.st [.im (.sl .str), .row 4 .str, .im (.sl tyRat)]), .a .str, .a .str, .a .str], [(4, .ptr 0 0), (5, .ptr 1 0)], [.var (.st [.row 2 .str, .row 3 .str, .im (.sl tyRat)]), .var (.st [.im (.sl .str), .row 4 .str, .im (.sl tyRat)]), .arr .str, .arr .str, .arr .str]⟩, ws := [⟨.exit 0, ⟨[.v (.st [.row 2 .str, .row 3 .str, .im (.sl tyRat)]), .v (.st [.im (.sl .str), .row 4 .str, .im (.sl tyRat)]), .a .str, .a .str, .a .str], [], [.var (.st [.row 2 .str, .row 3 .str, .im (.sl tyRat)]), .var (.st [.im (.sl .str), .row 4 .str, .im (.sl tyRat)]), .arr .str, .arr .str, .arr .str]⟩⟩], F := fun p s => elab_Env_L0 p.1 p.2 s }
noncomputable def h11 : Hints := { loop := fun id => bif Nat.beq id 0 then some (lp11_0) else none, cut := fun k r => none, frz := fun r => [] }
theorem lo11_0 : LoopOkK Try.prog Try.f11.ntmps (lp11_0) (lb 0 Try.f11) :=
  loop_ok (xid := XID) (ro := ro11) (H := h11) mixed (tabOk11) (loops_of (L := []) (by kernel_rfl) (lnil)) (fun p s => elab_Env_R0 p.1 p.2 s) (fun p s => by kernel_rfl) (fun p s => rfl)
theorem ok11 : FnOk Try.prog 11 ⟨[.ty tyForm, .ty (.sl tyRat)], [tyaff_Env], fun x => elab_Env x.1 x.2⟩ :=
  fn_ok (xid := XID) (ro := ro11) (H := h11) (fn := Try.f11) (code := bodyOf Try.f11) mixed (tabOk11) Try.func11 rfl (by kernel_rfl) (loops_of (L := [(0, lb 0 Try.f11)]) (by kernel_rfl) (lcons rfl (lo11_0) (lnil))) (fun x => by kernel_rfl)
/-! 22: pantograph/page.Relevant$1 -/
noncomputable def tab22 : Tab := []
theorem tabOk22 : TabOk Try.prog (tab22) := tabOk_nil _
def ro22 : Nat → Bool := fun s => Nat.beq s 2
noncomputable def h22 : Hints := { loop := fun id => none, cut := fun k r => none, frz := fun r => [] }
theorem ok22 : FnOk Try.prog 22 ⟨[.ty tySwitch, .rp tyPage], [.bool], fun x => page_Relevant_f1 x.1 x.2⟩ :=
  fn_ok (xid := XID) (ro := ro22) (H := h22) (fn := Try.f22) (code := bodyOf Try.f22) mixed (tabOk22) Try.func22 rfl (by kernel_rfl) (loops_of (L := []) (by kernel_rfl) (lnil)) (fun x => by kernel_rfl)
/-! 21: slices.IndexFunc[[]pantograph/api.Switch,pantograph/api.Switch] -/
noncomputable def tab21 : Tab := [(22, .d ⟨[.ty tySwitch, .rp tyPage], [.bool], fun x => page_Relevant_f1 x.1 x.2⟩)]
theorem tabOk21 : TabOk Try.prog (tab21) := tabOk_cons ok22 (tabOk_nil _)
def ro21 : Nat → Bool := fun s => false
noncomputable def lp21_0 : LoopD := { gh := [], ps := [.s 0 (.imm (.sl tySwitch)), .s 1 (.clo 22 [.rp tyPage]), .s 7 (.imm (.int .i64))], sh := ⟨[.s 8 (.imm (.int .i64))], [], []⟩, ws := [⟨.exit 0, ⟨[], [], []⟩⟩, ⟨.ret, ⟨[.s 4 (.imm (.int .i64))], [], []⟩⟩], F := fun p s => slices_IndexFunc_sl_Switch_L0 p.1 (fun z0 => page_Relevant_f1 z0 p.2.1) p.2.2 s }
noncomputable def h21 : Hints := { loop := fun id => bif Nat.beq id 0 then some (lp21_0) else none, cut := fun k r => none, frz := fun r => [] }
theorem lo21_0 : LoopOkK Try.prog Try.f21.ntmps (lp21_0) (lb 0 Try.f21) :=
  loop_ok (xid := XID) (ro := ro21) (H := h21) mixed (tabOk21) (loops_of (L := []) (by kernel_rfl) (lnil)) (fun p s => slices_IndexFunc_sl_Switch_R0 p.1 (fun z0 => page_Relevant_f1 z0 p.2.1) p.2.2 s) (fun p s => by kernel_rfl) (fun p s => rfl)
theorem ok21 : FnOk Try.prog 21 ⟨[.ty (.sl tySwitch), .clo 22 [.rp tyPage]], [(.int .i64)], fun x => slices_IndexFunc_sl_Switch x.1 (fun z0 => page_Relevant_f1 z0 x.2)⟩ :=
  fn_ok (xid := XID) (ro := ro21) (H := h21) (fn := Try.f21) (code := bodyOf Try.f21) mixed (tabOk21) Try.func21 rfl (by kernel_rfl) (loops_of (L := [(0, lb 0 Try.f21)]) (by kernel_rfl) (lcons rfl (lo21_0) (lnil))) (fun x => by kernel_rfl)
/-! 12: pantograph/page.Relevant -/
noncomputable def tab12 : Tab := [(22, .d ⟨[.ty tySwitch, .rp tyPage], [.bool], fun x => page_Relevant_f1 x.1 x.2⟩), (21, .d ⟨[.ty (.sl tySwitch), .clo 22 [.rp tyPage]], [(.int .i64)], fun x => slices_IndexFunc_sl_Switch x.1 (fun z0 => page_Relevant_f1 z0 x.2)⟩)]
theorem tabOk12 : TabOk Try.prog (tab12) := tabOk_cons ok22 (tabOk_cons ok21 (tabOk_nil _))
def ro12 : Nat → Bool := fun s => Nat.beq s 2
noncomputable def lp12_0 : LoopD := { gh := [.slot 5 .bool], ps := [.s 1 (.imm (.sl .bool)), .s 2 (.rptr tyForm), .s 10 (.imm (.sl tyPage)), .s 11 (.imm (.int .i64))], sh := ⟨[.s 12 (.imm (.int .i64)), .a .bool], [(5, .cur 0 .bool)], [.arr .bool]⟩, ws := [⟨.exit 0, ⟨[.a .bool], [(5, .cur 0 .bool)], [.arr .bool]⟩⟩], F := fun p s => page_Relevant_L0 p.1 p.2.1 p.2.2.1 p.2.2.2 s }
noncomputable def h12 : Hints := { loop := fun id => bif Nat.beq id 0 then some (lp12_0) else none, cut := fun k r => none, frz := fun r => [] }
theorem lo12_0 : LoopOkK Try.prog Try.f12.ntmps (lp12_0) (lb 0 Try.f12) :=
  loop_ok (xid := XID) (ro := ro12) (H := h12) mixed (tabOk12) (loops_of (L := []) (by kernel_rfl) (lnil)) (fun p s => page_Relevant_R0 p.1 p.2.1 p.2.2.1 p.2.2.2 s) (fun p s => by kernel_rfl) (fun p s => rfl)
theorem ok12 : FnOk Try.prog 12 ⟨[.ty tyForm, .ty (.sl .bool)], [(.sl .bool)], fun x => page_Relevant x.1 x.2⟩ :=
  fn_ok (xid := XID) (ro := ro12) (H := h12) (fn := Try.f12) (code := bodyOf Try.f12) mixed (tabOk12) Try.func12 rfl (by kernel_rfl) (loops_of (L := [(0, lb 0 Try.f12)]) (by kernel_rfl) (lcons rfl (lo12_0) (lnil))) (fun x => by kernel_rfl)
/-! 65: pantograph/expr.kids -/
noncomputable def tab65 : Tab := []
theorem tabOk65 : TabOk Try.prog (tab65) := tabOk_nil _
def ro65 : Nat → Bool := fun s => false
noncomputable def h65 : Hints := { loop := fun id => none, cut := fun k r => bif Nat.beq k 3 && Nat.beq r 2 then some (.flat [.s 4 (.imm .bool)]) else none, frz := fun r => [] }
theorem ok65 : FnOk Try.prog 65 ⟨[.ty (.int .i64)], [(.int .i64)], fun x => expr_kids x⟩ :=
  fn_ok (xid := XID) (ro := ro65) (H := h65) (fn := Try.f65) (code := bodyOf Try.f65) mixed (tabOk65) Try.func65 rfl (by kernel_rfl) (loops_of (L := []) (by kernel_rfl) (lnil)) (fun x => by kernel_rfl)
/-! 73: pantograph/rat.Is -/
noncomputable def tab73 : Tab := [(47, .d ⟨[.ty (.sl (.int .u32))], [.bool], fun x => nat_Is x⟩), (36, .d ⟨[.ty (.sl (.int .u32)), .ty (.sl (.int .u32))], [(.sl (.int .u32))], fun x => nat_Gcd x.1 x.2⟩), (25, .d ⟨[.ty (.int .u64)], [(.sl (.int .u32))], fun x => nat_Of x⟩), (30, .d ⟨[.ty (.sl (.int .u32)), .ty (.sl (.int .u32))], [(.int .i64)], fun x => nat_Cmp x.1 x.2⟩)]
theorem tabOk73 : TabOk Try.prog (tab73) := tabOk_cons ok47 (tabOk_cons ok36 (tabOk_cons ok25 (tabOk_cons ok30 (tabOk_nil _))))
def ro73 : Nat → Bool := fun s => Nat.beq s 1
noncomputable def h73 : Hints := { loop := fun id => none, cut := fun k r => bif Nat.beq k 0 && Nat.beq r 1 then some (.ways [⟨.normal, ⟨[.s 28 (.imm .bool)], [], []⟩⟩]) else none, frz := fun r => [] }
theorem ok73 : FnOk Try.prog 73 ⟨[.ty tyRat], [.bool], fun x => rat_Is x⟩ :=
  fn_ok (xid := XID) (ro := ro73) (H := h73) (fn := Try.f73) (code := bodyOf Try.f73) mixed (tabOk73) Try.func73 rfl (by kernel_rfl) (loops_of (L := []) (by kernel_rfl) (lnil)) (fun x => by kernel_rfl)
/-! 74: pantograph/rat.Large -/
noncomputable def tab74 : Tab := [(15, .d ⟨[.ty tyRat], [tyRat], fun x => rat_Norm x⟩)]
theorem tabOk74 : TabOk Try.prog (tab74) := tabOk_cons ok15 (tabOk_nil _)
def ro74 : Nat → Bool := fun s => false
noncomputable def h74 : Hints := { loop := fun id => none, cut := fun k r => bif Nat.beq k 0 && Nat.beq r 2 then some (.flat [.s 2 (.imm .bool)]) else none, frz := fun r => [] }
theorem ok74 : FnOk Try.prog 74 ⟨[.ty tyRat], [.bool], fun x => rat_Large x⟩ :=
  fn_ok (xid := XID) (ro := ro74) (H := h74) (fn := Try.f74) (code := bodyOf Try.f74) mixed (tabOk74) Try.func74 rfl (by kernel_rfl) (loops_of (L := []) (by kernel_rfl) (lnil)) (fun x => by kernel_rfl)
/-! 57: pantograph/nat.Mul -/
noncomputable def tab57 : Tab := [(34, .d ⟨[.ty (.sl (.int .u32))], [(.sl (.int .u32))], fun x => nat_trim x⟩)]
theorem tabOk57 : TabOk Try.prog (tab57) := tabOk_cons ok34 (tabOk_nil _)
def ro57 : Nat → Bool := fun s => false
noncomputable def lp57_2 : LoopD := { gh := [], ps := [.s 1 (.imm (.sl (.int .u32))), .s 6 (.imm (.int .i64)), .s 7 (.imm (.int .u32)), .s 21 (.imm (.sl (.int .u32))), .s 22 (.imm (.int .i64)), .s 23 (.imm (.int .i64)), .s 28 (.imm (.sl (.int .u32))), .s 29 (.imm (.int .i64))], sh := ⟨[.s 8 (.imm (.int .u64)), .s 30 (.imm (.int .i64)), .a (.int .u32)], [(5, .cur 0 (.int .u32))], [.arr (.int .u32)]⟩, ws := [⟨.exit 2, ⟨[.s 8 (.imm (.int .u64)), .a (.int .u32)], [(5, .cur 0 (.int .u32))], [.arr (.int .u32)]⟩⟩], F := fun p s => nat_Mul_L1 p.1 p.2.1 p.2.2.1 p.2.2.2.1 p.2.2.2.2.1 p.2.2.2.2.2.1 p.2.2.2.2.2.2.1 p.2.2.2.2.2.2.2 s }
noncomputable def lp57_0 : LoopD := { gh := [], ps := [.s 1 (.imm (.sl (.int .u32))), .s 21 (.imm (.sl (.int .u32))), .s 22 (.imm (.int .i64))], sh := ⟨[.s 23 (.imm (.int .i64)), .a (.int .u32)], [(5, .cur 0 (.int .u32))], [.arr (.int .u32)]⟩, ws := [⟨.exit 0, ⟨[.a (.int .u32)], [(5, .cur 0 (.int .u32))], [.arr (.int .u32)]⟩⟩], F := fun p s => nat_Mul_L0 p.1 p.2.1 p.2.2 s }
noncomputable def h57 : Hints := { loop := fun id => bif Nat.beq id 2 then some (lp57_2) else bif Nat.beq id 0 then some (lp57_0) else none, cut := fun k r => none, frz := fun r => bif Nat.beq r 16 then [5] else [] }
theorem lo57_2 : LoopOkK Try.prog Try.f57.ntmps (lp57_2) (lb 2 Try.f57) :=
  loop_ok (xid := XID) (ro := ro57) (H := h57) mixed (tabOk57) (loops_of (L := []) (by kernel_rfl) (lnil)) (fun p s => nat_Mul_R1 p.1 p.2.1 p.2.2.1 p.2.2.2.1 p.2.2.2.2.1 p.2.2.2.2.2.1 p.2.2.2.2.2.2.1 p.2.2.2.2.2.2.2 s) (fun p s => by kernel_rfl) (fun p s => rfl)
theorem lo57_0 : LoopOkK Try.prog Try.f57.ntmps (lp57_0) (lb 0 Try.f57) :=
  loop_ok (xid := XID) (ro := ro57) (H := h57) mixed (tabOk57) (loops_of (L := [(2, lb 2 Try.f57)]) (by kernel_rfl) (lcons rfl (lo57_2) (lnil))) (fun p s => nat_Mul_R0 p.1 p.2.1 p.2.2 s) (fun p s => by kernel_rfl) (fun p s => rfl)
theorem ok57 : FnOk Try.prog 57 ⟨[.ty (.sl (.int .u32)), .ty (.sl (.int .u32))], [(.sl (.int .u32))], fun x => nat_Mul x.1 x.2⟩ :=
  fn_ok (xid := XID) (ro := ro57) (H := h57) (fn := Try.f57) (code := bodyOf Try.f57) mixed (tabOk57) Try.func57 rfl (by kernel_rfl) (loops_of (L := [(0, lb 0 Try.f57)]) (by kernel_rfl) (lcons rfl (lo57_0) (lnil))) (fun x => by kernel_rfl)
/-! 78: pantograph/dec.ten -/
noncomputable def tab78 : Tab := [(25, .d ⟨[.ty (.int .u64)], [(.sl (.int .u32))], fun x => nat_Of x⟩), (57, .d ⟨[.ty (.sl (.int .u32)), .ty (.sl (.int .u32))], [(.sl (.int .u32))], fun x => nat_Mul x.1 x.2⟩)]
theorem tabOk78 : TabOk Try.prog (tab78) := tabOk_cons ok25 (tabOk_cons ok57 (tabOk_nil _))
def ro78 : Nat → Bool := fun s => false
noncomputable def lp78_0 : LoopD := { gh := [], ps := [.s 5 (.imm (.int .i64))], sh := ⟨[.s 3 (.imm (.sl (.int .u32))), .s 6 (.imm (.int .i64))], [], []⟩, ws := [⟨.exit 0, ⟨[.s 3 (.imm (.sl (.int .u32)))], [], []⟩⟩], F := fun p s => dec_ten_L0 p s }
noncomputable def h78 : Hints := { loop := fun id => bif Nat.beq id 0 then some (lp78_0) else none, cut := fun k r => none, frz := fun r => [] }
theorem lo78_0 : LoopOkK Try.prog Try.f78.ntmps (lp78_0) (lb 0 Try.f78) :=
  loop_ok (xid := XID) (ro := ro78) (H := h78) mixed (tabOk78) (loops_of (L := []) (by kernel_rfl) (lnil)) (fun p s => dec_ten_R0 p s) (fun p s => by kernel_rfl) (fun p s => rfl)
theorem ok78 : FnOk Try.prog 78 ⟨[.ty (.int .i64)], [(.sl (.int .u32))], fun x => dec_ten x⟩ :=
  fn_ok (xid := XID) (ro := ro78) (H := h78) (fn := Try.f78) (code := bodyOf Try.f78) mixed (tabOk78) Try.func78 rfl (by kernel_rfl) (loops_of (L := [(0, lb 0 Try.f78)]) (by kernel_rfl) (lcons rfl (lo78_0) (lnil))) (fun x => by kernel_rfl)
/-! 81: strings.Repeat, by the shelf -/
theorem ok81 : FnOk Try.prog 81 ⟨[.ty .str, .ty i64], [.str], fun x => strings_Repeat x.1 x.2⟩ := by
  refine fn_of_calls Try.func81 (by kernel_rfl) rfl fun κ x cargs y hy hI ha => ?_
  obtain ⟨s, n⟩ := x
  obtain ⟨⟨h0, h1, h2⟩, hy⟩ := hy
  cases hy
  obtain ⟨v0, r, rfl, ha0, ha⟩ := RDs.cons_inv (show RDs κ [.imm .str s, .imm i64 n] cargs from ha)
  obtain ⟨v1, r, rfl, ha1, ha⟩ := ha.cons_inv
  rw [ha.nil_inv, ha0.str_inv, ha1.int_inv]
  obtain ⟨m, rfl⟩ := Int.eq_ofNat_of_zero_le h0
  refine (Go.Proofs.Try.strings_Repeat ⟨s.toArray⟩ m κ.w (by simp only at h1; omega) (by rw [show (ByteArray.size ⟨s.toArray⟩) = List.length s from List.size_toArray]; simpa using h2)).mono ?_
  rintro e w' ⟨rfl, hB⟩
  refine ⟨hB, fun _ => ⟨_, rfl, ?_⟩⟩
  have e1 : Lib.repeatL s m = repS s m := repS_eq s m
  have e2 : (Int.toNat (m : Int)) = m := by omega
  show RD _ (.imm .str (repS s (Int.toNat (m : Int)))) _
  rw [e2, ← e1]
  exact RD.str
/-! 79: pantograph/dec.pointed -/
noncomputable def tab79 : Tab := [(81, .d ⟨[.ty .str, .ty (.int .i64)], [.str], fun x => strings_Repeat x.1 x.2⟩)]
theorem tabOk79 : TabOk Try.prog (tab79) := tabOk_cons ok81 (tabOk_nil _)
def ro79 : Nat → Bool := fun s => false
noncomputable def h79 : Hints := { loop := fun id => none, cut := fun k r => none, frz := fun r => [] }
theorem ok79 : FnOk Try.prog 79 ⟨[.ty .str, .ty (.int .i64)], [.str], fun x => dec_pointed x.1 x.2⟩ :=
  fn_ok (xid := XID) (ro := ro79) (H := h79) (fn := Try.f79) (code := bodyOf Try.f79) mixed (tabOk79) Try.func79 rfl (by kernel_rfl) (loops_of (L := []) (by kernel_rfl) (lnil)) (fun x => by kernel_rfl)
/-! 75: pantograph/dec.Exact -/
noncomputable def tab75 : Tab := [(15, .d ⟨[.ty tyRat], [tyRat], fun x => rat_Norm x⟩), (78, .d ⟨[.ty (.int .i64)], [(.sl (.int .u32))], fun x => dec_ten x⟩), (57, .d ⟨[.ty (.sl (.int .u32)), .ty (.sl (.int .u32))], [(.sl (.int .u32))], fun x => nat_Mul x.1 x.2⟩), (37, .d ⟨[.ty (.sl (.int .u32)), .ty (.sl (.int .u32))], [(.sl (.int .u32)), (.sl (.int .u32)), .bool], fun x => nat_DivMod x.1 x.2⟩), (28, .d ⟨[.ty tyRat], [.str], fun x => dec_sign x⟩), (29, .d ⟨[.ty (.sl (.int .u32))], [.str], fun x => nat_Print x⟩), (79, .d ⟨[.ty .str, .ty (.int .i64)], [.str], fun x => dec_pointed x.1 x.2⟩)]
theorem tabOk75 : TabOk Try.prog (tab75) := tabOk_cons ok15 (tabOk_cons ok78 (tabOk_cons ok57 (tabOk_cons ok37 (tabOk_cons ok28 (tabOk_cons ok29 (tabOk_cons ok79 (tabOk_nil _)))))))
def ro75 : Nat → Bool := fun s => false
noncomputable def lp75_0 : LoopD := { gh := [], ps := [], sh := ⟨[.s 10 (.imm (.int .i64)), .v (.imm tyRat)], [(1, .ptr 0 0)], [.var (.imm tyRat)]⟩, ws := [⟨.exit 0, ⟨[.v (.imm tyRat)], [], [.var (.imm tyRat)]⟩⟩, ⟨.ret, ⟨[.s 2 (.imm .str), .s 3 (.imm .bool), .v (.imm tyRat)], [], [.var (.imm tyRat)]⟩⟩], F := fun p s => dec_Exact_L0  s }
noncomputable def h75 : Hints := { loop := fun id => bif Nat.beq id 0 then some (lp75_0) else none, cut := fun k r => none, frz := fun r => [] }
theorem lo75_0 : LoopOkK Try.prog Try.f75.ntmps (lp75_0) (lb 0 Try.f75) :=
  loop_ok (xid := XID) (ro := ro75) (H := h75) mixed (tabOk75) (loops_of (L := []) (by kernel_rfl) (lnil)) (fun p s => dec_Exact_R0  s) (fun p s => by kernel_rfl) (fun p s => rfl)
theorem ok75 : FnOk Try.prog 75 ⟨[.ty tyRat], [.str, .bool], fun x => dec_Exact x⟩ :=
  fn_ok (xid := XID) (ro := ro75) (H := h75) (fn := Try.f75) (code := bodyOf Try.f75) mixed (tabOk75) Try.func75 rfl (by kernel_rfl) (loops_of (L := [(0, lb 0 Try.f75)]) (by kernel_rfl) (lcons rfl (lo75_0) (lnil))) (fun x => by kernel_rfl)
/-! 66: pantograph/expr.isNum -/
noncomputable def tab66 : Tab := [(73, .d ⟨[.ty tyRat], [.bool], fun x => rat_Is x⟩), (74, .d ⟨[.ty tyRat], [.bool], fun x => rat_Large x⟩), (75, .d ⟨[.ty tyRat], [.str, .bool], fun x => dec_Exact x⟩)]
theorem tabOk66 : TabOk Try.prog (tab66) := tabOk_cons ok73 (tabOk_cons ok74 (tabOk_cons ok75 (tabOk_nil _)))
def ro66 : Nat → Bool := fun s => Nat.beq s 1
noncomputable def h66 : Hints := { loop := fun id => none, cut := fun k r => bif Nat.beq k 0 && Nat.beq r 1 then some (.ways [⟨.normal, ⟨[.s 15 (.imm .bool)], [], []⟩⟩]) else none, frz := fun r => [] }
theorem ok66 : FnOk Try.prog 66 ⟨[.ty tyRat], [.bool], fun x => expr_isNum x⟩ :=
  fn_ok (xid := XID) (ro := ro66) (H := h66) (fn := Try.f66) (code := bodyOf Try.f66) mixed (tabOk66) Try.func66 rfl (by kernel_rfl) (loops_of (L := []) (by kernel_rfl) (lnil)) (fun x => by kernel_rfl)
/-! 67: pantograph/expr.isNone -/
noncomputable def tab67 : Tab := [(73, .d ⟨[.ty tyRat], [.bool], fun x => rat_Is x⟩)]
theorem tabOk67 : TabOk Try.prog (tab67) := tabOk_cons ok73 (tabOk_nil _)
def ro67 : Nat → Bool := fun s => Nat.beq s 1
noncomputable def h67 : Hints := { loop := fun id => none, cut := fun k r => none, frz := fun r => [] }
theorem ok67 : FnOk Try.prog 67 ⟨[.ty tyRat], [.bool], fun x => expr_isNone x⟩ :=
  fn_ok (xid := XID) (ro := ro67) (H := h67) (fn := Try.f67) (code := bodyOf Try.f67) mixed (tabOk67) Try.func67 rfl (by kernel_rfl) (loops_of (L := []) (by kernel_rfl) (lnil)) (fun x => by kernel_rfl)
/-! 76: pantograph/expr.isLetter -/
noncomputable def tab76 : Tab := []
theorem tabOk76 : TabOk Try.prog (tab76) := tabOk_nil _
def ro76 : Nat → Bool := fun s => false
noncomputable def h76 : Hints := { loop := fun id => none, cut := fun k r => bif Nat.beq k 0 && Nat.beq r 1 then some (.flat [.s 2 (.imm .bool)]) else none, frz := fun r => [] }
theorem ok76 : FnOk Try.prog 76 ⟨[.ty (.int .u8)], [.bool], fun x => expr_isLetter x⟩ :=
  fn_ok (xid := XID) (ro := ro76) (H := h76) (fn := Try.f76) (code := bodyOf Try.f76) mixed (tabOk76) Try.func76 rfl (by kernel_rfl) (loops_of (L := []) (by kernel_rfl) (lnil)) (fun x => by kernel_rfl)
/-! 80: pantograph/expr.isDigit -/
noncomputable def tab80 : Tab := []
theorem tabOk80 : TabOk Try.prog (tab80) := tabOk_nil _
def ro80 : Nat → Bool := fun s => false
noncomputable def h80 : Hints := { loop := fun id => none, cut := fun k r => bif Nat.beq k 0 && Nat.beq r 1 then some (.flat [.s 2 (.imm .bool)]) else none, frz := fun r => [] }
theorem ok80 : FnOk Try.prog 80 ⟨[.ty (.int .u8)], [.bool], fun x => expr_isDigit x⟩ :=
  fn_ok (xid := XID) (ro := ro80) (H := h80) (fn := Try.f80) (code := bodyOf Try.f80) mixed (tabOk80) Try.func80 rfl (by kernel_rfl) (loops_of (L := []) (by kernel_rfl) (lnil)) (fun x => by kernel_rfl)
/-! 77: pantograph/expr.isInner -/
noncomputable def tab77 : Tab := [(76, .d ⟨[.ty (.int .u8)], [.bool], fun x => expr_isLetter x⟩), (80, .d ⟨[.ty (.int .u8)], [.bool], fun x => expr_isDigit x⟩)]
theorem tabOk77 : TabOk Try.prog (tab77) := tabOk_cons ok76 (tabOk_cons ok80 (tabOk_nil _))
def ro77 : Nat → Bool := fun s => false
noncomputable def h77 : Hints := { loop := fun id => none, cut := fun k r => none, frz := fun r => [] }
theorem ok77 : FnOk Try.prog 77 ⟨[.ty (.int .u8)], [.bool], fun x => expr_isInner x⟩ :=
  fn_ok (xid := XID) (ro := ro77) (H := h77) (fn := Try.f77) (code := bodyOf Try.f77) mixed (tabOk77) Try.func77 rfl (by kernel_rfl) (loops_of (L := []) (by kernel_rfl) (lnil)) (fun x => by kernel_rfl)
/-! 68: pantograph/expr.Name -/
noncomputable def tab68 : Tab := [(76, .d ⟨[.ty (.int .u8)], [.bool], fun x => expr_isLetter x⟩), (77, .d ⟨[.ty (.int .u8)], [.bool], fun x => expr_isInner x⟩)]
theorem tabOk68 : TabOk Try.prog (tab68) := tabOk_cons ok76 (tabOk_cons ok77 (tabOk_nil _))
def ro68 : Nat → Bool := fun s => false
noncomputable def lp68_0 : LoopD := { gh := [], ps := [.s 0 (.imm .str), .s 18 (.imm (.int .i64))], sh := ⟨[.s 19 (.imm (.int .i64))], [], []⟩, ws := [⟨.exit 0, ⟨[], [], []⟩⟩, ⟨.ret, ⟨[.s 2 (.imm .bool)], [], []⟩⟩], F := fun p s => expr_Name_L0 p.1 p.2 s }
noncomputable def h68 : Hints := { loop := fun id => bif Nat.beq id 0 then some (lp68_0) else none, cut := fun k r => bif Nat.beq k 0 && Nat.beq r 1 then some (.ways [⟨.normal, ⟨[.s 16 (.imm .bool)], [], []⟩⟩]) else none, frz := fun r => [] }
theorem lo68_0 : LoopOkK Try.prog Try.f68.ntmps (lp68_0) (lb 0 Try.f68) :=
  loop_ok (xid := XID) (ro := ro68) (H := h68) mixed (tabOk68) (loops_of (L := []) (by kernel_rfl) (lnil)) (fun p s => expr_Name_R0 p.1 p.2 s) (fun p s => by kernel_rfl) (fun p s => rfl)
theorem ok68 : FnOk Try.prog 68 ⟨[.ty .str], [.bool], fun x => expr_Name x⟩ :=
  fn_ok (xid := XID) (ro := ro68) (H := h68) (fn := Try.f68) (code := bodyOf Try.f68) mixed (tabOk68) Try.func68 rfl (by kernel_rfl) (loops_of (L := [(0, lb 0 Try.f68)]) (by kernel_rfl) (lcons rfl (lo68_0) (lnil))) (fun x => by kernel_rfl)
/-! 51: pantograph/expr.isNode -/
noncomputable def tab51 : Tab := [(65, .d ⟨[.ty (.int .i64)], [(.int .i64)], fun x => expr_kids x⟩), (66, .d ⟨[.ty tyRat], [.bool], fun x => expr_isNum x⟩), (67, .d ⟨[.ty tyRat], [.bool], fun x => expr_isNone x⟩), (68, .d ⟨[.ty .str], [.bool], fun x => expr_Name x⟩)]
theorem tabOk51 : TabOk Try.prog (tab51) := tabOk_cons ok65 (tabOk_cons ok66 (tabOk_cons ok67 (tabOk_cons ok68 (tabOk_nil _))))
def ro51 : Nat → Bool := fun s => Nat.beq s 1
noncomputable def h51 : Hints := { loop := fun id => none, cut := fun k r => none, frz := fun r => [] }
theorem ok51 : FnOk Try.prog 51 ⟨[.ty .expr], [.bool], fun x => expr_isNode x⟩ :=
  fn_ok (xid := XID) (ro := ro51) (H := h51) (fn := Try.f51) (code := bodyOf Try.f51) mixed (tabOk51) Try.func51 rfl (by kernel_rfl) (loops_of (L := []) (by kernel_rfl) (lnil)) (fun x => by kernel_rfl)
/-! 53: pantograph/expr.may$1 -/
noncomputable def tab53 (F_41 : Shp.den ⟨[.s 0 (.imm .expr), .s 1 (.imm (.int .i64)), .v (.imm (.int .i64))], [(2, .ptr 0 0)], [.var (.imm (.int .i64))]⟩ → T (Shp.den ⟨[.s 0 (.imm .bool), .v (.imm (.int .i64))], [], [.var (.imm (.int .i64))]⟩)) : Tab := [(41, .s ⟨[.any, .any, .ptr], ⟨[.s 0 (.imm .expr), .s 1 (.imm (.int .i64)), .v (.imm (.int .i64))], [(2, .ptr 0 0)], [.var (.imm (.int .i64))]⟩, [], ⟨[.s 0 (.imm .bool), .v (.imm (.int .i64))], [], [.var (.imm (.int .i64))]⟩, 1, F_41⟩)]
theorem tabOk53 (F_41 : Shp.den ⟨[.s 0 (.imm .expr), .s 1 (.imm (.int .i64)), .v (.imm (.int .i64))], [(2, .ptr 0 0)], [.var (.imm (.int .i64))]⟩ → T (Shp.den ⟨[.s 0 (.imm .bool), .v (.imm (.int .i64))], [], [.var (.imm (.int .i64))]⟩)) (h_41 : FnSOk Try.prog 41 ⟨[.any, .any, .ptr], ⟨[.s 0 (.imm .expr), .s 1 (.imm (.int .i64)), .v (.imm (.int .i64))], [(2, .ptr 0 0)], [.var (.imm (.int .i64))]⟩, [], ⟨[.s 0 (.imm .bool), .v (.imm (.int .i64))], [], [.var (.imm (.int .i64))]⟩, 1, F_41⟩) : TabOk Try.prog (tab53 F_41) := tabOk_consS h_41 (tabOk_nil _)
def ro53 : Nat → Bool := fun s => Nat.beq s 3
noncomputable def h53 (F_41 : Shp.den ⟨[.s 0 (.imm .expr), .s 1 (.imm (.int .i64)), .v (.imm (.int .i64))], [(2, .ptr 0 0)], [.var (.imm (.int .i64))]⟩ → T (Shp.den ⟨[.s 0 (.imm .bool), .v (.imm (.int .i64))], [], [.var (.imm (.int .i64))]⟩)) : Hints := { loop := fun id => none, cut := fun k r => none, frz := fun r => [] }
theorem ok53 (F_41 : Shp.den ⟨[.s 0 (.imm .expr), .s 1 (.imm (.int .i64)), .v (.imm (.int .i64))], [(2, .ptr 0 0)], [.var (.imm (.int .i64))]⟩ → T (Shp.den ⟨[.s 0 (.imm .bool), .v (.imm (.int .i64))], [], [.var (.imm (.int .i64))]⟩)) (h_41 : FnSOk Try.prog 41 ⟨[.any, .any, .ptr], ⟨[.s 0 (.imm .expr), .s 1 (.imm (.int .i64)), .v (.imm (.int .i64))], [(2, .ptr 0 0)], [.var (.imm (.int .i64))]⟩, [], ⟨[.s 0 (.imm .bool), .v (.imm (.int .i64))], [], [.var (.imm (.int .i64))]⟩, 1, F_41⟩) : FnSOk Try.prog 53 ⟨[.any, .any, .ptr], ⟨[.s 0 (.imm .expr), .s 1 (.rptr (.int .i64)), .v (.imm (.int .i64))], [(2, .ptr 0 0)], [.cvar (.ptr 1 0), .var (.imm (.int .i64))]⟩, [], ⟨[.s 0 (.imm .bool), .v (.imm (.int .i64))], [], [.cvar (.ptr 1 0), .var (.imm (.int .i64))]⟩, 1, fun x => expr_may_f1_S (fun y0 y1 y2 => F_41 (y0, y1, y2)) x.1 x.2.1 x.2.2⟩ :=
  fns_ok (xid := XID) (ro := ro53) (H := h53 F_41) (fn := Try.f53) (code := bodyOf Try.f53) mixed (tabOk53 F_41 h_41) Try.func53 rfl (by kernel_rfl) (loops_of (L := []) (by kernel_rfl) (lnil)) (fun x => by kernel_rfl)
/-! 69: slices.IndexFunc[[]pantograph/api.Expr,pantograph/api.Expr] -/
noncomputable def tab69 (F_41 : Shp.den ⟨[.s 0 (.imm .expr), .s 1 (.imm (.int .i64)), .v (.imm (.int .i64))], [(2, .ptr 0 0)], [.var (.imm (.int .i64))]⟩ → T (Shp.den ⟨[.s 0 (.imm .bool), .v (.imm (.int .i64))], [], [.var (.imm (.int .i64))]⟩)) : Tab := [(53, .s ⟨[.any, .any, .ptr], ⟨[.s 0 (.imm .expr), .s 1 (.rptr (.int .i64)), .v (.imm (.int .i64))], [(2, .ptr 0 0)], [.cvar (.ptr 1 0), .var (.imm (.int .i64))]⟩, [], ⟨[.s 0 (.imm .bool), .v (.imm (.int .i64))], [], [.cvar (.ptr 1 0), .var (.imm (.int .i64))]⟩, 1, fun x => (expr_may_f1_S (fun y0 y1 y2 => F_41 (y0, y1, y2))) x.1 x.2.1 x.2.2⟩)]
theorem tabOk69 (F_41 : Shp.den ⟨[.s 0 (.imm .expr), .s 1 (.imm (.int .i64)), .v (.imm (.int .i64))], [(2, .ptr 0 0)], [.var (.imm (.int .i64))]⟩ → T (Shp.den ⟨[.s 0 (.imm .bool), .v (.imm (.int .i64))], [], [.var (.imm (.int .i64))]⟩)) (h_41 : FnSOk Try.prog 41 ⟨[.any, .any, .ptr], ⟨[.s 0 (.imm .expr), .s 1 (.imm (.int .i64)), .v (.imm (.int .i64))], [(2, .ptr 0 0)], [.var (.imm (.int .i64))]⟩, [], ⟨[.s 0 (.imm .bool), .v (.imm (.int .i64))], [], [.var (.imm (.int .i64))]⟩, 1, F_41⟩) : TabOk Try.prog (tab69 F_41) := tabOk_consS (ok53 _ h_41) (tabOk_nil _)
def ro69 : Nat → Bool := fun s => false
noncomputable def lp69_0 (F_41 : Shp.den ⟨[.s 0 (.imm .expr), .s 1 (.imm (.int .i64)), .v (.imm (.int .i64))], [(2, .ptr 0 0)], [.var (.imm (.int .i64))]⟩ → T (Shp.den ⟨[.s 0 (.imm .bool), .v (.imm (.int .i64))], [], [.var (.imm (.int .i64))]⟩)) : LoopD := { gh := [], ps := [.s 0 (.imm (.sl .expr)), .s 7 (.imm (.int .i64))], sh := ⟨[.s 1 (.mclo 53 [.rp (.int .i64), .pt 0]), .s 8 (.imm (.int .i64)), .v (.imm (.int .i64))], [], [.cvar (.ptr 1 0), .var (.imm (.int .i64))]⟩, ws := [⟨.exit 0, ⟨[.v (.imm (.int .i64))], [], [.cvar (.ptr 1 0), .var (.imm (.int .i64))]⟩⟩, ⟨.ret, ⟨[.s 4 (.imm (.int .i64)), .v (.imm (.int .i64))], [], [.cvar (.ptr 1 0), .var (.imm (.int .i64))]⟩⟩], F := fun p s => slices_IndexFunc_sl_Expr_expr_may_f1_S_L0 (fun y0 y1 y2 => F_41 (y0, y1, y2)) p.1 p.2 s }
noncomputable def h69 (F_41 : Shp.den ⟨[.s 0 (.imm .expr), .s 1 (.imm (.int .i64)), .v (.imm (.int .i64))], [(2, .ptr 0 0)], [.var (.imm (.int .i64))]⟩ → T (Shp.den ⟨[.s 0 (.imm .bool), .v (.imm (.int .i64))], [], [.var (.imm (.int .i64))]⟩)) : Hints := { loop := fun id => bif Nat.beq id 0 then some (lp69_0 F_41) else none, cut := fun k r => none, frz := fun r => [] }
theorem lo69_0 (F_41 : Shp.den ⟨[.s 0 (.imm .expr), .s 1 (.imm (.int .i64)), .v (.imm (.int .i64))], [(2, .ptr 0 0)], [.var (.imm (.int .i64))]⟩ → T (Shp.den ⟨[.s 0 (.imm .bool), .v (.imm (.int .i64))], [], [.var (.imm (.int .i64))]⟩)) (h_41 : FnSOk Try.prog 41 ⟨[.any, .any, .ptr], ⟨[.s 0 (.imm .expr), .s 1 (.imm (.int .i64)), .v (.imm (.int .i64))], [(2, .ptr 0 0)], [.var (.imm (.int .i64))]⟩, [], ⟨[.s 0 (.imm .bool), .v (.imm (.int .i64))], [], [.var (.imm (.int .i64))]⟩, 1, F_41⟩) : LoopOkK Try.prog Try.f69.ntmps (lp69_0 F_41) (lb 0 Try.f69) :=
  loop_ok (xid := XID) (ro := ro69) (H := h69 F_41) mixed (tabOk69 F_41 h_41) (loops_of (L := []) (by kernel_rfl) (lnil)) (fun p s => slices_IndexFunc_sl_Expr_expr_may_f1_S_R0 (fun y0 y1 y2 => F_41 (y0, y1, y2)) p.1 p.2 s) (fun p s => by kernel_rfl) (fun p s => rfl)
theorem ok69 (F_41 : Shp.den ⟨[.s 0 (.imm .expr), .s 1 (.imm (.int .i64)), .v (.imm (.int .i64))], [(2, .ptr 0 0)], [.var (.imm (.int .i64))]⟩ → T (Shp.den ⟨[.s 0 (.imm .bool), .v (.imm (.int .i64))], [], [.var (.imm (.int .i64))]⟩)) (h_41 : FnSOk Try.prog 41 ⟨[.any, .any, .ptr], ⟨[.s 0 (.imm .expr), .s 1 (.imm (.int .i64)), .v (.imm (.int .i64))], [(2, .ptr 0 0)], [.var (.imm (.int .i64))]⟩, [], ⟨[.s 0 (.imm .bool), .v (.imm (.int .i64))], [], [.var (.imm (.int .i64))]⟩, 1, F_41⟩) : FnSOk Try.prog 69 ⟨[.any, .clo 53], ⟨[.s 0 (.imm (.sl .expr)), .s 1 (.mclo 53 [.rp (.int .i64), .pt 0]), .v (.imm (.int .i64))], [], [.cvar (.ptr 1 0), .var (.imm (.int .i64))]⟩, [], ⟨[.s 0 (.imm (.int .i64)), .v (.imm (.int .i64))], [], [.cvar (.ptr 1 0), .var (.imm (.int .i64))]⟩, 1, fun x => slices_IndexFunc_sl_Expr_expr_may_f1_S (fun y0 y1 y2 => F_41 (y0, y1, y2)) x.1 x.2.1 x.2.2⟩ :=
  fns_ok (xid := XID) (ro := ro69) (H := h69 F_41) (fn := Try.f69) (code := bodyOf Try.f69) mixed (tabOk69 F_41 h_41) Try.func69 rfl (by kernel_rfl) (loops_of (L := [(0, lb 0 Try.f69)]) (by kernel_rfl) (lcons rfl (lo69_0 F_41 h_41) (lnil))) (fun x => by kernel_rfl)
/-! 52: slices.ContainsFunc[[]pantograph/api.Expr,pantograph/api.Expr] -/
noncomputable def tab52 (F_41 : Shp.den ⟨[.s 0 (.imm .expr), .s 1 (.imm (.int .i64)), .v (.imm (.int .i64))], [(2, .ptr 0 0)], [.var (.imm (.int .i64))]⟩ → T (Shp.den ⟨[.s 0 (.imm .bool), .v (.imm (.int .i64))], [], [.var (.imm (.int .i64))]⟩)) : Tab := [(69, .s ⟨[.any, .clo 53], ⟨[.s 0 (.imm (.sl .expr)), .s 1 (.mclo 53 [.rp (.int .i64), .pt 0]), .v (.imm (.int .i64))], [], [.cvar (.ptr 1 0), .var (.imm (.int .i64))]⟩, [], ⟨[.s 0 (.imm (.int .i64)), .v (.imm (.int .i64))], [], [.cvar (.ptr 1 0), .var (.imm (.int .i64))]⟩, 1, fun x => (slices_IndexFunc_sl_Expr_expr_may_f1_S (fun y0 y1 y2 => F_41 (y0, y1, y2))) x.1 x.2.1 x.2.2⟩)]
theorem tabOk52 (F_41 : Shp.den ⟨[.s 0 (.imm .expr), .s 1 (.imm (.int .i64)), .v (.imm (.int .i64))], [(2, .ptr 0 0)], [.var (.imm (.int .i64))]⟩ → T (Shp.den ⟨[.s 0 (.imm .bool), .v (.imm (.int .i64))], [], [.var (.imm (.int .i64))]⟩)) (h_41 : FnSOk Try.prog 41 ⟨[.any, .any, .ptr], ⟨[.s 0 (.imm .expr), .s 1 (.imm (.int .i64)), .v (.imm (.int .i64))], [(2, .ptr 0 0)], [.var (.imm (.int .i64))]⟩, [], ⟨[.s 0 (.imm .bool), .v (.imm (.int .i64))], [], [.var (.imm (.int .i64))]⟩, 1, F_41⟩) : TabOk Try.prog (tab52 F_41) := tabOk_consS (ok69 _ h_41) (tabOk_nil _)
def ro52 : Nat → Bool := fun s => false
noncomputable def h52 (F_41 : Shp.den ⟨[.s 0 (.imm .expr), .s 1 (.imm (.int .i64)), .v (.imm (.int .i64))], [(2, .ptr 0 0)], [.var (.imm (.int .i64))]⟩ → T (Shp.den ⟨[.s 0 (.imm .bool), .v (.imm (.int .i64))], [], [.var (.imm (.int .i64))]⟩)) : Hints := { loop := fun id => none, cut := fun k r => none, frz := fun r => [] }
theorem ok52 (F_41 : Shp.den ⟨[.s 0 (.imm .expr), .s 1 (.imm (.int .i64)), .v (.imm (.int .i64))], [(2, .ptr 0 0)], [.var (.imm (.int .i64))]⟩ → T (Shp.den ⟨[.s 0 (.imm .bool), .v (.imm (.int .i64))], [], [.var (.imm (.int .i64))]⟩)) (h_41 : FnSOk Try.prog 41 ⟨[.any, .any, .ptr], ⟨[.s 0 (.imm .expr), .s 1 (.imm (.int .i64)), .v (.imm (.int .i64))], [(2, .ptr 0 0)], [.var (.imm (.int .i64))]⟩, [], ⟨[.s 0 (.imm .bool), .v (.imm (.int .i64))], [], [.var (.imm (.int .i64))]⟩, 1, F_41⟩) : FnSOk Try.prog 52 ⟨[.any, .clo 53], ⟨[.s 0 (.imm (.sl .expr)), .s 1 (.mclo 53 [.rp (.int .i64), .pt 0]), .v (.imm (.int .i64))], [], [.cvar (.ptr 1 0), .var (.imm (.int .i64))]⟩, [], ⟨[.s 0 (.imm .bool), .v (.imm (.int .i64))], [], [.cvar (.ptr 1 0), .var (.imm (.int .i64))]⟩, 1, fun x => slices_ContainsFunc_sl_Expr_expr_may_f1_S (fun y0 y1 y2 => F_41 (y0, y1, y2)) x.1 x.2.1 x.2.2⟩ :=
  fns_ok (xid := XID) (ro := ro52) (H := h52 F_41) (fn := Try.f52) (code := bodyOf Try.f52) mixed (tabOk52 F_41 h_41) Try.func52 rfl (by kernel_rfl) (loops_of (L := []) (by kernel_rfl) (lnil)) (fun x => by kernel_rfl)
/-! 41: pantograph/expr.may -/
noncomputable def tab41 (F_41 : Shp.den ⟨[.s 0 (.imm .expr), .s 1 (.imm (.int .i64)), .v (.imm (.int .i64))], [(2, .ptr 0 0)], [.var (.imm (.int .i64))]⟩ → T (Shp.den ⟨[.s 0 (.imm .bool), .v (.imm (.int .i64))], [], [.var (.imm (.int .i64))]⟩)) : Tab := [(52, .s ⟨[.any, .clo 53], ⟨[.s 0 (.imm (.sl .expr)), .s 1 (.mclo 53 [.rp (.int .i64), .pt 0]), .v (.imm (.int .i64))], [], [.cvar (.ptr 1 0), .var (.imm (.int .i64))]⟩, [], ⟨[.s 0 (.imm .bool), .v (.imm (.int .i64))], [], [.cvar (.ptr 1 0), .var (.imm (.int .i64))]⟩, 1, fun x => (slices_ContainsFunc_sl_Expr_expr_may_f1_S (fun y0 y1 y2 => F_41 (y0, y1, y2))) x.1 x.2.1 x.2.2⟩), (51, .d ⟨[.ty .expr], [.bool], fun x => expr_isNode x⟩)]
theorem tabOk41 (F_41 : Shp.den ⟨[.s 0 (.imm .expr), .s 1 (.imm (.int .i64)), .v (.imm (.int .i64))], [(2, .ptr 0 0)], [.var (.imm (.int .i64))]⟩ → T (Shp.den ⟨[.s 0 (.imm .bool), .v (.imm (.int .i64))], [], [.var (.imm (.int .i64))]⟩)) (h_41 : FnSOk Try.prog 41 ⟨[.any, .any, .ptr], ⟨[.s 0 (.imm .expr), .s 1 (.imm (.int .i64)), .v (.imm (.int .i64))], [(2, .ptr 0 0)], [.var (.imm (.int .i64))]⟩, [], ⟨[.s 0 (.imm .bool), .v (.imm (.int .i64))], [], [.var (.imm (.int .i64))]⟩, 1, F_41⟩) : TabOk Try.prog (tab41 F_41) := tabOk_consS (ok52 _ h_41) (tabOk_cons ok51 (tabOk_nil _))
def ro41 : Nat → Bool := fun s => Nat.beq s 3 || Nat.beq s 4
noncomputable def h41 (F_41 : Shp.den ⟨[.s 0 (.imm .expr), .s 1 (.imm (.int .i64)), .v (.imm (.int .i64))], [(2, .ptr 0 0)], [.var (.imm (.int .i64))]⟩ → T (Shp.den ⟨[.s 0 (.imm .bool), .v (.imm (.int .i64))], [], [.var (.imm (.int .i64))]⟩)) : Hints := { loop := fun id => none, cut := fun k r => bif Nat.beq k 0 && Nat.beq r 2 then some (.ways [⟨.normal, ⟨[.s 24 (.imm .bool), .v (.imm (.int .i64))], [], [.var (.imm (.int .i64)), .cvar (.ptr 0 0)]⟩⟩]) else none, frz := fun r => [] }
theorem ok41_B (F_41 : Shp.den ⟨[.s 0 (.imm .expr), .s 1 (.imm (.int .i64)), .v (.imm (.int .i64))], [(2, .ptr 0 0)], [.var (.imm (.int .i64))]⟩ → T (Shp.den ⟨[.s 0 (.imm .bool), .v (.imm (.int .i64))], [], [.var (.imm (.int .i64))]⟩)) (h_41 : FnSOk Try.prog 41 ⟨[.any, .any, .ptr], ⟨[.s 0 (.imm .expr), .s 1 (.imm (.int .i64)), .v (.imm (.int .i64))], [(2, .ptr 0 0)], [.var (.imm (.int .i64))]⟩, [], ⟨[.s 0 (.imm .bool), .v (.imm (.int .i64))], [], [.var (.imm (.int .i64))]⟩, 1, F_41⟩) : FnSOk Try.prog 41 ⟨[.any, .any, .ptr], ⟨[.s 0 (.imm .expr), .s 1 (.imm (.int .i64)), .v (.imm (.int .i64))], [(2, .ptr 0 0)], [.var (.imm (.int .i64))]⟩, [], ⟨[.s 0 (.imm .bool), .v (.imm (.int .i64))], [], [.var (.imm (.int .i64))]⟩, 1, fun x => expr_may_S_B (fun y0 y1 y2 => F_41 (y0, y1, y2)) x.1 x.2.1 x.2.2⟩ :=
  fns_ok (xid := XID) (ro := ro41) (H := h41 F_41) (fn := Try.f41) (code := bodyOf Try.f41) mixed (tabOk41 F_41 h_41) Try.func41 rfl (by kernel_rfl) (loops_of (L := []) (by kernel_rfl) (lnil)) (fun x => by kernel_rfl)
theorem ok41 : FnSOk Try.prog 41 ⟨[.any, .any, .ptr], ⟨[.s 0 (.imm .expr), .s 1 (.imm (.int .i64)), .v (.imm (.int .i64))], [(2, .ptr 0 0)], [.var (.imm (.int .i64))]⟩, [], ⟨[.s 0 (.imm .bool), .v (.imm (.int .i64))], [], [.var (.imm (.int .i64))]⟩, 1, fun x => expr_may_S x.1 x.2.1 x.2.2⟩ :=
  fns_fix (fun F_41 x => expr_may_S_B (fun y0 y1 y2 => F_41 (y0, y1, y2)) x.1 x.2.1 x.2.2) (fun x => rfl) (fun F_41 h_41 => ok41_B F_41 h_41)
/-! 31: pantograph/expr.Is -/
noncomputable def tab31 : Tab := [(41, .s ⟨[.any, .any, .ptr], ⟨[.s 0 (.imm .expr), .s 1 (.imm (.int .i64)), .v (.imm (.int .i64))], [(2, .ptr 0 0)], [.var (.imm (.int .i64))]⟩, [], ⟨[.s 0 (.imm .bool), .v (.imm (.int .i64))], [], [.var (.imm (.int .i64))]⟩, 1, fun x => expr_may_S x.1 x.2.1 x.2.2⟩)]
theorem tabOk31 : TabOk Try.prog (tab31) := tabOk_consS ok41 (tabOk_nil _)
def ro31 : Nat → Bool := fun s => Nat.beq s 1
noncomputable def h31 : Hints := { loop := fun id => none, cut := fun k r => none, frz := fun r => [] }
theorem ok31 : FnOk Try.prog 31 ⟨[.ty .expr], [.bool], fun x => expr_Is x⟩ :=
  fn_ok (xid := XID) (ro := ro31) (H := h31) (fn := Try.f31) (code := bodyOf Try.f31) mixed (tabOk31) Try.func31 rfl (by kernel_rfl) (loops_of (L := []) (by kernel_rfl) (lnil)) (fun x => by kernel_rfl)
/-! 54: slices.Index[[]string,string] -/
noncomputable def tab54 : Tab := []
theorem tabOk54 : TabOk Try.prog (tab54) := tabOk_nil _
def ro54 : Nat → Bool := fun s => false
noncomputable def lp54_0 : LoopD := { gh := [], ps := [.s 0 (.imm (.sl .str)), .s 1 (.imm .str), .s 7 (.imm (.int .i64))], sh := ⟨[.s 8 (.imm (.int .i64))], [], []⟩, ws := [⟨.exit 0, ⟨[], [], []⟩⟩, ⟨.ret, ⟨[.s 4 (.imm (.int .i64))], [], []⟩⟩], F := fun p s => slices_Index_sl_string_L0 p.1 p.2.1 p.2.2 s }
noncomputable def h54 : Hints := { loop := fun id => bif Nat.beq id 0 then some (lp54_0) else none, cut := fun k r => none, frz := fun r => [] }
theorem lo54_0 : LoopOkK Try.prog Try.f54.ntmps (lp54_0) (lb 0 Try.f54) :=
  loop_ok (xid := XID) (ro := ro54) (H := h54) mixed (tabOk54) (loops_of (L := []) (by kernel_rfl) (lnil)) (fun p s => slices_Index_sl_string_R0 p.1 p.2.1 p.2.2 s) (fun p s => by kernel_rfl) (fun p s => rfl)
theorem ok54 : FnOk Try.prog 54 ⟨[.ty (.sl .str), .ty .str], [(.int .i64)], fun x => slices_Index_sl_string x.1 x.2⟩ :=
  fn_ok (xid := XID) (ro := ro54) (H := h54) (fn := Try.f54) (code := bodyOf Try.f54) mixed (tabOk54) Try.func54 rfl (by kernel_rfl) (loops_of (L := [(0, lb 0 Try.f54)]) (by kernel_rfl) (lcons rfl (lo54_0) (lnil))) (fun x => by kernel_rfl)
/-! 14: pantograph/rat.Int -/
noncomputable def tab14 : Tab := [(25, .d ⟨[.ty (.int .u64)], [(.sl (.int .u32))], fun x => nat_Of x⟩)]
theorem tabOk14 : TabOk Try.prog (tab14) := tabOk_cons ok25 (tabOk_nil _)
def ro14 : Nat → Bool := fun s => false
noncomputable def h14 : Hints := { loop := fun id => none, cut := fun k r => bif Nat.beq k 3 && Nat.beq r 2 then some (.flat [.s 3 (.imm (.int .u64))]) else none, frz := fun r => [] }
theorem ok14 : FnOk Try.prog 14 ⟨[.ty (.int .i64)], [tyRat], fun x => rat_Int x⟩ :=
  fn_ok (xid := XID) (ro := ro14) (H := h14) (fn := Try.f14) (code := bodyOf Try.f14) mixed (tabOk14) Try.func14 rfl (by kernel_rfl) (loops_of (L := []) (by kernel_rfl) (lnil)) (fun x => by kernel_rfl)
/-! 55: pantograph/aff.value -/
noncomputable def tab55 : Tab := [(14, .d ⟨[.ty (.int .i64)], [tyRat], fun x => rat_Int x⟩), (15, .d ⟨[.ty tyRat], [tyRat], fun x => rat_Norm x⟩)]
theorem tabOk55 : TabOk Try.prog (tab55) := tabOk_cons ok14 (tabOk_cons ok15 (tabOk_nil _))
def ro55 : Nat → Bool := fun s => false
noncomputable def h55 : Hints := { loop := fun id => none, cut := fun k r => bif Nat.beq k 0 && Nat.beq r 1 then some (.flat [.s 12 (.imm .bool)]) else none, frz := fun r => [] }
theorem ok55 : FnOk Try.prog 55 ⟨[.ty (.sl tyRat), .ty (.int .i64)], [tyRat], fun x => aff_value x.1 x.2⟩ :=
  fn_ok (xid := XID) (ro := ro55) (H := h55) (fn := Try.f55) (code := bodyOf Try.f55) mixed (tabOk55) Try.func55 rfl (by kernel_rfl) (loops_of (L := []) (by kernel_rfl) (lnil)) (fun x => by kernel_rfl)
/-! 42: pantograph/aff.told -/
noncomputable def tab42 : Tab := [(54, .d ⟨[.ty (.sl .str), .ty .str], [(.int .i64)], fun x => slices_Index_sl_string x.1 x.2⟩), (55, .d ⟨[.ty (.sl tyRat), .ty (.int .i64)], [tyRat], fun x => aff_value x.1 x.2⟩)]
theorem tabOk42 : TabOk Try.prog (tab42) := tabOk_cons ok54 (tabOk_cons ok55 (tabOk_nil _))
def ro42 : Nat → Bool := fun s => Nat.beq s 4
noncomputable def h42 : Hints := { loop := fun id => none, cut := fun k r => none, frz := fun r => [] }
theorem ok42 : FnOk Try.prog 42 ⟨[.ty .str, .ty tyaff_Env, .ty (.sl tyRat)], [tyRat, (.int .i64)], fun x => aff_told x.1 x.2.1 x.2.2⟩ :=
  fn_ok (xid := XID) (ro := ro42) (H := h42) (fn := Try.f42) (code := bodyOf Try.f42) mixed (tabOk42) Try.func42 rfl (by kernel_rfl) (loops_of (L := []) (by kernel_rfl) (lnil)) (fun x => by kernel_rfl)
/-! 56: pantograph/rat.signed -/
noncomputable def tab56 : Tab := []
theorem tabOk56 : TabOk Try.prog (tab56) := tabOk_nil _
def ro56 : Nat → Bool := fun s => false
noncomputable def h56 : Hints := { loop := fun id => none, cut := fun k r => bif Nat.beq k 0 && Nat.beq r 1 then some (.ways [⟨.normal, ⟨[.v (.imm tyRat), .v (.imm tyRat)], [], [.var (.imm tyRat), .var (.imm tyRat)]⟩⟩]) else none, frz := fun r => [] }
theorem ok56 : FnOk Try.prog 56 ⟨[.ty .bool, .ty tyRat], [tyRat], fun x => rat_signed x.1 x.2⟩ :=
  fn_ok (xid := XID) (ro := ro56) (H := h56) (fn := Try.f56) (code := bodyOf Try.f56) mixed (tabOk56) Try.func56 rfl (by kernel_rfl) (loops_of (L := []) (by kernel_rfl) (lnil)) (fun x => by kernel_rfl)
/-! 43: pantograph/rat.Neg -/
noncomputable def tab43 : Tab := [(15, .d ⟨[.ty tyRat], [tyRat], fun x => rat_Norm x⟩), (56, .d ⟨[.ty .bool, .ty tyRat], [tyRat], fun x => rat_signed x.1 x.2⟩)]
theorem tabOk43 : TabOk Try.prog (tab43) := tabOk_cons ok15 (tabOk_cons ok56 (tabOk_nil _))
def ro43 : Nat → Bool := fun s => false
noncomputable def h43 : Hints := { loop := fun id => none, cut := fun k r => none, frz := fun r => [] }
theorem ok43 : FnOk Try.prog 43 ⟨[.ty tyRat], [tyRat], fun x => rat_Neg x⟩ :=
  fn_ok (xid := XID) (ro := ro43) (H := h43) (fn := Try.f43) (code := bodyOf Try.f43) mixed (tabOk43) Try.func43 rfl (by kernel_rfl) (loops_of (L := []) (by kernel_rfl) (lnil)) (fun x => by kernel_rfl)
/-! 58: pantograph/nat.Add -/
noncomputable def tab58 : Tab := [(34, .d ⟨[.ty (.sl (.int .u32))], [(.sl (.int .u32))], fun x => nat_trim x⟩)]
theorem tabOk58 : TabOk Try.prog (tab58) := tabOk_cons ok34 (tabOk_nil _)
def ro58 : Nat → Bool := fun s => false
noncomputable def lp58_0 : LoopD := { gh := [], ps := [.s 0 (.imm (.sl (.int .u32))), .s 1 (.imm (.sl (.int .u32))), .s 24 (.imm (.sl (.int .u32))), .s 25 (.imm (.int .i64))], sh := ⟨[.s 6 (.imm (.int .u64)), .s 26 (.imm (.int .i64)), .a (.int .u32)], [(5, .cur 0 (.int .u32))], [.arr (.int .u32)]⟩, ws := [⟨.exit 0, ⟨[.s 6 (.imm (.int .u64)), .a (.int .u32)], [(5, .cur 0 (.int .u32))], [.arr (.int .u32)]⟩⟩], F := fun p s => nat_Add_L0 p.1 p.2.1 p.2.2.1 p.2.2.2 s }
noncomputable def h58 : Hints := { loop := fun id => bif Nat.beq id 0 then some (lp58_0) else none, cut := fun k r => bif Nat.beq k 3 && Nat.beq r 2 then some (.flat [.s 0 (.imm (.sl (.int .u32))), .s 1 (.imm (.sl (.int .u32)))]) else bif Nat.beq k 3 && Nat.beq r 10 then some (.flat [.s 6 (.imm (.int .u64))]) else none, frz := fun r => bif Nat.beq r 16 then [5] else [] }
theorem lo58_0 : LoopOkK Try.prog Try.f58.ntmps (lp58_0) (lb 0 Try.f58) :=
  loop_ok (xid := XID) (ro := ro58) (H := h58) mixed (tabOk58) (loops_of (L := []) (by kernel_rfl) (lnil)) (fun p s => nat_Add_R0 p.1 p.2.1 p.2.2.1 p.2.2.2 s) (fun p s => by kernel_rfl) (fun p s => rfl)
theorem ok58 : FnOk Try.prog 58 ⟨[.ty (.sl (.int .u32)), .ty (.sl (.int .u32))], [(.sl (.int .u32))], fun x => nat_Add x.1 x.2⟩ :=
  fn_ok (xid := XID) (ro := ro58) (H := h58) (fn := Try.f58) (code := bodyOf Try.f58) mixed (tabOk58) Try.func58 rfl (by kernel_rfl) (loops_of (L := [(0, lb 0 Try.f58)]) (by kernel_rfl) (lcons rfl (lo58_0) (lnil))) (fun x => by kernel_rfl)
/-! 59: pantograph/nat.Sub -/
noncomputable def tab59 : Tab := [(30, .d ⟨[.ty (.sl (.int .u32)), .ty (.sl (.int .u32))], [(.int .i64)], fun x => nat_Cmp x.1 x.2⟩), (34, .d ⟨[.ty (.sl (.int .u32))], [(.sl (.int .u32))], fun x => nat_trim x⟩), (70, .d ⟨[.ty (.int .u32), .ty (.int .u32), .ty (.int .u32)], [(.int .u32), (.int .u32)], fun x => math_bits_Sub32 x.1 x.2.1 x.2.2⟩)]
theorem tabOk59 : TabOk Try.prog (tab59) := tabOk_cons ok30 (tabOk_cons ok34 (tabOk_cons ok70 (tabOk_nil _)))
def ro59 : Nat → Bool := fun s => false
noncomputable def lp59_0 : LoopD := { gh := [], ps := [.s 1 (.imm (.sl (.int .u32))), .s 22 (.imm (.sl (.int .u32))), .s 23 (.imm (.int .i64))], sh := ⟨[.s 7 (.imm (.int .u32)), .s 24 (.imm (.int .i64)), .a (.int .u32)], [(6, .cur 0 (.int .u32))], [.arr (.int .u32)]⟩, ws := [⟨.exit 0, ⟨[.a (.int .u32)], [(6, .cur 0 (.int .u32))], [.arr (.int .u32)]⟩⟩], F := fun p s => nat_Sub_L0 p.1 p.2.1 p.2.2 s }
noncomputable def h59 : Hints := { loop := fun id => bif Nat.beq id 0 then some (lp59_0) else none, cut := fun k r => bif Nat.beq k 3 && Nat.beq r 10 then some (.flat [.s 10 (.imm (.int .u32))]) else none, frz := fun r => bif Nat.beq r 14 then [6] else [] }
theorem lo59_0 : LoopOkK Try.prog Try.f59.ntmps (lp59_0) (lb 0 Try.f59) :=
  loop_ok (xid := XID) (ro := ro59) (H := h59) mixed (tabOk59) (loops_of (L := []) (by kernel_rfl) (lnil)) (fun p s => nat_Sub_R0 p.1 p.2.1 p.2.2 s) (fun p s => by kernel_rfl) (fun p s => rfl)
theorem ok59 : FnOk Try.prog 59 ⟨[.ty (.sl (.int .u32)), .ty (.sl (.int .u32))], [(.sl (.int .u32)), .bool], fun x => nat_Sub x.1 x.2⟩ :=
  fn_ok (xid := XID) (ro := ro59) (H := h59) (fn := Try.f59) (code := bodyOf Try.f59) mixed (tabOk59) Try.func59 rfl (by kernel_rfl) (loops_of (L := [(0, lb 0 Try.f59)]) (by kernel_rfl) (lcons rfl (lo59_0) (lnil))) (fun x => by kernel_rfl)
/-! 44: pantograph/rat.Add -/
noncomputable def tab44 : Tab := [(15, .d ⟨[.ty tyRat], [tyRat], fun x => rat_Norm x⟩), (57, .d ⟨[.ty (.sl (.int .u32)), .ty (.sl (.int .u32))], [(.sl (.int .u32))], fun x => nat_Mul x.1 x.2⟩), (58, .d ⟨[.ty (.sl (.int .u32)), .ty (.sl (.int .u32))], [(.sl (.int .u32))], fun x => nat_Add x.1 x.2⟩), (26, .d ⟨[.ty .bool, .ty (.sl (.int .u32)), .ty (.sl (.int .u32))], [tyRat], fun x => rat_Of x.1 x.2.1 x.2.2⟩), (59, .d ⟨[.ty (.sl (.int .u32)), .ty (.sl (.int .u32))], [(.sl (.int .u32)), .bool], fun x => nat_Sub x.1 x.2⟩)]
theorem tabOk44 : TabOk Try.prog (tab44) := tabOk_cons ok15 (tabOk_cons ok57 (tabOk_cons ok58 (tabOk_cons ok26 (tabOk_cons ok59 (tabOk_nil _)))))
def ro44 : Nat → Bool := fun s => false
noncomputable def h44 : Hints := { loop := fun id => none, cut := fun k r => none, frz := fun r => [] }
theorem ok44 : FnOk Try.prog 44 ⟨[.ty tyRat, .ty tyRat], [tyRat], fun x => rat_Add x.1 x.2⟩ :=
  fn_ok (xid := XID) (ro := ro44) (H := h44) (fn := Try.f44) (code := bodyOf Try.f44) mixed (tabOk44) Try.func44 rfl (by kernel_rfl) (loops_of (L := []) (by kernel_rfl) (lnil)) (fun x => by kernel_rfl)
/-! 33: pantograph/rat.Sub -/
noncomputable def tab33 : Tab := [(43, .d ⟨[.ty tyRat], [tyRat], fun x => rat_Neg x⟩), (44, .d ⟨[.ty tyRat, .ty tyRat], [tyRat], fun x => rat_Add x.1 x.2⟩)]
theorem tabOk33 : TabOk Try.prog (tab33) := tabOk_cons ok43 (tabOk_cons ok44 (tabOk_nil _))
def ro33 : Nat → Bool := fun s => Nat.beq s 2 || Nat.beq s 3
noncomputable def h33 : Hints := { loop := fun id => none, cut := fun k r => none, frz := fun r => [] }
theorem ok33 : FnOk Try.prog 33 ⟨[.ty tyRat, .ty tyRat], [tyRat], fun x => rat_Sub x.1 x.2⟩ :=
  fn_ok (xid := XID) (ro := ro33) (H := h33) (fn := Try.f33) (code := bodyOf Try.f33) mixed (tabOk33) Try.func33 rfl (by kernel_rfl) (loops_of (L := []) (by kernel_rfl) (lnil)) (fun x => by kernel_rfl)
/-! 45: pantograph/rat.Mul -/
noncomputable def tab45 : Tab := [(15, .d ⟨[.ty tyRat], [tyRat], fun x => rat_Norm x⟩), (57, .d ⟨[.ty (.sl (.int .u32)), .ty (.sl (.int .u32))], [(.sl (.int .u32))], fun x => nat_Mul x.1 x.2⟩), (26, .d ⟨[.ty .bool, .ty (.sl (.int .u32)), .ty (.sl (.int .u32))], [tyRat], fun x => rat_Of x.1 x.2.1 x.2.2⟩)]
theorem tabOk45 : TabOk Try.prog (tab45) := tabOk_cons ok15 (tabOk_cons ok57 (tabOk_cons ok26 (tabOk_nil _)))
def ro45 : Nat → Bool := fun s => false
noncomputable def h45 : Hints := { loop := fun id => none, cut := fun k r => none, frz := fun r => [] }
theorem ok45 : FnOk Try.prog 45 ⟨[.ty tyRat, .ty tyRat], [tyRat], fun x => rat_Mul x.1 x.2⟩ :=
  fn_ok (xid := XID) (ro := ro45) (H := h45) (fn := Try.f45) (code := bodyOf Try.f45) mixed (tabOk45) Try.func45 rfl (by kernel_rfl) (loops_of (L := []) (by kernel_rfl) (lnil)) (fun x => by kernel_rfl)
/-! 46: pantograph/rat.Div -/
noncomputable def tab46 : Tab := [(15, .d ⟨[.ty tyRat], [tyRat], fun x => rat_Norm x⟩), (14, .d ⟨[.ty (.int .i64)], [tyRat], fun x => rat_Int x⟩), (45, .d ⟨[.ty tyRat, .ty tyRat], [tyRat], fun x => rat_Mul x.1 x.2⟩)]
theorem tabOk46 : TabOk Try.prog (tab46) := tabOk_cons ok15 (tabOk_cons ok14 (tabOk_cons ok45 (tabOk_nil _)))
def ro46 : Nat → Bool := fun s => Nat.beq s 2
noncomputable def h46 : Hints := { loop := fun id => none, cut := fun k r => none, frz := fun r => [] }
theorem ok46 : FnOk Try.prog 46 ⟨[.ty tyRat, .ty tyRat], [tyRat, .bool], fun x => rat_Div x.1 x.2⟩ :=
  fn_ok (xid := XID) (ro := ro46) (H := h46) (fn := Try.f46) (code := bodyOf Try.f46) mixed (tabOk46) Try.func46 rfl (by kernel_rfl) (loops_of (L := []) (by kernel_rfl) (lnil)) (fun x => by kernel_rfl)
/-! 32: pantograph/aff.number -/
noncomputable def tab32 (F_32 : denPs [.ty .expr, .ty tyaff_Env, .ty (.sl tyRat)] → T (Tup [tyRat, (.int .i64)])) : Tab := [(15, .d ⟨[.ty tyRat], [tyRat], fun x => rat_Norm x⟩), (42, .d ⟨[.ty .str, .ty tyaff_Env, .ty (.sl tyRat)], [tyRat, (.int .i64)], fun x => aff_told x.1 x.2.1 x.2.2⟩), (32, .d ⟨[.ty .expr, .ty tyaff_Env, .ty (.sl tyRat)], [tyRat, (.int .i64)], F_32⟩), (43, .d ⟨[.ty tyRat], [tyRat], fun x => rat_Neg x⟩), (44, .d ⟨[.ty tyRat, .ty tyRat], [tyRat], fun x => rat_Add x.1 x.2⟩), (33, .d ⟨[.ty tyRat, .ty tyRat], [tyRat], fun x => rat_Sub x.1 x.2⟩), (45, .d ⟨[.ty tyRat, .ty tyRat], [tyRat], fun x => rat_Mul x.1 x.2⟩), (46, .d ⟨[.ty tyRat, .ty tyRat], [tyRat, .bool], fun x => rat_Div x.1 x.2⟩)]
theorem tabOk32 (F_32 : denPs [.ty .expr, .ty tyaff_Env, .ty (.sl tyRat)] → T (Tup [tyRat, (.int .i64)])) (h_32 : FnOk Try.prog 32 ⟨[.ty .expr, .ty tyaff_Env, .ty (.sl tyRat)], [tyRat, (.int .i64)], F_32⟩) : TabOk Try.prog (tab32 F_32) := tabOk_cons ok15 (tabOk_cons ok42 (tabOk_cons h_32 (tabOk_cons ok43 (tabOk_cons ok44 (tabOk_cons ok33 (tabOk_cons ok45 (tabOk_cons ok46 (tabOk_nil _))))))))
def ro32 : Nat → Bool := fun s => Nat.beq s 3 || Nat.beq s 4
noncomputable def h32 (F_32 : denPs [.ty .expr, .ty tyaff_Env, .ty (.sl tyRat)] → T (Tup [tyRat, (.int .i64)])) : Hints := { loop := fun id => none, cut := fun k r => none, frz := fun r => [] }
theorem ok32_B (F_32 : denPs [.ty .expr, .ty tyaff_Env, .ty (.sl tyRat)] → T (Tup [tyRat, (.int .i64)])) (h_32 : FnOk Try.prog 32 ⟨[.ty .expr, .ty tyaff_Env, .ty (.sl tyRat)], [tyRat, (.int .i64)], F_32⟩) : FnOk Try.prog 32 ⟨[.ty .expr, .ty tyaff_Env, .ty (.sl tyRat)], [tyRat, (.int .i64)], fun x => aff_number_B (fun y0 y1 y2 => F_32 (y0, y1, y2)) x.1 x.2.1 x.2.2⟩ :=
  fn_ok (xid := XID) (ro := ro32) (H := h32 F_32) (fn := Try.f32) (code := bodyOf Try.f32) mixed (tabOk32 F_32 h_32) Try.func32 rfl (by kernel_rfl) (loops_of (L := []) (by kernel_rfl) (lnil)) (fun x => by kernel_rfl)
theorem ok32 : FnOk Try.prog 32 ⟨[.ty .expr, .ty tyaff_Env, .ty (.sl tyRat)], [tyRat, (.int .i64)], fun x => aff_number x.1 x.2.1 x.2.2⟩ :=
  fn_fix (fun F_32 x => aff_number_B (fun y0 y1 y2 => F_32 (y0, y1, y2)) x.1 x.2.1 x.2.2) (fun x => rfl) (fun F_32 h_32 => ok32_B F_32 h_32)
/-! 23: pantograph/aff.Value -/
noncomputable def tab23 : Tab := [(31, .d ⟨[.ty .expr], [.bool], fun x => expr_Is x⟩), (32, .d ⟨[.ty .expr, .ty tyaff_Env, .ty (.sl tyRat)], [tyRat, (.int .i64)], fun x => aff_number x.1 x.2.1 x.2.2⟩)]
theorem tabOk23 : TabOk Try.prog (tab23) := tabOk_cons ok31 (tabOk_cons ok32 (tabOk_nil _))
def ro23 : Nat → Bool := fun s => Nat.beq s 3 || Nat.beq s 4
noncomputable def h23 : Hints := { loop := fun id => none, cut := fun k r => none, frz := fun r => [] }
theorem ok23 : FnOk Try.prog 23 ⟨[.ty .expr, .ty tyaff_Env, .ty (.sl tyRat)], [tyRat, (.int .i64)], fun x => aff_Value x.1 x.2.1 x.2.2⟩ :=
  fn_ok (xid := XID) (ro := ro23) (H := h23) (fn := Try.f23) (code := bodyOf Try.f23) mixed (tabOk23) Try.func23 rfl (by kernel_rfl) (loops_of (L := []) (by kernel_rfl) (lnil)) (fun x => by kernel_rfl)
/-! 24: pantograph/rat.Cmp -/
noncomputable def tab24 : Tab := [(33, .d ⟨[.ty tyRat, .ty tyRat], [tyRat], fun x => rat_Sub x.1 x.2⟩)]
theorem tabOk24 : TabOk Try.prog (tab24) := tabOk_cons ok33 (tabOk_nil _)
def ro24 : Nat → Bool := fun s => Nat.beq s 2 || Nat.beq s 3
noncomputable def h24 : Hints := { loop := fun id => none, cut := fun k r => none, frz := fun r => [] }
theorem ok24 : FnOk Try.prog 24 ⟨[.ty tyRat, .ty tyRat], [(.int .i64)], fun x => rat_Cmp x.1 x.2⟩ :=
  fn_ok (xid := XID) (ro := ro24) (H := h24) (fn := Try.f24) (code := bodyOf Try.f24) mixed (tabOk24) Try.func24 rfl (by kernel_rfl) (loops_of (L := []) (by kernel_rfl) (lnil)) (fun x => by kernel_rfl)
/-! 13: pantograph/record.fails -/
noncomputable def tab13 : Tab := [(23, .d ⟨[.ty .expr, .ty tyaff_Env, .ty (.sl tyRat)], [tyRat, (.int .i64)], fun x => aff_Value x.1 x.2.1 x.2.2⟩), (24, .d ⟨[.ty tyRat, .ty tyRat], [(.int .i64)], fun x => rat_Cmp x.1 x.2⟩)]
theorem tabOk13 : TabOk Try.prog (tab13) := tabOk_cons ok23 (tabOk_cons ok24 (tabOk_nil _))
def ro13 : Nat → Bool := fun s => Nat.beq s 3 || Nat.beq s 4
noncomputable def h13 : Hints := { loop := fun id => none, cut := fun k r => bif Nat.beq k 0 && Nat.beq r 3 then some (.flat [.s 33 (.imm .bool)]) else none, frz := fun r => [] }
theorem ok13 : FnOk Try.prog 13 ⟨[.ty tyCheck, .ty tyaff_Env, .ty (.sl tyRat)], [.bool], fun x => record_fails x.1 x.2.1 x.2.2⟩ :=
  fn_ok (xid := XID) (ro := ro13) (H := h13) (fn := Try.f13) (code := bodyOf Try.f13) mixed (tabOk13) Try.func13 rfl (by kernel_rfl) (loops_of (L := []) (by kernel_rfl) (lnil)) (fun x => by kernel_rfl)
/-! 6: pantograph/record.Missing -/
noncomputable def tab6 : Tab := [(11, .d ⟨[.ty tyForm, .ty (.sl tyRat)], [tyaff_Env], fun x => elab_Env x.1 x.2⟩), (12, .d ⟨[.ty tyForm, .ty (.sl .bool)], [(.sl .bool)], fun x => page_Relevant x.1 x.2⟩), (13, .d ⟨[.ty tyCheck, .ty tyaff_Env, .ty (.sl tyRat)], [.bool], fun x => record_fails x.1 x.2.1 x.2.2⟩)]
theorem tabOk6 : TabOk Try.prog (tab6) := tabOk_cons ok11 (tabOk_cons ok12 (tabOk_cons ok13 (tabOk_nil _)))
def ro6 : Nat → Bool := fun s => Nat.beq s 2 || Nat.beq s 3
noncomputable def lp6_2 : LoopD := { gh := [], ps := [.s 2 (.rptr tyForm), .s 3 (.rptr tydoc_Doc), .s 7 (.imm (.int .i64)), .s 20 (.imm (.sl .bool)), .s 21 (.imm (.int .i64)), .s 22 (.imm (.int .i64)), .s 30 (.imm (.sl tyField)), .s 31 (.imm (.int .i64))], sh := ⟨[.s 32 (.imm (.int .i64)), .v (.imm tyaff_Env), .a .str], [(5, .cur 1 .str), (6, .ptr 0 0)], [.var (.imm tyaff_Env), .arr .str]⟩, ws := [⟨.exit 2, ⟨[.v (.imm tyaff_Env), .a .str], [(5, .cur 1 .str)], [.var (.imm tyaff_Env), .arr .str]⟩⟩], F := fun p s => record_Missing_L1 p.1 p.2.1 p.2.2.1 p.2.2.2.1 p.2.2.2.2.1 p.2.2.2.2.2.1 p.2.2.2.2.2.2.1 p.2.2.2.2.2.2.2 s }
noncomputable def lp6_4 : LoopD := { gh := [], ps := [.s 2 (.rptr tyForm), .s 3 (.rptr tydoc_Doc), .s 7 (.imm (.int .i64)), .s 20 (.imm (.sl .bool)), .s 21 (.imm (.int .i64)), .s 22 (.imm (.int .i64)), .s 67 (.imm (.sl tyCheck)), .s 68 (.imm (.int .i64))], sh := ⟨[.s 69 (.imm (.int .i64)), .v (.imm tyaff_Env), .a .str], [(5, .cur 1 .str), (6, .ptr 0 0)], [.var (.imm tyaff_Env), .arr .str]⟩, ws := [⟨.exit 4, ⟨[.v (.imm tyaff_Env), .a .str], [(5, .cur 1 .str)], [.var (.imm tyaff_Env), .arr .str]⟩⟩], F := fun p s => record_Missing_L2 p.1 p.2.1 p.2.2.1 p.2.2.2.1 p.2.2.2.2.1 p.2.2.2.2.2.1 p.2.2.2.2.2.2.1 p.2.2.2.2.2.2.2 s }
noncomputable def lp6_0 : LoopD := { gh := [.slot 5 .str], ps := [.s 2 (.rptr tyForm), .s 3 (.rptr tydoc_Doc), .s 20 (.imm (.sl .bool)), .s 21 (.imm (.int .i64))], sh := ⟨[.s 22 (.imm (.int .i64)), .v (.imm tyaff_Env), .a .str], [(5, .cur 1 .str), (6, .ptr 0 0)], [.var (.imm tyaff_Env), .arr .str]⟩, ws := [⟨.exit 0, ⟨[.v (.imm tyaff_Env), .a .str], [(5, .cur 1 .str)], [.var (.imm tyaff_Env), .arr .str]⟩⟩], F := fun p s => record_Missing_L0 p.1 p.2.1 p.2.2.1 p.2.2.2 s }
noncomputable def h6 : Hints := { loop := fun id => bif Nat.beq id 2 then some (lp6_2) else bif Nat.beq id 4 then some (lp6_4) else bif Nat.beq id 0 then some (lp6_0) else none, cut := fun k r => bif Nat.beq k 0 && Nat.beq r 10 then some (.flat [.s 59 (.imm .bool)]) else bif Nat.beq k 0 && Nat.beq r 16 then some (.ways [⟨.normal, ⟨[.s 83 (.imm .bool), .v (.imm tyaff_Env), .a .str, .v (.imm tyCheck)], [(5, .cur 1 .str)], [.var (.imm tyaff_Env), .arr .str, .var (.imm tyCheck)]⟩⟩]) else none, frz := fun r => [] }
theorem lo6_2 : LoopOkK Try.prog Try.f6.ntmps (lp6_2) (lb 2 Try.f6) :=
  loop_ok (xid := XID) (ro := ro6) (H := h6) mixed (tabOk6) (loops_of (L := []) (by kernel_rfl) (lnil)) (fun p s => record_Missing_R1 p.1 p.2.1 p.2.2.1 p.2.2.2.1 p.2.2.2.2.1 p.2.2.2.2.2.1 p.2.2.2.2.2.2.1 p.2.2.2.2.2.2.2 s) (fun p s => by kernel_rfl) (fun p s => rfl)
theorem lo6_4 : LoopOkK Try.prog Try.f6.ntmps (lp6_4) (lb 4 Try.f6) :=
  loop_ok (xid := XID) (ro := ro6) (H := h6) mixed (tabOk6) (loops_of (L := []) (by kernel_rfl) (lnil)) (fun p s => record_Missing_R2 p.1 p.2.1 p.2.2.1 p.2.2.2.1 p.2.2.2.2.1 p.2.2.2.2.2.1 p.2.2.2.2.2.2.1 p.2.2.2.2.2.2.2 s) (fun p s => by kernel_rfl) (fun p s => rfl)
theorem lo6_0 : LoopOkK Try.prog Try.f6.ntmps (lp6_0) (lb 0 Try.f6) :=
  loop_ok (xid := XID) (ro := ro6) (H := h6) mixed (tabOk6) (loops_of (L := [(2, lb 2 Try.f6), (4, lb 4 Try.f6)]) (by kernel_rfl) (lcons rfl (lo6_2) (lcons rfl (lo6_4) (lnil)))) (fun p s => record_Missing_R0 p.1 p.2.1 p.2.2.1 p.2.2.2 s) (fun p s => by kernel_rfl) (fun p s => rfl)
theorem ok6 : FnOk Try.prog 6 ⟨[.ty tyForm, .ty tydoc_Doc], [(.sl .str)], fun x => record_Missing x.1 x.2⟩ :=
  fn_ok (xid := XID) (ro := ro6) (H := h6) (fn := Try.f6) (code := bodyOf Try.f6) mixed (tabOk6) Try.func6 rfl (by kernel_rfl) (loops_of (L := [(0, lb 0 Try.f6)]) (by kernel_rfl) (lcons rfl (lo6_0) (lnil))) (fun x => by kernel_rfl)
/-! 7: pantograph/pantographlaw21.texts -/
noncomputable def tab7 : Tab := []
theorem tabOk7 : TabOk Try.prog (tab7) := tabOk_nil _
def ro7 : Nat → Bool := fun s => false
noncomputable def lp7_0 : LoopD := { gh := [], ps := [.s 0 (.imm (.sl .str)), .s 1 (.imm (.sl .str))], sh := ⟨[.s 5 (.imm (.int .i64))], [], []⟩, ws := [⟨.exit 0, ⟨[], [], []⟩⟩, ⟨.ret, ⟨[.s 4 (.imm .bool)], [], []⟩⟩], F := fun p s => law21_texts_L0 p.1 p.2 s }
noncomputable def h7 : Hints := { loop := fun id => bif Nat.beq id 0 then some (lp7_0) else none, cut := fun k r => none, frz := fun r => [] }
theorem lo7_0 : LoopOkK Try.prog Try.f7.ntmps (lp7_0) (lb 0 Try.f7) :=
  loop_ok (xid := XID) (ro := ro7) (H := h7) mixed (tabOk7) (loops_of (L := []) (by kernel_rfl) (lnil)) (fun p s => law21_texts_R0 p.1 p.2 s) (fun p s => by kernel_rfl) (fun p s => rfl)
theorem ok7 : FnOk Try.prog 7 ⟨[.ty (.sl .str), .ty (.sl .str)], [.bool], fun x => law21_texts x.1 x.2⟩ :=
  fn_ok (xid := XID) (ro := ro7) (H := h7) (fn := Try.f7) (code := bodyOf Try.f7) mixed (tabOk7) Try.func7 rfl (by kernel_rfl) (loops_of (L := [(0, lb 0 Try.f7)]) (by kernel_rfl) (lcons rfl (lo7_0) (lnil))) (fun x => by kernel_rfl)
/-! 8: pantograph/record.Of -/
noncomputable def tab8 : Tab := [(12, .d ⟨[.ty tyForm, .ty (.sl .bool)], [(.sl .bool)], fun x => page_Relevant x.1 x.2⟩), (14, .d ⟨[.ty (.int .i64)], [tyRat], fun x => rat_Int x⟩), (15, .d ⟨[.ty tyRat], [tyRat], fun x => rat_Norm x⟩)]
theorem tabOk8 : TabOk Try.prog (tab8) := tabOk_cons ok12 (tabOk_cons ok14 (tabOk_cons ok15 (tabOk_nil _)))
def ro8 : Nat → Bool := fun s => Nat.beq s 2 || Nat.beq s 3
noncomputable def lp8_0 : LoopD := { gh := [.slot 6 tyParam], ps := [.s 3 (.rptr tydoc_Doc), .s 5 (.imm (.sl .bool)), .s 15 (.imm (.sl tyField)), .s 16 (.imm (.int .i64))], sh := ⟨[.s 17 (.imm (.int .i64)), .a tyParam], [(6, .cur 0 tyParam)], [.arr tyParam]⟩, ws := [⟨.exit 0, ⟨[.a tyParam], [(6, .cur 0 tyParam)], [.arr tyParam]⟩⟩], F := fun p s => record_Of_L0 p.1 p.2.1 p.2.2.1 p.2.2.2 s }
noncomputable def h8 : Hints := { loop := fun id => bif Nat.beq id 0 then some (lp8_0) else none, cut := fun k r => bif Nat.beq k 0 && Nat.beq r 6 then some (.flat [.s 39 (.imm .bool)]) else bif Nat.beq k 3 && Nat.beq r 8 then some (.ways [⟨.normal, ⟨[.a tyParam, .v (.imm tyField), .v (.imm tyRat)], [(6, .cur 0 tyParam)], [.arr tyParam, .var (.imm tyField), .var (.imm tyRat)]⟩⟩]) else none, frz := fun r => [] }
theorem lo8_0 : LoopOkK Try.prog Try.f8.ntmps (lp8_0) (lb 0 Try.f8) :=
  loop_ok (xid := XID) (ro := ro8) (H := h8) mixed (tabOk8) (loops_of (L := []) (by kernel_rfl) (lnil)) (fun p s => record_Of_R0 p.1 p.2.1 p.2.2.1 p.2.2.2 s) (fun p s => by kernel_rfl) (fun p s => rfl)
theorem ok8 : FnOk Try.prog 8 ⟨[.ty tyForm, .ty tydoc_Doc], [(.sl tyParam)], fun x => record_Of x.1 x.2⟩ :=
  fn_ok (xid := XID) (ro := ro8) (H := h8) (fn := Try.f8) (code := bodyOf Try.f8) mixed (tabOk8) Try.func8 rfl (by kernel_rfl) (loops_of (L := [(0, lb 0 Try.f8)]) (by kernel_rfl) (lcons rfl (lo8_0) (lnil))) (fun x => by kernel_rfl)
/-! 3: pantograph/pantographlaw21.RecordFilled -/
noncomputable def tab3 : Tab := [(4, .d ⟨[.ty tyForm], [.bool], fun x => law21_heavy x⟩), (5, .d ⟨[], [.bool], fun _ => law21_known⟩), (6, .d ⟨[.ty tyForm, .ty tydoc_Doc], [(.sl .str)], fun x => record_Missing x.1 x.2⟩), (7, .d ⟨[.ty (.sl .str), .ty (.sl .str)], [.bool], fun x => law21_texts x.1 x.2⟩), (8, .d ⟨[.ty tyForm, .ty tydoc_Doc], [(.sl tyParam)], fun x => record_Of x.1 x.2⟩)]
theorem tabOk3 : TabOk Try.prog (tab3) := tabOk_cons ok4 (tabOk_cons ok5 (tabOk_cons ok6 (tabOk_cons ok7 (tabOk_cons ok8 (tabOk_nil _)))))
def ro3 : Nat → Bool := fun s => false
noncomputable def lp3_0 : LoopD := { gh := [], ps := [.s 1 (.imm (.sl .bool))], sh := ⟨[.s 6 (.imm (.int .i64)), .v (.imm tyForm), .a tyPage], [(2, .ptr 0 0), (5, .cur 1 tyPage)], [.var (.imm tyForm), .arr tyPage]⟩, ws := [⟨.exit 0, ⟨[.v (.imm tyForm), .a tyPage], [(5, .cur 1 tyPage)], [.var (.imm tyForm), .arr tyPage]⟩⟩], F := fun p s => law21_RecordFilled_L0 p s }
noncomputable def lp3_2 : LoopD := { gh := [.cell 2 5 .bool, .slot 8 .str], ps := [.s 1 (.imm (.sl .bool))], sh := ⟨[.s 9 (.imm (.int .i64)), .v (.st [.im (.sl tySwitch), .im (.sl tyParam), .row 1 tyPage, .im (.sl tyField), .im (.sl tyRule), .im (.sl tyCheck)]), .a tyPage, .v (.st [.im (.sl tyRat), .im (.sl .bool), .im (.sl tyRat), .im (.sl (.int .i64)), .im (.sl tydoc_Pin), .row 3 .bool]), .a .bool, .a .str], [(2, .ptr 0 0), (7, .ptr 2 0), (8, .cur 4 .str)], [.var (.st [.im (.sl tySwitch), .im (.sl tyParam), .row 1 tyPage, .im (.sl tyField), .im (.sl tyRule), .im (.sl tyCheck)]), .arr tyPage, .var (.st [.im (.sl tyRat), .im (.sl .bool), .im (.sl tyRat), .im (.sl (.int .i64)), .im (.sl tydoc_Pin), .row 3 .bool]), .arr .bool, .arr .str]⟩, ws := [⟨.exit 2, ⟨[.v (.st [.im (.sl tySwitch), .im (.sl tyParam), .row 1 tyPage, .im (.sl tyField), .im (.sl tyRule), .im (.sl tyCheck)]), .a tyPage, .v (.st [.im (.sl tyRat), .im (.sl .bool), .im (.sl tyRat), .im (.sl (.int .i64)), .im (.sl tydoc_Pin), .row 3 .bool]), .a .bool, .a .str], [(8, .cur 4 .str)], [.var (.st [.im (.sl tySwitch), .im (.sl tyParam), .row 1 tyPage, .im (.sl tyField), .im (.sl tyRule), .im (.sl tyCheck)]), .arr tyPage, .var (.st [.im (.sl tyRat), .im (.sl .bool), .im (.sl tyRat), .im (.sl (.int .i64)), .im (.sl tydoc_Pin), .row 3 .bool]), .arr .bool, .arr .str]⟩⟩, ⟨.ret, ⟨[.s 4 (.imm .bool), .v (.st [.im (.sl tySwitch), .im (.sl tyParam), .row 1 tyPage, .im (.sl tyField), .im (.sl tyRule), .im (.sl tyCheck)]), .a tyPage, .v (.st [.im (.sl tyRat), .im (.sl .bool), .im (.sl tyRat), .im (.sl (.int .i64)), .im (.sl tydoc_Pin), .row 3 .bool]), .a .bool, .a .str], [], [.var (.st [.im (.sl tySwitch), .im (.sl tyParam), .row 1 tyPage, .im (.sl tyField), .im (.sl tyRule), .im (.sl tyCheck)]), .arr tyPage, .var (.st [.im (.sl tyRat), .im (.sl .bool), .im (.sl tyRat), .im (.sl (.int .i64)), .im (.sl tydoc_Pin), .row 3 .bool]), .arr .bool, .arr .str]⟩⟩], F := fun p s => law21_RecordFilled_L1 p s }
noncomputable def h3 : Hints := { loop := fun id => bif Nat.beq id 0 then some (lp3_0) else bif Nat.beq id 2 then some (lp3_2) else none, cut := fun k r => bif Nat.beq k 0 && Nat.beq r 1 then some (.ways [⟨.normal, ⟨[.s 16 (.imm .bool), .v (.imm tyForm)], [], [.var (.imm tyForm)]⟩⟩]) else bif Nat.beq k 0 && Nat.beq r 16 then some (.flat [.s 82 (.imm .bool)]) else none, frz := fun r => bif Nat.beq r 21 then [1000002, 1002005] else [] }
theorem lo3_0 : LoopOkK Try.prog Try.f3.ntmps (lp3_0) (lb 0 Try.f3) :=
  loop_ok (xid := XID) (ro := ro3) (H := h3) mixed (tabOk3) (loops_of (L := []) (by kernel_rfl) (lnil)) (fun p s => law21_RecordFilled_R0 p s) (fun p s => by kernel_rfl) (fun p s => rfl)
theorem lo3_2 : LoopOkK Try.prog Try.f3.ntmps (lp3_2) (lb 2 Try.f3) :=
  loop_ok (xid := XID) (ro := ro3) (H := h3) mixed (tabOk3) (loops_of (L := []) (by kernel_rfl) (lnil)) (fun p s => law21_RecordFilled_R1 p s) (fun p s => by kernel_rfl) (fun p s => rfl)
theorem ok3 : FnOk Try.prog 3 ⟨[.ty tyForm, .ty (.sl .bool)], [.bool], fun x => law21_RecordFilled x.1 x.2⟩ :=
  fn_ok (xid := XID) (ro := ro3) (H := h3) (fn := Try.f3) (code := bodyOf Try.f3) mixed (tabOk3) Try.func3 rfl (by kernel_rfl) (loops_of (L := [(0, lb 0 Try.f3), (2, lb 2 Try.f3)]) (by kernel_rfl) (lcons rfl (lo3_0) (lcons rfl (lo3_2) (lnil)))) (fun x => by kernel_rfl)
end Go.AM.Lf
