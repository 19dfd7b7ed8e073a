/-
  The walk, part 0: each function of the program is the tree that the lifted text says; printed by a program of ours.
-/
import Derived.Test.YtgfadkdgifpddaaDoorProg
import Derived.KernelRfl
import Derived.Test.YtgfadkdgifpddaaDoorAmD
import Derived.Test.YtgfadkdgifpddaaDoorLf0
import Derived.Test.YtgfadkdgifpddaaDoorSh
set_option linter.unusedVariables false
set_option maxRecDepth 100000
namespace Go.AM.Lf
open Go.Proofs
abbrev XID : Nat := 1000
noncomputable def bodyOf (f : Func) : Code := match f.body with | some c => c | none => .skip
noncomputable def lb (k : Nat) (f : Func) : Code := match loopAt k (bodyOf f) with | some c => c | none => .skip
theorem mixed : Tryd.prog.follows .mixedOrders = true := by kernel_rfl
instance : Glob := ⟨[(0, isInt1 .i64)]⟩
theorem glob_internal_bytealg_MaxLen {κ : KS} (hI : Inv κ) : ∃ m, κ.w.cell? ⟨0, 0, none⟩ = some (.int .i64 m) :=
  int1_cell (hI.gl (0, isInt1 .i64) (by simp [Glob.tab])).2
/-! 70: pantograph/nat.Is -/
noncomputable def tab70 : Tab := []
theorem tabOk70 : TabOk Tryd.prog (tab70) := tabOk_nil _
def ro70 : Nat → Bool := fun s => false
noncomputable def h70 : Hints := { loop := fun id => none, cut := fun k r => bif Nat.beq k 0 && Nat.beq r 1 then some (.flat [.s 2 (.imm .bool)]) else none, frz := fun r => [] }
theorem ok70 : FnOk Tryd.prog 70 ⟨[.ty (.sl (.int .u32))], [.bool], fun x => nat_Is x⟩ :=
  fn_ok (xid := XID) (ro := ro70) (H := h70) (fn := Tryd.f70) (code := bodyOf Tryd.f70) mixed (tabOk70) Tryd.func70 rfl (by kernel_rfl) (loops_of (L := []) (by kernel_rfl) (lnil)) (fun x => by kernel_rfl)
/-! 55: pantograph/nat.trim -/
noncomputable def tab55 : Tab := [(70, .d ⟨[.ty (.sl (.int .u32))], [.bool], fun x => nat_Is x⟩)]
theorem tabOk55 : TabOk Tryd.prog (tab55) := tabOk_cons ok70 (tabOk_nil _)
def ro55 : Nat → Bool := fun s => false
noncomputable def lp55_0 : LoopD := { gh := [], ps := [], sh := ⟨[.s 0 (.imm (.sl (.int .u32)))], [], []⟩, ws := [⟨.exit 0, ⟨[.s 0 (.imm (.sl (.int .u32)))], [], []⟩⟩], F := fun p s => nat_trim_L0  s }
noncomputable def h55 : Hints := { loop := fun id => bif Nat.beq id 0 then some (lp55_0) else none, cut := fun k r => none, frz := fun r => [] }
theorem lo55_0 : LoopOkK Tryd.prog Tryd.f55.ntmps (lp55_0) (lb 0 Tryd.f55) :=
  loop_ok (xid := XID) (ro := ro55) (H := h55) mixed (tabOk55) (loops_of (L := []) (by kernel_rfl) (lnil)) (fun p s => nat_trim_R0  s) (fun p s => by kernel_rfl) (fun p s => rfl)
theorem ok55 : FnOk Tryd.prog 55 ⟨[.ty (.sl (.int .u32))], [(.sl (.int .u32))], fun x => nat_trim x⟩ :=
  fn_ok (xid := XID) (ro := ro55) (H := h55) (fn := Tryd.f55) (code := bodyOf Tryd.f55) mixed (tabOk55) Tryd.func55 rfl (by kernel_rfl) (loops_of (L := [(0, lb 0 Tryd.f55)]) (by kernel_rfl) (lcons rfl (lo55_0) (lnil))) (fun x => by kernel_rfl)
/-! 68: slices.Clone[[]uint32,uint32] -/
noncomputable def tab68 : Tab := []
theorem tabOk68 : TabOk Tryd.prog (tab68) := tabOk_nil _
def ro68 : Nat → Bool := fun s => false
noncomputable def h68 : Hints := { loop := fun id => none, cut := fun k r => bif Nat.beq k 0 && Nat.beq r 1 then some (.nilt) else none, frz := fun r => [] }
theorem ok68 : FnOk Tryd.prog 68 ⟨[.ty (.sl (.int .u32))], [(.sl (.int .u32))], fun x => slices_Clone_sl_uint32 x⟩ :=
  fn_ok (xid := XID) (ro := ro68) (H := h68) (fn := Tryd.f68) (code := bodyOf Tryd.f68) mixed (tabOk68) Tryd.func68 rfl (by kernel_rfl) (loops_of (L := []) (by kernel_rfl) (lnil)) (fun x => by kernel_rfl)
/-! 46: pantograph/nat.Trim -/
noncomputable def tab46 : Tab := [(55, .d ⟨[.ty (.sl (.int .u32))], [(.sl (.int .u32))], fun x => nat_trim x⟩), (68, .d ⟨[.ty (.sl (.int .u32))], [(.sl (.int .u32))], fun x => slices_Clone_sl_uint32 x⟩)]
theorem tabOk46 : TabOk Tryd.prog (tab46) := tabOk_cons ok55 (tabOk_cons ok68 (tabOk_nil _))
def ro46 : Nat → Bool := fun s => false
noncomputable def h46 : Hints := { loop := fun id => none, cut := fun k r => none, frz := fun r => [] }
theorem ok46 : FnOk Tryd.prog 46 ⟨[.ty (.sl (.int .u32))], [(.sl (.int .u32))], fun x => nat_Trim x⟩ :=
  fn_ok (xid := XID) (ro := ro46) (H := h46) (fn := Tryd.f46) (code := bodyOf Tryd.f46) mixed (tabOk46) Tryd.func46 rfl (by kernel_rfl) (loops_of (L := []) (by kernel_rfl) (lnil)) (fun x => by kernel_rfl)
/-! 35: pantograph/nat.Of -/
noncomputable def tab35 : Tab := [(55, .d ⟨[.ty (.sl (.int .u32))], [(.sl (.int .u32))], fun x => nat_trim x⟩)]
theorem tabOk35 : TabOk Tryd.prog (tab35) := tabOk_cons ok55 (tabOk_nil _)
def ro35 : Nat → Bool := fun s => false
noncomputable def h35 : Hints := { loop := fun id => none, cut := fun k r => none, frz := fun r => [] }
theorem ok35 : FnOk Tryd.prog 35 ⟨[.ty (.int .u64)], [(.sl (.int .u32))], fun x => nat_Of x⟩ :=
  fn_ok (xid := XID) (ro := ro35) (H := h35) (fn := Tryd.f35) (code := bodyOf Tryd.f35) mixed (tabOk35) Tryd.func35 rfl (by kernel_rfl) (loops_of (L := []) (by kernel_rfl) (lnil)) (fun x => by kernel_rfl)
/-! 34: pantograph/nat.Cmp -/
noncomputable def tab34 : Tab := [(55, .d ⟨[.ty (.sl (.int .u32))], [(.sl (.int .u32))], fun x => nat_trim x⟩)]
theorem tabOk34 : TabOk Tryd.prog (tab34) := tabOk_cons ok55 (tabOk_nil _)
def ro34 : Nat → Bool := fun s => false
noncomputable def lp34_0 : LoopD := { gh := [], ps := [.s 0 (.imm (.sl (.int .u32))), .s 1 (.imm (.sl (.int .u32)))], sh := ⟨[.s 5 (.imm (.int .i64))], [], []⟩, ws := [⟨.exit 0, ⟨[], [], []⟩⟩, ⟨.ret, ⟨[.s 4 (.imm (.int .i64))], [], []⟩⟩], F := fun p s => nat_Cmp_L0 p.1 p.2 s }
noncomputable def h34 : Hints := { loop := fun id => bif Nat.beq id 0 then some (lp34_0) else none, cut := fun k r => none, frz := fun r => [] }
theorem lo34_0 : LoopOkK Tryd.prog Tryd.f34.ntmps (lp34_0) (lb 0 Tryd.f34) :=
  loop_ok (xid := XID) (ro := ro34) (H := h34) mixed (tabOk34) (loops_of (L := []) (by kernel_rfl) (lnil)) (fun p s => nat_Cmp_R0 p.1 p.2 s) (fun p s => by kernel_rfl) (fun p s => rfl)
theorem ok34 : FnOk Tryd.prog 34 ⟨[.ty (.sl (.int .u32)), .ty (.sl (.int .u32))], [(.int .i64)], fun x => nat_Cmp x.1 x.2⟩ :=
  fn_ok (xid := XID) (ro := ro34) (H := h34) (fn := Tryd.f34) (code := bodyOf Tryd.f34) mixed (tabOk34) Tryd.func34 rfl (by kernel_rfl) (loops_of (L := [(0, lb 0 Tryd.f34)]) (by kernel_rfl) (lcons rfl (lo34_0) (lnil))) (fun x => by kernel_rfl)
/-! 69: math/bits.Div32 -/
noncomputable def tab69 : Tab := []
theorem tabOk69 : TabOk Tryd.prog (tab69) := tabOk_nil _
def ro69 : Nat → Bool := fun s => false
noncomputable def h69 : Hints := { loop := fun id => none, cut := fun k r => bif Nat.beq k 0 && Nat.beq r 1 then some (.flat [.s 15 (.imm .bool)]) else none, frz := fun r => [] }
theorem ok69 : FnOk Tryd.prog 69 ⟨[.ty (.int .u32), .ty (.int .u32), .ty (.int .u32)], [(.int .u32), (.int .u32)], fun x => math_bits_Div32 x.1 x.2.1 x.2.2⟩ :=
  fn_ok (xid := XID) (ro := ro69) (H := h69) (fn := Tryd.f69) (code := bodyOf Tryd.f69) mixed (tabOk69) Tryd.func69 rfl (by kernel_rfl) (loops_of (L := []) (by kernel_rfl) (lnil)) (fun x => by kernel_rfl)
/-! 53: pantograph/nat.small -/
noncomputable def tab53 : Tab := [(69, .d ⟨[.ty (.int .u32), .ty (.int .u32), .ty (.int .u32)], [(.int .u32), (.int .u32)], fun x => math_bits_Div32 x.1 x.2.1 x.2.2⟩), (55, .d ⟨[.ty (.sl (.int .u32))], [(.sl (.int .u32))], fun x => nat_trim x⟩)]
theorem tabOk53 : TabOk Tryd.prog (tab53) := tabOk_cons ok69 (tabOk_cons ok55 (tabOk_nil _))
def ro53 : Nat → Bool := fun s => false
noncomputable def lp53_0 : LoopD := { gh := [], ps := [.s 0 (.imm (.sl (.int .u32))), .s 1 (.imm (.int .u32))], sh := ⟨[.s 7 (.imm (.int .u32)), .s 8 (.imm (.int .i64)), .a (.int .u32)], [(6, .cur 0 (.int .u32))], [.arr (.int .u32)]⟩, ws := [⟨.exit 0, ⟨[.s 7 (.imm (.int .u32)), .a (.int .u32)], [(6, .cur 0 (.int .u32))], [.arr (.int .u32)]⟩⟩], F := fun p s => nat_small_L0 p.1 p.2 s }
noncomputable def h53 : Hints := { loop := fun id => bif Nat.beq id 0 then some (lp53_0) else none, cut := fun k r => none, frz := fun r => bif Nat.beq r 7 then [6] else [] }
theorem lo53_0 : LoopOkK Tryd.prog Tryd.f53.ntmps (lp53_0) (lb 0 Tryd.f53) :=
  loop_ok (xid := XID) (ro := ro53) (H := h53) mixed (tabOk53) (loops_of (L := []) (by kernel_rfl) (lnil)) (fun p s => nat_small_R0 p.1 p.2 s) (fun p s => by kernel_rfl) (fun p s => rfl)
theorem ok53 : FnOk Tryd.prog 53 ⟨[.ty (.sl (.int .u32)), .ty (.int .u32)], [(.sl (.int .u32)), (.int .u32)], fun x => nat_small x.1 x.2⟩ :=
  fn_ok (xid := XID) (ro := ro53) (H := h53) (fn := Tryd.f53) (code := bodyOf Tryd.f53) mixed (tabOk53) Tryd.func53 rfl (by kernel_rfl) (loops_of (L := [(0, lb 0 Tryd.f53)]) (by kernel_rfl) (lcons rfl (lo53_0) (lnil))) (fun x => by kernel_rfl)
/-! 89: math/bits.Len32 -/
noncomputable def tab89 : Tab := []
theorem tabOk89 : TabOk Tryd.prog (tab89) := tabOk_nil _
def ro89 : Nat → Bool := fun s => false
noncomputable def h89 : Hints := { loop := fun id => none, cut := fun k r => bif Nat.beq k 3 && Nat.beq r 1 then some (.flat [.s 0 (.imm (.int .u32)), .s 2 (.imm (.int .i64))]) else bif Nat.beq k 3 && Nat.beq r 4 then some (.flat [.s 0 (.imm (.int .u32)), .s 2 (.imm (.int .i64))]) else none, frz := fun r => [] }
theorem ok89 : FnOk Tryd.prog 89 ⟨[.ty (.int .u32)], [(.int .i64)], fun x => math_bits_Len32 x⟩ :=
  fn_ok (xid := XID) (ro := ro89) (H := h89) (fn := Tryd.f89) (code := bodyOf Tryd.f89) mixed (tabOk89) Tryd.func89 rfl (by kernel_rfl) (loops_of (L := []) (by kernel_rfl) (lnil)) (fun x => by kernel_rfl)
/-! 71: math/bits.LeadingZeros32 -/
noncomputable def tab71 : Tab := [(89, .d ⟨[.ty (.int .u32)], [(.int .i64)], fun x => math_bits_Len32 x⟩)]
theorem tabOk71 : TabOk Tryd.prog (tab71) := tabOk_cons ok89 (tabOk_nil _)
def ro71 : Nat → Bool := fun s => false
noncomputable def h71 : Hints := { loop := fun id => none, cut := fun k r => none, frz := fun r => [] }
theorem ok71 : FnOk Tryd.prog 71 ⟨[.ty (.int .u32)], [(.int .i64)], fun x => math_bits_LeadingZeros32 x⟩ :=
  fn_ok (xid := XID) (ro := ro71) (H := h71) (fn := Tryd.f71) (code := bodyOf Tryd.f71) mixed (tabOk71) Tryd.func71 rfl (by kernel_rfl) (loops_of (L := []) (by kernel_rfl) (lnil)) (fun x => by kernel_rfl)
/-! 72: pantograph/nat.left -/
noncomputable def tab72 : Tab := []
theorem tabOk72 : TabOk Tryd.prog (tab72) := tabOk_nil _
def ro72 : Nat → Bool := fun s => false
noncomputable def lp72_0 : LoopD := { gh := [], ps := [.s 1 (.imm (.int .u64)), .s 2 (.imm (.int .i64)), .s 13 (.imm (.sl (.int .u32))), .s 14 (.imm (.int .i64))], sh := ⟨[.s 15 (.imm (.int .i64)), .a (.int .u32)], [(7, .cur 0 (.int .u32))], [.arr (.int .u32)]⟩, ws := [⟨.exit 0, ⟨[.a (.int .u32)], [(7, .cur 0 (.int .u32))], [.arr (.int .u32)]⟩⟩], F := fun p s => nat_left_S_L0 p.1 p.2.1 p.2.2.1 p.2.2.2 s }
noncomputable def h72 : Hints := { loop := fun id => bif Nat.beq id 0 then some (lp72_0) else none, cut := fun k r => none, frz := fun r => [] }
theorem lo72_0 : LoopOkK Tryd.prog Tryd.f72.ntmps (lp72_0) (lb 0 Tryd.f72) :=
  loop_ok (xid := XID) (ro := ro72) (H := h72) mixed (tabOk72) (loops_of (L := []) (by kernel_rfl) (lnil)) (fun p s => nat_left_S_R0 p.1 p.2.1 p.2.2.1 p.2.2.2 s) (fun p s => by kernel_rfl) (fun p s => rfl)
theorem ok72 : FnSOk Tryd.prog 72 ⟨[.any, .any, .any], ⟨[.s 0 (.imm (.sl (.int .u32))), .s 1 (.imm (.int .u64)), .s 2 (.imm (.int .i64))], [], []⟩, [], ⟨[.a (.int .u32)], [(0, .cur 0 (.int .u32))], [.arr (.int .u32)]⟩, 1, fun x => nat_left_S x.1 x.2.1 x.2.2⟩ :=
  fns_ok (xid := XID) (ro := ro72) (H := h72) (fn := Tryd.f72) (code := bodyOf Tryd.f72) mixed (tabOk72) Tryd.func72 rfl (by kernel_rfl) (loops_of (L := [(0, lb 0 Tryd.f72)]) (by kernel_rfl) (lcons rfl (lo72_0) (lnil))) (fun x => by kernel_rfl)
/-! 73: pantograph/nat.guess -/
noncomputable def tab73 : Tab := []
theorem tabOk73 : TabOk Tryd.prog (tab73) := tabOk_nil _
def ro73 : Nat → Bool := fun s => false
noncomputable def lp73_0 : LoopD := { gh := [], ps := [.s 2 (.imm (.int .u32)), .s 3 (.imm (.int .u32)), .s 4 (.imm (.int .u32))], sh := ⟨[.s 12 (.imm (.int .u64)), .s 13 (.imm (.int .u64))], [], []⟩, ws := [⟨.exit 0, ⟨[.s 12 (.imm (.int .u64))], [], []⟩⟩], F := fun p s => nat_guess_L0 p.1 p.2.1 p.2.2 s }
noncomputable def h73 : Hints := { loop := fun id => bif Nat.beq id 0 then some (lp73_0) else none, cut := fun k r => bif Nat.beq k 0 && Nat.beq r 3 then some (.flat [.s 42 (.imm .bool)]) else none, frz := fun r => [] }
theorem lo73_0 : LoopOkK Tryd.prog Tryd.f73.ntmps (lp73_0) (lb 0 Tryd.f73) :=
  loop_ok (xid := XID) (ro := ro73) (H := h73) mixed (tabOk73) (loops_of (L := []) (by kernel_rfl) (lnil)) (fun p s => nat_guess_R0 p.1 p.2.1 p.2.2 s) (fun p s => by kernel_rfl) (fun p s => rfl)
theorem ok73 : FnOk Tryd.prog 73 ⟨[.ty (.int .u32), .ty (.int .u32), .ty (.int .u32), .ty (.int .u32), .ty (.int .u32)], [(.int .u64)], fun x => nat_guess x.1 x.2.1 x.2.2.1 x.2.2.2.1 x.2.2.2.2⟩ :=
  fn_ok (xid := XID) (ro := ro73) (H := h73) (fn := Tryd.f73) (code := bodyOf Tryd.f73) mixed (tabOk73) Tryd.func73 rfl (by kernel_rfl) (loops_of (L := [(0, lb 0 Tryd.f73)]) (by kernel_rfl) (lcons rfl (lo73_0) (lnil))) (fun x => by kernel_rfl)
/-! 90: math/bits.Sub32 -/
noncomputable def tab90 : Tab := []
theorem tabOk90 : TabOk Tryd.prog (tab90) := tabOk_nil _
def ro90 : Nat → Bool := fun s => false
noncomputable def h90 : Hints := { loop := fun id => none, cut := fun k r => none, frz := fun r => [] }
theorem ok90 : FnOk Tryd.prog 90 ⟨[.ty (.int .u32), .ty (.int .u32), .ty (.int .u32)], [(.int .u32), (.int .u32)], fun x => math_bits_Sub32 x.1 x.2.1 x.2.2⟩ :=
  fn_ok (xid := XID) (ro := ro90) (H := h90) (fn := Tryd.f90) (code := bodyOf Tryd.f90) mixed (tabOk90) Tryd.func90 rfl (by kernel_rfl) (loops_of (L := []) (by kernel_rfl) (lnil)) (fun x => by kernel_rfl)
/-! 91: math/bits.Add32 -/
noncomputable def tab91 : Tab := []
theorem tabOk91 : TabOk Tryd.prog (tab91) := tabOk_nil _
def ro91 : Nat → Bool := fun s => false
noncomputable def h91 : Hints := { loop := fun id => none, cut := fun k r => none, frz := fun r => [] }
theorem ok91 : FnOk Tryd.prog 91 ⟨[.ty (.int .u32), .ty (.int .u32), .ty (.int .u32)], [(.int .u32), (.int .u32)], fun x => math_bits_Add32 x.1 x.2.1 x.2.2⟩ :=
  fn_ok (xid := XID) (ro := ro91) (H := h91) (fn := Tryd.f91) (code := bodyOf Tryd.f91) mixed (tabOk91) Tryd.func91 rfl (by kernel_rfl) (loops_of (L := []) (by kernel_rfl) (lnil)) (fun x => by kernel_rfl)
/-! 74: pantograph/nat.takes -/
noncomputable def tab74 : Tab := [(90, .d ⟨[.ty (.int .u32), .ty (.int .u32), .ty (.int .u32)], [(.int .u32), (.int .u32)], fun x => math_bits_Sub32 x.1 x.2.1 x.2.2⟩), (91, .d ⟨[.ty (.int .u32), .ty (.int .u32), .ty (.int .u32)], [(.int .u32), (.int .u32)], fun x => math_bits_Add32 x.1 x.2.1 x.2.2⟩)]
theorem tabOk74 : TabOk Tryd.prog (tab74) := tabOk_cons ok90 (tabOk_cons ok91 (tabOk_nil _))
def ro74 : Nat → Bool := fun s => false
noncomputable def lp74_0 : LoopD := { gh := [], ps := [.s 1 (.imm (.sl (.int .u32))), .s 2 (.imm (.int .u64)), .s 14 (.imm (.sl (.int .u32))), .s 15 (.imm (.int .i64))], sh := ⟨[.s 0 (.sub 0 (.int .u32)), .s 7 (.imm (.int .u64)), .s 8 (.imm (.int .u32)), .s 16 (.imm (.int .i64)), .a (.int .u32)], [], [.arr (.int .u32)]⟩, ws := [⟨.exit 0, ⟨[.s 0 (.sub 0 (.int .u32)), .s 7 (.imm (.int .u64)), .s 8 (.imm (.int .u32)), .a (.int .u32)], [], [.arr (.int .u32)]⟩⟩], F := fun p s => nat_takes_S_L0 p.1 p.2.1 p.2.2.1 p.2.2.2 s }
noncomputable def lp74_2 : LoopD := { gh := [], ps := [.s 1 (.imm (.sl (.int .u32))), .s 62 (.imm (.sl (.int .u32))), .s 63 (.imm (.int .i64))], sh := ⟨[.s 0 (.sub 0 (.int .u32)), .s 11 (.imm (.int .u32)), .s 64 (.imm (.int .i64)), .a (.int .u32)], [], [.arr (.int .u32)]⟩, ws := [⟨.exit 2, ⟨[.s 0 (.sub 0 (.int .u32)), .s 11 (.imm (.int .u32)), .a (.int .u32)], [], [.arr (.int .u32)]⟩⟩], F := fun p s => nat_takes_S_L1 p.1 p.2.1 p.2.2 s }
noncomputable def h74 : Hints := { loop := fun id => bif Nat.beq id 0 then some (lp74_0) else bif Nat.beq id 2 then some (lp74_2) else none, cut := fun k r => none, frz := fun r => [] }
theorem lo74_0 : LoopOkK Tryd.prog Tryd.f74.ntmps (lp74_0) (lb 0 Tryd.f74) :=
  loop_ok (xid := XID) (ro := ro74) (H := h74) mixed (tabOk74) (loops_of (L := []) (by kernel_rfl) (lnil)) (fun p s => nat_takes_S_R0 p.1 p.2.1 p.2.2.1 p.2.2.2 s) (fun p s => by kernel_rfl) (fun p s => rfl)
theorem lo74_2 : LoopOkK Tryd.prog Tryd.f74.ntmps (lp74_2) (lb 2 Tryd.f74) :=
  loop_ok (xid := XID) (ro := ro74) (H := h74) mixed (tabOk74) (loops_of (L := []) (by kernel_rfl) (lnil)) (fun p s => nat_takes_S_R1 p.1 p.2.1 p.2.2 s) (fun p s => by kernel_rfl) (fun p s => rfl)
theorem ok74 : FnSOk Tryd.prog 74 ⟨[.sub, .any, .any], ⟨[.s 0 (.sub 0 (.int .u32)), .s 1 (.imm (.sl (.int .u32))), .s 2 (.imm (.int .u64)), .a (.int .u32)], [], [.arr (.int .u32)]⟩, [], ⟨[.s 0 (.imm .bool), .a (.int .u32)], [], [.arr (.int .u32)]⟩, 1, fun x => nat_takes_S x.1 x.2.1 x.2.2.1 x.2.2.2⟩ :=
  fns_ok (xid := XID) (ro := ro74) (H := h74) (fn := Tryd.f74) (code := bodyOf Tryd.f74) mixed (tabOk74) Tryd.func74 rfl (by kernel_rfl) (loops_of (L := [(0, lb 0 Tryd.f74), (2, lb 2 Tryd.f74)]) (by kernel_rfl) (lcons rfl (lo74_0) (lcons rfl (lo74_2) (lnil)))) (fun x => by kernel_rfl)
/-! 72: pantograph/nat.left -/
noncomputable def tab72_1 : Tab := []
theorem tabOk72_1 : TabOk Tryd.prog (tab72_1) := tabOk_nil _
def ro72_1 : Nat → Bool := fun s => false
noncomputable def lp72_1_0 : LoopD := { gh := [], ps := [.s 1 (.imm (.int .u64)), .s 2 (.imm (.int .i64)), .s 13 (.imm (.sl (.int .u32))), .s 14 (.imm (.int .i64))], sh := ⟨[.s 15 (.imm (.int .i64)), .a (.int .u32)], [(7, .cur 0 (.int .u32))], [.arr (.int .u32)]⟩, ws := [⟨.exit 0, ⟨[.a (.int .u32)], [(7, .cur 0 (.int .u32))], [.arr (.int .u32)]⟩⟩], F := fun p s => nat_left_L0 p.1 p.2.1 p.2.2.1 p.2.2.2 s }
noncomputable def h72_1 : Hints := { loop := fun id => bif Nat.beq id 0 then some (lp72_1_0) else none, cut := fun k r => none, frz := fun r => [] }
theorem lo72_1_0 : LoopOkK Tryd.prog Tryd.f72.ntmps (lp72_1_0) (lb 0 Tryd.f72) :=
  loop_ok (xid := XID) (ro := ro72_1) (H := h72_1) mixed (tabOk72_1) (loops_of (L := []) (by kernel_rfl) (lnil)) (fun p s => nat_left_R0 p.1 p.2.1 p.2.2.1 p.2.2.2 s) (fun p s => by kernel_rfl) (fun p s => rfl)
theorem ok72_1 : FnOk Tryd.prog 72 ⟨[.ty (.sl (.int .u32)), .ty (.int .u64), .ty (.int .i64)], [(.sl (.int .u32))], fun x => nat_left x.1 x.2.1 x.2.2⟩ :=
  fn_ok (xid := XID) (ro := ro72_1) (H := h72_1) (fn := Tryd.f72) (code := bodyOf Tryd.f72) mixed (tabOk72_1) Tryd.func72 rfl (by kernel_rfl) (loops_of (L := [(0, lb 0 Tryd.f72)]) (by kernel_rfl) (lcons rfl (lo72_1_0) (lnil))) (fun x => by kernel_rfl)
/-! 58: pantograph/nat.Shift -/
noncomputable def tab58 : Tab := [(55, .d ⟨[.ty (.sl (.int .u32))], [(.sl (.int .u32))], fun x => nat_trim x⟩), (72, .d ⟨[.ty (.sl (.int .u32)), .ty (.int .u64), .ty (.int .i64)], [(.sl (.int .u32))], fun x => nat_left x.1 x.2.1 x.2.2⟩)]
theorem tabOk58 : TabOk Tryd.prog (tab58) := tabOk_cons ok55 (tabOk_cons ok72_1 (tabOk_nil _))
def ro58 : Nat → Bool := fun s => false
noncomputable def lp58_0 : LoopD := { gh := [], ps := [.s 6 (.imm (.int .u64)), .s 38 (.imm (.sl (.int .u32))), .s 39 (.imm (.int .i64))], sh := ⟨[.s 40 (.imm (.int .i64)), .a (.int .u32)], [(7, .cur 0 (.int .u32))], [.arr (.int .u32)]⟩, ws := [⟨.exit 0, ⟨[.a (.int .u32)], [(7, .cur 0 (.int .u32))], [.arr (.int .u32)]⟩⟩], F := fun p s => nat_Shift_L0 p.1 p.2.1 p.2.2 s }
noncomputable def h58 : Hints := { loop := fun id => bif Nat.beq id 0 then some (lp58_0) else none, cut := fun k r => none, frz := fun r => bif Nat.beq r 21 then [12] else bif Nat.beq r 17 then [7] else [] }
theorem lo58_0 : LoopOkK Tryd.prog Tryd.f58.ntmps (lp58_0) (lb 0 Tryd.f58) :=
  loop_ok (xid := XID) (ro := ro58) (H := h58) mixed (tabOk58) (loops_of (L := []) (by kernel_rfl) (lnil)) (fun p s => nat_Shift_R0 p.1 p.2.1 p.2.2 s) (fun p s => by kernel_rfl) (fun p s => rfl)
theorem ok58 : FnOk Tryd.prog 58 ⟨[.ty (.sl (.int .u32)), .ty (.int .i64)], [(.sl (.int .u32))], fun x => nat_Shift x.1 x.2⟩ :=
  fn_ok (xid := XID) (ro := ro58) (H := h58) (fn := Tryd.f58) (code := bodyOf Tryd.f58) mixed (tabOk58) Tryd.func58 rfl (by kernel_rfl) (loops_of (L := [(0, lb 0 Tryd.f58)]) (by kernel_rfl) (lcons rfl (lo58_0) (lnil))) (fun x => by kernel_rfl)
/-! 56: pantograph/nat.long -/
noncomputable def tab56 : Tab := [(72, .s ⟨[.any, .any, .any], ⟨[.s 0 (.imm (.sl (.int .u32))), .s 1 (.imm (.int .u64)), .s 2 (.imm (.int .i64))], [], []⟩, [], ⟨[.a (.int .u32)], [(0, .cur 0 (.int .u32))], [.arr (.int .u32)]⟩, 1, fun x => nat_left_S x.1 x.2.1 x.2.2⟩), (74, .s ⟨[.sub, .any, .any], ⟨[.s 0 (.sub 0 (.int .u32)), .s 1 (.imm (.sl (.int .u32))), .s 2 (.imm (.int .u64)), .a (.int .u32)], [], [.arr (.int .u32)]⟩, [], ⟨[.s 0 (.imm .bool), .a (.int .u32)], [], [.arr (.int .u32)]⟩, 1, fun x => nat_takes_S x.1 x.2.1 x.2.2.1 x.2.2.2⟩), (71, .d ⟨[.ty (.int .u32)], [(.int .i64)], fun x => math_bits_LeadingZeros32 x⟩), (73, .d ⟨[.ty (.int .u32), .ty (.int .u32), .ty (.int .u32), .ty (.int .u32), .ty (.int .u32)], [(.int .u64)], fun x => nat_guess x.1 x.2.1 x.2.2.1 x.2.2.2.1 x.2.2.2.2⟩), (55, .d ⟨[.ty (.sl (.int .u32))], [(.sl (.int .u32))], fun x => nat_trim x⟩), (58, .d ⟨[.ty (.sl (.int .u32)), .ty (.int .i64)], [(.sl (.int .u32))], fun x => nat_Shift x.1 x.2⟩)]
theorem tabOk56 : TabOk Tryd.prog (tab56) := tabOk_consS ok72 (tabOk_consS ok74 (tabOk_cons ok71 (tabOk_cons ok73 (tabOk_cons ok55 (tabOk_cons ok58 (tabOk_nil _))))))
def ro56 : Nat → Bool := fun s => false
noncomputable def lp56_0 : LoopD := { gh := [], ps := [.s 6 (.imm (.int .u64)), .s 8 (.imm (.sl (.int .u32))), .s 9 (.imm (.int .i64))], sh := ⟨[.s 10 (.imm (.int .i64)), .a (.int .u32), .a (.int .u32)], [(4, .cur 2 (.int .u32)), (7, .cur 0 (.int .u32))], [.arr (.int .u32), .dead, .arr (.int .u32)]⟩, ws := [⟨.exit 0, ⟨[.a (.int .u32), .a (.int .u32)], [(4, .cur 2 (.int .u32)), (7, .cur 0 (.int .u32))], [.arr (.int .u32), .dead, .arr (.int .u32)]⟩⟩], F := fun p s => nat_long_L0 p.1 p.2.1 p.2.2 s }
noncomputable def h56 : Hints := { loop := fun id => bif Nat.beq id 0 then some (lp56_0) else none, cut := fun k r => bif Nat.beq k 3 && Nat.beq r 9 then some (.ways [⟨.normal, ⟨[.s 11 (.imm (.int .u64)), .a (.int .u32), .a (.int .u32)], [(4, .cur 2 (.int .u32)), (7, .cur 0 (.int .u32))], [.arr (.int .u32), .dead, .arr (.int .u32)]⟩⟩]) else none, frz := fun r => bif Nat.beq r 12 then [4, 7] else bif Nat.beq r 5 then [8] else [] }
theorem lo56_0 : LoopOkK Tryd.prog Tryd.f56.ntmps (lp56_0) (lb 0 Tryd.f56) :=
  loop_ok (xid := XID) (ro := ro56) (H := h56) mixed (tabOk56) (loops_of (L := []) (by kernel_rfl) (lnil)) (fun p s => nat_long_R0 p.1 p.2.1 p.2.2 s) (fun p s => by kernel_rfl) (fun p s => rfl)
theorem ok56 : FnOk Tryd.prog 56 ⟨[.ty (.sl (.int .u32)), .ty (.sl (.int .u32))], [(.sl (.int .u32)), (.sl (.int .u32))], fun x => nat_long x.1 x.2⟩ :=
  fn_ok (xid := XID) (ro := ro56) (H := h56) (fn := Tryd.f56) (code := bodyOf Tryd.f56) mixed (tabOk56) Tryd.func56 rfl (by kernel_rfl) (loops_of (L := [(0, lb 0 Tryd.f56)]) (by kernel_rfl) (lcons rfl (lo56_0) (lnil))) (fun x => by kernel_rfl)
/-! 36: pantograph/nat.DivMod -/
noncomputable def tab36 : Tab := [(55, .d ⟨[.ty (.sl (.int .u32))], [(.sl (.int .u32))], fun x => nat_trim x⟩), (34, .d ⟨[.ty (.sl (.int .u32)), .ty (.sl (.int .u32))], [(.int .i64)], fun x => nat_Cmp x.1 x.2⟩), (46, .d ⟨[.ty (.sl (.int .u32))], [(.sl (.int .u32))], fun x => nat_Trim x⟩), (53, .d ⟨[.ty (.sl (.int .u32)), .ty (.int .u32)], [(.sl (.int .u32)), (.int .u32)], fun x => nat_small x.1 x.2⟩), (35, .d ⟨[.ty (.int .u64)], [(.sl (.int .u32))], fun x => nat_Of x⟩), (56, .d ⟨[.ty (.sl (.int .u32)), .ty (.sl (.int .u32))], [(.sl (.int .u32)), (.sl (.int .u32))], fun x => nat_long x.1 x.2⟩)]
theorem tabOk36 : TabOk Tryd.prog (tab36) := tabOk_cons ok55 (tabOk_cons ok34 (tabOk_cons ok46 (tabOk_cons ok53 (tabOk_cons ok35 (tabOk_cons ok56 (tabOk_nil _))))))
def ro36 : Nat → Bool := fun s => false
noncomputable def h36 : Hints := { loop := fun id => none, cut := fun k r => none, frz := fun r => [] }
theorem ok36 : FnOk Tryd.prog 36 ⟨[.ty (.sl (.int .u32)), .ty (.sl (.int .u32))], [(.sl (.int .u32)), (.sl (.int .u32)), .bool], fun x => nat_DivMod x.1 x.2⟩ :=
  fn_ok (xid := XID) (ro := ro36) (H := h36) (fn := Tryd.f36) (code := bodyOf Tryd.f36) mixed (tabOk36) Tryd.func36 rfl (by kernel_rfl) (loops_of (L := []) (by kernel_rfl) (lnil)) (fun x => by kernel_rfl)
/-! 47: pantograph/nat.Gcd -/
noncomputable def tab47 : Tab := [(46, .d ⟨[.ty (.sl (.int .u32))], [(.sl (.int .u32))], fun x => nat_Trim x⟩), (36, .d ⟨[.ty (.sl (.int .u32)), .ty (.sl (.int .u32))], [(.sl (.int .u32)), (.sl (.int .u32)), .bool], fun x => nat_DivMod x.1 x.2⟩)]
theorem tabOk47 : TabOk Tryd.prog (tab47) := tabOk_cons ok46 (tabOk_cons ok36 (tabOk_nil _))
def ro47 : Nat → Bool := fun s => false
noncomputable def lp47_0 : LoopD := { gh := [], ps := [], sh := ⟨[.s 0 (.imm (.sl (.int .u32))), .s 1 (.imm (.sl (.int .u32)))], [], []⟩, ws := [⟨.exit 0, ⟨[.s 0 (.imm (.sl (.int .u32)))], [], []⟩⟩], F := fun p s => nat_Gcd_L0  s }
noncomputable def h47 : Hints := { loop := fun id => bif Nat.beq id 0 then some (lp47_0) else none, cut := fun k r => none, frz := fun r => [] }
theorem lo47_0 : LoopOkK Tryd.prog Tryd.f47.ntmps (lp47_0) (lb 0 Tryd.f47) :=
  loop_ok (xid := XID) (ro := ro47) (H := h47) mixed (tabOk47) (loops_of (L := []) (by kernel_rfl) (lnil)) (fun p s => nat_Gcd_R0  s) (fun p s => by kernel_rfl) (fun p s => rfl)
theorem ok47 : FnOk Tryd.prog 47 ⟨[.ty (.sl (.int .u32)), .ty (.sl (.int .u32))], [(.sl (.int .u32))], fun x => nat_Gcd x.1 x.2⟩ :=
  fn_ok (xid := XID) (ro := ro47) (H := h47) (fn := Tryd.f47) (code := bodyOf Tryd.f47) mixed (tabOk47) Tryd.func47 rfl (by kernel_rfl) (loops_of (L := [(0, lb 0 Tryd.f47)]) (by kernel_rfl) (lcons rfl (lo47_0) (lnil))) (fun x => by kernel_rfl)
/-! 26: pantograph/rat.Of -/
noncomputable def tab26 : Tab := [(46, .d ⟨[.ty (.sl (.int .u32))], [(.sl (.int .u32))], fun x => nat_Trim x⟩), (35, .d ⟨[.ty (.int .u64)], [(.sl (.int .u32))], fun x => nat_Of x⟩), (47, .d ⟨[.ty (.sl (.int .u32)), .ty (.sl (.int .u32))], [(.sl (.int .u32))], fun x => nat_Gcd x.1 x.2⟩), (36, .d ⟨[.ty (.sl (.int .u32)), .ty (.sl (.int .u32))], [(.sl (.int .u32)), (.sl (.int .u32)), .bool], fun x => nat_DivMod x.1 x.2⟩)]
theorem tabOk26 : TabOk Tryd.prog (tab26) := tabOk_cons ok46 (tabOk_cons ok35 (tabOk_cons ok47 (tabOk_cons ok36 (tabOk_nil _))))
def ro26 : Nat → Bool := fun s => false
noncomputable def h26 : Hints := { loop := fun id => none, cut := fun k r => bif Nat.beq k 0 && Nat.beq r 2 then some (.flat [.s 19 (.imm .bool)]) else none, frz := fun r => [] }
theorem ok26 : FnOk Tryd.prog 26 ⟨[.ty .bool, .ty (.sl (.int .u32)), .ty (.sl (.int .u32))], [tyRat], fun x => rat_Of x.1 x.2.1 x.2.2⟩ :=
  fn_ok (xid := XID) (ro := ro26) (H := h26) (fn := Tryd.f26) (code := bodyOf Tryd.f26) mixed (tabOk26) Tryd.func26 rfl (by kernel_rfl) (loops_of (L := []) (by kernel_rfl) (lnil)) (fun x => by kernel_rfl)
/-! 31: pantograph/rat.Norm -/
noncomputable def tab31 : Tab := [(26, .d ⟨[.ty .bool, .ty (.sl (.int .u32)), .ty (.sl (.int .u32))], [tyRat], fun x => rat_Of x.1 x.2.1 x.2.2⟩)]
theorem tabOk31 : TabOk Tryd.prog (tab31) := tabOk_cons ok26 (tabOk_nil _)
def ro31 : Nat → Bool := fun s => Nat.beq s 1
noncomputable def h31 : Hints := { loop := fun id => none, cut := fun k r => none, frz := fun r => [] }
theorem ok31 : FnOk Tryd.prog 31 ⟨[.ty tyRat], [tyRat], fun x => rat_Norm x⟩ :=
  fn_ok (xid := XID) (ro := ro31) (H := h31) (fn := Tryd.f31) (code := bodyOf Tryd.f31) mixed (tabOk31) Tryd.func31 rfl (by kernel_rfl) (loops_of (L := []) (by kernel_rfl) (lnil)) (fun x => by kernel_rfl)
/-! 39: pantograph/dec.held -/
noncomputable def tab39 : Tab := []
theorem tabOk39 : TabOk Tryd.prog (tab39) := tabOk_nil _
def ro39 : Nat → Bool := fun s => false
noncomputable def h39 : Hints := { loop := fun id => none, cut := fun k r => none, frz := fun r => [] }
theorem ok39 : FnOk Tryd.prog 39 ⟨[.ty (.int .i64)], [(.int .i64)], fun x => dec_held x⟩ :=
  fn_ok (xid := XID) (ro := ro39) (H := h39) (fn := Tryd.f39) (code := bodyOf Tryd.f39) mixed (tabOk39) Tryd.func39 rfl (by kernel_rfl) (loops_of (L := []) (by kernel_rfl) (lnil)) (fun x => by kernel_rfl)
/-! 37: pantograph/nat.Mul -/
noncomputable def tab37 : Tab := [(55, .d ⟨[.ty (.sl (.int .u32))], [(.sl (.int .u32))], fun x => nat_trim x⟩)]
theorem tabOk37 : TabOk Tryd.prog (tab37) := tabOk_cons ok55 (tabOk_nil _)
def ro37 : Nat → Bool := fun s => false
noncomputable def lp37_2 : LoopD := { gh := [], ps := [.s 1 (.imm (.sl (.int .u32))), .s 6 (.imm (.int .i64)), .s 7 (.imm (.int .u32)), .s 21 (.imm (.sl (.int .u32))), .s 22 (.imm (.int .i64)), .s 23 (.imm (.int .i64)), .s 28 (.imm (.sl (.int .u32))), .s 29 (.imm (.int .i64))], sh := ⟨[.s 8 (.imm (.int .u64)), .s 30 (.imm (.int .i64)), .a (.int .u32)], [(5, .cur 0 (.int .u32))], [.arr (.int .u32)]⟩, ws := [⟨.exit 2, ⟨[.s 8 (.imm (.int .u64)), .a (.int .u32)], [(5, .cur 0 (.int .u32))], [.arr (.int .u32)]⟩⟩], F := fun p s => nat_Mul_L1 p.1 p.2.1 p.2.2.1 p.2.2.2.1 p.2.2.2.2.1 p.2.2.2.2.2.1 p.2.2.2.2.2.2.1 p.2.2.2.2.2.2.2 s }
noncomputable def lp37_0 : LoopD := { gh := [], ps := [.s 1 (.imm (.sl (.int .u32))), .s 21 (.imm (.sl (.int .u32))), .s 22 (.imm (.int .i64))], sh := ⟨[.s 23 (.imm (.int .i64)), .a (.int .u32)], [(5, .cur 0 (.int .u32))], [.arr (.int .u32)]⟩, ws := [⟨.exit 0, ⟨[.a (.int .u32)], [(5, .cur 0 (.int .u32))], [.arr (.int .u32)]⟩⟩], F := fun p s => nat_Mul_L0 p.1 p.2.1 p.2.2 s }
noncomputable def h37 : Hints := { loop := fun id => bif Nat.beq id 2 then some (lp37_2) else bif Nat.beq id 0 then some (lp37_0) else none, cut := fun k r => none, frz := fun r => bif Nat.beq r 16 then [5] else [] }
theorem lo37_2 : LoopOkK Tryd.prog Tryd.f37.ntmps (lp37_2) (lb 2 Tryd.f37) :=
  loop_ok (xid := XID) (ro := ro37) (H := h37) mixed (tabOk37) (loops_of (L := []) (by kernel_rfl) (lnil)) (fun p s => nat_Mul_R1 p.1 p.2.1 p.2.2.1 p.2.2.2.1 p.2.2.2.2.1 p.2.2.2.2.2.1 p.2.2.2.2.2.2.1 p.2.2.2.2.2.2.2 s) (fun p s => by kernel_rfl) (fun p s => rfl)
theorem lo37_0 : LoopOkK Tryd.prog Tryd.f37.ntmps (lp37_0) (lb 0 Tryd.f37) :=
  loop_ok (xid := XID) (ro := ro37) (H := h37) mixed (tabOk37) (loops_of (L := [(2, lb 2 Tryd.f37)]) (by kernel_rfl) (lcons rfl (lo37_2) (lnil))) (fun p s => nat_Mul_R0 p.1 p.2.1 p.2.2 s) (fun p s => by kernel_rfl) (fun p s => rfl)
theorem ok37 : FnOk Tryd.prog 37 ⟨[.ty (.sl (.int .u32)), .ty (.sl (.int .u32))], [(.sl (.int .u32))], fun x => nat_Mul x.1 x.2⟩ :=
  fn_ok (xid := XID) (ro := ro37) (H := h37) (fn := Tryd.f37) (code := bodyOf Tryd.f37) mixed (tabOk37) Tryd.func37 rfl (by kernel_rfl) (loops_of (L := [(0, lb 0 Tryd.f37)]) (by kernel_rfl) (lcons rfl (lo37_0) (lnil))) (fun x => by kernel_rfl)
/-! 27: pantograph/dec.ten -/
noncomputable def tab27 : Tab := [(35, .d ⟨[.ty (.int .u64)], [(.sl (.int .u32))], fun x => nat_Of x⟩), (37, .d ⟨[.ty (.sl (.int .u32)), .ty (.sl (.int .u32))], [(.sl (.int .u32))], fun x => nat_Mul x.1 x.2⟩)]
theorem tabOk27 : TabOk Tryd.prog (tab27) := tabOk_cons ok35 (tabOk_cons ok37 (tabOk_nil _))
def ro27 : Nat → Bool := fun s => false
noncomputable def lp27_0 : LoopD := { gh := [], ps := [.s 5 (.imm (.int .i64))], sh := ⟨[.s 3 (.imm (.sl (.int .u32))), .s 6 (.imm (.int .i64))], [], []⟩, ws := [⟨.exit 0, ⟨[.s 3 (.imm (.sl (.int .u32)))], [], []⟩⟩], F := fun p s => dec_ten_L0 p s }
noncomputable def h27 : Hints := { loop := fun id => bif Nat.beq id 0 then some (lp27_0) else none, cut := fun k r => none, frz := fun r => [] }
theorem lo27_0 : LoopOkK Tryd.prog Tryd.f27.ntmps (lp27_0) (lb 0 Tryd.f27) :=
  loop_ok (xid := XID) (ro := ro27) (H := h27) mixed (tabOk27) (loops_of (L := []) (by kernel_rfl) (lnil)) (fun p s => dec_ten_R0 p s) (fun p s => by kernel_rfl) (fun p s => rfl)
theorem ok27 : FnOk Tryd.prog 27 ⟨[.ty (.int .i64)], [(.sl (.int .u32))], fun x => dec_ten x⟩ :=
  fn_ok (xid := XID) (ro := ro27) (H := h27) (fn := Tryd.f27) (code := bodyOf Tryd.f27) mixed (tabOk27) Tryd.func27 rfl (by kernel_rfl) (loops_of (L := [(0, lb 0 Tryd.f27)]) (by kernel_rfl) (lcons rfl (lo27_0) (lnil))) (fun x => by kernel_rfl)
/-! 45: pantograph/nat.Add -/
noncomputable def tab45 : Tab := [(55, .d ⟨[.ty (.sl (.int .u32))], [(.sl (.int .u32))], fun x => nat_trim x⟩)]
theorem tabOk45 : TabOk Tryd.prog (tab45) := tabOk_cons ok55 (tabOk_nil _)
def ro45 : Nat → Bool := fun s => false
noncomputable def lp45_0 : LoopD := { gh := [], ps := [.s 0 (.imm (.sl (.int .u32))), .s 1 (.imm (.sl (.int .u32))), .s 24 (.imm (.sl (.int .u32))), .s 25 (.imm (.int .i64))], sh := ⟨[.s 6 (.imm (.int .u64)), .s 26 (.imm (.int .i64)), .a (.int .u32)], [(5, .cur 0 (.int .u32))], [.arr (.int .u32)]⟩, ws := [⟨.exit 0, ⟨[.s 6 (.imm (.int .u64)), .a (.int .u32)], [(5, .cur 0 (.int .u32))], [.arr (.int .u32)]⟩⟩], F := fun p s => nat_Add_L0 p.1 p.2.1 p.2.2.1 p.2.2.2 s }
noncomputable def h45 : Hints := { loop := fun id => bif Nat.beq id 0 then some (lp45_0) else none, cut := fun k r => bif Nat.beq k 3 && Nat.beq r 2 then some (.flat [.s 0 (.imm (.sl (.int .u32))), .s 1 (.imm (.sl (.int .u32)))]) else bif Nat.beq k 3 && Nat.beq r 10 then some (.flat [.s 6 (.imm (.int .u64))]) else none, frz := fun r => bif Nat.beq r 16 then [5] else [] }
theorem lo45_0 : LoopOkK Tryd.prog Tryd.f45.ntmps (lp45_0) (lb 0 Tryd.f45) :=
  loop_ok (xid := XID) (ro := ro45) (H := h45) mixed (tabOk45) (loops_of (L := []) (by kernel_rfl) (lnil)) (fun p s => nat_Add_R0 p.1 p.2.1 p.2.2.1 p.2.2.2 s) (fun p s => by kernel_rfl) (fun p s => rfl)
theorem ok45 : FnOk Tryd.prog 45 ⟨[.ty (.sl (.int .u32)), .ty (.sl (.int .u32))], [(.sl (.int .u32))], fun x => nat_Add x.1 x.2⟩ :=
  fn_ok (xid := XID) (ro := ro45) (H := h45) (fn := Tryd.f45) (code := bodyOf Tryd.f45) mixed (tabOk45) Tryd.func45 rfl (by kernel_rfl) (loops_of (L := [(0, lb 0 Tryd.f45)]) (by kernel_rfl) (lcons rfl (lo45_0) (lnil))) (fun x => by kernel_rfl)
/-! 40: pantograph/dec.units -/
noncomputable def tab40 : Tab := [(27, .d ⟨[.ty (.int .i64)], [(.sl (.int .u32))], fun x => dec_ten x⟩), (37, .d ⟨[.ty (.sl (.int .u32)), .ty (.sl (.int .u32))], [(.sl (.int .u32))], fun x => nat_Mul x.1 x.2⟩), (36, .d ⟨[.ty (.sl (.int .u32)), .ty (.sl (.int .u32))], [(.sl (.int .u32)), (.sl (.int .u32)), .bool], fun x => nat_DivMod x.1 x.2⟩), (58, .d ⟨[.ty (.sl (.int .u32)), .ty (.int .i64)], [(.sl (.int .u32))], fun x => nat_Shift x.1 x.2⟩), (34, .d ⟨[.ty (.sl (.int .u32)), .ty (.sl (.int .u32))], [(.int .i64)], fun x => nat_Cmp x.1 x.2⟩), (35, .d ⟨[.ty (.int .u64)], [(.sl (.int .u32))], fun x => nat_Of x⟩), (45, .d ⟨[.ty (.sl (.int .u32)), .ty (.sl (.int .u32))], [(.sl (.int .u32))], fun x => nat_Add x.1 x.2⟩)]
theorem tabOk40 : TabOk Tryd.prog (tab40) := tabOk_cons ok27 (tabOk_cons ok37 (tabOk_cons ok36 (tabOk_cons ok58 (tabOk_cons ok34 (tabOk_cons ok35 (tabOk_cons ok45 (tabOk_nil _)))))))
def ro40 : Nat → Bool := fun s => Nat.beq s 2
noncomputable def h40 : Hints := { loop := fun id => none, cut := fun k r => bif Nat.beq k 0 && Nat.beq r 3 then some (.flat [.s 43 (.imm .bool)]) else none, frz := fun r => [] }
theorem ok40 : FnOk Tryd.prog 40 ⟨[.ty tyRat, .ty (.int .i64)], [(.sl (.int .u32))], fun x => dec_units x.1 x.2⟩ :=
  fn_ok (xid := XID) (ro := ro40) (H := h40) (fn := Tryd.f40) (code := bodyOf Tryd.f40) mixed (tabOk40) Tryd.func40 rfl (by kernel_rfl) (loops_of (L := []) (by kernel_rfl) (lnil)) (fun x => by kernel_rfl)
/-! 18: pantograph/dec.Round -/
noncomputable def tab18 : Tab := [(31, .d ⟨[.ty tyRat], [tyRat], fun x => rat_Norm x⟩), (39, .d ⟨[.ty (.int .i64)], [(.int .i64)], fun x => dec_held x⟩), (40, .d ⟨[.ty tyRat, .ty (.int .i64)], [(.sl (.int .u32))], fun x => dec_units x.1 x.2⟩), (27, .d ⟨[.ty (.int .i64)], [(.sl (.int .u32))], fun x => dec_ten x⟩), (26, .d ⟨[.ty .bool, .ty (.sl (.int .u32)), .ty (.sl (.int .u32))], [tyRat], fun x => rat_Of x.1 x.2.1 x.2.2⟩)]
theorem tabOk18 : TabOk Tryd.prog (tab18) := tabOk_cons ok31 (tabOk_cons ok39 (tabOk_cons ok40 (tabOk_cons ok27 (tabOk_cons ok26 (tabOk_nil _)))))
def ro18 : Nat → Bool := fun s => false
noncomputable def h18 : Hints := { loop := fun id => none, cut := fun k r => none, frz := fun r => [] }
theorem ok18 : FnOk Tryd.prog 18 ⟨[.ty tyRat, .ty (.int .i64)], [tyRat], fun x => dec_Round x.1 x.2⟩ :=
  fn_ok (xid := XID) (ro := ro18) (H := h18) (fn := Tryd.f18) (code := bodyOf Tryd.f18) mixed (tabOk18) Tryd.func18 rfl (by kernel_rfl) (loops_of (L := []) (by kernel_rfl) (lnil)) (fun x => by kernel_rfl)
/-! 32: pantograph/dec.sign -/
noncomputable def tab32 : Tab := []
theorem tabOk32 : TabOk Tryd.prog (tab32) := tabOk_nil _
def ro32 : Nat → Bool := fun s => Nat.beq s 1
noncomputable def h32 : Hints := { loop := fun id => none, cut := fun k r => none, frz := fun r => [] }
theorem ok32 : FnOk Tryd.prog 32 ⟨[.ty tyRat], [.str], fun x => dec_sign x⟩ :=
  fn_ok (xid := XID) (ro := ro32) (H := h32) (fn := Tryd.f32) (code := bodyOf Tryd.f32) mixed (tabOk32) Tryd.func32 rfl (by kernel_rfl) (loops_of (L := []) (by kernel_rfl) (lnil)) (fun x => by kernel_rfl)
/-! 54: slices.Reverse[[]byte,byte] -/
noncomputable def tab54 : Tab := []
theorem tabOk54 : TabOk Tryd.prog (tab54) := tabOk_nil _
def ro54 : Nat → Bool := fun s => false
noncomputable def lp54_0 : LoopD := { gh := [], ps := [], sh := ⟨[.s 0 (.sub 0 (.int .u8)), .s 2 (.imm (.int .i64)), .s 3 (.imm (.int .i64)), .a (.int .u8)], [], [.arr (.int .u8)]⟩, ws := [⟨.exit 0, ⟨[.a (.int .u8)], [], [.arr (.int .u8)]⟩⟩], F := fun p s => slices_Reverse_sl_byte_S_L0  s }
noncomputable def h54 : Hints := { loop := fun id => bif Nat.beq id 0 then some (lp54_0) else none, cut := fun k r => none, frz := fun r => [] }
theorem lo54_0 : LoopOkK Tryd.prog Tryd.f54.ntmps (lp54_0) (lb 0 Tryd.f54) :=
  loop_ok (xid := XID) (ro := ro54) (H := h54) mixed (tabOk54) (loops_of (L := []) (by kernel_rfl) (lnil)) (fun p s => slices_Reverse_sl_byte_S_R0  s) (fun p s => by kernel_rfl) (fun p s => rfl)
theorem ok54 : FnSOk Tryd.prog 54 ⟨[.sub], ⟨[.s 0 (.sub 0 (.int .u8)), .a (.int .u8)], [], [.arr (.int .u8)]⟩, [], ⟨[.a (.int .u8)], [], [.arr (.int .u8)]⟩, 0, fun x => slices_Reverse_sl_byte_S x.1 x.2⟩ :=
  fns_ok (xid := XID) (ro := ro54) (H := h54) (fn := Tryd.f54) (code := bodyOf Tryd.f54) mixed (tabOk54) Tryd.func54 rfl (by kernel_rfl) (loops_of (L := [(0, lb 0 Tryd.f54)]) (by kernel_rfl) (lcons rfl (lo54_0) (lnil))) (fun x => by kernel_rfl)
/-! 33: pantograph/nat.Print -/
noncomputable def tab33 : Tab := [(54, .s ⟨[.sub], ⟨[.s 0 (.sub 0 (.int .u8)), .a (.int .u8)], [], [.arr (.int .u8)]⟩, [], ⟨[.a (.int .u8)], [], [.arr (.int .u8)]⟩, 0, fun x => slices_Reverse_sl_byte_S x.1 x.2⟩), (46, .d ⟨[.ty (.sl (.int .u32))], [(.sl (.int .u32))], fun x => nat_Trim x⟩), (53, .d ⟨[.ty (.sl (.int .u32)), .ty (.int .u32)], [(.sl (.int .u32)), (.int .u32)], fun x => nat_small x.1 x.2⟩)]
theorem tabOk33 : TabOk Tryd.prog (tab33) := tabOk_consS ok54 (tabOk_cons ok46 (tabOk_cons ok53 (tabOk_nil _)))
def ro33 : Nat → Bool := fun s => false
noncomputable def lp33_2 : LoopD := { gh := [], ps := [.s 4 (.imm (.sl (.int .u32)))], sh := ⟨[.s 5 (.imm (.int .u32)), .s 19 (.imm (.int .i64)), .a (.int .u8)], [(3, .cur 0 (.int .u8))], [.arr (.int .u8)]⟩, ws := [⟨.exit 2, ⟨[.a (.int .u8)], [(3, .cur 0 (.int .u8))], [.arr (.int .u8)]⟩⟩], F := fun p s => nat_Print_L1 p s }
noncomputable def lp33_0 : LoopD := { gh := [.slot 3 (.int .u8)], ps := [], sh := ⟨[.s 0 (.imm (.sl (.int .u32))), .a (.int .u8)], [(3, .cur 0 (.int .u8))], [.arr (.int .u8)]⟩, ws := [⟨.exit 0, ⟨[.a (.int .u8)], [(3, .cur 0 (.int .u8))], [.arr (.int .u8)]⟩⟩], F := fun p s => nat_Print_L0  s }
noncomputable def lp33_4 : LoopD := { gh := [], ps := [], sh := ⟨[.s 3 (.sub 0 (.int .u8)), .a (.int .u8)], [], [.arr (.int .u8)]⟩, ws := [⟨.exit 4, ⟨[.s 3 (.sub 0 (.int .u8)), .a (.int .u8)], [], [.arr (.int .u8)]⟩⟩], F := fun p s => nat_Print_L2  s }
noncomputable def h33 : Hints := { loop := fun id => bif Nat.beq id 2 then some (lp33_2) else bif Nat.beq id 0 then some (lp33_0) else bif Nat.beq id 4 then some (lp33_4) else none, cut := fun k r => bif Nat.beq k 0 && Nat.beq r 13 then some (.flat [.s 42 (.imm .bool)]) else none, frz := fun r => [] }
theorem lo33_2 : LoopOkK Tryd.prog Tryd.f33.ntmps (lp33_2) (lb 2 Tryd.f33) :=
  loop_ok (xid := XID) (ro := ro33) (H := h33) mixed (tabOk33) (loops_of (L := []) (by kernel_rfl) (lnil)) (fun p s => nat_Print_R1 p s) (fun p s => by kernel_rfl) (fun p s => rfl)
theorem lo33_0 : LoopOkK Tryd.prog Tryd.f33.ntmps (lp33_0) (lb 0 Tryd.f33) :=
  loop_ok (xid := XID) (ro := ro33) (H := h33) mixed (tabOk33) (loops_of (L := [(2, lb 2 Tryd.f33)]) (by kernel_rfl) (lcons rfl (lo33_2) (lnil))) (fun p s => nat_Print_R0  s) (fun p s => by kernel_rfl) (fun p s => rfl)
theorem lo33_4 : LoopOkK Tryd.prog Tryd.f33.ntmps (lp33_4) (lb 4 Tryd.f33) :=
  loop_ok (xid := XID) (ro := ro33) (H := h33) mixed (tabOk33) (loops_of (L := []) (by kernel_rfl) (lnil)) (fun p s => nat_Print_R2  s) (fun p s => by kernel_rfl) (fun p s => rfl)
theorem ok33 : FnOk Tryd.prog 33 ⟨[.ty (.sl (.int .u32))], [.str], fun x => nat_Print x⟩ :=
  fn_ok (xid := XID) (ro := ro33) (H := h33) (fn := Tryd.f33) (code := bodyOf Tryd.f33) mixed (tabOk33) Tryd.func33 rfl (by kernel_rfl) (loops_of (L := [(0, lb 0 Tryd.f33), (4, lb 4 Tryd.f33)]) (by kernel_rfl) (lcons rfl (lo33_0) (lcons rfl (lo33_4) (lnil)))) (fun x => by kernel_rfl)
/-! 57: strings.Repeat, by the shelf -/
theorem ok57 : FnOk Tryd.prog 57 ⟨[.ty .str, .ty i64], [.str], fun x => strings_Repeat x.1 x.2⟩ := by
  refine fn_of_calls Tryd.func57 (by kernel_rfl) rfl fun κ x cargs y hy hI ha => ?_
  obtain ⟨s, n⟩ := x
  obtain ⟨⟨h0, h1, h2⟩, hy⟩ := hy
  cases hy
  obtain ⟨v0, r, rfl, ha0, ha⟩ := RDs.cons_inv (show RDs κ [.imm .str s, .imm i64 n] cargs from ha)
  obtain ⟨v1, r, rfl, ha1, ha⟩ := ha.cons_inv
  rw [ha.nil_inv, ha0.str_inv, ha1.int_inv]
  obtain ⟨m, rfl⟩ := Int.eq_ofNat_of_zero_le h0
  refine (Go.Proofs.Tryd.strings_Repeat ⟨s.toArray⟩ m κ.w (by simp only at h1; omega) (by rw [show (ByteArray.size ⟨s.toArray⟩) = List.length s from List.size_toArray]; simpa using h2)).mono ?_
  rintro e w' ⟨rfl, hB⟩
  refine ⟨hB, fun _ => ⟨_, rfl, ?_⟩⟩
  have e1 : Lib.repeatL s m = repS s m := repS_eq s m
  have e2 : (Int.toNat (m : Int)) = m := by omega
  show RD _ (.imm .str (repS s (Int.toNat (m : Int)))) _
  rw [e2, ← e1]
  exact RD.str
/-! 38: pantograph/dec.pointed -/
noncomputable def tab38 : Tab := [(57, .d ⟨[.ty .str, .ty (.int .i64)], [.str], fun x => strings_Repeat x.1 x.2⟩)]
theorem tabOk38 : TabOk Tryd.prog (tab38) := tabOk_cons ok57 (tabOk_nil _)
def ro38 : Nat → Bool := fun s => false
noncomputable def h38 : Hints := { loop := fun id => none, cut := fun k r => none, frz := fun r => [] }
theorem ok38 : FnOk Tryd.prog 38 ⟨[.ty .str, .ty (.int .i64)], [.str], fun x => dec_pointed x.1 x.2⟩ :=
  fn_ok (xid := XID) (ro := ro38) (H := h38) (fn := Tryd.f38) (code := bodyOf Tryd.f38) mixed (tabOk38) Tryd.func38 rfl (by kernel_rfl) (loops_of (L := []) (by kernel_rfl) (lnil)) (fun x => by kernel_rfl)
/-! 17: pantograph/dec.Fixed -/
noncomputable def tab17 : Tab := [(31, .d ⟨[.ty tyRat], [tyRat], fun x => rat_Norm x⟩), (39, .d ⟨[.ty (.int .i64)], [(.int .i64)], fun x => dec_held x⟩), (18, .d ⟨[.ty tyRat, .ty (.int .i64)], [tyRat], fun x => dec_Round x.1 x.2⟩), (32, .d ⟨[.ty tyRat], [.str], fun x => dec_sign x⟩), (40, .d ⟨[.ty tyRat, .ty (.int .i64)], [(.sl (.int .u32))], fun x => dec_units x.1 x.2⟩), (33, .d ⟨[.ty (.sl (.int .u32))], [.str], fun x => nat_Print x⟩), (38, .d ⟨[.ty .str, .ty (.int .i64)], [.str], fun x => dec_pointed x.1 x.2⟩)]
theorem tabOk17 : TabOk Tryd.prog (tab17) := tabOk_cons ok31 (tabOk_cons ok39 (tabOk_cons ok18 (tabOk_cons ok32 (tabOk_cons ok40 (tabOk_cons ok33 (tabOk_cons ok38 (tabOk_nil _)))))))
def ro17 : Nat → Bool := fun s => false
noncomputable def h17 : Hints := { loop := fun id => none, cut := fun k r => none, frz := fun r => [] }
theorem ok17 : FnOk Tryd.prog 17 ⟨[.ty tyRat, .ty (.int .i64)], [.str], fun x => dec_Fixed x.1 x.2⟩ :=
  fn_ok (xid := XID) (ro := ro17) (H := h17) (fn := Tryd.f17) (code := bodyOf Tryd.f17) mixed (tabOk17) Tryd.func17 rfl (by kernel_rfl) (loops_of (L := []) (by kernel_rfl) (lnil)) (fun x => by kernel_rfl)
/-! 6: pantograph/pantographlaw3.known -/
noncomputable def tab6 : Tab := [(17, .d ⟨[.ty tyRat, .ty (.int .i64)], [.str], fun x => dec_Fixed x.1 x.2⟩)]
theorem tabOk6 : TabOk Tryd.prog (tab6) := tabOk_cons ok17 (tabOk_nil _)
def ro6 : Nat → Bool := fun s => false
noncomputable def h6 : Hints := { loop := fun id => none, cut := fun k r => none, frz := fun r => [] }
theorem ok6 : FnOk Tryd.prog 6 ⟨[], [.bool], fun _ => law3_known⟩ :=
  fn_ok (xid := XID) (ro := ro6) (H := h6) (fn := Tryd.f6) (code := bodyOf Tryd.f6) mixed (tabOk6) Tryd.func6 rfl (by kernel_rfl) (loops_of (L := []) (by kernel_rfl) (lnil)) (fun x => by kernel_rfl)
/-! 21: pantograph/pantographref1.Trim -/
noncomputable def tab21 : Tab := []
theorem tabOk21 : TabOk Tryd.prog (tab21) := tabOk_nil _
def ro21 : Nat → Bool := fun s => false
noncomputable def lp21_0 : LoopD := { gh := [], ps := [.s 0 (.imm (.sl (.int .u32)))], sh := ⟨[.s 3 (.imm (.int .i64))], [], []⟩, ws := [⟨.exit 0, ⟨[.s 3 (.imm (.int .i64))], [], []⟩⟩], F := fun p s => ref1_Trim_L0 p s }
noncomputable def h21 : Hints := { loop := fun id => bif Nat.beq id 0 then some (lp21_0) else none, cut := fun k r => bif Nat.beq k 0 && Nat.beq r 2 then some (.flat [.s 15 (.imm .bool)]) else none, frz := fun r => [] }
theorem lo21_0 : LoopOkK Tryd.prog Tryd.f21.ntmps (lp21_0) (lb 0 Tryd.f21) :=
  loop_ok (xid := XID) (ro := ro21) (H := h21) mixed (tabOk21) (loops_of (L := []) (by kernel_rfl) (lnil)) (fun p s => ref1_Trim_R0 p s) (fun p s => by kernel_rfl) (fun p s => rfl)
theorem ok21 : FnOk Tryd.prog 21 ⟨[.ty (.sl (.int .u32))], [(.sl (.int .u32))], fun x => ref1_Trim x⟩ :=
  fn_ok (xid := XID) (ro := ro21) (H := h21) (fn := Tryd.f21) (code := bodyOf Tryd.f21) mixed (tabOk21) Tryd.func21 rfl (by kernel_rfl) (loops_of (L := [(0, lb 0 Tryd.f21)]) (by kernel_rfl) (lcons rfl (lo21_0) (lnil))) (fun x => by kernel_rfl)
/-! 48: pantograph/pantographref1.To -/
noncomputable def tab48 : Tab := [(21, .d ⟨[.ty (.sl (.int .u32))], [(.sl (.int .u32))], fun x => ref1_Trim x⟩)]
theorem tabOk48 : TabOk Tryd.prog (tab48) := tabOk_cons ok21 (tabOk_nil _)
def ro48 : Nat → Bool := fun s => false
noncomputable def lp48_0 : LoopD := { gh := [], ps := [.s 4 (.imm (.sl (.int .u32)))], sh := ⟨[.s 5 (.imm (.int .u64)), .s 6 (.imm (.int .i64))], [], []⟩, ws := [⟨.exit 0, ⟨[.s 5 (.imm (.int .u64))], [], []⟩⟩], F := fun p s => ref1_To_L0 p s }
noncomputable def h48 : Hints := { loop := fun id => bif Nat.beq id 0 then some (lp48_0) else none, cut := fun k r => none, frz := fun r => [] }
theorem lo48_0 : LoopOkK Tryd.prog Tryd.f48.ntmps (lp48_0) (lb 0 Tryd.f48) :=
  loop_ok (xid := XID) (ro := ro48) (H := h48) mixed (tabOk48) (loops_of (L := []) (by kernel_rfl) (lnil)) (fun p s => ref1_To_R0 p s) (fun p s => by kernel_rfl) (fun p s => rfl)
theorem ok48 : FnOk Tryd.prog 48 ⟨[.ty (.sl (.int .u32))], [(.int .u64), .bool], fun x => ref1_To x⟩ :=
  fn_ok (xid := XID) (ro := ro48) (H := h48) (fn := Tryd.f48) (code := bodyOf Tryd.f48) mixed (tabOk48) Tryd.func48 rfl (by kernel_rfl) (loops_of (L := [(0, lb 0 Tryd.f48)]) (by kernel_rfl) (lcons rfl (lo48_0) (lnil))) (fun x => by kernel_rfl)
/-! 20: pantograph/pantographref1.Of -/
noncomputable def tab20 : Tab := [(21, .d ⟨[.ty (.sl (.int .u32))], [(.sl (.int .u32))], fun x => ref1_Trim x⟩)]
theorem tabOk20 : TabOk Tryd.prog (tab20) := tabOk_cons ok21 (tabOk_nil _)
def ro20 : Nat → Bool := fun s => false
noncomputable def h20 : Hints := { loop := fun id => none, cut := fun k r => none, frz := fun r => [] }
theorem ok20 : FnOk Tryd.prog 20 ⟨[.ty (.int .u64)], [(.sl (.int .u32))], fun x => ref1_Of x⟩ :=
  fn_ok (xid := XID) (ro := ro20) (H := h20) (fn := Tryd.f20) (code := bodyOf Tryd.f20) mixed (tabOk20) Tryd.func20 rfl (by kernel_rfl) (loops_of (L := []) (by kernel_rfl) (lnil)) (fun x => by kernel_rfl)
/-! 22: pantograph/pantographref1.small -/
noncomputable def tab22 : Tab := [(21, .d ⟨[.ty (.sl (.int .u32))], [(.sl (.int .u32))], fun x => ref1_Trim x⟩)]
theorem tabOk22 : TabOk Tryd.prog (tab22) := tabOk_cons ok21 (tabOk_nil _)
def ro22 : Nat → Bool := fun s => false
noncomputable def lp22_0 : LoopD := { gh := [], ps := [.s 0 (.imm (.sl (.int .u32))), .s 1 (.imm (.int .u64))], sh := ⟨[.s 7 (.imm (.int .u64)), .s 8 (.imm (.int .i64)), .a (.int .u32)], [(6, .cur 0 (.int .u32))], [.arr (.int .u32)]⟩, ws := [⟨.exit 0, ⟨[.s 7 (.imm (.int .u64)), .a (.int .u32)], [(6, .cur 0 (.int .u32))], [.arr (.int .u32)]⟩⟩], F := fun p s => ref1_small_L0 p.1 p.2 s }
noncomputable def h22 : Hints := { loop := fun id => bif Nat.beq id 0 then some (lp22_0) else none, cut := fun k r => none, frz := fun r => bif Nat.beq r 9 then [6] else [] }
theorem lo22_0 : LoopOkK Tryd.prog Tryd.f22.ntmps (lp22_0) (lb 0 Tryd.f22) :=
  loop_ok (xid := XID) (ro := ro22) (H := h22) mixed (tabOk22) (loops_of (L := []) (by kernel_rfl) (lnil)) (fun p s => ref1_small_R0 p.1 p.2 s) (fun p s => by kernel_rfl) (fun p s => rfl)
theorem ok22 : FnOk Tryd.prog 22 ⟨[.ty (.sl (.int .u32)), .ty (.int .u64)], [(.sl (.int .u32)), (.int .u64)], fun x => ref1_small x.1 x.2⟩ :=
  fn_ok (xid := XID) (ro := ro22) (H := h22) (fn := Tryd.f22) (code := bodyOf Tryd.f22) mixed (tabOk22) Tryd.func22 rfl (by kernel_rfl) (loops_of (L := [(0, lb 0 Tryd.f22)]) (by kernel_rfl) (lcons rfl (lo22_0) (lnil))) (fun x => by kernel_rfl)
/-! 41: pantograph/pantographref1.at -/
noncomputable def tab41 : Tab := []
theorem tabOk41 : TabOk Tryd.prog (tab41) := tabOk_nil _
def ro41 : Nat → Bool := fun s => false
noncomputable def h41 : Hints := { loop := fun id => none, cut := fun k r => none, frz := fun r => [] }
theorem ok41 : FnOk Tryd.prog 41 ⟨[.ty (.sl (.int .u32)), .ty (.int .i64)], [(.int .u64)], fun x => ref1_at x.1 x.2⟩ :=
  fn_ok (xid := XID) (ro := ro41) (H := h41) (fn := Tryd.f41) (code := bodyOf Tryd.f41) mixed (tabOk41) Tryd.func41 rfl (by kernel_rfl) (loops_of (L := []) (by kernel_rfl) (lnil)) (fun x => by kernel_rfl)
/-! 49: pantograph/pantographref1.Shift -/
noncomputable def tab49 : Tab := [(21, .d ⟨[.ty (.sl (.int .u32))], [(.sl (.int .u32))], fun x => ref1_Trim x⟩), (41, .d ⟨[.ty (.sl (.int .u32)), .ty (.int .i64)], [(.int .u64)], fun x => ref1_at x.1 x.2⟩)]
theorem tabOk49 : TabOk Tryd.prog (tab49) := tabOk_cons ok21 (tabOk_cons ok41 (tabOk_nil _))
def ro49 : Nat → Bool := fun s => false
noncomputable def lp49_0 : LoopD := { gh := [.slot 8 (.int .u32)], ps := [.s 5 (.imm (.sl (.int .u32))), .s 7 (.imm (.int .u64))], sh := ⟨[.s 9 (.imm (.int .i64)), .a (.int .u32)], [(8, .cur 0 (.int .u32))], [.arr (.int .u32)]⟩, ws := [⟨.exit 0, ⟨[.a (.int .u32)], [(8, .cur 0 (.int .u32))], [.arr (.int .u32)]⟩⟩], F := fun p s => ref1_Shift_L0 p.1 p.2 s }
noncomputable def lp49_2 : LoopD := { gh := [], ps := [.s 5 (.imm (.sl (.int .u32))), .s 11 (.imm (.int .u64))], sh := ⟨[.s 12 (.imm (.int .u64)), .s 13 (.imm (.int .i64)), .a (.int .u32)], [(10, .cur 0 (.int .u32))], [.arr (.int .u32)]⟩, ws := [⟨.exit 2, ⟨[.a (.int .u32)], [(10, .cur 0 (.int .u32))], [.arr (.int .u32)]⟩⟩], F := fun p s => ref1_Shift_L1 p.1 p.2 s }
noncomputable def h49 : Hints := { loop := fun id => bif Nat.beq id 0 then some (lp49_0) else bif Nat.beq id 2 then some (lp49_2) else none, cut := fun k r => none, frz := fun r => bif Nat.beq r 24 then [10] else bif Nat.beq r 14 then [8] else [] }
theorem lo49_0 : LoopOkK Tryd.prog Tryd.f49.ntmps (lp49_0) (lb 0 Tryd.f49) :=
  loop_ok (xid := XID) (ro := ro49) (H := h49) mixed (tabOk49) (loops_of (L := []) (by kernel_rfl) (lnil)) (fun p s => ref1_Shift_R0 p.1 p.2 s) (fun p s => by kernel_rfl) (fun p s => rfl)
theorem lo49_2 : LoopOkK Tryd.prog Tryd.f49.ntmps (lp49_2) (lb 2 Tryd.f49) :=
  loop_ok (xid := XID) (ro := ro49) (H := h49) mixed (tabOk49) (loops_of (L := []) (by kernel_rfl) (lnil)) (fun p s => ref1_Shift_R1 p.1 p.2 s) (fun p s => by kernel_rfl) (fun p s => rfl)
theorem ok49 : FnOk Tryd.prog 49 ⟨[.ty (.sl (.int .u32)), .ty (.int .i64)], [(.sl (.int .u32))], fun x => ref1_Shift x.1 x.2⟩ :=
  fn_ok (xid := XID) (ro := ro49) (H := h49) (fn := Tryd.f49) (code := bodyOf Tryd.f49) mixed (tabOk49) Tryd.func49 rfl (by kernel_rfl) (loops_of (L := [(0, lb 0 Tryd.f49), (2, lb 2 Tryd.f49)]) (by kernel_rfl) (lcons rfl (lo49_0) (lcons rfl (lo49_2) (lnil)))) (fun x => by kernel_rfl)
/-! 50: pantograph/pantographref1.Add -/
noncomputable def tab50 : Tab := [(41, .d ⟨[.ty (.sl (.int .u32)), .ty (.int .i64)], [(.int .u64)], fun x => ref1_at x.1 x.2⟩), (21, .d ⟨[.ty (.sl (.int .u32))], [(.sl (.int .u32))], fun x => ref1_Trim x⟩)]
theorem tabOk50 : TabOk Tryd.prog (tab50) := tabOk_cons ok41 (tabOk_cons ok21 (tabOk_nil _))
def ro50 : Nat → Bool := fun s => false
noncomputable def lp50_0 : LoopD := { gh := [.slot 5 (.int .u32)], ps := [.s 0 (.imm (.sl (.int .u32))), .s 1 (.imm (.sl (.int .u32)))], sh := ⟨[.s 6 (.imm (.int .u64)), .s 7 (.imm (.int .i64)), .a (.int .u32)], [(5, .cur 0 (.int .u32))], [.arr (.int .u32)]⟩, ws := [⟨.exit 0, ⟨[.a (.int .u32)], [(5, .cur 0 (.int .u32))], [.arr (.int .u32)]⟩⟩], F := fun p s => ref1_Add_L0 p.1 p.2 s }
noncomputable def h50 : Hints := { loop := fun id => bif Nat.beq id 0 then some (lp50_0) else none, cut := fun k r => none, frz := fun r => bif Nat.beq r 9 then [5] else [] }
theorem lo50_0 : LoopOkK Tryd.prog Tryd.f50.ntmps (lp50_0) (lb 0 Tryd.f50) :=
  loop_ok (xid := XID) (ro := ro50) (H := h50) mixed (tabOk50) (loops_of (L := []) (by kernel_rfl) (lnil)) (fun p s => ref1_Add_R0 p.1 p.2 s) (fun p s => by kernel_rfl) (fun p s => rfl)
theorem ok50 : FnOk Tryd.prog 50 ⟨[.ty (.sl (.int .u32)), .ty (.sl (.int .u32))], [(.sl (.int .u32))], fun x => ref1_Add x.1 x.2⟩ :=
  fn_ok (xid := XID) (ro := ro50) (H := h50) (fn := Tryd.f50) (code := bodyOf Tryd.f50) mixed (tabOk50) Tryd.func50 rfl (by kernel_rfl) (loops_of (L := [(0, lb 0 Tryd.f50)]) (by kernel_rfl) (lcons rfl (lo50_0) (lnil))) (fun x => by kernel_rfl)
/-! 51: pantograph/pantographref1.Cmp -/
noncomputable def tab51 : Tab := [(21, .d ⟨[.ty (.sl (.int .u32))], [(.sl (.int .u32))], fun x => ref1_Trim x⟩)]
theorem tabOk51 : TabOk Tryd.prog (tab51) := tabOk_cons ok21 (tabOk_nil _)
def ro51 : Nat → Bool := fun s => false
noncomputable def lp51_0 : LoopD := { gh := [], ps := [.s 5 (.imm (.sl (.int .u32))), .s 6 (.imm (.sl (.int .u32)))], sh := ⟨[.s 7 (.imm (.int .i64))], [], []⟩, ws := [⟨.exit 0, ⟨[], [], []⟩⟩, ⟨.ret, ⟨[.s 4 (.imm (.int .i64))], [], []⟩⟩], F := fun p s => ref1_Cmp_L0 p.1 p.2 s }
noncomputable def h51 : Hints := { loop := fun id => bif Nat.beq id 0 then some (lp51_0) else none, cut := fun k r => none, frz := fun r => [] }
theorem lo51_0 : LoopOkK Tryd.prog Tryd.f51.ntmps (lp51_0) (lb 0 Tryd.f51) :=
  loop_ok (xid := XID) (ro := ro51) (H := h51) mixed (tabOk51) (loops_of (L := []) (by kernel_rfl) (lnil)) (fun p s => ref1_Cmp_R0 p.1 p.2 s) (fun p s => by kernel_rfl) (fun p s => rfl)
theorem ok51 : FnOk Tryd.prog 51 ⟨[.ty (.sl (.int .u32)), .ty (.sl (.int .u32))], [(.int .i64)], fun x => ref1_Cmp x.1 x.2⟩ :=
  fn_ok (xid := XID) (ro := ro51) (H := h51) (fn := Tryd.f51) (code := bodyOf Tryd.f51) mixed (tabOk51) Tryd.func51 rfl (by kernel_rfl) (loops_of (L := [(0, lb 0 Tryd.f51)]) (by kernel_rfl) (lcons rfl (lo51_0) (lnil))) (fun x => by kernel_rfl)
/-! 52: pantograph/pantographref1.Sub -/
noncomputable def tab52 : Tab := [(51, .d ⟨[.ty (.sl (.int .u32)), .ty (.sl (.int .u32))], [(.int .i64)], fun x => ref1_Cmp x.1 x.2⟩), (41, .d ⟨[.ty (.sl (.int .u32)), .ty (.int .i64)], [(.int .u64)], fun x => ref1_at x.1 x.2⟩), (21, .d ⟨[.ty (.sl (.int .u32))], [(.sl (.int .u32))], fun x => ref1_Trim x⟩)]
theorem tabOk52 : TabOk Tryd.prog (tab52) := tabOk_cons ok51 (tabOk_cons ok41 (tabOk_cons ok21 (tabOk_nil _)))
def ro52 : Nat → Bool := fun s => false
noncomputable def lp52_0 : LoopD := { gh := [.slot 6 (.int .u32)], ps := [.s 0 (.imm (.sl (.int .u32))), .s 1 (.imm (.sl (.int .u32)))], sh := ⟨[.s 7 (.imm (.int .u64)), .s 8 (.imm (.int .i64)), .a (.int .u32)], [(6, .cur 0 (.int .u32))], [.arr (.int .u32)]⟩, ws := [⟨.exit 0, ⟨[.a (.int .u32)], [(6, .cur 0 (.int .u32))], [.arr (.int .u32)]⟩⟩], F := fun p s => ref1_Sub_L0 p.1 p.2 s }
noncomputable def h52 : Hints := { loop := fun id => bif Nat.beq id 0 then some (lp52_0) else none, cut := fun k r => bif Nat.beq k 3 && Nat.beq r 10 then some (.flat [.s 7 (.imm (.int .u64)), .s 9 (.imm (.int .u64))]) else none, frz := fun r => bif Nat.beq r 14 then [6] else [] }
theorem lo52_0 : LoopOkK Tryd.prog Tryd.f52.ntmps (lp52_0) (lb 0 Tryd.f52) :=
  loop_ok (xid := XID) (ro := ro52) (H := h52) mixed (tabOk52) (loops_of (L := []) (by kernel_rfl) (lnil)) (fun p s => ref1_Sub_R0 p.1 p.2 s) (fun p s => by kernel_rfl) (fun p s => rfl)
theorem ok52 : FnOk Tryd.prog 52 ⟨[.ty (.sl (.int .u32)), .ty (.sl (.int .u32))], [(.sl (.int .u32)), .bool], fun x => ref1_Sub x.1 x.2⟩ :=
  fn_ok (xid := XID) (ro := ro52) (H := h52) (fn := Tryd.f52) (code := bodyOf Tryd.f52) mixed (tabOk52) Tryd.func52 rfl (by kernel_rfl) (loops_of (L := [(0, lb 0 Tryd.f52)]) (by kernel_rfl) (lcons rfl (lo52_0) (lnil))) (fun x => by kernel_rfl)
/-! 30: pantograph/pantographref1.DivMod -/
noncomputable def tab30 : Tab := [(21, .d ⟨[.ty (.sl (.int .u32))], [(.sl (.int .u32))], fun x => ref1_Trim x⟩), (48, .d ⟨[.ty (.sl (.int .u32))], [(.int .u64), .bool], fun x => ref1_To x⟩), (20, .d ⟨[.ty (.int .u64)], [(.sl (.int .u32))], fun x => ref1_Of x⟩), (22, .d ⟨[.ty (.sl (.int .u32)), .ty (.int .u64)], [(.sl (.int .u32)), (.int .u64)], fun x => ref1_small x.1 x.2⟩), (49, .d ⟨[.ty (.sl (.int .u32)), .ty (.int .i64)], [(.sl (.int .u32))], fun x => ref1_Shift x.1 x.2⟩), (50, .d ⟨[.ty (.sl (.int .u32)), .ty (.sl (.int .u32))], [(.sl (.int .u32))], fun x => ref1_Add x.1 x.2⟩), (51, .d ⟨[.ty (.sl (.int .u32)), .ty (.sl (.int .u32))], [(.int .i64)], fun x => ref1_Cmp x.1 x.2⟩), (52, .d ⟨[.ty (.sl (.int .u32)), .ty (.sl (.int .u32))], [(.sl (.int .u32)), .bool], fun x => ref1_Sub x.1 x.2⟩)]
theorem tabOk30 : TabOk Tryd.prog (tab30) := tabOk_cons ok21 (tabOk_cons ok48 (tabOk_cons ok20 (tabOk_cons ok22 (tabOk_cons ok49 (tabOk_cons ok50 (tabOk_cons ok51 (tabOk_cons ok52 (tabOk_nil _))))))))
def ro30 : Nat → Bool := fun s => false
noncomputable def lp30_0 : LoopD := { gh := [], ps := [.s 0 (.imm (.sl (.int .u32))), .s 1 (.imm (.sl (.int .u32)))], sh := ⟨[.s 14 (.imm (.sl (.int .u32))), .s 15 (.imm (.int .i64)), .a (.int .u32)], [(13, .cur 0 (.int .u32))], [.arr (.int .u32)]⟩, ws := [⟨.exit 0, ⟨[.s 14 (.imm (.sl (.int .u32))), .a (.int .u32)], [(13, .cur 0 (.int .u32))], [.arr (.int .u32)]⟩⟩], F := fun p s => ref1_DivMod_L0 p.1 p.2 s }
noncomputable def h30 : Hints := { loop := fun id => bif Nat.beq id 0 then some (lp30_0) else none, cut := fun k r => bif Nat.beq k 0 && Nat.beq r 5 then some (.flat [.s 33 (.imm .bool)]) else bif Nat.beq k 0 && Nat.beq r 7 then some (.flat [.s 46 (.imm .bool)]) else bif Nat.beq k 3 && Nat.beq r 16 then some (.ways [⟨.normal, ⟨[.s 14 (.imm (.sl (.int .u32))), .a (.int .u32)], [(13, .cur 0 (.int .u32))], [.arr (.int .u32)]⟩⟩]) else none, frz := fun r => bif Nat.beq r 21 then [13] else [] }
theorem lo30_0 : LoopOkK Tryd.prog Tryd.f30.ntmps (lp30_0) (lb 0 Tryd.f30) :=
  loop_ok (xid := XID) (ro := ro30) (H := h30) mixed (tabOk30) (loops_of (L := []) (by kernel_rfl) (lnil)) (fun p s => ref1_DivMod_R0 p.1 p.2 s) (fun p s => by kernel_rfl) (fun p s => rfl)
theorem ok30 : FnOk Tryd.prog 30 ⟨[.ty (.sl (.int .u32)), .ty (.sl (.int .u32))], [(.sl (.int .u32)), (.sl (.int .u32)), .bool], fun x => ref1_DivMod x.1 x.2⟩ :=
  fn_ok (xid := XID) (ro := ro30) (H := h30) (fn := Tryd.f30) (code := bodyOf Tryd.f30) mixed (tabOk30) Tryd.func30 rfl (by kernel_rfl) (loops_of (L := [(0, lb 0 Tryd.f30)]) (by kernel_rfl) (lcons rfl (lo30_0) (lnil))) (fun x => by kernel_rfl)
/-! 29: pantograph/pantographref1.Gcd -/
noncomputable def tab29 : Tab := [(21, .d ⟨[.ty (.sl (.int .u32))], [(.sl (.int .u32))], fun x => ref1_Trim x⟩), (30, .d ⟨[.ty (.sl (.int .u32)), .ty (.sl (.int .u32))], [(.sl (.int .u32)), (.sl (.int .u32)), .bool], fun x => ref1_DivMod x.1 x.2⟩)]
theorem tabOk29 : TabOk Tryd.prog (tab29) := tabOk_cons ok21 (tabOk_cons ok30 (tabOk_nil _))
def ro29 : Nat → Bool := fun s => false
noncomputable def lp29_0 : LoopD := { gh := [], ps := [], sh := ⟨[.s 5 (.imm (.sl (.int .u32))), .s 6 (.imm (.sl (.int .u32)))], [], []⟩, ws := [⟨.exit 0, ⟨[.s 5 (.imm (.sl (.int .u32)))], [], []⟩⟩], F := fun p s => ref1_Gcd_L0  s }
noncomputable def h29 : Hints := { loop := fun id => bif Nat.beq id 0 then some (lp29_0) else none, cut := fun k r => none, frz := fun r => [] }
theorem lo29_0 : LoopOkK Tryd.prog Tryd.f29.ntmps (lp29_0) (lb 0 Tryd.f29) :=
  loop_ok (xid := XID) (ro := ro29) (H := h29) mixed (tabOk29) (loops_of (L := []) (by kernel_rfl) (lnil)) (fun p s => ref1_Gcd_R0  s) (fun p s => by kernel_rfl) (fun p s => rfl)
theorem ok29 : FnOk Tryd.prog 29 ⟨[.ty (.sl (.int .u32)), .ty (.sl (.int .u32))], [(.sl (.int .u32))], fun x => ref1_Gcd x.1 x.2⟩ :=
  fn_ok (xid := XID) (ro := ro29) (H := h29) (fn := Tryd.f29) (code := bodyOf Tryd.f29) mixed (tabOk29) Tryd.func29 rfl (by kernel_rfl) (loops_of (L := [(0, lb 0 Tryd.f29)]) (by kernel_rfl) (lcons rfl (lo29_0) (lnil))) (fun x => by kernel_rfl)
/-! 14: pantograph/pantographref2.Norm -/
noncomputable def tab14 : Tab := [(21, .d ⟨[.ty (.sl (.int .u32))], [(.sl (.int .u32))], fun x => ref1_Trim x⟩), (29, .d ⟨[.ty (.sl (.int .u32)), .ty (.sl (.int .u32))], [(.sl (.int .u32))], fun x => ref1_Gcd x.1 x.2⟩), (30, .d ⟨[.ty (.sl (.int .u32)), .ty (.sl (.int .u32))], [(.sl (.int .u32)), (.sl (.int .u32)), .bool], fun x => ref1_DivMod x.1 x.2⟩)]
theorem tabOk14 : TabOk Tryd.prog (tab14) := tabOk_cons ok21 (tabOk_cons ok29 (tabOk_cons ok30 (tabOk_nil _)))
def ro14 : Nat → Bool := fun s => Nat.beq s 1
noncomputable def h14 : Hints := { loop := fun id => none, cut := fun k r => bif Nat.beq k 0 && Nat.beq r 2 then some (.flat [.s 19 (.imm .bool)]) else none, frz := fun r => [] }
theorem ok14 : FnOk Tryd.prog 14 ⟨[.ty tyRat], [tyRat], fun x => ref2_Norm x⟩ :=
  fn_ok (xid := XID) (ro := ro14) (H := h14) (fn := Tryd.f14) (code := bodyOf Tryd.f14) mixed (tabOk14) Tryd.func14 rfl (by kernel_rfl) (loops_of (L := []) (by kernel_rfl) (lnil)) (fun x => by kernel_rfl)
/-! 7: pantograph/pantographref2.Of -/
noncomputable def tab7 : Tab := [(14, .d ⟨[.ty tyRat], [tyRat], fun x => ref2_Norm x⟩)]
theorem tabOk7 : TabOk Tryd.prog (tab7) := tabOk_cons ok14 (tabOk_nil _)
def ro7 : Nat → Bool := fun s => false
noncomputable def h7 : Hints := { loop := fun id => none, cut := fun k r => none, frz := fun r => [] }
theorem ok7 : FnOk Tryd.prog 7 ⟨[.ty .bool, .ty (.sl (.int .u32)), .ty (.sl (.int .u32))], [tyRat], fun x => ref2_Of x.1 x.2.1 x.2.2⟩ :=
  fn_ok (xid := XID) (ro := ro7) (H := h7) (fn := Tryd.f7) (code := bodyOf Tryd.f7) mixed (tabOk7) Tryd.func7 rfl (by kernel_rfl) (loops_of (L := []) (by kernel_rfl) (lnil)) (fun x => by kernel_rfl)
/-! 9: pantograph/pantographref2.Int -/
noncomputable def tab9 : Tab := [(20, .d ⟨[.ty (.int .u64)], [(.sl (.int .u32))], fun x => ref1_Of x⟩), (7, .d ⟨[.ty .bool, .ty (.sl (.int .u32)), .ty (.sl (.int .u32))], [tyRat], fun x => ref2_Of x.1 x.2.1 x.2.2⟩)]
theorem tabOk9 : TabOk Tryd.prog (tab9) := tabOk_cons ok20 (tabOk_cons ok7 (tabOk_nil _))
def ro9 : Nat → Bool := fun s => false
noncomputable def h9 : Hints := { loop := fun id => none, cut := fun k r => bif Nat.beq k 3 && Nat.beq r 2 then some (.flat [.s 3 (.imm (.int .u64))]) else none, frz := fun r => [] }
theorem ok9 : FnOk Tryd.prog 9 ⟨[.ty (.int .i64)], [tyRat], fun x => ref2_Int x⟩ :=
  fn_ok (xid := XID) (ro := ro9) (H := h9) (fn := Tryd.f9) (code := bodyOf Tryd.f9) mixed (tabOk9) Tryd.func9 rfl (by kernel_rfl) (loops_of (L := []) (by kernel_rfl) (lnil)) (fun x => by kernel_rfl)
/-! 19: pantograph/pantographref1.Mul -/
noncomputable def tab19 : Tab := [(41, .d ⟨[.ty (.sl (.int .u32)), .ty (.int .i64)], [(.int .u64)], fun x => ref1_at x.1 x.2⟩), (21, .d ⟨[.ty (.sl (.int .u32))], [(.sl (.int .u32))], fun x => ref1_Trim x⟩)]
theorem tabOk19 : TabOk Tryd.prog (tab19) := tabOk_cons ok41 (tabOk_cons ok21 (tabOk_nil _))
def ro19 : Nat → Bool := fun s => false
noncomputable def lp19_2 : LoopD := { gh := [], ps := [.s 0 (.imm (.sl (.int .u32))), .s 1 (.imm (.sl (.int .u32))), .s 6 (.imm (.int .i64))], sh := ⟨[.s 7 (.imm (.int .u64)), .s 8 (.imm (.int .i64)), .a (.int .u32)], [(5, .cur 0 (.int .u32))], [.arr (.int .u32)]⟩, ws := [⟨.exit 2, ⟨[.a (.int .u32)], [(5, .cur 0 (.int .u32))], [.arr (.int .u32)]⟩⟩], F := fun p s => ref1_Mul_L1 p.1 p.2.1 p.2.2 s }
noncomputable def lp19_0 : LoopD := { gh := [], ps := [.s 0 (.imm (.sl (.int .u32))), .s 1 (.imm (.sl (.int .u32)))], sh := ⟨[.s 6 (.imm (.int .i64)), .a (.int .u32)], [(5, .cur 0 (.int .u32))], [.arr (.int .u32)]⟩, ws := [⟨.exit 0, ⟨[.a (.int .u32)], [(5, .cur 0 (.int .u32))], [.arr (.int .u32)]⟩⟩], F := fun p s => ref1_Mul_L0 p.1 p.2 s }
noncomputable def h19 : Hints := { loop := fun id => bif Nat.beq id 2 then some (lp19_2) else bif Nat.beq id 0 then some (lp19_0) else none, cut := fun k r => bif Nat.beq k 0 && Nat.beq r 7 then some (.flat [.s 28 (.imm .bool)]) else none, frz := fun r => bif Nat.beq r 13 then [5] else [] }
theorem lo19_2 : LoopOkK Tryd.prog Tryd.f19.ntmps (lp19_2) (lb 2 Tryd.f19) :=
  loop_ok (xid := XID) (ro := ro19) (H := h19) mixed (tabOk19) (loops_of (L := []) (by kernel_rfl) (lnil)) (fun p s => ref1_Mul_R1 p.1 p.2.1 p.2.2 s) (fun p s => by kernel_rfl) (fun p s => rfl)
theorem lo19_0 : LoopOkK Tryd.prog Tryd.f19.ntmps (lp19_0) (lb 0 Tryd.f19) :=
  loop_ok (xid := XID) (ro := ro19) (H := h19) mixed (tabOk19) (loops_of (L := [(2, lb 2 Tryd.f19)]) (by kernel_rfl) (lcons rfl (lo19_2) (lnil))) (fun p s => ref1_Mul_R0 p.1 p.2 s) (fun p s => by kernel_rfl) (fun p s => rfl)
theorem ok19 : FnOk Tryd.prog 19 ⟨[.ty (.sl (.int .u32)), .ty (.sl (.int .u32))], [(.sl (.int .u32))], fun x => ref1_Mul x.1 x.2⟩ :=
  fn_ok (xid := XID) (ro := ro19) (H := h19) (fn := Tryd.f19) (code := bodyOf Tryd.f19) mixed (tabOk19) Tryd.func19 rfl (by kernel_rfl) (loops_of (L := [(0, lb 0 Tryd.f19)]) (by kernel_rfl) (lcons rfl (lo19_0) (lnil))) (fun x => by kernel_rfl)
/-! 8: pantograph/pantographref2.Div -/
noncomputable def tab8 : Tab := [(14, .d ⟨[.ty tyRat], [tyRat], fun x => ref2_Norm x⟩), (19, .d ⟨[.ty (.sl (.int .u32)), .ty (.sl (.int .u32))], [(.sl (.int .u32))], fun x => ref1_Mul x.1 x.2⟩), (7, .d ⟨[.ty .bool, .ty (.sl (.int .u32)), .ty (.sl (.int .u32))], [tyRat], fun x => ref2_Of x.1 x.2.1 x.2.2⟩)]
theorem tabOk8 : TabOk Tryd.prog (tab8) := tabOk_cons ok14 (tabOk_cons ok19 (tabOk_cons ok7 (tabOk_nil _)))
def ro8 : Nat → Bool := fun s => Nat.beq s 2 || Nat.beq s 3
noncomputable def h8 : Hints := { loop := fun id => none, cut := fun k r => none, frz := fun r => [] }
theorem ok8 : FnOk Tryd.prog 8 ⟨[.ty tyRat, .ty tyRat], [tyRat, .bool], fun x => ref2_Div x.1 x.2⟩ :=
  fn_ok (xid := XID) (ro := ro8) (H := h8) (fn := Tryd.f8) (code := bodyOf Tryd.f8) mixed (tabOk8) Tryd.func8 rfl (by kernel_rfl) (loops_of (L := []) (by kernel_rfl) (lnil)) (fun x => by kernel_rfl)
/-! 10: pantograph/pantographref1.Print -/
noncomputable def tab10 : Tab := [(21, .d ⟨[.ty (.sl (.int .u32))], [(.sl (.int .u32))], fun x => ref1_Trim x⟩), (22, .d ⟨[.ty (.sl (.int .u32)), .ty (.int .u64)], [(.sl (.int .u32)), (.int .u64)], fun x => ref1_small x.1 x.2⟩)]
theorem tabOk10 : TabOk Tryd.prog (tab10) := tabOk_cons ok21 (tabOk_cons ok22 (tabOk_nil _))
def ro10 : Nat → Bool := fun s => false
noncomputable def lp10_0 : LoopD := { gh := [], ps := [], sh := ⟨[.s 3 (.imm (.sl (.int .u32))), .s 4 (.imm .str)], [], []⟩, ws := [⟨.exit 0, ⟨[.s 4 (.imm .str)], [], []⟩⟩], F := fun p s => ref1_Print_L0  s }
noncomputable def h10 : Hints := { loop := fun id => bif Nat.beq id 0 then some (lp10_0) else none, cut := fun k r => none, frz := fun r => [] }
theorem lo10_0 : LoopOkK Tryd.prog Tryd.f10.ntmps (lp10_0) (lb 0 Tryd.f10) :=
  loop_ok (xid := XID) (ro := ro10) (H := h10) mixed (tabOk10) (loops_of (L := []) (by kernel_rfl) (lnil)) (fun p s => ref1_Print_R0  s) (fun p s => by kernel_rfl) (fun p s => rfl)
theorem ok10 : FnOk Tryd.prog 10 ⟨[.ty (.sl (.int .u32))], [.str], fun x => ref1_Print x⟩ :=
  fn_ok (xid := XID) (ro := ro10) (H := h10) (fn := Tryd.f10) (code := bodyOf Tryd.f10) mixed (tabOk10) Tryd.func10 rfl (by kernel_rfl) (loops_of (L := [(0, lb 0 Tryd.f10)]) (by kernel_rfl) (lcons rfl (lo10_0) (lnil))) (fun x => by kernel_rfl)
/-! 23: strings.CutPrefix, by the shelf -/
theorem ok23 : FnOk Tryd.prog 23 ⟨[.ty .str, .ty .str], [.str, .bool], fun x => strings_CutPrefix x.1 x.2⟩ := by
  refine fn_of_calls Tryd.func23 (by kernel_rfl) rfl fun κ x cargs y hy hI ha => ?_
  obtain ⟨s, p⟩ := x
  cases hy
  obtain ⟨v0, r, rfl, ha0, ha⟩ := RDs.cons_inv (show RDs κ [.imm .str s, .imm .str p] cargs from ha)
  obtain ⟨v1, r, rfl, ha1, ha⟩ := ha.cons_inv
  rw [ha.nil_inv, ha0.str_inv, ha1.str_inv]
  refine (Go.Proofs.Tryd.strings_CutPrefix ⟨s.toArray⟩ ⟨p.toArray⟩ κ.w).mono ?_
  rintro e w' ⟨rfl, rfl⟩
  refine ⟨below_self _, fun _ => ⟨_, rfl, ?_⟩⟩
  exact RD.tup2 RD.str RD.bool
/-! 24: strings.Cut, by the shelf -/
theorem ok24 : FnOk Tryd.prog 24 ⟨[.ty .str, .ty .str], [.str, .str, .bool], fun x => strings_Cut x.1 x.2⟩ := by
  refine fn_of_calls Tryd.func24 (by kernel_rfl) rfl fun κ x cargs y hy hI ha => ?_
  obtain ⟨s, sep⟩ := x
  obtain ⟨h0, hy⟩ := hy
  cases hy
  obtain ⟨v0, r, rfl, ha0, ha⟩ := RDs.cons_inv (show RDs κ [.imm .str s, .imm .str sep] cargs from ha)
  obtain ⟨v1, r, rfl, ha1, ha⟩ := ha.cons_inv
  rw [ha.nil_inv, ha0.str_inv, ha1.str_inv]
  obtain ⟨m, hm⟩ := glob_internal_bytealg_MaxLen hI
  refine (Go.Proofs.Tryd.strings_Cut ⟨s.toArray⟩ ⟨sep.toArray⟩ m κ.w (by rw [show (ByteArray.size ⟨s.toArray⟩) = List.length s from List.size_toArray]; exact h0) hm).mono ?_
  rintro e w' ⟨rfl, n, rfl⟩
  refine ⟨below_drewN _ _, fun _ => ⟨_, rfl, ?_⟩⟩
  rw [show Lib.cut (⟨s.toArray⟩ : ByteArray).data.toList (⟨sep.toArray⟩ : ByteArray).data.toList = cutSt s sep from cutSt_eq s sep]
  exact RD.tup3 RD.str RD.str RD.bool
/-! 62: strings.trimRightByte -/
noncomputable def tab62 : Tab := []
theorem tabOk62 : TabOk Tryd.prog (tab62) := tabOk_nil _
def ro62 : Nat → Bool := fun s => false
noncomputable def lp62_0 : LoopD := { gh := [], ps := [.s 1 (.imm (.int .u8))], sh := ⟨[.s 0 (.imm .str)], [], []⟩, ws := [⟨.exit 0, ⟨[.s 0 (.imm .str)], [], []⟩⟩], F := fun p s => strings_trimRightByte_L0 p s }
noncomputable def h62 : Hints := { loop := fun id => bif Nat.beq id 0 then some (lp62_0) else none, cut := fun k r => bif Nat.beq k 0 && Nat.beq r 1 then some (.flat [.s 16 (.imm .bool)]) else none, frz := fun r => [] }
theorem lo62_0 : LoopOkK Tryd.prog Tryd.f62.ntmps (lp62_0) (lb 0 Tryd.f62) :=
  loop_ok (xid := XID) (ro := ro62) (H := h62) mixed (tabOk62) (loops_of (L := []) (by kernel_rfl) (lnil)) (fun p s => strings_trimRightByte_R0 p s) (fun p s => by kernel_rfl) (fun p s => rfl)
theorem ok62 : FnOk Tryd.prog 62 ⟨[.ty .str, .ty (.int .u8)], [.str], fun x => strings_trimRightByte x.1 x.2⟩ :=
  fn_ok (xid := XID) (ro := ro62) (H := h62) (fn := Tryd.f62) (code := bodyOf Tryd.f62) mixed (tabOk62) Tryd.func62 rfl (by kernel_rfl) (loops_of (L := [(0, lb 0 Tryd.f62)]) (by kernel_rfl) (lcons rfl (lo62_0) (lnil))) (fun x => by kernel_rfl)
/-! 61: strings.trimLeftByte -/
noncomputable def tab61 : Tab := []
theorem tabOk61 : TabOk Tryd.prog (tab61) := tabOk_nil _
def ro61 : Nat → Bool := fun s => false
noncomputable def lp61_0 : LoopD := { gh := [], ps := [.s 1 (.imm (.int .u8))], sh := ⟨[.s 0 (.imm .str)], [], []⟩, ws := [⟨.exit 0, ⟨[.s 0 (.imm .str)], [], []⟩⟩], F := fun p s => strings_trimLeftByte_L0 p s }
noncomputable def h61 : Hints := { loop := fun id => bif Nat.beq id 0 then some (lp61_0) else none, cut := fun k r => bif Nat.beq k 0 && Nat.beq r 1 then some (.flat [.s 13 (.imm .bool)]) else none, frz := fun r => [] }
theorem lo61_0 : LoopOkK Tryd.prog Tryd.f61.ntmps (lp61_0) (lb 0 Tryd.f61) :=
  loop_ok (xid := XID) (ro := ro61) (H := h61) mixed (tabOk61) (loops_of (L := []) (by kernel_rfl) (lnil)) (fun p s => strings_trimLeftByte_R0 p s) (fun p s => by kernel_rfl) (fun p s => rfl)
theorem ok61 : FnOk Tryd.prog 61 ⟨[.ty .str, .ty (.int .u8)], [.str], fun x => strings_trimLeftByte x.1 x.2⟩ :=
  fn_ok (xid := XID) (ro := ro61) (H := h61) (fn := Tryd.f61) (code := bodyOf Tryd.f61) mixed (tabOk61) Tryd.func61 rfl (by kernel_rfl) (loops_of (L := [(0, lb 0 Tryd.f61)]) (by kernel_rfl) (lcons rfl (lo61_0) (lnil))) (fun x => by kernel_rfl)
/-! 63: strings.makeASCIISet, by the shelf -/
theorem ok63 : FnOk Tryd.prog 63 ⟨[.ty .str], [(arrN .bool 256), .bool], fun x => strings_makeASCIISet x⟩ := by
  refine fn_of_calls Tryd.func63 (by kernel_rfl) rfl fun κ s cargs y hy hI ha => ?_
  obtain ⟨⟨h0, h1⟩, hy⟩ := hy
  cases hy
  obtain ⟨v0, r, rfl, ha0, ha⟩ := RDs.cons_inv (show RDs κ [.imm .str s] cargs from ha)
  rw [ha.nil_inv, ha0.str_inv]
  refine (Go.Proofs.Tryd.strings_makeASCIISet (fun _ => by kernel_rfl) ⟨s.toArray⟩ κ.w (by rw [show (ByteArray.size ⟨s.toArray⟩) = List.length s from List.size_toArray]; exact h0) (by simpa using h1)).mono ?_
  rintro e w' ⟨rfl, rfl⟩
  refine ⟨below_alloc _ _, fun _ => ⟨_, rfl, ?_⟩⟩
  exact RD.tup2 (ascii_rd s) RD.bool
/-! 85: (*strings.asciiSet).contains -/
noncomputable def tab85 : Tab := []
theorem tabOk85 : TabOk Tryd.prog (tab85) := tabOk_nil _
def ro85 : Nat → Bool := fun s => false
noncomputable def h85 : Hints := { loop := fun id => none, cut := fun k r => none, frz := fun r => [] }
theorem ok85 : FnOk Tryd.prog 85 ⟨[.rp (arrN .bool 256), .ty (.int .u8)], [.bool], fun x => strings_asciiSet_contains x.1 x.2⟩ :=
  fn_ok (xid := XID) (ro := ro85) (H := h85) (fn := Tryd.f85) (code := bodyOf Tryd.f85) mixed (tabOk85) Tryd.func85 rfl (by kernel_rfl) (loops_of (L := []) (by kernel_rfl) (lnil)) (fun x => by kernel_rfl)
/-! 65: strings.trimRightASCII -/
noncomputable def tab65 : Tab := [(85, .d ⟨[.rp (arrN .bool 256), .ty (.int .u8)], [.bool], fun x => strings_asciiSet_contains x.1 x.2⟩)]
theorem tabOk65 : TabOk Tryd.prog (tab65) := tabOk_cons ok85 (tabOk_nil _)
def ro65 : Nat → Bool := fun s => false
noncomputable def lp65_0 : LoopD := { gh := [], ps := [.s 1 (.rptr (arrN .bool 256))], sh := ⟨[.s 0 (.imm .str)], [], []⟩, ws := [⟨.exit 0, ⟨[.s 0 (.imm .str)], [], []⟩⟩], F := fun p s => strings_trimRightASCII_L0 p s }
noncomputable def h65 : Hints := { loop := fun id => bif Nat.beq id 0 then some (lp65_0) else none, cut := fun k r => none, frz := fun r => [] }
theorem lo65_0 : LoopOkK Tryd.prog Tryd.f65.ntmps (lp65_0) (lb 0 Tryd.f65) :=
  loop_ok (xid := XID) (ro := ro65) (H := h65) mixed (tabOk65) (loops_of (L := []) (by kernel_rfl) (lnil)) (fun p s => strings_trimRightASCII_R0 p s) (fun p s => by kernel_rfl) (fun p s => rfl)
theorem ok65 : FnOk Tryd.prog 65 ⟨[.ty .str, .rp (arrN .bool 256)], [.str], fun x => strings_trimRightASCII x.1 x.2⟩ :=
  fn_ok (xid := XID) (ro := ro65) (H := h65) (fn := Tryd.f65) (code := bodyOf Tryd.f65) mixed (tabOk65) Tryd.func65 rfl (by kernel_rfl) (loops_of (L := [(0, lb 0 Tryd.f65)]) (by kernel_rfl) (lcons rfl (lo65_0) (lnil))) (fun x => by kernel_rfl)
/-! 64: strings.trimLeftASCII -/
noncomputable def tab64 : Tab := [(85, .d ⟨[.rp (arrN .bool 256), .ty (.int .u8)], [.bool], fun x => strings_asciiSet_contains x.1 x.2⟩)]
theorem tabOk64 : TabOk Tryd.prog (tab64) := tabOk_cons ok85 (tabOk_nil _)
def ro64 : Nat → Bool := fun s => false
noncomputable def lp64_0 : LoopD := { gh := [], ps := [.s 1 (.rptr (arrN .bool 256))], sh := ⟨[.s 0 (.imm .str)], [], []⟩, ws := [⟨.exit 0, ⟨[.s 0 (.imm .str)], [], []⟩⟩], F := fun p s => strings_trimLeftASCII_L0 p s }
noncomputable def h64 : Hints := { loop := fun id => bif Nat.beq id 0 then some (lp64_0) else none, cut := fun k r => none, frz := fun r => [] }
theorem lo64_0 : LoopOkK Tryd.prog Tryd.f64.ntmps (lp64_0) (lb 0 Tryd.f64) :=
  loop_ok (xid := XID) (ro := ro64) (H := h64) mixed (tabOk64) (loops_of (L := []) (by kernel_rfl) (lnil)) (fun p s => strings_trimLeftASCII_R0 p s) (fun p s => by kernel_rfl) (fun p s => rfl)
theorem ok64 : FnOk Tryd.prog 64 ⟨[.ty .str, .rp (arrN .bool 256)], [.str], fun x => strings_trimLeftASCII x.1 x.2⟩ :=
  fn_ok (xid := XID) (ro := ro64) (H := h64) (fn := Tryd.f64) (code := bodyOf Tryd.f64) mixed (tabOk64) Tryd.func64 rfl (by kernel_rfl) (loops_of (L := [(0, lb 0 Tryd.f64)]) (by kernel_rfl) (lcons rfl (lo64_0) (lnil))) (fun x => by kernel_rfl)
/-! 44: strings.Trim -/
noncomputable def tab44 : Tab := [(62, .d ⟨[.ty .str, .ty (.int .u8)], [.str], fun x => strings_trimRightByte x.1 x.2⟩), (61, .d ⟨[.ty .str, .ty (.int .u8)], [.str], fun x => strings_trimLeftByte x.1 x.2⟩), (63, .d ⟨[.ty .str], [(arrN .bool 256), .bool], fun x => strings_makeASCIISet x⟩), (65, .d ⟨[.ty .str, .rp (arrN .bool 256)], [.str], fun x => strings_trimRightASCII x.1 x.2⟩), (64, .d ⟨[.ty .str, .rp (arrN .bool 256)], [.str], fun x => strings_trimLeftASCII x.1 x.2⟩)]
theorem tabOk44 : TabOk Tryd.prog (tab44) := tabOk_cons ok62 (tabOk_cons ok61 (tabOk_cons ok63 (tabOk_cons ok65 (tabOk_cons ok64 (tabOk_nil _)))))
def ro44 : Nat → Bool := fun s => false
noncomputable def h44 : Hints := { loop := fun id => none, cut := fun k r => bif Nat.beq k 0 && Nat.beq r 1 then some (.flat [.s 12 (.imm .bool)]) else bif Nat.beq k 0 && Nat.beq r 3 then some (.flat [.s 21 (.imm .bool)]) else none, frz := fun r => [] }
theorem ok44 : FnOk Tryd.prog 44 ⟨[.ty .str, .ty .str], [.str], fun x => strings_Trim x.1 x.2⟩ :=
  fn_ok (xid := XID) (ro := ro44) (H := h44) (fn := Tryd.f44) (code := bodyOf Tryd.f44) mixed (tabOk44) Tryd.func44 rfl (by kernel_rfl) (loops_of (L := []) (by kernel_rfl) (lnil)) (fun x => by kernel_rfl)
/-! 25: pantograph/nat.Parse -/
noncomputable def tab25 : Tab := [(44, .d ⟨[.ty .str, .ty .str], [.str], fun x => strings_Trim x.1 x.2⟩), (37, .d ⟨[.ty (.sl (.int .u32)), .ty (.sl (.int .u32))], [(.sl (.int .u32))], fun x => nat_Mul x.1 x.2⟩), (35, .d ⟨[.ty (.int .u64)], [(.sl (.int .u32))], fun x => nat_Of x⟩), (45, .d ⟨[.ty (.sl (.int .u32)), .ty (.sl (.int .u32))], [(.sl (.int .u32))], fun x => nat_Add x.1 x.2⟩)]
theorem tabOk25 : TabOk Tryd.prog (tab25) := tabOk_cons ok44 (tabOk_cons ok37 (tabOk_cons ok35 (tabOk_cons ok45 (tabOk_nil _))))
def ro25 : Nat → Bool := fun s => false
noncomputable def lp25_0 : LoopD := { gh := [], ps := [.s 0 (.imm .str), .s 19 (.imm (.int .i64))], sh := ⟨[.s 4 (.imm (.sl (.int .u32))), .s 20 (.imm (.int .i64))], [], []⟩, ws := [⟨.exit 0, ⟨[.s 4 (.imm (.sl (.int .u32)))], [], []⟩⟩], F := fun p s => nat_Parse_L0 p.1 p.2 s }
noncomputable def h25 : Hints := { loop := fun id => bif Nat.beq id 0 then some (lp25_0) else none, cut := fun k r => bif Nat.beq k 0 && Nat.beq r 1 then some (.ways [⟨.normal, ⟨[.s 17 (.imm .bool)], [], []⟩⟩]) else none, frz := fun r => [] }
theorem lo25_0 : LoopOkK Tryd.prog Tryd.f25.ntmps (lp25_0) (lb 0 Tryd.f25) :=
  loop_ok (xid := XID) (ro := ro25) (H := h25) mixed (tabOk25) (loops_of (L := []) (by kernel_rfl) (lnil)) (fun p s => nat_Parse_R0 p.1 p.2 s) (fun p s => by kernel_rfl) (fun p s => rfl)
theorem ok25 : FnOk Tryd.prog 25 ⟨[.ty .str], [(.sl (.int .u32)), .bool], fun x => nat_Parse x⟩ :=
  fn_ok (xid := XID) (ro := ro25) (H := h25) (fn := Tryd.f25) (code := bodyOf Tryd.f25) mixed (tabOk25) Tryd.func25 rfl (by kernel_rfl) (loops_of (L := [(0, lb 0 Tryd.f25)]) (by kernel_rfl) (lcons rfl (lo25_0) (lnil))) (fun x => by kernel_rfl)
/-! 11: pantograph/dec.Parse -/
noncomputable def tab11 : Tab := [(23, .d ⟨[.ty .str, .ty .str], [.str, .bool], fun x => strings_CutPrefix x.1 x.2⟩), (24, .d ⟨[.ty .str, .ty .str], [.str, .str, .bool], fun x => strings_Cut x.1 x.2⟩), (25, .d ⟨[.ty .str], [(.sl (.int .u32)), .bool], fun x => nat_Parse x⟩), (27, .d ⟨[.ty (.int .i64)], [(.sl (.int .u32))], fun x => dec_ten x⟩), (26, .d ⟨[.ty .bool, .ty (.sl (.int .u32)), .ty (.sl (.int .u32))], [tyRat], fun x => rat_Of x.1 x.2.1 x.2.2⟩)]
theorem tabOk11 : TabOk Tryd.prog (tab11) := tabOk_cons ok23 (tabOk_cons ok24 (tabOk_cons ok25 (tabOk_cons ok27 (tabOk_cons ok26 (tabOk_nil _)))))
def ro11 : Nat → Bool := fun s => false
noncomputable def h11 : Hints := { loop := fun id => none, cut := fun k r => bif Nat.beq k 0 && Nat.beq r 9 then some (.flat [.s 58 (.imm .bool)]) else bif Nat.beq k 3 && Nat.beq r 13 then some (.flat [.s 14 (.imm .str)]) else bif Nat.beq k 0 && Nat.beq r 17 then some (.flat [.s 94 (.imm .bool)]) else none, frz := fun r => [] }
theorem ok11 : FnOk Tryd.prog 11 ⟨[.ty .str], [tyRat, (.int .i64)], fun x => dec_Parse x⟩ :=
  fn_ok (xid := XID) (ro := ro11) (H := h11) (fn := Tryd.f11) (code := bodyOf Tryd.f11) mixed (tabOk11) Tryd.func11 rfl (by kernel_rfl) (loops_of (L := []) (by kernel_rfl) (lnil)) (fun x => by kernel_rfl)
/-! 28: pantograph/pantographlaw3.limbs -/
noncomputable def tab28 : Tab := []
theorem tabOk28 : TabOk Tryd.prog (tab28) := tabOk_nil _
def ro28 : Nat → Bool := fun s => false
noncomputable def lp28_0 : LoopD := { gh := [], ps := [.s 0 (.imm (.sl (.int .u32))), .s 1 (.imm (.sl (.int .u32)))], sh := ⟨[.s 5 (.imm (.int .i64))], [], []⟩, ws := [⟨.exit 0, ⟨[], [], []⟩⟩, ⟨.ret, ⟨[.s 4 (.imm .bool)], [], []⟩⟩], F := fun p s => law3_limbs_L0 p.1 p.2 s }
noncomputable def h28 : Hints := { loop := fun id => bif Nat.beq id 0 then some (lp28_0) else none, cut := fun k r => none, frz := fun r => [] }
theorem lo28_0 : LoopOkK Tryd.prog Tryd.f28.ntmps (lp28_0) (lb 0 Tryd.f28) :=
  loop_ok (xid := XID) (ro := ro28) (H := h28) mixed (tabOk28) (loops_of (L := []) (by kernel_rfl) (lnil)) (fun p s => law3_limbs_R0 p.1 p.2 s) (fun p s => by kernel_rfl) (fun p s => rfl)
theorem ok28 : FnOk Tryd.prog 28 ⟨[.ty (.sl (.int .u32)), .ty (.sl (.int .u32))], [.bool], fun x => law3_limbs x.1 x.2⟩ :=
  fn_ok (xid := XID) (ro := ro28) (H := h28) (fn := Tryd.f28) (code := bodyOf Tryd.f28) mixed (tabOk28) Tryd.func28 rfl (by kernel_rfl) (loops_of (L := [(0, lb 0 Tryd.f28)]) (by kernel_rfl) (lcons rfl (lo28_0) (lnil))) (fun x => by kernel_rfl)
/-! 12: pantograph/pantographlaw3.one -/
noncomputable def tab12 : Tab := [(28, .d ⟨[.ty (.sl (.int .u32)), .ty (.sl (.int .u32))], [.bool], fun x => law3_limbs x.1 x.2⟩)]
theorem tabOk12 : TabOk Tryd.prog (tab12) := tabOk_cons ok28 (tabOk_nil _)
def ro12 : Nat → Bool := fun s => Nat.beq s 2 || Nat.beq s 3
noncomputable def h12 : Hints := { loop := fun id => none, cut := fun k r => none, frz := fun r => [] }
theorem ok12 : FnOk Tryd.prog 12 ⟨[.ty tyRat, .ty tyRat], [.bool], fun x => law3_one x.1 x.2⟩ :=
  fn_ok (xid := XID) (ro := ro12) (H := h12) (fn := Tryd.f12) (code := bodyOf Tryd.f12) mixed (tabOk12) Tryd.func12 rfl (by kernel_rfl) (loops_of (L := []) (by kernel_rfl) (lnil)) (fun x => by kernel_rfl)
/-! 3: pantograph/pantographlaw3.DecPlaces -/
noncomputable def tab3 : Tab := [(6, .d ⟨[], [.bool], fun _ => law3_known⟩), (7, .d ⟨[.ty .bool, .ty (.sl (.int .u32)), .ty (.sl (.int .u32))], [tyRat], fun x => ref2_Of x.1 x.2.1 x.2.2⟩), (9, .d ⟨[.ty (.int .i64)], [tyRat], fun x => ref2_Int x⟩), (8, .d ⟨[.ty tyRat, .ty tyRat], [tyRat, .bool], fun x => ref2_Div x.1 x.2⟩), (10, .d ⟨[.ty (.sl (.int .u32))], [.str], fun x => ref1_Print x⟩), (11, .d ⟨[.ty .str], [tyRat, (.int .i64)], fun x => dec_Parse x⟩), (12, .d ⟨[.ty tyRat, .ty tyRat], [.bool], fun x => law3_one x.1 x.2⟩)]
theorem tabOk3 : TabOk Tryd.prog (tab3) := tabOk_cons ok6 (tabOk_cons ok7 (tabOk_cons ok9 (tabOk_cons ok8 (tabOk_cons ok10 (tabOk_cons ok11 (tabOk_cons ok12 (tabOk_nil _)))))))
def ro3 : Nat → Bool := fun s => false
noncomputable def lp3_0 : LoopD := { gh := [], ps := [.s 0 (.imm (.int .u32)), .s 1 (.imm (.int .i64))], sh := ⟨[.s 5 (.imm .str), .s 7 (.imm (.int .i64)), .v (.imm tyRat)], [(6, .ptr 0 0)], [.var (.imm tyRat)]⟩, ws := [⟨.exit 0, ⟨[.s 5 (.imm .str), .v (.imm tyRat)], [], [.var (.imm tyRat)]⟩⟩], F := fun p s => law3_DecPlaces_L0 p.1 p.2 s }
noncomputable def lp3_2 : LoopD := { gh := [], ps := [.s 5 (.imm .str), .s 8 (.imm .str)], sh := ⟨[.s 9 (.imm (.int .i64)), .v (.imm tyRat)], [(6, .ptr 0 0)], [.var (.imm tyRat)]⟩, ws := [⟨.exit 2, ⟨[.v (.imm tyRat)], [], [.var (.imm tyRat)]⟩⟩], F := fun p s => law3_DecPlaces_L1 p.1 p.2 s }
noncomputable def h3 : Hints := { loop := fun id => bif Nat.beq id 0 then some (lp3_0) else bif Nat.beq id 2 then some (lp3_2) else none, cut := fun k r => bif Nat.beq k 0 && Nat.beq r 1 then some (.flat [.s 17 (.imm .bool)]) else none, frz := fun r => [] }
theorem lo3_0 : LoopOkK Tryd.prog Tryd.f3.ntmps (lp3_0) (lb 0 Tryd.f3) :=
  loop_ok (xid := XID) (ro := ro3) (H := h3) mixed (tabOk3) (loops_of (L := []) (by kernel_rfl) (lnil)) (fun p s => law3_DecPlaces_R0 p.1 p.2 s) (fun p s => by kernel_rfl) (fun p s => rfl)
theorem lo3_2 : LoopOkK Tryd.prog Tryd.f3.ntmps (lp3_2) (lb 2 Tryd.f3) :=
  loop_ok (xid := XID) (ro := ro3) (H := h3) mixed (tabOk3) (loops_of (L := []) (by kernel_rfl) (lnil)) (fun p s => law3_DecPlaces_R1 p.1 p.2 s) (fun p s => by kernel_rfl) (fun p s => rfl)
theorem ok3 : FnOk Tryd.prog 3 ⟨[.ty (.int .u32), .ty (.int .i64)], [.bool], fun x => law3_DecPlaces x.1 x.2⟩ :=
  fn_ok (xid := XID) (ro := ro3) (H := h3) (fn := Tryd.f3) (code := bodyOf Tryd.f3) mixed (tabOk3) Tryd.func3 rfl (by kernel_rfl) (loops_of (L := [(0, lb 0 Tryd.f3), (2, lb 2 Tryd.f3)]) (by kernel_rfl) (lcons rfl (lo3_0) (lcons rfl (lo3_2) (lnil)))) (fun x => by kernel_rfl)
end Go.AM.Lf
