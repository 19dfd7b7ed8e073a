/-
  The walk, part 0: each function of the program is the tree that the lifted text says; printed by a program of ours.
-/
import Derived.Test.YtehllfdnkcoehaaDoorProg
import Derived.KernelRfl
import Derived.Test.YtehllfdnkcoehaaDoorAmD
import Derived.Test.YtehllfdnkcoehaaDoorLf0
import Derived.Lib.Builder
import Derived.Shelf.Strings.Builder1
import Derived.WalkKit
import Derived.TacticsInMore
import Derived.Test.YtehllfdnkcoehaaDoorSh
set_option linter.unusedVariables false
set_option maxRecDepth 100000
namespace Go.AM.Lf
open Go.Proofs
abbrev XID : Nat := 1000
noncomputable def bodyOf (f : Func) : Code := match f.body with | some c => c | none => .skip
noncomputable def lb (k : Nat) (f : Func) : Code := match loopAt k (bodyOf f) with | some c => c | none => .skip
theorem mixed : Tryd.prog.follows .mixedOrders = true := by kernel_rfl
instance : Glob := { u8 := 5, tab := [(0, isInt1 .i64)] }
theorem glob_internal_bytealg_MaxLen {κ : KS} (hI : Inv κ) : ∃ m, κ.w.cell? ⟨0, 0, none⟩ = some (.int .i64 m) :=
  int1_cell (hI.gl (0, isInt1 .i64) (by simp [Glob.tab])).2
/-! 4: pantograph/pantographlaw21.long -/
noncomputable def tab4 : Tab := []
theorem tabOk4 : TabOk Tryd.prog (tab4) := tabOk_nil _
def ro4 : Nat → Bool := fun s => false
noncomputable def lp4_0 : LoopD := { gh := [], ps := [.s 0 (.imm (.sl tyrecord_Item))], sh := ⟨[.s 3 (.imm (.int .i64))], [], []⟩, ws := [⟨.exit 0, ⟨[], [], []⟩⟩, ⟨.ret, ⟨[.s 2 (.imm .bool)], [], []⟩⟩], F := fun p s => law21_long_L0 p s }
noncomputable def h4 : Hints := { loop := fun id => bif Nat.beq id 0 then some (lp4_0) else none, cut := fun k r => bif Nat.beq k 0 && Nat.beq r 4 then some (.flat [.s 40 (.imm .bool)]) else none, frz := fun r => [] }
theorem lo4_0 : LoopOkK Tryd.prog Tryd.f4.ntmps (lp4_0) (lb 0 Tryd.f4) :=
  loop_ok (xid := XID) (ro := ro4) (H := h4) mixed (tabOk4) (loops_of (L := []) (by kernel_rfl) (lnil)) (fun p s => law21_long_R0 p s) (fun p s => by kernel_rfl) (fun p s => rfl)
theorem ok4 : FnOk Tryd.prog 4 ⟨[.ty (.sl tyrecord_Item)], [.bool], fun x => law21_long x⟩ :=
  fn_ok (xid := XID) (ro := ro4) (H := h4) (fn := Tryd.f4) (code := bodyOf Tryd.f4) mixed (tabOk4) Tryd.func4 rfl (by kernel_rfl) (loops_of (L := [(0, lb 0 Tryd.f4)]) (by kernel_rfl) (lcons rfl (lo4_0) (lnil))) (fun x => by kernel_rfl)
/-! 11: pantograph/pantographref5.letter -/
noncomputable def tab11 : Tab := []
theorem tabOk11 : TabOk Tryd.prog (tab11) := tabOk_nil _
def ro11 : Nat → Bool := fun s => false
noncomputable def h11 : Hints := { loop := fun id => none, cut := fun k r => bif Nat.beq k 0 && Nat.beq r 1 then some (.flat [.s 2 (.imm .bool)]) else none, frz := fun r => [] }
theorem ok11 : FnOk Tryd.prog 11 ⟨[.ty (.int .u8)], [.bool], fun x => ref5_letter x⟩ :=
  fn_ok (xid := XID) (ro := ro11) (H := h11) (fn := Tryd.f11) (code := bodyOf Tryd.f11) mixed (tabOk11) Tryd.func11 rfl (by kernel_rfl) (loops_of (L := []) (by kernel_rfl) (lnil)) (fun x => by kernel_rfl)
/-! 12: pantograph/pantographref5.digit -/
noncomputable def tab12 : Tab := []
theorem tabOk12 : TabOk Tryd.prog (tab12) := tabOk_nil _
def ro12 : Nat → Bool := fun s => false
noncomputable def h12 : Hints := { loop := fun id => none, cut := fun k r => bif Nat.beq k 0 && Nat.beq r 1 then some (.flat [.s 2 (.imm .bool)]) else none, frz := fun r => [] }
theorem ok12 : FnOk Tryd.prog 12 ⟨[.ty (.int .u8)], [.bool], fun x => ref5_digit x⟩ :=
  fn_ok (xid := XID) (ro := ro12) (H := h12) (fn := Tryd.f12) (code := bodyOf Tryd.f12) mixed (tabOk12) Tryd.func12 rfl (by kernel_rfl) (loops_of (L := []) (by kernel_rfl) (lnil)) (fun x => by kernel_rfl)
/-! 5: pantograph/pantographref5.Name -/
noncomputable def tab5 : Tab := [(11, .d ⟨[.ty (.int .u8)], [.bool], fun x => ref5_letter x⟩), (12, .d ⟨[.ty (.int .u8)], [.bool], fun x => ref5_digit x⟩)]
theorem tabOk5 : TabOk Tryd.prog (tab5) := tabOk_cons ok11 (tabOk_cons ok12 (tabOk_nil _))
def ro5 : Nat → Bool := fun s => false
noncomputable def lp5_0 : LoopD := { gh := [], ps := [.s 0 (.imm .str)], sh := ⟨[.s 3 (.imm (.int .i64))], [], []⟩, ws := [⟨.exit 0, ⟨[], [], []⟩⟩, ⟨.ret, ⟨[.s 2 (.imm .bool)], [], []⟩⟩], F := fun p s => ref5_Name_L0 p s }
noncomputable def h5 : Hints := { loop := fun id => bif Nat.beq id 0 then some (lp5_0) else none, cut := fun k r => bif Nat.beq k 0 && Nat.beq r 1 then some (.ways [⟨.normal, ⟨[.s 17 (.imm .bool)], [], []⟩⟩]) else bif Nat.beq k 0 && Nat.beq r 6 then some (.ways [⟨.normal, ⟨[.s 41 (.imm .bool)], [], []⟩⟩]) else none, frz := fun r => [] }
theorem lo5_0 : LoopOkK Tryd.prog Tryd.f5.ntmps (lp5_0) (lb 0 Tryd.f5) :=
  loop_ok (xid := XID) (ro := ro5) (H := h5) mixed (tabOk5) (loops_of (L := []) (by kernel_rfl) (lnil)) (fun p s => ref5_Name_R0 p s) (fun p s => by kernel_rfl) (fun p s => rfl)
theorem ok5 : FnOk Tryd.prog 5 ⟨[.ty .str], [.bool], fun x => ref5_Name x⟩ :=
  fn_ok (xid := XID) (ro := ro5) (H := h5) (fn := Tryd.f5) (code := bodyOf Tryd.f5) mixed (tabOk5) Tryd.func5 rfl (by kernel_rfl) (loops_of (L := [(0, lb 0 Tryd.f5)]) (by kernel_rfl) (lcons rfl (lo5_0) (lnil))) (fun x => by kernel_rfl)
/-! 66: pantograph/nat.Is -/
noncomputable def tab66 : Tab := []
theorem tabOk66 : TabOk Tryd.prog (tab66) := tabOk_nil _
def ro66 : Nat → Bool := fun s => false
noncomputable def h66 : Hints := { loop := fun id => none, cut := fun k r => bif Nat.beq k 0 && Nat.beq r 1 then some (.flat [.s 2 (.imm .bool)]) else none, frz := fun r => [] }
theorem ok66 : FnOk Tryd.prog 66 ⟨[.ty (.sl (.int .u32))], [.bool], fun x => nat_Is x⟩ :=
  fn_ok (xid := XID) (ro := ro66) (H := h66) (fn := Tryd.f66) (code := bodyOf Tryd.f66) mixed (tabOk66) Tryd.func66 rfl (by kernel_rfl) (loops_of (L := []) (by kernel_rfl) (lnil)) (fun x => by kernel_rfl)
/-! 47: pantograph/nat.trim -/
noncomputable def tab47 : Tab := [(66, .d ⟨[.ty (.sl (.int .u32))], [.bool], fun x => nat_Is x⟩)]
theorem tabOk47 : TabOk Tryd.prog (tab47) := tabOk_cons ok66 (tabOk_nil _)
def ro47 : Nat → Bool := fun s => false
noncomputable def lp47_0 : LoopD := { gh := [], ps := [], sh := ⟨[.s 0 (.imm (.sl (.int .u32)))], [], []⟩, ws := [⟨.exit 0, ⟨[.s 0 (.imm (.sl (.int .u32)))], [], []⟩⟩], F := fun p s => nat_trim_L0  s }
noncomputable def h47 : Hints := { loop := fun id => bif Nat.beq id 0 then some (lp47_0) else none, cut := fun k r => none, frz := fun r => [] }
theorem lo47_0 : LoopOkK Tryd.prog Tryd.f47.ntmps (lp47_0) (lb 0 Tryd.f47) :=
  loop_ok (xid := XID) (ro := ro47) (H := h47) mixed (tabOk47) (loops_of (L := []) (by kernel_rfl) (lnil)) (fun p s => nat_trim_R0  s) (fun p s => by kernel_rfl) (fun p s => rfl)
theorem ok47 : FnOk Tryd.prog 47 ⟨[.ty (.sl (.int .u32))], [(.sl (.int .u32))], fun x => nat_trim x⟩ :=
  fn_ok (xid := XID) (ro := ro47) (H := h47) (fn := Tryd.f47) (code := bodyOf Tryd.f47) mixed (tabOk47) Tryd.func47 rfl (by kernel_rfl) (loops_of (L := [(0, lb 0 Tryd.f47)]) (by kernel_rfl) (lcons rfl (lo47_0) (lnil))) (fun x => by kernel_rfl)
/-! 63: slices.Clone[[]uint32,uint32] -/
noncomputable def tab63 : Tab := []
theorem tabOk63 : TabOk Tryd.prog (tab63) := tabOk_nil _
def ro63 : Nat → Bool := fun s => false
noncomputable def h63 : Hints := { loop := fun id => none, cut := fun k r => bif Nat.beq k 0 && Nat.beq r 1 then some (.nilt) else none, frz := fun r => [] }
theorem ok63 : FnOk Tryd.prog 63 ⟨[.ty (.sl (.int .u32))], [(.sl (.int .u32))], fun x => slices_Clone_sl_uint32 x⟩ :=
  fn_ok (xid := XID) (ro := ro63) (H := h63) (fn := Tryd.f63) (code := bodyOf Tryd.f63) mixed (tabOk63) Tryd.func63 rfl (by kernel_rfl) (loops_of (L := []) (by kernel_rfl) (lnil)) (fun x => by kernel_rfl)
/-! 40: pantograph/nat.Trim -/
noncomputable def tab40 : Tab := [(47, .d ⟨[.ty (.sl (.int .u32))], [(.sl (.int .u32))], fun x => nat_trim x⟩), (63, .d ⟨[.ty (.sl (.int .u32))], [(.sl (.int .u32))], fun x => slices_Clone_sl_uint32 x⟩)]
theorem tabOk40 : TabOk Tryd.prog (tab40) := tabOk_cons ok47 (tabOk_cons ok63 (tabOk_nil _))
def ro40 : Nat → Bool := fun s => false
noncomputable def h40 : Hints := { loop := fun id => none, cut := fun k r => none, frz := fun r => [] }
theorem ok40 : FnOk Tryd.prog 40 ⟨[.ty (.sl (.int .u32))], [(.sl (.int .u32))], fun x => nat_Trim x⟩ :=
  fn_ok (xid := XID) (ro := ro40) (H := h40) (fn := Tryd.f40) (code := bodyOf Tryd.f40) mixed (tabOk40) Tryd.func40 rfl (by kernel_rfl) (loops_of (L := []) (by kernel_rfl) (lnil)) (fun x => by kernel_rfl)
/-! 32: pantograph/nat.Of -/
noncomputable def tab32 : Tab := [(47, .d ⟨[.ty (.sl (.int .u32))], [(.sl (.int .u32))], fun x => nat_trim x⟩)]
theorem tabOk32 : TabOk Tryd.prog (tab32) := tabOk_cons ok47 (tabOk_nil _)
def ro32 : Nat → Bool := fun s => false
noncomputable def h32 : Hints := { loop := fun id => none, cut := fun k r => none, frz := fun r => [] }
theorem ok32 : FnOk Tryd.prog 32 ⟨[.ty (.int .u64)], [(.sl (.int .u32))], fun x => nat_Of x⟩ :=
  fn_ok (xid := XID) (ro := ro32) (H := h32) (fn := Tryd.f32) (code := bodyOf Tryd.f32) mixed (tabOk32) Tryd.func32 rfl (by kernel_rfl) (loops_of (L := []) (by kernel_rfl) (lnil)) (fun x => by kernel_rfl)
/-! 31: pantograph/nat.Cmp -/
noncomputable def tab31 : Tab := [(47, .d ⟨[.ty (.sl (.int .u32))], [(.sl (.int .u32))], fun x => nat_trim x⟩)]
theorem tabOk31 : TabOk Tryd.prog (tab31) := tabOk_cons ok47 (tabOk_nil _)
def ro31 : Nat → Bool := fun s => false
noncomputable def lp31_0 : LoopD := { gh := [], ps := [.s 0 (.imm (.sl (.int .u32))), .s 1 (.imm (.sl (.int .u32)))], sh := ⟨[.s 5 (.imm (.int .i64))], [], []⟩, ws := [⟨.exit 0, ⟨[], [], []⟩⟩, ⟨.ret, ⟨[.s 4 (.imm (.int .i64))], [], []⟩⟩], F := fun p s => nat_Cmp_L0 p.1 p.2 s }
noncomputable def h31 : Hints := { loop := fun id => bif Nat.beq id 0 then some (lp31_0) else none, cut := fun k r => none, frz := fun r => [] }
theorem lo31_0 : LoopOkK Tryd.prog Tryd.f31.ntmps (lp31_0) (lb 0 Tryd.f31) :=
  loop_ok (xid := XID) (ro := ro31) (H := h31) mixed (tabOk31) (loops_of (L := []) (by kernel_rfl) (lnil)) (fun p s => nat_Cmp_R0 p.1 p.2 s) (fun p s => by kernel_rfl) (fun p s => rfl)
theorem ok31 : FnOk Tryd.prog 31 ⟨[.ty (.sl (.int .u32)), .ty (.sl (.int .u32))], [(.int .i64)], fun x => nat_Cmp x.1 x.2⟩ :=
  fn_ok (xid := XID) (ro := ro31) (H := h31) (fn := Tryd.f31) (code := bodyOf Tryd.f31) mixed (tabOk31) Tryd.func31 rfl (by kernel_rfl) (loops_of (L := [(0, lb 0 Tryd.f31)]) (by kernel_rfl) (lcons rfl (lo31_0) (lnil))) (fun x => by kernel_rfl)
/-! 65: math/bits.Div32 -/
noncomputable def tab65 : Tab := []
theorem tabOk65 : TabOk Tryd.prog (tab65) := tabOk_nil _
def ro65 : Nat → Bool := fun s => false
noncomputable def h65 : Hints := { loop := fun id => none, cut := fun k r => bif Nat.beq k 0 && Nat.beq r 1 then some (.flat [.s 15 (.imm .bool)]) else none, frz := fun r => [] }
theorem ok65 : FnOk Tryd.prog 65 ⟨[.ty (.int .u32), .ty (.int .u32), .ty (.int .u32)], [(.int .u32), (.int .u32)], fun x => math_bits_Div32 x.1 x.2.1 x.2.2⟩ :=
  fn_ok (xid := XID) (ro := ro65) (H := h65) (fn := Tryd.f65) (code := bodyOf Tryd.f65) mixed (tabOk65) Tryd.func65 rfl (by kernel_rfl) (loops_of (L := []) (by kernel_rfl) (lnil)) (fun x => by kernel_rfl)
/-! 45: pantograph/nat.small -/
noncomputable def tab45 : Tab := [(65, .d ⟨[.ty (.int .u32), .ty (.int .u32), .ty (.int .u32)], [(.int .u32), (.int .u32)], fun x => math_bits_Div32 x.1 x.2.1 x.2.2⟩), (47, .d ⟨[.ty (.sl (.int .u32))], [(.sl (.int .u32))], fun x => nat_trim x⟩)]
theorem tabOk45 : TabOk Tryd.prog (tab45) := tabOk_cons ok65 (tabOk_cons ok47 (tabOk_nil _))
def ro45 : Nat → Bool := fun s => false
noncomputable def lp45_0 : LoopD := { gh := [], ps := [.s 0 (.imm (.sl (.int .u32))), .s 1 (.imm (.int .u32))], sh := ⟨[.s 7 (.imm (.int .u32)), .s 8 (.imm (.int .i64)), .a (.int .u32)], [(6, .cur 0 (.int .u32))], [.arr (.int .u32)]⟩, ws := [⟨.exit 0, ⟨[.s 7 (.imm (.int .u32)), .a (.int .u32)], [(6, .cur 0 (.int .u32))], [.arr (.int .u32)]⟩⟩], F := fun p s => nat_small_L0 p.1 p.2 s }
noncomputable def h45 : Hints := { loop := fun id => bif Nat.beq id 0 then some (lp45_0) else none, cut := fun k r => none, frz := fun r => bif Nat.beq r 7 then [6] else [] }
theorem lo45_0 : LoopOkK Tryd.prog Tryd.f45.ntmps (lp45_0) (lb 0 Tryd.f45) :=
  loop_ok (xid := XID) (ro := ro45) (H := h45) mixed (tabOk45) (loops_of (L := []) (by kernel_rfl) (lnil)) (fun p s => nat_small_R0 p.1 p.2 s) (fun p s => by kernel_rfl) (fun p s => rfl)
theorem ok45 : FnOk Tryd.prog 45 ⟨[.ty (.sl (.int .u32)), .ty (.int .u32)], [(.sl (.int .u32)), (.int .u32)], fun x => nat_small x.1 x.2⟩ :=
  fn_ok (xid := XID) (ro := ro45) (H := h45) (fn := Tryd.f45) (code := bodyOf Tryd.f45) mixed (tabOk45) Tryd.func45 rfl (by kernel_rfl) (loops_of (L := [(0, lb 0 Tryd.f45)]) (by kernel_rfl) (lcons rfl (lo45_0) (lnil))) (fun x => by kernel_rfl)
/-! 89: math/bits.Len32 -/
noncomputable def tab89 : Tab := []
theorem tabOk89 : TabOk Tryd.prog (tab89) := tabOk_nil _
def ro89 : Nat → Bool := fun s => false
noncomputable def h89 : Hints := { loop := fun id => none, cut := fun k r => bif Nat.beq k 3 && Nat.beq r 1 then some (.flat [.s 0 (.imm (.int .u32)), .s 2 (.imm (.int .i64))]) else bif Nat.beq k 3 && Nat.beq r 4 then some (.flat [.s 0 (.imm (.int .u32)), .s 2 (.imm (.int .i64))]) else none, frz := fun r => [] }
theorem ok89 : FnOk Tryd.prog 89 ⟨[.ty (.int .u32)], [(.int .i64)], fun x => math_bits_Len32 x⟩ :=
  fn_ok (xid := XID) (ro := ro89) (H := h89) (fn := Tryd.f89) (code := bodyOf Tryd.f89) mixed (tabOk89) Tryd.func89 rfl (by kernel_rfl) (loops_of (L := []) (by kernel_rfl) (lnil)) (fun x => by kernel_rfl)
/-! 80: math/bits.LeadingZeros32 -/
noncomputable def tab80 : Tab := [(89, .d ⟨[.ty (.int .u32)], [(.int .i64)], fun x => math_bits_Len32 x⟩)]
theorem tabOk80 : TabOk Tryd.prog (tab80) := tabOk_cons ok89 (tabOk_nil _)
def ro80 : Nat → Bool := fun s => false
noncomputable def h80 : Hints := { loop := fun id => none, cut := fun k r => none, frz := fun r => [] }
theorem ok80 : FnOk Tryd.prog 80 ⟨[.ty (.int .u32)], [(.int .i64)], fun x => math_bits_LeadingZeros32 x⟩ :=
  fn_ok (xid := XID) (ro := ro80) (H := h80) (fn := Tryd.f80) (code := bodyOf Tryd.f80) mixed (tabOk80) Tryd.func80 rfl (by kernel_rfl) (loops_of (L := []) (by kernel_rfl) (lnil)) (fun x => by kernel_rfl)
/-! 81: pantograph/nat.left -/
noncomputable def tab81 : Tab := []
theorem tabOk81 : TabOk Tryd.prog (tab81) := tabOk_nil _
def ro81 : Nat → Bool := fun s => false
noncomputable def lp81_0 : LoopD := { gh := [], ps := [.s 1 (.imm (.int .u64)), .s 2 (.imm (.int .i64)), .s 13 (.imm (.sl (.int .u32))), .s 14 (.imm (.int .i64))], sh := ⟨[.s 15 (.imm (.int .i64)), .a (.int .u32)], [(7, .cur 0 (.int .u32))], [.arr (.int .u32)]⟩, ws := [⟨.exit 0, ⟨[.a (.int .u32)], [(7, .cur 0 (.int .u32))], [.arr (.int .u32)]⟩⟩], F := fun p s => nat_left_S_L0 p.1 p.2.1 p.2.2.1 p.2.2.2 s }
noncomputable def h81 : Hints := { loop := fun id => bif Nat.beq id 0 then some (lp81_0) else none, cut := fun k r => none, frz := fun r => [] }
theorem lo81_0 : LoopOkK Tryd.prog Tryd.f81.ntmps (lp81_0) (lb 0 Tryd.f81) :=
  loop_ok (xid := XID) (ro := ro81) (H := h81) mixed (tabOk81) (loops_of (L := []) (by kernel_rfl) (lnil)) (fun p s => nat_left_S_R0 p.1 p.2.1 p.2.2.1 p.2.2.2 s) (fun p s => by kernel_rfl) (fun p s => rfl)
theorem ok81 : FnSOk Tryd.prog 81 ⟨[.any, .any, .any], ⟨[.s 0 (.imm (.sl (.int .u32))), .s 1 (.imm (.int .u64)), .s 2 (.imm (.int .i64))], [], []⟩, [], ⟨[.a (.int .u32)], [(0, .cur 0 (.int .u32))], [.arr (.int .u32)]⟩, 1, fun x => nat_left_S x.1 x.2.1 x.2.2⟩ :=
  fns_ok (xid := XID) (ro := ro81) (H := h81) (fn := Tryd.f81) (code := bodyOf Tryd.f81) mixed (tabOk81) Tryd.func81 rfl (by kernel_rfl) (loops_of (L := [(0, lb 0 Tryd.f81)]) (by kernel_rfl) (lcons rfl (lo81_0) (lnil))) (fun x => by kernel_rfl)
/-! 82: pantograph/nat.guess -/
noncomputable def tab82 : Tab := []
theorem tabOk82 : TabOk Tryd.prog (tab82) := tabOk_nil _
def ro82 : Nat → Bool := fun s => false
noncomputable def lp82_0 : LoopD := { gh := [], ps := [.s 2 (.imm (.int .u32)), .s 3 (.imm (.int .u32)), .s 4 (.imm (.int .u32))], sh := ⟨[.s 12 (.imm (.int .u64)), .s 13 (.imm (.int .u64))], [], []⟩, ws := [⟨.exit 0, ⟨[.s 12 (.imm (.int .u64))], [], []⟩⟩], F := fun p s => nat_guess_L0 p.1 p.2.1 p.2.2 s }
noncomputable def h82 : Hints := { loop := fun id => bif Nat.beq id 0 then some (lp82_0) else none, cut := fun k r => bif Nat.beq k 0 && Nat.beq r 3 then some (.flat [.s 42 (.imm .bool)]) else none, frz := fun r => [] }
theorem lo82_0 : LoopOkK Tryd.prog Tryd.f82.ntmps (lp82_0) (lb 0 Tryd.f82) :=
  loop_ok (xid := XID) (ro := ro82) (H := h82) mixed (tabOk82) (loops_of (L := []) (by kernel_rfl) (lnil)) (fun p s => nat_guess_R0 p.1 p.2.1 p.2.2 s) (fun p s => by kernel_rfl) (fun p s => rfl)
theorem ok82 : FnOk Tryd.prog 82 ⟨[.ty (.int .u32), .ty (.int .u32), .ty (.int .u32), .ty (.int .u32), .ty (.int .u32)], [(.int .u64)], fun x => nat_guess x.1 x.2.1 x.2.2.1 x.2.2.2.1 x.2.2.2.2⟩ :=
  fn_ok (xid := XID) (ro := ro82) (H := h82) (fn := Tryd.f82) (code := bodyOf Tryd.f82) mixed (tabOk82) Tryd.func82 rfl (by kernel_rfl) (loops_of (L := [(0, lb 0 Tryd.f82)]) (by kernel_rfl) (lcons rfl (lo82_0) (lnil))) (fun x => by kernel_rfl)
/-! 90: math/bits.Sub32 -/
noncomputable def tab90 : Tab := []
theorem tabOk90 : TabOk Tryd.prog (tab90) := tabOk_nil _
def ro90 : Nat → Bool := fun s => false
noncomputable def h90 : Hints := { loop := fun id => none, cut := fun k r => none, frz := fun r => [] }
theorem ok90 : FnOk Tryd.prog 90 ⟨[.ty (.int .u32), .ty (.int .u32), .ty (.int .u32)], [(.int .u32), (.int .u32)], fun x => math_bits_Sub32 x.1 x.2.1 x.2.2⟩ :=
  fn_ok (xid := XID) (ro := ro90) (H := h90) (fn := Tryd.f90) (code := bodyOf Tryd.f90) mixed (tabOk90) Tryd.func90 rfl (by kernel_rfl) (loops_of (L := []) (by kernel_rfl) (lnil)) (fun x => by kernel_rfl)
/-! 91: math/bits.Add32 -/
noncomputable def tab91 : Tab := []
theorem tabOk91 : TabOk Tryd.prog (tab91) := tabOk_nil _
def ro91 : Nat → Bool := fun s => false
noncomputable def h91 : Hints := { loop := fun id => none, cut := fun k r => none, frz := fun r => [] }
theorem ok91 : FnOk Tryd.prog 91 ⟨[.ty (.int .u32), .ty (.int .u32), .ty (.int .u32)], [(.int .u32), (.int .u32)], fun x => math_bits_Add32 x.1 x.2.1 x.2.2⟩ :=
  fn_ok (xid := XID) (ro := ro91) (H := h91) (fn := Tryd.f91) (code := bodyOf Tryd.f91) mixed (tabOk91) Tryd.func91 rfl (by kernel_rfl) (loops_of (L := []) (by kernel_rfl) (lnil)) (fun x => by kernel_rfl)
/-! 83: pantograph/nat.takes -/
noncomputable def tab83 : Tab := [(90, .d ⟨[.ty (.int .u32), .ty (.int .u32), .ty (.int .u32)], [(.int .u32), (.int .u32)], fun x => math_bits_Sub32 x.1 x.2.1 x.2.2⟩), (91, .d ⟨[.ty (.int .u32), .ty (.int .u32), .ty (.int .u32)], [(.int .u32), (.int .u32)], fun x => math_bits_Add32 x.1 x.2.1 x.2.2⟩)]
theorem tabOk83 : TabOk Tryd.prog (tab83) := tabOk_cons ok90 (tabOk_cons ok91 (tabOk_nil _))
def ro83 : Nat → Bool := fun s => false
noncomputable def lp83_0 : LoopD := { gh := [], ps := [.s 1 (.imm (.sl (.int .u32))), .s 2 (.imm (.int .u64)), .s 14 (.imm (.sl (.int .u32))), .s 15 (.imm (.int .i64))], sh := ⟨[.s 0 (.sub 0 (.int .u32)), .s 7 (.imm (.int .u64)), .s 8 (.imm (.int .u32)), .s 16 (.imm (.int .i64)), .a (.int .u32)], [], [.arr (.int .u32)]⟩, ws := [⟨.exit 0, ⟨[.s 0 (.sub 0 (.int .u32)), .s 7 (.imm (.int .u64)), .s 8 (.imm (.int .u32)), .a (.int .u32)], [], [.arr (.int .u32)]⟩⟩], F := fun p s => nat_takes_S_L0 p.1 p.2.1 p.2.2.1 p.2.2.2 s }
noncomputable def lp83_2 : LoopD := { gh := [], ps := [.s 1 (.imm (.sl (.int .u32))), .s 62 (.imm (.sl (.int .u32))), .s 63 (.imm (.int .i64))], sh := ⟨[.s 0 (.sub 0 (.int .u32)), .s 11 (.imm (.int .u32)), .s 64 (.imm (.int .i64)), .a (.int .u32)], [], [.arr (.int .u32)]⟩, ws := [⟨.exit 2, ⟨[.s 0 (.sub 0 (.int .u32)), .s 11 (.imm (.int .u32)), .a (.int .u32)], [], [.arr (.int .u32)]⟩⟩], F := fun p s => nat_takes_S_L1 p.1 p.2.1 p.2.2 s }
noncomputable def h83 : Hints := { loop := fun id => bif Nat.beq id 0 then some (lp83_0) else bif Nat.beq id 2 then some (lp83_2) else none, cut := fun k r => none, frz := fun r => [] }
theorem lo83_0 : LoopOkK Tryd.prog Tryd.f83.ntmps (lp83_0) (lb 0 Tryd.f83) :=
  loop_ok (xid := XID) (ro := ro83) (H := h83) mixed (tabOk83) (loops_of (L := []) (by kernel_rfl) (lnil)) (fun p s => nat_takes_S_R0 p.1 p.2.1 p.2.2.1 p.2.2.2 s) (fun p s => by kernel_rfl) (fun p s => rfl)
theorem lo83_2 : LoopOkK Tryd.prog Tryd.f83.ntmps (lp83_2) (lb 2 Tryd.f83) :=
  loop_ok (xid := XID) (ro := ro83) (H := h83) mixed (tabOk83) (loops_of (L := []) (by kernel_rfl) (lnil)) (fun p s => nat_takes_S_R1 p.1 p.2.1 p.2.2 s) (fun p s => by kernel_rfl) (fun p s => rfl)
theorem ok83 : FnSOk Tryd.prog 83 ⟨[.sub, .any, .any], ⟨[.s 0 (.sub 0 (.int .u32)), .s 1 (.imm (.sl (.int .u32))), .s 2 (.imm (.int .u64)), .a (.int .u32)], [], [.arr (.int .u32)]⟩, [], ⟨[.s 0 (.imm .bool), .a (.int .u32)], [], [.arr (.int .u32)]⟩, 1, fun x => nat_takes_S x.1 x.2.1 x.2.2.1 x.2.2.2⟩ :=
  fns_ok (xid := XID) (ro := ro83) (H := h83) (fn := Tryd.f83) (code := bodyOf Tryd.f83) mixed (tabOk83) Tryd.func83 rfl (by kernel_rfl) (loops_of (L := [(0, lb 0 Tryd.f83), (2, lb 2 Tryd.f83)]) (by kernel_rfl) (lcons rfl (lo83_0) (lcons rfl (lo83_2) (lnil)))) (fun x => by kernel_rfl)
/-! 81: pantograph/nat.left -/
noncomputable def tab81_1 : Tab := []
theorem tabOk81_1 : TabOk Tryd.prog (tab81_1) := tabOk_nil _
def ro81_1 : Nat → Bool := fun s => false
noncomputable def lp81_1_0 : LoopD := { gh := [], ps := [.s 1 (.imm (.int .u64)), .s 2 (.imm (.int .i64)), .s 13 (.imm (.sl (.int .u32))), .s 14 (.imm (.int .i64))], sh := ⟨[.s 15 (.imm (.int .i64)), .a (.int .u32)], [(7, .cur 0 (.int .u32))], [.arr (.int .u32)]⟩, ws := [⟨.exit 0, ⟨[.a (.int .u32)], [(7, .cur 0 (.int .u32))], [.arr (.int .u32)]⟩⟩], F := fun p s => nat_left_L0 p.1 p.2.1 p.2.2.1 p.2.2.2 s }
noncomputable def h81_1 : Hints := { loop := fun id => bif Nat.beq id 0 then some (lp81_1_0) else none, cut := fun k r => none, frz := fun r => [] }
theorem lo81_1_0 : LoopOkK Tryd.prog Tryd.f81.ntmps (lp81_1_0) (lb 0 Tryd.f81) :=
  loop_ok (xid := XID) (ro := ro81_1) (H := h81_1) mixed (tabOk81_1) (loops_of (L := []) (by kernel_rfl) (lnil)) (fun p s => nat_left_R0 p.1 p.2.1 p.2.2.1 p.2.2.2 s) (fun p s => by kernel_rfl) (fun p s => rfl)
theorem ok81_1 : FnOk Tryd.prog 81 ⟨[.ty (.sl (.int .u32)), .ty (.int .u64), .ty (.int .i64)], [(.sl (.int .u32))], fun x => nat_left x.1 x.2.1 x.2.2⟩ :=
  fn_ok (xid := XID) (ro := ro81_1) (H := h81_1) (fn := Tryd.f81) (code := bodyOf Tryd.f81) mixed (tabOk81_1) Tryd.func81 rfl (by kernel_rfl) (loops_of (L := [(0, lb 0 Tryd.f81)]) (by kernel_rfl) (lcons rfl (lo81_1_0) (lnil))) (fun x => by kernel_rfl)
/-! 84: pantograph/nat.Shift -/
noncomputable def tab84 : Tab := [(47, .d ⟨[.ty (.sl (.int .u32))], [(.sl (.int .u32))], fun x => nat_trim x⟩), (81, .d ⟨[.ty (.sl (.int .u32)), .ty (.int .u64), .ty (.int .i64)], [(.sl (.int .u32))], fun x => nat_left x.1 x.2.1 x.2.2⟩)]
theorem tabOk84 : TabOk Tryd.prog (tab84) := tabOk_cons ok47 (tabOk_cons ok81_1 (tabOk_nil _))
def ro84 : Nat → Bool := fun s => false
noncomputable def lp84_0 : LoopD := { gh := [], ps := [.s 6 (.imm (.int .u64)), .s 38 (.imm (.sl (.int .u32))), .s 39 (.imm (.int .i64))], sh := ⟨[.s 40 (.imm (.int .i64)), .a (.int .u32)], [(7, .cur 0 (.int .u32))], [.arr (.int .u32)]⟩, ws := [⟨.exit 0, ⟨[.a (.int .u32)], [(7, .cur 0 (.int .u32))], [.arr (.int .u32)]⟩⟩], F := fun p s => nat_Shift_L0 p.1 p.2.1 p.2.2 s }
noncomputable def h84 : Hints := { loop := fun id => bif Nat.beq id 0 then some (lp84_0) else none, cut := fun k r => none, frz := fun r => bif Nat.beq r 21 then [12] else bif Nat.beq r 17 then [7] else [] }
theorem lo84_0 : LoopOkK Tryd.prog Tryd.f84.ntmps (lp84_0) (lb 0 Tryd.f84) :=
  loop_ok (xid := XID) (ro := ro84) (H := h84) mixed (tabOk84) (loops_of (L := []) (by kernel_rfl) (lnil)) (fun p s => nat_Shift_R0 p.1 p.2.1 p.2.2 s) (fun p s => by kernel_rfl) (fun p s => rfl)
theorem ok84 : FnOk Tryd.prog 84 ⟨[.ty (.sl (.int .u32)), .ty (.int .i64)], [(.sl (.int .u32))], fun x => nat_Shift x.1 x.2⟩ :=
  fn_ok (xid := XID) (ro := ro84) (H := h84) (fn := Tryd.f84) (code := bodyOf Tryd.f84) mixed (tabOk84) Tryd.func84 rfl (by kernel_rfl) (loops_of (L := [(0, lb 0 Tryd.f84)]) (by kernel_rfl) (lcons rfl (lo84_0) (lnil))) (fun x => by kernel_rfl)
/-! 64: pantograph/nat.long -/
noncomputable def tab64 : Tab := [(81, .s ⟨[.any, .any, .any], ⟨[.s 0 (.imm (.sl (.int .u32))), .s 1 (.imm (.int .u64)), .s 2 (.imm (.int .i64))], [], []⟩, [], ⟨[.a (.int .u32)], [(0, .cur 0 (.int .u32))], [.arr (.int .u32)]⟩, 1, fun x => nat_left_S x.1 x.2.1 x.2.2⟩), (83, .s ⟨[.sub, .any, .any], ⟨[.s 0 (.sub 0 (.int .u32)), .s 1 (.imm (.sl (.int .u32))), .s 2 (.imm (.int .u64)), .a (.int .u32)], [], [.arr (.int .u32)]⟩, [], ⟨[.s 0 (.imm .bool), .a (.int .u32)], [], [.arr (.int .u32)]⟩, 1, fun x => nat_takes_S x.1 x.2.1 x.2.2.1 x.2.2.2⟩), (80, .d ⟨[.ty (.int .u32)], [(.int .i64)], fun x => math_bits_LeadingZeros32 x⟩), (82, .d ⟨[.ty (.int .u32), .ty (.int .u32), .ty (.int .u32), .ty (.int .u32), .ty (.int .u32)], [(.int .u64)], fun x => nat_guess x.1 x.2.1 x.2.2.1 x.2.2.2.1 x.2.2.2.2⟩), (47, .d ⟨[.ty (.sl (.int .u32))], [(.sl (.int .u32))], fun x => nat_trim x⟩), (84, .d ⟨[.ty (.sl (.int .u32)), .ty (.int .i64)], [(.sl (.int .u32))], fun x => nat_Shift x.1 x.2⟩)]
theorem tabOk64 : TabOk Tryd.prog (tab64) := tabOk_consS ok81 (tabOk_consS ok83 (tabOk_cons ok80 (tabOk_cons ok82 (tabOk_cons ok47 (tabOk_cons ok84 (tabOk_nil _))))))
def ro64 : Nat → Bool := fun s => false
noncomputable def lp64_0 : LoopD := { gh := [], ps := [.s 6 (.imm (.int .u64)), .s 8 (.imm (.sl (.int .u32))), .s 9 (.imm (.int .i64))], sh := ⟨[.s 10 (.imm (.int .i64)), .a (.int .u32), .a (.int .u32)], [(4, .cur 2 (.int .u32)), (7, .cur 0 (.int .u32))], [.arr (.int .u32), .dead, .arr (.int .u32)]⟩, ws := [⟨.exit 0, ⟨[.a (.int .u32), .a (.int .u32)], [(4, .cur 2 (.int .u32)), (7, .cur 0 (.int .u32))], [.arr (.int .u32), .dead, .arr (.int .u32)]⟩⟩], F := fun p s => nat_long_L0 p.1 p.2.1 p.2.2 s }
noncomputable def h64 : Hints := { loop := fun id => bif Nat.beq id 0 then some (lp64_0) else none, cut := fun k r => bif Nat.beq k 3 && Nat.beq r 9 then some (.ways [⟨.normal, ⟨[.s 11 (.imm (.int .u64)), .a (.int .u32), .a (.int .u32)], [(4, .cur 2 (.int .u32)), (7, .cur 0 (.int .u32))], [.arr (.int .u32), .dead, .arr (.int .u32)]⟩⟩]) else none, frz := fun r => bif Nat.beq r 12 then [4, 7] else bif Nat.beq r 5 then [8] else [] }
theorem lo64_0 : LoopOkK Tryd.prog Tryd.f64.ntmps (lp64_0) (lb 0 Tryd.f64) :=
  loop_ok (xid := XID) (ro := ro64) (H := h64) mixed (tabOk64) (loops_of (L := []) (by kernel_rfl) (lnil)) (fun p s => nat_long_R0 p.1 p.2.1 p.2.2 s) (fun p s => by kernel_rfl) (fun p s => rfl)
theorem ok64 : FnOk Tryd.prog 64 ⟨[.ty (.sl (.int .u32)), .ty (.sl (.int .u32))], [(.sl (.int .u32)), (.sl (.int .u32))], fun x => nat_long x.1 x.2⟩ :=
  fn_ok (xid := XID) (ro := ro64) (H := h64) (fn := Tryd.f64) (code := bodyOf Tryd.f64) mixed (tabOk64) Tryd.func64 rfl (by kernel_rfl) (loops_of (L := [(0, lb 0 Tryd.f64)]) (by kernel_rfl) (lcons rfl (lo64_0) (lnil))) (fun x => by kernel_rfl)
/-! 42: pantograph/nat.DivMod -/
noncomputable def tab42 : Tab := [(47, .d ⟨[.ty (.sl (.int .u32))], [(.sl (.int .u32))], fun x => nat_trim x⟩), (31, .d ⟨[.ty (.sl (.int .u32)), .ty (.sl (.int .u32))], [(.int .i64)], fun x => nat_Cmp x.1 x.2⟩), (40, .d ⟨[.ty (.sl (.int .u32))], [(.sl (.int .u32))], fun x => nat_Trim x⟩), (45, .d ⟨[.ty (.sl (.int .u32)), .ty (.int .u32)], [(.sl (.int .u32)), (.int .u32)], fun x => nat_small x.1 x.2⟩), (32, .d ⟨[.ty (.int .u64)], [(.sl (.int .u32))], fun x => nat_Of x⟩), (64, .d ⟨[.ty (.sl (.int .u32)), .ty (.sl (.int .u32))], [(.sl (.int .u32)), (.sl (.int .u32))], fun x => nat_long x.1 x.2⟩)]
theorem tabOk42 : TabOk Tryd.prog (tab42) := tabOk_cons ok47 (tabOk_cons ok31 (tabOk_cons ok40 (tabOk_cons ok45 (tabOk_cons ok32 (tabOk_cons ok64 (tabOk_nil _))))))
def ro42 : Nat → Bool := fun s => false
noncomputable def h42 : Hints := { loop := fun id => none, cut := fun k r => none, frz := fun r => [] }
theorem ok42 : FnOk Tryd.prog 42 ⟨[.ty (.sl (.int .u32)), .ty (.sl (.int .u32))], [(.sl (.int .u32)), (.sl (.int .u32)), .bool], fun x => nat_DivMod x.1 x.2⟩ :=
  fn_ok (xid := XID) (ro := ro42) (H := h42) (fn := Tryd.f42) (code := bodyOf Tryd.f42) mixed (tabOk42) Tryd.func42 rfl (by kernel_rfl) (loops_of (L := []) (by kernel_rfl) (lnil)) (fun x => by kernel_rfl)
/-! 41: pantograph/nat.Gcd -/
noncomputable def tab41 : Tab := [(40, .d ⟨[.ty (.sl (.int .u32))], [(.sl (.int .u32))], fun x => nat_Trim x⟩), (42, .d ⟨[.ty (.sl (.int .u32)), .ty (.sl (.int .u32))], [(.sl (.int .u32)), (.sl (.int .u32)), .bool], fun x => nat_DivMod x.1 x.2⟩)]
theorem tabOk41 : TabOk Tryd.prog (tab41) := tabOk_cons ok40 (tabOk_cons ok42 (tabOk_nil _))
def ro41 : Nat → Bool := fun s => false
noncomputable def lp41_0 : LoopD := { gh := [], ps := [], sh := ⟨[.s 0 (.imm (.sl (.int .u32))), .s 1 (.imm (.sl (.int .u32)))], [], []⟩, ws := [⟨.exit 0, ⟨[.s 0 (.imm (.sl (.int .u32)))], [], []⟩⟩], F := fun p s => nat_Gcd_L0  s }
noncomputable def h41 : Hints := { loop := fun id => bif Nat.beq id 0 then some (lp41_0) else none, cut := fun k r => none, frz := fun r => [] }
theorem lo41_0 : LoopOkK Tryd.prog Tryd.f41.ntmps (lp41_0) (lb 0 Tryd.f41) :=
  loop_ok (xid := XID) (ro := ro41) (H := h41) mixed (tabOk41) (loops_of (L := []) (by kernel_rfl) (lnil)) (fun p s => nat_Gcd_R0  s) (fun p s => by kernel_rfl) (fun p s => rfl)
theorem ok41 : FnOk Tryd.prog 41 ⟨[.ty (.sl (.int .u32)), .ty (.sl (.int .u32))], [(.sl (.int .u32))], fun x => nat_Gcd x.1 x.2⟩ :=
  fn_ok (xid := XID) (ro := ro41) (H := h41) (fn := Tryd.f41) (code := bodyOf Tryd.f41) mixed (tabOk41) Tryd.func41 rfl (by kernel_rfl) (loops_of (L := [(0, lb 0 Tryd.f41)]) (by kernel_rfl) (lcons rfl (lo41_0) (lnil))) (fun x => by kernel_rfl)
/-! 23: pantograph/rat.Of -/
noncomputable def tab23 : Tab := [(40, .d ⟨[.ty (.sl (.int .u32))], [(.sl (.int .u32))], fun x => nat_Trim x⟩), (32, .d ⟨[.ty (.int .u64)], [(.sl (.int .u32))], fun x => nat_Of x⟩), (41, .d ⟨[.ty (.sl (.int .u32)), .ty (.sl (.int .u32))], [(.sl (.int .u32))], fun x => nat_Gcd x.1 x.2⟩), (42, .d ⟨[.ty (.sl (.int .u32)), .ty (.sl (.int .u32))], [(.sl (.int .u32)), (.sl (.int .u32)), .bool], fun x => nat_DivMod x.1 x.2⟩)]
theorem tabOk23 : TabOk Tryd.prog (tab23) := tabOk_cons ok40 (tabOk_cons ok32 (tabOk_cons ok41 (tabOk_cons ok42 (tabOk_nil _))))
def ro23 : Nat → Bool := fun s => false
noncomputable def h23 : Hints := { loop := fun id => none, cut := fun k r => bif Nat.beq k 0 && Nat.beq r 2 then some (.flat [.s 19 (.imm .bool)]) else none, frz := fun r => [] }
theorem ok23 : FnOk Tryd.prog 23 ⟨[.ty .bool, .ty (.sl (.int .u32)), .ty (.sl (.int .u32))], [tyRat], fun x => rat_Of x.1 x.2.1 x.2.2⟩ :=
  fn_ok (xid := XID) (ro := ro23) (H := h23) (fn := Tryd.f23) (code := bodyOf Tryd.f23) mixed (tabOk23) Tryd.func23 rfl (by kernel_rfl) (loops_of (L := []) (by kernel_rfl) (lnil)) (fun x => by kernel_rfl)
/-! 28: pantograph/rat.Norm -/
noncomputable def tab28 : Tab := [(23, .d ⟨[.ty .bool, .ty (.sl (.int .u32)), .ty (.sl (.int .u32))], [tyRat], fun x => rat_Of x.1 x.2.1 x.2.2⟩)]
theorem tabOk28 : TabOk Tryd.prog (tab28) := tabOk_cons ok23 (tabOk_nil _)
def ro28 : Nat → Bool := fun s => Nat.beq s 1
noncomputable def h28 : Hints := { loop := fun id => none, cut := fun k r => none, frz := fun r => [] }
theorem ok28 : FnOk Tryd.prog 28 ⟨[.ty tyRat], [tyRat], fun x => rat_Norm x⟩ :=
  fn_ok (xid := XID) (ro := ro28) (H := h28) (fn := Tryd.f28) (code := bodyOf Tryd.f28) mixed (tabOk28) Tryd.func28 rfl (by kernel_rfl) (loops_of (L := []) (by kernel_rfl) (lnil)) (fun x => by kernel_rfl)
/-! 29: pantograph/dec.sign -/
noncomputable def tab29 : Tab := []
theorem tabOk29 : TabOk Tryd.prog (tab29) := tabOk_nil _
def ro29 : Nat → Bool := fun s => Nat.beq s 1
noncomputable def h29 : Hints := { loop := fun id => none, cut := fun k r => none, frz := fun r => [] }
theorem ok29 : FnOk Tryd.prog 29 ⟨[.ty tyRat], [.str], fun x => dec_sign x⟩ :=
  fn_ok (xid := XID) (ro := ro29) (H := h29) (fn := Tryd.f29) (code := bodyOf Tryd.f29) mixed (tabOk29) Tryd.func29 rfl (by kernel_rfl) (loops_of (L := []) (by kernel_rfl) (lnil)) (fun x => by kernel_rfl)
/-! 46: slices.Reverse[[]byte,byte] -/
noncomputable def tab46 : Tab := []
theorem tabOk46 : TabOk Tryd.prog (tab46) := tabOk_nil _
def ro46 : Nat → Bool := fun s => false
noncomputable def lp46_0 : LoopD := { gh := [], ps := [], sh := ⟨[.s 0 (.sub 0 (.int .u8)), .s 2 (.imm (.int .i64)), .s 3 (.imm (.int .i64)), .a (.int .u8)], [], [.arr (.int .u8)]⟩, ws := [⟨.exit 0, ⟨[.a (.int .u8)], [], [.arr (.int .u8)]⟩⟩], F := fun p s => slices_Reverse_sl_byte_S_L0  s }
noncomputable def h46 : Hints := { loop := fun id => bif Nat.beq id 0 then some (lp46_0) else none, cut := fun k r => none, frz := fun r => [] }
theorem lo46_0 : LoopOkK Tryd.prog Tryd.f46.ntmps (lp46_0) (lb 0 Tryd.f46) :=
  loop_ok (xid := XID) (ro := ro46) (H := h46) mixed (tabOk46) (loops_of (L := []) (by kernel_rfl) (lnil)) (fun p s => slices_Reverse_sl_byte_S_R0  s) (fun p s => by kernel_rfl) (fun p s => rfl)
theorem ok46 : FnSOk Tryd.prog 46 ⟨[.sub], ⟨[.s 0 (.sub 0 (.int .u8)), .a (.int .u8)], [], [.arr (.int .u8)]⟩, [], ⟨[.a (.int .u8)], [], [.arr (.int .u8)]⟩, 0, fun x => slices_Reverse_sl_byte_S x.1 x.2⟩ :=
  fns_ok (xid := XID) (ro := ro46) (H := h46) (fn := Tryd.f46) (code := bodyOf Tryd.f46) mixed (tabOk46) Tryd.func46 rfl (by kernel_rfl) (loops_of (L := [(0, lb 0 Tryd.f46)]) (by kernel_rfl) (lcons rfl (lo46_0) (lnil))) (fun x => by kernel_rfl)
/-! 30: pantograph/nat.Print -/
noncomputable def tab30 : Tab := [(46, .s ⟨[.sub], ⟨[.s 0 (.sub 0 (.int .u8)), .a (.int .u8)], [], [.arr (.int .u8)]⟩, [], ⟨[.a (.int .u8)], [], [.arr (.int .u8)]⟩, 0, fun x => slices_Reverse_sl_byte_S x.1 x.2⟩), (40, .d ⟨[.ty (.sl (.int .u32))], [(.sl (.int .u32))], fun x => nat_Trim x⟩), (45, .d ⟨[.ty (.sl (.int .u32)), .ty (.int .u32)], [(.sl (.int .u32)), (.int .u32)], fun x => nat_small x.1 x.2⟩)]
theorem tabOk30 : TabOk Tryd.prog (tab30) := tabOk_consS ok46 (tabOk_cons ok40 (tabOk_cons ok45 (tabOk_nil _)))
def ro30 : Nat → Bool := fun s => false
noncomputable def lp30_2 : LoopD := { gh := [], ps := [.s 4 (.imm (.sl (.int .u32)))], sh := ⟨[.s 5 (.imm (.int .u32)), .s 19 (.imm (.int .i64)), .a (.int .u8)], [(3, .cur 0 (.int .u8))], [.arr (.int .u8)]⟩, ws := [⟨.exit 2, ⟨[.a (.int .u8)], [(3, .cur 0 (.int .u8))], [.arr (.int .u8)]⟩⟩], F := fun p s => nat_Print_L1 p s }
noncomputable def lp30_0 : LoopD := { gh := [.slot 3 (.int .u8)], ps := [], sh := ⟨[.s 0 (.imm (.sl (.int .u32))), .a (.int .u8)], [(3, .cur 0 (.int .u8))], [.arr (.int .u8)]⟩, ws := [⟨.exit 0, ⟨[.a (.int .u8)], [(3, .cur 0 (.int .u8))], [.arr (.int .u8)]⟩⟩], F := fun p s => nat_Print_L0  s }
noncomputable def lp30_4 : LoopD := { gh := [], ps := [], sh := ⟨[.s 3 (.sub 0 (.int .u8)), .a (.int .u8)], [], [.arr (.int .u8)]⟩, ws := [⟨.exit 4, ⟨[.s 3 (.sub 0 (.int .u8)), .a (.int .u8)], [], [.arr (.int .u8)]⟩⟩], F := fun p s => nat_Print_L2  s }
noncomputable def h30 : Hints := { loop := fun id => bif Nat.beq id 2 then some (lp30_2) else bif Nat.beq id 0 then some (lp30_0) else bif Nat.beq id 4 then some (lp30_4) else none, cut := fun k r => bif Nat.beq k 0 && Nat.beq r 13 then some (.flat [.s 42 (.imm .bool)]) else none, frz := fun r => [] }
theorem lo30_2 : LoopOkK Tryd.prog Tryd.f30.ntmps (lp30_2) (lb 2 Tryd.f30) :=
  loop_ok (xid := XID) (ro := ro30) (H := h30) mixed (tabOk30) (loops_of (L := []) (by kernel_rfl) (lnil)) (fun p s => nat_Print_R1 p s) (fun p s => by kernel_rfl) (fun p s => rfl)
theorem lo30_0 : LoopOkK Tryd.prog Tryd.f30.ntmps (lp30_0) (lb 0 Tryd.f30) :=
  loop_ok (xid := XID) (ro := ro30) (H := h30) mixed (tabOk30) (loops_of (L := [(2, lb 2 Tryd.f30)]) (by kernel_rfl) (lcons rfl (lo30_2) (lnil))) (fun p s => nat_Print_R0  s) (fun p s => by kernel_rfl) (fun p s => rfl)
theorem lo30_4 : LoopOkK Tryd.prog Tryd.f30.ntmps (lp30_4) (lb 4 Tryd.f30) :=
  loop_ok (xid := XID) (ro := ro30) (H := h30) mixed (tabOk30) (loops_of (L := []) (by kernel_rfl) (lnil)) (fun p s => nat_Print_R2  s) (fun p s => by kernel_rfl) (fun p s => rfl)
theorem ok30 : FnOk Tryd.prog 30 ⟨[.ty (.sl (.int .u32))], [.str], fun x => nat_Print x⟩ :=
  fn_ok (xid := XID) (ro := ro30) (H := h30) (fn := Tryd.f30) (code := bodyOf Tryd.f30) mixed (tabOk30) Tryd.func30 rfl (by kernel_rfl) (loops_of (L := [(0, lb 0 Tryd.f30), (4, lb 4 Tryd.f30)]) (by kernel_rfl) (lcons rfl (lo30_0) (lcons rfl (lo30_4) (lnil)))) (fun x => by kernel_rfl)
/-! 17: pantograph/dec.Print -/
noncomputable def tab17 : Tab := [(28, .d ⟨[.ty tyRat], [tyRat], fun x => rat_Norm x⟩), (29, .d ⟨[.ty tyRat], [.str], fun x => dec_sign x⟩), (30, .d ⟨[.ty (.sl (.int .u32))], [.str], fun x => nat_Print x⟩), (32, .d ⟨[.ty (.int .u64)], [(.sl (.int .u32))], fun x => nat_Of x⟩), (31, .d ⟨[.ty (.sl (.int .u32)), .ty (.sl (.int .u32))], [(.int .i64)], fun x => nat_Cmp x.1 x.2⟩)]
theorem tabOk17 : TabOk Tryd.prog (tab17) := tabOk_cons ok28 (tabOk_cons ok29 (tabOk_cons ok30 (tabOk_cons ok32 (tabOk_cons ok31 (tabOk_nil _)))))
def ro17 : Nat → Bool := fun s => false
noncomputable def h17 : Hints := { loop := fun id => none, cut := fun k r => none, frz := fun r => [] }
theorem ok17 : FnOk Tryd.prog 17 ⟨[.ty tyRat], [.str], fun x => dec_Print x⟩ :=
  fn_ok (xid := XID) (ro := ro17) (H := h17) (fn := Tryd.f17) (code := bodyOf Tryd.f17) mixed (tabOk17) Tryd.func17 rfl (by kernel_rfl) (loops_of (L := []) (by kernel_rfl) (lnil)) (fun x => by kernel_rfl)
/-! 27: (*strings.Builder).copyCheck, by hand -/
end Go.AM.Lf
namespace Go.Proofs
section
open Go.RowKit
attribute [local go_sem] Oper.semAt_some
set_option maxRecDepth 100000
set_option maxHeartbeats 2000000
theorem Bld.size : (Tryd.prog.info? 47).map (·.size) = some 2 := by kernel_rfl
theorem Bld.pt : Tryd.prog.underlying 44 = some (.pointer 47) := by kernel_rfl
theorem Bld.up : Tryd.prog.underlying 75 = some .unsafePointer := by kernel_rfl
theorem Bld.used (b : Nat) (w : World) (h0 : w.cell? ⟨b, 0, none⟩ = some (.pointer (some ⟨b, 0, none⟩))) :
    Calls Tryd.prog 27 #[.pointer (some ⟨b, 0, none⟩)] w fun e w' => e = .returned (.tuple #[]) ∧ w' = w := by
  obtain ⟨j, hj, hjs⟩ := Option.map_eq_some_iff.1 Bld.size
  go_enter Tryd.func27, Tryd.ntmps27
  go_wp2
  rw [Lib.run_neq_ptr_same w _ Bld.pt hj]
  go_wp2
  go_end0
  exact ⟨rfl, rfl⟩
theorem Bld.fresh (b : Nat) (w : World) (h0 : w.cell? ⟨b, 0, none⟩ = some (.pointer none)) (hsh : w.shape? b = some (47, 2)) (hfz : w.frozen? ⟨b, 0, none⟩ = false) :
    Calls Tryd.prog 27 #[.pointer (some ⟨b, 0, none⟩)] w fun e w' => e = .returned (.tuple #[]) ∧ w' = w.setCell ⟨b, 0, none⟩ (.pointer (some ⟨b, 0, none⟩)) := by
  obtain ⟨j, hj, hjs⟩ := Option.map_eq_some_iff.1 Bld.size
  go_enter Tryd.func27, Tryd.ntmps27
  go_wp2
  rw [Lib.run_to_unsafe w ⟨b, 0, none⟩ Bld.pt Bld.up hj (by rw [hjs]; decide) hsh (Nat.zero_lt_succ 1)]
  simp only [Result.andThen]
  rw [Oper.upon_value]
  go_wp2
  rw [run_callFunc_extern Tryd.func44 (by kernel_rfl) (by kernel_rfl) (by kernel_rfl) (e := Extern.AbiNoEscape.same) (by kernel_rfl)]
  rw [Lib.run_noEscape]
  simp only [Result.andThen]
  rw [Oper.upon_value]
  go_wp2
  rw [Lib.run_from_unsafe w ⟨b, 0, none⟩ Bld.up Bld.pt hj hsh (by kernel_rfl)]
  simp only [Result.andThen]
  rw [Oper.upon_value]
  go_wp2
  go_end0
  exact ⟨rfl, rfl⟩
end
end Go.Proofs

namespace Go.AM.Lf
open Go.Proofs
theorem ok27 : FnSOk Tryd.prog 27 ⟨[.ptr], ⟨[.v (.st [.op 0 47, .row 1 (.int .u8)]), .a (.int .u8)], [(0, .ptr 0 0)], [.var (.st [.op 0 47, .row 1 (.int .u8)]), .arr (.int .u8)]⟩, [], ⟨[.v (.st [.op 0 47, .row 1 (.int .u8)]), .a (.int .u8)], [], [.var (.st [.op 0 47, .row 1 (.int .u8)]), .arr (.int .u8)]⟩, 0, fun x => bld_copyCheck x.1 x.2⟩ := copyCheck_ok (P := Tryd.prog) (g := 27) (t := 47) (enters_of Tryd.func27 (by kernel_rfl) rfl) Bld.used Bld.fresh
/-! 16: (*strings.Builder).WriteString -/
noncomputable def tab16 : Tab := [(27, .s ⟨[.ptr], ⟨[.v (.st [.op 0 47, .row 1 (.int .u8)]), .a (.int .u8)], [(0, .ptr 0 0)], [.var (.st [.op 0 47, .row 1 (.int .u8)]), .arr (.int .u8)]⟩, [], ⟨[.v (.st [.op 0 47, .row 1 (.int .u8)]), .a (.int .u8)], [], [.var (.st [.op 0 47, .row 1 (.int .u8)]), .arr (.int .u8)]⟩, 0, fun x => bld_copyCheck x.1 x.2⟩)]
theorem tabOk16 : TabOk Tryd.prog (tab16) := tabOk_consS ok27 (tabOk_nil _)
def ro16 : Nat → Bool := fun s => false
noncomputable def h16 : Hints := { loop := fun id => none, cut := fun k r => none, frz := fun r => [] }
theorem ok16 : FnSOk Tryd.prog 16 ⟨[.ptr, .any], ⟨[.s 1 (.imm .str), .v (.st [.op 0 47, .row 1 (.int .u8)]), .a (.int .u8)], [(0, .ptr 0 0)], [.var (.st [.op 0 47, .row 1 (.int .u8)]), .arr (.int .u8)]⟩, [.pcell 0 1 (.int .u8)], ⟨[.s 0 (.imm (.int .i64)), .v (.st [.op 0 47, .row 1 (.int .u8)]), .a (.int .u8)], [(1, .niface)], [.var (.st [.op 0 47, .row 1 (.int .u8)]), .arr (.int .u8)]⟩, 2, fun x => strings_Builder_WriteString_S x.1 x.2.1 x.2.2⟩ :=
  fns_ok (xid := XID) (ro := ro16) (H := h16) (fn := Tryd.f16) (code := bodyOf Tryd.f16) mixed (tabOk16) Tryd.func16 rfl (by kernel_rfl) (loops_of (L := []) (by kernel_rfl) (lnil)) (fun x => by kernel_rfl)
/-! 18: (*strings.Builder).String, by hand -/
end Go.AM.Lf
namespace Go.Proofs
section
open Go.RowKit
attribute [local go_sem] Oper.semAt_some
set_option maxRecDepth 100000
set_option maxHeartbeats 2000000
theorem Bld.mixed : Tryd.prog.follows .mixedOrders = true := by kernel_rfl
theorem Bld.pb : Tryd.prog.underlying 67 = some (.pointer 5) := by kernel_rfl
theorem Bld.c5 : Tryd.prog.cellsOf 5 = 1 := by kernel_rfl
theorem Bld.none0 (W : World) (q : Option Addr) : (Builtin.unsafeString_ #[67, 3] 9 #[.pointer q, .int .i64 0]).run Tryd.prog W = .ok (.string .empty) W := Lib.run_unsafeString_none W _ _ _ q
theorem Bld.nil (b : Nat) (p : Value) (w : World) (hbk : w.heap[b]? = some (.cells #[p, .slice none 0 0] 47 (0, 0))) :
    Calls Tryd.prog 18 #[.pointer (some ⟨b, 0, none⟩)] w fun e w' => e = .returned (.string ⟨#[]⟩) ∧ w' = w.drew := by
  have hUS := Bld.none0
  have c1 : w.drew.cell? ⟨b, 1, none⟩ = some (.slice none 0 0) := by
    have : w.drew.heap[b]? = some (.cells #[p, .slice none 0 0] 47 (0, 0)) := hbk
    rw [Lib.cell_of_heap this]; rfl
  have hSD : (Builtin.unsafeSliceData_ #[45] 67 #[.slice none 0 0]).run Tryd.prog w.drew = .ok (.pointer none) w.drew := rfl
  have mixed : Tryd.prog.follows .mixedOrders = true := Bld.mixed
  go_enter Tryd.func18, Tryd.ntmps18
  go_wp2
  go_region_o
  all_goals (go_wp2; go_ret; exact ⟨rfl, rfl⟩)
theorem Bld.room (b g o cap : Nat) (p : Value) (w : World) (hc0 : cap ≠ 0) (hbk : w.heap[b]? = some (.cells #[p, .slice (some ⟨g, o, none⟩) 0 cap] 47 (0, 0))) :
    Calls Tryd.prog 18 #[.pointer (some ⟨b, 0, none⟩)] w fun e w' => e = .returned (.string ⟨#[]⟩) ∧ w' = w.drew := by
  have hUS := Bld.none0
  have c1 : w.drew.cell? ⟨b, 1, none⟩ = some (.slice (some ⟨g, o, none⟩) 0 cap) := by
    have : w.drew.heap[b]? = some (.cells #[p, .slice (some ⟨g, o, none⟩) 0 cap] 47 (0, 0)) := hbk
    rw [Lib.cell_of_heap this]; rfl
  have hSD : (Builtin.unsafeSliceData_ #[45] 67 #[.slice (some ⟨g, o, none⟩) 0 cap]).run Tryd.prog w.drew = .ok (.pointer (some ⟨g, o, none⟩)) w.drew :=
    Lib.run_unsafeSliceData_row _ _ _ _ _ _ hc0
  clear hc0
  have mixed : Tryd.prog.follows .mixedOrders = true := Bld.mixed
  go_enter Tryd.func18, Tryd.ntmps18
  go_wp2
  go_region_o
  all_goals (go_wp2; go_ret; exact ⟨rfl, rfl⟩)
theorem Bld.full (b g cap : Nat) (p : Value) (cur : Array Value) (l : List UInt8) (w : World) (h0 : l ≠ []) (hcap : l.length ≤ cap) (hmax : l.length ≤ 140737488355328) (hbk : w.heap[b]? = some (.cells #[p, .slice (some ⟨g, 0, none⟩) l.length cap] 47 (0, 0)))
    (hg : w.heap[g]? = some (.cells cur 5 (0, 0))) (hcur : l.length ≤ cur.size) (hcell : ∀ j x, l[j]? = some x → w.cell? ⟨g, j, none⟩ = some (.int .u8 x.toNat)) :
    Calls Tryd.prog 18 #[.pointer (some ⟨b, 0, none⟩)] w fun e w' => e = .returned (.string ⟨l.toArray⟩) ∧ w' = w.drew.freeze ⟨g, 0, none⟩ l.length := by
  have hl0 : l.length ≠ 0 := by simpa using h0
  have c1 : w.drew.cell? ⟨b, 1, none⟩ = some (.slice (some ⟨g, 0, none⟩) l.length cap) := by
    have : w.drew.heap[b]? = some (.cells #[p, .slice (some ⟨g, 0, none⟩) l.length cap] 47 (0, 0)) := hbk
    rw [Lib.cell_of_heap this]; rfl
  have hSD : (Builtin.unsafeSliceData_ #[45] 67 #[.slice (some ⟨g, 0, none⟩) l.length cap]).run Tryd.prog w.drew = .ok (.pointer (some ⟨g, 0, none⟩)) w.drew :=
    Lib.run_unsafeSliceData_row _ _ _ _ _ _ (by omega)
  have hUS : (Builtin.unsafeString_ #[67, 3] 9 #[.pointer (some ⟨g, 0, none⟩), .int .i64 l.length]).run Tryd.prog w.drew = .ok (.string ⟨l.toArray⟩) (w.drew.freeze ⟨g, 0, none⟩ l.length) := by
    refine Lib.run_unsafeString_row w.drew 67 3 9 5 Bld.pb Bld.c5 g cur.size (by have hg' : w.drew.heap[g]? = some (.cells cur 5 (0, 0)) := hg; simp [World.shape?, hg']) l h0 (by omega) (by omega) ?_
    intro j x hx
    have e : (⟨g, 0, none⟩ : Addr).add j = ⟨g, j, none⟩ := by unfold Addr.add; split <;> simp_all
    rw [e]
    exact hcell j x hx
  have mixed : Tryd.prog.follows .mixedOrders = true := Bld.mixed
  go_enter Tryd.func18, Tryd.ntmps18
  go_wp2
  go_region_o
  all_goals (go_wp2; go_ret; exact ⟨rfl, rfl⟩)
theorem Bld.noroom (b g o : Nat) (p : Value) (cur : Array Value) (w : World) (hbk : w.heap[b]? = some (.cells #[p, .slice (some ⟨g, o, none⟩) 0 0] 47 (0, 0))) (hg : w.heap[g]? = some (.cells cur 5 (0, 0))) :
    Calls Tryd.prog 18 #[.pointer (some ⟨b, 0, none⟩)] w fun e w' => e = .returned (.string ⟨#[]⟩) ∧ w' = w.drew.alloc (.view ⟨g, o, none⟩ 5) := by
  have hUS := Bld.none0
  have hlt : b < w.heap.size := by
    rcases Nat.lt_or_ge b w.heap.size with h' | h'
    · exact h'
    · simp [Array.getElem?_eq_none h'] at hbk
  have c1 : w.drew.cell? ⟨b, 1, none⟩ = some (.slice (some ⟨g, o, none⟩) 0 0) := by
    have : w.drew.heap[b]? = some (.cells #[p, .slice (some ⟨g, o, none⟩) 0 0] 47 (0, 0)) := hbk
    rw [Lib.cell_of_heap this]; rfl
  have hSD : (Builtin.unsafeSliceData_ #[45] 67 #[.slice (some ⟨g, o, none⟩) 0 0]).run Tryd.prog w.drew = .ok (.pointer (some ⟨w.drew.heap.size, 0, none⟩)) (w.drew.alloc (.view ⟨g, o, none⟩ 5)) :=
    Lib.run_unsafeSliceData_zero w.drew _ _ 5 Bld.pb ⟨g, o, none⟩ 0 (5, cur.size) (by have hg' : w.drew.heap[g]? = some (.cells cur 5 (0, 0)) := hg; simp [World.shape?, hg'])
  have c2 : (w.drew.alloc (.view ⟨g, o, none⟩ 5)).cell? ⟨b, 1, none⟩ = some (.slice (some ⟨g, o, none⟩) 0 0) := by
    have : (w.drew.alloc (.view ⟨g, o, none⟩ 5)).heap[b]? = _ := (Lib.alloc_old w.drew _ b hlt).trans hbk
    rw [Lib.cell_of_heap this]; rfl
  have c3 : (w.alloc (.view ⟨g, o, none⟩ 5)).drew.cell? ⟨b, 1, none⟩ = some (.slice (some ⟨g, o, none⟩) 0 0) := c2
  have c0 : w.cell? ⟨b, 1, none⟩ = some (.slice (some ⟨g, o, none⟩) 0 0) := c1
  have mixed : Tryd.prog.follows .mixedOrders = true := Bld.mixed
  go_enter Tryd.func18, Tryd.ntmps18
  go_wp2
  go_region_o
  all_goals (go_wp2; go_ret; exact ⟨rfl, rfl⟩)
end
end Go.Proofs

namespace Go.AM.Lf
open Go.Proofs
theorem ok18 : FnSOk Tryd.prog 18 ⟨[.ptr], ⟨[.v (.st [.op 0 47, .row 1 (.int .u8)]), .a (.int .u8)], [(0, .ptr 0 0)], [.var (.st [.op 0 47, .row 1 (.int .u8)]), .arr (.int .u8)]⟩, [], ⟨[.s 0 (.imm .str), .v (.st [.op 0 47, .un])], [], [.var (.st [.op 0 47, .un]), .dead]⟩, 1, fun x => bld_String x.1 x.2⟩ := string_ok (P := Tryd.prog) (g := 18) (t := 47) (enters_of Tryd.func18 (by kernel_rfl) rfl) Bld.nil Bld.room Bld.full Bld.noroom
/-! 8: pantograph/record.Encode -/
noncomputable def tab8 : Tab := [(16, .s ⟨[.ptr, .any], ⟨[.s 1 (.imm .str), .v (.st [.op 0 47, .row 1 (.int .u8)]), .a (.int .u8)], [(0, .ptr 0 0)], [.var (.st [.op 0 47, .row 1 (.int .u8)]), .arr (.int .u8)]⟩, [.pcell 0 1 (.int .u8)], ⟨[.s 0 (.imm (.int .i64)), .v (.st [.op 0 47, .row 1 (.int .u8)]), .a (.int .u8)], [(1, .niface)], [.var (.st [.op 0 47, .row 1 (.int .u8)]), .arr (.int .u8)]⟩, 2, fun x => strings_Builder_WriteString_S x.1 x.2.1 x.2.2⟩), (18, .s ⟨[.ptr], ⟨[.v (.st [.op 0 47, .row 1 (.int .u8)]), .a (.int .u8)], [(0, .ptr 0 0)], [.var (.st [.op 0 47, .row 1 (.int .u8)]), .arr (.int .u8)]⟩, [], ⟨[.s 0 (.imm .str), .v (.st [.op 0 47, .un])], [], [.var (.st [.op 0 47, .un]), .dead]⟩, 1, fun x => bld_String x.1 x.2⟩), (17, .d ⟨[.ty tyRat], [.str], fun x => dec_Print x⟩)]
theorem tabOk8 : TabOk Tryd.prog (tab8) := tabOk_consS ok16 (tabOk_consS ok18 (tabOk_cons ok17 (tabOk_nil _)))
def ro8 : Nat → Bool := fun s => false
noncomputable def lp8_0 : LoopD := { gh := [.cell 0 1 (.int .u8)], ps := [.s 6 (.imm (.sl tyrecord_Item)), .s 7 (.imm (.int .i64))], sh := ⟨[.s 8 (.imm (.int .i64)), .v (.st [.op 0 47, .row 1 (.int .u8)]), .a (.int .u8)], [(3, .ptr 0 0)], [.var (.st [.op 0 47, .row 1 (.int .u8)]), .arr (.int .u8)]⟩, ws := [⟨.exit 0, ⟨[.v (.st [.op 0 47, .row 1 (.int .u8)]), .a (.int .u8)], [], [.var (.st [.op 0 47, .row 1 (.int .u8)]), .arr (.int .u8)]⟩⟩], F := fun p s => record_Encode_L0 p.1 p.2 s }
noncomputable def h8 : Hints := { loop := fun id => bif Nat.beq id 0 then some (lp8_0) else none, cut := fun k r => none, frz := fun r => [] }
theorem lo8_0 : LoopOkK Tryd.prog Tryd.f8.ntmps (lp8_0) (lb 0 Tryd.f8) :=
  loop_ok (xid := XID) (ro := ro8) (H := h8) mixed (tabOk8) (loops_of (L := []) (by kernel_rfl) (lnil)) (fun p s => record_Encode_R0 p.1 p.2 s) (fun p s => by kernel_rfl) (fun p s => rfl)
theorem ok8 : FnOk Tryd.prog 8 ⟨[.ty (.sl tyrecord_Item)], [.str], fun x => record_Encode x⟩ :=
  fn_ok (xid := XID) (ro := ro8) (H := h8) (fn := Tryd.f8) (code := bodyOf Tryd.f8) mixed (tabOk8) Tryd.func8 rfl (by kernel_rfl) (loops_of (L := [(0, lb 0 Tryd.f8)]) (by kernel_rfl) (lcons rfl (lo8_0) (lnil))) (fun x => by kernel_rfl)
/-! 6: pantograph/pantographlaw21.known -/
noncomputable def tab6 : Tab := [(8, .d ⟨[.ty (.sl tyrecord_Item)], [.str], fun x => record_Encode x⟩)]
theorem tabOk6 : TabOk Tryd.prog (tab6) := tabOk_cons ok8 (tabOk_nil _)
def ro6 : Nat → Bool := fun s => false
noncomputable def h6 : Hints := { loop := fun id => none, cut := fun k r => none, frz := fun r => [] }
theorem ok6 : FnOk Tryd.prog 6 ⟨[], [.bool], fun _ => law21_known⟩ :=
  fn_ok (xid := XID) (ro := ro6) (H := h6) (fn := Tryd.f6) (code := bodyOf Tryd.f6) mixed (tabOk6) Tryd.func6 rfl (by kernel_rfl) (loops_of (L := []) (by kernel_rfl) (lnil)) (fun x => by kernel_rfl)
/-! 13: strings.Cut, by the shelf -/
theorem ok13 : FnOk Tryd.prog 13 ⟨[.ty .str, .ty .str], [.str, .str, .bool], fun x => strings_Cut x.1 x.2⟩ := by
  refine fn_of_calls Tryd.func13 (by kernel_rfl) rfl fun κ x cargs y hy hI ha => ?_
  obtain ⟨s, sep⟩ := x
  obtain ⟨h0, hy⟩ := hy
  cases hy
  obtain ⟨v0, r, rfl, ha0, ha⟩ := RDs.cons_inv (show RDs κ [.imm .str s, .imm .str sep] cargs from ha)
  obtain ⟨v1, r, rfl, ha1, ha⟩ := ha.cons_inv
  rw [ha.nil_inv, ha0.str_inv, ha1.str_inv]
  obtain ⟨m, hm⟩ := glob_internal_bytealg_MaxLen hI
  refine (Go.Proofs.Tryd.strings_Cut ⟨s.toArray⟩ ⟨sep.toArray⟩ m κ.w (by rw [show (ByteArray.size ⟨s.toArray⟩) = List.length s from List.size_toArray]; exact h0) hm).mono ?_
  rintro e w' ⟨rfl, n, rfl⟩
  refine ⟨below_drewN _ _, fun _ => ⟨_, rfl, ?_⟩⟩
  rw [show Lib.cut (⟨s.toArray⟩ : ByteArray).data.toList (⟨sep.toArray⟩ : ByteArray).data.toList = cutSt s sep from cutSt_eq s sep]
  exact RD.tup3 RD.str RD.str RD.bool
/-! 21: strings.CutPrefix, by the shelf -/
theorem ok21 : FnOk Tryd.prog 21 ⟨[.ty .str, .ty .str], [.str, .bool], fun x => strings_CutPrefix x.1 x.2⟩ := by
  refine fn_of_calls Tryd.func21 (by kernel_rfl) rfl fun κ x cargs y hy hI ha => ?_
  obtain ⟨s, p⟩ := x
  cases hy
  obtain ⟨v0, r, rfl, ha0, ha⟩ := RDs.cons_inv (show RDs κ [.imm .str s, .imm .str p] cargs from ha)
  obtain ⟨v1, r, rfl, ha1, ha⟩ := ha.cons_inv
  rw [ha.nil_inv, ha0.str_inv, ha1.str_inv]
  refine (Go.Proofs.Tryd.strings_CutPrefix ⟨s.toArray⟩ ⟨p.toArray⟩ κ.w).mono ?_
  rintro e w' ⟨rfl, rfl⟩
  refine ⟨below_self _, fun _ => ⟨_, rfl, ?_⟩⟩
  exact RD.tup2 RD.str RD.bool
/-! 57: strings.trimRightByte -/
noncomputable def tab57 : Tab := []
theorem tabOk57 : TabOk Tryd.prog (tab57) := tabOk_nil _
def ro57 : Nat → Bool := fun s => false
noncomputable def lp57_0 : LoopD := { gh := [], ps := [.s 1 (.imm (.int .u8))], sh := ⟨[.s 0 (.imm .str)], [], []⟩, ws := [⟨.exit 0, ⟨[.s 0 (.imm .str)], [], []⟩⟩], F := fun p s => strings_trimRightByte_L0 p s }
noncomputable def h57 : Hints := { loop := fun id => bif Nat.beq id 0 then some (lp57_0) else none, cut := fun k r => bif Nat.beq k 0 && Nat.beq r 1 then some (.flat [.s 16 (.imm .bool)]) else none, frz := fun r => [] }
theorem lo57_0 : LoopOkK Tryd.prog Tryd.f57.ntmps (lp57_0) (lb 0 Tryd.f57) :=
  loop_ok (xid := XID) (ro := ro57) (H := h57) mixed (tabOk57) (loops_of (L := []) (by kernel_rfl) (lnil)) (fun p s => strings_trimRightByte_R0 p s) (fun p s => by kernel_rfl) (fun p s => rfl)
theorem ok57 : FnOk Tryd.prog 57 ⟨[.ty .str, .ty (.int .u8)], [.str], fun x => strings_trimRightByte x.1 x.2⟩ :=
  fn_ok (xid := XID) (ro := ro57) (H := h57) (fn := Tryd.f57) (code := bodyOf Tryd.f57) mixed (tabOk57) Tryd.func57 rfl (by kernel_rfl) (loops_of (L := [(0, lb 0 Tryd.f57)]) (by kernel_rfl) (lcons rfl (lo57_0) (lnil))) (fun x => by kernel_rfl)
/-! 56: strings.trimLeftByte -/
noncomputable def tab56 : Tab := []
theorem tabOk56 : TabOk Tryd.prog (tab56) := tabOk_nil _
def ro56 : Nat → Bool := fun s => false
noncomputable def lp56_0 : LoopD := { gh := [], ps := [.s 1 (.imm (.int .u8))], sh := ⟨[.s 0 (.imm .str)], [], []⟩, ws := [⟨.exit 0, ⟨[.s 0 (.imm .str)], [], []⟩⟩], F := fun p s => strings_trimLeftByte_L0 p s }
noncomputable def h56 : Hints := { loop := fun id => bif Nat.beq id 0 then some (lp56_0) else none, cut := fun k r => bif Nat.beq k 0 && Nat.beq r 1 then some (.flat [.s 13 (.imm .bool)]) else none, frz := fun r => [] }
theorem lo56_0 : LoopOkK Tryd.prog Tryd.f56.ntmps (lp56_0) (lb 0 Tryd.f56) :=
  loop_ok (xid := XID) (ro := ro56) (H := h56) mixed (tabOk56) (loops_of (L := []) (by kernel_rfl) (lnil)) (fun p s => strings_trimLeftByte_R0 p s) (fun p s => by kernel_rfl) (fun p s => rfl)
theorem ok56 : FnOk Tryd.prog 56 ⟨[.ty .str, .ty (.int .u8)], [.str], fun x => strings_trimLeftByte x.1 x.2⟩ :=
  fn_ok (xid := XID) (ro := ro56) (H := h56) (fn := Tryd.f56) (code := bodyOf Tryd.f56) mixed (tabOk56) Tryd.func56 rfl (by kernel_rfl) (loops_of (L := [(0, lb 0 Tryd.f56)]) (by kernel_rfl) (lcons rfl (lo56_0) (lnil))) (fun x => by kernel_rfl)
/-! 58: strings.makeASCIISet, by the shelf -/
theorem ok58 : FnOk Tryd.prog 58 ⟨[.ty .str], [(arrN .bool 256), .bool], fun x => strings_makeASCIISet x⟩ := by
  refine fn_of_calls Tryd.func58 (by kernel_rfl) rfl fun κ s cargs y hy hI ha => ?_
  obtain ⟨⟨h0, h1⟩, hy⟩ := hy
  cases hy
  obtain ⟨v0, r, rfl, ha0, ha⟩ := RDs.cons_inv (show RDs κ [.imm .str s] cargs from ha)
  rw [ha.nil_inv, ha0.str_inv]
  refine (Go.Proofs.Tryd.strings_makeASCIISet (fun _ => by kernel_rfl) ⟨s.toArray⟩ κ.w (by rw [show (ByteArray.size ⟨s.toArray⟩) = List.length s from List.size_toArray]; exact h0) (by simpa using h1)).mono ?_
  rintro e w' ⟨rfl, rfl⟩
  refine ⟨below_alloc _ _, fun _ => ⟨_, rfl, ?_⟩⟩
  exact RD.tup2 (ascii_rd s) RD.bool
/-! 76: (*strings.asciiSet).contains -/
noncomputable def tab76 : Tab := []
theorem tabOk76 : TabOk Tryd.prog (tab76) := tabOk_nil _
def ro76 : Nat → Bool := fun s => false
noncomputable def h76 : Hints := { loop := fun id => none, cut := fun k r => none, frz := fun r => [] }
theorem ok76 : FnOk Tryd.prog 76 ⟨[.rp (arrN .bool 256), .ty (.int .u8)], [.bool], fun x => strings_asciiSet_contains x.1 x.2⟩ :=
  fn_ok (xid := XID) (ro := ro76) (H := h76) (fn := Tryd.f76) (code := bodyOf Tryd.f76) mixed (tabOk76) Tryd.func76 rfl (by kernel_rfl) (loops_of (L := []) (by kernel_rfl) (lnil)) (fun x => by kernel_rfl)
/-! 60: strings.trimRightASCII -/
noncomputable def tab60 : Tab := [(76, .d ⟨[.rp (arrN .bool 256), .ty (.int .u8)], [.bool], fun x => strings_asciiSet_contains x.1 x.2⟩)]
theorem tabOk60 : TabOk Tryd.prog (tab60) := tabOk_cons ok76 (tabOk_nil _)
def ro60 : Nat → Bool := fun s => false
noncomputable def lp60_0 : LoopD := { gh := [], ps := [.s 1 (.rptr (arrN .bool 256))], sh := ⟨[.s 0 (.imm .str)], [], []⟩, ws := [⟨.exit 0, ⟨[.s 0 (.imm .str)], [], []⟩⟩], F := fun p s => strings_trimRightASCII_L0 p s }
noncomputable def h60 : Hints := { loop := fun id => bif Nat.beq id 0 then some (lp60_0) else none, cut := fun k r => none, frz := fun r => [] }
theorem lo60_0 : LoopOkK Tryd.prog Tryd.f60.ntmps (lp60_0) (lb 0 Tryd.f60) :=
  loop_ok (xid := XID) (ro := ro60) (H := h60) mixed (tabOk60) (loops_of (L := []) (by kernel_rfl) (lnil)) (fun p s => strings_trimRightASCII_R0 p s) (fun p s => by kernel_rfl) (fun p s => rfl)
theorem ok60 : FnOk Tryd.prog 60 ⟨[.ty .str, .rp (arrN .bool 256)], [.str], fun x => strings_trimRightASCII x.1 x.2⟩ :=
  fn_ok (xid := XID) (ro := ro60) (H := h60) (fn := Tryd.f60) (code := bodyOf Tryd.f60) mixed (tabOk60) Tryd.func60 rfl (by kernel_rfl) (loops_of (L := [(0, lb 0 Tryd.f60)]) (by kernel_rfl) (lcons rfl (lo60_0) (lnil))) (fun x => by kernel_rfl)
/-! 59: strings.trimLeftASCII -/
noncomputable def tab59 : Tab := [(76, .d ⟨[.rp (arrN .bool 256), .ty (.int .u8)], [.bool], fun x => strings_asciiSet_contains x.1 x.2⟩)]
theorem tabOk59 : TabOk Tryd.prog (tab59) := tabOk_cons ok76 (tabOk_nil _)
def ro59 : Nat → Bool := fun s => false
noncomputable def lp59_0 : LoopD := { gh := [], ps := [.s 1 (.rptr (arrN .bool 256))], sh := ⟨[.s 0 (.imm .str)], [], []⟩, ws := [⟨.exit 0, ⟨[.s 0 (.imm .str)], [], []⟩⟩], F := fun p s => strings_trimLeftASCII_L0 p s }
noncomputable def h59 : Hints := { loop := fun id => bif Nat.beq id 0 then some (lp59_0) else none, cut := fun k r => none, frz := fun r => [] }
theorem lo59_0 : LoopOkK Tryd.prog Tryd.f59.ntmps (lp59_0) (lb 0 Tryd.f59) :=
  loop_ok (xid := XID) (ro := ro59) (H := h59) mixed (tabOk59) (loops_of (L := []) (by kernel_rfl) (lnil)) (fun p s => strings_trimLeftASCII_R0 p s) (fun p s => by kernel_rfl) (fun p s => rfl)
theorem ok59 : FnOk Tryd.prog 59 ⟨[.ty .str, .rp (arrN .bool 256)], [.str], fun x => strings_trimLeftASCII x.1 x.2⟩ :=
  fn_ok (xid := XID) (ro := ro59) (H := h59) (fn := Tryd.f59) (code := bodyOf Tryd.f59) mixed (tabOk59) Tryd.func59 rfl (by kernel_rfl) (loops_of (L := [(0, lb 0 Tryd.f59)]) (by kernel_rfl) (lcons rfl (lo59_0) (lnil))) (fun x => by kernel_rfl)
/-! 37: strings.Trim -/
noncomputable def tab37 : Tab := [(57, .d ⟨[.ty .str, .ty (.int .u8)], [.str], fun x => strings_trimRightByte x.1 x.2⟩), (56, .d ⟨[.ty .str, .ty (.int .u8)], [.str], fun x => strings_trimLeftByte x.1 x.2⟩), (58, .d ⟨[.ty .str], [(arrN .bool 256), .bool], fun x => strings_makeASCIISet x⟩), (60, .d ⟨[.ty .str, .rp (arrN .bool 256)], [.str], fun x => strings_trimRightASCII x.1 x.2⟩), (59, .d ⟨[.ty .str, .rp (arrN .bool 256)], [.str], fun x => strings_trimLeftASCII x.1 x.2⟩)]
theorem tabOk37 : TabOk Tryd.prog (tab37) := tabOk_cons ok57 (tabOk_cons ok56 (tabOk_cons ok58 (tabOk_cons ok60 (tabOk_cons ok59 (tabOk_nil _)))))
def ro37 : Nat → Bool := fun s => false
noncomputable def h37 : Hints := { loop := fun id => none, cut := fun k r => bif Nat.beq k 0 && Nat.beq r 1 then some (.flat [.s 12 (.imm .bool)]) else bif Nat.beq k 0 && Nat.beq r 3 then some (.flat [.s 21 (.imm .bool)]) else none, frz := fun r => [] }
theorem ok37 : FnOk Tryd.prog 37 ⟨[.ty .str, .ty .str], [.str], fun x => strings_Trim x.1 x.2⟩ :=
  fn_ok (xid := XID) (ro := ro37) (H := h37) (fn := Tryd.f37) (code := bodyOf Tryd.f37) mixed (tabOk37) Tryd.func37 rfl (by kernel_rfl) (loops_of (L := []) (by kernel_rfl) (lnil)) (fun x => by kernel_rfl)
/-! 39: pantograph/nat.Mul -/
noncomputable def tab39 : Tab := [(47, .d ⟨[.ty (.sl (.int .u32))], [(.sl (.int .u32))], fun x => nat_trim x⟩)]
theorem tabOk39 : TabOk Tryd.prog (tab39) := tabOk_cons ok47 (tabOk_nil _)
def ro39 : Nat → Bool := fun s => false
noncomputable def lp39_2 : LoopD := { gh := [], ps := [.s 1 (.imm (.sl (.int .u32))), .s 6 (.imm (.int .i64)), .s 7 (.imm (.int .u32)), .s 21 (.imm (.sl (.int .u32))), .s 22 (.imm (.int .i64)), .s 23 (.imm (.int .i64)), .s 28 (.imm (.sl (.int .u32))), .s 29 (.imm (.int .i64))], sh := ⟨[.s 8 (.imm (.int .u64)), .s 30 (.imm (.int .i64)), .a (.int .u32)], [(5, .cur 0 (.int .u32))], [.arr (.int .u32)]⟩, ws := [⟨.exit 2, ⟨[.s 8 (.imm (.int .u64)), .a (.int .u32)], [(5, .cur 0 (.int .u32))], [.arr (.int .u32)]⟩⟩], F := fun p s => nat_Mul_L1 p.1 p.2.1 p.2.2.1 p.2.2.2.1 p.2.2.2.2.1 p.2.2.2.2.2.1 p.2.2.2.2.2.2.1 p.2.2.2.2.2.2.2 s }
noncomputable def lp39_0 : LoopD := { gh := [], ps := [.s 1 (.imm (.sl (.int .u32))), .s 21 (.imm (.sl (.int .u32))), .s 22 (.imm (.int .i64))], sh := ⟨[.s 23 (.imm (.int .i64)), .a (.int .u32)], [(5, .cur 0 (.int .u32))], [.arr (.int .u32)]⟩, ws := [⟨.exit 0, ⟨[.a (.int .u32)], [(5, .cur 0 (.int .u32))], [.arr (.int .u32)]⟩⟩], F := fun p s => nat_Mul_L0 p.1 p.2.1 p.2.2 s }
noncomputable def h39 : Hints := { loop := fun id => bif Nat.beq id 2 then some (lp39_2) else bif Nat.beq id 0 then some (lp39_0) else none, cut := fun k r => none, frz := fun r => bif Nat.beq r 16 then [5] else [] }
theorem lo39_2 : LoopOkK Tryd.prog Tryd.f39.ntmps (lp39_2) (lb 2 Tryd.f39) :=
  loop_ok (xid := XID) (ro := ro39) (H := h39) mixed (tabOk39) (loops_of (L := []) (by kernel_rfl) (lnil)) (fun p s => nat_Mul_R1 p.1 p.2.1 p.2.2.1 p.2.2.2.1 p.2.2.2.2.1 p.2.2.2.2.2.1 p.2.2.2.2.2.2.1 p.2.2.2.2.2.2.2 s) (fun p s => by kernel_rfl) (fun p s => rfl)
theorem lo39_0 : LoopOkK Tryd.prog Tryd.f39.ntmps (lp39_0) (lb 0 Tryd.f39) :=
  loop_ok (xid := XID) (ro := ro39) (H := h39) mixed (tabOk39) (loops_of (L := [(2, lb 2 Tryd.f39)]) (by kernel_rfl) (lcons rfl (lo39_2) (lnil))) (fun p s => nat_Mul_R0 p.1 p.2.1 p.2.2 s) (fun p s => by kernel_rfl) (fun p s => rfl)
theorem ok39 : FnOk Tryd.prog 39 ⟨[.ty (.sl (.int .u32)), .ty (.sl (.int .u32))], [(.sl (.int .u32))], fun x => nat_Mul x.1 x.2⟩ :=
  fn_ok (xid := XID) (ro := ro39) (H := h39) (fn := Tryd.f39) (code := bodyOf Tryd.f39) mixed (tabOk39) Tryd.func39 rfl (by kernel_rfl) (loops_of (L := [(0, lb 0 Tryd.f39)]) (by kernel_rfl) (lcons rfl (lo39_0) (lnil))) (fun x => by kernel_rfl)
/-! 38: pantograph/nat.Add -/
noncomputable def tab38 : Tab := [(47, .d ⟨[.ty (.sl (.int .u32))], [(.sl (.int .u32))], fun x => nat_trim x⟩)]
theorem tabOk38 : TabOk Tryd.prog (tab38) := tabOk_cons ok47 (tabOk_nil _)
def ro38 : Nat → Bool := fun s => false
noncomputable def lp38_0 : LoopD := { gh := [], ps := [.s 0 (.imm (.sl (.int .u32))), .s 1 (.imm (.sl (.int .u32))), .s 24 (.imm (.sl (.int .u32))), .s 25 (.imm (.int .i64))], sh := ⟨[.s 6 (.imm (.int .u64)), .s 26 (.imm (.int .i64)), .a (.int .u32)], [(5, .cur 0 (.int .u32))], [.arr (.int .u32)]⟩, ws := [⟨.exit 0, ⟨[.s 6 (.imm (.int .u64)), .a (.int .u32)], [(5, .cur 0 (.int .u32))], [.arr (.int .u32)]⟩⟩], F := fun p s => nat_Add_L0 p.1 p.2.1 p.2.2.1 p.2.2.2 s }
noncomputable def h38 : Hints := { loop := fun id => bif Nat.beq id 0 then some (lp38_0) else none, cut := fun k r => bif Nat.beq k 3 && Nat.beq r 2 then some (.flat [.s 0 (.imm (.sl (.int .u32))), .s 1 (.imm (.sl (.int .u32)))]) else bif Nat.beq k 3 && Nat.beq r 10 then some (.flat [.s 6 (.imm (.int .u64))]) else none, frz := fun r => bif Nat.beq r 16 then [5] else [] }
theorem lo38_0 : LoopOkK Tryd.prog Tryd.f38.ntmps (lp38_0) (lb 0 Tryd.f38) :=
  loop_ok (xid := XID) (ro := ro38) (H := h38) mixed (tabOk38) (loops_of (L := []) (by kernel_rfl) (lnil)) (fun p s => nat_Add_R0 p.1 p.2.1 p.2.2.1 p.2.2.2 s) (fun p s => by kernel_rfl) (fun p s => rfl)
theorem ok38 : FnOk Tryd.prog 38 ⟨[.ty (.sl (.int .u32)), .ty (.sl (.int .u32))], [(.sl (.int .u32))], fun x => nat_Add x.1 x.2⟩ :=
  fn_ok (xid := XID) (ro := ro38) (H := h38) (fn := Tryd.f38) (code := bodyOf Tryd.f38) mixed (tabOk38) Tryd.func38 rfl (by kernel_rfl) (loops_of (L := [(0, lb 0 Tryd.f38)]) (by kernel_rfl) (lcons rfl (lo38_0) (lnil))) (fun x => by kernel_rfl)
/-! 22: pantograph/nat.Parse -/
noncomputable def tab22 : Tab := [(37, .d ⟨[.ty .str, .ty .str], [.str], fun x => strings_Trim x.1 x.2⟩), (39, .d ⟨[.ty (.sl (.int .u32)), .ty (.sl (.int .u32))], [(.sl (.int .u32))], fun x => nat_Mul x.1 x.2⟩), (32, .d ⟨[.ty (.int .u64)], [(.sl (.int .u32))], fun x => nat_Of x⟩), (38, .d ⟨[.ty (.sl (.int .u32)), .ty (.sl (.int .u32))], [(.sl (.int .u32))], fun x => nat_Add x.1 x.2⟩)]
theorem tabOk22 : TabOk Tryd.prog (tab22) := tabOk_cons ok37 (tabOk_cons ok39 (tabOk_cons ok32 (tabOk_cons ok38 (tabOk_nil _))))
def ro22 : Nat → Bool := fun s => false
noncomputable def lp22_0 : LoopD := { gh := [], ps := [.s 0 (.imm .str), .s 19 (.imm (.int .i64))], sh := ⟨[.s 4 (.imm (.sl (.int .u32))), .s 20 (.imm (.int .i64))], [], []⟩, ws := [⟨.exit 0, ⟨[.s 4 (.imm (.sl (.int .u32)))], [], []⟩⟩], F := fun p s => nat_Parse_L0 p.1 p.2 s }
noncomputable def h22 : Hints := { loop := fun id => bif Nat.beq id 0 then some (lp22_0) else none, cut := fun k r => bif Nat.beq k 0 && Nat.beq r 1 then some (.ways [⟨.normal, ⟨[.s 17 (.imm .bool)], [], []⟩⟩]) else none, frz := fun r => [] }
theorem lo22_0 : LoopOkK Tryd.prog Tryd.f22.ntmps (lp22_0) (lb 0 Tryd.f22) :=
  loop_ok (xid := XID) (ro := ro22) (H := h22) mixed (tabOk22) (loops_of (L := []) (by kernel_rfl) (lnil)) (fun p s => nat_Parse_R0 p.1 p.2 s) (fun p s => by kernel_rfl) (fun p s => rfl)
theorem ok22 : FnOk Tryd.prog 22 ⟨[.ty .str], [(.sl (.int .u32)), .bool], fun x => nat_Parse x⟩ :=
  fn_ok (xid := XID) (ro := ro22) (H := h22) (fn := Tryd.f22) (code := bodyOf Tryd.f22) mixed (tabOk22) Tryd.func22 rfl (by kernel_rfl) (loops_of (L := [(0, lb 0 Tryd.f22)]) (by kernel_rfl) (lcons rfl (lo22_0) (lnil))) (fun x => by kernel_rfl)
/-! 24: pantograph/dec.ten -/
noncomputable def tab24 : Tab := [(32, .d ⟨[.ty (.int .u64)], [(.sl (.int .u32))], fun x => nat_Of x⟩), (39, .d ⟨[.ty (.sl (.int .u32)), .ty (.sl (.int .u32))], [(.sl (.int .u32))], fun x => nat_Mul x.1 x.2⟩)]
theorem tabOk24 : TabOk Tryd.prog (tab24) := tabOk_cons ok32 (tabOk_cons ok39 (tabOk_nil _))
def ro24 : Nat → Bool := fun s => false
noncomputable def lp24_0 : LoopD := { gh := [], ps := [.s 5 (.imm (.int .i64))], sh := ⟨[.s 3 (.imm (.sl (.int .u32))), .s 6 (.imm (.int .i64))], [], []⟩, ws := [⟨.exit 0, ⟨[.s 3 (.imm (.sl (.int .u32)))], [], []⟩⟩], F := fun p s => dec_ten_L0 p s }
noncomputable def h24 : Hints := { loop := fun id => bif Nat.beq id 0 then some (lp24_0) else none, cut := fun k r => none, frz := fun r => [] }
theorem lo24_0 : LoopOkK Tryd.prog Tryd.f24.ntmps (lp24_0) (lb 0 Tryd.f24) :=
  loop_ok (xid := XID) (ro := ro24) (H := h24) mixed (tabOk24) (loops_of (L := []) (by kernel_rfl) (lnil)) (fun p s => dec_ten_R0 p s) (fun p s => by kernel_rfl) (fun p s => rfl)
theorem ok24 : FnOk Tryd.prog 24 ⟨[.ty (.int .i64)], [(.sl (.int .u32))], fun x => dec_ten x⟩ :=
  fn_ok (xid := XID) (ro := ro24) (H := h24) (fn := Tryd.f24) (code := bodyOf Tryd.f24) mixed (tabOk24) Tryd.func24 rfl (by kernel_rfl) (loops_of (L := [(0, lb 0 Tryd.f24)]) (by kernel_rfl) (lcons rfl (lo24_0) (lnil))) (fun x => by kernel_rfl)
/-! 14: pantograph/dec.Parse -/
noncomputable def tab14 : Tab := [(21, .d ⟨[.ty .str, .ty .str], [.str, .bool], fun x => strings_CutPrefix x.1 x.2⟩), (13, .d ⟨[.ty .str, .ty .str], [.str, .str, .bool], fun x => strings_Cut x.1 x.2⟩), (22, .d ⟨[.ty .str], [(.sl (.int .u32)), .bool], fun x => nat_Parse x⟩), (24, .d ⟨[.ty (.int .i64)], [(.sl (.int .u32))], fun x => dec_ten x⟩), (23, .d ⟨[.ty .bool, .ty (.sl (.int .u32)), .ty (.sl (.int .u32))], [tyRat], fun x => rat_Of x.1 x.2.1 x.2.2⟩)]
theorem tabOk14 : TabOk Tryd.prog (tab14) := tabOk_cons ok21 (tabOk_cons ok13 (tabOk_cons ok22 (tabOk_cons ok24 (tabOk_cons ok23 (tabOk_nil _)))))
def ro14 : Nat → Bool := fun s => false
noncomputable def h14 : Hints := { loop := fun id => none, cut := fun k r => bif Nat.beq k 0 && Nat.beq r 9 then some (.flat [.s 58 (.imm .bool)]) else bif Nat.beq k 3 && Nat.beq r 13 then some (.flat [.s 14 (.imm .str)]) else bif Nat.beq k 0 && Nat.beq r 17 then some (.flat [.s 94 (.imm .bool)]) else none, frz := fun r => [] }
theorem ok14 : FnOk Tryd.prog 14 ⟨[.ty .str], [tyRat, (.int .i64)], fun x => dec_Parse x⟩ :=
  fn_ok (xid := XID) (ro := ro14) (H := h14) (fn := Tryd.f14) (code := bodyOf Tryd.f14) mixed (tabOk14) Tryd.func14 rfl (by kernel_rfl) (loops_of (L := []) (by kernel_rfl) (lnil)) (fun x => by kernel_rfl)
/-! 25: pantograph/expr.isLetter -/
noncomputable def tab25 : Tab := []
theorem tabOk25 : TabOk Tryd.prog (tab25) := tabOk_nil _
def ro25 : Nat → Bool := fun s => false
noncomputable def h25 : Hints := { loop := fun id => none, cut := fun k r => bif Nat.beq k 0 && Nat.beq r 1 then some (.flat [.s 2 (.imm .bool)]) else none, frz := fun r => [] }
theorem ok25 : FnOk Tryd.prog 25 ⟨[.ty (.int .u8)], [.bool], fun x => expr_isLetter x⟩ :=
  fn_ok (xid := XID) (ro := ro25) (H := h25) (fn := Tryd.f25) (code := bodyOf Tryd.f25) mixed (tabOk25) Tryd.func25 rfl (by kernel_rfl) (loops_of (L := []) (by kernel_rfl) (lnil)) (fun x => by kernel_rfl)
/-! 43: pantograph/expr.isDigit -/
noncomputable def tab43 : Tab := []
theorem tabOk43 : TabOk Tryd.prog (tab43) := tabOk_nil _
def ro43 : Nat → Bool := fun s => false
noncomputable def h43 : Hints := { loop := fun id => none, cut := fun k r => bif Nat.beq k 0 && Nat.beq r 1 then some (.flat [.s 2 (.imm .bool)]) else none, frz := fun r => [] }
theorem ok43 : FnOk Tryd.prog 43 ⟨[.ty (.int .u8)], [.bool], fun x => expr_isDigit x⟩ :=
  fn_ok (xid := XID) (ro := ro43) (H := h43) (fn := Tryd.f43) (code := bodyOf Tryd.f43) mixed (tabOk43) Tryd.func43 rfl (by kernel_rfl) (loops_of (L := []) (by kernel_rfl) (lnil)) (fun x => by kernel_rfl)
/-! 26: pantograph/expr.isInner -/
noncomputable def tab26 : Tab := [(25, .d ⟨[.ty (.int .u8)], [.bool], fun x => expr_isLetter x⟩), (43, .d ⟨[.ty (.int .u8)], [.bool], fun x => expr_isDigit x⟩)]
theorem tabOk26 : TabOk Tryd.prog (tab26) := tabOk_cons ok25 (tabOk_cons ok43 (tabOk_nil _))
def ro26 : Nat → Bool := fun s => false
noncomputable def h26 : Hints := { loop := fun id => none, cut := fun k r => none, frz := fun r => [] }
theorem ok26 : FnOk Tryd.prog 26 ⟨[.ty (.int .u8)], [.bool], fun x => expr_isInner x⟩ :=
  fn_ok (xid := XID) (ro := ro26) (H := h26) (fn := Tryd.f26) (code := bodyOf Tryd.f26) mixed (tabOk26) Tryd.func26 rfl (by kernel_rfl) (loops_of (L := []) (by kernel_rfl) (lnil)) (fun x => by kernel_rfl)
/-! 15: pantograph/expr.Name -/
noncomputable def tab15 : Tab := [(25, .d ⟨[.ty (.int .u8)], [.bool], fun x => expr_isLetter x⟩), (26, .d ⟨[.ty (.int .u8)], [.bool], fun x => expr_isInner x⟩)]
theorem tabOk15 : TabOk Tryd.prog (tab15) := tabOk_cons ok25 (tabOk_cons ok26 (tabOk_nil _))
def ro15 : Nat → Bool := fun s => false
noncomputable def lp15_0 : LoopD := { gh := [], ps := [.s 0 (.imm .str), .s 18 (.imm (.int .i64))], sh := ⟨[.s 19 (.imm (.int .i64))], [], []⟩, ws := [⟨.exit 0, ⟨[], [], []⟩⟩, ⟨.ret, ⟨[.s 2 (.imm .bool)], [], []⟩⟩], F := fun p s => expr_Name_L0 p.1 p.2 s }
noncomputable def h15 : Hints := { loop := fun id => bif Nat.beq id 0 then some (lp15_0) else none, cut := fun k r => bif Nat.beq k 0 && Nat.beq r 1 then some (.ways [⟨.normal, ⟨[.s 16 (.imm .bool)], [], []⟩⟩]) else none, frz := fun r => [] }
theorem lo15_0 : LoopOkK Tryd.prog Tryd.f15.ntmps (lp15_0) (lb 0 Tryd.f15) :=
  loop_ok (xid := XID) (ro := ro15) (H := h15) mixed (tabOk15) (loops_of (L := []) (by kernel_rfl) (lnil)) (fun p s => expr_Name_R0 p.1 p.2 s) (fun p s => by kernel_rfl) (fun p s => rfl)
theorem ok15 : FnOk Tryd.prog 15 ⟨[.ty .str], [.bool], fun x => expr_Name x⟩ :=
  fn_ok (xid := XID) (ro := ro15) (H := h15) (fn := Tryd.f15) (code := bodyOf Tryd.f15) mixed (tabOk15) Tryd.func15 rfl (by kernel_rfl) (loops_of (L := [(0, lb 0 Tryd.f15)]) (by kernel_rfl) (lcons rfl (lo15_0) (lnil))) (fun x => by kernel_rfl)
/-! 7: pantograph/record.Decode -/
noncomputable def tab7 : Tab := [(13, .d ⟨[.ty .str, .ty .str], [.str, .str, .bool], fun x => strings_Cut x.1 x.2⟩), (14, .d ⟨[.ty .str], [tyRat, (.int .i64)], fun x => dec_Parse x⟩), (15, .d ⟨[.ty .str], [.bool], fun x => expr_Name x⟩), (8, .d ⟨[.ty (.sl tyrecord_Item)], [.str], fun x => record_Encode x⟩)]
theorem tabOk7 : TabOk Tryd.prog (tab7) := tabOk_cons ok13 (tabOk_cons ok14 (tabOk_cons ok15 (tabOk_cons ok8 (tabOk_nil _))))
def ro7 : Nat → Bool := fun s => false
noncomputable def lp7_0 : LoopD := { gh := [.slot 4 tyrecord_Item], ps := [.s 0 (.imm .str)], sh := ⟨[.s 5 (.imm .str), .a tyrecord_Item], [(4, .cur 0 tyrecord_Item)], [.arr tyrecord_Item]⟩, ws := [⟨.exit 0, ⟨[.a tyrecord_Item], [(4, .cur 0 tyrecord_Item)], [.arr tyrecord_Item]⟩⟩, ⟨.ret, ⟨[.s 3 (.imm (.int .i64)), .a tyrecord_Item], [(2, .nilsl)], [.arr tyrecord_Item]⟩⟩], F := fun p s => record_Decode_L0 p s }
noncomputable def h7 : Hints := { loop := fun id => bif Nat.beq id 0 then some (lp7_0) else none, cut := fun k r => bif Nat.beq k 0 && Nat.beq r 7 then some (.ways [⟨.normal, ⟨[.s 40 (.imm .bool), .a tyrecord_Item, .v (.imm tyRat)], [(4, .cur 0 tyrecord_Item)], [.arr tyrecord_Item, .var (.imm tyRat)]⟩⟩]) else none, frz := fun r => [] }
theorem lo7_0 : LoopOkK Tryd.prog Tryd.f7.ntmps (lp7_0) (lb 0 Tryd.f7) :=
  loop_ok (xid := XID) (ro := ro7) (H := h7) mixed (tabOk7) (loops_of (L := []) (by kernel_rfl) (lnil)) (fun p s => record_Decode_R0 p s) (fun p s => by kernel_rfl) (fun p s => rfl)
theorem ok7 : FnOk Tryd.prog 7 ⟨[.ty .str], [(.sl tyrecord_Item), (.int .i64)], fun x => record_Decode x⟩ :=
  fn_ok (xid := XID) (ro := ro7) (H := h7) (fn := Tryd.f7) (code := bodyOf Tryd.f7) mixed (tabOk7) Tryd.func7 rfl (by kernel_rfl) (loops_of (L := [(0, lb 0 Tryd.f7)]) (by kernel_rfl) (lcons rfl (lo7_0) (lnil))) (fun x => by kernel_rfl)
/-! 10: pantograph/pantographlaw21.own -/
noncomputable def tab10 : Tab := []
theorem tabOk10 : TabOk Tryd.prog (tab10) := tabOk_nil _
def ro10 : Nat → Bool := fun s => false
noncomputable def lp10_0 : LoopD := { gh := [.slot 3 tyrecord_Item], ps := [.s 0 (.imm (.sl tyrecord_Item))], sh := ⟨[.s 4 (.imm (.int .i64)), .a tyrecord_Item], [(3, .cur 0 tyrecord_Item)], [.arr tyrecord_Item]⟩, ws := [⟨.exit 0, ⟨[.a tyrecord_Item], [(3, .cur 0 tyrecord_Item)], [.arr tyrecord_Item]⟩⟩], F := fun p s => law21_own_L0 p s }
noncomputable def h10 : Hints := { loop := fun id => bif Nat.beq id 0 then some (lp10_0) else none, cut := fun k r => none, frz := fun r => [] }
theorem lo10_0 : LoopOkK Tryd.prog Tryd.f10.ntmps (lp10_0) (lb 0 Tryd.f10) :=
  loop_ok (xid := XID) (ro := ro10) (H := h10) mixed (tabOk10) (loops_of (L := []) (by kernel_rfl) (lnil)) (fun p s => law21_own_R0 p s) (fun p s => by kernel_rfl) (fun p s => rfl)
theorem ok10 : FnOk Tryd.prog 10 ⟨[.ty (.sl tyrecord_Item)], [(.sl tyrecord_Item)], fun x => law21_own x⟩ :=
  fn_ok (xid := XID) (ro := ro10) (H := h10) (fn := Tryd.f10) (code := bodyOf Tryd.f10) mixed (tabOk10) Tryd.func10 rfl (by kernel_rfl) (loops_of (L := [(0, lb 0 Tryd.f10)]) (by kernel_rfl) (lcons rfl (lo10_0) (lnil))) (fun x => by kernel_rfl)
/-! 48: pantograph/pantographref1.Trim -/
noncomputable def tab48 : Tab := []
theorem tabOk48 : TabOk Tryd.prog (tab48) := tabOk_nil _
def ro48 : Nat → Bool := fun s => false
noncomputable def lp48_0 : LoopD := { gh := [], ps := [.s 0 (.imm (.sl (.int .u32)))], sh := ⟨[.s 3 (.imm (.int .i64))], [], []⟩, ws := [⟨.exit 0, ⟨[.s 3 (.imm (.int .i64))], [], []⟩⟩], F := fun p s => ref1_Trim_L0 p s }
noncomputable def h48 : Hints := { loop := fun id => bif Nat.beq id 0 then some (lp48_0) else none, cut := fun k r => bif Nat.beq k 0 && Nat.beq r 2 then some (.flat [.s 15 (.imm .bool)]) else none, frz := fun r => [] }
theorem lo48_0 : LoopOkK Tryd.prog Tryd.f48.ntmps (lp48_0) (lb 0 Tryd.f48) :=
  loop_ok (xid := XID) (ro := ro48) (H := h48) mixed (tabOk48) (loops_of (L := []) (by kernel_rfl) (lnil)) (fun p s => ref1_Trim_R0 p s) (fun p s => by kernel_rfl) (fun p s => rfl)
theorem ok48 : FnOk Tryd.prog 48 ⟨[.ty (.sl (.int .u32))], [(.sl (.int .u32))], fun x => ref1_Trim x⟩ :=
  fn_ok (xid := XID) (ro := ro48) (H := h48) (fn := Tryd.f48) (code := bodyOf Tryd.f48) mixed (tabOk48) Tryd.func48 rfl (by kernel_rfl) (loops_of (L := [(0, lb 0 Tryd.f48)]) (by kernel_rfl) (lcons rfl (lo48_0) (lnil))) (fun x => by kernel_rfl)
/-! 67: pantograph/pantographref1.To -/
noncomputable def tab67 : Tab := [(48, .d ⟨[.ty (.sl (.int .u32))], [(.sl (.int .u32))], fun x => ref1_Trim x⟩)]
theorem tabOk67 : TabOk Tryd.prog (tab67) := tabOk_cons ok48 (tabOk_nil _)
def ro67 : Nat → Bool := fun s => false
noncomputable def lp67_0 : LoopD := { gh := [], ps := [.s 4 (.imm (.sl (.int .u32)))], sh := ⟨[.s 5 (.imm (.int .u64)), .s 6 (.imm (.int .i64))], [], []⟩, ws := [⟨.exit 0, ⟨[.s 5 (.imm (.int .u64))], [], []⟩⟩], F := fun p s => ref1_To_L0 p s }
noncomputable def h67 : Hints := { loop := fun id => bif Nat.beq id 0 then some (lp67_0) else none, cut := fun k r => none, frz := fun r => [] }
theorem lo67_0 : LoopOkK Tryd.prog Tryd.f67.ntmps (lp67_0) (lb 0 Tryd.f67) :=
  loop_ok (xid := XID) (ro := ro67) (H := h67) mixed (tabOk67) (loops_of (L := []) (by kernel_rfl) (lnil)) (fun p s => ref1_To_R0 p s) (fun p s => by kernel_rfl) (fun p s => rfl)
theorem ok67 : FnOk Tryd.prog 67 ⟨[.ty (.sl (.int .u32))], [(.int .u64), .bool], fun x => ref1_To x⟩ :=
  fn_ok (xid := XID) (ro := ro67) (H := h67) (fn := Tryd.f67) (code := bodyOf Tryd.f67) mixed (tabOk67) Tryd.func67 rfl (by kernel_rfl) (loops_of (L := [(0, lb 0 Tryd.f67)]) (by kernel_rfl) (lcons rfl (lo67_0) (lnil))) (fun x => by kernel_rfl)
/-! 68: pantograph/pantographref1.Of -/
noncomputable def tab68 : Tab := [(48, .d ⟨[.ty (.sl (.int .u32))], [(.sl (.int .u32))], fun x => ref1_Trim x⟩)]
theorem tabOk68 : TabOk Tryd.prog (tab68) := tabOk_cons ok48 (tabOk_nil _)
def ro68 : Nat → Bool := fun s => false
noncomputable def h68 : Hints := { loop := fun id => none, cut := fun k r => none, frz := fun r => [] }
theorem ok68 : FnOk Tryd.prog 68 ⟨[.ty (.int .u64)], [(.sl (.int .u32))], fun x => ref1_Of x⟩ :=
  fn_ok (xid := XID) (ro := ro68) (H := h68) (fn := Tryd.f68) (code := bodyOf Tryd.f68) mixed (tabOk68) Tryd.func68 rfl (by kernel_rfl) (loops_of (L := []) (by kernel_rfl) (lnil)) (fun x => by kernel_rfl)
/-! 69: pantograph/pantographref1.small -/
noncomputable def tab69 : Tab := [(48, .d ⟨[.ty (.sl (.int .u32))], [(.sl (.int .u32))], fun x => ref1_Trim x⟩)]
theorem tabOk69 : TabOk Tryd.prog (tab69) := tabOk_cons ok48 (tabOk_nil _)
def ro69 : Nat → Bool := fun s => false
noncomputable def lp69_0 : LoopD := { gh := [], ps := [.s 0 (.imm (.sl (.int .u32))), .s 1 (.imm (.int .u64))], sh := ⟨[.s 7 (.imm (.int .u64)), .s 8 (.imm (.int .i64)), .a (.int .u32)], [(6, .cur 0 (.int .u32))], [.arr (.int .u32)]⟩, ws := [⟨.exit 0, ⟨[.s 7 (.imm (.int .u64)), .a (.int .u32)], [(6, .cur 0 (.int .u32))], [.arr (.int .u32)]⟩⟩], F := fun p s => ref1_small_L0 p.1 p.2 s }
noncomputable def h69 : Hints := { loop := fun id => bif Nat.beq id 0 then some (lp69_0) else none, cut := fun k r => none, frz := fun r => bif Nat.beq r 9 then [6] else [] }
theorem lo69_0 : LoopOkK Tryd.prog Tryd.f69.ntmps (lp69_0) (lb 0 Tryd.f69) :=
  loop_ok (xid := XID) (ro := ro69) (H := h69) mixed (tabOk69) (loops_of (L := []) (by kernel_rfl) (lnil)) (fun p s => ref1_small_R0 p.1 p.2 s) (fun p s => by kernel_rfl) (fun p s => rfl)
theorem ok69 : FnOk Tryd.prog 69 ⟨[.ty (.sl (.int .u32)), .ty (.int .u64)], [(.sl (.int .u32)), (.int .u64)], fun x => ref1_small x.1 x.2⟩ :=
  fn_ok (xid := XID) (ro := ro69) (H := h69) (fn := Tryd.f69) (code := bodyOf Tryd.f69) mixed (tabOk69) Tryd.func69 rfl (by kernel_rfl) (loops_of (L := [(0, lb 0 Tryd.f69)]) (by kernel_rfl) (lcons rfl (lo69_0) (lnil))) (fun x => by kernel_rfl)
/-! 85: pantograph/pantographref1.at -/
noncomputable def tab85 : Tab := []
theorem tabOk85 : TabOk Tryd.prog (tab85) := tabOk_nil _
def ro85 : Nat → Bool := fun s => false
noncomputable def h85 : Hints := { loop := fun id => none, cut := fun k r => none, frz := fun r => [] }
theorem ok85 : FnOk Tryd.prog 85 ⟨[.ty (.sl (.int .u32)), .ty (.int .i64)], [(.int .u64)], fun x => ref1_at x.1 x.2⟩ :=
  fn_ok (xid := XID) (ro := ro85) (H := h85) (fn := Tryd.f85) (code := bodyOf Tryd.f85) mixed (tabOk85) Tryd.func85 rfl (by kernel_rfl) (loops_of (L := []) (by kernel_rfl) (lnil)) (fun x => by kernel_rfl)
/-! 70: pantograph/pantographref1.Shift -/
noncomputable def tab70 : Tab := [(48, .d ⟨[.ty (.sl (.int .u32))], [(.sl (.int .u32))], fun x => ref1_Trim x⟩), (85, .d ⟨[.ty (.sl (.int .u32)), .ty (.int .i64)], [(.int .u64)], fun x => ref1_at x.1 x.2⟩)]
theorem tabOk70 : TabOk Tryd.prog (tab70) := tabOk_cons ok48 (tabOk_cons ok85 (tabOk_nil _))
def ro70 : Nat → Bool := fun s => false
noncomputable def lp70_0 : LoopD := { gh := [.slot 8 (.int .u32)], ps := [.s 5 (.imm (.sl (.int .u32))), .s 7 (.imm (.int .u64))], sh := ⟨[.s 9 (.imm (.int .i64)), .a (.int .u32)], [(8, .cur 0 (.int .u32))], [.arr (.int .u32)]⟩, ws := [⟨.exit 0, ⟨[.a (.int .u32)], [(8, .cur 0 (.int .u32))], [.arr (.int .u32)]⟩⟩], F := fun p s => ref1_Shift_L0 p.1 p.2 s }
noncomputable def lp70_2 : LoopD := { gh := [], ps := [.s 5 (.imm (.sl (.int .u32))), .s 11 (.imm (.int .u64))], sh := ⟨[.s 12 (.imm (.int .u64)), .s 13 (.imm (.int .i64)), .a (.int .u32)], [(10, .cur 0 (.int .u32))], [.arr (.int .u32)]⟩, ws := [⟨.exit 2, ⟨[.a (.int .u32)], [(10, .cur 0 (.int .u32))], [.arr (.int .u32)]⟩⟩], F := fun p s => ref1_Shift_L1 p.1 p.2 s }
noncomputable def h70 : Hints := { loop := fun id => bif Nat.beq id 0 then some (lp70_0) else bif Nat.beq id 2 then some (lp70_2) else none, cut := fun k r => none, frz := fun r => bif Nat.beq r 24 then [10] else bif Nat.beq r 14 then [8] else [] }
theorem lo70_0 : LoopOkK Tryd.prog Tryd.f70.ntmps (lp70_0) (lb 0 Tryd.f70) :=
  loop_ok (xid := XID) (ro := ro70) (H := h70) mixed (tabOk70) (loops_of (L := []) (by kernel_rfl) (lnil)) (fun p s => ref1_Shift_R0 p.1 p.2 s) (fun p s => by kernel_rfl) (fun p s => rfl)
theorem lo70_2 : LoopOkK Tryd.prog Tryd.f70.ntmps (lp70_2) (lb 2 Tryd.f70) :=
  loop_ok (xid := XID) (ro := ro70) (H := h70) mixed (tabOk70) (loops_of (L := []) (by kernel_rfl) (lnil)) (fun p s => ref1_Shift_R1 p.1 p.2 s) (fun p s => by kernel_rfl) (fun p s => rfl)
theorem ok70 : FnOk Tryd.prog 70 ⟨[.ty (.sl (.int .u32)), .ty (.int .i64)], [(.sl (.int .u32))], fun x => ref1_Shift x.1 x.2⟩ :=
  fn_ok (xid := XID) (ro := ro70) (H := h70) (fn := Tryd.f70) (code := bodyOf Tryd.f70) mixed (tabOk70) Tryd.func70 rfl (by kernel_rfl) (loops_of (L := [(0, lb 0 Tryd.f70), (2, lb 2 Tryd.f70)]) (by kernel_rfl) (lcons rfl (lo70_0) (lcons rfl (lo70_2) (lnil)))) (fun x => by kernel_rfl)
/-! 71: pantograph/pantographref1.Add -/
noncomputable def tab71 : Tab := [(85, .d ⟨[.ty (.sl (.int .u32)), .ty (.int .i64)], [(.int .u64)], fun x => ref1_at x.1 x.2⟩), (48, .d ⟨[.ty (.sl (.int .u32))], [(.sl (.int .u32))], fun x => ref1_Trim x⟩)]
theorem tabOk71 : TabOk Tryd.prog (tab71) := tabOk_cons ok85 (tabOk_cons ok48 (tabOk_nil _))
def ro71 : Nat → Bool := fun s => false
noncomputable def lp71_0 : LoopD := { gh := [.slot 5 (.int .u32)], ps := [.s 0 (.imm (.sl (.int .u32))), .s 1 (.imm (.sl (.int .u32)))], sh := ⟨[.s 6 (.imm (.int .u64)), .s 7 (.imm (.int .i64)), .a (.int .u32)], [(5, .cur 0 (.int .u32))], [.arr (.int .u32)]⟩, ws := [⟨.exit 0, ⟨[.a (.int .u32)], [(5, .cur 0 (.int .u32))], [.arr (.int .u32)]⟩⟩], F := fun p s => ref1_Add_L0 p.1 p.2 s }
noncomputable def h71 : Hints := { loop := fun id => bif Nat.beq id 0 then some (lp71_0) else none, cut := fun k r => none, frz := fun r => bif Nat.beq r 9 then [5] else [] }
theorem lo71_0 : LoopOkK Tryd.prog Tryd.f71.ntmps (lp71_0) (lb 0 Tryd.f71) :=
  loop_ok (xid := XID) (ro := ro71) (H := h71) mixed (tabOk71) (loops_of (L := []) (by kernel_rfl) (lnil)) (fun p s => ref1_Add_R0 p.1 p.2 s) (fun p s => by kernel_rfl) (fun p s => rfl)
theorem ok71 : FnOk Tryd.prog 71 ⟨[.ty (.sl (.int .u32)), .ty (.sl (.int .u32))], [(.sl (.int .u32))], fun x => ref1_Add x.1 x.2⟩ :=
  fn_ok (xid := XID) (ro := ro71) (H := h71) (fn := Tryd.f71) (code := bodyOf Tryd.f71) mixed (tabOk71) Tryd.func71 rfl (by kernel_rfl) (loops_of (L := [(0, lb 0 Tryd.f71)]) (by kernel_rfl) (lcons rfl (lo71_0) (lnil))) (fun x => by kernel_rfl)
/-! 72: pantograph/pantographref1.Cmp -/
noncomputable def tab72 : Tab := [(48, .d ⟨[.ty (.sl (.int .u32))], [(.sl (.int .u32))], fun x => ref1_Trim x⟩)]
theorem tabOk72 : TabOk Tryd.prog (tab72) := tabOk_cons ok48 (tabOk_nil _)
def ro72 : Nat → Bool := fun s => false
noncomputable def lp72_0 : LoopD := { gh := [], ps := [.s 5 (.imm (.sl (.int .u32))), .s 6 (.imm (.sl (.int .u32)))], sh := ⟨[.s 7 (.imm (.int .i64))], [], []⟩, ws := [⟨.exit 0, ⟨[], [], []⟩⟩, ⟨.ret, ⟨[.s 4 (.imm (.int .i64))], [], []⟩⟩], F := fun p s => ref1_Cmp_L0 p.1 p.2 s }
noncomputable def h72 : Hints := { loop := fun id => bif Nat.beq id 0 then some (lp72_0) else none, cut := fun k r => none, frz := fun r => [] }
theorem lo72_0 : LoopOkK Tryd.prog Tryd.f72.ntmps (lp72_0) (lb 0 Tryd.f72) :=
  loop_ok (xid := XID) (ro := ro72) (H := h72) mixed (tabOk72) (loops_of (L := []) (by kernel_rfl) (lnil)) (fun p s => ref1_Cmp_R0 p.1 p.2 s) (fun p s => by kernel_rfl) (fun p s => rfl)
theorem ok72 : FnOk Tryd.prog 72 ⟨[.ty (.sl (.int .u32)), .ty (.sl (.int .u32))], [(.int .i64)], fun x => ref1_Cmp x.1 x.2⟩ :=
  fn_ok (xid := XID) (ro := ro72) (H := h72) (fn := Tryd.f72) (code := bodyOf Tryd.f72) mixed (tabOk72) Tryd.func72 rfl (by kernel_rfl) (loops_of (L := [(0, lb 0 Tryd.f72)]) (by kernel_rfl) (lcons rfl (lo72_0) (lnil))) (fun x => by kernel_rfl)
/-! 73: pantograph/pantographref1.Sub -/
noncomputable def tab73 : Tab := [(72, .d ⟨[.ty (.sl (.int .u32)), .ty (.sl (.int .u32))], [(.int .i64)], fun x => ref1_Cmp x.1 x.2⟩), (85, .d ⟨[.ty (.sl (.int .u32)), .ty (.int .i64)], [(.int .u64)], fun x => ref1_at x.1 x.2⟩), (48, .d ⟨[.ty (.sl (.int .u32))], [(.sl (.int .u32))], fun x => ref1_Trim x⟩)]
theorem tabOk73 : TabOk Tryd.prog (tab73) := tabOk_cons ok72 (tabOk_cons ok85 (tabOk_cons ok48 (tabOk_nil _)))
def ro73 : Nat → Bool := fun s => false
noncomputable def lp73_0 : LoopD := { gh := [.slot 6 (.int .u32)], ps := [.s 0 (.imm (.sl (.int .u32))), .s 1 (.imm (.sl (.int .u32)))], sh := ⟨[.s 7 (.imm (.int .u64)), .s 8 (.imm (.int .i64)), .a (.int .u32)], [(6, .cur 0 (.int .u32))], [.arr (.int .u32)]⟩, ws := [⟨.exit 0, ⟨[.a (.int .u32)], [(6, .cur 0 (.int .u32))], [.arr (.int .u32)]⟩⟩], F := fun p s => ref1_Sub_L0 p.1 p.2 s }
noncomputable def h73 : Hints := { loop := fun id => bif Nat.beq id 0 then some (lp73_0) else none, cut := fun k r => bif Nat.beq k 3 && Nat.beq r 10 then some (.flat [.s 7 (.imm (.int .u64)), .s 9 (.imm (.int .u64))]) else none, frz := fun r => bif Nat.beq r 14 then [6] else [] }
theorem lo73_0 : LoopOkK Tryd.prog Tryd.f73.ntmps (lp73_0) (lb 0 Tryd.f73) :=
  loop_ok (xid := XID) (ro := ro73) (H := h73) mixed (tabOk73) (loops_of (L := []) (by kernel_rfl) (lnil)) (fun p s => ref1_Sub_R0 p.1 p.2 s) (fun p s => by kernel_rfl) (fun p s => rfl)
theorem ok73 : FnOk Tryd.prog 73 ⟨[.ty (.sl (.int .u32)), .ty (.sl (.int .u32))], [(.sl (.int .u32)), .bool], fun x => ref1_Sub x.1 x.2⟩ :=
  fn_ok (xid := XID) (ro := ro73) (H := h73) (fn := Tryd.f73) (code := bodyOf Tryd.f73) mixed (tabOk73) Tryd.func73 rfl (by kernel_rfl) (loops_of (L := [(0, lb 0 Tryd.f73)]) (by kernel_rfl) (lcons rfl (lo73_0) (lnil))) (fun x => by kernel_rfl)
/-! 50: pantograph/pantographref1.DivMod -/
noncomputable def tab50 : Tab := [(48, .d ⟨[.ty (.sl (.int .u32))], [(.sl (.int .u32))], fun x => ref1_Trim x⟩), (67, .d ⟨[.ty (.sl (.int .u32))], [(.int .u64), .bool], fun x => ref1_To x⟩), (68, .d ⟨[.ty (.int .u64)], [(.sl (.int .u32))], fun x => ref1_Of x⟩), (69, .d ⟨[.ty (.sl (.int .u32)), .ty (.int .u64)], [(.sl (.int .u32)), (.int .u64)], fun x => ref1_small x.1 x.2⟩), (70, .d ⟨[.ty (.sl (.int .u32)), .ty (.int .i64)], [(.sl (.int .u32))], fun x => ref1_Shift x.1 x.2⟩), (71, .d ⟨[.ty (.sl (.int .u32)), .ty (.sl (.int .u32))], [(.sl (.int .u32))], fun x => ref1_Add x.1 x.2⟩), (72, .d ⟨[.ty (.sl (.int .u32)), .ty (.sl (.int .u32))], [(.int .i64)], fun x => ref1_Cmp x.1 x.2⟩), (73, .d ⟨[.ty (.sl (.int .u32)), .ty (.sl (.int .u32))], [(.sl (.int .u32)), .bool], fun x => ref1_Sub x.1 x.2⟩)]
theorem tabOk50 : TabOk Tryd.prog (tab50) := tabOk_cons ok48 (tabOk_cons ok67 (tabOk_cons ok68 (tabOk_cons ok69 (tabOk_cons ok70 (tabOk_cons ok71 (tabOk_cons ok72 (tabOk_cons ok73 (tabOk_nil _))))))))
def ro50 : Nat → Bool := fun s => false
noncomputable def lp50_0 : LoopD := { gh := [], ps := [.s 0 (.imm (.sl (.int .u32))), .s 1 (.imm (.sl (.int .u32)))], sh := ⟨[.s 14 (.imm (.sl (.int .u32))), .s 15 (.imm (.int .i64)), .a (.int .u32)], [(13, .cur 0 (.int .u32))], [.arr (.int .u32)]⟩, ws := [⟨.exit 0, ⟨[.s 14 (.imm (.sl (.int .u32))), .a (.int .u32)], [(13, .cur 0 (.int .u32))], [.arr (.int .u32)]⟩⟩], F := fun p s => ref1_DivMod_L0 p.1 p.2 s }
noncomputable def h50 : Hints := { loop := fun id => bif Nat.beq id 0 then some (lp50_0) else none, cut := fun k r => bif Nat.beq k 0 && Nat.beq r 5 then some (.flat [.s 33 (.imm .bool)]) else bif Nat.beq k 0 && Nat.beq r 7 then some (.flat [.s 46 (.imm .bool)]) else bif Nat.beq k 3 && Nat.beq r 16 then some (.ways [⟨.normal, ⟨[.s 14 (.imm (.sl (.int .u32))), .a (.int .u32)], [(13, .cur 0 (.int .u32))], [.arr (.int .u32)]⟩⟩]) else none, frz := fun r => bif Nat.beq r 21 then [13] else [] }
theorem lo50_0 : LoopOkK Tryd.prog Tryd.f50.ntmps (lp50_0) (lb 0 Tryd.f50) :=
  loop_ok (xid := XID) (ro := ro50) (H := h50) mixed (tabOk50) (loops_of (L := []) (by kernel_rfl) (lnil)) (fun p s => ref1_DivMod_R0 p.1 p.2 s) (fun p s => by kernel_rfl) (fun p s => rfl)
theorem ok50 : FnOk Tryd.prog 50 ⟨[.ty (.sl (.int .u32)), .ty (.sl (.int .u32))], [(.sl (.int .u32)), (.sl (.int .u32)), .bool], fun x => ref1_DivMod x.1 x.2⟩ :=
  fn_ok (xid := XID) (ro := ro50) (H := h50) (fn := Tryd.f50) (code := bodyOf Tryd.f50) mixed (tabOk50) Tryd.func50 rfl (by kernel_rfl) (loops_of (L := [(0, lb 0 Tryd.f50)]) (by kernel_rfl) (lcons rfl (lo50_0) (lnil))) (fun x => by kernel_rfl)
/-! 49: pantograph/pantographref1.Gcd -/
noncomputable def tab49 : Tab := [(48, .d ⟨[.ty (.sl (.int .u32))], [(.sl (.int .u32))], fun x => ref1_Trim x⟩), (50, .d ⟨[.ty (.sl (.int .u32)), .ty (.sl (.int .u32))], [(.sl (.int .u32)), (.sl (.int .u32)), .bool], fun x => ref1_DivMod x.1 x.2⟩)]
theorem tabOk49 : TabOk Tryd.prog (tab49) := tabOk_cons ok48 (tabOk_cons ok50 (tabOk_nil _))
def ro49 : Nat → Bool := fun s => false
noncomputable def lp49_0 : LoopD := { gh := [], ps := [], sh := ⟨[.s 5 (.imm (.sl (.int .u32))), .s 6 (.imm (.sl (.int .u32)))], [], []⟩, ws := [⟨.exit 0, ⟨[.s 5 (.imm (.sl (.int .u32)))], [], []⟩⟩], F := fun p s => ref1_Gcd_L0  s }
noncomputable def h49 : Hints := { loop := fun id => bif Nat.beq id 0 then some (lp49_0) else none, cut := fun k r => none, frz := fun r => [] }
theorem lo49_0 : LoopOkK Tryd.prog Tryd.f49.ntmps (lp49_0) (lb 0 Tryd.f49) :=
  loop_ok (xid := XID) (ro := ro49) (H := h49) mixed (tabOk49) (loops_of (L := []) (by kernel_rfl) (lnil)) (fun p s => ref1_Gcd_R0  s) (fun p s => by kernel_rfl) (fun p s => rfl)
theorem ok49 : FnOk Tryd.prog 49 ⟨[.ty (.sl (.int .u32)), .ty (.sl (.int .u32))], [(.sl (.int .u32))], fun x => ref1_Gcd x.1 x.2⟩ :=
  fn_ok (xid := XID) (ro := ro49) (H := h49) (fn := Tryd.f49) (code := bodyOf Tryd.f49) mixed (tabOk49) Tryd.func49 rfl (by kernel_rfl) (loops_of (L := [(0, lb 0 Tryd.f49)]) (by kernel_rfl) (lcons rfl (lo49_0) (lnil))) (fun x => by kernel_rfl)
/-! 33: pantograph/pantographref2.Norm -/
noncomputable def tab33 : Tab := [(48, .d ⟨[.ty (.sl (.int .u32))], [(.sl (.int .u32))], fun x => ref1_Trim x⟩), (49, .d ⟨[.ty (.sl (.int .u32)), .ty (.sl (.int .u32))], [(.sl (.int .u32))], fun x => ref1_Gcd x.1 x.2⟩), (50, .d ⟨[.ty (.sl (.int .u32)), .ty (.sl (.int .u32))], [(.sl (.int .u32)), (.sl (.int .u32)), .bool], fun x => ref1_DivMod x.1 x.2⟩)]
theorem tabOk33 : TabOk Tryd.prog (tab33) := tabOk_cons ok48 (tabOk_cons ok49 (tabOk_cons ok50 (tabOk_nil _)))
def ro33 : Nat → Bool := fun s => Nat.beq s 1
noncomputable def h33 : Hints := { loop := fun id => none, cut := fun k r => bif Nat.beq k 0 && Nat.beq r 2 then some (.flat [.s 19 (.imm .bool)]) else none, frz := fun r => [] }
theorem ok33 : FnOk Tryd.prog 33 ⟨[.ty tyRat], [tyRat], fun x => ref2_Norm x⟩ :=
  fn_ok (xid := XID) (ro := ro33) (H := h33) (fn := Tryd.f33) (code := bodyOf Tryd.f33) mixed (tabOk33) Tryd.func33 rfl (by kernel_rfl) (loops_of (L := []) (by kernel_rfl) (lnil)) (fun x => by kernel_rfl)
/-! 34: pantograph/pantographref2.limbs -/
noncomputable def tab34 : Tab := []
theorem tabOk34 : TabOk Tryd.prog (tab34) := tabOk_nil _
def ro34 : Nat → Bool := fun s => false
noncomputable def lp34_0 : LoopD := { gh := [], ps := [.s 0 (.imm (.sl (.int .u32))), .s 1 (.imm (.sl (.int .u32)))], sh := ⟨[.s 5 (.imm (.int .i64))], [], []⟩, ws := [⟨.exit 0, ⟨[], [], []⟩⟩, ⟨.ret, ⟨[.s 4 (.imm .bool)], [], []⟩⟩], F := fun p s => ref2_limbs_L0 p.1 p.2 s }
noncomputable def h34 : Hints := { loop := fun id => bif Nat.beq id 0 then some (lp34_0) else none, cut := fun k r => none, frz := fun r => [] }
theorem lo34_0 : LoopOkK Tryd.prog Tryd.f34.ntmps (lp34_0) (lb 0 Tryd.f34) :=
  loop_ok (xid := XID) (ro := ro34) (H := h34) mixed (tabOk34) (loops_of (L := []) (by kernel_rfl) (lnil)) (fun p s => ref2_limbs_R0 p.1 p.2 s) (fun p s => by kernel_rfl) (fun p s => rfl)
theorem ok34 : FnOk Tryd.prog 34 ⟨[.ty (.sl (.int .u32)), .ty (.sl (.int .u32))], [.bool], fun x => ref2_limbs x.1 x.2⟩ :=
  fn_ok (xid := XID) (ro := ro34) (H := h34) (fn := Tryd.f34) (code := bodyOf Tryd.f34) mixed (tabOk34) Tryd.func34 rfl (by kernel_rfl) (loops_of (L := [(0, lb 0 Tryd.f34)]) (by kernel_rfl) (lcons rfl (lo34_0) (lnil))) (fun x => by kernel_rfl)
/-! 19: pantograph/pantographref2.Same -/
noncomputable def tab19 : Tab := [(33, .d ⟨[.ty tyRat], [tyRat], fun x => ref2_Norm x⟩), (34, .d ⟨[.ty (.sl (.int .u32)), .ty (.sl (.int .u32))], [.bool], fun x => ref2_limbs x.1 x.2⟩)]
theorem tabOk19 : TabOk Tryd.prog (tab19) := tabOk_cons ok33 (tabOk_cons ok34 (tabOk_nil _))
def ro19 : Nat → Bool := fun s => Nat.beq s 2 || Nat.beq s 3
noncomputable def h19 : Hints := { loop := fun id => none, cut := fun k r => none, frz := fun r => [] }
theorem ok19 : FnOk Tryd.prog 19 ⟨[.ty tyRat, .ty tyRat], [.bool], fun x => ref2_Same x.1 x.2⟩ :=
  fn_ok (xid := XID) (ro := ro19) (H := h19) (fn := Tryd.f19) (code := bodyOf Tryd.f19) mixed (tabOk19) Tryd.func19 rfl (by kernel_rfl) (loops_of (L := []) (by kernel_rfl) (lnil)) (fun x => by kernel_rfl)
/-! 9: pantograph/pantographlaw21.items -/
noncomputable def tab9 : Tab := [(19, .d ⟨[.ty tyRat, .ty tyRat], [.bool], fun x => ref2_Same x.1 x.2⟩)]
theorem tabOk9 : TabOk Tryd.prog (tab9) := tabOk_cons ok19 (tabOk_nil _)
def ro9 : Nat → Bool := fun s => false
noncomputable def lp9_0 : LoopD := { gh := [], ps := [.s 0 (.imm (.sl tyrecord_Item)), .s 1 (.imm (.sl tyrecord_Item))], sh := ⟨[.s 5 (.imm (.int .i64))], [], []⟩, ws := [⟨.exit 0, ⟨[], [], []⟩⟩, ⟨.ret, ⟨[.s 4 (.imm .bool)], [], []⟩⟩], F := fun p s => law21_items_L0 p.1 p.2 s }
noncomputable def h9 : Hints := { loop := fun id => bif Nat.beq id 0 then some (lp9_0) else none, cut := fun k r => bif Nat.beq k 0 && Nat.beq r 6 then some (.ways [⟨.normal, ⟨[.s 41 (.imm .bool)], [], []⟩⟩]) else none, frz := fun r => [] }
theorem lo9_0 : LoopOkK Tryd.prog Tryd.f9.ntmps (lp9_0) (lb 0 Tryd.f9) :=
  loop_ok (xid := XID) (ro := ro9) (H := h9) mixed (tabOk9) (loops_of (L := []) (by kernel_rfl) (lnil)) (fun p s => law21_items_R0 p.1 p.2 s) (fun p s => by kernel_rfl) (fun p s => rfl)
theorem ok9 : FnOk Tryd.prog 9 ⟨[.ty (.sl tyrecord_Item), .ty (.sl tyrecord_Item)], [.bool], fun x => law21_items x.1 x.2⟩ :=
  fn_ok (xid := XID) (ro := ro9) (H := h9) (fn := Tryd.f9) (code := bodyOf Tryd.f9) mixed (tabOk9) Tryd.func9 rfl (by kernel_rfl) (loops_of (L := [(0, lb 0 Tryd.f9)]) (by kernel_rfl) (lcons rfl (lo9_0) (lnil))) (fun x => by kernel_rfl)
/-! 3: pantograph/pantographlaw21.RecordBack -/
noncomputable def tab3 : Tab := [(4, .d ⟨[.ty (.sl tyrecord_Item)], [.bool], fun x => law21_long x⟩), (5, .d ⟨[.ty .str], [.bool], fun x => ref5_Name x⟩), (6, .d ⟨[], [.bool], fun _ => law21_known⟩), (8, .d ⟨[.ty (.sl tyrecord_Item)], [.str], fun x => record_Encode x⟩), (7, .d ⟨[.ty .str], [(.sl tyrecord_Item), (.int .i64)], fun x => record_Decode x⟩), (10, .d ⟨[.ty (.sl tyrecord_Item)], [(.sl tyrecord_Item)], fun x => law21_own x⟩), (9, .d ⟨[.ty (.sl tyrecord_Item), .ty (.sl tyrecord_Item)], [.bool], fun x => law21_items x.1 x.2⟩)]
theorem tabOk3 : TabOk Tryd.prog (tab3) := tabOk_cons ok4 (tabOk_cons ok5 (tabOk_cons ok6 (tabOk_cons ok8 (tabOk_cons ok7 (tabOk_cons ok10 (tabOk_cons ok9 (tabOk_nil _)))))))
def ro3 : Nat → Bool := fun s => false
noncomputable def lp3_0 : LoopD := { gh := [], ps := [.s 0 (.imm (.sl tyrecord_Item))], sh := ⟨[.s 3 (.imm (.int .i64))], [], []⟩, ws := [⟨.exit 0, ⟨[], [], []⟩⟩, ⟨.ret, ⟨[.s 2 (.imm .bool)], [], []⟩⟩], F := fun p s => law21_RecordBack_L0 p s }
noncomputable def h3 : Hints := { loop := fun id => bif Nat.beq id 0 then some (lp3_0) else none, cut := fun k r => none, frz := fun r => [] }
theorem lo3_0 : LoopOkK Tryd.prog Tryd.f3.ntmps (lp3_0) (lb 0 Tryd.f3) :=
  loop_ok (xid := XID) (ro := ro3) (H := h3) mixed (tabOk3) (loops_of (L := []) (by kernel_rfl) (lnil)) (fun p s => law21_RecordBack_R0 p s) (fun p s => by kernel_rfl) (fun p s => rfl)
theorem ok3 : FnOk Tryd.prog 3 ⟨[.ty (.sl tyrecord_Item)], [.bool], fun x => law21_RecordBack x⟩ :=
  fn_ok (xid := XID) (ro := ro3) (H := h3) (fn := Tryd.f3) (code := bodyOf Tryd.f3) mixed (tabOk3) Tryd.func3 rfl (by kernel_rfl) (loops_of (L := [(0, lb 0 Tryd.f3)]) (by kernel_rfl) (lcons rfl (lo3_0) (lnil))) (fun x => by kernel_rfl)
end Go.AM.Lf
