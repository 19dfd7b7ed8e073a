/-
  The walk, part 0: each function of the program is the tree that the lifted text says; printed by a program of ours.
-/
import Derived.Test.YtgfadkdgifpddaaGreatDoorProg
import Derived.KernelRfl
import Derived.Test.YtgfadkdgifpddaaGreatDoorAmD
import Derived.Test.YtgfadkdgifpddaaGreatDoorLf0
import Derived.Test.YtgfadkdgifpddaaGreatDoorSh
set_option linter.unusedVariables false
set_option maxRecDepth 100000
namespace Go.AM.Lf
open Go.Proofs
abbrev XID : Nat := 1000
noncomputable def bodyOf (f : Func) : Code := match f.body with | some c => c | none => .skip
noncomputable def lb (k : Nat) (f : Func) : Code := match loopAt k (bodyOf f) with | some c => c | none => .skip
theorem mixed : Tryz.prog.follows .mixedOrders = true := by kernel_rfl
instance : Glob := ⟨[(0, isInt1 .i64)]⟩
theorem glob_internal_bytealg_MaxLen {κ : KS} (hI : Inv κ) : ∃ m, κ.w.cell? ⟨0, 0, none⟩ = some (.int .i64 m) :=
  int1_cell (hI.gl (0, isInt1 .i64) (by simp [Glob.tab])).2
/-! 11: pantograph/pantographlaw3.big -/
noncomputable def tab11 : Tab := []
theorem tabOk11 : TabOk Tryz.prog (tab11) := tabOk_nil _
def ro11 : Nat → Bool := fun s => false
noncomputable def lp11_0 : LoopD := { gh := [], ps := [.s 0 (.imm (.sl tyRat))], sh := ⟨[.s 3 (.imm (.int .i64)), .s 4 (.imm (.int .i64))], [], []⟩, ws := [⟨.exit 0, ⟨[], [], []⟩⟩, ⟨.ret, ⟨[.s 2 (.imm .bool)], [], []⟩⟩], F := fun p s => law3_big_L0 p s }
noncomputable def h11 : Hints := { loop := fun id => bif Nat.beq id 0 then some (lp11_0) else none, cut := fun k r => none, frz := fun r => [] }
theorem lo11_0 : LoopOkK Tryz.prog Tryz.f11.ntmps (lp11_0) (lb 0 Tryz.f11) :=
  loop_ok (xid := XID) (ro := ro11) (H := h11) mixed (tabOk11) (loops_of (L := []) (by kernel_rfl) (lnil)) (fun p s => law3_big_R0 p s) (fun p s => by kernel_rfl) (fun p s => rfl)
theorem ok11 : FnOk Tryz.prog 11 ⟨[.ty (.sl tyRat)], [.bool], fun x => law3_big x⟩ :=
  fn_ok (xid := XID) (ro := ro11) (H := h11) (fn := Tryz.f11) (code := bodyOf Tryz.f11) mixed (tabOk11) Tryz.func11 rfl (by kernel_rfl) (loops_of (L := [(0, lb 0 Tryz.f11)]) (by kernel_rfl) (lcons rfl (lo11_0) (lnil))) (fun x => by kernel_rfl)
/-! 93: pantograph/nat.Is -/
noncomputable def tab93 : Tab := []
theorem tabOk93 : TabOk Tryz.prog (tab93) := tabOk_nil _
def ro93 : Nat → Bool := fun s => false
noncomputable def h93 : Hints := { loop := fun id => none, cut := fun k r => bif Nat.beq k 0 && Nat.beq r 1 then some (.flat [.s 2 (.imm .bool)]) else none, frz := fun r => [] }
theorem ok93 : FnOk Tryz.prog 93 ⟨[.ty (.sl (.int .u32))], [.bool], fun x => nat_Is x⟩ :=
  fn_ok (xid := XID) (ro := ro93) (H := h93) (fn := Tryz.f93) (code := bodyOf Tryz.f93) mixed (tabOk93) Tryz.func93 rfl (by kernel_rfl) (loops_of (L := []) (by kernel_rfl) (lnil)) (fun x => by kernel_rfl)
/-! 71: pantograph/nat.trim -/
noncomputable def tab71 : Tab := [(93, .d ⟨[.ty (.sl (.int .u32))], [.bool], fun x => nat_Is x⟩)]
theorem tabOk71 : TabOk Tryz.prog (tab71) := tabOk_cons ok93 (tabOk_nil _)
def ro71 : Nat → Bool := fun s => false
noncomputable def lp71_0 : LoopD := { gh := [], ps := [], sh := ⟨[.s 0 (.imm (.sl (.int .u32)))], [], []⟩, ws := [⟨.exit 0, ⟨[.s 0 (.imm (.sl (.int .u32)))], [], []⟩⟩], F := fun p s => nat_trim_L0  s }
noncomputable def h71 : Hints := { loop := fun id => bif Nat.beq id 0 then some (lp71_0) else none, cut := fun k r => none, frz := fun r => [] }
theorem lo71_0 : LoopOkK Tryz.prog Tryz.f71.ntmps (lp71_0) (lb 0 Tryz.f71) :=
  loop_ok (xid := XID) (ro := ro71) (H := h71) mixed (tabOk71) (loops_of (L := []) (by kernel_rfl) (lnil)) (fun p s => nat_trim_R0  s) (fun p s => by kernel_rfl) (fun p s => rfl)
theorem ok71 : FnOk Tryz.prog 71 ⟨[.ty (.sl (.int .u32))], [(.sl (.int .u32))], fun x => nat_trim x⟩ :=
  fn_ok (xid := XID) (ro := ro71) (H := h71) (fn := Tryz.f71) (code := bodyOf Tryz.f71) mixed (tabOk71) Tryz.func71 rfl (by kernel_rfl) (loops_of (L := [(0, lb 0 Tryz.f71)]) (by kernel_rfl) (lcons rfl (lo71_0) (lnil))) (fun x => by kernel_rfl)
/-! 72: slices.Clone[[]uint32,uint32] -/
noncomputable def tab72 : Tab := []
theorem tabOk72 : TabOk Tryz.prog (tab72) := tabOk_nil _
def ro72 : Nat → Bool := fun s => false
noncomputable def h72 : Hints := { loop := fun id => none, cut := fun k r => bif Nat.beq k 0 && Nat.beq r 1 then some (.nilt) else none, frz := fun r => [] }
theorem ok72 : FnOk Tryz.prog 72 ⟨[.ty (.sl (.int .u32))], [(.sl (.int .u32))], fun x => slices_Clone_sl_uint32 x⟩ :=
  fn_ok (xid := XID) (ro := ro72) (H := h72) (fn := Tryz.f72) (code := bodyOf Tryz.f72) mixed (tabOk72) Tryz.func72 rfl (by kernel_rfl) (loops_of (L := []) (by kernel_rfl) (lnil)) (fun x => by kernel_rfl)
/-! 50: pantograph/nat.Trim -/
noncomputable def tab50 : Tab := [(71, .d ⟨[.ty (.sl (.int .u32))], [(.sl (.int .u32))], fun x => nat_trim x⟩), (72, .d ⟨[.ty (.sl (.int .u32))], [(.sl (.int .u32))], fun x => slices_Clone_sl_uint32 x⟩)]
theorem tabOk50 : TabOk Tryz.prog (tab50) := tabOk_cons ok71 (tabOk_cons ok72 (tabOk_nil _))
def ro50 : Nat → Bool := fun s => false
noncomputable def h50 : Hints := { loop := fun id => none, cut := fun k r => none, frz := fun r => [] }
theorem ok50 : FnOk Tryz.prog 50 ⟨[.ty (.sl (.int .u32))], [(.sl (.int .u32))], fun x => nat_Trim x⟩ :=
  fn_ok (xid := XID) (ro := ro50) (H := h50) (fn := Tryz.f50) (code := bodyOf Tryz.f50) mixed (tabOk50) Tryz.func50 rfl (by kernel_rfl) (loops_of (L := []) (by kernel_rfl) (lnil)) (fun x => by kernel_rfl)
/-! 49: pantograph/nat.Of -/
noncomputable def tab49 : Tab := [(71, .d ⟨[.ty (.sl (.int .u32))], [(.sl (.int .u32))], fun x => nat_trim x⟩)]
theorem tabOk49 : TabOk Tryz.prog (tab49) := tabOk_cons ok71 (tabOk_nil _)
def ro49 : Nat → Bool := fun s => false
noncomputable def h49 : Hints := { loop := fun id => none, cut := fun k r => none, frz := fun r => [] }
theorem ok49 : FnOk Tryz.prog 49 ⟨[.ty (.int .u64)], [(.sl (.int .u32))], fun x => nat_Of x⟩ :=
  fn_ok (xid := XID) (ro := ro49) (H := h49) (fn := Tryz.f49) (code := bodyOf Tryz.f49) mixed (tabOk49) Tryz.func49 rfl (by kernel_rfl) (loops_of (L := []) (by kernel_rfl) (lnil)) (fun x => by kernel_rfl)
/-! 57: pantograph/nat.Cmp -/
noncomputable def tab57 : Tab := [(71, .d ⟨[.ty (.sl (.int .u32))], [(.sl (.int .u32))], fun x => nat_trim x⟩)]
theorem tabOk57 : TabOk Tryz.prog (tab57) := tabOk_cons ok71 (tabOk_nil _)
def ro57 : Nat → Bool := fun s => false
noncomputable def lp57_0 : LoopD := { gh := [], ps := [.s 0 (.imm (.sl (.int .u32))), .s 1 (.imm (.sl (.int .u32)))], sh := ⟨[.s 5 (.imm (.int .i64))], [], []⟩, ws := [⟨.exit 0, ⟨[], [], []⟩⟩, ⟨.ret, ⟨[.s 4 (.imm (.int .i64))], [], []⟩⟩], F := fun p s => nat_Cmp_L0 p.1 p.2 s }
noncomputable def h57 : Hints := { loop := fun id => bif Nat.beq id 0 then some (lp57_0) else none, cut := fun k r => none, frz := fun r => [] }
theorem lo57_0 : LoopOkK Tryz.prog Tryz.f57.ntmps (lp57_0) (lb 0 Tryz.f57) :=
  loop_ok (xid := XID) (ro := ro57) (H := h57) mixed (tabOk57) (loops_of (L := []) (by kernel_rfl) (lnil)) (fun p s => nat_Cmp_R0 p.1 p.2 s) (fun p s => by kernel_rfl) (fun p s => rfl)
theorem ok57 : FnOk Tryz.prog 57 ⟨[.ty (.sl (.int .u32)), .ty (.sl (.int .u32))], [(.int .i64)], fun x => nat_Cmp x.1 x.2⟩ :=
  fn_ok (xid := XID) (ro := ro57) (H := h57) (fn := Tryz.f57) (code := bodyOf Tryz.f57) mixed (tabOk57) Tryz.func57 rfl (by kernel_rfl) (loops_of (L := [(0, lb 0 Tryz.f57)]) (by kernel_rfl) (lcons rfl (lo57_0) (lnil))) (fun x => by kernel_rfl)
/-! 84: math/bits.Div32 -/
noncomputable def tab84 : Tab := []
theorem tabOk84 : TabOk Tryz.prog (tab84) := tabOk_nil _
def ro84 : Nat → Bool := fun s => false
noncomputable def h84 : Hints := { loop := fun id => none, cut := fun k r => bif Nat.beq k 0 && Nat.beq r 1 then some (.flat [.s 15 (.imm .bool)]) else none, frz := fun r => [] }
theorem ok84 : FnOk Tryz.prog 84 ⟨[.ty (.int .u32), .ty (.int .u32), .ty (.int .u32)], [(.int .u32), (.int .u32)], fun x => math_bits_Div32 x.1 x.2.1 x.2.2⟩ :=
  fn_ok (xid := XID) (ro := ro84) (H := h84) (fn := Tryz.f84) (code := bodyOf Tryz.f84) mixed (tabOk84) Tryz.func84 rfl (by kernel_rfl) (loops_of (L := []) (by kernel_rfl) (lnil)) (fun x => by kernel_rfl)
/-! 60: pantograph/nat.small -/
noncomputable def tab60 : Tab := [(84, .d ⟨[.ty (.int .u32), .ty (.int .u32), .ty (.int .u32)], [(.int .u32), (.int .u32)], fun x => math_bits_Div32 x.1 x.2.1 x.2.2⟩), (71, .d ⟨[.ty (.sl (.int .u32))], [(.sl (.int .u32))], fun x => nat_trim x⟩)]
theorem tabOk60 : TabOk Tryz.prog (tab60) := tabOk_cons ok84 (tabOk_cons ok71 (tabOk_nil _))
def ro60 : Nat → Bool := fun s => false
noncomputable def lp60_0 : LoopD := { gh := [], ps := [.s 0 (.imm (.sl (.int .u32))), .s 1 (.imm (.int .u32))], sh := ⟨[.s 7 (.imm (.int .u32)), .s 8 (.imm (.int .i64)), .a (.int .u32)], [(6, .cur 0 (.int .u32))], [.arr (.int .u32)]⟩, ws := [⟨.exit 0, ⟨[.s 7 (.imm (.int .u32)), .a (.int .u32)], [(6, .cur 0 (.int .u32))], [.arr (.int .u32)]⟩⟩], F := fun p s => nat_small_L0 p.1 p.2 s }
noncomputable def h60 : Hints := { loop := fun id => bif Nat.beq id 0 then some (lp60_0) else none, cut := fun k r => none, frz := fun r => bif Nat.beq r 7 then [6] else [] }
theorem lo60_0 : LoopOkK Tryz.prog Tryz.f60.ntmps (lp60_0) (lb 0 Tryz.f60) :=
  loop_ok (xid := XID) (ro := ro60) (H := h60) mixed (tabOk60) (loops_of (L := []) (by kernel_rfl) (lnil)) (fun p s => nat_small_R0 p.1 p.2 s) (fun p s => by kernel_rfl) (fun p s => rfl)
theorem ok60 : FnOk Tryz.prog 60 ⟨[.ty (.sl (.int .u32)), .ty (.int .u32)], [(.sl (.int .u32)), (.int .u32)], fun x => nat_small x.1 x.2⟩ :=
  fn_ok (xid := XID) (ro := ro60) (H := h60) (fn := Tryz.f60) (code := bodyOf Tryz.f60) mixed (tabOk60) Tryz.func60 rfl (by kernel_rfl) (loops_of (L := [(0, lb 0 Tryz.f60)]) (by kernel_rfl) (lcons rfl (lo60_0) (lnil))) (fun x => by kernel_rfl)
/-! 106: math/bits.Len32 -/
noncomputable def tab106 : Tab := []
theorem tabOk106 : TabOk Tryz.prog (tab106) := tabOk_nil _
def ro106 : Nat → Bool := fun s => false
noncomputable def h106 : Hints := { loop := fun id => none, cut := fun k r => bif Nat.beq k 3 && Nat.beq r 1 then some (.flat [.s 0 (.imm (.int .u32)), .s 2 (.imm (.int .i64))]) else bif Nat.beq k 3 && Nat.beq r 4 then some (.flat [.s 0 (.imm (.int .u32)), .s 2 (.imm (.int .i64))]) else none, frz := fun r => [] }
theorem ok106 : FnOk Tryz.prog 106 ⟨[.ty (.int .u32)], [(.int .i64)], fun x => math_bits_Len32 x⟩ :=
  fn_ok (xid := XID) (ro := ro106) (H := h106) (fn := Tryz.f106) (code := bodyOf Tryz.f106) mixed (tabOk106) Tryz.func106 rfl (by kernel_rfl) (loops_of (L := []) (by kernel_rfl) (lnil)) (fun x => by kernel_rfl)
/-! 94: math/bits.LeadingZeros32 -/
noncomputable def tab94 : Tab := [(106, .d ⟨[.ty (.int .u32)], [(.int .i64)], fun x => math_bits_Len32 x⟩)]
theorem tabOk94 : TabOk Tryz.prog (tab94) := tabOk_cons ok106 (tabOk_nil _)
def ro94 : Nat → Bool := fun s => false
noncomputable def h94 : Hints := { loop := fun id => none, cut := fun k r => none, frz := fun r => [] }
theorem ok94 : FnOk Tryz.prog 94 ⟨[.ty (.int .u32)], [(.int .i64)], fun x => math_bits_LeadingZeros32 x⟩ :=
  fn_ok (xid := XID) (ro := ro94) (H := h94) (fn := Tryz.f94) (code := bodyOf Tryz.f94) mixed (tabOk94) Tryz.func94 rfl (by kernel_rfl) (loops_of (L := []) (by kernel_rfl) (lnil)) (fun x => by kernel_rfl)
/-! 77: pantograph/nat.left -/
noncomputable def tab77 : Tab := []
theorem tabOk77 : TabOk Tryz.prog (tab77) := tabOk_nil _
def ro77 : Nat → Bool := fun s => false
noncomputable def lp77_0 : LoopD := { gh := [], ps := [.s 1 (.imm (.int .u64)), .s 2 (.imm (.int .i64)), .s 13 (.imm (.sl (.int .u32))), .s 14 (.imm (.int .i64))], sh := ⟨[.s 15 (.imm (.int .i64)), .a (.int .u32)], [(7, .cur 0 (.int .u32))], [.arr (.int .u32)]⟩, ws := [⟨.exit 0, ⟨[.a (.int .u32)], [(7, .cur 0 (.int .u32))], [.arr (.int .u32)]⟩⟩], F := fun p s => nat_left_S_L0 p.1 p.2.1 p.2.2.1 p.2.2.2 s }
noncomputable def h77 : Hints := { loop := fun id => bif Nat.beq id 0 then some (lp77_0) else none, cut := fun k r => none, frz := fun r => [] }
theorem lo77_0 : LoopOkK Tryz.prog Tryz.f77.ntmps (lp77_0) (lb 0 Tryz.f77) :=
  loop_ok (xid := XID) (ro := ro77) (H := h77) mixed (tabOk77) (loops_of (L := []) (by kernel_rfl) (lnil)) (fun p s => nat_left_S_R0 p.1 p.2.1 p.2.2.1 p.2.2.2 s) (fun p s => by kernel_rfl) (fun p s => rfl)
theorem ok77 : FnSOk Tryz.prog 77 ⟨[.any, .any, .any], ⟨[.s 0 (.imm (.sl (.int .u32))), .s 1 (.imm (.int .u64)), .s 2 (.imm (.int .i64))], [], []⟩, [], ⟨[.a (.int .u32)], [(0, .cur 0 (.int .u32))], [.arr (.int .u32)]⟩, 1, fun x => nat_left_S x.1 x.2.1 x.2.2⟩ :=
  fns_ok (xid := XID) (ro := ro77) (H := h77) (fn := Tryz.f77) (code := bodyOf Tryz.f77) mixed (tabOk77) Tryz.func77 rfl (by kernel_rfl) (loops_of (L := [(0, lb 0 Tryz.f77)]) (by kernel_rfl) (lcons rfl (lo77_0) (lnil))) (fun x => by kernel_rfl)
/-! 95: pantograph/nat.guess -/
noncomputable def tab95 : Tab := []
theorem tabOk95 : TabOk Tryz.prog (tab95) := tabOk_nil _
def ro95 : Nat → Bool := fun s => false
noncomputable def lp95_0 : LoopD := { gh := [], ps := [.s 2 (.imm (.int .u32)), .s 3 (.imm (.int .u32)), .s 4 (.imm (.int .u32))], sh := ⟨[.s 12 (.imm (.int .u64)), .s 13 (.imm (.int .u64))], [], []⟩, ws := [⟨.exit 0, ⟨[.s 12 (.imm (.int .u64))], [], []⟩⟩], F := fun p s => nat_guess_L0 p.1 p.2.1 p.2.2 s }
noncomputable def h95 : Hints := { loop := fun id => bif Nat.beq id 0 then some (lp95_0) else none, cut := fun k r => bif Nat.beq k 0 && Nat.beq r 3 then some (.flat [.s 42 (.imm .bool)]) else none, frz := fun r => [] }
theorem lo95_0 : LoopOkK Tryz.prog Tryz.f95.ntmps (lp95_0) (lb 0 Tryz.f95) :=
  loop_ok (xid := XID) (ro := ro95) (H := h95) mixed (tabOk95) (loops_of (L := []) (by kernel_rfl) (lnil)) (fun p s => nat_guess_R0 p.1 p.2.1 p.2.2 s) (fun p s => by kernel_rfl) (fun p s => rfl)
theorem ok95 : FnOk Tryz.prog 95 ⟨[.ty (.int .u32), .ty (.int .u32), .ty (.int .u32), .ty (.int .u32), .ty (.int .u32)], [(.int .u64)], fun x => nat_guess x.1 x.2.1 x.2.2.1 x.2.2.2.1 x.2.2.2.2⟩ :=
  fn_ok (xid := XID) (ro := ro95) (H := h95) (fn := Tryz.f95) (code := bodyOf Tryz.f95) mixed (tabOk95) Tryz.func95 rfl (by kernel_rfl) (loops_of (L := [(0, lb 0 Tryz.f95)]) (by kernel_rfl) (lcons rfl (lo95_0) (lnil))) (fun x => by kernel_rfl)
/-! 107: math/bits.Sub32 -/
noncomputable def tab107 : Tab := []
theorem tabOk107 : TabOk Tryz.prog (tab107) := tabOk_nil _
def ro107 : Nat → Bool := fun s => false
noncomputable def h107 : Hints := { loop := fun id => none, cut := fun k r => none, frz := fun r => [] }
theorem ok107 : FnOk Tryz.prog 107 ⟨[.ty (.int .u32), .ty (.int .u32), .ty (.int .u32)], [(.int .u32), (.int .u32)], fun x => math_bits_Sub32 x.1 x.2.1 x.2.2⟩ :=
  fn_ok (xid := XID) (ro := ro107) (H := h107) (fn := Tryz.f107) (code := bodyOf Tryz.f107) mixed (tabOk107) Tryz.func107 rfl (by kernel_rfl) (loops_of (L := []) (by kernel_rfl) (lnil)) (fun x => by kernel_rfl)
/-! 108: math/bits.Add32 -/
noncomputable def tab108 : Tab := []
theorem tabOk108 : TabOk Tryz.prog (tab108) := tabOk_nil _
def ro108 : Nat → Bool := fun s => false
noncomputable def h108 : Hints := { loop := fun id => none, cut := fun k r => none, frz := fun r => [] }
theorem ok108 : FnOk Tryz.prog 108 ⟨[.ty (.int .u32), .ty (.int .u32), .ty (.int .u32)], [(.int .u32), (.int .u32)], fun x => math_bits_Add32 x.1 x.2.1 x.2.2⟩ :=
  fn_ok (xid := XID) (ro := ro108) (H := h108) (fn := Tryz.f108) (code := bodyOf Tryz.f108) mixed (tabOk108) Tryz.func108 rfl (by kernel_rfl) (loops_of (L := []) (by kernel_rfl) (lnil)) (fun x => by kernel_rfl)
/-! 96: pantograph/nat.takes -/
noncomputable def tab96 : Tab := [(107, .d ⟨[.ty (.int .u32), .ty (.int .u32), .ty (.int .u32)], [(.int .u32), (.int .u32)], fun x => math_bits_Sub32 x.1 x.2.1 x.2.2⟩), (108, .d ⟨[.ty (.int .u32), .ty (.int .u32), .ty (.int .u32)], [(.int .u32), (.int .u32)], fun x => math_bits_Add32 x.1 x.2.1 x.2.2⟩)]
theorem tabOk96 : TabOk Tryz.prog (tab96) := tabOk_cons ok107 (tabOk_cons ok108 (tabOk_nil _))
def ro96 : Nat → Bool := fun s => false
noncomputable def lp96_0 : LoopD := { gh := [], ps := [.s 1 (.imm (.sl (.int .u32))), .s 2 (.imm (.int .u64)), .s 14 (.imm (.sl (.int .u32))), .s 15 (.imm (.int .i64))], sh := ⟨[.s 0 (.sub 0 (.int .u32)), .s 7 (.imm (.int .u64)), .s 8 (.imm (.int .u32)), .s 16 (.imm (.int .i64)), .a (.int .u32)], [], [.arr (.int .u32)]⟩, ws := [⟨.exit 0, ⟨[.s 0 (.sub 0 (.int .u32)), .s 7 (.imm (.int .u64)), .s 8 (.imm (.int .u32)), .a (.int .u32)], [], [.arr (.int .u32)]⟩⟩], F := fun p s => nat_takes_S_L0 p.1 p.2.1 p.2.2.1 p.2.2.2 s }
noncomputable def lp96_2 : LoopD := { gh := [], ps := [.s 1 (.imm (.sl (.int .u32))), .s 62 (.imm (.sl (.int .u32))), .s 63 (.imm (.int .i64))], sh := ⟨[.s 0 (.sub 0 (.int .u32)), .s 11 (.imm (.int .u32)), .s 64 (.imm (.int .i64)), .a (.int .u32)], [], [.arr (.int .u32)]⟩, ws := [⟨.exit 2, ⟨[.s 0 (.sub 0 (.int .u32)), .s 11 (.imm (.int .u32)), .a (.int .u32)], [], [.arr (.int .u32)]⟩⟩], F := fun p s => nat_takes_S_L1 p.1 p.2.1 p.2.2 s }
noncomputable def h96 : Hints := { loop := fun id => bif Nat.beq id 0 then some (lp96_0) else bif Nat.beq id 2 then some (lp96_2) else none, cut := fun k r => none, frz := fun r => [] }
theorem lo96_0 : LoopOkK Tryz.prog Tryz.f96.ntmps (lp96_0) (lb 0 Tryz.f96) :=
  loop_ok (xid := XID) (ro := ro96) (H := h96) mixed (tabOk96) (loops_of (L := []) (by kernel_rfl) (lnil)) (fun p s => nat_takes_S_R0 p.1 p.2.1 p.2.2.1 p.2.2.2 s) (fun p s => by kernel_rfl) (fun p s => rfl)
theorem lo96_2 : LoopOkK Tryz.prog Tryz.f96.ntmps (lp96_2) (lb 2 Tryz.f96) :=
  loop_ok (xid := XID) (ro := ro96) (H := h96) mixed (tabOk96) (loops_of (L := []) (by kernel_rfl) (lnil)) (fun p s => nat_takes_S_R1 p.1 p.2.1 p.2.2 s) (fun p s => by kernel_rfl) (fun p s => rfl)
theorem ok96 : FnSOk Tryz.prog 96 ⟨[.sub, .any, .any], ⟨[.s 0 (.sub 0 (.int .u32)), .s 1 (.imm (.sl (.int .u32))), .s 2 (.imm (.int .u64)), .a (.int .u32)], [], [.arr (.int .u32)]⟩, [], ⟨[.s 0 (.imm .bool), .a (.int .u32)], [], [.arr (.int .u32)]⟩, 1, fun x => nat_takes_S x.1 x.2.1 x.2.2.1 x.2.2.2⟩ :=
  fns_ok (xid := XID) (ro := ro96) (H := h96) (fn := Tryz.f96) (code := bodyOf Tryz.f96) mixed (tabOk96) Tryz.func96 rfl (by kernel_rfl) (loops_of (L := [(0, lb 0 Tryz.f96), (2, lb 2 Tryz.f96)]) (by kernel_rfl) (lcons rfl (lo96_0) (lcons rfl (lo96_2) (lnil)))) (fun x => by kernel_rfl)
/-! 77: pantograph/nat.left -/
noncomputable def tab77_1 : Tab := []
theorem tabOk77_1 : TabOk Tryz.prog (tab77_1) := tabOk_nil _
def ro77_1 : Nat → Bool := fun s => false
noncomputable def lp77_1_0 : LoopD := { gh := [], ps := [.s 1 (.imm (.int .u64)), .s 2 (.imm (.int .i64)), .s 13 (.imm (.sl (.int .u32))), .s 14 (.imm (.int .i64))], sh := ⟨[.s 15 (.imm (.int .i64)), .a (.int .u32)], [(7, .cur 0 (.int .u32))], [.arr (.int .u32)]⟩, ws := [⟨.exit 0, ⟨[.a (.int .u32)], [(7, .cur 0 (.int .u32))], [.arr (.int .u32)]⟩⟩], F := fun p s => nat_left_L0 p.1 p.2.1 p.2.2.1 p.2.2.2 s }
noncomputable def h77_1 : Hints := { loop := fun id => bif Nat.beq id 0 then some (lp77_1_0) else none, cut := fun k r => none, frz := fun r => [] }
theorem lo77_1_0 : LoopOkK Tryz.prog Tryz.f77.ntmps (lp77_1_0) (lb 0 Tryz.f77) :=
  loop_ok (xid := XID) (ro := ro77_1) (H := h77_1) mixed (tabOk77_1) (loops_of (L := []) (by kernel_rfl) (lnil)) (fun p s => nat_left_R0 p.1 p.2.1 p.2.2.1 p.2.2.2 s) (fun p s => by kernel_rfl) (fun p s => rfl)
theorem ok77_1 : FnOk Tryz.prog 77 ⟨[.ty (.sl (.int .u32)), .ty (.int .u64), .ty (.int .i64)], [(.sl (.int .u32))], fun x => nat_left x.1 x.2.1 x.2.2⟩ :=
  fn_ok (xid := XID) (ro := ro77_1) (H := h77_1) (fn := Tryz.f77) (code := bodyOf Tryz.f77) mixed (tabOk77_1) Tryz.func77 rfl (by kernel_rfl) (loops_of (L := [(0, lb 0 Tryz.f77)]) (by kernel_rfl) (lcons rfl (lo77_1_0) (lnil))) (fun x => by kernel_rfl)
/-! 58: pantograph/nat.Shift -/
noncomputable def tab58 : Tab := [(71, .d ⟨[.ty (.sl (.int .u32))], [(.sl (.int .u32))], fun x => nat_trim x⟩), (77, .d ⟨[.ty (.sl (.int .u32)), .ty (.int .u64), .ty (.int .i64)], [(.sl (.int .u32))], fun x => nat_left x.1 x.2.1 x.2.2⟩)]
theorem tabOk58 : TabOk Tryz.prog (tab58) := tabOk_cons ok71 (tabOk_cons ok77_1 (tabOk_nil _))
def ro58 : Nat → Bool := fun s => false
noncomputable def lp58_0 : LoopD := { gh := [], ps := [.s 6 (.imm (.int .u64)), .s 38 (.imm (.sl (.int .u32))), .s 39 (.imm (.int .i64))], sh := ⟨[.s 40 (.imm (.int .i64)), .a (.int .u32)], [(7, .cur 0 (.int .u32))], [.arr (.int .u32)]⟩, ws := [⟨.exit 0, ⟨[.a (.int .u32)], [(7, .cur 0 (.int .u32))], [.arr (.int .u32)]⟩⟩], F := fun p s => nat_Shift_L0 p.1 p.2.1 p.2.2 s }
noncomputable def h58 : Hints := { loop := fun id => bif Nat.beq id 0 then some (lp58_0) else none, cut := fun k r => none, frz := fun r => bif Nat.beq r 21 then [12] else bif Nat.beq r 17 then [7] else [] }
theorem lo58_0 : LoopOkK Tryz.prog Tryz.f58.ntmps (lp58_0) (lb 0 Tryz.f58) :=
  loop_ok (xid := XID) (ro := ro58) (H := h58) mixed (tabOk58) (loops_of (L := []) (by kernel_rfl) (lnil)) (fun p s => nat_Shift_R0 p.1 p.2.1 p.2.2 s) (fun p s => by kernel_rfl) (fun p s => rfl)
theorem ok58 : FnOk Tryz.prog 58 ⟨[.ty (.sl (.int .u32)), .ty (.int .i64)], [(.sl (.int .u32))], fun x => nat_Shift x.1 x.2⟩ :=
  fn_ok (xid := XID) (ro := ro58) (H := h58) (fn := Tryz.f58) (code := bodyOf Tryz.f58) mixed (tabOk58) Tryz.func58 rfl (by kernel_rfl) (loops_of (L := [(0, lb 0 Tryz.f58)]) (by kernel_rfl) (lcons rfl (lo58_0) (lnil))) (fun x => by kernel_rfl)
/-! 73: pantograph/nat.long -/
noncomputable def tab73 : Tab := [(77, .s ⟨[.any, .any, .any], ⟨[.s 0 (.imm (.sl (.int .u32))), .s 1 (.imm (.int .u64)), .s 2 (.imm (.int .i64))], [], []⟩, [], ⟨[.a (.int .u32)], [(0, .cur 0 (.int .u32))], [.arr (.int .u32)]⟩, 1, fun x => nat_left_S x.1 x.2.1 x.2.2⟩), (96, .s ⟨[.sub, .any, .any], ⟨[.s 0 (.sub 0 (.int .u32)), .s 1 (.imm (.sl (.int .u32))), .s 2 (.imm (.int .u64)), .a (.int .u32)], [], [.arr (.int .u32)]⟩, [], ⟨[.s 0 (.imm .bool), .a (.int .u32)], [], [.arr (.int .u32)]⟩, 1, fun x => nat_takes_S x.1 x.2.1 x.2.2.1 x.2.2.2⟩), (94, .d ⟨[.ty (.int .u32)], [(.int .i64)], fun x => math_bits_LeadingZeros32 x⟩), (95, .d ⟨[.ty (.int .u32), .ty (.int .u32), .ty (.int .u32), .ty (.int .u32), .ty (.int .u32)], [(.int .u64)], fun x => nat_guess x.1 x.2.1 x.2.2.1 x.2.2.2.1 x.2.2.2.2⟩), (71, .d ⟨[.ty (.sl (.int .u32))], [(.sl (.int .u32))], fun x => nat_trim x⟩), (58, .d ⟨[.ty (.sl (.int .u32)), .ty (.int .i64)], [(.sl (.int .u32))], fun x => nat_Shift x.1 x.2⟩)]
theorem tabOk73 : TabOk Tryz.prog (tab73) := tabOk_consS ok77 (tabOk_consS ok96 (tabOk_cons ok94 (tabOk_cons ok95 (tabOk_cons ok71 (tabOk_cons ok58 (tabOk_nil _))))))
def ro73 : Nat → Bool := fun s => false
noncomputable def lp73_0 : LoopD := { gh := [], ps := [.s 6 (.imm (.int .u64)), .s 8 (.imm (.sl (.int .u32))), .s 9 (.imm (.int .i64))], sh := ⟨[.s 10 (.imm (.int .i64)), .a (.int .u32), .a (.int .u32)], [(4, .cur 2 (.int .u32)), (7, .cur 0 (.int .u32))], [.arr (.int .u32), .dead, .arr (.int .u32)]⟩, ws := [⟨.exit 0, ⟨[.a (.int .u32), .a (.int .u32)], [(4, .cur 2 (.int .u32)), (7, .cur 0 (.int .u32))], [.arr (.int .u32), .dead, .arr (.int .u32)]⟩⟩], F := fun p s => nat_long_L0 p.1 p.2.1 p.2.2 s }
noncomputable def h73 : Hints := { loop := fun id => bif Nat.beq id 0 then some (lp73_0) else none, cut := fun k r => bif Nat.beq k 3 && Nat.beq r 9 then some (.ways [⟨.normal, ⟨[.s 11 (.imm (.int .u64)), .a (.int .u32), .a (.int .u32)], [(4, .cur 2 (.int .u32)), (7, .cur 0 (.int .u32))], [.arr (.int .u32), .dead, .arr (.int .u32)]⟩⟩]) else none, frz := fun r => bif Nat.beq r 12 then [4, 7] else bif Nat.beq r 5 then [8] else [] }
theorem lo73_0 : LoopOkK Tryz.prog Tryz.f73.ntmps (lp73_0) (lb 0 Tryz.f73) :=
  loop_ok (xid := XID) (ro := ro73) (H := h73) mixed (tabOk73) (loops_of (L := []) (by kernel_rfl) (lnil)) (fun p s => nat_long_R0 p.1 p.2.1 p.2.2 s) (fun p s => by kernel_rfl) (fun p s => rfl)
theorem ok73 : FnOk Tryz.prog 73 ⟨[.ty (.sl (.int .u32)), .ty (.sl (.int .u32))], [(.sl (.int .u32)), (.sl (.int .u32))], fun x => nat_long x.1 x.2⟩ :=
  fn_ok (xid := XID) (ro := ro73) (H := h73) (fn := Tryz.f73) (code := bodyOf Tryz.f73) mixed (tabOk73) Tryz.func73 rfl (by kernel_rfl) (loops_of (L := [(0, lb 0 Tryz.f73)]) (by kernel_rfl) (lcons rfl (lo73_0) (lnil))) (fun x => by kernel_rfl)
/-! 52: pantograph/nat.DivMod -/
noncomputable def tab52 : Tab := [(71, .d ⟨[.ty (.sl (.int .u32))], [(.sl (.int .u32))], fun x => nat_trim x⟩), (57, .d ⟨[.ty (.sl (.int .u32)), .ty (.sl (.int .u32))], [(.int .i64)], fun x => nat_Cmp x.1 x.2⟩), (50, .d ⟨[.ty (.sl (.int .u32))], [(.sl (.int .u32))], fun x => nat_Trim x⟩), (60, .d ⟨[.ty (.sl (.int .u32)), .ty (.int .u32)], [(.sl (.int .u32)), (.int .u32)], fun x => nat_small x.1 x.2⟩), (49, .d ⟨[.ty (.int .u64)], [(.sl (.int .u32))], fun x => nat_Of x⟩), (73, .d ⟨[.ty (.sl (.int .u32)), .ty (.sl (.int .u32))], [(.sl (.int .u32)), (.sl (.int .u32))], fun x => nat_long x.1 x.2⟩)]
theorem tabOk52 : TabOk Tryz.prog (tab52) := tabOk_cons ok71 (tabOk_cons ok57 (tabOk_cons ok50 (tabOk_cons ok60 (tabOk_cons ok49 (tabOk_cons ok73 (tabOk_nil _))))))
def ro52 : Nat → Bool := fun s => false
noncomputable def h52 : Hints := { loop := fun id => none, cut := fun k r => none, frz := fun r => [] }
theorem ok52 : FnOk Tryz.prog 52 ⟨[.ty (.sl (.int .u32)), .ty (.sl (.int .u32))], [(.sl (.int .u32)), (.sl (.int .u32)), .bool], fun x => nat_DivMod x.1 x.2⟩ :=
  fn_ok (xid := XID) (ro := ro52) (H := h52) (fn := Tryz.f52) (code := bodyOf Tryz.f52) mixed (tabOk52) Tryz.func52 rfl (by kernel_rfl) (loops_of (L := []) (by kernel_rfl) (lnil)) (fun x => by kernel_rfl)
/-! 51: pantograph/nat.Gcd -/
noncomputable def tab51 : Tab := [(50, .d ⟨[.ty (.sl (.int .u32))], [(.sl (.int .u32))], fun x => nat_Trim x⟩), (52, .d ⟨[.ty (.sl (.int .u32)), .ty (.sl (.int .u32))], [(.sl (.int .u32)), (.sl (.int .u32)), .bool], fun x => nat_DivMod x.1 x.2⟩)]
theorem tabOk51 : TabOk Tryz.prog (tab51) := tabOk_cons ok50 (tabOk_cons ok52 (tabOk_nil _))
def ro51 : Nat → Bool := fun s => false
noncomputable def lp51_0 : LoopD := { gh := [], ps := [], sh := ⟨[.s 0 (.imm (.sl (.int .u32))), .s 1 (.imm (.sl (.int .u32)))], [], []⟩, ws := [⟨.exit 0, ⟨[.s 0 (.imm (.sl (.int .u32)))], [], []⟩⟩], F := fun p s => nat_Gcd_L0  s }
noncomputable def h51 : Hints := { loop := fun id => bif Nat.beq id 0 then some (lp51_0) else none, cut := fun k r => none, frz := fun r => [] }
theorem lo51_0 : LoopOkK Tryz.prog Tryz.f51.ntmps (lp51_0) (lb 0 Tryz.f51) :=
  loop_ok (xid := XID) (ro := ro51) (H := h51) mixed (tabOk51) (loops_of (L := []) (by kernel_rfl) (lnil)) (fun p s => nat_Gcd_R0  s) (fun p s => by kernel_rfl) (fun p s => rfl)
theorem ok51 : FnOk Tryz.prog 51 ⟨[.ty (.sl (.int .u32)), .ty (.sl (.int .u32))], [(.sl (.int .u32))], fun x => nat_Gcd x.1 x.2⟩ :=
  fn_ok (xid := XID) (ro := ro51) (H := h51) (fn := Tryz.f51) (code := bodyOf Tryz.f51) mixed (tabOk51) Tryz.func51 rfl (by kernel_rfl) (loops_of (L := [(0, lb 0 Tryz.f51)]) (by kernel_rfl) (lcons rfl (lo51_0) (lnil))) (fun x => by kernel_rfl)
/-! 23: pantograph/rat.Of -/
noncomputable def tab23 : Tab := [(50, .d ⟨[.ty (.sl (.int .u32))], [(.sl (.int .u32))], fun x => nat_Trim x⟩), (49, .d ⟨[.ty (.int .u64)], [(.sl (.int .u32))], fun x => nat_Of x⟩), (51, .d ⟨[.ty (.sl (.int .u32)), .ty (.sl (.int .u32))], [(.sl (.int .u32))], fun x => nat_Gcd x.1 x.2⟩), (52, .d ⟨[.ty (.sl (.int .u32)), .ty (.sl (.int .u32))], [(.sl (.int .u32)), (.sl (.int .u32)), .bool], fun x => nat_DivMod x.1 x.2⟩)]
theorem tabOk23 : TabOk Tryz.prog (tab23) := tabOk_cons ok50 (tabOk_cons ok49 (tabOk_cons ok51 (tabOk_cons ok52 (tabOk_nil _))))
def ro23 : Nat → Bool := fun s => false
noncomputable def h23 : Hints := { loop := fun id => none, cut := fun k r => bif Nat.beq k 0 && Nat.beq r 2 then some (.flat [.s 19 (.imm .bool)]) else none, frz := fun r => [] }
theorem ok23 : FnOk Tryz.prog 23 ⟨[.ty .bool, .ty (.sl (.int .u32)), .ty (.sl (.int .u32))], [tyRat], fun x => rat_Of x.1 x.2.1 x.2.2⟩ :=
  fn_ok (xid := XID) (ro := ro23) (H := h23) (fn := Tryz.f23) (code := bodyOf Tryz.f23) mixed (tabOk23) Tryz.func23 rfl (by kernel_rfl) (loops_of (L := []) (by kernel_rfl) (lnil)) (fun x => by kernel_rfl)
/-! 34: pantograph/rat.Norm -/
noncomputable def tab34 : Tab := [(23, .d ⟨[.ty .bool, .ty (.sl (.int .u32)), .ty (.sl (.int .u32))], [tyRat], fun x => rat_Of x.1 x.2.1 x.2.2⟩)]
theorem tabOk34 : TabOk Tryz.prog (tab34) := tabOk_cons ok23 (tabOk_nil _)
def ro34 : Nat → Bool := fun s => Nat.beq s 1
noncomputable def h34 : Hints := { loop := fun id => none, cut := fun k r => none, frz := fun r => [] }
theorem ok34 : FnOk Tryz.prog 34 ⟨[.ty tyRat], [tyRat], fun x => rat_Norm x⟩ :=
  fn_ok (xid := XID) (ro := ro34) (H := h34) (fn := Tryz.f34) (code := bodyOf Tryz.f34) mixed (tabOk34) Tryz.func34 rfl (by kernel_rfl) (loops_of (L := []) (by kernel_rfl) (lnil)) (fun x => by kernel_rfl)
/-! 35: pantograph/dec.held -/
noncomputable def tab35 : Tab := []
theorem tabOk35 : TabOk Tryz.prog (tab35) := tabOk_nil _
def ro35 : Nat → Bool := fun s => false
noncomputable def h35 : Hints := { loop := fun id => none, cut := fun k r => none, frz := fun r => [] }
theorem ok35 : FnOk Tryz.prog 35 ⟨[.ty (.int .i64)], [(.int .i64)], fun x => dec_held x⟩ :=
  fn_ok (xid := XID) (ro := ro35) (H := h35) (fn := Tryz.f35) (code := bodyOf Tryz.f35) mixed (tabOk35) Tryz.func35 rfl (by kernel_rfl) (loops_of (L := []) (by kernel_rfl) (lnil)) (fun x => by kernel_rfl)
/-! 48: pantograph/nat.Mul -/
noncomputable def tab48 : Tab := [(71, .d ⟨[.ty (.sl (.int .u32))], [(.sl (.int .u32))], fun x => nat_trim x⟩)]
theorem tabOk48 : TabOk Tryz.prog (tab48) := tabOk_cons ok71 (tabOk_nil _)
def ro48 : Nat → Bool := fun s => false
noncomputable def lp48_2 : LoopD := { gh := [], ps := [.s 1 (.imm (.sl (.int .u32))), .s 6 (.imm (.int .i64)), .s 7 (.imm (.int .u32)), .s 21 (.imm (.sl (.int .u32))), .s 22 (.imm (.int .i64)), .s 23 (.imm (.int .i64)), .s 28 (.imm (.sl (.int .u32))), .s 29 (.imm (.int .i64))], sh := ⟨[.s 8 (.imm (.int .u64)), .s 30 (.imm (.int .i64)), .a (.int .u32)], [(5, .cur 0 (.int .u32))], [.arr (.int .u32)]⟩, ws := [⟨.exit 2, ⟨[.s 8 (.imm (.int .u64)), .a (.int .u32)], [(5, .cur 0 (.int .u32))], [.arr (.int .u32)]⟩⟩], F := fun p s => nat_Mul_L1 p.1 p.2.1 p.2.2.1 p.2.2.2.1 p.2.2.2.2.1 p.2.2.2.2.2.1 p.2.2.2.2.2.2.1 p.2.2.2.2.2.2.2 s }
noncomputable def lp48_0 : LoopD := { gh := [], ps := [.s 1 (.imm (.sl (.int .u32))), .s 21 (.imm (.sl (.int .u32))), .s 22 (.imm (.int .i64))], sh := ⟨[.s 23 (.imm (.int .i64)), .a (.int .u32)], [(5, .cur 0 (.int .u32))], [.arr (.int .u32)]⟩, ws := [⟨.exit 0, ⟨[.a (.int .u32)], [(5, .cur 0 (.int .u32))], [.arr (.int .u32)]⟩⟩], F := fun p s => nat_Mul_L0 p.1 p.2.1 p.2.2 s }
noncomputable def h48 : Hints := { loop := fun id => bif Nat.beq id 2 then some (lp48_2) else bif Nat.beq id 0 then some (lp48_0) else none, cut := fun k r => none, frz := fun r => bif Nat.beq r 16 then [5] else [] }
theorem lo48_2 : LoopOkK Tryz.prog Tryz.f48.ntmps (lp48_2) (lb 2 Tryz.f48) :=
  loop_ok (xid := XID) (ro := ro48) (H := h48) mixed (tabOk48) (loops_of (L := []) (by kernel_rfl) (lnil)) (fun p s => nat_Mul_R1 p.1 p.2.1 p.2.2.1 p.2.2.2.1 p.2.2.2.2.1 p.2.2.2.2.2.1 p.2.2.2.2.2.2.1 p.2.2.2.2.2.2.2 s) (fun p s => by kernel_rfl) (fun p s => rfl)
theorem lo48_0 : LoopOkK Tryz.prog Tryz.f48.ntmps (lp48_0) (lb 0 Tryz.f48) :=
  loop_ok (xid := XID) (ro := ro48) (H := h48) mixed (tabOk48) (loops_of (L := [(2, lb 2 Tryz.f48)]) (by kernel_rfl) (lcons rfl (lo48_2) (lnil))) (fun p s => nat_Mul_R0 p.1 p.2.1 p.2.2 s) (fun p s => by kernel_rfl) (fun p s => rfl)
theorem ok48 : FnOk Tryz.prog 48 ⟨[.ty (.sl (.int .u32)), .ty (.sl (.int .u32))], [(.sl (.int .u32))], fun x => nat_Mul x.1 x.2⟩ :=
  fn_ok (xid := XID) (ro := ro48) (H := h48) (fn := Tryz.f48) (code := bodyOf Tryz.f48) mixed (tabOk48) Tryz.func48 rfl (by kernel_rfl) (loops_of (L := [(0, lb 0 Tryz.f48)]) (by kernel_rfl) (lcons rfl (lo48_0) (lnil))) (fun x => by kernel_rfl)
/-! 24: pantograph/dec.ten -/
noncomputable def tab24 : Tab := [(49, .d ⟨[.ty (.int .u64)], [(.sl (.int .u32))], fun x => nat_Of x⟩), (48, .d ⟨[.ty (.sl (.int .u32)), .ty (.sl (.int .u32))], [(.sl (.int .u32))], fun x => nat_Mul x.1 x.2⟩)]
theorem tabOk24 : TabOk Tryz.prog (tab24) := tabOk_cons ok49 (tabOk_cons ok48 (tabOk_nil _))
def ro24 : Nat → Bool := fun s => false
noncomputable def lp24_0 : LoopD := { gh := [], ps := [.s 5 (.imm (.int .i64))], sh := ⟨[.s 3 (.imm (.sl (.int .u32))), .s 6 (.imm (.int .i64))], [], []⟩, ws := [⟨.exit 0, ⟨[.s 3 (.imm (.sl (.int .u32)))], [], []⟩⟩], F := fun p s => dec_ten_L0 p s }
noncomputable def h24 : Hints := { loop := fun id => bif Nat.beq id 0 then some (lp24_0) else none, cut := fun k r => none, frz := fun r => [] }
theorem lo24_0 : LoopOkK Tryz.prog Tryz.f24.ntmps (lp24_0) (lb 0 Tryz.f24) :=
  loop_ok (xid := XID) (ro := ro24) (H := h24) mixed (tabOk24) (loops_of (L := []) (by kernel_rfl) (lnil)) (fun p s => dec_ten_R0 p s) (fun p s => by kernel_rfl) (fun p s => rfl)
theorem ok24 : FnOk Tryz.prog 24 ⟨[.ty (.int .i64)], [(.sl (.int .u32))], fun x => dec_ten x⟩ :=
  fn_ok (xid := XID) (ro := ro24) (H := h24) (fn := Tryz.f24) (code := bodyOf Tryz.f24) mixed (tabOk24) Tryz.func24 rfl (by kernel_rfl) (loops_of (L := [(0, lb 0 Tryz.f24)]) (by kernel_rfl) (lcons rfl (lo24_0) (lnil))) (fun x => by kernel_rfl)
/-! 47: pantograph/nat.Add -/
noncomputable def tab47 : Tab := [(71, .d ⟨[.ty (.sl (.int .u32))], [(.sl (.int .u32))], fun x => nat_trim x⟩)]
theorem tabOk47 : TabOk Tryz.prog (tab47) := tabOk_cons ok71 (tabOk_nil _)
def ro47 : Nat → Bool := fun s => false
noncomputable def lp47_0 : LoopD := { gh := [], ps := [.s 0 (.imm (.sl (.int .u32))), .s 1 (.imm (.sl (.int .u32))), .s 24 (.imm (.sl (.int .u32))), .s 25 (.imm (.int .i64))], sh := ⟨[.s 6 (.imm (.int .u64)), .s 26 (.imm (.int .i64)), .a (.int .u32)], [(5, .cur 0 (.int .u32))], [.arr (.int .u32)]⟩, ws := [⟨.exit 0, ⟨[.s 6 (.imm (.int .u64)), .a (.int .u32)], [(5, .cur 0 (.int .u32))], [.arr (.int .u32)]⟩⟩], F := fun p s => nat_Add_L0 p.1 p.2.1 p.2.2.1 p.2.2.2 s }
noncomputable def h47 : Hints := { loop := fun id => bif Nat.beq id 0 then some (lp47_0) else none, cut := fun k r => bif Nat.beq k 3 && Nat.beq r 2 then some (.flat [.s 0 (.imm (.sl (.int .u32))), .s 1 (.imm (.sl (.int .u32)))]) else bif Nat.beq k 3 && Nat.beq r 10 then some (.flat [.s 6 (.imm (.int .u64))]) else none, frz := fun r => bif Nat.beq r 16 then [5] else [] }
theorem lo47_0 : LoopOkK Tryz.prog Tryz.f47.ntmps (lp47_0) (lb 0 Tryz.f47) :=
  loop_ok (xid := XID) (ro := ro47) (H := h47) mixed (tabOk47) (loops_of (L := []) (by kernel_rfl) (lnil)) (fun p s => nat_Add_R0 p.1 p.2.1 p.2.2.1 p.2.2.2 s) (fun p s => by kernel_rfl) (fun p s => rfl)
theorem ok47 : FnOk Tryz.prog 47 ⟨[.ty (.sl (.int .u32)), .ty (.sl (.int .u32))], [(.sl (.int .u32))], fun x => nat_Add x.1 x.2⟩ :=
  fn_ok (xid := XID) (ro := ro47) (H := h47) (fn := Tryz.f47) (code := bodyOf Tryz.f47) mixed (tabOk47) Tryz.func47 rfl (by kernel_rfl) (loops_of (L := [(0, lb 0 Tryz.f47)]) (by kernel_rfl) (lcons rfl (lo47_0) (lnil))) (fun x => by kernel_rfl)
/-! 36: pantograph/dec.units -/
noncomputable def tab36 : Tab := [(24, .d ⟨[.ty (.int .i64)], [(.sl (.int .u32))], fun x => dec_ten x⟩), (48, .d ⟨[.ty (.sl (.int .u32)), .ty (.sl (.int .u32))], [(.sl (.int .u32))], fun x => nat_Mul x.1 x.2⟩), (52, .d ⟨[.ty (.sl (.int .u32)), .ty (.sl (.int .u32))], [(.sl (.int .u32)), (.sl (.int .u32)), .bool], fun x => nat_DivMod x.1 x.2⟩), (58, .d ⟨[.ty (.sl (.int .u32)), .ty (.int .i64)], [(.sl (.int .u32))], fun x => nat_Shift x.1 x.2⟩), (57, .d ⟨[.ty (.sl (.int .u32)), .ty (.sl (.int .u32))], [(.int .i64)], fun x => nat_Cmp x.1 x.2⟩), (49, .d ⟨[.ty (.int .u64)], [(.sl (.int .u32))], fun x => nat_Of x⟩), (47, .d ⟨[.ty (.sl (.int .u32)), .ty (.sl (.int .u32))], [(.sl (.int .u32))], fun x => nat_Add x.1 x.2⟩)]
theorem tabOk36 : TabOk Tryz.prog (tab36) := tabOk_cons ok24 (tabOk_cons ok48 (tabOk_cons ok52 (tabOk_cons ok58 (tabOk_cons ok57 (tabOk_cons ok49 (tabOk_cons ok47 (tabOk_nil _)))))))
def ro36 : Nat → Bool := fun s => Nat.beq s 2
noncomputable def h36 : Hints := { loop := fun id => none, cut := fun k r => bif Nat.beq k 0 && Nat.beq r 3 then some (.flat [.s 43 (.imm .bool)]) else none, frz := fun r => [] }
theorem ok36 : FnOk Tryz.prog 36 ⟨[.ty tyRat, .ty (.int .i64)], [(.sl (.int .u32))], fun x => dec_units x.1 x.2⟩ :=
  fn_ok (xid := XID) (ro := ro36) (H := h36) (fn := Tryz.f36) (code := bodyOf Tryz.f36) mixed (tabOk36) Tryz.func36 rfl (by kernel_rfl) (loops_of (L := []) (by kernel_rfl) (lnil)) (fun x => by kernel_rfl)
/-! 12: pantograph/dec.Round -/
noncomputable def tab12 : Tab := [(34, .d ⟨[.ty tyRat], [tyRat], fun x => rat_Norm x⟩), (35, .d ⟨[.ty (.int .i64)], [(.int .i64)], fun x => dec_held x⟩), (36, .d ⟨[.ty tyRat, .ty (.int .i64)], [(.sl (.int .u32))], fun x => dec_units x.1 x.2⟩), (24, .d ⟨[.ty (.int .i64)], [(.sl (.int .u32))], fun x => dec_ten x⟩), (23, .d ⟨[.ty .bool, .ty (.sl (.int .u32)), .ty (.sl (.int .u32))], [tyRat], fun x => rat_Of x.1 x.2.1 x.2.2⟩)]
theorem tabOk12 : TabOk Tryz.prog (tab12) := tabOk_cons ok34 (tabOk_cons ok35 (tabOk_cons ok36 (tabOk_cons ok24 (tabOk_cons ok23 (tabOk_nil _)))))
def ro12 : Nat → Bool := fun s => false
noncomputable def h12 : Hints := { loop := fun id => none, cut := fun k r => none, frz := fun r => [] }
theorem ok12 : FnOk Tryz.prog 12 ⟨[.ty tyRat, .ty (.int .i64)], [tyRat], fun x => dec_Round x.1 x.2⟩ :=
  fn_ok (xid := XID) (ro := ro12) (H := h12) (fn := Tryz.f12) (code := bodyOf Tryz.f12) mixed (tabOk12) Tryz.func12 rfl (by kernel_rfl) (loops_of (L := []) (by kernel_rfl) (lnil)) (fun x => by kernel_rfl)
/-! 54: pantograph/pantographref1.Trim -/
noncomputable def tab54 : Tab := []
theorem tabOk54 : TabOk Tryz.prog (tab54) := tabOk_nil _
def ro54 : Nat → Bool := fun s => false
noncomputable def lp54_0 : LoopD := { gh := [], ps := [.s 0 (.imm (.sl (.int .u32)))], sh := ⟨[.s 3 (.imm (.int .i64))], [], []⟩, ws := [⟨.exit 0, ⟨[.s 3 (.imm (.int .i64))], [], []⟩⟩], F := fun p s => ref1_Trim_L0 p s }
noncomputable def h54 : Hints := { loop := fun id => bif Nat.beq id 0 then some (lp54_0) else none, cut := fun k r => bif Nat.beq k 0 && Nat.beq r 2 then some (.flat [.s 15 (.imm .bool)]) else none, frz := fun r => [] }
theorem lo54_0 : LoopOkK Tryz.prog Tryz.f54.ntmps (lp54_0) (lb 0 Tryz.f54) :=
  loop_ok (xid := XID) (ro := ro54) (H := h54) mixed (tabOk54) (loops_of (L := []) (by kernel_rfl) (lnil)) (fun p s => ref1_Trim_R0 p s) (fun p s => by kernel_rfl) (fun p s => rfl)
theorem ok54 : FnOk Tryz.prog 54 ⟨[.ty (.sl (.int .u32))], [(.sl (.int .u32))], fun x => ref1_Trim x⟩ :=
  fn_ok (xid := XID) (ro := ro54) (H := h54) (fn := Tryz.f54) (code := bodyOf Tryz.f54) mixed (tabOk54) Tryz.func54 rfl (by kernel_rfl) (loops_of (L := [(0, lb 0 Tryz.f54)]) (by kernel_rfl) (lcons rfl (lo54_0) (lnil))) (fun x => by kernel_rfl)
/-! 37: pantograph/pantographref1.Of -/
noncomputable def tab37 : Tab := [(54, .d ⟨[.ty (.sl (.int .u32))], [(.sl (.int .u32))], fun x => ref1_Trim x⟩)]
theorem tabOk37 : TabOk Tryz.prog (tab37) := tabOk_cons ok54 (tabOk_nil _)
def ro37 : Nat → Bool := fun s => false
noncomputable def h37 : Hints := { loop := fun id => none, cut := fun k r => none, frz := fun r => [] }
theorem ok37 : FnOk Tryz.prog 37 ⟨[.ty (.int .u64)], [(.sl (.int .u32))], fun x => ref1_Of x⟩ :=
  fn_ok (xid := XID) (ro := ro37) (H := h37) (fn := Tryz.f37) (code := bodyOf Tryz.f37) mixed (tabOk37) Tryz.func37 rfl (by kernel_rfl) (loops_of (L := []) (by kernel_rfl) (lnil)) (fun x => by kernel_rfl)
/-! 74: pantograph/pantographref1.To -/
noncomputable def tab74 : Tab := [(54, .d ⟨[.ty (.sl (.int .u32))], [(.sl (.int .u32))], fun x => ref1_Trim x⟩)]
theorem tabOk74 : TabOk Tryz.prog (tab74) := tabOk_cons ok54 (tabOk_nil _)
def ro74 : Nat → Bool := fun s => false
noncomputable def lp74_0 : LoopD := { gh := [], ps := [.s 4 (.imm (.sl (.int .u32)))], sh := ⟨[.s 5 (.imm (.int .u64)), .s 6 (.imm (.int .i64))], [], []⟩, ws := [⟨.exit 0, ⟨[.s 5 (.imm (.int .u64))], [], []⟩⟩], F := fun p s => ref1_To_L0 p s }
noncomputable def h74 : Hints := { loop := fun id => bif Nat.beq id 0 then some (lp74_0) else none, cut := fun k r => none, frz := fun r => [] }
theorem lo74_0 : LoopOkK Tryz.prog Tryz.f74.ntmps (lp74_0) (lb 0 Tryz.f74) :=
  loop_ok (xid := XID) (ro := ro74) (H := h74) mixed (tabOk74) (loops_of (L := []) (by kernel_rfl) (lnil)) (fun p s => ref1_To_R0 p s) (fun p s => by kernel_rfl) (fun p s => rfl)
theorem ok74 : FnOk Tryz.prog 74 ⟨[.ty (.sl (.int .u32))], [(.int .u64), .bool], fun x => ref1_To x⟩ :=
  fn_ok (xid := XID) (ro := ro74) (H := h74) (fn := Tryz.f74) (code := bodyOf Tryz.f74) mixed (tabOk74) Tryz.func74 rfl (by kernel_rfl) (loops_of (L := [(0, lb 0 Tryz.f74)]) (by kernel_rfl) (lcons rfl (lo74_0) (lnil))) (fun x => by kernel_rfl)
/-! 75: pantograph/pantographref1.small -/
noncomputable def tab75 : Tab := [(54, .d ⟨[.ty (.sl (.int .u32))], [(.sl (.int .u32))], fun x => ref1_Trim x⟩)]
theorem tabOk75 : TabOk Tryz.prog (tab75) := tabOk_cons ok54 (tabOk_nil _)
def ro75 : Nat → Bool := fun s => false
noncomputable def lp75_0 : LoopD := { gh := [], ps := [.s 0 (.imm (.sl (.int .u32))), .s 1 (.imm (.int .u64))], sh := ⟨[.s 7 (.imm (.int .u64)), .s 8 (.imm (.int .i64)), .a (.int .u32)], [(6, .cur 0 (.int .u32))], [.arr (.int .u32)]⟩, ws := [⟨.exit 0, ⟨[.s 7 (.imm (.int .u64)), .a (.int .u32)], [(6, .cur 0 (.int .u32))], [.arr (.int .u32)]⟩⟩], F := fun p s => ref1_small_L0 p.1 p.2 s }
noncomputable def h75 : Hints := { loop := fun id => bif Nat.beq id 0 then some (lp75_0) else none, cut := fun k r => none, frz := fun r => bif Nat.beq r 9 then [6] else [] }
theorem lo75_0 : LoopOkK Tryz.prog Tryz.f75.ntmps (lp75_0) (lb 0 Tryz.f75) :=
  loop_ok (xid := XID) (ro := ro75) (H := h75) mixed (tabOk75) (loops_of (L := []) (by kernel_rfl) (lnil)) (fun p s => ref1_small_R0 p.1 p.2 s) (fun p s => by kernel_rfl) (fun p s => rfl)
theorem ok75 : FnOk Tryz.prog 75 ⟨[.ty (.sl (.int .u32)), .ty (.int .u64)], [(.sl (.int .u32)), (.int .u64)], fun x => ref1_small x.1 x.2⟩ :=
  fn_ok (xid := XID) (ro := ro75) (H := h75) (fn := Tryz.f75) (code := bodyOf Tryz.f75) mixed (tabOk75) Tryz.func75 rfl (by kernel_rfl) (loops_of (L := [(0, lb 0 Tryz.f75)]) (by kernel_rfl) (lcons rfl (lo75_0) (lnil))) (fun x => by kernel_rfl)
/-! 53: pantograph/pantographref1.at -/
noncomputable def tab53 : Tab := []
theorem tabOk53 : TabOk Tryz.prog (tab53) := tabOk_nil _
def ro53 : Nat → Bool := fun s => false
noncomputable def h53 : Hints := { loop := fun id => none, cut := fun k r => none, frz := fun r => [] }
theorem ok53 : FnOk Tryz.prog 53 ⟨[.ty (.sl (.int .u32)), .ty (.int .i64)], [(.int .u64)], fun x => ref1_at x.1 x.2⟩ :=
  fn_ok (xid := XID) (ro := ro53) (H := h53) (fn := Tryz.f53) (code := bodyOf Tryz.f53) mixed (tabOk53) Tryz.func53 rfl (by kernel_rfl) (loops_of (L := []) (by kernel_rfl) (lnil)) (fun x => by kernel_rfl)
/-! 76: pantograph/pantographref1.Shift -/
noncomputable def tab76 : Tab := [(54, .d ⟨[.ty (.sl (.int .u32))], [(.sl (.int .u32))], fun x => ref1_Trim x⟩), (53, .d ⟨[.ty (.sl (.int .u32)), .ty (.int .i64)], [(.int .u64)], fun x => ref1_at x.1 x.2⟩)]
theorem tabOk76 : TabOk Tryz.prog (tab76) := tabOk_cons ok54 (tabOk_cons ok53 (tabOk_nil _))
def ro76 : Nat → Bool := fun s => false
noncomputable def lp76_0 : LoopD := { gh := [.slot 8 (.int .u32)], ps := [.s 5 (.imm (.sl (.int .u32))), .s 7 (.imm (.int .u64))], sh := ⟨[.s 9 (.imm (.int .i64)), .a (.int .u32)], [(8, .cur 0 (.int .u32))], [.arr (.int .u32)]⟩, ws := [⟨.exit 0, ⟨[.a (.int .u32)], [(8, .cur 0 (.int .u32))], [.arr (.int .u32)]⟩⟩], F := fun p s => ref1_Shift_L0 p.1 p.2 s }
noncomputable def lp76_2 : LoopD := { gh := [], ps := [.s 5 (.imm (.sl (.int .u32))), .s 11 (.imm (.int .u64))], sh := ⟨[.s 12 (.imm (.int .u64)), .s 13 (.imm (.int .i64)), .a (.int .u32)], [(10, .cur 0 (.int .u32))], [.arr (.int .u32)]⟩, ws := [⟨.exit 2, ⟨[.a (.int .u32)], [(10, .cur 0 (.int .u32))], [.arr (.int .u32)]⟩⟩], F := fun p s => ref1_Shift_L1 p.1 p.2 s }
noncomputable def h76 : Hints := { loop := fun id => bif Nat.beq id 0 then some (lp76_0) else bif Nat.beq id 2 then some (lp76_2) else none, cut := fun k r => none, frz := fun r => bif Nat.beq r 24 then [10] else bif Nat.beq r 14 then [8] else [] }
theorem lo76_0 : LoopOkK Tryz.prog Tryz.f76.ntmps (lp76_0) (lb 0 Tryz.f76) :=
  loop_ok (xid := XID) (ro := ro76) (H := h76) mixed (tabOk76) (loops_of (L := []) (by kernel_rfl) (lnil)) (fun p s => ref1_Shift_R0 p.1 p.2 s) (fun p s => by kernel_rfl) (fun p s => rfl)
theorem lo76_2 : LoopOkK Tryz.prog Tryz.f76.ntmps (lp76_2) (lb 2 Tryz.f76) :=
  loop_ok (xid := XID) (ro := ro76) (H := h76) mixed (tabOk76) (loops_of (L := []) (by kernel_rfl) (lnil)) (fun p s => ref1_Shift_R1 p.1 p.2 s) (fun p s => by kernel_rfl) (fun p s => rfl)
theorem ok76 : FnOk Tryz.prog 76 ⟨[.ty (.sl (.int .u32)), .ty (.int .i64)], [(.sl (.int .u32))], fun x => ref1_Shift x.1 x.2⟩ :=
  fn_ok (xid := XID) (ro := ro76) (H := h76) (fn := Tryz.f76) (code := bodyOf Tryz.f76) mixed (tabOk76) Tryz.func76 rfl (by kernel_rfl) (loops_of (L := [(0, lb 0 Tryz.f76), (2, lb 2 Tryz.f76)]) (by kernel_rfl) (lcons rfl (lo76_0) (lcons rfl (lo76_2) (lnil)))) (fun x => by kernel_rfl)
/-! 29: pantograph/pantographref1.Add -/
noncomputable def tab29 : Tab := [(53, .d ⟨[.ty (.sl (.int .u32)), .ty (.int .i64)], [(.int .u64)], fun x => ref1_at x.1 x.2⟩), (54, .d ⟨[.ty (.sl (.int .u32))], [(.sl (.int .u32))], fun x => ref1_Trim x⟩)]
theorem tabOk29 : TabOk Tryz.prog (tab29) := tabOk_cons ok53 (tabOk_cons ok54 (tabOk_nil _))
def ro29 : Nat → Bool := fun s => false
noncomputable def lp29_0 : LoopD := { gh := [.slot 5 (.int .u32)], ps := [.s 0 (.imm (.sl (.int .u32))), .s 1 (.imm (.sl (.int .u32)))], sh := ⟨[.s 6 (.imm (.int .u64)), .s 7 (.imm (.int .i64)), .a (.int .u32)], [(5, .cur 0 (.int .u32))], [.arr (.int .u32)]⟩, ws := [⟨.exit 0, ⟨[.a (.int .u32)], [(5, .cur 0 (.int .u32))], [.arr (.int .u32)]⟩⟩], F := fun p s => ref1_Add_L0 p.1 p.2 s }
noncomputable def h29 : Hints := { loop := fun id => bif Nat.beq id 0 then some (lp29_0) else none, cut := fun k r => none, frz := fun r => bif Nat.beq r 9 then [5] else [] }
theorem lo29_0 : LoopOkK Tryz.prog Tryz.f29.ntmps (lp29_0) (lb 0 Tryz.f29) :=
  loop_ok (xid := XID) (ro := ro29) (H := h29) mixed (tabOk29) (loops_of (L := []) (by kernel_rfl) (lnil)) (fun p s => ref1_Add_R0 p.1 p.2 s) (fun p s => by kernel_rfl) (fun p s => rfl)
theorem ok29 : FnOk Tryz.prog 29 ⟨[.ty (.sl (.int .u32)), .ty (.sl (.int .u32))], [(.sl (.int .u32))], fun x => ref1_Add x.1 x.2⟩ :=
  fn_ok (xid := XID) (ro := ro29) (H := h29) (fn := Tryz.f29) (code := bodyOf Tryz.f29) mixed (tabOk29) Tryz.func29 rfl (by kernel_rfl) (loops_of (L := [(0, lb 0 Tryz.f29)]) (by kernel_rfl) (lcons rfl (lo29_0) (lnil))) (fun x => by kernel_rfl)
/-! 42: pantograph/pantographref1.Cmp -/
noncomputable def tab42 : Tab := [(54, .d ⟨[.ty (.sl (.int .u32))], [(.sl (.int .u32))], fun x => ref1_Trim x⟩)]
theorem tabOk42 : TabOk Tryz.prog (tab42) := tabOk_cons ok54 (tabOk_nil _)
def ro42 : Nat → Bool := fun s => false
noncomputable def lp42_0 : LoopD := { gh := [], ps := [.s 5 (.imm (.sl (.int .u32))), .s 6 (.imm (.sl (.int .u32)))], sh := ⟨[.s 7 (.imm (.int .i64))], [], []⟩, ws := [⟨.exit 0, ⟨[], [], []⟩⟩, ⟨.ret, ⟨[.s 4 (.imm (.int .i64))], [], []⟩⟩], F := fun p s => ref1_Cmp_L0 p.1 p.2 s }
noncomputable def h42 : Hints := { loop := fun id => bif Nat.beq id 0 then some (lp42_0) else none, cut := fun k r => none, frz := fun r => [] }
theorem lo42_0 : LoopOkK Tryz.prog Tryz.f42.ntmps (lp42_0) (lb 0 Tryz.f42) :=
  loop_ok (xid := XID) (ro := ro42) (H := h42) mixed (tabOk42) (loops_of (L := []) (by kernel_rfl) (lnil)) (fun p s => ref1_Cmp_R0 p.1 p.2 s) (fun p s => by kernel_rfl) (fun p s => rfl)
theorem ok42 : FnOk Tryz.prog 42 ⟨[.ty (.sl (.int .u32)), .ty (.sl (.int .u32))], [(.int .i64)], fun x => ref1_Cmp x.1 x.2⟩ :=
  fn_ok (xid := XID) (ro := ro42) (H := h42) (fn := Tryz.f42) (code := bodyOf Tryz.f42) mixed (tabOk42) Tryz.func42 rfl (by kernel_rfl) (loops_of (L := [(0, lb 0 Tryz.f42)]) (by kernel_rfl) (lcons rfl (lo42_0) (lnil))) (fun x => by kernel_rfl)
/-! 43: pantograph/pantographref1.Sub -/
noncomputable def tab43 : Tab := [(42, .d ⟨[.ty (.sl (.int .u32)), .ty (.sl (.int .u32))], [(.int .i64)], fun x => ref1_Cmp x.1 x.2⟩), (53, .d ⟨[.ty (.sl (.int .u32)), .ty (.int .i64)], [(.int .u64)], fun x => ref1_at x.1 x.2⟩), (54, .d ⟨[.ty (.sl (.int .u32))], [(.sl (.int .u32))], fun x => ref1_Trim x⟩)]
theorem tabOk43 : TabOk Tryz.prog (tab43) := tabOk_cons ok42 (tabOk_cons ok53 (tabOk_cons ok54 (tabOk_nil _)))
def ro43 : Nat → Bool := fun s => false
noncomputable def lp43_0 : LoopD := { gh := [.slot 6 (.int .u32)], ps := [.s 0 (.imm (.sl (.int .u32))), .s 1 (.imm (.sl (.int .u32)))], sh := ⟨[.s 7 (.imm (.int .u64)), .s 8 (.imm (.int .i64)), .a (.int .u32)], [(6, .cur 0 (.int .u32))], [.arr (.int .u32)]⟩, ws := [⟨.exit 0, ⟨[.a (.int .u32)], [(6, .cur 0 (.int .u32))], [.arr (.int .u32)]⟩⟩], F := fun p s => ref1_Sub_L0 p.1 p.2 s }
noncomputable def h43 : Hints := { loop := fun id => bif Nat.beq id 0 then some (lp43_0) else none, cut := fun k r => bif Nat.beq k 3 && Nat.beq r 10 then some (.flat [.s 7 (.imm (.int .u64)), .s 9 (.imm (.int .u64))]) else none, frz := fun r => bif Nat.beq r 14 then [6] else [] }
theorem lo43_0 : LoopOkK Tryz.prog Tryz.f43.ntmps (lp43_0) (lb 0 Tryz.f43) :=
  loop_ok (xid := XID) (ro := ro43) (H := h43) mixed (tabOk43) (loops_of (L := []) (by kernel_rfl) (lnil)) (fun p s => ref1_Sub_R0 p.1 p.2 s) (fun p s => by kernel_rfl) (fun p s => rfl)
theorem ok43 : FnOk Tryz.prog 43 ⟨[.ty (.sl (.int .u32)), .ty (.sl (.int .u32))], [(.sl (.int .u32)), .bool], fun x => ref1_Sub x.1 x.2⟩ :=
  fn_ok (xid := XID) (ro := ro43) (H := h43) (fn := Tryz.f43) (code := bodyOf Tryz.f43) mixed (tabOk43) Tryz.func43 rfl (by kernel_rfl) (loops_of (L := [(0, lb 0 Tryz.f43)]) (by kernel_rfl) (lcons rfl (lo43_0) (lnil))) (fun x => by kernel_rfl)
/-! 56: pantograph/pantographref1.DivMod -/
noncomputable def tab56 : Tab := [(54, .d ⟨[.ty (.sl (.int .u32))], [(.sl (.int .u32))], fun x => ref1_Trim x⟩), (74, .d ⟨[.ty (.sl (.int .u32))], [(.int .u64), .bool], fun x => ref1_To x⟩), (37, .d ⟨[.ty (.int .u64)], [(.sl (.int .u32))], fun x => ref1_Of x⟩), (75, .d ⟨[.ty (.sl (.int .u32)), .ty (.int .u64)], [(.sl (.int .u32)), (.int .u64)], fun x => ref1_small x.1 x.2⟩), (76, .d ⟨[.ty (.sl (.int .u32)), .ty (.int .i64)], [(.sl (.int .u32))], fun x => ref1_Shift x.1 x.2⟩), (29, .d ⟨[.ty (.sl (.int .u32)), .ty (.sl (.int .u32))], [(.sl (.int .u32))], fun x => ref1_Add x.1 x.2⟩), (42, .d ⟨[.ty (.sl (.int .u32)), .ty (.sl (.int .u32))], [(.int .i64)], fun x => ref1_Cmp x.1 x.2⟩), (43, .d ⟨[.ty (.sl (.int .u32)), .ty (.sl (.int .u32))], [(.sl (.int .u32)), .bool], fun x => ref1_Sub x.1 x.2⟩)]
theorem tabOk56 : TabOk Tryz.prog (tab56) := tabOk_cons ok54 (tabOk_cons ok74 (tabOk_cons ok37 (tabOk_cons ok75 (tabOk_cons ok76 (tabOk_cons ok29 (tabOk_cons ok42 (tabOk_cons ok43 (tabOk_nil _))))))))
def ro56 : Nat → Bool := fun s => false
noncomputable def lp56_0 : LoopD := { gh := [], ps := [.s 0 (.imm (.sl (.int .u32))), .s 1 (.imm (.sl (.int .u32)))], sh := ⟨[.s 14 (.imm (.sl (.int .u32))), .s 15 (.imm (.int .i64)), .a (.int .u32)], [(13, .cur 0 (.int .u32))], [.arr (.int .u32)]⟩, ws := [⟨.exit 0, ⟨[.s 14 (.imm (.sl (.int .u32))), .a (.int .u32)], [(13, .cur 0 (.int .u32))], [.arr (.int .u32)]⟩⟩], F := fun p s => ref1_DivMod_L0 p.1 p.2 s }
noncomputable def h56 : Hints := { loop := fun id => bif Nat.beq id 0 then some (lp56_0) else none, cut := fun k r => bif Nat.beq k 0 && Nat.beq r 5 then some (.flat [.s 33 (.imm .bool)]) else bif Nat.beq k 0 && Nat.beq r 7 then some (.flat [.s 46 (.imm .bool)]) else bif Nat.beq k 3 && Nat.beq r 16 then some (.ways [⟨.normal, ⟨[.s 14 (.imm (.sl (.int .u32))), .a (.int .u32)], [(13, .cur 0 (.int .u32))], [.arr (.int .u32)]⟩⟩]) else none, frz := fun r => bif Nat.beq r 21 then [13] else [] }
theorem lo56_0 : LoopOkK Tryz.prog Tryz.f56.ntmps (lp56_0) (lb 0 Tryz.f56) :=
  loop_ok (xid := XID) (ro := ro56) (H := h56) mixed (tabOk56) (loops_of (L := []) (by kernel_rfl) (lnil)) (fun p s => ref1_DivMod_R0 p.1 p.2 s) (fun p s => by kernel_rfl) (fun p s => rfl)
theorem ok56 : FnOk Tryz.prog 56 ⟨[.ty (.sl (.int .u32)), .ty (.sl (.int .u32))], [(.sl (.int .u32)), (.sl (.int .u32)), .bool], fun x => ref1_DivMod x.1 x.2⟩ :=
  fn_ok (xid := XID) (ro := ro56) (H := h56) (fn := Tryz.f56) (code := bodyOf Tryz.f56) mixed (tabOk56) Tryz.func56 rfl (by kernel_rfl) (loops_of (L := [(0, lb 0 Tryz.f56)]) (by kernel_rfl) (lcons rfl (lo56_0) (lnil))) (fun x => by kernel_rfl)
/-! 55: pantograph/pantographref1.Gcd -/
noncomputable def tab55 : Tab := [(54, .d ⟨[.ty (.sl (.int .u32))], [(.sl (.int .u32))], fun x => ref1_Trim x⟩), (56, .d ⟨[.ty (.sl (.int .u32)), .ty (.sl (.int .u32))], [(.sl (.int .u32)), (.sl (.int .u32)), .bool], fun x => ref1_DivMod x.1 x.2⟩)]
theorem tabOk55 : TabOk Tryz.prog (tab55) := tabOk_cons ok54 (tabOk_cons ok56 (tabOk_nil _))
def ro55 : Nat → Bool := fun s => false
noncomputable def lp55_0 : LoopD := { gh := [], ps := [], sh := ⟨[.s 5 (.imm (.sl (.int .u32))), .s 6 (.imm (.sl (.int .u32)))], [], []⟩, ws := [⟨.exit 0, ⟨[.s 5 (.imm (.sl (.int .u32)))], [], []⟩⟩], F := fun p s => ref1_Gcd_L0  s }
noncomputable def h55 : Hints := { loop := fun id => bif Nat.beq id 0 then some (lp55_0) else none, cut := fun k r => none, frz := fun r => [] }
theorem lo55_0 : LoopOkK Tryz.prog Tryz.f55.ntmps (lp55_0) (lb 0 Tryz.f55) :=
  loop_ok (xid := XID) (ro := ro55) (H := h55) mixed (tabOk55) (loops_of (L := []) (by kernel_rfl) (lnil)) (fun p s => ref1_Gcd_R0  s) (fun p s => by kernel_rfl) (fun p s => rfl)
theorem ok55 : FnOk Tryz.prog 55 ⟨[.ty (.sl (.int .u32)), .ty (.sl (.int .u32))], [(.sl (.int .u32))], fun x => ref1_Gcd x.1 x.2⟩ :=
  fn_ok (xid := XID) (ro := ro55) (H := h55) (fn := Tryz.f55) (code := bodyOf Tryz.f55) mixed (tabOk55) Tryz.func55 rfl (by kernel_rfl) (loops_of (L := [(0, lb 0 Tryz.f55)]) (by kernel_rfl) (lcons rfl (lo55_0) (lnil))) (fun x => by kernel_rfl)
/-! 31: pantograph/pantographref2.Norm -/
noncomputable def tab31 : Tab := [(54, .d ⟨[.ty (.sl (.int .u32))], [(.sl (.int .u32))], fun x => ref1_Trim x⟩), (55, .d ⟨[.ty (.sl (.int .u32)), .ty (.sl (.int .u32))], [(.sl (.int .u32))], fun x => ref1_Gcd x.1 x.2⟩), (56, .d ⟨[.ty (.sl (.int .u32)), .ty (.sl (.int .u32))], [(.sl (.int .u32)), (.sl (.int .u32)), .bool], fun x => ref1_DivMod x.1 x.2⟩)]
theorem tabOk31 : TabOk Tryz.prog (tab31) := tabOk_cons ok54 (tabOk_cons ok55 (tabOk_cons ok56 (tabOk_nil _)))
def ro31 : Nat → Bool := fun s => Nat.beq s 1
noncomputable def h31 : Hints := { loop := fun id => none, cut := fun k r => bif Nat.beq k 0 && Nat.beq r 2 then some (.flat [.s 19 (.imm .bool)]) else none, frz := fun r => [] }
theorem ok31 : FnOk Tryz.prog 31 ⟨[.ty tyRat], [tyRat], fun x => ref2_Norm x⟩ :=
  fn_ok (xid := XID) (ro := ro31) (H := h31) (fn := Tryz.f31) (code := bodyOf Tryz.f31) mixed (tabOk31) Tryz.func31 rfl (by kernel_rfl) (loops_of (L := []) (by kernel_rfl) (lnil)) (fun x => by kernel_rfl)
/-! 27: pantograph/pantographref2.Of -/
noncomputable def tab27 : Tab := [(31, .d ⟨[.ty tyRat], [tyRat], fun x => ref2_Norm x⟩)]
theorem tabOk27 : TabOk Tryz.prog (tab27) := tabOk_cons ok31 (tabOk_nil _)
def ro27 : Nat → Bool := fun s => false
noncomputable def h27 : Hints := { loop := fun id => none, cut := fun k r => none, frz := fun r => [] }
theorem ok27 : FnOk Tryz.prog 27 ⟨[.ty .bool, .ty (.sl (.int .u32)), .ty (.sl (.int .u32))], [tyRat], fun x => ref2_Of x.1 x.2.1 x.2.2⟩ :=
  fn_ok (xid := XID) (ro := ro27) (H := h27) (fn := Tryz.f27) (code := bodyOf Tryz.f27) mixed (tabOk27) Tryz.func27 rfl (by kernel_rfl) (loops_of (L := []) (by kernel_rfl) (lnil)) (fun x => by kernel_rfl)
/-! 13: pantograph/pantographref2.Int -/
noncomputable def tab13 : Tab := [(37, .d ⟨[.ty (.int .u64)], [(.sl (.int .u32))], fun x => ref1_Of x⟩), (27, .d ⟨[.ty .bool, .ty (.sl (.int .u32)), .ty (.sl (.int .u32))], [tyRat], fun x => ref2_Of x.1 x.2.1 x.2.2⟩)]
theorem tabOk13 : TabOk Tryz.prog (tab13) := tabOk_cons ok37 (tabOk_cons ok27 (tabOk_nil _))
def ro13 : Nat → Bool := fun s => false
noncomputable def h13 : Hints := { loop := fun id => none, cut := fun k r => bif Nat.beq k 3 && Nat.beq r 2 then some (.flat [.s 3 (.imm (.int .u64))]) else none, frz := fun r => [] }
theorem ok13 : FnOk Tryz.prog 13 ⟨[.ty (.int .i64)], [tyRat], fun x => ref2_Int x⟩ :=
  fn_ok (xid := XID) (ro := ro13) (H := h13) (fn := Tryz.f13) (code := bodyOf Tryz.f13) mixed (tabOk13) Tryz.func13 rfl (by kernel_rfl) (loops_of (L := []) (by kernel_rfl) (lnil)) (fun x => by kernel_rfl)
/-! 30: pantograph/pantographref1.Mul -/
noncomputable def tab30 : Tab := [(53, .d ⟨[.ty (.sl (.int .u32)), .ty (.int .i64)], [(.int .u64)], fun x => ref1_at x.1 x.2⟩), (54, .d ⟨[.ty (.sl (.int .u32))], [(.sl (.int .u32))], fun x => ref1_Trim x⟩)]
theorem tabOk30 : TabOk Tryz.prog (tab30) := tabOk_cons ok53 (tabOk_cons ok54 (tabOk_nil _))
def ro30 : Nat → Bool := fun s => false
noncomputable def lp30_2 : LoopD := { gh := [], ps := [.s 0 (.imm (.sl (.int .u32))), .s 1 (.imm (.sl (.int .u32))), .s 6 (.imm (.int .i64))], sh := ⟨[.s 7 (.imm (.int .u64)), .s 8 (.imm (.int .i64)), .a (.int .u32)], [(5, .cur 0 (.int .u32))], [.arr (.int .u32)]⟩, ws := [⟨.exit 2, ⟨[.a (.int .u32)], [(5, .cur 0 (.int .u32))], [.arr (.int .u32)]⟩⟩], F := fun p s => ref1_Mul_L1 p.1 p.2.1 p.2.2 s }
noncomputable def lp30_0 : LoopD := { gh := [], ps := [.s 0 (.imm (.sl (.int .u32))), .s 1 (.imm (.sl (.int .u32)))], sh := ⟨[.s 6 (.imm (.int .i64)), .a (.int .u32)], [(5, .cur 0 (.int .u32))], [.arr (.int .u32)]⟩, ws := [⟨.exit 0, ⟨[.a (.int .u32)], [(5, .cur 0 (.int .u32))], [.arr (.int .u32)]⟩⟩], F := fun p s => ref1_Mul_L0 p.1 p.2 s }
noncomputable def h30 : Hints := { loop := fun id => bif Nat.beq id 2 then some (lp30_2) else bif Nat.beq id 0 then some (lp30_0) else none, cut := fun k r => bif Nat.beq k 0 && Nat.beq r 7 then some (.flat [.s 28 (.imm .bool)]) else none, frz := fun r => bif Nat.beq r 13 then [5] else [] }
theorem lo30_2 : LoopOkK Tryz.prog Tryz.f30.ntmps (lp30_2) (lb 2 Tryz.f30) :=
  loop_ok (xid := XID) (ro := ro30) (H := h30) mixed (tabOk30) (loops_of (L := []) (by kernel_rfl) (lnil)) (fun p s => ref1_Mul_R1 p.1 p.2.1 p.2.2 s) (fun p s => by kernel_rfl) (fun p s => rfl)
theorem lo30_0 : LoopOkK Tryz.prog Tryz.f30.ntmps (lp30_0) (lb 0 Tryz.f30) :=
  loop_ok (xid := XID) (ro := ro30) (H := h30) mixed (tabOk30) (loops_of (L := [(2, lb 2 Tryz.f30)]) (by kernel_rfl) (lcons rfl (lo30_2) (lnil))) (fun p s => ref1_Mul_R0 p.1 p.2 s) (fun p s => by kernel_rfl) (fun p s => rfl)
theorem ok30 : FnOk Tryz.prog 30 ⟨[.ty (.sl (.int .u32)), .ty (.sl (.int .u32))], [(.sl (.int .u32))], fun x => ref1_Mul x.1 x.2⟩ :=
  fn_ok (xid := XID) (ro := ro30) (H := h30) (fn := Tryz.f30) (code := bodyOf Tryz.f30) mixed (tabOk30) Tryz.func30 rfl (by kernel_rfl) (loops_of (L := [(0, lb 0 Tryz.f30)]) (by kernel_rfl) (lcons rfl (lo30_0) (lnil))) (fun x => by kernel_rfl)
/-! 14: pantograph/pantographref2.Div -/
noncomputable def tab14 : Tab := [(31, .d ⟨[.ty tyRat], [tyRat], fun x => ref2_Norm x⟩), (30, .d ⟨[.ty (.sl (.int .u32)), .ty (.sl (.int .u32))], [(.sl (.int .u32))], fun x => ref1_Mul x.1 x.2⟩), (27, .d ⟨[.ty .bool, .ty (.sl (.int .u32)), .ty (.sl (.int .u32))], [tyRat], fun x => ref2_Of x.1 x.2.1 x.2.2⟩)]
theorem tabOk14 : TabOk Tryz.prog (tab14) := tabOk_cons ok31 (tabOk_cons ok30 (tabOk_cons ok27 (tabOk_nil _)))
def ro14 : Nat → Bool := fun s => Nat.beq s 2 || Nat.beq s 3
noncomputable def h14 : Hints := { loop := fun id => none, cut := fun k r => none, frz := fun r => [] }
theorem ok14 : FnOk Tryz.prog 14 ⟨[.ty tyRat, .ty tyRat], [tyRat, .bool], fun x => ref2_Div x.1 x.2⟩ :=
  fn_ok (xid := XID) (ro := ro14) (H := h14) (fn := Tryz.f14) (code := bodyOf Tryz.f14) mixed (tabOk14) Tryz.func14 rfl (by kernel_rfl) (loops_of (L := []) (by kernel_rfl) (lnil)) (fun x => by kernel_rfl)
/-! 38: pantograph/pantographref2.Neg -/
noncomputable def tab38 : Tab := [(31, .d ⟨[.ty tyRat], [tyRat], fun x => ref2_Norm x⟩)]
theorem tabOk38 : TabOk Tryz.prog (tab38) := tabOk_cons ok31 (tabOk_nil _)
def ro38 : Nat → Bool := fun s => Nat.beq s 1
noncomputable def h38 : Hints := { loop := fun id => none, cut := fun k r => bif Nat.beq k 0 && Nat.beq r 2 then some (.ways [⟨.normal, ⟨[.v (.imm tyRat), .v (.imm tyRat)], [], [.var (.imm tyRat), .var (.imm tyRat)]⟩⟩]) else none, frz := fun r => [] }
theorem ok38 : FnOk Tryz.prog 38 ⟨[.ty tyRat], [tyRat], fun x => ref2_Neg x⟩ :=
  fn_ok (xid := XID) (ro := ro38) (H := h38) (fn := Tryz.f38) (code := bodyOf Tryz.f38) mixed (tabOk38) Tryz.func38 rfl (by kernel_rfl) (loops_of (L := []) (by kernel_rfl) (lnil)) (fun x => by kernel_rfl)
/-! 18: pantograph/pantographref2.Add -/
noncomputable def tab18 : Tab := [(31, .d ⟨[.ty tyRat], [tyRat], fun x => ref2_Norm x⟩), (30, .d ⟨[.ty (.sl (.int .u32)), .ty (.sl (.int .u32))], [(.sl (.int .u32))], fun x => ref1_Mul x.1 x.2⟩), (29, .d ⟨[.ty (.sl (.int .u32)), .ty (.sl (.int .u32))], [(.sl (.int .u32))], fun x => ref1_Add x.1 x.2⟩), (27, .d ⟨[.ty .bool, .ty (.sl (.int .u32)), .ty (.sl (.int .u32))], [tyRat], fun x => ref2_Of x.1 x.2.1 x.2.2⟩), (42, .d ⟨[.ty (.sl (.int .u32)), .ty (.sl (.int .u32))], [(.int .i64)], fun x => ref1_Cmp x.1 x.2⟩), (43, .d ⟨[.ty (.sl (.int .u32)), .ty (.sl (.int .u32))], [(.sl (.int .u32)), .bool], fun x => ref1_Sub x.1 x.2⟩)]
theorem tabOk18 : TabOk Tryz.prog (tab18) := tabOk_cons ok31 (tabOk_cons ok30 (tabOk_cons ok29 (tabOk_cons ok27 (tabOk_cons ok42 (tabOk_cons ok43 (tabOk_nil _))))))
def ro18 : Nat → Bool := fun s => Nat.beq s 2 || Nat.beq s 3
noncomputable def h18 : Hints := { loop := fun id => none, cut := fun k r => none, frz := fun r => [] }
theorem ok18 : FnOk Tryz.prog 18 ⟨[.ty tyRat, .ty tyRat], [tyRat], fun x => ref2_Add x.1 x.2⟩ :=
  fn_ok (xid := XID) (ro := ro18) (H := h18) (fn := Tryz.f18) (code := bodyOf Tryz.f18) mixed (tabOk18) Tryz.func18 rfl (by kernel_rfl) (loops_of (L := []) (by kernel_rfl) (lnil)) (fun x => by kernel_rfl)
/-! 15: pantograph/pantographref2.Sub -/
noncomputable def tab15 : Tab := [(38, .d ⟨[.ty tyRat], [tyRat], fun x => ref2_Neg x⟩), (18, .d ⟨[.ty tyRat, .ty tyRat], [tyRat], fun x => ref2_Add x.1 x.2⟩)]
theorem tabOk15 : TabOk Tryz.prog (tab15) := tabOk_cons ok38 (tabOk_cons ok18 (tabOk_nil _))
def ro15 : Nat → Bool := fun s => Nat.beq s 2 || Nat.beq s 3
noncomputable def h15 : Hints := { loop := fun id => none, cut := fun k r => none, frz := fun r => [] }
theorem ok15 : FnOk Tryz.prog 15 ⟨[.ty tyRat, .ty tyRat], [tyRat], fun x => ref2_Sub x.1 x.2⟩ :=
  fn_ok (xid := XID) (ro := ro15) (H := h15) (fn := Tryz.f15) (code := bodyOf Tryz.f15) mixed (tabOk15) Tryz.func15 rfl (by kernel_rfl) (loops_of (L := []) (by kernel_rfl) (lnil)) (fun x => by kernel_rfl)
/-! 39: pantograph/dec.sign -/
noncomputable def tab39 : Tab := []
theorem tabOk39 : TabOk Tryz.prog (tab39) := tabOk_nil _
def ro39 : Nat → Bool := fun s => Nat.beq s 1
noncomputable def h39 : Hints := { loop := fun id => none, cut := fun k r => none, frz := fun r => [] }
theorem ok39 : FnOk Tryz.prog 39 ⟨[.ty tyRat], [.str], fun x => dec_sign x⟩ :=
  fn_ok (xid := XID) (ro := ro39) (H := h39) (fn := Tryz.f39) (code := bodyOf Tryz.f39) mixed (tabOk39) Tryz.func39 rfl (by kernel_rfl) (loops_of (L := []) (by kernel_rfl) (lnil)) (fun x => by kernel_rfl)
/-! 61: slices.Reverse[[]byte,byte] -/
noncomputable def tab61 : Tab := []
theorem tabOk61 : TabOk Tryz.prog (tab61) := tabOk_nil _
def ro61 : Nat → Bool := fun s => false
noncomputable def lp61_0 : LoopD := { gh := [], ps := [], sh := ⟨[.s 0 (.sub 0 (.int .u8)), .s 2 (.imm (.int .i64)), .s 3 (.imm (.int .i64)), .a (.int .u8)], [], [.arr (.int .u8)]⟩, ws := [⟨.exit 0, ⟨[.a (.int .u8)], [], [.arr (.int .u8)]⟩⟩], F := fun p s => slices_Reverse_sl_byte_S_L0  s }
noncomputable def h61 : Hints := { loop := fun id => bif Nat.beq id 0 then some (lp61_0) else none, cut := fun k r => none, frz := fun r => [] }
theorem lo61_0 : LoopOkK Tryz.prog Tryz.f61.ntmps (lp61_0) (lb 0 Tryz.f61) :=
  loop_ok (xid := XID) (ro := ro61) (H := h61) mixed (tabOk61) (loops_of (L := []) (by kernel_rfl) (lnil)) (fun p s => slices_Reverse_sl_byte_S_R0  s) (fun p s => by kernel_rfl) (fun p s => rfl)
theorem ok61 : FnSOk Tryz.prog 61 ⟨[.sub], ⟨[.s 0 (.sub 0 (.int .u8)), .a (.int .u8)], [], [.arr (.int .u8)]⟩, [], ⟨[.a (.int .u8)], [], [.arr (.int .u8)]⟩, 0, fun x => slices_Reverse_sl_byte_S x.1 x.2⟩ :=
  fns_ok (xid := XID) (ro := ro61) (H := h61) (fn := Tryz.f61) (code := bodyOf Tryz.f61) mixed (tabOk61) Tryz.func61 rfl (by kernel_rfl) (loops_of (L := [(0, lb 0 Tryz.f61)]) (by kernel_rfl) (lcons rfl (lo61_0) (lnil))) (fun x => by kernel_rfl)
/-! 41: pantograph/nat.Print -/
noncomputable def tab41 : Tab := [(61, .s ⟨[.sub], ⟨[.s 0 (.sub 0 (.int .u8)), .a (.int .u8)], [], [.arr (.int .u8)]⟩, [], ⟨[.a (.int .u8)], [], [.arr (.int .u8)]⟩, 0, fun x => slices_Reverse_sl_byte_S x.1 x.2⟩), (50, .d ⟨[.ty (.sl (.int .u32))], [(.sl (.int .u32))], fun x => nat_Trim x⟩), (60, .d ⟨[.ty (.sl (.int .u32)), .ty (.int .u32)], [(.sl (.int .u32)), (.int .u32)], fun x => nat_small x.1 x.2⟩)]
theorem tabOk41 : TabOk Tryz.prog (tab41) := tabOk_consS ok61 (tabOk_cons ok50 (tabOk_cons ok60 (tabOk_nil _)))
def ro41 : Nat → Bool := fun s => false
noncomputable def lp41_2 : LoopD := { gh := [], ps := [.s 4 (.imm (.sl (.int .u32)))], sh := ⟨[.s 5 (.imm (.int .u32)), .s 19 (.imm (.int .i64)), .a (.int .u8)], [(3, .cur 0 (.int .u8))], [.arr (.int .u8)]⟩, ws := [⟨.exit 2, ⟨[.a (.int .u8)], [(3, .cur 0 (.int .u8))], [.arr (.int .u8)]⟩⟩], F := fun p s => nat_Print_L1 p s }
noncomputable def lp41_0 : LoopD := { gh := [.slot 3 (.int .u8)], ps := [], sh := ⟨[.s 0 (.imm (.sl (.int .u32))), .a (.int .u8)], [(3, .cur 0 (.int .u8))], [.arr (.int .u8)]⟩, ws := [⟨.exit 0, ⟨[.a (.int .u8)], [(3, .cur 0 (.int .u8))], [.arr (.int .u8)]⟩⟩], F := fun p s => nat_Print_L0  s }
noncomputable def lp41_4 : LoopD := { gh := [], ps := [], sh := ⟨[.s 3 (.sub 0 (.int .u8)), .a (.int .u8)], [], [.arr (.int .u8)]⟩, ws := [⟨.exit 4, ⟨[.s 3 (.sub 0 (.int .u8)), .a (.int .u8)], [], [.arr (.int .u8)]⟩⟩], F := fun p s => nat_Print_L2  s }
noncomputable def h41 : Hints := { loop := fun id => bif Nat.beq id 2 then some (lp41_2) else bif Nat.beq id 0 then some (lp41_0) else bif Nat.beq id 4 then some (lp41_4) else none, cut := fun k r => bif Nat.beq k 0 && Nat.beq r 13 then some (.flat [.s 42 (.imm .bool)]) else none, frz := fun r => [] }
theorem lo41_2 : LoopOkK Tryz.prog Tryz.f41.ntmps (lp41_2) (lb 2 Tryz.f41) :=
  loop_ok (xid := XID) (ro := ro41) (H := h41) mixed (tabOk41) (loops_of (L := []) (by kernel_rfl) (lnil)) (fun p s => nat_Print_R1 p s) (fun p s => by kernel_rfl) (fun p s => rfl)
theorem lo41_0 : LoopOkK Tryz.prog Tryz.f41.ntmps (lp41_0) (lb 0 Tryz.f41) :=
  loop_ok (xid := XID) (ro := ro41) (H := h41) mixed (tabOk41) (loops_of (L := [(2, lb 2 Tryz.f41)]) (by kernel_rfl) (lcons rfl (lo41_2) (lnil))) (fun p s => nat_Print_R0  s) (fun p s => by kernel_rfl) (fun p s => rfl)
theorem lo41_4 : LoopOkK Tryz.prog Tryz.f41.ntmps (lp41_4) (lb 4 Tryz.f41) :=
  loop_ok (xid := XID) (ro := ro41) (H := h41) mixed (tabOk41) (loops_of (L := []) (by kernel_rfl) (lnil)) (fun p s => nat_Print_R2  s) (fun p s => by kernel_rfl) (fun p s => rfl)
theorem ok41 : FnOk Tryz.prog 41 ⟨[.ty (.sl (.int .u32))], [.str], fun x => nat_Print x⟩ :=
  fn_ok (xid := XID) (ro := ro41) (H := h41) (fn := Tryz.f41) (code := bodyOf Tryz.f41) mixed (tabOk41) Tryz.func41 rfl (by kernel_rfl) (loops_of (L := [(0, lb 0 Tryz.f41), (4, lb 4 Tryz.f41)]) (by kernel_rfl) (lcons rfl (lo41_0) (lcons rfl (lo41_4) (lnil)))) (fun x => by kernel_rfl)
/-! 59: strings.Repeat, by the shelf -/
theorem ok59 : FnOk Tryz.prog 59 ⟨[.ty .str, .ty i64], [.str], fun x => strings_Repeat x.1 x.2⟩ := by
  refine fn_of_calls Tryz.func59 (by kernel_rfl) rfl fun κ x cargs y hy hI ha => ?_
  obtain ⟨s, n⟩ := x
  obtain ⟨⟨h0, h1, h2⟩, hy⟩ := hy
  cases hy
  obtain ⟨v0, r, rfl, ha0, ha⟩ := RDs.cons_inv (show RDs κ [.imm .str s, .imm i64 n] cargs from ha)
  obtain ⟨v1, r, rfl, ha1, ha⟩ := ha.cons_inv
  rw [ha.nil_inv, ha0.str_inv, ha1.int_inv]
  obtain ⟨m, rfl⟩ := Int.eq_ofNat_of_zero_le h0
  refine (Go.Proofs.Tryz.strings_Repeat ⟨s.toArray⟩ m κ.w (by simp only at h1; omega) (by rw [show (ByteArray.size ⟨s.toArray⟩) = List.length s from List.size_toArray]; simpa using h2)).mono ?_
  rintro e w' ⟨rfl, hB⟩
  refine ⟨hB, fun _ => ⟨_, rfl, ?_⟩⟩
  have e1 : Lib.repeatL s m = repS s m := repS_eq s m
  have e2 : (Int.toNat (m : Int)) = m := by omega
  show RD _ (.imm .str (repS s (Int.toNat (m : Int)))) _
  rw [e2, ← e1]
  exact RD.str
/-! 40: pantograph/dec.pointed -/
noncomputable def tab40 : Tab := [(59, .d ⟨[.ty .str, .ty (.int .i64)], [.str], fun x => strings_Repeat x.1 x.2⟩)]
theorem tabOk40 : TabOk Tryz.prog (tab40) := tabOk_cons ok59 (tabOk_nil _)
def ro40 : Nat → Bool := fun s => false
noncomputable def h40 : Hints := { loop := fun id => none, cut := fun k r => none, frz := fun r => [] }
theorem ok40 : FnOk Tryz.prog 40 ⟨[.ty .str, .ty (.int .i64)], [.str], fun x => dec_pointed x.1 x.2⟩ :=
  fn_ok (xid := XID) (ro := ro40) (H := h40) (fn := Tryz.f40) (code := bodyOf Tryz.f40) mixed (tabOk40) Tryz.func40 rfl (by kernel_rfl) (loops_of (L := []) (by kernel_rfl) (lnil)) (fun x => by kernel_rfl)
/-! 16: pantograph/dec.Fixed -/
noncomputable def tab16 : Tab := [(34, .d ⟨[.ty tyRat], [tyRat], fun x => rat_Norm x⟩), (35, .d ⟨[.ty (.int .i64)], [(.int .i64)], fun x => dec_held x⟩), (12, .d ⟨[.ty tyRat, .ty (.int .i64)], [tyRat], fun x => dec_Round x.1 x.2⟩), (39, .d ⟨[.ty tyRat], [.str], fun x => dec_sign x⟩), (36, .d ⟨[.ty tyRat, .ty (.int .i64)], [(.sl (.int .u32))], fun x => dec_units x.1 x.2⟩), (41, .d ⟨[.ty (.sl (.int .u32))], [.str], fun x => nat_Print x⟩), (40, .d ⟨[.ty .str, .ty (.int .i64)], [.str], fun x => dec_pointed x.1 x.2⟩)]
theorem tabOk16 : TabOk Tryz.prog (tab16) := tabOk_cons ok34 (tabOk_cons ok35 (tabOk_cons ok12 (tabOk_cons ok39 (tabOk_cons ok36 (tabOk_cons ok41 (tabOk_cons ok40 (tabOk_nil _)))))))
def ro16 : Nat → Bool := fun s => false
noncomputable def h16 : Hints := { loop := fun id => none, cut := fun k r => none, frz := fun r => [] }
theorem ok16 : FnOk Tryz.prog 16 ⟨[.ty tyRat, .ty (.int .i64)], [.str], fun x => dec_Fixed x.1 x.2⟩ :=
  fn_ok (xid := XID) (ro := ro16) (H := h16) (fn := Tryz.f16) (code := bodyOf Tryz.f16) mixed (tabOk16) Tryz.func16 rfl (by kernel_rfl) (loops_of (L := []) (by kernel_rfl) (lnil)) (fun x => by kernel_rfl)
/-! 20: strings.CutPrefix, by the shelf -/
theorem ok20 : FnOk Tryz.prog 20 ⟨[.ty .str, .ty .str], [.str, .bool], fun x => strings_CutPrefix x.1 x.2⟩ := by
  refine fn_of_calls Tryz.func20 (by kernel_rfl) rfl fun κ x cargs y hy hI ha => ?_
  obtain ⟨s, p⟩ := x
  cases hy
  obtain ⟨v0, r, rfl, ha0, ha⟩ := RDs.cons_inv (show RDs κ [.imm .str s, .imm .str p] cargs from ha)
  obtain ⟨v1, r, rfl, ha1, ha⟩ := ha.cons_inv
  rw [ha.nil_inv, ha0.str_inv, ha1.str_inv]
  refine (Go.Proofs.Tryz.strings_CutPrefix ⟨s.toArray⟩ ⟨p.toArray⟩ κ.w).mono ?_
  rintro e w' ⟨rfl, rfl⟩
  refine ⟨below_self _, fun _ => ⟨_, rfl, ?_⟩⟩
  exact RD.tup2 RD.str RD.bool
/-! 21: strings.Cut, by the shelf -/
theorem ok21 : FnOk Tryz.prog 21 ⟨[.ty .str, .ty .str], [.str, .str, .bool], fun x => strings_Cut x.1 x.2⟩ := by
  refine fn_of_calls Tryz.func21 (by kernel_rfl) rfl fun κ x cargs y hy hI ha => ?_
  obtain ⟨s, sep⟩ := x
  obtain ⟨h0, hy⟩ := hy
  cases hy
  obtain ⟨v0, r, rfl, ha0, ha⟩ := RDs.cons_inv (show RDs κ [.imm .str s, .imm .str sep] cargs from ha)
  obtain ⟨v1, r, rfl, ha1, ha⟩ := ha.cons_inv
  rw [ha.nil_inv, ha0.str_inv, ha1.str_inv]
  obtain ⟨m, hm⟩ := glob_internal_bytealg_MaxLen hI
  refine (Go.Proofs.Tryz.strings_Cut ⟨s.toArray⟩ ⟨sep.toArray⟩ m κ.w (by rw [show (ByteArray.size ⟨s.toArray⟩) = List.length s from List.size_toArray]; exact h0) hm).mono ?_
  rintro e w' ⟨rfl, n, rfl⟩
  refine ⟨below_drewN _ _, fun _ => ⟨_, rfl, ?_⟩⟩
  rw [show Lib.cut (⟨s.toArray⟩ : ByteArray).data.toList (⟨sep.toArray⟩ : ByteArray).data.toList = cutSt s sep from cutSt_eq s sep]
  exact RD.tup3 RD.str RD.str RD.bool
/-! 65: strings.trimRightByte -/
noncomputable def tab65 : Tab := []
theorem tabOk65 : TabOk Tryz.prog (tab65) := tabOk_nil _
def ro65 : Nat → Bool := fun s => false
noncomputable def lp65_0 : LoopD := { gh := [], ps := [.s 1 (.imm (.int .u8))], sh := ⟨[.s 0 (.imm .str)], [], []⟩, ws := [⟨.exit 0, ⟨[.s 0 (.imm .str)], [], []⟩⟩], F := fun p s => strings_trimRightByte_L0 p s }
noncomputable def h65 : Hints := { loop := fun id => bif Nat.beq id 0 then some (lp65_0) else none, cut := fun k r => bif Nat.beq k 0 && Nat.beq r 1 then some (.flat [.s 16 (.imm .bool)]) else none, frz := fun r => [] }
theorem lo65_0 : LoopOkK Tryz.prog Tryz.f65.ntmps (lp65_0) (lb 0 Tryz.f65) :=
  loop_ok (xid := XID) (ro := ro65) (H := h65) mixed (tabOk65) (loops_of (L := []) (by kernel_rfl) (lnil)) (fun p s => strings_trimRightByte_R0 p s) (fun p s => by kernel_rfl) (fun p s => rfl)
theorem ok65 : FnOk Tryz.prog 65 ⟨[.ty .str, .ty (.int .u8)], [.str], fun x => strings_trimRightByte x.1 x.2⟩ :=
  fn_ok (xid := XID) (ro := ro65) (H := h65) (fn := Tryz.f65) (code := bodyOf Tryz.f65) mixed (tabOk65) Tryz.func65 rfl (by kernel_rfl) (loops_of (L := [(0, lb 0 Tryz.f65)]) (by kernel_rfl) (lcons rfl (lo65_0) (lnil))) (fun x => by kernel_rfl)
/-! 64: strings.trimLeftByte -/
noncomputable def tab64 : Tab := []
theorem tabOk64 : TabOk Tryz.prog (tab64) := tabOk_nil _
def ro64 : Nat → Bool := fun s => false
noncomputable def lp64_0 : LoopD := { gh := [], ps := [.s 1 (.imm (.int .u8))], sh := ⟨[.s 0 (.imm .str)], [], []⟩, ws := [⟨.exit 0, ⟨[.s 0 (.imm .str)], [], []⟩⟩], F := fun p s => strings_trimLeftByte_L0 p s }
noncomputable def h64 : Hints := { loop := fun id => bif Nat.beq id 0 then some (lp64_0) else none, cut := fun k r => bif Nat.beq k 0 && Nat.beq r 1 then some (.flat [.s 13 (.imm .bool)]) else none, frz := fun r => [] }
theorem lo64_0 : LoopOkK Tryz.prog Tryz.f64.ntmps (lp64_0) (lb 0 Tryz.f64) :=
  loop_ok (xid := XID) (ro := ro64) (H := h64) mixed (tabOk64) (loops_of (L := []) (by kernel_rfl) (lnil)) (fun p s => strings_trimLeftByte_R0 p s) (fun p s => by kernel_rfl) (fun p s => rfl)
theorem ok64 : FnOk Tryz.prog 64 ⟨[.ty .str, .ty (.int .u8)], [.str], fun x => strings_trimLeftByte x.1 x.2⟩ :=
  fn_ok (xid := XID) (ro := ro64) (H := h64) (fn := Tryz.f64) (code := bodyOf Tryz.f64) mixed (tabOk64) Tryz.func64 rfl (by kernel_rfl) (loops_of (L := [(0, lb 0 Tryz.f64)]) (by kernel_rfl) (lcons rfl (lo64_0) (lnil))) (fun x => by kernel_rfl)
/-! 66: strings.makeASCIISet, by the shelf -/
theorem ok66 : FnOk Tryz.prog 66 ⟨[.ty .str], [(arrN .bool 256), .bool], fun x => strings_makeASCIISet x⟩ := by
  refine fn_of_calls Tryz.func66 (by kernel_rfl) rfl fun κ s cargs y hy hI ha => ?_
  obtain ⟨⟨h0, h1⟩, hy⟩ := hy
  cases hy
  obtain ⟨v0, r, rfl, ha0, ha⟩ := RDs.cons_inv (show RDs κ [.imm .str s] cargs from ha)
  rw [ha.nil_inv, ha0.str_inv]
  refine (Go.Proofs.Tryz.strings_makeASCIISet (fun _ => by kernel_rfl) ⟨s.toArray⟩ κ.w (by rw [show (ByteArray.size ⟨s.toArray⟩) = List.length s from List.size_toArray]; exact h0) (by simpa using h1)).mono ?_
  rintro e w' ⟨rfl, rfl⟩
  refine ⟨below_alloc _ _, fun _ => ⟨_, rfl, ?_⟩⟩
  exact RD.tup2 (ascii_rd s) RD.bool
/-! 89: (*strings.asciiSet).contains -/
noncomputable def tab89 : Tab := []
theorem tabOk89 : TabOk Tryz.prog (tab89) := tabOk_nil _
def ro89 : Nat → Bool := fun s => false
noncomputable def h89 : Hints := { loop := fun id => none, cut := fun k r => none, frz := fun r => [] }
theorem ok89 : FnOk Tryz.prog 89 ⟨[.rp (arrN .bool 256), .ty (.int .u8)], [.bool], fun x => strings_asciiSet_contains x.1 x.2⟩ :=
  fn_ok (xid := XID) (ro := ro89) (H := h89) (fn := Tryz.f89) (code := bodyOf Tryz.f89) mixed (tabOk89) Tryz.func89 rfl (by kernel_rfl) (loops_of (L := []) (by kernel_rfl) (lnil)) (fun x => by kernel_rfl)
/-! 68: strings.trimRightASCII -/
noncomputable def tab68 : Tab := [(89, .d ⟨[.rp (arrN .bool 256), .ty (.int .u8)], [.bool], fun x => strings_asciiSet_contains x.1 x.2⟩)]
theorem tabOk68 : TabOk Tryz.prog (tab68) := tabOk_cons ok89 (tabOk_nil _)
def ro68 : Nat → Bool := fun s => false
noncomputable def lp68_0 : LoopD := { gh := [], ps := [.s 1 (.rptr (arrN .bool 256))], sh := ⟨[.s 0 (.imm .str)], [], []⟩, ws := [⟨.exit 0, ⟨[.s 0 (.imm .str)], [], []⟩⟩], F := fun p s => strings_trimRightASCII_L0 p s }
noncomputable def h68 : Hints := { loop := fun id => bif Nat.beq id 0 then some (lp68_0) else none, cut := fun k r => none, frz := fun r => [] }
theorem lo68_0 : LoopOkK Tryz.prog Tryz.f68.ntmps (lp68_0) (lb 0 Tryz.f68) :=
  loop_ok (xid := XID) (ro := ro68) (H := h68) mixed (tabOk68) (loops_of (L := []) (by kernel_rfl) (lnil)) (fun p s => strings_trimRightASCII_R0 p s) (fun p s => by kernel_rfl) (fun p s => rfl)
theorem ok68 : FnOk Tryz.prog 68 ⟨[.ty .str, .rp (arrN .bool 256)], [.str], fun x => strings_trimRightASCII x.1 x.2⟩ :=
  fn_ok (xid := XID) (ro := ro68) (H := h68) (fn := Tryz.f68) (code := bodyOf Tryz.f68) mixed (tabOk68) Tryz.func68 rfl (by kernel_rfl) (loops_of (L := [(0, lb 0 Tryz.f68)]) (by kernel_rfl) (lcons rfl (lo68_0) (lnil))) (fun x => by kernel_rfl)
/-! 67: strings.trimLeftASCII -/
noncomputable def tab67 : Tab := [(89, .d ⟨[.rp (arrN .bool 256), .ty (.int .u8)], [.bool], fun x => strings_asciiSet_contains x.1 x.2⟩)]
theorem tabOk67 : TabOk Tryz.prog (tab67) := tabOk_cons ok89 (tabOk_nil _)
def ro67 : Nat → Bool := fun s => false
noncomputable def lp67_0 : LoopD := { gh := [], ps := [.s 1 (.rptr (arrN .bool 256))], sh := ⟨[.s 0 (.imm .str)], [], []⟩, ws := [⟨.exit 0, ⟨[.s 0 (.imm .str)], [], []⟩⟩], F := fun p s => strings_trimLeftASCII_L0 p s }
noncomputable def h67 : Hints := { loop := fun id => bif Nat.beq id 0 then some (lp67_0) else none, cut := fun k r => none, frz := fun r => [] }
theorem lo67_0 : LoopOkK Tryz.prog Tryz.f67.ntmps (lp67_0) (lb 0 Tryz.f67) :=
  loop_ok (xid := XID) (ro := ro67) (H := h67) mixed (tabOk67) (loops_of (L := []) (by kernel_rfl) (lnil)) (fun p s => strings_trimLeftASCII_R0 p s) (fun p s => by kernel_rfl) (fun p s => rfl)
theorem ok67 : FnOk Tryz.prog 67 ⟨[.ty .str, .rp (arrN .bool 256)], [.str], fun x => strings_trimLeftASCII x.1 x.2⟩ :=
  fn_ok (xid := XID) (ro := ro67) (H := h67) (fn := Tryz.f67) (code := bodyOf Tryz.f67) mixed (tabOk67) Tryz.func67 rfl (by kernel_rfl) (loops_of (L := [(0, lb 0 Tryz.f67)]) (by kernel_rfl) (lcons rfl (lo67_0) (lnil))) (fun x => by kernel_rfl)
/-! 46: strings.Trim -/
noncomputable def tab46 : Tab := [(65, .d ⟨[.ty .str, .ty (.int .u8)], [.str], fun x => strings_trimRightByte x.1 x.2⟩), (64, .d ⟨[.ty .str, .ty (.int .u8)], [.str], fun x => strings_trimLeftByte x.1 x.2⟩), (66, .d ⟨[.ty .str], [(arrN .bool 256), .bool], fun x => strings_makeASCIISet x⟩), (68, .d ⟨[.ty .str, .rp (arrN .bool 256)], [.str], fun x => strings_trimRightASCII x.1 x.2⟩), (67, .d ⟨[.ty .str, .rp (arrN .bool 256)], [.str], fun x => strings_trimLeftASCII x.1 x.2⟩)]
theorem tabOk46 : TabOk Tryz.prog (tab46) := tabOk_cons ok65 (tabOk_cons ok64 (tabOk_cons ok66 (tabOk_cons ok68 (tabOk_cons ok67 (tabOk_nil _)))))
def ro46 : Nat → Bool := fun s => false
noncomputable def h46 : Hints := { loop := fun id => none, cut := fun k r => bif Nat.beq k 0 && Nat.beq r 1 then some (.flat [.s 12 (.imm .bool)]) else bif Nat.beq k 0 && Nat.beq r 3 then some (.flat [.s 21 (.imm .bool)]) else none, frz := fun r => [] }
theorem ok46 : FnOk Tryz.prog 46 ⟨[.ty .str, .ty .str], [.str], fun x => strings_Trim x.1 x.2⟩ :=
  fn_ok (xid := XID) (ro := ro46) (H := h46) (fn := Tryz.f46) (code := bodyOf Tryz.f46) mixed (tabOk46) Tryz.func46 rfl (by kernel_rfl) (loops_of (L := []) (by kernel_rfl) (lnil)) (fun x => by kernel_rfl)
/-! 22: pantograph/nat.Parse -/
noncomputable def tab22 : Tab := [(46, .d ⟨[.ty .str, .ty .str], [.str], fun x => strings_Trim x.1 x.2⟩), (48, .d ⟨[.ty (.sl (.int .u32)), .ty (.sl (.int .u32))], [(.sl (.int .u32))], fun x => nat_Mul x.1 x.2⟩), (49, .d ⟨[.ty (.int .u64)], [(.sl (.int .u32))], fun x => nat_Of x⟩), (47, .d ⟨[.ty (.sl (.int .u32)), .ty (.sl (.int .u32))], [(.sl (.int .u32))], fun x => nat_Add x.1 x.2⟩)]
theorem tabOk22 : TabOk Tryz.prog (tab22) := tabOk_cons ok46 (tabOk_cons ok48 (tabOk_cons ok49 (tabOk_cons ok47 (tabOk_nil _))))
def ro22 : Nat → Bool := fun s => false
noncomputable def lp22_0 : LoopD := { gh := [], ps := [.s 0 (.imm .str), .s 19 (.imm (.int .i64))], sh := ⟨[.s 4 (.imm (.sl (.int .u32))), .s 20 (.imm (.int .i64))], [], []⟩, ws := [⟨.exit 0, ⟨[.s 4 (.imm (.sl (.int .u32)))], [], []⟩⟩], F := fun p s => nat_Parse_L0 p.1 p.2 s }
noncomputable def h22 : Hints := { loop := fun id => bif Nat.beq id 0 then some (lp22_0) else none, cut := fun k r => bif Nat.beq k 0 && Nat.beq r 1 then some (.ways [⟨.normal, ⟨[.s 17 (.imm .bool)], [], []⟩⟩]) else none, frz := fun r => [] }
theorem lo22_0 : LoopOkK Tryz.prog Tryz.f22.ntmps (lp22_0) (lb 0 Tryz.f22) :=
  loop_ok (xid := XID) (ro := ro22) (H := h22) mixed (tabOk22) (loops_of (L := []) (by kernel_rfl) (lnil)) (fun p s => nat_Parse_R0 p.1 p.2 s) (fun p s => by kernel_rfl) (fun p s => rfl)
theorem ok22 : FnOk Tryz.prog 22 ⟨[.ty .str], [(.sl (.int .u32)), .bool], fun x => nat_Parse x⟩ :=
  fn_ok (xid := XID) (ro := ro22) (H := h22) (fn := Tryz.f22) (code := bodyOf Tryz.f22) mixed (tabOk22) Tryz.func22 rfl (by kernel_rfl) (loops_of (L := [(0, lb 0 Tryz.f22)]) (by kernel_rfl) (lcons rfl (lo22_0) (lnil))) (fun x => by kernel_rfl)
/-! 6: pantograph/dec.Parse -/
noncomputable def tab6 : Tab := [(20, .d ⟨[.ty .str, .ty .str], [.str, .bool], fun x => strings_CutPrefix x.1 x.2⟩), (21, .d ⟨[.ty .str, .ty .str], [.str, .str, .bool], fun x => strings_Cut x.1 x.2⟩), (22, .d ⟨[.ty .str], [(.sl (.int .u32)), .bool], fun x => nat_Parse x⟩), (24, .d ⟨[.ty (.int .i64)], [(.sl (.int .u32))], fun x => dec_ten x⟩), (23, .d ⟨[.ty .bool, .ty (.sl (.int .u32)), .ty (.sl (.int .u32))], [tyRat], fun x => rat_Of x.1 x.2.1 x.2.2⟩)]
theorem tabOk6 : TabOk Tryz.prog (tab6) := tabOk_cons ok20 (tabOk_cons ok21 (tabOk_cons ok22 (tabOk_cons ok24 (tabOk_cons ok23 (tabOk_nil _)))))
def ro6 : Nat → Bool := fun s => false
noncomputable def h6 : Hints := { loop := fun id => none, cut := fun k r => bif Nat.beq k 0 && Nat.beq r 9 then some (.flat [.s 58 (.imm .bool)]) else bif Nat.beq k 3 && Nat.beq r 13 then some (.flat [.s 14 (.imm .str)]) else bif Nat.beq k 0 && Nat.beq r 17 then some (.flat [.s 94 (.imm .bool)]) else none, frz := fun r => [] }
theorem ok6 : FnOk Tryz.prog 6 ⟨[.ty .str], [tyRat, (.int .i64)], fun x => dec_Parse x⟩ :=
  fn_ok (xid := XID) (ro := ro6) (H := h6) (fn := Tryz.f6) (code := bodyOf Tryz.f6) mixed (tabOk6) Tryz.func6 rfl (by kernel_rfl) (loops_of (L := []) (by kernel_rfl) (lnil)) (fun x => by kernel_rfl)
/-! 17: pantograph/pantographref2.Cmp -/
noncomputable def tab17 : Tab := [(15, .d ⟨[.ty tyRat, .ty tyRat], [tyRat], fun x => ref2_Sub x.1 x.2⟩)]
theorem tabOk17 : TabOk Tryz.prog (tab17) := tabOk_cons ok15 (tabOk_nil _)
def ro17 : Nat → Bool := fun s => Nat.beq s 2 || Nat.beq s 3
noncomputable def h17 : Hints := { loop := fun id => none, cut := fun k r => none, frz := fun r => [] }
theorem ok17 : FnOk Tryz.prog 17 ⟨[.ty tyRat, .ty tyRat], [(.int .i64)], fun x => ref2_Cmp x.1 x.2⟩ :=
  fn_ok (xid := XID) (ro := ro17) (H := h17) (fn := Tryz.f17) (code := bodyOf Tryz.f17) mixed (tabOk17) Tryz.func17 rfl (by kernel_rfl) (loops_of (L := []) (by kernel_rfl) (lnil)) (fun x => by kernel_rfl)
/-! 33: pantograph/pantographlaw3.limbs -/
noncomputable def tab33 : Tab := []
theorem tabOk33 : TabOk Tryz.prog (tab33) := tabOk_nil _
def ro33 : Nat → Bool := fun s => false
noncomputable def lp33_0 : LoopD := { gh := [], ps := [.s 0 (.imm (.sl (.int .u32))), .s 1 (.imm (.sl (.int .u32)))], sh := ⟨[.s 5 (.imm (.int .i64))], [], []⟩, ws := [⟨.exit 0, ⟨[], [], []⟩⟩, ⟨.ret, ⟨[.s 4 (.imm .bool)], [], []⟩⟩], F := fun p s => law3_limbs_L0 p.1 p.2 s }
noncomputable def h33 : Hints := { loop := fun id => bif Nat.beq id 0 then some (lp33_0) else none, cut := fun k r => none, frz := fun r => [] }
theorem lo33_0 : LoopOkK Tryz.prog Tryz.f33.ntmps (lp33_0) (lb 0 Tryz.f33) :=
  loop_ok (xid := XID) (ro := ro33) (H := h33) mixed (tabOk33) (loops_of (L := []) (by kernel_rfl) (lnil)) (fun p s => law3_limbs_R0 p.1 p.2 s) (fun p s => by kernel_rfl) (fun p s => rfl)
theorem ok33 : FnOk Tryz.prog 33 ⟨[.ty (.sl (.int .u32)), .ty (.sl (.int .u32))], [.bool], fun x => law3_limbs x.1 x.2⟩ :=
  fn_ok (xid := XID) (ro := ro33) (H := h33) (fn := Tryz.f33) (code := bodyOf Tryz.f33) mixed (tabOk33) Tryz.func33 rfl (by kernel_rfl) (loops_of (L := [(0, lb 0 Tryz.f33)]) (by kernel_rfl) (lcons rfl (lo33_0) (lnil))) (fun x => by kernel_rfl)
/-! 9: pantograph/pantographlaw3.one -/
noncomputable def tab9 : Tab := [(33, .d ⟨[.ty (.sl (.int .u32)), .ty (.sl (.int .u32))], [.bool], fun x => law3_limbs x.1 x.2⟩)]
theorem tabOk9 : TabOk Tryz.prog (tab9) := tabOk_cons ok33 (tabOk_nil _)
def ro9 : Nat → Bool := fun s => Nat.beq s 2 || Nat.beq s 3
noncomputable def h9 : Hints := { loop := fun id => none, cut := fun k r => none, frz := fun r => [] }
theorem ok9 : FnOk Tryz.prog 9 ⟨[.ty tyRat, .ty tyRat], [.bool], fun x => law3_one x.1 x.2⟩ :=
  fn_ok (xid := XID) (ro := ro9) (H := h9) (fn := Tryz.f9) (code := bodyOf Tryz.f9) mixed (tabOk9) Tryz.func9 rfl (by kernel_rfl) (loops_of (L := []) (by kernel_rfl) (lnil)) (fun x => by kernel_rfl)
/-! 10: pantograph/pantographlaw3.known -/
noncomputable def tab10 : Tab := [(16, .d ⟨[.ty tyRat, .ty (.int .i64)], [.str], fun x => dec_Fixed x.1 x.2⟩)]
theorem tabOk10 : TabOk Tryz.prog (tab10) := tabOk_cons ok16 (tabOk_nil _)
def ro10 : Nat → Bool := fun s => false
noncomputable def h10 : Hints := { loop := fun id => none, cut := fun k r => none, frz := fun r => [] }
theorem ok10 : FnOk Tryz.prog 10 ⟨[], [.bool], fun _ => law3_known⟩ :=
  fn_ok (xid := XID) (ro := ro10) (H := h10) (fn := Tryz.f10) (code := bodyOf Tryz.f10) mixed (tabOk10) Tryz.func10 rfl (by kernel_rfl) (loops_of (L := []) (by kernel_rfl) (lnil)) (fun x => by kernel_rfl)
/-! 4: pantograph/pantographlaw3.DecRounds -/
noncomputable def tab4 : Tab := [(11, .d ⟨[.ty (.sl tyRat)], [.bool], fun x => law3_big x⟩), (12, .d ⟨[.ty tyRat, .ty (.int .i64)], [tyRat], fun x => dec_Round x.1 x.2⟩), (13, .d ⟨[.ty (.int .i64)], [tyRat], fun x => ref2_Int x⟩), (14, .d ⟨[.ty tyRat, .ty tyRat], [tyRat, .bool], fun x => ref2_Div x.1 x.2⟩), (15, .d ⟨[.ty tyRat, .ty tyRat], [tyRat], fun x => ref2_Sub x.1 x.2⟩), (16, .d ⟨[.ty tyRat, .ty (.int .i64)], [.str], fun x => dec_Fixed x.1 x.2⟩), (6, .d ⟨[.ty .str], [tyRat, (.int .i64)], fun x => dec_Parse x⟩), (18, .d ⟨[.ty tyRat, .ty tyRat], [tyRat], fun x => ref2_Add x.1 x.2⟩), (17, .d ⟨[.ty tyRat, .ty tyRat], [(.int .i64)], fun x => ref2_Cmp x.1 x.2⟩), (9, .d ⟨[.ty tyRat, .ty tyRat], [.bool], fun x => law3_one x.1 x.2⟩), (10, .d ⟨[], [.bool], fun _ => law3_known⟩)]
theorem tabOk4 : TabOk Tryz.prog (tab4) := tabOk_cons ok11 (tabOk_cons ok12 (tabOk_cons ok13 (tabOk_cons ok14 (tabOk_cons ok15 (tabOk_cons ok16 (tabOk_cons ok6 (tabOk_cons ok18 (tabOk_cons ok17 (tabOk_cons ok9 (tabOk_cons ok10 (tabOk_nil _)))))))))))
def ro4 : Nat → Bool := fun s => Nat.beq s 2
noncomputable def lp4_0 : LoopD := { gh := [], ps := [.s 1 (.imm (.int .i64)), .s 2 (.rptr tyRat)], sh := ⟨[.s 7 (.imm (.int .i64)), .v (.imm tyRat), .v (.imm tyRat)], [(5, .ptr 0 0), (6, .ptr 1 0)], [.var (.imm tyRat), .var (.imm tyRat)]⟩, ws := [⟨.exit 0, ⟨[.v (.imm tyRat), .v (.imm tyRat)], [], [.var (.imm tyRat), .var (.imm tyRat)]⟩⟩], F := fun p s => law3_DecRounds_L0 p.1 p.2 s }
noncomputable def h4 : Hints := { loop := fun id => bif Nat.beq id 0 then some (lp4_0) else none, cut := fun k r => bif Nat.beq k 0 && Nat.beq r 1 then some (.ways [⟨.normal, ⟨[.s 21 (.imm .bool)], [], []⟩⟩]) else none, frz := fun r => [] }
theorem lo4_0 : LoopOkK Tryz.prog Tryz.f4.ntmps (lp4_0) (lb 0 Tryz.f4) :=
  loop_ok (xid := XID) (ro := ro4) (H := h4) mixed (tabOk4) (loops_of (L := []) (by kernel_rfl) (lnil)) (fun p s => law3_DecRounds_R0 p.1 p.2 s) (fun p s => by kernel_rfl) (fun p s => rfl)
theorem ok4 : FnOk Tryz.prog 4 ⟨[.ty tyRat, .ty (.int .i64)], [.bool], fun x => law3_DecRounds x.1 x.2⟩ :=
  fn_ok (xid := XID) (ro := ro4) (H := h4) (fn := Tryz.f4) (code := bodyOf Tryz.f4) mixed (tabOk4) Tryz.func4 rfl (by kernel_rfl) (loops_of (L := [(0, lb 0 Tryz.f4)]) (by kernel_rfl) (lcons rfl (lo4_0) (lnil))) (fun x => by kernel_rfl)
end Go.AM.Lf
