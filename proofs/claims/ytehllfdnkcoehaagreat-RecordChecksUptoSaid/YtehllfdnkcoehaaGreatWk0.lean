/-
  The walk, part 0: each function of the program is the tree that the lifted text says; printed by a program of ours.
-/
import Derived.Test.YtehllfdnkcoehaaGreatProg
import Derived.KernelRfl
import Derived.Test.YtehllfdnkcoehaaGreatAmD
import Derived.Test.YtehllfdnkcoehaaGreatLf0
import Derived.Lib.Builder
import Derived.Shelf.Strings.Builder1
import Derived.WalkKit
import Derived.TacticsInMore
import Derived.Test.YtehllfdnkcoehaaGreatSh
set_option linter.unusedVariables false
set_option maxRecDepth 100000
namespace Go.AM.Lf
open Go.Proofs
abbrev XID : Nat := 35
noncomputable def bodyOf (f : Func) : Code := match f.body with | some c => c | none => .skip
noncomputable def lb (k : Nat) (f : Func) : Code := match loopAt k (bodyOf f) with | some c => c | none => .skip
theorem mixed : Tryz.prog.follows .mixedOrders = true := by kernel_rfl
instance : Glob := { u8 := 5, tab := [] }
/-! 4: pantograph/pantographlaw21.many -/
noncomputable def tab4 : Tab := []
theorem tabOk4 : TabOk Tryz.prog (tab4) := tabOk_nil _
def ro4 : Nat → Bool := fun s => false
noncomputable def lp4_0 : LoopD := { gh := [], ps := [.s 0 (.imm (.sl tyRat))], sh := ⟨[.s 3 (.imm (.int .i64)), .s 4 (.imm (.int .i64))], [], []⟩, ws := [⟨.exit 0, ⟨[], [], []⟩⟩, ⟨.ret, ⟨[.s 2 (.imm .bool)], [], []⟩⟩], F := fun p s => law21_many_L0 p s }
noncomputable def h4 : Hints := { loop := fun id => bif Nat.beq id 0 then some (lp4_0) else none, cut := fun k r => bif Nat.beq k 0 && Nat.beq r 6 then some (.flat [.s 46 (.imm .bool)]) else none, frz := fun r => [] }
theorem lo4_0 : LoopOkK Tryz.prog Tryz.f4.ntmps (lp4_0) (lb 0 Tryz.f4) :=
  loop_ok (xid := XID) (ro := ro4) (H := h4) mixed (tabOk4) (loops_of (L := []) (by kernel_rfl) (lnil)) (fun p s => law21_many_R0 p s) (fun p s => by kernel_rfl) (fun p s => rfl)
theorem ok4 : FnOk Tryz.prog 4 ⟨[.ty (.sl tyRat)], [.bool], fun x => law21_many x⟩ :=
  fn_ok (xid := XID) (ro := ro4) (H := h4) (fn := Tryz.f4) (code := bodyOf Tryz.f4) mixed (tabOk4) Tryz.func4 rfl (by kernel_rfl) (loops_of (L := [(0, lb 0 Tryz.f4)]) (by kernel_rfl) (lcons rfl (lo4_0) (lnil))) (fun x => by kernel_rfl)
/-! 61: pantograph/nat.Is -/
noncomputable def tab61 : Tab := []
theorem tabOk61 : TabOk Tryz.prog (tab61) := tabOk_nil _
def ro61 : Nat → Bool := fun s => false
noncomputable def h61 : Hints := { loop := fun id => none, cut := fun k r => bif Nat.beq k 0 && Nat.beq r 1 then some (.flat [.s 2 (.imm .bool)]) else none, frz := fun r => [] }
theorem ok61 : FnOk Tryz.prog 61 ⟨[.ty (.sl (.int .u32))], [.bool], fun x => nat_Is x⟩ :=
  fn_ok (xid := XID) (ro := ro61) (H := h61) (fn := Tryz.f61) (code := bodyOf Tryz.f61) mixed (tabOk61) Tryz.func61 rfl (by kernel_rfl) (loops_of (L := []) (by kernel_rfl) (lnil)) (fun x => by kernel_rfl)
/-! 46: pantograph/nat.trim -/
noncomputable def tab46 : Tab := [(61, .d ⟨[.ty (.sl (.int .u32))], [.bool], fun x => nat_Is x⟩)]
theorem tabOk46 : TabOk Tryz.prog (tab46) := tabOk_cons ok61 (tabOk_nil _)
def ro46 : Nat → Bool := fun s => false
noncomputable def lp46_0 : LoopD := { gh := [], ps := [], sh := ⟨[.s 0 (.imm (.sl (.int .u32)))], [], []⟩, ws := [⟨.exit 0, ⟨[.s 0 (.imm (.sl (.int .u32)))], [], []⟩⟩], F := fun p s => nat_trim_L0  s }
noncomputable def h46 : Hints := { loop := fun id => bif Nat.beq id 0 then some (lp46_0) else none, cut := fun k r => none, frz := fun r => [] }
theorem lo46_0 : LoopOkK Tryz.prog Tryz.f46.ntmps (lp46_0) (lb 0 Tryz.f46) :=
  loop_ok (xid := XID) (ro := ro46) (H := h46) mixed (tabOk46) (loops_of (L := []) (by kernel_rfl) (lnil)) (fun p s => nat_trim_R0  s) (fun p s => by kernel_rfl) (fun p s => rfl)
theorem ok46 : FnOk Tryz.prog 46 ⟨[.ty (.sl (.int .u32))], [(.sl (.int .u32))], fun x => nat_trim x⟩ :=
  fn_ok (xid := XID) (ro := ro46) (H := h46) (fn := Tryz.f46) (code := bodyOf Tryz.f46) mixed (tabOk46) Tryz.func46 rfl (by kernel_rfl) (loops_of (L := [(0, lb 0 Tryz.f46)]) (by kernel_rfl) (lcons rfl (lo46_0) (lnil))) (fun x => by kernel_rfl)
/-! 59: slices.Clone[[]uint32,uint32] -/
noncomputable def tab59 : Tab := []
theorem tabOk59 : TabOk Tryz.prog (tab59) := tabOk_nil _
def ro59 : Nat → Bool := fun s => false
noncomputable def h59 : Hints := { loop := fun id => none, cut := fun k r => bif Nat.beq k 0 && Nat.beq r 1 then some (.nilt) else none, frz := fun r => [] }
theorem ok59 : FnOk Tryz.prog 59 ⟨[.ty (.sl (.int .u32))], [(.sl (.int .u32))], fun x => slices_Clone_sl_uint32 x⟩ :=
  fn_ok (xid := XID) (ro := ro59) (H := h59) (fn := Tryz.f59) (code := bodyOf Tryz.f59) mixed (tabOk59) Tryz.func59 rfl (by kernel_rfl) (loops_of (L := []) (by kernel_rfl) (lnil)) (fun x => by kernel_rfl)
/-! 43: pantograph/nat.Trim -/
noncomputable def tab43 : Tab := [(46, .d ⟨[.ty (.sl (.int .u32))], [(.sl (.int .u32))], fun x => nat_trim x⟩), (59, .d ⟨[.ty (.sl (.int .u32))], [(.sl (.int .u32))], fun x => slices_Clone_sl_uint32 x⟩)]
theorem tabOk43 : TabOk Tryz.prog (tab43) := tabOk_cons ok46 (tabOk_cons ok59 (tabOk_nil _))
def ro43 : Nat → Bool := fun s => false
noncomputable def h43 : Hints := { loop := fun id => none, cut := fun k r => none, frz := fun r => [] }
theorem ok43 : FnOk Tryz.prog 43 ⟨[.ty (.sl (.int .u32))], [(.sl (.int .u32))], fun x => nat_Trim x⟩ :=
  fn_ok (xid := XID) (ro := ro43) (H := h43) (fn := Tryz.f43) (code := bodyOf Tryz.f43) mixed (tabOk43) Tryz.func43 rfl (by kernel_rfl) (loops_of (L := []) (by kernel_rfl) (lnil)) (fun x => by kernel_rfl)
/-! 31: pantograph/nat.Of -/
noncomputable def tab31 : Tab := [(46, .d ⟨[.ty (.sl (.int .u32))], [(.sl (.int .u32))], fun x => nat_trim x⟩)]
theorem tabOk31 : TabOk Tryz.prog (tab31) := tabOk_cons ok46 (tabOk_nil _)
def ro31 : Nat → Bool := fun s => false
noncomputable def h31 : Hints := { loop := fun id => none, cut := fun k r => none, frz := fun r => [] }
theorem ok31 : FnOk Tryz.prog 31 ⟨[.ty (.int .u64)], [(.sl (.int .u32))], fun x => nat_Of x⟩ :=
  fn_ok (xid := XID) (ro := ro31) (H := h31) (fn := Tryz.f31) (code := bodyOf Tryz.f31) mixed (tabOk31) Tryz.func31 rfl (by kernel_rfl) (loops_of (L := []) (by kernel_rfl) (lnil)) (fun x => by kernel_rfl)
/-! 30: pantograph/nat.Cmp -/
noncomputable def tab30 : Tab := [(46, .d ⟨[.ty (.sl (.int .u32))], [(.sl (.int .u32))], fun x => nat_trim x⟩)]
theorem tabOk30 : TabOk Tryz.prog (tab30) := tabOk_cons ok46 (tabOk_nil _)
def ro30 : Nat → Bool := fun s => false
noncomputable def lp30_0 : LoopD := { gh := [], ps := [.s 0 (.imm (.sl (.int .u32))), .s 1 (.imm (.sl (.int .u32)))], sh := ⟨[.s 5 (.imm (.int .i64))], [], []⟩, ws := [⟨.exit 0, ⟨[], [], []⟩⟩, ⟨.ret, ⟨[.s 4 (.imm (.int .i64))], [], []⟩⟩], F := fun p s => nat_Cmp_L0 p.1 p.2 s }
noncomputable def h30 : Hints := { loop := fun id => bif Nat.beq id 0 then some (lp30_0) else none, cut := fun k r => none, frz := fun r => [] }
theorem lo30_0 : LoopOkK Tryz.prog Tryz.f30.ntmps (lp30_0) (lb 0 Tryz.f30) :=
  loop_ok (xid := XID) (ro := ro30) (H := h30) mixed (tabOk30) (loops_of (L := []) (by kernel_rfl) (lnil)) (fun p s => nat_Cmp_R0 p.1 p.2 s) (fun p s => by kernel_rfl) (fun p s => rfl)
theorem ok30 : FnOk Tryz.prog 30 ⟨[.ty (.sl (.int .u32)), .ty (.sl (.int .u32))], [(.int .i64)], fun x => nat_Cmp x.1 x.2⟩ :=
  fn_ok (xid := XID) (ro := ro30) (H := h30) (fn := Tryz.f30) (code := bodyOf Tryz.f30) mixed (tabOk30) Tryz.func30 rfl (by kernel_rfl) (loops_of (L := [(0, lb 0 Tryz.f30)]) (by kernel_rfl) (lcons rfl (lo30_0) (lnil))) (fun x => by kernel_rfl)
/-! 60: math/bits.Div32 -/
noncomputable def tab60 : Tab := []
theorem tabOk60 : TabOk Tryz.prog (tab60) := tabOk_nil _
def ro60 : Nat → Bool := fun s => false
noncomputable def h60 : Hints := { loop := fun id => none, cut := fun k r => bif Nat.beq k 0 && Nat.beq r 1 then some (.flat [.s 15 (.imm .bool)]) else none, frz := fun r => [] }
theorem ok60 : FnOk Tryz.prog 60 ⟨[.ty (.int .u32), .ty (.int .u32), .ty (.int .u32)], [(.int .u32), (.int .u32)], fun x => math_bits_Div32 x.1 x.2.1 x.2.2⟩ :=
  fn_ok (xid := XID) (ro := ro60) (H := h60) (fn := Tryz.f60) (code := bodyOf Tryz.f60) mixed (tabOk60) Tryz.func60 rfl (by kernel_rfl) (loops_of (L := []) (by kernel_rfl) (lnil)) (fun x => by kernel_rfl)
/-! 44: pantograph/nat.small -/
noncomputable def tab44 : Tab := [(60, .d ⟨[.ty (.int .u32), .ty (.int .u32), .ty (.int .u32)], [(.int .u32), (.int .u32)], fun x => math_bits_Div32 x.1 x.2.1 x.2.2⟩), (46, .d ⟨[.ty (.sl (.int .u32))], [(.sl (.int .u32))], fun x => nat_trim x⟩)]
theorem tabOk44 : TabOk Tryz.prog (tab44) := tabOk_cons ok60 (tabOk_cons ok46 (tabOk_nil _))
def ro44 : Nat → Bool := fun s => false
noncomputable def lp44_0 : LoopD := { gh := [], ps := [.s 0 (.imm (.sl (.int .u32))), .s 1 (.imm (.int .u32))], sh := ⟨[.s 7 (.imm (.int .u32)), .s 8 (.imm (.int .i64)), .a (.int .u32)], [(6, .cur 0 (.int .u32))], [.arr (.int .u32)]⟩, ws := [⟨.exit 0, ⟨[.s 7 (.imm (.int .u32)), .a (.int .u32)], [(6, .cur 0 (.int .u32))], [.arr (.int .u32)]⟩⟩], F := fun p s => nat_small_L0 p.1 p.2 s }
noncomputable def h44 : Hints := { loop := fun id => bif Nat.beq id 0 then some (lp44_0) else none, cut := fun k r => none, frz := fun r => bif Nat.beq r 7 then [6] else [] }
theorem lo44_0 : LoopOkK Tryz.prog Tryz.f44.ntmps (lp44_0) (lb 0 Tryz.f44) :=
  loop_ok (xid := XID) (ro := ro44) (H := h44) mixed (tabOk44) (loops_of (L := []) (by kernel_rfl) (lnil)) (fun p s => nat_small_R0 p.1 p.2 s) (fun p s => by kernel_rfl) (fun p s => rfl)
theorem ok44 : FnOk Tryz.prog 44 ⟨[.ty (.sl (.int .u32)), .ty (.int .u32)], [(.sl (.int .u32)), (.int .u32)], fun x => nat_small x.1 x.2⟩ :=
  fn_ok (xid := XID) (ro := ro44) (H := h44) (fn := Tryz.f44) (code := bodyOf Tryz.f44) mixed (tabOk44) Tryz.func44 rfl (by kernel_rfl) (loops_of (L := [(0, lb 0 Tryz.f44)]) (by kernel_rfl) (lcons rfl (lo44_0) (lnil))) (fun x => by kernel_rfl)
/-! 93: math/bits.Len32 -/
noncomputable def tab93 : Tab := []
theorem tabOk93 : TabOk Tryz.prog (tab93) := tabOk_nil _
def ro93 : Nat → Bool := fun s => false
noncomputable def h93 : Hints := { loop := fun id => none, cut := fun k r => bif Nat.beq k 3 && Nat.beq r 1 then some (.flat [.s 0 (.imm (.int .u32)), .s 2 (.imm (.int .i64))]) else bif Nat.beq k 3 && Nat.beq r 4 then some (.flat [.s 0 (.imm (.int .u32)), .s 2 (.imm (.int .i64))]) else none, frz := fun r => [] }
theorem ok93 : FnOk Tryz.prog 93 ⟨[.ty (.int .u32)], [(.int .i64)], fun x => math_bits_Len32 x⟩ :=
  fn_ok (xid := XID) (ro := ro93) (H := h93) (fn := Tryz.f93) (code := bodyOf Tryz.f93) mixed (tabOk93) Tryz.func93 rfl (by kernel_rfl) (loops_of (L := []) (by kernel_rfl) (lnil)) (fun x => by kernel_rfl)
/-! 83: math/bits.LeadingZeros32 -/
noncomputable def tab83 : Tab := [(93, .d ⟨[.ty (.int .u32)], [(.int .i64)], fun x => math_bits_Len32 x⟩)]
theorem tabOk83 : TabOk Tryz.prog (tab83) := tabOk_cons ok93 (tabOk_nil _)
def ro83 : Nat → Bool := fun s => false
noncomputable def h83 : Hints := { loop := fun id => none, cut := fun k r => none, frz := fun r => [] }
theorem ok83 : FnOk Tryz.prog 83 ⟨[.ty (.int .u32)], [(.int .i64)], fun x => math_bits_LeadingZeros32 x⟩ :=
  fn_ok (xid := XID) (ro := ro83) (H := h83) (fn := Tryz.f83) (code := bodyOf Tryz.f83) mixed (tabOk83) Tryz.func83 rfl (by kernel_rfl) (loops_of (L := []) (by kernel_rfl) (lnil)) (fun x => by kernel_rfl)
/-! 84: pantograph/nat.left -/
noncomputable def tab84 : Tab := []
theorem tabOk84 : TabOk Tryz.prog (tab84) := tabOk_nil _
def ro84 : Nat → Bool := fun s => false
noncomputable def lp84_0 : LoopD := { gh := [], ps := [.s 1 (.imm (.int .u64)), .s 2 (.imm (.int .i64)), .s 13 (.imm (.sl (.int .u32))), .s 14 (.imm (.int .i64))], sh := ⟨[.s 15 (.imm (.int .i64)), .a (.int .u32)], [(7, .cur 0 (.int .u32))], [.arr (.int .u32)]⟩, ws := [⟨.exit 0, ⟨[.a (.int .u32)], [(7, .cur 0 (.int .u32))], [.arr (.int .u32)]⟩⟩], F := fun p s => nat_left_S_L0 p.1 p.2.1 p.2.2.1 p.2.2.2 s }
noncomputable def h84 : Hints := { loop := fun id => bif Nat.beq id 0 then some (lp84_0) else none, cut := fun k r => none, frz := fun r => [] }
theorem lo84_0 : LoopOkK Tryz.prog Tryz.f84.ntmps (lp84_0) (lb 0 Tryz.f84) :=
  loop_ok (xid := XID) (ro := ro84) (H := h84) mixed (tabOk84) (loops_of (L := []) (by kernel_rfl) (lnil)) (fun p s => nat_left_S_R0 p.1 p.2.1 p.2.2.1 p.2.2.2 s) (fun p s => by kernel_rfl) (fun p s => rfl)
theorem ok84 : FnSOk Tryz.prog 84 ⟨[.any, .any, .any], ⟨[.s 0 (.imm (.sl (.int .u32))), .s 1 (.imm (.int .u64)), .s 2 (.imm (.int .i64))], [], []⟩, [], ⟨[.a (.int .u32)], [(0, .cur 0 (.int .u32))], [.arr (.int .u32)]⟩, 1, fun x => nat_left_S x.1 x.2.1 x.2.2⟩ :=
  fns_ok (xid := XID) (ro := ro84) (H := h84) (fn := Tryz.f84) (code := bodyOf Tryz.f84) mixed (tabOk84) Tryz.func84 rfl (by kernel_rfl) (loops_of (L := [(0, lb 0 Tryz.f84)]) (by kernel_rfl) (lcons rfl (lo84_0) (lnil))) (fun x => by kernel_rfl)
/-! 85: pantograph/nat.guess -/
noncomputable def tab85 : Tab := []
theorem tabOk85 : TabOk Tryz.prog (tab85) := tabOk_nil _
def ro85 : Nat → Bool := fun s => false
noncomputable def lp85_0 : LoopD := { gh := [], ps := [.s 2 (.imm (.int .u32)), .s 3 (.imm (.int .u32)), .s 4 (.imm (.int .u32))], sh := ⟨[.s 12 (.imm (.int .u64)), .s 13 (.imm (.int .u64))], [], []⟩, ws := [⟨.exit 0, ⟨[.s 12 (.imm (.int .u64))], [], []⟩⟩], F := fun p s => nat_guess_L0 p.1 p.2.1 p.2.2 s }
noncomputable def h85 : Hints := { loop := fun id => bif Nat.beq id 0 then some (lp85_0) else none, cut := fun k r => bif Nat.beq k 0 && Nat.beq r 3 then some (.flat [.s 42 (.imm .bool)]) else none, frz := fun r => [] }
theorem lo85_0 : LoopOkK Tryz.prog Tryz.f85.ntmps (lp85_0) (lb 0 Tryz.f85) :=
  loop_ok (xid := XID) (ro := ro85) (H := h85) mixed (tabOk85) (loops_of (L := []) (by kernel_rfl) (lnil)) (fun p s => nat_guess_R0 p.1 p.2.1 p.2.2 s) (fun p s => by kernel_rfl) (fun p s => rfl)
theorem ok85 : FnOk Tryz.prog 85 ⟨[.ty (.int .u32), .ty (.int .u32), .ty (.int .u32), .ty (.int .u32), .ty (.int .u32)], [(.int .u64)], fun x => nat_guess x.1 x.2.1 x.2.2.1 x.2.2.2.1 x.2.2.2.2⟩ :=
  fn_ok (xid := XID) (ro := ro85) (H := h85) (fn := Tryz.f85) (code := bodyOf Tryz.f85) mixed (tabOk85) Tryz.func85 rfl (by kernel_rfl) (loops_of (L := [(0, lb 0 Tryz.f85)]) (by kernel_rfl) (lcons rfl (lo85_0) (lnil))) (fun x => by kernel_rfl)
/-! 82: math/bits.Sub32 -/
noncomputable def tab82 : Tab := []
theorem tabOk82 : TabOk Tryz.prog (tab82) := tabOk_nil _
def ro82 : Nat → Bool := fun s => false
noncomputable def h82 : Hints := { loop := fun id => none, cut := fun k r => none, frz := fun r => [] }
theorem ok82 : FnOk Tryz.prog 82 ⟨[.ty (.int .u32), .ty (.int .u32), .ty (.int .u32)], [(.int .u32), (.int .u32)], fun x => math_bits_Sub32 x.1 x.2.1 x.2.2⟩ :=
  fn_ok (xid := XID) (ro := ro82) (H := h82) (fn := Tryz.f82) (code := bodyOf Tryz.f82) mixed (tabOk82) Tryz.func82 rfl (by kernel_rfl) (loops_of (L := []) (by kernel_rfl) (lnil)) (fun x => by kernel_rfl)
/-! 94: math/bits.Add32 -/
noncomputable def tab94 : Tab := []
theorem tabOk94 : TabOk Tryz.prog (tab94) := tabOk_nil _
def ro94 : Nat → Bool := fun s => false
noncomputable def h94 : Hints := { loop := fun id => none, cut := fun k r => none, frz := fun r => [] }
theorem ok94 : FnOk Tryz.prog 94 ⟨[.ty (.int .u32), .ty (.int .u32), .ty (.int .u32)], [(.int .u32), (.int .u32)], fun x => math_bits_Add32 x.1 x.2.1 x.2.2⟩ :=
  fn_ok (xid := XID) (ro := ro94) (H := h94) (fn := Tryz.f94) (code := bodyOf Tryz.f94) mixed (tabOk94) Tryz.func94 rfl (by kernel_rfl) (loops_of (L := []) (by kernel_rfl) (lnil)) (fun x => by kernel_rfl)
/-! 86: pantograph/nat.takes -/
noncomputable def tab86 : Tab := [(82, .d ⟨[.ty (.int .u32), .ty (.int .u32), .ty (.int .u32)], [(.int .u32), (.int .u32)], fun x => math_bits_Sub32 x.1 x.2.1 x.2.2⟩), (94, .d ⟨[.ty (.int .u32), .ty (.int .u32), .ty (.int .u32)], [(.int .u32), (.int .u32)], fun x => math_bits_Add32 x.1 x.2.1 x.2.2⟩)]
theorem tabOk86 : TabOk Tryz.prog (tab86) := tabOk_cons ok82 (tabOk_cons ok94 (tabOk_nil _))
def ro86 : Nat → Bool := fun s => false
noncomputable def lp86_0 : LoopD := { gh := [], ps := [.s 1 (.imm (.sl (.int .u32))), .s 2 (.imm (.int .u64)), .s 14 (.imm (.sl (.int .u32))), .s 15 (.imm (.int .i64))], sh := ⟨[.s 0 (.sub 0 (.int .u32)), .s 7 (.imm (.int .u64)), .s 8 (.imm (.int .u32)), .s 16 (.imm (.int .i64)), .a (.int .u32)], [], [.arr (.int .u32)]⟩, ws := [⟨.exit 0, ⟨[.s 0 (.sub 0 (.int .u32)), .s 7 (.imm (.int .u64)), .s 8 (.imm (.int .u32)), .a (.int .u32)], [], [.arr (.int .u32)]⟩⟩], F := fun p s => nat_takes_S_L0 p.1 p.2.1 p.2.2.1 p.2.2.2 s }
noncomputable def lp86_2 : LoopD := { gh := [], ps := [.s 1 (.imm (.sl (.int .u32))), .s 62 (.imm (.sl (.int .u32))), .s 63 (.imm (.int .i64))], sh := ⟨[.s 0 (.sub 0 (.int .u32)), .s 11 (.imm (.int .u32)), .s 64 (.imm (.int .i64)), .a (.int .u32)], [], [.arr (.int .u32)]⟩, ws := [⟨.exit 2, ⟨[.s 0 (.sub 0 (.int .u32)), .s 11 (.imm (.int .u32)), .a (.int .u32)], [], [.arr (.int .u32)]⟩⟩], F := fun p s => nat_takes_S_L1 p.1 p.2.1 p.2.2 s }
noncomputable def h86 : Hints := { loop := fun id => bif Nat.beq id 0 then some (lp86_0) else bif Nat.beq id 2 then some (lp86_2) else none, cut := fun k r => none, frz := fun r => [] }
theorem lo86_0 : LoopOkK Tryz.prog Tryz.f86.ntmps (lp86_0) (lb 0 Tryz.f86) :=
  loop_ok (xid := XID) (ro := ro86) (H := h86) mixed (tabOk86) (loops_of (L := []) (by kernel_rfl) (lnil)) (fun p s => nat_takes_S_R0 p.1 p.2.1 p.2.2.1 p.2.2.2 s) (fun p s => by kernel_rfl) (fun p s => rfl)
theorem lo86_2 : LoopOkK Tryz.prog Tryz.f86.ntmps (lp86_2) (lb 2 Tryz.f86) :=
  loop_ok (xid := XID) (ro := ro86) (H := h86) mixed (tabOk86) (loops_of (L := []) (by kernel_rfl) (lnil)) (fun p s => nat_takes_S_R1 p.1 p.2.1 p.2.2 s) (fun p s => by kernel_rfl) (fun p s => rfl)
theorem ok86 : FnSOk Tryz.prog 86 ⟨[.sub, .any, .any], ⟨[.s 0 (.sub 0 (.int .u32)), .s 1 (.imm (.sl (.int .u32))), .s 2 (.imm (.int .u64)), .a (.int .u32)], [], [.arr (.int .u32)]⟩, [], ⟨[.s 0 (.imm .bool), .a (.int .u32)], [], [.arr (.int .u32)]⟩, 1, fun x => nat_takes_S x.1 x.2.1 x.2.2.1 x.2.2.2⟩ :=
  fns_ok (xid := XID) (ro := ro86) (H := h86) (fn := Tryz.f86) (code := bodyOf Tryz.f86) mixed (tabOk86) Tryz.func86 rfl (by kernel_rfl) (loops_of (L := [(0, lb 0 Tryz.f86), (2, lb 2 Tryz.f86)]) (by kernel_rfl) (lcons rfl (lo86_0) (lcons rfl (lo86_2) (lnil)))) (fun x => by kernel_rfl)
/-! 84: pantograph/nat.left -/
noncomputable def tab84_1 : Tab := []
theorem tabOk84_1 : TabOk Tryz.prog (tab84_1) := tabOk_nil _
def ro84_1 : Nat → Bool := fun s => false
noncomputable def lp84_1_0 : LoopD := { gh := [], ps := [.s 1 (.imm (.int .u64)), .s 2 (.imm (.int .i64)), .s 13 (.imm (.sl (.int .u32))), .s 14 (.imm (.int .i64))], sh := ⟨[.s 15 (.imm (.int .i64)), .a (.int .u32)], [(7, .cur 0 (.int .u32))], [.arr (.int .u32)]⟩, ws := [⟨.exit 0, ⟨[.a (.int .u32)], [(7, .cur 0 (.int .u32))], [.arr (.int .u32)]⟩⟩], F := fun p s => nat_left_L0 p.1 p.2.1 p.2.2.1 p.2.2.2 s }
noncomputable def h84_1 : Hints := { loop := fun id => bif Nat.beq id 0 then some (lp84_1_0) else none, cut := fun k r => none, frz := fun r => [] }
theorem lo84_1_0 : LoopOkK Tryz.prog Tryz.f84.ntmps (lp84_1_0) (lb 0 Tryz.f84) :=
  loop_ok (xid := XID) (ro := ro84_1) (H := h84_1) mixed (tabOk84_1) (loops_of (L := []) (by kernel_rfl) (lnil)) (fun p s => nat_left_R0 p.1 p.2.1 p.2.2.1 p.2.2.2 s) (fun p s => by kernel_rfl) (fun p s => rfl)
theorem ok84_1 : FnOk Tryz.prog 84 ⟨[.ty (.sl (.int .u32)), .ty (.int .u64), .ty (.int .i64)], [(.sl (.int .u32))], fun x => nat_left x.1 x.2.1 x.2.2⟩ :=
  fn_ok (xid := XID) (ro := ro84_1) (H := h84_1) (fn := Tryz.f84) (code := bodyOf Tryz.f84) mixed (tabOk84_1) Tryz.func84 rfl (by kernel_rfl) (loops_of (L := [(0, lb 0 Tryz.f84)]) (by kernel_rfl) (lcons rfl (lo84_1_0) (lnil))) (fun x => by kernel_rfl)
/-! 87: pantograph/nat.Shift -/
noncomputable def tab87 : Tab := [(46, .d ⟨[.ty (.sl (.int .u32))], [(.sl (.int .u32))], fun x => nat_trim x⟩), (84, .d ⟨[.ty (.sl (.int .u32)), .ty (.int .u64), .ty (.int .i64)], [(.sl (.int .u32))], fun x => nat_left x.1 x.2.1 x.2.2⟩)]
theorem tabOk87 : TabOk Tryz.prog (tab87) := tabOk_cons ok46 (tabOk_cons ok84_1 (tabOk_nil _))
def ro87 : Nat → Bool := fun s => false
noncomputable def lp87_0 : LoopD := { gh := [], ps := [.s 6 (.imm (.int .u64)), .s 38 (.imm (.sl (.int .u32))), .s 39 (.imm (.int .i64))], sh := ⟨[.s 40 (.imm (.int .i64)), .a (.int .u32)], [(7, .cur 0 (.int .u32))], [.arr (.int .u32)]⟩, ws := [⟨.exit 0, ⟨[.a (.int .u32)], [(7, .cur 0 (.int .u32))], [.arr (.int .u32)]⟩⟩], F := fun p s => nat_Shift_L0 p.1 p.2.1 p.2.2 s }
noncomputable def h87 : Hints := { loop := fun id => bif Nat.beq id 0 then some (lp87_0) else none, cut := fun k r => none, frz := fun r => bif Nat.beq r 21 then [12] else bif Nat.beq r 17 then [7] else [] }
theorem lo87_0 : LoopOkK Tryz.prog Tryz.f87.ntmps (lp87_0) (lb 0 Tryz.f87) :=
  loop_ok (xid := XID) (ro := ro87) (H := h87) mixed (tabOk87) (loops_of (L := []) (by kernel_rfl) (lnil)) (fun p s => nat_Shift_R0 p.1 p.2.1 p.2.2 s) (fun p s => by kernel_rfl) (fun p s => rfl)
theorem ok87 : FnOk Tryz.prog 87 ⟨[.ty (.sl (.int .u32)), .ty (.int .i64)], [(.sl (.int .u32))], fun x => nat_Shift x.1 x.2⟩ :=
  fn_ok (xid := XID) (ro := ro87) (H := h87) (fn := Tryz.f87) (code := bodyOf Tryz.f87) mixed (tabOk87) Tryz.func87 rfl (by kernel_rfl) (loops_of (L := [(0, lb 0 Tryz.f87)]) (by kernel_rfl) (lcons rfl (lo87_0) (lnil))) (fun x => by kernel_rfl)
/-! 76: pantograph/nat.long -/
noncomputable def tab76 : Tab := [(84, .s ⟨[.any, .any, .any], ⟨[.s 0 (.imm (.sl (.int .u32))), .s 1 (.imm (.int .u64)), .s 2 (.imm (.int .i64))], [], []⟩, [], ⟨[.a (.int .u32)], [(0, .cur 0 (.int .u32))], [.arr (.int .u32)]⟩, 1, fun x => nat_left_S x.1 x.2.1 x.2.2⟩), (86, .s ⟨[.sub, .any, .any], ⟨[.s 0 (.sub 0 (.int .u32)), .s 1 (.imm (.sl (.int .u32))), .s 2 (.imm (.int .u64)), .a (.int .u32)], [], [.arr (.int .u32)]⟩, [], ⟨[.s 0 (.imm .bool), .a (.int .u32)], [], [.arr (.int .u32)]⟩, 1, fun x => nat_takes_S x.1 x.2.1 x.2.2.1 x.2.2.2⟩), (83, .d ⟨[.ty (.int .u32)], [(.int .i64)], fun x => math_bits_LeadingZeros32 x⟩), (85, .d ⟨[.ty (.int .u32), .ty (.int .u32), .ty (.int .u32), .ty (.int .u32), .ty (.int .u32)], [(.int .u64)], fun x => nat_guess x.1 x.2.1 x.2.2.1 x.2.2.2.1 x.2.2.2.2⟩), (46, .d ⟨[.ty (.sl (.int .u32))], [(.sl (.int .u32))], fun x => nat_trim x⟩), (87, .d ⟨[.ty (.sl (.int .u32)), .ty (.int .i64)], [(.sl (.int .u32))], fun x => nat_Shift x.1 x.2⟩)]
theorem tabOk76 : TabOk Tryz.prog (tab76) := tabOk_consS ok84 (tabOk_consS ok86 (tabOk_cons ok83 (tabOk_cons ok85 (tabOk_cons ok46 (tabOk_cons ok87 (tabOk_nil _))))))
def ro76 : Nat → Bool := fun s => false
noncomputable def lp76_0 : LoopD := { gh := [], ps := [.s 6 (.imm (.int .u64)), .s 8 (.imm (.sl (.int .u32))), .s 9 (.imm (.int .i64))], sh := ⟨[.s 10 (.imm (.int .i64)), .a (.int .u32), .a (.int .u32)], [(4, .cur 2 (.int .u32)), (7, .cur 0 (.int .u32))], [.arr (.int .u32), .dead, .arr (.int .u32)]⟩, ws := [⟨.exit 0, ⟨[.a (.int .u32), .a (.int .u32)], [(4, .cur 2 (.int .u32)), (7, .cur 0 (.int .u32))], [.arr (.int .u32), .dead, .arr (.int .u32)]⟩⟩], F := fun p s => nat_long_L0 p.1 p.2.1 p.2.2 s }
noncomputable def h76 : Hints := { loop := fun id => bif Nat.beq id 0 then some (lp76_0) else none, cut := fun k r => bif Nat.beq k 3 && Nat.beq r 9 then some (.ways [⟨.normal, ⟨[.s 11 (.imm (.int .u64)), .a (.int .u32), .a (.int .u32)], [(4, .cur 2 (.int .u32)), (7, .cur 0 (.int .u32))], [.arr (.int .u32), .dead, .arr (.int .u32)]⟩⟩]) else none, frz := fun r => bif Nat.beq r 12 then [4, 7] else bif Nat.beq r 5 then [8] else [] }
theorem lo76_0 : LoopOkK Tryz.prog Tryz.f76.ntmps (lp76_0) (lb 0 Tryz.f76) :=
  loop_ok (xid := XID) (ro := ro76) (H := h76) mixed (tabOk76) (loops_of (L := []) (by kernel_rfl) (lnil)) (fun p s => nat_long_R0 p.1 p.2.1 p.2.2 s) (fun p s => by kernel_rfl) (fun p s => rfl)
theorem ok76 : FnOk Tryz.prog 76 ⟨[.ty (.sl (.int .u32)), .ty (.sl (.int .u32))], [(.sl (.int .u32)), (.sl (.int .u32))], fun x => nat_long x.1 x.2⟩ :=
  fn_ok (xid := XID) (ro := ro76) (H := h76) (fn := Tryz.f76) (code := bodyOf Tryz.f76) mixed (tabOk76) Tryz.func76 rfl (by kernel_rfl) (loops_of (L := [(0, lb 0 Tryz.f76)]) (by kernel_rfl) (lcons rfl (lo76_0) (lnil))) (fun x => by kernel_rfl)
/-! 58: pantograph/nat.DivMod -/
noncomputable def tab58 : Tab := [(46, .d ⟨[.ty (.sl (.int .u32))], [(.sl (.int .u32))], fun x => nat_trim x⟩), (30, .d ⟨[.ty (.sl (.int .u32)), .ty (.sl (.int .u32))], [(.int .i64)], fun x => nat_Cmp x.1 x.2⟩), (43, .d ⟨[.ty (.sl (.int .u32))], [(.sl (.int .u32))], fun x => nat_Trim x⟩), (44, .d ⟨[.ty (.sl (.int .u32)), .ty (.int .u32)], [(.sl (.int .u32)), (.int .u32)], fun x => nat_small x.1 x.2⟩), (31, .d ⟨[.ty (.int .u64)], [(.sl (.int .u32))], fun x => nat_Of x⟩), (76, .d ⟨[.ty (.sl (.int .u32)), .ty (.sl (.int .u32))], [(.sl (.int .u32)), (.sl (.int .u32))], fun x => nat_long x.1 x.2⟩)]
theorem tabOk58 : TabOk Tryz.prog (tab58) := tabOk_cons ok46 (tabOk_cons ok30 (tabOk_cons ok43 (tabOk_cons ok44 (tabOk_cons ok31 (tabOk_cons ok76 (tabOk_nil _))))))
def ro58 : Nat → Bool := fun s => false
noncomputable def h58 : Hints := { loop := fun id => none, cut := fun k r => none, frz := fun r => [] }
theorem ok58 : FnOk Tryz.prog 58 ⟨[.ty (.sl (.int .u32)), .ty (.sl (.int .u32))], [(.sl (.int .u32)), (.sl (.int .u32)), .bool], fun x => nat_DivMod x.1 x.2⟩ :=
  fn_ok (xid := XID) (ro := ro58) (H := h58) (fn := Tryz.f58) (code := bodyOf Tryz.f58) mixed (tabOk58) Tryz.func58 rfl (by kernel_rfl) (loops_of (L := []) (by kernel_rfl) (lnil)) (fun x => by kernel_rfl)
/-! 57: pantograph/nat.Gcd -/
noncomputable def tab57 : Tab := [(43, .d ⟨[.ty (.sl (.int .u32))], [(.sl (.int .u32))], fun x => nat_Trim x⟩), (58, .d ⟨[.ty (.sl (.int .u32)), .ty (.sl (.int .u32))], [(.sl (.int .u32)), (.sl (.int .u32)), .bool], fun x => nat_DivMod x.1 x.2⟩)]
theorem tabOk57 : TabOk Tryz.prog (tab57) := tabOk_cons ok43 (tabOk_cons ok58 (tabOk_nil _))
def ro57 : Nat → Bool := fun s => false
noncomputable def lp57_0 : LoopD := { gh := [], ps := [], sh := ⟨[.s 0 (.imm (.sl (.int .u32))), .s 1 (.imm (.sl (.int .u32)))], [], []⟩, ws := [⟨.exit 0, ⟨[.s 0 (.imm (.sl (.int .u32)))], [], []⟩⟩], F := fun p s => nat_Gcd_L0  s }
noncomputable def h57 : Hints := { loop := fun id => bif Nat.beq id 0 then some (lp57_0) else none, cut := fun k r => none, frz := fun r => [] }
theorem lo57_0 : LoopOkK Tryz.prog Tryz.f57.ntmps (lp57_0) (lb 0 Tryz.f57) :=
  loop_ok (xid := XID) (ro := ro57) (H := h57) mixed (tabOk57) (loops_of (L := []) (by kernel_rfl) (lnil)) (fun p s => nat_Gcd_R0  s) (fun p s => by kernel_rfl) (fun p s => rfl)
theorem ok57 : FnOk Tryz.prog 57 ⟨[.ty (.sl (.int .u32)), .ty (.sl (.int .u32))], [(.sl (.int .u32))], fun x => nat_Gcd x.1 x.2⟩ :=
  fn_ok (xid := XID) (ro := ro57) (H := h57) (fn := Tryz.f57) (code := bodyOf Tryz.f57) mixed (tabOk57) Tryz.func57 rfl (by kernel_rfl) (loops_of (L := [(0, lb 0 Tryz.f57)]) (by kernel_rfl) (lcons rfl (lo57_0) (lnil))) (fun x => by kernel_rfl)
/-! 42: pantograph/rat.Of -/
noncomputable def tab42 : Tab := [(43, .d ⟨[.ty (.sl (.int .u32))], [(.sl (.int .u32))], fun x => nat_Trim x⟩), (31, .d ⟨[.ty (.int .u64)], [(.sl (.int .u32))], fun x => nat_Of x⟩), (57, .d ⟨[.ty (.sl (.int .u32)), .ty (.sl (.int .u32))], [(.sl (.int .u32))], fun x => nat_Gcd x.1 x.2⟩), (58, .d ⟨[.ty (.sl (.int .u32)), .ty (.sl (.int .u32))], [(.sl (.int .u32)), (.sl (.int .u32)), .bool], fun x => nat_DivMod x.1 x.2⟩)]
theorem tabOk42 : TabOk Tryz.prog (tab42) := tabOk_cons ok43 (tabOk_cons ok31 (tabOk_cons ok57 (tabOk_cons ok58 (tabOk_nil _))))
def ro42 : Nat → Bool := fun s => false
noncomputable def h42 : Hints := { loop := fun id => none, cut := fun k r => bif Nat.beq k 0 && Nat.beq r 2 then some (.flat [.s 19 (.imm .bool)]) else none, frz := fun r => [] }
theorem ok42 : FnOk Tryz.prog 42 ⟨[.ty .bool, .ty (.sl (.int .u32)), .ty (.sl (.int .u32))], [tyRat], fun x => rat_Of x.1 x.2.1 x.2.2⟩ :=
  fn_ok (xid := XID) (ro := ro42) (H := h42) (fn := Tryz.f42) (code := bodyOf Tryz.f42) mixed (tabOk42) Tryz.func42 rfl (by kernel_rfl) (loops_of (L := []) (by kernel_rfl) (lnil)) (fun x => by kernel_rfl)
/-! 27: pantograph/rat.Norm -/
noncomputable def tab27 : Tab := [(42, .d ⟨[.ty .bool, .ty (.sl (.int .u32)), .ty (.sl (.int .u32))], [tyRat], fun x => rat_Of x.1 x.2.1 x.2.2⟩)]
theorem tabOk27 : TabOk Tryz.prog (tab27) := tabOk_cons ok42 (tabOk_nil _)
def ro27 : Nat → Bool := fun s => Nat.beq s 1
noncomputable def h27 : Hints := { loop := fun id => none, cut := fun k r => none, frz := fun r => [] }
theorem ok27 : FnOk Tryz.prog 27 ⟨[.ty tyRat], [tyRat], fun x => rat_Norm x⟩ :=
  fn_ok (xid := XID) (ro := ro27) (H := h27) (fn := Tryz.f27) (code := bodyOf Tryz.f27) mixed (tabOk27) Tryz.func27 rfl (by kernel_rfl) (loops_of (L := []) (by kernel_rfl) (lnil)) (fun x => by kernel_rfl)
/-! 28: pantograph/dec.sign -/
noncomputable def tab28 : Tab := []
theorem tabOk28 : TabOk Tryz.prog (tab28) := tabOk_nil _
def ro28 : Nat → Bool := fun s => Nat.beq s 1
noncomputable def h28 : Hints := { loop := fun id => none, cut := fun k r => none, frz := fun r => [] }
theorem ok28 : FnOk Tryz.prog 28 ⟨[.ty tyRat], [.str], fun x => dec_sign x⟩ :=
  fn_ok (xid := XID) (ro := ro28) (H := h28) (fn := Tryz.f28) (code := bodyOf Tryz.f28) mixed (tabOk28) Tryz.func28 rfl (by kernel_rfl) (loops_of (L := []) (by kernel_rfl) (lnil)) (fun x => by kernel_rfl)
/-! 45: slices.Reverse[[]byte,byte] -/
noncomputable def tab45 : Tab := []
theorem tabOk45 : TabOk Tryz.prog (tab45) := tabOk_nil _
def ro45 : Nat → Bool := fun s => false
noncomputable def lp45_0 : LoopD := { gh := [], ps := [], sh := ⟨[.s 0 (.sub 0 (.int .u8)), .s 2 (.imm (.int .i64)), .s 3 (.imm (.int .i64)), .a (.int .u8)], [], [.arr (.int .u8)]⟩, ws := [⟨.exit 0, ⟨[.a (.int .u8)], [], [.arr (.int .u8)]⟩⟩], F := fun p s => slices_Reverse_sl_byte_S_L0  s }
noncomputable def h45 : Hints := { loop := fun id => bif Nat.beq id 0 then some (lp45_0) else none, cut := fun k r => none, frz := fun r => [] }
theorem lo45_0 : LoopOkK Tryz.prog Tryz.f45.ntmps (lp45_0) (lb 0 Tryz.f45) :=
  loop_ok (xid := XID) (ro := ro45) (H := h45) mixed (tabOk45) (loops_of (L := []) (by kernel_rfl) (lnil)) (fun p s => slices_Reverse_sl_byte_S_R0  s) (fun p s => by kernel_rfl) (fun p s => rfl)
theorem ok45 : FnSOk Tryz.prog 45 ⟨[.sub], ⟨[.s 0 (.sub 0 (.int .u8)), .a (.int .u8)], [], [.arr (.int .u8)]⟩, [], ⟨[.a (.int .u8)], [], [.arr (.int .u8)]⟩, 0, fun x => slices_Reverse_sl_byte_S x.1 x.2⟩ :=
  fns_ok (xid := XID) (ro := ro45) (H := h45) (fn := Tryz.f45) (code := bodyOf Tryz.f45) mixed (tabOk45) Tryz.func45 rfl (by kernel_rfl) (loops_of (L := [(0, lb 0 Tryz.f45)]) (by kernel_rfl) (lcons rfl (lo45_0) (lnil))) (fun x => by kernel_rfl)
/-! 29: pantograph/nat.Print -/
noncomputable def tab29 : Tab := [(45, .s ⟨[.sub], ⟨[.s 0 (.sub 0 (.int .u8)), .a (.int .u8)], [], [.arr (.int .u8)]⟩, [], ⟨[.a (.int .u8)], [], [.arr (.int .u8)]⟩, 0, fun x => slices_Reverse_sl_byte_S x.1 x.2⟩), (43, .d ⟨[.ty (.sl (.int .u32))], [(.sl (.int .u32))], fun x => nat_Trim x⟩), (44, .d ⟨[.ty (.sl (.int .u32)), .ty (.int .u32)], [(.sl (.int .u32)), (.int .u32)], fun x => nat_small x.1 x.2⟩)]
theorem tabOk29 : TabOk Tryz.prog (tab29) := tabOk_consS ok45 (tabOk_cons ok43 (tabOk_cons ok44 (tabOk_nil _)))
def ro29 : Nat → Bool := fun s => false
noncomputable def lp29_2 : LoopD := { gh := [], ps := [.s 4 (.imm (.sl (.int .u32)))], sh := ⟨[.s 5 (.imm (.int .u32)), .s 19 (.imm (.int .i64)), .a (.int .u8)], [(3, .cur 0 (.int .u8))], [.arr (.int .u8)]⟩, ws := [⟨.exit 2, ⟨[.a (.int .u8)], [(3, .cur 0 (.int .u8))], [.arr (.int .u8)]⟩⟩], F := fun p s => nat_Print_L1 p s }
noncomputable def lp29_0 : LoopD := { gh := [.slot 3 (.int .u8)], ps := [], sh := ⟨[.s 0 (.imm (.sl (.int .u32))), .a (.int .u8)], [(3, .cur 0 (.int .u8))], [.arr (.int .u8)]⟩, ws := [⟨.exit 0, ⟨[.a (.int .u8)], [(3, .cur 0 (.int .u8))], [.arr (.int .u8)]⟩⟩], F := fun p s => nat_Print_L0  s }
noncomputable def lp29_4 : LoopD := { gh := [], ps := [], sh := ⟨[.s 3 (.sub 0 (.int .u8)), .a (.int .u8)], [], [.arr (.int .u8)]⟩, ws := [⟨.exit 4, ⟨[.s 3 (.sub 0 (.int .u8)), .a (.int .u8)], [], [.arr (.int .u8)]⟩⟩], F := fun p s => nat_Print_L2  s }
noncomputable def h29 : Hints := { loop := fun id => bif Nat.beq id 2 then some (lp29_2) else bif Nat.beq id 0 then some (lp29_0) else bif Nat.beq id 4 then some (lp29_4) else none, cut := fun k r => bif Nat.beq k 0 && Nat.beq r 13 then some (.flat [.s 42 (.imm .bool)]) else none, frz := fun r => [] }
theorem lo29_2 : LoopOkK Tryz.prog Tryz.f29.ntmps (lp29_2) (lb 2 Tryz.f29) :=
  loop_ok (xid := XID) (ro := ro29) (H := h29) mixed (tabOk29) (loops_of (L := []) (by kernel_rfl) (lnil)) (fun p s => nat_Print_R1 p s) (fun p s => by kernel_rfl) (fun p s => rfl)
theorem lo29_0 : LoopOkK Tryz.prog Tryz.f29.ntmps (lp29_0) (lb 0 Tryz.f29) :=
  loop_ok (xid := XID) (ro := ro29) (H := h29) mixed (tabOk29) (loops_of (L := [(2, lb 2 Tryz.f29)]) (by kernel_rfl) (lcons rfl (lo29_2) (lnil))) (fun p s => nat_Print_R0  s) (fun p s => by kernel_rfl) (fun p s => rfl)
theorem lo29_4 : LoopOkK Tryz.prog Tryz.f29.ntmps (lp29_4) (lb 4 Tryz.f29) :=
  loop_ok (xid := XID) (ro := ro29) (H := h29) mixed (tabOk29) (loops_of (L := []) (by kernel_rfl) (lnil)) (fun p s => nat_Print_R2  s) (fun p s => by kernel_rfl) (fun p s => rfl)
theorem ok29 : FnOk Tryz.prog 29 ⟨[.ty (.sl (.int .u32))], [.str], fun x => nat_Print x⟩ :=
  fn_ok (xid := XID) (ro := ro29) (H := h29) (fn := Tryz.f29) (code := bodyOf Tryz.f29) mixed (tabOk29) Tryz.func29 rfl (by kernel_rfl) (loops_of (L := [(0, lb 0 Tryz.f29), (4, lb 4 Tryz.f29)]) (by kernel_rfl) (lcons rfl (lo29_0) (lcons rfl (lo29_4) (lnil)))) (fun x => by kernel_rfl)
/-! 16: pantograph/dec.Print -/
noncomputable def tab16 : Tab := [(27, .d ⟨[.ty tyRat], [tyRat], fun x => rat_Norm x⟩), (28, .d ⟨[.ty tyRat], [.str], fun x => dec_sign x⟩), (29, .d ⟨[.ty (.sl (.int .u32))], [.str], fun x => nat_Print x⟩), (31, .d ⟨[.ty (.int .u64)], [(.sl (.int .u32))], fun x => nat_Of x⟩), (30, .d ⟨[.ty (.sl (.int .u32)), .ty (.sl (.int .u32))], [(.int .i64)], fun x => nat_Cmp x.1 x.2⟩)]
theorem tabOk16 : TabOk Tryz.prog (tab16) := tabOk_cons ok27 (tabOk_cons ok28 (tabOk_cons ok29 (tabOk_cons ok31 (tabOk_cons ok30 (tabOk_nil _)))))
def ro16 : Nat → Bool := fun s => false
noncomputable def h16 : Hints := { loop := fun id => none, cut := fun k r => none, frz := fun r => [] }
theorem ok16 : FnOk Tryz.prog 16 ⟨[.ty tyRat], [.str], fun x => dec_Print x⟩ :=
  fn_ok (xid := XID) (ro := ro16) (H := h16) (fn := Tryz.f16) (code := bodyOf Tryz.f16) mixed (tabOk16) Tryz.func16 rfl (by kernel_rfl) (loops_of (L := []) (by kernel_rfl) (lnil)) (fun x => by kernel_rfl)
/-! 26: (*strings.Builder).copyCheck, by hand -/
end Go.AM.Lf
namespace Go.Proofs
section
open Go.RowKit
attribute [local go_sem] Oper.semAt_some
set_option maxRecDepth 100000
set_option maxHeartbeats 2000000
theorem Bld.size : (Tryz.prog.info? 71).map (·.size) = some 2 := by kernel_rfl
theorem Bld.pt : Tryz.prog.underlying 68 = some (.pointer 71) := by kernel_rfl
theorem Bld.up : Tryz.prog.underlying 98 = some .unsafePointer := by kernel_rfl
theorem Bld.used (b : Nat) (w : World) (h0 : w.cell? ⟨b, 0, none⟩ = some (.pointer (some ⟨b, 0, none⟩))) :
    Calls Tryz.prog 26 #[.pointer (some ⟨b, 0, none⟩)] w fun e w' => e = .returned (.tuple #[]) ∧ w' = w := by
  obtain ⟨j, hj, hjs⟩ := Option.map_eq_some_iff.1 Bld.size
  go_enter Tryz.func26, Tryz.ntmps26
  go_wp2
  rw [Lib.run_neq_ptr_same w _ Bld.pt hj]
  go_wp2
  go_end0
  exact ⟨rfl, rfl⟩
theorem Bld.fresh (b : Nat) (w : World) (h0 : w.cell? ⟨b, 0, none⟩ = some (.pointer none)) (hsh : w.shape? b = some (71, 2)) (hfz : w.frozen? ⟨b, 0, none⟩ = false) :
    Calls Tryz.prog 26 #[.pointer (some ⟨b, 0, none⟩)] w fun e w' => e = .returned (.tuple #[]) ∧ w' = w.setCell ⟨b, 0, none⟩ (.pointer (some ⟨b, 0, none⟩)) := by
  obtain ⟨j, hj, hjs⟩ := Option.map_eq_some_iff.1 Bld.size
  go_enter Tryz.func26, Tryz.ntmps26
  go_wp2
  rw [Lib.run_to_unsafe w ⟨b, 0, none⟩ Bld.pt Bld.up hj (by rw [hjs]; decide) hsh (Nat.zero_lt_succ 1)]
  simp only [Result.andThen]
  rw [Oper.upon_value]
  go_wp2
  rw [run_callFunc_extern Tryz.func41 (by kernel_rfl) (by kernel_rfl) (by kernel_rfl) (e := Extern.AbiNoEscape.same) (by kernel_rfl)]
  rw [Lib.run_noEscape]
  simp only [Result.andThen]
  rw [Oper.upon_value]
  go_wp2
  rw [Lib.run_from_unsafe w ⟨b, 0, none⟩ Bld.up Bld.pt hj hsh (by kernel_rfl)]
  simp only [Result.andThen]
  rw [Oper.upon_value]
  go_wp2
  go_end0
  exact ⟨rfl, rfl⟩
end
end Go.Proofs

namespace Go.AM.Lf
open Go.Proofs
theorem ok26 : FnSOk Tryz.prog 26 ⟨[.ptr], ⟨[.v (.st [.op 0 71, .row 1 (.int .u8)]), .a (.int .u8)], [(0, .ptr 0 0)], [.var (.st [.op 0 71, .row 1 (.int .u8)]), .arr (.int .u8)]⟩, [], ⟨[.v (.st [.op 0 71, .row 1 (.int .u8)]), .a (.int .u8)], [], [.var (.st [.op 0 71, .row 1 (.int .u8)]), .arr (.int .u8)]⟩, 0, fun x => bld_copyCheck x.1 x.2⟩ := copyCheck_ok (P := Tryz.prog) (g := 26) (t := 71) (enters_of Tryz.func26 (by kernel_rfl) rfl) Bld.used Bld.fresh
/-! 15: (*strings.Builder).WriteString -/
noncomputable def tab15 : Tab := [(26, .s ⟨[.ptr], ⟨[.v (.st [.op 0 71, .row 1 (.int .u8)]), .a (.int .u8)], [(0, .ptr 0 0)], [.var (.st [.op 0 71, .row 1 (.int .u8)]), .arr (.int .u8)]⟩, [], ⟨[.v (.st [.op 0 71, .row 1 (.int .u8)]), .a (.int .u8)], [], [.var (.st [.op 0 71, .row 1 (.int .u8)]), .arr (.int .u8)]⟩, 0, fun x => bld_copyCheck x.1 x.2⟩)]
theorem tabOk15 : TabOk Tryz.prog (tab15) := tabOk_consS ok26 (tabOk_nil _)
def ro15 : Nat → Bool := fun s => false
noncomputable def h15 : Hints := { loop := fun id => none, cut := fun k r => none, frz := fun r => [] }
theorem ok15 : FnSOk Tryz.prog 15 ⟨[.ptr, .any], ⟨[.s 1 (.imm .str), .v (.st [.op 0 71, .row 1 (.int .u8)]), .a (.int .u8)], [(0, .ptr 0 0)], [.var (.st [.op 0 71, .row 1 (.int .u8)]), .arr (.int .u8)]⟩, [.pcell 0 1 (.int .u8)], ⟨[.s 0 (.imm (.int .i64)), .v (.st [.op 0 71, .row 1 (.int .u8)]), .a (.int .u8)], [(1, .niface)], [.var (.st [.op 0 71, .row 1 (.int .u8)]), .arr (.int .u8)]⟩, 2, fun x => strings_Builder_WriteString_S x.1 x.2.1 x.2.2⟩ :=
  fns_ok (xid := XID) (ro := ro15) (H := h15) (fn := Tryz.f15) (code := bodyOf Tryz.f15) mixed (tabOk15) Tryz.func15 rfl (by kernel_rfl) (loops_of (L := []) (by kernel_rfl) (lnil)) (fun x => by kernel_rfl)
/-! 17: (*strings.Builder).String, by hand -/
end Go.AM.Lf
namespace Go.Proofs
section
open Go.RowKit
attribute [local go_sem] Oper.semAt_some
set_option maxRecDepth 100000
set_option maxHeartbeats 2000000
theorem Bld.mixed : Tryz.prog.follows .mixedOrders = true := by kernel_rfl
theorem Bld.pb : Tryz.prog.underlying 92 = some (.pointer 5) := by kernel_rfl
theorem Bld.c5 : Tryz.prog.cellsOf 5 = 1 := by kernel_rfl
theorem Bld.none0 (W : World) (q : Option Addr) : (Builtin.unsafeString_ #[92, 3] 9 #[.pointer q, .int .i64 0]).run Tryz.prog W = .ok (.string .empty) W := Lib.run_unsafeString_none W _ _ _ q
theorem Bld.nil (b : Nat) (p : Value) (w : World) (hbk : w.heap[b]? = some (.cells #[p, .slice none 0 0] 71 (0, 0))) :
    Calls Tryz.prog 17 #[.pointer (some ⟨b, 0, none⟩)] w fun e w' => e = .returned (.string ⟨#[]⟩) ∧ w' = w.drew := by
  have hUS := Bld.none0
  have c1 : w.drew.cell? ⟨b, 1, none⟩ = some (.slice none 0 0) := by
    have : w.drew.heap[b]? = some (.cells #[p, .slice none 0 0] 71 (0, 0)) := hbk
    rw [Lib.cell_of_heap this]; rfl
  have hSD : (Builtin.unsafeSliceData_ #[69] 92 #[.slice none 0 0]).run Tryz.prog w.drew = .ok (.pointer none) w.drew := rfl
  have mixed : Tryz.prog.follows .mixedOrders = true := Bld.mixed
  go_enter Tryz.func17, Tryz.ntmps17
  go_wp2
  go_region_o
  all_goals (go_wp2; go_ret; exact ⟨rfl, rfl⟩)
theorem Bld.room (b g o cap : Nat) (p : Value) (w : World) (hc0 : cap ≠ 0) (hbk : w.heap[b]? = some (.cells #[p, .slice (some ⟨g, o, none⟩) 0 cap] 71 (0, 0))) :
    Calls Tryz.prog 17 #[.pointer (some ⟨b, 0, none⟩)] w fun e w' => e = .returned (.string ⟨#[]⟩) ∧ w' = w.drew := by
  have hUS := Bld.none0
  have c1 : w.drew.cell? ⟨b, 1, none⟩ = some (.slice (some ⟨g, o, none⟩) 0 cap) := by
    have : w.drew.heap[b]? = some (.cells #[p, .slice (some ⟨g, o, none⟩) 0 cap] 71 (0, 0)) := hbk
    rw [Lib.cell_of_heap this]; rfl
  have hSD : (Builtin.unsafeSliceData_ #[69] 92 #[.slice (some ⟨g, o, none⟩) 0 cap]).run Tryz.prog w.drew = .ok (.pointer (some ⟨g, o, none⟩)) w.drew :=
    Lib.run_unsafeSliceData_row _ _ _ _ _ _ hc0
  clear hc0
  have mixed : Tryz.prog.follows .mixedOrders = true := Bld.mixed
  go_enter Tryz.func17, Tryz.ntmps17
  go_wp2
  go_region_o
  all_goals (go_wp2; go_ret; exact ⟨rfl, rfl⟩)
theorem Bld.full (b g cap : Nat) (p : Value) (cur : Array Value) (l : List UInt8) (w : World) (h0 : l ≠ []) (hcap : l.length ≤ cap) (hmax : l.length ≤ 140737488355328) (hbk : w.heap[b]? = some (.cells #[p, .slice (some ⟨g, 0, none⟩) l.length cap] 71 (0, 0)))
    (hg : w.heap[g]? = some (.cells cur 5 (0, 0))) (hcur : l.length ≤ cur.size) (hcell : ∀ j x, l[j]? = some x → w.cell? ⟨g, j, none⟩ = some (.int .u8 x.toNat)) :
    Calls Tryz.prog 17 #[.pointer (some ⟨b, 0, none⟩)] w fun e w' => e = .returned (.string ⟨l.toArray⟩) ∧ w' = w.drew.freeze ⟨g, 0, none⟩ l.length := by
  have hl0 : l.length ≠ 0 := by simpa using h0
  have c1 : w.drew.cell? ⟨b, 1, none⟩ = some (.slice (some ⟨g, 0, none⟩) l.length cap) := by
    have : w.drew.heap[b]? = some (.cells #[p, .slice (some ⟨g, 0, none⟩) l.length cap] 71 (0, 0)) := hbk
    rw [Lib.cell_of_heap this]; rfl
  have hSD : (Builtin.unsafeSliceData_ #[69] 92 #[.slice (some ⟨g, 0, none⟩) l.length cap]).run Tryz.prog w.drew = .ok (.pointer (some ⟨g, 0, none⟩)) w.drew :=
    Lib.run_unsafeSliceData_row _ _ _ _ _ _ (by omega)
  have hUS : (Builtin.unsafeString_ #[92, 3] 9 #[.pointer (some ⟨g, 0, none⟩), .int .i64 l.length]).run Tryz.prog w.drew = .ok (.string ⟨l.toArray⟩) (w.drew.freeze ⟨g, 0, none⟩ l.length) := by
    refine Lib.run_unsafeString_row w.drew 92 3 9 5 Bld.pb Bld.c5 g cur.size (by have hg' : w.drew.heap[g]? = some (.cells cur 5 (0, 0)) := hg; simp [World.shape?, hg']) l h0 (by omega) (by omega) ?_
    intro j x hx
    have e : (⟨g, 0, none⟩ : Addr).add j = ⟨g, j, none⟩ := by unfold Addr.add; split <;> simp_all
    rw [e]
    exact hcell j x hx
  have mixed : Tryz.prog.follows .mixedOrders = true := Bld.mixed
  go_enter Tryz.func17, Tryz.ntmps17
  go_wp2
  go_region_o
  all_goals (go_wp2; go_ret; exact ⟨rfl, rfl⟩)
theorem Bld.noroom (b g o : Nat) (p : Value) (cur : Array Value) (w : World) (hbk : w.heap[b]? = some (.cells #[p, .slice (some ⟨g, o, none⟩) 0 0] 71 (0, 0))) (hg : w.heap[g]? = some (.cells cur 5 (0, 0))) :
    Calls Tryz.prog 17 #[.pointer (some ⟨b, 0, none⟩)] w fun e w' => e = .returned (.string ⟨#[]⟩) ∧ w' = w.drew.alloc (.view ⟨g, o, none⟩ 5) := by
  have hUS := Bld.none0
  have hlt : b < w.heap.size := by
    rcases Nat.lt_or_ge b w.heap.size with h' | h'
    · exact h'
    · simp [Array.getElem?_eq_none h'] at hbk
  have c1 : w.drew.cell? ⟨b, 1, none⟩ = some (.slice (some ⟨g, o, none⟩) 0 0) := by
    have : w.drew.heap[b]? = some (.cells #[p, .slice (some ⟨g, o, none⟩) 0 0] 71 (0, 0)) := hbk
    rw [Lib.cell_of_heap this]; rfl
  have hSD : (Builtin.unsafeSliceData_ #[69] 92 #[.slice (some ⟨g, o, none⟩) 0 0]).run Tryz.prog w.drew = .ok (.pointer (some ⟨w.drew.heap.size, 0, none⟩)) (w.drew.alloc (.view ⟨g, o, none⟩ 5)) :=
    Lib.run_unsafeSliceData_zero w.drew _ _ 5 Bld.pb ⟨g, o, none⟩ 0 (5, cur.size) (by have hg' : w.drew.heap[g]? = some (.cells cur 5 (0, 0)) := hg; simp [World.shape?, hg'])
  have c2 : (w.drew.alloc (.view ⟨g, o, none⟩ 5)).cell? ⟨b, 1, none⟩ = some (.slice (some ⟨g, o, none⟩) 0 0) := by
    have : (w.drew.alloc (.view ⟨g, o, none⟩ 5)).heap[b]? = _ := (Lib.alloc_old w.drew _ b hlt).trans hbk
    rw [Lib.cell_of_heap this]; rfl
  have c3 : (w.alloc (.view ⟨g, o, none⟩ 5)).drew.cell? ⟨b, 1, none⟩ = some (.slice (some ⟨g, o, none⟩) 0 0) := c2
  have c0 : w.cell? ⟨b, 1, none⟩ = some (.slice (some ⟨g, o, none⟩) 0 0) := c1
  have mixed : Tryz.prog.follows .mixedOrders = true := Bld.mixed
  go_enter Tryz.func17, Tryz.ntmps17
  go_wp2
  go_region_o
  all_goals (go_wp2; go_ret; exact ⟨rfl, rfl⟩)
end
end Go.Proofs

namespace Go.AM.Lf
open Go.Proofs
theorem ok17 : FnSOk Tryz.prog 17 ⟨[.ptr], ⟨[.v (.st [.op 0 71, .row 1 (.int .u8)]), .a (.int .u8)], [(0, .ptr 0 0)], [.var (.st [.op 0 71, .row 1 (.int .u8)]), .arr (.int .u8)]⟩, [], ⟨[.s 0 (.imm .str), .v (.st [.op 0 71, .un])], [], [.var (.st [.op 0 71, .un]), .dead]⟩, 1, fun x => bld_String x.1 x.2⟩ := string_ok (P := Tryz.prog) (g := 17) (t := 71) (enters_of Tryz.func17 (by kernel_rfl) rfl) Bld.nil Bld.room Bld.full Bld.noroom
/-! 10: pantograph/record.Encode -/
noncomputable def tab10 : Tab := [(15, .s ⟨[.ptr, .any], ⟨[.s 1 (.imm .str), .v (.st [.op 0 71, .row 1 (.int .u8)]), .a (.int .u8)], [(0, .ptr 0 0)], [.var (.st [.op 0 71, .row 1 (.int .u8)]), .arr (.int .u8)]⟩, [.pcell 0 1 (.int .u8)], ⟨[.s 0 (.imm (.int .i64)), .v (.st [.op 0 71, .row 1 (.int .u8)]), .a (.int .u8)], [(1, .niface)], [.var (.st [.op 0 71, .row 1 (.int .u8)]), .arr (.int .u8)]⟩, 2, fun x => strings_Builder_WriteString_S x.1 x.2.1 x.2.2⟩), (17, .s ⟨[.ptr], ⟨[.v (.st [.op 0 71, .row 1 (.int .u8)]), .a (.int .u8)], [(0, .ptr 0 0)], [.var (.st [.op 0 71, .row 1 (.int .u8)]), .arr (.int .u8)]⟩, [], ⟨[.s 0 (.imm .str), .v (.st [.op 0 71, .un])], [], [.var (.st [.op 0 71, .un]), .dead]⟩, 1, fun x => bld_String x.1 x.2⟩), (16, .d ⟨[.ty tyRat], [.str], fun x => dec_Print x⟩)]
theorem tabOk10 : TabOk Tryz.prog (tab10) := tabOk_consS ok15 (tabOk_consS ok17 (tabOk_cons ok16 (tabOk_nil _)))
def ro10 : Nat → Bool := fun s => false
noncomputable def lp10_0 : LoopD := { gh := [.cell 0 1 (.int .u8)], ps := [.s 6 (.imm (.sl tyParam)), .s 7 (.imm (.int .i64))], sh := ⟨[.s 8 (.imm (.int .i64)), .v (.st [.op 0 71, .row 1 (.int .u8)]), .a (.int .u8)], [(3, .ptr 0 0)], [.var (.st [.op 0 71, .row 1 (.int .u8)]), .arr (.int .u8)]⟩, ws := [⟨.exit 0, ⟨[.v (.st [.op 0 71, .row 1 (.int .u8)]), .a (.int .u8)], [], [.var (.st [.op 0 71, .row 1 (.int .u8)]), .arr (.int .u8)]⟩⟩], F := fun p s => record_Encode_L0 p.1 p.2 s }
noncomputable def h10 : Hints := { loop := fun id => bif Nat.beq id 0 then some (lp10_0) else none, cut := fun k r => none, frz := fun r => [] }
theorem lo10_0 : LoopOkK Tryz.prog Tryz.f10.ntmps (lp10_0) (lb 0 Tryz.f10) :=
  loop_ok (xid := XID) (ro := ro10) (H := h10) mixed (tabOk10) (loops_of (L := []) (by kernel_rfl) (lnil)) (fun p s => record_Encode_R0 p.1 p.2 s) (fun p s => by kernel_rfl) (fun p s => rfl)
theorem ok10 : FnOk Tryz.prog 10 ⟨[.ty (.sl tyParam)], [.str], fun x => record_Encode x⟩ :=
  fn_ok (xid := XID) (ro := ro10) (H := h10) (fn := Tryz.f10) (code := bodyOf Tryz.f10) mixed (tabOk10) Tryz.func10 rfl (by kernel_rfl) (loops_of (L := [(0, lb 0 Tryz.f10)]) (by kernel_rfl) (lcons rfl (lo10_0) (lnil))) (fun x => by kernel_rfl)
/-! 5: pantograph/pantographlaw21.known -/
noncomputable def tab5 : Tab := [(10, .d ⟨[.ty (.sl tyParam)], [.str], fun x => record_Encode x⟩)]
theorem tabOk5 : TabOk Tryz.prog (tab5) := tabOk_cons ok10 (tabOk_nil _)
def ro5 : Nat → Bool := fun s => false
noncomputable def h5 : Hints := { loop := fun id => none, cut := fun k r => none, frz := fun r => [] }
theorem ok5 : FnOk Tryz.prog 5 ⟨[], [.bool], fun _ => law21_known⟩ :=
  fn_ok (xid := XID) (ro := ro5) (H := h5) (fn := Tryz.f5) (code := bodyOf Tryz.f5) mixed (tabOk5) Tryz.func5 rfl (by kernel_rfl) (loops_of (L := []) (by kernel_rfl) (lnil)) (fun x => by kernel_rfl)
/-! 47: pantograph/pantographref1.Trim -/
noncomputable def tab47 : Tab := []
theorem tabOk47 : TabOk Tryz.prog (tab47) := tabOk_nil _
def ro47 : Nat → Bool := fun s => false
noncomputable def lp47_0 : LoopD := { gh := [], ps := [.s 0 (.imm (.sl (.int .u32)))], sh := ⟨[.s 3 (.imm (.int .i64))], [], []⟩, ws := [⟨.exit 0, ⟨[.s 3 (.imm (.int .i64))], [], []⟩⟩], F := fun p s => ref1_Trim_L0 p s }
noncomputable def h47 : Hints := { loop := fun id => bif Nat.beq id 0 then some (lp47_0) else none, cut := fun k r => bif Nat.beq k 0 && Nat.beq r 2 then some (.flat [.s 15 (.imm .bool)]) else none, frz := fun r => [] }
theorem lo47_0 : LoopOkK Tryz.prog Tryz.f47.ntmps (lp47_0) (lb 0 Tryz.f47) :=
  loop_ok (xid := XID) (ro := ro47) (H := h47) mixed (tabOk47) (loops_of (L := []) (by kernel_rfl) (lnil)) (fun p s => ref1_Trim_R0 p s) (fun p s => by kernel_rfl) (fun p s => rfl)
theorem ok47 : FnOk Tryz.prog 47 ⟨[.ty (.sl (.int .u32))], [(.sl (.int .u32))], fun x => ref1_Trim x⟩ :=
  fn_ok (xid := XID) (ro := ro47) (H := h47) (fn := Tryz.f47) (code := bodyOf Tryz.f47) mixed (tabOk47) Tryz.func47 rfl (by kernel_rfl) (loops_of (L := [(0, lb 0 Tryz.f47)]) (by kernel_rfl) (lcons rfl (lo47_0) (lnil))) (fun x => by kernel_rfl)
/-! 62: pantograph/pantographref1.To -/
noncomputable def tab62 : Tab := [(47, .d ⟨[.ty (.sl (.int .u32))], [(.sl (.int .u32))], fun x => ref1_Trim x⟩)]
theorem tabOk62 : TabOk Tryz.prog (tab62) := tabOk_cons ok47 (tabOk_nil _)
def ro62 : Nat → Bool := fun s => false
noncomputable def lp62_0 : LoopD := { gh := [], ps := [.s 4 (.imm (.sl (.int .u32)))], sh := ⟨[.s 5 (.imm (.int .u64)), .s 6 (.imm (.int .i64))], [], []⟩, ws := [⟨.exit 0, ⟨[.s 5 (.imm (.int .u64))], [], []⟩⟩], F := fun p s => ref1_To_L0 p s }
noncomputable def h62 : Hints := { loop := fun id => bif Nat.beq id 0 then some (lp62_0) else none, cut := fun k r => none, frz := fun r => [] }
theorem lo62_0 : LoopOkK Tryz.prog Tryz.f62.ntmps (lp62_0) (lb 0 Tryz.f62) :=
  loop_ok (xid := XID) (ro := ro62) (H := h62) mixed (tabOk62) (loops_of (L := []) (by kernel_rfl) (lnil)) (fun p s => ref1_To_R0 p s) (fun p s => by kernel_rfl) (fun p s => rfl)
theorem ok62 : FnOk Tryz.prog 62 ⟨[.ty (.sl (.int .u32))], [(.int .u64), .bool], fun x => ref1_To x⟩ :=
  fn_ok (xid := XID) (ro := ro62) (H := h62) (fn := Tryz.f62) (code := bodyOf Tryz.f62) mixed (tabOk62) Tryz.func62 rfl (by kernel_rfl) (loops_of (L := [(0, lb 0 Tryz.f62)]) (by kernel_rfl) (lcons rfl (lo62_0) (lnil))) (fun x => by kernel_rfl)
/-! 63: pantograph/pantographref1.Of -/
noncomputable def tab63 : Tab := [(47, .d ⟨[.ty (.sl (.int .u32))], [(.sl (.int .u32))], fun x => ref1_Trim x⟩)]
theorem tabOk63 : TabOk Tryz.prog (tab63) := tabOk_cons ok47 (tabOk_nil _)
def ro63 : Nat → Bool := fun s => false
noncomputable def h63 : Hints := { loop := fun id => none, cut := fun k r => none, frz := fun r => [] }
theorem ok63 : FnOk Tryz.prog 63 ⟨[.ty (.int .u64)], [(.sl (.int .u32))], fun x => ref1_Of x⟩ :=
  fn_ok (xid := XID) (ro := ro63) (H := h63) (fn := Tryz.f63) (code := bodyOf Tryz.f63) mixed (tabOk63) Tryz.func63 rfl (by kernel_rfl) (loops_of (L := []) (by kernel_rfl) (lnil)) (fun x => by kernel_rfl)
/-! 64: pantograph/pantographref1.small -/
noncomputable def tab64 : Tab := [(47, .d ⟨[.ty (.sl (.int .u32))], [(.sl (.int .u32))], fun x => ref1_Trim x⟩)]
theorem tabOk64 : TabOk Tryz.prog (tab64) := tabOk_cons ok47 (tabOk_nil _)
def ro64 : Nat → Bool := fun s => false
noncomputable def lp64_0 : LoopD := { gh := [], ps := [.s 0 (.imm (.sl (.int .u32))), .s 1 (.imm (.int .u64))], sh := ⟨[.s 7 (.imm (.int .u64)), .s 8 (.imm (.int .i64)), .a (.int .u32)], [(6, .cur 0 (.int .u32))], [.arr (.int .u32)]⟩, ws := [⟨.exit 0, ⟨[.s 7 (.imm (.int .u64)), .a (.int .u32)], [(6, .cur 0 (.int .u32))], [.arr (.int .u32)]⟩⟩], F := fun p s => ref1_small_L0 p.1 p.2 s }
noncomputable def h64 : Hints := { loop := fun id => bif Nat.beq id 0 then some (lp64_0) else none, cut := fun k r => none, frz := fun r => bif Nat.beq r 9 then [6] else [] }
theorem lo64_0 : LoopOkK Tryz.prog Tryz.f64.ntmps (lp64_0) (lb 0 Tryz.f64) :=
  loop_ok (xid := XID) (ro := ro64) (H := h64) mixed (tabOk64) (loops_of (L := []) (by kernel_rfl) (lnil)) (fun p s => ref1_small_R0 p.1 p.2 s) (fun p s => by kernel_rfl) (fun p s => rfl)
theorem ok64 : FnOk Tryz.prog 64 ⟨[.ty (.sl (.int .u32)), .ty (.int .u64)], [(.sl (.int .u32)), (.int .u64)], fun x => ref1_small x.1 x.2⟩ :=
  fn_ok (xid := XID) (ro := ro64) (H := h64) (fn := Tryz.f64) (code := bodyOf Tryz.f64) mixed (tabOk64) Tryz.func64 rfl (by kernel_rfl) (loops_of (L := [(0, lb 0 Tryz.f64)]) (by kernel_rfl) (lcons rfl (lo64_0) (lnil))) (fun x => by kernel_rfl)
/-! 50: pantograph/pantographref1.at -/
noncomputable def tab50 : Tab := []
theorem tabOk50 : TabOk Tryz.prog (tab50) := tabOk_nil _
def ro50 : Nat → Bool := fun s => false
noncomputable def h50 : Hints := { loop := fun id => none, cut := fun k r => none, frz := fun r => [] }
theorem ok50 : FnOk Tryz.prog 50 ⟨[.ty (.sl (.int .u32)), .ty (.int .i64)], [(.int .u64)], fun x => ref1_at x.1 x.2⟩ :=
  fn_ok (xid := XID) (ro := ro50) (H := h50) (fn := Tryz.f50) (code := bodyOf Tryz.f50) mixed (tabOk50) Tryz.func50 rfl (by kernel_rfl) (loops_of (L := []) (by kernel_rfl) (lnil)) (fun x => by kernel_rfl)
/-! 65: pantograph/pantographref1.Shift -/
noncomputable def tab65 : Tab := [(47, .d ⟨[.ty (.sl (.int .u32))], [(.sl (.int .u32))], fun x => ref1_Trim x⟩), (50, .d ⟨[.ty (.sl (.int .u32)), .ty (.int .i64)], [(.int .u64)], fun x => ref1_at x.1 x.2⟩)]
theorem tabOk65 : TabOk Tryz.prog (tab65) := tabOk_cons ok47 (tabOk_cons ok50 (tabOk_nil _))
def ro65 : Nat → Bool := fun s => false
noncomputable def lp65_0 : LoopD := { gh := [.slot 8 (.int .u32)], ps := [.s 5 (.imm (.sl (.int .u32))), .s 7 (.imm (.int .u64))], sh := ⟨[.s 9 (.imm (.int .i64)), .a (.int .u32)], [(8, .cur 0 (.int .u32))], [.arr (.int .u32)]⟩, ws := [⟨.exit 0, ⟨[.a (.int .u32)], [(8, .cur 0 (.int .u32))], [.arr (.int .u32)]⟩⟩], F := fun p s => ref1_Shift_L0 p.1 p.2 s }
noncomputable def lp65_2 : LoopD := { gh := [], ps := [.s 5 (.imm (.sl (.int .u32))), .s 11 (.imm (.int .u64))], sh := ⟨[.s 12 (.imm (.int .u64)), .s 13 (.imm (.int .i64)), .a (.int .u32)], [(10, .cur 0 (.int .u32))], [.arr (.int .u32)]⟩, ws := [⟨.exit 2, ⟨[.a (.int .u32)], [(10, .cur 0 (.int .u32))], [.arr (.int .u32)]⟩⟩], F := fun p s => ref1_Shift_L1 p.1 p.2 s }
noncomputable def h65 : Hints := { loop := fun id => bif Nat.beq id 0 then some (lp65_0) else bif Nat.beq id 2 then some (lp65_2) else none, cut := fun k r => none, frz := fun r => bif Nat.beq r 24 then [10] else bif Nat.beq r 14 then [8] else [] }
theorem lo65_0 : LoopOkK Tryz.prog Tryz.f65.ntmps (lp65_0) (lb 0 Tryz.f65) :=
  loop_ok (xid := XID) (ro := ro65) (H := h65) mixed (tabOk65) (loops_of (L := []) (by kernel_rfl) (lnil)) (fun p s => ref1_Shift_R0 p.1 p.2 s) (fun p s => by kernel_rfl) (fun p s => rfl)
theorem lo65_2 : LoopOkK Tryz.prog Tryz.f65.ntmps (lp65_2) (lb 2 Tryz.f65) :=
  loop_ok (xid := XID) (ro := ro65) (H := h65) mixed (tabOk65) (loops_of (L := []) (by kernel_rfl) (lnil)) (fun p s => ref1_Shift_R1 p.1 p.2 s) (fun p s => by kernel_rfl) (fun p s => rfl)
theorem ok65 : FnOk Tryz.prog 65 ⟨[.ty (.sl (.int .u32)), .ty (.int .i64)], [(.sl (.int .u32))], fun x => ref1_Shift x.1 x.2⟩ :=
  fn_ok (xid := XID) (ro := ro65) (H := h65) (fn := Tryz.f65) (code := bodyOf Tryz.f65) mixed (tabOk65) Tryz.func65 rfl (by kernel_rfl) (loops_of (L := [(0, lb 0 Tryz.f65), (2, lb 2 Tryz.f65)]) (by kernel_rfl) (lcons rfl (lo65_0) (lcons rfl (lo65_2) (lnil)))) (fun x => by kernel_rfl)
/-! 35: pantograph/pantographref1.Add -/
noncomputable def tab35 : Tab := [(50, .d ⟨[.ty (.sl (.int .u32)), .ty (.int .i64)], [(.int .u64)], fun x => ref1_at x.1 x.2⟩), (47, .d ⟨[.ty (.sl (.int .u32))], [(.sl (.int .u32))], fun x => ref1_Trim x⟩)]
theorem tabOk35 : TabOk Tryz.prog (tab35) := tabOk_cons ok50 (tabOk_cons ok47 (tabOk_nil _))
def ro35 : Nat → Bool := fun s => false
noncomputable def lp35_0 : LoopD := { gh := [.slot 5 (.int .u32)], ps := [.s 0 (.imm (.sl (.int .u32))), .s 1 (.imm (.sl (.int .u32)))], sh := ⟨[.s 6 (.imm (.int .u64)), .s 7 (.imm (.int .i64)), .a (.int .u32)], [(5, .cur 0 (.int .u32))], [.arr (.int .u32)]⟩, ws := [⟨.exit 0, ⟨[.a (.int .u32)], [(5, .cur 0 (.int .u32))], [.arr (.int .u32)]⟩⟩], F := fun p s => ref1_Add_L0 p.1 p.2 s }
noncomputable def h35 : Hints := { loop := fun id => bif Nat.beq id 0 then some (lp35_0) else none, cut := fun k r => none, frz := fun r => bif Nat.beq r 9 then [5] else [] }
theorem lo35_0 : LoopOkK Tryz.prog Tryz.f35.ntmps (lp35_0) (lb 0 Tryz.f35) :=
  loop_ok (xid := XID) (ro := ro35) (H := h35) mixed (tabOk35) (loops_of (L := []) (by kernel_rfl) (lnil)) (fun p s => ref1_Add_R0 p.1 p.2 s) (fun p s => by kernel_rfl) (fun p s => rfl)
theorem ok35 : FnOk Tryz.prog 35 ⟨[.ty (.sl (.int .u32)), .ty (.sl (.int .u32))], [(.sl (.int .u32))], fun x => ref1_Add x.1 x.2⟩ :=
  fn_ok (xid := XID) (ro := ro35) (H := h35) (fn := Tryz.f35) (code := bodyOf Tryz.f35) mixed (tabOk35) Tryz.func35 rfl (by kernel_rfl) (loops_of (L := [(0, lb 0 Tryz.f35)]) (by kernel_rfl) (lcons rfl (lo35_0) (lnil))) (fun x => by kernel_rfl)
/-! 36: pantograph/pantographref1.Cmp -/
noncomputable def tab36 : Tab := [(47, .d ⟨[.ty (.sl (.int .u32))], [(.sl (.int .u32))], fun x => ref1_Trim x⟩)]
theorem tabOk36 : TabOk Tryz.prog (tab36) := tabOk_cons ok47 (tabOk_nil _)
def ro36 : Nat → Bool := fun s => false
noncomputable def lp36_0 : LoopD := { gh := [], ps := [.s 5 (.imm (.sl (.int .u32))), .s 6 (.imm (.sl (.int .u32)))], sh := ⟨[.s 7 (.imm (.int .i64))], [], []⟩, ws := [⟨.exit 0, ⟨[], [], []⟩⟩, ⟨.ret, ⟨[.s 4 (.imm (.int .i64))], [], []⟩⟩], F := fun p s => ref1_Cmp_L0 p.1 p.2 s }
noncomputable def h36 : Hints := { loop := fun id => bif Nat.beq id 0 then some (lp36_0) else none, cut := fun k r => none, frz := fun r => [] }
theorem lo36_0 : LoopOkK Tryz.prog Tryz.f36.ntmps (lp36_0) (lb 0 Tryz.f36) :=
  loop_ok (xid := XID) (ro := ro36) (H := h36) mixed (tabOk36) (loops_of (L := []) (by kernel_rfl) (lnil)) (fun p s => ref1_Cmp_R0 p.1 p.2 s) (fun p s => by kernel_rfl) (fun p s => rfl)
theorem ok36 : FnOk Tryz.prog 36 ⟨[.ty (.sl (.int .u32)), .ty (.sl (.int .u32))], [(.int .i64)], fun x => ref1_Cmp x.1 x.2⟩ :=
  fn_ok (xid := XID) (ro := ro36) (H := h36) (fn := Tryz.f36) (code := bodyOf Tryz.f36) mixed (tabOk36) Tryz.func36 rfl (by kernel_rfl) (loops_of (L := [(0, lb 0 Tryz.f36)]) (by kernel_rfl) (lcons rfl (lo36_0) (lnil))) (fun x => by kernel_rfl)
/-! 37: pantograph/pantographref1.Sub -/
noncomputable def tab37 : Tab := [(36, .d ⟨[.ty (.sl (.int .u32)), .ty (.sl (.int .u32))], [(.int .i64)], fun x => ref1_Cmp x.1 x.2⟩), (50, .d ⟨[.ty (.sl (.int .u32)), .ty (.int .i64)], [(.int .u64)], fun x => ref1_at x.1 x.2⟩), (47, .d ⟨[.ty (.sl (.int .u32))], [(.sl (.int .u32))], fun x => ref1_Trim x⟩)]
theorem tabOk37 : TabOk Tryz.prog (tab37) := tabOk_cons ok36 (tabOk_cons ok50 (tabOk_cons ok47 (tabOk_nil _)))
def ro37 : Nat → Bool := fun s => false
noncomputable def lp37_0 : LoopD := { gh := [.slot 6 (.int .u32)], ps := [.s 0 (.imm (.sl (.int .u32))), .s 1 (.imm (.sl (.int .u32)))], sh := ⟨[.s 7 (.imm (.int .u64)), .s 8 (.imm (.int .i64)), .a (.int .u32)], [(6, .cur 0 (.int .u32))], [.arr (.int .u32)]⟩, ws := [⟨.exit 0, ⟨[.a (.int .u32)], [(6, .cur 0 (.int .u32))], [.arr (.int .u32)]⟩⟩], F := fun p s => ref1_Sub_L0 p.1 p.2 s }
noncomputable def h37 : Hints := { loop := fun id => bif Nat.beq id 0 then some (lp37_0) else none, cut := fun k r => bif Nat.beq k 3 && Nat.beq r 10 then some (.flat [.s 7 (.imm (.int .u64)), .s 9 (.imm (.int .u64))]) else none, frz := fun r => bif Nat.beq r 14 then [6] else [] }
theorem lo37_0 : LoopOkK Tryz.prog Tryz.f37.ntmps (lp37_0) (lb 0 Tryz.f37) :=
  loop_ok (xid := XID) (ro := ro37) (H := h37) mixed (tabOk37) (loops_of (L := []) (by kernel_rfl) (lnil)) (fun p s => ref1_Sub_R0 p.1 p.2 s) (fun p s => by kernel_rfl) (fun p s => rfl)
theorem ok37 : FnOk Tryz.prog 37 ⟨[.ty (.sl (.int .u32)), .ty (.sl (.int .u32))], [(.sl (.int .u32)), .bool], fun x => ref1_Sub x.1 x.2⟩ :=
  fn_ok (xid := XID) (ro := ro37) (H := h37) (fn := Tryz.f37) (code := bodyOf Tryz.f37) mixed (tabOk37) Tryz.func37 rfl (by kernel_rfl) (loops_of (L := [(0, lb 0 Tryz.f37)]) (by kernel_rfl) (lcons rfl (lo37_0) (lnil))) (fun x => by kernel_rfl)
/-! 49: pantograph/pantographref1.DivMod -/
noncomputable def tab49 : Tab := [(47, .d ⟨[.ty (.sl (.int .u32))], [(.sl (.int .u32))], fun x => ref1_Trim x⟩), (62, .d ⟨[.ty (.sl (.int .u32))], [(.int .u64), .bool], fun x => ref1_To x⟩), (63, .d ⟨[.ty (.int .u64)], [(.sl (.int .u32))], fun x => ref1_Of x⟩), (64, .d ⟨[.ty (.sl (.int .u32)), .ty (.int .u64)], [(.sl (.int .u32)), (.int .u64)], fun x => ref1_small x.1 x.2⟩), (65, .d ⟨[.ty (.sl (.int .u32)), .ty (.int .i64)], [(.sl (.int .u32))], fun x => ref1_Shift x.1 x.2⟩), (35, .d ⟨[.ty (.sl (.int .u32)), .ty (.sl (.int .u32))], [(.sl (.int .u32))], fun x => ref1_Add x.1 x.2⟩), (36, .d ⟨[.ty (.sl (.int .u32)), .ty (.sl (.int .u32))], [(.int .i64)], fun x => ref1_Cmp x.1 x.2⟩), (37, .d ⟨[.ty (.sl (.int .u32)), .ty (.sl (.int .u32))], [(.sl (.int .u32)), .bool], fun x => ref1_Sub x.1 x.2⟩)]
theorem tabOk49 : TabOk Tryz.prog (tab49) := tabOk_cons ok47 (tabOk_cons ok62 (tabOk_cons ok63 (tabOk_cons ok64 (tabOk_cons ok65 (tabOk_cons ok35 (tabOk_cons ok36 (tabOk_cons ok37 (tabOk_nil _))))))))
def ro49 : Nat → Bool := fun s => false
noncomputable def lp49_0 : LoopD := { gh := [], ps := [.s 0 (.imm (.sl (.int .u32))), .s 1 (.imm (.sl (.int .u32)))], sh := ⟨[.s 14 (.imm (.sl (.int .u32))), .s 15 (.imm (.int .i64)), .a (.int .u32)], [(13, .cur 0 (.int .u32))], [.arr (.int .u32)]⟩, ws := [⟨.exit 0, ⟨[.s 14 (.imm (.sl (.int .u32))), .a (.int .u32)], [(13, .cur 0 (.int .u32))], [.arr (.int .u32)]⟩⟩], F := fun p s => ref1_DivMod_L0 p.1 p.2 s }
noncomputable def h49 : Hints := { loop := fun id => bif Nat.beq id 0 then some (lp49_0) else none, cut := fun k r => bif Nat.beq k 0 && Nat.beq r 5 then some (.flat [.s 33 (.imm .bool)]) else bif Nat.beq k 0 && Nat.beq r 7 then some (.flat [.s 46 (.imm .bool)]) else bif Nat.beq k 3 && Nat.beq r 16 then some (.ways [⟨.normal, ⟨[.s 14 (.imm (.sl (.int .u32))), .a (.int .u32)], [(13, .cur 0 (.int .u32))], [.arr (.int .u32)]⟩⟩]) else none, frz := fun r => bif Nat.beq r 21 then [13] else [] }
theorem lo49_0 : LoopOkK Tryz.prog Tryz.f49.ntmps (lp49_0) (lb 0 Tryz.f49) :=
  loop_ok (xid := XID) (ro := ro49) (H := h49) mixed (tabOk49) (loops_of (L := []) (by kernel_rfl) (lnil)) (fun p s => ref1_DivMod_R0 p.1 p.2 s) (fun p s => by kernel_rfl) (fun p s => rfl)
theorem ok49 : FnOk Tryz.prog 49 ⟨[.ty (.sl (.int .u32)), .ty (.sl (.int .u32))], [(.sl (.int .u32)), (.sl (.int .u32)), .bool], fun x => ref1_DivMod x.1 x.2⟩ :=
  fn_ok (xid := XID) (ro := ro49) (H := h49) (fn := Tryz.f49) (code := bodyOf Tryz.f49) mixed (tabOk49) Tryz.func49 rfl (by kernel_rfl) (loops_of (L := [(0, lb 0 Tryz.f49)]) (by kernel_rfl) (lcons rfl (lo49_0) (lnil))) (fun x => by kernel_rfl)
/-! 48: pantograph/pantographref1.Gcd -/
noncomputable def tab48 : Tab := [(47, .d ⟨[.ty (.sl (.int .u32))], [(.sl (.int .u32))], fun x => ref1_Trim x⟩), (49, .d ⟨[.ty (.sl (.int .u32)), .ty (.sl (.int .u32))], [(.sl (.int .u32)), (.sl (.int .u32)), .bool], fun x => ref1_DivMod x.1 x.2⟩)]
theorem tabOk48 : TabOk Tryz.prog (tab48) := tabOk_cons ok47 (tabOk_cons ok49 (tabOk_nil _))
def ro48 : Nat → Bool := fun s => false
noncomputable def lp48_0 : LoopD := { gh := [], ps := [], sh := ⟨[.s 5 (.imm (.sl (.int .u32))), .s 6 (.imm (.sl (.int .u32)))], [], []⟩, ws := [⟨.exit 0, ⟨[.s 5 (.imm (.sl (.int .u32)))], [], []⟩⟩], F := fun p s => ref1_Gcd_L0  s }
noncomputable def h48 : Hints := { loop := fun id => bif Nat.beq id 0 then some (lp48_0) else none, cut := fun k r => none, frz := fun r => [] }
theorem lo48_0 : LoopOkK Tryz.prog Tryz.f48.ntmps (lp48_0) (lb 0 Tryz.f48) :=
  loop_ok (xid := XID) (ro := ro48) (H := h48) mixed (tabOk48) (loops_of (L := []) (by kernel_rfl) (lnil)) (fun p s => ref1_Gcd_R0  s) (fun p s => by kernel_rfl) (fun p s => rfl)
theorem ok48 : FnOk Tryz.prog 48 ⟨[.ty (.sl (.int .u32)), .ty (.sl (.int .u32))], [(.sl (.int .u32))], fun x => ref1_Gcd x.1 x.2⟩ :=
  fn_ok (xid := XID) (ro := ro48) (H := h48) (fn := Tryz.f48) (code := bodyOf Tryz.f48) mixed (tabOk48) Tryz.func48 rfl (by kernel_rfl) (loops_of (L := [(0, lb 0 Tryz.f48)]) (by kernel_rfl) (lcons rfl (lo48_0) (lnil))) (fun x => by kernel_rfl)
/-! 32: pantograph/pantographref2.Norm -/
noncomputable def tab32 : Tab := [(47, .d ⟨[.ty (.sl (.int .u32))], [(.sl (.int .u32))], fun x => ref1_Trim x⟩), (48, .d ⟨[.ty (.sl (.int .u32)), .ty (.sl (.int .u32))], [(.sl (.int .u32))], fun x => ref1_Gcd x.1 x.2⟩), (49, .d ⟨[.ty (.sl (.int .u32)), .ty (.sl (.int .u32))], [(.sl (.int .u32)), (.sl (.int .u32)), .bool], fun x => ref1_DivMod x.1 x.2⟩)]
theorem tabOk32 : TabOk Tryz.prog (tab32) := tabOk_cons ok47 (tabOk_cons ok48 (tabOk_cons ok49 (tabOk_nil _)))
def ro32 : Nat → Bool := fun s => Nat.beq s 1
noncomputable def h32 : Hints := { loop := fun id => none, cut := fun k r => bif Nat.beq k 0 && Nat.beq r 2 then some (.flat [.s 19 (.imm .bool)]) else none, frz := fun r => [] }
theorem ok32 : FnOk Tryz.prog 32 ⟨[.ty tyRat], [tyRat], fun x => ref2_Norm x⟩ :=
  fn_ok (xid := XID) (ro := ro32) (H := h32) (fn := Tryz.f32) (code := bodyOf Tryz.f32) mixed (tabOk32) Tryz.func32 rfl (by kernel_rfl) (loops_of (L := []) (by kernel_rfl) (lnil)) (fun x => by kernel_rfl)
/-! 19: pantograph/pantographref2.Neg -/
noncomputable def tab19 : Tab := [(32, .d ⟨[.ty tyRat], [tyRat], fun x => ref2_Norm x⟩)]
theorem tabOk19 : TabOk Tryz.prog (tab19) := tabOk_cons ok32 (tabOk_nil _)
def ro19 : Nat → Bool := fun s => Nat.beq s 1
noncomputable def h19 : Hints := { loop := fun id => none, cut := fun k r => bif Nat.beq k 0 && Nat.beq r 2 then some (.ways [⟨.normal, ⟨[.v (.imm tyRat), .v (.imm tyRat)], [], [.var (.imm tyRat), .var (.imm tyRat)]⟩⟩]) else none, frz := fun r => [] }
theorem ok19 : FnOk Tryz.prog 19 ⟨[.ty tyRat], [tyRat], fun x => ref2_Neg x⟩ :=
  fn_ok (xid := XID) (ro := ro19) (H := h19) (fn := Tryz.f19) (code := bodyOf Tryz.f19) mixed (tabOk19) Tryz.func19 rfl (by kernel_rfl) (loops_of (L := []) (by kernel_rfl) (lnil)) (fun x => by kernel_rfl)
/-! 33: pantograph/pantographref1.Mul -/
noncomputable def tab33 : Tab := [(50, .d ⟨[.ty (.sl (.int .u32)), .ty (.int .i64)], [(.int .u64)], fun x => ref1_at x.1 x.2⟩), (47, .d ⟨[.ty (.sl (.int .u32))], [(.sl (.int .u32))], fun x => ref1_Trim x⟩)]
theorem tabOk33 : TabOk Tryz.prog (tab33) := tabOk_cons ok50 (tabOk_cons ok47 (tabOk_nil _))
def ro33 : Nat → Bool := fun s => false
noncomputable def lp33_2 : LoopD := { gh := [], ps := [.s 0 (.imm (.sl (.int .u32))), .s 1 (.imm (.sl (.int .u32))), .s 6 (.imm (.int .i64))], sh := ⟨[.s 7 (.imm (.int .u64)), .s 8 (.imm (.int .i64)), .a (.int .u32)], [(5, .cur 0 (.int .u32))], [.arr (.int .u32)]⟩, ws := [⟨.exit 2, ⟨[.a (.int .u32)], [(5, .cur 0 (.int .u32))], [.arr (.int .u32)]⟩⟩], F := fun p s => ref1_Mul_L1 p.1 p.2.1 p.2.2 s }
noncomputable def lp33_0 : LoopD := { gh := [], ps := [.s 0 (.imm (.sl (.int .u32))), .s 1 (.imm (.sl (.int .u32)))], sh := ⟨[.s 6 (.imm (.int .i64)), .a (.int .u32)], [(5, .cur 0 (.int .u32))], [.arr (.int .u32)]⟩, ws := [⟨.exit 0, ⟨[.a (.int .u32)], [(5, .cur 0 (.int .u32))], [.arr (.int .u32)]⟩⟩], F := fun p s => ref1_Mul_L0 p.1 p.2 s }
noncomputable def h33 : Hints := { loop := fun id => bif Nat.beq id 2 then some (lp33_2) else bif Nat.beq id 0 then some (lp33_0) else none, cut := fun k r => bif Nat.beq k 0 && Nat.beq r 7 then some (.flat [.s 28 (.imm .bool)]) else none, frz := fun r => bif Nat.beq r 13 then [5] else [] }
theorem lo33_2 : LoopOkK Tryz.prog Tryz.f33.ntmps (lp33_2) (lb 2 Tryz.f33) :=
  loop_ok (xid := XID) (ro := ro33) (H := h33) mixed (tabOk33) (loops_of (L := []) (by kernel_rfl) (lnil)) (fun p s => ref1_Mul_R1 p.1 p.2.1 p.2.2 s) (fun p s => by kernel_rfl) (fun p s => rfl)
theorem lo33_0 : LoopOkK Tryz.prog Tryz.f33.ntmps (lp33_0) (lb 0 Tryz.f33) :=
  loop_ok (xid := XID) (ro := ro33) (H := h33) mixed (tabOk33) (loops_of (L := [(2, lb 2 Tryz.f33)]) (by kernel_rfl) (lcons rfl (lo33_2) (lnil))) (fun p s => ref1_Mul_R0 p.1 p.2 s) (fun p s => by kernel_rfl) (fun p s => rfl)
theorem ok33 : FnOk Tryz.prog 33 ⟨[.ty (.sl (.int .u32)), .ty (.sl (.int .u32))], [(.sl (.int .u32))], fun x => ref1_Mul x.1 x.2⟩ :=
  fn_ok (xid := XID) (ro := ro33) (H := h33) (fn := Tryz.f33) (code := bodyOf Tryz.f33) mixed (tabOk33) Tryz.func33 rfl (by kernel_rfl) (loops_of (L := [(0, lb 0 Tryz.f33)]) (by kernel_rfl) (lcons rfl (lo33_0) (lnil))) (fun x => by kernel_rfl)
/-! 34: pantograph/pantographref2.Of -/
noncomputable def tab34 : Tab := [(32, .d ⟨[.ty tyRat], [tyRat], fun x => ref2_Norm x⟩)]
theorem tabOk34 : TabOk Tryz.prog (tab34) := tabOk_cons ok32 (tabOk_nil _)
def ro34 : Nat → Bool := fun s => false
noncomputable def h34 : Hints := { loop := fun id => none, cut := fun k r => none, frz := fun r => [] }
theorem ok34 : FnOk Tryz.prog 34 ⟨[.ty .bool, .ty (.sl (.int .u32)), .ty (.sl (.int .u32))], [tyRat], fun x => ref2_Of x.1 x.2.1 x.2.2⟩ :=
  fn_ok (xid := XID) (ro := ro34) (H := h34) (fn := Tryz.f34) (code := bodyOf Tryz.f34) mixed (tabOk34) Tryz.func34 rfl (by kernel_rfl) (loops_of (L := []) (by kernel_rfl) (lnil)) (fun x => by kernel_rfl)
/-! 18: pantograph/pantographref2.Add -/
noncomputable def tab18 : Tab := [(32, .d ⟨[.ty tyRat], [tyRat], fun x => ref2_Norm x⟩), (33, .d ⟨[.ty (.sl (.int .u32)), .ty (.sl (.int .u32))], [(.sl (.int .u32))], fun x => ref1_Mul x.1 x.2⟩), (35, .d ⟨[.ty (.sl (.int .u32)), .ty (.sl (.int .u32))], [(.sl (.int .u32))], fun x => ref1_Add x.1 x.2⟩), (34, .d ⟨[.ty .bool, .ty (.sl (.int .u32)), .ty (.sl (.int .u32))], [tyRat], fun x => ref2_Of x.1 x.2.1 x.2.2⟩), (36, .d ⟨[.ty (.sl (.int .u32)), .ty (.sl (.int .u32))], [(.int .i64)], fun x => ref1_Cmp x.1 x.2⟩), (37, .d ⟨[.ty (.sl (.int .u32)), .ty (.sl (.int .u32))], [(.sl (.int .u32)), .bool], fun x => ref1_Sub x.1 x.2⟩)]
theorem tabOk18 : TabOk Tryz.prog (tab18) := tabOk_cons ok32 (tabOk_cons ok33 (tabOk_cons ok35 (tabOk_cons ok34 (tabOk_cons ok36 (tabOk_cons ok37 (tabOk_nil _))))))
def ro18 : Nat → Bool := fun s => Nat.beq s 2 || Nat.beq s 3
noncomputable def h18 : Hints := { loop := fun id => none, cut := fun k r => none, frz := fun r => [] }
theorem ok18 : FnOk Tryz.prog 18 ⟨[.ty tyRat, .ty tyRat], [tyRat], fun x => ref2_Add x.1 x.2⟩ :=
  fn_ok (xid := XID) (ro := ro18) (H := h18) (fn := Tryz.f18) (code := bodyOf Tryz.f18) mixed (tabOk18) Tryz.func18 rfl (by kernel_rfl) (loops_of (L := []) (by kernel_rfl) (lnil)) (fun x => by kernel_rfl)
/-! 11: pantograph/pantographref2.Sub -/
noncomputable def tab11 : Tab := [(19, .d ⟨[.ty tyRat], [tyRat], fun x => ref2_Neg x⟩), (18, .d ⟨[.ty tyRat, .ty tyRat], [tyRat], fun x => ref2_Add x.1 x.2⟩)]
theorem tabOk11 : TabOk Tryz.prog (tab11) := tabOk_cons ok19 (tabOk_cons ok18 (tabOk_nil _))
def ro11 : Nat → Bool := fun s => Nat.beq s 2 || Nat.beq s 3
noncomputable def h11 : Hints := { loop := fun id => none, cut := fun k r => none, frz := fun r => [] }
theorem ok11 : FnOk Tryz.prog 11 ⟨[.ty tyRat, .ty tyRat], [tyRat], fun x => ref2_Sub x.1 x.2⟩ :=
  fn_ok (xid := XID) (ro := ro11) (H := h11) (fn := Tryz.f11) (code := bodyOf Tryz.f11) mixed (tabOk11) Tryz.func11 rfl (by kernel_rfl) (loops_of (L := []) (by kernel_rfl) (lnil)) (fun x => by kernel_rfl)
/-! 6: pantograph/pantographref2.Cmp -/
noncomputable def tab6 : Tab := [(11, .d ⟨[.ty tyRat, .ty tyRat], [tyRat], fun x => ref2_Sub x.1 x.2⟩)]
theorem tabOk6 : TabOk Tryz.prog (tab6) := tabOk_cons ok11 (tabOk_nil _)
def ro6 : Nat → Bool := fun s => Nat.beq s 2 || Nat.beq s 3
noncomputable def h6 : Hints := { loop := fun id => none, cut := fun k r => none, frz := fun r => [] }
theorem ok6 : FnOk Tryz.prog 6 ⟨[.ty tyRat, .ty tyRat], [(.int .i64)], fun x => ref2_Cmp x.1 x.2⟩ :=
  fn_ok (xid := XID) (ro := ro6) (H := h6) (fn := Tryz.f6) (code := bodyOf Tryz.f6) mixed (tabOk6) Tryz.func6 rfl (by kernel_rfl) (loops_of (L := []) (by kernel_rfl) (lnil)) (fun x => by kernel_rfl)
/-! 20: pantograph/elab.Fields -/
noncomputable def tab20 : Tab := []
theorem tabOk20 : TabOk Tryz.prog (tab20) := tabOk_nil _
def ro20 : Nat → Bool := fun s => Nat.beq s 1
noncomputable def lp20_0 : LoopD := { gh := [.slot 3 .str], ps := [.s 7 (.imm (.sl tyField)), .s 8 (.imm (.int .i64))], sh := ⟨[.s 9 (.imm (.int .i64)), .a .str], [(3, .cur 0 .str)], [.arr .str]⟩, ws := [⟨.exit 0, ⟨[.a .str], [(3, .cur 0 .str)], [.arr .str]⟩⟩], F := fun p s => elab_Fields_L0 p.1 p.2 s }
noncomputable def h20 : Hints := { loop := fun id => bif Nat.beq id 0 then some (lp20_0) else none, cut := fun k r => none, frz := fun r => [] }
theorem lo20_0 : LoopOkK Tryz.prog Tryz.f20.ntmps (lp20_0) (lb 0 Tryz.f20) :=
  loop_ok (xid := XID) (ro := ro20) (H := h20) mixed (tabOk20) (loops_of (L := []) (by kernel_rfl) (lnil)) (fun p s => elab_Fields_R0 p.1 p.2 s) (fun p s => by kernel_rfl) (fun p s => rfl)
theorem ok20 : FnOk Tryz.prog 20 ⟨[.ty tyForm], [(.sl .str)], fun x => elab_Fields x⟩ :=
  fn_ok (xid := XID) (ro := ro20) (H := h20) (fn := Tryz.f20) (code := bodyOf Tryz.f20) mixed (tabOk20) Tryz.func20 rfl (by kernel_rfl) (loops_of (L := [(0, lb 0 Tryz.f20)]) (by kernel_rfl) (lcons rfl (lo20_0) (lnil))) (fun x => by kernel_rfl)
/-! 21: slices.Clone[[]pantograph/api.Rat,pantograph/api.Rat] -/
noncomputable def tab21 : Tab := []
theorem tabOk21 : TabOk Tryz.prog (tab21) := tabOk_nil _
def ro21 : Nat → Bool := fun s => false
noncomputable def h21 : Hints := { loop := fun id => none, cut := fun k r => bif Nat.beq k 0 && Nat.beq r 1 then some (.nilt) else none, frz := fun r => [] }
theorem ok21 : FnOk Tryz.prog 21 ⟨[.ty (.sl tyRat)], [(.sl tyRat)], fun x => slices_Clone_sl_Rat x⟩ :=
  fn_ok (xid := XID) (ro := ro21) (H := h21) (fn := Tryz.f21) (code := bodyOf Tryz.f21) mixed (tabOk21) Tryz.func21 rfl (by kernel_rfl) (loops_of (L := []) (by kernel_rfl) (lnil)) (fun x => by kernel_rfl)
/-! 12: pantograph/elab.Env -/
noncomputable def tab12 : Tab := [(20, .d ⟨[.ty tyForm], [(.sl .str)], fun x => elab_Fields x⟩), (21, .d ⟨[.ty (.sl tyRat)], [(.sl tyRat)], fun x => slices_Clone_sl_Rat x⟩)]
theorem tabOk12 : TabOk Tryz.prog (tab12) := tabOk_cons ok20 (tabOk_cons ok21 (tabOk_nil _))
def ro12 : Nat → Bool := fun s => Nat.beq s 2
noncomputable def lp12_0 : LoopD := { gh := [.cell 0 0 .str, .cell 0 1 .str, .cell 1 1 .str], ps := [.s 14 (.imm (.sl tyParam)), .s 15 (.imm (.int .i64))], sh := ⟨[.s 16 (.imm (.int .i64)), .v (.st [.row 2 .str, .row 3 .str, .im (.sl tyRat)]), .v (.st [.im (.sl .str), .row 4 .str, .im (.sl tyRat)]), .a .str, .a .str, .a .str], [(4, .ptr 0 0), (5, .ptr 1 0)], [.var (.st [.row 2 .str, .row 3 .str, .im (.sl tyRat)]), .var (.st [.im (.sl .str), .row 4 .str, .im (.sl tyRat)]), .arr .str, .arr .str, .arr .str]⟩, ws := [⟨.exit 0, ⟨[.v (.st [.row 2 .str, .row 3 .str, .im (.sl tyRat)]), .v (.st [.im (.sl .str), .row 4 .str, .im (.sl tyRat)]), .a .str, .a .str, .a .str], [], [.var (.st [.row 2 .str, .row 3 .str, .im (.sl tyRat)]), .var (.st [.im (.sl .str), .row 4 .str, .im (.sl tyRat)]), .arr .str, .arr .str, .arr .str]⟩⟩], F := fun p s => elab_Env_L0 p.1 p.2 s }
noncomputable def h12 : Hints := { loop := fun id => bif Nat.beq id 0 then some (lp12_0) else none, cut := fun k r => none, frz := fun r => [] }
theorem lo12_0 : LoopOkK Tryz.prog Tryz.f12.ntmps (lp12_0) (lb 0 Tryz.f12) :=
  loop_ok (xid := XID) (ro := ro12) (H := h12) mixed (tabOk12) (loops_of (L := []) (by kernel_rfl) (lnil)) (fun p s => elab_Env_R0 p.1 p.2 s) (fun p s => by kernel_rfl) (fun p s => rfl)
theorem ok12 : FnOk Tryz.prog 12 ⟨[.ty tyForm, .ty (.sl tyRat)], [tyaff_Env], fun x => elab_Env x.1 x.2⟩ :=
  fn_ok (xid := XID) (ro := ro12) (H := h12) (fn := Tryz.f12) (code := bodyOf Tryz.f12) mixed (tabOk12) Tryz.func12 rfl (by kernel_rfl) (loops_of (L := [(0, lb 0 Tryz.f12)]) (by kernel_rfl) (lcons rfl (lo12_0) (lnil))) (fun x => by kernel_rfl)
/-! 23: pantograph/page.Relevant$1 -/
noncomputable def tab23 : Tab := []
theorem tabOk23 : TabOk Tryz.prog (tab23) := tabOk_nil _
def ro23 : Nat → Bool := fun s => Nat.beq s 2
noncomputable def h23 : Hints := { loop := fun id => none, cut := fun k r => none, frz := fun r => [] }
theorem ok23 : FnOk Tryz.prog 23 ⟨[.ty tySwitch, .rp tyPage], [.bool], fun x => page_Relevant_f1 x.1 x.2⟩ :=
  fn_ok (xid := XID) (ro := ro23) (H := h23) (fn := Tryz.f23) (code := bodyOf Tryz.f23) mixed (tabOk23) Tryz.func23 rfl (by kernel_rfl) (loops_of (L := []) (by kernel_rfl) (lnil)) (fun x => by kernel_rfl)
/-! 22: slices.IndexFunc[[]pantograph/api.Switch,pantograph/api.Switch] -/
noncomputable def tab22 : Tab := [(23, .d ⟨[.ty tySwitch, .rp tyPage], [.bool], fun x => page_Relevant_f1 x.1 x.2⟩)]
theorem tabOk22 : TabOk Tryz.prog (tab22) := tabOk_cons ok23 (tabOk_nil _)
def ro22 : Nat → Bool := fun s => false
noncomputable def lp22_0 : LoopD := { gh := [], ps := [.s 0 (.imm (.sl tySwitch)), .s 1 (.clo 23 [.rp tyPage]), .s 7 (.imm (.int .i64))], sh := ⟨[.s 8 (.imm (.int .i64))], [], []⟩, ws := [⟨.exit 0, ⟨[], [], []⟩⟩, ⟨.ret, ⟨[.s 4 (.imm (.int .i64))], [], []⟩⟩], F := fun p s => slices_IndexFunc_sl_Switch_L0 p.1 (fun z0 => page_Relevant_f1 z0 p.2.1) p.2.2 s }
noncomputable def h22 : Hints := { loop := fun id => bif Nat.beq id 0 then some (lp22_0) else none, cut := fun k r => none, frz := fun r => [] }
theorem lo22_0 : LoopOkK Tryz.prog Tryz.f22.ntmps (lp22_0) (lb 0 Tryz.f22) :=
  loop_ok (xid := XID) (ro := ro22) (H := h22) mixed (tabOk22) (loops_of (L := []) (by kernel_rfl) (lnil)) (fun p s => slices_IndexFunc_sl_Switch_R0 p.1 (fun z0 => page_Relevant_f1 z0 p.2.1) p.2.2 s) (fun p s => by kernel_rfl) (fun p s => rfl)
theorem ok22 : FnOk Tryz.prog 22 ⟨[.ty (.sl tySwitch), .clo 23 [.rp tyPage]], [(.int .i64)], fun x => slices_IndexFunc_sl_Switch x.1 (fun z0 => page_Relevant_f1 z0 x.2)⟩ :=
  fn_ok (xid := XID) (ro := ro22) (H := h22) (fn := Tryz.f22) (code := bodyOf Tryz.f22) mixed (tabOk22) Tryz.func22 rfl (by kernel_rfl) (loops_of (L := [(0, lb 0 Tryz.f22)]) (by kernel_rfl) (lcons rfl (lo22_0) (lnil))) (fun x => by kernel_rfl)
/-! 13: pantograph/page.Relevant -/
noncomputable def tab13 : Tab := [(23, .d ⟨[.ty tySwitch, .rp tyPage], [.bool], fun x => page_Relevant_f1 x.1 x.2⟩), (22, .d ⟨[.ty (.sl tySwitch), .clo 23 [.rp tyPage]], [(.int .i64)], fun x => slices_IndexFunc_sl_Switch x.1 (fun z0 => page_Relevant_f1 z0 x.2)⟩)]
theorem tabOk13 : TabOk Tryz.prog (tab13) := tabOk_cons ok23 (tabOk_cons ok22 (tabOk_nil _))
def ro13 : Nat → Bool := fun s => Nat.beq s 2
noncomputable def lp13_0 : LoopD := { gh := [.slot 5 .bool], ps := [.s 1 (.imm (.sl .bool)), .s 2 (.rptr tyForm), .s 10 (.imm (.sl tyPage)), .s 11 (.imm (.int .i64))], sh := ⟨[.s 12 (.imm (.int .i64)), .a .bool], [(5, .cur 0 .bool)], [.arr .bool]⟩, ws := [⟨.exit 0, ⟨[.a .bool], [(5, .cur 0 .bool)], [.arr .bool]⟩⟩], F := fun p s => page_Relevant_L0 p.1 p.2.1 p.2.2.1 p.2.2.2 s }
noncomputable def h13 : Hints := { loop := fun id => bif Nat.beq id 0 then some (lp13_0) else none, cut := fun k r => none, frz := fun r => [] }
theorem lo13_0 : LoopOkK Tryz.prog Tryz.f13.ntmps (lp13_0) (lb 0 Tryz.f13) :=
  loop_ok (xid := XID) (ro := ro13) (H := h13) mixed (tabOk13) (loops_of (L := []) (by kernel_rfl) (lnil)) (fun p s => page_Relevant_R0 p.1 p.2.1 p.2.2.1 p.2.2.2 s) (fun p s => by kernel_rfl) (fun p s => rfl)
theorem ok13 : FnOk Tryz.prog 13 ⟨[.ty tyForm, .ty (.sl .bool)], [(.sl .bool)], fun x => page_Relevant x.1 x.2⟩ :=
  fn_ok (xid := XID) (ro := ro13) (H := h13) (fn := Tryz.f13) (code := bodyOf Tryz.f13) mixed (tabOk13) Tryz.func13 rfl (by kernel_rfl) (loops_of (L := [(0, lb 0 Tryz.f13)]) (by kernel_rfl) (lcons rfl (lo13_0) (lnil))) (fun x => by kernel_rfl)
/-! 77: pantograph/expr.kids -/
noncomputable def tab77 : Tab := []
theorem tabOk77 : TabOk Tryz.prog (tab77) := tabOk_nil _
def ro77 : Nat → Bool := fun s => false
noncomputable def h77 : Hints := { loop := fun id => none, cut := fun k r => bif Nat.beq k 3 && Nat.beq r 2 then some (.flat [.s 4 (.imm .bool)]) else none, frz := fun r => [] }
theorem ok77 : FnOk Tryz.prog 77 ⟨[.ty (.int .i64)], [(.int .i64)], fun x => expr_kids x⟩ :=
  fn_ok (xid := XID) (ro := ro77) (H := h77) (fn := Tryz.f77) (code := bodyOf Tryz.f77) mixed (tabOk77) Tryz.func77 rfl (by kernel_rfl) (loops_of (L := []) (by kernel_rfl) (lnil)) (fun x => by kernel_rfl)
/-! 88: pantograph/rat.Is -/
noncomputable def tab88 : Tab := [(61, .d ⟨[.ty (.sl (.int .u32))], [.bool], fun x => nat_Is x⟩), (57, .d ⟨[.ty (.sl (.int .u32)), .ty (.sl (.int .u32))], [(.sl (.int .u32))], fun x => nat_Gcd x.1 x.2⟩), (31, .d ⟨[.ty (.int .u64)], [(.sl (.int .u32))], fun x => nat_Of x⟩), (30, .d ⟨[.ty (.sl (.int .u32)), .ty (.sl (.int .u32))], [(.int .i64)], fun x => nat_Cmp x.1 x.2⟩)]
theorem tabOk88 : TabOk Tryz.prog (tab88) := tabOk_cons ok61 (tabOk_cons ok57 (tabOk_cons ok31 (tabOk_cons ok30 (tabOk_nil _))))
def ro88 : Nat → Bool := fun s => Nat.beq s 1
noncomputable def h88 : Hints := { loop := fun id => none, cut := fun k r => bif Nat.beq k 0 && Nat.beq r 1 then some (.ways [⟨.normal, ⟨[.s 28 (.imm .bool)], [], []⟩⟩]) else none, frz := fun r => [] }
theorem ok88 : FnOk Tryz.prog 88 ⟨[.ty tyRat], [.bool], fun x => rat_Is x⟩ :=
  fn_ok (xid := XID) (ro := ro88) (H := h88) (fn := Tryz.f88) (code := bodyOf Tryz.f88) mixed (tabOk88) Tryz.func88 rfl (by kernel_rfl) (loops_of (L := []) (by kernel_rfl) (lnil)) (fun x => by kernel_rfl)
/-! 89: pantograph/rat.Large -/
noncomputable def tab89 : Tab := [(27, .d ⟨[.ty tyRat], [tyRat], fun x => rat_Norm x⟩)]
theorem tabOk89 : TabOk Tryz.prog (tab89) := tabOk_cons ok27 (tabOk_nil _)
def ro89 : Nat → Bool := fun s => false
noncomputable def h89 : Hints := { loop := fun id => none, cut := fun k r => bif Nat.beq k 0 && Nat.beq r 2 then some (.flat [.s 2 (.imm .bool)]) else none, frz := fun r => [] }
theorem ok89 : FnOk Tryz.prog 89 ⟨[.ty tyRat], [.bool], fun x => rat_Large x⟩ :=
  fn_ok (xid := XID) (ro := ro89) (H := h89) (fn := Tryz.f89) (code := bodyOf Tryz.f89) mixed (tabOk89) Tryz.func89 rfl (by kernel_rfl) (loops_of (L := []) (by kernel_rfl) (lnil)) (fun x => by kernel_rfl)
/-! 72: pantograph/nat.Mul -/
noncomputable def tab72 : Tab := [(46, .d ⟨[.ty (.sl (.int .u32))], [(.sl (.int .u32))], fun x => nat_trim x⟩)]
theorem tabOk72 : TabOk Tryz.prog (tab72) := tabOk_cons ok46 (tabOk_nil _)
def ro72 : Nat → Bool := fun s => false
noncomputable def lp72_2 : LoopD := { gh := [], ps := [.s 1 (.imm (.sl (.int .u32))), .s 6 (.imm (.int .i64)), .s 7 (.imm (.int .u32)), .s 21 (.imm (.sl (.int .u32))), .s 22 (.imm (.int .i64)), .s 23 (.imm (.int .i64)), .s 28 (.imm (.sl (.int .u32))), .s 29 (.imm (.int .i64))], sh := ⟨[.s 8 (.imm (.int .u64)), .s 30 (.imm (.int .i64)), .a (.int .u32)], [(5, .cur 0 (.int .u32))], [.arr (.int .u32)]⟩, ws := [⟨.exit 2, ⟨[.s 8 (.imm (.int .u64)), .a (.int .u32)], [(5, .cur 0 (.int .u32))], [.arr (.int .u32)]⟩⟩], F := fun p s => nat_Mul_L1 p.1 p.2.1 p.2.2.1 p.2.2.2.1 p.2.2.2.2.1 p.2.2.2.2.2.1 p.2.2.2.2.2.2.1 p.2.2.2.2.2.2.2 s }
noncomputable def lp72_0 : LoopD := { gh := [], ps := [.s 1 (.imm (.sl (.int .u32))), .s 21 (.imm (.sl (.int .u32))), .s 22 (.imm (.int .i64))], sh := ⟨[.s 23 (.imm (.int .i64)), .a (.int .u32)], [(5, .cur 0 (.int .u32))], [.arr (.int .u32)]⟩, ws := [⟨.exit 0, ⟨[.a (.int .u32)], [(5, .cur 0 (.int .u32))], [.arr (.int .u32)]⟩⟩], F := fun p s => nat_Mul_L0 p.1 p.2.1 p.2.2 s }
noncomputable def h72 : Hints := { loop := fun id => bif Nat.beq id 2 then some (lp72_2) else bif Nat.beq id 0 then some (lp72_0) else none, cut := fun k r => none, frz := fun r => bif Nat.beq r 16 then [5] else [] }
theorem lo72_2 : LoopOkK Tryz.prog Tryz.f72.ntmps (lp72_2) (lb 2 Tryz.f72) :=
  loop_ok (xid := XID) (ro := ro72) (H := h72) mixed (tabOk72) (loops_of (L := []) (by kernel_rfl) (lnil)) (fun p s => nat_Mul_R1 p.1 p.2.1 p.2.2.1 p.2.2.2.1 p.2.2.2.2.1 p.2.2.2.2.2.1 p.2.2.2.2.2.2.1 p.2.2.2.2.2.2.2 s) (fun p s => by kernel_rfl) (fun p s => rfl)
theorem lo72_0 : LoopOkK Tryz.prog Tryz.f72.ntmps (lp72_0) (lb 0 Tryz.f72) :=
  loop_ok (xid := XID) (ro := ro72) (H := h72) mixed (tabOk72) (loops_of (L := [(2, lb 2 Tryz.f72)]) (by kernel_rfl) (lcons rfl (lo72_2) (lnil))) (fun p s => nat_Mul_R0 p.1 p.2.1 p.2.2 s) (fun p s => by kernel_rfl) (fun p s => rfl)
theorem ok72 : FnOk Tryz.prog 72 ⟨[.ty (.sl (.int .u32)), .ty (.sl (.int .u32))], [(.sl (.int .u32))], fun x => nat_Mul x.1 x.2⟩ :=
  fn_ok (xid := XID) (ro := ro72) (H := h72) (fn := Tryz.f72) (code := bodyOf Tryz.f72) mixed (tabOk72) Tryz.func72 rfl (by kernel_rfl) (loops_of (L := [(0, lb 0 Tryz.f72)]) (by kernel_rfl) (lcons rfl (lo72_0) (lnil))) (fun x => by kernel_rfl)
/-! 95: pantograph/dec.ten -/
noncomputable def tab95 : Tab := [(31, .d ⟨[.ty (.int .u64)], [(.sl (.int .u32))], fun x => nat_Of x⟩), (72, .d ⟨[.ty (.sl (.int .u32)), .ty (.sl (.int .u32))], [(.sl (.int .u32))], fun x => nat_Mul x.1 x.2⟩)]
theorem tabOk95 : TabOk Tryz.prog (tab95) := tabOk_cons ok31 (tabOk_cons ok72 (tabOk_nil _))
def ro95 : Nat → Bool := fun s => false
noncomputable def lp95_0 : LoopD := { gh := [], ps := [.s 5 (.imm (.int .i64))], sh := ⟨[.s 3 (.imm (.sl (.int .u32))), .s 6 (.imm (.int .i64))], [], []⟩, ws := [⟨.exit 0, ⟨[.s 3 (.imm (.sl (.int .u32)))], [], []⟩⟩], F := fun p s => dec_ten_L0 p s }
noncomputable def h95 : Hints := { loop := fun id => bif Nat.beq id 0 then some (lp95_0) else none, cut := fun k r => none, frz := fun r => [] }
theorem lo95_0 : LoopOkK Tryz.prog Tryz.f95.ntmps (lp95_0) (lb 0 Tryz.f95) :=
  loop_ok (xid := XID) (ro := ro95) (H := h95) mixed (tabOk95) (loops_of (L := []) (by kernel_rfl) (lnil)) (fun p s => dec_ten_R0 p s) (fun p s => by kernel_rfl) (fun p s => rfl)
theorem ok95 : FnOk Tryz.prog 95 ⟨[.ty (.int .i64)], [(.sl (.int .u32))], fun x => dec_ten x⟩ :=
  fn_ok (xid := XID) (ro := ro95) (H := h95) (fn := Tryz.f95) (code := bodyOf Tryz.f95) mixed (tabOk95) Tryz.func95 rfl (by kernel_rfl) (loops_of (L := [(0, lb 0 Tryz.f95)]) (by kernel_rfl) (lcons rfl (lo95_0) (lnil))) (fun x => by kernel_rfl)
/-! 98: strings.Repeat, by the shelf -/
theorem ok98 : FnOk Tryz.prog 98 ⟨[.ty .str, .ty i64], [.str], fun x => strings_Repeat x.1 x.2⟩ := by
  refine fn_of_calls Tryz.func98 (by kernel_rfl) rfl fun κ x cargs y hy hI ha => ?_
  obtain ⟨s, n⟩ := x
  obtain ⟨⟨h0, h1, h2⟩, hy⟩ := hy
  cases hy
  obtain ⟨v0, r, rfl, ha0, ha⟩ := RDs.cons_inv (show RDs κ [.imm .str s, .imm i64 n] cargs from ha)
  obtain ⟨v1, r, rfl, ha1, ha⟩ := ha.cons_inv
  rw [ha.nil_inv, ha0.str_inv, ha1.int_inv]
  obtain ⟨m, rfl⟩ := Int.eq_ofNat_of_zero_le h0
  refine (Go.Proofs.Tryz.strings_Repeat ⟨s.toArray⟩ m κ.w (by simp only at h1; omega) (by rw [show (ByteArray.size ⟨s.toArray⟩) = List.length s from List.size_toArray]; simpa using h2)).mono ?_
  rintro e w' ⟨rfl, hB⟩
  refine ⟨hB, fun _ => ⟨_, rfl, ?_⟩⟩
  have e1 : Lib.repeatL s m = repS s m := repS_eq s m
  have e2 : (Int.toNat (m : Int)) = m := by omega
  show RD _ (.imm .str (repS s (Int.toNat (m : Int)))) _
  rw [e2, ← e1]
  exact RD.str
/-! 96: pantograph/dec.pointed -/
noncomputable def tab96 : Tab := [(98, .d ⟨[.ty .str, .ty (.int .i64)], [.str], fun x => strings_Repeat x.1 x.2⟩)]
theorem tabOk96 : TabOk Tryz.prog (tab96) := tabOk_cons ok98 (tabOk_nil _)
def ro96 : Nat → Bool := fun s => false
noncomputable def h96 : Hints := { loop := fun id => none, cut := fun k r => none, frz := fun r => [] }
theorem ok96 : FnOk Tryz.prog 96 ⟨[.ty .str, .ty (.int .i64)], [.str], fun x => dec_pointed x.1 x.2⟩ :=
  fn_ok (xid := XID) (ro := ro96) (H := h96) (fn := Tryz.f96) (code := bodyOf Tryz.f96) mixed (tabOk96) Tryz.func96 rfl (by kernel_rfl) (loops_of (L := []) (by kernel_rfl) (lnil)) (fun x => by kernel_rfl)
/-! 90: pantograph/dec.Exact -/
noncomputable def tab90 : Tab := [(27, .d ⟨[.ty tyRat], [tyRat], fun x => rat_Norm x⟩), (95, .d ⟨[.ty (.int .i64)], [(.sl (.int .u32))], fun x => dec_ten x⟩), (72, .d ⟨[.ty (.sl (.int .u32)), .ty (.sl (.int .u32))], [(.sl (.int .u32))], fun x => nat_Mul x.1 x.2⟩), (58, .d ⟨[.ty (.sl (.int .u32)), .ty (.sl (.int .u32))], [(.sl (.int .u32)), (.sl (.int .u32)), .bool], fun x => nat_DivMod x.1 x.2⟩), (28, .d ⟨[.ty tyRat], [.str], fun x => dec_sign x⟩), (29, .d ⟨[.ty (.sl (.int .u32))], [.str], fun x => nat_Print x⟩), (96, .d ⟨[.ty .str, .ty (.int .i64)], [.str], fun x => dec_pointed x.1 x.2⟩)]
theorem tabOk90 : TabOk Tryz.prog (tab90) := tabOk_cons ok27 (tabOk_cons ok95 (tabOk_cons ok72 (tabOk_cons ok58 (tabOk_cons ok28 (tabOk_cons ok29 (tabOk_cons ok96 (tabOk_nil _)))))))
def ro90 : Nat → Bool := fun s => false
noncomputable def lp90_0 : LoopD := { gh := [], ps := [], sh := ⟨[.s 10 (.imm (.int .i64)), .v (.imm tyRat)], [(1, .ptr 0 0)], [.var (.imm tyRat)]⟩, ws := [⟨.exit 0, ⟨[.v (.imm tyRat)], [], [.var (.imm tyRat)]⟩⟩, ⟨.ret, ⟨[.s 2 (.imm .str), .s 3 (.imm .bool), .v (.imm tyRat)], [], [.var (.imm tyRat)]⟩⟩], F := fun p s => dec_Exact_L0  s }
noncomputable def h90 : Hints := { loop := fun id => bif Nat.beq id 0 then some (lp90_0) else none, cut := fun k r => none, frz := fun r => [] }
theorem lo90_0 : LoopOkK Tryz.prog Tryz.f90.ntmps (lp90_0) (lb 0 Tryz.f90) :=
  loop_ok (xid := XID) (ro := ro90) (H := h90) mixed (tabOk90) (loops_of (L := []) (by kernel_rfl) (lnil)) (fun p s => dec_Exact_R0  s) (fun p s => by kernel_rfl) (fun p s => rfl)
theorem ok90 : FnOk Tryz.prog 90 ⟨[.ty tyRat], [.str, .bool], fun x => dec_Exact x⟩ :=
  fn_ok (xid := XID) (ro := ro90) (H := h90) (fn := Tryz.f90) (code := bodyOf Tryz.f90) mixed (tabOk90) Tryz.func90 rfl (by kernel_rfl) (loops_of (L := [(0, lb 0 Tryz.f90)]) (by kernel_rfl) (lcons rfl (lo90_0) (lnil))) (fun x => by kernel_rfl)
/-! 78: pantograph/expr.isNum -/
noncomputable def tab78 : Tab := [(88, .d ⟨[.ty tyRat], [.bool], fun x => rat_Is x⟩), (89, .d ⟨[.ty tyRat], [.bool], fun x => rat_Large x⟩), (90, .d ⟨[.ty tyRat], [.str, .bool], fun x => dec_Exact x⟩)]
theorem tabOk78 : TabOk Tryz.prog (tab78) := tabOk_cons ok88 (tabOk_cons ok89 (tabOk_cons ok90 (tabOk_nil _)))
def ro78 : Nat → Bool := fun s => Nat.beq s 1
noncomputable def h78 : Hints := { loop := fun id => none, cut := fun k r => bif Nat.beq k 0 && Nat.beq r 1 then some (.ways [⟨.normal, ⟨[.s 15 (.imm .bool)], [], []⟩⟩]) else none, frz := fun r => [] }
theorem ok78 : FnOk Tryz.prog 78 ⟨[.ty tyRat], [.bool], fun x => expr_isNum x⟩ :=
  fn_ok (xid := XID) (ro := ro78) (H := h78) (fn := Tryz.f78) (code := bodyOf Tryz.f78) mixed (tabOk78) Tryz.func78 rfl (by kernel_rfl) (loops_of (L := []) (by kernel_rfl) (lnil)) (fun x => by kernel_rfl)
/-! 79: pantograph/expr.isNone -/
noncomputable def tab79 : Tab := [(88, .d ⟨[.ty tyRat], [.bool], fun x => rat_Is x⟩)]
theorem tabOk79 : TabOk Tryz.prog (tab79) := tabOk_cons ok88 (tabOk_nil _)
def ro79 : Nat → Bool := fun s => Nat.beq s 1
noncomputable def h79 : Hints := { loop := fun id => none, cut := fun k r => none, frz := fun r => [] }
theorem ok79 : FnOk Tryz.prog 79 ⟨[.ty tyRat], [.bool], fun x => expr_isNone x⟩ :=
  fn_ok (xid := XID) (ro := ro79) (H := h79) (fn := Tryz.f79) (code := bodyOf Tryz.f79) mixed (tabOk79) Tryz.func79 rfl (by kernel_rfl) (loops_of (L := []) (by kernel_rfl) (lnil)) (fun x => by kernel_rfl)
/-! 91: pantograph/expr.isLetter -/
noncomputable def tab91 : Tab := []
theorem tabOk91 : TabOk Tryz.prog (tab91) := tabOk_nil _
def ro91 : Nat → Bool := fun s => false
noncomputable def h91 : Hints := { loop := fun id => none, cut := fun k r => bif Nat.beq k 0 && Nat.beq r 1 then some (.flat [.s 2 (.imm .bool)]) else none, frz := fun r => [] }
theorem ok91 : FnOk Tryz.prog 91 ⟨[.ty (.int .u8)], [.bool], fun x => expr_isLetter x⟩ :=
  fn_ok (xid := XID) (ro := ro91) (H := h91) (fn := Tryz.f91) (code := bodyOf Tryz.f91) mixed (tabOk91) Tryz.func91 rfl (by kernel_rfl) (loops_of (L := []) (by kernel_rfl) (lnil)) (fun x => by kernel_rfl)
/-! 97: pantograph/expr.isDigit -/
noncomputable def tab97 : Tab := []
theorem tabOk97 : TabOk Tryz.prog (tab97) := tabOk_nil _
def ro97 : Nat → Bool := fun s => false
noncomputable def h97 : Hints := { loop := fun id => none, cut := fun k r => bif Nat.beq k 0 && Nat.beq r 1 then some (.flat [.s 2 (.imm .bool)]) else none, frz := fun r => [] }
theorem ok97 : FnOk Tryz.prog 97 ⟨[.ty (.int .u8)], [.bool], fun x => expr_isDigit x⟩ :=
  fn_ok (xid := XID) (ro := ro97) (H := h97) (fn := Tryz.f97) (code := bodyOf Tryz.f97) mixed (tabOk97) Tryz.func97 rfl (by kernel_rfl) (loops_of (L := []) (by kernel_rfl) (lnil)) (fun x => by kernel_rfl)
/-! 92: pantograph/expr.isInner -/
noncomputable def tab92 : Tab := [(91, .d ⟨[.ty (.int .u8)], [.bool], fun x => expr_isLetter x⟩), (97, .d ⟨[.ty (.int .u8)], [.bool], fun x => expr_isDigit x⟩)]
theorem tabOk92 : TabOk Tryz.prog (tab92) := tabOk_cons ok91 (tabOk_cons ok97 (tabOk_nil _))
def ro92 : Nat → Bool := fun s => false
noncomputable def h92 : Hints := { loop := fun id => none, cut := fun k r => none, frz := fun r => [] }
theorem ok92 : FnOk Tryz.prog 92 ⟨[.ty (.int .u8)], [.bool], fun x => expr_isInner x⟩ :=
  fn_ok (xid := XID) (ro := ro92) (H := h92) (fn := Tryz.f92) (code := bodyOf Tryz.f92) mixed (tabOk92) Tryz.func92 rfl (by kernel_rfl) (loops_of (L := []) (by kernel_rfl) (lnil)) (fun x => by kernel_rfl)
/-! 80: pantograph/expr.Name -/
noncomputable def tab80 : Tab := [(91, .d ⟨[.ty (.int .u8)], [.bool], fun x => expr_isLetter x⟩), (92, .d ⟨[.ty (.int .u8)], [.bool], fun x => expr_isInner x⟩)]
theorem tabOk80 : TabOk Tryz.prog (tab80) := tabOk_cons ok91 (tabOk_cons ok92 (tabOk_nil _))
def ro80 : Nat → Bool := fun s => false
noncomputable def lp80_0 : LoopD := { gh := [], ps := [.s 0 (.imm .str), .s 18 (.imm (.int .i64))], sh := ⟨[.s 19 (.imm (.int .i64))], [], []⟩, ws := [⟨.exit 0, ⟨[], [], []⟩⟩, ⟨.ret, ⟨[.s 2 (.imm .bool)], [], []⟩⟩], F := fun p s => expr_Name_L0 p.1 p.2 s }
noncomputable def h80 : Hints := { loop := fun id => bif Nat.beq id 0 then some (lp80_0) else none, cut := fun k r => bif Nat.beq k 0 && Nat.beq r 1 then some (.ways [⟨.normal, ⟨[.s 16 (.imm .bool)], [], []⟩⟩]) else none, frz := fun r => [] }
theorem lo80_0 : LoopOkK Tryz.prog Tryz.f80.ntmps (lp80_0) (lb 0 Tryz.f80) :=
  loop_ok (xid := XID) (ro := ro80) (H := h80) mixed (tabOk80) (loops_of (L := []) (by kernel_rfl) (lnil)) (fun p s => expr_Name_R0 p.1 p.2 s) (fun p s => by kernel_rfl) (fun p s => rfl)
theorem ok80 : FnOk Tryz.prog 80 ⟨[.ty .str], [.bool], fun x => expr_Name x⟩ :=
  fn_ok (xid := XID) (ro := ro80) (H := h80) (fn := Tryz.f80) (code := bodyOf Tryz.f80) mixed (tabOk80) Tryz.func80 rfl (by kernel_rfl) (loops_of (L := [(0, lb 0 Tryz.f80)]) (by kernel_rfl) (lcons rfl (lo80_0) (lnil))) (fun x => by kernel_rfl)
/-! 66: pantograph/expr.isNode -/
noncomputable def tab66 : Tab := [(77, .d ⟨[.ty (.int .i64)], [(.int .i64)], fun x => expr_kids x⟩), (78, .d ⟨[.ty tyRat], [.bool], fun x => expr_isNum x⟩), (79, .d ⟨[.ty tyRat], [.bool], fun x => expr_isNone x⟩), (80, .d ⟨[.ty .str], [.bool], fun x => expr_Name x⟩)]
theorem tabOk66 : TabOk Tryz.prog (tab66) := tabOk_cons ok77 (tabOk_cons ok78 (tabOk_cons ok79 (tabOk_cons ok80 (tabOk_nil _))))
def ro66 : Nat → Bool := fun s => Nat.beq s 1
noncomputable def h66 : Hints := { loop := fun id => none, cut := fun k r => none, frz := fun r => [] }
theorem ok66 : FnOk Tryz.prog 66 ⟨[.ty .expr], [.bool], fun x => expr_isNode x⟩ :=
  fn_ok (xid := XID) (ro := ro66) (H := h66) (fn := Tryz.f66) (code := bodyOf Tryz.f66) mixed (tabOk66) Tryz.func66 rfl (by kernel_rfl) (loops_of (L := []) (by kernel_rfl) (lnil)) (fun x => by kernel_rfl)
/-! 68: pantograph/expr.may$1 -/
noncomputable def tab68 (F_51 : Shp.den ⟨[.s 0 (.imm .expr), .s 1 (.imm (.int .i64)), .v (.imm (.int .i64))], [(2, .ptr 0 0)], [.var (.imm (.int .i64))]⟩ → T (Shp.den ⟨[.s 0 (.imm .bool), .v (.imm (.int .i64))], [], [.var (.imm (.int .i64))]⟩)) : Tab := [(51, .s ⟨[.any, .any, .ptr], ⟨[.s 0 (.imm .expr), .s 1 (.imm (.int .i64)), .v (.imm (.int .i64))], [(2, .ptr 0 0)], [.var (.imm (.int .i64))]⟩, [], ⟨[.s 0 (.imm .bool), .v (.imm (.int .i64))], [], [.var (.imm (.int .i64))]⟩, 1, F_51⟩)]
theorem tabOk68 (F_51 : Shp.den ⟨[.s 0 (.imm .expr), .s 1 (.imm (.int .i64)), .v (.imm (.int .i64))], [(2, .ptr 0 0)], [.var (.imm (.int .i64))]⟩ → T (Shp.den ⟨[.s 0 (.imm .bool), .v (.imm (.int .i64))], [], [.var (.imm (.int .i64))]⟩)) (h_51 : FnSOk Tryz.prog 51 ⟨[.any, .any, .ptr], ⟨[.s 0 (.imm .expr), .s 1 (.imm (.int .i64)), .v (.imm (.int .i64))], [(2, .ptr 0 0)], [.var (.imm (.int .i64))]⟩, [], ⟨[.s 0 (.imm .bool), .v (.imm (.int .i64))], [], [.var (.imm (.int .i64))]⟩, 1, F_51⟩) : TabOk Tryz.prog (tab68 F_51) := tabOk_consS h_51 (tabOk_nil _)
def ro68 : Nat → Bool := fun s => Nat.beq s 3
noncomputable def h68 (F_51 : Shp.den ⟨[.s 0 (.imm .expr), .s 1 (.imm (.int .i64)), .v (.imm (.int .i64))], [(2, .ptr 0 0)], [.var (.imm (.int .i64))]⟩ → T (Shp.den ⟨[.s 0 (.imm .bool), .v (.imm (.int .i64))], [], [.var (.imm (.int .i64))]⟩)) : Hints := { loop := fun id => none, cut := fun k r => none, frz := fun r => [] }
theorem ok68 (F_51 : Shp.den ⟨[.s 0 (.imm .expr), .s 1 (.imm (.int .i64)), .v (.imm (.int .i64))], [(2, .ptr 0 0)], [.var (.imm (.int .i64))]⟩ → T (Shp.den ⟨[.s 0 (.imm .bool), .v (.imm (.int .i64))], [], [.var (.imm (.int .i64))]⟩)) (h_51 : FnSOk Tryz.prog 51 ⟨[.any, .any, .ptr], ⟨[.s 0 (.imm .expr), .s 1 (.imm (.int .i64)), .v (.imm (.int .i64))], [(2, .ptr 0 0)], [.var (.imm (.int .i64))]⟩, [], ⟨[.s 0 (.imm .bool), .v (.imm (.int .i64))], [], [.var (.imm (.int .i64))]⟩, 1, F_51⟩) : FnSOk Tryz.prog 68 ⟨[.any, .any, .ptr], ⟨[.s 0 (.imm .expr), .s 1 (.rptr (.int .i64)), .v (.imm (.int .i64))], [(2, .ptr 0 0)], [.cvar (.ptr 1 0), .var (.imm (.int .i64))]⟩, [], ⟨[.s 0 (.imm .bool), .v (.imm (.int .i64))], [], [.cvar (.ptr 1 0), .var (.imm (.int .i64))]⟩, 1, fun x => expr_may_f1_S (fun y0 y1 y2 => F_51 (y0, y1, y2)) x.1 x.2.1 x.2.2⟩ :=
  fns_ok (xid := XID) (ro := ro68) (H := h68 F_51) (fn := Tryz.f68) (code := bodyOf Tryz.f68) mixed (tabOk68 F_51 h_51) Tryz.func68 rfl (by kernel_rfl) (loops_of (L := []) (by kernel_rfl) (lnil)) (fun x => by kernel_rfl)
/-! 81: slices.IndexFunc[[]pantograph/api.Expr,pantograph/api.Expr] -/
noncomputable def tab81 (F_51 : Shp.den ⟨[.s 0 (.imm .expr), .s 1 (.imm (.int .i64)), .v (.imm (.int .i64))], [(2, .ptr 0 0)], [.var (.imm (.int .i64))]⟩ → T (Shp.den ⟨[.s 0 (.imm .bool), .v (.imm (.int .i64))], [], [.var (.imm (.int .i64))]⟩)) : Tab := [(68, .s ⟨[.any, .any, .ptr], ⟨[.s 0 (.imm .expr), .s 1 (.rptr (.int .i64)), .v (.imm (.int .i64))], [(2, .ptr 0 0)], [.cvar (.ptr 1 0), .var (.imm (.int .i64))]⟩, [], ⟨[.s 0 (.imm .bool), .v (.imm (.int .i64))], [], [.cvar (.ptr 1 0), .var (.imm (.int .i64))]⟩, 1, fun x => (expr_may_f1_S (fun y0 y1 y2 => F_51 (y0, y1, y2))) x.1 x.2.1 x.2.2⟩)]
theorem tabOk81 (F_51 : Shp.den ⟨[.s 0 (.imm .expr), .s 1 (.imm (.int .i64)), .v (.imm (.int .i64))], [(2, .ptr 0 0)], [.var (.imm (.int .i64))]⟩ → T (Shp.den ⟨[.s 0 (.imm .bool), .v (.imm (.int .i64))], [], [.var (.imm (.int .i64))]⟩)) (h_51 : FnSOk Tryz.prog 51 ⟨[.any, .any, .ptr], ⟨[.s 0 (.imm .expr), .s 1 (.imm (.int .i64)), .v (.imm (.int .i64))], [(2, .ptr 0 0)], [.var (.imm (.int .i64))]⟩, [], ⟨[.s 0 (.imm .bool), .v (.imm (.int .i64))], [], [.var (.imm (.int .i64))]⟩, 1, F_51⟩) : TabOk Tryz.prog (tab81 F_51) := tabOk_consS (ok68 _ h_51) (tabOk_nil _)
def ro81 : Nat → Bool := fun s => false
noncomputable def lp81_0 (F_51 : Shp.den ⟨[.s 0 (.imm .expr), .s 1 (.imm (.int .i64)), .v (.imm (.int .i64))], [(2, .ptr 0 0)], [.var (.imm (.int .i64))]⟩ → T (Shp.den ⟨[.s 0 (.imm .bool), .v (.imm (.int .i64))], [], [.var (.imm (.int .i64))]⟩)) : LoopD := { gh := [], ps := [.s 0 (.imm (.sl .expr)), .s 7 (.imm (.int .i64))], sh := ⟨[.s 1 (.mclo 68 [.rp (.int .i64), .pt 0]), .s 8 (.imm (.int .i64)), .v (.imm (.int .i64))], [], [.cvar (.ptr 1 0), .var (.imm (.int .i64))]⟩, ws := [⟨.exit 0, ⟨[.v (.imm (.int .i64))], [], [.cvar (.ptr 1 0), .var (.imm (.int .i64))]⟩⟩, ⟨.ret, ⟨[.s 4 (.imm (.int .i64)), .v (.imm (.int .i64))], [], [.cvar (.ptr 1 0), .var (.imm (.int .i64))]⟩⟩], F := fun p s => slices_IndexFunc_sl_Expr_expr_may_f1_S_L0 (fun y0 y1 y2 => F_51 (y0, y1, y2)) p.1 p.2 s }
noncomputable def h81 (F_51 : Shp.den ⟨[.s 0 (.imm .expr), .s 1 (.imm (.int .i64)), .v (.imm (.int .i64))], [(2, .ptr 0 0)], [.var (.imm (.int .i64))]⟩ → T (Shp.den ⟨[.s 0 (.imm .bool), .v (.imm (.int .i64))], [], [.var (.imm (.int .i64))]⟩)) : Hints := { loop := fun id => bif Nat.beq id 0 then some (lp81_0 F_51) else none, cut := fun k r => none, frz := fun r => [] }
theorem lo81_0 (F_51 : Shp.den ⟨[.s 0 (.imm .expr), .s 1 (.imm (.int .i64)), .v (.imm (.int .i64))], [(2, .ptr 0 0)], [.var (.imm (.int .i64))]⟩ → T (Shp.den ⟨[.s 0 (.imm .bool), .v (.imm (.int .i64))], [], [.var (.imm (.int .i64))]⟩)) (h_51 : FnSOk Tryz.prog 51 ⟨[.any, .any, .ptr], ⟨[.s 0 (.imm .expr), .s 1 (.imm (.int .i64)), .v (.imm (.int .i64))], [(2, .ptr 0 0)], [.var (.imm (.int .i64))]⟩, [], ⟨[.s 0 (.imm .bool), .v (.imm (.int .i64))], [], [.var (.imm (.int .i64))]⟩, 1, F_51⟩) : LoopOkK Tryz.prog Tryz.f81.ntmps (lp81_0 F_51) (lb 0 Tryz.f81) :=
  loop_ok (xid := XID) (ro := ro81) (H := h81 F_51) mixed (tabOk81 F_51 h_51) (loops_of (L := []) (by kernel_rfl) (lnil)) (fun p s => slices_IndexFunc_sl_Expr_expr_may_f1_S_R0 (fun y0 y1 y2 => F_51 (y0, y1, y2)) p.1 p.2 s) (fun p s => by kernel_rfl) (fun p s => rfl)
theorem ok81 (F_51 : Shp.den ⟨[.s 0 (.imm .expr), .s 1 (.imm (.int .i64)), .v (.imm (.int .i64))], [(2, .ptr 0 0)], [.var (.imm (.int .i64))]⟩ → T (Shp.den ⟨[.s 0 (.imm .bool), .v (.imm (.int .i64))], [], [.var (.imm (.int .i64))]⟩)) (h_51 : FnSOk Tryz.prog 51 ⟨[.any, .any, .ptr], ⟨[.s 0 (.imm .expr), .s 1 (.imm (.int .i64)), .v (.imm (.int .i64))], [(2, .ptr 0 0)], [.var (.imm (.int .i64))]⟩, [], ⟨[.s 0 (.imm .bool), .v (.imm (.int .i64))], [], [.var (.imm (.int .i64))]⟩, 1, F_51⟩) : FnSOk Tryz.prog 81 ⟨[.any, .clo 68], ⟨[.s 0 (.imm (.sl .expr)), .s 1 (.mclo 68 [.rp (.int .i64), .pt 0]), .v (.imm (.int .i64))], [], [.cvar (.ptr 1 0), .var (.imm (.int .i64))]⟩, [], ⟨[.s 0 (.imm (.int .i64)), .v (.imm (.int .i64))], [], [.cvar (.ptr 1 0), .var (.imm (.int .i64))]⟩, 1, fun x => slices_IndexFunc_sl_Expr_expr_may_f1_S (fun y0 y1 y2 => F_51 (y0, y1, y2)) x.1 x.2.1 x.2.2⟩ :=
  fns_ok (xid := XID) (ro := ro81) (H := h81 F_51) (fn := Tryz.f81) (code := bodyOf Tryz.f81) mixed (tabOk81 F_51 h_51) Tryz.func81 rfl (by kernel_rfl) (loops_of (L := [(0, lb 0 Tryz.f81)]) (by kernel_rfl) (lcons rfl (lo81_0 F_51 h_51) (lnil))) (fun x => by kernel_rfl)
/-! 67: slices.ContainsFunc[[]pantograph/api.Expr,pantograph/api.Expr] -/
noncomputable def tab67 (F_51 : Shp.den ⟨[.s 0 (.imm .expr), .s 1 (.imm (.int .i64)), .v (.imm (.int .i64))], [(2, .ptr 0 0)], [.var (.imm (.int .i64))]⟩ → T (Shp.den ⟨[.s 0 (.imm .bool), .v (.imm (.int .i64))], [], [.var (.imm (.int .i64))]⟩)) : Tab := [(81, .s ⟨[.any, .clo 68], ⟨[.s 0 (.imm (.sl .expr)), .s 1 (.mclo 68 [.rp (.int .i64), .pt 0]), .v (.imm (.int .i64))], [], [.cvar (.ptr 1 0), .var (.imm (.int .i64))]⟩, [], ⟨[.s 0 (.imm (.int .i64)), .v (.imm (.int .i64))], [], [.cvar (.ptr 1 0), .var (.imm (.int .i64))]⟩, 1, fun x => (slices_IndexFunc_sl_Expr_expr_may_f1_S (fun y0 y1 y2 => F_51 (y0, y1, y2))) x.1 x.2.1 x.2.2⟩)]
theorem tabOk67 (F_51 : Shp.den ⟨[.s 0 (.imm .expr), .s 1 (.imm (.int .i64)), .v (.imm (.int .i64))], [(2, .ptr 0 0)], [.var (.imm (.int .i64))]⟩ → T (Shp.den ⟨[.s 0 (.imm .bool), .v (.imm (.int .i64))], [], [.var (.imm (.int .i64))]⟩)) (h_51 : FnSOk Tryz.prog 51 ⟨[.any, .any, .ptr], ⟨[.s 0 (.imm .expr), .s 1 (.imm (.int .i64)), .v (.imm (.int .i64))], [(2, .ptr 0 0)], [.var (.imm (.int .i64))]⟩, [], ⟨[.s 0 (.imm .bool), .v (.imm (.int .i64))], [], [.var (.imm (.int .i64))]⟩, 1, F_51⟩) : TabOk Tryz.prog (tab67 F_51) := tabOk_consS (ok81 _ h_51) (tabOk_nil _)
def ro67 : Nat → Bool := fun s => false
noncomputable def h67 (F_51 : Shp.den ⟨[.s 0 (.imm .expr), .s 1 (.imm (.int .i64)), .v (.imm (.int .i64))], [(2, .ptr 0 0)], [.var (.imm (.int .i64))]⟩ → T (Shp.den ⟨[.s 0 (.imm .bool), .v (.imm (.int .i64))], [], [.var (.imm (.int .i64))]⟩)) : Hints := { loop := fun id => none, cut := fun k r => none, frz := fun r => [] }
theorem ok67 (F_51 : Shp.den ⟨[.s 0 (.imm .expr), .s 1 (.imm (.int .i64)), .v (.imm (.int .i64))], [(2, .ptr 0 0)], [.var (.imm (.int .i64))]⟩ → T (Shp.den ⟨[.s 0 (.imm .bool), .v (.imm (.int .i64))], [], [.var (.imm (.int .i64))]⟩)) (h_51 : FnSOk Tryz.prog 51 ⟨[.any, .any, .ptr], ⟨[.s 0 (.imm .expr), .s 1 (.imm (.int .i64)), .v (.imm (.int .i64))], [(2, .ptr 0 0)], [.var (.imm (.int .i64))]⟩, [], ⟨[.s 0 (.imm .bool), .v (.imm (.int .i64))], [], [.var (.imm (.int .i64))]⟩, 1, F_51⟩) : FnSOk Tryz.prog 67 ⟨[.any, .clo 68], ⟨[.s 0 (.imm (.sl .expr)), .s 1 (.mclo 68 [.rp (.int .i64), .pt 0]), .v (.imm (.int .i64))], [], [.cvar (.ptr 1 0), .var (.imm (.int .i64))]⟩, [], ⟨[.s 0 (.imm .bool), .v (.imm (.int .i64))], [], [.cvar (.ptr 1 0), .var (.imm (.int .i64))]⟩, 1, fun x => slices_ContainsFunc_sl_Expr_expr_may_f1_S (fun y0 y1 y2 => F_51 (y0, y1, y2)) x.1 x.2.1 x.2.2⟩ :=
  fns_ok (xid := XID) (ro := ro67) (H := h67 F_51) (fn := Tryz.f67) (code := bodyOf Tryz.f67) mixed (tabOk67 F_51 h_51) Tryz.func67 rfl (by kernel_rfl) (loops_of (L := []) (by kernel_rfl) (lnil)) (fun x => by kernel_rfl)
/-! 51: pantograph/expr.may -/
noncomputable def tab51 (F_51 : Shp.den ⟨[.s 0 (.imm .expr), .s 1 (.imm (.int .i64)), .v (.imm (.int .i64))], [(2, .ptr 0 0)], [.var (.imm (.int .i64))]⟩ → T (Shp.den ⟨[.s 0 (.imm .bool), .v (.imm (.int .i64))], [], [.var (.imm (.int .i64))]⟩)) : Tab := [(67, .s ⟨[.any, .clo 68], ⟨[.s 0 (.imm (.sl .expr)), .s 1 (.mclo 68 [.rp (.int .i64), .pt 0]), .v (.imm (.int .i64))], [], [.cvar (.ptr 1 0), .var (.imm (.int .i64))]⟩, [], ⟨[.s 0 (.imm .bool), .v (.imm (.int .i64))], [], [.cvar (.ptr 1 0), .var (.imm (.int .i64))]⟩, 1, fun x => (slices_ContainsFunc_sl_Expr_expr_may_f1_S (fun y0 y1 y2 => F_51 (y0, y1, y2))) x.1 x.2.1 x.2.2⟩), (66, .d ⟨[.ty .expr], [.bool], fun x => expr_isNode x⟩)]
theorem tabOk51 (F_51 : Shp.den ⟨[.s 0 (.imm .expr), .s 1 (.imm (.int .i64)), .v (.imm (.int .i64))], [(2, .ptr 0 0)], [.var (.imm (.int .i64))]⟩ → T (Shp.den ⟨[.s 0 (.imm .bool), .v (.imm (.int .i64))], [], [.var (.imm (.int .i64))]⟩)) (h_51 : FnSOk Tryz.prog 51 ⟨[.any, .any, .ptr], ⟨[.s 0 (.imm .expr), .s 1 (.imm (.int .i64)), .v (.imm (.int .i64))], [(2, .ptr 0 0)], [.var (.imm (.int .i64))]⟩, [], ⟨[.s 0 (.imm .bool), .v (.imm (.int .i64))], [], [.var (.imm (.int .i64))]⟩, 1, F_51⟩) : TabOk Tryz.prog (tab51 F_51) := tabOk_consS (ok67 _ h_51) (tabOk_cons ok66 (tabOk_nil _))
def ro51 : Nat → Bool := fun s => Nat.beq s 3 || Nat.beq s 4
noncomputable def h51 (F_51 : Shp.den ⟨[.s 0 (.imm .expr), .s 1 (.imm (.int .i64)), .v (.imm (.int .i64))], [(2, .ptr 0 0)], [.var (.imm (.int .i64))]⟩ → T (Shp.den ⟨[.s 0 (.imm .bool), .v (.imm (.int .i64))], [], [.var (.imm (.int .i64))]⟩)) : Hints := { loop := fun id => none, cut := fun k r => bif Nat.beq k 0 && Nat.beq r 2 then some (.ways [⟨.normal, ⟨[.s 24 (.imm .bool), .v (.imm (.int .i64))], [], [.var (.imm (.int .i64)), .cvar (.ptr 0 0)]⟩⟩]) else none, frz := fun r => [] }
theorem ok51_B (F_51 : Shp.den ⟨[.s 0 (.imm .expr), .s 1 (.imm (.int .i64)), .v (.imm (.int .i64))], [(2, .ptr 0 0)], [.var (.imm (.int .i64))]⟩ → T (Shp.den ⟨[.s 0 (.imm .bool), .v (.imm (.int .i64))], [], [.var (.imm (.int .i64))]⟩)) (h_51 : FnSOk Tryz.prog 51 ⟨[.any, .any, .ptr], ⟨[.s 0 (.imm .expr), .s 1 (.imm (.int .i64)), .v (.imm (.int .i64))], [(2, .ptr 0 0)], [.var (.imm (.int .i64))]⟩, [], ⟨[.s 0 (.imm .bool), .v (.imm (.int .i64))], [], [.var (.imm (.int .i64))]⟩, 1, F_51⟩) : FnSOk Tryz.prog 51 ⟨[.any, .any, .ptr], ⟨[.s 0 (.imm .expr), .s 1 (.imm (.int .i64)), .v (.imm (.int .i64))], [(2, .ptr 0 0)], [.var (.imm (.int .i64))]⟩, [], ⟨[.s 0 (.imm .bool), .v (.imm (.int .i64))], [], [.var (.imm (.int .i64))]⟩, 1, fun x => expr_may_S_B (fun y0 y1 y2 => F_51 (y0, y1, y2)) x.1 x.2.1 x.2.2⟩ :=
  fns_ok (xid := XID) (ro := ro51) (H := h51 F_51) (fn := Tryz.f51) (code := bodyOf Tryz.f51) mixed (tabOk51 F_51 h_51) Tryz.func51 rfl (by kernel_rfl) (loops_of (L := []) (by kernel_rfl) (lnil)) (fun x => by kernel_rfl)
theorem ok51 : FnSOk Tryz.prog 51 ⟨[.any, .any, .ptr], ⟨[.s 0 (.imm .expr), .s 1 (.imm (.int .i64)), .v (.imm (.int .i64))], [(2, .ptr 0 0)], [.var (.imm (.int .i64))]⟩, [], ⟨[.s 0 (.imm .bool), .v (.imm (.int .i64))], [], [.var (.imm (.int .i64))]⟩, 1, fun x => expr_may_S x.1 x.2.1 x.2.2⟩ :=
  fns_fix (fun F_51 x => expr_may_S_B (fun y0 y1 y2 => F_51 (y0, y1, y2)) x.1 x.2.1 x.2.2) (fun x => rfl) (fun F_51 h_51 => ok51_B F_51 h_51)
/-! 38: pantograph/expr.Is -/
noncomputable def tab38 : Tab := [(51, .s ⟨[.any, .any, .ptr], ⟨[.s 0 (.imm .expr), .s 1 (.imm (.int .i64)), .v (.imm (.int .i64))], [(2, .ptr 0 0)], [.var (.imm (.int .i64))]⟩, [], ⟨[.s 0 (.imm .bool), .v (.imm (.int .i64))], [], [.var (.imm (.int .i64))]⟩, 1, fun x => expr_may_S x.1 x.2.1 x.2.2⟩)]
theorem tabOk38 : TabOk Tryz.prog (tab38) := tabOk_consS ok51 (tabOk_nil _)
def ro38 : Nat → Bool := fun s => Nat.beq s 1
noncomputable def h38 : Hints := { loop := fun id => none, cut := fun k r => none, frz := fun r => [] }
theorem ok38 : FnOk Tryz.prog 38 ⟨[.ty .expr], [.bool], fun x => expr_Is x⟩ :=
  fn_ok (xid := XID) (ro := ro38) (H := h38) (fn := Tryz.f38) (code := bodyOf Tryz.f38) mixed (tabOk38) Tryz.func38 rfl (by kernel_rfl) (loops_of (L := []) (by kernel_rfl) (lnil)) (fun x => by kernel_rfl)
/-! 69: slices.Index[[]string,string] -/
noncomputable def tab69 : Tab := []
theorem tabOk69 : TabOk Tryz.prog (tab69) := tabOk_nil _
def ro69 : Nat → Bool := fun s => false
noncomputable def lp69_0 : LoopD := { gh := [], ps := [.s 0 (.imm (.sl .str)), .s 1 (.imm .str), .s 7 (.imm (.int .i64))], sh := ⟨[.s 8 (.imm (.int .i64))], [], []⟩, ws := [⟨.exit 0, ⟨[], [], []⟩⟩, ⟨.ret, ⟨[.s 4 (.imm (.int .i64))], [], []⟩⟩], F := fun p s => slices_Index_sl_string_L0 p.1 p.2.1 p.2.2 s }
noncomputable def h69 : Hints := { loop := fun id => bif Nat.beq id 0 then some (lp69_0) else none, cut := fun k r => none, frz := fun r => [] }
theorem lo69_0 : LoopOkK Tryz.prog Tryz.f69.ntmps (lp69_0) (lb 0 Tryz.f69) :=
  loop_ok (xid := XID) (ro := ro69) (H := h69) mixed (tabOk69) (loops_of (L := []) (by kernel_rfl) (lnil)) (fun p s => slices_Index_sl_string_R0 p.1 p.2.1 p.2.2 s) (fun p s => by kernel_rfl) (fun p s => rfl)
theorem ok69 : FnOk Tryz.prog 69 ⟨[.ty (.sl .str), .ty .str], [(.int .i64)], fun x => slices_Index_sl_string x.1 x.2⟩ :=
  fn_ok (xid := XID) (ro := ro69) (H := h69) (fn := Tryz.f69) (code := bodyOf Tryz.f69) mixed (tabOk69) Tryz.func69 rfl (by kernel_rfl) (loops_of (L := [(0, lb 0 Tryz.f69)]) (by kernel_rfl) (lcons rfl (lo69_0) (lnil))) (fun x => by kernel_rfl)
/-! 75: pantograph/rat.Int -/
noncomputable def tab75 : Tab := [(31, .d ⟨[.ty (.int .u64)], [(.sl (.int .u32))], fun x => nat_Of x⟩)]
theorem tabOk75 : TabOk Tryz.prog (tab75) := tabOk_cons ok31 (tabOk_nil _)
def ro75 : Nat → Bool := fun s => false
noncomputable def h75 : Hints := { loop := fun id => none, cut := fun k r => bif Nat.beq k 3 && Nat.beq r 2 then some (.flat [.s 3 (.imm (.int .u64))]) else none, frz := fun r => [] }
theorem ok75 : FnOk Tryz.prog 75 ⟨[.ty (.int .i64)], [tyRat], fun x => rat_Int x⟩ :=
  fn_ok (xid := XID) (ro := ro75) (H := h75) (fn := Tryz.f75) (code := bodyOf Tryz.f75) mixed (tabOk75) Tryz.func75 rfl (by kernel_rfl) (loops_of (L := []) (by kernel_rfl) (lnil)) (fun x => by kernel_rfl)
/-! 70: pantograph/aff.value -/
noncomputable def tab70 : Tab := [(75, .d ⟨[.ty (.int .i64)], [tyRat], fun x => rat_Int x⟩), (27, .d ⟨[.ty tyRat], [tyRat], fun x => rat_Norm x⟩)]
theorem tabOk70 : TabOk Tryz.prog (tab70) := tabOk_cons ok75 (tabOk_cons ok27 (tabOk_nil _))
def ro70 : Nat → Bool := fun s => false
noncomputable def h70 : Hints := { loop := fun id => none, cut := fun k r => bif Nat.beq k 0 && Nat.beq r 1 then some (.flat [.s 12 (.imm .bool)]) else none, frz := fun r => [] }
theorem ok70 : FnOk Tryz.prog 70 ⟨[.ty (.sl tyRat), .ty (.int .i64)], [tyRat], fun x => aff_value x.1 x.2⟩ :=
  fn_ok (xid := XID) (ro := ro70) (H := h70) (fn := Tryz.f70) (code := bodyOf Tryz.f70) mixed (tabOk70) Tryz.func70 rfl (by kernel_rfl) (loops_of (L := []) (by kernel_rfl) (lnil)) (fun x => by kernel_rfl)
/-! 52: pantograph/aff.told -/
noncomputable def tab52 : Tab := [(69, .d ⟨[.ty (.sl .str), .ty .str], [(.int .i64)], fun x => slices_Index_sl_string x.1 x.2⟩), (70, .d ⟨[.ty (.sl tyRat), .ty (.int .i64)], [tyRat], fun x => aff_value x.1 x.2⟩)]
theorem tabOk52 : TabOk Tryz.prog (tab52) := tabOk_cons ok69 (tabOk_cons ok70 (tabOk_nil _))
def ro52 : Nat → Bool := fun s => Nat.beq s 4
noncomputable def h52 : Hints := { loop := fun id => none, cut := fun k r => none, frz := fun r => [] }
theorem ok52 : FnOk Tryz.prog 52 ⟨[.ty .str, .ty tyaff_Env, .ty (.sl tyRat)], [tyRat, (.int .i64)], fun x => aff_told x.1 x.2.1 x.2.2⟩ :=
  fn_ok (xid := XID) (ro := ro52) (H := h52) (fn := Tryz.f52) (code := bodyOf Tryz.f52) mixed (tabOk52) Tryz.func52 rfl (by kernel_rfl) (loops_of (L := []) (by kernel_rfl) (lnil)) (fun x => by kernel_rfl)
/-! 71: pantograph/rat.signed -/
noncomputable def tab71 : Tab := []
theorem tabOk71 : TabOk Tryz.prog (tab71) := tabOk_nil _
def ro71 : Nat → Bool := fun s => false
noncomputable def h71 : Hints := { loop := fun id => none, cut := fun k r => bif Nat.beq k 0 && Nat.beq r 1 then some (.ways [⟨.normal, ⟨[.v (.imm tyRat), .v (.imm tyRat)], [], [.var (.imm tyRat), .var (.imm tyRat)]⟩⟩]) else none, frz := fun r => [] }
theorem ok71 : FnOk Tryz.prog 71 ⟨[.ty .bool, .ty tyRat], [tyRat], fun x => rat_signed x.1 x.2⟩ :=
  fn_ok (xid := XID) (ro := ro71) (H := h71) (fn := Tryz.f71) (code := bodyOf Tryz.f71) mixed (tabOk71) Tryz.func71 rfl (by kernel_rfl) (loops_of (L := []) (by kernel_rfl) (lnil)) (fun x => by kernel_rfl)
/-! 53: pantograph/rat.Neg -/
noncomputable def tab53 : Tab := [(27, .d ⟨[.ty tyRat], [tyRat], fun x => rat_Norm x⟩), (71, .d ⟨[.ty .bool, .ty tyRat], [tyRat], fun x => rat_signed x.1 x.2⟩)]
theorem tabOk53 : TabOk Tryz.prog (tab53) := tabOk_cons ok27 (tabOk_cons ok71 (tabOk_nil _))
def ro53 : Nat → Bool := fun s => false
noncomputable def h53 : Hints := { loop := fun id => none, cut := fun k r => none, frz := fun r => [] }
theorem ok53 : FnOk Tryz.prog 53 ⟨[.ty tyRat], [tyRat], fun x => rat_Neg x⟩ :=
  fn_ok (xid := XID) (ro := ro53) (H := h53) (fn := Tryz.f53) (code := bodyOf Tryz.f53) mixed (tabOk53) Tryz.func53 rfl (by kernel_rfl) (loops_of (L := []) (by kernel_rfl) (lnil)) (fun x => by kernel_rfl)
/-! 73: pantograph/nat.Add -/
noncomputable def tab73 : Tab := [(46, .d ⟨[.ty (.sl (.int .u32))], [(.sl (.int .u32))], fun x => nat_trim x⟩)]
theorem tabOk73 : TabOk Tryz.prog (tab73) := tabOk_cons ok46 (tabOk_nil _)
def ro73 : Nat → Bool := fun s => false
noncomputable def lp73_0 : LoopD := { gh := [], ps := [.s 0 (.imm (.sl (.int .u32))), .s 1 (.imm (.sl (.int .u32))), .s 24 (.imm (.sl (.int .u32))), .s 25 (.imm (.int .i64))], sh := ⟨[.s 6 (.imm (.int .u64)), .s 26 (.imm (.int .i64)), .a (.int .u32)], [(5, .cur 0 (.int .u32))], [.arr (.int .u32)]⟩, ws := [⟨.exit 0, ⟨[.s 6 (.imm (.int .u64)), .a (.int .u32)], [(5, .cur 0 (.int .u32))], [.arr (.int .u32)]⟩⟩], F := fun p s => nat_Add_L0 p.1 p.2.1 p.2.2.1 p.2.2.2 s }
noncomputable def h73 : Hints := { loop := fun id => bif Nat.beq id 0 then some (lp73_0) else none, cut := fun k r => bif Nat.beq k 3 && Nat.beq r 2 then some (.flat [.s 0 (.imm (.sl (.int .u32))), .s 1 (.imm (.sl (.int .u32)))]) else bif Nat.beq k 3 && Nat.beq r 10 then some (.flat [.s 6 (.imm (.int .u64))]) else none, frz := fun r => bif Nat.beq r 16 then [5] else [] }
theorem lo73_0 : LoopOkK Tryz.prog Tryz.f73.ntmps (lp73_0) (lb 0 Tryz.f73) :=
  loop_ok (xid := XID) (ro := ro73) (H := h73) mixed (tabOk73) (loops_of (L := []) (by kernel_rfl) (lnil)) (fun p s => nat_Add_R0 p.1 p.2.1 p.2.2.1 p.2.2.2 s) (fun p s => by kernel_rfl) (fun p s => rfl)
theorem ok73 : FnOk Tryz.prog 73 ⟨[.ty (.sl (.int .u32)), .ty (.sl (.int .u32))], [(.sl (.int .u32))], fun x => nat_Add x.1 x.2⟩ :=
  fn_ok (xid := XID) (ro := ro73) (H := h73) (fn := Tryz.f73) (code := bodyOf Tryz.f73) mixed (tabOk73) Tryz.func73 rfl (by kernel_rfl) (loops_of (L := [(0, lb 0 Tryz.f73)]) (by kernel_rfl) (lcons rfl (lo73_0) (lnil))) (fun x => by kernel_rfl)
/-! 74: pantograph/nat.Sub -/
noncomputable def tab74 : Tab := [(30, .d ⟨[.ty (.sl (.int .u32)), .ty (.sl (.int .u32))], [(.int .i64)], fun x => nat_Cmp x.1 x.2⟩), (46, .d ⟨[.ty (.sl (.int .u32))], [(.sl (.int .u32))], fun x => nat_trim x⟩), (82, .d ⟨[.ty (.int .u32), .ty (.int .u32), .ty (.int .u32)], [(.int .u32), (.int .u32)], fun x => math_bits_Sub32 x.1 x.2.1 x.2.2⟩)]
theorem tabOk74 : TabOk Tryz.prog (tab74) := tabOk_cons ok30 (tabOk_cons ok46 (tabOk_cons ok82 (tabOk_nil _)))
def ro74 : Nat → Bool := fun s => false
noncomputable def lp74_0 : LoopD := { gh := [], ps := [.s 1 (.imm (.sl (.int .u32))), .s 22 (.imm (.sl (.int .u32))), .s 23 (.imm (.int .i64))], sh := ⟨[.s 7 (.imm (.int .u32)), .s 24 (.imm (.int .i64)), .a (.int .u32)], [(6, .cur 0 (.int .u32))], [.arr (.int .u32)]⟩, ws := [⟨.exit 0, ⟨[.a (.int .u32)], [(6, .cur 0 (.int .u32))], [.arr (.int .u32)]⟩⟩], F := fun p s => nat_Sub_L0 p.1 p.2.1 p.2.2 s }
noncomputable def h74 : Hints := { loop := fun id => bif Nat.beq id 0 then some (lp74_0) else none, cut := fun k r => bif Nat.beq k 3 && Nat.beq r 10 then some (.flat [.s 10 (.imm (.int .u32))]) else none, frz := fun r => bif Nat.beq r 14 then [6] else [] }
theorem lo74_0 : LoopOkK Tryz.prog Tryz.f74.ntmps (lp74_0) (lb 0 Tryz.f74) :=
  loop_ok (xid := XID) (ro := ro74) (H := h74) mixed (tabOk74) (loops_of (L := []) (by kernel_rfl) (lnil)) (fun p s => nat_Sub_R0 p.1 p.2.1 p.2.2 s) (fun p s => by kernel_rfl) (fun p s => rfl)
theorem ok74 : FnOk Tryz.prog 74 ⟨[.ty (.sl (.int .u32)), .ty (.sl (.int .u32))], [(.sl (.int .u32)), .bool], fun x => nat_Sub x.1 x.2⟩ :=
  fn_ok (xid := XID) (ro := ro74) (H := h74) (fn := Tryz.f74) (code := bodyOf Tryz.f74) mixed (tabOk74) Tryz.func74 rfl (by kernel_rfl) (loops_of (L := [(0, lb 0 Tryz.f74)]) (by kernel_rfl) (lcons rfl (lo74_0) (lnil))) (fun x => by kernel_rfl)
/-! 54: pantograph/rat.Add -/
noncomputable def tab54 : Tab := [(27, .d ⟨[.ty tyRat], [tyRat], fun x => rat_Norm x⟩), (72, .d ⟨[.ty (.sl (.int .u32)), .ty (.sl (.int .u32))], [(.sl (.int .u32))], fun x => nat_Mul x.1 x.2⟩), (73, .d ⟨[.ty (.sl (.int .u32)), .ty (.sl (.int .u32))], [(.sl (.int .u32))], fun x => nat_Add x.1 x.2⟩), (42, .d ⟨[.ty .bool, .ty (.sl (.int .u32)), .ty (.sl (.int .u32))], [tyRat], fun x => rat_Of x.1 x.2.1 x.2.2⟩), (74, .d ⟨[.ty (.sl (.int .u32)), .ty (.sl (.int .u32))], [(.sl (.int .u32)), .bool], fun x => nat_Sub x.1 x.2⟩)]
theorem tabOk54 : TabOk Tryz.prog (tab54) := tabOk_cons ok27 (tabOk_cons ok72 (tabOk_cons ok73 (tabOk_cons ok42 (tabOk_cons ok74 (tabOk_nil _)))))
def ro54 : Nat → Bool := fun s => false
noncomputable def h54 : Hints := { loop := fun id => none, cut := fun k r => none, frz := fun r => [] }
theorem ok54 : FnOk Tryz.prog 54 ⟨[.ty tyRat, .ty tyRat], [tyRat], fun x => rat_Add x.1 x.2⟩ :=
  fn_ok (xid := XID) (ro := ro54) (H := h54) (fn := Tryz.f54) (code := bodyOf Tryz.f54) mixed (tabOk54) Tryz.func54 rfl (by kernel_rfl) (loops_of (L := []) (by kernel_rfl) (lnil)) (fun x => by kernel_rfl)
/-! 40: pantograph/rat.Sub -/
noncomputable def tab40 : Tab := [(53, .d ⟨[.ty tyRat], [tyRat], fun x => rat_Neg x⟩), (54, .d ⟨[.ty tyRat, .ty tyRat], [tyRat], fun x => rat_Add x.1 x.2⟩)]
theorem tabOk40 : TabOk Tryz.prog (tab40) := tabOk_cons ok53 (tabOk_cons ok54 (tabOk_nil _))
def ro40 : Nat → Bool := fun s => Nat.beq s 2 || Nat.beq s 3
noncomputable def h40 : Hints := { loop := fun id => none, cut := fun k r => none, frz := fun r => [] }
theorem ok40 : FnOk Tryz.prog 40 ⟨[.ty tyRat, .ty tyRat], [tyRat], fun x => rat_Sub x.1 x.2⟩ :=
  fn_ok (xid := XID) (ro := ro40) (H := h40) (fn := Tryz.f40) (code := bodyOf Tryz.f40) mixed (tabOk40) Tryz.func40 rfl (by kernel_rfl) (loops_of (L := []) (by kernel_rfl) (lnil)) (fun x => by kernel_rfl)
/-! 55: pantograph/rat.Mul -/
noncomputable def tab55 : Tab := [(27, .d ⟨[.ty tyRat], [tyRat], fun x => rat_Norm x⟩), (72, .d ⟨[.ty (.sl (.int .u32)), .ty (.sl (.int .u32))], [(.sl (.int .u32))], fun x => nat_Mul x.1 x.2⟩), (42, .d ⟨[.ty .bool, .ty (.sl (.int .u32)), .ty (.sl (.int .u32))], [tyRat], fun x => rat_Of x.1 x.2.1 x.2.2⟩)]
theorem tabOk55 : TabOk Tryz.prog (tab55) := tabOk_cons ok27 (tabOk_cons ok72 (tabOk_cons ok42 (tabOk_nil _)))
def ro55 : Nat → Bool := fun s => false
noncomputable def h55 : Hints := { loop := fun id => none, cut := fun k r => none, frz := fun r => [] }
theorem ok55 : FnOk Tryz.prog 55 ⟨[.ty tyRat, .ty tyRat], [tyRat], fun x => rat_Mul x.1 x.2⟩ :=
  fn_ok (xid := XID) (ro := ro55) (H := h55) (fn := Tryz.f55) (code := bodyOf Tryz.f55) mixed (tabOk55) Tryz.func55 rfl (by kernel_rfl) (loops_of (L := []) (by kernel_rfl) (lnil)) (fun x => by kernel_rfl)
/-! 56: pantograph/rat.Div -/
noncomputable def tab56 : Tab := [(27, .d ⟨[.ty tyRat], [tyRat], fun x => rat_Norm x⟩), (75, .d ⟨[.ty (.int .i64)], [tyRat], fun x => rat_Int x⟩), (55, .d ⟨[.ty tyRat, .ty tyRat], [tyRat], fun x => rat_Mul x.1 x.2⟩)]
theorem tabOk56 : TabOk Tryz.prog (tab56) := tabOk_cons ok27 (tabOk_cons ok75 (tabOk_cons ok55 (tabOk_nil _)))
def ro56 : Nat → Bool := fun s => Nat.beq s 2
noncomputable def h56 : Hints := { loop := fun id => none, cut := fun k r => none, frz := fun r => [] }
theorem ok56 : FnOk Tryz.prog 56 ⟨[.ty tyRat, .ty tyRat], [tyRat, .bool], fun x => rat_Div x.1 x.2⟩ :=
  fn_ok (xid := XID) (ro := ro56) (H := h56) (fn := Tryz.f56) (code := bodyOf Tryz.f56) mixed (tabOk56) Tryz.func56 rfl (by kernel_rfl) (loops_of (L := []) (by kernel_rfl) (lnil)) (fun x => by kernel_rfl)
/-! 39: pantograph/aff.number -/
noncomputable def tab39 (F_39 : denPs [.ty .expr, .ty tyaff_Env, .ty (.sl tyRat)] → T (Tup [tyRat, (.int .i64)])) : Tab := [(27, .d ⟨[.ty tyRat], [tyRat], fun x => rat_Norm x⟩), (52, .d ⟨[.ty .str, .ty tyaff_Env, .ty (.sl tyRat)], [tyRat, (.int .i64)], fun x => aff_told x.1 x.2.1 x.2.2⟩), (39, .d ⟨[.ty .expr, .ty tyaff_Env, .ty (.sl tyRat)], [tyRat, (.int .i64)], F_39⟩), (53, .d ⟨[.ty tyRat], [tyRat], fun x => rat_Neg x⟩), (54, .d ⟨[.ty tyRat, .ty tyRat], [tyRat], fun x => rat_Add x.1 x.2⟩), (40, .d ⟨[.ty tyRat, .ty tyRat], [tyRat], fun x => rat_Sub x.1 x.2⟩), (55, .d ⟨[.ty tyRat, .ty tyRat], [tyRat], fun x => rat_Mul x.1 x.2⟩), (56, .d ⟨[.ty tyRat, .ty tyRat], [tyRat, .bool], fun x => rat_Div x.1 x.2⟩)]
theorem tabOk39 (F_39 : denPs [.ty .expr, .ty tyaff_Env, .ty (.sl tyRat)] → T (Tup [tyRat, (.int .i64)])) (h_39 : FnOk Tryz.prog 39 ⟨[.ty .expr, .ty tyaff_Env, .ty (.sl tyRat)], [tyRat, (.int .i64)], F_39⟩) : TabOk Tryz.prog (tab39 F_39) := tabOk_cons ok27 (tabOk_cons ok52 (tabOk_cons h_39 (tabOk_cons ok53 (tabOk_cons ok54 (tabOk_cons ok40 (tabOk_cons ok55 (tabOk_cons ok56 (tabOk_nil _))))))))
def ro39 : Nat → Bool := fun s => Nat.beq s 3 || Nat.beq s 4
noncomputable def h39 (F_39 : denPs [.ty .expr, .ty tyaff_Env, .ty (.sl tyRat)] → T (Tup [tyRat, (.int .i64)])) : Hints := { loop := fun id => none, cut := fun k r => none, frz := fun r => [] }
theorem ok39_B (F_39 : denPs [.ty .expr, .ty tyaff_Env, .ty (.sl tyRat)] → T (Tup [tyRat, (.int .i64)])) (h_39 : FnOk Tryz.prog 39 ⟨[.ty .expr, .ty tyaff_Env, .ty (.sl tyRat)], [tyRat, (.int .i64)], F_39⟩) : FnOk Tryz.prog 39 ⟨[.ty .expr, .ty tyaff_Env, .ty (.sl tyRat)], [tyRat, (.int .i64)], fun x => aff_number_B (fun y0 y1 y2 => F_39 (y0, y1, y2)) x.1 x.2.1 x.2.2⟩ :=
  fn_ok (xid := XID) (ro := ro39) (H := h39 F_39) (fn := Tryz.f39) (code := bodyOf Tryz.f39) mixed (tabOk39 F_39 h_39) Tryz.func39 rfl (by kernel_rfl) (loops_of (L := []) (by kernel_rfl) (lnil)) (fun x => by kernel_rfl)
theorem ok39 : FnOk Tryz.prog 39 ⟨[.ty .expr, .ty tyaff_Env, .ty (.sl tyRat)], [tyRat, (.int .i64)], fun x => aff_number x.1 x.2.1 x.2.2⟩ :=
  fn_fix (fun F_39 x => aff_number_B (fun y0 y1 y2 => F_39 (y0, y1, y2)) x.1 x.2.1 x.2.2) (fun x => rfl) (fun F_39 h_39 => ok39_B F_39 h_39)
/-! 24: pantograph/aff.Value -/
noncomputable def tab24 : Tab := [(38, .d ⟨[.ty .expr], [.bool], fun x => expr_Is x⟩), (39, .d ⟨[.ty .expr, .ty tyaff_Env, .ty (.sl tyRat)], [tyRat, (.int .i64)], fun x => aff_number x.1 x.2.1 x.2.2⟩)]
theorem tabOk24 : TabOk Tryz.prog (tab24) := tabOk_cons ok38 (tabOk_cons ok39 (tabOk_nil _))
def ro24 : Nat → Bool := fun s => Nat.beq s 3 || Nat.beq s 4
noncomputable def h24 : Hints := { loop := fun id => none, cut := fun k r => none, frz := fun r => [] }
theorem ok24 : FnOk Tryz.prog 24 ⟨[.ty .expr, .ty tyaff_Env, .ty (.sl tyRat)], [tyRat, (.int .i64)], fun x => aff_Value x.1 x.2.1 x.2.2⟩ :=
  fn_ok (xid := XID) (ro := ro24) (H := h24) (fn := Tryz.f24) (code := bodyOf Tryz.f24) mixed (tabOk24) Tryz.func24 rfl (by kernel_rfl) (loops_of (L := []) (by kernel_rfl) (lnil)) (fun x => by kernel_rfl)
/-! 25: pantograph/rat.Cmp -/
noncomputable def tab25 : Tab := [(40, .d ⟨[.ty tyRat, .ty tyRat], [tyRat], fun x => rat_Sub x.1 x.2⟩)]
theorem tabOk25 : TabOk Tryz.prog (tab25) := tabOk_cons ok40 (tabOk_nil _)
def ro25 : Nat → Bool := fun s => Nat.beq s 2 || Nat.beq s 3
noncomputable def h25 : Hints := { loop := fun id => none, cut := fun k r => none, frz := fun r => [] }
theorem ok25 : FnOk Tryz.prog 25 ⟨[.ty tyRat, .ty tyRat], [(.int .i64)], fun x => rat_Cmp x.1 x.2⟩ :=
  fn_ok (xid := XID) (ro := ro25) (H := h25) (fn := Tryz.f25) (code := bodyOf Tryz.f25) mixed (tabOk25) Tryz.func25 rfl (by kernel_rfl) (loops_of (L := []) (by kernel_rfl) (lnil)) (fun x => by kernel_rfl)
/-! 14: pantograph/record.fails -/
noncomputable def tab14 : Tab := [(24, .d ⟨[.ty .expr, .ty tyaff_Env, .ty (.sl tyRat)], [tyRat, (.int .i64)], fun x => aff_Value x.1 x.2.1 x.2.2⟩), (25, .d ⟨[.ty tyRat, .ty tyRat], [(.int .i64)], fun x => rat_Cmp x.1 x.2⟩)]
theorem tabOk14 : TabOk Tryz.prog (tab14) := tabOk_cons ok24 (tabOk_cons ok25 (tabOk_nil _))
def ro14 : Nat → Bool := fun s => Nat.beq s 3 || Nat.beq s 4
noncomputable def h14 : Hints := { loop := fun id => none, cut := fun k r => bif Nat.beq k 0 && Nat.beq r 3 then some (.flat [.s 33 (.imm .bool)]) else none, frz := fun r => [] }
theorem ok14 : FnOk Tryz.prog 14 ⟨[.ty tyCheck, .ty tyaff_Env, .ty (.sl tyRat)], [.bool], fun x => record_fails x.1 x.2.1 x.2.2⟩ :=
  fn_ok (xid := XID) (ro := ro14) (H := h14) (fn := Tryz.f14) (code := bodyOf Tryz.f14) mixed (tabOk14) Tryz.func14 rfl (by kernel_rfl) (loops_of (L := []) (by kernel_rfl) (lnil)) (fun x => by kernel_rfl)
/-! 8: pantograph/record.Missing -/
noncomputable def tab8 : Tab := [(12, .d ⟨[.ty tyForm, .ty (.sl tyRat)], [tyaff_Env], fun x => elab_Env x.1 x.2⟩), (13, .d ⟨[.ty tyForm, .ty (.sl .bool)], [(.sl .bool)], fun x => page_Relevant x.1 x.2⟩), (14, .d ⟨[.ty tyCheck, .ty tyaff_Env, .ty (.sl tyRat)], [.bool], fun x => record_fails x.1 x.2.1 x.2.2⟩)]
theorem tabOk8 : TabOk Tryz.prog (tab8) := tabOk_cons ok12 (tabOk_cons ok13 (tabOk_cons ok14 (tabOk_nil _)))
def ro8 : Nat → Bool := fun s => Nat.beq s 2 || Nat.beq s 3
noncomputable def lp8_2 : LoopD := { gh := [], ps := [.s 2 (.rptr tyForm), .s 3 (.rptr tydoc_Doc), .s 7 (.imm (.int .i64)), .s 20 (.imm (.sl .bool)), .s 21 (.imm (.int .i64)), .s 22 (.imm (.int .i64)), .s 30 (.imm (.sl tyField)), .s 31 (.imm (.int .i64))], sh := ⟨[.s 32 (.imm (.int .i64)), .v (.imm tyaff_Env), .a .str], [(5, .cur 1 .str), (6, .ptr 0 0)], [.var (.imm tyaff_Env), .arr .str]⟩, ws := [⟨.exit 2, ⟨[.v (.imm tyaff_Env), .a .str], [(5, .cur 1 .str)], [.var (.imm tyaff_Env), .arr .str]⟩⟩], F := fun p s => record_Missing_L1 p.1 p.2.1 p.2.2.1 p.2.2.2.1 p.2.2.2.2.1 p.2.2.2.2.2.1 p.2.2.2.2.2.2.1 p.2.2.2.2.2.2.2 s }
noncomputable def lp8_4 : LoopD := { gh := [], ps := [.s 2 (.rptr tyForm), .s 3 (.rptr tydoc_Doc), .s 7 (.imm (.int .i64)), .s 20 (.imm (.sl .bool)), .s 21 (.imm (.int .i64)), .s 22 (.imm (.int .i64)), .s 67 (.imm (.sl tyCheck)), .s 68 (.imm (.int .i64))], sh := ⟨[.s 69 (.imm (.int .i64)), .v (.imm tyaff_Env), .a .str], [(5, .cur 1 .str), (6, .ptr 0 0)], [.var (.imm tyaff_Env), .arr .str]⟩, ws := [⟨.exit 4, ⟨[.v (.imm tyaff_Env), .a .str], [(5, .cur 1 .str)], [.var (.imm tyaff_Env), .arr .str]⟩⟩], F := fun p s => record_Missing_L2 p.1 p.2.1 p.2.2.1 p.2.2.2.1 p.2.2.2.2.1 p.2.2.2.2.2.1 p.2.2.2.2.2.2.1 p.2.2.2.2.2.2.2 s }
noncomputable def lp8_0 : LoopD := { gh := [.slot 5 .str], ps := [.s 2 (.rptr tyForm), .s 3 (.rptr tydoc_Doc), .s 20 (.imm (.sl .bool)), .s 21 (.imm (.int .i64))], sh := ⟨[.s 22 (.imm (.int .i64)), .v (.imm tyaff_Env), .a .str], [(5, .cur 1 .str), (6, .ptr 0 0)], [.var (.imm tyaff_Env), .arr .str]⟩, ws := [⟨.exit 0, ⟨[.v (.imm tyaff_Env), .a .str], [(5, .cur 1 .str)], [.var (.imm tyaff_Env), .arr .str]⟩⟩], F := fun p s => record_Missing_L0 p.1 p.2.1 p.2.2.1 p.2.2.2 s }
noncomputable def h8 : Hints := { loop := fun id => bif Nat.beq id 2 then some (lp8_2) else bif Nat.beq id 4 then some (lp8_4) else bif Nat.beq id 0 then some (lp8_0) else none, cut := fun k r => bif Nat.beq k 0 && Nat.beq r 10 then some (.flat [.s 59 (.imm .bool)]) else bif Nat.beq k 0 && Nat.beq r 16 then some (.ways [⟨.normal, ⟨[.s 83 (.imm .bool), .v (.imm tyaff_Env), .a .str, .v (.imm tyCheck)], [(5, .cur 1 .str)], [.var (.imm tyaff_Env), .arr .str, .var (.imm tyCheck)]⟩⟩]) else none, frz := fun r => [] }
theorem lo8_2 : LoopOkK Tryz.prog Tryz.f8.ntmps (lp8_2) (lb 2 Tryz.f8) :=
  loop_ok (xid := XID) (ro := ro8) (H := h8) mixed (tabOk8) (loops_of (L := []) (by kernel_rfl) (lnil)) (fun p s => record_Missing_R1 p.1 p.2.1 p.2.2.1 p.2.2.2.1 p.2.2.2.2.1 p.2.2.2.2.2.1 p.2.2.2.2.2.2.1 p.2.2.2.2.2.2.2 s) (fun p s => by kernel_rfl) (fun p s => rfl)
theorem lo8_4 : LoopOkK Tryz.prog Tryz.f8.ntmps (lp8_4) (lb 4 Tryz.f8) :=
  loop_ok (xid := XID) (ro := ro8) (H := h8) mixed (tabOk8) (loops_of (L := []) (by kernel_rfl) (lnil)) (fun p s => record_Missing_R2 p.1 p.2.1 p.2.2.1 p.2.2.2.1 p.2.2.2.2.1 p.2.2.2.2.2.1 p.2.2.2.2.2.2.1 p.2.2.2.2.2.2.2 s) (fun p s => by kernel_rfl) (fun p s => rfl)
theorem lo8_0 : LoopOkK Tryz.prog Tryz.f8.ntmps (lp8_0) (lb 0 Tryz.f8) :=
  loop_ok (xid := XID) (ro := ro8) (H := h8) mixed (tabOk8) (loops_of (L := [(2, lb 2 Tryz.f8), (4, lb 4 Tryz.f8)]) (by kernel_rfl) (lcons rfl (lo8_2) (lcons rfl (lo8_4) (lnil)))) (fun p s => record_Missing_R0 p.1 p.2.1 p.2.2.1 p.2.2.2 s) (fun p s => by kernel_rfl) (fun p s => rfl)
theorem ok8 : FnOk Tryz.prog 8 ⟨[.ty tyForm, .ty tydoc_Doc], [(.sl .str)], fun x => record_Missing x.1 x.2⟩ :=
  fn_ok (xid := XID) (ro := ro8) (H := h8) (fn := Tryz.f8) (code := bodyOf Tryz.f8) mixed (tabOk8) Tryz.func8 rfl (by kernel_rfl) (loops_of (L := [(0, lb 0 Tryz.f8)]) (by kernel_rfl) (lcons rfl (lo8_0) (lnil))) (fun x => by kernel_rfl)
/-! 9: pantograph/pantographlaw21.one -/
noncomputable def tab9 : Tab := []
theorem tabOk9 : TabOk Tryz.prog (tab9) := tabOk_nil _
def ro9 : Nat → Bool := fun s => false
noncomputable def h9 : Hints := { loop := fun id => none, cut := fun k r => none, frz := fun r => [] }
theorem ok9 : FnOk Tryz.prog 9 ⟨[.ty .bool], [(.int .i64)], fun x => law21_one x⟩ :=
  fn_ok (xid := XID) (ro := ro9) (H := h9) (fn := Tryz.f9) (code := bodyOf Tryz.f9) mixed (tabOk9) Tryz.func9 rfl (by kernel_rfl) (loops_of (L := []) (by kernel_rfl) (lnil)) (fun x => by kernel_rfl)
/-! 7: pantograph/pantographlaw21.texts -/
noncomputable def tab7 : Tab := []
theorem tabOk7 : TabOk Tryz.prog (tab7) := tabOk_nil _
def ro7 : Nat → Bool := fun s => false
noncomputable def lp7_0 : LoopD := { gh := [], ps := [.s 0 (.imm (.sl .str)), .s 1 (.imm (.sl .str))], sh := ⟨[.s 5 (.imm (.int .i64))], [], []⟩, ws := [⟨.exit 0, ⟨[], [], []⟩⟩, ⟨.ret, ⟨[.s 4 (.imm .bool)], [], []⟩⟩], F := fun p s => law21_texts_L0 p.1 p.2 s }
noncomputable def h7 : Hints := { loop := fun id => bif Nat.beq id 0 then some (lp7_0) else none, cut := fun k r => none, frz := fun r => [] }
theorem lo7_0 : LoopOkK Tryz.prog Tryz.f7.ntmps (lp7_0) (lb 0 Tryz.f7) :=
  loop_ok (xid := XID) (ro := ro7) (H := h7) mixed (tabOk7) (loops_of (L := []) (by kernel_rfl) (lnil)) (fun p s => law21_texts_R0 p.1 p.2 s) (fun p s => by kernel_rfl) (fun p s => rfl)
theorem ok7 : FnOk Tryz.prog 7 ⟨[.ty (.sl .str), .ty (.sl .str)], [.bool], fun x => law21_texts x.1 x.2⟩ :=
  fn_ok (xid := XID) (ro := ro7) (H := h7) (fn := Tryz.f7) (code := bodyOf Tryz.f7) mixed (tabOk7) Tryz.func7 rfl (by kernel_rfl) (loops_of (L := [(0, lb 0 Tryz.f7)]) (by kernel_rfl) (lcons rfl (lo7_0) (lnil))) (fun x => by kernel_rfl)
/-! 3: pantograph/pantographlaw21.RecordChecks -/
noncomputable def tab3 : Tab := [(4, .d ⟨[.ty (.sl tyRat)], [.bool], fun x => law21_many x⟩), (5, .d ⟨[], [.bool], fun _ => law21_known⟩), (6, .d ⟨[.ty tyRat, .ty tyRat], [(.int .i64)], fun x => ref2_Cmp x.1 x.2⟩), (8, .d ⟨[.ty tyForm, .ty tydoc_Doc], [(.sl .str)], fun x => record_Missing x.1 x.2⟩), (9, .d ⟨[.ty .bool], [(.int .i64)], fun x => law21_one x⟩), (7, .d ⟨[.ty (.sl .str), .ty (.sl .str)], [.bool], fun x => law21_texts x.1 x.2⟩)]
theorem tabOk3 : TabOk Tryz.prog (tab3) := tabOk_cons ok4 (tabOk_cons ok5 (tabOk_cons ok6 (tabOk_cons ok8 (tabOk_cons ok9 (tabOk_cons ok7 (tabOk_nil _))))))
def ro3 : Nat → Bool := fun s => Nat.beq s 3 || Nat.beq s 4
noncomputable def h3 : Hints := { loop := fun id => none, cut := fun k r => bif Nat.beq k 0 && Nat.beq r 4 then some (.flat [.s 30 (.imm .bool)]) else bif Nat.beq k 0 && Nat.beq r 7 then some (.flat [.s 9 (.imm .bool)]) else bif Nat.beq k 3 && Nat.beq r 8 then some (.flat [.s 9 (.imm .bool)]) else none, frz := fun r => [] }
theorem ok3 : FnOk Tryz.prog 3 ⟨[.ty tyRat, .ty tyRat, .ty (.int .i64)], [.bool], fun x => law21_RecordChecks x.1 x.2.1 x.2.2⟩ :=
  fn_ok (xid := XID) (ro := ro3) (H := h3) (fn := Tryz.f3) (code := bodyOf Tryz.f3) mixed (tabOk3) Tryz.func3 rfl (by kernel_rfl) (loops_of (L := []) (by kernel_rfl) (lnil)) (fun x => by kernel_rfl)
end Go.AM.Lf
