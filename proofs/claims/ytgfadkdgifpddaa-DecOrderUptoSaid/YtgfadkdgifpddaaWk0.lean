/-
  The walk, part 0: each function of the program is the tree that the lifted text says; printed by a program of ours.
-/
import Derived.Test.YtgfadkdgifpddaaProg
import Derived.KernelRfl
import Derived.Test.YtgfadkdgifpddaaAmD
import Derived.Test.YtgfadkdgifpddaaLf0
import Derived.Test.YtgfadkdgifpddaaSh
set_option linter.unusedVariables false
set_option maxRecDepth 100000
namespace Go.AM.Lf
open Go.Proofs
abbrev XID : Nat := 1000
noncomputable def bodyOf (f : Func) : Code := match f.body with | some c => c | none => .skip
noncomputable def lb (k : Nat) (f : Func) : Code := match loopAt k (bodyOf f) with | some c => c | none => .skip
theorem mixed : Try.prog.follows .mixedOrders = true := by kernel_rfl
/-! 5: pantograph/pantographlaw3.big -/
noncomputable def tab5 : Tab := []
theorem tabOk5 : TabOk Try.prog (tab5) := tabOk_nil _
def ro5 : Nat → Bool := fun s => false
noncomputable def lp5_0 : LoopD := { gh := [], ps := [.s 0 (.imm (.sl tyRat))], sh := ⟨[.s 3 (.imm (.int .i64)), .s 4 (.imm (.int .i64))], [], []⟩, ws := [⟨.exit 0, ⟨[], [], []⟩⟩, ⟨.ret, ⟨[.s 2 (.imm .bool)], [], []⟩⟩], F := fun p s => law3_big_L0 p s }
noncomputable def h5 : Hints := { loop := fun id => bif Nat.beq id 0 then some (lp5_0) else none, cut := fun k r => none, frz := fun r => [] }
theorem lo5_0 : LoopOkK Try.prog Try.f5.ntmps (lp5_0) (lb 0 Try.f5) :=
  loop_ok (xid := XID) (ro := ro5) (H := h5) mixed (tabOk5) (loops_of (L := []) (by kernel_rfl) (lnil)) (fun p s => law3_big_R0 p s) (fun p s => by kernel_rfl) (fun p s => rfl)
theorem ok5 : FnOk Try.prog 5 ⟨[.ty (.sl tyRat)], [.bool], fun x => law3_big x⟩ :=
  fn_ok (xid := XID) (ro := ro5) (H := h5) (fn := Try.f5) (code := bodyOf Try.f5) mixed (tabOk5) Try.func5 rfl (by kernel_rfl) (loops_of (L := [(0, lb 0 Try.f5)]) (by kernel_rfl) (lcons rfl (lo5_0) (lnil))) (fun x => by kernel_rfl)
/-! 51: pantograph/pantographref1.Trim -/
noncomputable def tab51 : Tab := []
theorem tabOk51 : TabOk Try.prog (tab51) := tabOk_nil _
def ro51 : Nat → Bool := fun s => false
noncomputable def lp51_0 : LoopD := { gh := [], ps := [.s 0 (.imm (.sl (.int .u32)))], sh := ⟨[.s 3 (.imm (.int .i64))], [], []⟩, ws := [⟨.exit 0, ⟨[.s 3 (.imm (.int .i64))], [], []⟩⟩], F := fun p s => ref1_Trim_L0 p s }
noncomputable def h51 : Hints := { loop := fun id => bif Nat.beq id 0 then some (lp51_0) else none, cut := fun k r => bif Nat.beq k 0 && Nat.beq r 2 then some (.flat [.s 15 (.imm .bool)]) else none, frz := fun r => [] }
theorem lo51_0 : LoopOkK Try.prog Try.f51.ntmps (lp51_0) (lb 0 Try.f51) :=
  loop_ok (xid := XID) (ro := ro51) (H := h51) mixed (tabOk51) (loops_of (L := []) (by kernel_rfl) (lnil)) (fun p s => ref1_Trim_R0 p s) (fun p s => by kernel_rfl) (fun p s => rfl)
theorem ok51 : FnOk Try.prog 51 ⟨[.ty (.sl (.int .u32))], [(.sl (.int .u32))], fun x => ref1_Trim x⟩ :=
  fn_ok (xid := XID) (ro := ro51) (H := h51) (fn := Try.f51) (code := bodyOf Try.f51) mixed (tabOk51) Try.func51 rfl (by kernel_rfl) (loops_of (L := [(0, lb 0 Try.f51)]) (by kernel_rfl) (lcons rfl (lo51_0) (lnil))) (fun x => by kernel_rfl)
/-! 53: pantograph/pantographref1.To -/
noncomputable def tab53 : Tab := [(51, .d ⟨[.ty (.sl (.int .u32))], [(.sl (.int .u32))], fun x => ref1_Trim x⟩)]
theorem tabOk53 : TabOk Try.prog (tab53) := tabOk_cons ok51 (tabOk_nil _)
def ro53 : Nat → Bool := fun s => false
noncomputable def lp53_0 : LoopD := { gh := [], ps := [.s 4 (.imm (.sl (.int .u32)))], sh := ⟨[.s 5 (.imm (.int .u64)), .s 6 (.imm (.int .i64))], [], []⟩, ws := [⟨.exit 0, ⟨[.s 5 (.imm (.int .u64))], [], []⟩⟩], F := fun p s => ref1_To_L0 p s }
noncomputable def h53 : Hints := { loop := fun id => bif Nat.beq id 0 then some (lp53_0) else none, cut := fun k r => none, frz := fun r => [] }
theorem lo53_0 : LoopOkK Try.prog Try.f53.ntmps (lp53_0) (lb 0 Try.f53) :=
  loop_ok (xid := XID) (ro := ro53) (H := h53) mixed (tabOk53) (loops_of (L := []) (by kernel_rfl) (lnil)) (fun p s => ref1_To_R0 p s) (fun p s => by kernel_rfl) (fun p s => rfl)
theorem ok53 : FnOk Try.prog 53 ⟨[.ty (.sl (.int .u32))], [(.int .u64), .bool], fun x => ref1_To x⟩ :=
  fn_ok (xid := XID) (ro := ro53) (H := h53) (fn := Try.f53) (code := bodyOf Try.f53) mixed (tabOk53) Try.func53 rfl (by kernel_rfl) (loops_of (L := [(0, lb 0 Try.f53)]) (by kernel_rfl) (lcons rfl (lo53_0) (lnil))) (fun x => by kernel_rfl)
/-! 54: pantograph/pantographref1.Of -/
noncomputable def tab54 : Tab := [(51, .d ⟨[.ty (.sl (.int .u32))], [(.sl (.int .u32))], fun x => ref1_Trim x⟩)]
theorem tabOk54 : TabOk Try.prog (tab54) := tabOk_cons ok51 (tabOk_nil _)
def ro54 : Nat → Bool := fun s => false
noncomputable def h54 : Hints := { loop := fun id => none, cut := fun k r => none, frz := fun r => [] }
theorem ok54 : FnOk Try.prog 54 ⟨[.ty (.int .u64)], [(.sl (.int .u32))], fun x => ref1_Of x⟩ :=
  fn_ok (xid := XID) (ro := ro54) (H := h54) (fn := Try.f54) (code := bodyOf Try.f54) mixed (tabOk54) Try.func54 rfl (by kernel_rfl) (loops_of (L := []) (by kernel_rfl) (lnil)) (fun x => by kernel_rfl)
/-! 55: pantograph/pantographref1.small -/
noncomputable def tab55 : Tab := [(51, .d ⟨[.ty (.sl (.int .u32))], [(.sl (.int .u32))], fun x => ref1_Trim x⟩)]
theorem tabOk55 : TabOk Try.prog (tab55) := tabOk_cons ok51 (tabOk_nil _)
def ro55 : Nat → Bool := fun s => false
noncomputable def lp55_0 : LoopD := { gh := [], ps := [.s 0 (.imm (.sl (.int .u32))), .s 1 (.imm (.int .u64))], sh := ⟨[.s 7 (.imm (.int .u64)), .s 8 (.imm (.int .i64)), .a (.int .u32)], [(6, .cur 0 (.int .u32))], [.arr (.int .u32)]⟩, ws := [⟨.exit 0, ⟨[.s 7 (.imm (.int .u64)), .a (.int .u32)], [(6, .cur 0 (.int .u32))], [.arr (.int .u32)]⟩⟩], F := fun p s => ref1_small_L0 p.1 p.2 s }
noncomputable def h55 : Hints := { loop := fun id => bif Nat.beq id 0 then some (lp55_0) else none, cut := fun k r => none, frz := fun r => bif Nat.beq r 9 then [6] else [] }
theorem lo55_0 : LoopOkK Try.prog Try.f55.ntmps (lp55_0) (lb 0 Try.f55) :=
  loop_ok (xid := XID) (ro := ro55) (H := h55) mixed (tabOk55) (loops_of (L := []) (by kernel_rfl) (lnil)) (fun p s => ref1_small_R0 p.1 p.2 s) (fun p s => by kernel_rfl) (fun p s => rfl)
theorem ok55 : FnOk Try.prog 55 ⟨[.ty (.sl (.int .u32)), .ty (.int .u64)], [(.sl (.int .u32)), (.int .u64)], fun x => ref1_small x.1 x.2⟩ :=
  fn_ok (xid := XID) (ro := ro55) (H := h55) (fn := Try.f55) (code := bodyOf Try.f55) mixed (tabOk55) Try.func55 rfl (by kernel_rfl) (loops_of (L := [(0, lb 0 Try.f55)]) (by kernel_rfl) (lcons rfl (lo55_0) (lnil))) (fun x => by kernel_rfl)
/-! 60: pantograph/pantographref1.at -/
noncomputable def tab60 : Tab := []
theorem tabOk60 : TabOk Try.prog (tab60) := tabOk_nil _
def ro60 : Nat → Bool := fun s => false
noncomputable def h60 : Hints := { loop := fun id => none, cut := fun k r => none, frz := fun r => [] }
theorem ok60 : FnOk Try.prog 60 ⟨[.ty (.sl (.int .u32)), .ty (.int .i64)], [(.int .u64)], fun x => ref1_at x.1 x.2⟩ :=
  fn_ok (xid := XID) (ro := ro60) (H := h60) (fn := Try.f60) (code := bodyOf Try.f60) mixed (tabOk60) Try.func60 rfl (by kernel_rfl) (loops_of (L := []) (by kernel_rfl) (lnil)) (fun x => by kernel_rfl)
/-! 56: pantograph/pantographref1.Shift -/
noncomputable def tab56 : Tab := [(51, .d ⟨[.ty (.sl (.int .u32))], [(.sl (.int .u32))], fun x => ref1_Trim x⟩), (60, .d ⟨[.ty (.sl (.int .u32)), .ty (.int .i64)], [(.int .u64)], fun x => ref1_at x.1 x.2⟩)]
theorem tabOk56 : TabOk Try.prog (tab56) := tabOk_cons ok51 (tabOk_cons ok60 (tabOk_nil _))
def ro56 : Nat → Bool := fun s => false
noncomputable def lp56_0 : LoopD := { gh := [(8, (.int .u32))], ps := [.s 5 (.imm (.sl (.int .u32))), .s 7 (.imm (.int .u64))], sh := ⟨[.s 9 (.imm (.int .i64)), .a (.int .u32)], [(8, .cur 0 (.int .u32))], [.arr (.int .u32)]⟩, ws := [⟨.exit 0, ⟨[.a (.int .u32)], [(8, .cur 0 (.int .u32))], [.arr (.int .u32)]⟩⟩], F := fun p s => ref1_Shift_L0 p.1 p.2 s }
noncomputable def lp56_2 : LoopD := { gh := [], ps := [.s 5 (.imm (.sl (.int .u32))), .s 11 (.imm (.int .u64))], sh := ⟨[.s 12 (.imm (.int .u64)), .s 13 (.imm (.int .i64)), .a (.int .u32)], [(10, .cur 0 (.int .u32))], [.arr (.int .u32)]⟩, ws := [⟨.exit 2, ⟨[.a (.int .u32)], [(10, .cur 0 (.int .u32))], [.arr (.int .u32)]⟩⟩], F := fun p s => ref1_Shift_L1 p.1 p.2 s }
noncomputable def h56 : Hints := { loop := fun id => bif Nat.beq id 0 then some (lp56_0) else bif Nat.beq id 2 then some (lp56_2) else none, cut := fun k r => none, frz := fun r => bif Nat.beq r 24 then [10] else bif Nat.beq r 14 then [8] else [] }
theorem lo56_0 : LoopOkK Try.prog Try.f56.ntmps (lp56_0) (lb 0 Try.f56) :=
  loop_ok (xid := XID) (ro := ro56) (H := h56) mixed (tabOk56) (loops_of (L := []) (by kernel_rfl) (lnil)) (fun p s => ref1_Shift_R0 p.1 p.2 s) (fun p s => by kernel_rfl) (fun p s => rfl)
theorem lo56_2 : LoopOkK Try.prog Try.f56.ntmps (lp56_2) (lb 2 Try.f56) :=
  loop_ok (xid := XID) (ro := ro56) (H := h56) mixed (tabOk56) (loops_of (L := []) (by kernel_rfl) (lnil)) (fun p s => ref1_Shift_R1 p.1 p.2 s) (fun p s => by kernel_rfl) (fun p s => rfl)
theorem ok56 : FnOk Try.prog 56 ⟨[.ty (.sl (.int .u32)), .ty (.int .i64)], [(.sl (.int .u32))], fun x => ref1_Shift x.1 x.2⟩ :=
  fn_ok (xid := XID) (ro := ro56) (H := h56) (fn := Try.f56) (code := bodyOf Try.f56) mixed (tabOk56) Try.func56 rfl (by kernel_rfl) (loops_of (L := [(0, lb 0 Try.f56), (2, lb 2 Try.f56)]) (by kernel_rfl) (lcons rfl (lo56_0) (lcons rfl (lo56_2) (lnil)))) (fun x => by kernel_rfl)
/-! 57: pantograph/pantographref1.Add -/
noncomputable def tab57 : Tab := [(60, .d ⟨[.ty (.sl (.int .u32)), .ty (.int .i64)], [(.int .u64)], fun x => ref1_at x.1 x.2⟩), (51, .d ⟨[.ty (.sl (.int .u32))], [(.sl (.int .u32))], fun x => ref1_Trim x⟩)]
theorem tabOk57 : TabOk Try.prog (tab57) := tabOk_cons ok60 (tabOk_cons ok51 (tabOk_nil _))
def ro57 : Nat → Bool := fun s => false
noncomputable def lp57_0 : LoopD := { gh := [(5, (.int .u32))], ps := [.s 0 (.imm (.sl (.int .u32))), .s 1 (.imm (.sl (.int .u32)))], sh := ⟨[.s 6 (.imm (.int .u64)), .s 7 (.imm (.int .i64)), .a (.int .u32)], [(5, .cur 0 (.int .u32))], [.arr (.int .u32)]⟩, ws := [⟨.exit 0, ⟨[.a (.int .u32)], [(5, .cur 0 (.int .u32))], [.arr (.int .u32)]⟩⟩], F := fun p s => ref1_Add_L0 p.1 p.2 s }
noncomputable def h57 : Hints := { loop := fun id => bif Nat.beq id 0 then some (lp57_0) else none, cut := fun k r => none, frz := fun r => bif Nat.beq r 9 then [5] else [] }
theorem lo57_0 : LoopOkK Try.prog Try.f57.ntmps (lp57_0) (lb 0 Try.f57) :=
  loop_ok (xid := XID) (ro := ro57) (H := h57) mixed (tabOk57) (loops_of (L := []) (by kernel_rfl) (lnil)) (fun p s => ref1_Add_R0 p.1 p.2 s) (fun p s => by kernel_rfl) (fun p s => rfl)
theorem ok57 : FnOk Try.prog 57 ⟨[.ty (.sl (.int .u32)), .ty (.sl (.int .u32))], [(.sl (.int .u32))], fun x => ref1_Add x.1 x.2⟩ :=
  fn_ok (xid := XID) (ro := ro57) (H := h57) (fn := Try.f57) (code := bodyOf Try.f57) mixed (tabOk57) Try.func57 rfl (by kernel_rfl) (loops_of (L := [(0, lb 0 Try.f57)]) (by kernel_rfl) (lcons rfl (lo57_0) (lnil))) (fun x => by kernel_rfl)
/-! 58: pantograph/pantographref1.Cmp -/
noncomputable def tab58 : Tab := [(51, .d ⟨[.ty (.sl (.int .u32))], [(.sl (.int .u32))], fun x => ref1_Trim x⟩)]
theorem tabOk58 : TabOk Try.prog (tab58) := tabOk_cons ok51 (tabOk_nil _)
def ro58 : Nat → Bool := fun s => false
noncomputable def lp58_0 : LoopD := { gh := [], ps := [.s 5 (.imm (.sl (.int .u32))), .s 6 (.imm (.sl (.int .u32)))], sh := ⟨[.s 7 (.imm (.int .i64))], [], []⟩, ws := [⟨.exit 0, ⟨[], [], []⟩⟩, ⟨.ret, ⟨[.s 4 (.imm (.int .i64))], [], []⟩⟩], F := fun p s => ref1_Cmp_L0 p.1 p.2 s }
noncomputable def h58 : Hints := { loop := fun id => bif Nat.beq id 0 then some (lp58_0) else none, cut := fun k r => none, frz := fun r => [] }
theorem lo58_0 : LoopOkK Try.prog Try.f58.ntmps (lp58_0) (lb 0 Try.f58) :=
  loop_ok (xid := XID) (ro := ro58) (H := h58) mixed (tabOk58) (loops_of (L := []) (by kernel_rfl) (lnil)) (fun p s => ref1_Cmp_R0 p.1 p.2 s) (fun p s => by kernel_rfl) (fun p s => rfl)
theorem ok58 : FnOk Try.prog 58 ⟨[.ty (.sl (.int .u32)), .ty (.sl (.int .u32))], [(.int .i64)], fun x => ref1_Cmp x.1 x.2⟩ :=
  fn_ok (xid := XID) (ro := ro58) (H := h58) (fn := Try.f58) (code := bodyOf Try.f58) mixed (tabOk58) Try.func58 rfl (by kernel_rfl) (loops_of (L := [(0, lb 0 Try.f58)]) (by kernel_rfl) (lcons rfl (lo58_0) (lnil))) (fun x => by kernel_rfl)
/-! 59: pantograph/pantographref1.Sub -/
noncomputable def tab59 : Tab := [(58, .d ⟨[.ty (.sl (.int .u32)), .ty (.sl (.int .u32))], [(.int .i64)], fun x => ref1_Cmp x.1 x.2⟩), (60, .d ⟨[.ty (.sl (.int .u32)), .ty (.int .i64)], [(.int .u64)], fun x => ref1_at x.1 x.2⟩), (51, .d ⟨[.ty (.sl (.int .u32))], [(.sl (.int .u32))], fun x => ref1_Trim x⟩)]
theorem tabOk59 : TabOk Try.prog (tab59) := tabOk_cons ok58 (tabOk_cons ok60 (tabOk_cons ok51 (tabOk_nil _)))
def ro59 : Nat → Bool := fun s => false
noncomputable def lp59_0 : LoopD := { gh := [(6, (.int .u32))], ps := [.s 0 (.imm (.sl (.int .u32))), .s 1 (.imm (.sl (.int .u32)))], sh := ⟨[.s 7 (.imm (.int .u64)), .s 8 (.imm (.int .i64)), .a (.int .u32)], [(6, .cur 0 (.int .u32))], [.arr (.int .u32)]⟩, ws := [⟨.exit 0, ⟨[.a (.int .u32)], [(6, .cur 0 (.int .u32))], [.arr (.int .u32)]⟩⟩], F := fun p s => ref1_Sub_L0 p.1 p.2 s }
noncomputable def h59 : Hints := { loop := fun id => bif Nat.beq id 0 then some (lp59_0) else none, cut := fun k r => bif Nat.beq k 3 && Nat.beq r 10 then some (.flat [.s 7 (.imm (.int .u64)), .s 9 (.imm (.int .u64))]) else none, frz := fun r => bif Nat.beq r 14 then [6] else [] }
theorem lo59_0 : LoopOkK Try.prog Try.f59.ntmps (lp59_0) (lb 0 Try.f59) :=
  loop_ok (xid := XID) (ro := ro59) (H := h59) mixed (tabOk59) (loops_of (L := []) (by kernel_rfl) (lnil)) (fun p s => ref1_Sub_R0 p.1 p.2 s) (fun p s => by kernel_rfl) (fun p s => rfl)
theorem ok59 : FnOk Try.prog 59 ⟨[.ty (.sl (.int .u32)), .ty (.sl (.int .u32))], [(.sl (.int .u32)), .bool], fun x => ref1_Sub x.1 x.2⟩ :=
  fn_ok (xid := XID) (ro := ro59) (H := h59) (fn := Try.f59) (code := bodyOf Try.f59) mixed (tabOk59) Try.func59 rfl (by kernel_rfl) (loops_of (L := [(0, lb 0 Try.f59)]) (by kernel_rfl) (lcons rfl (lo59_0) (lnil))) (fun x => by kernel_rfl)
/-! 29: pantograph/pantographref1.DivMod -/
noncomputable def tab29 : Tab := [(51, .d ⟨[.ty (.sl (.int .u32))], [(.sl (.int .u32))], fun x => ref1_Trim x⟩), (53, .d ⟨[.ty (.sl (.int .u32))], [(.int .u64), .bool], fun x => ref1_To x⟩), (54, .d ⟨[.ty (.int .u64)], [(.sl (.int .u32))], fun x => ref1_Of x⟩), (55, .d ⟨[.ty (.sl (.int .u32)), .ty (.int .u64)], [(.sl (.int .u32)), (.int .u64)], fun x => ref1_small x.1 x.2⟩), (56, .d ⟨[.ty (.sl (.int .u32)), .ty (.int .i64)], [(.sl (.int .u32))], fun x => ref1_Shift x.1 x.2⟩), (57, .d ⟨[.ty (.sl (.int .u32)), .ty (.sl (.int .u32))], [(.sl (.int .u32))], fun x => ref1_Add x.1 x.2⟩), (58, .d ⟨[.ty (.sl (.int .u32)), .ty (.sl (.int .u32))], [(.int .i64)], fun x => ref1_Cmp x.1 x.2⟩), (59, .d ⟨[.ty (.sl (.int .u32)), .ty (.sl (.int .u32))], [(.sl (.int .u32)), .bool], fun x => ref1_Sub x.1 x.2⟩)]
theorem tabOk29 : TabOk Try.prog (tab29) := tabOk_cons ok51 (tabOk_cons ok53 (tabOk_cons ok54 (tabOk_cons ok55 (tabOk_cons ok56 (tabOk_cons ok57 (tabOk_cons ok58 (tabOk_cons ok59 (tabOk_nil _))))))))
def ro29 : Nat → Bool := fun s => false
noncomputable def lp29_0 : LoopD := { gh := [], ps := [.s 0 (.imm (.sl (.int .u32))), .s 1 (.imm (.sl (.int .u32)))], sh := ⟨[.s 14 (.imm (.sl (.int .u32))), .s 15 (.imm (.int .i64)), .a (.int .u32)], [(13, .cur 0 (.int .u32))], [.arr (.int .u32)]⟩, ws := [⟨.exit 0, ⟨[.s 14 (.imm (.sl (.int .u32))), .a (.int .u32)], [(13, .cur 0 (.int .u32))], [.arr (.int .u32)]⟩⟩], F := fun p s => ref1_DivMod_L0 p.1 p.2 s }
noncomputable def h29 : Hints := { loop := fun id => bif Nat.beq id 0 then some (lp29_0) else none, cut := fun k r => bif Nat.beq k 0 && Nat.beq r 5 then some (.flat [.s 33 (.imm .bool)]) else bif Nat.beq k 0 && Nat.beq r 7 then some (.flat [.s 46 (.imm .bool)]) else bif Nat.beq k 3 && Nat.beq r 16 then some (.ways [⟨.normal, ⟨[.s 14 (.imm (.sl (.int .u32))), .a (.int .u32)], [(13, .cur 0 (.int .u32))], [.arr (.int .u32)]⟩⟩]) else none, frz := fun r => bif Nat.beq r 21 then [13] else [] }
theorem lo29_0 : LoopOkK Try.prog Try.f29.ntmps (lp29_0) (lb 0 Try.f29) :=
  loop_ok (xid := XID) (ro := ro29) (H := h29) mixed (tabOk29) (loops_of (L := []) (by kernel_rfl) (lnil)) (fun p s => ref1_DivMod_R0 p.1 p.2 s) (fun p s => by kernel_rfl) (fun p s => rfl)
theorem ok29 : FnOk Try.prog 29 ⟨[.ty (.sl (.int .u32)), .ty (.sl (.int .u32))], [(.sl (.int .u32)), (.sl (.int .u32)), .bool], fun x => ref1_DivMod x.1 x.2⟩ :=
  fn_ok (xid := XID) (ro := ro29) (H := h29) (fn := Try.f29) (code := bodyOf Try.f29) mixed (tabOk29) Try.func29 rfl (by kernel_rfl) (loops_of (L := [(0, lb 0 Try.f29)]) (by kernel_rfl) (lcons rfl (lo29_0) (lnil))) (fun x => by kernel_rfl)
/-! 52: pantograph/pantographref1.Gcd -/
noncomputable def tab52 : Tab := [(51, .d ⟨[.ty (.sl (.int .u32))], [(.sl (.int .u32))], fun x => ref1_Trim x⟩), (29, .d ⟨[.ty (.sl (.int .u32)), .ty (.sl (.int .u32))], [(.sl (.int .u32)), (.sl (.int .u32)), .bool], fun x => ref1_DivMod x.1 x.2⟩)]
theorem tabOk52 : TabOk Try.prog (tab52) := tabOk_cons ok51 (tabOk_cons ok29 (tabOk_nil _))
def ro52 : Nat → Bool := fun s => false
noncomputable def lp52_0 : LoopD := { gh := [], ps := [], sh := ⟨[.s 5 (.imm (.sl (.int .u32))), .s 6 (.imm (.sl (.int .u32)))], [], []⟩, ws := [⟨.exit 0, ⟨[.s 5 (.imm (.sl (.int .u32)))], [], []⟩⟩], F := fun p s => ref1_Gcd_L0  s }
noncomputable def h52 : Hints := { loop := fun id => bif Nat.beq id 0 then some (lp52_0) else none, cut := fun k r => none, frz := fun r => [] }
theorem lo52_0 : LoopOkK Try.prog Try.f52.ntmps (lp52_0) (lb 0 Try.f52) :=
  loop_ok (xid := XID) (ro := ro52) (H := h52) mixed (tabOk52) (loops_of (L := []) (by kernel_rfl) (lnil)) (fun p s => ref1_Gcd_R0  s) (fun p s => by kernel_rfl) (fun p s => rfl)
theorem ok52 : FnOk Try.prog 52 ⟨[.ty (.sl (.int .u32)), .ty (.sl (.int .u32))], [(.sl (.int .u32))], fun x => ref1_Gcd x.1 x.2⟩ :=
  fn_ok (xid := XID) (ro := ro52) (H := h52) (fn := Try.f52) (code := bodyOf Try.f52) mixed (tabOk52) Try.func52 rfl (by kernel_rfl) (loops_of (L := [(0, lb 0 Try.f52)]) (by kernel_rfl) (lcons rfl (lo52_0) (lnil))) (fun x => by kernel_rfl)
/-! 28: pantograph/pantographref2.Norm -/
noncomputable def tab28 : Tab := [(51, .d ⟨[.ty (.sl (.int .u32))], [(.sl (.int .u32))], fun x => ref1_Trim x⟩), (52, .d ⟨[.ty (.sl (.int .u32)), .ty (.sl (.int .u32))], [(.sl (.int .u32))], fun x => ref1_Gcd x.1 x.2⟩), (29, .d ⟨[.ty (.sl (.int .u32)), .ty (.sl (.int .u32))], [(.sl (.int .u32)), (.sl (.int .u32)), .bool], fun x => ref1_DivMod x.1 x.2⟩)]
theorem tabOk28 : TabOk Try.prog (tab28) := tabOk_cons ok51 (tabOk_cons ok52 (tabOk_cons ok29 (tabOk_nil _)))
def ro28 : Nat → Bool := fun s => Nat.beq s 1
noncomputable def h28 : Hints := { loop := fun id => none, cut := fun k r => bif Nat.beq k 0 && Nat.beq r 2 then some (.flat [.s 19 (.imm .bool)]) else none, frz := fun r => [] }
theorem ok28 : FnOk Try.prog 28 ⟨[.ty tyRat], [tyRat], fun x => ref2_Norm x⟩ :=
  fn_ok (xid := XID) (ro := ro28) (H := h28) (fn := Try.f28) (code := bodyOf Try.f28) mixed (tabOk28) Try.func28 rfl (by kernel_rfl) (loops_of (L := []) (by kernel_rfl) (lnil)) (fun x => by kernel_rfl)
/-! 41: pantograph/pantographref2.Neg -/
noncomputable def tab41 : Tab := [(28, .d ⟨[.ty tyRat], [tyRat], fun x => ref2_Norm x⟩)]
theorem tabOk41 : TabOk Try.prog (tab41) := tabOk_cons ok28 (tabOk_nil _)
def ro41 : Nat → Bool := fun s => Nat.beq s 1
noncomputable def h41 : Hints := { loop := fun id => none, cut := fun k r => bif Nat.beq k 0 && Nat.beq r 2 then some (.ways [⟨.normal, ⟨[.v (.imm tyRat), .v (.imm tyRat)], [], [.var (.imm tyRat), .var (.imm tyRat)]⟩⟩]) else none, frz := fun r => [] }
theorem ok41 : FnOk Try.prog 41 ⟨[.ty tyRat], [tyRat], fun x => ref2_Neg x⟩ :=
  fn_ok (xid := XID) (ro := ro41) (H := h41) (fn := Try.f41) (code := bodyOf Try.f41) mixed (tabOk41) Try.func41 rfl (by kernel_rfl) (loops_of (L := []) (by kernel_rfl) (lnil)) (fun x => by kernel_rfl)
/-! 30: pantograph/pantographref1.Mul -/
noncomputable def tab30 : Tab := [(60, .d ⟨[.ty (.sl (.int .u32)), .ty (.int .i64)], [(.int .u64)], fun x => ref1_at x.1 x.2⟩), (51, .d ⟨[.ty (.sl (.int .u32))], [(.sl (.int .u32))], fun x => ref1_Trim x⟩)]
theorem tabOk30 : TabOk Try.prog (tab30) := tabOk_cons ok60 (tabOk_cons ok51 (tabOk_nil _))
def ro30 : Nat → Bool := fun s => false
noncomputable def lp30_2 : LoopD := { gh := [], ps := [.s 0 (.imm (.sl (.int .u32))), .s 1 (.imm (.sl (.int .u32))), .s 6 (.imm (.int .i64))], sh := ⟨[.s 7 (.imm (.int .u64)), .s 8 (.imm (.int .i64)), .a (.int .u32)], [(5, .cur 0 (.int .u32))], [.arr (.int .u32)]⟩, ws := [⟨.exit 2, ⟨[.a (.int .u32)], [(5, .cur 0 (.int .u32))], [.arr (.int .u32)]⟩⟩], F := fun p s => ref1_Mul_L1 p.1 p.2.1 p.2.2 s }
noncomputable def lp30_0 : LoopD := { gh := [], ps := [.s 0 (.imm (.sl (.int .u32))), .s 1 (.imm (.sl (.int .u32)))], sh := ⟨[.s 6 (.imm (.int .i64)), .a (.int .u32)], [(5, .cur 0 (.int .u32))], [.arr (.int .u32)]⟩, ws := [⟨.exit 0, ⟨[.a (.int .u32)], [(5, .cur 0 (.int .u32))], [.arr (.int .u32)]⟩⟩], F := fun p s => ref1_Mul_L0 p.1 p.2 s }
noncomputable def h30 : Hints := { loop := fun id => bif Nat.beq id 2 then some (lp30_2) else bif Nat.beq id 0 then some (lp30_0) else none, cut := fun k r => bif Nat.beq k 0 && Nat.beq r 7 then some (.flat [.s 28 (.imm .bool)]) else none, frz := fun r => bif Nat.beq r 13 then [5] else [] }
theorem lo30_2 : LoopOkK Try.prog Try.f30.ntmps (lp30_2) (lb 2 Try.f30) :=
  loop_ok (xid := XID) (ro := ro30) (H := h30) mixed (tabOk30) (loops_of (L := []) (by kernel_rfl) (lnil)) (fun p s => ref1_Mul_R1 p.1 p.2.1 p.2.2 s) (fun p s => by kernel_rfl) (fun p s => rfl)
theorem lo30_0 : LoopOkK Try.prog Try.f30.ntmps (lp30_0) (lb 0 Try.f30) :=
  loop_ok (xid := XID) (ro := ro30) (H := h30) mixed (tabOk30) (loops_of (L := [(2, lb 2 Try.f30)]) (by kernel_rfl) (lcons rfl (lo30_2) (lnil))) (fun p s => ref1_Mul_R0 p.1 p.2 s) (fun p s => by kernel_rfl) (fun p s => rfl)
theorem ok30 : FnOk Try.prog 30 ⟨[.ty (.sl (.int .u32)), .ty (.sl (.int .u32))], [(.sl (.int .u32))], fun x => ref1_Mul x.1 x.2⟩ :=
  fn_ok (xid := XID) (ro := ro30) (H := h30) (fn := Try.f30) (code := bodyOf Try.f30) mixed (tabOk30) Try.func30 rfl (by kernel_rfl) (loops_of (L := [(0, lb 0 Try.f30)]) (by kernel_rfl) (lcons rfl (lo30_0) (lnil))) (fun x => by kernel_rfl)
/-! 37: pantograph/pantographref2.Of -/
noncomputable def tab37 : Tab := [(28, .d ⟨[.ty tyRat], [tyRat], fun x => ref2_Norm x⟩)]
theorem tabOk37 : TabOk Try.prog (tab37) := tabOk_cons ok28 (tabOk_nil _)
def ro37 : Nat → Bool := fun s => false
noncomputable def h37 : Hints := { loop := fun id => none, cut := fun k r => none, frz := fun r => [] }
theorem ok37 : FnOk Try.prog 37 ⟨[.ty .bool, .ty (.sl (.int .u32)), .ty (.sl (.int .u32))], [tyRat], fun x => ref2_Of x.1 x.2.1 x.2.2⟩ :=
  fn_ok (xid := XID) (ro := ro37) (H := h37) (fn := Try.f37) (code := bodyOf Try.f37) mixed (tabOk37) Try.func37 rfl (by kernel_rfl) (loops_of (L := []) (by kernel_rfl) (lnil)) (fun x => by kernel_rfl)
/-! 40: pantograph/pantographref2.Add -/
noncomputable def tab40 : Tab := [(28, .d ⟨[.ty tyRat], [tyRat], fun x => ref2_Norm x⟩), (30, .d ⟨[.ty (.sl (.int .u32)), .ty (.sl (.int .u32))], [(.sl (.int .u32))], fun x => ref1_Mul x.1 x.2⟩), (57, .d ⟨[.ty (.sl (.int .u32)), .ty (.sl (.int .u32))], [(.sl (.int .u32))], fun x => ref1_Add x.1 x.2⟩), (37, .d ⟨[.ty .bool, .ty (.sl (.int .u32)), .ty (.sl (.int .u32))], [tyRat], fun x => ref2_Of x.1 x.2.1 x.2.2⟩), (58, .d ⟨[.ty (.sl (.int .u32)), .ty (.sl (.int .u32))], [(.int .i64)], fun x => ref1_Cmp x.1 x.2⟩), (59, .d ⟨[.ty (.sl (.int .u32)), .ty (.sl (.int .u32))], [(.sl (.int .u32)), .bool], fun x => ref1_Sub x.1 x.2⟩)]
theorem tabOk40 : TabOk Try.prog (tab40) := tabOk_cons ok28 (tabOk_cons ok30 (tabOk_cons ok57 (tabOk_cons ok37 (tabOk_cons ok58 (tabOk_cons ok59 (tabOk_nil _))))))
def ro40 : Nat → Bool := fun s => Nat.beq s 2 || Nat.beq s 3
noncomputable def h40 : Hints := { loop := fun id => none, cut := fun k r => none, frz := fun r => [] }
theorem ok40 : FnOk Try.prog 40 ⟨[.ty tyRat, .ty tyRat], [tyRat], fun x => ref2_Add x.1 x.2⟩ :=
  fn_ok (xid := XID) (ro := ro40) (H := h40) (fn := Try.f40) (code := bodyOf Try.f40) mixed (tabOk40) Try.func40 rfl (by kernel_rfl) (loops_of (L := []) (by kernel_rfl) (lnil)) (fun x => by kernel_rfl)
/-! 17: pantograph/pantographref2.Sub -/
noncomputable def tab17 : Tab := [(41, .d ⟨[.ty tyRat], [tyRat], fun x => ref2_Neg x⟩), (40, .d ⟨[.ty tyRat, .ty tyRat], [tyRat], fun x => ref2_Add x.1 x.2⟩)]
theorem tabOk17 : TabOk Try.prog (tab17) := tabOk_cons ok41 (tabOk_cons ok40 (tabOk_nil _))
def ro17 : Nat → Bool := fun s => Nat.beq s 2 || Nat.beq s 3
noncomputable def h17 : Hints := { loop := fun id => none, cut := fun k r => none, frz := fun r => [] }
theorem ok17 : FnOk Try.prog 17 ⟨[.ty tyRat, .ty tyRat], [tyRat], fun x => ref2_Sub x.1 x.2⟩ :=
  fn_ok (xid := XID) (ro := ro17) (H := h17) (fn := Try.f17) (code := bodyOf Try.f17) mixed (tabOk17) Try.func17 rfl (by kernel_rfl) (loops_of (L := []) (by kernel_rfl) (lnil)) (fun x => by kernel_rfl)
/-! 6: pantograph/pantographref2.Cmp -/
noncomputable def tab6 : Tab := [(17, .d ⟨[.ty tyRat, .ty tyRat], [tyRat], fun x => ref2_Sub x.1 x.2⟩)]
theorem tabOk6 : TabOk Try.prog (tab6) := tabOk_cons ok17 (tabOk_nil _)
def ro6 : Nat → Bool := fun s => Nat.beq s 2 || Nat.beq s 3
noncomputable def h6 : Hints := { loop := fun id => none, cut := fun k r => none, frz := fun r => [] }
theorem ok6 : FnOk Try.prog 6 ⟨[.ty tyRat, .ty tyRat], [(.int .i64)], fun x => ref2_Cmp x.1 x.2⟩ :=
  fn_ok (xid := XID) (ro := ro6) (H := h6) (fn := Try.f6) (code := bodyOf Try.f6) mixed (tabOk6) Try.func6 rfl (by kernel_rfl) (loops_of (L := []) (by kernel_rfl) (lnil)) (fun x => by kernel_rfl)
/-! 64: pantograph/nat.Is -/
noncomputable def tab64 : Tab := []
theorem tabOk64 : TabOk Try.prog (tab64) := tabOk_nil _
def ro64 : Nat → Bool := fun s => false
noncomputable def h64 : Hints := { loop := fun id => none, cut := fun k r => bif Nat.beq k 0 && Nat.beq r 1 then some (.flat [.s 2 (.imm .bool)]) else none, frz := fun r => [] }
theorem ok64 : FnOk Try.prog 64 ⟨[.ty (.sl (.int .u32))], [.bool], fun x => nat_Is x⟩ :=
  fn_ok (xid := XID) (ro := ro64) (H := h64) (fn := Try.f64) (code := bodyOf Try.f64) mixed (tabOk64) Try.func64 rfl (by kernel_rfl) (loops_of (L := []) (by kernel_rfl) (lnil)) (fun x => by kernel_rfl)
/-! 46: pantograph/nat.trim -/
noncomputable def tab46 : Tab := [(64, .d ⟨[.ty (.sl (.int .u32))], [.bool], fun x => nat_Is x⟩)]
theorem tabOk46 : TabOk Try.prog (tab46) := tabOk_cons ok64 (tabOk_nil _)
def ro46 : Nat → Bool := fun s => false
noncomputable def lp46_0 : LoopD := { gh := [], ps := [], sh := ⟨[.s 0 (.imm (.sl (.int .u32)))], [], []⟩, ws := [⟨.exit 0, ⟨[.s 0 (.imm (.sl (.int .u32)))], [], []⟩⟩], F := fun p s => nat_trim_L0  s }
noncomputable def h46 : Hints := { loop := fun id => bif Nat.beq id 0 then some (lp46_0) else none, cut := fun k r => none, frz := fun r => [] }
theorem lo46_0 : LoopOkK Try.prog Try.f46.ntmps (lp46_0) (lb 0 Try.f46) :=
  loop_ok (xid := XID) (ro := ro46) (H := h46) mixed (tabOk46) (loops_of (L := []) (by kernel_rfl) (lnil)) (fun p s => nat_trim_R0  s) (fun p s => by kernel_rfl) (fun p s => rfl)
theorem ok46 : FnOk Try.prog 46 ⟨[.ty (.sl (.int .u32))], [(.sl (.int .u32))], fun x => nat_trim x⟩ :=
  fn_ok (xid := XID) (ro := ro46) (H := h46) (fn := Try.f46) (code := bodyOf Try.f46) mixed (tabOk46) Try.func46 rfl (by kernel_rfl) (loops_of (L := [(0, lb 0 Try.f46)]) (by kernel_rfl) (lcons rfl (lo46_0) (lnil))) (fun x => by kernel_rfl)
/-! 62: slices.Clone[[]uint32,uint32] -/
noncomputable def tab62 : Tab := []
theorem tabOk62 : TabOk Try.prog (tab62) := tabOk_nil _
def ro62 : Nat → Bool := fun s => false
noncomputable def h62 : Hints := { loop := fun id => none, cut := fun k r => bif Nat.beq k 0 && Nat.beq r 1 then some (.nilt) else none, frz := fun r => [] }
theorem ok62 : FnOk Try.prog 62 ⟨[.ty (.sl (.int .u32))], [(.sl (.int .u32))], fun x => slices_Clone_sl_uint32 x⟩ :=
  fn_ok (xid := XID) (ro := ro62) (H := h62) (fn := Try.f62) (code := bodyOf Try.f62) mixed (tabOk62) Try.func62 rfl (by kernel_rfl) (loops_of (L := []) (by kernel_rfl) (lnil)) (fun x => by kernel_rfl)
/-! 42: pantograph/nat.Trim -/
noncomputable def tab42 : Tab := [(46, .d ⟨[.ty (.sl (.int .u32))], [(.sl (.int .u32))], fun x => nat_trim x⟩), (62, .d ⟨[.ty (.sl (.int .u32))], [(.sl (.int .u32))], fun x => slices_Clone_sl_uint32 x⟩)]
theorem tabOk42 : TabOk Try.prog (tab42) := tabOk_cons ok46 (tabOk_cons ok62 (tabOk_nil _))
def ro42 : Nat → Bool := fun s => false
noncomputable def h42 : Hints := { loop := fun id => none, cut := fun k r => none, frz := fun r => [] }
theorem ok42 : FnOk Try.prog 42 ⟨[.ty (.sl (.int .u32))], [(.sl (.int .u32))], fun x => nat_Trim x⟩ :=
  fn_ok (xid := XID) (ro := ro42) (H := h42) (fn := Try.f42) (code := bodyOf Try.f42) mixed (tabOk42) Try.func42 rfl (by kernel_rfl) (loops_of (L := []) (by kernel_rfl) (lnil)) (fun x => by kernel_rfl)
/-! 33: pantograph/nat.Of -/
noncomputable def tab33 : Tab := [(46, .d ⟨[.ty (.sl (.int .u32))], [(.sl (.int .u32))], fun x => nat_trim x⟩)]
theorem tabOk33 : TabOk Try.prog (tab33) := tabOk_cons ok46 (tabOk_nil _)
def ro33 : Nat → Bool := fun s => false
noncomputable def h33 : Hints := { loop := fun id => none, cut := fun k r => none, frz := fun r => [] }
theorem ok33 : FnOk Try.prog 33 ⟨[.ty (.int .u64)], [(.sl (.int .u32))], fun x => nat_Of x⟩ :=
  fn_ok (xid := XID) (ro := ro33) (H := h33) (fn := Try.f33) (code := bodyOf Try.f33) mixed (tabOk33) Try.func33 rfl (by kernel_rfl) (loops_of (L := []) (by kernel_rfl) (lnil)) (fun x => by kernel_rfl)
/-! 32: pantograph/nat.Cmp -/
noncomputable def tab32 : Tab := [(46, .d ⟨[.ty (.sl (.int .u32))], [(.sl (.int .u32))], fun x => nat_trim x⟩)]
theorem tabOk32 : TabOk Try.prog (tab32) := tabOk_cons ok46 (tabOk_nil _)
def ro32 : Nat → Bool := fun s => false
noncomputable def lp32_0 : LoopD := { gh := [], ps := [.s 0 (.imm (.sl (.int .u32))), .s 1 (.imm (.sl (.int .u32)))], sh := ⟨[.s 5 (.imm (.int .i64))], [], []⟩, ws := [⟨.exit 0, ⟨[], [], []⟩⟩, ⟨.ret, ⟨[.s 4 (.imm (.int .i64))], [], []⟩⟩], F := fun p s => nat_Cmp_L0 p.1 p.2 s }
noncomputable def h32 : Hints := { loop := fun id => bif Nat.beq id 0 then some (lp32_0) else none, cut := fun k r => none, frz := fun r => [] }
theorem lo32_0 : LoopOkK Try.prog Try.f32.ntmps (lp32_0) (lb 0 Try.f32) :=
  loop_ok (xid := XID) (ro := ro32) (H := h32) mixed (tabOk32) (loops_of (L := []) (by kernel_rfl) (lnil)) (fun p s => nat_Cmp_R0 p.1 p.2 s) (fun p s => by kernel_rfl) (fun p s => rfl)
theorem ok32 : FnOk Try.prog 32 ⟨[.ty (.sl (.int .u32)), .ty (.sl (.int .u32))], [(.int .i64)], fun x => nat_Cmp x.1 x.2⟩ :=
  fn_ok (xid := XID) (ro := ro32) (H := h32) (fn := Try.f32) (code := bodyOf Try.f32) mixed (tabOk32) Try.func32 rfl (by kernel_rfl) (loops_of (L := [(0, lb 0 Try.f32)]) (by kernel_rfl) (lcons rfl (lo32_0) (lnil))) (fun x => by kernel_rfl)
/-! 65: math/bits.Div32 -/
noncomputable def tab65 : Tab := []
theorem tabOk65 : TabOk Try.prog (tab65) := tabOk_nil _
def ro65 : Nat → Bool := fun s => false
noncomputable def h65 : Hints := { loop := fun id => none, cut := fun k r => bif Nat.beq k 0 && Nat.beq r 1 then some (.flat [.s 15 (.imm .bool)]) else none, frz := fun r => [] }
theorem ok65 : FnOk Try.prog 65 ⟨[.ty (.int .u32), .ty (.int .u32), .ty (.int .u32)], [(.int .u32), (.int .u32)], fun x => math_bits_Div32 x.1 x.2.1 x.2.2⟩ :=
  fn_ok (xid := XID) (ro := ro65) (H := h65) (fn := Try.f65) (code := bodyOf Try.f65) mixed (tabOk65) Try.func65 rfl (by kernel_rfl) (loops_of (L := []) (by kernel_rfl) (lnil)) (fun x => by kernel_rfl)
/-! 47: pantograph/nat.small -/
noncomputable def tab47 : Tab := [(65, .d ⟨[.ty (.int .u32), .ty (.int .u32), .ty (.int .u32)], [(.int .u32), (.int .u32)], fun x => math_bits_Div32 x.1 x.2.1 x.2.2⟩), (46, .d ⟨[.ty (.sl (.int .u32))], [(.sl (.int .u32))], fun x => nat_trim x⟩)]
theorem tabOk47 : TabOk Try.prog (tab47) := tabOk_cons ok65 (tabOk_cons ok46 (tabOk_nil _))
def ro47 : Nat → Bool := fun s => false
noncomputable def lp47_0 : LoopD := { gh := [], ps := [.s 0 (.imm (.sl (.int .u32))), .s 1 (.imm (.int .u32))], sh := ⟨[.s 7 (.imm (.int .u32)), .s 8 (.imm (.int .i64)), .a (.int .u32)], [(6, .cur 0 (.int .u32))], [.arr (.int .u32)]⟩, ws := [⟨.exit 0, ⟨[.s 7 (.imm (.int .u32)), .a (.int .u32)], [(6, .cur 0 (.int .u32))], [.arr (.int .u32)]⟩⟩], F := fun p s => nat_small_L0 p.1 p.2 s }
noncomputable def h47 : Hints := { loop := fun id => bif Nat.beq id 0 then some (lp47_0) else none, cut := fun k r => none, frz := fun r => bif Nat.beq r 7 then [6] else [] }
theorem lo47_0 : LoopOkK Try.prog Try.f47.ntmps (lp47_0) (lb 0 Try.f47) :=
  loop_ok (xid := XID) (ro := ro47) (H := h47) mixed (tabOk47) (loops_of (L := []) (by kernel_rfl) (lnil)) (fun p s => nat_small_R0 p.1 p.2 s) (fun p s => by kernel_rfl) (fun p s => rfl)
theorem ok47 : FnOk Try.prog 47 ⟨[.ty (.sl (.int .u32)), .ty (.int .u32)], [(.sl (.int .u32)), (.int .u32)], fun x => nat_small x.1 x.2⟩ :=
  fn_ok (xid := XID) (ro := ro47) (H := h47) (fn := Try.f47) (code := bodyOf Try.f47) mixed (tabOk47) Try.func47 rfl (by kernel_rfl) (loops_of (L := [(0, lb 0 Try.f47)]) (by kernel_rfl) (lcons rfl (lo47_0) (lnil))) (fun x => by kernel_rfl)
/-! 75: math/bits.Len32 -/
noncomputable def tab75 : Tab := []
theorem tabOk75 : TabOk Try.prog (tab75) := tabOk_nil _
def ro75 : Nat → Bool := fun s => false
noncomputable def h75 : Hints := { loop := fun id => none, cut := fun k r => bif Nat.beq k 3 && Nat.beq r 1 then some (.flat [.s 0 (.imm (.int .u32)), .s 2 (.imm (.int .i64))]) else bif Nat.beq k 3 && Nat.beq r 4 then some (.flat [.s 0 (.imm (.int .u32)), .s 2 (.imm (.int .i64))]) else none, frz := fun r => [] }
theorem ok75 : FnOk Try.prog 75 ⟨[.ty (.int .u32)], [(.int .i64)], fun x => math_bits_Len32 x⟩ :=
  fn_ok (xid := XID) (ro := ro75) (H := h75) (fn := Try.f75) (code := bodyOf Try.f75) mixed (tabOk75) Try.func75 rfl (by kernel_rfl) (loops_of (L := []) (by kernel_rfl) (lnil)) (fun x => by kernel_rfl)
/-! 66: math/bits.LeadingZeros32 -/
noncomputable def tab66 : Tab := [(75, .d ⟨[.ty (.int .u32)], [(.int .i64)], fun x => math_bits_Len32 x⟩)]
theorem tabOk66 : TabOk Try.prog (tab66) := tabOk_cons ok75 (tabOk_nil _)
def ro66 : Nat → Bool := fun s => false
noncomputable def h66 : Hints := { loop := fun id => none, cut := fun k r => none, frz := fun r => [] }
theorem ok66 : FnOk Try.prog 66 ⟨[.ty (.int .u32)], [(.int .i64)], fun x => math_bits_LeadingZeros32 x⟩ :=
  fn_ok (xid := XID) (ro := ro66) (H := h66) (fn := Try.f66) (code := bodyOf Try.f66) mixed (tabOk66) Try.func66 rfl (by kernel_rfl) (loops_of (L := []) (by kernel_rfl) (lnil)) (fun x => by kernel_rfl)
/-! 63: pantograph/nat.left -/
noncomputable def tab63 : Tab := []
theorem tabOk63 : TabOk Try.prog (tab63) := tabOk_nil _
def ro63 : Nat → Bool := fun s => false
noncomputable def lp63_0 : LoopD := { gh := [], ps := [.s 1 (.imm (.int .u64)), .s 2 (.imm (.int .i64)), .s 13 (.imm (.sl (.int .u32))), .s 14 (.imm (.int .i64))], sh := ⟨[.s 15 (.imm (.int .i64)), .a (.int .u32)], [(7, .cur 0 (.int .u32))], [.arr (.int .u32)]⟩, ws := [⟨.exit 0, ⟨[.a (.int .u32)], [(7, .cur 0 (.int .u32))], [.arr (.int .u32)]⟩⟩], F := fun p s => nat_left_S_L0 p.1 p.2.1 p.2.2.1 p.2.2.2 s }
noncomputable def h63 : Hints := { loop := fun id => bif Nat.beq id 0 then some (lp63_0) else none, cut := fun k r => none, frz := fun r => [] }
theorem lo63_0 : LoopOkK Try.prog Try.f63.ntmps (lp63_0) (lb 0 Try.f63) :=
  loop_ok (xid := XID) (ro := ro63) (H := h63) mixed (tabOk63) (loops_of (L := []) (by kernel_rfl) (lnil)) (fun p s => nat_left_S_R0 p.1 p.2.1 p.2.2.1 p.2.2.2 s) (fun p s => by kernel_rfl) (fun p s => rfl)
theorem ok63 : FnSOk Try.prog 63 ⟨[.any, .any, .any], ⟨[.s 0 (.imm (.sl (.int .u32))), .s 1 (.imm (.int .u64)), .s 2 (.imm (.int .i64))], [], []⟩, [], ⟨[.a (.int .u32)], [(0, .cur 0 (.int .u32))], [.arr (.int .u32)]⟩, 1, fun x => nat_left_S x.1 x.2.1 x.2.2⟩ :=
  fns_ok (xid := XID) (ro := ro63) (H := h63) (fn := Try.f63) (code := bodyOf Try.f63) mixed (tabOk63) Try.func63 rfl (by kernel_rfl) (loops_of (L := [(0, lb 0 Try.f63)]) (by kernel_rfl) (lcons rfl (lo63_0) (lnil))) (fun x => by kernel_rfl)
/-! 67: pantograph/nat.guess -/
noncomputable def tab67 : Tab := []
theorem tabOk67 : TabOk Try.prog (tab67) := tabOk_nil _
def ro67 : Nat → Bool := fun s => false
noncomputable def lp67_0 : LoopD := { gh := [], ps := [.s 2 (.imm (.int .u32)), .s 3 (.imm (.int .u32)), .s 4 (.imm (.int .u32))], sh := ⟨[.s 12 (.imm (.int .u64)), .s 13 (.imm (.int .u64))], [], []⟩, ws := [⟨.exit 0, ⟨[.s 12 (.imm (.int .u64))], [], []⟩⟩], F := fun p s => nat_guess_L0 p.1 p.2.1 p.2.2 s }
noncomputable def h67 : Hints := { loop := fun id => bif Nat.beq id 0 then some (lp67_0) else none, cut := fun k r => bif Nat.beq k 0 && Nat.beq r 3 then some (.flat [.s 42 (.imm .bool)]) else none, frz := fun r => [] }
theorem lo67_0 : LoopOkK Try.prog Try.f67.ntmps (lp67_0) (lb 0 Try.f67) :=
  loop_ok (xid := XID) (ro := ro67) (H := h67) mixed (tabOk67) (loops_of (L := []) (by kernel_rfl) (lnil)) (fun p s => nat_guess_R0 p.1 p.2.1 p.2.2 s) (fun p s => by kernel_rfl) (fun p s => rfl)
theorem ok67 : FnOk Try.prog 67 ⟨[.ty (.int .u32), .ty (.int .u32), .ty (.int .u32), .ty (.int .u32), .ty (.int .u32)], [(.int .u64)], fun x => nat_guess x.1 x.2.1 x.2.2.1 x.2.2.2.1 x.2.2.2.2⟩ :=
  fn_ok (xid := XID) (ro := ro67) (H := h67) (fn := Try.f67) (code := bodyOf Try.f67) mixed (tabOk67) Try.func67 rfl (by kernel_rfl) (loops_of (L := [(0, lb 0 Try.f67)]) (by kernel_rfl) (lcons rfl (lo67_0) (lnil))) (fun x => by kernel_rfl)
/-! 76: math/bits.Sub32 -/
noncomputable def tab76 : Tab := []
theorem tabOk76 : TabOk Try.prog (tab76) := tabOk_nil _
def ro76 : Nat → Bool := fun s => false
noncomputable def h76 : Hints := { loop := fun id => none, cut := fun k r => none, frz := fun r => [] }
theorem ok76 : FnOk Try.prog 76 ⟨[.ty (.int .u32), .ty (.int .u32), .ty (.int .u32)], [(.int .u32), (.int .u32)], fun x => math_bits_Sub32 x.1 x.2.1 x.2.2⟩ :=
  fn_ok (xid := XID) (ro := ro76) (H := h76) (fn := Try.f76) (code := bodyOf Try.f76) mixed (tabOk76) Try.func76 rfl (by kernel_rfl) (loops_of (L := []) (by kernel_rfl) (lnil)) (fun x => by kernel_rfl)
/-! 77: math/bits.Add32 -/
noncomputable def tab77 : Tab := []
theorem tabOk77 : TabOk Try.prog (tab77) := tabOk_nil _
def ro77 : Nat → Bool := fun s => false
noncomputable def h77 : Hints := { loop := fun id => none, cut := fun k r => none, frz := fun r => [] }
theorem ok77 : FnOk Try.prog 77 ⟨[.ty (.int .u32), .ty (.int .u32), .ty (.int .u32)], [(.int .u32), (.int .u32)], fun x => math_bits_Add32 x.1 x.2.1 x.2.2⟩ :=
  fn_ok (xid := XID) (ro := ro77) (H := h77) (fn := Try.f77) (code := bodyOf Try.f77) mixed (tabOk77) Try.func77 rfl (by kernel_rfl) (loops_of (L := []) (by kernel_rfl) (lnil)) (fun x => by kernel_rfl)
/-! 68: pantograph/nat.takes -/
noncomputable def tab68 : Tab := [(76, .d ⟨[.ty (.int .u32), .ty (.int .u32), .ty (.int .u32)], [(.int .u32), (.int .u32)], fun x => math_bits_Sub32 x.1 x.2.1 x.2.2⟩), (77, .d ⟨[.ty (.int .u32), .ty (.int .u32), .ty (.int .u32)], [(.int .u32), (.int .u32)], fun x => math_bits_Add32 x.1 x.2.1 x.2.2⟩)]
theorem tabOk68 : TabOk Try.prog (tab68) := tabOk_cons ok76 (tabOk_cons ok77 (tabOk_nil _))
def ro68 : Nat → Bool := fun s => false
noncomputable def lp68_0 : LoopD := { gh := [], ps := [.s 1 (.imm (.sl (.int .u32))), .s 2 (.imm (.int .u64)), .s 14 (.imm (.sl (.int .u32))), .s 15 (.imm (.int .i64))], sh := ⟨[.s 0 (.sub 0 (.int .u32)), .s 7 (.imm (.int .u64)), .s 8 (.imm (.int .u32)), .s 16 (.imm (.int .i64)), .a (.int .u32)], [], [.arr (.int .u32)]⟩, ws := [⟨.exit 0, ⟨[.s 0 (.sub 0 (.int .u32)), .s 7 (.imm (.int .u64)), .s 8 (.imm (.int .u32)), .a (.int .u32)], [], [.arr (.int .u32)]⟩⟩], F := fun p s => nat_takes_S_L0 p.1 p.2.1 p.2.2.1 p.2.2.2 s }
noncomputable def lp68_2 : LoopD := { gh := [], ps := [.s 1 (.imm (.sl (.int .u32))), .s 62 (.imm (.sl (.int .u32))), .s 63 (.imm (.int .i64))], sh := ⟨[.s 0 (.sub 0 (.int .u32)), .s 11 (.imm (.int .u32)), .s 64 (.imm (.int .i64)), .a (.int .u32)], [], [.arr (.int .u32)]⟩, ws := [⟨.exit 2, ⟨[.s 0 (.sub 0 (.int .u32)), .s 11 (.imm (.int .u32)), .a (.int .u32)], [], [.arr (.int .u32)]⟩⟩], F := fun p s => nat_takes_S_L1 p.1 p.2.1 p.2.2 s }
noncomputable def h68 : Hints := { loop := fun id => bif Nat.beq id 0 then some (lp68_0) else bif Nat.beq id 2 then some (lp68_2) else none, cut := fun k r => none, frz := fun r => [] }
theorem lo68_0 : LoopOkK Try.prog Try.f68.ntmps (lp68_0) (lb 0 Try.f68) :=
  loop_ok (xid := XID) (ro := ro68) (H := h68) mixed (tabOk68) (loops_of (L := []) (by kernel_rfl) (lnil)) (fun p s => nat_takes_S_R0 p.1 p.2.1 p.2.2.1 p.2.2.2 s) (fun p s => by kernel_rfl) (fun p s => rfl)
theorem lo68_2 : LoopOkK Try.prog Try.f68.ntmps (lp68_2) (lb 2 Try.f68) :=
  loop_ok (xid := XID) (ro := ro68) (H := h68) mixed (tabOk68) (loops_of (L := []) (by kernel_rfl) (lnil)) (fun p s => nat_takes_S_R1 p.1 p.2.1 p.2.2 s) (fun p s => by kernel_rfl) (fun p s => rfl)
theorem ok68 : FnSOk Try.prog 68 ⟨[.sub, .any, .any], ⟨[.s 0 (.sub 0 (.int .u32)), .s 1 (.imm (.sl (.int .u32))), .s 2 (.imm (.int .u64)), .a (.int .u32)], [], [.arr (.int .u32)]⟩, [], ⟨[.s 0 (.imm .bool), .a (.int .u32)], [], [.arr (.int .u32)]⟩, 1, fun x => nat_takes_S x.1 x.2.1 x.2.2.1 x.2.2.2⟩ :=
  fns_ok (xid := XID) (ro := ro68) (H := h68) (fn := Try.f68) (code := bodyOf Try.f68) mixed (tabOk68) Try.func68 rfl (by kernel_rfl) (loops_of (L := [(0, lb 0 Try.f68), (2, lb 2 Try.f68)]) (by kernel_rfl) (lcons rfl (lo68_0) (lcons rfl (lo68_2) (lnil)))) (fun x => by kernel_rfl)
/-! 63: pantograph/nat.left -/
noncomputable def tab63_1 : Tab := []
theorem tabOk63_1 : TabOk Try.prog (tab63_1) := tabOk_nil _
def ro63_1 : Nat → Bool := fun s => false
noncomputable def lp63_1_0 : LoopD := { gh := [], ps := [.s 1 (.imm (.int .u64)), .s 2 (.imm (.int .i64)), .s 13 (.imm (.sl (.int .u32))), .s 14 (.imm (.int .i64))], sh := ⟨[.s 15 (.imm (.int .i64)), .a (.int .u32)], [(7, .cur 0 (.int .u32))], [.arr (.int .u32)]⟩, ws := [⟨.exit 0, ⟨[.a (.int .u32)], [(7, .cur 0 (.int .u32))], [.arr (.int .u32)]⟩⟩], F := fun p s => nat_left_L0 p.1 p.2.1 p.2.2.1 p.2.2.2 s }
noncomputable def h63_1 : Hints := { loop := fun id => bif Nat.beq id 0 then some (lp63_1_0) else none, cut := fun k r => none, frz := fun r => [] }
theorem lo63_1_0 : LoopOkK Try.prog Try.f63.ntmps (lp63_1_0) (lb 0 Try.f63) :=
  loop_ok (xid := XID) (ro := ro63_1) (H := h63_1) mixed (tabOk63_1) (loops_of (L := []) (by kernel_rfl) (lnil)) (fun p s => nat_left_R0 p.1 p.2.1 p.2.2.1 p.2.2.2 s) (fun p s => by kernel_rfl) (fun p s => rfl)
theorem ok63_1 : FnOk Try.prog 63 ⟨[.ty (.sl (.int .u32)), .ty (.int .u64), .ty (.int .i64)], [(.sl (.int .u32))], fun x => nat_left x.1 x.2.1 x.2.2⟩ :=
  fn_ok (xid := XID) (ro := ro63_1) (H := h63_1) (fn := Try.f63) (code := bodyOf Try.f63) mixed (tabOk63_1) Try.func63 rfl (by kernel_rfl) (loops_of (L := [(0, lb 0 Try.f63)]) (by kernel_rfl) (lcons rfl (lo63_1_0) (lnil))) (fun x => by kernel_rfl)
/-! 44: pantograph/nat.Shift -/
noncomputable def tab44 : Tab := [(46, .d ⟨[.ty (.sl (.int .u32))], [(.sl (.int .u32))], fun x => nat_trim x⟩), (63, .d ⟨[.ty (.sl (.int .u32)), .ty (.int .u64), .ty (.int .i64)], [(.sl (.int .u32))], fun x => nat_left x.1 x.2.1 x.2.2⟩)]
theorem tabOk44 : TabOk Try.prog (tab44) := tabOk_cons ok46 (tabOk_cons ok63_1 (tabOk_nil _))
def ro44 : Nat → Bool := fun s => false
noncomputable def lp44_0 : LoopD := { gh := [], ps := [.s 6 (.imm (.int .u64)), .s 38 (.imm (.sl (.int .u32))), .s 39 (.imm (.int .i64))], sh := ⟨[.s 40 (.imm (.int .i64)), .a (.int .u32)], [(7, .cur 0 (.int .u32))], [.arr (.int .u32)]⟩, ws := [⟨.exit 0, ⟨[.a (.int .u32)], [(7, .cur 0 (.int .u32))], [.arr (.int .u32)]⟩⟩], F := fun p s => nat_Shift_L0 p.1 p.2.1 p.2.2 s }
noncomputable def h44 : Hints := { loop := fun id => bif Nat.beq id 0 then some (lp44_0) else none, cut := fun k r => none, frz := fun r => bif Nat.beq r 21 then [12] else bif Nat.beq r 17 then [7] else [] }
theorem lo44_0 : LoopOkK Try.prog Try.f44.ntmps (lp44_0) (lb 0 Try.f44) :=
  loop_ok (xid := XID) (ro := ro44) (H := h44) mixed (tabOk44) (loops_of (L := []) (by kernel_rfl) (lnil)) (fun p s => nat_Shift_R0 p.1 p.2.1 p.2.2 s) (fun p s => by kernel_rfl) (fun p s => rfl)
theorem ok44 : FnOk Try.prog 44 ⟨[.ty (.sl (.int .u32)), .ty (.int .i64)], [(.sl (.int .u32))], fun x => nat_Shift x.1 x.2⟩ :=
  fn_ok (xid := XID) (ro := ro44) (H := h44) (fn := Try.f44) (code := bodyOf Try.f44) mixed (tabOk44) Try.func44 rfl (by kernel_rfl) (loops_of (L := [(0, lb 0 Try.f44)]) (by kernel_rfl) (lcons rfl (lo44_0) (lnil))) (fun x => by kernel_rfl)
/-! 48: pantograph/nat.long -/
noncomputable def tab48 : Tab := [(63, .s ⟨[.any, .any, .any], ⟨[.s 0 (.imm (.sl (.int .u32))), .s 1 (.imm (.int .u64)), .s 2 (.imm (.int .i64))], [], []⟩, [], ⟨[.a (.int .u32)], [(0, .cur 0 (.int .u32))], [.arr (.int .u32)]⟩, 1, fun x => nat_left_S x.1 x.2.1 x.2.2⟩), (68, .s ⟨[.sub, .any, .any], ⟨[.s 0 (.sub 0 (.int .u32)), .s 1 (.imm (.sl (.int .u32))), .s 2 (.imm (.int .u64)), .a (.int .u32)], [], [.arr (.int .u32)]⟩, [], ⟨[.s 0 (.imm .bool), .a (.int .u32)], [], [.arr (.int .u32)]⟩, 1, fun x => nat_takes_S x.1 x.2.1 x.2.2.1 x.2.2.2⟩), (66, .d ⟨[.ty (.int .u32)], [(.int .i64)], fun x => math_bits_LeadingZeros32 x⟩), (67, .d ⟨[.ty (.int .u32), .ty (.int .u32), .ty (.int .u32), .ty (.int .u32), .ty (.int .u32)], [(.int .u64)], fun x => nat_guess x.1 x.2.1 x.2.2.1 x.2.2.2.1 x.2.2.2.2⟩), (46, .d ⟨[.ty (.sl (.int .u32))], [(.sl (.int .u32))], fun x => nat_trim x⟩), (44, .d ⟨[.ty (.sl (.int .u32)), .ty (.int .i64)], [(.sl (.int .u32))], fun x => nat_Shift x.1 x.2⟩)]
theorem tabOk48 : TabOk Try.prog (tab48) := tabOk_consS ok63 (tabOk_consS ok68 (tabOk_cons ok66 (tabOk_cons ok67 (tabOk_cons ok46 (tabOk_cons ok44 (tabOk_nil _))))))
def ro48 : Nat → Bool := fun s => false
noncomputable def lp48_0 : LoopD := { gh := [], ps := [.s 6 (.imm (.int .u64)), .s 8 (.imm (.sl (.int .u32))), .s 9 (.imm (.int .i64))], sh := ⟨[.s 10 (.imm (.int .i64)), .a (.int .u32), .a (.int .u32)], [(4, .cur 2 (.int .u32)), (7, .cur 0 (.int .u32))], [.arr (.int .u32), .dead, .arr (.int .u32)]⟩, ws := [⟨.exit 0, ⟨[.a (.int .u32), .a (.int .u32)], [(4, .cur 2 (.int .u32)), (7, .cur 0 (.int .u32))], [.arr (.int .u32), .dead, .arr (.int .u32)]⟩⟩], F := fun p s => nat_long_L0 p.1 p.2.1 p.2.2 s }
noncomputable def h48 : Hints := { loop := fun id => bif Nat.beq id 0 then some (lp48_0) else none, cut := fun k r => bif Nat.beq k 3 && Nat.beq r 9 then some (.ways [⟨.normal, ⟨[.s 11 (.imm (.int .u64)), .a (.int .u32), .a (.int .u32)], [(4, .cur 2 (.int .u32)), (7, .cur 0 (.int .u32))], [.arr (.int .u32), .dead, .arr (.int .u32)]⟩⟩]) else none, frz := fun r => bif Nat.beq r 12 then [4, 7] else bif Nat.beq r 5 then [8] else [] }
theorem lo48_0 : LoopOkK Try.prog Try.f48.ntmps (lp48_0) (lb 0 Try.f48) :=
  loop_ok (xid := XID) (ro := ro48) (H := h48) mixed (tabOk48) (loops_of (L := []) (by kernel_rfl) (lnil)) (fun p s => nat_long_R0 p.1 p.2.1 p.2.2 s) (fun p s => by kernel_rfl) (fun p s => rfl)
theorem ok48 : FnOk Try.prog 48 ⟨[.ty (.sl (.int .u32)), .ty (.sl (.int .u32))], [(.sl (.int .u32)), (.sl (.int .u32))], fun x => nat_long x.1 x.2⟩ :=
  fn_ok (xid := XID) (ro := ro48) (H := h48) (fn := Try.f48) (code := bodyOf Try.f48) mixed (tabOk48) Try.func48 rfl (by kernel_rfl) (loops_of (L := [(0, lb 0 Try.f48)]) (by kernel_rfl) (lcons rfl (lo48_0) (lnil))) (fun x => by kernel_rfl)
/-! 23: pantograph/nat.DivMod -/
noncomputable def tab23 : Tab := [(46, .d ⟨[.ty (.sl (.int .u32))], [(.sl (.int .u32))], fun x => nat_trim x⟩), (32, .d ⟨[.ty (.sl (.int .u32)), .ty (.sl (.int .u32))], [(.int .i64)], fun x => nat_Cmp x.1 x.2⟩), (42, .d ⟨[.ty (.sl (.int .u32))], [(.sl (.int .u32))], fun x => nat_Trim x⟩), (47, .d ⟨[.ty (.sl (.int .u32)), .ty (.int .u32)], [(.sl (.int .u32)), (.int .u32)], fun x => nat_small x.1 x.2⟩), (33, .d ⟨[.ty (.int .u64)], [(.sl (.int .u32))], fun x => nat_Of x⟩), (48, .d ⟨[.ty (.sl (.int .u32)), .ty (.sl (.int .u32))], [(.sl (.int .u32)), (.sl (.int .u32))], fun x => nat_long x.1 x.2⟩)]
theorem tabOk23 : TabOk Try.prog (tab23) := tabOk_cons ok46 (tabOk_cons ok32 (tabOk_cons ok42 (tabOk_cons ok47 (tabOk_cons ok33 (tabOk_cons ok48 (tabOk_nil _))))))
def ro23 : Nat → Bool := fun s => false
noncomputable def h23 : Hints := { loop := fun id => none, cut := fun k r => none, frz := fun r => [] }
theorem ok23 : FnOk Try.prog 23 ⟨[.ty (.sl (.int .u32)), .ty (.sl (.int .u32))], [(.sl (.int .u32)), (.sl (.int .u32)), .bool], fun x => nat_DivMod x.1 x.2⟩ :=
  fn_ok (xid := XID) (ro := ro23) (H := h23) (fn := Try.f23) (code := bodyOf Try.f23) mixed (tabOk23) Try.func23 rfl (by kernel_rfl) (loops_of (L := []) (by kernel_rfl) (lnil)) (fun x => by kernel_rfl)
/-! 43: pantograph/nat.Gcd -/
noncomputable def tab43 : Tab := [(42, .d ⟨[.ty (.sl (.int .u32))], [(.sl (.int .u32))], fun x => nat_Trim x⟩), (23, .d ⟨[.ty (.sl (.int .u32)), .ty (.sl (.int .u32))], [(.sl (.int .u32)), (.sl (.int .u32)), .bool], fun x => nat_DivMod x.1 x.2⟩)]
theorem tabOk43 : TabOk Try.prog (tab43) := tabOk_cons ok42 (tabOk_cons ok23 (tabOk_nil _))
def ro43 : Nat → Bool := fun s => false
noncomputable def lp43_0 : LoopD := { gh := [], ps := [], sh := ⟨[.s 0 (.imm (.sl (.int .u32))), .s 1 (.imm (.sl (.int .u32)))], [], []⟩, ws := [⟨.exit 0, ⟨[.s 0 (.imm (.sl (.int .u32)))], [], []⟩⟩], F := fun p s => nat_Gcd_L0  s }
noncomputable def h43 : Hints := { loop := fun id => bif Nat.beq id 0 then some (lp43_0) else none, cut := fun k r => none, frz := fun r => [] }
theorem lo43_0 : LoopOkK Try.prog Try.f43.ntmps (lp43_0) (lb 0 Try.f43) :=
  loop_ok (xid := XID) (ro := ro43) (H := h43) mixed (tabOk43) (loops_of (L := []) (by kernel_rfl) (lnil)) (fun p s => nat_Gcd_R0  s) (fun p s => by kernel_rfl) (fun p s => rfl)
theorem ok43 : FnOk Try.prog 43 ⟨[.ty (.sl (.int .u32)), .ty (.sl (.int .u32))], [(.sl (.int .u32))], fun x => nat_Gcd x.1 x.2⟩ :=
  fn_ok (xid := XID) (ro := ro43) (H := h43) (fn := Try.f43) (code := bodyOf Try.f43) mixed (tabOk43) Try.func43 rfl (by kernel_rfl) (loops_of (L := [(0, lb 0 Try.f43)]) (by kernel_rfl) (lcons rfl (lo43_0) (lnil))) (fun x => by kernel_rfl)
/-! 20: pantograph/rat.Of -/
noncomputable def tab20 : Tab := [(42, .d ⟨[.ty (.sl (.int .u32))], [(.sl (.int .u32))], fun x => nat_Trim x⟩), (33, .d ⟨[.ty (.int .u64)], [(.sl (.int .u32))], fun x => nat_Of x⟩), (43, .d ⟨[.ty (.sl (.int .u32)), .ty (.sl (.int .u32))], [(.sl (.int .u32))], fun x => nat_Gcd x.1 x.2⟩), (23, .d ⟨[.ty (.sl (.int .u32)), .ty (.sl (.int .u32))], [(.sl (.int .u32)), (.sl (.int .u32)), .bool], fun x => nat_DivMod x.1 x.2⟩)]
theorem tabOk20 : TabOk Try.prog (tab20) := tabOk_cons ok42 (tabOk_cons ok33 (tabOk_cons ok43 (tabOk_cons ok23 (tabOk_nil _))))
def ro20 : Nat → Bool := fun s => false
noncomputable def h20 : Hints := { loop := fun id => none, cut := fun k r => bif Nat.beq k 0 && Nat.beq r 2 then some (.flat [.s 19 (.imm .bool)]) else none, frz := fun r => [] }
theorem ok20 : FnOk Try.prog 20 ⟨[.ty .bool, .ty (.sl (.int .u32)), .ty (.sl (.int .u32))], [tyRat], fun x => rat_Of x.1 x.2.1 x.2.2⟩ :=
  fn_ok (xid := XID) (ro := ro20) (H := h20) (fn := Try.f20) (code := bodyOf Try.f20) mixed (tabOk20) Try.func20 rfl (by kernel_rfl) (loops_of (L := []) (by kernel_rfl) (lnil)) (fun x => by kernel_rfl)
/-! 18: pantograph/rat.Norm -/
noncomputable def tab18 : Tab := [(20, .d ⟨[.ty .bool, .ty (.sl (.int .u32)), .ty (.sl (.int .u32))], [tyRat], fun x => rat_Of x.1 x.2.1 x.2.2⟩)]
theorem tabOk18 : TabOk Try.prog (tab18) := tabOk_cons ok20 (tabOk_nil _)
def ro18 : Nat → Bool := fun s => Nat.beq s 1
noncomputable def h18 : Hints := { loop := fun id => none, cut := fun k r => none, frz := fun r => [] }
theorem ok18 : FnOk Try.prog 18 ⟨[.ty tyRat], [tyRat], fun x => rat_Norm x⟩ :=
  fn_ok (xid := XID) (ro := ro18) (H := h18) (fn := Try.f18) (code := bodyOf Try.f18) mixed (tabOk18) Try.func18 rfl (by kernel_rfl) (loops_of (L := []) (by kernel_rfl) (lnil)) (fun x => by kernel_rfl)
/-! 19: pantograph/dec.held -/
noncomputable def tab19 : Tab := []
theorem tabOk19 : TabOk Try.prog (tab19) := tabOk_nil _
def ro19 : Nat → Bool := fun s => false
noncomputable def h19 : Hints := { loop := fun id => none, cut := fun k r => none, frz := fun r => [] }
theorem ok19 : FnOk Try.prog 19 ⟨[.ty (.int .i64)], [(.int .i64)], fun x => dec_held x⟩ :=
  fn_ok (xid := XID) (ro := ro19) (H := h19) (fn := Try.f19) (code := bodyOf Try.f19) mixed (tabOk19) Try.func19 rfl (by kernel_rfl) (loops_of (L := []) (by kernel_rfl) (lnil)) (fun x => by kernel_rfl)
/-! 24: pantograph/nat.Mul -/
noncomputable def tab24 : Tab := [(46, .d ⟨[.ty (.sl (.int .u32))], [(.sl (.int .u32))], fun x => nat_trim x⟩)]
theorem tabOk24 : TabOk Try.prog (tab24) := tabOk_cons ok46 (tabOk_nil _)
def ro24 : Nat → Bool := fun s => false
noncomputable def lp24_2 : LoopD := { gh := [], ps := [.s 1 (.imm (.sl (.int .u32))), .s 6 (.imm (.int .i64)), .s 7 (.imm (.int .u32)), .s 21 (.imm (.sl (.int .u32))), .s 22 (.imm (.int .i64)), .s 23 (.imm (.int .i64)), .s 28 (.imm (.sl (.int .u32))), .s 29 (.imm (.int .i64))], sh := ⟨[.s 8 (.imm (.int .u64)), .s 30 (.imm (.int .i64)), .a (.int .u32)], [(5, .cur 0 (.int .u32))], [.arr (.int .u32)]⟩, ws := [⟨.exit 2, ⟨[.s 8 (.imm (.int .u64)), .a (.int .u32)], [(5, .cur 0 (.int .u32))], [.arr (.int .u32)]⟩⟩], F := fun p s => nat_Mul_L1 p.1 p.2.1 p.2.2.1 p.2.2.2.1 p.2.2.2.2.1 p.2.2.2.2.2.1 p.2.2.2.2.2.2.1 p.2.2.2.2.2.2.2 s }
noncomputable def lp24_0 : LoopD := { gh := [], ps := [.s 1 (.imm (.sl (.int .u32))), .s 21 (.imm (.sl (.int .u32))), .s 22 (.imm (.int .i64))], sh := ⟨[.s 23 (.imm (.int .i64)), .a (.int .u32)], [(5, .cur 0 (.int .u32))], [.arr (.int .u32)]⟩, ws := [⟨.exit 0, ⟨[.a (.int .u32)], [(5, .cur 0 (.int .u32))], [.arr (.int .u32)]⟩⟩], F := fun p s => nat_Mul_L0 p.1 p.2.1 p.2.2 s }
noncomputable def h24 : Hints := { loop := fun id => bif Nat.beq id 2 then some (lp24_2) else bif Nat.beq id 0 then some (lp24_0) else none, cut := fun k r => none, frz := fun r => bif Nat.beq r 16 then [5] else [] }
theorem lo24_2 : LoopOkK Try.prog Try.f24.ntmps (lp24_2) (lb 2 Try.f24) :=
  loop_ok (xid := XID) (ro := ro24) (H := h24) mixed (tabOk24) (loops_of (L := []) (by kernel_rfl) (lnil)) (fun p s => nat_Mul_R1 p.1 p.2.1 p.2.2.1 p.2.2.2.1 p.2.2.2.2.1 p.2.2.2.2.2.1 p.2.2.2.2.2.2.1 p.2.2.2.2.2.2.2 s) (fun p s => by kernel_rfl) (fun p s => rfl)
theorem lo24_0 : LoopOkK Try.prog Try.f24.ntmps (lp24_0) (lb 0 Try.f24) :=
  loop_ok (xid := XID) (ro := ro24) (H := h24) mixed (tabOk24) (loops_of (L := [(2, lb 2 Try.f24)]) (by kernel_rfl) (lcons rfl (lo24_2) (lnil))) (fun p s => nat_Mul_R0 p.1 p.2.1 p.2.2 s) (fun p s => by kernel_rfl) (fun p s => rfl)
theorem ok24 : FnOk Try.prog 24 ⟨[.ty (.sl (.int .u32)), .ty (.sl (.int .u32))], [(.sl (.int .u32))], fun x => nat_Mul x.1 x.2⟩ :=
  fn_ok (xid := XID) (ro := ro24) (H := h24) (fn := Try.f24) (code := bodyOf Try.f24) mixed (tabOk24) Try.func24 rfl (by kernel_rfl) (loops_of (L := [(0, lb 0 Try.f24)]) (by kernel_rfl) (lcons rfl (lo24_0) (lnil))) (fun x => by kernel_rfl)
/-! 22: pantograph/dec.ten -/
noncomputable def tab22 : Tab := [(33, .d ⟨[.ty (.int .u64)], [(.sl (.int .u32))], fun x => nat_Of x⟩), (24, .d ⟨[.ty (.sl (.int .u32)), .ty (.sl (.int .u32))], [(.sl (.int .u32))], fun x => nat_Mul x.1 x.2⟩)]
theorem tabOk22 : TabOk Try.prog (tab22) := tabOk_cons ok33 (tabOk_cons ok24 (tabOk_nil _))
def ro22 : Nat → Bool := fun s => false
noncomputable def lp22_0 : LoopD := { gh := [], ps := [.s 5 (.imm (.int .i64))], sh := ⟨[.s 3 (.imm (.sl (.int .u32))), .s 6 (.imm (.int .i64))], [], []⟩, ws := [⟨.exit 0, ⟨[.s 3 (.imm (.sl (.int .u32)))], [], []⟩⟩], F := fun p s => dec_ten_L0 p s }
noncomputable def h22 : Hints := { loop := fun id => bif Nat.beq id 0 then some (lp22_0) else none, cut := fun k r => none, frz := fun r => [] }
theorem lo22_0 : LoopOkK Try.prog Try.f22.ntmps (lp22_0) (lb 0 Try.f22) :=
  loop_ok (xid := XID) (ro := ro22) (H := h22) mixed (tabOk22) (loops_of (L := []) (by kernel_rfl) (lnil)) (fun p s => dec_ten_R0 p s) (fun p s => by kernel_rfl) (fun p s => rfl)
theorem ok22 : FnOk Try.prog 22 ⟨[.ty (.int .i64)], [(.sl (.int .u32))], fun x => dec_ten x⟩ :=
  fn_ok (xid := XID) (ro := ro22) (H := h22) (fn := Try.f22) (code := bodyOf Try.f22) mixed (tabOk22) Try.func22 rfl (by kernel_rfl) (loops_of (L := [(0, lb 0 Try.f22)]) (by kernel_rfl) (lcons rfl (lo22_0) (lnil))) (fun x => by kernel_rfl)
/-! 45: pantograph/nat.Add -/
noncomputable def tab45 : Tab := [(46, .d ⟨[.ty (.sl (.int .u32))], [(.sl (.int .u32))], fun x => nat_trim x⟩)]
theorem tabOk45 : TabOk Try.prog (tab45) := tabOk_cons ok46 (tabOk_nil _)
def ro45 : Nat → Bool := fun s => false
noncomputable def lp45_0 : LoopD := { gh := [], ps := [.s 0 (.imm (.sl (.int .u32))), .s 1 (.imm (.sl (.int .u32))), .s 24 (.imm (.sl (.int .u32))), .s 25 (.imm (.int .i64))], sh := ⟨[.s 6 (.imm (.int .u64)), .s 26 (.imm (.int .i64)), .a (.int .u32)], [(5, .cur 0 (.int .u32))], [.arr (.int .u32)]⟩, ws := [⟨.exit 0, ⟨[.s 6 (.imm (.int .u64)), .a (.int .u32)], [(5, .cur 0 (.int .u32))], [.arr (.int .u32)]⟩⟩], F := fun p s => nat_Add_L0 p.1 p.2.1 p.2.2.1 p.2.2.2 s }
noncomputable def h45 : Hints := { loop := fun id => bif Nat.beq id 0 then some (lp45_0) else none, cut := fun k r => bif Nat.beq k 3 && Nat.beq r 2 then some (.flat [.s 0 (.imm (.sl (.int .u32))), .s 1 (.imm (.sl (.int .u32)))]) else bif Nat.beq k 3 && Nat.beq r 10 then some (.flat [.s 6 (.imm (.int .u64))]) else none, frz := fun r => bif Nat.beq r 16 then [5] else [] }
theorem lo45_0 : LoopOkK Try.prog Try.f45.ntmps (lp45_0) (lb 0 Try.f45) :=
  loop_ok (xid := XID) (ro := ro45) (H := h45) mixed (tabOk45) (loops_of (L := []) (by kernel_rfl) (lnil)) (fun p s => nat_Add_R0 p.1 p.2.1 p.2.2.1 p.2.2.2 s) (fun p s => by kernel_rfl) (fun p s => rfl)
theorem ok45 : FnOk Try.prog 45 ⟨[.ty (.sl (.int .u32)), .ty (.sl (.int .u32))], [(.sl (.int .u32))], fun x => nat_Add x.1 x.2⟩ :=
  fn_ok (xid := XID) (ro := ro45) (H := h45) (fn := Try.f45) (code := bodyOf Try.f45) mixed (tabOk45) Try.func45 rfl (by kernel_rfl) (loops_of (L := [(0, lb 0 Try.f45)]) (by kernel_rfl) (lcons rfl (lo45_0) (lnil))) (fun x => by kernel_rfl)
/-! 21: pantograph/dec.units -/
noncomputable def tab21 : Tab := [(22, .d ⟨[.ty (.int .i64)], [(.sl (.int .u32))], fun x => dec_ten x⟩), (24, .d ⟨[.ty (.sl (.int .u32)), .ty (.sl (.int .u32))], [(.sl (.int .u32))], fun x => nat_Mul x.1 x.2⟩), (23, .d ⟨[.ty (.sl (.int .u32)), .ty (.sl (.int .u32))], [(.sl (.int .u32)), (.sl (.int .u32)), .bool], fun x => nat_DivMod x.1 x.2⟩), (44, .d ⟨[.ty (.sl (.int .u32)), .ty (.int .i64)], [(.sl (.int .u32))], fun x => nat_Shift x.1 x.2⟩), (32, .d ⟨[.ty (.sl (.int .u32)), .ty (.sl (.int .u32))], [(.int .i64)], fun x => nat_Cmp x.1 x.2⟩), (33, .d ⟨[.ty (.int .u64)], [(.sl (.int .u32))], fun x => nat_Of x⟩), (45, .d ⟨[.ty (.sl (.int .u32)), .ty (.sl (.int .u32))], [(.sl (.int .u32))], fun x => nat_Add x.1 x.2⟩)]
theorem tabOk21 : TabOk Try.prog (tab21) := tabOk_cons ok22 (tabOk_cons ok24 (tabOk_cons ok23 (tabOk_cons ok44 (tabOk_cons ok32 (tabOk_cons ok33 (tabOk_cons ok45 (tabOk_nil _)))))))
def ro21 : Nat → Bool := fun s => Nat.beq s 2
noncomputable def h21 : Hints := { loop := fun id => none, cut := fun k r => bif Nat.beq k 0 && Nat.beq r 3 then some (.flat [.s 43 (.imm .bool)]) else none, frz := fun r => [] }
theorem ok21 : FnOk Try.prog 21 ⟨[.ty tyRat, .ty (.int .i64)], [(.sl (.int .u32))], fun x => dec_units x.1 x.2⟩ :=
  fn_ok (xid := XID) (ro := ro21) (H := h21) (fn := Try.f21) (code := bodyOf Try.f21) mixed (tabOk21) Try.func21 rfl (by kernel_rfl) (loops_of (L := []) (by kernel_rfl) (lnil)) (fun x => by kernel_rfl)
/-! 7: pantograph/dec.Round -/
noncomputable def tab7 : Tab := [(18, .d ⟨[.ty tyRat], [tyRat], fun x => rat_Norm x⟩), (19, .d ⟨[.ty (.int .i64)], [(.int .i64)], fun x => dec_held x⟩), (21, .d ⟨[.ty tyRat, .ty (.int .i64)], [(.sl (.int .u32))], fun x => dec_units x.1 x.2⟩), (22, .d ⟨[.ty (.int .i64)], [(.sl (.int .u32))], fun x => dec_ten x⟩), (20, .d ⟨[.ty .bool, .ty (.sl (.int .u32)), .ty (.sl (.int .u32))], [tyRat], fun x => rat_Of x.1 x.2.1 x.2.2⟩)]
theorem tabOk7 : TabOk Try.prog (tab7) := tabOk_cons ok18 (tabOk_cons ok19 (tabOk_cons ok21 (tabOk_cons ok22 (tabOk_cons ok20 (tabOk_nil _)))))
def ro7 : Nat → Bool := fun s => false
noncomputable def h7 : Hints := { loop := fun id => none, cut := fun k r => none, frz := fun r => [] }
theorem ok7 : FnOk Try.prog 7 ⟨[.ty tyRat, .ty (.int .i64)], [tyRat], fun x => dec_Round x.1 x.2⟩ :=
  fn_ok (xid := XID) (ro := ro7) (H := h7) (fn := Try.f7) (code := bodyOf Try.f7) mixed (tabOk7) Try.func7 rfl (by kernel_rfl) (loops_of (L := []) (by kernel_rfl) (lnil)) (fun x => by kernel_rfl)
/-! 25: pantograph/dec.sign -/
noncomputable def tab25 : Tab := []
theorem tabOk25 : TabOk Try.prog (tab25) := tabOk_nil _
def ro25 : Nat → Bool := fun s => Nat.beq s 1
noncomputable def h25 : Hints := { loop := fun id => none, cut := fun k r => none, frz := fun r => [] }
theorem ok25 : FnOk Try.prog 25 ⟨[.ty tyRat], [.str], fun x => dec_sign x⟩ :=
  fn_ok (xid := XID) (ro := ro25) (H := h25) (fn := Try.f25) (code := bodyOf Try.f25) mixed (tabOk25) Try.func25 rfl (by kernel_rfl) (loops_of (L := []) (by kernel_rfl) (lnil)) (fun x => by kernel_rfl)
/-! 50: slices.Reverse[[]byte,byte] -/
noncomputable def tab50 : Tab := []
theorem tabOk50 : TabOk Try.prog (tab50) := tabOk_nil _
def ro50 : Nat → Bool := fun s => false
noncomputable def lp50_0 : LoopD := { gh := [], ps := [], sh := ⟨[.s 0 (.sub 0 (.int .u8)), .s 2 (.imm (.int .i64)), .s 3 (.imm (.int .i64)), .a (.int .u8)], [], [.arr (.int .u8)]⟩, ws := [⟨.exit 0, ⟨[.a (.int .u8)], [], [.arr (.int .u8)]⟩⟩], F := fun p s => slices_Reverse_sl_byte_S_L0  s }
noncomputable def h50 : Hints := { loop := fun id => bif Nat.beq id 0 then some (lp50_0) else none, cut := fun k r => none, frz := fun r => [] }
theorem lo50_0 : LoopOkK Try.prog Try.f50.ntmps (lp50_0) (lb 0 Try.f50) :=
  loop_ok (xid := XID) (ro := ro50) (H := h50) mixed (tabOk50) (loops_of (L := []) (by kernel_rfl) (lnil)) (fun p s => slices_Reverse_sl_byte_S_R0  s) (fun p s => by kernel_rfl) (fun p s => rfl)
theorem ok50 : FnSOk Try.prog 50 ⟨[.sub], ⟨[.s 0 (.sub 0 (.int .u8)), .a (.int .u8)], [], [.arr (.int .u8)]⟩, [], ⟨[.a (.int .u8)], [], [.arr (.int .u8)]⟩, 0, fun x => slices_Reverse_sl_byte_S x.1 x.2⟩ :=
  fns_ok (xid := XID) (ro := ro50) (H := h50) (fn := Try.f50) (code := bodyOf Try.f50) mixed (tabOk50) Try.func50 rfl (by kernel_rfl) (loops_of (L := [(0, lb 0 Try.f50)]) (by kernel_rfl) (lcons rfl (lo50_0) (lnil))) (fun x => by kernel_rfl)
/-! 27: pantograph/nat.Print -/
noncomputable def tab27 : Tab := [(50, .s ⟨[.sub], ⟨[.s 0 (.sub 0 (.int .u8)), .a (.int .u8)], [], [.arr (.int .u8)]⟩, [], ⟨[.a (.int .u8)], [], [.arr (.int .u8)]⟩, 0, fun x => slices_Reverse_sl_byte_S x.1 x.2⟩), (42, .d ⟨[.ty (.sl (.int .u32))], [(.sl (.int .u32))], fun x => nat_Trim x⟩), (47, .d ⟨[.ty (.sl (.int .u32)), .ty (.int .u32)], [(.sl (.int .u32)), (.int .u32)], fun x => nat_small x.1 x.2⟩)]
theorem tabOk27 : TabOk Try.prog (tab27) := tabOk_consS ok50 (tabOk_cons ok42 (tabOk_cons ok47 (tabOk_nil _)))
def ro27 : Nat → Bool := fun s => false
noncomputable def lp27_2 : LoopD := { gh := [], ps := [.s 4 (.imm (.sl (.int .u32)))], sh := ⟨[.s 5 (.imm (.int .u32)), .s 19 (.imm (.int .i64)), .a (.int .u8)], [(3, .cur 0 (.int .u8))], [.arr (.int .u8)]⟩, ws := [⟨.exit 2, ⟨[.a (.int .u8)], [(3, .cur 0 (.int .u8))], [.arr (.int .u8)]⟩⟩], F := fun p s => nat_Print_L1 p s }
noncomputable def lp27_0 : LoopD := { gh := [(3, (.int .u8))], ps := [], sh := ⟨[.s 0 (.imm (.sl (.int .u32))), .a (.int .u8)], [(3, .cur 0 (.int .u8))], [.arr (.int .u8)]⟩, ws := [⟨.exit 0, ⟨[.a (.int .u8)], [(3, .cur 0 (.int .u8))], [.arr (.int .u8)]⟩⟩], F := fun p s => nat_Print_L0  s }
noncomputable def lp27_4 : LoopD := { gh := [], ps := [], sh := ⟨[.s 3 (.sub 0 (.int .u8)), .a (.int .u8)], [], [.arr (.int .u8)]⟩, ws := [⟨.exit 4, ⟨[.s 3 (.sub 0 (.int .u8)), .a (.int .u8)], [], [.arr (.int .u8)]⟩⟩], F := fun p s => nat_Print_L2  s }
noncomputable def h27 : Hints := { loop := fun id => bif Nat.beq id 2 then some (lp27_2) else bif Nat.beq id 0 then some (lp27_0) else bif Nat.beq id 4 then some (lp27_4) else none, cut := fun k r => bif Nat.beq k 0 && Nat.beq r 13 then some (.flat [.s 42 (.imm .bool)]) else none, frz := fun r => [] }
theorem lo27_2 : LoopOkK Try.prog Try.f27.ntmps (lp27_2) (lb 2 Try.f27) :=
  loop_ok (xid := XID) (ro := ro27) (H := h27) mixed (tabOk27) (loops_of (L := []) (by kernel_rfl) (lnil)) (fun p s => nat_Print_R1 p s) (fun p s => by kernel_rfl) (fun p s => rfl)
theorem lo27_0 : LoopOkK Try.prog Try.f27.ntmps (lp27_0) (lb 0 Try.f27) :=
  loop_ok (xid := XID) (ro := ro27) (H := h27) mixed (tabOk27) (loops_of (L := [(2, lb 2 Try.f27)]) (by kernel_rfl) (lcons rfl (lo27_2) (lnil))) (fun p s => nat_Print_R0  s) (fun p s => by kernel_rfl) (fun p s => rfl)
theorem lo27_4 : LoopOkK Try.prog Try.f27.ntmps (lp27_4) (lb 4 Try.f27) :=
  loop_ok (xid := XID) (ro := ro27) (H := h27) mixed (tabOk27) (loops_of (L := []) (by kernel_rfl) (lnil)) (fun p s => nat_Print_R2  s) (fun p s => by kernel_rfl) (fun p s => rfl)
theorem ok27 : FnOk Try.prog 27 ⟨[.ty (.sl (.int .u32))], [.str], fun x => nat_Print x⟩ :=
  fn_ok (xid := XID) (ro := ro27) (H := h27) (fn := Try.f27) (code := bodyOf Try.f27) mixed (tabOk27) Try.func27 rfl (by kernel_rfl) (loops_of (L := [(0, lb 0 Try.f27), (4, lb 4 Try.f27)]) (by kernel_rfl) (lcons rfl (lo27_0) (lcons rfl (lo27_4) (lnil)))) (fun x => by kernel_rfl)
/-! 49: strings.Repeat, by the shelf -/
theorem ok49 : FnOk Try.prog 49 ⟨[.ty .str, .ty i64], [.str], fun x => strings_Repeat x.1 x.2⟩ := by
  refine fn_of_calls Try.func49 (by kernel_rfl) rfl fun κ x cargs y hy hI ha => ?_
  obtain ⟨s, n⟩ := x
  obtain ⟨⟨h0, h1, h2⟩, hy⟩ := hy
  cases hy
  obtain ⟨v0, r, rfl, ha0, ha⟩ := RDs.cons_inv (show RDs κ [.imm .str s, .imm i64 n] cargs from ha)
  obtain ⟨v1, r, rfl, ha1, ha⟩ := ha.cons_inv
  rw [ha.nil_inv, ha0.str_inv, ha1.int_inv]
  obtain ⟨m, rfl⟩ := Int.eq_ofNat_of_zero_le h0
  refine (Go.Proofs.Try.strings_Repeat ⟨s.toArray⟩ m κ.w (by simp only at h1; omega) (by rw [show (ByteArray.size ⟨s.toArray⟩) = List.length s from List.size_toArray]; simpa using h2)).mono ?_
  rintro e w' ⟨rfl, hB⟩
  refine ⟨hB, fun _ => ⟨_, rfl, ?_⟩⟩
  have e1 : Lib.repeatL s m = repS s m := repS_eq s m
  have e2 : (Int.toNat (m : Int)) = m := by omega
  show RD _ (.imm .str (repS s (Int.toNat (m : Int)))) _
  rw [e2, ← e1]
  exact RD.str
/-! 26: pantograph/dec.pointed -/
noncomputable def tab26 : Tab := [(49, .d ⟨[.ty .str, .ty (.int .i64)], [.str], fun x => strings_Repeat x.1 x.2⟩)]
theorem tabOk26 : TabOk Try.prog (tab26) := tabOk_cons ok49 (tabOk_nil _)
def ro26 : Nat → Bool := fun s => false
noncomputable def h26 : Hints := { loop := fun id => none, cut := fun k r => none, frz := fun r => [] }
theorem ok26 : FnOk Try.prog 26 ⟨[.ty .str, .ty (.int .i64)], [.str], fun x => dec_pointed x.1 x.2⟩ :=
  fn_ok (xid := XID) (ro := ro26) (H := h26) (fn := Try.f26) (code := bodyOf Try.f26) mixed (tabOk26) Try.func26 rfl (by kernel_rfl) (loops_of (L := []) (by kernel_rfl) (lnil)) (fun x => by kernel_rfl)
/-! 15: pantograph/dec.Fixed -/
noncomputable def tab15 : Tab := [(18, .d ⟨[.ty tyRat], [tyRat], fun x => rat_Norm x⟩), (19, .d ⟨[.ty (.int .i64)], [(.int .i64)], fun x => dec_held x⟩), (7, .d ⟨[.ty tyRat, .ty (.int .i64)], [tyRat], fun x => dec_Round x.1 x.2⟩), (25, .d ⟨[.ty tyRat], [.str], fun x => dec_sign x⟩), (21, .d ⟨[.ty tyRat, .ty (.int .i64)], [(.sl (.int .u32))], fun x => dec_units x.1 x.2⟩), (27, .d ⟨[.ty (.sl (.int .u32))], [.str], fun x => nat_Print x⟩), (26, .d ⟨[.ty .str, .ty (.int .i64)], [.str], fun x => dec_pointed x.1 x.2⟩)]
theorem tabOk15 : TabOk Try.prog (tab15) := tabOk_cons ok18 (tabOk_cons ok19 (tabOk_cons ok7 (tabOk_cons ok25 (tabOk_cons ok21 (tabOk_cons ok27 (tabOk_cons ok26 (tabOk_nil _)))))))
def ro15 : Nat → Bool := fun s => false
noncomputable def h15 : Hints := { loop := fun id => none, cut := fun k r => none, frz := fun r => [] }
theorem ok15 : FnOk Try.prog 15 ⟨[.ty tyRat, .ty (.int .i64)], [.str], fun x => dec_Fixed x.1 x.2⟩ :=
  fn_ok (xid := XID) (ro := ro15) (H := h15) (fn := Try.f15) (code := bodyOf Try.f15) mixed (tabOk15) Try.func15 rfl (by kernel_rfl) (loops_of (L := []) (by kernel_rfl) (lnil)) (fun x => by kernel_rfl)
/-! 8: pantograph/pantographlaw3.known -/
noncomputable def tab8 : Tab := [(15, .d ⟨[.ty tyRat, .ty (.int .i64)], [.str], fun x => dec_Fixed x.1 x.2⟩)]
theorem tabOk8 : TabOk Try.prog (tab8) := tabOk_cons ok15 (tabOk_nil _)
def ro8 : Nat → Bool := fun s => false
noncomputable def h8 : Hints := { loop := fun id => none, cut := fun k r => none, frz := fun r => [] }
theorem ok8 : FnOk Try.prog 8 ⟨[], [.bool], fun _ => law3_known⟩ :=
  fn_ok (xid := XID) (ro := ro8) (H := h8) (fn := Try.f8) (code := bodyOf Try.f8) mixed (tabOk8) Try.func8 rfl (by kernel_rfl) (loops_of (L := []) (by kernel_rfl) (lnil)) (fun x => by kernel_rfl)
/-! 3: pantograph/pantographlaw3.DecOrder -/
noncomputable def tab3 : Tab := [(5, .d ⟨[.ty (.sl tyRat)], [.bool], fun x => law3_big x⟩), (6, .d ⟨[.ty tyRat, .ty tyRat], [(.int .i64)], fun x => ref2_Cmp x.1 x.2⟩), (7, .d ⟨[.ty tyRat, .ty (.int .i64)], [tyRat], fun x => dec_Round x.1 x.2⟩), (8, .d ⟨[], [.bool], fun _ => law3_known⟩)]
theorem tabOk3 : TabOk Try.prog (tab3) := tabOk_cons ok5 (tabOk_cons ok6 (tabOk_cons ok7 (tabOk_cons ok8 (tabOk_nil _))))
def ro3 : Nat → Bool := fun s => Nat.beq s 3 || Nat.beq s 4
noncomputable def h3 : Hints := { loop := fun id => none, cut := fun k r => bif Nat.beq k 0 && Nat.beq r 1 then some (.ways [⟨.normal, ⟨[.s 38 (.imm .bool)], [], []⟩⟩]) else none, frz := fun r => [] }
theorem ok3 : FnOk Try.prog 3 ⟨[.ty tyRat, .ty tyRat, .ty (.int .i64)], [.bool], fun x => law3_DecOrder x.1 x.2.1 x.2.2⟩ :=
  fn_ok (xid := XID) (ro := ro3) (H := h3) (fn := Try.f3) (code := bodyOf Try.f3) mixed (tabOk3) Try.func3 rfl (by kernel_rfl) (loops_of (L := []) (by kernel_rfl) (lnil)) (fun x => by kernel_rfl)
end Go.AM.Lf
