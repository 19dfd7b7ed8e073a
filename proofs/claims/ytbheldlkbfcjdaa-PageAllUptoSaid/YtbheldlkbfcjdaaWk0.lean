/-
  The walk, part 0: each function of the program is the tree that the lifted text says; printed by a program of ours.
-/
import Derived.Test.YtbheldlkbfcjdaaProg
import Derived.KernelRfl
import Derived.Test.YtbheldlkbfcjdaaAmD
import Derived.Test.YtbheldlkbfcjdaaLf0
set_option linter.unusedVariables false
set_option maxRecDepth 100000
namespace Go.AM.Lf
open Go.Proofs
abbrev XID : Nat := 83
noncomputable def bodyOf (f : Func) : Code := match f.body with | some c => c | none => .skip
noncomputable def lb (k : Nat) (f : Func) : Code := match loopAt k (bodyOf f) with | some c => c | none => .skip
theorem mixed : Try.prog.follows .mixedOrders = true := by kernel_rfl
/-! 6: pantograph/pantographlaw18.long -/
noncomputable def tab6 : Tab := []
theorem tabOk6 : TabOk Try.prog (tab6) := tabOk_nil _
def ro6 : Nat → Bool := fun s => Nat.beq s 1
noncomputable def lp6_0 : LoopD := { gh := [], ps := [.s 1 (.rptr tyForm)], sh := ⟨[.s 3 (.imm (.int .i64)), .s 4 (.imm (.int .i64))], [], []⟩, ws := [⟨.exit 0, ⟨[.s 3 (.imm (.int .i64))], [], []⟩⟩], F := fun p s => law18_long_L0 p s }
noncomputable def lp6_2 : LoopD := { gh := [], ps := [.s 1 (.rptr tyForm)], sh := ⟨[.s 3 (.imm (.int .i64)), .s 5 (.imm (.int .i64))], [], []⟩, ws := [⟨.exit 2, ⟨[.s 3 (.imm (.int .i64))], [], []⟩⟩], F := fun p s => law18_long_L1 p s }
noncomputable def h6 : Hints := { loop := fun id => bif Nat.beq id 0 then some (lp6_0) else bif Nat.beq id 2 then some (lp6_2) else none, cut := fun k r => none }
theorem lo6_0 : LoopOkK Try.prog Try.f6.ntmps (lp6_0) (lb 0 Try.f6) :=
  loop_ok (xid := XID) (ro := ro6) (H := h6) mixed (tabOk6) (loops_of (L := []) (by kernel_rfl) (lnil)) (fun p s => law18_long_R0 p s) (fun p s => by kernel_rfl) (fun p s => rfl)
theorem lo6_2 : LoopOkK Try.prog Try.f6.ntmps (lp6_2) (lb 2 Try.f6) :=
  loop_ok (xid := XID) (ro := ro6) (H := h6) mixed (tabOk6) (loops_of (L := []) (by kernel_rfl) (lnil)) (fun p s => law18_long_R1 p s) (fun p s => by kernel_rfl) (fun p s => rfl)
theorem ok6 : FnOk Try.prog 6 ⟨[.ty tyForm], [.bool], fun x => law18_long x⟩ :=
  fn_ok (xid := XID) (ro := ro6) (H := h6) (fn := Try.f6) (code := bodyOf Try.f6) mixed (tabOk6) Try.func6 rfl (by kernel_rfl) (loops_of (L := [(0, lb 0 Try.f6), (2, lb 2 Try.f6)]) (by kernel_rfl) (lcons rfl (lo6_0) (lcons rfl (lo6_2) (lnil)))) (fun x => by kernel_rfl)
/-! 19: pantograph/page.Relevant$1 -/
noncomputable def tab19 : Tab := []
theorem tabOk19 : TabOk Try.prog (tab19) := tabOk_nil _
def ro19 : Nat → Bool := fun s => Nat.beq s 2
noncomputable def h19 : Hints := { loop := fun id => none, cut := fun k r => none }
theorem ok19 : FnOk Try.prog 19 ⟨[.ty tySwitch, .rp tyPage], [.bool], fun x => page_Relevant_f1 x.1 x.2⟩ :=
  fn_ok (xid := XID) (ro := ro19) (H := h19) (fn := Try.f19) (code := bodyOf Try.f19) mixed (tabOk19) Try.func19 rfl (by kernel_rfl) (loops_of (L := []) (by kernel_rfl) (lnil)) (fun x => by kernel_rfl)
/-! 18: slices.IndexFunc[[]pantograph/api.Switch,pantograph/api.Switch] -/
noncomputable def tab18 : Tab := [(19, ⟨[.ty tySwitch, .rp tyPage], [.bool], fun x => page_Relevant_f1 x.1 x.2⟩)]
theorem tabOk18 : TabOk Try.prog (tab18) := tabOk_cons ok19 (tabOk_nil _)
def ro18 : Nat → Bool := fun s => false
noncomputable def lp18_0 : LoopD := { gh := [], ps := [.s 0 (.imm (.sl tySwitch)), .s 1 (.clo 19 [.rp tyPage]), .s 7 (.imm (.int .i64))], sh := ⟨[.s 8 (.imm (.int .i64))], [], []⟩, ws := [⟨.exit 0, ⟨[], [], []⟩⟩, ⟨.ret, ⟨[.s 4 (.imm (.int .i64))], [], []⟩⟩], F := fun p s => slices_IndexFunc_sl_Switch_L0 p.1 (fun z0 => page_Relevant_f1 z0 p.2.1) p.2.2 s }
noncomputable def h18 : Hints := { loop := fun id => bif Nat.beq id 0 then some (lp18_0) else none, cut := fun k r => none }
theorem lo18_0 : LoopOkK Try.prog Try.f18.ntmps (lp18_0) (lb 0 Try.f18) :=
  loop_ok (xid := XID) (ro := ro18) (H := h18) mixed (tabOk18) (loops_of (L := []) (by kernel_rfl) (lnil)) (fun p s => slices_IndexFunc_sl_Switch_R0 p.1 (fun z0 => page_Relevant_f1 z0 p.2.1) p.2.2 s) (fun p s => by kernel_rfl) (fun p s => rfl)
theorem ok18 : FnOk Try.prog 18 ⟨[.ty (.sl tySwitch), .clo 19 [.rp tyPage]], [(.int .i64)], fun x => slices_IndexFunc_sl_Switch x.1 (fun z0 => page_Relevant_f1 z0 x.2)⟩ :=
  fn_ok (xid := XID) (ro := ro18) (H := h18) (fn := Try.f18) (code := bodyOf Try.f18) mixed (tabOk18) Try.func18 rfl (by kernel_rfl) (loops_of (L := [(0, lb 0 Try.f18)]) (by kernel_rfl) (lcons rfl (lo18_0) (lnil))) (fun x => by kernel_rfl)
/-! 7: pantograph/page.Relevant -/
noncomputable def tab7 : Tab := [(19, ⟨[.ty tySwitch, .rp tyPage], [.bool], fun x => page_Relevant_f1 x.1 x.2⟩), (18, ⟨[.ty (.sl tySwitch), .clo 19 [.rp tyPage]], [(.int .i64)], fun x => slices_IndexFunc_sl_Switch x.1 (fun z0 => page_Relevant_f1 z0 x.2)⟩)]
theorem tabOk7 : TabOk Try.prog (tab7) := tabOk_cons ok19 (tabOk_cons ok18 (tabOk_nil _))
def ro7 : Nat → Bool := fun s => Nat.beq s 2
noncomputable def lp7_0 : LoopD := { gh := [(5, .bool)], ps := [.s 1 (.imm (.sl .bool)), .s 2 (.rptr tyForm), .s 10 (.imm (.sl tyPage)), .s 11 (.imm (.int .i64))], sh := ⟨[.s 12 (.imm (.int .i64)), .a .bool], [(5, .cur 0 .bool)], [.arr .bool]⟩, ws := [⟨.exit 0, ⟨[.a .bool], [(5, .cur 0 .bool)], [.arr .bool]⟩⟩], F := fun p s => page_Relevant_L0 p.1 p.2.1 p.2.2.1 p.2.2.2 s }
noncomputable def h7 : Hints := { loop := fun id => bif Nat.beq id 0 then some (lp7_0) else none, cut := fun k r => none }
theorem lo7_0 : LoopOkK Try.prog Try.f7.ntmps (lp7_0) (lb 0 Try.f7) :=
  loop_ok (xid := XID) (ro := ro7) (H := h7) mixed (tabOk7) (loops_of (L := []) (by kernel_rfl) (lnil)) (fun p s => page_Relevant_R0 p.1 p.2.1 p.2.2.1 p.2.2.2 s) (fun p s => by kernel_rfl) (fun p s => rfl)
theorem ok7 : FnOk Try.prog 7 ⟨[.ty tyForm, .ty (.sl .bool)], [(.sl .bool)], fun x => page_Relevant x.1 x.2⟩ :=
  fn_ok (xid := XID) (ro := ro7) (H := h7) (fn := Try.f7) (code := bodyOf Try.f7) mixed (tabOk7) Try.func7 rfl (by kernel_rfl) (loops_of (L := [(0, lb 0 Try.f7)]) (by kernel_rfl) (lcons rfl (lo7_0) (lnil))) (fun x => by kernel_rfl)
/-! 8: pantograph/page.Next -/
noncomputable def tab8 : Tab := [(7, ⟨[.ty tyForm, .ty (.sl .bool)], [(.sl .bool)], fun x => page_Relevant x.1 x.2⟩)]
theorem tabOk8 : TabOk Try.prog (tab8) := tabOk_cons ok7 (tabOk_nil _)
def ro8 : Nat → Bool := fun s => Nat.beq s 3
noncomputable def lp8_0 : LoopD := { gh := [], ps := [.s 2 (.imm (.int .i64)), .s 12 (.imm (.sl .bool)), .s 13 (.imm (.int .i64))], sh := ⟨[.s 14 (.imm (.int .i64))], [], []⟩, ws := [⟨.exit 0, ⟨[], [], []⟩⟩, ⟨.ret, ⟨[.s 6 (.imm (.int .i64)), .s 7 (.imm .bool)], [], []⟩⟩], F := fun p s => page_Next_L0 p.1 p.2.1 p.2.2 s }
noncomputable def h8 : Hints := { loop := fun id => bif Nat.beq id 0 then some (lp8_0) else none, cut := fun k r => bif Nat.beq k 0 && Nat.beq r 4 then some (.flat [.s 24 (.imm .bool)]) else none }
theorem lo8_0 : LoopOkK Try.prog Try.f8.ntmps (lp8_0) (lb 0 Try.f8) :=
  loop_ok (xid := XID) (ro := ro8) (H := h8) mixed (tabOk8) (loops_of (L := []) (by kernel_rfl) (lnil)) (fun p s => page_Next_R0 p.1 p.2.1 p.2.2 s) (fun p s => by kernel_rfl) (fun p s => rfl)
theorem ok8 : FnOk Try.prog 8 ⟨[.ty tyForm, .ty (.sl .bool), .ty (.int .i64)], [(.int .i64), .bool], fun x => page_Next x.1 x.2.1 x.2.2⟩ :=
  fn_ok (xid := XID) (ro := ro8) (H := h8) (fn := Try.f8) (code := bodyOf Try.f8) mixed (tabOk8) Try.func8 rfl (by kernel_rfl) (loops_of (L := [(0, lb 0 Try.f8)]) (by kernel_rfl) (lcons rfl (lo8_0) (lnil))) (fun x => by kernel_rfl)
/-! 9: pantograph/pantographlaw18.known -/
noncomputable def tab9 : Tab := [(8, ⟨[.ty tyForm, .ty (.sl .bool), .ty (.int .i64)], [(.int .i64), .bool], fun x => page_Next x.1 x.2.1 x.2.2⟩)]
theorem tabOk9 : TabOk Try.prog (tab9) := tabOk_cons ok8 (tabOk_nil _)
def ro9 : Nat → Bool := fun s => false
noncomputable def h9 : Hints := { loop := fun id => none, cut := fun k r => bif Nat.beq k 0 && Nat.beq r 4 then some (.flat [.s 0 (.imm .bool)]) else none }
theorem ok9 : FnOk Try.prog 9 ⟨[], [.bool], fun _ => law18_known⟩ :=
  fn_ok (xid := XID) (ro := ro9) (H := h9) (fn := Try.f9) (code := bodyOf Try.f9) mixed (tabOk9) Try.func9 rfl (by kernel_rfl) (loops_of (L := []) (by kernel_rfl) (lnil)) (fun x => by kernel_rfl)
/-! 3: pantograph/pantographlaw18.PageAll -/
noncomputable def tab3 : Tab := [(6, ⟨[.ty tyForm], [.bool], fun x => law18_long x⟩), (7, ⟨[.ty tyForm, .ty (.sl .bool)], [(.sl .bool)], fun x => page_Relevant x.1 x.2⟩), (8, ⟨[.ty tyForm, .ty (.sl .bool), .ty (.int .i64)], [(.int .i64), .bool], fun x => page_Next x.1 x.2.1 x.2.2⟩), (9, ⟨[], [.bool], fun _ => law18_known⟩)]
theorem tabOk3 : TabOk Try.prog (tab3) := tabOk_cons ok6 (tabOk_cons ok7 (tabOk_cons ok8 (tabOk_cons ok9 (tabOk_nil _))))
def ro3 : Nat → Bool := fun s => Nat.beq s 2
noncomputable def lp3_0 : LoopD := { gh := [], ps := [.s 1 (.imm (.sl .bool)), .s 2 (.rptr tyForm), .s 5 (.imm (.sl .bool)), .s 7 (.imm (.int .i64))], sh := ⟨[.s 6 (.imm (.int .i64)), .s 8 (.imm (.int .i64))], [], []⟩, ws := [⟨.exit 0, ⟨[.s 6 (.imm (.int .i64))], [], []⟩⟩], F := fun p s => law18_PageAll_L0 p.1 p.2.1 p.2.2.1 p.2.2.2 s }
noncomputable def lp3_2 : LoopD := { gh := [], ps := [.s 1 (.imm (.sl .bool)), .s 2 (.rptr tyForm), .s 5 (.imm (.sl .bool)), .s 6 (.imm (.int .i64))], sh := ⟨[.s 7 (.imm (.int .i64)), .s 9 (.imm (.int .i64))], [], []⟩, ws := [⟨.exit 2, ⟨[.s 7 (.imm (.int .i64))], [], []⟩⟩, ⟨.ret, ⟨[.s 4 (.imm .bool)], [], []⟩⟩], F := fun p s => law18_PageAll_L1 p.1 p.2.1 p.2.2.1 p.2.2.2 s }
noncomputable def h3 : Hints := { loop := fun id => bif Nat.beq id 0 then some (lp3_0) else bif Nat.beq id 2 then some (lp3_2) else none, cut := fun k r => bif Nat.beq k 0 && Nat.beq r 1 then some (.ways [⟨.normal, ⟨[.s 18 (.imm .bool)], [], []⟩⟩]) else bif Nat.beq k 0 && Nat.beq r 14 then some (.flat [.s 62 (.imm .bool)]) else none }
theorem lo3_0 : LoopOkK Try.prog Try.f3.ntmps (lp3_0) (lb 0 Try.f3) :=
  loop_ok (xid := XID) (ro := ro3) (H := h3) mixed (tabOk3) (loops_of (L := []) (by kernel_rfl) (lnil)) (fun p s => law18_PageAll_R0 p.1 p.2.1 p.2.2.1 p.2.2.2 s) (fun p s => by kernel_rfl) (fun p s => rfl)
theorem lo3_2 : LoopOkK Try.prog Try.f3.ntmps (lp3_2) (lb 2 Try.f3) :=
  loop_ok (xid := XID) (ro := ro3) (H := h3) mixed (tabOk3) (loops_of (L := []) (by kernel_rfl) (lnil)) (fun p s => law18_PageAll_R1 p.1 p.2.1 p.2.2.1 p.2.2.2 s) (fun p s => by kernel_rfl) (fun p s => rfl)
theorem ok3 : FnOk Try.prog 3 ⟨[.ty tyForm, .ty (.sl .bool)], [.bool], fun x => law18_PageAll x.1 x.2⟩ :=
  fn_ok (xid := XID) (ro := ro3) (H := h3) (fn := Try.f3) (code := bodyOf Try.f3) mixed (tabOk3) Try.func3 rfl (by kernel_rfl) (loops_of (L := [(0, lb 0 Try.f3), (2, lb 2 Try.f3)]) (by kernel_rfl) (lcons rfl (lo3_0) (lcons rfl (lo3_2) (lnil)))) (fun x => by kernel_rfl)
end Go.AM.Lf
