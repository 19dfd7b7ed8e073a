/-
  The walk, part 0: each function of the program is the tree that the lifted text says; printed by a program of ours.
-/
import Derived.Test.YtbheldlkbfcjdaaProg
import Derived.KernelRfl
import Derived.Test.YtbheldlkbfcjdaaAmD
import Derived.Test.YtbheldlkbfcjdaaLf0
import Derived.RangeFuncBox
import Derived.RangeFuncLeaves
import Derived.RangeFuncNested
import Derived.Shelf.Abstract
import Derived.WalkKit
import Derived.OwnWalkIn
import Derived.TacticsInMore
import Derived.LoopNIn
import Derived.LoopIn
set_option linter.unusedVariables false
set_option maxRecDepth 100000
namespace Go.AM.Lf
open Go.Proofs
abbrev XID : Nat := 83
noncomputable def bodyOf (f : Func) : Code := match f.body with | some c => c | none => .skip
noncomputable def lb (k : Nat) (f : Func) : Code := match loopAt k (bodyOf f) with | some c => c | none => .skip
theorem mixed : Try.prog.follows .mixedOrders = true := by kernel_rfl
/-! 6: pantograph/pantographlaw18.long -/
noncomputable def tab6 : Tab := []
theorem tabOk6 : TabOk Try.prog (tab6) := tabOk_nil _
def ro6 : Nat → Bool := fun s => Nat.beq s 1
noncomputable def lp6_0 : LoopD := { gh := [], ps := [.s 1 (.rptr tyForm)], sh := ⟨[.s 3 (.imm (.int .i64)), .s 4 (.imm (.int .i64))], [], []⟩, ws := [⟨.exit 0, ⟨[.s 3 (.imm (.int .i64))], [], []⟩⟩], F := fun p s => law18_long_L0 p s }
noncomputable def lp6_2 : LoopD := { gh := [], ps := [.s 1 (.rptr tyForm)], sh := ⟨[.s 3 (.imm (.int .i64)), .s 5 (.imm (.int .i64))], [], []⟩, ws := [⟨.exit 2, ⟨[.s 3 (.imm (.int .i64))], [], []⟩⟩], F := fun p s => law18_long_L1 p s }
noncomputable def h6 : Hints := { loop := fun id => bif Nat.beq id 0 then some (lp6_0) else bif Nat.beq id 2 then some (lp6_2) else none, cut := fun k r => none, frz := fun r => [] }
theorem lo6_0 : LoopOkK Try.prog Try.f6.ntmps (lp6_0) (lb 0 Try.f6) :=
  loop_ok (xid := XID) (ro := ro6) (H := h6) mixed (tabOk6) (loops_of (L := []) (by kernel_rfl) (lnil)) (fun p s => law18_long_R0 p s) (fun p s => by kernel_rfl) (fun p s => rfl)
theorem lo6_2 : LoopOkK Try.prog Try.f6.ntmps (lp6_2) (lb 2 Try.f6) :=
  loop_ok (xid := XID) (ro := ro6) (H := h6) mixed (tabOk6) (loops_of (L := []) (by kernel_rfl) (lnil)) (fun p s => law18_long_R1 p s) (fun p s => by kernel_rfl) (fun p s => rfl)
theorem ok6 : FnOk Try.prog 6 ⟨[.ty tyForm], [.bool], fun x => law18_long x⟩ :=
  fn_ok (xid := XID) (ro := ro6) (H := h6) (fn := Try.f6) (code := bodyOf Try.f6) mixed (tabOk6) Try.func6 rfl (by kernel_rfl) (loops_of (L := [(0, lb 0 Try.f6), (2, lb 2 Try.f6)]) (by kernel_rfl) (lcons rfl (lo6_0) (lcons rfl (lo6_2) (lnil)))) (fun x => by kernel_rfl)
/-! 19: pantograph/page.Relevant$1 -/
noncomputable def tab19 : Tab := []
theorem tabOk19 : TabOk Try.prog (tab19) := tabOk_nil _
def ro19 : Nat → Bool := fun s => Nat.beq s 2
noncomputable def h19 : Hints := { loop := fun id => none, cut := fun k r => none, frz := fun r => [] }
theorem ok19 : FnOk Try.prog 19 ⟨[.ty tySwitch, .rp tyPage], [.bool], fun x => page_Relevant_f1 x.1 x.2⟩ :=
  fn_ok (xid := XID) (ro := ro19) (H := h19) (fn := Try.f19) (code := bodyOf Try.f19) mixed (tabOk19) Try.func19 rfl (by kernel_rfl) (loops_of (L := []) (by kernel_rfl) (lnil)) (fun x => by kernel_rfl)
/-! 18: slices.IndexFunc[[]pantograph/api.Switch,pantograph/api.Switch] -/
noncomputable def tab18 : Tab := [(19, ⟨[.ty tySwitch, .rp tyPage], [.bool], fun x => page_Relevant_f1 x.1 x.2⟩)]
theorem tabOk18 : TabOk Try.prog (tab18) := tabOk_cons ok19 (tabOk_nil _)
def ro18 : Nat → Bool := fun s => false
noncomputable def lp18_0 : LoopD := { gh := [], ps := [.s 0 (.imm (.sl tySwitch)), .s 1 (.clo 19 [.rp tyPage]), .s 7 (.imm (.int .i64))], sh := ⟨[.s 8 (.imm (.int .i64))], [], []⟩, ws := [⟨.exit 0, ⟨[], [], []⟩⟩, ⟨.ret, ⟨[.s 4 (.imm (.int .i64))], [], []⟩⟩], F := fun p s => slices_IndexFunc_sl_Switch_L0 p.1 (fun z0 => page_Relevant_f1 z0 p.2.1) p.2.2 s }
noncomputable def h18 : Hints := { loop := fun id => bif Nat.beq id 0 then some (lp18_0) else none, cut := fun k r => none, frz := fun r => [] }
theorem lo18_0 : LoopOkK Try.prog Try.f18.ntmps (lp18_0) (lb 0 Try.f18) :=
  loop_ok (xid := XID) (ro := ro18) (H := h18) mixed (tabOk18) (loops_of (L := []) (by kernel_rfl) (lnil)) (fun p s => slices_IndexFunc_sl_Switch_R0 p.1 (fun z0 => page_Relevant_f1 z0 p.2.1) p.2.2 s) (fun p s => by kernel_rfl) (fun p s => rfl)
theorem ok18 : FnOk Try.prog 18 ⟨[.ty (.sl tySwitch), .clo 19 [.rp tyPage]], [(.int .i64)], fun x => slices_IndexFunc_sl_Switch x.1 (fun z0 => page_Relevant_f1 z0 x.2)⟩ :=
  fn_ok (xid := XID) (ro := ro18) (H := h18) (fn := Try.f18) (code := bodyOf Try.f18) mixed (tabOk18) Try.func18 rfl (by kernel_rfl) (loops_of (L := [(0, lb 0 Try.f18)]) (by kernel_rfl) (lcons rfl (lo18_0) (lnil))) (fun x => by kernel_rfl)
/-! 7: pantograph/page.Relevant -/
noncomputable def tab7 : Tab := [(19, ⟨[.ty tySwitch, .rp tyPage], [.bool], fun x => page_Relevant_f1 x.1 x.2⟩), (18, ⟨[.ty (.sl tySwitch), .clo 19 [.rp tyPage]], [(.int .i64)], fun x => slices_IndexFunc_sl_Switch x.1 (fun z0 => page_Relevant_f1 z0 x.2)⟩)]
theorem tabOk7 : TabOk Try.prog (tab7) := tabOk_cons ok19 (tabOk_cons ok18 (tabOk_nil _))
def ro7 : Nat → Bool := fun s => Nat.beq s 2
noncomputable def lp7_0 : LoopD := { gh := [(5, .bool)], ps := [.s 1 (.imm (.sl .bool)), .s 2 (.rptr tyForm), .s 10 (.imm (.sl tyPage)), .s 11 (.imm (.int .i64))], sh := ⟨[.s 12 (.imm (.int .i64)), .a .bool], [(5, .cur 0 .bool)], [.arr .bool]⟩, ws := [⟨.exit 0, ⟨[.a .bool], [(5, .cur 0 .bool)], [.arr .bool]⟩⟩], F := fun p s => page_Relevant_L0 p.1 p.2.1 p.2.2.1 p.2.2.2 s }
noncomputable def h7 : Hints := { loop := fun id => bif Nat.beq id 0 then some (lp7_0) else none, cut := fun k r => none, frz := fun r => [] }
theorem lo7_0 : LoopOkK Try.prog Try.f7.ntmps (lp7_0) (lb 0 Try.f7) :=
  loop_ok (xid := XID) (ro := ro7) (H := h7) mixed (tabOk7) (loops_of (L := []) (by kernel_rfl) (lnil)) (fun p s => page_Relevant_R0 p.1 p.2.1 p.2.2.1 p.2.2.2 s) (fun p s => by kernel_rfl) (fun p s => rfl)
theorem ok7 : FnOk Try.prog 7 ⟨[.ty tyForm, .ty (.sl .bool)], [(.sl .bool)], fun x => page_Relevant x.1 x.2⟩ :=
  fn_ok (xid := XID) (ro := ro7) (H := h7) (fn := Try.f7) (code := bodyOf Try.f7) mixed (tabOk7) Try.func7 rfl (by kernel_rfl) (loops_of (L := [(0, lb 0 Try.f7)]) (by kernel_rfl) (lcons rfl (lo7_0) (lnil))) (fun x => by kernel_rfl)
/-! 8: pantograph/page.Next -/
noncomputable def tab8 : Tab := [(7, ⟨[.ty tyForm, .ty (.sl .bool)], [(.sl .bool)], fun x => page_Relevant x.1 x.2⟩)]
theorem tabOk8 : TabOk Try.prog (tab8) := tabOk_cons ok7 (tabOk_nil _)
def ro8 : Nat → Bool := fun s => Nat.beq s 3
noncomputable def lp8_0 : LoopD := { gh := [], ps := [.s 2 (.imm (.int .i64)), .s 12 (.imm (.sl .bool)), .s 13 (.imm (.int .i64))], sh := ⟨[.s 14 (.imm (.int .i64))], [], []⟩, ws := [⟨.exit 0, ⟨[], [], []⟩⟩, ⟨.ret, ⟨[.s 6 (.imm (.int .i64)), .s 7 (.imm .bool)], [], []⟩⟩], F := fun p s => page_Next_L0 p.1 p.2.1 p.2.2 s }
noncomputable def h8 : Hints := { loop := fun id => bif Nat.beq id 0 then some (lp8_0) else none, cut := fun k r => bif Nat.beq k 0 && Nat.beq r 4 then some (.flat [.s 24 (.imm .bool)]) else none, frz := fun r => [] }
theorem lo8_0 : LoopOkK Try.prog Try.f8.ntmps (lp8_0) (lb 0 Try.f8) :=
  loop_ok (xid := XID) (ro := ro8) (H := h8) mixed (tabOk8) (loops_of (L := []) (by kernel_rfl) (lnil)) (fun p s => page_Next_R0 p.1 p.2.1 p.2.2 s) (fun p s => by kernel_rfl) (fun p s => rfl)
theorem ok8 : FnOk Try.prog 8 ⟨[.ty tyForm, .ty (.sl .bool), .ty (.int .i64)], [(.int .i64), .bool], fun x => page_Next x.1 x.2.1 x.2.2⟩ :=
  fn_ok (xid := XID) (ro := ro8) (H := h8) (fn := Try.f8) (code := bodyOf Try.f8) mixed (tabOk8) Try.func8 rfl (by kernel_rfl) (loops_of (L := [(0, lb 0 Try.f8)]) (by kernel_rfl) (lcons rfl (lo8_0) (lnil))) (fun x => by kernel_rfl)
/-! 9: pantograph/pantographlaw18.known -/
noncomputable def tab9 : Tab := [(8, ⟨[.ty tyForm, .ty (.sl .bool), .ty (.int .i64)], [(.int .i64), .bool], fun x => page_Next x.1 x.2.1 x.2.2⟩)]
theorem tabOk9 : TabOk Try.prog (tab9) := tabOk_cons ok8 (tabOk_nil _)
def ro9 : Nat → Bool := fun s => false
noncomputable def h9 : Hints := { loop := fun id => none, cut := fun k r => bif Nat.beq k 0 && Nat.beq r 4 then some (.flat [.s 0 (.imm .bool)]) else none, frz := fun r => [] }
theorem ok9 : FnOk Try.prog 9 ⟨[], [.bool], fun _ => law18_known⟩ :=
  fn_ok (xid := XID) (ro := ro9) (H := h9) (fn := Try.f9) (code := bodyOf Try.f9) mixed (tabOk9) Try.func9 rfl (by kernel_rfl) (loops_of (L := []) (by kernel_rfl) (lnil)) (fun x => by kernel_rfl)
/-! 3: pantograph/pantographlaw18.PageAll -/
noncomputable def tab3 : Tab := [(6, ⟨[.ty tyForm], [.bool], fun x => law18_long x⟩), (7, ⟨[.ty tyForm, .ty (.sl .bool)], [(.sl .bool)], fun x => page_Relevant x.1 x.2⟩), (8, ⟨[.ty tyForm, .ty (.sl .bool), .ty (.int .i64)], [(.int .i64), .bool], fun x => page_Next x.1 x.2.1 x.2.2⟩), (9, ⟨[], [.bool], fun _ => law18_known⟩)]
theorem tabOk3 : TabOk Try.prog (tab3) := tabOk_cons ok6 (tabOk_cons ok7 (tabOk_cons ok8 (tabOk_cons ok9 (tabOk_nil _))))
def ro3 : Nat → Bool := fun s => Nat.beq s 2
noncomputable def lp3_0 : LoopD := { gh := [], ps := [.s 1 (.imm (.sl .bool)), .s 2 (.rptr tyForm), .s 5 (.imm (.sl .bool)), .s 7 (.imm (.int .i64))], sh := ⟨[.s 6 (.imm (.int .i64)), .s 8 (.imm (.int .i64))], [], []⟩, ws := [⟨.exit 0, ⟨[.s 6 (.imm (.int .i64))], [], []⟩⟩], F := fun p s => law18_PageAll_L0 p.1 p.2.1 p.2.2.1 p.2.2.2 s }
noncomputable def lp3_2 : LoopD := { gh := [], ps := [.s 1 (.imm (.sl .bool)), .s 2 (.rptr tyForm), .s 5 (.imm (.sl .bool)), .s 6 (.imm (.int .i64))], sh := ⟨[.s 7 (.imm (.int .i64)), .s 9 (.imm (.int .i64))], [], []⟩, ws := [⟨.exit 2, ⟨[.s 7 (.imm (.int .i64))], [], []⟩⟩, ⟨.ret, ⟨[.s 4 (.imm .bool)], [], []⟩⟩], F := fun p s => law18_PageAll_L1 p.1 p.2.1 p.2.2.1 p.2.2.2 s }
noncomputable def h3 : Hints := { loop := fun id => bif Nat.beq id 0 then some (lp3_0) else bif Nat.beq id 2 then some (lp3_2) else none, cut := fun k r => bif Nat.beq k 0 && Nat.beq r 1 then some (.ways [⟨.normal, ⟨[.s 18 (.imm .bool)], [], []⟩⟩]) else bif Nat.beq k 0 && Nat.beq r 14 then some (.flat [.s 62 (.imm .bool)]) else none, frz := fun r => [] }
theorem lo3_0 : LoopOkK Try.prog Try.f3.ntmps (lp3_0) (lb 0 Try.f3) :=
  loop_ok (xid := XID) (ro := ro3) (H := h3) mixed (tabOk3) (loops_of (L := []) (by kernel_rfl) (lnil)) (fun p s => law18_PageAll_R0 p.1 p.2.1 p.2.2.1 p.2.2.2 s) (fun p s => by kernel_rfl) (fun p s => rfl)
theorem lo3_2 : LoopOkK Try.prog Try.f3.ntmps (lp3_2) (lb 2 Try.f3) :=
  loop_ok (xid := XID) (ro := ro3) (H := h3) mixed (tabOk3) (loops_of (L := []) (by kernel_rfl) (lnil)) (fun p s => law18_PageAll_R1 p.1 p.2.1 p.2.2.1 p.2.2.2 s) (fun p s => by kernel_rfl) (fun p s => rfl)
theorem ok3 : FnOk Try.prog 3 ⟨[.ty tyForm, .ty (.sl .bool)], [.bool], fun x => law18_PageAll x.1 x.2⟩ :=
  fn_ok (xid := XID) (ro := ro3) (H := h3) (fn := Try.f3) (code := bodyOf Try.f3) mixed (tabOk3) Try.func3 rfl (by kernel_rfl) (loops_of (L := [(0, lb 0 Try.f3), (2, lb 2 Try.f3)]) (by kernel_rfl) (lcons rfl (lo3_0) (lcons rfl (lo3_2) (lnil)))) (fun x => by kernel_rfl)
/-! 10: pantograph/page.Back, by hand -/
end Go.AM.Lf
namespace Go.Proofs
open Go.RowKit Go.Shelf

attribute [local go_sem] Oper.semAt_some

def PB.upto {α : Type} (f : Nat → α) (k : Nat) : List α := (List.range k).map f
theorem PB.upto_succ {α : Type} (f : Nat → α) (k : Nat) : PB.upto f (k + 1) = PB.upto f k ++ [f k] := by simp [PB.upto, List.range_succ]
theorem PB.upto_length {α : Type} (f : Nat → α) (k : Nat) : (PB.upto f k).length = k := by simp [PB.upto]
def PB.at (zs : List Bool) (len j : Nat) : Nat × Bool := (len - 1 - j, zs[len - 1 - j]?.getD false)

set_option maxRecDepth 100000 in
set_option maxHeartbeats 2000000 in
theorem PB.back1_in (F : Fence) (n : Nat) (h24 : F.fn 24) (hro : F.round = none) (hn : 1 ≤ n) (l Bs n₀ b off len cap : Nat) (zs : List Bool) (hreach : len * 8 ≤ 140737488351232) (hb : b < n₀) (J Jx : List (Nat × Bool) → World → Prop)
    (hY : ∀ pre x W, J pre W → pre.length < len → YieldAt F (n - 1) Try.prog l #[.int .i64 (x.1 : Int), .bool x.2] W fun e W' =>
      (e = .returned (.bool true) ∧ J (pre ++ [x]) W' ∧ Below n₀ W W') ∨ (e = .returned (.bool false) ∧ Jx (pre ++ [x]) W'))
    (W : World) (hBs : W.cell? ⟨Bs, 0, none⟩ = some (.slice (some ⟨b, off, none⟩) len cap)) (hBs' : Bs < n₀) (hc : ∀ j, j < len → W.cell? ⟨b, off + j, none⟩ = some (.bool (zs[j]?.getD false))) (h0 : J [] W) :
    CallsIn F n Try.prog 24 #[.func (.yield l) #[] #[], .pointer (some ⟨Bs, 0, none⟩)] W fun e W' => (∃ v, e = .returned v) ∧
      ((∃ ys, ys = PB.upto (PB.at zs len) len ∧ J ys W') ∨ (∃ pre, (∃ k, k ≤ len ∧ pre = PB.upto (PB.at zs len) k) ∧ Jx pre W')) := by
  refine callsIn_of_wp Try.func24 rfl h24 ?_ hro
  simp only [Try.ntmps24, List.size_toArray, List.length_cons, List.length_nil, Nat.reduceAdd, Nat.reduceSub, Array.replicate_succ, Array.replicate_zero, List.push_toArray, List.append_toArray, List.nil_append, List.cons_append]
  gi_wp2
  gi_loopw [3] (fun i wr => ∃ m : Nat, m ≤ len ∧ i = .int .i64 ((m : Int) - 1) ∧ J (PB.upto (PB.at zs len) (len - m)) wr ∧ Below n₀ W wr)
    (fun i _ => (intOf i + 1).toNat)
  case atStart => exact ⟨len, Nat.le_refl _, by simp, by simpa [PB.upto] using h0, Below.refl _ _⟩
  case round =>
    obtain ⟨m, hm, rfl, hJs, hnx⟩ := hrel
    have hbs := (hnx.cell (p := ⟨Bs, 0, none⟩) hBs').trans hBs
    cases m with
    | succ k =>
      have hcx : wr.cell? ⟨b, off + k, none⟩ = some (.bool (zs[k]?.getD false)) := (hnx.cell (p := ⟨b, off + k, none⟩) hb).trans (hc k (by omega))
      obtain ⟨fn, tmps, assign, body, hy, hR⟩ := hY _ (k, zs[k]?.getD false) wr hJs (by rw [PB.upto_length]; omega)
      dsimp only at hy
      have hk1 : ((k + 1 : Nat) : Int) - 1 = k := by omega
      rw [hk1]
      have hat : PB.at zs len (len - (k + 1)) = (k, zs[k]?.getD false) := by
        have : len - 1 - (len - (k + 1)) = k := by omega
        simp [PB.at, this]
      gi_wp2
      refine hR.mono ?_
      rintro e W3 (⟨rfl, hJ3, hk3⟩ | ⟨rfl, hJx3⟩)
      · gi_wp2
        go_roundw
        case rel => exact ⟨k, by omega, by simp, by rw [show len - k = len - (k + 1) + 1 by omega, PB.upto_succ, hat]; exact hJ3, hnx.trans hk3⟩
        case measure => simp [intOf]
      · gi_wp2
        refine bodyPost_ret (results_none rfl _ _ _) rfl ?_
        exact ⟨⟨_, rfl⟩, .inr ⟨_, ⟨len - (k + 1) + 1, by omega, by rw [PB.upto_succ, hat]⟩, hJx3⟩⟩
    | zero =>
      gi_wp2
      go_end0
      exact ⟨⟨_, rfl⟩, .inl ⟨_, rfl, hJs⟩⟩

/-- The bools of a slice, in a block below n₀; or there are none. -/
def PB.Bools (n₀ : Nat) (W : World) (sv : Value) (zs : List Bool) : Prop :=
  (∃ a, sv = .slice a 0 0 ∧ zs = []) ∨ ∃ b off cap, sv = .slice (some ⟨b, off, none⟩) zs.length cap ∧ b < n₀ ∧ ∀ j, j < zs.length → W.cell? ⟨b, off + j, none⟩ = some (.bool (zs[j]?.getD false))
theorem PB.Bools.below {n₀ : Nat} {A B : World} (h : Below n₀ A B) {sv : Value} {zs : List Bool} : PB.Bools n₀ A sv zs → PB.Bools n₀ B sv zs
  | .inl e => .inl e
  | .inr ⟨b, off, cap, e, hb, hc⟩ => .inr ⟨b, off, cap, e, hb, fun j hj => (h.cell (p := ⟨b, off + j, none⟩) hb).trans (hc j hj)⟩

set_option maxRecDepth 100000 in
set_option maxHeartbeats 1000000 in
theorem PB.back1_nil_in (F : Fence) (n : Nat) (h24 : F.fn 24) (hro : F.round = none) (l Bs : Nat) (a : Option Addr) (J : List (Nat × Bool) → World → Prop) (W : World) (hBs : W.cell? ⟨Bs, 0, none⟩ = some (.slice a 0 0)) (h0 : J [] W) :
    CallsIn F n Try.prog 24 #[.func (.yield l) #[] #[], .pointer (some ⟨Bs, 0, none⟩)] W fun e W' => (∃ v, e = .returned v) ∧ J [] W' := by
  refine callsIn_of_wp Try.func24 rfl h24 ?_ hro
  simp only [Try.ntmps24, List.size_toArray, List.length_cons, List.length_nil, Nat.reduceAdd, Nat.reduceSub, Array.replicate_succ, Array.replicate_zero, List.push_toArray, List.append_toArray, List.nil_append, List.cons_append]
  gi_wp2
  gi_loopw [3] (fun i wr => i = .int .i64 (-1) ∧ J [] wr) (fun _ _ => 0)
  case atStart => exact ⟨rfl, h0⟩
  case round =>
    obtain ⟨rfl, hJs⟩ := hrel
    gi_wp2
    go_end0
    exact ⟨⟨_, rfl⟩, hJs⟩

set_option maxHeartbeats 1000000 in
theorem PB.backward_in (F : Fence) (n : Nat) (h20 : F.fn 20) (hro : F.round = none) (a : Option Addr) (len cap : Nat) (w : World) :
    CallsIn F n Try.prog 20 #[.slice a len cap] w fun e w' => e = .returned (.func (.func 24) #[] #[.pointer (some ⟨w.heap.size, 0, none⟩)]) ∧ w' = w.alloc (.cells #[.slice a len cap] 30) := by
  refine callsIn_of_wp Try.func20 rfl h20 ?_ hro
  simp only [Try.ntmps20, List.size_toArray, List.length_cons, List.length_nil, Nat.reduceAdd, Nat.reduceSub, Array.replicate_succ, Array.replicate_zero, List.push_toArray, List.append_toArray, List.nil_append, List.cons_append]
  gi_wp2
  go_ret
  exact ⟨rfl, rfl⟩

theorem PB.back_stops (F : Fence) (n : Nat) (h24 : F.fn 24) (hro : F.round = none) (hn : 1 ≤ n) (Bs n₀ : Nat) (sv : Value) (zs : List Bool) (hreach : zs.length * 8 ≤ 140737488351232) (w : World) (hBs : Bs < n₀) (hn₀ : n₀ ≤ w.heap.size)
    (hc : w.cell? ⟨Bs, 0, none⟩ = some sv) (hI : PB.Bools n₀ w sv zs) :
    SeqStopsK F n Try.prog 24 #[.pointer (some ⟨Bs, 0, none⟩)] (fun x : Nat × Bool => #[Value.int .i64 (x.1 : Int), Value.bool x.2]) (Below n₀) (fun ys => ys = PB.upto (PB.at zs zs.length) zs.length)
      (fun pre => ∃ k, k ≤ zs.length ∧ pre = PB.upto (PB.at zs zs.length) k) zs.length w := fun l J Jx W hW _ _ hY h0 => by
  have hc' := (hW.cell (p := ⟨Bs, 0, none⟩) (Nat.lt_of_lt_of_le hBs hn₀)).trans hc
  rcases hI.below (hW.mono hn₀) with ⟨a, rfl, rfl⟩ | ⟨b, off, cap, rfl, hb, hcs⟩
  · exact (PB.back1_nil_in F n h24 hro l Bs a J W hc' h0).mono fun e W' ⟨he, hj⟩ => ⟨he, .inl ⟨_, rfl, hj⟩⟩
  · exact PB.back1_in F n h24 hro hn l Bs n₀ b off zs.length cap zs hreach hb J Jx hY W hc' hBs hcs h0
end Go.Proofs

namespace Go.Proofs
open Go.RowKit Go.Shelf
attribute [local go_sem] Oper.semAt_some

/-- None of the first k that came counts. -/
theorem PB.of_none (l : List Bool) (at_ : Int) : ∀ k m : Nat, m + k = l.length → (∀ p ∈ PB.upto (PB.at l l.length) k, ¬ (p.2 = true ∧ (p.1 : Int) < at_)) → Go.AM.Lf.backOf l at_ l.length = Go.AM.Lf.backOf l at_ m
  | 0, m, h, _ => by rw [show m = l.length by omega]
  | k + 1, m, h, hp => by
    rw [PB.of_none l at_ k (m + 1) (by omega) fun p hq => hp p (by rw [PB.upto_succ]; exact List.mem_append_left _ hq)]
    have := hp (PB.at l l.length k) (by rw [PB.upto_succ]; simp)
    simp only [PB.at, show l.length - 1 - k = m by omega] at this
    simp only [Go.AM.Lf.backOf, if_neg this]

set_option maxRecDepth 100000 in
set_option maxHeartbeats 4000000 in
theorem PB.Back_in (F : Fence) (n : Nat) (h10 : F.fn 10) (h7 : F.fn 7) (h20 : F.fn 20) (h24 : F.fn 24) (hro : F.round = none) (hn : 3 ≤ n) (c0 c1 c2 c3 c4 c5 vOn : Value) (at_ : Int) (zs : List Bool) (w : World) (hreach : zs.length * 8 ≤ 140737488351232)
    (hRel : ∀ W, Below w.heap.size w W → CallsIn F (n - 1) Try.prog 7 #[.agg #[c0, c1, c2, c3, c4, c5], vOn] W fun e W' => ∃ a len cap, e = .returned (.slice a len cap) ∧ Below W.heap.size W W' ∧ PB.Bools W'.heap.size W' (.slice a len cap) zs) :
    CallsIn F n Try.prog 10 #[.agg #[c0, c1, c2, c3, c4, c5], vOn, .int .i64 at_] w fun e W' => e = .returned (.tuple #[.int .i64 (Go.AM.Lf.backOf zs at_ zs.length).1, .bool (Go.AM.Lf.backOf zs at_ zs.length).2]) ∧ Below w.heap.size w W' := by
  have h1 : 1 ≤ n := by omega
  refine callsIn_of_wp_marks Try.func10 rfl h10 ?_ hro
  simp only [Try.ntmps10, List.size_toArray, List.length_cons, List.length_nil, Nat.reduceAdd, Nat.reduceSub, Array.replicate_succ, Array.replicate_zero, List.push_toArray, List.append_toArray, List.nil_append, List.cons_append]
  gi_wp2_with (first
    | (gi_at_call 7; refine (hRel _ (((((Below.refl _ w).alloc (Nat.le_refl _) _).alloc (by simp) _).alloc (by simp; omega) _).alloc (by simp; omega) _)).mono ?_; rintro e W1 ⟨a, len, cap, rfl, hB1, hZ1⟩)
    | (gi_at_call 20; refine (PB.backward_in F (n - 1) h20 hro _ _ _ _).mono ?_; rintro e w' ⟨rfl, rfl⟩))
  have hB0 : Below w.heap.size w ((((w.alloc (Obj.cells #[c0, c1, c2, c3, c4, c5] 29)).alloc (Obj.cells #[Value.int IntKind.i64 at_] 3)).alloc (Obj.cells #[Value.int IntKind.i64 0] 3)).alloc (Obj.cells #[Value.bool false] 4)) :=
    ((((Below.refl _ w).alloc (Nat.le_refl _) _).alloc (by simp) _).alloc (by simp; omega) _).alloc (by simp; omega) _
  have k5 : ((((w.alloc (Obj.cells #[c0, c1, c2, c3, c4, c5] 29)).alloc (Obj.cells #[Value.int IntKind.i64 at_] 3)).alloc (Obj.cells #[Value.int IntKind.i64 0] 3)).alloc (Obj.cells #[Value.bool false] 4)).heap[w.heap.size + 1]? = some (Obj.cells #[Value.int IntKind.i64 at_] 3) := by
    have := ((Boxed.new (w.alloc (Obj.cells #[c0, c1, c2, c3, c4, c5] 29)) 3 (.int .i64 at_)).alloc (Obj.cells #[Value.int IntKind.i64 0] 3)).alloc (Obj.cells #[Value.bool false] 4)
    rw [World.size_alloc] at this; exact this
  have k6 : ((((w.alloc (Obj.cells #[c0, c1, c2, c3, c4, c5] 29)).alloc (Obj.cells #[Value.int IntKind.i64 at_] 3)).alloc (Obj.cells #[Value.int IntKind.i64 0] 3)).alloc (Obj.cells #[Value.bool false] 4)).heap[w.heap.size + 1 + 1]? = some (Obj.cells #[Value.int IntKind.i64 0] 3) := by
    have := (Boxed.new ((w.alloc (Obj.cells #[c0, c1, c2, c3, c4, c5] 29)).alloc (Obj.cells #[Value.int IntKind.i64 at_] 3)) 3 (.int .i64 0)).alloc (Obj.cells #[Value.bool false] 4)
    rw [World.size_alloc, World.size_alloc] at this; exact this
  have k7 : ((((w.alloc (Obj.cells #[c0, c1, c2, c3, c4, c5] 29)).alloc (Obj.cells #[Value.int IntKind.i64 at_] 3)).alloc (Obj.cells #[Value.int IntKind.i64 0] 3)).alloc (Obj.cells #[Value.bool false] 4)).heap[w.heap.size + 1 + 1 + 1]? = some (Obj.cells #[Value.bool false] 4) := by
    have := (Boxed.new (((w.alloc (Obj.cells #[c0, c1, c2, c3, c4, c5] 29)).alloc (Obj.cells #[Value.int IntKind.i64 at_] 3)).alloc (Obj.cells #[Value.int IntKind.i64 0] 3)) 4 (.bool false))
    rw [World.size_alloc, World.size_alloc, World.size_alloc] at this; exact this
  have hsz : ((((w.alloc (Obj.cells #[c0, c1, c2, c3, c4, c5] 29)).alloc (Obj.cells #[Value.int IntKind.i64 at_] 3)).alloc (Obj.cells #[Value.int IntKind.i64 0] 3)).alloc (Obj.cells #[Value.bool false] 4)).heap.size = w.heap.size + 1 + 1 + 1 + 1 := by simp
  generalize ((((w.alloc (Obj.cells #[c0, c1, c2, c3, c4, c5] 29)).alloc (Obj.cells #[Value.int IntKind.i64 at_] 3)).alloc (Obj.cells #[Value.int IntKind.i64 0] 3)).alloc (Obj.cells #[Value.bool false] 4)) = W0 at *
  have hs1 := hB1.size
  have b5 : Boxed W1 (w.heap.size + 1) 3 (.int .i64 at_) := (hB1.block _ (by omega)).trans k5
  have b6 : Boxed W1 (w.heap.size + 1 + 1) 3 (.int .i64 0) := (hB1.block _ (by omega)).trans k6
  have b7 : Boxed W1 (w.heap.size + 1 + 1 + 1) 4 (.bool false) := (hB1.block _ (by omega)).trans k7
  have bS := Boxed.new W1 30 (.slice a len cap)
  have hBw : Below w.heap.size w W1 := hB0.trans (hB1.mono (by omega))
  have hBa : Below w.heap.size w (W1.alloc (Obj.cells #[Value.slice a len cap] 30)) := hBw.alloc (by omega) _
  have fin : ∀ {W2 : World} {D : Nat} {v6 : Int} {v7 : Bool}, w.heap.size ≤ D → W2.heap[D]? = some (.deferred (some [])) → Below w.heap.size w W2 → Boxed W2 (w.heap.size + 1 + 1) 3 (.int .i64 v6) → Boxed W2 (w.heap.size + 1 + 1 + 1) 4 (.bool v7) →
      ∀ {u : Value}, bodyPostM F n Try.prog Try.f10 (fun e W' => e = .returned (.tuple #[.int .i64 v6, .bool v7]) ∧ Below w.heap.size w W') Exit.ret
        { tmps := #[Value.agg #[c0, c1, c2, c3, c4, c5], vOn, Value.int IntKind.i64 at_,
          Value.pointer (some { block := w.heap.size, off := 0 }), undef,
          Value.pointer (some { block := w.heap.size + 1, off := 0 }),
          Value.pointer (some { block := w.heap.size + 1 + 1, off := 0 }),
          Value.pointer (some { block := w.heap.size + 1 + 1 + 1, off := 0 }), undef, undef,
          Value.agg #[c0, c1, c2, c3, c4, c5], vOn, Value.slice a len cap,
          Value.func (Fn.func 24) #[] #[Value.pointer (some { block := W1.heap.size, off := 0 })], undef, undef, undef,
          undef, undef, undef, undef, undef, undef, u], defers := [{ target := Target.collected D, args := #[] }] } W2 := by
    intro W2 D v6 v7 hD hK hB g6 g7 u
    refine ⟨by simp, .inl ⟨_, _, rfl, run_takeDeferred hK, ?_⟩⟩
    have c6 := (g6.kept (grownBy_putObj' _ D (.deferred none)) (fun e => by cases e; rw [show W2.heap[_]? = _ from g6] at hK; cases hK)).cell
    have c7 := (g7.kept (grownBy_putObj' _ D (.deferred none)) (fun e => by cases e; rw [show W2.heap[_]? = _ from g7] at hK; cases hK)).cell
    refine ⟨.tuple #[.int .i64 v6, .bool v7], ?_, rfl, hB.trans (belowK_b (w := w) (Nat.le_refl _) _ D _ _ hD hK rfl rfl)⟩
    simp [results, Try.f10, go_sem, c6, c7]
  refine wpIn_rangeFunc_ownG hro h1 (gf := 24) (lb := #[.pointer (some ⟨W1.heap.size, 0, none⟩)]) rfl h24 (enters_of Try.func24 (by kernel_rfl) rfl)
    (PB.back_stops F (n - 1) h24 hro (by omega) W1.heap.size (W1.heap.size + 1) _ zs hreach (W1.alloc (Obj.cells #[Value.slice a len cap] 30)) (by omega) (by simp) bS.cell (by
      rcases hZ1 with h | ⟨b, off, cap', e, hb, hc⟩
      · exact .inl h
      · exact .inr ⟨b, off, cap', e, by omega, fun j hj => (((Below.refl W1.heap.size W1).alloc (Nat.le_refl _) _).cell (p := ⟨b, off + j, none⟩) hb).trans (hc j hj)⟩)) belowK_t (belowK_b (by simp)) (Below.refl _ _) (fun _ => rfl)
    (fun pre W => ((∀ p ∈ pre, ¬ (p.2 = true ∧ (p.1 : Int) < at_)) ∧ Boxed W (w.heap.size + 1) 3 (.int .i64 at_) ∧ Boxed W (w.heap.size + 1 + 1) 3 (.int .i64 0) ∧ Boxed W (w.heap.size + 1 + 1 + 1) 4 (.bool false)) ∧ Below w.heap.size w W)
    (fun c pre W => (c = .ret ∧ ∃ (ini : List (Nat × Bool)) (last : Nat × Bool), pre = ini ++ [last] ∧ (∀ p ∈ ini, ¬ (p.2 = true ∧ (p.1 : Int) < at_)) ∧ (last.2 = true ∧ (last.1 : Int) < at_) ∧ Boxed W (w.heap.size + 1 + 1) 3 (.int .i64 (last.1 : Int)) ∧ Boxed W (w.heap.size + 1 + 1 + 1) 4 (.bool true)) ∧ Below w.heap.size w W)
    (OwnFrom.and (Own.from (fun s A B row hs hg hr => ⟨hs.1, boxed_own (β := Unit) _ _ (fun _ => _) () A B row hs.2.1 hg hr, boxed_own (β := Unit) _ _ (fun _ => _) () A B row hs.2.2.1 hg hr, boxed_own (β := Unit) _ _ (fun _ => _) () A B row hs.2.2.2 hg hr⟩) _) (ownFrom_below (Nat.le_refl _) (by simp; omega)))
    (fun c => OwnFrom.and (Own.from (fun s A B row hs hg hr => by obtain ⟨hc, ini, last, e1, e2, e3, e4, e5⟩ := hs; exact ⟨hc, ini, last, e1, e2, e3, boxed_own (β := Unit) _ _ (fun _ => _) () A B row e4 hg hr, boxed_own (β := Unit) _ _ (fun _ => _) () A B row e5 hg hr⟩) _) (ownFrom_below (Nat.le_refl _) (by simp; omega)))
    ⟨⟨by simp, b5.alloc _, b6.alloc _, b7.alloc _⟩, hBa⟩
    (fun x => { tmps := #[Value.agg #[c0, c1, c2, c3, c4, c5], vOn, Value.int IntKind.i64 at_,
          Value.pointer (some { block := w.heap.size, off := 0 }), undef,
          Value.pointer (some { block := w.heap.size + 1, off := 0 }),
          Value.pointer (some { block := w.heap.size + 1 + 1, off := 0 }),
          Value.pointer (some { block := w.heap.size + 1 + 1 + 1, off := 0 }), .int .i64 (x.1 : Int), .bool x.2,
          Value.agg #[c0, c1, c2, c3, c4, c5], vOn, Value.slice a len cap,
          Value.func (Fn.func 24) #[] #[Value.pointer (some { block := W1.heap.size, off := 0 })], .int .i64 (x.1 : Int), .bool x.2, undef,
          undef, undef, undef, undef, undef, undef, undef], defers := [] }) ?assign ?body ?done ?stop
  case assign =>
    intro l x W K hK
    gi_wp2
    exact hK
  case body =>
    rintro l pre x W ⟨⟨hp, h5, h6, h7'⟩, hB⟩ _
    have q5 := h5.cell; have q6 := h6.cell; have q7 := h7'.cell
    have f6 := h6.frozen; have f7 := h7'.frozen
    gi_wp2
    · rename_i g1 g2
      exact ⟨((KeepsOthers.setCell _ _ _).trans (KeepsOthers.setCell _ _ _)).from _, ⟨rfl, pre, x, rfl, hp, ⟨by simp_all, by simp_all⟩, (h6.set _).other (by omega) _, (h7'.other (by omega) _).set _⟩,
        (hB.setCell (p := ⟨w.heap.size + 1 + 1, 0, none⟩) (by show w.heap.size ≤ w.heap.size + 1 + 1; omega) _).setCell (p := ⟨w.heap.size + 1 + 1 + 1, 0, none⟩) (by show w.heap.size ≤ w.heap.size + 1 + 1 + 1; omega) _⟩
    · rename_i g1 g2
      exact ⟨KeepsFrom.refl _ _, Below.refl _ _, ⟨fun p hp' => (List.mem_append.1 hp').elim (hp p) (fun e => by simp at e; subst e; intro hh; have := hh.2; omega), h5, h6, h7'⟩, hB⟩
    · rename_i g1
      exact ⟨KeepsFrom.refl _ _, Below.refl _ _, ⟨fun p hp' => (List.mem_append.1 hp').elim (hp p) (fun e => by simp at e; subst e; intro hh; simp_all), h5, h6, h7'⟩, hB⟩
  case done =>
    rintro D ys W hD rfl ⟨⟨hne, h5, h6, h7'⟩, hB⟩ hK
    have q5 := h5.cell; have q6 := h6.cell; have q7 := h7'.cell
    have f6 := h6.frozen; have f7 := h7'.frozen
    have hv : Go.AM.Lf.backOf zs at_ zs.length = (at_, false) := (PB.of_none zs at_ zs.length 0 (by omega) hne).trans rfl
    gi_wp2
    have hK' : ((W.setCell ⟨w.heap.size + 1 + 1, 0, none⟩ (.int .i64 at_)).setCell ⟨w.heap.size + 1 + 1 + 1, 0, none⟩ (.bool false)).heap[D]? = some (.deferred (some [])) :=
      ((KeepsOthers.setCell _ _ _).trans (KeepsOthers.setCell _ _ _)).same D _ hK rfl
    have g6 : Boxed ((W.setCell ⟨w.heap.size + 1 + 1, 0, none⟩ (.int .i64 at_)).setCell ⟨w.heap.size + 1 + 1 + 1, 0, none⟩ (.bool false)) (w.heap.size + 1 + 1) 3 (.int .i64 at_) := (h6.set _).other (by omega) _
    have g7 : Boxed ((W.setCell ⟨w.heap.size + 1 + 1, 0, none⟩ (.int .i64 at_)).setCell ⟨w.heap.size + 1 + 1 + 1, 0, none⟩ (.bool false)) (w.heap.size + 1 + 1 + 1) 4 (.bool false) := (h7'.other (by omega) _).set _
    have hB' : Below w.heap.size w ((W.setCell ⟨w.heap.size + 1 + 1, 0, none⟩ (.int .i64 at_)).setCell ⟨w.heap.size + 1 + 1 + 1, 0, none⟩ (.bool false)) :=
      (hB.setCell (p := ⟨w.heap.size + 1 + 1, 0, none⟩) (by show w.heap.size ≤ w.heap.size + 1 + 1; omega) _).setCell (p := ⟨w.heap.size + 1 + 1 + 1, 0, none⟩) (by show w.heap.size ≤ w.heap.size + 1 + 1 + 1; omega) _
    rw [hv]
    generalize (W.setCell ⟨w.heap.size + 1 + 1, 0, none⟩ (.int .i64 at_)).setCell ⟨w.heap.size + 1 + 1 + 1, 0, none⟩ (.bool false) = W2 at *
    exact fin (by simp at hD; omega) hK' hB' g6 g7
  case stop =>
    rintro D c pre W hD ⟨k, hk, rfl⟩ ⟨⟨rfl, ini, last, e1, e2, e3, h6, h7'⟩, hB⟩ hK
    gi_wp2
    obtain ⟨k', rfl⟩ : ∃ k', k = k' + 1 := by
      cases k with
      | zero => simp [PB.upto] at e1
      | succ k' => exact ⟨k', rfl⟩
    rw [PB.upto_succ] at e1
    obtain ⟨rfl, e5⟩ := List.append_inj' e1 rfl
    obtain rfl : PB.at zs zs.length k' = last := by simpa using e5
    have hv : Go.AM.Lf.backOf zs at_ zs.length = (((zs.length - 1 - k' : Nat) : Int), true) := by
      rw [PB.of_none zs at_ k' (zs.length - 1 - k' + 1) (by omega) e2]
      simp only [PB.at] at e3
      simp only [Go.AM.Lf.backOf]
      rw [if_pos e3]
    rw [hv]
    exact fin (by simp at hD; omega) hK hB h6 h7'
end Go.Proofs

namespace Go.AM.Lf
open Go.Proofs Go.RowKit

theorem calls_of_does {P : Program} {g : Nat} {fn : Func} {args : Array Value} {w : World} {R : Ending → World → Prop} (hf : P.funcs[g]? = some fn) (hn : (fn.name == "runtime.NumGoroutine") = false) (hb : fn.body.isNone = false) (h : CallDoes P g args w R) : Calls P g args w R := by
  rcases h with ⟨_, h⟩ | ⟨v, w', h, _⟩
  · exact h
  · rw [callFunc_enter hf hn hb w] at h; cases h

theorem ok10 : FnOk Try.prog 10 ⟨[.ty tyForm, .ty (.sl .bool), .ty i64], [i64, .bool], fun x => page_Back x.1 x.2.1 x.2.2⟩ := by
  intro κ x cargs y hst hy hI ha
  obtain ⟨f, on, at_⟩ := x
  obtain ⟨l, hl, hlen, hy⟩ := T.leads_bind'.1 hy
  replace hlen : List.length l * 8 ≤ 140737488351232 := hlen
  cases hy
  obtain ⟨v0, r, rfl, h0, ha⟩ := RDs.cons_inv (show RDs κ [.imm tyForm f, .imm (.sl .bool) on, .imm i64 at_] cargs from ha)
  obtain ⟨v1, r, rfl, h1, ha⟩ := ha.cons_inv
  obtain ⟨v2, r, rfl, h2, ha⟩ := ha.cons_inv
  rw [ha.nil_inv]
  obtain ⟨cs, hcs, rfl⟩ := RD.imm_inv h0
  have hlen6 := hcs.len
  rw [RD.int_inv h2]
  match cs, hlen6 with
  | [c0, c1, c2, c3, c4, c5], _ =>
  refine .inl ⟨callFunc_enter Try.func10 (by kernel_rfl) rfl κ.w, ?_⟩
  refine (callsIn_wide (n := 10)).1 ((PB.Back_in Fence.wide 10 trivial trivial trivial trivial rfl (by omega) c0 c1 c2 c3 c4 c5 v1 at_ l κ.w hlen fun W hW => ?_).mono ?_)
  · have hI1 : Inv { κ with w := W } := ⟨hI.len, fun k hk => Nat.lt_of_lt_of_le (hI.okLt k hk) hW.size, fun b blk n hb => ⟨Nat.lt_of_lt_of_le (hI.apart b blk n hb).1 hW.size, (hI.apart b blk n hb).2⟩, hI.inj, fun b x hb => by rw [hst] at hb; simp at hb⟩
    have hx : Ext κ { κ with w := W } := ⟨hW.os, hW.tape, hW.output, hW.size, fun k hk => ⟨hk, hW.block k (hI.okLt k hk)⟩, fun k hk => .inl hk, fun _ _ _ h => .inl h, fun b d h => by rw [hst] at h; simp at h,
      fun b v0 e xs h => by rw [hst] at h; simp at h, fun b h => by rw [hst] at h; simp at h, Nat.le_refl _, fun k hk _ => hW.block k hk⟩
    refine callsIn_wide.2 (calls_of_does Try.func7 (by kernel_rfl) rfl ((ok7 { κ with w := W } (f, on) [pk tyForm [c0, c1, c2, c3, c4, c5], v1] l hst hl hI1 (.cons (h0.mono hx) (.cons (h1.mono hx) .nil))).mono ?_))
    rintro e W' ⟨κ', rfl, hst', hI', hx', v, rfl, hv⟩
    have hph : κ.ph = [] := List.eq_nil_of_length_eq_zero (by rw [hI.len, hst]; rfl)
    have hB : Below W.heap.size W κ'.w := ⟨hx'.os, hx'.tape, hx'.output, hx'.size, fun k hk => hx'.frame k hk fun b n h => by simp [hph] at h⟩
    have hv := RD.imm_one (κ := κ') (τ := .sl .bool) (x := l) hv rfl
    rcases hv.sl_inv with ⟨rfl, a, e⟩ | ⟨blk, off, cap, g, e, hok, hcap, hg, hc⟩
    · cases e
      exact ⟨a, 0, 0, rfl, hB, .inl ⟨a, rfl, rfl⟩⟩
    · cases e
      refine ⟨some ⟨blk, off, none⟩, _, cap, rfl, hB, .inr ⟨blk, off, cap, rfl, hI'.okLt blk hok, fun j hj => ?_⟩⟩
      have h3 := hc j hj 0 (.bool l[j]) (by rw [(hg j hj).bool_inv]; rfl)
      rw [List.getElem?_eq_getElem hj]
      simpa [Ty.size] using h3
  · rintro e W' ⟨rfl, hB⟩
    refine ⟨{ κ with w := W' }, rfl, hst, ⟨hI.len, fun k hk => Nat.lt_of_lt_of_le (hI.okLt k hk) hB.size, fun b blk n hb => ⟨Nat.lt_of_lt_of_le (hI.apart b blk n hb).1 hB.size, (hI.apart b blk n hb).2⟩, hI.inj, fun b x hb => by rw [hst] at hb; simp at hb⟩,
      ⟨hB.os, hB.tape, hB.output, hB.size, fun k hk => ⟨hk, hB.block k (hI.okLt k hk)⟩, fun k hk => .inl hk, fun _ _ _ h => .inl h, fun b d h => by rw [hst] at h; simp at h,
      fun b v0 e xs h => by rw [hst] at h; simp at h, fun b h => by rw [hst] at h; simp at h, Nat.le_refl _, fun k hk _ => hB.block k hk⟩, _, rfl, ?_⟩
    refine .tup _ _ rfl fun i h1 h2 => ?_
    match i with
    | 0 => exact RD.int
    | 1 => exact RD.bool
end Go.AM.Lf

namespace Go.AM.Lf
open Go.Proofs
/-! 11: pantograph/page.Fix -/
noncomputable def tab11 : Tab := [(7, ⟨[.ty tyForm, .ty (.sl .bool)], [(.sl .bool)], fun x => page_Relevant x.1 x.2⟩), (10, ⟨[.ty tyForm, .ty (.sl .bool), .ty (.int .i64)], [(.int .i64), .bool], fun x => page_Back x.1 x.2.1 x.2.2⟩), (8, ⟨[.ty tyForm, .ty (.sl .bool), .ty (.int .i64)], [(.int .i64), .bool], fun x => page_Next x.1 x.2.1 x.2.2⟩)]
theorem tabOk11 : TabOk Try.prog (tab11) := tabOk_cons ok7 (tabOk_cons ok10 (tabOk_cons ok8 (tabOk_nil _)))
def ro11 : Nat → Bool := fun s => Nat.beq s 3
noncomputable def h11 : Hints := { loop := fun id => none, cut := fun k r => bif Nat.beq k 0 && Nat.beq r 2 then some (.flat [.s 28 (.imm .bool)]) else none, frz := fun r => [] }
theorem ok11 : FnOk Try.prog 11 ⟨[.ty tyForm, .ty (.sl .bool), .ty (.int .i64)], [(.int .i64)], fun x => page_Fix x.1 x.2.1 x.2.2⟩ :=
  fn_ok (xid := XID) (ro := ro11) (H := h11) (fn := Try.f11) (code := bodyOf Try.f11) mixed (tabOk11) Try.func11 rfl (by kernel_rfl) (loops_of (L := []) (by kernel_rfl) (lnil)) (fun x => by kernel_rfl)
/-! 4: pantograph/pantographlaw18.PageBack -/
noncomputable def tab4 : Tab := [(6, ⟨[.ty tyForm], [.bool], fun x => law18_long x⟩), (7, ⟨[.ty tyForm, .ty (.sl .bool)], [(.sl .bool)], fun x => page_Relevant x.1 x.2⟩), (9, ⟨[], [.bool], fun _ => law18_known⟩), (8, ⟨[.ty tyForm, .ty (.sl .bool), .ty (.int .i64)], [(.int .i64), .bool], fun x => page_Next x.1 x.2.1 x.2.2⟩), (10, ⟨[.ty tyForm, .ty (.sl .bool), .ty (.int .i64)], [(.int .i64), .bool], fun x => page_Back x.1 x.2.1 x.2.2⟩), (11, ⟨[.ty tyForm, .ty (.sl .bool), .ty (.int .i64)], [(.int .i64)], fun x => page_Fix x.1 x.2.1 x.2.2⟩)]
theorem tabOk4 : TabOk Try.prog (tab4) := tabOk_cons ok6 (tabOk_cons ok7 (tabOk_cons ok9 (tabOk_cons ok8 (tabOk_cons ok10 (tabOk_cons ok11 (tabOk_nil _))))))
def ro4 : Nat → Bool := fun s => Nat.beq s 3
noncomputable def h4 : Hints := { loop := fun id => none, cut := fun k r => bif Nat.beq k 0 && Nat.beq r 1 then some (.ways [⟨.normal, ⟨[.s 18 (.imm .bool)], [], []⟩⟩]) else bif Nat.beq k 0 && Nat.beq r 4 then some (.flat [.s 36 (.imm .bool)]) else bif Nat.beq k 0 && Nat.beq r 9 then some (.flat [.s 85 (.imm .bool)]) else bif Nat.beq k 3 && Nat.beq r 7 then some (.ways [⟨.normal, ⟨[], [], []⟩⟩, ⟨.ret, ⟨[.s 6 (.imm .bool)], [], []⟩⟩]) else none, frz := fun r => [] }
theorem ok4 : FnOk Try.prog 4 ⟨[.ty tyForm, .ty (.sl .bool), .ty (.int .i64)], [.bool], fun x => law18_PageBack x.1 x.2.1 x.2.2⟩ :=
  fn_ok (xid := XID) (ro := ro4) (H := h4) (fn := Try.f4) (code := bodyOf Try.f4) mixed (tabOk4) Try.func4 rfl (by kernel_rfl) (loops_of (L := []) (by kernel_rfl) (lnil)) (fun x => by kernel_rfl)
/-! 21: pantograph/pantographref18.on -/
noncomputable def tab21 : Tab := []
theorem tabOk21 : TabOk Try.prog (tab21) := tabOk_nil _
def ro21 : Nat → Bool := fun s => Nat.beq s 3
noncomputable def lp21_0 : LoopD := { gh := [], ps := [.s 1 (.imm (.sl .bool)), .s 2 (.imm .str), .s 3 (.rptr tyForm)], sh := ⟨[.s 7 (.imm (.int .i64))], [], []⟩, ws := [⟨.exit 0, ⟨[], [], []⟩⟩, ⟨.ret, ⟨[.s 6 (.imm .bool)], [], []⟩⟩], F := fun p s => ref18_on_L0 p.1 p.2.1 p.2.2 s }
noncomputable def h21 : Hints := { loop := fun id => bif Nat.beq id 0 then some (lp21_0) else none, cut := fun k r => bif Nat.beq k 0 && Nat.beq r 5 then some (.flat [.s 6 (.imm .bool)]) else none, frz := fun r => [] }
theorem lo21_0 : LoopOkK Try.prog Try.f21.ntmps (lp21_0) (lb 0 Try.f21) :=
  loop_ok (xid := XID) (ro := ro21) (H := h21) mixed (tabOk21) (loops_of (L := []) (by kernel_rfl) (lnil)) (fun p s => ref18_on_R0 p.1 p.2.1 p.2.2 s) (fun p s => by kernel_rfl) (fun p s => rfl)
theorem ok21 : FnOk Try.prog 21 ⟨[.ty tyForm, .ty (.sl .bool), .ty .str], [.bool], fun x => ref18_on x.1 x.2.1 x.2.2⟩ :=
  fn_ok (xid := XID) (ro := ro21) (H := h21) (fn := Try.f21) (code := bodyOf Try.f21) mixed (tabOk21) Try.func21 rfl (by kernel_rfl) (loops_of (L := [(0, lb 0 Try.f21)]) (by kernel_rfl) (lcons rfl (lo21_0) (lnil))) (fun x => by kernel_rfl)
/-! 12: pantograph/pantographref18.Relevant -/
noncomputable def tab12 : Tab := [(21, ⟨[.ty tyForm, .ty (.sl .bool), .ty .str], [.bool], fun x => ref18_on x.1 x.2.1 x.2.2⟩)]
theorem tabOk12 : TabOk Try.prog (tab12) := tabOk_cons ok21 (tabOk_nil _)
def ro12 : Nat → Bool := fun s => Nat.beq s 2
noncomputable def lp12_0 : LoopD := { gh := [(5, .bool)], ps := [.s 1 (.imm (.sl .bool)), .s 2 (.rptr tyForm)], sh := ⟨[.s 6 (.imm (.int .i64)), .a .bool], [(5, .cur 0 .bool)], [.arr .bool]⟩, ws := [⟨.exit 0, ⟨[.a .bool], [(5, .cur 0 .bool)], [.arr .bool]⟩⟩], F := fun p s => ref18_Relevant_L0 p.1 p.2 s }
noncomputable def h12 : Hints := { loop := fun id => bif Nat.beq id 0 then some (lp12_0) else none, cut := fun k r => none, frz := fun r => [] }
theorem lo12_0 : LoopOkK Try.prog Try.f12.ntmps (lp12_0) (lb 0 Try.f12) :=
  loop_ok (xid := XID) (ro := ro12) (H := h12) mixed (tabOk12) (loops_of (L := []) (by kernel_rfl) (lnil)) (fun p s => ref18_Relevant_R0 p.1 p.2 s) (fun p s => by kernel_rfl) (fun p s => rfl)
theorem ok12 : FnOk Try.prog 12 ⟨[.ty tyForm, .ty (.sl .bool)], [(.sl .bool)], fun x => ref18_Relevant x.1 x.2⟩ :=
  fn_ok (xid := XID) (ro := ro12) (H := h12) (fn := Try.f12) (code := bodyOf Try.f12) mixed (tabOk12) Try.func12 rfl (by kernel_rfl) (loops_of (L := [(0, lb 0 Try.f12)]) (by kernel_rfl) (lcons rfl (lo12_0) (lnil))) (fun x => by kernel_rfl)
/-! 13: pantograph/pantographref18.Next -/
noncomputable def tab13 : Tab := [(12, ⟨[.ty tyForm, .ty (.sl .bool)], [(.sl .bool)], fun x => ref18_Relevant x.1 x.2⟩)]
theorem tabOk13 : TabOk Try.prog (tab13) := tabOk_cons ok12 (tabOk_nil _)
def ro13 : Nat → Bool := fun s => Nat.beq s 3
noncomputable def lp13_0 : LoopD := { gh := [], ps := [.s 2 (.imm (.int .i64)), .s 8 (.imm (.sl .bool))], sh := ⟨[.s 9 (.imm (.int .i64))], [], []⟩, ws := [⟨.exit 0, ⟨[], [], []⟩⟩, ⟨.ret, ⟨[.s 6 (.imm (.int .i64)), .s 7 (.imm .bool)], [], []⟩⟩], F := fun p s => ref18_Next_L0 p.1 p.2 s }
noncomputable def h13 : Hints := { loop := fun id => bif Nat.beq id 0 then some (lp13_0) else none, cut := fun k r => bif Nat.beq k 0 && Nat.beq r 5 then some (.flat [.s 27 (.imm .bool)]) else none, frz := fun r => [] }
theorem lo13_0 : LoopOkK Try.prog Try.f13.ntmps (lp13_0) (lb 0 Try.f13) :=
  loop_ok (xid := XID) (ro := ro13) (H := h13) mixed (tabOk13) (loops_of (L := []) (by kernel_rfl) (lnil)) (fun p s => ref18_Next_R0 p.1 p.2 s) (fun p s => by kernel_rfl) (fun p s => rfl)
theorem ok13 : FnOk Try.prog 13 ⟨[.ty tyForm, .ty (.sl .bool), .ty (.int .i64)], [(.int .i64), .bool], fun x => ref18_Next x.1 x.2.1 x.2.2⟩ :=
  fn_ok (xid := XID) (ro := ro13) (H := h13) (fn := Try.f13) (code := bodyOf Try.f13) mixed (tabOk13) Try.func13 rfl (by kernel_rfl) (loops_of (L := [(0, lb 0 Try.f13)]) (by kernel_rfl) (lcons rfl (lo13_0) (lnil))) (fun x => by kernel_rfl)
/-! 14: pantograph/pantographref18.Back -/
noncomputable def tab14 : Tab := [(12, ⟨[.ty tyForm, .ty (.sl .bool)], [(.sl .bool)], fun x => ref18_Relevant x.1 x.2⟩)]
theorem tabOk14 : TabOk Try.prog (tab14) := tabOk_cons ok12 (tabOk_nil _)
def ro14 : Nat → Bool := fun s => Nat.beq s 3
noncomputable def lp14_0 : LoopD := { gh := [], ps := [.s 2 (.imm (.int .i64)), .s 8 (.imm (.sl .bool))], sh := ⟨[.s 9 (.imm (.int .i64))], [], []⟩, ws := [⟨.exit 0, ⟨[], [], []⟩⟩, ⟨.ret, ⟨[.s 6 (.imm (.int .i64)), .s 7 (.imm .bool)], [], []⟩⟩], F := fun p s => ref18_Back_L0 p.1 p.2 s }
noncomputable def h14 : Hints := { loop := fun id => bif Nat.beq id 0 then some (lp14_0) else none, cut := fun k r => bif Nat.beq k 0 && Nat.beq r 5 then some (.flat [.s 28 (.imm .bool)]) else none, frz := fun r => [] }
theorem lo14_0 : LoopOkK Try.prog Try.f14.ntmps (lp14_0) (lb 0 Try.f14) :=
  loop_ok (xid := XID) (ro := ro14) (H := h14) mixed (tabOk14) (loops_of (L := []) (by kernel_rfl) (lnil)) (fun p s => ref18_Back_R0 p.1 p.2 s) (fun p s => by kernel_rfl) (fun p s => rfl)
theorem ok14 : FnOk Try.prog 14 ⟨[.ty tyForm, .ty (.sl .bool), .ty (.int .i64)], [(.int .i64), .bool], fun x => ref18_Back x.1 x.2.1 x.2.2⟩ :=
  fn_ok (xid := XID) (ro := ro14) (H := h14) (fn := Try.f14) (code := bodyOf Try.f14) mixed (tabOk14) Try.func14 rfl (by kernel_rfl) (loops_of (L := [(0, lb 0 Try.f14)]) (by kernel_rfl) (lcons rfl (lo14_0) (lnil))) (fun x => by kernel_rfl)
/-! 23: pantograph/page.Jump$1 -/
noncomputable def tab23 : Tab := []
theorem tabOk23 : TabOk Try.prog (tab23) := tabOk_nil _
def ro23 : Nat → Bool := fun s => Nat.beq s 2
noncomputable def h23 : Hints := { loop := fun id => none, cut := fun k r => none, frz := fun r => [] }
theorem ok23 : FnOk Try.prog 23 ⟨[.ty tyPage, .rp .str], [.bool], fun x => page_Jump_f1 x.1 x.2⟩ :=
  fn_ok (xid := XID) (ro := ro23) (H := h23) (fn := Try.f23) (code := bodyOf Try.f23) mixed (tabOk23) Try.func23 rfl (by kernel_rfl) (loops_of (L := []) (by kernel_rfl) (lnil)) (fun x => by kernel_rfl)
/-! 22: slices.IndexFunc[[]pantograph/api.Page,pantograph/api.Page] -/
noncomputable def tab22 : Tab := [(23, ⟨[.ty tyPage, .rp .str], [.bool], fun x => page_Jump_f1 x.1 x.2⟩)]
theorem tabOk22 : TabOk Try.prog (tab22) := tabOk_cons ok23 (tabOk_nil _)
def ro22 : Nat → Bool := fun s => false
noncomputable def lp22_0 : LoopD := { gh := [], ps := [.s 0 (.imm (.sl tyPage)), .s 1 (.clo 23 [.rp .str]), .s 7 (.imm (.int .i64))], sh := ⟨[.s 8 (.imm (.int .i64))], [], []⟩, ws := [⟨.exit 0, ⟨[], [], []⟩⟩, ⟨.ret, ⟨[.s 4 (.imm (.int .i64))], [], []⟩⟩], F := fun p s => slices_IndexFunc_sl_Page_L0 p.1 (fun z0 => page_Jump_f1 z0 p.2.1) p.2.2 s }
noncomputable def h22 : Hints := { loop := fun id => bif Nat.beq id 0 then some (lp22_0) else none, cut := fun k r => none, frz := fun r => [] }
theorem lo22_0 : LoopOkK Try.prog Try.f22.ntmps (lp22_0) (lb 0 Try.f22) :=
  loop_ok (xid := XID) (ro := ro22) (H := h22) mixed (tabOk22) (loops_of (L := []) (by kernel_rfl) (lnil)) (fun p s => slices_IndexFunc_sl_Page_R0 p.1 (fun z0 => page_Jump_f1 z0 p.2.1) p.2.2 s) (fun p s => by kernel_rfl) (fun p s => rfl)
theorem ok22 : FnOk Try.prog 22 ⟨[.ty (.sl tyPage), .clo 23 [.rp .str]], [(.int .i64)], fun x => slices_IndexFunc_sl_Page x.1 (fun z0 => page_Jump_f1 z0 x.2)⟩ :=
  fn_ok (xid := XID) (ro := ro22) (H := h22) (fn := Try.f22) (code := bodyOf Try.f22) mixed (tabOk22) Try.func22 rfl (by kernel_rfl) (loops_of (L := [(0, lb 0 Try.f22)]) (by kernel_rfl) (lcons rfl (lo22_0) (lnil))) (fun x => by kernel_rfl)
/-! 15: pantograph/page.Jump -/
noncomputable def tab15 : Tab := [(23, ⟨[.ty tyPage, .rp .str], [.bool], fun x => page_Jump_f1 x.1 x.2⟩), (22, ⟨[.ty (.sl tyPage), .clo 23 [.rp .str]], [(.int .i64)], fun x => slices_IndexFunc_sl_Page x.1 (fun z0 => page_Jump_f1 z0 x.2)⟩), (7, ⟨[.ty tyForm, .ty (.sl .bool)], [(.sl .bool)], fun x => page_Relevant x.1 x.2⟩)]
theorem tabOk15 : TabOk Try.prog (tab15) := tabOk_cons ok23 (tabOk_cons ok22 (tabOk_cons ok7 (tabOk_nil _)))
def ro15 : Nat → Bool := fun s => Nat.beq s 3 || Nat.beq s 5
noncomputable def h15 : Hints := { loop := fun id => none, cut := fun k r => none, frz := fun r => [] }
theorem ok15 : FnOk Try.prog 15 ⟨[.ty tyForm, .ty (.sl .bool), .ty .str], [(.int .i64), (.int .i64)], fun x => page_Jump x.1 x.2.1 x.2.2⟩ :=
  fn_ok (xid := XID) (ro := ro15) (H := h15) (fn := Try.f15) (code := bodyOf Try.f15) mixed (tabOk15) Try.func15 rfl (by kernel_rfl) (loops_of (L := []) (by kernel_rfl) (lnil)) (fun x => by kernel_rfl)
/-! 16: pantograph/pantographref18.Jump -/
noncomputable def tab16 : Tab := [(12, ⟨[.ty tyForm, .ty (.sl .bool)], [(.sl .bool)], fun x => ref18_Relevant x.1 x.2⟩)]
theorem tabOk16 : TabOk Try.prog (tab16) := tabOk_cons ok12 (tabOk_nil _)
def ro16 : Nat → Bool := fun s => Nat.beq s 3
noncomputable def lp16_0 : LoopD := { gh := [], ps := [.s 2 (.imm .str), .s 3 (.rptr tyForm), .s 8 (.imm (.sl .bool))], sh := ⟨[.s 9 (.imm (.int .i64))], [], []⟩, ws := [⟨.exit 0, ⟨[], [], []⟩⟩, ⟨.ret, ⟨[.s 6 (.imm (.int .i64)), .s 7 (.imm (.int .i64))], [], []⟩⟩], F := fun p s => ref18_Jump_L0 p.1 p.2.1 p.2.2 s }
noncomputable def h16 : Hints := { loop := fun id => bif Nat.beq id 0 then some (lp16_0) else none, cut := fun k r => none, frz := fun r => [] }
theorem lo16_0 : LoopOkK Try.prog Try.f16.ntmps (lp16_0) (lb 0 Try.f16) :=
  loop_ok (xid := XID) (ro := ro16) (H := h16) mixed (tabOk16) (loops_of (L := []) (by kernel_rfl) (lnil)) (fun p s => ref18_Jump_R0 p.1 p.2.1 p.2.2 s) (fun p s => by kernel_rfl) (fun p s => rfl)
theorem ok16 : FnOk Try.prog 16 ⟨[.ty tyForm, .ty (.sl .bool), .ty .str], [(.int .i64), (.int .i64)], fun x => ref18_Jump x.1 x.2.1 x.2.2⟩ :=
  fn_ok (xid := XID) (ro := ro16) (H := h16) (fn := Try.f16) (code := bodyOf Try.f16) mixed (tabOk16) Try.func16 rfl (by kernel_rfl) (loops_of (L := [(0, lb 0 Try.f16)]) (by kernel_rfl) (lcons rfl (lo16_0) (lnil))) (fun x => by kernel_rfl)
/-! 17: pantograph/pantographref18.Fix -/
noncomputable def tab17 : Tab := [(12, ⟨[.ty tyForm, .ty (.sl .bool)], [(.sl .bool)], fun x => ref18_Relevant x.1 x.2⟩), (14, ⟨[.ty tyForm, .ty (.sl .bool), .ty (.int .i64)], [(.int .i64), .bool], fun x => ref18_Back x.1 x.2.1 x.2.2⟩), (13, ⟨[.ty tyForm, .ty (.sl .bool), .ty (.int .i64)], [(.int .i64), .bool], fun x => ref18_Next x.1 x.2.1 x.2.2⟩)]
theorem tabOk17 : TabOk Try.prog (tab17) := tabOk_cons ok12 (tabOk_cons ok14 (tabOk_cons ok13 (tabOk_nil _)))
def ro17 : Nat → Bool := fun s => Nat.beq s 3
noncomputable def h17 : Hints := { loop := fun id => none, cut := fun k r => bif Nat.beq k 0 && Nat.beq r 2 then some (.flat [.s 26 (.imm .bool)]) else none, frz := fun r => [] }
theorem ok17 : FnOk Try.prog 17 ⟨[.ty tyForm, .ty (.sl .bool), .ty (.int .i64)], [(.int .i64)], fun x => ref18_Fix x.1 x.2.1 x.2.2⟩ :=
  fn_ok (xid := XID) (ro := ro17) (H := h17) (fn := Try.f17) (code := bodyOf Try.f17) mixed (tabOk17) Try.func17 rfl (by kernel_rfl) (loops_of (L := []) (by kernel_rfl) (lnil)) (fun x => by kernel_rfl)
/-! 5: pantograph/pantographlaw18.PageGoes -/
noncomputable def tab5 : Tab := [(6, ⟨[.ty tyForm], [.bool], fun x => law18_long x⟩), (7, ⟨[.ty tyForm, .ty (.sl .bool)], [(.sl .bool)], fun x => page_Relevant x.1 x.2⟩), (12, ⟨[.ty tyForm, .ty (.sl .bool)], [(.sl .bool)], fun x => ref18_Relevant x.1 x.2⟩), (8, ⟨[.ty tyForm, .ty (.sl .bool), .ty (.int .i64)], [(.int .i64), .bool], fun x => page_Next x.1 x.2.1 x.2.2⟩), (13, ⟨[.ty tyForm, .ty (.sl .bool), .ty (.int .i64)], [(.int .i64), .bool], fun x => ref18_Next x.1 x.2.1 x.2.2⟩), (10, ⟨[.ty tyForm, .ty (.sl .bool), .ty (.int .i64)], [(.int .i64), .bool], fun x => page_Back x.1 x.2.1 x.2.2⟩), (14, ⟨[.ty tyForm, .ty (.sl .bool), .ty (.int .i64)], [(.int .i64), .bool], fun x => ref18_Back x.1 x.2.1 x.2.2⟩), (15, ⟨[.ty tyForm, .ty (.sl .bool), .ty .str], [(.int .i64), (.int .i64)], fun x => page_Jump x.1 x.2.1 x.2.2⟩), (16, ⟨[.ty tyForm, .ty (.sl .bool), .ty .str], [(.int .i64), (.int .i64)], fun x => ref18_Jump x.1 x.2.1 x.2.2⟩), (11, ⟨[.ty tyForm, .ty (.sl .bool), .ty (.int .i64)], [(.int .i64)], fun x => page_Fix x.1 x.2.1 x.2.2⟩), (17, ⟨[.ty tyForm, .ty (.sl .bool), .ty (.int .i64)], [(.int .i64)], fun x => ref18_Fix x.1 x.2.1 x.2.2⟩), (9, ⟨[], [.bool], fun _ => law18_known⟩)]
theorem tabOk5 : TabOk Try.prog (tab5) := tabOk_cons ok6 (tabOk_cons ok7 (tabOk_cons ok12 (tabOk_cons ok8 (tabOk_cons ok13 (tabOk_cons ok10 (tabOk_cons ok14 (tabOk_cons ok15 (tabOk_cons ok16 (tabOk_cons ok11 (tabOk_cons ok17 (tabOk_cons ok9 (tabOk_nil _))))))))))))
def ro5 : Nat → Bool := fun s => Nat.beq s 4
noncomputable def lp5_0 : LoopD := { gh := [], ps := [.s 1 (.imm (.sl .bool)), .s 2 (.imm (.int .i64)), .s 3 (.imm .str), .s 4 (.rptr tyForm), .s 9 (.imm (.sl .bool)), .s 10 (.imm (.sl .bool))], sh := ⟨[.s 11 (.imm (.int .i64))], [], []⟩, ws := [⟨.exit 0, ⟨[], [], []⟩⟩, ⟨.ret, ⟨[.s 8 (.imm .bool)], [], []⟩⟩], F := fun p s => law18_PageGoes_L0 p.1 p.2.1 p.2.2.1 p.2.2.2.1 p.2.2.2.2.1 p.2.2.2.2.2 s }
noncomputable def h5 : Hints := { loop := fun id => bif Nat.beq id 0 then some (lp5_0) else none, cut := fun k r => bif Nat.beq k 0 && Nat.beq r 1 then some (.ways [⟨.normal, ⟨[.s 35 (.imm .bool)], [], []⟩⟩]) else none, frz := fun r => [] }
theorem lo5_0 : LoopOkK Try.prog Try.f5.ntmps (lp5_0) (lb 0 Try.f5) :=
  loop_ok (xid := XID) (ro := ro5) (H := h5) mixed (tabOk5) (loops_of (L := []) (by kernel_rfl) (lnil)) (fun p s => law18_PageGoes_R0 p.1 p.2.1 p.2.2.1 p.2.2.2.1 p.2.2.2.2.1 p.2.2.2.2.2 s) (fun p s => by kernel_rfl) (fun p s => rfl)
theorem ok5 : FnOk Try.prog 5 ⟨[.ty tyForm, .ty (.sl .bool), .ty (.int .i64), .ty .str], [.bool], fun x => law18_PageGoes x.1 x.2.1 x.2.2.1 x.2.2.2⟩ :=
  fn_ok (xid := XID) (ro := ro5) (H := h5) (fn := Try.f5) (code := bodyOf Try.f5) mixed (tabOk5) Try.func5 rfl (by kernel_rfl) (loops_of (L := [(0, lb 0 Try.f5)]) (by kernel_rfl) (lcons rfl (lo5_0) (lnil))) (fun x => by kernel_rfl)
end Go.AM.Lf
