/-
  The walk, part 0: each function of the program is the tree that the lifted text says; printed by a program of ours.
-/
import Derived.Test.YtehllfdnkcoehaaGreatDoorProg
import Derived.KernelRfl
import Derived.Test.YtehllfdnkcoehaaGreatDoorAmD
import Derived.Test.YtehllfdnkcoehaaGreatDoorLf0
import Derived.Lib.Builder
import Derived.Shelf.Strings.Builder1
import Derived.WalkKit
import Derived.TacticsInMore
import Derived.Test.YtehllfdnkcoehaaGreatDoorSh
set_option linter.unusedVariables false
set_option maxRecDepth 100000
namespace Go.AM.Lf
open Go.Proofs
abbrev XID : Nat := 1000
noncomputable def bodyOf (f : Func) : Code := match f.body with | some c => c | none => .skip
noncomputable def lb (k : Nat) (f : Func) : Code := match loopAt k (bodyOf f) with | some c => c | none => .skip
theorem mixed : Tryz.prog.follows .mixedOrders = true := by kernel_rfl
instance : Glob := { u8 := 5, tab := [(0, isInt1 .i64)] }
theorem glob_internal_bytealg_MaxLen {κ : KS} (hI : Inv κ) : ∃ m, κ.w.cell? ⟨0, 0, none⟩ = some (.int .i64 m) :=
  int1_cell (hI.gl (0, isInt1 .i64) (by simp [Glob.tab])).2
/-! 4: pantograph/pantographlaw21.long -/
noncomputable def tab4 : Tab := []
theorem tabOk4 : TabOk Tryz.prog (tab4) := tabOk_nil _
def ro4 : Nat → Bool := fun s => false
noncomputable def lp4_0 : LoopD := { gh := [], ps := [.s 0 (.imm (.sl tyrecord_Item))], sh := ⟨[.s 3 (.imm (.int .i64))], [], []⟩, ws := [⟨.exit 0, ⟨[], [], []⟩⟩, ⟨.ret, ⟨[.s 2 (.imm .bool)], [], []⟩⟩], F := fun p s => law21_long_L0 p s }
noncomputable def h4 : Hints := { loop := fun id => bif Nat.beq id 0 then some (lp4_0) else none, cut := fun k r => bif Nat.beq k 0 && Nat.beq r 4 then some (.flat [.s 40 (.imm .bool)]) else none, frz := fun r => [] }
theorem lo4_0 : LoopOkK Tryz.prog Tryz.f4.ntmps (lp4_0) (lb 0 Tryz.f4) :=
  loop_ok (xid := XID) (ro := ro4) (H := h4) mixed (tabOk4) (loops_of (L := []) (by kernel_rfl) (lnil)) (fun p s => law21_long_R0 p s) (fun p s => by kernel_rfl) (fun p s => rfl)
theorem ok4 : FnOk Tryz.prog 4 ⟨[.ty (.sl tyrecord_Item)], [.bool], fun x => law21_long x⟩ :=
  fn_ok (xid := XID) (ro := ro4) (H := h4) (fn := Tryz.f4) (code := bodyOf Tryz.f4) mixed (tabOk4) Tryz.func4 rfl (by kernel_rfl) (loops_of (L := [(0, lb 0 Tryz.f4)]) (by kernel_rfl) (lcons rfl (lo4_0) (lnil))) (fun x => by kernel_rfl)
/-! 12: strings.Cut, by the shelf -/
theorem ok12 : FnOk Tryz.prog 12 ⟨[.ty .str, .ty .str], [.str, .str, .bool], fun x => strings_Cut x.1 x.2⟩ := by
  refine fn_of_calls Tryz.func12 (by kernel_rfl) rfl fun κ x cargs y hy hI ha => ?_
  obtain ⟨s, sep⟩ := x
  obtain ⟨h0, hy⟩ := hy
  cases hy
  obtain ⟨v0, r, rfl, ha0, ha⟩ := RDs.cons_inv (show RDs κ [.imm .str s, .imm .str sep] cargs from ha)
  obtain ⟨v1, r, rfl, ha1, ha⟩ := ha.cons_inv
  rw [ha.nil_inv, ha0.str_inv, ha1.str_inv]
  obtain ⟨m, hm⟩ := glob_internal_bytealg_MaxLen hI
  refine (Go.Proofs.Tryz.strings_Cut ⟨s.toArray⟩ ⟨sep.toArray⟩ m κ.w (by rw [show (ByteArray.size ⟨s.toArray⟩) = List.length s from List.size_toArray]; exact h0) hm).mono ?_
  rintro e w' ⟨rfl, n, rfl⟩
  refine ⟨below_drewN _ _, fun _ => ⟨_, rfl, ?_⟩⟩
  rw [show Lib.cut (⟨s.toArray⟩ : ByteArray).data.toList (⟨sep.toArray⟩ : ByteArray).data.toList = cutSt s sep from cutSt_eq s sep]
  exact RD.tup3 RD.str RD.str RD.bool
/-! 22: strings.CutPrefix, by the shelf -/
theorem ok22 : FnOk Tryz.prog 22 ⟨[.ty .str, .ty .str], [.str, .bool], fun x => strings_CutPrefix x.1 x.2⟩ := by
  refine fn_of_calls Tryz.func22 (by kernel_rfl) rfl fun κ x cargs y hy hI ha => ?_
  obtain ⟨s, p⟩ := x
  cases hy
  obtain ⟨v0, r, rfl, ha0, ha⟩ := RDs.cons_inv (show RDs κ [.imm .str s, .imm .str p] cargs from ha)
  obtain ⟨v1, r, rfl, ha1, ha⟩ := ha.cons_inv
  rw [ha.nil_inv, ha0.str_inv, ha1.str_inv]
  refine (Go.Proofs.Tryz.strings_CutPrefix ⟨s.toArray⟩ ⟨p.toArray⟩ κ.w).mono ?_
  rintro e w' ⟨rfl, rfl⟩
  refine ⟨below_self _, fun _ => ⟨_, rfl, ?_⟩⟩
  exact RD.tup2 RD.str RD.bool
/-! 72: strings.trimRightByte -/
noncomputable def tab72 : Tab := []
theorem tabOk72 : TabOk Tryz.prog (tab72) := tabOk_nil _
def ro72 : Nat → Bool := fun s => false
noncomputable def lp72_0 : LoopD := { gh := [], ps := [.s 1 (.imm (.int .u8))], sh := ⟨[.s 0 (.imm .str)], [], []⟩, ws := [⟨.exit 0, ⟨[.s 0 (.imm .str)], [], []⟩⟩], F := fun p s => strings_trimRightByte_L0 p s }
noncomputable def h72 : Hints := { loop := fun id => bif Nat.beq id 0 then some (lp72_0) else none, cut := fun k r => bif Nat.beq k 0 && Nat.beq r 1 then some (.flat [.s 16 (.imm .bool)]) else none, frz := fun r => [] }
theorem lo72_0 : LoopOkK Tryz.prog Tryz.f72.ntmps (lp72_0) (lb 0 Tryz.f72) :=
  loop_ok (xid := XID) (ro := ro72) (H := h72) mixed (tabOk72) (loops_of (L := []) (by kernel_rfl) (lnil)) (fun p s => strings_trimRightByte_R0 p s) (fun p s => by kernel_rfl) (fun p s => rfl)
theorem ok72 : FnOk Tryz.prog 72 ⟨[.ty .str, .ty (.int .u8)], [.str], fun x => strings_trimRightByte x.1 x.2⟩ :=
  fn_ok (xid := XID) (ro := ro72) (H := h72) (fn := Tryz.f72) (code := bodyOf Tryz.f72) mixed (tabOk72) Tryz.func72 rfl (by kernel_rfl) (loops_of (L := [(0, lb 0 Tryz.f72)]) (by kernel_rfl) (lcons rfl (lo72_0) (lnil))) (fun x => by kernel_rfl)
/-! 71: strings.trimLeftByte -/
noncomputable def tab71 : Tab := []
theorem tabOk71 : TabOk Tryz.prog (tab71) := tabOk_nil _
def ro71 : Nat → Bool := fun s => false
noncomputable def lp71_0 : LoopD := { gh := [], ps := [.s 1 (.imm (.int .u8))], sh := ⟨[.s 0 (.imm .str)], [], []⟩, ws := [⟨.exit 0, ⟨[.s 0 (.imm .str)], [], []⟩⟩], F := fun p s => strings_trimLeftByte_L0 p s }
noncomputable def h71 : Hints := { loop := fun id => bif Nat.beq id 0 then some (lp71_0) else none, cut := fun k r => bif Nat.beq k 0 && Nat.beq r 1 then some (.flat [.s 13 (.imm .bool)]) else none, frz := fun r => [] }
theorem lo71_0 : LoopOkK Tryz.prog Tryz.f71.ntmps (lp71_0) (lb 0 Tryz.f71) :=
  loop_ok (xid := XID) (ro := ro71) (H := h71) mixed (tabOk71) (loops_of (L := []) (by kernel_rfl) (lnil)) (fun p s => strings_trimLeftByte_R0 p s) (fun p s => by kernel_rfl) (fun p s => rfl)
theorem ok71 : FnOk Tryz.prog 71 ⟨[.ty .str, .ty (.int .u8)], [.str], fun x => strings_trimLeftByte x.1 x.2⟩ :=
  fn_ok (xid := XID) (ro := ro71) (H := h71) (fn := Tryz.f71) (code := bodyOf Tryz.f71) mixed (tabOk71) Tryz.func71 rfl (by kernel_rfl) (loops_of (L := [(0, lb 0 Tryz.f71)]) (by kernel_rfl) (lcons rfl (lo71_0) (lnil))) (fun x => by kernel_rfl)
/-! 73: strings.makeASCIISet, by the shelf -/
theorem ok73 : FnOk Tryz.prog 73 ⟨[.ty .str], [(arrN .bool 256), .bool], fun x => strings_makeASCIISet x⟩ := by
  refine fn_of_calls Tryz.func73 (by kernel_rfl) rfl fun κ s cargs y hy hI ha => ?_
  obtain ⟨⟨h0, h1⟩, hy⟩ := hy
  cases hy
  obtain ⟨v0, r, rfl, ha0, ha⟩ := RDs.cons_inv (show RDs κ [.imm .str s] cargs from ha)
  rw [ha.nil_inv, ha0.str_inv]
  refine (Go.Proofs.Tryz.strings_makeASCIISet (fun _ => by kernel_rfl) ⟨s.toArray⟩ κ.w (by rw [show (ByteArray.size ⟨s.toArray⟩) = List.length s from List.size_toArray]; exact h0) (by simpa using h1)).mono ?_
  rintro e w' ⟨rfl, rfl⟩
  refine ⟨below_alloc _ _, fun _ => ⟨_, rfl, ?_⟩⟩
  exact RD.tup2 (ascii_rd s) RD.bool
/-! 90: (*strings.asciiSet).contains -/
noncomputable def tab90 : Tab := []
theorem tabOk90 : TabOk Tryz.prog (tab90) := tabOk_nil _
def ro90 : Nat → Bool := fun s => false
noncomputable def h90 : Hints := { loop := fun id => none, cut := fun k r => none, frz := fun r => [] }
theorem ok90 : FnOk Tryz.prog 90 ⟨[.rp (arrN .bool 256), .ty (.int .u8)], [.bool], fun x => strings_asciiSet_contains x.1 x.2⟩ :=
  fn_ok (xid := XID) (ro := ro90) (H := h90) (fn := Tryz.f90) (code := bodyOf Tryz.f90) mixed (tabOk90) Tryz.func90 rfl (by kernel_rfl) (loops_of (L := []) (by kernel_rfl) (lnil)) (fun x => by kernel_rfl)
/-! 75: strings.trimRightASCII -/
noncomputable def tab75 : Tab := [(90, .d ⟨[.rp (arrN .bool 256), .ty (.int .u8)], [.bool], fun x => strings_asciiSet_contains x.1 x.2⟩)]
theorem tabOk75 : TabOk Tryz.prog (tab75) := tabOk_cons ok90 (tabOk_nil _)
def ro75 : Nat → Bool := fun s => false
noncomputable def lp75_0 : LoopD := { gh := [], ps := [.s 1 (.rptr (arrN .bool 256))], sh := ⟨[.s 0 (.imm .str)], [], []⟩, ws := [⟨.exit 0, ⟨[.s 0 (.imm .str)], [], []⟩⟩], F := fun p s => strings_trimRightASCII_L0 p s }
noncomputable def h75 : Hints := { loop := fun id => bif Nat.beq id 0 then some (lp75_0) else none, cut := fun k r => none, frz := fun r => [] }
theorem lo75_0 : LoopOkK Tryz.prog Tryz.f75.ntmps (lp75_0) (lb 0 Tryz.f75) :=
  loop_ok (xid := XID) (ro := ro75) (H := h75) mixed (tabOk75) (loops_of (L := []) (by kernel_rfl) (lnil)) (fun p s => strings_trimRightASCII_R0 p s) (fun p s => by kernel_rfl) (fun p s => rfl)
theorem ok75 : FnOk Tryz.prog 75 ⟨[.ty .str, .rp (arrN .bool 256)], [.str], fun x => strings_trimRightASCII x.1 x.2⟩ :=
  fn_ok (xid := XID) (ro := ro75) (H := h75) (fn := Tryz.f75) (code := bodyOf Tryz.f75) mixed (tabOk75) Tryz.func75 rfl (by kernel_rfl) (loops_of (L := [(0, lb 0 Tryz.f75)]) (by kernel_rfl) (lcons rfl (lo75_0) (lnil))) (fun x => by kernel_rfl)
/-! 74: strings.trimLeftASCII -/
noncomputable def tab74 : Tab := [(90, .d ⟨[.rp (arrN .bool 256), .ty (.int .u8)], [.bool], fun x => strings_asciiSet_contains x.1 x.2⟩)]
theorem tabOk74 : TabOk Tryz.prog (tab74) := tabOk_cons ok90 (tabOk_nil _)
def ro74 : Nat → Bool := fun s => false
noncomputable def lp74_0 : LoopD := { gh := [], ps := [.s 1 (.rptr (arrN .bool 256))], sh := ⟨[.s 0 (.imm .str)], [], []⟩, ws := [⟨.exit 0, ⟨[.s 0 (.imm .str)], [], []⟩⟩], F := fun p s => strings_trimLeftASCII_L0 p s }
noncomputable def h74 : Hints := { loop := fun id => bif Nat.beq id 0 then some (lp74_0) else none, cut := fun k r => none, frz := fun r => [] }
theorem lo74_0 : LoopOkK Tryz.prog Tryz.f74.ntmps (lp74_0) (lb 0 Tryz.f74) :=
  loop_ok (xid := XID) (ro := ro74) (H := h74) mixed (tabOk74) (loops_of (L := []) (by kernel_rfl) (lnil)) (fun p s => strings_trimLeftASCII_R0 p s) (fun p s => by kernel_rfl) (fun p s => rfl)
theorem ok74 : FnOk Tryz.prog 74 ⟨[.ty .str, .rp (arrN .bool 256)], [.str], fun x => strings_trimLeftASCII x.1 x.2⟩ :=
  fn_ok (xid := XID) (ro := ro74) (H := h74) (fn := Tryz.f74) (code := bodyOf Tryz.f74) mixed (tabOk74) Tryz.func74 rfl (by kernel_rfl) (loops_of (L := [(0, lb 0 Tryz.f74)]) (by kernel_rfl) (lcons rfl (lo74_0) (lnil))) (fun x => by kernel_rfl)
/-! 42: strings.Trim -/
noncomputable def tab42 : Tab := [(72, .d ⟨[.ty .str, .ty (.int .u8)], [.str], fun x => strings_trimRightByte x.1 x.2⟩), (71, .d ⟨[.ty .str, .ty (.int .u8)], [.str], fun x => strings_trimLeftByte x.1 x.2⟩), (73, .d ⟨[.ty .str], [(arrN .bool 256), .bool], fun x => strings_makeASCIISet x⟩), (75, .d ⟨[.ty .str, .rp (arrN .bool 256)], [.str], fun x => strings_trimRightASCII x.1 x.2⟩), (74, .d ⟨[.ty .str, .rp (arrN .bool 256)], [.str], fun x => strings_trimLeftASCII x.1 x.2⟩)]
theorem tabOk42 : TabOk Tryz.prog (tab42) := tabOk_cons ok72 (tabOk_cons ok71 (tabOk_cons ok73 (tabOk_cons ok75 (tabOk_cons ok74 (tabOk_nil _)))))
def ro42 : Nat → Bool := fun s => false
noncomputable def h42 : Hints := { loop := fun id => none, cut := fun k r => bif Nat.beq k 0 && Nat.beq r 1 then some (.flat [.s 12 (.imm .bool)]) else bif Nat.beq k 0 && Nat.beq r 3 then some (.flat [.s 21 (.imm .bool)]) else none, frz := fun r => [] }
theorem ok42 : FnOk Tryz.prog 42 ⟨[.ty .str, .ty .str], [.str], fun x => strings_Trim x.1 x.2⟩ :=
  fn_ok (xid := XID) (ro := ro42) (H := h42) (fn := Tryz.f42) (code := bodyOf Tryz.f42) mixed (tabOk42) Tryz.func42 rfl (by kernel_rfl) (loops_of (L := []) (by kernel_rfl) (lnil)) (fun x => by kernel_rfl)
/-! 83: pantograph/nat.Is -/
noncomputable def tab83 : Tab := []
theorem tabOk83 : TabOk Tryz.prog (tab83) := tabOk_nil _
def ro83 : Nat → Bool := fun s => false
noncomputable def h83 : Hints := { loop := fun id => none, cut := fun k r => bif Nat.beq k 0 && Nat.beq r 1 then some (.flat [.s 2 (.imm .bool)]) else none, frz := fun r => [] }
theorem ok83 : FnOk Tryz.prog 83 ⟨[.ty (.sl (.int .u32))], [.bool], fun x => nat_Is x⟩ :=
  fn_ok (xid := XID) (ro := ro83) (H := h83) (fn := Tryz.f83) (code := bodyOf Tryz.f83) mixed (tabOk83) Tryz.func83 rfl (by kernel_rfl) (loops_of (L := []) (by kernel_rfl) (lnil)) (fun x => by kernel_rfl)
/-! 61: pantograph/nat.trim -/
noncomputable def tab61 : Tab := [(83, .d ⟨[.ty (.sl (.int .u32))], [.bool], fun x => nat_Is x⟩)]
theorem tabOk61 : TabOk Tryz.prog (tab61) := tabOk_cons ok83 (tabOk_nil _)
def ro61 : Nat → Bool := fun s => false
noncomputable def lp61_0 : LoopD := { gh := [], ps := [], sh := ⟨[.s 0 (.imm (.sl (.int .u32)))], [], []⟩, ws := [⟨.exit 0, ⟨[.s 0 (.imm (.sl (.int .u32)))], [], []⟩⟩], F := fun p s => nat_trim_L0  s }
noncomputable def h61 : Hints := { loop := fun id => bif Nat.beq id 0 then some (lp61_0) else none, cut := fun k r => none, frz := fun r => [] }
theorem lo61_0 : LoopOkK Tryz.prog Tryz.f61.ntmps (lp61_0) (lb 0 Tryz.f61) :=
  loop_ok (xid := XID) (ro := ro61) (H := h61) mixed (tabOk61) (loops_of (L := []) (by kernel_rfl) (lnil)) (fun p s => nat_trim_R0  s) (fun p s => by kernel_rfl) (fun p s => rfl)
theorem ok61 : FnOk Tryz.prog 61 ⟨[.ty (.sl (.int .u32))], [(.sl (.int .u32))], fun x => nat_trim x⟩ :=
  fn_ok (xid := XID) (ro := ro61) (H := h61) (fn := Tryz.f61) (code := bodyOf Tryz.f61) mixed (tabOk61) Tryz.func61 rfl (by kernel_rfl) (loops_of (L := [(0, lb 0 Tryz.f61)]) (by kernel_rfl) (lcons rfl (lo61_0) (lnil))) (fun x => by kernel_rfl)
/-! 44: pantograph/nat.Mul -/
noncomputable def tab44 : Tab := [(61, .d ⟨[.ty (.sl (.int .u32))], [(.sl (.int .u32))], fun x => nat_trim x⟩)]
theorem tabOk44 : TabOk Tryz.prog (tab44) := tabOk_cons ok61 (tabOk_nil _)
def ro44 : Nat → Bool := fun s => false
noncomputable def lp44_2 : LoopD := { gh := [], ps := [.s 1 (.imm (.sl (.int .u32))), .s 6 (.imm (.int .i64)), .s 7 (.imm (.int .u32)), .s 21 (.imm (.sl (.int .u32))), .s 22 (.imm (.int .i64)), .s 23 (.imm (.int .i64)), .s 28 (.imm (.sl (.int .u32))), .s 29 (.imm (.int .i64))], sh := ⟨[.s 8 (.imm (.int .u64)), .s 30 (.imm (.int .i64)), .a (.int .u32)], [(5, .cur 0 (.int .u32))], [.arr (.int .u32)]⟩, ws := [⟨.exit 2, ⟨[.s 8 (.imm (.int .u64)), .a (.int .u32)], [(5, .cur 0 (.int .u32))], [.arr (.int .u32)]⟩⟩], F := fun p s => nat_Mul_L1 p.1 p.2.1 p.2.2.1 p.2.2.2.1 p.2.2.2.2.1 p.2.2.2.2.2.1 p.2.2.2.2.2.2.1 p.2.2.2.2.2.2.2 s }
noncomputable def lp44_0 : LoopD := { gh := [], ps := [.s 1 (.imm (.sl (.int .u32))), .s 21 (.imm (.sl (.int .u32))), .s 22 (.imm (.int .i64))], sh := ⟨[.s 23 (.imm (.int .i64)), .a (.int .u32)], [(5, .cur 0 (.int .u32))], [.arr (.int .u32)]⟩, ws := [⟨.exit 0, ⟨[.a (.int .u32)], [(5, .cur 0 (.int .u32))], [.arr (.int .u32)]⟩⟩], F := fun p s => nat_Mul_L0 p.1 p.2.1 p.2.2 s }
noncomputable def h44 : Hints := { loop := fun id => bif Nat.beq id 2 then some (lp44_2) else bif Nat.beq id 0 then some (lp44_0) else none, cut := fun k r => none, frz := fun r => bif Nat.beq r 16 then [5] else [] }
theorem lo44_2 : LoopOkK Tryz.prog Tryz.f44.ntmps (lp44_2) (lb 2 Tryz.f44) :=
  loop_ok (xid := XID) (ro := ro44) (H := h44) mixed (tabOk44) (loops_of (L := []) (by kernel_rfl) (lnil)) (fun p s => nat_Mul_R1 p.1 p.2.1 p.2.2.1 p.2.2.2.1 p.2.2.2.2.1 p.2.2.2.2.2.1 p.2.2.2.2.2.2.1 p.2.2.2.2.2.2.2 s) (fun p s => by kernel_rfl) (fun p s => rfl)
theorem lo44_0 : LoopOkK Tryz.prog Tryz.f44.ntmps (lp44_0) (lb 0 Tryz.f44) :=
  loop_ok (xid := XID) (ro := ro44) (H := h44) mixed (tabOk44) (loops_of (L := [(2, lb 2 Tryz.f44)]) (by kernel_rfl) (lcons rfl (lo44_2) (lnil))) (fun p s => nat_Mul_R0 p.1 p.2.1 p.2.2 s) (fun p s => by kernel_rfl) (fun p s => rfl)
theorem ok44 : FnOk Tryz.prog 44 ⟨[.ty (.sl (.int .u32)), .ty (.sl (.int .u32))], [(.sl (.int .u32))], fun x => nat_Mul x.1 x.2⟩ :=
  fn_ok (xid := XID) (ro := ro44) (H := h44) (fn := Tryz.f44) (code := bodyOf Tryz.f44) mixed (tabOk44) Tryz.func44 rfl (by kernel_rfl) (loops_of (L := [(0, lb 0 Tryz.f44)]) (by kernel_rfl) (lcons rfl (lo44_0) (lnil))) (fun x => by kernel_rfl)
/-! 35: pantograph/nat.Of -/
noncomputable def tab35 : Tab := [(61, .d ⟨[.ty (.sl (.int .u32))], [(.sl (.int .u32))], fun x => nat_trim x⟩)]
theorem tabOk35 : TabOk Tryz.prog (tab35) := tabOk_cons ok61 (tabOk_nil _)
def ro35 : Nat → Bool := fun s => false
noncomputable def h35 : Hints := { loop := fun id => none, cut := fun k r => none, frz := fun r => [] }
theorem ok35 : FnOk Tryz.prog 35 ⟨[.ty (.int .u64)], [(.sl (.int .u32))], fun x => nat_Of x⟩ :=
  fn_ok (xid := XID) (ro := ro35) (H := h35) (fn := Tryz.f35) (code := bodyOf Tryz.f35) mixed (tabOk35) Tryz.func35 rfl (by kernel_rfl) (loops_of (L := []) (by kernel_rfl) (lnil)) (fun x => by kernel_rfl)
/-! 43: pantograph/nat.Add -/
noncomputable def tab43 : Tab := [(61, .d ⟨[.ty (.sl (.int .u32))], [(.sl (.int .u32))], fun x => nat_trim x⟩)]
theorem tabOk43 : TabOk Tryz.prog (tab43) := tabOk_cons ok61 (tabOk_nil _)
def ro43 : Nat → Bool := fun s => false
noncomputable def lp43_0 : LoopD := { gh := [], ps := [.s 0 (.imm (.sl (.int .u32))), .s 1 (.imm (.sl (.int .u32))), .s 24 (.imm (.sl (.int .u32))), .s 25 (.imm (.int .i64))], sh := ⟨[.s 6 (.imm (.int .u64)), .s 26 (.imm (.int .i64)), .a (.int .u32)], [(5, .cur 0 (.int .u32))], [.arr (.int .u32)]⟩, ws := [⟨.exit 0, ⟨[.s 6 (.imm (.int .u64)), .a (.int .u32)], [(5, .cur 0 (.int .u32))], [.arr (.int .u32)]⟩⟩], F := fun p s => nat_Add_L0 p.1 p.2.1 p.2.2.1 p.2.2.2 s }
noncomputable def h43 : Hints := { loop := fun id => bif Nat.beq id 0 then some (lp43_0) else none, cut := fun k r => bif Nat.beq k 3 && Nat.beq r 2 then some (.flat [.s 0 (.imm (.sl (.int .u32))), .s 1 (.imm (.sl (.int .u32)))]) else bif Nat.beq k 3 && Nat.beq r 10 then some (.flat [.s 6 (.imm (.int .u64))]) else none, frz := fun r => bif Nat.beq r 16 then [5] else [] }
theorem lo43_0 : LoopOkK Tryz.prog Tryz.f43.ntmps (lp43_0) (lb 0 Tryz.f43) :=
  loop_ok (xid := XID) (ro := ro43) (H := h43) mixed (tabOk43) (loops_of (L := []) (by kernel_rfl) (lnil)) (fun p s => nat_Add_R0 p.1 p.2.1 p.2.2.1 p.2.2.2 s) (fun p s => by kernel_rfl) (fun p s => rfl)
theorem ok43 : FnOk Tryz.prog 43 ⟨[.ty (.sl (.int .u32)), .ty (.sl (.int .u32))], [(.sl (.int .u32))], fun x => nat_Add x.1 x.2⟩ :=
  fn_ok (xid := XID) (ro := ro43) (H := h43) (fn := Tryz.f43) (code := bodyOf Tryz.f43) mixed (tabOk43) Tryz.func43 rfl (by kernel_rfl) (loops_of (L := [(0, lb 0 Tryz.f43)]) (by kernel_rfl) (lcons rfl (lo43_0) (lnil))) (fun x => by kernel_rfl)
/-! 23: pantograph/nat.Parse -/
noncomputable def tab23 : Tab := [(42, .d ⟨[.ty .str, .ty .str], [.str], fun x => strings_Trim x.1 x.2⟩), (44, .d ⟨[.ty (.sl (.int .u32)), .ty (.sl (.int .u32))], [(.sl (.int .u32))], fun x => nat_Mul x.1 x.2⟩), (35, .d ⟨[.ty (.int .u64)], [(.sl (.int .u32))], fun x => nat_Of x⟩), (43, .d ⟨[.ty (.sl (.int .u32)), .ty (.sl (.int .u32))], [(.sl (.int .u32))], fun x => nat_Add x.1 x.2⟩)]
theorem tabOk23 : TabOk Tryz.prog (tab23) := tabOk_cons ok42 (tabOk_cons ok44 (tabOk_cons ok35 (tabOk_cons ok43 (tabOk_nil _))))
def ro23 : Nat → Bool := fun s => false
noncomputable def lp23_0 : LoopD := { gh := [], ps := [.s 0 (.imm .str), .s 19 (.imm (.int .i64))], sh := ⟨[.s 4 (.imm (.sl (.int .u32))), .s 20 (.imm (.int .i64))], [], []⟩, ws := [⟨.exit 0, ⟨[.s 4 (.imm (.sl (.int .u32)))], [], []⟩⟩], F := fun p s => nat_Parse_L0 p.1 p.2 s }
noncomputable def h23 : Hints := { loop := fun id => bif Nat.beq id 0 then some (lp23_0) else none, cut := fun k r => bif Nat.beq k 0 && Nat.beq r 1 then some (.ways [⟨.normal, ⟨[.s 17 (.imm .bool)], [], []⟩⟩]) else none, frz := fun r => [] }
theorem lo23_0 : LoopOkK Tryz.prog Tryz.f23.ntmps (lp23_0) (lb 0 Tryz.f23) :=
  loop_ok (xid := XID) (ro := ro23) (H := h23) mixed (tabOk23) (loops_of (L := []) (by kernel_rfl) (lnil)) (fun p s => nat_Parse_R0 p.1 p.2 s) (fun p s => by kernel_rfl) (fun p s => rfl)
theorem ok23 : FnOk Tryz.prog 23 ⟨[.ty .str], [(.sl (.int .u32)), .bool], fun x => nat_Parse x⟩ :=
  fn_ok (xid := XID) (ro := ro23) (H := h23) (fn := Tryz.f23) (code := bodyOf Tryz.f23) mixed (tabOk23) Tryz.func23 rfl (by kernel_rfl) (loops_of (L := [(0, lb 0 Tryz.f23)]) (by kernel_rfl) (lcons rfl (lo23_0) (lnil))) (fun x => by kernel_rfl)
/-! 25: pantograph/dec.ten -/
noncomputable def tab25 : Tab := [(35, .d ⟨[.ty (.int .u64)], [(.sl (.int .u32))], fun x => nat_Of x⟩), (44, .d ⟨[.ty (.sl (.int .u32)), .ty (.sl (.int .u32))], [(.sl (.int .u32))], fun x => nat_Mul x.1 x.2⟩)]
theorem tabOk25 : TabOk Tryz.prog (tab25) := tabOk_cons ok35 (tabOk_cons ok44 (tabOk_nil _))
def ro25 : Nat → Bool := fun s => false
noncomputable def lp25_0 : LoopD := { gh := [], ps := [.s 5 (.imm (.int .i64))], sh := ⟨[.s 3 (.imm (.sl (.int .u32))), .s 6 (.imm (.int .i64))], [], []⟩, ws := [⟨.exit 0, ⟨[.s 3 (.imm (.sl (.int .u32)))], [], []⟩⟩], F := fun p s => dec_ten_L0 p s }
noncomputable def h25 : Hints := { loop := fun id => bif Nat.beq id 0 then some (lp25_0) else none, cut := fun k r => none, frz := fun r => [] }
theorem lo25_0 : LoopOkK Tryz.prog Tryz.f25.ntmps (lp25_0) (lb 0 Tryz.f25) :=
  loop_ok (xid := XID) (ro := ro25) (H := h25) mixed (tabOk25) (loops_of (L := []) (by kernel_rfl) (lnil)) (fun p s => dec_ten_R0 p s) (fun p s => by kernel_rfl) (fun p s => rfl)
theorem ok25 : FnOk Tryz.prog 25 ⟨[.ty (.int .i64)], [(.sl (.int .u32))], fun x => dec_ten x⟩ :=
  fn_ok (xid := XID) (ro := ro25) (H := h25) (fn := Tryz.f25) (code := bodyOf Tryz.f25) mixed (tabOk25) Tryz.func25 rfl (by kernel_rfl) (loops_of (L := [(0, lb 0 Tryz.f25)]) (by kernel_rfl) (lcons rfl (lo25_0) (lnil))) (fun x => by kernel_rfl)
/-! 78: slices.Clone[[]uint32,uint32] -/
noncomputable def tab78 : Tab := []
theorem tabOk78 : TabOk Tryz.prog (tab78) := tabOk_nil _
def ro78 : Nat → Bool := fun s => false
noncomputable def h78 : Hints := { loop := fun id => none, cut := fun k r => bif Nat.beq k 0 && Nat.beq r 1 then some (.nilt) else none, frz := fun r => [] }
theorem ok78 : FnOk Tryz.prog 78 ⟨[.ty (.sl (.int .u32))], [(.sl (.int .u32))], fun x => slices_Clone_sl_uint32 x⟩ :=
  fn_ok (xid := XID) (ro := ro78) (H := h78) (fn := Tryz.f78) (code := bodyOf Tryz.f78) mixed (tabOk78) Tryz.func78 rfl (by kernel_rfl) (loops_of (L := []) (by kernel_rfl) (lnil)) (fun x => by kernel_rfl)
/-! 45: pantograph/nat.Trim -/
noncomputable def tab45 : Tab := [(61, .d ⟨[.ty (.sl (.int .u32))], [(.sl (.int .u32))], fun x => nat_trim x⟩), (78, .d ⟨[.ty (.sl (.int .u32))], [(.sl (.int .u32))], fun x => slices_Clone_sl_uint32 x⟩)]
theorem tabOk45 : TabOk Tryz.prog (tab45) := tabOk_cons ok61 (tabOk_cons ok78 (tabOk_nil _))
def ro45 : Nat → Bool := fun s => false
noncomputable def h45 : Hints := { loop := fun id => none, cut := fun k r => none, frz := fun r => [] }
theorem ok45 : FnOk Tryz.prog 45 ⟨[.ty (.sl (.int .u32))], [(.sl (.int .u32))], fun x => nat_Trim x⟩ :=
  fn_ok (xid := XID) (ro := ro45) (H := h45) (fn := Tryz.f45) (code := bodyOf Tryz.f45) mixed (tabOk45) Tryz.func45 rfl (by kernel_rfl) (loops_of (L := []) (by kernel_rfl) (lnil)) (fun x => by kernel_rfl)
/-! 34: pantograph/nat.Cmp -/
noncomputable def tab34 : Tab := [(61, .d ⟨[.ty (.sl (.int .u32))], [(.sl (.int .u32))], fun x => nat_trim x⟩)]
theorem tabOk34 : TabOk Tryz.prog (tab34) := tabOk_cons ok61 (tabOk_nil _)
def ro34 : Nat → Bool := fun s => false
noncomputable def lp34_0 : LoopD := { gh := [], ps := [.s 0 (.imm (.sl (.int .u32))), .s 1 (.imm (.sl (.int .u32)))], sh := ⟨[.s 5 (.imm (.int .i64))], [], []⟩, ws := [⟨.exit 0, ⟨[], [], []⟩⟩, ⟨.ret, ⟨[.s 4 (.imm (.int .i64))], [], []⟩⟩], F := fun p s => nat_Cmp_L0 p.1 p.2 s }
noncomputable def h34 : Hints := { loop := fun id => bif Nat.beq id 0 then some (lp34_0) else none, cut := fun k r => none, frz := fun r => [] }
theorem lo34_0 : LoopOkK Tryz.prog Tryz.f34.ntmps (lp34_0) (lb 0 Tryz.f34) :=
  loop_ok (xid := XID) (ro := ro34) (H := h34) mixed (tabOk34) (loops_of (L := []) (by kernel_rfl) (lnil)) (fun p s => nat_Cmp_R0 p.1 p.2 s) (fun p s => by kernel_rfl) (fun p s => rfl)
theorem ok34 : FnOk Tryz.prog 34 ⟨[.ty (.sl (.int .u32)), .ty (.sl (.int .u32))], [(.int .i64)], fun x => nat_Cmp x.1 x.2⟩ :=
  fn_ok (xid := XID) (ro := ro34) (H := h34) (fn := Tryz.f34) (code := bodyOf Tryz.f34) mixed (tabOk34) Tryz.func34 rfl (by kernel_rfl) (loops_of (L := [(0, lb 0 Tryz.f34)]) (by kernel_rfl) (lcons rfl (lo34_0) (lnil))) (fun x => by kernel_rfl)
/-! 82: math/bits.Div32 -/
noncomputable def tab82 : Tab := []
theorem tabOk82 : TabOk Tryz.prog (tab82) := tabOk_nil _
def ro82 : Nat → Bool := fun s => false
noncomputable def h82 : Hints := { loop := fun id => none, cut := fun k r => bif Nat.beq k 0 && Nat.beq r 1 then some (.flat [.s 15 (.imm .bool)]) else none, frz := fun r => [] }
theorem ok82 : FnOk Tryz.prog 82 ⟨[.ty (.int .u32), .ty (.int .u32), .ty (.int .u32)], [(.int .u32), (.int .u32)], fun x => math_bits_Div32 x.1 x.2.1 x.2.2⟩ :=
  fn_ok (xid := XID) (ro := ro82) (H := h82) (fn := Tryz.f82) (code := bodyOf Tryz.f82) mixed (tabOk82) Tryz.func82 rfl (by kernel_rfl) (loops_of (L := []) (by kernel_rfl) (lnil)) (fun x => by kernel_rfl)
/-! 59: pantograph/nat.small -/
noncomputable def tab59 : Tab := [(82, .d ⟨[.ty (.int .u32), .ty (.int .u32), .ty (.int .u32)], [(.int .u32), (.int .u32)], fun x => math_bits_Div32 x.1 x.2.1 x.2.2⟩), (61, .d ⟨[.ty (.sl (.int .u32))], [(.sl (.int .u32))], fun x => nat_trim x⟩)]
theorem tabOk59 : TabOk Tryz.prog (tab59) := tabOk_cons ok82 (tabOk_cons ok61 (tabOk_nil _))
def ro59 : Nat → Bool := fun s => false
noncomputable def lp59_0 : LoopD := { gh := [], ps := [.s 0 (.imm (.sl (.int .u32))), .s 1 (.imm (.int .u32))], sh := ⟨[.s 7 (.imm (.int .u32)), .s 8 (.imm (.int .i64)), .a (.int .u32)], [(6, .cur 0 (.int .u32))], [.arr (.int .u32)]⟩, ws := [⟨.exit 0, ⟨[.s 7 (.imm (.int .u32)), .a (.int .u32)], [(6, .cur 0 (.int .u32))], [.arr (.int .u32)]⟩⟩], F := fun p s => nat_small_L0 p.1 p.2 s }
noncomputable def h59 : Hints := { loop := fun id => bif Nat.beq id 0 then some (lp59_0) else none, cut := fun k r => none, frz := fun r => bif Nat.beq r 7 then [6] else [] }
theorem lo59_0 : LoopOkK Tryz.prog Tryz.f59.ntmps (lp59_0) (lb 0 Tryz.f59) :=
  loop_ok (xid := XID) (ro := ro59) (H := h59) mixed (tabOk59) (loops_of (L := []) (by kernel_rfl) (lnil)) (fun p s => nat_small_R0 p.1 p.2 s) (fun p s => by kernel_rfl) (fun p s => rfl)
theorem ok59 : FnOk Tryz.prog 59 ⟨[.ty (.sl (.int .u32)), .ty (.int .u32)], [(.sl (.int .u32)), (.int .u32)], fun x => nat_small x.1 x.2⟩ :=
  fn_ok (xid := XID) (ro := ro59) (H := h59) (fn := Tryz.f59) (code := bodyOf Tryz.f59) mixed (tabOk59) Tryz.func59 rfl (by kernel_rfl) (loops_of (L := [(0, lb 0 Tryz.f59)]) (by kernel_rfl) (lcons rfl (lo59_0) (lnil))) (fun x => by kernel_rfl)
/-! 102: math/bits.Len32 -/
noncomputable def tab102 : Tab := []
theorem tabOk102 : TabOk Tryz.prog (tab102) := tabOk_nil _
def ro102 : Nat → Bool := fun s => false
noncomputable def h102 : Hints := { loop := fun id => none, cut := fun k r => bif Nat.beq k 3 && Nat.beq r 1 then some (.flat [.s 0 (.imm (.int .u32)), .s 2 (.imm (.int .i64))]) else bif Nat.beq k 3 && Nat.beq r 4 then some (.flat [.s 0 (.imm (.int .u32)), .s 2 (.imm (.int .i64))]) else none, frz := fun r => [] }
theorem ok102 : FnOk Tryz.prog 102 ⟨[.ty (.int .u32)], [(.int .i64)], fun x => math_bits_Len32 x⟩ :=
  fn_ok (xid := XID) (ro := ro102) (H := h102) (fn := Tryz.f102) (code := bodyOf Tryz.f102) mixed (tabOk102) Tryz.func102 rfl (by kernel_rfl) (loops_of (L := []) (by kernel_rfl) (lnil)) (fun x => by kernel_rfl)
/-! 94: math/bits.LeadingZeros32 -/
noncomputable def tab94 : Tab := [(102, .d ⟨[.ty (.int .u32)], [(.int .i64)], fun x => math_bits_Len32 x⟩)]
theorem tabOk94 : TabOk Tryz.prog (tab94) := tabOk_cons ok102 (tabOk_nil _)
def ro94 : Nat → Bool := fun s => false
noncomputable def h94 : Hints := { loop := fun id => none, cut := fun k r => none, frz := fun r => [] }
theorem ok94 : FnOk Tryz.prog 94 ⟨[.ty (.int .u32)], [(.int .i64)], fun x => math_bits_LeadingZeros32 x⟩ :=
  fn_ok (xid := XID) (ro := ro94) (H := h94) (fn := Tryz.f94) (code := bodyOf Tryz.f94) mixed (tabOk94) Tryz.func94 rfl (by kernel_rfl) (loops_of (L := []) (by kernel_rfl) (lnil)) (fun x => by kernel_rfl)
/-! 95: pantograph/nat.left -/
noncomputable def tab95 : Tab := []
theorem tabOk95 : TabOk Tryz.prog (tab95) := tabOk_nil _
def ro95 : Nat → Bool := fun s => false
noncomputable def lp95_0 : LoopD := { gh := [], ps := [.s 1 (.imm (.int .u64)), .s 2 (.imm (.int .i64)), .s 13 (.imm (.sl (.int .u32))), .s 14 (.imm (.int .i64))], sh := ⟨[.s 15 (.imm (.int .i64)), .a (.int .u32)], [(7, .cur 0 (.int .u32))], [.arr (.int .u32)]⟩, ws := [⟨.exit 0, ⟨[.a (.int .u32)], [(7, .cur 0 (.int .u32))], [.arr (.int .u32)]⟩⟩], F := fun p s => nat_left_S_L0 p.1 p.2.1 p.2.2.1 p.2.2.2 s }
noncomputable def h95 : Hints := { loop := fun id => bif Nat.beq id 0 then some (lp95_0) else none, cut := fun k r => none, frz := fun r => [] }
theorem lo95_0 : LoopOkK Tryz.prog Tryz.f95.ntmps (lp95_0) (lb 0 Tryz.f95) :=
  loop_ok (xid := XID) (ro := ro95) (H := h95) mixed (tabOk95) (loops_of (L := []) (by kernel_rfl) (lnil)) (fun p s => nat_left_S_R0 p.1 p.2.1 p.2.2.1 p.2.2.2 s) (fun p s => by kernel_rfl) (fun p s => rfl)
theorem ok95 : FnSOk Tryz.prog 95 ⟨[.any, .any, .any], ⟨[.s 0 (.imm (.sl (.int .u32))), .s 1 (.imm (.int .u64)), .s 2 (.imm (.int .i64))], [], []⟩, [], ⟨[.a (.int .u32)], [(0, .cur 0 (.int .u32))], [.arr (.int .u32)]⟩, 1, fun x => nat_left_S x.1 x.2.1 x.2.2⟩ :=
  fns_ok (xid := XID) (ro := ro95) (H := h95) (fn := Tryz.f95) (code := bodyOf Tryz.f95) mixed (tabOk95) Tryz.func95 rfl (by kernel_rfl) (loops_of (L := [(0, lb 0 Tryz.f95)]) (by kernel_rfl) (lcons rfl (lo95_0) (lnil))) (fun x => by kernel_rfl)
/-! 96: pantograph/nat.guess -/
noncomputable def tab96 : Tab := []
theorem tabOk96 : TabOk Tryz.prog (tab96) := tabOk_nil _
def ro96 : Nat → Bool := fun s => false
noncomputable def lp96_0 : LoopD := { gh := [], ps := [.s 2 (.imm (.int .u32)), .s 3 (.imm (.int .u32)), .s 4 (.imm (.int .u32))], sh := ⟨[.s 12 (.imm (.int .u64)), .s 13 (.imm (.int .u64))], [], []⟩, ws := [⟨.exit 0, ⟨[.s 12 (.imm (.int .u64))], [], []⟩⟩], F := fun p s => nat_guess_L0 p.1 p.2.1 p.2.2 s }
noncomputable def h96 : Hints := { loop := fun id => bif Nat.beq id 0 then some (lp96_0) else none, cut := fun k r => bif Nat.beq k 0 && Nat.beq r 3 then some (.flat [.s 42 (.imm .bool)]) else none, frz := fun r => [] }
theorem lo96_0 : LoopOkK Tryz.prog Tryz.f96.ntmps (lp96_0) (lb 0 Tryz.f96) :=
  loop_ok (xid := XID) (ro := ro96) (H := h96) mixed (tabOk96) (loops_of (L := []) (by kernel_rfl) (lnil)) (fun p s => nat_guess_R0 p.1 p.2.1 p.2.2 s) (fun p s => by kernel_rfl) (fun p s => rfl)
theorem ok96 : FnOk Tryz.prog 96 ⟨[.ty (.int .u32), .ty (.int .u32), .ty (.int .u32), .ty (.int .u32), .ty (.int .u32)], [(.int .u64)], fun x => nat_guess x.1 x.2.1 x.2.2.1 x.2.2.2.1 x.2.2.2.2⟩ :=
  fn_ok (xid := XID) (ro := ro96) (H := h96) (fn := Tryz.f96) (code := bodyOf Tryz.f96) mixed (tabOk96) Tryz.func96 rfl (by kernel_rfl) (loops_of (L := [(0, lb 0 Tryz.f96)]) (by kernel_rfl) (lcons rfl (lo96_0) (lnil))) (fun x => by kernel_rfl)
/-! 103: math/bits.Sub32 -/
noncomputable def tab103 : Tab := []
theorem tabOk103 : TabOk Tryz.prog (tab103) := tabOk_nil _
def ro103 : Nat → Bool := fun s => false
noncomputable def h103 : Hints := { loop := fun id => none, cut := fun k r => none, frz := fun r => [] }
theorem ok103 : FnOk Tryz.prog 103 ⟨[.ty (.int .u32), .ty (.int .u32), .ty (.int .u32)], [(.int .u32), (.int .u32)], fun x => math_bits_Sub32 x.1 x.2.1 x.2.2⟩ :=
  fn_ok (xid := XID) (ro := ro103) (H := h103) (fn := Tryz.f103) (code := bodyOf Tryz.f103) mixed (tabOk103) Tryz.func103 rfl (by kernel_rfl) (loops_of (L := []) (by kernel_rfl) (lnil)) (fun x => by kernel_rfl)
/-! 104: math/bits.Add32 -/
noncomputable def tab104 : Tab := []
theorem tabOk104 : TabOk Tryz.prog (tab104) := tabOk_nil _
def ro104 : Nat → Bool := fun s => false
noncomputable def h104 : Hints := { loop := fun id => none, cut := fun k r => none, frz := fun r => [] }
theorem ok104 : FnOk Tryz.prog 104 ⟨[.ty (.int .u32), .ty (.int .u32), .ty (.int .u32)], [(.int .u32), (.int .u32)], fun x => math_bits_Add32 x.1 x.2.1 x.2.2⟩ :=
  fn_ok (xid := XID) (ro := ro104) (H := h104) (fn := Tryz.f104) (code := bodyOf Tryz.f104) mixed (tabOk104) Tryz.func104 rfl (by kernel_rfl) (loops_of (L := []) (by kernel_rfl) (lnil)) (fun x => by kernel_rfl)
/-! 97: pantograph/nat.takes -/
noncomputable def tab97 : Tab := [(103, .d ⟨[.ty (.int .u32), .ty (.int .u32), .ty (.int .u32)], [(.int .u32), (.int .u32)], fun x => math_bits_Sub32 x.1 x.2.1 x.2.2⟩), (104, .d ⟨[.ty (.int .u32), .ty (.int .u32), .ty (.int .u32)], [(.int .u32), (.int .u32)], fun x => math_bits_Add32 x.1 x.2.1 x.2.2⟩)]
theorem tabOk97 : TabOk Tryz.prog (tab97) := tabOk_cons ok103 (tabOk_cons ok104 (tabOk_nil _))
def ro97 : Nat → Bool := fun s => false
noncomputable def lp97_0 : LoopD := { gh := [], ps := [.s 1 (.imm (.sl (.int .u32))), .s 2 (.imm (.int .u64)), .s 14 (.imm (.sl (.int .u32))), .s 15 (.imm (.int .i64))], sh := ⟨[.s 0 (.sub 0 (.int .u32)), .s 7 (.imm (.int .u64)), .s 8 (.imm (.int .u32)), .s 16 (.imm (.int .i64)), .a (.int .u32)], [], [.arr (.int .u32)]⟩, ws := [⟨.exit 0, ⟨[.s 0 (.sub 0 (.int .u32)), .s 7 (.imm (.int .u64)), .s 8 (.imm (.int .u32)), .a (.int .u32)], [], [.arr (.int .u32)]⟩⟩], F := fun p s => nat_takes_S_L0 p.1 p.2.1 p.2.2.1 p.2.2.2 s }
noncomputable def lp97_2 : LoopD := { gh := [], ps := [.s 1 (.imm (.sl (.int .u32))), .s 62 (.imm (.sl (.int .u32))), .s 63 (.imm (.int .i64))], sh := ⟨[.s 0 (.sub 0 (.int .u32)), .s 11 (.imm (.int .u32)), .s 64 (.imm (.int .i64)), .a (.int .u32)], [], [.arr (.int .u32)]⟩, ws := [⟨.exit 2, ⟨[.s 0 (.sub 0 (.int .u32)), .s 11 (.imm (.int .u32)), .a (.int .u32)], [], [.arr (.int .u32)]⟩⟩], F := fun p s => nat_takes_S_L1 p.1 p.2.1 p.2.2 s }
noncomputable def h97 : Hints := { loop := fun id => bif Nat.beq id 0 then some (lp97_0) else bif Nat.beq id 2 then some (lp97_2) else none, cut := fun k r => none, frz := fun r => [] }
theorem lo97_0 : LoopOkK Tryz.prog Tryz.f97.ntmps (lp97_0) (lb 0 Tryz.f97) :=
  loop_ok (xid := XID) (ro := ro97) (H := h97) mixed (tabOk97) (loops_of (L := []) (by kernel_rfl) (lnil)) (fun p s => nat_takes_S_R0 p.1 p.2.1 p.2.2.1 p.2.2.2 s) (fun p s => by kernel_rfl) (fun p s => rfl)
theorem lo97_2 : LoopOkK Tryz.prog Tryz.f97.ntmps (lp97_2) (lb 2 Tryz.f97) :=
  loop_ok (xid := XID) (ro := ro97) (H := h97) mixed (tabOk97) (loops_of (L := []) (by kernel_rfl) (lnil)) (fun p s => nat_takes_S_R1 p.1 p.2.1 p.2.2 s) (fun p s => by kernel_rfl) (fun p s => rfl)
theorem ok97 : FnSOk Tryz.prog 97 ⟨[.sub, .any, .any], ⟨[.s 0 (.sub 0 (.int .u32)), .s 1 (.imm (.sl (.int .u32))), .s 2 (.imm (.int .u64)), .a (.int .u32)], [], [.arr (.int .u32)]⟩, [], ⟨[.s 0 (.imm .bool), .a (.int .u32)], [], [.arr (.int .u32)]⟩, 1, fun x => nat_takes_S x.1 x.2.1 x.2.2.1 x.2.2.2⟩ :=
  fns_ok (xid := XID) (ro := ro97) (H := h97) (fn := Tryz.f97) (code := bodyOf Tryz.f97) mixed (tabOk97) Tryz.func97 rfl (by kernel_rfl) (loops_of (L := [(0, lb 0 Tryz.f97), (2, lb 2 Tryz.f97)]) (by kernel_rfl) (lcons rfl (lo97_0) (lcons rfl (lo97_2) (lnil)))) (fun x => by kernel_rfl)
/-! 95: pantograph/nat.left -/
noncomputable def tab95_1 : Tab := []
theorem tabOk95_1 : TabOk Tryz.prog (tab95_1) := tabOk_nil _
def ro95_1 : Nat → Bool := fun s => false
noncomputable def lp95_1_0 : LoopD := { gh := [], ps := [.s 1 (.imm (.int .u64)), .s 2 (.imm (.int .i64)), .s 13 (.imm (.sl (.int .u32))), .s 14 (.imm (.int .i64))], sh := ⟨[.s 15 (.imm (.int .i64)), .a (.int .u32)], [(7, .cur 0 (.int .u32))], [.arr (.int .u32)]⟩, ws := [⟨.exit 0, ⟨[.a (.int .u32)], [(7, .cur 0 (.int .u32))], [.arr (.int .u32)]⟩⟩], F := fun p s => nat_left_L0 p.1 p.2.1 p.2.2.1 p.2.2.2 s }
noncomputable def h95_1 : Hints := { loop := fun id => bif Nat.beq id 0 then some (lp95_1_0) else none, cut := fun k r => none, frz := fun r => [] }
theorem lo95_1_0 : LoopOkK Tryz.prog Tryz.f95.ntmps (lp95_1_0) (lb 0 Tryz.f95) :=
  loop_ok (xid := XID) (ro := ro95_1) (H := h95_1) mixed (tabOk95_1) (loops_of (L := []) (by kernel_rfl) (lnil)) (fun p s => nat_left_R0 p.1 p.2.1 p.2.2.1 p.2.2.2 s) (fun p s => by kernel_rfl) (fun p s => rfl)
theorem ok95_1 : FnOk Tryz.prog 95 ⟨[.ty (.sl (.int .u32)), .ty (.int .u64), .ty (.int .i64)], [(.sl (.int .u32))], fun x => nat_left x.1 x.2.1 x.2.2⟩ :=
  fn_ok (xid := XID) (ro := ro95_1) (H := h95_1) (fn := Tryz.f95) (code := bodyOf Tryz.f95) mixed (tabOk95_1) Tryz.func95 rfl (by kernel_rfl) (loops_of (L := [(0, lb 0 Tryz.f95)]) (by kernel_rfl) (lcons rfl (lo95_1_0) (lnil))) (fun x => by kernel_rfl)
/-! 98: pantograph/nat.Shift -/
noncomputable def tab98 : Tab := [(61, .d ⟨[.ty (.sl (.int .u32))], [(.sl (.int .u32))], fun x => nat_trim x⟩), (95, .d ⟨[.ty (.sl (.int .u32)), .ty (.int .u64), .ty (.int .i64)], [(.sl (.int .u32))], fun x => nat_left x.1 x.2.1 x.2.2⟩)]
theorem tabOk98 : TabOk Tryz.prog (tab98) := tabOk_cons ok61 (tabOk_cons ok95_1 (tabOk_nil _))
def ro98 : Nat → Bool := fun s => false
noncomputable def lp98_0 : LoopD := { gh := [], ps := [.s 6 (.imm (.int .u64)), .s 38 (.imm (.sl (.int .u32))), .s 39 (.imm (.int .i64))], sh := ⟨[.s 40 (.imm (.int .i64)), .a (.int .u32)], [(7, .cur 0 (.int .u32))], [.arr (.int .u32)]⟩, ws := [⟨.exit 0, ⟨[.a (.int .u32)], [(7, .cur 0 (.int .u32))], [.arr (.int .u32)]⟩⟩], F := fun p s => nat_Shift_L0 p.1 p.2.1 p.2.2 s }
noncomputable def h98 : Hints := { loop := fun id => bif Nat.beq id 0 then some (lp98_0) else none, cut := fun k r => none, frz := fun r => bif Nat.beq r 21 then [12] else bif Nat.beq r 17 then [7] else [] }
theorem lo98_0 : LoopOkK Tryz.prog Tryz.f98.ntmps (lp98_0) (lb 0 Tryz.f98) :=
  loop_ok (xid := XID) (ro := ro98) (H := h98) mixed (tabOk98) (loops_of (L := []) (by kernel_rfl) (lnil)) (fun p s => nat_Shift_R0 p.1 p.2.1 p.2.2 s) (fun p s => by kernel_rfl) (fun p s => rfl)
theorem ok98 : FnOk Tryz.prog 98 ⟨[.ty (.sl (.int .u32)), .ty (.int .i64)], [(.sl (.int .u32))], fun x => nat_Shift x.1 x.2⟩ :=
  fn_ok (xid := XID) (ro := ro98) (H := h98) (fn := Tryz.f98) (code := bodyOf Tryz.f98) mixed (tabOk98) Tryz.func98 rfl (by kernel_rfl) (loops_of (L := [(0, lb 0 Tryz.f98)]) (by kernel_rfl) (lcons rfl (lo98_0) (lnil))) (fun x => by kernel_rfl)
/-! 79: pantograph/nat.long -/
noncomputable def tab79 : Tab := [(95, .s ⟨[.any, .any, .any], ⟨[.s 0 (.imm (.sl (.int .u32))), .s 1 (.imm (.int .u64)), .s 2 (.imm (.int .i64))], [], []⟩, [], ⟨[.a (.int .u32)], [(0, .cur 0 (.int .u32))], [.arr (.int .u32)]⟩, 1, fun x => nat_left_S x.1 x.2.1 x.2.2⟩), (97, .s ⟨[.sub, .any, .any], ⟨[.s 0 (.sub 0 (.int .u32)), .s 1 (.imm (.sl (.int .u32))), .s 2 (.imm (.int .u64)), .a (.int .u32)], [], [.arr (.int .u32)]⟩, [], ⟨[.s 0 (.imm .bool), .a (.int .u32)], [], [.arr (.int .u32)]⟩, 1, fun x => nat_takes_S x.1 x.2.1 x.2.2.1 x.2.2.2⟩), (94, .d ⟨[.ty (.int .u32)], [(.int .i64)], fun x => math_bits_LeadingZeros32 x⟩), (96, .d ⟨[.ty (.int .u32), .ty (.int .u32), .ty (.int .u32), .ty (.int .u32), .ty (.int .u32)], [(.int .u64)], fun x => nat_guess x.1 x.2.1 x.2.2.1 x.2.2.2.1 x.2.2.2.2⟩), (61, .d ⟨[.ty (.sl (.int .u32))], [(.sl (.int .u32))], fun x => nat_trim x⟩), (98, .d ⟨[.ty (.sl (.int .u32)), .ty (.int .i64)], [(.sl (.int .u32))], fun x => nat_Shift x.1 x.2⟩)]
theorem tabOk79 : TabOk Tryz.prog (tab79) := tabOk_consS ok95 (tabOk_consS ok97 (tabOk_cons ok94 (tabOk_cons ok96 (tabOk_cons ok61 (tabOk_cons ok98 (tabOk_nil _))))))
def ro79 : Nat → Bool := fun s => false
noncomputable def lp79_0 : LoopD := { gh := [], ps := [.s 6 (.imm (.int .u64)), .s 8 (.imm (.sl (.int .u32))), .s 9 (.imm (.int .i64))], sh := ⟨[.s 10 (.imm (.int .i64)), .a (.int .u32), .a (.int .u32)], [(4, .cur 2 (.int .u32)), (7, .cur 0 (.int .u32))], [.arr (.int .u32), .dead, .arr (.int .u32)]⟩, ws := [⟨.exit 0, ⟨[.a (.int .u32), .a (.int .u32)], [(4, .cur 2 (.int .u32)), (7, .cur 0 (.int .u32))], [.arr (.int .u32), .dead, .arr (.int .u32)]⟩⟩], F := fun p s => nat_long_L0 p.1 p.2.1 p.2.2 s }
noncomputable def h79 : Hints := { loop := fun id => bif Nat.beq id 0 then some (lp79_0) else none, cut := fun k r => bif Nat.beq k 3 && Nat.beq r 9 then some (.ways [⟨.normal, ⟨[.s 11 (.imm (.int .u64)), .a (.int .u32), .a (.int .u32)], [(4, .cur 2 (.int .u32)), (7, .cur 0 (.int .u32))], [.arr (.int .u32), .dead, .arr (.int .u32)]⟩⟩]) else none, frz := fun r => bif Nat.beq r 12 then [4, 7] else bif Nat.beq r 5 then [8] else [] }
theorem lo79_0 : LoopOkK Tryz.prog Tryz.f79.ntmps (lp79_0) (lb 0 Tryz.f79) :=
  loop_ok (xid := XID) (ro := ro79) (H := h79) mixed (tabOk79) (loops_of (L := []) (by kernel_rfl) (lnil)) (fun p s => nat_long_R0 p.1 p.2.1 p.2.2 s) (fun p s => by kernel_rfl) (fun p s => rfl)
theorem ok79 : FnOk Tryz.prog 79 ⟨[.ty (.sl (.int .u32)), .ty (.sl (.int .u32))], [(.sl (.int .u32)), (.sl (.int .u32))], fun x => nat_long x.1 x.2⟩ :=
  fn_ok (xid := XID) (ro := ro79) (H := h79) (fn := Tryz.f79) (code := bodyOf Tryz.f79) mixed (tabOk79) Tryz.func79 rfl (by kernel_rfl) (loops_of (L := [(0, lb 0 Tryz.f79)]) (by kernel_rfl) (lcons rfl (lo79_0) (lnil))) (fun x => by kernel_rfl)
/-! 47: pantograph/nat.DivMod -/
noncomputable def tab47 : Tab := [(61, .d ⟨[.ty (.sl (.int .u32))], [(.sl (.int .u32))], fun x => nat_trim x⟩), (34, .d ⟨[.ty (.sl (.int .u32)), .ty (.sl (.int .u32))], [(.int .i64)], fun x => nat_Cmp x.1 x.2⟩), (45, .d ⟨[.ty (.sl (.int .u32))], [(.sl (.int .u32))], fun x => nat_Trim x⟩), (59, .d ⟨[.ty (.sl (.int .u32)), .ty (.int .u32)], [(.sl (.int .u32)), (.int .u32)], fun x => nat_small x.1 x.2⟩), (35, .d ⟨[.ty (.int .u64)], [(.sl (.int .u32))], fun x => nat_Of x⟩), (79, .d ⟨[.ty (.sl (.int .u32)), .ty (.sl (.int .u32))], [(.sl (.int .u32)), (.sl (.int .u32))], fun x => nat_long x.1 x.2⟩)]
theorem tabOk47 : TabOk Tryz.prog (tab47) := tabOk_cons ok61 (tabOk_cons ok34 (tabOk_cons ok45 (tabOk_cons ok59 (tabOk_cons ok35 (tabOk_cons ok79 (tabOk_nil _))))))
def ro47 : Nat → Bool := fun s => false
noncomputable def h47 : Hints := { loop := fun id => none, cut := fun k r => none, frz := fun r => [] }
theorem ok47 : FnOk Tryz.prog 47 ⟨[.ty (.sl (.int .u32)), .ty (.sl (.int .u32))], [(.sl (.int .u32)), (.sl (.int .u32)), .bool], fun x => nat_DivMod x.1 x.2⟩ :=
  fn_ok (xid := XID) (ro := ro47) (H := h47) (fn := Tryz.f47) (code := bodyOf Tryz.f47) mixed (tabOk47) Tryz.func47 rfl (by kernel_rfl) (loops_of (L := []) (by kernel_rfl) (lnil)) (fun x => by kernel_rfl)
/-! 46: pantograph/nat.Gcd -/
noncomputable def tab46 : Tab := [(45, .d ⟨[.ty (.sl (.int .u32))], [(.sl (.int .u32))], fun x => nat_Trim x⟩), (47, .d ⟨[.ty (.sl (.int .u32)), .ty (.sl (.int .u32))], [(.sl (.int .u32)), (.sl (.int .u32)), .bool], fun x => nat_DivMod x.1 x.2⟩)]
theorem tabOk46 : TabOk Tryz.prog (tab46) := tabOk_cons ok45 (tabOk_cons ok47 (tabOk_nil _))
def ro46 : Nat → Bool := fun s => false
noncomputable def lp46_0 : LoopD := { gh := [], ps := [], sh := ⟨[.s 0 (.imm (.sl (.int .u32))), .s 1 (.imm (.sl (.int .u32)))], [], []⟩, ws := [⟨.exit 0, ⟨[.s 0 (.imm (.sl (.int .u32)))], [], []⟩⟩], F := fun p s => nat_Gcd_L0  s }
noncomputable def h46 : Hints := { loop := fun id => bif Nat.beq id 0 then some (lp46_0) else none, cut := fun k r => none, frz := fun r => [] }
theorem lo46_0 : LoopOkK Tryz.prog Tryz.f46.ntmps (lp46_0) (lb 0 Tryz.f46) :=
  loop_ok (xid := XID) (ro := ro46) (H := h46) mixed (tabOk46) (loops_of (L := []) (by kernel_rfl) (lnil)) (fun p s => nat_Gcd_R0  s) (fun p s => by kernel_rfl) (fun p s => rfl)
theorem ok46 : FnOk Tryz.prog 46 ⟨[.ty (.sl (.int .u32)), .ty (.sl (.int .u32))], [(.sl (.int .u32))], fun x => nat_Gcd x.1 x.2⟩ :=
  fn_ok (xid := XID) (ro := ro46) (H := h46) (fn := Tryz.f46) (code := bodyOf Tryz.f46) mixed (tabOk46) Tryz.func46 rfl (by kernel_rfl) (loops_of (L := [(0, lb 0 Tryz.f46)]) (by kernel_rfl) (lcons rfl (lo46_0) (lnil))) (fun x => by kernel_rfl)
/-! 24: pantograph/rat.Of -/
noncomputable def tab24 : Tab := [(45, .d ⟨[.ty (.sl (.int .u32))], [(.sl (.int .u32))], fun x => nat_Trim x⟩), (35, .d ⟨[.ty (.int .u64)], [(.sl (.int .u32))], fun x => nat_Of x⟩), (46, .d ⟨[.ty (.sl (.int .u32)), .ty (.sl (.int .u32))], [(.sl (.int .u32))], fun x => nat_Gcd x.1 x.2⟩), (47, .d ⟨[.ty (.sl (.int .u32)), .ty (.sl (.int .u32))], [(.sl (.int .u32)), (.sl (.int .u32)), .bool], fun x => nat_DivMod x.1 x.2⟩)]
theorem tabOk24 : TabOk Tryz.prog (tab24) := tabOk_cons ok45 (tabOk_cons ok35 (tabOk_cons ok46 (tabOk_cons ok47 (tabOk_nil _))))
def ro24 : Nat → Bool := fun s => false
noncomputable def h24 : Hints := { loop := fun id => none, cut := fun k r => bif Nat.beq k 0 && Nat.beq r 2 then some (.flat [.s 19 (.imm .bool)]) else none, frz := fun r => [] }
theorem ok24 : FnOk Tryz.prog 24 ⟨[.ty .bool, .ty (.sl (.int .u32)), .ty (.sl (.int .u32))], [tyRat], fun x => rat_Of x.1 x.2.1 x.2.2⟩ :=
  fn_ok (xid := XID) (ro := ro24) (H := h24) (fn := Tryz.f24) (code := bodyOf Tryz.f24) mixed (tabOk24) Tryz.func24 rfl (by kernel_rfl) (loops_of (L := []) (by kernel_rfl) (lnil)) (fun x => by kernel_rfl)
/-! 13: pantograph/dec.Parse -/
noncomputable def tab13 : Tab := [(22, .d ⟨[.ty .str, .ty .str], [.str, .bool], fun x => strings_CutPrefix x.1 x.2⟩), (12, .d ⟨[.ty .str, .ty .str], [.str, .str, .bool], fun x => strings_Cut x.1 x.2⟩), (23, .d ⟨[.ty .str], [(.sl (.int .u32)), .bool], fun x => nat_Parse x⟩), (25, .d ⟨[.ty (.int .i64)], [(.sl (.int .u32))], fun x => dec_ten x⟩), (24, .d ⟨[.ty .bool, .ty (.sl (.int .u32)), .ty (.sl (.int .u32))], [tyRat], fun x => rat_Of x.1 x.2.1 x.2.2⟩)]
theorem tabOk13 : TabOk Tryz.prog (tab13) := tabOk_cons ok22 (tabOk_cons ok12 (tabOk_cons ok23 (tabOk_cons ok25 (tabOk_cons ok24 (tabOk_nil _)))))
def ro13 : Nat → Bool := fun s => false
noncomputable def h13 : Hints := { loop := fun id => none, cut := fun k r => bif Nat.beq k 0 && Nat.beq r 9 then some (.flat [.s 58 (.imm .bool)]) else bif Nat.beq k 3 && Nat.beq r 13 then some (.flat [.s 14 (.imm .str)]) else bif Nat.beq k 0 && Nat.beq r 17 then some (.flat [.s 94 (.imm .bool)]) else none, frz := fun r => [] }
theorem ok13 : FnOk Tryz.prog 13 ⟨[.ty .str], [tyRat, (.int .i64)], fun x => dec_Parse x⟩ :=
  fn_ok (xid := XID) (ro := ro13) (H := h13) (fn := Tryz.f13) (code := bodyOf Tryz.f13) mixed (tabOk13) Tryz.func13 rfl (by kernel_rfl) (loops_of (L := []) (by kernel_rfl) (lnil)) (fun x => by kernel_rfl)
/-! 26: pantograph/expr.isLetter -/
noncomputable def tab26 : Tab := []
theorem tabOk26 : TabOk Tryz.prog (tab26) := tabOk_nil _
def ro26 : Nat → Bool := fun s => false
noncomputable def h26 : Hints := { loop := fun id => none, cut := fun k r => bif Nat.beq k 0 && Nat.beq r 1 then some (.flat [.s 2 (.imm .bool)]) else none, frz := fun r => [] }
theorem ok26 : FnOk Tryz.prog 26 ⟨[.ty (.int .u8)], [.bool], fun x => expr_isLetter x⟩ :=
  fn_ok (xid := XID) (ro := ro26) (H := h26) (fn := Tryz.f26) (code := bodyOf Tryz.f26) mixed (tabOk26) Tryz.func26 rfl (by kernel_rfl) (loops_of (L := []) (by kernel_rfl) (lnil)) (fun x => by kernel_rfl)
/-! 48: pantograph/expr.isDigit -/
noncomputable def tab48 : Tab := []
theorem tabOk48 : TabOk Tryz.prog (tab48) := tabOk_nil _
def ro48 : Nat → Bool := fun s => false
noncomputable def h48 : Hints := { loop := fun id => none, cut := fun k r => bif Nat.beq k 0 && Nat.beq r 1 then some (.flat [.s 2 (.imm .bool)]) else none, frz := fun r => [] }
theorem ok48 : FnOk Tryz.prog 48 ⟨[.ty (.int .u8)], [.bool], fun x => expr_isDigit x⟩ :=
  fn_ok (xid := XID) (ro := ro48) (H := h48) (fn := Tryz.f48) (code := bodyOf Tryz.f48) mixed (tabOk48) Tryz.func48 rfl (by kernel_rfl) (loops_of (L := []) (by kernel_rfl) (lnil)) (fun x => by kernel_rfl)
/-! 27: pantograph/expr.isInner -/
noncomputable def tab27 : Tab := [(26, .d ⟨[.ty (.int .u8)], [.bool], fun x => expr_isLetter x⟩), (48, .d ⟨[.ty (.int .u8)], [.bool], fun x => expr_isDigit x⟩)]
theorem tabOk27 : TabOk Tryz.prog (tab27) := tabOk_cons ok26 (tabOk_cons ok48 (tabOk_nil _))
def ro27 : Nat → Bool := fun s => false
noncomputable def h27 : Hints := { loop := fun id => none, cut := fun k r => none, frz := fun r => [] }
theorem ok27 : FnOk Tryz.prog 27 ⟨[.ty (.int .u8)], [.bool], fun x => expr_isInner x⟩ :=
  fn_ok (xid := XID) (ro := ro27) (H := h27) (fn := Tryz.f27) (code := bodyOf Tryz.f27) mixed (tabOk27) Tryz.func27 rfl (by kernel_rfl) (loops_of (L := []) (by kernel_rfl) (lnil)) (fun x => by kernel_rfl)
/-! 14: pantograph/expr.Name -/
noncomputable def tab14 : Tab := [(26, .d ⟨[.ty (.int .u8)], [.bool], fun x => expr_isLetter x⟩), (27, .d ⟨[.ty (.int .u8)], [.bool], fun x => expr_isInner x⟩)]
theorem tabOk14 : TabOk Tryz.prog (tab14) := tabOk_cons ok26 (tabOk_cons ok27 (tabOk_nil _))
def ro14 : Nat → Bool := fun s => false
noncomputable def lp14_0 : LoopD := { gh := [], ps := [.s 0 (.imm .str), .s 18 (.imm (.int .i64))], sh := ⟨[.s 19 (.imm (.int .i64))], [], []⟩, ws := [⟨.exit 0, ⟨[], [], []⟩⟩, ⟨.ret, ⟨[.s 2 (.imm .bool)], [], []⟩⟩], F := fun p s => expr_Name_L0 p.1 p.2 s }
noncomputable def h14 : Hints := { loop := fun id => bif Nat.beq id 0 then some (lp14_0) else none, cut := fun k r => bif Nat.beq k 0 && Nat.beq r 1 then some (.ways [⟨.normal, ⟨[.s 16 (.imm .bool)], [], []⟩⟩]) else none, frz := fun r => [] }
theorem lo14_0 : LoopOkK Tryz.prog Tryz.f14.ntmps (lp14_0) (lb 0 Tryz.f14) :=
  loop_ok (xid := XID) (ro := ro14) (H := h14) mixed (tabOk14) (loops_of (L := []) (by kernel_rfl) (lnil)) (fun p s => expr_Name_R0 p.1 p.2 s) (fun p s => by kernel_rfl) (fun p s => rfl)
theorem ok14 : FnOk Tryz.prog 14 ⟨[.ty .str], [.bool], fun x => expr_Name x⟩ :=
  fn_ok (xid := XID) (ro := ro14) (H := h14) (fn := Tryz.f14) (code := bodyOf Tryz.f14) mixed (tabOk14) Tryz.func14 rfl (by kernel_rfl) (loops_of (L := [(0, lb 0 Tryz.f14)]) (by kernel_rfl) (lcons rfl (lo14_0) (lnil))) (fun x => by kernel_rfl)
/-! 31: pantograph/rat.Norm -/
noncomputable def tab31 : Tab := [(24, .d ⟨[.ty .bool, .ty (.sl (.int .u32)), .ty (.sl (.int .u32))], [tyRat], fun x => rat_Of x.1 x.2.1 x.2.2⟩)]
theorem tabOk31 : TabOk Tryz.prog (tab31) := tabOk_cons ok24 (tabOk_nil _)
def ro31 : Nat → Bool := fun s => Nat.beq s 1
noncomputable def h31 : Hints := { loop := fun id => none, cut := fun k r => none, frz := fun r => [] }
theorem ok31 : FnOk Tryz.prog 31 ⟨[.ty tyRat], [tyRat], fun x => rat_Norm x⟩ :=
  fn_ok (xid := XID) (ro := ro31) (H := h31) (fn := Tryz.f31) (code := bodyOf Tryz.f31) mixed (tabOk31) Tryz.func31 rfl (by kernel_rfl) (loops_of (L := []) (by kernel_rfl) (lnil)) (fun x => by kernel_rfl)
/-! 32: pantograph/dec.sign -/
noncomputable def tab32 : Tab := []
theorem tabOk32 : TabOk Tryz.prog (tab32) := tabOk_nil _
def ro32 : Nat → Bool := fun s => Nat.beq s 1
noncomputable def h32 : Hints := { loop := fun id => none, cut := fun k r => none, frz := fun r => [] }
theorem ok32 : FnOk Tryz.prog 32 ⟨[.ty tyRat], [.str], fun x => dec_sign x⟩ :=
  fn_ok (xid := XID) (ro := ro32) (H := h32) (fn := Tryz.f32) (code := bodyOf Tryz.f32) mixed (tabOk32) Tryz.func32 rfl (by kernel_rfl) (loops_of (L := []) (by kernel_rfl) (lnil)) (fun x => by kernel_rfl)
/-! 60: slices.Reverse[[]byte,byte] -/
noncomputable def tab60 : Tab := []
theorem tabOk60 : TabOk Tryz.prog (tab60) := tabOk_nil _
def ro60 : Nat → Bool := fun s => false
noncomputable def lp60_0 : LoopD := { gh := [], ps := [], sh := ⟨[.s 0 (.sub 0 (.int .u8)), .s 2 (.imm (.int .i64)), .s 3 (.imm (.int .i64)), .a (.int .u8)], [], [.arr (.int .u8)]⟩, ws := [⟨.exit 0, ⟨[.a (.int .u8)], [], [.arr (.int .u8)]⟩⟩], F := fun p s => slices_Reverse_sl_byte_S_L0  s }
noncomputable def h60 : Hints := { loop := fun id => bif Nat.beq id 0 then some (lp60_0) else none, cut := fun k r => none, frz := fun r => [] }
theorem lo60_0 : LoopOkK Tryz.prog Tryz.f60.ntmps (lp60_0) (lb 0 Tryz.f60) :=
  loop_ok (xid := XID) (ro := ro60) (H := h60) mixed (tabOk60) (loops_of (L := []) (by kernel_rfl) (lnil)) (fun p s => slices_Reverse_sl_byte_S_R0  s) (fun p s => by kernel_rfl) (fun p s => rfl)
theorem ok60 : FnSOk Tryz.prog 60 ⟨[.sub], ⟨[.s 0 (.sub 0 (.int .u8)), .a (.int .u8)], [], [.arr (.int .u8)]⟩, [], ⟨[.a (.int .u8)], [], [.arr (.int .u8)]⟩, 0, fun x => slices_Reverse_sl_byte_S x.1 x.2⟩ :=
  fns_ok (xid := XID) (ro := ro60) (H := h60) (fn := Tryz.f60) (code := bodyOf Tryz.f60) mixed (tabOk60) Tryz.func60 rfl (by kernel_rfl) (loops_of (L := [(0, lb 0 Tryz.f60)]) (by kernel_rfl) (lcons rfl (lo60_0) (lnil))) (fun x => by kernel_rfl)
/-! 33: pantograph/nat.Print -/
noncomputable def tab33 : Tab := [(60, .s ⟨[.sub], ⟨[.s 0 (.sub 0 (.int .u8)), .a (.int .u8)], [], [.arr (.int .u8)]⟩, [], ⟨[.a (.int .u8)], [], [.arr (.int .u8)]⟩, 0, fun x => slices_Reverse_sl_byte_S x.1 x.2⟩), (45, .d ⟨[.ty (.sl (.int .u32))], [(.sl (.int .u32))], fun x => nat_Trim x⟩), (59, .d ⟨[.ty (.sl (.int .u32)), .ty (.int .u32)], [(.sl (.int .u32)), (.int .u32)], fun x => nat_small x.1 x.2⟩)]
theorem tabOk33 : TabOk Tryz.prog (tab33) := tabOk_consS ok60 (tabOk_cons ok45 (tabOk_cons ok59 (tabOk_nil _)))
def ro33 : Nat → Bool := fun s => false
noncomputable def lp33_2 : LoopD := { gh := [], ps := [.s 4 (.imm (.sl (.int .u32)))], sh := ⟨[.s 5 (.imm (.int .u32)), .s 19 (.imm (.int .i64)), .a (.int .u8)], [(3, .cur 0 (.int .u8))], [.arr (.int .u8)]⟩, ws := [⟨.exit 2, ⟨[.a (.int .u8)], [(3, .cur 0 (.int .u8))], [.arr (.int .u8)]⟩⟩], F := fun p s => nat_Print_L1 p s }
noncomputable def lp33_0 : LoopD := { gh := [.slot 3 (.int .u8)], ps := [], sh := ⟨[.s 0 (.imm (.sl (.int .u32))), .a (.int .u8)], [(3, .cur 0 (.int .u8))], [.arr (.int .u8)]⟩, ws := [⟨.exit 0, ⟨[.a (.int .u8)], [(3, .cur 0 (.int .u8))], [.arr (.int .u8)]⟩⟩], F := fun p s => nat_Print_L0  s }
noncomputable def lp33_4 : LoopD := { gh := [], ps := [], sh := ⟨[.s 3 (.sub 0 (.int .u8)), .a (.int .u8)], [], [.arr (.int .u8)]⟩, ws := [⟨.exit 4, ⟨[.s 3 (.sub 0 (.int .u8)), .a (.int .u8)], [], [.arr (.int .u8)]⟩⟩], F := fun p s => nat_Print_L2  s }
noncomputable def h33 : Hints := { loop := fun id => bif Nat.beq id 2 then some (lp33_2) else bif Nat.beq id 0 then some (lp33_0) else bif Nat.beq id 4 then some (lp33_4) else none, cut := fun k r => bif Nat.beq k 0 && Nat.beq r 13 then some (.flat [.s 42 (.imm .bool)]) else none, frz := fun r => [] }
theorem lo33_2 : LoopOkK Tryz.prog Tryz.f33.ntmps (lp33_2) (lb 2 Tryz.f33) :=
  loop_ok (xid := XID) (ro := ro33) (H := h33) mixed (tabOk33) (loops_of (L := []) (by kernel_rfl) (lnil)) (fun p s => nat_Print_R1 p s) (fun p s => by kernel_rfl) (fun p s => rfl)
theorem lo33_0 : LoopOkK Tryz.prog Tryz.f33.ntmps (lp33_0) (lb 0 Tryz.f33) :=
  loop_ok (xid := XID) (ro := ro33) (H := h33) mixed (tabOk33) (loops_of (L := [(2, lb 2 Tryz.f33)]) (by kernel_rfl) (lcons rfl (lo33_2) (lnil))) (fun p s => nat_Print_R0  s) (fun p s => by kernel_rfl) (fun p s => rfl)
theorem lo33_4 : LoopOkK Tryz.prog Tryz.f33.ntmps (lp33_4) (lb 4 Tryz.f33) :=
  loop_ok (xid := XID) (ro := ro33) (H := h33) mixed (tabOk33) (loops_of (L := []) (by kernel_rfl) (lnil)) (fun p s => nat_Print_R2  s) (fun p s => by kernel_rfl) (fun p s => rfl)
theorem ok33 : FnOk Tryz.prog 33 ⟨[.ty (.sl (.int .u32))], [.str], fun x => nat_Print x⟩ :=
  fn_ok (xid := XID) (ro := ro33) (H := h33) (fn := Tryz.f33) (code := bodyOf Tryz.f33) mixed (tabOk33) Tryz.func33 rfl (by kernel_rfl) (loops_of (L := [(0, lb 0 Tryz.f33), (4, lb 4 Tryz.f33)]) (by kernel_rfl) (lcons rfl (lo33_0) (lcons rfl (lo33_4) (lnil)))) (fun x => by kernel_rfl)
/-! 17: pantograph/dec.Print -/
noncomputable def tab17 : Tab := [(31, .d ⟨[.ty tyRat], [tyRat], fun x => rat_Norm x⟩), (32, .d ⟨[.ty tyRat], [.str], fun x => dec_sign x⟩), (33, .d ⟨[.ty (.sl (.int .u32))], [.str], fun x => nat_Print x⟩), (35, .d ⟨[.ty (.int .u64)], [(.sl (.int .u32))], fun x => nat_Of x⟩), (34, .d ⟨[.ty (.sl (.int .u32)), .ty (.sl (.int .u32))], [(.int .i64)], fun x => nat_Cmp x.1 x.2⟩)]
theorem tabOk17 : TabOk Tryz.prog (tab17) := tabOk_cons ok31 (tabOk_cons ok32 (tabOk_cons ok33 (tabOk_cons ok35 (tabOk_cons ok34 (tabOk_nil _)))))
def ro17 : Nat → Bool := fun s => false
noncomputable def h17 : Hints := { loop := fun id => none, cut := fun k r => none, frz := fun r => [] }
theorem ok17 : FnOk Tryz.prog 17 ⟨[.ty tyRat], [.str], fun x => dec_Print x⟩ :=
  fn_ok (xid := XID) (ro := ro17) (H := h17) (fn := Tryz.f17) (code := bodyOf Tryz.f17) mixed (tabOk17) Tryz.func17 rfl (by kernel_rfl) (loops_of (L := []) (by kernel_rfl) (lnil)) (fun x => by kernel_rfl)
/-! 30: (*strings.Builder).copyCheck, by hand -/
end Go.AM.Lf
namespace Go.Proofs
section
open Go.RowKit
attribute [local go_sem] Oper.semAt_some
set_option maxRecDepth 100000
set_option maxHeartbeats 2000000
theorem Bld.size : (Tryz.prog.info? 52).map (·.size) = some 2 := by kernel_rfl
theorem Bld.pt : Tryz.prog.underlying 49 = some (.pointer 52) := by kernel_rfl
theorem Bld.up : Tryz.prog.underlying 86 = some .unsafePointer := by kernel_rfl
theorem Bld.used (b : Nat) (w : World) (h0 : w.cell? ⟨b, 0, none⟩ = some (.pointer (some ⟨b, 0, none⟩))) :
    Calls Tryz.prog 30 #[.pointer (some ⟨b, 0, none⟩)] w fun e w' => e = .returned (.tuple #[]) ∧ w' = w := by
  obtain ⟨j, hj, hjs⟩ := Option.map_eq_some_iff.1 Bld.size
  go_enter Tryz.func30, Tryz.ntmps30
  go_wp2
  rw [Lib.run_neq_ptr_same w _ Bld.pt hj]
  go_wp2
  go_end0
  exact ⟨rfl, rfl⟩
theorem Bld.fresh (b : Nat) (w : World) (h0 : w.cell? ⟨b, 0, none⟩ = some (.pointer none)) (hsh : w.shape? b = some (52, 2)) (hfz : w.frozen? ⟨b, 0, none⟩ = false) :
    Calls Tryz.prog 30 #[.pointer (some ⟨b, 0, none⟩)] w fun e w' => e = .returned (.tuple #[]) ∧ w' = w.setCell ⟨b, 0, none⟩ (.pointer (some ⟨b, 0, none⟩)) := by
  obtain ⟨j, hj, hjs⟩ := Option.map_eq_some_iff.1 Bld.size
  go_enter Tryz.func30, Tryz.ntmps30
  go_wp2
  rw [Lib.run_to_unsafe w ⟨b, 0, none⟩ Bld.pt Bld.up hj (by rw [hjs]; decide) hsh (Nat.zero_lt_succ 1)]
  simp only [Result.andThen]
  rw [Oper.upon_value]
  go_wp2
  rw [run_callFunc_extern Tryz.func58 (by kernel_rfl) (by kernel_rfl) (by kernel_rfl) (e := Extern.AbiNoEscape.same) (by kernel_rfl)]
  rw [Lib.run_noEscape]
  simp only [Result.andThen]
  rw [Oper.upon_value]
  go_wp2
  rw [Lib.run_from_unsafe w ⟨b, 0, none⟩ Bld.up Bld.pt hj hsh (by kernel_rfl)]
  simp only [Result.andThen]
  rw [Oper.upon_value]
  go_wp2
  go_end0
  exact ⟨rfl, rfl⟩
end
end Go.Proofs

namespace Go.AM.Lf
open Go.Proofs
theorem ok30 : FnSOk Tryz.prog 30 ⟨[.ptr], ⟨[.v (.st [.op 0 52, .row 1 (.int .u8)]), .a (.int .u8)], [(0, .ptr 0 0)], [.var (.st [.op 0 52, .row 1 (.int .u8)]), .arr (.int .u8)]⟩, [], ⟨[.v (.st [.op 0 52, .row 1 (.int .u8)]), .a (.int .u8)], [], [.var (.st [.op 0 52, .row 1 (.int .u8)]), .arr (.int .u8)]⟩, 0, fun x => bld_copyCheck x.1 x.2⟩ := copyCheck_ok (P := Tryz.prog) (g := 30) (t := 52) (enters_of Tryz.func30 (by kernel_rfl) rfl) Bld.used Bld.fresh
/-! 16: (*strings.Builder).WriteString -/
noncomputable def tab16 : Tab := [(30, .s ⟨[.ptr], ⟨[.v (.st [.op 0 52, .row 1 (.int .u8)]), .a (.int .u8)], [(0, .ptr 0 0)], [.var (.st [.op 0 52, .row 1 (.int .u8)]), .arr (.int .u8)]⟩, [], ⟨[.v (.st [.op 0 52, .row 1 (.int .u8)]), .a (.int .u8)], [], [.var (.st [.op 0 52, .row 1 (.int .u8)]), .arr (.int .u8)]⟩, 0, fun x => bld_copyCheck x.1 x.2⟩)]
theorem tabOk16 : TabOk Tryz.prog (tab16) := tabOk_consS ok30 (tabOk_nil _)
def ro16 : Nat → Bool := fun s => false
noncomputable def h16 : Hints := { loop := fun id => none, cut := fun k r => none, frz := fun r => [] }
theorem ok16 : FnSOk Tryz.prog 16 ⟨[.ptr, .any], ⟨[.s 1 (.imm .str), .v (.st [.op 0 52, .row 1 (.int .u8)]), .a (.int .u8)], [(0, .ptr 0 0)], [.var (.st [.op 0 52, .row 1 (.int .u8)]), .arr (.int .u8)]⟩, [.pcell 0 1 (.int .u8)], ⟨[.s 0 (.imm (.int .i64)), .v (.st [.op 0 52, .row 1 (.int .u8)]), .a (.int .u8)], [(1, .niface)], [.var (.st [.op 0 52, .row 1 (.int .u8)]), .arr (.int .u8)]⟩, 2, fun x => strings_Builder_WriteString_S x.1 x.2.1 x.2.2⟩ :=
  fns_ok (xid := XID) (ro := ro16) (H := h16) (fn := Tryz.f16) (code := bodyOf Tryz.f16) mixed (tabOk16) Tryz.func16 rfl (by kernel_rfl) (loops_of (L := []) (by kernel_rfl) (lnil)) (fun x => by kernel_rfl)
/-! 18: (*strings.Builder).String, by hand -/
end Go.AM.Lf
namespace Go.Proofs
section
open Go.RowKit
attribute [local go_sem] Oper.semAt_some
set_option maxRecDepth 100000
set_option maxHeartbeats 2000000
theorem Bld.mixed : Tryz.prog.follows .mixedOrders = true := by kernel_rfl
theorem Bld.pb : Tryz.prog.underlying 75 = some (.pointer 5) := by kernel_rfl
theorem Bld.c5 : Tryz.prog.cellsOf 5 = 1 := by kernel_rfl
theorem Bld.none0 (W : World) (q : Option Addr) : (Builtin.unsafeString_ #[75, 3] 9 #[.pointer q, .int .i64 0]).run Tryz.prog W = .ok (.string .empty) W := Lib.run_unsafeString_none W _ _ _ q
theorem Bld.nil (b : Nat) (p : Value) (w : World) (hbk : w.heap[b]? = some (.cells #[p, .slice none 0 0] 52 (0, 0))) :
    Calls Tryz.prog 18 #[.pointer (some ⟨b, 0, none⟩)] w fun e w' => e = .returned (.string ⟨#[]⟩) ∧ w' = w.drew := by
  have hUS := Bld.none0
  have c1 : w.drew.cell? ⟨b, 1, none⟩ = some (.slice none 0 0) := by
    have : w.drew.heap[b]? = some (.cells #[p, .slice none 0 0] 52 (0, 0)) := hbk
    rw [Lib.cell_of_heap this]; rfl
  have hSD : (Builtin.unsafeSliceData_ #[50] 75 #[.slice none 0 0]).run Tryz.prog w.drew = .ok (.pointer none) w.drew := rfl
  have mixed : Tryz.prog.follows .mixedOrders = true := Bld.mixed
  go_enter Tryz.func18, Tryz.ntmps18
  go_wp2
  go_region_o
  all_goals (go_wp2; go_ret; exact ⟨rfl, rfl⟩)
theorem Bld.room (b g o cap : Nat) (p : Value) (w : World) (hc0 : cap ≠ 0) (hbk : w.heap[b]? = some (.cells #[p, .slice (some ⟨g, o, none⟩) 0 cap] 52 (0, 0))) :
    Calls Tryz.prog 18 #[.pointer (some ⟨b, 0, none⟩)] w fun e w' => e = .returned (.string ⟨#[]⟩) ∧ w' = w.drew := by
  have hUS := Bld.none0
  have c1 : w.drew.cell? ⟨b, 1, none⟩ = some (.slice (some ⟨g, o, none⟩) 0 cap) := by
    have : w.drew.heap[b]? = some (.cells #[p, .slice (some ⟨g, o, none⟩) 0 cap] 52 (0, 0)) := hbk
    rw [Lib.cell_of_heap this]; rfl
  have hSD : (Builtin.unsafeSliceData_ #[50] 75 #[.slice (some ⟨g, o, none⟩) 0 cap]).run Tryz.prog w.drew = .ok (.pointer (some ⟨g, o, none⟩)) w.drew :=
    Lib.run_unsafeSliceData_row _ _ _ _ _ _ hc0
  clear hc0
  have mixed : Tryz.prog.follows .mixedOrders = true := Bld.mixed
  go_enter Tryz.func18, Tryz.ntmps18
  go_wp2
  go_region_o
  all_goals (go_wp2; go_ret; exact ⟨rfl, rfl⟩)
theorem Bld.full (b g cap : Nat) (p : Value) (cur : Array Value) (l : List UInt8) (w : World) (h0 : l ≠ []) (hcap : l.length ≤ cap) (hmax : l.length ≤ 140737488355328) (hbk : w.heap[b]? = some (.cells #[p, .slice (some ⟨g, 0, none⟩) l.length cap] 52 (0, 0)))
    (hg : w.heap[g]? = some (.cells cur 5 (0, 0))) (hcur : l.length ≤ cur.size) (hcell : ∀ j x, l[j]? = some x → w.cell? ⟨g, j, none⟩ = some (.int .u8 x.toNat)) :
    Calls Tryz.prog 18 #[.pointer (some ⟨b, 0, none⟩)] w fun e w' => e = .returned (.string ⟨l.toArray⟩) ∧ w' = w.drew.freeze ⟨g, 0, none⟩ l.length := by
  have hl0 : l.length ≠ 0 := by simpa using h0
  have c1 : w.drew.cell? ⟨b, 1, none⟩ = some (.slice (some ⟨g, 0, none⟩) l.length cap) := by
    have : w.drew.heap[b]? = some (.cells #[p, .slice (some ⟨g, 0, none⟩) l.length cap] 52 (0, 0)) := hbk
    rw [Lib.cell_of_heap this]; rfl
  have hSD : (Builtin.unsafeSliceData_ #[50] 75 #[.slice (some ⟨g, 0, none⟩) l.length cap]).run Tryz.prog w.drew = .ok (.pointer (some ⟨g, 0, none⟩)) w.drew :=
    Lib.run_unsafeSliceData_row _ _ _ _ _ _ (by omega)
  have hUS : (Builtin.unsafeString_ #[75, 3] 9 #[.pointer (some ⟨g, 0, none⟩), .int .i64 l.length]).run Tryz.prog w.drew = .ok (.string ⟨l.toArray⟩) (w.drew.freeze ⟨g, 0, none⟩ l.length) := by
    refine Lib.run_unsafeString_row w.drew 75 3 9 5 Bld.pb Bld.c5 g cur.size (by have hg' : w.drew.heap[g]? = some (.cells cur 5 (0, 0)) := hg; simp [World.shape?, hg']) l h0 (by omega) (by omega) ?_
    intro j x hx
    have e : (⟨g, 0, none⟩ : Addr).add j = ⟨g, j, none⟩ := by unfold Addr.add; split <;> simp_all
    rw [e]
    exact hcell j x hx
  have mixed : Tryz.prog.follows .mixedOrders = true := Bld.mixed
  go_enter Tryz.func18, Tryz.ntmps18
  go_wp2
  go_region_o
  all_goals (go_wp2; go_ret; exact ⟨rfl, rfl⟩)
theorem Bld.noroom (b g o : Nat) (p : Value) (cur : Array Value) (w : World) (hbk : w.heap[b]? = some (.cells #[p, .slice (some ⟨g, o, none⟩) 0 0] 52 (0, 0))) (hg : w.heap[g]? = some (.cells cur 5 (0, 0))) :
    Calls Tryz.prog 18 #[.pointer (some ⟨b, 0, none⟩)] w fun e w' => e = .returned (.string ⟨#[]⟩) ∧ w' = w.drew.alloc (.view ⟨g, o, none⟩ 5) := by
  have hUS := Bld.none0
  have hlt : b < w.heap.size := by
    rcases Nat.lt_or_ge b w.heap.size with h' | h'
    · exact h'
    · simp [Array.getElem?_eq_none h'] at hbk
  have c1 : w.drew.cell? ⟨b, 1, none⟩ = some (.slice (some ⟨g, o, none⟩) 0 0) := by
    have : w.drew.heap[b]? = some (.cells #[p, .slice (some ⟨g, o, none⟩) 0 0] 52 (0, 0)) := hbk
    rw [Lib.cell_of_heap this]; rfl
  have hSD : (Builtin.unsafeSliceData_ #[50] 75 #[.slice (some ⟨g, o, none⟩) 0 0]).run Tryz.prog w.drew = .ok (.pointer (some ⟨w.drew.heap.size, 0, none⟩)) (w.drew.alloc (.view ⟨g, o, none⟩ 5)) :=
    Lib.run_unsafeSliceData_zero w.drew _ _ 5 Bld.pb ⟨g, o, none⟩ 0 (5, cur.size) (by have hg' : w.drew.heap[g]? = some (.cells cur 5 (0, 0)) := hg; simp [World.shape?, hg'])
  have c2 : (w.drew.alloc (.view ⟨g, o, none⟩ 5)).cell? ⟨b, 1, none⟩ = some (.slice (some ⟨g, o, none⟩) 0 0) := by
    have : (w.drew.alloc (.view ⟨g, o, none⟩ 5)).heap[b]? = _ := (Lib.alloc_old w.drew _ b hlt).trans hbk
    rw [Lib.cell_of_heap this]; rfl
  have c3 : (w.alloc (.view ⟨g, o, none⟩ 5)).drew.cell? ⟨b, 1, none⟩ = some (.slice (some ⟨g, o, none⟩) 0 0) := c2
  have c0 : w.cell? ⟨b, 1, none⟩ = some (.slice (some ⟨g, o, none⟩) 0 0) := c1
  have mixed : Tryz.prog.follows .mixedOrders = true := Bld.mixed
  go_enter Tryz.func18, Tryz.ntmps18
  go_wp2
  go_region_o
  all_goals (go_wp2; go_ret; exact ⟨rfl, rfl⟩)
end
end Go.Proofs

namespace Go.AM.Lf
open Go.Proofs
theorem ok18 : FnSOk Tryz.prog 18 ⟨[.ptr], ⟨[.v (.st [.op 0 52, .row 1 (.int .u8)]), .a (.int .u8)], [(0, .ptr 0 0)], [.var (.st [.op 0 52, .row 1 (.int .u8)]), .arr (.int .u8)]⟩, [], ⟨[.s 0 (.imm .str), .v (.st [.op 0 52, .un])], [], [.var (.st [.op 0 52, .un]), .dead]⟩, 1, fun x => bld_String x.1 x.2⟩ := string_ok (P := Tryz.prog) (g := 18) (t := 52) (enters_of Tryz.func18 (by kernel_rfl) rfl) Bld.nil Bld.room Bld.full Bld.noroom
/-! 7: pantograph/record.Encode -/
noncomputable def tab7 : Tab := [(16, .s ⟨[.ptr, .any], ⟨[.s 1 (.imm .str), .v (.st [.op 0 52, .row 1 (.int .u8)]), .a (.int .u8)], [(0, .ptr 0 0)], [.var (.st [.op 0 52, .row 1 (.int .u8)]), .arr (.int .u8)]⟩, [.pcell 0 1 (.int .u8)], ⟨[.s 0 (.imm (.int .i64)), .v (.st [.op 0 52, .row 1 (.int .u8)]), .a (.int .u8)], [(1, .niface)], [.var (.st [.op 0 52, .row 1 (.int .u8)]), .arr (.int .u8)]⟩, 2, fun x => strings_Builder_WriteString_S x.1 x.2.1 x.2.2⟩), (18, .s ⟨[.ptr], ⟨[.v (.st [.op 0 52, .row 1 (.int .u8)]), .a (.int .u8)], [(0, .ptr 0 0)], [.var (.st [.op 0 52, .row 1 (.int .u8)]), .arr (.int .u8)]⟩, [], ⟨[.s 0 (.imm .str), .v (.st [.op 0 52, .un])], [], [.var (.st [.op 0 52, .un]), .dead]⟩, 1, fun x => bld_String x.1 x.2⟩), (17, .d ⟨[.ty tyRat], [.str], fun x => dec_Print x⟩)]
theorem tabOk7 : TabOk Tryz.prog (tab7) := tabOk_consS ok16 (tabOk_consS ok18 (tabOk_cons ok17 (tabOk_nil _)))
def ro7 : Nat → Bool := fun s => false
noncomputable def lp7_0 : LoopD := { gh := [.cell 0 1 (.int .u8)], ps := [.s 6 (.imm (.sl tyrecord_Item)), .s 7 (.imm (.int .i64))], sh := ⟨[.s 8 (.imm (.int .i64)), .v (.st [.op 0 52, .row 1 (.int .u8)]), .a (.int .u8)], [(3, .ptr 0 0)], [.var (.st [.op 0 52, .row 1 (.int .u8)]), .arr (.int .u8)]⟩, ws := [⟨.exit 0, ⟨[.v (.st [.op 0 52, .row 1 (.int .u8)]), .a (.int .u8)], [], [.var (.st [.op 0 52, .row 1 (.int .u8)]), .arr (.int .u8)]⟩⟩], F := fun p s => record_Encode_L0 p.1 p.2 s }
noncomputable def h7 : Hints := { loop := fun id => bif Nat.beq id 0 then some (lp7_0) else none, cut := fun k r => none, frz := fun r => [] }
theorem lo7_0 : LoopOkK Tryz.prog Tryz.f7.ntmps (lp7_0) (lb 0 Tryz.f7) :=
  loop_ok (xid := XID) (ro := ro7) (H := h7) mixed (tabOk7) (loops_of (L := []) (by kernel_rfl) (lnil)) (fun p s => record_Encode_R0 p.1 p.2 s) (fun p s => by kernel_rfl) (fun p s => rfl)
theorem ok7 : FnOk Tryz.prog 7 ⟨[.ty (.sl tyrecord_Item)], [.str], fun x => record_Encode x⟩ :=
  fn_ok (xid := XID) (ro := ro7) (H := h7) (fn := Tryz.f7) (code := bodyOf Tryz.f7) mixed (tabOk7) Tryz.func7 rfl (by kernel_rfl) (loops_of (L := [(0, lb 0 Tryz.f7)]) (by kernel_rfl) (lcons rfl (lo7_0) (lnil))) (fun x => by kernel_rfl)
/-! 5: pantograph/record.Decode -/
noncomputable def tab5 : Tab := [(12, .d ⟨[.ty .str, .ty .str], [.str, .str, .bool], fun x => strings_Cut x.1 x.2⟩), (13, .d ⟨[.ty .str], [tyRat, (.int .i64)], fun x => dec_Parse x⟩), (14, .d ⟨[.ty .str], [.bool], fun x => expr_Name x⟩), (7, .d ⟨[.ty (.sl tyrecord_Item)], [.str], fun x => record_Encode x⟩)]
theorem tabOk5 : TabOk Tryz.prog (tab5) := tabOk_cons ok12 (tabOk_cons ok13 (tabOk_cons ok14 (tabOk_cons ok7 (tabOk_nil _))))
def ro5 : Nat → Bool := fun s => false
noncomputable def lp5_0 : LoopD := { gh := [.slot 4 tyrecord_Item], ps := [.s 0 (.imm .str)], sh := ⟨[.s 5 (.imm .str), .a tyrecord_Item], [(4, .cur 0 tyrecord_Item)], [.arr tyrecord_Item]⟩, ws := [⟨.exit 0, ⟨[.a tyrecord_Item], [(4, .cur 0 tyrecord_Item)], [.arr tyrecord_Item]⟩⟩, ⟨.ret, ⟨[.s 3 (.imm (.int .i64)), .a tyrecord_Item], [(2, .nilsl)], [.arr tyrecord_Item]⟩⟩], F := fun p s => record_Decode_L0 p s }
noncomputable def h5 : Hints := { loop := fun id => bif Nat.beq id 0 then some (lp5_0) else none, cut := fun k r => bif Nat.beq k 0 && Nat.beq r 7 then some (.ways [⟨.normal, ⟨[.s 40 (.imm .bool), .a tyrecord_Item, .v (.imm tyRat)], [(4, .cur 0 tyrecord_Item)], [.arr tyrecord_Item, .var (.imm tyRat)]⟩⟩]) else none, frz := fun r => [] }
theorem lo5_0 : LoopOkK Tryz.prog Tryz.f5.ntmps (lp5_0) (lb 0 Tryz.f5) :=
  loop_ok (xid := XID) (ro := ro5) (H := h5) mixed (tabOk5) (loops_of (L := []) (by kernel_rfl) (lnil)) (fun p s => record_Decode_R0 p s) (fun p s => by kernel_rfl) (fun p s => rfl)
theorem ok5 : FnOk Tryz.prog 5 ⟨[.ty .str], [(.sl tyrecord_Item), (.int .i64)], fun x => record_Decode x⟩ :=
  fn_ok (xid := XID) (ro := ro5) (H := h5) (fn := Tryz.f5) (code := bodyOf Tryz.f5) mixed (tabOk5) Tryz.func5 rfl (by kernel_rfl) (loops_of (L := [(0, lb 0 Tryz.f5)]) (by kernel_rfl) (lcons rfl (lo5_0) (lnil))) (fun x => by kernel_rfl)
/-! 62: pantograph/pantographref1.Trim -/
noncomputable def tab62 : Tab := []
theorem tabOk62 : TabOk Tryz.prog (tab62) := tabOk_nil _
def ro62 : Nat → Bool := fun s => false
noncomputable def lp62_0 : LoopD := { gh := [], ps := [.s 0 (.imm (.sl (.int .u32)))], sh := ⟨[.s 3 (.imm (.int .i64))], [], []⟩, ws := [⟨.exit 0, ⟨[.s 3 (.imm (.int .i64))], [], []⟩⟩], F := fun p s => ref1_Trim_L0 p s }
noncomputable def h62 : Hints := { loop := fun id => bif Nat.beq id 0 then some (lp62_0) else none, cut := fun k r => bif Nat.beq k 0 && Nat.beq r 2 then some (.flat [.s 15 (.imm .bool)]) else none, frz := fun r => [] }
theorem lo62_0 : LoopOkK Tryz.prog Tryz.f62.ntmps (lp62_0) (lb 0 Tryz.f62) :=
  loop_ok (xid := XID) (ro := ro62) (H := h62) mixed (tabOk62) (loops_of (L := []) (by kernel_rfl) (lnil)) (fun p s => ref1_Trim_R0 p s) (fun p s => by kernel_rfl) (fun p s => rfl)
theorem ok62 : FnOk Tryz.prog 62 ⟨[.ty (.sl (.int .u32))], [(.sl (.int .u32))], fun x => ref1_Trim x⟩ :=
  fn_ok (xid := XID) (ro := ro62) (H := h62) (fn := Tryz.f62) (code := bodyOf Tryz.f62) mixed (tabOk62) Tryz.func62 rfl (by kernel_rfl) (loops_of (L := [(0, lb 0 Tryz.f62)]) (by kernel_rfl) (lcons rfl (lo62_0) (lnil))) (fun x => by kernel_rfl)
/-! 80: pantograph/pantographref1.Of -/
noncomputable def tab80 : Tab := [(62, .d ⟨[.ty (.sl (.int .u32))], [(.sl (.int .u32))], fun x => ref1_Trim x⟩)]
theorem tabOk80 : TabOk Tryz.prog (tab80) := tabOk_cons ok62 (tabOk_nil _)
def ro80 : Nat → Bool := fun s => false
noncomputable def h80 : Hints := { loop := fun id => none, cut := fun k r => none, frz := fun r => [] }
theorem ok80 : FnOk Tryz.prog 80 ⟨[.ty (.int .u64)], [(.sl (.int .u32))], fun x => ref1_Of x⟩ :=
  fn_ok (xid := XID) (ro := ro80) (H := h80) (fn := Tryz.f80) (code := bodyOf Tryz.f80) mixed (tabOk80) Tryz.func80 rfl (by kernel_rfl) (loops_of (L := []) (by kernel_rfl) (lnil)) (fun x => by kernel_rfl)
/-! 84: pantograph/pantographref1.To -/
noncomputable def tab84 : Tab := [(62, .d ⟨[.ty (.sl (.int .u32))], [(.sl (.int .u32))], fun x => ref1_Trim x⟩)]
theorem tabOk84 : TabOk Tryz.prog (tab84) := tabOk_cons ok62 (tabOk_nil _)
def ro84 : Nat → Bool := fun s => false
noncomputable def lp84_0 : LoopD := { gh := [], ps := [.s 4 (.imm (.sl (.int .u32)))], sh := ⟨[.s 5 (.imm (.int .u64)), .s 6 (.imm (.int .i64))], [], []⟩, ws := [⟨.exit 0, ⟨[.s 5 (.imm (.int .u64))], [], []⟩⟩], F := fun p s => ref1_To_L0 p s }
noncomputable def h84 : Hints := { loop := fun id => bif Nat.beq id 0 then some (lp84_0) else none, cut := fun k r => none, frz := fun r => [] }
theorem lo84_0 : LoopOkK Tryz.prog Tryz.f84.ntmps (lp84_0) (lb 0 Tryz.f84) :=
  loop_ok (xid := XID) (ro := ro84) (H := h84) mixed (tabOk84) (loops_of (L := []) (by kernel_rfl) (lnil)) (fun p s => ref1_To_R0 p s) (fun p s => by kernel_rfl) (fun p s => rfl)
theorem ok84 : FnOk Tryz.prog 84 ⟨[.ty (.sl (.int .u32))], [(.int .u64), .bool], fun x => ref1_To x⟩ :=
  fn_ok (xid := XID) (ro := ro84) (H := h84) (fn := Tryz.f84) (code := bodyOf Tryz.f84) mixed (tabOk84) Tryz.func84 rfl (by kernel_rfl) (loops_of (L := [(0, lb 0 Tryz.f84)]) (by kernel_rfl) (lcons rfl (lo84_0) (lnil))) (fun x => by kernel_rfl)
/-! 65: pantograph/pantographref1.small -/
noncomputable def tab65 : Tab := [(62, .d ⟨[.ty (.sl (.int .u32))], [(.sl (.int .u32))], fun x => ref1_Trim x⟩)]
theorem tabOk65 : TabOk Tryz.prog (tab65) := tabOk_cons ok62 (tabOk_nil _)
def ro65 : Nat → Bool := fun s => false
noncomputable def lp65_0 : LoopD := { gh := [], ps := [.s 0 (.imm (.sl (.int .u32))), .s 1 (.imm (.int .u64))], sh := ⟨[.s 7 (.imm (.int .u64)), .s 8 (.imm (.int .i64)), .a (.int .u32)], [(6, .cur 0 (.int .u32))], [.arr (.int .u32)]⟩, ws := [⟨.exit 0, ⟨[.s 7 (.imm (.int .u64)), .a (.int .u32)], [(6, .cur 0 (.int .u32))], [.arr (.int .u32)]⟩⟩], F := fun p s => ref1_small_L0 p.1 p.2 s }
noncomputable def h65 : Hints := { loop := fun id => bif Nat.beq id 0 then some (lp65_0) else none, cut := fun k r => none, frz := fun r => bif Nat.beq r 9 then [6] else [] }
theorem lo65_0 : LoopOkK Tryz.prog Tryz.f65.ntmps (lp65_0) (lb 0 Tryz.f65) :=
  loop_ok (xid := XID) (ro := ro65) (H := h65) mixed (tabOk65) (loops_of (L := []) (by kernel_rfl) (lnil)) (fun p s => ref1_small_R0 p.1 p.2 s) (fun p s => by kernel_rfl) (fun p s => rfl)
theorem ok65 : FnOk Tryz.prog 65 ⟨[.ty (.sl (.int .u32)), .ty (.int .u64)], [(.sl (.int .u32)), (.int .u64)], fun x => ref1_small x.1 x.2⟩ :=
  fn_ok (xid := XID) (ro := ro65) (H := h65) (fn := Tryz.f65) (code := bodyOf Tryz.f65) mixed (tabOk65) Tryz.func65 rfl (by kernel_rfl) (loops_of (L := [(0, lb 0 Tryz.f65)]) (by kernel_rfl) (lcons rfl (lo65_0) (lnil))) (fun x => by kernel_rfl)
/-! 81: pantograph/pantographref1.at -/
noncomputable def tab81 : Tab := []
theorem tabOk81 : TabOk Tryz.prog (tab81) := tabOk_nil _
def ro81 : Nat → Bool := fun s => false
noncomputable def h81 : Hints := { loop := fun id => none, cut := fun k r => none, frz := fun r => [] }
theorem ok81 : FnOk Tryz.prog 81 ⟨[.ty (.sl (.int .u32)), .ty (.int .i64)], [(.int .u64)], fun x => ref1_at x.1 x.2⟩ :=
  fn_ok (xid := XID) (ro := ro81) (H := h81) (fn := Tryz.f81) (code := bodyOf Tryz.f81) mixed (tabOk81) Tryz.func81 rfl (by kernel_rfl) (loops_of (L := []) (by kernel_rfl) (lnil)) (fun x => by kernel_rfl)
/-! 85: pantograph/pantographref1.Shift -/
noncomputable def tab85 : Tab := [(62, .d ⟨[.ty (.sl (.int .u32))], [(.sl (.int .u32))], fun x => ref1_Trim x⟩), (81, .d ⟨[.ty (.sl (.int .u32)), .ty (.int .i64)], [(.int .u64)], fun x => ref1_at x.1 x.2⟩)]
theorem tabOk85 : TabOk Tryz.prog (tab85) := tabOk_cons ok62 (tabOk_cons ok81 (tabOk_nil _))
def ro85 : Nat → Bool := fun s => false
noncomputable def lp85_0 : LoopD := { gh := [.slot 8 (.int .u32)], ps := [.s 5 (.imm (.sl (.int .u32))), .s 7 (.imm (.int .u64))], sh := ⟨[.s 9 (.imm (.int .i64)), .a (.int .u32)], [(8, .cur 0 (.int .u32))], [.arr (.int .u32)]⟩, ws := [⟨.exit 0, ⟨[.a (.int .u32)], [(8, .cur 0 (.int .u32))], [.arr (.int .u32)]⟩⟩], F := fun p s => ref1_Shift_L0 p.1 p.2 s }
noncomputable def lp85_2 : LoopD := { gh := [], ps := [.s 5 (.imm (.sl (.int .u32))), .s 11 (.imm (.int .u64))], sh := ⟨[.s 12 (.imm (.int .u64)), .s 13 (.imm (.int .i64)), .a (.int .u32)], [(10, .cur 0 (.int .u32))], [.arr (.int .u32)]⟩, ws := [⟨.exit 2, ⟨[.a (.int .u32)], [(10, .cur 0 (.int .u32))], [.arr (.int .u32)]⟩⟩], F := fun p s => ref1_Shift_L1 p.1 p.2 s }
noncomputable def h85 : Hints := { loop := fun id => bif Nat.beq id 0 then some (lp85_0) else bif Nat.beq id 2 then some (lp85_2) else none, cut := fun k r => none, frz := fun r => bif Nat.beq r 24 then [10] else bif Nat.beq r 14 then [8] else [] }
theorem lo85_0 : LoopOkK Tryz.prog Tryz.f85.ntmps (lp85_0) (lb 0 Tryz.f85) :=
  loop_ok (xid := XID) (ro := ro85) (H := h85) mixed (tabOk85) (loops_of (L := []) (by kernel_rfl) (lnil)) (fun p s => ref1_Shift_R0 p.1 p.2 s) (fun p s => by kernel_rfl) (fun p s => rfl)
theorem lo85_2 : LoopOkK Tryz.prog Tryz.f85.ntmps (lp85_2) (lb 2 Tryz.f85) :=
  loop_ok (xid := XID) (ro := ro85) (H := h85) mixed (tabOk85) (loops_of (L := []) (by kernel_rfl) (lnil)) (fun p s => ref1_Shift_R1 p.1 p.2 s) (fun p s => by kernel_rfl) (fun p s => rfl)
theorem ok85 : FnOk Tryz.prog 85 ⟨[.ty (.sl (.int .u32)), .ty (.int .i64)], [(.sl (.int .u32))], fun x => ref1_Shift x.1 x.2⟩ :=
  fn_ok (xid := XID) (ro := ro85) (H := h85) (fn := Tryz.f85) (code := bodyOf Tryz.f85) mixed (tabOk85) Tryz.func85 rfl (by kernel_rfl) (loops_of (L := [(0, lb 0 Tryz.f85), (2, lb 2 Tryz.f85)]) (by kernel_rfl) (lcons rfl (lo85_0) (lcons rfl (lo85_2) (lnil)))) (fun x => by kernel_rfl)
/-! 54: pantograph/pantographref1.Add -/
noncomputable def tab54 : Tab := [(81, .d ⟨[.ty (.sl (.int .u32)), .ty (.int .i64)], [(.int .u64)], fun x => ref1_at x.1 x.2⟩), (62, .d ⟨[.ty (.sl (.int .u32))], [(.sl (.int .u32))], fun x => ref1_Trim x⟩)]
theorem tabOk54 : TabOk Tryz.prog (tab54) := tabOk_cons ok81 (tabOk_cons ok62 (tabOk_nil _))
def ro54 : Nat → Bool := fun s => false
noncomputable def lp54_0 : LoopD := { gh := [.slot 5 (.int .u32)], ps := [.s 0 (.imm (.sl (.int .u32))), .s 1 (.imm (.sl (.int .u32)))], sh := ⟨[.s 6 (.imm (.int .u64)), .s 7 (.imm (.int .i64)), .a (.int .u32)], [(5, .cur 0 (.int .u32))], [.arr (.int .u32)]⟩, ws := [⟨.exit 0, ⟨[.a (.int .u32)], [(5, .cur 0 (.int .u32))], [.arr (.int .u32)]⟩⟩], F := fun p s => ref1_Add_L0 p.1 p.2 s }
noncomputable def h54 : Hints := { loop := fun id => bif Nat.beq id 0 then some (lp54_0) else none, cut := fun k r => none, frz := fun r => bif Nat.beq r 9 then [5] else [] }
theorem lo54_0 : LoopOkK Tryz.prog Tryz.f54.ntmps (lp54_0) (lb 0 Tryz.f54) :=
  loop_ok (xid := XID) (ro := ro54) (H := h54) mixed (tabOk54) (loops_of (L := []) (by kernel_rfl) (lnil)) (fun p s => ref1_Add_R0 p.1 p.2 s) (fun p s => by kernel_rfl) (fun p s => rfl)
theorem ok54 : FnOk Tryz.prog 54 ⟨[.ty (.sl (.int .u32)), .ty (.sl (.int .u32))], [(.sl (.int .u32))], fun x => ref1_Add x.1 x.2⟩ :=
  fn_ok (xid := XID) (ro := ro54) (H := h54) (fn := Tryz.f54) (code := bodyOf Tryz.f54) mixed (tabOk54) Tryz.func54 rfl (by kernel_rfl) (loops_of (L := [(0, lb 0 Tryz.f54)]) (by kernel_rfl) (lcons rfl (lo54_0) (lnil))) (fun x => by kernel_rfl)
/-! 86: pantograph/pantographref1.Cmp -/
noncomputable def tab86 : Tab := [(62, .d ⟨[.ty (.sl (.int .u32))], [(.sl (.int .u32))], fun x => ref1_Trim x⟩)]
theorem tabOk86 : TabOk Tryz.prog (tab86) := tabOk_cons ok62 (tabOk_nil _)
def ro86 : Nat → Bool := fun s => false
noncomputable def lp86_0 : LoopD := { gh := [], ps := [.s 5 (.imm (.sl (.int .u32))), .s 6 (.imm (.sl (.int .u32)))], sh := ⟨[.s 7 (.imm (.int .i64))], [], []⟩, ws := [⟨.exit 0, ⟨[], [], []⟩⟩, ⟨.ret, ⟨[.s 4 (.imm (.int .i64))], [], []⟩⟩], F := fun p s => ref1_Cmp_L0 p.1 p.2 s }
noncomputable def h86 : Hints := { loop := fun id => bif Nat.beq id 0 then some (lp86_0) else none, cut := fun k r => none, frz := fun r => [] }
theorem lo86_0 : LoopOkK Tryz.prog Tryz.f86.ntmps (lp86_0) (lb 0 Tryz.f86) :=
  loop_ok (xid := XID) (ro := ro86) (H := h86) mixed (tabOk86) (loops_of (L := []) (by kernel_rfl) (lnil)) (fun p s => ref1_Cmp_R0 p.1 p.2 s) (fun p s => by kernel_rfl) (fun p s => rfl)
theorem ok86 : FnOk Tryz.prog 86 ⟨[.ty (.sl (.int .u32)), .ty (.sl (.int .u32))], [(.int .i64)], fun x => ref1_Cmp x.1 x.2⟩ :=
  fn_ok (xid := XID) (ro := ro86) (H := h86) (fn := Tryz.f86) (code := bodyOf Tryz.f86) mixed (tabOk86) Tryz.func86 rfl (by kernel_rfl) (loops_of (L := [(0, lb 0 Tryz.f86)]) (by kernel_rfl) (lcons rfl (lo86_0) (lnil))) (fun x => by kernel_rfl)
/-! 87: pantograph/pantographref1.Sub -/
noncomputable def tab87 : Tab := [(86, .d ⟨[.ty (.sl (.int .u32)), .ty (.sl (.int .u32))], [(.int .i64)], fun x => ref1_Cmp x.1 x.2⟩), (81, .d ⟨[.ty (.sl (.int .u32)), .ty (.int .i64)], [(.int .u64)], fun x => ref1_at x.1 x.2⟩), (62, .d ⟨[.ty (.sl (.int .u32))], [(.sl (.int .u32))], fun x => ref1_Trim x⟩)]
theorem tabOk87 : TabOk Tryz.prog (tab87) := tabOk_cons ok86 (tabOk_cons ok81 (tabOk_cons ok62 (tabOk_nil _)))
def ro87 : Nat → Bool := fun s => false
noncomputable def lp87_0 : LoopD := { gh := [.slot 6 (.int .u32)], ps := [.s 0 (.imm (.sl (.int .u32))), .s 1 (.imm (.sl (.int .u32)))], sh := ⟨[.s 7 (.imm (.int .u64)), .s 8 (.imm (.int .i64)), .a (.int .u32)], [(6, .cur 0 (.int .u32))], [.arr (.int .u32)]⟩, ws := [⟨.exit 0, ⟨[.a (.int .u32)], [(6, .cur 0 (.int .u32))], [.arr (.int .u32)]⟩⟩], F := fun p s => ref1_Sub_L0 p.1 p.2 s }
noncomputable def h87 : Hints := { loop := fun id => bif Nat.beq id 0 then some (lp87_0) else none, cut := fun k r => bif Nat.beq k 3 && Nat.beq r 10 then some (.flat [.s 7 (.imm (.int .u64)), .s 9 (.imm (.int .u64))]) else none, frz := fun r => bif Nat.beq r 14 then [6] else [] }
theorem lo87_0 : LoopOkK Tryz.prog Tryz.f87.ntmps (lp87_0) (lb 0 Tryz.f87) :=
  loop_ok (xid := XID) (ro := ro87) (H := h87) mixed (tabOk87) (loops_of (L := []) (by kernel_rfl) (lnil)) (fun p s => ref1_Sub_R0 p.1 p.2 s) (fun p s => by kernel_rfl) (fun p s => rfl)
theorem ok87 : FnOk Tryz.prog 87 ⟨[.ty (.sl (.int .u32)), .ty (.sl (.int .u32))], [(.sl (.int .u32)), .bool], fun x => ref1_Sub x.1 x.2⟩ :=
  fn_ok (xid := XID) (ro := ro87) (H := h87) (fn := Tryz.f87) (code := bodyOf Tryz.f87) mixed (tabOk87) Tryz.func87 rfl (by kernel_rfl) (loops_of (L := [(0, lb 0 Tryz.f87)]) (by kernel_rfl) (lcons rfl (lo87_0) (lnil))) (fun x => by kernel_rfl)
/-! 64: pantograph/pantographref1.DivMod -/
noncomputable def tab64 : Tab := [(62, .d ⟨[.ty (.sl (.int .u32))], [(.sl (.int .u32))], fun x => ref1_Trim x⟩), (84, .d ⟨[.ty (.sl (.int .u32))], [(.int .u64), .bool], fun x => ref1_To x⟩), (80, .d ⟨[.ty (.int .u64)], [(.sl (.int .u32))], fun x => ref1_Of x⟩), (65, .d ⟨[.ty (.sl (.int .u32)), .ty (.int .u64)], [(.sl (.int .u32)), (.int .u64)], fun x => ref1_small x.1 x.2⟩), (85, .d ⟨[.ty (.sl (.int .u32)), .ty (.int .i64)], [(.sl (.int .u32))], fun x => ref1_Shift x.1 x.2⟩), (54, .d ⟨[.ty (.sl (.int .u32)), .ty (.sl (.int .u32))], [(.sl (.int .u32))], fun x => ref1_Add x.1 x.2⟩), (86, .d ⟨[.ty (.sl (.int .u32)), .ty (.sl (.int .u32))], [(.int .i64)], fun x => ref1_Cmp x.1 x.2⟩), (87, .d ⟨[.ty (.sl (.int .u32)), .ty (.sl (.int .u32))], [(.sl (.int .u32)), .bool], fun x => ref1_Sub x.1 x.2⟩)]
theorem tabOk64 : TabOk Tryz.prog (tab64) := tabOk_cons ok62 (tabOk_cons ok84 (tabOk_cons ok80 (tabOk_cons ok65 (tabOk_cons ok85 (tabOk_cons ok54 (tabOk_cons ok86 (tabOk_cons ok87 (tabOk_nil _))))))))
def ro64 : Nat → Bool := fun s => false
noncomputable def lp64_0 : LoopD := { gh := [], ps := [.s 0 (.imm (.sl (.int .u32))), .s 1 (.imm (.sl (.int .u32)))], sh := ⟨[.s 14 (.imm (.sl (.int .u32))), .s 15 (.imm (.int .i64)), .a (.int .u32)], [(13, .cur 0 (.int .u32))], [.arr (.int .u32)]⟩, ws := [⟨.exit 0, ⟨[.s 14 (.imm (.sl (.int .u32))), .a (.int .u32)], [(13, .cur 0 (.int .u32))], [.arr (.int .u32)]⟩⟩], F := fun p s => ref1_DivMod_L0 p.1 p.2 s }
noncomputable def h64 : Hints := { loop := fun id => bif Nat.beq id 0 then some (lp64_0) else none, cut := fun k r => bif Nat.beq k 0 && Nat.beq r 5 then some (.flat [.s 33 (.imm .bool)]) else bif Nat.beq k 0 && Nat.beq r 7 then some (.flat [.s 46 (.imm .bool)]) else bif Nat.beq k 3 && Nat.beq r 16 then some (.ways [⟨.normal, ⟨[.s 14 (.imm (.sl (.int .u32))), .a (.int .u32)], [(13, .cur 0 (.int .u32))], [.arr (.int .u32)]⟩⟩]) else none, frz := fun r => bif Nat.beq r 21 then [13] else [] }
theorem lo64_0 : LoopOkK Tryz.prog Tryz.f64.ntmps (lp64_0) (lb 0 Tryz.f64) :=
  loop_ok (xid := XID) (ro := ro64) (H := h64) mixed (tabOk64) (loops_of (L := []) (by kernel_rfl) (lnil)) (fun p s => ref1_DivMod_R0 p.1 p.2 s) (fun p s => by kernel_rfl) (fun p s => rfl)
theorem ok64 : FnOk Tryz.prog 64 ⟨[.ty (.sl (.int .u32)), .ty (.sl (.int .u32))], [(.sl (.int .u32)), (.sl (.int .u32)), .bool], fun x => ref1_DivMod x.1 x.2⟩ :=
  fn_ok (xid := XID) (ro := ro64) (H := h64) (fn := Tryz.f64) (code := bodyOf Tryz.f64) mixed (tabOk64) Tryz.func64 rfl (by kernel_rfl) (loops_of (L := [(0, lb 0 Tryz.f64)]) (by kernel_rfl) (lcons rfl (lo64_0) (lnil))) (fun x => by kernel_rfl)
/-! 63: pantograph/pantographref1.Gcd -/
noncomputable def tab63 : Tab := [(62, .d ⟨[.ty (.sl (.int .u32))], [(.sl (.int .u32))], fun x => ref1_Trim x⟩), (64, .d ⟨[.ty (.sl (.int .u32)), .ty (.sl (.int .u32))], [(.sl (.int .u32)), (.sl (.int .u32)), .bool], fun x => ref1_DivMod x.1 x.2⟩)]
theorem tabOk63 : TabOk Tryz.prog (tab63) := tabOk_cons ok62 (tabOk_cons ok64 (tabOk_nil _))
def ro63 : Nat → Bool := fun s => false
noncomputable def lp63_0 : LoopD := { gh := [], ps := [], sh := ⟨[.s 5 (.imm (.sl (.int .u32))), .s 6 (.imm (.sl (.int .u32)))], [], []⟩, ws := [⟨.exit 0, ⟨[.s 5 (.imm (.sl (.int .u32)))], [], []⟩⟩], F := fun p s => ref1_Gcd_L0  s }
noncomputable def h63 : Hints := { loop := fun id => bif Nat.beq id 0 then some (lp63_0) else none, cut := fun k r => none, frz := fun r => [] }
theorem lo63_0 : LoopOkK Tryz.prog Tryz.f63.ntmps (lp63_0) (lb 0 Tryz.f63) :=
  loop_ok (xid := XID) (ro := ro63) (H := h63) mixed (tabOk63) (loops_of (L := []) (by kernel_rfl) (lnil)) (fun p s => ref1_Gcd_R0  s) (fun p s => by kernel_rfl) (fun p s => rfl)
theorem ok63 : FnOk Tryz.prog 63 ⟨[.ty (.sl (.int .u32)), .ty (.sl (.int .u32))], [(.sl (.int .u32))], fun x => ref1_Gcd x.1 x.2⟩ :=
  fn_ok (xid := XID) (ro := ro63) (H := h63) (fn := Tryz.f63) (code := bodyOf Tryz.f63) mixed (tabOk63) Tryz.func63 rfl (by kernel_rfl) (loops_of (L := [(0, lb 0 Tryz.f63)]) (by kernel_rfl) (lcons rfl (lo63_0) (lnil))) (fun x => by kernel_rfl)
/-! 36: pantograph/pantographref2.Norm -/
noncomputable def tab36 : Tab := [(62, .d ⟨[.ty (.sl (.int .u32))], [(.sl (.int .u32))], fun x => ref1_Trim x⟩), (63, .d ⟨[.ty (.sl (.int .u32)), .ty (.sl (.int .u32))], [(.sl (.int .u32))], fun x => ref1_Gcd x.1 x.2⟩), (64, .d ⟨[.ty (.sl (.int .u32)), .ty (.sl (.int .u32))], [(.sl (.int .u32)), (.sl (.int .u32)), .bool], fun x => ref1_DivMod x.1 x.2⟩)]
theorem tabOk36 : TabOk Tryz.prog (tab36) := tabOk_cons ok62 (tabOk_cons ok63 (tabOk_cons ok64 (tabOk_nil _)))
def ro36 : Nat → Bool := fun s => Nat.beq s 1
noncomputable def h36 : Hints := { loop := fun id => none, cut := fun k r => bif Nat.beq k 0 && Nat.beq r 2 then some (.flat [.s 19 (.imm .bool)]) else none, frz := fun r => [] }
theorem ok36 : FnOk Tryz.prog 36 ⟨[.ty tyRat], [tyRat], fun x => ref2_Norm x⟩ :=
  fn_ok (xid := XID) (ro := ro36) (H := h36) (fn := Tryz.f36) (code := bodyOf Tryz.f36) mixed (tabOk36) Tryz.func36 rfl (by kernel_rfl) (loops_of (L := []) (by kernel_rfl) (lnil)) (fun x => by kernel_rfl)
/-! 52: pantograph/pantographref2.Of -/
noncomputable def tab52 : Tab := [(36, .d ⟨[.ty tyRat], [tyRat], fun x => ref2_Norm x⟩)]
theorem tabOk52 : TabOk Tryz.prog (tab52) := tabOk_cons ok36 (tabOk_nil _)
def ro52 : Nat → Bool := fun s => false
noncomputable def h52 : Hints := { loop := fun id => none, cut := fun k r => none, frz := fun r => [] }
theorem ok52 : FnOk Tryz.prog 52 ⟨[.ty .bool, .ty (.sl (.int .u32)), .ty (.sl (.int .u32))], [tyRat], fun x => ref2_Of x.1 x.2.1 x.2.2⟩ :=
  fn_ok (xid := XID) (ro := ro52) (H := h52) (fn := Tryz.f52) (code := bodyOf Tryz.f52) mixed (tabOk52) Tryz.func52 rfl (by kernel_rfl) (loops_of (L := []) (by kernel_rfl) (lnil)) (fun x => by kernel_rfl)
/-! 49: pantograph/pantographref2.Int -/
noncomputable def tab49 : Tab := [(80, .d ⟨[.ty (.int .u64)], [(.sl (.int .u32))], fun x => ref1_Of x⟩), (52, .d ⟨[.ty .bool, .ty (.sl (.int .u32)), .ty (.sl (.int .u32))], [tyRat], fun x => ref2_Of x.1 x.2.1 x.2.2⟩)]
theorem tabOk49 : TabOk Tryz.prog (tab49) := tabOk_cons ok80 (tabOk_cons ok52 (tabOk_nil _))
def ro49 : Nat → Bool := fun s => false
noncomputable def h49 : Hints := { loop := fun id => none, cut := fun k r => bif Nat.beq k 3 && Nat.beq r 2 then some (.flat [.s 3 (.imm (.int .u64))]) else none, frz := fun r => [] }
theorem ok49 : FnOk Tryz.prog 49 ⟨[.ty (.int .i64)], [tyRat], fun x => ref2_Int x⟩ :=
  fn_ok (xid := XID) (ro := ro49) (H := h49) (fn := Tryz.f49) (code := bodyOf Tryz.f49) mixed (tabOk49) Tryz.func49 rfl (by kernel_rfl) (loops_of (L := []) (by kernel_rfl) (lnil)) (fun x => by kernel_rfl)
/-! 50: pantograph/pantographref3.run -/
noncomputable def tab50 : Tab := []
theorem tabOk50 : TabOk Tryz.prog (tab50) := tabOk_nil _
def ro50 : Nat → Bool := fun s => false
noncomputable def lp50_0 : LoopD := { gh := [], ps := [.s 0 (.imm .str)], sh := ⟨[.s 3 (.imm (.int .i64))], [], []⟩, ws := [⟨.exit 0, ⟨[.s 3 (.imm (.int .i64))], [], []⟩⟩], F := fun p s => ref3_run_L0 p s }
noncomputable def h50 : Hints := { loop := fun id => bif Nat.beq id 0 then some (lp50_0) else none, cut := fun k r => bif Nat.beq k 0 && Nat.beq r 2 then some (.flat [.s 19 (.imm .bool)]) else none, frz := fun r => [] }
theorem lo50_0 : LoopOkK Tryz.prog Tryz.f50.ntmps (lp50_0) (lb 0 Tryz.f50) :=
  loop_ok (xid := XID) (ro := ro50) (H := h50) mixed (tabOk50) (loops_of (L := []) (by kernel_rfl) (lnil)) (fun p s => ref3_run_R0 p s) (fun p s => by kernel_rfl) (fun p s => rfl)
theorem ok50 : FnOk Tryz.prog 50 ⟨[.ty .str], [(.int .i64)], fun x => ref3_run x⟩ :=
  fn_ok (xid := XID) (ro := ro50) (H := h50) (fn := Tryz.f50) (code := bodyOf Tryz.f50) mixed (tabOk50) Tryz.func50 rfl (by kernel_rfl) (loops_of (L := [(0, lb 0 Tryz.f50)]) (by kernel_rfl) (lcons rfl (lo50_0) (lnil))) (fun x => by kernel_rfl)
/-! 55: pantograph/pantographref1.Mul -/
noncomputable def tab55 : Tab := [(81, .d ⟨[.ty (.sl (.int .u32)), .ty (.int .i64)], [(.int .u64)], fun x => ref1_at x.1 x.2⟩), (62, .d ⟨[.ty (.sl (.int .u32))], [(.sl (.int .u32))], fun x => ref1_Trim x⟩)]
theorem tabOk55 : TabOk Tryz.prog (tab55) := tabOk_cons ok81 (tabOk_cons ok62 (tabOk_nil _))
def ro55 : Nat → Bool := fun s => false
noncomputable def lp55_2 : LoopD := { gh := [], ps := [.s 0 (.imm (.sl (.int .u32))), .s 1 (.imm (.sl (.int .u32))), .s 6 (.imm (.int .i64))], sh := ⟨[.s 7 (.imm (.int .u64)), .s 8 (.imm (.int .i64)), .a (.int .u32)], [(5, .cur 0 (.int .u32))], [.arr (.int .u32)]⟩, ws := [⟨.exit 2, ⟨[.a (.int .u32)], [(5, .cur 0 (.int .u32))], [.arr (.int .u32)]⟩⟩], F := fun p s => ref1_Mul_L1 p.1 p.2.1 p.2.2 s }
noncomputable def lp55_0 : LoopD := { gh := [], ps := [.s 0 (.imm (.sl (.int .u32))), .s 1 (.imm (.sl (.int .u32)))], sh := ⟨[.s 6 (.imm (.int .i64)), .a (.int .u32)], [(5, .cur 0 (.int .u32))], [.arr (.int .u32)]⟩, ws := [⟨.exit 0, ⟨[.a (.int .u32)], [(5, .cur 0 (.int .u32))], [.arr (.int .u32)]⟩⟩], F := fun p s => ref1_Mul_L0 p.1 p.2 s }
noncomputable def h55 : Hints := { loop := fun id => bif Nat.beq id 2 then some (lp55_2) else bif Nat.beq id 0 then some (lp55_0) else none, cut := fun k r => bif Nat.beq k 0 && Nat.beq r 7 then some (.flat [.s 28 (.imm .bool)]) else none, frz := fun r => bif Nat.beq r 13 then [5] else [] }
theorem lo55_2 : LoopOkK Tryz.prog Tryz.f55.ntmps (lp55_2) (lb 2 Tryz.f55) :=
  loop_ok (xid := XID) (ro := ro55) (H := h55) mixed (tabOk55) (loops_of (L := []) (by kernel_rfl) (lnil)) (fun p s => ref1_Mul_R1 p.1 p.2.1 p.2.2 s) (fun p s => by kernel_rfl) (fun p s => rfl)
theorem lo55_0 : LoopOkK Tryz.prog Tryz.f55.ntmps (lp55_0) (lb 0 Tryz.f55) :=
  loop_ok (xid := XID) (ro := ro55) (H := h55) mixed (tabOk55) (loops_of (L := [(2, lb 2 Tryz.f55)]) (by kernel_rfl) (lcons rfl (lo55_2) (lnil))) (fun p s => ref1_Mul_R0 p.1 p.2 s) (fun p s => by kernel_rfl) (fun p s => rfl)
theorem ok55 : FnOk Tryz.prog 55 ⟨[.ty (.sl (.int .u32)), .ty (.sl (.int .u32))], [(.sl (.int .u32))], fun x => ref1_Mul x.1 x.2⟩ :=
  fn_ok (xid := XID) (ro := ro55) (H := h55) (fn := Tryz.f55) (code := bodyOf Tryz.f55) mixed (tabOk55) Tryz.func55 rfl (by kernel_rfl) (loops_of (L := [(0, lb 0 Tryz.f55)]) (by kernel_rfl) (lcons rfl (lo55_0) (lnil))) (fun x => by kernel_rfl)
/-! 51: pantograph/pantographref1.Parse -/
noncomputable def tab51 : Tab := [(55, .d ⟨[.ty (.sl (.int .u32)), .ty (.sl (.int .u32))], [(.sl (.int .u32))], fun x => ref1_Mul x.1 x.2⟩), (54, .d ⟨[.ty (.sl (.int .u32)), .ty (.sl (.int .u32))], [(.sl (.int .u32))], fun x => ref1_Add x.1 x.2⟩)]
theorem tabOk51 : TabOk Tryz.prog (tab51) := tabOk_cons ok55 (tabOk_cons ok54 (tabOk_nil _))
def ro51 : Nat → Bool := fun s => false
noncomputable def lp51_0 : LoopD := { gh := [], ps := [.s 0 (.imm .str)], sh := ⟨[.s 4 (.imm (.sl (.int .u32))), .s 5 (.imm (.int .i64))], [], []⟩, ws := [⟨.exit 0, ⟨[.s 4 (.imm (.sl (.int .u32)))], [], []⟩⟩, ⟨.ret, ⟨[.s 3 (.imm .bool)], [(2, .nilsl)], []⟩⟩], F := fun p s => ref1_Parse_L0 p s }
noncomputable def h51 : Hints := { loop := fun id => bif Nat.beq id 0 then some (lp51_0) else none, cut := fun k r => bif Nat.beq k 0 && Nat.beq r 1 then some (.flat [.s 13 (.imm .bool)]) else bif Nat.beq k 0 && Nat.beq r 7 then some (.flat [.s 29 (.imm .bool)]) else none, frz := fun r => [] }
theorem lo51_0 : LoopOkK Tryz.prog Tryz.f51.ntmps (lp51_0) (lb 0 Tryz.f51) :=
  loop_ok (xid := XID) (ro := ro51) (H := h51) mixed (tabOk51) (loops_of (L := []) (by kernel_rfl) (lnil)) (fun p s => ref1_Parse_R0 p s) (fun p s => by kernel_rfl) (fun p s => rfl)
theorem ok51 : FnOk Tryz.prog 51 ⟨[.ty .str], [(.sl (.int .u32)), .bool], fun x => ref1_Parse x⟩ :=
  fn_ok (xid := XID) (ro := ro51) (H := h51) (fn := Tryz.f51) (code := bodyOf Tryz.f51) mixed (tabOk51) Tryz.func51 rfl (by kernel_rfl) (loops_of (L := [(0, lb 0 Tryz.f51)]) (by kernel_rfl) (lcons rfl (lo51_0) (lnil))) (fun x => by kernel_rfl)
/-! 53: pantograph/pantographref3.ten -/
noncomputable def tab53 : Tab := [(55, .d ⟨[.ty (.sl (.int .u32)), .ty (.sl (.int .u32))], [(.sl (.int .u32))], fun x => ref1_Mul x.1 x.2⟩)]
theorem tabOk53 : TabOk Tryz.prog (tab53) := tabOk_cons ok55 (tabOk_nil _)
def ro53 : Nat → Bool := fun s => false
noncomputable def lp53_0 : LoopD := { gh := [], ps := [.s 0 (.imm (.int .i64))], sh := ⟨[.s 3 (.imm (.sl (.int .u32))), .s 4 (.imm (.int .i64))], [], []⟩, ws := [⟨.exit 0, ⟨[.s 3 (.imm (.sl (.int .u32)))], [], []⟩⟩], F := fun p s => ref3_ten_L0 p s }
noncomputable def h53 : Hints := { loop := fun id => bif Nat.beq id 0 then some (lp53_0) else none, cut := fun k r => none, frz := fun r => [] }
theorem lo53_0 : LoopOkK Tryz.prog Tryz.f53.ntmps (lp53_0) (lb 0 Tryz.f53) :=
  loop_ok (xid := XID) (ro := ro53) (H := h53) mixed (tabOk53) (loops_of (L := []) (by kernel_rfl) (lnil)) (fun p s => ref3_ten_R0 p s) (fun p s => by kernel_rfl) (fun p s => rfl)
theorem ok53 : FnOk Tryz.prog 53 ⟨[.ty (.int .i64)], [(.sl (.int .u32))], fun x => ref3_ten x⟩ :=
  fn_ok (xid := XID) (ro := ro53) (H := h53) (fn := Tryz.f53) (code := bodyOf Tryz.f53) mixed (tabOk53) Tryz.func53 rfl (by kernel_rfl) (loops_of (L := [(0, lb 0 Tryz.f53)]) (by kernel_rfl) (lcons rfl (lo53_0) (lnil))) (fun x => by kernel_rfl)
/-! 28: pantograph/pantographref3.Parse -/
noncomputable def tab28 : Tab := [(49, .d ⟨[.ty (.int .i64)], [tyRat], fun x => ref2_Int x⟩), (50, .d ⟨[.ty .str], [(.int .i64)], fun x => ref3_run x⟩), (51, .d ⟨[.ty .str], [(.sl (.int .u32)), .bool], fun x => ref1_Parse x⟩), (52, .d ⟨[.ty .bool, .ty (.sl (.int .u32)), .ty (.sl (.int .u32))], [tyRat], fun x => ref2_Of x.1 x.2.1 x.2.2⟩), (53, .d ⟨[.ty (.int .i64)], [(.sl (.int .u32))], fun x => ref3_ten x⟩), (55, .d ⟨[.ty (.sl (.int .u32)), .ty (.sl (.int .u32))], [(.sl (.int .u32))], fun x => ref1_Mul x.1 x.2⟩), (54, .d ⟨[.ty (.sl (.int .u32)), .ty (.sl (.int .u32))], [(.sl (.int .u32))], fun x => ref1_Add x.1 x.2⟩)]
theorem tabOk28 : TabOk Tryz.prog (tab28) := tabOk_cons ok49 (tabOk_cons ok50 (tabOk_cons ok51 (tabOk_cons ok52 (tabOk_cons ok53 (tabOk_cons ok55 (tabOk_cons ok54 (tabOk_nil _)))))))
def ro28 : Nat → Bool := fun s => false
noncomputable def h28 : Hints := { loop := fun id => none, cut := fun k r => bif Nat.beq k 0 && Nat.beq r 3 then some (.flat [.s 4 (.imm .bool)]) else bif Nat.beq k 3 && Nat.beq r 4 then some (.flat [.s 0 (.imm .str)]) else bif Nat.beq k 0 && Nat.beq r 14 then some (.flat [.s 71 (.imm .bool)]) else none, frz := fun r => [] }
theorem ok28 : FnOk Tryz.prog 28 ⟨[.ty .str], [tyRat, (.int .i64)], fun x => ref3_Parse x⟩ :=
  fn_ok (xid := XID) (ro := ro28) (H := h28) (fn := Tryz.f28) (code := bodyOf Tryz.f28) mixed (tabOk28) Tryz.func28 rfl (by kernel_rfl) (loops_of (L := []) (by kernel_rfl) (lnil)) (fun x => by kernel_rfl)
/-! 56: pantograph/pantographref5.letter -/
noncomputable def tab56 : Tab := []
theorem tabOk56 : TabOk Tryz.prog (tab56) := tabOk_nil _
def ro56 : Nat → Bool := fun s => false
noncomputable def h56 : Hints := { loop := fun id => none, cut := fun k r => bif Nat.beq k 0 && Nat.beq r 1 then some (.flat [.s 2 (.imm .bool)]) else none, frz := fun r => [] }
theorem ok56 : FnOk Tryz.prog 56 ⟨[.ty (.int .u8)], [.bool], fun x => ref5_letter x⟩ :=
  fn_ok (xid := XID) (ro := ro56) (H := h56) (fn := Tryz.f56) (code := bodyOf Tryz.f56) mixed (tabOk56) Tryz.func56 rfl (by kernel_rfl) (loops_of (L := []) (by kernel_rfl) (lnil)) (fun x => by kernel_rfl)
/-! 57: pantograph/pantographref5.digit -/
noncomputable def tab57 : Tab := []
theorem tabOk57 : TabOk Tryz.prog (tab57) := tabOk_nil _
def ro57 : Nat → Bool := fun s => false
noncomputable def h57 : Hints := { loop := fun id => none, cut := fun k r => bif Nat.beq k 0 && Nat.beq r 1 then some (.flat [.s 2 (.imm .bool)]) else none, frz := fun r => [] }
theorem ok57 : FnOk Tryz.prog 57 ⟨[.ty (.int .u8)], [.bool], fun x => ref5_digit x⟩ :=
  fn_ok (xid := XID) (ro := ro57) (H := h57) (fn := Tryz.f57) (code := bodyOf Tryz.f57) mixed (tabOk57) Tryz.func57 rfl (by kernel_rfl) (loops_of (L := []) (by kernel_rfl) (lnil)) (fun x => by kernel_rfl)
/-! 29: pantograph/pantographref5.Name -/
noncomputable def tab29 : Tab := [(56, .d ⟨[.ty (.int .u8)], [.bool], fun x => ref5_letter x⟩), (57, .d ⟨[.ty (.int .u8)], [.bool], fun x => ref5_digit x⟩)]
theorem tabOk29 : TabOk Tryz.prog (tab29) := tabOk_cons ok56 (tabOk_cons ok57 (tabOk_nil _))
def ro29 : Nat → Bool := fun s => false
noncomputable def lp29_0 : LoopD := { gh := [], ps := [.s 0 (.imm .str)], sh := ⟨[.s 3 (.imm (.int .i64))], [], []⟩, ws := [⟨.exit 0, ⟨[], [], []⟩⟩, ⟨.ret, ⟨[.s 2 (.imm .bool)], [], []⟩⟩], F := fun p s => ref5_Name_L0 p s }
noncomputable def h29 : Hints := { loop := fun id => bif Nat.beq id 0 then some (lp29_0) else none, cut := fun k r => bif Nat.beq k 0 && Nat.beq r 1 then some (.ways [⟨.normal, ⟨[.s 17 (.imm .bool)], [], []⟩⟩]) else bif Nat.beq k 0 && Nat.beq r 6 then some (.ways [⟨.normal, ⟨[.s 41 (.imm .bool)], [], []⟩⟩]) else none, frz := fun r => [] }
theorem lo29_0 : LoopOkK Tryz.prog Tryz.f29.ntmps (lp29_0) (lb 0 Tryz.f29) :=
  loop_ok (xid := XID) (ro := ro29) (H := h29) mixed (tabOk29) (loops_of (L := []) (by kernel_rfl) (lnil)) (fun p s => ref5_Name_R0 p s) (fun p s => by kernel_rfl) (fun p s => rfl)
theorem ok29 : FnOk Tryz.prog 29 ⟨[.ty .str], [.bool], fun x => ref5_Name x⟩ :=
  fn_ok (xid := XID) (ro := ro29) (H := h29) (fn := Tryz.f29) (code := bodyOf Tryz.f29) mixed (tabOk29) Tryz.func29 rfl (by kernel_rfl) (loops_of (L := [(0, lb 0 Tryz.f29)]) (by kernel_rfl) (lcons rfl (lo29_0) (lnil))) (fun x => by kernel_rfl)
/-! 15: pantograph/pantographref21.item -/
noncomputable def tab15 : Tab := [(28, .d ⟨[.ty .str], [tyRat, (.int .i64)], fun x => ref3_Parse x⟩), (29, .d ⟨[.ty .str], [.bool], fun x => ref5_Name x⟩)]
theorem tabOk15 : TabOk Tryz.prog (tab15) := tabOk_cons ok28 (tabOk_cons ok29 (tabOk_nil _))
def ro15 : Nat → Bool := fun s => false
noncomputable def lp15_0 : LoopD := { gh := [], ps := [.s 0 (.imm .str)], sh := ⟨[.s 4 (.imm (.int .i64)), .v (.imm tyrecord_Item)], [(2, .ptr 0 0)], [.var (.imm tyrecord_Item)]⟩, ws := [⟨.exit 0, ⟨[.v (.imm tyrecord_Item)], [], [.var (.imm tyrecord_Item)]⟩⟩, ⟨.ret, ⟨[.s 3 (.imm .bool), .v (.imm tyrecord_Item)], [], [.var (.imm tyrecord_Item)]⟩⟩], F := fun p s => ref21_item_L0 p s }
noncomputable def h15 : Hints := { loop := fun id => bif Nat.beq id 0 then some (lp15_0) else none, cut := fun k r => none, frz := fun r => [] }
theorem lo15_0 : LoopOkK Tryz.prog Tryz.f15.ntmps (lp15_0) (lb 0 Tryz.f15) :=
  loop_ok (xid := XID) (ro := ro15) (H := h15) mixed (tabOk15) (loops_of (L := []) (by kernel_rfl) (lnil)) (fun p s => ref21_item_R0 p s) (fun p s => by kernel_rfl) (fun p s => rfl)
theorem ok15 : FnOk Tryz.prog 15 ⟨[.ty .str], [tyrecord_Item, .bool], fun x => ref21_item x⟩ :=
  fn_ok (xid := XID) (ro := ro15) (H := h15) (fn := Tryz.f15) (code := bodyOf Tryz.f15) mixed (tabOk15) Tryz.func15 rfl (by kernel_rfl) (loops_of (L := [(0, lb 0 Tryz.f15)]) (by kernel_rfl) (lcons rfl (lo15_0) (lnil))) (fun x => by kernel_rfl)
/-! 37: pantograph/pantographref3.sign -/
noncomputable def tab37 : Tab := []
theorem tabOk37 : TabOk Tryz.prog (tab37) := tabOk_nil _
def ro37 : Nat → Bool := fun s => false
noncomputable def h37 : Hints := { loop := fun id => none, cut := fun k r => none, frz := fun r => [] }
theorem ok37 : FnOk Tryz.prog 37 ⟨[.ty .bool], [.str], fun x => ref3_sign x⟩ :=
  fn_ok (xid := XID) (ro := ro37) (H := h37) (fn := Tryz.f37) (code := bodyOf Tryz.f37) mixed (tabOk37) Tryz.func37 rfl (by kernel_rfl) (loops_of (L := []) (by kernel_rfl) (lnil)) (fun x => by kernel_rfl)
/-! 38: pantograph/pantographref1.Print -/
noncomputable def tab38 : Tab := [(62, .d ⟨[.ty (.sl (.int .u32))], [(.sl (.int .u32))], fun x => ref1_Trim x⟩), (65, .d ⟨[.ty (.sl (.int .u32)), .ty (.int .u64)], [(.sl (.int .u32)), (.int .u64)], fun x => ref1_small x.1 x.2⟩)]
theorem tabOk38 : TabOk Tryz.prog (tab38) := tabOk_cons ok62 (tabOk_cons ok65 (tabOk_nil _))
def ro38 : Nat → Bool := fun s => false
noncomputable def lp38_0 : LoopD := { gh := [], ps := [], sh := ⟨[.s 3 (.imm (.sl (.int .u32))), .s 4 (.imm .str)], [], []⟩, ws := [⟨.exit 0, ⟨[.s 4 (.imm .str)], [], []⟩⟩], F := fun p s => ref1_Print_L0  s }
noncomputable def h38 : Hints := { loop := fun id => bif Nat.beq id 0 then some (lp38_0) else none, cut := fun k r => none, frz := fun r => [] }
theorem lo38_0 : LoopOkK Tryz.prog Tryz.f38.ntmps (lp38_0) (lb 0 Tryz.f38) :=
  loop_ok (xid := XID) (ro := ro38) (H := h38) mixed (tabOk38) (loops_of (L := []) (by kernel_rfl) (lnil)) (fun p s => ref1_Print_R0  s) (fun p s => by kernel_rfl) (fun p s => rfl)
theorem ok38 : FnOk Tryz.prog 38 ⟨[.ty (.sl (.int .u32))], [.str], fun x => ref1_Print x⟩ :=
  fn_ok (xid := XID) (ro := ro38) (H := h38) (fn := Tryz.f38) (code := bodyOf Tryz.f38) mixed (tabOk38) Tryz.func38 rfl (by kernel_rfl) (loops_of (L := [(0, lb 0 Tryz.f38)]) (by kernel_rfl) (lcons rfl (lo38_0) (lnil))) (fun x => by kernel_rfl)
/-! 19: pantograph/pantographref3.Print -/
noncomputable def tab19 : Tab := [(36, .d ⟨[.ty tyRat], [tyRat], fun x => ref2_Norm x⟩), (37, .d ⟨[.ty .bool], [.str], fun x => ref3_sign x⟩), (38, .d ⟨[.ty (.sl (.int .u32))], [.str], fun x => ref1_Print x⟩)]
theorem tabOk19 : TabOk Tryz.prog (tab19) := tabOk_cons ok36 (tabOk_cons ok37 (tabOk_cons ok38 (tabOk_nil _)))
def ro19 : Nat → Bool := fun s => Nat.beq s 1
noncomputable def h19 : Hints := { loop := fun id => none, cut := fun k r => bif Nat.beq k 0 && Nat.beq r 3 then some (.flat [.s 24 (.imm .bool)]) else none, frz := fun r => [] }
theorem ok19 : FnOk Tryz.prog 19 ⟨[.ty tyRat], [.str], fun x => ref3_Print x⟩ :=
  fn_ok (xid := XID) (ro := ro19) (H := h19) (fn := Tryz.f19) (code := bodyOf Tryz.f19) mixed (tabOk19) Tryz.func19 rfl (by kernel_rfl) (loops_of (L := []) (by kernel_rfl) (lnil)) (fun x => by kernel_rfl)
/-! 8: pantograph/pantographref21.Encode -/
noncomputable def tab8 : Tab := [(19, .d ⟨[.ty tyRat], [.str], fun x => ref3_Print x⟩)]
theorem tabOk8 : TabOk Tryz.prog (tab8) := tabOk_cons ok19 (tabOk_nil _)
def ro8 : Nat → Bool := fun s => false
noncomputable def lp8_0 : LoopD := { gh := [], ps := [.s 0 (.imm (.sl tyrecord_Item))], sh := ⟨[.s 3 (.imm .str), .s 4 (.imm (.int .i64))], [], []⟩, ws := [⟨.exit 0, ⟨[.s 3 (.imm .str)], [], []⟩⟩], F := fun p s => ref21_Encode_L0 p s }
noncomputable def h8 : Hints := { loop := fun id => bif Nat.beq id 0 then some (lp8_0) else none, cut := fun k r => none, frz := fun r => [] }
theorem lo8_0 : LoopOkK Tryz.prog Tryz.f8.ntmps (lp8_0) (lb 0 Tryz.f8) :=
  loop_ok (xid := XID) (ro := ro8) (H := h8) mixed (tabOk8) (loops_of (L := []) (by kernel_rfl) (lnil)) (fun p s => ref21_Encode_R0 p s) (fun p s => by kernel_rfl) (fun p s => rfl)
theorem ok8 : FnOk Tryz.prog 8 ⟨[.ty (.sl tyrecord_Item)], [.str], fun x => ref21_Encode x⟩ :=
  fn_ok (xid := XID) (ro := ro8) (H := h8) (fn := Tryz.f8) (code := bodyOf Tryz.f8) mixed (tabOk8) Tryz.func8 rfl (by kernel_rfl) (loops_of (L := [(0, lb 0 Tryz.f8)]) (by kernel_rfl) (lcons rfl (lo8_0) (lnil))) (fun x => by kernel_rfl)
/-! 6: pantograph/pantographref21.Decode -/
noncomputable def tab6 : Tab := [(15, .d ⟨[.ty .str], [tyrecord_Item, .bool], fun x => ref21_item x⟩), (8, .d ⟨[.ty (.sl tyrecord_Item)], [.str], fun x => ref21_Encode x⟩)]
theorem tabOk6 : TabOk Tryz.prog (tab6) := tabOk_cons ok15 (tabOk_cons ok8 (tabOk_nil _))
def ro6 : Nat → Bool := fun s => false
noncomputable def lp6_0 : LoopD := { gh := [.slot 4 tyrecord_Item], ps := [.s 0 (.imm .str)], sh := ⟨[.s 5 (.imm (.int .i64)), .s 6 (.imm (.int .i64)), .a tyrecord_Item], [(4, .cur 0 tyrecord_Item)], [.arr tyrecord_Item]⟩, ws := [⟨.exit 0, ⟨[.a tyrecord_Item], [(4, .cur 0 tyrecord_Item)], [.arr tyrecord_Item]⟩⟩, ⟨.ret, ⟨[.s 3 (.imm (.int .i64)), .a tyrecord_Item], [(2, .nilsl)], [.arr tyrecord_Item]⟩⟩], F := fun p s => ref21_Decode_L0 p s }
noncomputable def h6 : Hints := { loop := fun id => bif Nat.beq id 0 then some (lp6_0) else none, cut := fun k r => none, frz := fun r => [] }
theorem lo6_0 : LoopOkK Tryz.prog Tryz.f6.ntmps (lp6_0) (lb 0 Tryz.f6) :=
  loop_ok (xid := XID) (ro := ro6) (H := h6) mixed (tabOk6) (loops_of (L := []) (by kernel_rfl) (lnil)) (fun p s => ref21_Decode_R0 p s) (fun p s => by kernel_rfl) (fun p s => rfl)
theorem ok6 : FnOk Tryz.prog 6 ⟨[.ty .str], [(.sl tyrecord_Item), (.int .i64)], fun x => ref21_Decode x⟩ :=
  fn_ok (xid := XID) (ro := ro6) (H := h6) (fn := Tryz.f6) (code := bodyOf Tryz.f6) mixed (tabOk6) Tryz.func6 rfl (by kernel_rfl) (loops_of (L := [(0, lb 0 Tryz.f6)]) (by kernel_rfl) (lcons rfl (lo6_0) (lnil))) (fun x => by kernel_rfl)
/-! 9: pantograph/pantographlaw21.own -/
noncomputable def tab9 : Tab := []
theorem tabOk9 : TabOk Tryz.prog (tab9) := tabOk_nil _
def ro9 : Nat → Bool := fun s => false
noncomputable def lp9_0 : LoopD := { gh := [.slot 3 tyrecord_Item], ps := [.s 0 (.imm (.sl tyrecord_Item))], sh := ⟨[.s 4 (.imm (.int .i64)), .a tyrecord_Item], [(3, .cur 0 tyrecord_Item)], [.arr tyrecord_Item]⟩, ws := [⟨.exit 0, ⟨[.a tyrecord_Item], [(3, .cur 0 tyrecord_Item)], [.arr tyrecord_Item]⟩⟩], F := fun p s => law21_own_L0 p s }
noncomputable def h9 : Hints := { loop := fun id => bif Nat.beq id 0 then some (lp9_0) else none, cut := fun k r => none, frz := fun r => [] }
theorem lo9_0 : LoopOkK Tryz.prog Tryz.f9.ntmps (lp9_0) (lb 0 Tryz.f9) :=
  loop_ok (xid := XID) (ro := ro9) (H := h9) mixed (tabOk9) (loops_of (L := []) (by kernel_rfl) (lnil)) (fun p s => law21_own_R0 p s) (fun p s => by kernel_rfl) (fun p s => rfl)
theorem ok9 : FnOk Tryz.prog 9 ⟨[.ty (.sl tyrecord_Item)], [(.sl tyrecord_Item)], fun x => law21_own x⟩ :=
  fn_ok (xid := XID) (ro := ro9) (H := h9) (fn := Tryz.f9) (code := bodyOf Tryz.f9) mixed (tabOk9) Tryz.func9 rfl (by kernel_rfl) (loops_of (L := [(0, lb 0 Tryz.f9)]) (by kernel_rfl) (lcons rfl (lo9_0) (lnil))) (fun x => by kernel_rfl)
/-! 39: pantograph/pantographref2.limbs -/
noncomputable def tab39 : Tab := []
theorem tabOk39 : TabOk Tryz.prog (tab39) := tabOk_nil _
def ro39 : Nat → Bool := fun s => false
noncomputable def lp39_0 : LoopD := { gh := [], ps := [.s 0 (.imm (.sl (.int .u32))), .s 1 (.imm (.sl (.int .u32)))], sh := ⟨[.s 5 (.imm (.int .i64))], [], []⟩, ws := [⟨.exit 0, ⟨[], [], []⟩⟩, ⟨.ret, ⟨[.s 4 (.imm .bool)], [], []⟩⟩], F := fun p s => ref2_limbs_L0 p.1 p.2 s }
noncomputable def h39 : Hints := { loop := fun id => bif Nat.beq id 0 then some (lp39_0) else none, cut := fun k r => none, frz := fun r => [] }
theorem lo39_0 : LoopOkK Tryz.prog Tryz.f39.ntmps (lp39_0) (lb 0 Tryz.f39) :=
  loop_ok (xid := XID) (ro := ro39) (H := h39) mixed (tabOk39) (loops_of (L := []) (by kernel_rfl) (lnil)) (fun p s => ref2_limbs_R0 p.1 p.2 s) (fun p s => by kernel_rfl) (fun p s => rfl)
theorem ok39 : FnOk Tryz.prog 39 ⟨[.ty (.sl (.int .u32)), .ty (.sl (.int .u32))], [.bool], fun x => ref2_limbs x.1 x.2⟩ :=
  fn_ok (xid := XID) (ro := ro39) (H := h39) (fn := Tryz.f39) (code := bodyOf Tryz.f39) mixed (tabOk39) Tryz.func39 rfl (by kernel_rfl) (loops_of (L := [(0, lb 0 Tryz.f39)]) (by kernel_rfl) (lcons rfl (lo39_0) (lnil))) (fun x => by kernel_rfl)
/-! 20: pantograph/pantographref2.Same -/
noncomputable def tab20 : Tab := [(36, .d ⟨[.ty tyRat], [tyRat], fun x => ref2_Norm x⟩), (39, .d ⟨[.ty (.sl (.int .u32)), .ty (.sl (.int .u32))], [.bool], fun x => ref2_limbs x.1 x.2⟩)]
theorem tabOk20 : TabOk Tryz.prog (tab20) := tabOk_cons ok36 (tabOk_cons ok39 (tabOk_nil _))
def ro20 : Nat → Bool := fun s => Nat.beq s 2 || Nat.beq s 3
noncomputable def h20 : Hints := { loop := fun id => none, cut := fun k r => none, frz := fun r => [] }
theorem ok20 : FnOk Tryz.prog 20 ⟨[.ty tyRat, .ty tyRat], [.bool], fun x => ref2_Same x.1 x.2⟩ :=
  fn_ok (xid := XID) (ro := ro20) (H := h20) (fn := Tryz.f20) (code := bodyOf Tryz.f20) mixed (tabOk20) Tryz.func20 rfl (by kernel_rfl) (loops_of (L := []) (by kernel_rfl) (lnil)) (fun x => by kernel_rfl)
/-! 10: pantograph/pantographlaw21.items -/
noncomputable def tab10 : Tab := [(20, .d ⟨[.ty tyRat, .ty tyRat], [.bool], fun x => ref2_Same x.1 x.2⟩)]
theorem tabOk10 : TabOk Tryz.prog (tab10) := tabOk_cons ok20 (tabOk_nil _)
def ro10 : Nat → Bool := fun s => false
noncomputable def lp10_0 : LoopD := { gh := [], ps := [.s 0 (.imm (.sl tyrecord_Item)), .s 1 (.imm (.sl tyrecord_Item))], sh := ⟨[.s 5 (.imm (.int .i64))], [], []⟩, ws := [⟨.exit 0, ⟨[], [], []⟩⟩, ⟨.ret, ⟨[.s 4 (.imm .bool)], [], []⟩⟩], F := fun p s => law21_items_L0 p.1 p.2 s }
noncomputable def h10 : Hints := { loop := fun id => bif Nat.beq id 0 then some (lp10_0) else none, cut := fun k r => bif Nat.beq k 0 && Nat.beq r 6 then some (.ways [⟨.normal, ⟨[.s 41 (.imm .bool)], [], []⟩⟩]) else none, frz := fun r => [] }
theorem lo10_0 : LoopOkK Tryz.prog Tryz.f10.ntmps (lp10_0) (lb 0 Tryz.f10) :=
  loop_ok (xid := XID) (ro := ro10) (H := h10) mixed (tabOk10) (loops_of (L := []) (by kernel_rfl) (lnil)) (fun p s => law21_items_R0 p.1 p.2 s) (fun p s => by kernel_rfl) (fun p s => rfl)
theorem ok10 : FnOk Tryz.prog 10 ⟨[.ty (.sl tyrecord_Item), .ty (.sl tyrecord_Item)], [.bool], fun x => law21_items x.1 x.2⟩ :=
  fn_ok (xid := XID) (ro := ro10) (H := h10) (fn := Tryz.f10) (code := bodyOf Tryz.f10) mixed (tabOk10) Tryz.func10 rfl (by kernel_rfl) (loops_of (L := [(0, lb 0 Tryz.f10)]) (by kernel_rfl) (lcons rfl (lo10_0) (lnil))) (fun x => by kernel_rfl)
/-! 11: pantograph/pantographlaw21.known -/
noncomputable def tab11 : Tab := [(7, .d ⟨[.ty (.sl tyrecord_Item)], [.str], fun x => record_Encode x⟩)]
theorem tabOk11 : TabOk Tryz.prog (tab11) := tabOk_cons ok7 (tabOk_nil _)
def ro11 : Nat → Bool := fun s => false
noncomputable def h11 : Hints := { loop := fun id => none, cut := fun k r => none, frz := fun r => [] }
theorem ok11 : FnOk Tryz.prog 11 ⟨[], [.bool], fun _ => law21_known⟩ :=
  fn_ok (xid := XID) (ro := ro11) (H := h11) (fn := Tryz.f11) (code := bodyOf Tryz.f11) mixed (tabOk11) Tryz.func11 rfl (by kernel_rfl) (loops_of (L := []) (by kernel_rfl) (lnil)) (fun x => by kernel_rfl)
/-! 3: pantograph/pantographlaw21.RecordTexts -/
noncomputable def tab3 : Tab := [(4, .d ⟨[.ty (.sl tyrecord_Item)], [.bool], fun x => law21_long x⟩), (5, .d ⟨[.ty .str], [(.sl tyrecord_Item), (.int .i64)], fun x => record_Decode x⟩), (6, .d ⟨[.ty .str], [(.sl tyrecord_Item), (.int .i64)], fun x => ref21_Decode x⟩), (7, .d ⟨[.ty (.sl tyrecord_Item)], [.str], fun x => record_Encode x⟩), (9, .d ⟨[.ty (.sl tyrecord_Item)], [(.sl tyrecord_Item)], fun x => law21_own x⟩), (8, .d ⟨[.ty (.sl tyrecord_Item)], [.str], fun x => ref21_Encode x⟩), (10, .d ⟨[.ty (.sl tyrecord_Item), .ty (.sl tyrecord_Item)], [.bool], fun x => law21_items x.1 x.2⟩), (11, .d ⟨[], [.bool], fun _ => law21_known⟩)]
theorem tabOk3 : TabOk Tryz.prog (tab3) := tabOk_cons ok4 (tabOk_cons ok5 (tabOk_cons ok6 (tabOk_cons ok7 (tabOk_cons ok9 (tabOk_cons ok8 (tabOk_cons ok10 (tabOk_cons ok11 (tabOk_nil _))))))))
def ro3 : Nat → Bool := fun s => false
noncomputable def h3 : Hints := { loop := fun id => none, cut := fun k r => bif Nat.beq k 0 && Nat.beq r 1 then some (.ways [⟨.normal, ⟨[.s 15 (.imm .bool)], [], []⟩⟩]) else none, frz := fun r => [] }
theorem ok3 : FnOk Tryz.prog 3 ⟨[.ty (.sl tyrecord_Item), .ty .str], [.bool], fun x => law21_RecordTexts x.1 x.2⟩ :=
  fn_ok (xid := XID) (ro := ro3) (H := h3) (fn := Tryz.f3) (code := bodyOf Tryz.f3) mixed (tabOk3) Tryz.func3 rfl (by kernel_rfl) (loops_of (L := []) (by kernel_rfl) (lnil)) (fun x => by kernel_rfl)
end Go.AM.Lf
