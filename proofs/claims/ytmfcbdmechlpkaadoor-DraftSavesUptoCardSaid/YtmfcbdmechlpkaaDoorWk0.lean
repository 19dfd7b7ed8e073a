/-
  The walk, part 0: each function of the program is the tree that the lifted text says; printed by a program of ours.
-/
import Derived.Test.YtmfcbdmechlpkaaDoorProg
import Derived.KernelRfl
import Derived.Test.YtmfcbdmechlpkaaDoorAmD
import Derived.Test.YtmfcbdmechlpkaaDoorLf0
import Derived.Test.YtmfcbdmechlpkaaDoorSh
set_option linter.unusedVariables false
set_option maxRecDepth 100000
namespace Go.AM.Lf
open Go.Proofs
abbrev XID : Nat := 1000
noncomputable def bodyOf (f : Func) : Code := match f.body with | some c => c | none => .skip
noncomputable def lb (k : Nat) (f : Func) : Code := match loopAt k (bodyOf f) with | some c => c | none => .skip
theorem mixed : Tryd.prog.follows .mixedOrders = true := by kernel_rfl
instance : Glob := ⟨[(2, isTab .u64 Lib.pow10Tab)]⟩
theorem glob_internal_strconv_uint64pow10 {κ : KS} (hI : Inv κ) : Lib.TabIs Tryd.prog κ.w "internal/strconv.uint64pow10" .u64 Lib.pow10Tab :=
  tab_of (g := 2) (by kernel_rfl) (hI.gl (2, isTab .u64 Lib.pow10Tab) (by simp [Glob.tab])).2
/-! 11: pantograph/pantographlaw20.long -/
noncomputable def tab11 : Tab := []
theorem tabOk11 : TabOk Tryd.prog (tab11) := tabOk_nil _
def ro11 : Nat → Bool := fun s => Nat.beq s 1
noncomputable def lp11_0 : LoopD := { gh := [], ps := [.s 1 (.rptr tydraft_Draft)], sh := ⟨[.s 3 (.imm (.int .i64)), .s 4 (.imm (.int .i64))], [], []⟩, ws := [⟨.exit 0, ⟨[.s 3 (.imm (.int .i64))], [], []⟩⟩], F := fun p s => law20_long_L0 p s }
noncomputable def lp11_2 : LoopD := { gh := [], ps := [.s 1 (.rptr tydraft_Draft)], sh := ⟨[.s 3 (.imm (.int .i64)), .s 5 (.imm (.int .i64))], [], []⟩, ws := [⟨.exit 2, ⟨[.s 3 (.imm (.int .i64))], [], []⟩⟩], F := fun p s => law20_long_L1 p s }
noncomputable def h11 : Hints := { loop := fun id => bif Nat.beq id 0 then some (lp11_0) else bif Nat.beq id 2 then some (lp11_2) else none, cut := fun k r => none, frz := fun r => [] }
theorem lo11_0 : LoopOkK Tryd.prog Tryd.f11.ntmps (lp11_0) (lb 0 Tryd.f11) :=
  loop_ok (xid := XID) (ro := ro11) (H := h11) mixed (tabOk11) (loops_of (L := []) (by kernel_rfl) (lnil)) (fun p s => law20_long_R0 p s) (fun p s => by kernel_rfl) (fun p s => rfl)
theorem lo11_2 : LoopOkK Tryd.prog Tryd.f11.ntmps (lp11_2) (lb 2 Tryd.f11) :=
  loop_ok (xid := XID) (ro := ro11) (H := h11) mixed (tabOk11) (loops_of (L := []) (by kernel_rfl) (lnil)) (fun p s => law20_long_R1 p s) (fun p s => by kernel_rfl) (fun p s => rfl)
theorem ok11 : FnOk Tryd.prog 11 ⟨[.ty tydraft_Draft], [.bool], fun x => law20_long x⟩ :=
  fn_ok (xid := XID) (ro := ro11) (H := h11) (fn := Tryd.f11) (code := bodyOf Tryd.f11) mixed (tabOk11) Tryd.func11 rfl (by kernel_rfl) (loops_of (L := [(0, lb 0 Tryd.f11), (2, lb 2 Tryd.f11)]) (by kernel_rfl) (lcons rfl (lo11_0) (lcons rfl (lo11_2) (lnil)))) (fun x => by kernel_rfl)
/-! 37: strconv.Itoa, by the shelf -/
theorem ok37 : FnOk Tryd.prog 37 ⟨[.ty i64], [.str], fun x => strconv_Itoa x⟩ := by
  refine fn_of_calls Tryd.func37 (by kernel_rfl) rfl fun κ n cargs y hy hI ha => ?_
  obtain ⟨⟨h0, h1⟩, hy⟩ := hy
  cases hy
  obtain ⟨v0, r, rfl, ha0, ha⟩ := RDs.cons_inv (show RDs κ [.imm i64 n] cargs from ha)
  rw [ha.nil_inv, ha0.int_inv]
  refine (Go.Proofs.Tryd.strconv_Itoa n h0 h1 κ.w (glob_internal_strconv_uint64pow10 hI)).mono ?_
  rintro e w' ⟨rfl, k, os, rfl⟩
  refine ⟨below_grow _ _ _, fun _ => ⟨_, rfl, ?_⟩⟩
  have e1 : Lib.itoa n = itoaS n := itoaS_eq n
  show RD _ (.imm .str (itoaS n)) _
  rw [← e1]
  exact RD.str
/-! 35: pantograph/draft.long -/
noncomputable def tab35 : Tab := [(37, .d ⟨[.ty (.int .i64)], [.str], fun x => strconv_Itoa x⟩)]
theorem tabOk35 : TabOk Tryd.prog (tab35) := tabOk_cons ok37 (tabOk_nil _)
def ro35 : Nat → Bool := fun s => false
noncomputable def h35 : Hints := { loop := fun id => none, cut := fun k r => none, frz := fun r => [] }
theorem ok35 : FnOk Tryd.prog 35 ⟨[.ty .str], [.str], fun x => draft_long x⟩ :=
  fn_ok (xid := XID) (ro := ro35) (H := h35) (fn := Tryd.f35) (code := bodyOf Tryd.f35) mixed (tabOk35) Tryd.func35 rfl (by kernel_rfl) (loops_of (L := []) (by kernel_rfl) (lnil)) (fun x => by kernel_rfl)
/-! 36: pantograph/draft.all -/
noncomputable def tab36 : Tab := [(37, .d ⟨[.ty (.int .i64)], [.str], fun x => strconv_Itoa x⟩), (35, .d ⟨[.ty .str], [.str], fun x => draft_long x⟩)]
theorem tabOk36 : TabOk Tryd.prog (tab36) := tabOk_cons ok37 (tabOk_cons ok35 (tabOk_nil _))
def ro36 : Nat → Bool := fun s => false
noncomputable def lp36_0 : LoopD := { gh := [], ps := [.s 15 (.imm (.sl .str)), .s 16 (.imm (.int .i64))], sh := ⟨[.s 5 (.imm .str), .s 17 (.imm (.int .i64))], [], []⟩, ws := [⟨.exit 0, ⟨[.s 5 (.imm .str)], [], []⟩⟩], F := fun p s => draft_all_L0 p.1 p.2 s }
noncomputable def h36 : Hints := { loop := fun id => bif Nat.beq id 0 then some (lp36_0) else none, cut := fun k r => none, frz := fun r => [] }
theorem lo36_0 : LoopOkK Tryd.prog Tryd.f36.ntmps (lp36_0) (lb 0 Tryd.f36) :=
  loop_ok (xid := XID) (ro := ro36) (H := h36) mixed (tabOk36) (loops_of (L := []) (by kernel_rfl) (lnil)) (fun p s => draft_all_R0 p.1 p.2 s) (fun p s => by kernel_rfl) (fun p s => rfl)
theorem ok36 : FnOk Tryd.prog 36 ⟨[.ty .str, .ty (.sl .str)], [.str], fun x => draft_all x.1 x.2⟩ :=
  fn_ok (xid := XID) (ro := ro36) (H := h36) (fn := Tryd.f36) (code := bodyOf Tryd.f36) mixed (tabOk36) Tryd.func36 rfl (by kernel_rfl) (loops_of (L := [(0, lb 0 Tryd.f36)]) (by kernel_rfl) (lcons rfl (lo36_0) (lnil))) (fun x => by kernel_rfl)
/-! 26: pantograph/draft.yes -/
noncomputable def tab26 : Tab := []
theorem tabOk26 : TabOk Tryd.prog (tab26) := tabOk_nil _
def ro26 : Nat → Bool := fun s => false
noncomputable def h26 : Hints := { loop := fun id => none, cut := fun k r => none, frz := fun r => [] }
theorem ok26 : FnOk Tryd.prog 26 ⟨[.ty .bool], [.str], fun x => draft_yes x⟩ :=
  fn_ok (xid := XID) (ro := ro26) (H := h26) (fn := Tryd.f26) (code := bodyOf Tryd.f26) mixed (tabOk26) Tryd.func26 rfl (by kernel_rfl) (loops_of (L := []) (by kernel_rfl) (lnil)) (fun x => by kernel_rfl)
/-! 12: pantograph/draft.Save -/
noncomputable def tab12 : Tab := [(35, .d ⟨[.ty .str], [.str], fun x => draft_long x⟩), (36, .d ⟨[.ty .str, .ty (.sl .str)], [.str], fun x => draft_all x.1 x.2⟩), (37, .d ⟨[.ty (.int .i64)], [.str], fun x => strconv_Itoa x⟩), (26, .d ⟨[.ty .bool], [.str], fun x => draft_yes x⟩)]
theorem tabOk12 : TabOk Tryd.prog (tab12) := tabOk_cons ok35 (tabOk_cons ok36 (tabOk_cons ok37 (tabOk_cons ok26 (tabOk_nil _))))
def ro12 : Nat → Bool := fun s => Nat.beq s 1
noncomputable def h12 : Hints := { loop := fun id => none, cut := fun k r => none, frz := fun r => [] }
theorem ok12 : FnOk Tryd.prog 12 ⟨[.ty tydraft_Draft], [.str], fun x => draft_Save x⟩ :=
  fn_ok (xid := XID) (ro := ro12) (H := h12) (fn := Tryd.f12) (code := bodyOf Tryd.f12) mixed (tabOk12) Tryd.func12 rfl (by kernel_rfl) (loops_of (L := []) (by kernel_rfl) (lnil)) (fun x => by kernel_rfl)
/-! 14: pantograph/pantographlaw20.own -/
noncomputable def tab14 : Tab := []
theorem tabOk14 : TabOk Tryd.prog (tab14) := tabOk_nil _
def ro14 : Nat → Bool := fun s => Nat.beq s 1
noncomputable def h14 : Hints := { loop := fun id => none, cut := fun k r => none, frz := fun r => [] }
theorem ok14 : FnOk Tryd.prog 14 ⟨[.ty tydraft_Draft], [tydraft_Draft], fun x => law20_own x⟩ :=
  fn_ok (xid := XID) (ro := ro14) (H := h14) (fn := Tryd.f14) (code := bodyOf Tryd.f14) mixed (tabOk14) Tryd.func14 rfl (by kernel_rfl) (loops_of (L := []) (by kernel_rfl) (lnil)) (fun x => by kernel_rfl)
/-! 71: pantograph/pantographref1.Trim -/
noncomputable def tab71 : Tab := []
theorem tabOk71 : TabOk Tryd.prog (tab71) := tabOk_nil _
def ro71 : Nat → Bool := fun s => false
noncomputable def lp71_0 : LoopD := { gh := [], ps := [.s 0 (.imm (.sl (.int .u32)))], sh := ⟨[.s 3 (.imm (.int .i64))], [], []⟩, ws := [⟨.exit 0, ⟨[.s 3 (.imm (.int .i64))], [], []⟩⟩], F := fun p s => ref1_Trim_L0 p s }
noncomputable def h71 : Hints := { loop := fun id => bif Nat.beq id 0 then some (lp71_0) else none, cut := fun k r => bif Nat.beq k 0 && Nat.beq r 2 then some (.flat [.s 15 (.imm .bool)]) else none, frz := fun r => [] }
theorem lo71_0 : LoopOkK Tryd.prog Tryd.f71.ntmps (lp71_0) (lb 0 Tryd.f71) :=
  loop_ok (xid := XID) (ro := ro71) (H := h71) mixed (tabOk71) (loops_of (L := []) (by kernel_rfl) (lnil)) (fun p s => ref1_Trim_R0 p s) (fun p s => by kernel_rfl) (fun p s => rfl)
theorem ok71 : FnOk Tryd.prog 71 ⟨[.ty (.sl (.int .u32))], [(.sl (.int .u32))], fun x => ref1_Trim x⟩ :=
  fn_ok (xid := XID) (ro := ro71) (H := h71) (fn := Tryd.f71) (code := bodyOf Tryd.f71) mixed (tabOk71) Tryd.func71 rfl (by kernel_rfl) (loops_of (L := [(0, lb 0 Tryd.f71)]) (by kernel_rfl) (lcons rfl (lo71_0) (lnil))) (fun x => by kernel_rfl)
/-! 54: pantograph/pantographref1.Of -/
noncomputable def tab54 : Tab := [(71, .d ⟨[.ty (.sl (.int .u32))], [(.sl (.int .u32))], fun x => ref1_Trim x⟩)]
theorem tabOk54 : TabOk Tryd.prog (tab54) := tabOk_cons ok71 (tabOk_nil _)
def ro54 : Nat → Bool := fun s => false
noncomputable def h54 : Hints := { loop := fun id => none, cut := fun k r => none, frz := fun r => [] }
theorem ok54 : FnOk Tryd.prog 54 ⟨[.ty (.int .u64)], [(.sl (.int .u32))], fun x => ref1_Of x⟩ :=
  fn_ok (xid := XID) (ro := ro54) (H := h54) (fn := Tryd.f54) (code := bodyOf Tryd.f54) mixed (tabOk54) Tryd.func54 rfl (by kernel_rfl) (loops_of (L := []) (by kernel_rfl) (lnil)) (fun x => by kernel_rfl)
/-! 72: pantograph/pantographref1.small -/
noncomputable def tab72 : Tab := [(71, .d ⟨[.ty (.sl (.int .u32))], [(.sl (.int .u32))], fun x => ref1_Trim x⟩)]
theorem tabOk72 : TabOk Tryd.prog (tab72) := tabOk_cons ok71 (tabOk_nil _)
def ro72 : Nat → Bool := fun s => false
noncomputable def lp72_0 : LoopD := { gh := [], ps := [.s 0 (.imm (.sl (.int .u32))), .s 1 (.imm (.int .u64))], sh := ⟨[.s 7 (.imm (.int .u64)), .s 8 (.imm (.int .i64)), .a (.int .u32)], [(6, .cur 0 (.int .u32))], [.arr (.int .u32)]⟩, ws := [⟨.exit 0, ⟨[.s 7 (.imm (.int .u64)), .a (.int .u32)], [(6, .cur 0 (.int .u32))], [.arr (.int .u32)]⟩⟩], F := fun p s => ref1_small_L0 p.1 p.2 s }
noncomputable def h72 : Hints := { loop := fun id => bif Nat.beq id 0 then some (lp72_0) else none, cut := fun k r => none, frz := fun r => bif Nat.beq r 9 then [6] else [] }
theorem lo72_0 : LoopOkK Tryd.prog Tryd.f72.ntmps (lp72_0) (lb 0 Tryd.f72) :=
  loop_ok (xid := XID) (ro := ro72) (H := h72) mixed (tabOk72) (loops_of (L := []) (by kernel_rfl) (lnil)) (fun p s => ref1_small_R0 p.1 p.2 s) (fun p s => by kernel_rfl) (fun p s => rfl)
theorem ok72 : FnOk Tryd.prog 72 ⟨[.ty (.sl (.int .u32)), .ty (.int .u64)], [(.sl (.int .u32)), (.int .u64)], fun x => ref1_small x.1 x.2⟩ :=
  fn_ok (xid := XID) (ro := ro72) (H := h72) (fn := Tryd.f72) (code := bodyOf Tryd.f72) mixed (tabOk72) Tryd.func72 rfl (by kernel_rfl) (loops_of (L := [(0, lb 0 Tryd.f72)]) (by kernel_rfl) (lcons rfl (lo72_0) (lnil))) (fun x => by kernel_rfl)
/-! 53: pantograph/pantographref1.Print -/
noncomputable def tab53 : Tab := [(71, .d ⟨[.ty (.sl (.int .u32))], [(.sl (.int .u32))], fun x => ref1_Trim x⟩), (72, .d ⟨[.ty (.sl (.int .u32)), .ty (.int .u64)], [(.sl (.int .u32)), (.int .u64)], fun x => ref1_small x.1 x.2⟩)]
theorem tabOk53 : TabOk Tryd.prog (tab53) := tabOk_cons ok71 (tabOk_cons ok72 (tabOk_nil _))
def ro53 : Nat → Bool := fun s => false
noncomputable def lp53_0 : LoopD := { gh := [], ps := [], sh := ⟨[.s 3 (.imm (.sl (.int .u32))), .s 4 (.imm .str)], [], []⟩, ws := [⟨.exit 0, ⟨[.s 4 (.imm .str)], [], []⟩⟩], F := fun p s => ref1_Print_L0  s }
noncomputable def h53 : Hints := { loop := fun id => bif Nat.beq id 0 then some (lp53_0) else none, cut := fun k r => none, frz := fun r => [] }
theorem lo53_0 : LoopOkK Tryd.prog Tryd.f53.ntmps (lp53_0) (lb 0 Tryd.f53) :=
  loop_ok (xid := XID) (ro := ro53) (H := h53) mixed (tabOk53) (loops_of (L := []) (by kernel_rfl) (lnil)) (fun p s => ref1_Print_R0  s) (fun p s => by kernel_rfl) (fun p s => rfl)
theorem ok53 : FnOk Tryd.prog 53 ⟨[.ty (.sl (.int .u32))], [.str], fun x => ref1_Print x⟩ :=
  fn_ok (xid := XID) (ro := ro53) (H := h53) (fn := Tryd.f53) (code := bodyOf Tryd.f53) mixed (tabOk53) Tryd.func53 rfl (by kernel_rfl) (loops_of (L := [(0, lb 0 Tryd.f53)]) (by kernel_rfl) (lcons rfl (lo53_0) (lnil))) (fun x => by kernel_rfl)
/-! 33: pantograph/pantographref20.whole -/
noncomputable def tab33 : Tab := [(54, .d ⟨[.ty (.int .u64)], [(.sl (.int .u32))], fun x => ref1_Of x⟩), (53, .d ⟨[.ty (.sl (.int .u32))], [.str], fun x => ref1_Print x⟩)]
theorem tabOk33 : TabOk Tryd.prog (tab33) := tabOk_cons ok54 (tabOk_cons ok53 (tabOk_nil _))
def ro33 : Nat → Bool := fun s => false
noncomputable def h33 : Hints := { loop := fun id => none, cut := fun k r => none, frz := fun r => [] }
theorem ok33 : FnOk Tryd.prog 33 ⟨[.ty (.int .i64)], [.str], fun x => ref20_whole x⟩ :=
  fn_ok (xid := XID) (ro := ro33) (H := h33) (fn := Tryd.f33) (code := bodyOf Tryd.f33) mixed (tabOk33) Tryd.func33 rfl (by kernel_rfl) (loops_of (L := []) (by kernel_rfl) (lnil)) (fun x => by kernel_rfl)
/-! 38: pantograph/pantographref20.sized -/
noncomputable def tab38 : Tab := [(33, .d ⟨[.ty (.int .i64)], [.str], fun x => ref20_whole x⟩)]
theorem tabOk38 : TabOk Tryd.prog (tab38) := tabOk_cons ok33 (tabOk_nil _)
def ro38 : Nat → Bool := fun s => false
noncomputable def h38 : Hints := { loop := fun id => none, cut := fun k r => none, frz := fun r => [] }
theorem ok38 : FnOk Tryd.prog 38 ⟨[.ty .str], [.str], fun x => ref20_sized x⟩ :=
  fn_ok (xid := XID) (ro := ro38) (H := h38) (fn := Tryd.f38) (code := bodyOf Tryd.f38) mixed (tabOk38) Tryd.func38 rfl (by kernel_rfl) (loops_of (L := []) (by kernel_rfl) (lnil)) (fun x => by kernel_rfl)
/-! 39: pantograph/pantographref20.rows -/
noncomputable def tab39 : Tab := [(33, .d ⟨[.ty (.int .i64)], [.str], fun x => ref20_whole x⟩), (38, .d ⟨[.ty .str], [.str], fun x => ref20_sized x⟩)]
theorem tabOk39 : TabOk Tryd.prog (tab39) := tabOk_cons ok33 (tabOk_cons ok38 (tabOk_nil _))
def ro39 : Nat → Bool := fun s => false
noncomputable def lp39_0 : LoopD := { gh := [], ps := [.s 1 (.imm (.sl .str))], sh := ⟨[.s 5 (.imm .str), .s 6 (.imm (.int .i64))], [], []⟩, ws := [⟨.exit 0, ⟨[.s 5 (.imm .str)], [], []⟩⟩], F := fun p s => ref20_rows_L0 p s }
noncomputable def h39 : Hints := { loop := fun id => bif Nat.beq id 0 then some (lp39_0) else none, cut := fun k r => none, frz := fun r => [] }
theorem lo39_0 : LoopOkK Tryd.prog Tryd.f39.ntmps (lp39_0) (lb 0 Tryd.f39) :=
  loop_ok (xid := XID) (ro := ro39) (H := h39) mixed (tabOk39) (loops_of (L := []) (by kernel_rfl) (lnil)) (fun p s => ref20_rows_R0 p s) (fun p s => by kernel_rfl) (fun p s => rfl)
theorem ok39 : FnOk Tryd.prog 39 ⟨[.ty .str, .ty (.sl .str)], [.str], fun x => ref20_rows x.1 x.2⟩ :=
  fn_ok (xid := XID) (ro := ro39) (H := h39) (fn := Tryd.f39) (code := bodyOf Tryd.f39) mixed (tabOk39) Tryd.func39 rfl (by kernel_rfl) (loops_of (L := [(0, lb 0 Tryd.f39)]) (by kernel_rfl) (lcons rfl (lo39_0) (lnil))) (fun x => by kernel_rfl)
/-! 13: pantograph/pantographref20.Save -/
noncomputable def tab13 : Tab := [(38, .d ⟨[.ty .str], [.str], fun x => ref20_sized x⟩), (39, .d ⟨[.ty .str, .ty (.sl .str)], [.str], fun x => ref20_rows x.1 x.2⟩), (33, .d ⟨[.ty (.int .i64)], [.str], fun x => ref20_whole x⟩)]
theorem tabOk13 : TabOk Tryd.prog (tab13) := tabOk_cons ok38 (tabOk_cons ok39 (tabOk_cons ok33 (tabOk_nil _)))
def ro13 : Nat → Bool := fun s => Nat.beq s 1
noncomputable def h13 : Hints := { loop := fun id => none, cut := fun k r => none, frz := fun r => [] }
theorem ok13 : FnOk Tryd.prog 13 ⟨[.ty tydraft_Draft], [.str], fun x => ref20_Save x⟩ :=
  fn_ok (xid := XID) (ro := ro13) (H := h13) (fn := Tryd.f13) (code := bodyOf Tryd.f13) mixed (tabOk13) Tryd.func13 rfl (by kernel_rfl) (loops_of (L := []) (by kernel_rfl) (lnil)) (fun x => by kernel_rfl)
/-! 87: pantograph/nat.Is -/
noncomputable def tab87 : Tab := []
theorem tabOk87 : TabOk Tryd.prog (tab87) := tabOk_nil _
def ro87 : Nat → Bool := fun s => false
noncomputable def h87 : Hints := { loop := fun id => none, cut := fun k r => bif Nat.beq k 0 && Nat.beq r 1 then some (.flat [.s 2 (.imm .bool)]) else none, frz := fun r => [] }
theorem ok87 : FnOk Tryd.prog 87 ⟨[.ty (.sl (.int .u32))], [.bool], fun x => nat_Is x⟩ :=
  fn_ok (xid := XID) (ro := ro87) (H := h87) (fn := Tryd.f87) (code := bodyOf Tryd.f87) mixed (tabOk87) Tryd.func87 rfl (by kernel_rfl) (loops_of (L := []) (by kernel_rfl) (lnil)) (fun x => by kernel_rfl)
/-! 70: pantograph/nat.trim -/
noncomputable def tab70 : Tab := [(87, .d ⟨[.ty (.sl (.int .u32))], [.bool], fun x => nat_Is x⟩)]
theorem tabOk70 : TabOk Tryd.prog (tab70) := tabOk_cons ok87 (tabOk_nil _)
def ro70 : Nat → Bool := fun s => false
noncomputable def lp70_0 : LoopD := { gh := [], ps := [], sh := ⟨[.s 0 (.imm (.sl (.int .u32)))], [], []⟩, ws := [⟨.exit 0, ⟨[.s 0 (.imm (.sl (.int .u32)))], [], []⟩⟩], F := fun p s => nat_trim_L0  s }
noncomputable def h70 : Hints := { loop := fun id => bif Nat.beq id 0 then some (lp70_0) else none, cut := fun k r => none, frz := fun r => [] }
theorem lo70_0 : LoopOkK Tryd.prog Tryd.f70.ntmps (lp70_0) (lb 0 Tryd.f70) :=
  loop_ok (xid := XID) (ro := ro70) (H := h70) mixed (tabOk70) (loops_of (L := []) (by kernel_rfl) (lnil)) (fun p s => nat_trim_R0  s) (fun p s => by kernel_rfl) (fun p s => rfl)
theorem ok70 : FnOk Tryd.prog 70 ⟨[.ty (.sl (.int .u32))], [(.sl (.int .u32))], fun x => nat_trim x⟩ :=
  fn_ok (xid := XID) (ro := ro70) (H := h70) (fn := Tryd.f70) (code := bodyOf Tryd.f70) mixed (tabOk70) Tryd.func70 rfl (by kernel_rfl) (loops_of (L := [(0, lb 0 Tryd.f70)]) (by kernel_rfl) (lcons rfl (lo70_0) (lnil))) (fun x => by kernel_rfl)
/-! 85: slices.Clone[[]uint32,uint32] -/
noncomputable def tab85 : Tab := []
theorem tabOk85 : TabOk Tryd.prog (tab85) := tabOk_nil _
def ro85 : Nat → Bool := fun s => false
noncomputable def h85 : Hints := { loop := fun id => none, cut := fun k r => bif Nat.beq k 0 && Nat.beq r 1 then some (.nilt) else none, frz := fun r => [] }
theorem ok85 : FnOk Tryd.prog 85 ⟨[.ty (.sl (.int .u32))], [(.sl (.int .u32))], fun x => slices_Clone_sl_uint32 x⟩ :=
  fn_ok (xid := XID) (ro := ro85) (H := h85) (fn := Tryd.f85) (code := bodyOf Tryd.f85) mixed (tabOk85) Tryd.func85 rfl (by kernel_rfl) (loops_of (L := []) (by kernel_rfl) (lnil)) (fun x => by kernel_rfl)
/-! 67: pantograph/nat.Trim -/
noncomputable def tab67 : Tab := [(70, .d ⟨[.ty (.sl (.int .u32))], [(.sl (.int .u32))], fun x => nat_trim x⟩), (85, .d ⟨[.ty (.sl (.int .u32))], [(.sl (.int .u32))], fun x => slices_Clone_sl_uint32 x⟩)]
theorem tabOk67 : TabOk Tryd.prog (tab67) := tabOk_cons ok70 (tabOk_cons ok85 (tabOk_nil _))
def ro67 : Nat → Bool := fun s => false
noncomputable def h67 : Hints := { loop := fun id => none, cut := fun k r => none, frz := fun r => [] }
theorem ok67 : FnOk Tryd.prog 67 ⟨[.ty (.sl (.int .u32))], [(.sl (.int .u32))], fun x => nat_Trim x⟩ :=
  fn_ok (xid := XID) (ro := ro67) (H := h67) (fn := Tryd.f67) (code := bodyOf Tryd.f67) mixed (tabOk67) Tryd.func67 rfl (by kernel_rfl) (loops_of (L := []) (by kernel_rfl) (lnil)) (fun x => by kernel_rfl)
/-! 52: pantograph/nat.Of -/
noncomputable def tab52 : Tab := [(70, .d ⟨[.ty (.sl (.int .u32))], [(.sl (.int .u32))], fun x => nat_trim x⟩)]
theorem tabOk52 : TabOk Tryd.prog (tab52) := tabOk_cons ok70 (tabOk_nil _)
def ro52 : Nat → Bool := fun s => false
noncomputable def h52 : Hints := { loop := fun id => none, cut := fun k r => none, frz := fun r => [] }
theorem ok52 : FnOk Tryd.prog 52 ⟨[.ty (.int .u64)], [(.sl (.int .u32))], fun x => nat_Of x⟩ :=
  fn_ok (xid := XID) (ro := ro52) (H := h52) (fn := Tryd.f52) (code := bodyOf Tryd.f52) mixed (tabOk52) Tryd.func52 rfl (by kernel_rfl) (loops_of (L := []) (by kernel_rfl) (lnil)) (fun x => by kernel_rfl)
/-! 51: pantograph/nat.Cmp -/
noncomputable def tab51 : Tab := [(70, .d ⟨[.ty (.sl (.int .u32))], [(.sl (.int .u32))], fun x => nat_trim x⟩)]
theorem tabOk51 : TabOk Tryd.prog (tab51) := tabOk_cons ok70 (tabOk_nil _)
def ro51 : Nat → Bool := fun s => false
noncomputable def lp51_0 : LoopD := { gh := [], ps := [.s 0 (.imm (.sl (.int .u32))), .s 1 (.imm (.sl (.int .u32)))], sh := ⟨[.s 5 (.imm (.int .i64))], [], []⟩, ws := [⟨.exit 0, ⟨[], [], []⟩⟩, ⟨.ret, ⟨[.s 4 (.imm (.int .i64))], [], []⟩⟩], F := fun p s => nat_Cmp_L0 p.1 p.2 s }
noncomputable def h51 : Hints := { loop := fun id => bif Nat.beq id 0 then some (lp51_0) else none, cut := fun k r => none, frz := fun r => [] }
theorem lo51_0 : LoopOkK Tryd.prog Tryd.f51.ntmps (lp51_0) (lb 0 Tryd.f51) :=
  loop_ok (xid := XID) (ro := ro51) (H := h51) mixed (tabOk51) (loops_of (L := []) (by kernel_rfl) (lnil)) (fun p s => nat_Cmp_R0 p.1 p.2 s) (fun p s => by kernel_rfl) (fun p s => rfl)
theorem ok51 : FnOk Tryd.prog 51 ⟨[.ty (.sl (.int .u32)), .ty (.sl (.int .u32))], [(.int .i64)], fun x => nat_Cmp x.1 x.2⟩ :=
  fn_ok (xid := XID) (ro := ro51) (H := h51) (fn := Tryd.f51) (code := bodyOf Tryd.f51) mixed (tabOk51) Tryd.func51 rfl (by kernel_rfl) (loops_of (L := [(0, lb 0 Tryd.f51)]) (by kernel_rfl) (lcons rfl (lo51_0) (lnil))) (fun x => by kernel_rfl)
/-! 86: math/bits.Div32 -/
noncomputable def tab86 : Tab := []
theorem tabOk86 : TabOk Tryd.prog (tab86) := tabOk_nil _
def ro86 : Nat → Bool := fun s => false
noncomputable def h86 : Hints := { loop := fun id => none, cut := fun k r => bif Nat.beq k 0 && Nat.beq r 1 then some (.flat [.s 15 (.imm .bool)]) else none, frz := fun r => [] }
theorem ok86 : FnOk Tryd.prog 86 ⟨[.ty (.int .u32), .ty (.int .u32), .ty (.int .u32)], [(.int .u32), (.int .u32)], fun x => math_bits_Div32 x.1 x.2.1 x.2.2⟩ :=
  fn_ok (xid := XID) (ro := ro86) (H := h86) (fn := Tryd.f86) (code := bodyOf Tryd.f86) mixed (tabOk86) Tryd.func86 rfl (by kernel_rfl) (loops_of (L := []) (by kernel_rfl) (lnil)) (fun x => by kernel_rfl)
/-! 68: pantograph/nat.small -/
noncomputable def tab68 : Tab := [(86, .d ⟨[.ty (.int .u32), .ty (.int .u32), .ty (.int .u32)], [(.int .u32), (.int .u32)], fun x => math_bits_Div32 x.1 x.2.1 x.2.2⟩), (70, .d ⟨[.ty (.sl (.int .u32))], [(.sl (.int .u32))], fun x => nat_trim x⟩)]
theorem tabOk68 : TabOk Tryd.prog (tab68) := tabOk_cons ok86 (tabOk_cons ok70 (tabOk_nil _))
def ro68 : Nat → Bool := fun s => false
noncomputable def lp68_0 : LoopD := { gh := [], ps := [.s 0 (.imm (.sl (.int .u32))), .s 1 (.imm (.int .u32))], sh := ⟨[.s 7 (.imm (.int .u32)), .s 8 (.imm (.int .i64)), .a (.int .u32)], [(6, .cur 0 (.int .u32))], [.arr (.int .u32)]⟩, ws := [⟨.exit 0, ⟨[.s 7 (.imm (.int .u32)), .a (.int .u32)], [(6, .cur 0 (.int .u32))], [.arr (.int .u32)]⟩⟩], F := fun p s => nat_small_L0 p.1 p.2 s }
noncomputable def h68 : Hints := { loop := fun id => bif Nat.beq id 0 then some (lp68_0) else none, cut := fun k r => none, frz := fun r => bif Nat.beq r 7 then [6] else [] }
theorem lo68_0 : LoopOkK Tryd.prog Tryd.f68.ntmps (lp68_0) (lb 0 Tryd.f68) :=
  loop_ok (xid := XID) (ro := ro68) (H := h68) mixed (tabOk68) (loops_of (L := []) (by kernel_rfl) (lnil)) (fun p s => nat_small_R0 p.1 p.2 s) (fun p s => by kernel_rfl) (fun p s => rfl)
theorem ok68 : FnOk Tryd.prog 68 ⟨[.ty (.sl (.int .u32)), .ty (.int .u32)], [(.sl (.int .u32)), (.int .u32)], fun x => nat_small x.1 x.2⟩ :=
  fn_ok (xid := XID) (ro := ro68) (H := h68) (fn := Tryd.f68) (code := bodyOf Tryd.f68) mixed (tabOk68) Tryd.func68 rfl (by kernel_rfl) (loops_of (L := [(0, lb 0 Tryd.f68)]) (by kernel_rfl) (lcons rfl (lo68_0) (lnil))) (fun x => by kernel_rfl)
/-! 132: math/bits.Len32 -/
noncomputable def tab132 : Tab := []
theorem tabOk132 : TabOk Tryd.prog (tab132) := tabOk_nil _
def ro132 : Nat → Bool := fun s => false
noncomputable def h132 : Hints := { loop := fun id => none, cut := fun k r => bif Nat.beq k 3 && Nat.beq r 1 then some (.flat [.s 0 (.imm (.int .u32)), .s 2 (.imm (.int .i64))]) else bif Nat.beq k 3 && Nat.beq r 4 then some (.flat [.s 0 (.imm (.int .u32)), .s 2 (.imm (.int .i64))]) else none, frz := fun r => [] }
theorem ok132 : FnOk Tryd.prog 132 ⟨[.ty (.int .u32)], [(.int .i64)], fun x => math_bits_Len32 x⟩ :=
  fn_ok (xid := XID) (ro := ro132) (H := h132) (fn := Tryd.f132) (code := bodyOf Tryd.f132) mixed (tabOk132) Tryd.func132 rfl (by kernel_rfl) (loops_of (L := []) (by kernel_rfl) (lnil)) (fun x => by kernel_rfl)
/-! 122: math/bits.LeadingZeros32 -/
noncomputable def tab122 : Tab := [(132, .d ⟨[.ty (.int .u32)], [(.int .i64)], fun x => math_bits_Len32 x⟩)]
theorem tabOk122 : TabOk Tryd.prog (tab122) := tabOk_cons ok132 (tabOk_nil _)
def ro122 : Nat → Bool := fun s => false
noncomputable def h122 : Hints := { loop := fun id => none, cut := fun k r => none, frz := fun r => [] }
theorem ok122 : FnOk Tryd.prog 122 ⟨[.ty (.int .u32)], [(.int .i64)], fun x => math_bits_LeadingZeros32 x⟩ :=
  fn_ok (xid := XID) (ro := ro122) (H := h122) (fn := Tryd.f122) (code := bodyOf Tryd.f122) mixed (tabOk122) Tryd.func122 rfl (by kernel_rfl) (loops_of (L := []) (by kernel_rfl) (lnil)) (fun x => by kernel_rfl)
/-! 123: pantograph/nat.left -/
noncomputable def tab123 : Tab := []
theorem tabOk123 : TabOk Tryd.prog (tab123) := tabOk_nil _
def ro123 : Nat → Bool := fun s => false
noncomputable def lp123_0 : LoopD := { gh := [], ps := [.s 1 (.imm (.int .u64)), .s 2 (.imm (.int .i64)), .s 13 (.imm (.sl (.int .u32))), .s 14 (.imm (.int .i64))], sh := ⟨[.s 15 (.imm (.int .i64)), .a (.int .u32)], [(7, .cur 0 (.int .u32))], [.arr (.int .u32)]⟩, ws := [⟨.exit 0, ⟨[.a (.int .u32)], [(7, .cur 0 (.int .u32))], [.arr (.int .u32)]⟩⟩], F := fun p s => nat_left_S_L0 p.1 p.2.1 p.2.2.1 p.2.2.2 s }
noncomputable def h123 : Hints := { loop := fun id => bif Nat.beq id 0 then some (lp123_0) else none, cut := fun k r => none, frz := fun r => [] }
theorem lo123_0 : LoopOkK Tryd.prog Tryd.f123.ntmps (lp123_0) (lb 0 Tryd.f123) :=
  loop_ok (xid := XID) (ro := ro123) (H := h123) mixed (tabOk123) (loops_of (L := []) (by kernel_rfl) (lnil)) (fun p s => nat_left_S_R0 p.1 p.2.1 p.2.2.1 p.2.2.2 s) (fun p s => by kernel_rfl) (fun p s => rfl)
theorem ok123 : FnSOk Tryd.prog 123 ⟨[.any, .any, .any], ⟨[.s 0 (.imm (.sl (.int .u32))), .s 1 (.imm (.int .u64)), .s 2 (.imm (.int .i64))], [], []⟩, [], ⟨[.a (.int .u32)], [(0, .cur 0 (.int .u32))], [.arr (.int .u32)]⟩, 1, fun x => nat_left_S x.1 x.2.1 x.2.2⟩ :=
  fns_ok (xid := XID) (ro := ro123) (H := h123) (fn := Tryd.f123) (code := bodyOf Tryd.f123) mixed (tabOk123) Tryd.func123 rfl (by kernel_rfl) (loops_of (L := [(0, lb 0 Tryd.f123)]) (by kernel_rfl) (lcons rfl (lo123_0) (lnil))) (fun x => by kernel_rfl)
/-! 124: pantograph/nat.guess -/
noncomputable def tab124 : Tab := []
theorem tabOk124 : TabOk Tryd.prog (tab124) := tabOk_nil _
def ro124 : Nat → Bool := fun s => false
noncomputable def lp124_0 : LoopD := { gh := [], ps := [.s 2 (.imm (.int .u32)), .s 3 (.imm (.int .u32)), .s 4 (.imm (.int .u32))], sh := ⟨[.s 12 (.imm (.int .u64)), .s 13 (.imm (.int .u64))], [], []⟩, ws := [⟨.exit 0, ⟨[.s 12 (.imm (.int .u64))], [], []⟩⟩], F := fun p s => nat_guess_L0 p.1 p.2.1 p.2.2 s }
noncomputable def h124 : Hints := { loop := fun id => bif Nat.beq id 0 then some (lp124_0) else none, cut := fun k r => bif Nat.beq k 0 && Nat.beq r 3 then some (.flat [.s 42 (.imm .bool)]) else none, frz := fun r => [] }
theorem lo124_0 : LoopOkK Tryd.prog Tryd.f124.ntmps (lp124_0) (lb 0 Tryd.f124) :=
  loop_ok (xid := XID) (ro := ro124) (H := h124) mixed (tabOk124) (loops_of (L := []) (by kernel_rfl) (lnil)) (fun p s => nat_guess_R0 p.1 p.2.1 p.2.2 s) (fun p s => by kernel_rfl) (fun p s => rfl)
theorem ok124 : FnOk Tryd.prog 124 ⟨[.ty (.int .u32), .ty (.int .u32), .ty (.int .u32), .ty (.int .u32), .ty (.int .u32)], [(.int .u64)], fun x => nat_guess x.1 x.2.1 x.2.2.1 x.2.2.2.1 x.2.2.2.2⟩ :=
  fn_ok (xid := XID) (ro := ro124) (H := h124) (fn := Tryd.f124) (code := bodyOf Tryd.f124) mixed (tabOk124) Tryd.func124 rfl (by kernel_rfl) (loops_of (L := [(0, lb 0 Tryd.f124)]) (by kernel_rfl) (lcons rfl (lo124_0) (lnil))) (fun x => by kernel_rfl)
/-! 133: math/bits.Sub32 -/
noncomputable def tab133 : Tab := []
theorem tabOk133 : TabOk Tryd.prog (tab133) := tabOk_nil _
def ro133 : Nat → Bool := fun s => false
noncomputable def h133 : Hints := { loop := fun id => none, cut := fun k r => none, frz := fun r => [] }
theorem ok133 : FnOk Tryd.prog 133 ⟨[.ty (.int .u32), .ty (.int .u32), .ty (.int .u32)], [(.int .u32), (.int .u32)], fun x => math_bits_Sub32 x.1 x.2.1 x.2.2⟩ :=
  fn_ok (xid := XID) (ro := ro133) (H := h133) (fn := Tryd.f133) (code := bodyOf Tryd.f133) mixed (tabOk133) Tryd.func133 rfl (by kernel_rfl) (loops_of (L := []) (by kernel_rfl) (lnil)) (fun x => by kernel_rfl)
/-! 134: math/bits.Add32 -/
noncomputable def tab134 : Tab := []
theorem tabOk134 : TabOk Tryd.prog (tab134) := tabOk_nil _
def ro134 : Nat → Bool := fun s => false
noncomputable def h134 : Hints := { loop := fun id => none, cut := fun k r => none, frz := fun r => [] }
theorem ok134 : FnOk Tryd.prog 134 ⟨[.ty (.int .u32), .ty (.int .u32), .ty (.int .u32)], [(.int .u32), (.int .u32)], fun x => math_bits_Add32 x.1 x.2.1 x.2.2⟩ :=
  fn_ok (xid := XID) (ro := ro134) (H := h134) (fn := Tryd.f134) (code := bodyOf Tryd.f134) mixed (tabOk134) Tryd.func134 rfl (by kernel_rfl) (loops_of (L := []) (by kernel_rfl) (lnil)) (fun x => by kernel_rfl)
/-! 125: pantograph/nat.takes -/
noncomputable def tab125 : Tab := [(133, .d ⟨[.ty (.int .u32), .ty (.int .u32), .ty (.int .u32)], [(.int .u32), (.int .u32)], fun x => math_bits_Sub32 x.1 x.2.1 x.2.2⟩), (134, .d ⟨[.ty (.int .u32), .ty (.int .u32), .ty (.int .u32)], [(.int .u32), (.int .u32)], fun x => math_bits_Add32 x.1 x.2.1 x.2.2⟩)]
theorem tabOk125 : TabOk Tryd.prog (tab125) := tabOk_cons ok133 (tabOk_cons ok134 (tabOk_nil _))
def ro125 : Nat → Bool := fun s => false
noncomputable def lp125_0 : LoopD := { gh := [], ps := [.s 1 (.imm (.sl (.int .u32))), .s 2 (.imm (.int .u64)), .s 14 (.imm (.sl (.int .u32))), .s 15 (.imm (.int .i64))], sh := ⟨[.s 0 (.sub 0 (.int .u32)), .s 7 (.imm (.int .u64)), .s 8 (.imm (.int .u32)), .s 16 (.imm (.int .i64)), .a (.int .u32)], [], [.arr (.int .u32)]⟩, ws := [⟨.exit 0, ⟨[.s 0 (.sub 0 (.int .u32)), .s 7 (.imm (.int .u64)), .s 8 (.imm (.int .u32)), .a (.int .u32)], [], [.arr (.int .u32)]⟩⟩], F := fun p s => nat_takes_S_L0 p.1 p.2.1 p.2.2.1 p.2.2.2 s }
noncomputable def lp125_2 : LoopD := { gh := [], ps := [.s 1 (.imm (.sl (.int .u32))), .s 62 (.imm (.sl (.int .u32))), .s 63 (.imm (.int .i64))], sh := ⟨[.s 0 (.sub 0 (.int .u32)), .s 11 (.imm (.int .u32)), .s 64 (.imm (.int .i64)), .a (.int .u32)], [], [.arr (.int .u32)]⟩, ws := [⟨.exit 2, ⟨[.s 0 (.sub 0 (.int .u32)), .s 11 (.imm (.int .u32)), .a (.int .u32)], [], [.arr (.int .u32)]⟩⟩], F := fun p s => nat_takes_S_L1 p.1 p.2.1 p.2.2 s }
noncomputable def h125 : Hints := { loop := fun id => bif Nat.beq id 0 then some (lp125_0) else bif Nat.beq id 2 then some (lp125_2) else none, cut := fun k r => none, frz := fun r => [] }
theorem lo125_0 : LoopOkK Tryd.prog Tryd.f125.ntmps (lp125_0) (lb 0 Tryd.f125) :=
  loop_ok (xid := XID) (ro := ro125) (H := h125) mixed (tabOk125) (loops_of (L := []) (by kernel_rfl) (lnil)) (fun p s => nat_takes_S_R0 p.1 p.2.1 p.2.2.1 p.2.2.2 s) (fun p s => by kernel_rfl) (fun p s => rfl)
theorem lo125_2 : LoopOkK Tryd.prog Tryd.f125.ntmps (lp125_2) (lb 2 Tryd.f125) :=
  loop_ok (xid := XID) (ro := ro125) (H := h125) mixed (tabOk125) (loops_of (L := []) (by kernel_rfl) (lnil)) (fun p s => nat_takes_S_R1 p.1 p.2.1 p.2.2 s) (fun p s => by kernel_rfl) (fun p s => rfl)
theorem ok125 : FnSOk Tryd.prog 125 ⟨[.sub, .any, .any], ⟨[.s 0 (.sub 0 (.int .u32)), .s 1 (.imm (.sl (.int .u32))), .s 2 (.imm (.int .u64)), .a (.int .u32)], [], [.arr (.int .u32)]⟩, [], ⟨[.s 0 (.imm .bool), .a (.int .u32)], [], [.arr (.int .u32)]⟩, 1, fun x => nat_takes_S x.1 x.2.1 x.2.2.1 x.2.2.2⟩ :=
  fns_ok (xid := XID) (ro := ro125) (H := h125) (fn := Tryd.f125) (code := bodyOf Tryd.f125) mixed (tabOk125) Tryd.func125 rfl (by kernel_rfl) (loops_of (L := [(0, lb 0 Tryd.f125), (2, lb 2 Tryd.f125)]) (by kernel_rfl) (lcons rfl (lo125_0) (lcons rfl (lo125_2) (lnil)))) (fun x => by kernel_rfl)
/-! 123: pantograph/nat.left -/
noncomputable def tab123_1 : Tab := []
theorem tabOk123_1 : TabOk Tryd.prog (tab123_1) := tabOk_nil _
def ro123_1 : Nat → Bool := fun s => false
noncomputable def lp123_1_0 : LoopD := { gh := [], ps := [.s 1 (.imm (.int .u64)), .s 2 (.imm (.int .i64)), .s 13 (.imm (.sl (.int .u32))), .s 14 (.imm (.int .i64))], sh := ⟨[.s 15 (.imm (.int .i64)), .a (.int .u32)], [(7, .cur 0 (.int .u32))], [.arr (.int .u32)]⟩, ws := [⟨.exit 0, ⟨[.a (.int .u32)], [(7, .cur 0 (.int .u32))], [.arr (.int .u32)]⟩⟩], F := fun p s => nat_left_L0 p.1 p.2.1 p.2.2.1 p.2.2.2 s }
noncomputable def h123_1 : Hints := { loop := fun id => bif Nat.beq id 0 then some (lp123_1_0) else none, cut := fun k r => none, frz := fun r => [] }
theorem lo123_1_0 : LoopOkK Tryd.prog Tryd.f123.ntmps (lp123_1_0) (lb 0 Tryd.f123) :=
  loop_ok (xid := XID) (ro := ro123_1) (H := h123_1) mixed (tabOk123_1) (loops_of (L := []) (by kernel_rfl) (lnil)) (fun p s => nat_left_R0 p.1 p.2.1 p.2.2.1 p.2.2.2 s) (fun p s => by kernel_rfl) (fun p s => rfl)
theorem ok123_1 : FnOk Tryd.prog 123 ⟨[.ty (.sl (.int .u32)), .ty (.int .u64), .ty (.int .i64)], [(.sl (.int .u32))], fun x => nat_left x.1 x.2.1 x.2.2⟩ :=
  fn_ok (xid := XID) (ro := ro123_1) (H := h123_1) (fn := Tryd.f123) (code := bodyOf Tryd.f123) mixed (tabOk123_1) Tryd.func123 rfl (by kernel_rfl) (loops_of (L := [(0, lb 0 Tryd.f123)]) (by kernel_rfl) (lcons rfl (lo123_1_0) (lnil))) (fun x => by kernel_rfl)
/-! 126: pantograph/nat.Shift -/
noncomputable def tab126 : Tab := [(70, .d ⟨[.ty (.sl (.int .u32))], [(.sl (.int .u32))], fun x => nat_trim x⟩), (123, .d ⟨[.ty (.sl (.int .u32)), .ty (.int .u64), .ty (.int .i64)], [(.sl (.int .u32))], fun x => nat_left x.1 x.2.1 x.2.2⟩)]
theorem tabOk126 : TabOk Tryd.prog (tab126) := tabOk_cons ok70 (tabOk_cons ok123_1 (tabOk_nil _))
def ro126 : Nat → Bool := fun s => false
noncomputable def lp126_0 : LoopD := { gh := [], ps := [.s 6 (.imm (.int .u64)), .s 38 (.imm (.sl (.int .u32))), .s 39 (.imm (.int .i64))], sh := ⟨[.s 40 (.imm (.int .i64)), .a (.int .u32)], [(7, .cur 0 (.int .u32))], [.arr (.int .u32)]⟩, ws := [⟨.exit 0, ⟨[.a (.int .u32)], [(7, .cur 0 (.int .u32))], [.arr (.int .u32)]⟩⟩], F := fun p s => nat_Shift_L0 p.1 p.2.1 p.2.2 s }
noncomputable def h126 : Hints := { loop := fun id => bif Nat.beq id 0 then some (lp126_0) else none, cut := fun k r => none, frz := fun r => bif Nat.beq r 21 then [12] else bif Nat.beq r 17 then [7] else [] }
theorem lo126_0 : LoopOkK Tryd.prog Tryd.f126.ntmps (lp126_0) (lb 0 Tryd.f126) :=
  loop_ok (xid := XID) (ro := ro126) (H := h126) mixed (tabOk126) (loops_of (L := []) (by kernel_rfl) (lnil)) (fun p s => nat_Shift_R0 p.1 p.2.1 p.2.2 s) (fun p s => by kernel_rfl) (fun p s => rfl)
theorem ok126 : FnOk Tryd.prog 126 ⟨[.ty (.sl (.int .u32)), .ty (.int .i64)], [(.sl (.int .u32))], fun x => nat_Shift x.1 x.2⟩ :=
  fn_ok (xid := XID) (ro := ro126) (H := h126) (fn := Tryd.f126) (code := bodyOf Tryd.f126) mixed (tabOk126) Tryd.func126 rfl (by kernel_rfl) (loops_of (L := [(0, lb 0 Tryd.f126)]) (by kernel_rfl) (lcons rfl (lo126_0) (lnil))) (fun x => by kernel_rfl)
/-! 109: pantograph/nat.long -/
noncomputable def tab109 : Tab := [(123, .s ⟨[.any, .any, .any], ⟨[.s 0 (.imm (.sl (.int .u32))), .s 1 (.imm (.int .u64)), .s 2 (.imm (.int .i64))], [], []⟩, [], ⟨[.a (.int .u32)], [(0, .cur 0 (.int .u32))], [.arr (.int .u32)]⟩, 1, fun x => nat_left_S x.1 x.2.1 x.2.2⟩), (125, .s ⟨[.sub, .any, .any], ⟨[.s 0 (.sub 0 (.int .u32)), .s 1 (.imm (.sl (.int .u32))), .s 2 (.imm (.int .u64)), .a (.int .u32)], [], [.arr (.int .u32)]⟩, [], ⟨[.s 0 (.imm .bool), .a (.int .u32)], [], [.arr (.int .u32)]⟩, 1, fun x => nat_takes_S x.1 x.2.1 x.2.2.1 x.2.2.2⟩), (122, .d ⟨[.ty (.int .u32)], [(.int .i64)], fun x => math_bits_LeadingZeros32 x⟩), (124, .d ⟨[.ty (.int .u32), .ty (.int .u32), .ty (.int .u32), .ty (.int .u32), .ty (.int .u32)], [(.int .u64)], fun x => nat_guess x.1 x.2.1 x.2.2.1 x.2.2.2.1 x.2.2.2.2⟩), (70, .d ⟨[.ty (.sl (.int .u32))], [(.sl (.int .u32))], fun x => nat_trim x⟩), (126, .d ⟨[.ty (.sl (.int .u32)), .ty (.int .i64)], [(.sl (.int .u32))], fun x => nat_Shift x.1 x.2⟩)]
theorem tabOk109 : TabOk Tryd.prog (tab109) := tabOk_consS ok123 (tabOk_consS ok125 (tabOk_cons ok122 (tabOk_cons ok124 (tabOk_cons ok70 (tabOk_cons ok126 (tabOk_nil _))))))
def ro109 : Nat → Bool := fun s => false
noncomputable def lp109_0 : LoopD := { gh := [], ps := [.s 6 (.imm (.int .u64)), .s 8 (.imm (.sl (.int .u32))), .s 9 (.imm (.int .i64))], sh := ⟨[.s 10 (.imm (.int .i64)), .a (.int .u32), .a (.int .u32)], [(4, .cur 2 (.int .u32)), (7, .cur 0 (.int .u32))], [.arr (.int .u32), .dead, .arr (.int .u32)]⟩, ws := [⟨.exit 0, ⟨[.a (.int .u32), .a (.int .u32)], [(4, .cur 2 (.int .u32)), (7, .cur 0 (.int .u32))], [.arr (.int .u32), .dead, .arr (.int .u32)]⟩⟩], F := fun p s => nat_long_L0 p.1 p.2.1 p.2.2 s }
noncomputable def h109 : Hints := { loop := fun id => bif Nat.beq id 0 then some (lp109_0) else none, cut := fun k r => bif Nat.beq k 3 && Nat.beq r 9 then some (.ways [⟨.normal, ⟨[.s 11 (.imm (.int .u64)), .a (.int .u32), .a (.int .u32)], [(4, .cur 2 (.int .u32)), (7, .cur 0 (.int .u32))], [.arr (.int .u32), .dead, .arr (.int .u32)]⟩⟩]) else none, frz := fun r => bif Nat.beq r 12 then [4, 7] else bif Nat.beq r 5 then [8] else [] }
theorem lo109_0 : LoopOkK Tryd.prog Tryd.f109.ntmps (lp109_0) (lb 0 Tryd.f109) :=
  loop_ok (xid := XID) (ro := ro109) (H := h109) mixed (tabOk109) (loops_of (L := []) (by kernel_rfl) (lnil)) (fun p s => nat_long_R0 p.1 p.2.1 p.2.2 s) (fun p s => by kernel_rfl) (fun p s => rfl)
theorem ok109 : FnOk Tryd.prog 109 ⟨[.ty (.sl (.int .u32)), .ty (.sl (.int .u32))], [(.sl (.int .u32)), (.sl (.int .u32))], fun x => nat_long x.1 x.2⟩ :=
  fn_ok (xid := XID) (ro := ro109) (H := h109) (fn := Tryd.f109) (code := bodyOf Tryd.f109) mixed (tabOk109) Tryd.func109 rfl (by kernel_rfl) (loops_of (L := [(0, lb 0 Tryd.f109)]) (by kernel_rfl) (lcons rfl (lo109_0) (lnil))) (fun x => by kernel_rfl)
/-! 82: pantograph/nat.DivMod -/
noncomputable def tab82 : Tab := [(70, .d ⟨[.ty (.sl (.int .u32))], [(.sl (.int .u32))], fun x => nat_trim x⟩), (51, .d ⟨[.ty (.sl (.int .u32)), .ty (.sl (.int .u32))], [(.int .i64)], fun x => nat_Cmp x.1 x.2⟩), (67, .d ⟨[.ty (.sl (.int .u32))], [(.sl (.int .u32))], fun x => nat_Trim x⟩), (68, .d ⟨[.ty (.sl (.int .u32)), .ty (.int .u32)], [(.sl (.int .u32)), (.int .u32)], fun x => nat_small x.1 x.2⟩), (52, .d ⟨[.ty (.int .u64)], [(.sl (.int .u32))], fun x => nat_Of x⟩), (109, .d ⟨[.ty (.sl (.int .u32)), .ty (.sl (.int .u32))], [(.sl (.int .u32)), (.sl (.int .u32))], fun x => nat_long x.1 x.2⟩)]
theorem tabOk82 : TabOk Tryd.prog (tab82) := tabOk_cons ok70 (tabOk_cons ok51 (tabOk_cons ok67 (tabOk_cons ok68 (tabOk_cons ok52 (tabOk_cons ok109 (tabOk_nil _))))))
def ro82 : Nat → Bool := fun s => false
noncomputable def h82 : Hints := { loop := fun id => none, cut := fun k r => none, frz := fun r => [] }
theorem ok82 : FnOk Tryd.prog 82 ⟨[.ty (.sl (.int .u32)), .ty (.sl (.int .u32))], [(.sl (.int .u32)), (.sl (.int .u32)), .bool], fun x => nat_DivMod x.1 x.2⟩ :=
  fn_ok (xid := XID) (ro := ro82) (H := h82) (fn := Tryd.f82) (code := bodyOf Tryd.f82) mixed (tabOk82) Tryd.func82 rfl (by kernel_rfl) (loops_of (L := []) (by kernel_rfl) (lnil)) (fun x => by kernel_rfl)
/-! 81: pantograph/nat.Gcd -/
noncomputable def tab81 : Tab := [(67, .d ⟨[.ty (.sl (.int .u32))], [(.sl (.int .u32))], fun x => nat_Trim x⟩), (82, .d ⟨[.ty (.sl (.int .u32)), .ty (.sl (.int .u32))], [(.sl (.int .u32)), (.sl (.int .u32)), .bool], fun x => nat_DivMod x.1 x.2⟩)]
theorem tabOk81 : TabOk Tryd.prog (tab81) := tabOk_cons ok67 (tabOk_cons ok82 (tabOk_nil _))
def ro81 : Nat → Bool := fun s => false
noncomputable def lp81_0 : LoopD := { gh := [], ps := [], sh := ⟨[.s 0 (.imm (.sl (.int .u32))), .s 1 (.imm (.sl (.int .u32)))], [], []⟩, ws := [⟨.exit 0, ⟨[.s 0 (.imm (.sl (.int .u32)))], [], []⟩⟩], F := fun p s => nat_Gcd_L0  s }
noncomputable def h81 : Hints := { loop := fun id => bif Nat.beq id 0 then some (lp81_0) else none, cut := fun k r => none, frz := fun r => [] }
theorem lo81_0 : LoopOkK Tryd.prog Tryd.f81.ntmps (lp81_0) (lb 0 Tryd.f81) :=
  loop_ok (xid := XID) (ro := ro81) (H := h81) mixed (tabOk81) (loops_of (L := []) (by kernel_rfl) (lnil)) (fun p s => nat_Gcd_R0  s) (fun p s => by kernel_rfl) (fun p s => rfl)
theorem ok81 : FnOk Tryd.prog 81 ⟨[.ty (.sl (.int .u32)), .ty (.sl (.int .u32))], [(.sl (.int .u32))], fun x => nat_Gcd x.1 x.2⟩ :=
  fn_ok (xid := XID) (ro := ro81) (H := h81) (fn := Tryd.f81) (code := bodyOf Tryd.f81) mixed (tabOk81) Tryd.func81 rfl (by kernel_rfl) (loops_of (L := [(0, lb 0 Tryd.f81)]) (by kernel_rfl) (lcons rfl (lo81_0) (lnil))) (fun x => by kernel_rfl)
/-! 61: pantograph/rat.Of -/
noncomputable def tab61 : Tab := [(67, .d ⟨[.ty (.sl (.int .u32))], [(.sl (.int .u32))], fun x => nat_Trim x⟩), (52, .d ⟨[.ty (.int .u64)], [(.sl (.int .u32))], fun x => nat_Of x⟩), (81, .d ⟨[.ty (.sl (.int .u32)), .ty (.sl (.int .u32))], [(.sl (.int .u32))], fun x => nat_Gcd x.1 x.2⟩), (82, .d ⟨[.ty (.sl (.int .u32)), .ty (.sl (.int .u32))], [(.sl (.int .u32)), (.sl (.int .u32)), .bool], fun x => nat_DivMod x.1 x.2⟩)]
theorem tabOk61 : TabOk Tryd.prog (tab61) := tabOk_cons ok67 (tabOk_cons ok52 (tabOk_cons ok81 (tabOk_cons ok82 (tabOk_nil _))))
def ro61 : Nat → Bool := fun s => false
noncomputable def h61 : Hints := { loop := fun id => none, cut := fun k r => bif Nat.beq k 0 && Nat.beq r 2 then some (.flat [.s 19 (.imm .bool)]) else none, frz := fun r => [] }
theorem ok61 : FnOk Tryd.prog 61 ⟨[.ty .bool, .ty (.sl (.int .u32)), .ty (.sl (.int .u32))], [tyRat], fun x => rat_Of x.1 x.2.1 x.2.2⟩ :=
  fn_ok (xid := XID) (ro := ro61) (H := h61) (fn := Tryd.f61) (code := bodyOf Tryd.f61) mixed (tabOk61) Tryd.func61 rfl (by kernel_rfl) (loops_of (L := []) (by kernel_rfl) (lnil)) (fun x => by kernel_rfl)
/-! 48: pantograph/rat.Norm -/
noncomputable def tab48 : Tab := [(61, .d ⟨[.ty .bool, .ty (.sl (.int .u32)), .ty (.sl (.int .u32))], [tyRat], fun x => rat_Of x.1 x.2.1 x.2.2⟩)]
theorem tabOk48 : TabOk Tryd.prog (tab48) := tabOk_cons ok61 (tabOk_nil _)
def ro48 : Nat → Bool := fun s => Nat.beq s 1
noncomputable def h48 : Hints := { loop := fun id => none, cut := fun k r => none, frz := fun r => [] }
theorem ok48 : FnOk Tryd.prog 48 ⟨[.ty tyRat], [tyRat], fun x => rat_Norm x⟩ :=
  fn_ok (xid := XID) (ro := ro48) (H := h48) (fn := Tryd.f48) (code := bodyOf Tryd.f48) mixed (tabOk48) Tryd.func48 rfl (by kernel_rfl) (loops_of (L := []) (by kernel_rfl) (lnil)) (fun x => by kernel_rfl)
/-! 49: pantograph/dec.sign -/
noncomputable def tab49 : Tab := []
theorem tabOk49 : TabOk Tryd.prog (tab49) := tabOk_nil _
def ro49 : Nat → Bool := fun s => Nat.beq s 1
noncomputable def h49 : Hints := { loop := fun id => none, cut := fun k r => none, frz := fun r => [] }
theorem ok49 : FnOk Tryd.prog 49 ⟨[.ty tyRat], [.str], fun x => dec_sign x⟩ :=
  fn_ok (xid := XID) (ro := ro49) (H := h49) (fn := Tryd.f49) (code := bodyOf Tryd.f49) mixed (tabOk49) Tryd.func49 rfl (by kernel_rfl) (loops_of (L := []) (by kernel_rfl) (lnil)) (fun x => by kernel_rfl)
/-! 69: slices.Reverse[[]byte,byte] -/
noncomputable def tab69 : Tab := []
theorem tabOk69 : TabOk Tryd.prog (tab69) := tabOk_nil _
def ro69 : Nat → Bool := fun s => false
noncomputable def lp69_0 : LoopD := { gh := [], ps := [], sh := ⟨[.s 0 (.sub 0 (.int .u8)), .s 2 (.imm (.int .i64)), .s 3 (.imm (.int .i64)), .a (.int .u8)], [], [.arr (.int .u8)]⟩, ws := [⟨.exit 0, ⟨[.a (.int .u8)], [], [.arr (.int .u8)]⟩⟩], F := fun p s => slices_Reverse_sl_byte_S_L0  s }
noncomputable def h69 : Hints := { loop := fun id => bif Nat.beq id 0 then some (lp69_0) else none, cut := fun k r => none, frz := fun r => [] }
theorem lo69_0 : LoopOkK Tryd.prog Tryd.f69.ntmps (lp69_0) (lb 0 Tryd.f69) :=
  loop_ok (xid := XID) (ro := ro69) (H := h69) mixed (tabOk69) (loops_of (L := []) (by kernel_rfl) (lnil)) (fun p s => slices_Reverse_sl_byte_S_R0  s) (fun p s => by kernel_rfl) (fun p s => rfl)
theorem ok69 : FnSOk Tryd.prog 69 ⟨[.sub], ⟨[.s 0 (.sub 0 (.int .u8)), .a (.int .u8)], [], [.arr (.int .u8)]⟩, [], ⟨[.a (.int .u8)], [], [.arr (.int .u8)]⟩, 0, fun x => slices_Reverse_sl_byte_S x.1 x.2⟩ :=
  fns_ok (xid := XID) (ro := ro69) (H := h69) (fn := Tryd.f69) (code := bodyOf Tryd.f69) mixed (tabOk69) Tryd.func69 rfl (by kernel_rfl) (loops_of (L := [(0, lb 0 Tryd.f69)]) (by kernel_rfl) (lcons rfl (lo69_0) (lnil))) (fun x => by kernel_rfl)
/-! 50: pantograph/nat.Print -/
noncomputable def tab50 : Tab := [(69, .s ⟨[.sub], ⟨[.s 0 (.sub 0 (.int .u8)), .a (.int .u8)], [], [.arr (.int .u8)]⟩, [], ⟨[.a (.int .u8)], [], [.arr (.int .u8)]⟩, 0, fun x => slices_Reverse_sl_byte_S x.1 x.2⟩), (67, .d ⟨[.ty (.sl (.int .u32))], [(.sl (.int .u32))], fun x => nat_Trim x⟩), (68, .d ⟨[.ty (.sl (.int .u32)), .ty (.int .u32)], [(.sl (.int .u32)), (.int .u32)], fun x => nat_small x.1 x.2⟩)]
theorem tabOk50 : TabOk Tryd.prog (tab50) := tabOk_consS ok69 (tabOk_cons ok67 (tabOk_cons ok68 (tabOk_nil _)))
def ro50 : Nat → Bool := fun s => false
noncomputable def lp50_2 : LoopD := { gh := [], ps := [.s 4 (.imm (.sl (.int .u32)))], sh := ⟨[.s 5 (.imm (.int .u32)), .s 19 (.imm (.int .i64)), .a (.int .u8)], [(3, .cur 0 (.int .u8))], [.arr (.int .u8)]⟩, ws := [⟨.exit 2, ⟨[.a (.int .u8)], [(3, .cur 0 (.int .u8))], [.arr (.int .u8)]⟩⟩], F := fun p s => nat_Print_L1 p s }
noncomputable def lp50_0 : LoopD := { gh := [.slot 3 (.int .u8)], ps := [], sh := ⟨[.s 0 (.imm (.sl (.int .u32))), .a (.int .u8)], [(3, .cur 0 (.int .u8))], [.arr (.int .u8)]⟩, ws := [⟨.exit 0, ⟨[.a (.int .u8)], [(3, .cur 0 (.int .u8))], [.arr (.int .u8)]⟩⟩], F := fun p s => nat_Print_L0  s }
noncomputable def lp50_4 : LoopD := { gh := [], ps := [], sh := ⟨[.s 3 (.sub 0 (.int .u8)), .a (.int .u8)], [], [.arr (.int .u8)]⟩, ws := [⟨.exit 4, ⟨[.s 3 (.sub 0 (.int .u8)), .a (.int .u8)], [], [.arr (.int .u8)]⟩⟩], F := fun p s => nat_Print_L2  s }
noncomputable def h50 : Hints := { loop := fun id => bif Nat.beq id 2 then some (lp50_2) else bif Nat.beq id 0 then some (lp50_0) else bif Nat.beq id 4 then some (lp50_4) else none, cut := fun k r => bif Nat.beq k 0 && Nat.beq r 13 then some (.flat [.s 42 (.imm .bool)]) else none, frz := fun r => [] }
theorem lo50_2 : LoopOkK Tryd.prog Tryd.f50.ntmps (lp50_2) (lb 2 Tryd.f50) :=
  loop_ok (xid := XID) (ro := ro50) (H := h50) mixed (tabOk50) (loops_of (L := []) (by kernel_rfl) (lnil)) (fun p s => nat_Print_R1 p s) (fun p s => by kernel_rfl) (fun p s => rfl)
theorem lo50_0 : LoopOkK Tryd.prog Tryd.f50.ntmps (lp50_0) (lb 0 Tryd.f50) :=
  loop_ok (xid := XID) (ro := ro50) (H := h50) mixed (tabOk50) (loops_of (L := [(2, lb 2 Tryd.f50)]) (by kernel_rfl) (lcons rfl (lo50_2) (lnil))) (fun p s => nat_Print_R0  s) (fun p s => by kernel_rfl) (fun p s => rfl)
theorem lo50_4 : LoopOkK Tryd.prog Tryd.f50.ntmps (lp50_4) (lb 4 Tryd.f50) :=
  loop_ok (xid := XID) (ro := ro50) (H := h50) mixed (tabOk50) (loops_of (L := []) (by kernel_rfl) (lnil)) (fun p s => nat_Print_R2  s) (fun p s => by kernel_rfl) (fun p s => rfl)
theorem ok50 : FnOk Tryd.prog 50 ⟨[.ty (.sl (.int .u32))], [.str], fun x => nat_Print x⟩ :=
  fn_ok (xid := XID) (ro := ro50) (H := h50) (fn := Tryd.f50) (code := bodyOf Tryd.f50) mixed (tabOk50) Tryd.func50 rfl (by kernel_rfl) (loops_of (L := [(0, lb 0 Tryd.f50), (4, lb 4 Tryd.f50)]) (by kernel_rfl) (lcons rfl (lo50_0) (lcons rfl (lo50_4) (lnil)))) (fun x => by kernel_rfl)
/-! 24: pantograph/dec.Print -/
noncomputable def tab24 : Tab := [(48, .d ⟨[.ty tyRat], [tyRat], fun x => rat_Norm x⟩), (49, .d ⟨[.ty tyRat], [.str], fun x => dec_sign x⟩), (50, .d ⟨[.ty (.sl (.int .u32))], [.str], fun x => nat_Print x⟩), (52, .d ⟨[.ty (.int .u64)], [(.sl (.int .u32))], fun x => nat_Of x⟩), (51, .d ⟨[.ty (.sl (.int .u32)), .ty (.sl (.int .u32))], [(.int .i64)], fun x => nat_Cmp x.1 x.2⟩)]
theorem tabOk24 : TabOk Tryd.prog (tab24) := tabOk_cons ok48 (tabOk_cons ok49 (tabOk_cons ok50 (tabOk_cons ok52 (tabOk_cons ok51 (tabOk_nil _)))))
def ro24 : Nat → Bool := fun s => false
noncomputable def h24 : Hints := { loop := fun id => none, cut := fun k r => none, frz := fun r => [] }
theorem ok24 : FnOk Tryd.prog 24 ⟨[.ty tyRat], [.str], fun x => dec_Print x⟩ :=
  fn_ok (xid := XID) (ro := ro24) (H := h24) (fn := Tryd.f24) (code := bodyOf Tryd.f24) mixed (tabOk24) Tryd.func24 rfl (by kernel_rfl) (loops_of (L := []) (by kernel_rfl) (lnil)) (fun x => by kernel_rfl)
/-! 23: pantograph/draft.row[pantograph/api.Rat] -/
noncomputable def tab23 : Tab := [(24, .d ⟨[.ty tyRat], [.str], fun x => dec_Print x⟩)]
theorem tabOk23 : TabOk Tryd.prog (tab23) := tabOk_cons ok24 (tabOk_nil _)
def ro23 : Nat → Bool := fun s => false
noncomputable def lp23_0 : LoopD := { gh := [], ps := [.s 2 (.clo 24 []), .s 9 (.imm (.sl tyRat)), .s 10 (.imm (.int .i64))], sh := ⟨[.s 0 (.imm .str), .s 11 (.imm (.int .i64))], [], []⟩, ws := [⟨.exit 0, ⟨[.s 0 (.imm .str)], [], []⟩⟩], F := fun p s => draft_row_Rat_L0 (fun z0 => dec_Print z0) p.2.1 p.2.2 s }
noncomputable def h23 : Hints := { loop := fun id => bif Nat.beq id 0 then some (lp23_0) else none, cut := fun k r => none, frz := fun r => [] }
theorem lo23_0 : LoopOkK Tryd.prog Tryd.f23.ntmps (lp23_0) (lb 0 Tryd.f23) :=
  loop_ok (xid := XID) (ro := ro23) (H := h23) mixed (tabOk23) (loops_of (L := []) (by kernel_rfl) (lnil)) (fun p s => draft_row_Rat_R0 (fun z0 => dec_Print z0) p.2.1 p.2.2 s) (fun p s => by kernel_rfl) (fun p s => rfl)
theorem ok23 : FnOk Tryd.prog 23 ⟨[.ty .str, .ty (.sl tyRat), .clo 24 []], [.str], fun x => draft_row_Rat x.1 x.2.1 (fun z0 => dec_Print z0)⟩ :=
  fn_ok (xid := XID) (ro := ro23) (H := h23) (fn := Tryd.f23) (code := bodyOf Tryd.f23) mixed (tabOk23) Tryd.func23 rfl (by kernel_rfl) (loops_of (L := [(0, lb 0 Tryd.f23)]) (by kernel_rfl) (lcons rfl (lo23_0) (lnil))) (fun x => by kernel_rfl)
/-! 25: pantograph/draft.row[bool] -/
noncomputable def tab25 : Tab := [(26, .d ⟨[.ty .bool], [.str], fun x => draft_yes x⟩)]
theorem tabOk25 : TabOk Tryd.prog (tab25) := tabOk_cons ok26 (tabOk_nil _)
def ro25 : Nat → Bool := fun s => false
noncomputable def lp25_0 : LoopD := { gh := [], ps := [.s 2 (.clo 26 []), .s 9 (.imm (.sl .bool)), .s 10 (.imm (.int .i64))], sh := ⟨[.s 0 (.imm .str), .s 11 (.imm (.int .i64))], [], []⟩, ws := [⟨.exit 0, ⟨[.s 0 (.imm .str)], [], []⟩⟩], F := fun p s => draft_row_bool_L0 (fun z0 => draft_yes z0) p.2.1 p.2.2 s }
noncomputable def h25 : Hints := { loop := fun id => bif Nat.beq id 0 then some (lp25_0) else none, cut := fun k r => none, frz := fun r => [] }
theorem lo25_0 : LoopOkK Tryd.prog Tryd.f25.ntmps (lp25_0) (lb 0 Tryd.f25) :=
  loop_ok (xid := XID) (ro := ro25) (H := h25) mixed (tabOk25) (loops_of (L := []) (by kernel_rfl) (lnil)) (fun p s => draft_row_bool_R0 (fun z0 => draft_yes z0) p.2.1 p.2.2 s) (fun p s => by kernel_rfl) (fun p s => rfl)
theorem ok25 : FnOk Tryd.prog 25 ⟨[.ty .str, .ty (.sl .bool), .clo 26 []], [.str], fun x => draft_row_bool x.1 x.2.1 (fun z0 => draft_yes z0)⟩ :=
  fn_ok (xid := XID) (ro := ro25) (H := h25) (fn := Tryd.f25) (code := bodyOf Tryd.f25) mixed (tabOk25) Tryd.func25 rfl (by kernel_rfl) (loops_of (L := [(0, lb 0 Tryd.f25)]) (by kernel_rfl) (lcons rfl (lo25_0) (lnil))) (fun x => by kernel_rfl)
/-! 28: pantograph/draft.out -/
noncomputable def tab28 : Tab := [(37, .d ⟨[.ty (.int .i64)], [.str], fun x => strconv_Itoa x⟩)]
theorem tabOk28 : TabOk Tryd.prog (tab28) := tabOk_cons ok37 (tabOk_nil _)
def ro28 : Nat → Bool := fun s => false
noncomputable def h28 : Hints := { loop := fun id => none, cut := fun k r => none, frz := fun r => [] }
theorem ok28 : FnOk Tryd.prog 28 ⟨[.ty (.int .i64)], [.str], fun x => draft_out x⟩ :=
  fn_ok (xid := XID) (ro := ro28) (H := h28) (fn := Tryd.f28) (code := bodyOf Tryd.f28) mixed (tabOk28) Tryd.func28 rfl (by kernel_rfl) (loops_of (L := []) (by kernel_rfl) (lnil)) (fun x => by kernel_rfl)
/-! 27: pantograph/draft.row[int] -/
noncomputable def tab27 : Tab := [(28, .d ⟨[.ty (.int .i64)], [.str], fun x => draft_out x⟩)]
theorem tabOk27 : TabOk Tryd.prog (tab27) := tabOk_cons ok28 (tabOk_nil _)
def ro27 : Nat → Bool := fun s => false
noncomputable def lp27_0 : LoopD := { gh := [], ps := [.s 2 (.clo 28 []), .s 9 (.imm (.sl (.int .i64))), .s 10 (.imm (.int .i64))], sh := ⟨[.s 0 (.imm .str), .s 11 (.imm (.int .i64))], [], []⟩, ws := [⟨.exit 0, ⟨[.s 0 (.imm .str)], [], []⟩⟩], F := fun p s => draft_row_int_L0 (fun z0 => draft_out z0) p.2.1 p.2.2 s }
noncomputable def h27 : Hints := { loop := fun id => bif Nat.beq id 0 then some (lp27_0) else none, cut := fun k r => none, frz := fun r => [] }
theorem lo27_0 : LoopOkK Tryd.prog Tryd.f27.ntmps (lp27_0) (lb 0 Tryd.f27) :=
  loop_ok (xid := XID) (ro := ro27) (H := h27) mixed (tabOk27) (loops_of (L := []) (by kernel_rfl) (lnil)) (fun p s => draft_row_int_R0 (fun z0 => draft_out z0) p.2.1 p.2.2 s) (fun p s => by kernel_rfl) (fun p s => rfl)
theorem ok27 : FnOk Tryd.prog 27 ⟨[.ty .str, .ty (.sl (.int .i64)), .clo 28 []], [.str], fun x => draft_row_int x.1 x.2.1 (fun z0 => draft_out z0)⟩ :=
  fn_ok (xid := XID) (ro := ro27) (H := h27) (fn := Tryd.f27) (code := bodyOf Tryd.f27) mixed (tabOk27) Tryd.func27 rfl (by kernel_rfl) (loops_of (L := [(0, lb 0 Tryd.f27)]) (by kernel_rfl) (lcons rfl (lo27_0) (lnil))) (fun x => by kernel_rfl)
/-! 30: pantograph/draft.pin -/
noncomputable def tab30 : Tab := [(24, .d ⟨[.ty tyRat], [.str], fun x => dec_Print x⟩)]
theorem tabOk30 : TabOk Tryd.prog (tab30) := tabOk_cons ok24 (tabOk_nil _)
def ro30 : Nat → Bool := fun s => Nat.beq s 1
noncomputable def h30 : Hints := { loop := fun id => none, cut := fun k r => none, frz := fun r => [] }
theorem ok30 : FnOk Tryd.prog 30 ⟨[.ty tydoc_Pin], [.str], fun x => draft_pin x⟩ :=
  fn_ok (xid := XID) (ro := ro30) (H := h30) (fn := Tryd.f30) (code := bodyOf Tryd.f30) mixed (tabOk30) Tryd.func30 rfl (by kernel_rfl) (loops_of (L := []) (by kernel_rfl) (lnil)) (fun x => by kernel_rfl)
/-! 29: pantograph/draft.row[pantograph/doc.Pin] -/
noncomputable def tab29 : Tab := [(30, .d ⟨[.ty tydoc_Pin], [.str], fun x => draft_pin x⟩)]
theorem tabOk29 : TabOk Tryd.prog (tab29) := tabOk_cons ok30 (tabOk_nil _)
def ro29 : Nat → Bool := fun s => false
noncomputable def lp29_0 : LoopD := { gh := [], ps := [.s 2 (.clo 30 []), .s 9 (.imm (.sl tydoc_Pin)), .s 10 (.imm (.int .i64))], sh := ⟨[.s 0 (.imm .str), .s 11 (.imm (.int .i64))], [], []⟩, ws := [⟨.exit 0, ⟨[.s 0 (.imm .str)], [], []⟩⟩], F := fun p s => draft_row_doc_Pin_L0 (fun z0 => draft_pin z0) p.2.1 p.2.2 s }
noncomputable def h29 : Hints := { loop := fun id => bif Nat.beq id 0 then some (lp29_0) else none, cut := fun k r => none, frz := fun r => [] }
theorem lo29_0 : LoopOkK Tryd.prog Tryd.f29.ntmps (lp29_0) (lb 0 Tryd.f29) :=
  loop_ok (xid := XID) (ro := ro29) (H := h29) mixed (tabOk29) (loops_of (L := []) (by kernel_rfl) (lnil)) (fun p s => draft_row_doc_Pin_R0 (fun z0 => draft_pin z0) p.2.1 p.2.2 s) (fun p s => by kernel_rfl) (fun p s => rfl)
theorem ok29 : FnOk Tryd.prog 29 ⟨[.ty .str, .ty (.sl tydoc_Pin), .clo 30 []], [.str], fun x => draft_row_doc_Pin x.1 x.2.1 (fun z0 => draft_pin z0)⟩ :=
  fn_ok (xid := XID) (ro := ro29) (H := h29) (fn := Tryd.f29) (code := bodyOf Tryd.f29) mixed (tabOk29) Tryd.func29 rfl (by kernel_rfl) (loops_of (L := [(0, lb 0 Tryd.f29)]) (by kernel_rfl) (lcons rfl (lo29_0) (lnil))) (fun x => by kernel_rfl)
/-! 7: pantograph/draft.Print -/
noncomputable def tab7 : Tab := [(24, .d ⟨[.ty tyRat], [.str], fun x => dec_Print x⟩), (23, .d ⟨[.ty .str, .ty (.sl tyRat), .clo 24 []], [.str], fun x => draft_row_Rat x.1 x.2.1 (fun z0 => dec_Print z0)⟩), (26, .d ⟨[.ty .bool], [.str], fun x => draft_yes x⟩), (25, .d ⟨[.ty .str, .ty (.sl .bool), .clo 26 []], [.str], fun x => draft_row_bool x.1 x.2.1 (fun z0 => draft_yes z0)⟩), (28, .d ⟨[.ty (.int .i64)], [.str], fun x => draft_out x⟩), (27, .d ⟨[.ty .str, .ty (.sl (.int .i64)), .clo 28 []], [.str], fun x => draft_row_int x.1 x.2.1 (fun z0 => draft_out z0)⟩), (30, .d ⟨[.ty tydoc_Pin], [.str], fun x => draft_pin x⟩), (29, .d ⟨[.ty .str, .ty (.sl tydoc_Pin), .clo 30 []], [.str], fun x => draft_row_doc_Pin x.1 x.2.1 (fun z0 => draft_pin z0)⟩)]
theorem tabOk7 : TabOk Tryd.prog (tab7) := tabOk_cons ok24 (tabOk_cons ok23 (tabOk_cons ok26 (tabOk_cons ok25 (tabOk_cons ok28 (tabOk_cons ok27 (tabOk_cons ok30 (tabOk_cons ok29 (tabOk_nil _))))))))
def ro7 : Nat → Bool := fun s => Nat.beq s 1
noncomputable def h7 : Hints := { loop := fun id => none, cut := fun k r => none, frz := fun r => [] }
theorem ok7 : FnOk Tryd.prog 7 ⟨[.ty tydoc_Doc], [.str], fun x => draft_Print x⟩ :=
  fn_ok (xid := XID) (ro := ro7) (H := h7) (fn := Tryd.f7) (code := bodyOf Tryd.f7) mixed (tabOk7) Tryd.func7 rfl (by kernel_rfl) (loops_of (L := []) (by kernel_rfl) (lnil)) (fun x => by kernel_rfl)
/-! 10: pantograph/pantographlaw20.known -/
noncomputable def tab10 : Tab := [(7, .d ⟨[.ty tydoc_Doc], [.str], fun x => draft_Print x⟩)]
theorem tabOk10 : TabOk Tryd.prog (tab10) := tabOk_cons ok7 (tabOk_nil _)
def ro10 : Nat → Bool := fun s => false
noncomputable def h10 : Hints := { loop := fun id => none, cut := fun k r => none, frz := fun r => [] }
theorem ok10 : FnOk Tryd.prog 10 ⟨[], [.bool], fun _ => law20_known⟩ :=
  fn_ok (xid := XID) (ro := ro10) (H := h10) (fn := Tryd.f10) (code := bodyOf Tryd.f10) mixed (tabOk10) Tryd.func10 rfl (by kernel_rfl) (loops_of (L := []) (by kernel_rfl) (lnil)) (fun x => by kernel_rfl)
/-! 4: pantograph/pantographlaw20.DraftSaves -/
noncomputable def tab4 : Tab := [(11, .d ⟨[.ty tydraft_Draft], [.bool], fun x => law20_long x⟩), (12, .d ⟨[.ty tydraft_Draft], [.str], fun x => draft_Save x⟩), (14, .d ⟨[.ty tydraft_Draft], [tydraft_Draft], fun x => law20_own x⟩), (13, .d ⟨[.ty tydraft_Draft], [.str], fun x => ref20_Save x⟩), (10, .d ⟨[], [.bool], fun _ => law20_known⟩)]
theorem tabOk4 : TabOk Tryd.prog (tab4) := tabOk_cons ok11 (tabOk_cons ok12 (tabOk_cons ok14 (tabOk_cons ok13 (tabOk_cons ok10 (tabOk_nil _)))))
def ro4 : Nat → Bool := fun s => Nat.beq s 1
noncomputable def h4 : Hints := { loop := fun id => none, cut := fun k r => none, frz := fun r => [] }
theorem ok4 : FnOk Tryd.prog 4 ⟨[.ty tydraft_Draft], [.bool], fun x => law20_DraftSaves x⟩ :=
  fn_ok (xid := XID) (ro := ro4) (H := h4) (fn := Tryd.f4) (code := bodyOf Tryd.f4) mixed (tabOk4) Tryd.func4 rfl (by kernel_rfl) (loops_of (L := []) (by kernel_rfl) (lnil)) (fun x => by kernel_rfl)
end Go.AM.Lf
