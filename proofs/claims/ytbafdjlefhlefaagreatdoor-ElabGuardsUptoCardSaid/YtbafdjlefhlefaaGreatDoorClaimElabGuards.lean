/-
  P9.2: with a switch turned just the rules that it guards come or go
-/
import Derived.Test.YtbafdjlefhlefaaGreatDoorRows
import Derived.Test.YtbafdjlefhlefaaGreatDoorCards
import Derived.Test.YtbafdjlefhlefaaGreatDoorTie
import Derived.Deep.DeepHandedRow
import Derived.SevenTiedAt
import Derived.WalkKit
import Derived.ProofKit
import Derived.OpenShut
import Derived.JoinedCond
import Derived.Test.YtbafdjlefhlefaaGreatDoorWk0
import Derived.Test.YtbafdjlefhlefaaGreatDoorQ0
import Derived.Test.YtbafdjlefhlefaaGreatDoorQ1
import Derived.Test.YtbafdjlefhlefaaGreatDoorQ2
import Derived.Test.YtbafdjlefhlefaaGreatDoorAmD
namespace Go.Proofs.YtbafdjlefhlefaaGreatDoor.lawElabGuards
open Go.ChangeShapes Go.WideShapes Go.ChangeAt Go.RowKit Go.AM
set_option linter.unusedVariables false
theorem own : ownKnob Tryz.prog.godebug = none := by kernel_rfl
def zfg (H : Type) : O5 H where
  b := Rows.uptoBulk
  bs := Rows.uptoBulkAll
  str := fun _ => rfl
  bool := fun _ => rfl
  int := fun _ _ => rfl
  nil := rfl
  slice := fun _ _ => rfl
  agg := fun _ => rfl
  zero := rfl
  cons := fun _ _ => rfl
set_option maxRecDepth 100000 in
theorem T6 (H : Type) (enc : TypeId × Value → H) (W : World) (base : Nat) (args : Array Value) (ds gs : List (DataW H)) (before : List MemPlace)
    (Y9 : ∀ (j : Nat) t v, Tryz.f5.params[j]? = some t → args[j]? = some v → Value.okWide Tryz.prog W .any base t v)
    (hW : DataW.Whole enc Tryz.prog Tryz.f5.params.toList Rows.elabGuardsSpec.vars false W args.toList ds gs before) (hk : Rows.uptoSmall H (ds ++ gs) = true) (hL : laidMet Tryz.prog Rows.elabGuardsUptoRow.laid W) (hSh : W.ShapedOpen Tryz.prog) :
    Calls Tryz.prog 5 args W fun e W' => ∃ v, e = .returned v ∧ Rows.elabGuardsSpec.post enc Tryz.prog Tryz.f5 false true false false W args v W' := by
  have hG : ZV W fun k => k < W.heap.size := by
    intro x hx
    simp only [uz.tab, List.mem_cons, List.not_mem_nil, or_false] at hx
    subst hx
    · obtain ⟨ps, hL0, _⟩ := hL
      obtain ⟨_, hL1⟩ := YN hL0
      obtain ⟨_, hL2⟩ := YN hL1
      exact N2 (zs := Lib.pow10Tab) (g := 1) (t := 226) (e := 112) (n := 20) (by kernel_rfl) (by kernel_rfl) (by kernel_rfl) (by kernel_rfl) (by kernel_rfl) (by kernel_rfl) hL2
  refine z7l (H := H) (fn := Tryz.f5) (open Lf in [zG, (.sl zI), (.sl .bool), (.int .i64)]) (bt := 4) (lim := 1048576) Lf.ok5 Tryz.func5 rfl (by kernel_rfl) (by kernel_rfl) Lf.XID 20 20 (by kernel_rfl) (by kernel_rfl) (by kernel_rfl) rfl (by kernel_rfl) rfl ?_ (zfg H) (fun x hw hb => Lf.tM x hw hb) Y9 hW ?_ hG
  · intro ds h
    match ds, h with
    | [d0, d1, d2, d3], _ => rfl
  · have h := of_decide_eq_true (p := Rows.uptoBulkAll (ds ++ gs) ≤ 1048576) hk
    exact h
def z7k : DataW Unit → List Value
  | .lit (.int k n) => [.int k n]
  | .agg ps => ps.flatMap fun
    | .lit (.int k n) => [Value.int k n]
    | _ => []
  | _ => []
def JE : DataW Unit → Array Value
  | .agg ps => (ps.flatMap z7k).toArray
  | _ => #[]
/-- A world for the witness: the settled one, the listed variables holding what their initialisers lay. -/
noncomputable def XW (os : Os) : World :=
  { World.holding Tryz.prog os ⟨#[], #[], []⟩ with heap := (World.holding Tryz.prog os ⟨#[], #[], []⟩).heap
    |> (fun h => h.modify 2 fun | .cells _ t frozen => .cells (JE Rows.laid_math_bits_deBruijn32tab) t frozen | o => o)
    |> (fun h => h.modify 3 fun | .cells _ t frozen => .cells (JE Rows.laid_math_bits_deBruijn64tab) t frozen | o => o)
    |> (fun h => h.modify 1 fun | .cells _ t frozen => .cells (JE Rows.laid_internal_strconv_uint64pow10) t frozen | o => o) }
theorem SE (os : Os) : laidMet Tryz.prog Rows.elabGuardsUptoRow.laid ((XW os).forCall (fun _ _ => 0) ⟨#[], #[.agg #[.slice none 0 0, .slice none 0 0, .slice none 0 0, .slice none 0 0, .slice none 0 0, .slice none 0 0], .slice none 0 0, .slice none 0 0, .int .i64 0], []⟩).memory :=
  laidMet_of_run' 12 (by kernel_rfl) (by kernel_rfl)
theorem reads (os : Os) {H : Type} (enc : TypeId × Value → H) : ∃ places, DataW.whole enc Tryz.prog ((XW os).forCall (fun _ _ => 0) ⟨#[], #[.agg #[.slice none 0 0, .slice none 0 0, .slice none 0 0, .slice none 0 0, .slice none 0 0, .slice none 0 0], .slice none 0 0, .slice none 0 0, .int .i64 0], []⟩).memory Tryz.f5.params.toList Rows.elabGuardsSpec.vars false (#[.agg #[.slice none 0 0, .slice none 0 0, .slice none 0 0, .slice none 0 0, .slice none 0 0, .slice none 0 0], .slice none 0 0, .slice none 0 0, .int .i64 0] : Array Value).toList 12 = some ([.agg [.nil, .nil, .nil, .nil, .nil, .nil], .nil, .nil, .lit (.int .i64 0)], [], places) :=
  ⟨[], by kernel_rfl⟩
set_option maxRecDepth 100000 in
theorem lifted (os : Os) (started : os.Started) (H : Type) (enc : TypeId × Value → H) (F : Stop.Interp) :
    ReturnsInHanded {} Tryz.checked os 5 .any ((Rows.OpenSpec.upto Rows.elabGuardsSpec).preRow enc Tryz.prog Tryz.f5 Rows.elabGuardsUptoRow.domain false Rows.elabGuardsUptoRow.laid) (((Rows.OpenSpec.upto Rows.elabGuardsSpec).at F).post enc Tryz.prog Tryz.f5 false true false false) := by
  obtain ⟨places, hx⟩ := reads os enc
  refine returnsInHanded_of_row (C := Tryz.checked) (s := Rows.OpenSpec.upto Rows.elabGuardsSpec) own started (by kernel_rfl) Tryz.func5
    (witness_row_at (enc := enc) (C := Tryz.checked) false (XW os) #[.agg #[.slice none 0 0, .slice none 0 0, .slice none 0 0, .slice none 0 0, .slice none 0 0, .slice none 0 0], .slice none 0 0, .slice none 0 0, .int .i64 0] rfl (by kernel_rfl) (by kernel_rfl) (by kernel_rfl)
      (OpenSpec.preRow_of_cond 12 hx (by kernel_rfl) (fun k hk => by cases hk; kernel_rfl) (by kernel_rfl) (SE os))) ?_
  intro W base args ds gs before Y9 hW _ hcond _ hL hSh _
  exact T6 H enc W base args ds gs before Y9 hW (hcond _ rfl) hL hSh
theorem over : Rows.ElabGuardsUptoSaid :=
  OpenClaim.holds_of_cond 5 Tryz.f5 rfl rfl rfl rfl rfl rfl rfl ⟨rfl, rfl, rfl, rfl, rfl⟩ rfl rfl rfl rfl rfl (by kernel_rfl) Tryz.func5 (by kernel_rfl)
    (of_decide_eq_true (by kernel_rfl)) (by unfold Func.isWrapper; first | (rw [if_pos (by decide +kernel)]; kernel_rfl) | (rw [if_neg (by decide +kernel)]; exact ⟨rfl, rfl⟩))
    (fun os started H enc _ F => by rw [OpenClaim.pre_eq_preRow]; exact lifted os started H enc F)
theorem plain (f : FuncId) (fn : Func) (hf : Tryz.pinned.checked.prog.funcNamed Rows.elabGuardsUptoRow.func = some f) (hfn : Tryz.pinned.checked.prog.funcs[f]? = some fn) :
    false = Tryz.pinned.checked.prog.looks [] ∧ ∀ (j : Nat) t, fn.params[j]? = some t → Tryz.pinned.checked.prog.wantsStandIn t = false := by
  obtain rfl : f = 5 := Option.some.inj ((show Tryz.prog.funcNamed Rows.elabGuardsUptoRow.func = some 5 by kernel_rfl).symm.trans hf) |>.symm
  obtain rfl : fn = Tryz.f5 := (Option.some.inj (Tryz.func5.symm.trans hfn)).symm
  refine ⟨by kernel_rfl, fun j t ht => ?_⟩
  have mY : (Tryz.f5.params.toList.all fun t => !(Tryz.pinned.checked.prog.wantsStandIn t)) = true := by kernel_rfl
  have := List.all_eq_true.1 mY t (by simpa using Array.mem_of_getElem? ht)
  simpa using this
theorem proved : Rows.ElabGuardsUptoCardSaid :=
  Claim7.holds_tied_plain_at .later [] _ _ _ _ over (fun _ h => by cases h) (by kernel_rfl) (fun _ h => by cases h) elabGuardsUpto_row_tie rfl ⟨rfl, rfl⟩ (by kernel_rfl) rfl plain (by kernel_rfl)
end Go.Proofs.YtbafdjlefhlefaaGreatDoor.lawElabGuards
