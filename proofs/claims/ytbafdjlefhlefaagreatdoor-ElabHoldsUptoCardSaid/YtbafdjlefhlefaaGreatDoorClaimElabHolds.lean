/-
  P9.3: a constraint holds at any values just where both sides of its rule are one number
-/
import Derived.Test.YtbafdjlefhlefaaGreatDoorRows
import Derived.Test.YtbafdjlefhlefaaGreatDoorCards
import Derived.Test.YtbafdjlefhlefaaGreatDoorTie
import Derived.Deep.DeepHandedRow
import Derived.SevenTiedAt
import Derived.WalkKit
import Derived.ProofKit
import Derived.OpenShut
import Derived.JoinedCond
import Derived.Test.YtbafdjlefhlefaaGreatDoorWk0
import Derived.Test.YtbafdjlefhlefaaGreatDoorQ0
import Derived.Test.YtbafdjlefhlefaaGreatDoorQ1
import Derived.Test.YtbafdjlefhlefaaGreatDoorQ2
import Derived.Test.YtbafdjlefhlefaaGreatDoorQ3
import Derived.Test.YtbafdjlefhlefaaGreatDoorAmD
namespace Go.Proofs.YtbafdjlefhlefaaGreatDoor.lawElabHolds
open Go.ChangeShapes Go.WideShapes Go.ChangeAt Go.RowKit Go.AM
set_option linter.unusedVariables false
theorem own : ownKnob Tryz.prog.godebug = none := by kernel_rfl
def zfH (H : Type) : Og H where
  b := Rows.uptoBulk
  bs := Rows.uptoBulkAll
  str := fun _ => rfl
  bool := fun _ => rfl
  int := fun _ _ => rfl
  nil := rfl
  slice := fun _ _ => rfl
  agg := fun _ => rfl
  zero := rfl
  cons := fun _ _ => rfl
set_option maxRecDepth 100000 in
theorem Tf (H : Type) (enc : TypeId × Value → H) (W : World) (base : Nat) (args : Array Value) (ds gs : List (DataW H)) (before : List MemPlace)
    (Yx : ∀ (j : Nat) t v, Tryz.f4.params[j]? = some t → args[j]? = some v → Value.okWide Tryz.prog W .any base t v)
    (hW : DataW.Whole enc Tryz.prog Tryz.f4.params.toList Rows.elabHoldsSpec.vars false W args.toList ds gs before) (hk : Rows.uptoSmall H (ds ++ gs) = true) (hL : laidMet Tryz.prog Rows.elabHoldsUptoRow.laid W) (hSh : W.ShapedOpen Tryz.prog) :
    Calls Tryz.prog 4 args W fun e W' => ∃ v, e = .returned v ∧ Rows.elabHoldsSpec.post enc Tryz.prog Tryz.f4 false true false false W args v W' := by
  have hG : QF W fun k => k < W.heap.size := by
    intro x hx
    simp only [uH.tab, List.mem_cons, List.not_mem_nil, or_false] at hx
    subst hx
    · obtain ⟨ps, hL0, _⟩ := hL
      obtain ⟨_, hL1⟩ := Gr hL0
      obtain ⟨_, hL2⟩ := Gr hL1
      exact OA (zs := Lib.pow10Tab) (g := 1) (t := 226) (e := 112) (n := 20) (by kernel_rfl) (by kernel_rfl) (by kernel_rfl) (by kernel_rfl) (by kernel_rfl) (by kernel_rfl) hL2
  refine z6C (H := H) (fn := Tryz.f4) (open Lf in [zK, (.sl zt), (.sl .bool), (.sl zt)]) (bt := 4) (lim := 1048576) Lf.ok4 Tryz.func4 rfl (by kernel_rfl) (by kernel_rfl) Lf.XID 20 20 (by kernel_rfl) (by kernel_rfl) (by kernel_rfl) rfl (by kernel_rfl) rfl ?_ (zfH H) (fun x hw hb => Lf.QK x hw hb) Yx hW ?_ hG
  · intro ds h
    match ds, h with
    | [d0, d1, d2, d3], _ => rfl
  · have h := of_decide_eq_true (p := Rows.uptoBulkAll (ds ++ gs) ≤ 1048576) hk
    exact h
def z67 : DataW Unit → List Value
  | .lit (.int k n) => [.int k n]
  | .agg ps => ps.flatMap fun
    | .lit (.int k n) => [Value.int k n]
    | _ => []
  | _ => []
def JM : DataW Unit → Array Value
  | .agg ps => (ps.flatMap z67).toArray
  | _ => #[]
/-- A world for the witness: the settled one, the listed variables holding what their initialisers lay. -/
noncomputable def WO (os : Os) : World :=
  { World.holding Tryz.prog os ⟨#[], #[], []⟩ with heap := (World.holding Tryz.prog os ⟨#[], #[], []⟩).heap
    |> (fun h => h.modify 2 fun | .cells _ t frozen => .cells (JM Rows.laid_math_bits_deBruijn32tab) t frozen | o => o)
    |> (fun h => h.modify 3 fun | .cells _ t frozen => .cells (JM Rows.laid_math_bits_deBruijn64tab) t frozen | o => o)
    |> (fun h => h.modify 1 fun | .cells _ t frozen => .cells (JM Rows.laid_internal_strconv_uint64pow10) t frozen | o => o) }
theorem RN (os : Os) : laidMet Tryz.prog Rows.elabHoldsUptoRow.laid ((WO os).forCall (fun _ _ => 0) ⟨#[], #[.agg #[.slice none 0 0, .slice none 0 0, .slice none 0 0, .slice none 0 0, .slice none 0 0, .slice none 0 0], .slice none 0 0, .slice none 0 0, .slice none 0 0], []⟩).memory :=
  laidMet_of_run' 12 (by kernel_rfl) (by kernel_rfl)
theorem reads (os : Os) {H : Type} (enc : TypeId × Value → H) : ∃ places, DataW.whole enc Tryz.prog ((WO os).forCall (fun _ _ => 0) ⟨#[], #[.agg #[.slice none 0 0, .slice none 0 0, .slice none 0 0, .slice none 0 0, .slice none 0 0, .slice none 0 0], .slice none 0 0, .slice none 0 0, .slice none 0 0], []⟩).memory Tryz.f4.params.toList Rows.elabHoldsSpec.vars false (#[.agg #[.slice none 0 0, .slice none 0 0, .slice none 0 0, .slice none 0 0, .slice none 0 0, .slice none 0 0], .slice none 0 0, .slice none 0 0, .slice none 0 0] : Array Value).toList 12 = some ([.agg [.nil, .nil, .nil, .nil, .nil, .nil], .nil, .nil, .nil], [], places) :=
  ⟨[], by kernel_rfl⟩
set_option maxRecDepth 100000 in
theorem lifted (os : Os) (started : os.Started) (H : Type) (enc : TypeId × Value → H) (F : Stop.Interp) :
    ReturnsInHanded {} Tryz.checked os 4 .any ((Rows.OpenSpec.upto Rows.elabHoldsSpec).preRow enc Tryz.prog Tryz.f4 Rows.elabHoldsUptoRow.domain false Rows.elabHoldsUptoRow.laid) (((Rows.OpenSpec.upto Rows.elabHoldsSpec).at F).post enc Tryz.prog Tryz.f4 false true false false) := by
  obtain ⟨places, hx⟩ := reads os enc
  refine returnsInHanded_of_row (C := Tryz.checked) (s := Rows.OpenSpec.upto Rows.elabHoldsSpec) own started (by kernel_rfl) Tryz.func4
    (witness_row_at (enc := enc) (C := Tryz.checked) false (WO os) #[.agg #[.slice none 0 0, .slice none 0 0, .slice none 0 0, .slice none 0 0, .slice none 0 0, .slice none 0 0], .slice none 0 0, .slice none 0 0, .slice none 0 0] rfl (by kernel_rfl) (by kernel_rfl) (by kernel_rfl)
      (OpenSpec.preRow_of_cond 12 hx (by kernel_rfl) (fun k hk => by cases hk; kernel_rfl) (by kernel_rfl) (RN os))) ?_
  intro W base args ds gs before Yx hW _ hcond _ hL hSh _
  exact Tf H enc W base args ds gs before Yx hW (hcond _ rfl) hL hSh
theorem over : Rows.ElabHoldsUptoSaid :=
  OpenClaim.holds_of_cond 4 Tryz.f4 rfl rfl rfl rfl rfl rfl rfl ⟨rfl, rfl, rfl, rfl, rfl⟩ rfl rfl rfl rfl rfl (by kernel_rfl) Tryz.func4 (by kernel_rfl)
    (of_decide_eq_true (by kernel_rfl)) (by unfold Func.isWrapper; first | (rw [if_pos (by decide +kernel)]; kernel_rfl) | (rw [if_neg (by decide +kernel)]; exact ⟨rfl, rfl⟩))
    (fun os started H enc _ F => by rw [OpenClaim.pre_eq_preRow]; exact lifted os started H enc F)
theorem plain (f : FuncId) (fn : Func) (hf : Tryz.pinned.checked.prog.funcNamed Rows.elabHoldsUptoRow.func = some f) (hfn : Tryz.pinned.checked.prog.funcs[f]? = some fn) :
    false = Tryz.pinned.checked.prog.looks [] ∧ ∀ (j : Nat) t, fn.params[j]? = some t → Tryz.pinned.checked.prog.wantsStandIn t = false := by
  obtain rfl : f = 4 := Option.some.inj ((show Tryz.prog.funcNamed Rows.elabHoldsUptoRow.func = some 4 by kernel_rfl).symm.trans hf) |>.symm
  obtain rfl : fn = Tryz.f4 := (Option.some.inj (Tryz.func4.symm.trans hfn)).symm
  refine ⟨by kernel_rfl, fun j t ht => ?_⟩
  have na : (Tryz.f4.params.toList.all fun t => !(Tryz.pinned.checked.prog.wantsStandIn t)) = true := by kernel_rfl
  have := List.all_eq_true.1 na t (by simpa using Array.mem_of_getElem? ht)
  simpa using this
theorem proved : Rows.ElabHoldsUptoCardSaid :=
  Claim7.holds_tied_plain_at .later [] _ _ _ _ over (fun _ h => by cases h) (by kernel_rfl) (fun _ h => by cases h) elabHoldsUpto_row_tie rfl ⟨rfl, rfl⟩ (by kernel_rfl) rfl plain (by kernel_rfl)
end Go.Proofs.YtbafdjlefhlefaaGreatDoor.lawElabHolds
