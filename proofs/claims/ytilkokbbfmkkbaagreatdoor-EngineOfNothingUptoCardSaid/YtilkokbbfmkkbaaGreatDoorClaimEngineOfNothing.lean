/-
  A nil Engine answers an error, and tells nothing: no document, no history, no page. Conditions: none, for all arguments up to the given bulk and card.
-/
import Derived.Test.YtilkokbbfmkkbaaGreatDoorRows
import Derived.Test.YtilkokbbfmkkbaaGreatDoorCards
import Derived.Test.YtilkokbbfmkkbaaGreatDoorTie
import Derived.Deep.DeepHandedRow
import Derived.SevenTiedAt
import Derived.WalkKit
import Derived.ProofKit
import Derived.OpenShut
import Derived.JoinedCond
import Derived.Test.YtilkokbbfmkkbaaGreatDoorWk0
import Derived.Test.YtilkokbbfmkkbaaGreatDoorQ0
import Derived.Test.YtilkokbbfmkkbaaGreatDoorAmE
namespace Go.Proofs.YtilkokbbfmkkbaaGreatDoor.lawEngineOfNothing
open Go.ChangeShapes Go.WideShapes Go.ChangeAt Go.RowKit Go.AM
set_option linter.unusedVariables false
theorem own : ownKnob Tryz.prog.godebug = none := by kernel_rfl
def z5L (H : Type) : HP H where
  b := Rows.uptoBulk
  bs := Rows.uptoBulkAll
  str := fun _ => rfl
  bool := fun _ => rfl
  int := fun _ _ => rfl
  nil := rfl
  slice := fun _ _ => rfl
  agg := fun _ => rfl
  zero := rfl
  cons := fun _ _ => rfl
set_option maxRecDepth 100000 in
theorem Ci (H : Type) (enc : TypeId × Value → H) (W : World) (base : Nat) (args : Array Value) (ds gs : List (DataW H)) (before : List MemPlace)
    (hval : ∀ (j : Nat) t v, Tryz.f3.params[j]? = some t → args[j]? = some v → Value.okWide Tryz.prog W .any base t v)
    (hW : DataW.Whole enc Tryz.prog Tryz.f3.params.toList Rows.engineOfNothingSpec.vars false W args.toList ds gs before) (hk : Rows.uptoSmall H (ds ++ gs) = true) (hL : laidMet Tryz.prog Rows.engineOfNothingUptoRow.laid W) (hSh : W.ShapedOpen Tryz.prog) :
    Calls Tryz.prog 3 args W fun e W' => ∃ v, e = .returned v ∧ Rows.engineOfNothingSpec.post enc Tryz.prog Tryz.f3 false true false false W args v W' := by
  have hG : ml W fun k => k < W.heap.size := by
    intro x hx
    simp only [we.tab, List.mem_cons, List.not_mem_nil, or_false] at hx
    rcases hx with rfl | rfl
    · obtain ⟨ps, hL0, _⟩ := hL
      obtain ⟨_, hL1⟩ := QR hL0
      obtain ⟨_, hL2⟩ := QR hL1
      exact HW (zs := Lib.pow10Tab) (g := 0) (t := 338) (e := 161) (n := 20) (by kernel_rfl) (by kernel_rfl) (by kernel_rfl) (by kernel_rfl) (by kernel_rfl) (by kernel_rfl) hL2
    · exact BP (g := 4) (t := 3) (zero := #[.int .i64 0]) hSh (of_decide_eq_true (by kernel_rfl)) (by kernel_rfl) (by kernel_rfl) (by kernel_rfl) (by kernel_rfl) (by kernel_rfl)
  refine PW (H := H) (fn := Tryz.f3) (open Lf in [cj]) (bt := 4) (lim := 1048576) Lf.ok3 Tryz.func3 rfl (by kernel_rfl) (by kernel_rfl) Lf.Kw 20 20 (by kernel_rfl) (by kernel_rfl) (by kernel_rfl) rfl (by kernel_rfl) rfl ?_ (z5L H) (fun x hw hb => Lf.bz x hw hb) hval hW ?_ hG
  · intro ds h
    match ds, h with
    | [d0], _ => rfl
  · have h := of_decide_eq_true (p := Rows.uptoBulkAll (ds ++ gs) ≤ 1048576) hk
    exact h
def Pj : DataW Unit → List Value
  | .lit (.int k n) => [.int k n]
  | .agg ps => ps.flatMap fun
    | .lit (.int k n) => [Value.int k n]
    | _ => []
  | _ => []
def b5 : DataW Unit → Array Value
  | .agg ps => (ps.flatMap Pj).toArray
  | _ => #[]
/-- A world for the witness: the settled one, the listed variables holding what their initialisers lay. -/
noncomputable def oF (os : Os) : World :=
  { World.holding Tryz.prog os ⟨#[.cells #[.string ⟨#[118, 97, 108, 117, 101, 32, 111, 117, 116, 32, 111, 102, 32, 114, 97, 110, 103, 101]⟩] 438, .cells #[.string ⟨#[105, 110, 118, 97, 108, 105, 100, 32, 115, 121, 110, 116, 97, 120]⟩] 438], #[], []⟩ with heap := (World.holding Tryz.prog os ⟨#[.cells #[.string ⟨#[118, 97, 108, 117, 101, 32, 111, 117, 116, 32, 111, 102, 32, 114, 97, 110, 103, 101]⟩] 438, .cells #[.string ⟨#[105, 110, 118, 97, 108, 105, 100, 32, 115, 121, 110, 116, 97, 120]⟩] 438], #[], []⟩).heap
    |> (fun h => h.modify 2 fun | .cells _ t frozen => .cells (b5 Rows.laid_math_bits_deBruijn32tab) t frozen | o => o)
    |> (fun h => h.modify 3 fun | .cells _ t frozen => .cells (b5 Rows.laid_math_bits_deBruijn64tab) t frozen | o => o)
    |> (fun h => h.modify 0 fun | .cells _ t frozen => .cells (b5 Rows.laid_internal_strconv_uint64pow10) t frozen | o => o)
    |> (fun h => h.modify 6 fun | .cells _ t frozen => .cells (b5 Rows.laid_unicode_utf8_acceptRanges) t frozen | o => o)
    |> (fun h => h.modify 8 fun | .cells _ t frozen => .cells #[.iface 436 (.pointer (some ⟨(World.holding Tryz.prog default ⟨#[], #[], []⟩).heap.size + 0, 0, none⟩))] t frozen | o => o)
    |> (fun h => h.modify 7 fun | .cells _ t frozen => .cells #[.iface 436 (.pointer (some ⟨(World.holding Tryz.prog default ⟨#[], #[], []⟩).heap.size + 1, 0, none⟩))] t frozen | o => o)
    |> (fun h => h.modify 5 fun | .cells _ t frozen => .cells (b5 Rows.laid_unicode_utf8_first) t frozen | o => o) }
theorem Du (os : Os) : laidMet Tryz.prog Rows.engineOfNothingUptoRow.laid ((oF os).forCall (fun _ _ => 0) ⟨#[], #[.agg #[.int .i64 0, .string ⟨#[]⟩, .bool false, .slice none 0 0, .slice none 0 0, .bool false]], []⟩).memory :=
  laidMet_of_run' 12 (by kernel_rfl) (by kernel_rfl)
theorem reads (os : Os) {H : Type} (enc : TypeId × Value → H) : ∃ places, DataW.whole enc Tryz.prog ((oF os).forCall (fun _ _ => 0) ⟨#[], #[.agg #[.int .i64 0, .string ⟨#[]⟩, .bool false, .slice none 0 0, .slice none 0 0, .bool false]], []⟩).memory Tryz.f3.params.toList Rows.engineOfNothingSpec.vars false (#[.agg #[.int .i64 0, .string ⟨#[]⟩, .bool false, .slice none 0 0, .slice none 0 0, .bool false]] : Array Value).toList 12 = some ([.agg [.lit (.int .i64 0), .lit (.string []), .agg [.lit (.bool false), .nil, .nil], .lit (.bool false)]], [], places) :=
  ⟨[], by kernel_rfl⟩
set_option maxRecDepth 100000 in
theorem lifted (os : Os) (started : os.Started) (H : Type) (enc : TypeId × Value → H) (F : Stop.Interp) :
    ReturnsInHanded {} Tryz.checked os 3 .any ((Rows.OpenSpec.upto Rows.engineOfNothingSpec).preRow enc Tryz.prog Tryz.f3 Rows.engineOfNothingUptoRow.domain false Rows.engineOfNothingUptoRow.laid) (((Rows.OpenSpec.upto Rows.engineOfNothingSpec).at F).post enc Tryz.prog Tryz.f3 false true false false) := by
  obtain ⟨places, hx⟩ := reads os enc
  refine returnsInHanded_of_row (C := Tryz.checked) (s := Rows.OpenSpec.upto Rows.engineOfNothingSpec) own started (by kernel_rfl) Tryz.func3
    (witness_row_at (enc := enc) (C := Tryz.checked) false (oF os) #[.agg #[.int .i64 0, .string ⟨#[]⟩, .bool false, .slice none 0 0, .slice none 0 0, .bool false]] rfl (by kernel_rfl) (by kernel_rfl) (by kernel_rfl)
      (OpenSpec.preRow_of_cond 12 hx (by kernel_rfl) (fun k hk => by cases hk; kernel_rfl) (by kernel_rfl) (Du os))) ?_
  intro W base args ds gs before hval hW _ hcond _ hL hSh _
  exact Ci H enc W base args ds gs before hval hW (hcond _ rfl) hL hSh
set_option maxHeartbeats 20000000 in
theorem facts : joinedFacts Tryz.pinned.checked.prog 3 Tryz.f3 (Rows.OpenSpec.upto Rows.engineOfNothingSpec).bare Rows.engineOfNothingUptoRow = true := by
  unfold joinedFacts
  simp only [Bool.and_eq_true]
  repeat' apply And.intro
  all_goals as_aux_lemma => kernel_rfl
theorem over : Rows.EngineOfNothingUptoSaid :=
  OpenClaim.holds_of_cond 3 Tryz.f3 rfl rfl rfl rfl rfl rfl rfl ⟨rfl, rfl, rfl, rfl, rfl⟩ rfl rfl rfl rfl rfl (by kernel_rfl) Tryz.func3 facts
    (of_decide_eq_true (by kernel_rfl)) (by unfold Func.isWrapper; first | (rw [if_pos (by decide +kernel)]; kernel_rfl) | (rw [if_neg (by decide +kernel)]; exact ⟨rfl, rfl⟩))
    (fun os started H enc _ F => by rw [OpenClaim.pre_eq_preRow]; exact lifted os started H enc F)
theorem plain (f : FuncId) (fn : Func) (hf : Tryz.pinned.checked.prog.funcNamed Rows.engineOfNothingUptoRow.func = some f) (hfn : Tryz.pinned.checked.prog.funcs[f]? = some fn) :
    true = Tryz.pinned.checked.prog.looks [] ∧ ∀ (j : Nat) t, fn.params[j]? = some t → Tryz.pinned.checked.prog.wantsStandIn t = false := by
  obtain rfl : f = 3 := Option.some.inj ((show Tryz.prog.funcNamed Rows.engineOfNothingUptoRow.func = some 3 by kernel_rfl).symm.trans hf) |>.symm
  obtain rfl : fn = Tryz.f3 := (Option.some.inj (Tryz.func3.symm.trans hfn)).symm
  refine ⟨by kernel_rfl, fun j t ht => ?_⟩
  have dH : (Tryz.f3.params.toList.all fun t => !(Tryz.pinned.checked.prog.wantsStandIn t)) = true := by kernel_rfl
  have := List.all_eq_true.1 dH t (by simpa using Array.mem_of_getElem? ht)
  simpa using this
theorem proved : Rows.EngineOfNothingUptoCardSaid :=
  Claim7.holds_tied_plain_at .later [] _ _ _ _ over (fun _ h => by cases h) (by kernel_rfl) (fun _ h => by cases h) engineOfNothingUpto_row_tie rfl ⟨rfl, rfl⟩ (by kernel_rfl) rfl plain (by kernel_rfl)
end Go.Proofs.YtilkokbbfmkkbaaGreatDoor.lawEngineOfNothing
