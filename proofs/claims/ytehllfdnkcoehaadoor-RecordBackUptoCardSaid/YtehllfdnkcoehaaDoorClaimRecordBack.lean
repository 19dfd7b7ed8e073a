/-
  Items whose names are such, as a text, are read as they were: for all arguments up to the given bulk.
-/
import Derived.Test.YtehllfdnkcoehaaDoorRows
import Derived.Test.YtehllfdnkcoehaaDoorCards
import Derived.Test.YtehllfdnkcoehaaDoorTie
import Derived.Deep.DeepHandedRow
import Derived.SevenTiedAt
import Derived.WalkKit
import Derived.ProofKit
import Derived.OpenShut
import Derived.JoinedCond
import Derived.Test.YtehllfdnkcoehaaDoorWk0
import Derived.Test.YtehllfdnkcoehaaDoorQ0
import Derived.Test.YtehllfdnkcoehaaDoorQ1
import Derived.Test.YtehllfdnkcoehaaDoorAmD
namespace Go.Proofs.YtehllfdnkcoehaaDoor.lawRecordBack
open Go.ChangeShapes Go.WideShapes Go.ChangeAt Go.RowKit Go.AM
set_option linter.unusedVariables false
theorem own : ownKnob Tryd.prog.godebug = none := by kernel_rfl
def bulk (H : Type) : Bulk H where
  b := Rows.uptoBulk
  bs := Rows.uptoBulkAll
  str := fun _ => rfl
  bool := fun _ => rfl
  int := fun _ _ => rfl
  nil := rfl
  slice := fun _ _ => rfl
  agg := fun _ => rfl
  zero := rfl
  cons := fun _ _ => rfl
set_option maxRecDepth 100000 in
theorem contract (H : Type) (enc : TypeId × Value → H) (W : World) (base : Nat) (args : Array Value) (ds gs : List (DataW H)) (before : List MemPlace)
    (hval : ∀ (j : Nat) t v, Tryd.f3.params[j]? = some t → args[j]? = some v → Value.okWide Tryd.prog W .any base t v)
    (hW : DataW.Whole enc Tryd.prog Tryd.f3.params.toList Rows.recordBackSpec.vars false W args.toList ds gs before) (hk : Rows.uptoSmall H (ds ++ gs) = true) (hL : laidMet Tryd.prog Rows.recordBackUptoRow.laid W) (hSh : W.ShapedOpen Tryd.prog) :
    Calls Tryd.prog 3 args W fun e W' => ∃ v, e = .returned v ∧ Rows.recordBackSpec.post enc Tryd.prog Tryd.f3 false true false false W args v W' := by
  have hG : GlobOk W fun k => k < W.heap.size := by
    intro x hx
    simp only [Glob.tab, List.mem_cons, List.not_mem_nil, or_false] at hx
    subst hx
    · exact int1_heap (g := 0) (t := 3) (zero := #[.int .i64 0]) hSh (of_decide_eq_true (by kernel_rfl)) (by kernel_rfl) (by kernel_rfl) (by kernel_rfl) (by kernel_rfl) (by kernel_rfl)
  refine law_ok (H := H) (fn := Tryd.f3) (open Lf in [(.sl tyrecord_Item)]) (bt := 4) (lim := 1048576) Lf.ok3 Tryd.func3 rfl (by kernel_rfl) (by kernel_rfl) Lf.XID 20 20 (by kernel_rfl) (by kernel_rfl) (by kernel_rfl) rfl (by kernel_rfl) rfl ?_ (bulk H) (fun x hw hb => Lf.law21_RecordBack_law x hw hb) hval hW ?_ hG
  · intro ds h
    match ds, h with
    | [d0], _ => rfl
  · have h := of_decide_eq_true (p := Rows.uptoBulkAll (ds ++ gs) ≤ 1048576) hk
    exact h
def cells1 : DataW Unit → List Value
  | .lit (.int k n) => [.int k n]
  | .agg ps => ps.flatMap fun
    | .lit (.int k n) => [Value.int k n]
    | _ => []
  | _ => []
def cellsOfW : DataW Unit → Array Value
  | .agg ps => (ps.flatMap cells1).toArray
  | _ => #[]
/-- A world for the witness: the settled one, the listed variables holding what their initialisers lay. -/
noncomputable def laidWorld (os : Os) : World :=
  { World.holding Tryd.prog os ⟨#[], #[], []⟩ with heap := (World.holding Tryd.prog os ⟨#[], #[], []⟩).heap
    |> (fun h => h.modify 3 fun | .cells _ t frozen => .cells (cellsOfW Rows.laid_unicode_utf8_acceptRanges) t frozen | o => o)
    |> (fun h => h.modify 2 fun | .cells _ t frozen => .cells (cellsOfW Rows.laid_unicode_utf8_first) t frozen | o => o) }
theorem laid_met (os : Os) : laidMet Tryd.prog Rows.recordBackUptoRow.laid ((laidWorld os).forCall (fun _ _ => 0) ⟨#[], #[.slice none 0 0], []⟩).memory :=
  laidMet_of_run' 12 (by kernel_rfl) (by kernel_rfl)
theorem reads (os : Os) {H : Type} (enc : TypeId × Value → H) : ∃ places, DataW.whole enc Tryd.prog ((laidWorld os).forCall (fun _ _ => 0) ⟨#[], #[.slice none 0 0], []⟩).memory Tryd.f3.params.toList Rows.recordBackSpec.vars false (#[.slice none 0 0] : Array Value).toList 12 = some ([.nil], [], places) :=
  ⟨[], by kernel_rfl⟩
set_option maxRecDepth 100000 in
theorem lifted (os : Os) (started : os.Started) (H : Type) (enc : TypeId × Value → H) (F : Stop.Interp) :
    ReturnsInHanded {} Tryd.checked os 3 .any ((Rows.OpenSpec.upto Rows.recordBackSpec).preRow enc Tryd.prog Tryd.f3 Rows.recordBackUptoRow.domain false Rows.recordBackUptoRow.laid) (((Rows.OpenSpec.upto Rows.recordBackSpec).at F).post enc Tryd.prog Tryd.f3 false true false false) := by
  obtain ⟨places, hx⟩ := reads os enc
  refine returnsInHanded_of_row (C := Tryd.checked) (s := Rows.OpenSpec.upto Rows.recordBackSpec) own started (by kernel_rfl) Tryd.func3
    (witness_row_at (enc := enc) (C := Tryd.checked) false (laidWorld os) #[.slice none 0 0] rfl (by kernel_rfl) (by kernel_rfl) (by kernel_rfl)
      (OpenSpec.preRow_of_cond 12 hx (by kernel_rfl) (fun k hk => by cases hk; kernel_rfl) (by kernel_rfl) (laid_met os))) ?_
  intro W base args ds gs before hval hW _ hcond _ hL hSh _
  exact contract H enc W base args ds gs before hval hW (hcond _ rfl) hL hSh
theorem over : Rows.RecordBackUptoSaid :=
  OpenClaim.holds_of_cond 3 Tryd.f3 rfl rfl rfl rfl rfl rfl rfl ⟨rfl, rfl, rfl, rfl, rfl⟩ rfl rfl rfl rfl rfl (by kernel_rfl) Tryd.func3 (by kernel_rfl)
    (of_decide_eq_true (by kernel_rfl)) (by unfold Func.isWrapper; first | (rw [if_pos (by decide +kernel)]; kernel_rfl) | (rw [if_neg (by decide +kernel)]; exact ⟨rfl, rfl⟩))
    (fun os started H enc _ F => by rw [OpenClaim.pre_eq_preRow]; exact lifted os started H enc F)
theorem plain (f : FuncId) (fn : Func) (hf : Tryd.pinned.checked.prog.funcNamed Rows.recordBackUptoRow.func = some f) (hfn : Tryd.pinned.checked.prog.funcs[f]? = some fn) :
    false = Tryd.pinned.checked.prog.looks [] ∧ ∀ (j : Nat) t, fn.params[j]? = some t → Tryd.pinned.checked.prog.wantsStandIn t = false := by
  obtain rfl : f = 3 := Option.some.inj ((show Tryd.prog.funcNamed Rows.recordBackUptoRow.func = some 3 by kernel_rfl).symm.trans hf) |>.symm
  obtain rfl : fn = Tryd.f3 := (Option.some.inj (Tryd.func3.symm.trans hfn)).symm
  refine ⟨by kernel_rfl, fun j t ht => ?_⟩
  have hall : (Tryd.f3.params.toList.all fun t => !(Tryd.pinned.checked.prog.wantsStandIn t)) = true := by kernel_rfl
  have := List.all_eq_true.1 hall t (by simpa using Array.mem_of_getElem? ht)
  simpa using this
theorem proved : Rows.RecordBackUptoCardSaid :=
  Claim7.holds_tied_plain_at .later [] _ _ _ _ over (fun _ h => by cases h) (by kernel_rfl) (fun _ h => by cases h) recordBackUpto_row_tie rfl ⟨rfl, rfl⟩ (by kernel_rfl) rfl plain (by kernel_rfl)
end Go.Proofs.YtehllfdnkcoehaaDoor.lawRecordBack
