/-
  P5.2, P5.3: any expression as a text, whether it may be, how deep it is, its nodes, its names; any two whether they are one
-/
import Derived.Test.YtalglafbfldajaaGreatDoorRows
import Derived.Test.YtalglafbfldajaaGreatDoorCards
import Derived.Test.YtalglafbfldajaaGreatDoorTie
import Derived.Deep.DeepHandedRow
import Derived.SevenTiedAt
import Derived.WalkKit
import Derived.ProofKit
import Derived.OpenShut
import Derived.JoinedCond
import Derived.Test.YtalglafbfldajaaGreatDoorWk0
import Derived.Test.YtalglafbfldajaaGreatDoorQ0
import Derived.Test.YtalglafbfldajaaGreatDoorQ1
import Derived.Test.YtalglafbfldajaaGreatDoorAmD
namespace Go.Proofs.YtalglafbfldajaaGreatDoor.lawExprLooks
open Go.ChangeShapes Go.WideShapes Go.ChangeAt Go.RowKit Go.AM
set_option linter.unusedVariables false
theorem own : ownKnob Tryz.prog.godebug = none := by kernel_rfl
def bulk (H : Type) : Bulk H where
  b := Rows.uptoBulk
  bs := Rows.uptoBulkAll
  str := fun _ => rfl
  bool := fun _ => rfl
  int := fun _ _ => rfl
  nil := rfl
  slice := fun _ _ => rfl
  agg := fun _ => rfl
  zero := rfl
  cons := fun _ _ => rfl
set_option maxRecDepth 100000 in
theorem contract (H : Type) (enc : TypeId × Value → H) (W : World) (base : Nat) (args : Array Value) (ds gs : List (DataW H)) (before : List MemPlace)
    (hval : ∀ (j : Nat) t v, Tryz.f10.params[j]? = some t → args[j]? = some v → Value.okWide Tryz.prog W .any base t v)
    (hW : DataW.Whole enc Tryz.prog Tryz.f10.params.toList Rows.exprLooksSpec.vars false W args.toList ds gs before) (hk : Rows.uptoSmall H (ds ++ gs) = true) (hL : laidMet Tryz.prog Rows.exprLooksUptoRow.laid W) (hSh : W.ShapedOpen Tryz.prog) :
    Calls Tryz.prog 10 args W fun e W' => ∃ v, e = .returned v ∧ Rows.exprLooksSpec.post enc Tryz.prog Tryz.f10 false true false false W args v W' := by
  have hG : GlobOk W fun k => k < W.heap.size := by
    intro x hx
    simp only [Glob.tab, List.mem_cons, List.not_mem_nil, or_false] at hx
    subst hx
    · exact int1_heap (g := 1) (t := 3) (zero := #[.int .i64 0]) hSh (of_decide_eq_true (by kernel_rfl)) (by kernel_rfl) (by kernel_rfl) (by kernel_rfl) (by kernel_rfl) (by kernel_rfl)
  refine law_ok (H := H) (fn := Tryz.f10) (open Lf in [.expr, .expr]) (bt := 4) (lim := 1048576) Lf.ok10 Tryz.func10 rfl (by kernel_rfl) (by kernel_rfl) Lf.XID 20 20 (by kernel_rfl) (by kernel_rfl) (by kernel_rfl) rfl (by kernel_rfl) rfl ?_ (bulk H) (fun x hw hb => Lf.law5_ExprLooks_law x hw hb) hval hW ?_ hG
  · intro ds h
    match ds, h with
    | [d0, d1], _ => rfl
  · have h := of_decide_eq_true (p := Rows.uptoBulkAll (ds ++ gs) ≤ 1048576) hk
    exact h
def cells1 : DataW Unit → List Value
  | .lit (.int k n) => [.int k n]
  | .agg ps => ps.flatMap fun
    | .lit (.int k n) => [Value.int k n]
    | _ => []
  | _ => []
def cellsOfW : DataW Unit → Array Value
  | .agg ps => (ps.flatMap cells1).toArray
  | _ => #[]
/-- A world for the witness: the settled one, the listed variables holding what their initialisers lay. -/
noncomputable def laidWorld (os : Os) : World :=
  { World.holding Tryz.prog os ⟨#[], #[], []⟩ with heap := (World.holding Tryz.prog os ⟨#[], #[], []⟩).heap
    |> (fun h => h.modify 3 fun | .cells _ t frozen => .cells (cellsOfW Rows.laid_unicode_utf8_acceptRanges) t frozen | o => o)
    |> (fun h => h.modify 2 fun | .cells _ t frozen => .cells (cellsOfW Rows.laid_unicode_utf8_first) t frozen | o => o) }
theorem laid_met (os : Os) : laidMet Tryz.prog Rows.exprLooksUptoRow.laid ((laidWorld os).forCall (fun _ _ => 0) ⟨#[], #[.agg #[.int .i64 0, .bool false, .slice none 0 0, .slice none 0 0, .string ⟨#[]⟩, .slice none 0 0], .agg #[.int .i64 0, .bool false, .slice none 0 0, .slice none 0 0, .string ⟨#[]⟩, .slice none 0 0]], []⟩).memory :=
  laidMet_of_run' 12 (by kernel_rfl) (by kernel_rfl)
theorem reads (os : Os) {H : Type} (enc : TypeId × Value → H) : ∃ places, DataW.whole enc Tryz.prog ((laidWorld os).forCall (fun _ _ => 0) ⟨#[], #[.agg #[.int .i64 0, .bool false, .slice none 0 0, .slice none 0 0, .string ⟨#[]⟩, .slice none 0 0], .agg #[.int .i64 0, .bool false, .slice none 0 0, .slice none 0 0, .string ⟨#[]⟩, .slice none 0 0]], []⟩).memory Tryz.f10.params.toList Rows.exprLooksSpec.vars false (#[.agg #[.int .i64 0, .bool false, .slice none 0 0, .slice none 0 0, .string ⟨#[]⟩, .slice none 0 0], .agg #[.int .i64 0, .bool false, .slice none 0 0, .slice none 0 0, .string ⟨#[]⟩, .slice none 0 0]] : Array Value).toList 12 = some ([.agg [.lit (.int .i64 0), .agg [.lit (.bool false), .nil, .nil], .lit (.string []), .nil], .agg [.lit (.int .i64 0), .agg [.lit (.bool false), .nil, .nil], .lit (.string []), .nil]], [], places) :=
  ⟨[], by kernel_rfl⟩
set_option maxRecDepth 100000 in
theorem lifted (os : Os) (started : os.Started) (H : Type) (enc : TypeId × Value → H) (F : Stop.Interp) :
    ReturnsInHanded {} Tryz.checked os 10 .any ((Rows.OpenSpec.upto Rows.exprLooksSpec).preRow enc Tryz.prog Tryz.f10 Rows.exprLooksUptoRow.domain false Rows.exprLooksUptoRow.laid) (((Rows.OpenSpec.upto Rows.exprLooksSpec).at F).post enc Tryz.prog Tryz.f10 false true false false) := by
  obtain ⟨places, hx⟩ := reads os enc
  refine returnsInHanded_of_row (C := Tryz.checked) (s := Rows.OpenSpec.upto Rows.exprLooksSpec) own started (by kernel_rfl) Tryz.func10
    (witness_row_at (enc := enc) (C := Tryz.checked) false (laidWorld os) #[.agg #[.int .i64 0, .bool false, .slice none 0 0, .slice none 0 0, .string ⟨#[]⟩, .slice none 0 0], .agg #[.int .i64 0, .bool false, .slice none 0 0, .slice none 0 0, .string ⟨#[]⟩, .slice none 0 0]] rfl (by kernel_rfl) (by kernel_rfl) (by kernel_rfl)
      (OpenSpec.preRow_of_cond 12 hx (by kernel_rfl) (fun k hk => by cases hk; kernel_rfl) (by kernel_rfl) (laid_met os))) ?_
  intro W base args ds gs before hval hW _ hcond _ hL hSh _
  exact contract H enc W base args ds gs before hval hW (hcond _ rfl) hL hSh
theorem over : Rows.ExprLooksUptoSaid :=
  OpenClaim.holds_of_cond 10 Tryz.f10 rfl rfl rfl rfl rfl rfl rfl ⟨rfl, rfl, rfl, rfl, rfl⟩ rfl rfl rfl rfl rfl (by kernel_rfl) Tryz.func10 (by kernel_rfl)
    (of_decide_eq_true (by kernel_rfl)) (by unfold Func.isWrapper; first | (rw [if_pos (by decide +kernel)]; kernel_rfl) | (rw [if_neg (by decide +kernel)]; exact ⟨rfl, rfl⟩))
    (fun os started H enc _ F => by rw [OpenClaim.pre_eq_preRow]; exact lifted os started H enc F)
theorem plain (f : FuncId) (fn : Func) (hf : Tryz.pinned.checked.prog.funcNamed Rows.exprLooksUptoRow.func = some f) (hfn : Tryz.pinned.checked.prog.funcs[f]? = some fn) :
    true = Tryz.pinned.checked.prog.looks [] ∧ ∀ (j : Nat) t, fn.params[j]? = some t → Tryz.pinned.checked.prog.wantsStandIn t = false := by
  obtain rfl : f = 10 := Option.some.inj ((show Tryz.prog.funcNamed Rows.exprLooksUptoRow.func = some 10 by kernel_rfl).symm.trans hf) |>.symm
  obtain rfl : fn = Tryz.f10 := (Option.some.inj (Tryz.func10.symm.trans hfn)).symm
  refine ⟨by kernel_rfl, fun j t ht => ?_⟩
  have hall : (Tryz.f10.params.toList.all fun t => !(Tryz.pinned.checked.prog.wantsStandIn t)) = true := by kernel_rfl
  have := List.all_eq_true.1 hall t (by simpa using Array.mem_of_getElem? ht)
  simpa using this
theorem proved : Rows.ExprLooksUptoCardSaid :=
  Claim7.holds_tied_plain_at .later [] _ _ _ _ over (fun _ h => by cases h) (by kernel_rfl) (fun _ h => by cases h) exprLooksUpto_row_tie rfl ⟨rfl, rfl⟩ (by kernel_rfl) rfl plain (by kernel_rfl)
end Go.Proofs.YtalglafbfldajaaGreatDoor.lawExprLooks
