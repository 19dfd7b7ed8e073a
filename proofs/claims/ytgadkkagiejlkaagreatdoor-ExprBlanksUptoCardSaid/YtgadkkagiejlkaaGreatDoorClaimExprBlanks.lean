/-
  P5.1: blanks round an expression, and round brackets, change nothing
-/
import Derived.Test.YtgadkkagiejlkaaGreatDoorRows
import Derived.Test.YtgadkkagiejlkaaGreatDoorCards
import Derived.Test.YtgadkkagiejlkaaGreatDoorTie
import Derived.Deep.DeepHandedRow
import Derived.SevenTiedAt
import Derived.WalkKit
import Derived.ProofKit
import Derived.OpenShut
import Derived.JoinedCond
import Derived.Test.YtgadkkagiejlkaaGreatDoorWk0
import Derived.Test.YtgadkkagiejlkaaGreatDoorQ0
import Derived.Test.YtgadkkagiejlkaaGreatDoorQ1
import Derived.Test.YtgadkkagiejlkaaGreatDoorQ2
import Derived.Test.YtgadkkagiejlkaaGreatDoorAmD
namespace Go.Proofs.YtgadkkagiejlkaaGreatDoor.lawExprBlanks
open Go.ChangeShapes Go.WideShapes Go.ChangeAt Go.RowKit Go.AM
set_option linter.unusedVariables false
theorem own : ownKnob Tryz.prog.godebug = none := by kernel_rfl
def z66 (H : Type) : Cn H where
  b := Rows.uptoBulk
  bs := Rows.uptoBulkAll
  str := fun _ => rfl
  bool := fun _ => rfl
  int := fun _ _ => rfl
  nil := rfl
  slice := fun _ _ => rfl
  agg := fun _ => rfl
  zero := rfl
  cons := fun _ _ => rfl
set_option maxRecDepth 100000 in
theorem EW (H : Type) (enc : TypeId × Value → H) (W : World) (base : Nat) (args : Array Value) (ds gs : List (DataW H)) (before : List MemPlace)
    (Xa : ∀ (j : Nat) t v, Tryz.f3.params[j]? = some t → args[j]? = some v → Value.okWide Tryz.prog W .any base t v)
    (hW : DataW.Whole enc Tryz.prog Tryz.f3.params.toList Rows.exprBlanksSpec.vars false W args.toList ds gs before) (hk : Rows.uptoSmall H (ds ++ gs) = true) (hL : laidMet Tryz.prog Rows.exprBlanksUptoRow.laid W) (hSh : W.ShapedOpen Tryz.prog) :
    Calls Tryz.prog 3 args W fun e W' => ∃ v, e = .returned v ∧ Rows.exprBlanksSpec.post enc Tryz.prog Tryz.f3 false true false false W args v W' := by
  have hG : nY W fun k => k < W.heap.size := by
    intro x hx
    simp only [vP.tab, List.mem_cons, List.not_mem_nil, or_false] at hx
    subst hx
    · exact CK (g := 0) (t := 3) (zero := #[.int .i64 0]) hSh (of_decide_eq_true (by kernel_rfl)) (by kernel_rfl) (by kernel_rfl) (by kernel_rfl) (by kernel_rfl) (by kernel_rfl)
  refine Pp (H := H) (fn := Tryz.f3) (open Lf in [.expr, .expr, (.int .i64)]) (bt := 4) (lim := 1048576) Lf.ok3 Tryz.func3 rfl (by kernel_rfl) (by kernel_rfl) Lf.GO 20 20 (by kernel_rfl) (by kernel_rfl) (by kernel_rfl) rfl (by kernel_rfl) rfl ?_ (z66 H) (fun x hw hb => Lf.n3 x hw hb) Xa hW ?_ hG
  · intro ds h
    match ds, h with
    | [d0, d1, d2], _ => rfl
  · have h := of_decide_eq_true (p := Rows.uptoBulkAll (ds ++ gs) ≤ 1048576) hk
    exact h
def Rz : DataW Unit → List Value
  | .lit (.int k n) => [.int k n]
  | .agg ps => ps.flatMap fun
    | .lit (.int k n) => [Value.int k n]
    | _ => []
  | _ => []
def KY : DataW Unit → Array Value
  | .agg ps => (ps.flatMap Rz).toArray
  | _ => #[]
/-- A world for the witness: the settled one, the listed variables holding what their initialisers lay. -/
noncomputable def rM (os : Os) : World :=
  { World.holding Tryz.prog os ⟨#[], #[], []⟩ with heap := (World.holding Tryz.prog os ⟨#[], #[], []⟩).heap
    |> (fun h => h.modify 2 fun | .cells _ t frozen => .cells (KY Rows.laid_unicode_utf8_acceptRanges) t frozen | o => o)
    |> (fun h => h.modify 1 fun | .cells _ t frozen => .cells (KY Rows.laid_unicode_utf8_first) t frozen | o => o) }
theorem En (os : Os) : laidMet Tryz.prog Rows.exprBlanksUptoRow.laid ((rM os).forCall (fun _ _ => 0) ⟨#[], #[.agg #[.int .i64 0, .bool false, .slice none 0 0, .slice none 0 0, .string ⟨#[]⟩, .slice none 0 0], .agg #[.int .i64 0, .bool false, .slice none 0 0, .slice none 0 0, .string ⟨#[]⟩, .slice none 0 0], .int .i64 0], []⟩).memory :=
  laidMet_of_run' 12 (by kernel_rfl) (by kernel_rfl)
theorem reads (os : Os) {H : Type} (enc : TypeId × Value → H) : ∃ places, DataW.whole enc Tryz.prog ((rM os).forCall (fun _ _ => 0) ⟨#[], #[.agg #[.int .i64 0, .bool false, .slice none 0 0, .slice none 0 0, .string ⟨#[]⟩, .slice none 0 0], .agg #[.int .i64 0, .bool false, .slice none 0 0, .slice none 0 0, .string ⟨#[]⟩, .slice none 0 0], .int .i64 0], []⟩).memory Tryz.f3.params.toList Rows.exprBlanksSpec.vars false (#[.agg #[.int .i64 0, .bool false, .slice none 0 0, .slice none 0 0, .string ⟨#[]⟩, .slice none 0 0], .agg #[.int .i64 0, .bool false, .slice none 0 0, .slice none 0 0, .string ⟨#[]⟩, .slice none 0 0], .int .i64 0] : Array Value).toList 12 = some ([.agg [.lit (.int .i64 0), .agg [.lit (.bool false), .nil, .nil], .lit (.string []), .nil], .agg [.lit (.int .i64 0), .agg [.lit (.bool false), .nil, .nil], .lit (.string []), .nil], .lit (.int .i64 0)], [], places) :=
  ⟨[], by kernel_rfl⟩
set_option maxRecDepth 100000 in
theorem lifted (os : Os) (started : os.Started) (H : Type) (enc : TypeId × Value → H) (F : Stop.Interp) :
    ReturnsInHanded {} Tryz.checked os 3 .any ((Rows.OpenSpec.upto Rows.exprBlanksSpec).preRow enc Tryz.prog Tryz.f3 Rows.exprBlanksUptoRow.domain false Rows.exprBlanksUptoRow.laid) (((Rows.OpenSpec.upto Rows.exprBlanksSpec).at F).post enc Tryz.prog Tryz.f3 false true false false) := by
  obtain ⟨places, hx⟩ := reads os enc
  refine returnsInHanded_of_row (C := Tryz.checked) (s := Rows.OpenSpec.upto Rows.exprBlanksSpec) own started (by kernel_rfl) Tryz.func3
    (witness_row_at (enc := enc) (C := Tryz.checked) false (rM os) #[.agg #[.int .i64 0, .bool false, .slice none 0 0, .slice none 0 0, .string ⟨#[]⟩, .slice none 0 0], .agg #[.int .i64 0, .bool false, .slice none 0 0, .slice none 0 0, .string ⟨#[]⟩, .slice none 0 0], .int .i64 0] rfl (by kernel_rfl) (by kernel_rfl) (by kernel_rfl)
      (OpenSpec.preRow_of_cond 12 hx (by kernel_rfl) (fun k hk => by cases hk; kernel_rfl) (by kernel_rfl) (En os))) ?_
  intro W base args ds gs before Xa hW _ hcond _ hL hSh _
  exact EW H enc W base args ds gs before Xa hW (hcond _ rfl) hL hSh
theorem over : Rows.ExprBlanksUptoSaid :=
  OpenClaim.holds_of_cond 3 Tryz.f3 rfl rfl rfl rfl rfl rfl rfl ⟨rfl, rfl, rfl, rfl, rfl⟩ rfl rfl rfl rfl rfl (by kernel_rfl) Tryz.func3 (by kernel_rfl)
    (of_decide_eq_true (by kernel_rfl)) (by unfold Func.isWrapper; first | (rw [if_pos (by decide +kernel)]; kernel_rfl) | (rw [if_neg (by decide +kernel)]; exact ⟨rfl, rfl⟩))
    (fun os started H enc _ F => by rw [OpenClaim.pre_eq_preRow]; exact lifted os started H enc F)
theorem plain (f : FuncId) (fn : Func) (hf : Tryz.pinned.checked.prog.funcNamed Rows.exprBlanksUptoRow.func = some f) (hfn : Tryz.pinned.checked.prog.funcs[f]? = some fn) :
    true = Tryz.pinned.checked.prog.looks [] ∧ ∀ (j : Nat) t, fn.params[j]? = some t → Tryz.pinned.checked.prog.wantsStandIn t = false := by
  obtain rfl : f = 3 := Option.some.inj ((show Tryz.prog.funcNamed Rows.exprBlanksUptoRow.func = some 3 by kernel_rfl).symm.trans hf) |>.symm
  obtain rfl : fn = Tryz.f3 := (Option.some.inj (Tryz.func3.symm.trans hfn)).symm
  refine ⟨by kernel_rfl, fun j t ht => ?_⟩
  have lz : (Tryz.f3.params.toList.all fun t => !(Tryz.pinned.checked.prog.wantsStandIn t)) = true := by kernel_rfl
  have := List.all_eq_true.1 lz t (by simpa using Array.mem_of_getElem? ht)
  simpa using this
theorem proved : Rows.ExprBlanksUptoCardSaid :=
  Claim7.holds_tied_plain_at .later [] _ _ _ _ over (fun _ h => by cases h) (by kernel_rfl) (fun _ h => by cases h) exprBlanksUpto_row_tie rfl ⟨rfl, rfl⟩ (by kernel_rfl) rfl plain (by kernel_rfl)
end Go.Proofs.YtgadkkagiejlkaaGreatDoor.lawExprBlanks
