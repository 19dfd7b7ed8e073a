/-
  Operations at once are the operations one by one.
-/
import Derived.Test.YtjklmealdnfhfaaGreatDoorRows
import Derived.Test.YtjklmealdnfhfaaGreatDoorCards
import Derived.Test.YtjklmealdnfhfaaGreatDoorTie
import Derived.Deep.DeepHandedRow
import Derived.SevenTiedAt
import Derived.WalkKit
import Derived.ProofKit
import Derived.OpenShut
import Derived.JoinedCond
import Derived.Test.YtjklmealdnfhfaaGreatDoorWk1
import Derived.Test.YtjklmealdnfhfaaGreatDoorQ0
import Derived.Test.YtjklmealdnfhfaaGreatDoorQ1
import Derived.Test.YtjklmealdnfhfaaGreatDoorQ2
import Derived.Test.YtjklmealdnfhfaaGreatDoorAmE
namespace Go.Proofs.YtjklmealdnfhfaaGreatDoor.lawEngineRuns
open Go.ChangeShapes Go.WideShapes Go.ChangeAt Go.RowKit Go.AM
set_option linter.unusedVariables false
theorem own : ownKnob Tryz.prog.godebug = none := by kernel_rfl
def zlY (H : Type) : R7 H where
  b := Rows.uptoBulk
  bs := Rows.uptoBulkAll
  str := fun _ => rfl
  bool := fun _ => rfl
  int := fun _ _ => rfl
  nil := rfl
  slice := fun _ _ => rfl
  agg := fun _ => rfl
  zero := rfl
  cons := fun _ _ => rfl
set_option maxRecDepth 100000 in
theorem TT (H : Type) (enc : TypeId × Value → H) (zk : World) (base : Nat) (args : Array Value) (ds gs : List (DataW H)) (before : List MemPlace)
    (hval : ∀ (j : Nat) t v, Tryz.f6.params[j]? = some t → args[j]? = some v → Value.okWide Tryz.prog zk .any base t v)
    (hW : DataW.Whole enc Tryz.prog Tryz.f6.params.toList Rows.engineRunsSpec.vars false zk args.toList ds gs before) (hk : Rows.uptoSmall H (ds ++ gs) = true) (hL : laidMet Tryz.prog Rows.engineRunsUptoRow.laid zk) (hSh : zk.ShapedOpen Tryz.prog) :
    Calls Tryz.prog 6 args zk fun e W' => ∃ v, e = .returned v ∧ Rows.engineRunsSpec.post enc Tryz.prog Tryz.f6 false true false false zk args v W' := by
  have hG : WM zk fun k => k < zk.heap.size := by
    intro x N
    simp only [yY.tab, List.mem_cons, List.not_mem_nil, or_false] at N
    rcases N with rfl | rfl
    · obtain ⟨ps, hL0, _⟩ := hL
      obtain ⟨_, hL1⟩ := HV hL0
      obtain ⟨_, hL2⟩ := HV hL1
      exact S2 (zs := Lib.pow10Tab) (g := 0) (t := 381) (e := 162) (n := 20) (by kernel_rfl) (by kernel_rfl) (by kernel_rfl) (by kernel_rfl) (by kernel_rfl) (by kernel_rfl) hL2
    · exact RZ (g := 2) (t := 3) (zero := #[.int .i64 0]) hSh (of_decide_eq_true (by kernel_rfl)) (by kernel_rfl) (by kernel_rfl) (by kernel_rfl) (by kernel_rfl) (by kernel_rfl)
  refine zc2 (H := H) (fn := Tryz.f6) (open Lf in [qy, (.sl cq)]) (bt := 4) (lim := 1048576) Lf.ok6 Tryz.func6 rfl (by kernel_rfl) (by kernel_rfl) Lf.Ia 20 20 (by kernel_rfl) (by kernel_rfl) (by kernel_rfl) rfl (by kernel_rfl) rfl ?_ (zlY H) (fun x hw I => Lf.X8 x hw I) hval hW ?_ hG
  · intro ds h
    match ds, h with
    | [d0, d1], _ => rfl
  · have h := of_decide_eq_true (p := Rows.uptoBulkAll (ds ++ gs) ≤ 1048576) hk
    exact h
def zaY : DataW Unit → List Value
  | .lit (.int k n) => [.int k n]
  | .agg ps => ps.flatMap fun
    | .lit (.int k n) => [Value.int k n]
    | _ => []
  | _ => []
def QJ : DataW Unit → Array Value
  | .agg ps => (ps.flatMap zaY).toArray
  | _ => #[]
/-- A world for the witness: the settled one, the listed variables holding what their initialisers lay. -/
noncomputable def Jf (os : Os) : World :=
  { World.holding Tryz.prog os ⟨#[.cells #[.string ⟨#[118, 97, 108, 117, 101, 32, 111, 117, 116, 32, 111, 102, 32, 114, 97, 110, 103, 101]⟩] 452, .cells #[.string ⟨#[105, 110, 118, 97, 108, 105, 100, 32, 115, 121, 110, 116, 97, 120]⟩] 452], #[], []⟩ with heap := (World.holding Tryz.prog os ⟨#[.cells #[.string ⟨#[118, 97, 108, 117, 101, 32, 111, 117, 116, 32, 111, 102, 32, 114, 97, 110, 103, 101]⟩] 452, .cells #[.string ⟨#[105, 110, 118, 97, 108, 105, 100, 32, 115, 121, 110, 116, 97, 120]⟩] 452], #[], []⟩).heap
    |> (fun h => h.modify 5 fun | .cells _ t frozen => .cells (QJ Rows.laid_math_bits_deBruijn32tab) t frozen | o => o)
    |> (fun h => h.modify 6 fun | .cells _ t frozen => .cells (QJ Rows.laid_math_bits_deBruijn64tab) t frozen | o => o)
    |> (fun h => h.modify 0 fun | .cells _ t frozen => .cells (QJ Rows.laid_internal_strconv_uint64pow10) t frozen | o => o)
    |> (fun h => h.modify 4 fun | .cells _ t frozen => .cells (QJ Rows.laid_unicode_utf8_acceptRanges) t frozen | o => o)
    |> (fun h => h.modify 8 fun | .cells _ t frozen => .cells #[.iface 450 (.pointer (some ⟨(World.holding Tryz.prog default ⟨#[], #[], []⟩).heap.size + 0, 0, none⟩))] t frozen | o => o)
    |> (fun h => h.modify 7 fun | .cells _ t frozen => .cells #[.iface 450 (.pointer (some ⟨(World.holding Tryz.prog default ⟨#[], #[], []⟩).heap.size + 1, 0, none⟩))] t frozen | o => o)
    |> (fun h => h.modify 3 fun | .cells _ t frozen => .cells (QJ Rows.laid_unicode_utf8_first) t frozen | o => o) }
theorem z1h (os : Os) : laidMet Tryz.prog Rows.engineRunsUptoRow.laid ((Jf os).forCall (fun _ _ => 0) ⟨#[], #[.agg #[.slice none 0 0, .slice none 0 0, .slice none 0 0, .slice none 0 0, .slice none 0 0, .slice none 0 0], .slice none 0 0], []⟩).memory :=
  laidMet_of_run' 12 (by kernel_rfl) (by kernel_rfl)
theorem reads (os : Os) {H : Type} (enc : TypeId × Value → H) : ∃ places, DataW.whole enc Tryz.prog ((Jf os).forCall (fun _ _ => 0) ⟨#[], #[.agg #[.slice none 0 0, .slice none 0 0, .slice none 0 0, .slice none 0 0, .slice none 0 0, .slice none 0 0], .slice none 0 0], []⟩).memory Tryz.f6.params.toList Rows.engineRunsSpec.vars false (#[.agg #[.slice none 0 0, .slice none 0 0, .slice none 0 0, .slice none 0 0, .slice none 0 0, .slice none 0 0], .slice none 0 0] : Array Value).toList 12 = some ([.agg [.nil, .nil, .nil, .nil, .nil, .nil], .nil], [], places) :=
  ⟨[], by kernel_rfl⟩
set_option maxRecDepth 100000 in
theorem lifted (os : Os) (started : os.Started) (H : Type) (enc : TypeId × Value → H) (F : Stop.Interp) :
    ReturnsInHanded {} Tryz.checked os 6 .any ((Rows.OpenSpec.upto Rows.engineRunsSpec).preRow enc Tryz.prog Tryz.f6 Rows.engineRunsUptoRow.domain false Rows.engineRunsUptoRow.laid) (((Rows.OpenSpec.upto Rows.engineRunsSpec).at F).post enc Tryz.prog Tryz.f6 false true false false) := by
  obtain ⟨places, N⟩ := reads os enc
  refine returnsInHanded_of_row (C := Tryz.checked) (s := Rows.OpenSpec.upto Rows.engineRunsSpec) own started (by kernel_rfl) Tryz.func6
    (witness_row_at (enc := enc) (C := Tryz.checked) false (Jf os) #[.agg #[.slice none 0 0, .slice none 0 0, .slice none 0 0, .slice none 0 0, .slice none 0 0, .slice none 0 0], .slice none 0 0] rfl (by kernel_rfl) (by kernel_rfl) (by kernel_rfl)
      (OpenSpec.preRow_of_cond 12 N (by kernel_rfl) (fun k hk => by cases hk; kernel_rfl) (by kernel_rfl) (z1h os))) ?_
  intro zk base args ds gs before hval hW _ hcond _ hL hSh _
  exact TT H enc zk base args ds gs before hval hW (hcond _ rfl) hL hSh
set_option maxHeartbeats 20000000 in
theorem facts : joinedFacts Tryz.pinned.checked.prog 6 Tryz.f6 (Rows.OpenSpec.upto Rows.engineRunsSpec).bare Rows.engineRunsUptoRow = true := by
  unfold joinedFacts
  simp only [Bool.and_eq_true]
  repeat' apply And.intro
  all_goals as_aux_lemma => kernel_rfl
theorem over : Rows.EngineRunsUptoSaid :=
  OpenClaim.holds_of_cond 6 Tryz.f6 rfl rfl rfl rfl rfl rfl rfl ⟨rfl, rfl, rfl, rfl, rfl⟩ rfl rfl rfl rfl rfl (by kernel_rfl) Tryz.func6 facts
    (of_decide_eq_true (by kernel_rfl)) (by unfold Func.isWrapper; first | (rw [if_pos (by decide +kernel)]; kernel_rfl) | (rw [if_neg (by decide +kernel)]; exact ⟨rfl, rfl⟩))
    (fun os started H enc _ F => by rw [OpenClaim.pre_eq_preRow]; exact lifted os started H enc F)
theorem plain (f : FuncId) (fn : Func) (hf : Tryz.pinned.checked.prog.funcNamed Rows.engineRunsUptoRow.func = some f) (hfn : Tryz.pinned.checked.prog.funcs[f]? = some fn) :
    true = Tryz.pinned.checked.prog.looks [] ∧ ∀ (j : Nat) t, fn.params[j]? = some t → Tryz.pinned.checked.prog.wantsStandIn t = false := by
  obtain rfl : f = 6 := Option.some.inj ((show Tryz.prog.funcNamed Rows.engineRunsUptoRow.func = some 6 by kernel_rfl).symm.trans hf) |>.symm
  obtain rfl : fn = Tryz.f6 := (Option.some.inj (Tryz.func6.symm.trans hfn)).symm
  refine ⟨by kernel_rfl, fun j t ht => ?_⟩
  have ZK : (Tryz.f6.params.toList.all fun t => !(Tryz.pinned.checked.prog.wantsStandIn t)) = true := by kernel_rfl
  have := List.all_eq_true.1 ZK t (by simpa using Array.mem_of_getElem? ht)
  simpa using this
theorem zbd {P : Program} (h : P.funcs.any Func.goes = false) (c : OpenClaim) (hs : c.start = .entering) : false = c.goesBy P := by
  have g : ∀ f, P.goes f = false := fun f => by
    unfold Program.goes
    rw [h, Bool.and_false, Bool.or_false, List.any_eq_false]
    intro x _
    cases N : P.funcs[x]? with
    | none => simp
    | some fn =>
      have := Array.any_eq_false'.1 h fn (Array.mem_of_getElem? N)
      simpa using this
  unfold OpenClaim.goesBy Program.goesAt Program.goesFrom
  rw [hs]
  cases P.funcNamed c.func <;> simp [g]
theorem proved : Rows.EngineRunsUptoCardSaid :=
  Claim7.holds_tied_plain_at .later [] _ _ _ _ over (fun _ h => by cases h) (by kernel_rfl) (fun _ h => by cases h) engineRunsUpto_row_tie rfl ⟨rfl, rfl⟩ (by kernel_rfl) rfl plain (zbd (by kernel_rfl) _ rfl)
end Go.Proofs.YtjklmealdnfhfaaGreatDoor.lawEngineRuns
