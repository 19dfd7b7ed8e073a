/-
  No cell of these rows narrows 'for every input' (looked for: loops, veiled, ifaces, maps, wideKeys, modest, calm, conditions, laid).
  DERIVED. THE GIVEN ROWS OF THIS SEAT. 2 by the template 'for every input the law returns true; each argument reads behind the call as it read before'; 0 by the template 'total and deterministic' (their statements: YtgfadkdgifpddaaTotals.lean).
  GIVEN WITH THE SEED: the statements are not yours to turn. If you find one false, say at which input.
  Laid BY PROGRAM, IN A SANDBOX (cutbox-rows.mjs): the forced cells as the released guide's own fill.sh prints them over the translation a7227b80f01c97a9… (all of the seat's roots in one cut). By AI agents, Wed Nov 11 2026. No macro, syntax, notation, axiom, sorry.
-/
import Derived.Test.YtgfadkdgifpddaaChecked
import GoSem.Claim
import GoSem.ClaimJoined
import GoSem.ClaimMapViews
import Derived.JoinedTies
import Derived.KernelRfl
namespace Go.Proofs.Ytgfadkdgifpddaa
/- THE CELL 'sum', in the pinned program and in every row, IS THE sha256 OF THE DUMP (.gsa) THAT YtgfadkdgifpddaaProg.lean LOADS. Nothing in Lean hashes anything: it is a label: what it is worth is what the hold of that sum in a sandbox is worth. -/
noncomputable def Try.pinned : Pinned := { name := "ytgfadkdgifpddaa", sum := "a7227b80f01c97a9977efcb8de9eb879d191aabba38428b7e95fea07f4fa0764", checked := Try.checked }
namespace Rows
def none {H : Type} : Left H := { results := [], args := [] }

/-- 'pantographlaw3.DecOrder': WHATEVER THE INPUT: true; the input reads as it did. -/
def decOrderSpec : ChangeSpec := { name := "decOrder", fn := fun _ => fun
  | [d1, d2, d3] => { results := [.lit (.bool true)], args := [d1, d2, d3] }
  | _ => none }
def decOrderRow : OpenClaim := { program := "ytgfadkdgifpddaa", sum := "a7227b80f01c97a9977efcb8de9eb879d191aabba38428b7e95fea07f4fa0764", func := "pantograph/pantographlaw3.DecOrder", spec := "decOrder", inPlace := ["internal/abi.NoEscape", "internal/bytealg.MakeNoZero"], named := ["math/bits.overflowError"], apart := false }
def DecOrderSaid : Prop := decOrderRow.holds Try.pinned (OpenSpec.ofChange decOrderSpec)

/-- ITS FALSE NEIGHBOUR: 'it returns false'. Refute it at one input. -/
def decOrderWrong : ChangeSpec := { name := "decOrder", fn := fun _ => fun
  | [d1, d2, d3] => { results := [.lit (.bool false)], args := [d1, d2, d3] }
  | _ => none }
def DecOrderWrongFalsely : Prop := decOrderRow.holds Try.pinned (OpenSpec.ofChange decOrderWrong)

/-- 'pantographlaw3.DecPrints': WHATEVER THE INPUT: true; the input reads as it did. -/
def decPrintsSpec : ChangeSpec := { name := "decPrints", fn := fun _ => fun
  | [d1, d2] => { results := [.lit (.bool true)], args := [d1, d2] }
  | _ => none }
def decPrintsRow : OpenClaim := { program := "ytgfadkdgifpddaa", sum := "a7227b80f01c97a9977efcb8de9eb879d191aabba38428b7e95fea07f4fa0764", func := "pantograph/pantographlaw3.DecPrints", spec := "decPrints", inPlace := ["internal/abi.NoEscape", "internal/bytealg.MakeNoZero"], named := ["math/bits.overflowError"], apart := false }
def DecPrintsSaid : Prop := decPrintsRow.holds Try.pinned (OpenSpec.ofChange decPrintsSpec)

/-- ITS FALSE NEIGHBOUR: 'it returns false'. Refute it at one input. -/
def decPrintsWrong : ChangeSpec := { name := "decPrints", fn := fun _ => fun
  | [d1, d2] => { results := [.lit (.bool false)], args := [d1, d2] }
  | _ => none }
def DecPrintsWrongFalsely : Prop := decPrintsRow.holds Try.pinned (OpenSpec.ofChange decPrintsWrong)

/- THE SECOND FORM. 'bulk': how many values and letters a reading holds, each counted each time it is reached (what is shared counts as often as it is met; a slice's spare places count too). A statement '..UptoSaid' is the law's where the arguments, and the package variables that the reading takes, are together of bulk at most 1048576: NARROWER than '..Said'. Prove '..Said' where nothing that the law and all that it calls make is longer than what came in: it says more and counts as full. Else prove '..UptoSaid'. A law counts once. -/
mutual
def uptoBulk {H : Type} : DataW H → Nat
  | .lit (.string bytes) => bytes.length + 1
  | .lit _ => 1
  | .nil => 1
  | .ptr d => uptoBulk d + 1
  | .slice elems spare => uptoBulkAll elems + uptoBulkAll spare + 1
  | .agg parts => uptoBulkAll parts + 1
  | .iface _ d => uptoBulk d + 1
  | .map entries => uptoBulkEntries entries + 1
  | .held _ => 1
def uptoBulkAll {H : Type} : List (DataW H) → Nat
  | [] => 0
  | d :: r => uptoBulk d + uptoBulkAll r
def uptoBulkEntries {H : Type} : List (Lit × DataW H) → Nat
  | [] => 0
  | x :: r => uptoBulkEntry x + uptoBulkEntries r
def uptoBulkEntry {H : Type} : Lit × DataW H → Nat
  | (.string bytes, d) => bytes.length + uptoBulk d + 1
  | (_, d) => uptoBulk d + 1
 end
def uptoSmall : (H : Type) → List (DataW H) → Bool := fun _ ds => decide (uptoBulkAll ds ≤ 1048576)
def OpenSpec.upto (s : _root_.Go.ChangeSpec) : _root_.Go.OpenSpec := { _root_.Go.OpenSpec.ofChange s with cond := some uptoSmall }

/-- 'pantographlaw3.DecOrder', WHERE WHAT IT READS IS OF BULK AT MOST 1048576: true; the input reads as it did. -/
def decOrderUptoRow : OpenClaim := { program := "ytgfadkdgifpddaa", sum := "a7227b80f01c97a9977efcb8de9eb879d191aabba38428b7e95fea07f4fa0764", func := "pantograph/pantographlaw3.DecOrder", spec := "decOrder", inPlace := ["internal/abi.NoEscape", "internal/bytealg.MakeNoZero"], named := ["math/bits.overflowError"], apart := false, narrowed := true }
def DecOrderUptoSaid : Prop := decOrderUptoRow.holds Try.pinned (OpenSpec.upto decOrderSpec)

/-- 'pantographlaw3.DecPrints', WHERE WHAT IT READS IS OF BULK AT MOST 1048576: true; the input reads as it did. -/
def decPrintsUptoRow : OpenClaim := { program := "ytgfadkdgifpddaa", sum := "a7227b80f01c97a9977efcb8de9eb879d191aabba38428b7e95fea07f4fa0764", func := "pantograph/pantographlaw3.DecPrints", spec := "decPrints", inPlace := ["internal/abi.NoEscape", "internal/bytealg.MakeNoZero"], named := ["math/bits.overflowError"], apart := false, narrowed := true }
def DecPrintsUptoSaid : Prop := decPrintsUptoRow.holds Try.pinned (OpenSpec.upto decPrintsSpec)

end Rows
end Go.Proofs.Ytgfadkdgifpddaa
