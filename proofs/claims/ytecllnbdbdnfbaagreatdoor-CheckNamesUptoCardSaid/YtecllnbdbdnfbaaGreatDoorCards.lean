/-
  DERIVED. GIVEN WITH THE SEED: THE CARDS: each row of YtecllnbdbdnfbaaGreatDoorRows.lean that lists a variable, with what it lists TIED to the program's text (the seventh form; the later family's looks); each row that meets fmt, with fmt's text TOLD by the authors' own Lean function (tested against real Go, not proved from fmt's source: count such statements apart). THE CARD IS WHAT COUNTS. Prove the row's statement (the work); the ties are given (YtecllnbdbdnfbaaGreatDoorTie.lean); close each card by the builder's one call (the guide's Derived/Test/ToyasCard.lean, 'card_holds'). Laid BY PROGRAM, IN A SANDBOX (cutbox-door.mjs). By AI agents, Wed Nov 11 2026. No macro, syntax, notation, axiom, sorry.
-/
import Derived.Test.YtecllnbdbdnfbaaGreatDoorRows
import GoSem.ClaimSeven
namespace Go.Proofs.YtecllnbdbdnfbaaGreatDoor
namespace Rows

/-- THE TIED CARD OF 'pantographlaw7.CheckStatics'. -/
def checkStaticsCard : Claim7 := { stood := { row := checkStaticsRow, standIns := [], harness := (true, "27bb0e0d87c4bb0a6efb32c3126d8091d49c4940b92bc9600e6a23123b7359d2"), looks := false }, kinds := [], alts := [], laidByText := true, laidKinds := [.data, .data, .data], laidTests := true, laidLooks := .later }
def CheckStaticsCardSaid : Prop := Claim7.holds Tryz.pinned (.plain (OpenSpec.ofChange checkStaticsSpec)) checkStaticsCard

/-- THE TIED CARD OF 'pantographlaw7.CheckNames'. -/
def checkNamesCard : Claim7 := { stood := { row := checkNamesRow, standIns := [], harness := (true, "27bb0e0d87c4bb0a6efb32c3126d8091d49c4940b92bc9600e6a23123b7359d2"), looks := false }, kinds := [], alts := [], laidByText := true, laidKinds := [.data, .data, .data], laidTests := true, laidLooks := .later }
def CheckNamesCardSaid : Prop := Claim7.holds Tryz.pinned (.plain (OpenSpec.ofChange checkNamesSpec)) checkNamesCard

/-- THE SECOND FORM's CARD OF 'pantographlaw7.CheckStatics'. -/
def checkStaticsUptoCard : Claim7 := { stood := { row := checkStaticsUptoRow, standIns := [], harness := (true, "27bb0e0d87c4bb0a6efb32c3126d8091d49c4940b92bc9600e6a23123b7359d2"), looks := false }, kinds := [], alts := [], laidByText := true, laidKinds := [.data, .data, .data], laidTests := true, laidLooks := .later }
def CheckStaticsUptoCardSaid : Prop := Claim7.holds Tryz.pinned (.plain (OpenSpec.upto checkStaticsSpec)) checkStaticsUptoCard

/-- THE SECOND FORM's CARD OF 'pantographlaw7.CheckNames'. -/
def checkNamesUptoCard : Claim7 := { stood := { row := checkNamesUptoRow, standIns := [], harness := (true, "27bb0e0d87c4bb0a6efb32c3126d8091d49c4940b92bc9600e6a23123b7359d2"), looks := false }, kinds := [], alts := [], laidByText := true, laidKinds := [.data, .data, .data], laidTests := true, laidLooks := .later }
def CheckNamesUptoCardSaid : Prop := Claim7.holds Tryz.pinned (.plain (OpenSpec.upto checkNamesSpec)) checkNamesUptoCard
end Rows
end Go.Proofs.YtecllnbdbdnfbaaGreatDoor
