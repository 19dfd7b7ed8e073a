/-
  DERIVED. GIVEN WITH THE SEED: THE CARDS: each row of YtbccccfmfeihfaaGreatDoorRows.lean that lists a variable, with what it lists TIED to the program's text (the seventh form; the later family's looks); each row that meets fmt, with fmt's text TOLD by the authors' own Lean function (tested against real Go, not proved from fmt's source: count such statements apart). THE CARD IS WHAT COUNTS. Prove the row's statement (the work); the ties are given (YtbccccfmfeihfaaGreatDoorTie.lean); close each card by the builder's one call (the guide's Derived/Test/ToyasCard.lean, 'card_holds'). Laid BY PROGRAM, IN A SANDBOX (cutbox-door.mjs). By AI agents, Wed Nov 11 2026. No macro, syntax, notation, axiom, sorry.
-/
import Derived.Test.YtbccccfmfeihfaaGreatDoorRows
import GoSem.ClaimSeven
namespace Go.Proofs.YtbccccfmfeihfaaGreatDoor
namespace Rows

/-- THE TIED CARD OF 'pantographlaw22.EngineGoes'. -/
def engineGoesCard : Claim7 := { stood := { row := engineGoesRow, standIns := [], harness := (true, "f0f54ef81722db6d8d4dd8baa6449b4c3e1d0ab99b87104d3f5e3f8e389b77fe"), looks := true }, kinds := [], alts := [], laidByText := true, laidKinds := [.data, .data, .data, .data, .sentinel, .sentinel, .pinned], laidTests := true, laidLooks := .later }
def EngineGoesCardSaid : Prop := Claim7.holds Tryz.pinned (.plain (OpenSpec.ofChange engineGoesSpec)) engineGoesCard

/-- THE SECOND FORM's CARD OF 'pantographlaw22.EngineGoes'. -/
def engineGoesUptoCard : Claim7 := { stood := { row := engineGoesUptoRow, standIns := [], harness := (true, "f0f54ef81722db6d8d4dd8baa6449b4c3e1d0ab99b87104d3f5e3f8e389b77fe"), looks := true }, kinds := [], alts := [], laidByText := true, laidKinds := [.data, .data, .data, .data, .sentinel, .sentinel, .pinned], laidTests := true, laidLooks := .later }
def EngineGoesUptoCardSaid : Prop := Claim7.holds Tryz.pinned (.plain (OpenSpec.upto engineGoesSpec)) engineGoesUptoCard
end Rows
end Go.Proofs.YtbccccfmfeihfaaGreatDoor
