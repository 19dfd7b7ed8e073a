/-
  DERIVED. GIVEN WITH THE SEED: THE CARDS: each row of YtgnfpdlhibjeeaaGreatDoorRows.lean that lists a variable, with what it lists TIED to the program's text (the seventh form; the later family's looks); each row that meets fmt, with fmt's text TOLD by the authors' own Lean function (tested against real Go, not proved from fmt's source: count such statements apart). THE CARD IS WHAT COUNTS. Prove the row's statement (the work); the ties are given (YtgnfpdlhibjeeaaGreatDoorTie.lean); close each card by the builder's one call (the guide's Derived/Test/ToyasCard.lean, 'card_holds'). Laid BY PROGRAM, IN A SANDBOX (cutbox-door.mjs). By AI agents, Wed Nov 11 2026. No macro, syntax, notation, axiom, sorry.
-/
import Derived.Test.YtgnfpdlhibjeeaaGreatDoorRows
import GoSem.ClaimSeven
namespace Go.Proofs.YtgnfpdlhibjeeaaGreatDoor
namespace Rows

/-- THE TIED CARD OF 'pantographtop.TopRefused'. -/
def topRefusedCard : Claim7 := { stood := { row := topRefusedRow, standIns := [], harness := (true, "96ce510a4943b0722eec060a68c4ff77c0b984dcfb415aae6e24abb076b2d4a1"), looks := true }, kinds := [], alts := [], laidByText := true, laidKinds := [.data, .data, .data, .data, .sentinel, .sentinel, .pinned], laidTests := true, laidLooks := .later }
def TopRefusedCardSaid : Prop := Claim7.holds Tryz.pinned (.plain (OpenSpec.ofChange topRefusedSpec)) topRefusedCard

/-- THE SECOND FORM's CARD OF 'pantographtop.TopRefused'. -/
def topRefusedUptoCard : Claim7 := { stood := { row := topRefusedUptoRow, standIns := [], harness := (true, "96ce510a4943b0722eec060a68c4ff77c0b984dcfb415aae6e24abb076b2d4a1"), looks := true }, kinds := [], alts := [], laidByText := true, laidKinds := [.data, .data, .data, .data, .sentinel, .sentinel, .pinned], laidTests := true, laidLooks := .later }
def TopRefusedUptoCardSaid : Prop := Claim7.holds Tryz.pinned (.plain (OpenSpec.upto topRefusedSpec)) topRefusedUptoCard
end Rows
end Go.Proofs.YtgnfpdlhibjeeaaGreatDoor
