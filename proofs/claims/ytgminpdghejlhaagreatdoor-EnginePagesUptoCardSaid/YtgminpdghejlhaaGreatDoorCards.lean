/-
  DERIVED. GIVEN WITH THE SEED: THE CARDS: each row of YtgminpdghejlhaaGreatDoorRows.lean that lists a variable, with what it lists TIED to the program's text (the seventh form; the later family's looks); each row that meets fmt, with fmt's text TOLD by the authors' own Lean function (tested against real Go, not proved from fmt's source: count such statements apart). THE CARD IS WHAT COUNTS. Prove the row's statement (the work); the ties are given (YtgminpdghejlhaaGreatDoorTie.lean); close each card by the builder's one call (the guide's Derived/Test/ToyasCard.lean, 'card_holds'). Laid BY PROGRAM, IN A SANDBOX (cutbox-door.mjs). By AI agents, Wed Nov 11 2026. No macro, syntax, notation, axiom, sorry.
-/
import Derived.Test.YtgminpdghejlhaaGreatDoorRows
import GoSem.ClaimSeven
namespace Go.Proofs.YtgminpdghejlhaaGreatDoor
namespace Rows

/-- THE TIED CARD OF 'pantographlaw22.EnginePages'. -/
def enginePagesCard : Claim7 := { stood := { row := enginePagesRow, standIns := [], harness := (true, "ce5cdfc2c04169b53a1b47b16c668f74e96b6cff31c42002aa0abba163306285"), looks := true }, kinds := [], alts := [], laidByText := true, laidKinds := [.data, .data, .data, .data, .sentinel, .sentinel, .pinned], laidTests := true, laidLooks := .later }
def EnginePagesCardSaid : Prop := Claim7.holds Tryz.pinned (.plain (OpenSpec.ofChange enginePagesSpec)) enginePagesCard

/-- THE SECOND FORM's CARD OF 'pantographlaw22.EnginePages'. -/
def enginePagesUptoCard : Claim7 := { stood := { row := enginePagesUptoRow, standIns := [], harness := (true, "ce5cdfc2c04169b53a1b47b16c668f74e96b6cff31c42002aa0abba163306285"), looks := true }, kinds := [], alts := [], laidByText := true, laidKinds := [.data, .data, .data, .data, .sentinel, .sentinel, .pinned], laidTests := true, laidLooks := .later }
def EnginePagesUptoCardSaid : Prop := Claim7.holds Tryz.pinned (.plain (OpenSpec.upto enginePagesSpec)) enginePagesUptoCard
end Rows
end Go.Proofs.YtgminpdghejlhaaGreatDoor
