/-
  DERIVED. GIVEN WITH THE SEED: THE CARDS: each row of YtilkokbbfmkkbaaGreatDoorRows.lean that lists a variable, with what it lists TIED to the program's text (the seventh form; the later family's looks); each row that meets fmt, with fmt's text TOLD by the authors' own Lean function (tested against real Go, not proved from fmt's source: count such statements apart). THE CARD IS WHAT COUNTS. Prove the row's statement (the work); the ties are given (YtilkokbbfmkkbaaGreatDoorTie.lean); close each card by the builder's one call (the guide's Derived/Test/ToyasCard.lean, 'card_holds'). Laid BY PROGRAM, IN A SANDBOX (cutbox-door.mjs). By AI agents, Wed Nov 11 2026. No macro, syntax, notation, axiom, sorry.
-/
import Derived.Test.YtilkokbbfmkkbaaGreatDoorRows
import GoSem.ClaimSeven
namespace Go.Proofs.YtilkokbbfmkkbaaGreatDoor
namespace Rows

/-- THE TIED CARD OF 'pantographlaw22.EngineOfNothing'. -/
def engineOfNothingCard : Claim7 := { stood := { row := engineOfNothingRow, standIns := [], harness := (true, "b8054edd7532f5781e4c7ea1632924c8478cbfafa3a947e98fcc35af0202f2ea"), looks := true }, kinds := [], alts := [], laidByText := true, laidKinds := [.data, .data, .data, .data, .sentinel, .sentinel, .pinned], laidTests := true, laidLooks := .later }
def EngineOfNothingCardSaid : Prop := Claim7.holds Tryz.pinned (.plain (OpenSpec.ofChange engineOfNothingSpec)) engineOfNothingCard

/-- THE SECOND FORM's CARD OF 'pantographlaw22.EngineOfNothing'. -/
def engineOfNothingUptoCard : Claim7 := { stood := { row := engineOfNothingUptoRow, standIns := [], harness := (true, "b8054edd7532f5781e4c7ea1632924c8478cbfafa3a947e98fcc35af0202f2ea"), looks := true }, kinds := [], alts := [], laidByText := true, laidKinds := [.data, .data, .data, .data, .sentinel, .sentinel, .pinned], laidTests := true, laidLooks := .later }
def EngineOfNothingUptoCardSaid : Prop := Claim7.holds Tryz.pinned (.plain (OpenSpec.upto engineOfNothingSpec)) engineOfNothingUptoCard
end Rows
end Go.Proofs.YtilkokbbfmkkbaaGreatDoor
