/-
  DERIVED. GIVEN WITH THE SEED: THE CARDS: each row of YtjklmealdnfhfaaGreatDoorRows.lean that lists a variable, with what it lists TIED to the program's text (the seventh form; the later family's looks); each row that meets fmt, with fmt's text TOLD by the authors' own Lean function (tested against real Go, not proved from fmt's source: count such statements apart). THE CARD IS WHAT COUNTS. Prove the row's statement (the work); the ties are given (YtjklmealdnfhfaaGreatDoorTie.lean); close each card by the builder's one call (the guide's Derived/Test/ToyasCard.lean, 'card_holds'). Laid BY PROGRAM, IN A SANDBOX (cutbox-door.mjs). By AI agents, Wed Nov 11 2026. No macro, syntax, notation, axiom, sorry.
-/
import Derived.Test.YtjklmealdnfhfaaGreatDoorRows
import GoSem.ClaimSeven
namespace Go.Proofs.YtjklmealdnfhfaaGreatDoor
namespace Rows

/-- THE TIED CARD OF 'pantographlaw22.EnginePushes'. -/
def enginePushesCard : Claim7 := { stood := { row := enginePushesRow, standIns := [], harness := (true, "21c50aa3c81bdc4626ee03b1bc19c6a08a072d8ad811bf1b5496711c10fc4675"), looks := true }, kinds := [], alts := [], laidByText := true, laidKinds := [.data, .data, .data, .data, .sentinel, .sentinel, .pinned], laidTests := true, laidLooks := .later }
def EnginePushesCardSaid : Prop := Claim7.holds Tryz.pinned (.plain (OpenSpec.ofChange enginePushesSpec)) enginePushesCard

/-- THE TIED CARD OF 'pantographlaw22.EngineGoes'. -/
def engineGoesCard : Claim7 := { stood := { row := engineGoesRow, standIns := [], harness := (true, "21c50aa3c81bdc4626ee03b1bc19c6a08a072d8ad811bf1b5496711c10fc4675"), looks := true }, kinds := [], alts := [], laidByText := true, laidKinds := [.data, .data, .data, .data, .sentinel, .sentinel, .pinned], laidTests := true, laidLooks := .later }
def EngineGoesCardSaid : Prop := Claim7.holds Tryz.pinned (.plain (OpenSpec.ofChange engineGoesSpec)) engineGoesCard

/-- THE TIED CARD OF 'pantographlaw22.EngineErrors'. -/
def engineErrorsCard : Claim7 := { stood := { row := engineErrorsRow, standIns := [], harness := (true, "21c50aa3c81bdc4626ee03b1bc19c6a08a072d8ad811bf1b5496711c10fc4675"), looks := true }, kinds := [], alts := [], laidByText := true, laidKinds := [.data, .data, .data, .data, .sentinel, .sentinel, .pinned], laidTests := true, laidLooks := .later }
def EngineErrorsCardSaid : Prop := Claim7.holds Tryz.pinned (.plain (OpenSpec.ofChange engineErrorsSpec)) engineErrorsCard

/-- THE TIED CARD OF 'pantographlaw22.EngineRuns'. -/
def engineRunsCard : Claim7 := { stood := { row := engineRunsRow, standIns := [], harness := (true, "21c50aa3c81bdc4626ee03b1bc19c6a08a072d8ad811bf1b5496711c10fc4675"), looks := true }, kinds := [], alts := [], laidByText := true, laidKinds := [.data, .data, .data, .data, .sentinel, .sentinel, .pinned], laidTests := true, laidLooks := .later }
def EngineRunsCardSaid : Prop := Claim7.holds Tryz.pinned (.plain (OpenSpec.ofChange engineRunsSpec)) engineRunsCard

/-- THE SECOND FORM's CARD OF 'pantographlaw22.EnginePushes'. -/
def enginePushesUptoCard : Claim7 := { stood := { row := enginePushesUptoRow, standIns := [], harness := (true, "21c50aa3c81bdc4626ee03b1bc19c6a08a072d8ad811bf1b5496711c10fc4675"), looks := true }, kinds := [], alts := [], laidByText := true, laidKinds := [.data, .data, .data, .data, .sentinel, .sentinel, .pinned], laidTests := true, laidLooks := .later }
def EnginePushesUptoCardSaid : Prop := Claim7.holds Tryz.pinned (.plain (OpenSpec.upto enginePushesSpec)) enginePushesUptoCard

/-- THE SECOND FORM's CARD OF 'pantographlaw22.EngineGoes'. -/
def engineGoesUptoCard : Claim7 := { stood := { row := engineGoesUptoRow, standIns := [], harness := (true, "21c50aa3c81bdc4626ee03b1bc19c6a08a072d8ad811bf1b5496711c10fc4675"), looks := true }, kinds := [], alts := [], laidByText := true, laidKinds := [.data, .data, .data, .data, .sentinel, .sentinel, .pinned], laidTests := true, laidLooks := .later }
def EngineGoesUptoCardSaid : Prop := Claim7.holds Tryz.pinned (.plain (OpenSpec.upto engineGoesSpec)) engineGoesUptoCard

/-- THE SECOND FORM's CARD OF 'pantographlaw22.EngineErrors'. -/
def engineErrorsUptoCard : Claim7 := { stood := { row := engineErrorsUptoRow, standIns := [], harness := (true, "21c50aa3c81bdc4626ee03b1bc19c6a08a072d8ad811bf1b5496711c10fc4675"), looks := true }, kinds := [], alts := [], laidByText := true, laidKinds := [.data, .data, .data, .data, .sentinel, .sentinel, .pinned], laidTests := true, laidLooks := .later }
def EngineErrorsUptoCardSaid : Prop := Claim7.holds Tryz.pinned (.plain (OpenSpec.upto engineErrorsSpec)) engineErrorsUptoCard

/-- THE SECOND FORM's CARD OF 'pantographlaw22.EngineRuns'. -/
def engineRunsUptoCard : Claim7 := { stood := { row := engineRunsUptoRow, standIns := [], harness := (true, "21c50aa3c81bdc4626ee03b1bc19c6a08a072d8ad811bf1b5496711c10fc4675"), looks := true }, kinds := [], alts := [], laidByText := true, laidKinds := [.data, .data, .data, .data, .sentinel, .sentinel, .pinned], laidTests := true, laidLooks := .later }
def EngineRunsUptoCardSaid : Prop := Claim7.holds Tryz.pinned (.plain (OpenSpec.upto engineRunsSpec)) engineRunsUptoCard
end Rows
end Go.Proofs.YtjklmealdnfhfaaGreatDoor
