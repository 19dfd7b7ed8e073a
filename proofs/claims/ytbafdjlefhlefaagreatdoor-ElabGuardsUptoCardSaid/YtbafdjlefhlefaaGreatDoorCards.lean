/-
  DERIVED. GIVEN WITH THE SEED: THE CARDS: each row of YtbafdjlefhlefaaGreatDoorRows.lean that lists a variable, with what it lists TIED to the program's text (the seventh form; the later family's looks); each row that meets fmt, with fmt's text TOLD by the authors' own Lean function (tested against real Go, not proved from fmt's source: count such statements apart). THE CARD IS WHAT COUNTS. Prove the row's statement (the work); the ties are given (YtbafdjlefhlefaaGreatDoorTie.lean); close each card by the builder's one call (the guide's Derived/Test/ToyasCard.lean, 'card_holds'). Laid BY PROGRAM, IN A SANDBOX (cutbox-door.mjs). By AI agents, Wed Nov 11 2026. No macro, syntax, notation, axiom, sorry.
-/
import Derived.Test.YtbafdjlefhlefaaGreatDoorRows
import GoSem.ClaimSeven
namespace Go.Proofs.YtbafdjlefhlefaaGreatDoor
namespace Rows

/-- THE TIED CARD OF 'pantographlaw9.ElabElabs'. -/
def elabElabsCard : Claim7 := { stood := { row := elabElabsRow, standIns := [], harness := (true, "aaa7e6d1d9db9b37482e758f65d38514ffb8fb9866688da7dcbc22765b9a5a39"), looks := false }, kinds := [], alts := [], laidByText := true, laidKinds := [.data, .data, .data], laidTests := true, laidLooks := .later }
def ElabElabsCardSaid : Prop := Claim7.holds Tryz.pinned (.plain (OpenSpec.ofChange elabElabsSpec)) elabElabsCard

/-- THE TIED CARD OF 'pantographlaw9.ElabHolds'. -/
def elabHoldsCard : Claim7 := { stood := { row := elabHoldsRow, standIns := [], harness := (true, "aaa7e6d1d9db9b37482e758f65d38514ffb8fb9866688da7dcbc22765b9a5a39"), looks := false }, kinds := [], alts := [], laidByText := true, laidKinds := [.data, .data, .data], laidTests := true, laidLooks := .later }
def ElabHoldsCardSaid : Prop := Claim7.holds Tryz.pinned (.plain (OpenSpec.ofChange elabHoldsSpec)) elabHoldsCard

/-- THE TIED CARD OF 'pantographlaw9.ElabGuards'. -/
def elabGuardsCard : Claim7 := { stood := { row := elabGuardsRow, standIns := [], harness := (true, "aaa7e6d1d9db9b37482e758f65d38514ffb8fb9866688da7dcbc22765b9a5a39"), looks := false }, kinds := [], alts := [], laidByText := true, laidKinds := [.data, .data, .data], laidTests := true, laidLooks := .later }
def ElabGuardsCardSaid : Prop := Claim7.holds Tryz.pinned (.plain (OpenSpec.ofChange elabGuardsSpec)) elabGuardsCard

/-- THE SECOND FORM's CARD OF 'pantographlaw9.ElabElabs'. -/
def elabElabsUptoCard : Claim7 := { stood := { row := elabElabsUptoRow, standIns := [], harness := (true, "aaa7e6d1d9db9b37482e758f65d38514ffb8fb9866688da7dcbc22765b9a5a39"), looks := false }, kinds := [], alts := [], laidByText := true, laidKinds := [.data, .data, .data], laidTests := true, laidLooks := .later }
def ElabElabsUptoCardSaid : Prop := Claim7.holds Tryz.pinned (.plain (OpenSpec.upto elabElabsSpec)) elabElabsUptoCard

/-- THE SECOND FORM's CARD OF 'pantographlaw9.ElabHolds'. -/
def elabHoldsUptoCard : Claim7 := { stood := { row := elabHoldsUptoRow, standIns := [], harness := (true, "aaa7e6d1d9db9b37482e758f65d38514ffb8fb9866688da7dcbc22765b9a5a39"), looks := false }, kinds := [], alts := [], laidByText := true, laidKinds := [.data, .data, .data], laidTests := true, laidLooks := .later }
def ElabHoldsUptoCardSaid : Prop := Claim7.holds Tryz.pinned (.plain (OpenSpec.upto elabHoldsSpec)) elabHoldsUptoCard

/-- THE SECOND FORM's CARD OF 'pantographlaw9.ElabGuards'. -/
def elabGuardsUptoCard : Claim7 := { stood := { row := elabGuardsUptoRow, standIns := [], harness := (true, "aaa7e6d1d9db9b37482e758f65d38514ffb8fb9866688da7dcbc22765b9a5a39"), looks := false }, kinds := [], alts := [], laidByText := true, laidKinds := [.data, .data, .data], laidTests := true, laidLooks := .later }
def ElabGuardsUptoCardSaid : Prop := Claim7.holds Tryz.pinned (.plain (OpenSpec.upto elabGuardsSpec)) elabGuardsUptoCard
end Rows
end Go.Proofs.YtbafdjlefhlefaaGreatDoor
