/-
  DERIVED. GIVEN WITH THE SEED: THE CARDS: each row of YtgfadkdgifpddaaGreatDoorRows.lean that lists a variable, with what it lists TIED to the program's text (the seventh form; the later family's looks); each row that meets fmt, with fmt's text TOLD by the authors' own Lean function (tested against real Go, not proved from fmt's source: count such statements apart). THE CARD IS WHAT COUNTS. Prove the row's statement (the work); the ties are given (YtgfadkdgifpddaaGreatDoorTie.lean); close each card by the builder's one call (the guide's Derived/Test/ToyasCard.lean, 'card_holds'). Laid BY PROGRAM, IN A SANDBOX (cutbox-door.mjs). By AI agents, Wed Nov 11 2026. No macro, syntax, notation, axiom, sorry.
-/
import Derived.Test.YtgfadkdgifpddaaGreatDoorRows
import GoSem.ClaimSeven
namespace Go.Proofs.YtgfadkdgifpddaaGreatDoor
namespace Rows

/-- THE TIED CARD OF 'pantographlaw3.DecParses'. -/
def decParsesCard : Claim7 := { stood := { row := decParsesRow, standIns := [], harness := (true, "2fb8e76ec68b70bc208877c4fc457128584d657f004dd8f7fb24883ccd8cd307"), looks := false }, kinds := [], alts := [], laidByText := true, laidKinds := [.data, .pinned], laidTests := true, laidLooks := .later }
def DecParsesCardSaid : Prop := Claim7.holds Tryz.pinned (.plain (OpenSpec.ofChange decParsesSpec)) decParsesCard

/-- THE TIED CARD OF 'pantographlaw3.DecRounds'. -/
def decRoundsCard : Claim7 := { stood := { row := decRoundsRow, standIns := [], harness := (true, "2fb8e76ec68b70bc208877c4fc457128584d657f004dd8f7fb24883ccd8cd307"), looks := false }, kinds := [], alts := [], laidByText := true, laidKinds := [.data, .pinned], laidTests := true, laidLooks := .later }
def DecRoundsCardSaid : Prop := Claim7.holds Tryz.pinned (.plain (OpenSpec.ofChange decRoundsSpec)) decRoundsCard

/-- THE TIED CARD OF 'pantographlaw3.DecLong'. -/
def decLongCard : Claim7 := { stood := { row := decLongRow, standIns := [], harness := (true, "2fb8e76ec68b70bc208877c4fc457128584d657f004dd8f7fb24883ccd8cd307"), looks := false }, kinds := [], alts := [], laidByText := true, laidKinds := [.data, .pinned], laidTests := true, laidLooks := .later }
def DecLongCardSaid : Prop := Claim7.holds Tryz.pinned (.plain (OpenSpec.ofChange decLongSpec)) decLongCard

/-- THE SECOND FORM's CARD OF 'pantographlaw3.DecParses'. -/
def decParsesUptoCard : Claim7 := { stood := { row := decParsesUptoRow, standIns := [], harness := (true, "2fb8e76ec68b70bc208877c4fc457128584d657f004dd8f7fb24883ccd8cd307"), looks := false }, kinds := [], alts := [], laidByText := true, laidKinds := [.data, .pinned], laidTests := true, laidLooks := .later }
def DecParsesUptoCardSaid : Prop := Claim7.holds Tryz.pinned (.plain (OpenSpec.upto decParsesSpec)) decParsesUptoCard

/-- THE SECOND FORM's CARD OF 'pantographlaw3.DecRounds'. -/
def decRoundsUptoCard : Claim7 := { stood := { row := decRoundsUptoRow, standIns := [], harness := (true, "2fb8e76ec68b70bc208877c4fc457128584d657f004dd8f7fb24883ccd8cd307"), looks := false }, kinds := [], alts := [], laidByText := true, laidKinds := [.data, .pinned], laidTests := true, laidLooks := .later }
def DecRoundsUptoCardSaid : Prop := Claim7.holds Tryz.pinned (.plain (OpenSpec.upto decRoundsSpec)) decRoundsUptoCard

/-- THE SECOND FORM's CARD OF 'pantographlaw3.DecLong'. -/
def decLongUptoCard : Claim7 := { stood := { row := decLongUptoRow, standIns := [], harness := (true, "2fb8e76ec68b70bc208877c4fc457128584d657f004dd8f7fb24883ccd8cd307"), looks := false }, kinds := [], alts := [], laidByText := true, laidKinds := [.data, .pinned], laidTests := true, laidLooks := .later }
def DecLongUptoCardSaid : Prop := Claim7.holds Tryz.pinned (.plain (OpenSpec.upto decLongSpec)) decLongUptoCard
end Rows
end Go.Proofs.YtgfadkdgifpddaaGreatDoor
