/-
  DERIVED. GIVEN WITH THE SEED: THE CARDS: each row of YtmfcbdmechlpkaaDoorRows.lean that lists a variable, with what it lists TIED to the program's text (the seventh form; the later family's looks); each row that meets fmt, with fmt's text TOLD by the authors' own Lean function (tested against real Go, not proved from fmt's source: count such statements apart). THE CARD IS WHAT COUNTS. Prove the row's statement (the work); the ties are given (YtmfcbdmechlpkaaDoorTie.lean); close each card by the builder's one call (the guide's Derived/Test/ToyasCard.lean, 'card_holds'). Laid BY PROGRAM, IN A SANDBOX (cutbox-door.mjs). By AI agents, Wed Nov 11 2026. No macro, syntax, notation, axiom, sorry.
-/
import Derived.Test.YtmfcbdmechlpkaaDoorRows
import GoSem.ClaimSeven
namespace Go.Proofs.YtmfcbdmechlpkaaDoor
namespace Rows

/-- THE TIED CARD OF 'pantographlaw20.DraftPrints'. -/
def draftPrintsCard : Claim7 := { stood := { row := draftPrintsRow, standIns := [], harness := (true, "69c2ef801ef3779a5d80bd5191ed5c1975b43c2ecb5b95cde3e5a76ae2b87c10"), looks := false }, kinds := [], alts := [], laidByText := true, laidKinds := [.data, .data, .data], laidTests := true, laidLooks := .later }
def DraftPrintsCardSaid : Prop := Claim7.holds Tryd.pinned (.plain (OpenSpec.ofChange draftPrintsSpec)) draftPrintsCard

/-- THE TIED CARD OF 'pantographlaw20.DraftSaves'. -/
def draftSavesCard : Claim7 := { stood := { row := draftSavesRow, standIns := [], harness := (true, "69c2ef801ef3779a5d80bd5191ed5c1975b43c2ecb5b95cde3e5a76ae2b87c10"), looks := false }, kinds := [], alts := [], laidByText := true, laidKinds := [.data, .data, .data], laidTests := true, laidLooks := .later }
def DraftSavesCardSaid : Prop := Claim7.holds Tryd.pinned (.plain (OpenSpec.ofChange draftSavesSpec)) draftSavesCard

/-- THE TIED CARD OF 'pantographlaw21.RecordBack'. -/
def recordBackCard : Claim7 := { stood := { row := recordBackRow, standIns := [], harness := (true, "69c2ef801ef3779a5d80bd5191ed5c1975b43c2ecb5b95cde3e5a76ae2b87c10"), looks := false }, kinds := [], alts := [], laidByText := true, laidKinds := [.data, .pinned], laidTests := true, laidLooks := .later }
def RecordBackCardSaid : Prop := Claim7.holds Tryd.pinned (.plain (OpenSpec.ofChange recordBackSpec)) recordBackCard

/-- THE SECOND FORM's CARD OF 'pantographlaw20.DraftPrints'. -/
def draftPrintsUptoCard : Claim7 := { stood := { row := draftPrintsUptoRow, standIns := [], harness := (true, "69c2ef801ef3779a5d80bd5191ed5c1975b43c2ecb5b95cde3e5a76ae2b87c10"), looks := false }, kinds := [], alts := [], laidByText := true, laidKinds := [.data, .data, .data], laidTests := true, laidLooks := .later }
def DraftPrintsUptoCardSaid : Prop := Claim7.holds Tryd.pinned (.plain (OpenSpec.upto draftPrintsSpec)) draftPrintsUptoCard

/-- THE SECOND FORM's CARD OF 'pantographlaw20.DraftSaves'. -/
def draftSavesUptoCard : Claim7 := { stood := { row := draftSavesUptoRow, standIns := [], harness := (true, "69c2ef801ef3779a5d80bd5191ed5c1975b43c2ecb5b95cde3e5a76ae2b87c10"), looks := false }, kinds := [], alts := [], laidByText := true, laidKinds := [.data, .data, .data], laidTests := true, laidLooks := .later }
def DraftSavesUptoCardSaid : Prop := Claim7.holds Tryd.pinned (.plain (OpenSpec.upto draftSavesSpec)) draftSavesUptoCard

/-- THE SECOND FORM's CARD OF 'pantographlaw21.RecordBack'. -/
def recordBackUptoCard : Claim7 := { stood := { row := recordBackUptoRow, standIns := [], harness := (true, "69c2ef801ef3779a5d80bd5191ed5c1975b43c2ecb5b95cde3e5a76ae2b87c10"), looks := false }, kinds := [], alts := [], laidByText := true, laidKinds := [.data, .pinned], laidTests := true, laidLooks := .later }
def RecordBackUptoCardSaid : Prop := Claim7.holds Tryd.pinned (.plain (OpenSpec.upto recordBackSpec)) recordBackUptoCard
end Rows
end Go.Proofs.YtmfcbdmechlpkaaDoor
