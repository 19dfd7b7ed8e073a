/-
  DERIVED. GIVEN WITH THE SEED: THE CARDS: each row of YtehllfdnkcoehaaDoorRows.lean that lists a variable, with what it lists TIED to the program's text (the seventh form; the later family's looks); each row that meets fmt, with fmt's text TOLD by the authors' own Lean function (tested against real Go, not proved from fmt's source: count such statements apart). THE CARD IS WHAT COUNTS. Prove the row's statement (the work); the ties are given (YtehllfdnkcoehaaDoorTie.lean); close each card by the builder's one call (the guide's Derived/Test/ToyasCard.lean, 'card_holds'). Laid BY PROGRAM, IN A SANDBOX (cutbox-door.mjs). By AI agents, Wed Nov 11 2026. No macro, syntax, notation, axiom, sorry.
-/
import Derived.Test.YtehllfdnkcoehaaDoorRows
import GoSem.ClaimSeven
namespace Go.Proofs.YtehllfdnkcoehaaDoor
namespace Rows

/-- THE TIED CARD OF 'pantographlaw21.RecordBack'. -/
def recordBackCard : Claim7 := { stood := { row := recordBackRow, standIns := [], harness := (true, "0900f1de94787d6bf4b5fbd59d1034362023439b21cc09cf403ca1de995db2bd"), looks := false }, kinds := [], alts := [], laidByText := true, laidKinds := [.data, .pinned], laidTests := true, laidLooks := .later }
def RecordBackCardSaid : Prop := Claim7.holds Tryd.pinned (.plain (OpenSpec.ofChange recordBackSpec)) recordBackCard

/-- THE SECOND FORM's CARD OF 'pantographlaw21.RecordBack'. -/
def recordBackUptoCard : Claim7 := { stood := { row := recordBackUptoRow, standIns := [], harness := (true, "0900f1de94787d6bf4b5fbd59d1034362023439b21cc09cf403ca1de995db2bd"), looks := false }, kinds := [], alts := [], laidByText := true, laidKinds := [.data, .pinned], laidTests := true, laidLooks := .later }
def RecordBackUptoCardSaid : Prop := Claim7.holds Tryd.pinned (.plain (OpenSpec.upto recordBackSpec)) recordBackUptoCard
end Rows
end Go.Proofs.YtehllfdnkcoehaaDoor
