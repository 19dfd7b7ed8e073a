/-
  DERIVED. GIVEN WITH THE SEED: THE CARDS: each row of YthhgaidlooddpaaGreatDoorRows.lean that lists a variable, with what it lists TIED to the program's text (the seventh form; the later family's looks); each row that meets fmt, with fmt's text TOLD by the authors' own Lean function (tested against real Go, not proved from fmt's source: count such statements apart). THE CARD IS WHAT COUNTS. Prove the row's statement (the work); the ties are given (YthhgaidlooddpaaGreatDoorTie.lean); close each card by the builder's one call (the guide's Derived/Test/ToyasCard.lean, 'card_holds'). Laid BY PROGRAM, IN A SANDBOX (cutbox-door.mjs). By AI agents, Wed Nov 11 2026. No macro, syntax, notation, axiom, sorry.
-/
import Derived.Test.YthhgaidlooddpaaGreatDoorRows
import GoSem.ClaimSeven
namespace Go.Proofs.YthhgaidlooddpaaGreatDoor
namespace Rows

/-- THE TIED CARD OF 'pantographlaw6.SheetParses'. -/
def sheetParsesCard : Claim7 := { stood := { row := sheetParsesRow, standIns := [], harness := (true, "235eb567d5e779cbadd7746675107c73cb02958f1f96cf2d636ecf67daaf367f"), looks := true }, kinds := [], alts := [], laidByText := true, laidKinds := [.data, .data, .data, .data, .pinned], laidTests := true, laidLooks := .later }
def SheetParsesCardSaid : Prop := Claim7.holds Tryz.pinned (.plain (OpenSpec.ofChange sheetParsesSpec)) sheetParsesCard

/-- THE TIED CARD OF 'pantographlaw6.SheetBack'. -/
def sheetBackCard : Claim7 := { stood := { row := sheetBackRow, standIns := [], harness := (true, "235eb567d5e779cbadd7746675107c73cb02958f1f96cf2d636ecf67daaf367f"), looks := true }, kinds := [], alts := [], laidByText := true, laidKinds := [.data, .data, .data, .data, .pinned], laidTests := true, laidLooks := .later }
def SheetBackCardSaid : Prop := Claim7.holds Tryz.pinned (.plain (OpenSpec.ofChange sheetBackSpec)) sheetBackCard

/-- THE TIED CARD OF 'pantographlaw6.SheetBlank'. -/
def sheetBlankCard : Claim7 := { stood := { row := sheetBlankRow, standIns := [], harness := (true, "235eb567d5e779cbadd7746675107c73cb02958f1f96cf2d636ecf67daaf367f"), looks := true }, kinds := [], alts := [], laidByText := true, laidKinds := [.data, .data, .data, .data, .pinned], laidTests := true, laidLooks := .later }
def SheetBlankCardSaid : Prop := Claim7.holds Tryz.pinned (.plain (OpenSpec.ofChange sheetBlankSpec)) sheetBlankCard

/-- THE TIED CARD OF 'pantographlaw6.SheetLine'. -/
def sheetLineCard : Claim7 := { stood := { row := sheetLineRow, standIns := [], harness := (true, "235eb567d5e779cbadd7746675107c73cb02958f1f96cf2d636ecf67daaf367f"), looks := true }, kinds := [], alts := [], laidByText := true, laidKinds := [.data, .data, .data, .data, .pinned], laidTests := true, laidLooks := .later }
def SheetLineCardSaid : Prop := Claim7.holds Tryz.pinned (.plain (OpenSpec.ofChange sheetLineSpec)) sheetLineCard

/-- THE TIED CARD OF 'pantographlaw6.SheetLast'. -/
def sheetLastCard : Claim7 := { stood := { row := sheetLastRow, standIns := [], harness := (true, "235eb567d5e779cbadd7746675107c73cb02958f1f96cf2d636ecf67daaf367f"), looks := true }, kinds := [], alts := [], laidByText := true, laidKinds := [.data, .data, .data, .data, .pinned], laidTests := true, laidLooks := .later }
def SheetLastCardSaid : Prop := Claim7.holds Tryz.pinned (.plain (OpenSpec.ofChange sheetLastSpec)) sheetLastCard

/-- THE TIED CARD OF 'pantographlaw6.SheetLimits'. -/
def sheetLimitsCard : Claim7 := { stood := { row := sheetLimitsRow, standIns := [], harness := (true, "235eb567d5e779cbadd7746675107c73cb02958f1f96cf2d636ecf67daaf367f"), looks := true }, kinds := [], alts := [], laidByText := true, laidKinds := [.data, .data, .data, .data, .pinned], laidTests := true, laidLooks := .later }
def SheetLimitsCardSaid : Prop := Claim7.holds Tryz.pinned (.plain (OpenSpec.ofChange sheetLimitsSpec)) sheetLimitsCard

/-- THE TIED CARD OF 'pantographlaw6.SheetLooks'. -/
def sheetLooksCard : Claim7 := { stood := { row := sheetLooksRow, standIns := [], harness := (true, "235eb567d5e779cbadd7746675107c73cb02958f1f96cf2d636ecf67daaf367f"), looks := true }, kinds := [], alts := [], laidByText := true, laidKinds := [.data, .data, .data, .data, .pinned], laidTests := true, laidLooks := .later }
def SheetLooksCardSaid : Prop := Claim7.holds Tryz.pinned (.plain (OpenSpec.ofChange sheetLooksSpec)) sheetLooksCard

/-- THE SECOND FORM's CARD OF 'pantographlaw6.SheetParses'. -/
def sheetParsesUptoCard : Claim7 := { stood := { row := sheetParsesUptoRow, standIns := [], harness := (true, "235eb567d5e779cbadd7746675107c73cb02958f1f96cf2d636ecf67daaf367f"), looks := true }, kinds := [], alts := [], laidByText := true, laidKinds := [.data, .data, .data, .data, .pinned], laidTests := true, laidLooks := .later }
def SheetParsesUptoCardSaid : Prop := Claim7.holds Tryz.pinned (.plain (OpenSpec.upto sheetParsesSpec)) sheetParsesUptoCard

/-- THE SECOND FORM's CARD OF 'pantographlaw6.SheetBack'. -/
def sheetBackUptoCard : Claim7 := { stood := { row := sheetBackUptoRow, standIns := [], harness := (true, "235eb567d5e779cbadd7746675107c73cb02958f1f96cf2d636ecf67daaf367f"), looks := true }, kinds := [], alts := [], laidByText := true, laidKinds := [.data, .data, .data, .data, .pinned], laidTests := true, laidLooks := .later }
def SheetBackUptoCardSaid : Prop := Claim7.holds Tryz.pinned (.plain (OpenSpec.upto sheetBackSpec)) sheetBackUptoCard

/-- THE SECOND FORM's CARD OF 'pantographlaw6.SheetBlank'. -/
def sheetBlankUptoCard : Claim7 := { stood := { row := sheetBlankUptoRow, standIns := [], harness := (true, "235eb567d5e779cbadd7746675107c73cb02958f1f96cf2d636ecf67daaf367f"), looks := true }, kinds := [], alts := [], laidByText := true, laidKinds := [.data, .data, .data, .data, .pinned], laidTests := true, laidLooks := .later }
def SheetBlankUptoCardSaid : Prop := Claim7.holds Tryz.pinned (.plain (OpenSpec.upto sheetBlankSpec)) sheetBlankUptoCard

/-- THE SECOND FORM's CARD OF 'pantographlaw6.SheetLine'. -/
def sheetLineUptoCard : Claim7 := { stood := { row := sheetLineUptoRow, standIns := [], harness := (true, "235eb567d5e779cbadd7746675107c73cb02958f1f96cf2d636ecf67daaf367f"), looks := true }, kinds := [], alts := [], laidByText := true, laidKinds := [.data, .data, .data, .data, .pinned], laidTests := true, laidLooks := .later }
def SheetLineUptoCardSaid : Prop := Claim7.holds Tryz.pinned (.plain (OpenSpec.upto sheetLineSpec)) sheetLineUptoCard

/-- THE SECOND FORM's CARD OF 'pantographlaw6.SheetLast'. -/
def sheetLastUptoCard : Claim7 := { stood := { row := sheetLastUptoRow, standIns := [], harness := (true, "235eb567d5e779cbadd7746675107c73cb02958f1f96cf2d636ecf67daaf367f"), looks := true }, kinds := [], alts := [], laidByText := true, laidKinds := [.data, .data, .data, .data, .pinned], laidTests := true, laidLooks := .later }
def SheetLastUptoCardSaid : Prop := Claim7.holds Tryz.pinned (.plain (OpenSpec.upto sheetLastSpec)) sheetLastUptoCard

/-- THE SECOND FORM's CARD OF 'pantographlaw6.SheetLimits'. -/
def sheetLimitsUptoCard : Claim7 := { stood := { row := sheetLimitsUptoRow, standIns := [], harness := (true, "235eb567d5e779cbadd7746675107c73cb02958f1f96cf2d636ecf67daaf367f"), looks := true }, kinds := [], alts := [], laidByText := true, laidKinds := [.data, .data, .data, .data, .pinned], laidTests := true, laidLooks := .later }
def SheetLimitsUptoCardSaid : Prop := Claim7.holds Tryz.pinned (.plain (OpenSpec.upto sheetLimitsSpec)) sheetLimitsUptoCard

/-- THE SECOND FORM's CARD OF 'pantographlaw6.SheetLooks'. -/
def sheetLooksUptoCard : Claim7 := { stood := { row := sheetLooksUptoRow, standIns := [], harness := (true, "235eb567d5e779cbadd7746675107c73cb02958f1f96cf2d636ecf67daaf367f"), looks := true }, kinds := [], alts := [], laidByText := true, laidKinds := [.data, .data, .data, .data, .pinned], laidTests := true, laidLooks := .later }
def SheetLooksUptoCardSaid : Prop := Claim7.holds Tryz.pinned (.plain (OpenSpec.upto sheetLooksSpec)) sheetLooksUptoCard
end Rows
end Go.Proofs.YthhgaidlooddpaaGreatDoor
