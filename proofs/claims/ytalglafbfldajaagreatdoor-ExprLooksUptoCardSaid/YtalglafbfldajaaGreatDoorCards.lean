/-
  DERIVED. GIVEN WITH THE SEED: THE CARDS: each row of YtalglafbfldajaaGreatDoorRows.lean that lists a variable, with what it lists TIED to the program's text (the seventh form; the later family's looks); each row that meets fmt, with fmt's text TOLD by the authors' own Lean function (tested against real Go, not proved from fmt's source: count such statements apart). THE CARD IS WHAT COUNTS. Prove the row's statement (the work); the ties are given (YtalglafbfldajaaGreatDoorTie.lean); close each card by the builder's one call (the guide's Derived/Test/ToyasCard.lean, 'card_holds'). Laid BY PROGRAM, IN A SANDBOX (cutbox-door.mjs). By AI agents, Wed Nov 11 2026. No macro, syntax, notation, axiom, sorry.
-/
import Derived.Test.YtalglafbfldajaaGreatDoorRows
import GoSem.ClaimSeven
namespace Go.Proofs.YtalglafbfldajaaGreatDoor
namespace Rows

/-- THE TIED CARD OF 'pantographlaw5.ExprParses'. -/
def exprParsesCard : Claim7 := { stood := { row := exprParsesRow, standIns := [], harness := (true, "b041e2c6f0c7064ce85cbf7882f9627d42df7ceb984d881c0509699430e2bef1"), looks := true }, kinds := [], alts := [], laidByText := true, laidKinds := [.data, .pinned], laidTests := true, laidLooks := .later }
def ExprParsesCardSaid : Prop := Claim7.holds Tryz.pinned (.plain (OpenSpec.ofChange exprParsesSpec)) exprParsesCard

/-- THE TIED CARD OF 'pantographlaw5.ExprBack'. -/
def exprBackCard : Claim7 := { stood := { row := exprBackRow, standIns := [], harness := (true, "b041e2c6f0c7064ce85cbf7882f9627d42df7ceb984d881c0509699430e2bef1"), looks := true }, kinds := [], alts := [], laidByText := true, laidKinds := [.data, .pinned], laidTests := true, laidLooks := .later }
def ExprBackCardSaid : Prop := Claim7.holds Tryz.pinned (.plain (OpenSpec.ofChange exprBackSpec)) exprBackCard

/-- THE TIED CARD OF 'pantographlaw5.ExprSettles'. -/
def exprSettlesCard : Claim7 := { stood := { row := exprSettlesRow, standIns := [], harness := (true, "b041e2c6f0c7064ce85cbf7882f9627d42df7ceb984d881c0509699430e2bef1"), looks := true }, kinds := [], alts := [], laidByText := true, laidKinds := [.data, .pinned], laidTests := true, laidLooks := .later }
def ExprSettlesCardSaid : Prop := Claim7.holds Tryz.pinned (.plain (OpenSpec.ofChange exprSettlesSpec)) exprSettlesCard

/-- THE TIED CARD OF 'pantographlaw5.ExprLeft'. -/
def exprLeftCard : Claim7 := { stood := { row := exprLeftRow, standIns := [], harness := (true, "b041e2c6f0c7064ce85cbf7882f9627d42df7ceb984d881c0509699430e2bef1"), looks := true }, kinds := [], alts := [], laidByText := true, laidKinds := [.data, .pinned], laidTests := true, laidLooks := .later }
def ExprLeftCardSaid : Prop := Claim7.holds Tryz.pinned (.plain (OpenSpec.ofChange exprLeftSpec)) exprLeftCard

/-- THE TIED CARD OF 'pantographlaw5.ExprBlanks'. -/
def exprBlanksCard : Claim7 := { stood := { row := exprBlanksRow, standIns := [], harness := (true, "b041e2c6f0c7064ce85cbf7882f9627d42df7ceb984d881c0509699430e2bef1"), looks := true }, kinds := [], alts := [], laidByText := true, laidKinds := [.data, .pinned], laidTests := true, laidLooks := .later }
def ExprBlanksCardSaid : Prop := Claim7.holds Tryz.pinned (.plain (OpenSpec.ofChange exprBlanksSpec)) exprBlanksCard

/-- THE TIED CARD OF 'pantographlaw5.ExprCut'. -/
def exprCutCard : Claim7 := { stood := { row := exprCutRow, standIns := [], harness := (true, "b041e2c6f0c7064ce85cbf7882f9627d42df7ceb984d881c0509699430e2bef1"), looks := true }, kinds := [], alts := [], laidByText := true, laidKinds := [.data, .pinned], laidTests := true, laidLooks := .later }
def ExprCutCardSaid : Prop := Claim7.holds Tryz.pinned (.plain (OpenSpec.ofChange exprCutSpec)) exprCutCard

/-- THE TIED CARD OF 'pantographlaw5.ExprDeep'. -/
def exprDeepCard : Claim7 := { stood := { row := exprDeepRow, standIns := [], harness := (true, "b041e2c6f0c7064ce85cbf7882f9627d42df7ceb984d881c0509699430e2bef1"), looks := true }, kinds := [], alts := [], laidByText := true, laidKinds := [.data, .pinned], laidTests := true, laidLooks := .later }
def ExprDeepCardSaid : Prop := Claim7.holds Tryz.pinned (.plain (OpenSpec.ofChange exprDeepSpec)) exprDeepCard

/-- THE TIED CARD OF 'pantographlaw5.ExprLooks'. -/
def exprLooksCard : Claim7 := { stood := { row := exprLooksRow, standIns := [], harness := (true, "b041e2c6f0c7064ce85cbf7882f9627d42df7ceb984d881c0509699430e2bef1"), looks := true }, kinds := [], alts := [], laidByText := true, laidKinds := [.data, .pinned], laidTests := true, laidLooks := .later }
def ExprLooksCardSaid : Prop := Claim7.holds Tryz.pinned (.plain (OpenSpec.ofChange exprLooksSpec)) exprLooksCard

/-- THE SECOND FORM's CARD OF 'pantographlaw5.ExprParses'. -/
def exprParsesUptoCard : Claim7 := { stood := { row := exprParsesUptoRow, standIns := [], harness := (true, "b041e2c6f0c7064ce85cbf7882f9627d42df7ceb984d881c0509699430e2bef1"), looks := true }, kinds := [], alts := [], laidByText := true, laidKinds := [.data, .pinned], laidTests := true, laidLooks := .later }
def ExprParsesUptoCardSaid : Prop := Claim7.holds Tryz.pinned (.plain (OpenSpec.upto exprParsesSpec)) exprParsesUptoCard

/-- THE SECOND FORM's CARD OF 'pantographlaw5.ExprBack'. -/
def exprBackUptoCard : Claim7 := { stood := { row := exprBackUptoRow, standIns := [], harness := (true, "b041e2c6f0c7064ce85cbf7882f9627d42df7ceb984d881c0509699430e2bef1"), looks := true }, kinds := [], alts := [], laidByText := true, laidKinds := [.data, .pinned], laidTests := true, laidLooks := .later }
def ExprBackUptoCardSaid : Prop := Claim7.holds Tryz.pinned (.plain (OpenSpec.upto exprBackSpec)) exprBackUptoCard

/-- THE SECOND FORM's CARD OF 'pantographlaw5.ExprSettles'. -/
def exprSettlesUptoCard : Claim7 := { stood := { row := exprSettlesUptoRow, standIns := [], harness := (true, "b041e2c6f0c7064ce85cbf7882f9627d42df7ceb984d881c0509699430e2bef1"), looks := true }, kinds := [], alts := [], laidByText := true, laidKinds := [.data, .pinned], laidTests := true, laidLooks := .later }
def ExprSettlesUptoCardSaid : Prop := Claim7.holds Tryz.pinned (.plain (OpenSpec.upto exprSettlesSpec)) exprSettlesUptoCard

/-- THE SECOND FORM's CARD OF 'pantographlaw5.ExprLeft'. -/
def exprLeftUptoCard : Claim7 := { stood := { row := exprLeftUptoRow, standIns := [], harness := (true, "b041e2c6f0c7064ce85cbf7882f9627d42df7ceb984d881c0509699430e2bef1"), looks := true }, kinds := [], alts := [], laidByText := true, laidKinds := [.data, .pinned], laidTests := true, laidLooks := .later }
def ExprLeftUptoCardSaid : Prop := Claim7.holds Tryz.pinned (.plain (OpenSpec.upto exprLeftSpec)) exprLeftUptoCard

/-- THE SECOND FORM's CARD OF 'pantographlaw5.ExprBlanks'. -/
def exprBlanksUptoCard : Claim7 := { stood := { row := exprBlanksUptoRow, standIns := [], harness := (true, "b041e2c6f0c7064ce85cbf7882f9627d42df7ceb984d881c0509699430e2bef1"), looks := true }, kinds := [], alts := [], laidByText := true, laidKinds := [.data, .pinned], laidTests := true, laidLooks := .later }
def ExprBlanksUptoCardSaid : Prop := Claim7.holds Tryz.pinned (.plain (OpenSpec.upto exprBlanksSpec)) exprBlanksUptoCard

/-- THE SECOND FORM's CARD OF 'pantographlaw5.ExprCut'. -/
def exprCutUptoCard : Claim7 := { stood := { row := exprCutUptoRow, standIns := [], harness := (true, "b041e2c6f0c7064ce85cbf7882f9627d42df7ceb984d881c0509699430e2bef1"), looks := true }, kinds := [], alts := [], laidByText := true, laidKinds := [.data, .pinned], laidTests := true, laidLooks := .later }
def ExprCutUptoCardSaid : Prop := Claim7.holds Tryz.pinned (.plain (OpenSpec.upto exprCutSpec)) exprCutUptoCard

/-- THE SECOND FORM's CARD OF 'pantographlaw5.ExprDeep'. -/
def exprDeepUptoCard : Claim7 := { stood := { row := exprDeepUptoRow, standIns := [], harness := (true, "b041e2c6f0c7064ce85cbf7882f9627d42df7ceb984d881c0509699430e2bef1"), looks := true }, kinds := [], alts := [], laidByText := true, laidKinds := [.data, .pinned], laidTests := true, laidLooks := .later }
def ExprDeepUptoCardSaid : Prop := Claim7.holds Tryz.pinned (.plain (OpenSpec.upto exprDeepSpec)) exprDeepUptoCard

/-- THE SECOND FORM's CARD OF 'pantographlaw5.ExprLooks'. -/
def exprLooksUptoCard : Claim7 := { stood := { row := exprLooksUptoRow, standIns := [], harness := (true, "b041e2c6f0c7064ce85cbf7882f9627d42df7ceb984d881c0509699430e2bef1"), looks := true }, kinds := [], alts := [], laidByText := true, laidKinds := [.data, .pinned], laidTests := true, laidLooks := .later }
def ExprLooksUptoCardSaid : Prop := Claim7.holds Tryz.pinned (.plain (OpenSpec.upto exprLooksSpec)) exprLooksUptoCard
end Rows
end Go.Proofs.YtalglafbfldajaaGreatDoor
