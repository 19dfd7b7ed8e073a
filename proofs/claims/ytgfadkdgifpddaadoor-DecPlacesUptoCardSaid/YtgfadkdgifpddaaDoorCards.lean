/-
  DERIVED. GIVEN WITH THE SEED: THE CARDS: each row of YtgfadkdgifpddaaDoorRows.lean that lists a variable, with what it lists TIED to the program's text (the seventh form; the later family's looks); each row that meets fmt, with fmt's text TOLD by the authors' own Lean function (tested against real Go, not proved from fmt's source: count such statements apart). THE CARD IS WHAT COUNTS. Prove the row's statement (the work); the ties are given (YtgfadkdgifpddaaDoorTie.lean); close each card by the builder's one call (the guide's Derived/Test/ToyasCard.lean, 'card_holds'). Laid BY PROGRAM, IN A SANDBOX (cutbox-door.mjs). By AI agents, Wed Nov 11 2026. No macro, syntax, notation, axiom, sorry.
-/
import Derived.Test.YtgfadkdgifpddaaDoorRows
import GoSem.ClaimSeven
namespace Go.Proofs.YtgfadkdgifpddaaDoor
namespace Rows

/-- THE TIED CARD OF 'pantographlaw3.DecPlaces'. -/
def decPlacesCard : Claim7 := { stood := { row := decPlacesRow, standIns := [], harness := (true, "b101058938b903c78d8175e329d68c13913d7f88be23544422d7c858deeb8083"), looks := false }, kinds := [], alts := [], laidByText := true, laidKinds := [.data, .pinned], laidTests := true, laidLooks := .later }
def DecPlacesCardSaid : Prop := Claim7.holds Tryd.pinned (.plain (OpenSpec.ofChange decPlacesSpec)) decPlacesCard

/-- THE TIED CARD OF 'pantographlaw3.DecBack'. -/
def decBackCard : Claim7 := { stood := { row := decBackRow, standIns := [], harness := (true, "b101058938b903c78d8175e329d68c13913d7f88be23544422d7c858deeb8083"), looks := false }, kinds := [], alts := [], laidByText := true, laidKinds := [.data, .pinned], laidTests := true, laidLooks := .later }
def DecBackCardSaid : Prop := Claim7.holds Tryd.pinned (.plain (OpenSpec.ofChange decBackSpec)) decBackCard

/-- THE TIED CARD OF 'pantographlaw3.DecInts'. -/
def decIntsCard : Claim7 := { stood := { row := decIntsRow, standIns := [], harness := (true, "b101058938b903c78d8175e329d68c13913d7f88be23544422d7c858deeb8083"), looks := false }, kinds := [], alts := [], laidByText := true, laidKinds := [.data, .pinned], laidTests := true, laidLooks := .later }
def DecIntsCardSaid : Prop := Claim7.holds Tryd.pinned (.plain (OpenSpec.ofChange decIntsSpec)) decIntsCard

/-- THE SECOND FORM's CARD OF 'pantographlaw3.DecPlaces'. -/
def decPlacesUptoCard : Claim7 := { stood := { row := decPlacesUptoRow, standIns := [], harness := (true, "b101058938b903c78d8175e329d68c13913d7f88be23544422d7c858deeb8083"), looks := false }, kinds := [], alts := [], laidByText := true, laidKinds := [.data, .pinned], laidTests := true, laidLooks := .later }
def DecPlacesUptoCardSaid : Prop := Claim7.holds Tryd.pinned (.plain (OpenSpec.upto decPlacesSpec)) decPlacesUptoCard

/-- THE SECOND FORM's CARD OF 'pantographlaw3.DecBack'. -/
def decBackUptoCard : Claim7 := { stood := { row := decBackUptoRow, standIns := [], harness := (true, "b101058938b903c78d8175e329d68c13913d7f88be23544422d7c858deeb8083"), looks := false }, kinds := [], alts := [], laidByText := true, laidKinds := [.data, .pinned], laidTests := true, laidLooks := .later }
def DecBackUptoCardSaid : Prop := Claim7.holds Tryd.pinned (.plain (OpenSpec.upto decBackSpec)) decBackUptoCard

/-- THE SECOND FORM's CARD OF 'pantographlaw3.DecInts'. -/
def decIntsUptoCard : Claim7 := { stood := { row := decIntsUptoRow, standIns := [], harness := (true, "b101058938b903c78d8175e329d68c13913d7f88be23544422d7c858deeb8083"), looks := false }, kinds := [], alts := [], laidByText := true, laidKinds := [.data, .pinned], laidTests := true, laidLooks := .later }
def DecIntsUptoCardSaid : Prop := Claim7.holds Tryd.pinned (.plain (OpenSpec.upto decIntsSpec)) decIntsUptoCard
end Rows
end Go.Proofs.YtgfadkdgifpddaaDoor
