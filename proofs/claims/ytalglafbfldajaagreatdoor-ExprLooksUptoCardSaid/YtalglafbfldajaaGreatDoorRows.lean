/-
  NARROWER THAN 'FOR EVERY INPUT', by the rows' own cells (each row's printed sentence says how): ExprParses: laid · ExprBack: loops, laid · ExprSettles: laid · ExprLeft: laid · ExprBlanks: loops, laid · ExprCut: loops, laid · ExprDeep: laid · ExprLooks: loops, laid.
  DERIVED. THE GIVEN ROWS OF THIS SEAT. 8 by the template 'for every input the law returns true; each argument reads behind the call as it read before'; 0 by the template 'total and deterministic' (their statements: YtalglafbfldajaaGreatDoorTotals.lean).
  GIVEN WITH THE SEED: the statements are not yours to turn. If you find one false, say at which input.
  Laid BY PROGRAM, IN A SANDBOX (cutbox-rows.mjs): the forced cells as the released guide's own fill.sh prints them over the translation 0a532be24718b7d1… (all of the seat's roots in one cut). By AI agents, Wed Nov 11 2026. No macro, syntax, notation, axiom, sorry.
-/
import Derived.Test.YtalglafbfldajaaGreatDoorChecked
import GoSem.PinnedTables
import GoSem.Claim
import GoSem.ClaimJoined
import GoSem.ClaimMapViews
import Derived.JoinedTies
import Derived.KernelRfl
namespace Go.Proofs.YtalglafbfldajaaGreatDoor
/- THE CELL 'sum', in the pinned program and in every row, IS THE sha256 OF THE DUMP (.gsa) THAT YtalglafbfldajaaGreatDoorProg.lean LOADS. Nothing in Lean hashes anything: it is a label: what it is worth is what the hold of that sum in a sandbox is worth. -/
noncomputable def Tryz.pinned : Pinned := { name := "ytalglafbfldajaagreatdoor", sum := "0a532be24718b7d14507eff5c2e15c1cdff6557133967a1b5165b8c399d08490", checked := Tryz.checked }
namespace Rows
def none {H : Type} : Left H := { results := [], args := [] }

/- WHAT THE LISTED PACKAGE-LEVEL VARIABLES READ AS WHEN THE CALL BEGINS. Each datum BY PROGRAM (the guide's laid-datum.mjs) off the statement by which the dump's own 'gosem.cut.vars' lays the variable. In a bare row this is a premise. The card (YtalglafbfldajaaGreatDoorCards.lean) ties it to the program's text. -/
def laid_unicode_utf8_acceptRanges {H : Type} : DataW H := .agg [.agg [.lit (.int .u8 128), .lit (.int .u8 191)], .agg [.lit (.int .u8 160), .lit (.int .u8 191)], .agg [.lit (.int .u8 128), .lit (.int .u8 159)], .agg [.lit (.int .u8 144), .lit (.int .u8 191)], .agg [.lit (.int .u8 128), .lit (.int .u8 143)], .agg [.lit (.int .u8 0), .lit (.int .u8 0)], .agg [.lit (.int .u8 0), .lit (.int .u8 0)], .agg [.lit (.int .u8 0), .lit (.int .u8 0)], .agg [.lit (.int .u8 0), .lit (.int .u8 0)], .agg [.lit (.int .u8 0), .lit (.int .u8 0)], .agg [.lit (.int .u8 0), .lit (.int .u8 0)], .agg [.lit (.int .u8 0), .lit (.int .u8 0)], .agg [.lit (.int .u8 0), .lit (.int .u8 0)], .agg [.lit (.int .u8 0), .lit (.int .u8 0)], .agg [.lit (.int .u8 0), .lit (.int .u8 0)], .agg [.lit (.int .u8 0), .lit (.int .u8 0)]]
/-- One of Go's own tables, pinned by name: the form's constant. -/
def laid_unicode_utf8_first : DataW Unit := Go.Pinned.utf8First

/-- 'pantographlaw5.ExprParses': WHATEVER THE INPUT: true; the input reads as it did. -/
def exprParsesSpec : ChangeSpec := { name := "exprParses", fn := fun _ => fun
  | [d] => { results := [.lit (.bool true)], args := [d] }
  | _ => none }
def exprParsesRow : OpenClaim := { program := "ytalglafbfldajaagreatdoor", sum := "0a532be24718b7d14507eff5c2e15c1cdff6557133967a1b5165b8c399d08490", func := "pantograph/pantographlaw5.ExprParses", spec := "exprParses", inPlace := ["internal/bytealg.IndexByteString", "internal/bytealg.IndexString", "internal/abi.NoEscape", "internal/bytealg.MakeNoZero"], unfollowed := true, recurses := true, named := ["internal/bytealg.MaxLen", "unicode/utf8.first", "unicode/utf8.acceptRanges", "math/bits.overflowError"], apart := false, laid := [("unicode/utf8.acceptRanges", laid_unicode_utf8_acceptRanges), ("unicode/utf8.first", laid_unicode_utf8_first)] }
def ExprParsesSaid : Prop := exprParsesRow.holds Tryz.pinned (OpenSpec.ofChange exprParsesSpec)

/-- ITS FALSE NEIGHBOUR: 'it returns false'. Refute it at one input. -/
def exprParsesWrong : ChangeSpec := { name := "exprParses", fn := fun _ => fun
  | [d] => { results := [.lit (.bool false)], args := [d] }
  | _ => none }
def ExprParsesWrongFalsely : Prop := exprParsesRow.holds Tryz.pinned (OpenSpec.ofChange exprParsesWrong)

/-- 'pantographlaw5.ExprBack': WHATEVER THE INPUT: true; the input reads as it did. -/
def exprBackSpec : ChangeSpec := { name := "exprBack", fn := fun _ => fun
  | [d] => { results := [.lit (.bool true)], args := [d] }
  | _ => none }
def exprBackRow : OpenClaim := { program := "ytalglafbfldajaagreatdoor", sum := "0a532be24718b7d14507eff5c2e15c1cdff6557133967a1b5165b8c399d08490", func := "pantograph/pantographlaw5.ExprBack", spec := "exprBack", inPlace := ["internal/abi.NoEscape", "internal/bytealg.MakeNoZero", "internal/bytealg.IndexByteString", "internal/bytealg.IndexString"], unfollowed := true, recurses := true, named := ["math/bits.overflowError", "internal/bytealg.MaxLen", "unicode/utf8.first", "unicode/utf8.acceptRanges"], loops := true, apart := false, laid := [("unicode/utf8.acceptRanges", laid_unicode_utf8_acceptRanges), ("unicode/utf8.first", laid_unicode_utf8_first)] }
def ExprBackSaid : Prop := exprBackRow.holds Tryz.pinned (OpenSpec.ofChange exprBackSpec)

/-- ITS FALSE NEIGHBOUR: 'it returns false'. Refute it at one input. -/
def exprBackWrong : ChangeSpec := { name := "exprBack", fn := fun _ => fun
  | [d] => { results := [.lit (.bool false)], args := [d] }
  | _ => none }
def ExprBackWrongFalsely : Prop := exprBackRow.holds Tryz.pinned (OpenSpec.ofChange exprBackWrong)

/-- 'pantographlaw5.ExprSettles': WHATEVER THE INPUT: true; the input reads as it did. -/
def exprSettlesSpec : ChangeSpec := { name := "exprSettles", fn := fun _ => fun
  | [d] => { results := [.lit (.bool true)], args := [d] }
  | _ => none }
def exprSettlesRow : OpenClaim := { program := "ytalglafbfldajaagreatdoor", sum := "0a532be24718b7d14507eff5c2e15c1cdff6557133967a1b5165b8c399d08490", func := "pantograph/pantographlaw5.ExprSettles", spec := "exprSettles", inPlace := ["internal/bytealg.IndexByteString", "internal/bytealg.IndexString", "internal/abi.NoEscape", "internal/bytealg.MakeNoZero"], unfollowed := true, recurses := true, named := ["internal/bytealg.MaxLen", "unicode/utf8.first", "unicode/utf8.acceptRanges", "math/bits.overflowError"], apart := false, laid := [("unicode/utf8.acceptRanges", laid_unicode_utf8_acceptRanges), ("unicode/utf8.first", laid_unicode_utf8_first)] }
def ExprSettlesSaid : Prop := exprSettlesRow.holds Tryz.pinned (OpenSpec.ofChange exprSettlesSpec)

/-- ITS FALSE NEIGHBOUR: 'it returns false'. Refute it at one input. -/
def exprSettlesWrong : ChangeSpec := { name := "exprSettles", fn := fun _ => fun
  | [d] => { results := [.lit (.bool false)], args := [d] }
  | _ => none }
def ExprSettlesWrongFalsely : Prop := exprSettlesRow.holds Tryz.pinned (OpenSpec.ofChange exprSettlesWrong)

/-- 'pantographlaw5.ExprLeft': WHATEVER THE INPUT: true; the input reads as it did. -/
def exprLeftSpec : ChangeSpec := { name := "exprLeft", fn := fun _ => fun
  | [d1, d2] => { results := [.lit (.bool true)], args := [d1, d2] }
  | _ => none }
def exprLeftRow : OpenClaim := { program := "ytalglafbfldajaagreatdoor", sum := "0a532be24718b7d14507eff5c2e15c1cdff6557133967a1b5165b8c399d08490", func := "pantograph/pantographlaw5.ExprLeft", spec := "exprLeft", inPlace := ["internal/bytealg.IndexByteString", "internal/bytealg.IndexString", "internal/abi.NoEscape", "internal/bytealg.MakeNoZero"], unfollowed := true, recurses := true, named := ["internal/bytealg.MaxLen", "unicode/utf8.first", "unicode/utf8.acceptRanges", "math/bits.overflowError"], apart := false, laid := [("unicode/utf8.acceptRanges", laid_unicode_utf8_acceptRanges), ("unicode/utf8.first", laid_unicode_utf8_first)] }
def ExprLeftSaid : Prop := exprLeftRow.holds Tryz.pinned (OpenSpec.ofChange exprLeftSpec)

/-- ITS FALSE NEIGHBOUR: 'it returns false'. Refute it at one input. -/
def exprLeftWrong : ChangeSpec := { name := "exprLeft", fn := fun _ => fun
  | [d1, d2] => { results := [.lit (.bool false)], args := [d1, d2] }
  | _ => none }
def ExprLeftWrongFalsely : Prop := exprLeftRow.holds Tryz.pinned (OpenSpec.ofChange exprLeftWrong)

/-- 'pantographlaw5.ExprBlanks': WHATEVER THE INPUT: true; the input reads as it did. -/
def exprBlanksSpec : ChangeSpec := { name := "exprBlanks", fn := fun _ => fun
  | [d1, d2, d3] => { results := [.lit (.bool true)], args := [d1, d2, d3] }
  | _ => none }
def exprBlanksRow : OpenClaim := { program := "ytalglafbfldajaagreatdoor", sum := "0a532be24718b7d14507eff5c2e15c1cdff6557133967a1b5165b8c399d08490", func := "pantograph/pantographlaw5.ExprBlanks", spec := "exprBlanks", inPlace := ["internal/bytealg.IndexByteString", "internal/bytealg.IndexString", "internal/abi.NoEscape", "internal/bytealg.MakeNoZero"], unfollowed := true, recurses := true, named := ["internal/bytealg.MaxLen", "unicode/utf8.first", "unicode/utf8.acceptRanges", "math/bits.overflowError"], loops := true, apart := false, laid := [("unicode/utf8.acceptRanges", laid_unicode_utf8_acceptRanges), ("unicode/utf8.first", laid_unicode_utf8_first)] }
def ExprBlanksSaid : Prop := exprBlanksRow.holds Tryz.pinned (OpenSpec.ofChange exprBlanksSpec)

/-- ITS FALSE NEIGHBOUR: 'it returns false'. Refute it at one input. -/
def exprBlanksWrong : ChangeSpec := { name := "exprBlanks", fn := fun _ => fun
  | [d1, d2, d3] => { results := [.lit (.bool false)], args := [d1, d2, d3] }
  | _ => none }
def ExprBlanksWrongFalsely : Prop := exprBlanksRow.holds Tryz.pinned (OpenSpec.ofChange exprBlanksWrong)

/-- 'pantographlaw5.ExprCut': WHATEVER THE INPUT: true; the input reads as it did. -/
def exprCutSpec : ChangeSpec := { name := "exprCut", fn := fun _ => fun
  | [d1, d2] => { results := [.lit (.bool true)], args := [d1, d2] }
  | _ => none }
def exprCutRow : OpenClaim := { program := "ytalglafbfldajaagreatdoor", sum := "0a532be24718b7d14507eff5c2e15c1cdff6557133967a1b5165b8c399d08490", func := "pantograph/pantographlaw5.ExprCut", spec := "exprCut", inPlace := ["internal/bytealg.IndexByteString", "internal/bytealg.IndexString", "internal/abi.NoEscape", "internal/bytealg.MakeNoZero"], unfollowed := true, recurses := true, named := ["internal/bytealg.MaxLen", "unicode/utf8.first", "unicode/utf8.acceptRanges", "math/bits.overflowError"], loops := true, apart := false, laid := [("unicode/utf8.acceptRanges", laid_unicode_utf8_acceptRanges), ("unicode/utf8.first", laid_unicode_utf8_first)] }
def ExprCutSaid : Prop := exprCutRow.holds Tryz.pinned (OpenSpec.ofChange exprCutSpec)

/-- ITS FALSE NEIGHBOUR: 'it returns false'. Refute it at one input. -/
def exprCutWrong : ChangeSpec := { name := "exprCut", fn := fun _ => fun
  | [d1, d2] => { results := [.lit (.bool false)], args := [d1, d2] }
  | _ => none }
def ExprCutWrongFalsely : Prop := exprCutRow.holds Tryz.pinned (OpenSpec.ofChange exprCutWrong)

/-- 'pantographlaw5.ExprDeep': WHATEVER THE INPUT: true; the input reads as it did. -/
def exprDeepSpec : ChangeSpec := { name := "exprDeep", fn := fun _ => fun
  | [d1, d2] => { results := [.lit (.bool true)], args := [d1, d2] }
  | _ => none }
def exprDeepRow : OpenClaim := { program := "ytalglafbfldajaagreatdoor", sum := "0a532be24718b7d14507eff5c2e15c1cdff6557133967a1b5165b8c399d08490", func := "pantograph/pantographlaw5.ExprDeep", spec := "exprDeep", inPlace := ["internal/bytealg.IndexByteString", "internal/bytealg.IndexString", "internal/abi.NoEscape", "internal/bytealg.MakeNoZero"], unfollowed := true, recurses := true, named := ["internal/bytealg.MaxLen", "unicode/utf8.first", "unicode/utf8.acceptRanges", "math/bits.overflowError"], apart := false, laid := [("unicode/utf8.acceptRanges", laid_unicode_utf8_acceptRanges), ("unicode/utf8.first", laid_unicode_utf8_first)] }
def ExprDeepSaid : Prop := exprDeepRow.holds Tryz.pinned (OpenSpec.ofChange exprDeepSpec)

/-- ITS FALSE NEIGHBOUR: 'it returns false'. Refute it at one input. -/
def exprDeepWrong : ChangeSpec := { name := "exprDeep", fn := fun _ => fun
  | [d1, d2] => { results := [.lit (.bool false)], args := [d1, d2] }
  | _ => none }
def ExprDeepWrongFalsely : Prop := exprDeepRow.holds Tryz.pinned (OpenSpec.ofChange exprDeepWrong)

/-- 'pantographlaw5.ExprLooks': WHATEVER THE INPUT: true; the input reads as it did. -/
def exprLooksSpec : ChangeSpec := { name := "exprLooks", fn := fun _ => fun
  | [d1, d2] => { results := [.lit (.bool true)], args := [d1, d2] }
  | _ => none }
def exprLooksRow : OpenClaim := { program := "ytalglafbfldajaagreatdoor", sum := "0a532be24718b7d14507eff5c2e15c1cdff6557133967a1b5165b8c399d08490", func := "pantograph/pantographlaw5.ExprLooks", spec := "exprLooks", inPlace := ["internal/abi.NoEscape", "internal/bytealg.MakeNoZero", "internal/bytealg.IndexByteString", "internal/bytealg.IndexString"], unfollowed := true, recurses := true, named := ["math/bits.overflowError", "internal/bytealg.MaxLen", "unicode/utf8.first", "unicode/utf8.acceptRanges"], loops := true, apart := false, laid := [("unicode/utf8.acceptRanges", laid_unicode_utf8_acceptRanges), ("unicode/utf8.first", laid_unicode_utf8_first)] }
def ExprLooksSaid : Prop := exprLooksRow.holds Tryz.pinned (OpenSpec.ofChange exprLooksSpec)

/-- ITS FALSE NEIGHBOUR: 'it returns false'. Refute it at one input. -/
def exprLooksWrong : ChangeSpec := { name := "exprLooks", fn := fun _ => fun
  | [d1, d2] => { results := [.lit (.bool false)], args := [d1, d2] }
  | _ => none }
def ExprLooksWrongFalsely : Prop := exprLooksRow.holds Tryz.pinned (OpenSpec.ofChange exprLooksWrong)

/- THE SECOND FORM. 'bulk': how many values and letters a reading holds, each counted each time it is reached (what is shared counts as often as it is met; a slice's spare places count too). A statement '..UptoSaid' is the law's where the arguments, and the package variables that the reading takes, are together of bulk at most 1048576: NARROWER than '..Said'. Prove '..Said' where nothing that the law and all that it calls make is longer than what came in: it says more and counts as full. Else prove '..UptoSaid'. A law counts once. -/
mutual
def uptoBulk {H : Type} : DataW H → Nat
  | .lit (.string bytes) => bytes.length + 1
  | .lit _ => 1
  | .nil => 1
  | .ptr d => uptoBulk d + 1
  | .slice elems spare => uptoBulkAll elems + uptoBulkAll spare + 1
  | .agg parts => uptoBulkAll parts + 1
  | .iface _ d => uptoBulk d + 1
  | .map entries => uptoBulkEntries entries + 1
  | .held _ => 1
def uptoBulkAll {H : Type} : List (DataW H) → Nat
  | [] => 0
  | d :: r => uptoBulk d + uptoBulkAll r
def uptoBulkEntries {H : Type} : List (Lit × DataW H) → Nat
  | [] => 0
  | x :: r => uptoBulkEntry x + uptoBulkEntries r
def uptoBulkEntry {H : Type} : Lit × DataW H → Nat
  | (.string bytes, d) => bytes.length + uptoBulk d + 1
  | (_, d) => uptoBulk d + 1
 end
def uptoSmall : (H : Type) → List (DataW H) → Bool := fun _ ds => decide (uptoBulkAll ds ≤ 1048576)
def OpenSpec.upto (s : _root_.Go.ChangeSpec) : _root_.Go.OpenSpec := { _root_.Go.OpenSpec.ofChange s with cond := some uptoSmall }

/-- 'pantographlaw5.ExprParses', WHERE WHAT IT READS IS OF BULK AT MOST 1048576: true; the input reads as it did. -/
def exprParsesUptoRow : OpenClaim := { program := "ytalglafbfldajaagreatdoor", sum := "0a532be24718b7d14507eff5c2e15c1cdff6557133967a1b5165b8c399d08490", func := "pantograph/pantographlaw5.ExprParses", spec := "exprParses", inPlace := ["internal/bytealg.IndexByteString", "internal/bytealg.IndexString", "internal/abi.NoEscape", "internal/bytealg.MakeNoZero"], unfollowed := true, recurses := true, named := ["internal/bytealg.MaxLen", "unicode/utf8.first", "unicode/utf8.acceptRanges", "math/bits.overflowError"], apart := false, laid := [("unicode/utf8.acceptRanges", laid_unicode_utf8_acceptRanges), ("unicode/utf8.first", laid_unicode_utf8_first)], narrowed := true }
def ExprParsesUptoSaid : Prop := exprParsesUptoRow.holds Tryz.pinned (OpenSpec.upto exprParsesSpec)

/-- 'pantographlaw5.ExprBack', WHERE WHAT IT READS IS OF BULK AT MOST 1048576: true; the input reads as it did. -/
def exprBackUptoRow : OpenClaim := { program := "ytalglafbfldajaagreatdoor", sum := "0a532be24718b7d14507eff5c2e15c1cdff6557133967a1b5165b8c399d08490", func := "pantograph/pantographlaw5.ExprBack", spec := "exprBack", inPlace := ["internal/abi.NoEscape", "internal/bytealg.MakeNoZero", "internal/bytealg.IndexByteString", "internal/bytealg.IndexString"], unfollowed := true, recurses := true, named := ["math/bits.overflowError", "internal/bytealg.MaxLen", "unicode/utf8.first", "unicode/utf8.acceptRanges"], loops := true, apart := false, laid := [("unicode/utf8.acceptRanges", laid_unicode_utf8_acceptRanges), ("unicode/utf8.first", laid_unicode_utf8_first)], narrowed := true }
def ExprBackUptoSaid : Prop := exprBackUptoRow.holds Tryz.pinned (OpenSpec.upto exprBackSpec)

/-- 'pantographlaw5.ExprSettles', WHERE WHAT IT READS IS OF BULK AT MOST 1048576: true; the input reads as it did. -/
def exprSettlesUptoRow : OpenClaim := { program := "ytalglafbfldajaagreatdoor", sum := "0a532be24718b7d14507eff5c2e15c1cdff6557133967a1b5165b8c399d08490", func := "pantograph/pantographlaw5.ExprSettles", spec := "exprSettles", inPlace := ["internal/bytealg.IndexByteString", "internal/bytealg.IndexString", "internal/abi.NoEscape", "internal/bytealg.MakeNoZero"], unfollowed := true, recurses := true, named := ["internal/bytealg.MaxLen", "unicode/utf8.first", "unicode/utf8.acceptRanges", "math/bits.overflowError"], apart := false, laid := [("unicode/utf8.acceptRanges", laid_unicode_utf8_acceptRanges), ("unicode/utf8.first", laid_unicode_utf8_first)], narrowed := true }
def ExprSettlesUptoSaid : Prop := exprSettlesUptoRow.holds Tryz.pinned (OpenSpec.upto exprSettlesSpec)

/-- 'pantographlaw5.ExprLeft', WHERE WHAT IT READS IS OF BULK AT MOST 1048576: true; the input reads as it did. -/
def exprLeftUptoRow : OpenClaim := { program := "ytalglafbfldajaagreatdoor", sum := "0a532be24718b7d14507eff5c2e15c1cdff6557133967a1b5165b8c399d08490", func := "pantograph/pantographlaw5.ExprLeft", spec := "exprLeft", inPlace := ["internal/bytealg.IndexByteString", "internal/bytealg.IndexString", "internal/abi.NoEscape", "internal/bytealg.MakeNoZero"], unfollowed := true, recurses := true, named := ["internal/bytealg.MaxLen", "unicode/utf8.first", "unicode/utf8.acceptRanges", "math/bits.overflowError"], apart := false, laid := [("unicode/utf8.acceptRanges", laid_unicode_utf8_acceptRanges), ("unicode/utf8.first", laid_unicode_utf8_first)], narrowed := true }
def ExprLeftUptoSaid : Prop := exprLeftUptoRow.holds Tryz.pinned (OpenSpec.upto exprLeftSpec)

/-- 'pantographlaw5.ExprBlanks', WHERE WHAT IT READS IS OF BULK AT MOST 1048576: true; the input reads as it did. -/
def exprBlanksUptoRow : OpenClaim := { program := "ytalglafbfldajaagreatdoor", sum := "0a532be24718b7d14507eff5c2e15c1cdff6557133967a1b5165b8c399d08490", func := "pantograph/pantographlaw5.ExprBlanks", spec := "exprBlanks", inPlace := ["internal/bytealg.IndexByteString", "internal/bytealg.IndexString", "internal/abi.NoEscape", "internal/bytealg.MakeNoZero"], unfollowed := true, recurses := true, named := ["internal/bytealg.MaxLen", "unicode/utf8.first", "unicode/utf8.acceptRanges", "math/bits.overflowError"], loops := true, apart := false, laid := [("unicode/utf8.acceptRanges", laid_unicode_utf8_acceptRanges), ("unicode/utf8.first", laid_unicode_utf8_first)], narrowed := true }
def ExprBlanksUptoSaid : Prop := exprBlanksUptoRow.holds Tryz.pinned (OpenSpec.upto exprBlanksSpec)

/-- 'pantographlaw5.ExprCut', WHERE WHAT IT READS IS OF BULK AT MOST 1048576: true; the input reads as it did. -/
def exprCutUptoRow : OpenClaim := { program := "ytalglafbfldajaagreatdoor", sum := "0a532be24718b7d14507eff5c2e15c1cdff6557133967a1b5165b8c399d08490", func := "pantograph/pantographlaw5.ExprCut", spec := "exprCut", inPlace := ["internal/bytealg.IndexByteString", "internal/bytealg.IndexString", "internal/abi.NoEscape", "internal/bytealg.MakeNoZero"], unfollowed := true, recurses := true, named := ["internal/bytealg.MaxLen", "unicode/utf8.first", "unicode/utf8.acceptRanges", "math/bits.overflowError"], loops := true, apart := false, laid := [("unicode/utf8.acceptRanges", laid_unicode_utf8_acceptRanges), ("unicode/utf8.first", laid_unicode_utf8_first)], narrowed := true }
def ExprCutUptoSaid : Prop := exprCutUptoRow.holds Tryz.pinned (OpenSpec.upto exprCutSpec)

/-- 'pantographlaw5.ExprDeep', WHERE WHAT IT READS IS OF BULK AT MOST 1048576: true; the input reads as it did. -/
def exprDeepUptoRow : OpenClaim := { program := "ytalglafbfldajaagreatdoor", sum := "0a532be24718b7d14507eff5c2e15c1cdff6557133967a1b5165b8c399d08490", func := "pantograph/pantographlaw5.ExprDeep", spec := "exprDeep", inPlace := ["internal/bytealg.IndexByteString", "internal/bytealg.IndexString", "internal/abi.NoEscape", "internal/bytealg.MakeNoZero"], unfollowed := true, recurses := true, named := ["internal/bytealg.MaxLen", "unicode/utf8.first", "unicode/utf8.acceptRanges", "math/bits.overflowError"], apart := false, laid := [("unicode/utf8.acceptRanges", laid_unicode_utf8_acceptRanges), ("unicode/utf8.first", laid_unicode_utf8_first)], narrowed := true }
def ExprDeepUptoSaid : Prop := exprDeepUptoRow.holds Tryz.pinned (OpenSpec.upto exprDeepSpec)

/-- 'pantographlaw5.ExprLooks', WHERE WHAT IT READS IS OF BULK AT MOST 1048576: true; the input reads as it did. -/
def exprLooksUptoRow : OpenClaim := { program := "ytalglafbfldajaagreatdoor", sum := "0a532be24718b7d14507eff5c2e15c1cdff6557133967a1b5165b8c399d08490", func := "pantograph/pantographlaw5.ExprLooks", spec := "exprLooks", inPlace := ["internal/abi.NoEscape", "internal/bytealg.MakeNoZero", "internal/bytealg.IndexByteString", "internal/bytealg.IndexString"], unfollowed := true, recurses := true, named := ["math/bits.overflowError", "internal/bytealg.MaxLen", "unicode/utf8.first", "unicode/utf8.acceptRanges"], loops := true, apart := false, laid := [("unicode/utf8.acceptRanges", laid_unicode_utf8_acceptRanges), ("unicode/utf8.first", laid_unicode_utf8_first)], narrowed := true }
def ExprLooksUptoSaid : Prop := exprLooksUptoRow.holds Tryz.pinned (OpenSpec.upto exprLooksSpec)

end Rows
end Go.Proofs.YtalglafbfldajaaGreatDoor
