/-
  Contracts of functions of the library at this program: laid by the kit's tools; what this claim needs.
-/
import Derived.Shelf.Strings.Builder1
import Derived.Shelf.Strings.Builder2
import Derived.Shelf.Small.Bits
import Derived.Shelf.Strings.BuilderF
import Derived.Shelf.Strings.BuilderK
import Derived.Shelf.Strings.Builder2Cap
import Derived.Shelf.Strings.Prefix
import Derived.Shelf.Bits.Mul64
import Derived.Shelf.Strings.Repeat
import Derived.Shelf.Strings.BuilderCap
import Derived.Ground.SlgnProg
import Derived.Shelf.SlicesE.Clone
import Derived.Test.YtehllfdnkcoehaaProg
namespace Go.Proofs
open Go.Shelf
def Try.lays105_ren : Go.Shelf.Ren := ⟨fun | 105 => 81 | 212 => 82 | 99 => 83 | 165 => 84 | 166 => 16 | 170 => 85 | 169 => 18 | 263 => 86 | 264 => 87 | 206 => 88 | 240 => 27 | 241 => 89 | 276 => 38 | 277 => 90 | n => n, fun | 9 => 9 | 3 => 3 | 4 => 4 | 20 => 20 | 0 => 0 | 46 => 100 | 109 => 139 | 5 => 5 | 72 => 76 | 76 => 79 | 51 => 64 | 146 => 117 | 53 => 91 | 148 => 145 | 70 => 73 | 37 => 74 | 75 => 78 | 127 => 96 | 164 => 104 | 80 => 82 | n => n, fun | n => n⟩
theorem Try.lays105 : Go.Proofs.Lays.n105 Try.prog Try.lays105_ren := {
  mixed := by kernel_rfl
  f99 := Try.func83.trans (congrArg some (by kernel_rfl))
  f105 := Try.func81.trans (congrArg some (by kernel_rfl))
  f165 := Try.func84.trans (congrArg some (by kernel_rfl))
  f166 := Try.func16.trans (congrArg some (by kernel_rfl))
  f169 := Try.func18.trans (congrArg some (by kernel_rfl))
  f170 := Try.func85.trans (congrArg some (by kernel_rfl))
  f206 := Try.func88.trans (congrArg some (by kernel_rfl))
  f212 := Try.func82.trans (congrArg some (by kernel_rfl))
  f240 := Try.func27.trans (congrArg some (by kernel_rfl))
  f241 := Try.func89.trans (congrArg some (by kernel_rfl))
  f263 := Try.func86.trans (congrArg some (by kernel_rfl))
  f264 := Try.func87.trans (congrArg some (by kernel_rfl))
  f276 := Try.func38.trans (congrArg some (by kernel_rfl))
  f277 := Try.func90.trans (congrArg some (by kernel_rfl))
  t0 := Try.underlying0
  a0 := Try.isAgg0
  z0 := Try.sizeOf0
  v0 := Try.zeroValue0
  t3 := Try.underlying3
  a3 := Try.isAgg3
  z3 := Try.sizeOf3
  v3 := Try.zeroValue3
  t4 := Try.underlying4
  a4 := Try.isAgg4
  z4 := Try.sizeOf4
  v4 := Try.zeroValue4
  t5 := Try.underlying5
  a5 := Try.isAgg5
  z5 := Try.sizeOf5
  v5 := Try.zeroValue5
  t9 := Try.underlying9
  a9 := Try.isAgg9
  z9 := Try.sizeOf9
  v9 := Try.zeroValue9
  t20 := Try.underlying20
  a20 := Try.isAgg20
  z20 := Try.sizeOf20
  v20 := Try.zeroValue20
  t37 := Try.underlying74
  a37 := Try.isAgg74
  z37 := Try.sizeOf74
  v37 := Try.zeroValue74
  t46 := Try.underlying100
  a46 := Try.isAgg100
  z46 := Try.sizeOf100
  v46 := Try.zeroValue100
  t51 := Try.underlying64
  a51 := Try.isAgg64
  z51 := Try.sizeOf64
  v51 := Try.zeroValue64
  t53 := Try.underlying91
  a53 := Try.isAgg91
  z53 := Try.sizeOf91
  v53 := Try.zeroValue91
  t70 := Try.underlying73
  a70 := Try.isAgg73
  z70 := Try.sizeOf73
  v70 := Try.zeroValue73
  t72 := Try.underlying76
  a72 := Try.isAgg76
  z72 := Try.sizeOf76
  v72 := Try.zeroValue76
  t75 := Try.underlying78
  a75 := Try.isAgg78
  z75 := Try.sizeOf78
  v75 := Try.zeroValue78
  t76 := Try.underlying79
  a76 := Try.isAgg79
  z76 := Try.sizeOf79
  v76 := Try.zeroValue79
  t109 := Try.underlying139
  a109 := Try.isAgg139
  z109 := Try.sizeOf139
  v109 := Try.zeroValue139
  t127 := Try.underlying96
  a127 := Try.isAgg96
  z127 := Try.sizeOf96
  v127 := Try.zeroValue96
  t146 := Try.underlying117
  a146 := Try.isAgg117
  z146 := Try.sizeOf117
  v146 := Try.zeroValue117
  t148 := Try.underlying145
  a148 := Try.isAgg145
  z148 := Try.sizeOf145
  v148 := Try.zeroValue145
  t164 := Try.underlying104
  a164 := Try.isAgg104
  z164 := Try.sizeOf104
  v164 := Try.zeroValue104 }
theorem Try.Builder_Extra_105 : Builder.Extra Try.prog Try.lays105_ren := {
  sizeBuilder := by kernel_rfl
  liesBuilder := by kernel_rfl
  t5 := Try.underlying5
  a5 := Try.isAgg5
  z5 := Try.sizeOf5
  v5 := Try.zeroValue5
  infoByte := by kernel_rfl
  cellsByte := by kernel_rfl
  sizeByte := by kernel_rfl
  neB5 := by decide }
open Go.RowKit Go.Lib in
theorem Try.strings_Repeat (s : ByteArray) (c : Nat) (w : World) (hc : c ≤ 9223372036854775807) (hlen : s.size * c ≤ 140737488355328) :
    Calls Try.prog 81 #[.string s, .int .i64 c] w fun e w' => e = .returned (.string ⟨(Lib.repeatL s.data.toList c).toArray⟩) ∧ Below w.heap.size w w' := Any.strings_Repeat Try.lays105 Try.Builder_Extra_105 s c w hc hlen
end Go.Proofs
