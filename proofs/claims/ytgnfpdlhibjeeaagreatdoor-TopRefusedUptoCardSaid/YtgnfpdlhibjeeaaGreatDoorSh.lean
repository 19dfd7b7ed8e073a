/-
  Contracts of functions of the library at this program: laid by the kit's tools; what this claim needs.
-/
import Derived.Shelf.Strings.Builder1
import Derived.Shelf.Strings.Builder2
import Derived.Shelf.Strings.Trim
import Derived.Shelf.Small.Utf8
import Derived.Shelf.Small.Bits
import Derived.Shelf.Small.Strs
import Derived.Shelf.Small.Wraps
import Derived.Shelf.Strings.BuilderF
import Derived.Shelf.Strings.BuilderK
import Derived.Shelf.Utf8.RuneCount
import Derived.Shelf.Strings.Builder2Cap
import Derived.Shelf.Strconv.Atoi
import Derived.Shelf.Strconv.Itoa0
import Derived.Shelf.Strconv.Itoa1
import Derived.Shelf.LaysM
import Derived.Shelf.Strconv.Itoa2
import Derived.Shelf.Strconv.Itoa3
import Derived.Shelf.Strconv.AtoiErrFast
import Derived.Shelf.Strconv.ParseIntEmpty
import Derived.Shelf.Strconv.AtoiFail
import Derived.Shelf.Strconv.Clone
import Derived.Shelf.Strconv.SyntaxError
import Derived.Shelf.LaysC
import Derived.Shelf.Strconv.ToError
import Derived.Shelf.Strconv.AtoiErr
import Derived.Shelf.Strconv.ErrVar
import Derived.Shelf.Strconv.Lower
import Derived.Shelf.Strconv.ParseUint10
import Derived.Shelf.Strconv.ParseUint10Empty
import Derived.Shelf.Strconv.ParseUint10Any
import Derived.Shelf.Strconv.ParseInt10
import Derived.Shelf.Strconv.AtoiLong
import Derived.Shelf.Strconv.AtoiInnerAll
import Derived.Shelf.Strconv.RangeError
import Derived.Shelf.Strconv.ToErrorRange
import Derived.Shelf.Strconv.AtoiAll
import Derived.Shelf.Strconv.ParseUintEmpty
import Derived.Shelf.Strconv.ParseUint10b64
import Derived.Shelf.Strconv.ParseUint10b32
import Derived.Shelf.Strconv.ParseUint10b16
import Derived.Shelf.Strconv.ParseUint10b8
import Derived.Shelf.Strconv.ParseUint10At
import Derived.Shelf.Strconv.ParseInt10At64
import Derived.Shelf.Strconv.ParseInt10At32
import Derived.Shelf.Strconv.ParseInt10At16
import Derived.Shelf.Strconv.ParseInt10At8
import Derived.Shelf.Strconv.ParseInt10All
import Derived.Shelf.Strings.Search1
import Derived.Shelf.Strings.Search2
import Derived.Shelf.Strings.Search3
import Derived.Shelf.Strings.Cut
import Derived.Shelf.Strings.Count
import Derived.Shelf.Strings.Shaped
import Derived.Shelf.Strings.Prefix
import Derived.Shelf.Strings.Split
import Derived.Shelf.Strings.SplitShaped
import Derived.Shelf.Unicode.Decode
import Derived.Shelf.Strings.Runes
import Derived.Shelf.Strings.RuneCount
import Derived.Shelf.Strings.IndexAny
import Derived.Shelf.Strings.AsciiSet
import Derived.Shelf.Strings.IndexAnyAll
import Derived.Shelf.Strings.Explode
import Derived.Shelf.Bits.Mul64
import Derived.Shelf.Strings.Repeat
import Derived.Shelf.Unicode.DecodeSlow
import Derived.Shelf.Unicode.DecodeAny
import Derived.Shelf.Unicode.DecodeLast
import Derived.Shelf.Strings.FieldsFuncAny
import Derived.Shelf.Strings.FieldsFuncGrows
import Derived.Shelf.Strings.BuilderCap
import Derived.Shelf.Slices.Turned
import Derived.Shelf.Slices.Equal
import Derived.Ground.Names2Prog
import Derived.Shelf.Slices.Clone
import Derived.Shelf.Slices.SearchI
import Derived.Shelf.Slices.Empties2
import Derived.Ground.SlgnProg
import Derived.Shelf.SlicesE.Clone
import Derived.Test.YtgnfpdlhibjeeaaGreatDoorProg
namespace Go.Proofs.Tryz
open Go.Shelf Go.RowKit
theorem lz{p:Prop}(h:p:=by repeat' first|(intros;kernel_rfl)|decide|constructor):p:=h
def lays137_ren:Ren:=⟨λ| 137=>366 | 217=>330 | 266=>364 | n=>n,λ| 9=>9 | 5=>5 | 3=>3 | n=>n,λ| n=>n⟩
theorem lays137:Lays.n137 prog lays137_ren:=lz
theorem strings_IndexByte(s:ByteArray)(c:Int)(w:World) :
  Calls prog 366 #[.string s,.int .u8 c] w λe w'=>e=.returned (.int .i64 (Lib.indexByte s.data.toList c.toNat.toUInt8))/\w'=w:=Any.strings_IndexByte lays137 s c w
def lays103_ren:Ren:=⟨λ| 103=>295 | 210=>340 | 206=>338 | n=>n,λ| 9=>9 | 4=>4 | 24=>120 | 3=>3 | n=>n,λ| n=>n⟩
theorem lays103:Lays.n103 prog lays103_ren:=lz
theorem strings_CutPrefix(s p:ByteArray)(w:World) :
  Calls prog 295 #[.string s,.string p] w λe w'=>e=.returned (.tuple #[.string ⟨(Lib.trimPrefix s.data.toList p.data.toList).toArray⟩,.bool (Lib.hasPrefix s.data.toList p.data.toList)])/\w'=w:=Any.strings_CutPrefix lays103 s p w
def laysM171_ren:Ren:=⟨λ| 171=>31 | 243=>73 | 246=>127 | 283=>190 | 284=>191 | 285=>192 | 286=>193 | 129=>251 | 317=>250 | 318=>252 | 319=>253 | 320=>254 | 337=>303 | 338=>304 | n=>n,λ| 3=>3 | 9=>9 | 2=>2 | 4=>4 | 171=>259 | 0=>0 | 53=>90 | 37=>198 | 5=>5 | 173=>262 | 212=>325 | 51=>93 | 20=>20 | 213=>326 | 46=>133 | 232=>395 | 233=>396 | n=>n,λ| 17=>0 | 18=>3 | 19=>4 | n=>n⟩
theorem laysM171:LaysM.n171 prog laysM171_ren:=lz
open Go.RowKit Go.Sort Go.Lib in
theorem strconv_Itoa(n:Int)(h0 : -9223372036854775808<=n)(h1:n<=9223372036854775807)(w:World) (htab:Lib.TabIs prog w "internal/strconv.uint64pow10" .u64 Lib.pow10Tab) :
  Calls prog 31 #[.int .i64 n] w λe w'=>e=.returned (.string ⟨(Lib.itoa n).toArray⟩)/\∃ k os,w'=grow (w.drewN k) os:=Any.strconv_Itoa laysM171 n h0 h1 w htab
def laysC172_ren:Ren:=⟨λ| 172=>320 | 244=>360 | 245=>361 | 247=>374 | 279=>375 | 280=>376 | 281=>377 | 282=>378 | 287=>384 | 316=>385 | 171=>31 | 205=>386 | 321=>391 | 322=>392 | 243=>73 | 246=>127 | 283=>190 | 284=>191 | 285=>192 | 286=>193 | 129=>251 | 317=>250 | 318=>252 | 319=>253 | 320=>254 | 337=>303 | 338=>304 | n=>n,λ| 9=>9 | 3=>3 | 75=>236 | 76=>237 | 4=>4 | 5=>5 | 167=>420 | 37=>198 | 0=>0 | 85=>421 | 2=>2 | 168=>423 | 53=>90 | 175=>428 | 46=>133 | 210=>431 | 127=>305 | 145=>438 | 143=>436 | 21=>21 | 171=>259 | 173=>262 | 212=>325 | 51=>93 | 20=>20 | 213=>326 | 232=>395 | 233=>396 | 80=>36 | n=>n,λ| 15=>7 | 16=>8 | 17=>0 | 18=>3 | 19=>4 | n=>n⟩
theorem laysC172:LaysC.n172 prog laysC172_ren:=lz
theorem strconv_Atoi_ok(s:ByteArray)(hmax:s.size<=9223372036854775806)(v:Int)(h:Lib.atoiAll s.data.toList=.ok v)(w:World) :
  Calls prog 320 #[.string s] w λe w'=>e=.returned (.tuple #[.int .i64 v,.nilIface])/\(w'=w\/∃ t,w'=Lib.bytesWorld w 5 t):=Any.strconv_Atoi_ok laysC172 s hmax v h w
def lays144_ren:Ren:=⟨λ| 144=>294 | 143=>241 | 219=>290 | 217=>330 | 225=>331 | 224=>332 | 267=>333 | 266=>364 | 314=>365 | n=>n,λ| 9=>9 | 4=>4 | 3=>3 | 5=>5 | 46=>133 | 146=>264 | 51=>93 | n=>n,λ| 1=>2 | n=>n⟩
theorem lays144:Lays.n144 prog lays144_ren:=lz
open Go.Lib in
theorem strings_Contains(s sub:ByteArray)(m:Int)(w:World)(hs:s.size<4294967281)(hm:w.cell? ⟨2,0,none⟩=some (.int .i64 m)) :
  Calls prog 294 #[.string s,.string sub] w λe w'=>e=.returned (.bool (Lib.contains s.data.toList sub.data.toList))/\w'=w:=Any.strings_Contains lays144 s sub m w hs hm
def lays145_ren:Ren:=⟨λ| 145=>179 | 220=>242 | 219=>290 | 217=>330 | 225=>331 | 224=>332 | 267=>333 | 266=>364 | 314=>365 | n=>n,λ| 9=>9 | 4=>4 | 59=>253 | 3=>3 | 5=>5 | 46=>133 | 146=>264 | 51=>93 | n=>n,λ| 1=>2 | n=>n⟩
theorem lays145:Lays.n145 prog lays145_ren:=lz
open Go.Lib in
theorem strings_Cut(s sep:ByteArray)(m:Int)(w:World)(hs:s.size<4294967281)(hm:w.cell? ⟨2,0,none⟩=some (.int .i64 m)) :
  Calls prog 179 #[.string s,.string sep] w λe w'=>e=.returned (.tuple #[.string ⟨(Lib.cut s.data.toList sep.data.toList).1.toArray⟩,.string ⟨(Lib.cut s.data.toList sep.data.toList).2.1.toArray⟩,.bool (Lib.cut s.data.toList sep.data.toList).2.2])/\∃ n,w'=w.drewN n:=Any.strings_Cut lays145 s sep m w hs hm
def lays146_ren:Ren:=⟨λ| 146=>117 | 221=>178 | 268=>239 | 138=>240 | 143=>241 | 195=>287 | 197=>288 | 218=>289 | 219=>290 | 260=>329 | 217=>330 | 225=>331 | 224=>332 | 267=>333 | 266=>364 | 314=>365 | n=>n,λ| 9=>9 | 31=>38 | 3=>3 | 4=>4 | 0=>0 | 105=>357 | 21=>21 | 5=>5 | 46=>133 | 119=>409 | 139=>412 | 138=>411 | 146=>264 | 51=>93 | n=>n,λ| 1=>2 | 3=>5 | 4=>6 | n=>n⟩
theorem lays146:Lays.n146 prog lays146_ren:=lz
open Go.Lib in
theorem strings_Split(s sep:ByteArray)(m:Int)(w:World)(hs:s.size<4294967281)(hm:w.cell? ⟨2,0,none⟩=some (.int .i64 m))(h1:1<=sep.size) :
  Calls prog 117 #[.string s,.string sep] w λe w' =>
   e=.returned (.slice (some ⟨w.heap.size,0,none⟩) (Lib.countB s sep+1) (Lib.countB s sep+1))/\w'=w.alloc (.cells ((Lib.splitB sep 0 (Lib.countB s sep) s).map Value.string).toArray 9):=Any.strings_Split lays146 (by kernel_rfl) s sep m w hs hm h1
def lays153_ren:Ren:=⟨λ| 153=>291 | 152=>334 | 226=>335 | 227=>336 | 228=>337 | 137=>366 | 119=>367 | 224=>332 | 225=>331 | 217=>330 | 266=>364 | n=>n,λ| 9=>9 | 3=>3 | 4=>4 | 5=>5 | 21=>21 | 117=>389 | 116=>388 | 0=>0 | 46=>133 | 124=>406 | n=>n,λ| n=>n⟩
theorem lays153:Lays.n153 prog lays153_ren:=lz
def lays227_ren:Ren:=⟨λ| 227=>336 | n=>n,λ| 9=>9 | 116=>388 | 4=>4 | 0=>0 | 3=>3 | 5=>5 | n=>n,λ| n=>n⟩
theorem lays227:Lays.n227 prog lays227_ren:=lz
open Go.Lib in
theorem strings_makeASCIISet(hv116:∀ w,(zeroValue 388).run prog w=.ok (.agg (Array.replicate 256 (.bool false))) w)(chars:ByteArray)(w:World)(hs:chars.size<4294967281)(hascii:∀ (j:Nat) b,chars.data.toList[j]? = some b->b.toNat<128) :
  Calls prog 336 #[.string chars] w λe w'=>e=.returned (.tuple #[.agg (Lib.setCells chars.data.toList),.bool true])/\w'=w.alloc (.cells (Lib.setCells chars.data.toList) 388):=Any.strings_makeASCIISet lays227 hv116 (by kernel_rfl) chars w hs hascii
def lays105_ren:Ren:=⟨λ| 105=>379 | 212=>305 | 99=>292 | 165=>387 | 166=>155 | 170=>388 | 169=>156 | 263=>346 | 264=>347 | 206=>338 | 240=>232 | 241=>393 | 276=>282 | 277=>398 | n=>n,λ| 9=>9 | 3=>3 | 4=>4 | 20=>20 | 0=>0 | 46=>133 | 109=>372 | 5=>5 | 72=>233 | 76=>237 | 51=>93 | 146=>264 | 53=>90 | 148=>398 | 70=>231 | 37=>198 | 75=>236 | 127=>305 | 164=>355 | 80=>36 | n=>n,λ| n=>n⟩
theorem lays105:Lays.n105 prog lays105_ren:=lz
theorem Builder_Extra_105:Builder.Extra prog lays105_ren:=lz
open Go.Lib in
theorem strings_Repeat(s:ByteArray)(c:Nat)(w:World)(hc:c<=9223372036854775807)(hlen:s.size*c<=140737488355328) :
  Calls prog 379 #[.string s,.int .i64 c] w λe w'=>e=.returned (.string ⟨(Lib.repeatL s.data.toList c).toArray⟩)/\Below w.heap.size w w':=Any.strings_Repeat lays105 Builder_Extra_105 s c w hc hlen
def lays229_ren:Ren:=⟨λ| 229=>243 | n=>n,λ| 9=>9 | 40=>315 | 31=>38 | 152=>360 | 3=>3 | 0=>0 | 4=>4 | 21=>21 | 154=>362 | n=>n,λ| n=>n⟩
theorem lays229:Lays.n229 prog lays229_ren:=lz
open Go.Lib in
theorem strings_FieldsFunc_runes(g:Nat)(lb:Array Value)(eg:∀ args w,(callFunc g args).run prog w=.ok (.enter g args) w)(p:Nat->Bool)(s:ByteArray)(w:World)(hs:s.size<=4294967296)(hp:PredAtRunes prog g lb p w) :
  Calls prog 243 #[.string s,.func (.func g) #[] lb] w λe w'=>∃ A,e=.returned (.slice (some ⟨A,0,none⟩) (Lib.goFieldsP p s).length (Lib.goFieldsP p s).length)/\w.heap.size<=A /\
   w'.ownsRow w.heap.size 9 1 (.slice (some ⟨A,0,none⟩) (Lib.goFieldsP p s).length (Lib.goFieldsP p s).length) (Lib.goFieldsP p s).length ((Lib.goFieldsP p s).map Value.string)/\Below w.heap.size w w':=Any.strings_FieldsFunc_runes lays229 g lb eg p s w hs hp (by kernel_rfl) (by kernel_rfl)
end Go.Proofs.Tryz
