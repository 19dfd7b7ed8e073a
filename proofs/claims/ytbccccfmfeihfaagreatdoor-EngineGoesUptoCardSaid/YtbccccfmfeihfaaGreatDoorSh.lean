/-
  Contracts of functions of the library at this program: laid by the kit's tools; what this claim needs.
-/
import Derived.Shelf.Strings.Builder1
import Derived.Shelf.Strings.Builder2
import Derived.Shelf.Strings.Trim
import Derived.Shelf.Small.Utf8
import Derived.Shelf.Small.Bits
import Derived.Shelf.Small.Strs
import Derived.Shelf.Small.Wraps
import Derived.Shelf.Strings.BuilderF
import Derived.Shelf.Strings.BuilderK
import Derived.Shelf.Utf8.RuneCount
import Derived.Shelf.Strings.Builder2Cap
import Derived.Shelf.Strconv.Atoi
import Derived.Shelf.Strconv.Itoa0
import Derived.Shelf.Strconv.Itoa1
import Derived.Shelf.LaysM
import Derived.Shelf.Strconv.Itoa2
import Derived.Shelf.Strconv.Itoa3
import Derived.Shelf.Strconv.AtoiErrFast
import Derived.Shelf.Strconv.ParseIntEmpty
import Derived.Shelf.Strconv.AtoiFail
import Derived.Shelf.Strconv.Clone
import Derived.Shelf.Strconv.SyntaxError
import Derived.Shelf.LaysC
import Derived.Shelf.Strconv.ToError
import Derived.Shelf.Strconv.AtoiErr
import Derived.Shelf.Strconv.ErrVar
import Derived.Shelf.Strconv.Lower
import Derived.Shelf.Strconv.ParseUint10
import Derived.Shelf.Strconv.ParseUint10Empty
import Derived.Shelf.Strconv.ParseUint10Any
import Derived.Shelf.Strconv.ParseInt10
import Derived.Shelf.Strconv.AtoiLong
import Derived.Shelf.Strconv.AtoiInnerAll
import Derived.Shelf.Strconv.RangeError
import Derived.Shelf.Strconv.ToErrorRange
import Derived.Shelf.Strconv.AtoiAll
import Derived.Shelf.Strconv.ParseUintEmpty
import Derived.Shelf.Strconv.ParseUint10b64
import Derived.Shelf.Strconv.ParseUint10b32
import Derived.Shelf.Strconv.ParseUint10b16
import Derived.Shelf.Strconv.ParseUint10b8
import Derived.Shelf.Strconv.ParseUint10At
import Derived.Shelf.Strconv.ParseInt10At64
import Derived.Shelf.Strconv.ParseInt10At32
import Derived.Shelf.Strconv.ParseInt10At16
import Derived.Shelf.Strconv.ParseInt10At8
import Derived.Shelf.Strconv.ParseInt10All
import Derived.Shelf.Strings.Search1
import Derived.Shelf.Strings.Search2
import Derived.Shelf.Strings.Search3
import Derived.Shelf.Strings.Cut
import Derived.Shelf.Strings.Count
import Derived.Shelf.Strings.Shaped
import Derived.Shelf.Strings.Prefix
import Derived.Shelf.Strings.Split
import Derived.Shelf.Strings.SplitShaped
import Derived.Shelf.Unicode.Decode
import Derived.Shelf.Strings.Runes
import Derived.Shelf.Strings.RuneCount
import Derived.Shelf.Strings.IndexAny
import Derived.Shelf.Strings.AsciiSet
import Derived.Shelf.Strings.IndexAnyAll
import Derived.Shelf.Strings.Explode
import Derived.Shelf.Bits.Mul64
import Derived.Shelf.Strings.Repeat
import Derived.Shelf.Unicode.DecodeSlow
import Derived.Shelf.Unicode.DecodeAny
import Derived.Shelf.Unicode.DecodeLast
import Derived.Shelf.Strings.FieldsFuncAny
import Derived.Shelf.Strings.FieldsFuncGrows
import Derived.Shelf.Strings.BuilderCap
import Derived.Shelf.Slices.Turned
import Derived.Shelf.Slices.Equal
import Derived.Ground.Names2Prog
import Derived.Shelf.Slices.Clone
import Derived.Shelf.Slices.SearchI
import Derived.Shelf.Slices.Empties2
import Derived.Ground.SlgnProg
import Derived.Shelf.SlicesE.Clone
import Derived.Test.YtbccccfmfeihfaaGreatDoorProg
namespace Go.Proofs.Tryz
open Go.Shelf Go.RowKit
theorem lz{p:Prop}(h:p:=by repeat' first|(intros;kernel_rfl)|decide|constructor):p:=h
def lays137_ren:Ren:=⟨λ| 137=>330 | 217=>287 | 266=>328 | n=>n,λ| 9=>9 | 5=>5 | 3=>3 | n=>n,λ| n=>n⟩
theorem lays137:Lays.n137 prog lays137_ren:=lz
theorem strings_IndexByte(s:ByteArray)(c:Int)(w:World) :
  Calls prog 330 #[.string s,.int .u8 c] w λe w'=>e=.returned (.int .i64 (Lib.indexByte s.data.toList c.toNat.toUInt8))/\w'=w:=Any.strings_IndexByte lays137 s c w
def lays103_ren:Ren:=⟨λ| 103=>231 | 210=>297 | 206=>295 | n=>n,λ| 9=>9 | 4=>4 | 24=>99 | 3=>3 | n=>n,λ| n=>n⟩
theorem lays103:Lays.n103 prog lays103_ren:=lz
theorem strings_CutPrefix(s p:ByteArray)(w:World) :
  Calls prog 231 #[.string s,.string p] w λe w'=>e=.returned (.tuple #[.string ⟨(Lib.trimPrefix s.data.toList p.data.toList).toArray⟩,.bool (Lib.hasPrefix s.data.toList p.data.toList)])/\w'=w:=Any.strings_CutPrefix lays103 s p w
def laysM171_ren:Ren:=⟨λ| 171=>221 | 243=>282 | 246=>326 | 283=>354 | 284=>355 | 285=>356 | 286=>357 | 129=>370 | 317=>369 | 318=>371 | 319=>372 | 320=>373 | 337=>385 | 338=>386 | n=>n,λ| 3=>3 | 9=>9 | 2=>2 | 4=>4 | 171=>411 | 0=>0 | 53=>135 | 37=>169 | 5=>5 | 173=>414 | 212=>424 | 51=>88 | 20=>20 | 213=>425 | 46=>194 | 232=>441 | 233=>442 | n=>n,λ| 17=>4 | 18=>7 | 19=>8 | n=>n⟩
theorem laysM171:LaysM.n171 prog laysM171_ren:=lz
open Go.RowKit Go.Sort Go.Lib in
theorem strconv_Itoa(n:Int)(h0 : -9223372036854775808<=n)(h1:n<=9223372036854775807)(w:World) (htab:Lib.TabIs prog w "internal/strconv.uint64pow10" .u64 Lib.pow10Tab) :
  Calls prog 221 #[.int .i64 n] w λe w'=>e=.returned (.string ⟨(Lib.itoa n).toArray⟩)/\∃ k os,w'=grow (w.drewN k) os:=Any.strconv_Itoa laysM171 n h0 h1 w htab
def laysC172_ren:Ren:=⟨λ| 172=>351 | 244=>366 | 245=>367 | 247=>380 | 279=>381 | 280=>382 | 281=>383 | 282=>384 | 287=>392 | 316=>393 | 171=>221 | 205=>394 | 321=>396 | 322=>397 | 243=>282 | 246=>326 | 283=>354 | 284=>355 | 285=>356 | 286=>357 | 129=>370 | 317=>369 | 318=>371 | 319=>372 | 320=>373 | 337=>385 | 338=>386 | n=>n,λ| 9=>9 | 3=>3 | 75=>173 | 76=>174 | 4=>4 | 5=>5 | 167=>429 | 37=>169 | 0=>0 | 85=>430 | 2=>2 | 168=>432 | 53=>135 | 175=>436 | 46=>194 | 210=>439 | 127=>241 | 145=>447 | 143=>445 | 21=>21 | 171=>411 | 173=>414 | 212=>424 | 51=>88 | 20=>20 | 213=>425 | 232=>441 | 233=>442 | 80=>180 | n=>n,λ| 15=>5 | 16=>6 | 17=>4 | 18=>7 | 19=>8 | n=>n⟩
theorem laysC172:LaysC.n172 prog laysC172_ren:=lz
theorem strconv_Atoi_ok(s:ByteArray)(hmax:s.size<=9223372036854775806)(v:Int)(h:Lib.atoiAll s.data.toList=.ok v)(w:World) :
  Calls prog 351 #[.string s] w λe w'=>e=.returned (.tuple #[.int .i64 v,.nilIface])/\(w'=w\/∃ t,w'=Lib.bytesWorld w 5 t):=Any.strconv_Atoi_ok laysC172 s hmax v h w
def lays144_ren:Ren:=⟨λ| 144=>230 | 143=>170 | 219=>226 | 217=>287 | 225=>288 | 224=>289 | 267=>290 | 266=>328 | 314=>329 | n=>n,λ| 9=>9 | 4=>4 | 3=>3 | 5=>5 | 46=>194 | 146=>311 | 51=>88 | n=>n,λ| 1=>0 | n=>n⟩
theorem lays144:Lays.n144 prog lays144_ren:=lz
open Go.Lib in
theorem strings_Contains(s sub:ByteArray)(m:Int)(w:World)(hs:s.size<4294967281)(hm:w.cell? ⟨0,0,none⟩=some (.int .i64 m)) :
  Calls prog 230 #[.string s,.string sub] w λe w'=>e=.returned (.bool (Lib.contains s.data.toList sub.data.toList))/\w'=w:=Any.strings_Contains lays144 s sub m w hs hm
def lays145_ren:Ren:=⟨λ| 145=>116 | 220=>171 | 219=>226 | 217=>287 | 225=>288 | 224=>289 | 267=>290 | 266=>328 | 314=>329 | n=>n,λ| 9=>9 | 4=>4 | 59=>189 | 3=>3 | 5=>5 | 46=>194 | 146=>311 | 51=>88 | n=>n,λ| 1=>0 | n=>n⟩
theorem lays145:Lays.n145 prog lays145_ren:=lz
open Go.Lib in
theorem strings_Cut(s sep:ByteArray)(m:Int)(w:World)(hs:s.size<4294967281)(hm:w.cell? ⟨0,0,none⟩=some (.int .i64 m)) :
  Calls prog 116 #[.string s,.string sep] w λe w'=>e=.returned (.tuple #[.string ⟨(Lib.cut s.data.toList sep.data.toList).1.toArray⟩,.string ⟨(Lib.cut s.data.toList sep.data.toList).2.1.toArray⟩,.bool (Lib.cut s.data.toList sep.data.toList).2.2])/\∃ n,w'=w.drewN n:=Any.strings_Cut lays145 s sep m w hs hm
def lays146_ren:Ren:=⟨λ| 146=>63 | 221=>115 | 268=>168 | 138=>169 | 143=>170 | 195=>223 | 197=>224 | 218=>225 | 219=>226 | 260=>286 | 217=>287 | 225=>288 | 224=>289 | 267=>290 | 266=>328 | 314=>329 | n=>n,λ| 9=>9 | 31=>51 | 3=>3 | 4=>4 | 0=>0 | 105=>299 | 21=>21 | 5=>5 | 46=>194 | 119=>390 | 139=>393 | 138=>392 | 146=>311 | 51=>88 | n=>n,λ| 1=>0 | 3=>2 | 4=>3 | n=>n⟩
theorem lays146:Lays.n146 prog lays146_ren:=lz
open Go.Lib in
theorem strings_Split(s sep:ByteArray)(m:Int)(w:World)(hs:s.size<4294967281)(hm:w.cell? ⟨0,0,none⟩=some (.int .i64 m))(h1:1<=sep.size) :
  Calls prog 63 #[.string s,.string sep] w λe w' =>
   e=.returned (.slice (some ⟨w.heap.size,0,none⟩) (Lib.countB s sep+1) (Lib.countB s sep+1))/\w'=w.alloc (.cells ((Lib.splitB sep 0 (Lib.countB s sep) s).map Value.string).toArray 9):=Any.strings_Split lays146 (by kernel_rfl) s sep m w hs hm h1
def lays153_ren:Ren:=⟨λ| 153=>227 | 152=>291 | 226=>292 | 227=>293 | 228=>294 | 137=>330 | 119=>331 | 224=>289 | 225=>288 | 217=>287 | 266=>328 | n=>n,λ| 9=>9 | 3=>3 | 4=>4 | 5=>5 | 21=>21 | 117=>367 | 116=>366 | 0=>0 | 46=>194 | 124=>395 | n=>n,λ| n=>n⟩
theorem lays153:Lays.n153 prog lays153_ren:=lz
def lays227_ren:Ren:=⟨λ| 227=>293 | n=>n,λ| 9=>9 | 116=>366 | 4=>4 | 0=>0 | 3=>3 | 5=>5 | n=>n,λ| n=>n⟩
theorem lays227:Lays.n227 prog lays227_ren:=lz
open Go.Lib in
theorem strings_makeASCIISet(hv116:∀ w,(zeroValue 366).run prog w=.ok (.agg (Array.replicate 256 (.bool false))) w)(chars:ByteArray)(w:World)(hs:chars.size<4294967281)(hascii:∀ (j:Nat) b,chars.data.toList[j]? = some b->b.toNat<128) :
  Calls prog 293 #[.string chars] w λe w'=>e=.returned (.tuple #[.agg (Lib.setCells chars.data.toList),.bool true])/\w'=w.alloc (.cells (Lib.setCells chars.data.toList) 366):=Any.strings_makeASCIISet lays227 hv116 (by kernel_rfl) chars w hs hascii
def lays105_ren:Ren:=⟨λ| 105=>358 | 212=>345 | 99=>228 | 165=>374 | 166=>102 | 170=>375 | 169=>107 | 263=>363 | 264=>364 | 206=>295 | 240=>163 | 241=>387 | 276=>219 | 277=>395 | n=>n,λ| 9=>9 | 3=>3 | 4=>4 | 20=>20 | 0=>0 | 46=>194 | 109=>405 | 5=>5 | 72=>171 | 76=>174 | 51=>88 | 146=>311 | 53=>135 | 148=>420 | 70=>168 | 37=>169 | 75=>173 | 127=>241 | 164=>295 | 80=>180 | n=>n,λ| n=>n⟩
theorem lays105:Lays.n105 prog lays105_ren:=lz
theorem Builder_Extra_105:Builder.Extra prog lays105_ren:=lz
open Go.Lib in
theorem strings_Repeat(s:ByteArray)(c:Nat)(w:World)(hc:c<=9223372036854775807)(hlen:s.size*c<=140737488355328) :
  Calls prog 358 #[.string s,.int .i64 c] w λe w'=>e=.returned (.string ⟨(Lib.repeatL s.data.toList c).toArray⟩)/\Below w.heap.size w w':=Any.strings_Repeat lays105 Builder_Extra_105 s c w hc hlen
def lays229_ren:Ren:=⟨λ| 229=>172 | n=>n,λ| 9=>9 | 40=>245 | 31=>51 | 152=>302 | 3=>3 | 0=>0 | 4=>4 | 21=>21 | 154=>304 | n=>n,λ| n=>n⟩
theorem lays229:Lays.n229 prog lays229_ren:=lz
open Go.Lib in
theorem strings_FieldsFunc_runes(g:Nat)(lb:Array Value)(eg:∀ args w,(callFunc g args).run prog w=.ok (.enter g args) w)(p:Nat->Bool)(s:ByteArray)(w:World)(hs:s.size<=4294967296)(hp:PredAtRunes prog g lb p w) :
  Calls prog 172 #[.string s,.func (.func g) #[] lb] w λe w'=>∃ A,e=.returned (.slice (some ⟨A,0,none⟩) (Lib.goFieldsP p s).length (Lib.goFieldsP p s).length)/\w.heap.size<=A /\
   w'.ownsRow w.heap.size 9 1 (.slice (some ⟨A,0,none⟩) (Lib.goFieldsP p s).length (Lib.goFieldsP p s).length) (Lib.goFieldsP p s).length ((Lib.goFieldsP p s).map Value.string)/\Below w.heap.size w w':=Any.strings_FieldsFunc_runes lays229 g lb eg p s w hs hp (by kernel_rfl) (by kernel_rfl)
end Go.Proofs.Tryz
