/-
  Contracts of functions of the library at this program: laid by the kit's tools; what this claim needs.
-/
import Derived.Shelf.Strings.Builder1
import Derived.Shelf.Strings.Builder2
import Derived.Shelf.Strings.Trim
import Derived.Shelf.Small.Utf8
import Derived.Shelf.Small.Bits
import Derived.Shelf.Small.Strs
import Derived.Shelf.Small.Wraps
import Derived.Shelf.Strings.BuilderF
import Derived.Shelf.Strings.BuilderK
import Derived.Shelf.Utf8.RuneCount
import Derived.Shelf.Strings.Builder2Cap
import Derived.Shelf.Strconv.Atoi
import Derived.Shelf.Strconv.Itoa0
import Derived.Shelf.Strconv.Itoa1
import Derived.Shelf.LaysM
import Derived.Shelf.Strconv.Itoa2
import Derived.Shelf.Strconv.Itoa3
import Derived.Shelf.Strconv.AtoiErrFast
import Derived.Shelf.Strconv.ParseIntEmpty
import Derived.Shelf.Strconv.AtoiFail
import Derived.Shelf.Strconv.Clone
import Derived.Shelf.Strconv.SyntaxError
import Derived.Shelf.LaysC
import Derived.Shelf.Strconv.ToError
import Derived.Shelf.Strconv.AtoiErr
import Derived.Shelf.Strconv.ErrVar
import Derived.Shelf.Strconv.Lower
import Derived.Shelf.Strconv.ParseUint10
import Derived.Shelf.Strconv.ParseUint10Empty
import Derived.Shelf.Strconv.ParseUint10Any
import Derived.Shelf.Strconv.ParseInt10
import Derived.Shelf.Strconv.AtoiLong
import Derived.Shelf.Strconv.AtoiInnerAll
import Derived.Shelf.Strconv.RangeError
import Derived.Shelf.Strconv.ToErrorRange
import Derived.Shelf.Strconv.AtoiAll
import Derived.Shelf.Strconv.ParseUintEmpty
import Derived.Shelf.Strconv.ParseUint10b64
import Derived.Shelf.Strconv.ParseUint10b32
import Derived.Shelf.Strconv.ParseUint10b16
import Derived.Shelf.Strconv.ParseUint10b8
import Derived.Shelf.Strconv.ParseUint10At
import Derived.Shelf.Strconv.ParseInt10At64
import Derived.Shelf.Strconv.ParseInt10At32
import Derived.Shelf.Strconv.ParseInt10At16
import Derived.Shelf.Strconv.ParseInt10At8
import Derived.Shelf.Strconv.ParseInt10All
import Derived.Shelf.Strings.Search1
import Derived.Shelf.Strings.Search2
import Derived.Shelf.Strings.Search3
import Derived.Shelf.Strings.Cut
import Derived.Shelf.Strings.Count
import Derived.Shelf.Strings.Shaped
import Derived.Shelf.Strings.Prefix
import Derived.Shelf.Strings.Split
import Derived.Shelf.Strings.SplitShaped
import Derived.Shelf.Unicode.Decode
import Derived.Shelf.Strings.Runes
import Derived.Shelf.Strings.RuneCount
import Derived.Shelf.Strings.IndexAny
import Derived.Shelf.Strings.AsciiSet
import Derived.Shelf.Strings.IndexAnyAll
import Derived.Shelf.Strings.Explode
import Derived.Shelf.Bits.Mul64
import Derived.Shelf.Strings.Repeat
import Derived.Shelf.Unicode.DecodeSlow
import Derived.Shelf.Unicode.DecodeAny
import Derived.Shelf.Unicode.DecodeLast
import Derived.Shelf.Strings.FieldsFuncAny
import Derived.Shelf.Strings.FieldsFuncGrows
import Derived.Shelf.Strings.BuilderCap
import Derived.Shelf.Slices.Turned
import Derived.Shelf.Slices.Equal
import Derived.Ground.Names2Prog
import Derived.Shelf.Slices.Clone
import Derived.Shelf.Slices.SearchI
import Derived.Shelf.Slices.Empties2
import Derived.Ground.SlgnProg
import Derived.Shelf.SlicesE.Clone
import Derived.Test.YtjklmealdnfhfaaGreatDoorProg
namespace Go.Proofs.Tryz
open Go.Shelf Go.RowKit
theorem lz{p:Prop}(h:p:=by repeat' first|(intros;kernel_rfl)|decide|constructor):p:=h
def lays137_ren:Ren:=⟨λ| 137=>356 | 217=>317 | 266=>354 | n=>n,λ| 9=>9 | 5=>5 | 3=>3 | n=>n,λ| n=>n⟩
theorem lays137:Lays.n137 prog lays137_ren:=lz
theorem strings_IndexByte(s:ByteArray)(c:Int)(w:World) :
  Calls prog 356 #[.string s,.int .u8 c] w λe w'=>e=.returned (.int .i64 (Lib.indexByte s.data.toList c.toNat.toUInt8))/\w'=w:=Any.strings_IndexByte lays137 s c w
def lays103_ren:Ren:=⟨λ| 103=>270 | 210=>327 | 206=>325 | n=>n,λ| 9=>9 | 4=>4 | 24=>106 | 3=>3 | n=>n,λ| n=>n⟩
theorem lays103:Lays.n103 prog lays103_ren:=lz
theorem strings_CutPrefix(s p:ByteArray)(w:World) :
  Calls prog 270 #[.string s,.string p] w λe w'=>e=.returned (.tuple #[.string ⟨(Lib.trimPrefix s.data.toList p.data.toList).toArray⟩,.bool (Lib.hasPrefix s.data.toList p.data.toList)])/\w'=w:=Any.strings_CutPrefix lays103 s p w
def laysM171_ren:Ren:=⟨λ| 171=>67 | 243=>123 | 246=>193 | 283=>252 | 284=>253 | 285=>254 | 286=>255 | 129=>306 | 317=>305 | 318=>307 | 319=>308 | 320=>309 | 337=>351 | 338=>352 | n=>n,λ| 3=>3 | 9=>9 | 2=>2 | 4=>4 | 171=>329 | 0=>0 | 53=>162 | 37=>208 | 5=>5 | 173=>332 | 212=>381 | 51=>94 | 20=>20 | 213=>382 | 46=>229 | 232=>430 | 233=>431 | n=>n,λ| 17=>0 | 18=>5 | 19=>6 | n=>n⟩
theorem laysM171:LaysM.n171 prog laysM171_ren:=lz
open Go.RowKit Go.Sort Go.Lib in
theorem strconv_Itoa(n:Int)(h0 : -9223372036854775808<=n)(h1:n<=9223372036854775807)(w:World) (htab:Lib.TabIs prog w "internal/strconv.uint64pow10" .u64 Lib.pow10Tab) :
  Calls prog 67 #[.int .i64 n] w λe w'=>e=.returned (.string ⟨(Lib.itoa n).toArray⟩)/\∃ k os,w'=grow (w.drewN k) os:=Any.strconv_Itoa laysM171 n h0 h1 w htab
def laysC172_ren:Ren:=⟨λ| 172=>348 | 244=>375 | 245=>376 | 247=>384 | 279=>385 | 280=>386 | 281=>387 | 282=>388 | 287=>395 | 316=>396 | 171=>67 | 205=>397 | 321=>403 | 322=>404 | 243=>123 | 246=>193 | 283=>252 | 284=>253 | 285=>254 | 286=>255 | 129=>306 | 317=>305 | 318=>307 | 319=>308 | 320=>309 | 337=>351 | 338=>352 | n=>n,λ| 9=>9 | 3=>3 | 75=>212 | 76=>213 | 4=>4 | 5=>5 | 167=>435 | 37=>208 | 0=>0 | 85=>436 | 2=>2 | 168=>438 | 53=>162 | 175=>443 | 46=>229 | 210=>446 | 127=>278 | 145=>452 | 143=>450 | 21=>21 | 171=>329 | 173=>332 | 212=>381 | 51=>94 | 20=>20 | 213=>382 | 232=>430 | 233=>431 | 80=>68 | n=>n,λ| 15=>7 | 16=>8 | 17=>0 | 18=>5 | 19=>6 | n=>n⟩
theorem laysC172:LaysC.n172 prog laysC172_ren:=lz
theorem strconv_Atoi_ok(s:ByteArray)(hmax:s.size<=9223372036854775806)(v:Int)(h:Lib.atoiAll s.data.toList=.ok v)(w:World) :
  Calls prog 348 #[.string s] w λe w'=>e=.returned (.tuple #[.int .i64 v,.nilIface])/\(w'=w\/∃ t,w'=Lib.bytesWorld w 5 t):=Any.strconv_Atoi_ok laysC172 s hmax v h w
def lays144_ren:Ren:=⟨λ| 144=>269 | 143=>206 | 219=>265 | 217=>317 | 225=>318 | 224=>319 | 267=>320 | 266=>354 | 314=>355 | n=>n,λ| 9=>9 | 4=>4 | 3=>3 | 5=>5 | 46=>229 | 146=>334 | 51=>94 | n=>n,λ| 1=>2 | n=>n⟩
theorem lays144:Lays.n144 prog lays144_ren:=lz
open Go.Lib in
theorem strings_Contains(s sub:ByteArray)(m:Int)(w:World)(hs:s.size<4294967281)(hm:w.cell? ⟨2,0,none⟩=some (.int .i64 m)) :
  Calls prog 269 #[.string s,.string sub] w λe w'=>e=.returned (.bool (Lib.contains s.data.toList sub.data.toList))/\w'=w:=Any.strings_Contains lays144 s sub m w hs hm
def lays145_ren:Ren:=⟨λ| 145=>153 | 220=>207 | 219=>265 | 217=>317 | 225=>318 | 224=>319 | 267=>320 | 266=>354 | 314=>355 | n=>n,λ| 9=>9 | 4=>4 | 59=>224 | 3=>3 | 5=>5 | 46=>229 | 146=>334 | 51=>94 | n=>n,λ| 1=>2 | n=>n⟩
theorem lays145:Lays.n145 prog lays145_ren:=lz
open Go.Lib in
theorem strings_Cut(s sep:ByteArray)(m:Int)(w:World)(hs:s.size<4294967281)(hm:w.cell? ⟨2,0,none⟩=some (.int .i64 m)) :
  Calls prog 153 #[.string s,.string sep] w λe w'=>e=.returned (.tuple #[.string ⟨(Lib.cut s.data.toList sep.data.toList).1.toArray⟩,.string ⟨(Lib.cut s.data.toList sep.data.toList).2.1.toArray⟩,.bool (Lib.cut s.data.toList sep.data.toList).2.2])/\∃ n,w'=w.drewN n:=Any.strings_Cut lays145 s sep m w hs hm
def lays146_ren:Ren:=⟨λ| 146=>93 | 221=>152 | 268=>204 | 138=>205 | 143=>206 | 195=>262 | 197=>263 | 218=>264 | 219=>265 | 260=>316 | 217=>317 | 225=>318 | 224=>319 | 267=>320 | 266=>354 | 314=>355 | n=>n,λ| 9=>9 | 31=>38 | 3=>3 | 4=>4 | 0=>0 | 105=>338 | 21=>21 | 5=>5 | 46=>229 | 119=>409 | 139=>412 | 138=>411 | 146=>334 | 51=>94 | n=>n,λ| 1=>2 | 3=>3 | 4=>4 | n=>n⟩
theorem lays146:Lays.n146 prog lays146_ren:=lz
open Go.Lib in
theorem strings_Split(s sep:ByteArray)(m:Int)(w:World)(hs:s.size<4294967281)(hm:w.cell? ⟨2,0,none⟩=some (.int .i64 m))(h1:1<=sep.size) :
  Calls prog 93 #[.string s,.string sep] w λe w' =>
   e=.returned (.slice (some ⟨w.heap.size,0,none⟩) (Lib.countB s sep+1) (Lib.countB s sep+1))/\w'=w.alloc (.cells ((Lib.splitB sep 0 (Lib.countB s sep) s).map Value.string).toArray 9):=Any.strings_Split lays146 (by kernel_rfl) s sep m w hs hm h1
def lays153_ren:Ren:=⟨λ| 153=>266 | 152=>321 | 226=>322 | 227=>323 | 228=>324 | 137=>356 | 119=>357 | 224=>319 | 225=>318 | 217=>317 | 266=>354 | n=>n,λ| 9=>9 | 3=>3 | 4=>4 | 5=>5 | 21=>21 | 117=>391 | 116=>390 | 0=>0 | 46=>229 | 124=>414 | n=>n,λ| n=>n⟩
theorem lays153:Lays.n153 prog lays153_ren:=lz
def lays227_ren:Ren:=⟨λ| 227=>323 | n=>n,λ| 9=>9 | 116=>390 | 4=>4 | 0=>0 | 3=>3 | 5=>5 | n=>n,λ| n=>n⟩
theorem lays227:Lays.n227 prog lays227_ren:=lz
open Go.Lib in
theorem strings_makeASCIISet(hv116:∀ w,(zeroValue 390).run prog w=.ok (.agg (Array.replicate 256 (.bool false))) w)(chars:ByteArray)(w:World)(hs:chars.size<4294967281)(hascii:∀ (j:Nat) b,chars.data.toList[j]? = some b->b.toNat<128) :
  Calls prog 323 #[.string chars] w λe w'=>e=.returned (.tuple #[.agg (Lib.setCells chars.data.toList),.bool true])/\w'=w.alloc (.cells (Lib.setCells chars.data.toList) 390):=Any.strings_makeASCIISet lays227 hv116 (by kernel_rfl) chars w hs hascii
def lays105_ren:Ren:=⟨λ| 105=>378 | 212=>344 | 99=>267 | 165=>389 | 166=>141 | 170=>390 | 169=>145 | 263=>373 | 264=>374 | 206=>325 | 240=>201 | 241=>398 | 276=>260 | 277=>405 | n=>n,λ| 9=>9 | 3=>3 | 4=>4 | 20=>20 | 0=>0 | 46=>229 | 109=>404 | 5=>5 | 72=>210 | 76=>213 | 51=>94 | 146=>334 | 53=>162 | 148=>427 | 70=>207 | 37=>208 | 75=>212 | 127=>278 | 164=>336 | 80=>68 | n=>n,λ| n=>n⟩
theorem lays105:Lays.n105 prog lays105_ren:=lz
theorem Builder_Extra_105:Builder.Extra prog lays105_ren:=lz
open Go.Lib in
theorem strings_Repeat(s:ByteArray)(c:Nat)(w:World)(hc:c<=9223372036854775807)(hlen:s.size*c<=140737488355328) :
  Calls prog 378 #[.string s,.int .i64 c] w λe w'=>e=.returned (.string ⟨(Lib.repeatL s.data.toList c).toArray⟩)/\Below w.heap.size w w':=Any.strings_Repeat lays105 Builder_Extra_105 s c w hc hlen
def lays229_ren:Ren:=⟨λ| 229=>208 | n=>n,λ| 9=>9 | 40=>282 | 31=>38 | 152=>341 | 3=>3 | 0=>0 | 4=>4 | 21=>21 | 154=>343 | n=>n,λ| n=>n⟩
theorem lays229:Lays.n229 prog lays229_ren:=lz
open Go.Lib in
theorem strings_FieldsFunc_runes(g:Nat)(lb:Array Value)(eg:∀ args w,(callFunc g args).run prog w=.ok (.enter g args) w)(p:Nat->Bool)(s:ByteArray)(w:World)(hs:s.size<=4294967296)(hp:PredAtRunes prog g lb p w) :
  Calls prog 208 #[.string s,.func (.func g) #[] lb] w λe w'=>∃ A,e=.returned (.slice (some ⟨A,0,none⟩) (Lib.goFieldsP p s).length (Lib.goFieldsP p s).length)/\w.heap.size<=A /\
   w'.ownsRow w.heap.size 9 1 (.slice (some ⟨A,0,none⟩) (Lib.goFieldsP p s).length (Lib.goFieldsP p s).length) (Lib.goFieldsP p s).length ((Lib.goFieldsP p s).map Value.string)/\Below w.heap.size w w':=Any.strings_FieldsFunc_runes lays229 g lb eg p s w hs hp (by kernel_rfl) (by kernel_rfl)
end Go.Proofs.Tryz
