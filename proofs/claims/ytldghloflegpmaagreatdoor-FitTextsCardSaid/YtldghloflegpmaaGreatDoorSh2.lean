/-
  DERIVED: THE SHELF's CONTRACTS AT THIS DUMP, IN PLAIN WORDS (tools/lay-plain.mjs out of 'TryzPick.lean', which tools/lay-shelf.mjs wrote): THE SAME DECLARATIONS UNDER THE SAME NAMES: 'import', 'namespace', 'open', 'def', 'theorem' AND NOTHING ELSE: no command of the shelf's: FOR A HAND-IN. Each laying: the table of numbers ('.._ren') and one theorem, a field a fact of the dump's own or the kernel's comparison; each contract: ONE APPLICATION.
-/
import Derived.Shelf.Strings.Builder1
import Derived.Shelf.Strings.Builder2
import Derived.Shelf.Strings.OnBuilder
import Derived.Shelf.Strings.Trim
import Derived.Shelf.Small.Utf8
import Derived.Shelf.Small.Strs
import Derived.Shelf.Strings.BuilderF
import Derived.Shelf.Strings.BuilderK
import Derived.Shelf.Strings.BuilderRune
import Derived.Shelf.Strings.Builder2Cap
import Derived.Shelf.Strconv.Atoi
import Derived.Shelf.Strconv.Itoa0
import Derived.Shelf.Strconv.Itoa1
import Derived.Shelf.LaysM
import Derived.Shelf.Strconv.Itoa2
import Derived.Shelf.Strconv.Itoa3
import Derived.Shelf.Strconv.AtoiErrFast
import Derived.Shelf.Strconv.ParseIntEmpty
import Derived.Shelf.Strconv.AtoiFail
import Derived.Shelf.Strconv.Clone
import Derived.Shelf.Strconv.SyntaxError
import Derived.Shelf.LaysC
import Derived.Shelf.Strconv.ToError
import Derived.Shelf.Strconv.Lower
import Derived.Shelf.Strconv.ParseUint10
import Derived.Shelf.Strconv.ParseUint10Empty
import Derived.Shelf.Strconv.ParseUint10Any
import Derived.Shelf.Strconv.ParseInt10
import Derived.Shelf.Strconv.AtoiLong
import Derived.Shelf.Strconv.AtoiInnerAll
import Derived.Shelf.Strconv.RangeError
import Derived.Shelf.Strconv.ToErrorRange
import Derived.Shelf.Strconv.AtoiAll
import Derived.Shelf.Strconv.ErrVarAll
import Derived.Shelf.Strings.Search1
import Derived.Shelf.Strings.Search2
import Derived.Shelf.Strings.Search3
import Derived.Shelf.Strings.Cut
import Derived.Shelf.Strings.Shaped
import Derived.Shelf.Strings.Prefix
import Derived.Shelf.Unicode.Latin
import Derived.Shelf.Unicode.Decode
import Derived.Shelf.Strings.Runes
import Derived.Shelf.Strings.AsciiSet
import Derived.Shelf.Bits.Mul64
import Derived.Shelf.Strings.Repeat
import Derived.Shelf.Unicode.DecodeSlow
import Derived.Shelf.Unicode.DecodeAny
import Derived.Shelf.Unicode.DecodeLast
import Derived.Shelf.Unicode.CaseLookup
import Derived.Shelf.Unicode.CaseConvert
import Derived.Shelf.Unicode.CaseTo
import Derived.Shelf.Unicode.CaseLaid
import Derived.Shelf.Strings.MapAny
import Derived.Shelf.Strings.CaseAny
import Derived.Shelf.Strings.BuilderCap
import Derived.Shelf.Strings.MapGrows
import Derived.Test.YtldghloflegpmaaGreatDoorProg
namespace Go.Proofs
open Go.Shelf
def Tryz.lays169_ren : Go.Shelf.Ren := ⟨fun | 169 => 97 | n => n, fun | 70 => 159 | 9 => 9 | 0 => 0 | 72 => 162 | 37 => 160 | 127 => 210 | 3 => 3 | 5 => 5 | n => n, fun | n => n⟩
theorem Tryz.lays169 : Go.Proofs.Lays.n169 Tryz.prog Tryz.lays169_ren := {
  mixed := by kernel_rfl
  f169 := Tryz.func97.trans (congrArg some (by kernel_rfl))
  t0 := Tryz.underlying0
  a0 := Tryz.isAgg0
  z0 := Tryz.sizeOf0
  v0 := Tryz.zeroValue0
  t3 := Tryz.underlying3
  a3 := Tryz.isAgg3
  z3 := Tryz.sizeOf3
  v3 := Tryz.zeroValue3
  t9 := Tryz.underlying9
  a9 := Tryz.isAgg9
  z9 := Tryz.sizeOf9
  v9 := Tryz.zeroValue9
  t37 := Tryz.underlying160
  a37 := Tryz.isAgg160
  z37 := Tryz.sizeOf160
  v37 := Tryz.zeroValue160
  t70 := Tryz.underlying159
  a70 := Tryz.isAgg159
  z70 := Tryz.sizeOf159
  v70 := Tryz.zeroValue159
  t72 := Tryz.underlying162
  a72 := Tryz.isAgg162
  z72 := Tryz.sizeOf162
  v72 := Tryz.zeroValue162
  t127 := Tryz.underlying210
  a127 := Tryz.isAgg210
  z127 := Tryz.sizeOf210
  v127 := Tryz.zeroValue210 }
theorem Tryz.Builder_Extra_169 : Builder.Extra Tryz.prog Tryz.lays169_ren := {
  sizeBuilder := by kernel_rfl
  liesBuilder := by kernel_rfl
  t5 := Tryz.underlying5
  a5 := Tryz.isAgg5
  z5 := Tryz.sizeOf5
  v5 := Tryz.zeroValue5
  infoByte := by kernel_rfl
  cellsByte := by kernel_rfl
  sizeByte := by kernel_rfl
  neB5 := by decide }
def Tryz.lays106_ren : Go.Shelf.Ren := ⟨fun | 106 => 245 | 213 => 252 | 265 => 253 | n => n, fun | 9 => 9 | 3 => 3 | n => n, fun | n => n⟩
theorem Tryz.lays106 : Go.Proofs.Lays.n106 Tryz.prog Tryz.lays106_ren := {
  mixed := by kernel_rfl
  f106 := Tryz.func245.trans (congrArg some (by kernel_rfl))
  f213 := Tryz.func252.trans (congrArg some (by kernel_rfl))
  f265 := Tryz.func253.trans (congrArg some (by kernel_rfl))
  t3 := Tryz.underlying3
  a3 := Tryz.isAgg3
  z3 := Tryz.sizeOf3
  v3 := Tryz.zeroValue3
  t9 := Tryz.underlying9
  a9 := Tryz.isAgg9
  z9 := Tryz.sizeOf9
  v9 := Tryz.zeroValue9 }
open Go.RowKit in
/-- strings.Compare: "Compare returns an integer comparing two strings lexicographically. The result will be 0 if a == b, -1 if a < b, and +1 if a > b.": IT RETURNS 'Lib.compareBytes a b'; the world is as it was. (LAID: no walk: one application.) -/
theorem Tryz.strings_Compare (a b : ByteArray) (w : World) :
    Calls Tryz.prog 245 #[.string a, .string b] w fun e w' => e = .returned (.int .i64 (Lib.compareBytes a.data.toList b.data.toList)) ∧ w' = w := Any.strings_Compare Tryz.lays106 a b w
open Go.RowKit in
/-- (*strings.Builder).String: "String returns the accumulated string.": WHATEVER THE BUILDER HOLDS; THE FORM '_k': OVER 'Lib.IsBuilderF' (a builder that 'String()' may have read), AND WITH THE FRAME THAT REACHES ABOVE THE BUILDER: 'Lib.OthersKept': every block that is not b and is no row of uint8's stands as it stood: the iterator of a range among them. (LAID: no walk: one application.) -/
theorem Tryz.Builder_String_any_k (B b : Nat) (l : List UInt8) (w : World) (h : Lib.IsBuilderF 162 5 B b (Lib.byteCells l) w) (hBw : B ≤ w.heap.size) :
    Calls Tryz.prog 97 #[.pointer (some ⟨b, 0, none⟩)] w fun e w' => e = .returned (.string ⟨l.toArray⟩) ∧ (Lib.IsBuilderF 162 5 B b (Lib.byteCells l) w' ∧ Below B w w' ∧ Lib.OthersKept 5 (some b) w w') := Any.Builder_String_any_k Tryz.lays169 Tryz.Builder_Extra_169 B b l w h hBw
def Tryz.laysM171_ren : Go.Shelf.Ren := ⟨fun | 171 => 85 | 243 => 127 | 246 => 174 | 283 => 217 | 284 => 218 | 285 => 219 | 286 => 220 | 129 => 239 | 317 => 238 | 318 => 240 | 319 => 241 | 320 => 242 | 337 => 249 | 338 => 250 | n => n, fun | 3 => 3 | 9 => 9 | 2 => 2 | 4 => 4 | 171 => 277 | 0 => 0 | 53 => 261 | 37 => 160 | 5 => 5 | 173 => 280 | 212 => 299 | 51 => 258 | 20 => 20 | 213 => 300 | 46 => 217 | 232 => 311 | 233 => 312 | n => n, fun | 17 => 6 | 18 => 7 | 19 => 8 | n => n⟩
theorem Tryz.laysM171 : Go.Proofs.LaysM.n171 Tryz.prog Tryz.laysM171_ren := {
  mixed := by kernel_rfl
  f129 := Tryz.func239.trans (congrArg some (by kernel_rfl))
  f171 := Tryz.func85.trans (congrArg some (by kernel_rfl))
  f243 := Tryz.func127.trans (congrArg some (by kernel_rfl))
  f246 := Tryz.func174.trans (congrArg some (by kernel_rfl))
  f283 := Tryz.func217.trans (congrArg some (by kernel_rfl))
  f284 := Tryz.func218.trans (congrArg some (by kernel_rfl))
  f285 := Tryz.func219.trans (congrArg some (by kernel_rfl))
  f286 := Tryz.func220.trans (congrArg some (by kernel_rfl))
  f317 := Tryz.func238.trans (congrArg some (by kernel_rfl))
  f318 := Tryz.func240.trans (congrArg some (by kernel_rfl))
  f319 := Tryz.func241.trans (congrArg some (by kernel_rfl))
  f320 := Tryz.func242.trans (congrArg some (by kernel_rfl))
  f337 := Tryz.func249.trans (congrArg some (by kernel_rfl))
  f338 := Tryz.func250.trans (congrArg some (by kernel_rfl))
  t0 := Tryz.underlying0
  a0 := Tryz.isAgg0
  z0 := Tryz.sizeOf0
  v0 := Tryz.zeroValue0
  t2 := Tryz.underlying2
  a2 := Tryz.isAgg2
  z2 := Tryz.sizeOf2
  v2 := Tryz.zeroValue2
  t3 := Tryz.underlying3
  a3 := Tryz.isAgg3
  z3 := Tryz.sizeOf3
  v3 := Tryz.zeroValue3
  t4 := Tryz.underlying4
  a4 := Tryz.isAgg4
  z4 := Tryz.sizeOf4
  v4 := Tryz.zeroValue4
  t5 := Tryz.underlying5
  a5 := Tryz.isAgg5
  z5 := Tryz.sizeOf5
  v5 := Tryz.zeroValue5
  t9 := Tryz.underlying9
  a9 := Tryz.isAgg9
  z9 := Tryz.sizeOf9
  v9 := Tryz.zeroValue9
  t20 := Tryz.underlying20
  a20 := Tryz.isAgg20
  z20 := Tryz.sizeOf20
  v20 := Tryz.zeroValue20
  t37 := Tryz.underlying160
  a37 := Tryz.isAgg160
  z37 := Tryz.sizeOf160
  v37 := Tryz.zeroValue160
  t46 := Tryz.underlying217
  a46 := Tryz.isAgg217
  z46 := Tryz.sizeOf217
  v46 := Tryz.zeroValue217
  t51 := Tryz.underlying258
  a51 := Tryz.isAgg258
  z51 := Tryz.sizeOf258
  v51 := Tryz.zeroValue258
  t53 := Tryz.underlying261
  a53 := Tryz.isAgg261
  z53 := Tryz.sizeOf261
  v53 := Tryz.zeroValue261
  t171 := Tryz.underlying277
  a171 := Tryz.isAgg277
  z171 := Tryz.sizeOf277
  v171 := Tryz.zeroValue277
  t173 := Tryz.underlying280
  a173 := Tryz.isAgg280
  z173 := Tryz.sizeOf280
  v173 := Tryz.zeroValue280
  t212 := Tryz.underlying299
  a212 := Tryz.isAgg299
  z212 := Tryz.sizeOf299
  v212 := Tryz.zeroValue299
  t213 := Tryz.underlying300
  a213 := Tryz.isAgg300
  z213 := Tryz.sizeOf300
  t232 := Tryz.underlying311
  a232 := Tryz.isAgg311
  z232 := Tryz.sizeOf311
  v232 := Tryz.zeroValue311
  t233 := Tryz.underlying312
  a233 := Tryz.isAgg312
  z233 := Tryz.sizeOf312
  v233 := Tryz.zeroValue312
  g17 := by kernel_rfl
  g18 := by kernel_rfl
  g19 := by kernel_rfl
  i0 := by kernel_rfl
  i2 := by kernel_rfl
  i3 := by kernel_rfl
  i4 := by kernel_rfl
  i5 := by kernel_rfl
  i9 := by kernel_rfl
  i20 := by kernel_rfl
  i37 := by kernel_rfl
  i46 := by kernel_rfl
  i51 := by kernel_rfl
  i53 := by kernel_rfl
  i171 := by kernel_rfl
  i173 := by kernel_rfl
  i212 := by kernel_rfl
  i232 := by kernel_rfl
  i233 := by kernel_rfl
  m17 := by kernel_rfl
  m18 := by kernel_rfl
  m19 := by kernel_rfl }
open Go.RowKit Go.Sort Go.Lib in
/-- strconv.Itoa: "Itoa is equivalent to FormatInt(int64(i), 10).": i's DECIMAL NUMERAL ('Lib.itoa': a '-' where i is negative, then the digits), FOR EVERY int. The world behind the call: the world before it, new blocks behind the heap (the library's 'var a [24]byte'), draws. (LAID: no walk: one application.) -/
theorem Tryz.strconv_Itoa (n : Int) (h0 : -9223372036854775808 ≤ n) (h1 : n ≤ 9223372036854775807) (w : World) (htab : Lib.TabIs Tryz.prog w "internal/strconv.uint64pow10" .u64 Lib.pow10Tab) :
    Calls Tryz.prog 85 #[.int .i64 n] w fun e w' => e = .returned (.string ⟨(Lib.itoa n).toArray⟩) ∧ ∃ k os, w' = grow (w.drewN k) os := Any.strconv_Itoa Tryz.laysM171 n h0 h1 w htab
def Tryz.laysC172_ren : Go.Shelf.Ren := ⟨fun | 172 => 82 | 244 => 125 | 245 => 126 | 247 => 169 | 279 => 170 | 280 => 171 | 281 => 172 | 282 => 173 | 287 => 214 | 316 => 215 | 171 => 85 | 205 => 216 | 321 => 236 | 322 => 237 | 243 => 127 | 246 => 174 | 283 => 217 | 284 => 218 | 285 => 219 | 286 => 220 | 129 => 239 | 317 => 238 | 318 => 240 | 319 => 241 | 320 => 242 | 337 => 249 | 338 => 250 | n => n, fun | 9 => 9 | 3 => 3 | 75 => 146 | 76 => 147 | 4 => 4 | 5 => 5 | 167 => 231 | 37 => 160 | 0 => 0 | 85 => 232 | 2 => 2 | 168 => 234 | 53 => 261 | 175 => 272 | 46 => 217 | 210 => 275 | 127 => 210 | 145 => 297 | 143 => 295 | 21 => 21 | 171 => 277 | 173 => 280 | 212 => 299 | 51 => 258 | 20 => 20 | 213 => 300 | 232 => 311 | 233 => 312 | 80 => 168 | n => n, fun | 15 => 2 | 16 => 3 | 17 => 6 | 18 => 7 | 19 => 8 | n => n⟩
theorem Tryz.laysC172 : Go.Proofs.LaysC.n172 Tryz.prog Tryz.laysC172_ren := {
  mixed := by kernel_rfl
  f129 := Tryz.func239.trans (congrArg some (by kernel_rfl))
  f171 := Tryz.func85.trans (congrArg some (by kernel_rfl))
  f172 := Tryz.func82.trans (congrArg some (by kernel_rfl))
  f205 := Tryz.func216.trans (congrArg some (by kernel_rfl))
  f243 := Tryz.func127.trans (congrArg some (by kernel_rfl))
  f244 := Tryz.func125.trans (congrArg some (by kernel_rfl))
  f245 := Tryz.func126.trans (congrArg some (by kernel_rfl))
  f246 := Tryz.func174.trans (congrArg some (by kernel_rfl))
  f247 := Tryz.func169.trans (congrArg some (by kernel_rfl))
  f279 := Tryz.func170.trans (congrArg some (by kernel_rfl))
  f280 := Tryz.func171.trans (congrArg some (by kernel_rfl))
  f281 := Tryz.func172.trans (congrArg some (by kernel_rfl))
  f282 := Tryz.func173.trans (congrArg some (by kernel_rfl))
  f283 := Tryz.func217.trans (congrArg some (by kernel_rfl))
  f284 := Tryz.func218.trans (congrArg some (by kernel_rfl))
  f285 := Tryz.func219.trans (congrArg some (by kernel_rfl))
  f286 := Tryz.func220.trans (congrArg some (by kernel_rfl))
  f287 := Tryz.func214.trans (congrArg some (by kernel_rfl))
  f316 := Tryz.func215.trans (congrArg some (by kernel_rfl))
  f317 := Tryz.func238.trans (congrArg some (by kernel_rfl))
  f318 := Tryz.func240.trans (congrArg some (by kernel_rfl))
  f319 := Tryz.func241.trans (congrArg some (by kernel_rfl))
  f320 := Tryz.func242.trans (congrArg some (by kernel_rfl))
  f321 := Tryz.func236.trans (congrArg some (by kernel_rfl))
  f322 := Tryz.func237.trans (congrArg some (by kernel_rfl))
  f337 := Tryz.func249.trans (congrArg some (by kernel_rfl))
  f338 := Tryz.func250.trans (congrArg some (by kernel_rfl))
  t0 := Tryz.underlying0
  a0 := Tryz.isAgg0
  z0 := Tryz.sizeOf0
  v0 := Tryz.zeroValue0
  t2 := Tryz.underlying2
  a2 := Tryz.isAgg2
  z2 := Tryz.sizeOf2
  v2 := Tryz.zeroValue2
  t3 := Tryz.underlying3
  a3 := Tryz.isAgg3
  z3 := Tryz.sizeOf3
  v3 := Tryz.zeroValue3
  t4 := Tryz.underlying4
  a4 := Tryz.isAgg4
  z4 := Tryz.sizeOf4
  v4 := Tryz.zeroValue4
  t5 := Tryz.underlying5
  a5 := Tryz.isAgg5
  z5 := Tryz.sizeOf5
  v5 := Tryz.zeroValue5
  t9 := Tryz.underlying9
  a9 := Tryz.isAgg9
  z9 := Tryz.sizeOf9
  v9 := Tryz.zeroValue9
  t20 := Tryz.underlying20
  a20 := Tryz.isAgg20
  z20 := Tryz.sizeOf20
  v20 := Tryz.zeroValue20
  t21 := Tryz.underlying21
  a21 := Tryz.isAgg21
  z21 := Tryz.sizeOf21
  v21 := Tryz.zeroValue21
  t37 := Tryz.underlying160
  a37 := Tryz.isAgg160
  z37 := Tryz.sizeOf160
  v37 := Tryz.zeroValue160
  t46 := Tryz.underlying217
  a46 := Tryz.isAgg217
  z46 := Tryz.sizeOf217
  v46 := Tryz.zeroValue217
  t51 := Tryz.underlying258
  a51 := Tryz.isAgg258
  z51 := Tryz.sizeOf258
  v51 := Tryz.zeroValue258
  t53 := Tryz.underlying261
  a53 := Tryz.isAgg261
  z53 := Tryz.sizeOf261
  v53 := Tryz.zeroValue261
  t75 := Tryz.underlying146
  a75 := Tryz.isAgg146
  z75 := Tryz.sizeOf146
  v75 := Tryz.zeroValue146
  t76 := Tryz.underlying147
  a76 := Tryz.isAgg147
  z76 := Tryz.sizeOf147
  v76 := Tryz.zeroValue147
  t85 := Tryz.underlying232
  a85 := Tryz.isAgg232
  z85 := Tryz.sizeOf232
  v85 := Tryz.zeroValue232
  t127 := Tryz.underlying210
  a127 := Tryz.isAgg210
  z127 := Tryz.sizeOf210
  v127 := Tryz.zeroValue210
  t143 := Tryz.underlying295
  a143 := Tryz.isAgg295
  z143 := Tryz.sizeOf295
  v143 := Tryz.zeroValue295
  t145 := Tryz.underlying297
  a145 := Tryz.isAgg297
  z145 := Tryz.sizeOf297
  v145 := Tryz.zeroValue297
  t167 := Tryz.underlying231
  a167 := Tryz.isAgg231
  z167 := Tryz.sizeOf231
  v167 := Tryz.zeroValue231
  t168 := Tryz.underlying234
  a168 := Tryz.isAgg234
  z168 := Tryz.sizeOf234
  v168 := Tryz.zeroValue234
  t171 := Tryz.underlying277
  a171 := Tryz.isAgg277
  z171 := Tryz.sizeOf277
  v171 := Tryz.zeroValue277
  t173 := Tryz.underlying280
  a173 := Tryz.isAgg280
  z173 := Tryz.sizeOf280
  v173 := Tryz.zeroValue280
  t175 := Tryz.underlying272
  a175 := Tryz.isAgg272
  z175 := Tryz.sizeOf272
  v175 := Tryz.zeroValue272
  t210 := Tryz.underlying275
  a210 := Tryz.isAgg275
  z210 := Tryz.sizeOf275
  v210 := Tryz.zeroValue275
  t212 := Tryz.underlying299
  a212 := Tryz.isAgg299
  z212 := Tryz.sizeOf299
  v212 := Tryz.zeroValue299
  t213 := Tryz.underlying300
  a213 := Tryz.isAgg300
  z213 := Tryz.sizeOf300
  t232 := Tryz.underlying311
  a232 := Tryz.isAgg311
  z232 := Tryz.sizeOf311
  v232 := Tryz.zeroValue311
  t233 := Tryz.underlying312
  a233 := Tryz.isAgg312
  z233 := Tryz.sizeOf312
  v233 := Tryz.zeroValue312
  g15 := by kernel_rfl
  g16 := by kernel_rfl
  g17 := by kernel_rfl
  g18 := by kernel_rfl
  g19 := by kernel_rfl
  t80 := Tryz.underlying168
  a80 := Tryz.isAgg168
  z80 := Tryz.sizeOf168
  v80 := Tryz.zeroValue168
  i0 := by kernel_rfl
  i2 := by kernel_rfl
  i3 := by kernel_rfl
  i4 := by kernel_rfl
  i5 := by kernel_rfl
  i9 := by kernel_rfl
  i20 := by kernel_rfl
  i21 := by kernel_rfl
  i37 := by kernel_rfl
  i46 := by kernel_rfl
  i51 := by kernel_rfl
  i53 := by kernel_rfl
  i75 := by kernel_rfl
  i76 := by kernel_rfl
  i80 := by kernel_rfl
  i85 := by kernel_rfl
  i127 := by kernel_rfl
  i143 := by kernel_rfl
  i145 := by kernel_rfl
  i167 := by kernel_rfl
  i168 := by kernel_rfl
  i171 := by kernel_rfl
  i173 := by kernel_rfl
  i175 := by kernel_rfl
  i210 := by kernel_rfl
  i212 := by kernel_rfl
  i232 := by kernel_rfl
  i233 := by kernel_rfl
  m15 := by kernel_rfl
  m16 := by kernel_rfl
  m17 := by kernel_rfl
  m18 := by kernel_rfl
  m19 := by kernel_rfl
  c0 := by kernel_rfl
  c2 := by kernel_rfl
  c3 := by kernel_rfl
  c4 := by kernel_rfl
  c5 := by kernel_rfl
  c9 := by kernel_rfl
  c20 := by kernel_rfl
  c21 := by kernel_rfl
  c37 := by kernel_rfl
  c46 := by kernel_rfl
  c51 := by kernel_rfl
  c53 := by kernel_rfl
  c75 := by kernel_rfl
  c76 := by kernel_rfl
  c80 := by kernel_rfl
  c85 := by kernel_rfl
  c127 := by kernel_rfl
  c143 := by kernel_rfl
  c145 := by kernel_rfl
  c167 := by kernel_rfl
  c168 := by kernel_rfl
  c171 := by kernel_rfl
  c173 := by kernel_rfl
  c175 := by kernel_rfl
  c210 := by kernel_rfl
  c212 := by kernel_rfl
  c213 := by kernel_rfl
  c232 := by kernel_rfl
  c233 := by kernel_rfl }
open Go.RowKit in
theorem Tryz.strconv_Atoi_syntax_var (s : ByteArray) (hlim : s.size ≤ 281474976710656) (h : Lib.atoiAll s.data.toList = .«syntax») (tp : TypeId) (p : Value) (w : World) (hvar : w.var? Tryz.prog "strconv.ErrSyntax" = some #[.iface tp p]) :
    Calls Tryz.prog 82 #[.string s] w fun e w' => ∃ N, e = .returned (.tuple #[.int .i64 0, .iface 234 (.pointer (some ⟨N, 0, none⟩))]) ∧ w.heap.size ≤ N ∧ w'.heap[N]? = some (.cells #[.string ⟨#[65, 116, 111, 105]⟩, .string s, .iface tp p] 275 (0, 0)) ∧ Below w.heap.size w w' := Any.strconv_Atoi_syntax_var Tryz.laysC172 s hlim h tp p w hvar
def Tryz.lays145_ren : Go.Shelf.Ren := ⟨fun | 145 => 64 | 220 => 101 | 219 => 114 | 217 => 156 | 225 => 157 | 224 => 158 | 267 => 159 | 266 => 206 | 314 => 207 | n => n, fun | 9 => 9 | 4 => 4 | 59 => 114 | 3 => 3 | 5 => 5 | 46 => 217 | 146 => 259 | 51 => 258 | n => n, fun | 1 => 0 | n => n⟩
theorem Tryz.lays145 : Go.Proofs.Lays.n145 Tryz.prog Tryz.lays145_ren := {
  mixed := by kernel_rfl
  f145 := Tryz.func64.trans (congrArg some (by kernel_rfl))
  f217 := Tryz.func156.trans (congrArg some (by kernel_rfl))
  f219 := Tryz.func114.trans (congrArg some (by kernel_rfl))
  f220 := Tryz.func101.trans (congrArg some (by kernel_rfl))
  f224 := Tryz.func158.trans (congrArg some (by kernel_rfl))
  f225 := Tryz.func157.trans (congrArg some (by kernel_rfl))
  f266 := Tryz.func206.trans (congrArg some (by kernel_rfl))
  f267 := Tryz.func159.trans (congrArg some (by kernel_rfl))
  f314 := Tryz.func207.trans (congrArg some (by kernel_rfl))
  t3 := Tryz.underlying3
  a3 := Tryz.isAgg3
  z3 := Tryz.sizeOf3
  v3 := Tryz.zeroValue3
  t4 := Tryz.underlying4
  a4 := Tryz.isAgg4
  z4 := Tryz.sizeOf4
  v4 := Tryz.zeroValue4
  t5 := Tryz.underlying5
  a5 := Tryz.isAgg5
  z5 := Tryz.sizeOf5
  v5 := Tryz.zeroValue5
  t9 := Tryz.underlying9
  a9 := Tryz.isAgg9
  z9 := Tryz.sizeOf9
  v9 := Tryz.zeroValue9
  t46 := Tryz.underlying217
  a46 := Tryz.isAgg217
  z46 := Tryz.sizeOf217
  v46 := Tryz.zeroValue217
  t51 := Tryz.underlying258
  a51 := Tryz.isAgg258
  z51 := Tryz.sizeOf258
  v51 := Tryz.zeroValue258
  t59 := Tryz.underlying114
  a59 := Tryz.isAgg114
  z59 := Tryz.sizeOf114
  v59 := Tryz.zeroValue114
  t146 := Tryz.underlying259
  a146 := Tryz.isAgg259
  z146 := Tryz.sizeOf259
  v146 := Tryz.zeroValue259
  g1 := by kernel_rfl }
open Go.RowKit Go.Lib in
/-- strings.Cut: "Cut slices s around the first instance of sep, returning the text before and after sep. The found result reports whether sep appears in s. If sep does not appear in s, cut returns s, "", false.": IT RETURNS 'Lib.cut s sep'; the world is as it was but for the count of draws. (LAID: no walk: one application.) -/
theorem Tryz.strings_Cut (s sep : ByteArray) (m : Int) (w : World) (hs : s.size < 4294967281) (hm : w.cell? ⟨0, 0, none⟩ = some (.int .i64 m)) :
    Calls Tryz.prog 64 #[.string s, .string sep] w fun e w' => e = .returned (.tuple #[.string ⟨(Lib.cut s.data.toList sep.data.toList).1.toArray⟩, .string ⟨(Lib.cut s.data.toList sep.data.toList).2.1.toArray⟩, .bool (Lib.cut s.data.toList sep.data.toList).2.2]) ∧ ∃ n, w' = w.drewN n := Any.strings_Cut Tryz.lays145 s sep m w hs hm
def Tryz.laysM145_ren : Go.Shelf.Ren := ⟨fun | 145 => 64 | 220 => 101 | 219 => 114 | 217 => 156 | 225 => 157 | 224 => 158 | 267 => 159 | 266 => 206 | 314 => 207 | n => n, fun | 9 => 9 | 4 => 4 | 59 => 114 | 3 => 3 | 5 => 5 | 46 => 217 | 146 => 259 | 51 => 258 | n => n, fun | 1 => 0 | n => n⟩
theorem Tryz.laysM145 : Go.Proofs.LaysM.n145 Tryz.prog Tryz.laysM145_ren := {
  mixed := by kernel_rfl
  f145 := Tryz.func64.trans (congrArg some (by kernel_rfl))
  f217 := Tryz.func156.trans (congrArg some (by kernel_rfl))
  f219 := Tryz.func114.trans (congrArg some (by kernel_rfl))
  f220 := Tryz.func101.trans (congrArg some (by kernel_rfl))
  f224 := Tryz.func158.trans (congrArg some (by kernel_rfl))
  f225 := Tryz.func157.trans (congrArg some (by kernel_rfl))
  f266 := Tryz.func206.trans (congrArg some (by kernel_rfl))
  f267 := Tryz.func159.trans (congrArg some (by kernel_rfl))
  f314 := Tryz.func207.trans (congrArg some (by kernel_rfl))
  t3 := Tryz.underlying3
  a3 := Tryz.isAgg3
  z3 := Tryz.sizeOf3
  v3 := Tryz.zeroValue3
  t4 := Tryz.underlying4
  a4 := Tryz.isAgg4
  z4 := Tryz.sizeOf4
  v4 := Tryz.zeroValue4
  t5 := Tryz.underlying5
  a5 := Tryz.isAgg5
  z5 := Tryz.sizeOf5
  v5 := Tryz.zeroValue5
  t9 := Tryz.underlying9
  a9 := Tryz.isAgg9
  z9 := Tryz.sizeOf9
  v9 := Tryz.zeroValue9
  t46 := Tryz.underlying217
  a46 := Tryz.isAgg217
  z46 := Tryz.sizeOf217
  v46 := Tryz.zeroValue217
  t51 := Tryz.underlying258
  a51 := Tryz.isAgg258
  z51 := Tryz.sizeOf258
  v51 := Tryz.zeroValue258
  t59 := Tryz.underlying114
  a59 := Tryz.isAgg114
  z59 := Tryz.sizeOf114
  v59 := Tryz.zeroValue114
  t146 := Tryz.underlying259
  a146 := Tryz.isAgg259
  z146 := Tryz.sizeOf259
  v146 := Tryz.zeroValue259
  g1 := by kernel_rfl
  i3 := by kernel_rfl
  i4 := by kernel_rfl
  i5 := by kernel_rfl
  i9 := by kernel_rfl
  i46 := by kernel_rfl
  i51 := by kernel_rfl
  i59 := by kernel_rfl
  i146 := by kernel_rfl
  m1 := by kernel_rfl
  s1_3 := fun w h => Go.Proofs.cell_of_shapedOpen_int (zero := #[.int .i64 0]) (t := 3) h (of_decide_eq_true (by kernel_rfl)) (by kernel_rfl) rfl (by kernel_rfl) (by kernel_rfl) Tryz.underlying3 }
open Go.RowKit Go.Lib in
theorem Tryz.strings_Cut_shaped (s sep : ByteArray) (w : World) (h : w.ShapedOpen Tryz.prog) (hs : s.size < 4294967281) :
    Calls Tryz.prog 64 #[.string s, .string sep] w fun e w' => e = .returned (.tuple #[.string ⟨(Lib.cut s.data.toList sep.data.toList).1.toArray⟩, .string ⟨(Lib.cut s.data.toList sep.data.toList).2.1.toArray⟩, .bool (Lib.cut s.data.toList sep.data.toList).2.2]) ∧ ∃ n, w' = w.drewN n := Any.strings_Cut_shaped Tryz.laysM145 s sep w h hs
def Tryz.lays99_ren : Go.Shelf.Ren := ⟨fun | 99 => 151 | 206 => 181 | n => n, fun | 9 => 9 | 4 => 4 | 3 => 3 | n => n, fun | n => n⟩
theorem Tryz.lays99 : Go.Proofs.Lays.n99 Tryz.prog Tryz.lays99_ren := {
  mixed := by kernel_rfl
  f99 := Tryz.func151.trans (congrArg some (by kernel_rfl))
  f206 := Tryz.func181.trans (congrArg some (by kernel_rfl))
  t3 := Tryz.underlying3
  a3 := Tryz.isAgg3
  z3 := Tryz.sizeOf3
  v3 := Tryz.zeroValue3
  t4 := Tryz.underlying4
  a4 := Tryz.isAgg4
  z4 := Tryz.sizeOf4
  v4 := Tryz.zeroValue4
  t9 := Tryz.underlying9
  a9 := Tryz.isAgg9
  z9 := Tryz.sizeOf9
  v9 := Tryz.zeroValue9 }
open Go.RowKit Go.Lib in
/-- strings.HasPrefix: "HasPrefix reports whether the string s begins with prefix.": IT RETURNS 'Lib.hasPrefix s prefix'; the world is as it was. (LAID: no walk: one application.) -/
theorem Tryz.strings_HasPrefix (s p : ByteArray) (w : World) :
    Calls Tryz.prog 151 #[.string s, .string p] w fun e w' => e = .returned (.bool (Lib.hasPrefix s.data.toList p.data.toList)) ∧ w' = w := Any.strings_HasPrefix Tryz.lays99 s p w
def Tryz.lays101_ren : Go.Shelf.Ren := ⟨fun | 101 => 175 | 208 => 221 | 206 => 181 | n => n, fun | 9 => 9 | 4 => 4 | 3 => 3 | n => n, fun | n => n⟩
theorem Tryz.lays101 : Go.Proofs.Lays.n101 Tryz.prog Tryz.lays101_ren := {
  mixed := by kernel_rfl
  f101 := Tryz.func175.trans (congrArg some (by kernel_rfl))
  f206 := Tryz.func181.trans (congrArg some (by kernel_rfl))
  f208 := Tryz.func221.trans (congrArg some (by kernel_rfl))
  t3 := Tryz.underlying3
  a3 := Tryz.isAgg3
  z3 := Tryz.sizeOf3
  v3 := Tryz.zeroValue3
  t4 := Tryz.underlying4
  a4 := Tryz.isAgg4
  z4 := Tryz.sizeOf4
  v4 := Tryz.zeroValue4
  t9 := Tryz.underlying9
  a9 := Tryz.isAgg9
  z9 := Tryz.sizeOf9
  v9 := Tryz.zeroValue9 }
open Go.RowKit Go.Lib in
/-- strings.TrimPrefix: "TrimPrefix returns s without the provided leading prefix string. If s doesn't start with prefix, s is returned unchanged.": IT RETURNS 'Lib.trimPrefix s prefix'; the world is as it was. (LAID: no walk: one application.) -/
theorem Tryz.strings_TrimPrefix (s p : ByteArray) (w : World) :
    Calls Tryz.prog 175 #[.string s, .string p] w fun e w' => e = .returned (.string ⟨(Lib.trimPrefix s.data.toList p.data.toList).toArray⟩) ∧ w' = w := Any.strings_TrimPrefix Tryz.lays101 s p w
def Tryz.lays105_ren : Go.Shelf.Ren := ⟨fun | 105 => 102 | 212 => 150 | 99 => 151 | 165 => 115 | 166 => 95 | 170 => 152 | 169 => 97 | 263 => 201 | 264 => 202 | 206 => 181 | 240 => 133 | 241 => 160 | 276 => 182 | 277 => 208 | n => n, fun | 9 => 9 | 3 => 3 | 4 => 4 | 20 => 20 | 0 => 0 | 46 => 217 | 109 => 218 | 5 => 5 | 72 => 162 | 76 => 147 | 51 => 258 | 146 => 259 | 53 => 261 | 148 => 262 | 70 => 159 | 37 => 160 | 75 => 146 | 127 => 210 | 164 => 240 | 80 => 168 | n => n, fun | n => n⟩
theorem Tryz.lays105 : Go.Proofs.Lays.n105 Tryz.prog Tryz.lays105_ren := {
  mixed := by kernel_rfl
  f99 := Tryz.func151.trans (congrArg some (by kernel_rfl))
  f105 := Tryz.func102.trans (congrArg some (by kernel_rfl))
  f165 := Tryz.func115.trans (congrArg some (by kernel_rfl))
  f166 := Tryz.func95.trans (congrArg some (by kernel_rfl))
  f169 := Tryz.func97.trans (congrArg some (by kernel_rfl))
  f170 := Tryz.func152.trans (congrArg some (by kernel_rfl))
  f206 := Tryz.func181.trans (congrArg some (by kernel_rfl))
  f212 := Tryz.func150.trans (congrArg some (by kernel_rfl))
  f240 := Tryz.func133.trans (congrArg some (by kernel_rfl))
  f241 := Tryz.func160.trans (congrArg some (by kernel_rfl))
  f263 := Tryz.func201.trans (congrArg some (by kernel_rfl))
  f264 := Tryz.func202.trans (congrArg some (by kernel_rfl))
  f276 := Tryz.func182.trans (congrArg some (by kernel_rfl))
  f277 := Tryz.func208.trans (congrArg some (by kernel_rfl))
  t0 := Tryz.underlying0
  a0 := Tryz.isAgg0
  z0 := Tryz.sizeOf0
  v0 := Tryz.zeroValue0
  t3 := Tryz.underlying3
  a3 := Tryz.isAgg3
  z3 := Tryz.sizeOf3
  v3 := Tryz.zeroValue3
  t4 := Tryz.underlying4
  a4 := Tryz.isAgg4
  z4 := Tryz.sizeOf4
  v4 := Tryz.zeroValue4
  t5 := Tryz.underlying5
  a5 := Tryz.isAgg5
  z5 := Tryz.sizeOf5
  v5 := Tryz.zeroValue5
  t9 := Tryz.underlying9
  a9 := Tryz.isAgg9
  z9 := Tryz.sizeOf9
  v9 := Tryz.zeroValue9
  t20 := Tryz.underlying20
  a20 := Tryz.isAgg20
  z20 := Tryz.sizeOf20
  v20 := Tryz.zeroValue20
  t37 := Tryz.underlying160
  a37 := Tryz.isAgg160
  z37 := Tryz.sizeOf160
  v37 := Tryz.zeroValue160
  t46 := Tryz.underlying217
  a46 := Tryz.isAgg217
  z46 := Tryz.sizeOf217
  v46 := Tryz.zeroValue217
  t51 := Tryz.underlying258
  a51 := Tryz.isAgg258
  z51 := Tryz.sizeOf258
  v51 := Tryz.zeroValue258
  t53 := Tryz.underlying261
  a53 := Tryz.isAgg261
  z53 := Tryz.sizeOf261
  v53 := Tryz.zeroValue261
  t70 := Tryz.underlying159
  a70 := Tryz.isAgg159
  z70 := Tryz.sizeOf159
  v70 := Tryz.zeroValue159
  t72 := Tryz.underlying162
  a72 := Tryz.isAgg162
  z72 := Tryz.sizeOf162
  v72 := Tryz.zeroValue162
  t75 := Tryz.underlying146
  a75 := Tryz.isAgg146
  z75 := Tryz.sizeOf146
  v75 := Tryz.zeroValue146
  t76 := Tryz.underlying147
  a76 := Tryz.isAgg147
  z76 := Tryz.sizeOf147
  v76 := Tryz.zeroValue147
  t109 := Tryz.underlying218
  a109 := Tryz.isAgg218
  z109 := Tryz.sizeOf218
  v109 := Tryz.zeroValue218
  t127 := Tryz.underlying210
  a127 := Tryz.isAgg210
  z127 := Tryz.sizeOf210
  v127 := Tryz.zeroValue210
  t146 := Tryz.underlying259
  a146 := Tryz.isAgg259
  z146 := Tryz.sizeOf259
  v146 := Tryz.zeroValue259
  t148 := Tryz.underlying262
  a148 := Tryz.isAgg262
  z148 := Tryz.sizeOf262
  v148 := Tryz.zeroValue262
  t164 := Tryz.underlying240
  a164 := Tryz.isAgg240
  z164 := Tryz.sizeOf240
  v164 := Tryz.zeroValue240 }
theorem Tryz.Builder_Extra_105 : Builder.Extra Tryz.prog Tryz.lays105_ren := {
  sizeBuilder := by kernel_rfl
  liesBuilder := by kernel_rfl
  t5 := Tryz.underlying5
  a5 := Tryz.isAgg5
  z5 := Tryz.sizeOf5
  v5 := Tryz.zeroValue5
  infoByte := by kernel_rfl
  cellsByte := by kernel_rfl
  sizeByte := by kernel_rfl
  neB5 := by decide }
open Go.RowKit Go.Lib in
/-- **strings.Repeat: count ≥ 0, the result within one allocation: count copies of s.** (LAID: no walk: one application.) -/
theorem Tryz.strings_Repeat (s : ByteArray) (c : Nat) (w : World) (hc : c ≤ 9223372036854775807) (hlen : s.size * c ≤ 140737488355328) :
    Calls Tryz.prog 102 #[.string s, .int .i64 c] w fun e w' => e = .returned (.string ⟨(Lib.repeatL s.data.toList c).toArray⟩) ∧ Below w.heap.size w w' := Any.strings_Repeat Tryz.lays105 Tryz.Builder_Extra_105 s c w hc hlen
end Go.Proofs
