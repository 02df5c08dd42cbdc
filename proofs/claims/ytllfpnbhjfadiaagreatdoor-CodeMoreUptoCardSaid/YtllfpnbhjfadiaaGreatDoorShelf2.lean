/-
  DERIVED: THE SHELF's CONTRACTS AT THIS DUMP, IN PLAIN WORDS (tools/lay-plain.mjs out of 'TryzShelf2T.lean', which tools/lay-shelf.mjs wrote): THE SAME DECLARATIONS UNDER THE SAME NAMES: 'import', 'namespace', 'open', 'def', 'theorem' AND NOTHING ELSE: no command of the shelf's: FOR A HAND-IN. Each laying: the table of numbers ('.._ren') and one theorem, a field a fact of the dump's own or the kernel's comparison; each contract: ONE APPLICATION.
-/
import Derived.Shelf.Small.Utf8
import Derived.Shelf.Small.Bits
import Derived.Shelf.Small.Strs
import Derived.Shelf.Small.Wraps
import Derived.Shelf.Utf8.AppendRune
import Derived.Shelf.Strconv.Bsearch
import Derived.Shelf.Strconv.IsPrint
import Derived.Shelf.Strconv.IsPrint16
import Derived.Shelf.Strconv.IsPrint32
import Derived.Shelf.Strconv.Escaped
import Derived.Shelf.Strconv.Quoted
import Derived.Shelf.Strconv.Quote
import Derived.Shelf.Strconv.Itoa0
import Derived.Shelf.Strconv.Itoa1
import Derived.Shelf.LaysM
import Derived.Shelf.Strconv.Itoa2
import Derived.Shelf.Strconv.Itoa3
import Derived.Shelf.Strconv.Clone
import Derived.Shelf.Strings.Prefix
import Derived.Shelf.Unicode.DecodeSlow
import Derived.Shelf.Unicode.DecodeAny
import Derived.Test.YtllfpnbhjfadiaaGreatDoorProg
namespace Go.Proofs
open Go.Shelf
def Tryz.lays177_ren : Go.Shelf.Ren := ⟨fun | 177 => 121 | 250 => 151 | 289 => 182 | 197 => 217 | 323 => 218 | 260 => 248 | 339 => 249 | 340 => 250 | 242 => 251 | 119 => 252 | 345 => 270 | 346 => 271 | 278 => 272 | n => n, fun | 9 => 9 | 5 => 5 | 4 => 4 | 3 => 3 | 37 => 60 | 21 => 21 | 105 => 309 | 46 => 237 | 119 => 342 | 0 => 0 | 139 => 345 | 138 => 344 | 49 => 346 | 234 => 347 | 131 => 150 | 51 => 261 | 236 => 349 | n => n, fun | 3 => 3 | 4 => 4 | 20 => 5 | 21 => 6 | 22 => 7 | 23 => 8 | 24 => 9 | n => n⟩
theorem Tryz.lays177 : Go.Proofs.Lays.n177 Tryz.prog Tryz.lays177_ren := {
  mixed := by kernel_rfl
  f119 := Tryz.func252.trans (congrArg some (by kernel_rfl))
  f177 := Tryz.func121.trans (congrArg some (by kernel_rfl))
  f197 := Tryz.func217.trans (congrArg some (by kernel_rfl))
  f242 := Tryz.func251.trans (congrArg some (by kernel_rfl))
  f250 := Tryz.func151.trans (congrArg some (by kernel_rfl))
  f260 := Tryz.func248.trans (congrArg some (by kernel_rfl))
  f278 := Tryz.func272.trans (congrArg some (by kernel_rfl))
  f289 := Tryz.func182.trans (congrArg some (by kernel_rfl))
  f323 := Tryz.func218.trans (congrArg some (by kernel_rfl))
  f339 := Tryz.func249.trans (congrArg some (by kernel_rfl))
  f340 := Tryz.func250.trans (congrArg some (by kernel_rfl))
  f345 := Tryz.func270.trans (congrArg some (by kernel_rfl))
  f346 := Tryz.func271.trans (congrArg some (by kernel_rfl))
  t0 := Tryz.underlying0
  a0 := Tryz.isAgg0
  z0 := Tryz.sizeOf0
  v0 := Tryz.zeroValue0
  t3 := Tryz.underlying3
  a3 := Tryz.isAgg3
  z3 := Tryz.sizeOf3
  v3 := Tryz.zeroValue3
  t4 := Tryz.underlying4
  a4 := Tryz.isAgg4
  z4 := Tryz.sizeOf4
  v4 := Tryz.zeroValue4
  t5 := Tryz.underlying5
  a5 := Tryz.isAgg5
  z5 := Tryz.sizeOf5
  v5 := Tryz.zeroValue5
  t9 := Tryz.underlying9
  a9 := Tryz.isAgg9
  z9 := Tryz.sizeOf9
  v9 := Tryz.zeroValue9
  t21 := Tryz.underlying21
  a21 := Tryz.isAgg21
  z21 := Tryz.sizeOf21
  v21 := Tryz.zeroValue21
  t37 := Tryz.underlying60
  a37 := Tryz.isAgg60
  z37 := Tryz.sizeOf60
  v37 := Tryz.zeroValue60
  t46 := Tryz.underlying237
  a46 := Tryz.isAgg237
  z46 := Tryz.sizeOf237
  v46 := Tryz.zeroValue237
  t49 := Tryz.underlying346
  a49 := Tryz.isAgg346
  z49 := Tryz.sizeOf346
  v49 := Tryz.zeroValue346
  t51 := Tryz.underlying261
  a51 := Tryz.isAgg261
  z51 := Tryz.sizeOf261
  v51 := Tryz.zeroValue261
  t105 := Tryz.underlying309
  a105 := Tryz.isAgg309
  z105 := Tryz.sizeOf309
  v105 := Tryz.zeroValue309
  t119 := Tryz.underlying342
  a119 := Tryz.isAgg342
  z119 := Tryz.sizeOf342
  t131 := Tryz.underlying150
  a131 := Tryz.isAgg150
  z131 := Tryz.sizeOf150
  v131 := Tryz.zeroValue150
  t138 := Tryz.underlying344
  a138 := Tryz.isAgg344
  z138 := Tryz.sizeOf344
  v138 := Tryz.zeroValue344
  t139 := Tryz.underlying345
  a139 := Tryz.isAgg345
  z139 := Tryz.sizeOf345
  v139 := Tryz.zeroValue345
  t234 := Tryz.underlying347
  a234 := Tryz.isAgg347
  z234 := Tryz.sizeOf347
  v234 := Tryz.zeroValue347
  t236 := Tryz.underlying349
  a236 := Tryz.isAgg349
  z236 := Tryz.sizeOf349
  v236 := Tryz.zeroValue349
  g3 := by kernel_rfl
  g4 := by kernel_rfl
  g20 := by kernel_rfl
  g21 := by kernel_rfl
  g22 := by kernel_rfl
  g23 := by kernel_rfl
  g24 := by kernel_rfl }
open Go.RowKit in
/-- **strconv.Quote AT EVERY STRING, VALID UTF-8 OR NOT** (of at most some 2^43 bytes: ten bytes may come of one): 'strOfNums (Lib.quoteZ T s)': Derived/Lib/QuoteLoop.lean: a row of Lean a statement of Go. Of what was there nothing has turned. (LAID: no walk: one application.) -/
theorem Tryz.strconv_Quote (T : Lib.PrintTabs) (s : ByteArray) (w : World) (hlen : 10 * s.size + 12 ≤ 140737488355328) (hT : Lib.PrintTabsAt 5 6 7 8 T w) (hU : Lib.Utf8Tabs 3 4 w) :
    Calls Tryz.prog 121 #[.string s] w fun e w' => e = .returned (.string (strOfNums (Lib.quoteZ T s))) ∧ Below w.heap.size w w' := Any.strconv_Quote Tryz.lays177 (by kernel_rfl) T s w hlen hT hU
def Tryz.laysM171_ren : Go.Shelf.Ren := ⟨fun | 171 => 120 | 243 => 150 | 246 => 181 | 283 => 213 | 284 => 214 | 285 => 215 | 286 => 216 | 129 => 162 | 317 => 244 | 318 => 245 | 319 => 246 | 320 => 247 | 337 => 268 | 338 => 269 | n => n, fun | 3 => 3 | 9 => 9 | 2 => 2 | 4 => 4 | 171 => 305 | 0 => 0 | 53 => 36 | 37 => 60 | 5 => 5 | 173 => 307 | 212 => 328 | 51 => 261 | 20 => 20 | 213 => 329 | 46 => 237 | 232 => 105 | 233 => 355 | n => n, fun | 17 => 2 | 18 => 10 | 19 => 11 | n => n⟩
theorem Tryz.laysM171 : Go.Proofs.LaysM.n171 Tryz.prog Tryz.laysM171_ren := {
  mixed := by kernel_rfl
  f129 := Tryz.func162.trans (congrArg some (by kernel_rfl))
  f171 := Tryz.func120.trans (congrArg some (by kernel_rfl))
  f243 := Tryz.func150.trans (congrArg some (by kernel_rfl))
  f246 := Tryz.func181.trans (congrArg some (by kernel_rfl))
  f283 := Tryz.func213.trans (congrArg some (by kernel_rfl))
  f284 := Tryz.func214.trans (congrArg some (by kernel_rfl))
  f285 := Tryz.func215.trans (congrArg some (by kernel_rfl))
  f286 := Tryz.func216.trans (congrArg some (by kernel_rfl))
  f317 := Tryz.func244.trans (congrArg some (by kernel_rfl))
  f318 := Tryz.func245.trans (congrArg some (by kernel_rfl))
  f319 := Tryz.func246.trans (congrArg some (by kernel_rfl))
  f320 := Tryz.func247.trans (congrArg some (by kernel_rfl))
  f337 := Tryz.func268.trans (congrArg some (by kernel_rfl))
  f338 := Tryz.func269.trans (congrArg some (by kernel_rfl))
  t0 := Tryz.underlying0
  a0 := Tryz.isAgg0
  z0 := Tryz.sizeOf0
  v0 := Tryz.zeroValue0
  t2 := Tryz.underlying2
  a2 := Tryz.isAgg2
  z2 := Tryz.sizeOf2
  v2 := Tryz.zeroValue2
  t3 := Tryz.underlying3
  a3 := Tryz.isAgg3
  z3 := Tryz.sizeOf3
  v3 := Tryz.zeroValue3
  t4 := Tryz.underlying4
  a4 := Tryz.isAgg4
  z4 := Tryz.sizeOf4
  v4 := Tryz.zeroValue4
  t5 := Tryz.underlying5
  a5 := Tryz.isAgg5
  z5 := Tryz.sizeOf5
  v5 := Tryz.zeroValue5
  t9 := Tryz.underlying9
  a9 := Tryz.isAgg9
  z9 := Tryz.sizeOf9
  v9 := Tryz.zeroValue9
  t20 := Tryz.underlying20
  a20 := Tryz.isAgg20
  z20 := Tryz.sizeOf20
  v20 := Tryz.zeroValue20
  t37 := Tryz.underlying60
  a37 := Tryz.isAgg60
  z37 := Tryz.sizeOf60
  v37 := Tryz.zeroValue60
  t46 := Tryz.underlying237
  a46 := Tryz.isAgg237
  z46 := Tryz.sizeOf237
  v46 := Tryz.zeroValue237
  t51 := Tryz.underlying261
  a51 := Tryz.isAgg261
  z51 := Tryz.sizeOf261
  v51 := Tryz.zeroValue261
  t53 := Tryz.underlying36
  a53 := Tryz.isAgg36
  z53 := Tryz.sizeOf36
  v53 := Tryz.zeroValue36
  t171 := Tryz.underlying305
  a171 := Tryz.isAgg305
  z171 := Tryz.sizeOf305
  v171 := Tryz.zeroValue305
  t173 := Tryz.underlying307
  a173 := Tryz.isAgg307
  z173 := Tryz.sizeOf307
  v173 := Tryz.zeroValue307
  t212 := Tryz.underlying328
  a212 := Tryz.isAgg328
  z212 := Tryz.sizeOf328
  v212 := Tryz.zeroValue328
  t213 := Tryz.underlying329
  a213 := Tryz.isAgg329
  z213 := Tryz.sizeOf329
  t232 := Tryz.underlying105
  a232 := Tryz.isAgg105
  z232 := Tryz.sizeOf105
  v232 := Tryz.zeroValue105
  t233 := Tryz.underlying355
  a233 := Tryz.isAgg355
  z233 := Tryz.sizeOf355
  v233 := Tryz.zeroValue355
  g17 := by kernel_rfl
  g18 := by kernel_rfl
  g19 := by kernel_rfl
  i0 := by kernel_rfl
  i2 := by kernel_rfl
  i3 := by kernel_rfl
  i4 := by kernel_rfl
  i5 := by kernel_rfl
  i9 := by kernel_rfl
  i20 := by kernel_rfl
  i37 := by kernel_rfl
  i46 := by kernel_rfl
  i51 := by kernel_rfl
  i53 := by kernel_rfl
  i171 := by kernel_rfl
  i173 := by kernel_rfl
  i212 := by kernel_rfl
  i232 := by kernel_rfl
  i233 := by kernel_rfl
  m17 := by kernel_rfl
  m18 := by kernel_rfl
  m19 := by kernel_rfl }
open Go.RowKit Go.Sort Go.Lib in
/-- strconv.Itoa: "Itoa is equivalent to FormatInt(int64(i), 10).": i's DECIMAL NUMERAL ('Lib.itoa': a '-' where i is negative, then the digits), FOR EVERY int. The world behind the call: the world before it, new blocks behind the heap (the library's 'var a [24]byte'), draws. (LAID: no walk: one application.) -/
theorem Tryz.strconv_Itoa (n : Int) (h0 : -9223372036854775808 ≤ n) (h1 : n ≤ 9223372036854775807) (w : World) (htab : Lib.TabIs Tryz.prog w "internal/strconv.uint64pow10" .u64 Lib.pow10Tab) :
    Calls Tryz.prog 120 #[.int .i64 n] w fun e w' => e = .returned (.string ⟨(Lib.itoa n).toArray⟩) ∧ ∃ k os, w' = grow (w.drewN k) os := Any.strconv_Itoa Tryz.laysM171 n h0 h1 w htab
end Go.Proofs
