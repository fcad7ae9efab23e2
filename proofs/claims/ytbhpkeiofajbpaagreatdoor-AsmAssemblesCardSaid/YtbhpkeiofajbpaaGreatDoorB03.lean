/- Parts: Shelf. -/
import Derived.Shelf.Strings.Builder1
import Derived.Shelf.Strings.Builder2
import Derived.Shelf.Strings.OnBuilder
import Derived.Shelf.Small.Strs
import Derived.Shelf.Strings.BuilderF
import Derived.Shelf.Strings.BuilderK
import Derived.Shelf.Strings.Builder2Cap
import Derived.Shelf.Strconv.Atoi
import Derived.Shelf.Strconv.Itoa0
import Derived.Shelf.Strconv.Itoa1
import Derived.Shelf.LaysM
import Derived.Shelf.Strconv.Itoa2
import Derived.Shelf.Strconv.Itoa3
import Derived.Shelf.Strconv.AtoiErrFast
import Derived.Shelf.Strconv.ParseIntEmpty
import Derived.Shelf.Strconv.AtoiFail
import Derived.Shelf.Strconv.Clone
import Derived.Shelf.Strconv.SyntaxError
import Derived.Shelf.LaysC
import Derived.Shelf.Strconv.ToError
import Derived.Shelf.Strconv.Lower
import Derived.Shelf.Strconv.ParseUint10
import Derived.Shelf.Strconv.ParseUint10Empty
import Derived.Shelf.Strconv.ParseUint10Any
import Derived.Shelf.Strconv.ParseInt10
import Derived.Shelf.Strconv.AtoiLong
import Derived.Shelf.Strconv.AtoiInnerAll
import Derived.Shelf.Strconv.RangeError
import Derived.Shelf.Strconv.ToErrorRange
import Derived.Shelf.Strconv.AtoiAll
import Derived.Shelf.Strconv.ErrVarAll
import Derived.Shelf.Strings.Search1
import Derived.Shelf.Strings.Search2
import Derived.Shelf.Strings.Search3
import Derived.Shelf.Strings.Count
import Derived.Shelf.Strings.Shaped
import Derived.Shelf.Strings.Split
import Derived.Shelf.Strings.Replace
import Derived.Shelf.Strings.SplitShaped
import Derived.Shelf.Unicode.DecodeSlow
import Derived.Shelf.Strings.BuilderCap
import Derived.Test.YtbhpkeiofajbpaaGreatDoorProg
/-
  DERIVED: THE SHELF's CONTRACTS AT THIS DUMP, IN PLAIN WORDS (tools/lay-plain.mjs out of 'TryzShelf.lean', which tools/lay-shelf.mjs wrote): THE SAME DECLARATIONS UNDER THE SAME NAMES: 'import', 'namespace', 'open', 'def', 'theorem' AND NOTHING ELSE: no command of the shelf's: FOR A HAND-IN. Each laying: the table of numbers ('.._ren') and one theorem, a field a fact of the dump's own or the kernel's comparison; each contract: ONE APPLICATION.
-/
namespace Go.Proofs
open Go.Shelf
def Tryz.lays156_ren : Go.Shelf.Ren := ⟨fun | 156 => 94 | 165 => 114 | 166 => 64 | 169 => 68 | 240 => 92 | 241 => 135 | 276 => 118 | 277 => 148 | n => n, fun | 31 => 102 | 9 => 9 | 3 => 3 | 4 => 4 | 0 => 0 | 20 => 20 | 72 => 128 | 76 => 131 | 70 => 125 | 37 => 126 | 75 => 130 | 127 => 172 | 164 => 195 | 5 => 5 | 80 => 77 | n => n, fun | n => n⟩
theorem Tryz.lays156 : Go.Proofs.Lays.n156 Tryz.prog Tryz.lays156_ren := {
 mixed := by kernel_rfl
 f156 := Tryz.func94.trans (congrArg some (by kernel_rfl))
 f165 := Tryz.func114.trans (congrArg some (by kernel_rfl))
 f166 := Tryz.func64.trans (congrArg some (by kernel_rfl))
 f169 := Tryz.func68.trans (congrArg some (by kernel_rfl))
 f240 := Tryz.func92.trans (congrArg some (by kernel_rfl))
 f241 := Tryz.func135.trans (congrArg some (by kernel_rfl))
 f276 := Tryz.func118.trans (congrArg some (by kernel_rfl))
 f277 := Tryz.func148.trans (congrArg some (by kernel_rfl))
 t0 := Tryz.underlying0
 a0 := Tryz.isAgg0
 z0 := Tryz.sizeOf0
 v0 := Tryz.zeroValue0
 t3 := Tryz.underlying3
 a3 := Tryz.isAgg3
 z3 := Tryz.sizeOf3
 v3 := Tryz.zeroValue3
 t4 := Tryz.underlying4
 a4 := Tryz.isAgg4
 z4 := Tryz.sizeOf4
 v4 := Tryz.zeroValue4
 t9 := Tryz.underlying9
 a9 := Tryz.isAgg9
 z9 := Tryz.sizeOf9
 v9 := Tryz.zeroValue9
 t20 := Tryz.underlying20
 a20 := Tryz.isAgg20
 z20 := Tryz.sizeOf20
 v20 := Tryz.zeroValue20
 t31 := Tryz.underlying102
 a31 := Tryz.isAgg102
 z31 := Tryz.sizeOf102
 v31 := Tryz.zeroValue102
 t37 := Tryz.underlying126
 a37 := Tryz.isAgg126
 z37 := Tryz.sizeOf126
 v37 := Tryz.zeroValue126
 t70 := Tryz.underlying125
 a70 := Tryz.isAgg125
 z70 := Tryz.sizeOf125
 v70 := Tryz.zeroValue125
 t72 := Tryz.underlying128
 a72 := Tryz.isAgg128
 z72 := Tryz.sizeOf128
 v72 := Tryz.zeroValue128
 t75 := Tryz.underlying130
 a75 := Tryz.isAgg130
 z75 := Tryz.sizeOf130
 v75 := Tryz.zeroValue130
 t76 := Tryz.underlying131
 a76 := Tryz.isAgg131
 z76 := Tryz.sizeOf131
 v76 := Tryz.zeroValue131
 t127 := Tryz.underlying172
 a127 := Tryz.isAgg172
 z127 := Tryz.sizeOf172
 v127 := Tryz.zeroValue172
 t164 := Tryz.underlying195
 a164 := Tryz.isAgg195
 z164 := Tryz.sizeOf195
 v164 := Tryz.zeroValue195 }
theorem Tryz.Builder_Extra_156 : Builder.Extra Tryz.prog Tryz.lays156_ren := {
 sizeBuilder := by kernel_rfl
 liesBuilder := by kernel_rfl
 t5 := Tryz.underlying5
 a5 := Tryz.isAgg5
 z5 := Tryz.sizeOf5
 v5 := Tryz.zeroValue5
 infoByte := by kernel_rfl
 cellsByte := by kernel_rfl
 sizeByte := by kernel_rfl
 neB5 := by decide }
open Go.RowKit in
/-- strings.Join: "Join concatenates the elements of its first argument to create a single string. The separator string sep is placed between elements in the resulting string.": HOWEVER MANY ELEMENTS. Below the heap's end the world is as it was. (LAID: no walk: one application.) -/
theorem Tryz.strings_Join (bk o c : Nat) (xs : List ByteArray) (sep : ByteArray) (w : World) (hcells : ∀ (j : Nat) x, xs[j]? = some x → w.cell? ⟨bk, o + j, none⟩ = some (.string x)) (hbk : bk < w.heap.size) (hN : xs.length ≤ 140737488355328) (hcap : xs.length ≤ c) (hlen : (Lib.join (xs.map (·.data.toList)) sep.data.toList).length ≤ 140737488355328) :
  Calls Tryz.prog 94 #[.slice (some ⟨bk, o, none⟩) xs.length c, .string sep] w fun e w' => e = .returned (.string ⟨(Lib.join (xs.map (·.data.toList)) sep.data.toList).toArray⟩) ∧ Below w.heap.size w w' := Any.strings_Join Tryz.lays156 Tryz.Builder_Extra_156 bk o c xs sep w hcells hbk hN hcap hlen
def Tryz.lays137_ren : Go.Shelf.Ren := ⟨fun | 137 => 81 | 217 => 107 | 266 => 127 | n => n, fun | 9 => 9 | 5 => 5 | 3 => 3 | n => n, fun | n => n⟩
theorem Tryz.lays137 : Go.Proofs.Lays.n137 Tryz.prog Tryz.lays137_ren := {
 mixed := by kernel_rfl
 f137 := Tryz.func81.trans (congrArg some (by kernel_rfl))
 f217 := Tryz.func107.trans (congrArg some (by kernel_rfl))
 f266 := Tryz.func127.trans (congrArg some (by kernel_rfl))
 t3 := Tryz.underlying3
 a3 := Tryz.isAgg3
 z3 := Tryz.sizeOf3
 v3 := Tryz.zeroValue3
 t5 := Tryz.underlying5
 a5 := Tryz.isAgg5
 z5 := Tryz.sizeOf5
 v5 := Tryz.zeroValue5
 t9 := Tryz.underlying9
 a9 := Tryz.isAgg9
 z9 := Tryz.sizeOf9
 v9 := Tryz.zeroValue9 }
open Go.RowKit in
/-- strings.IndexByte: "IndexByte returns the index of the first instance of c in s, or -1 if c is not present in s.": IT RETURNS 'Lib.indexByte s c'; the world is as it was. (LAID: no walk: one application.) -/
theorem Tryz.strings_IndexByte (s : ByteArray) (c : Int) (w : World) :
  Calls Tryz.prog 81 #[.string s, .int .u8 c] w fun e w' => e = .returned (.int .i64 (Lib.indexByte s.data.toList c.toNat.toUInt8)) ∧ w' = w := Any.strings_IndexByte Tryz.lays137 s c w
def Tryz.lays283_ren : Go.Shelf.Ren := ⟨fun | 283 => 138 | n => n, fun | 3 => 3 | 9 => 9 | 4 => 4 | n => n, fun | n => n⟩
theorem Tryz.lays283 : Go.Proofs.Lays.n283 Tryz.prog Tryz.lays283_ren := {
 mixed := by kernel_rfl
 f283 := Tryz.func138.trans (congrArg some (by kernel_rfl))
 t3 := Tryz.underlying3
 a3 := Tryz.isAgg3
 z3 := Tryz.sizeOf3
 v3 := Tryz.zeroValue3
 t4 := Tryz.underlying4
 a4 := Tryz.isAgg4
 z4 := Tryz.sizeOf4
 v4 := Tryz.zeroValue4
 t9 := Tryz.underlying9
 a9 := Tryz.isAgg9
 z9 := Tryz.sizeOf9
 v9 := Tryz.zeroValue9 }
open Go.Lib in
/-- internal/strconv.small: "small returns the string for an i with 0 <= i < nSmalls.": i's decimal numeral. The world is as it was. (LAID: no walk: one application.) -/
theorem Tryz.internal_strconv_small (i : Nat) (h : i < 100) (w : World) :
  Calls Tryz.prog 138 #[.int .i64 i] w fun e w' => e = .returned (.string ⟨(Lib.decDigits i).toArray⟩) ∧ w' = w := Any.internal_strconv_small Tryz.lays283 i h w
def Tryz.laysM284_ren : Go.Shelf.Ren := ⟨fun | 284 => 139 | 129 => 153 | 317 => 152 | 318 => 154 | n => n, fun | 53 => 199 | 3 => 3 | 212 => 226 | 0 => 0 | 4 => 4 | 46 => 220 | 5 => 5 | 9 => 9 | n => n, fun | 17 => 3 | n => n⟩
theorem Tryz.laysM284 : Go.Proofs.LaysM.n284 Tryz.prog Tryz.laysM284_ren := {
 mixed := by kernel_rfl
 f129 := Tryz.func153.trans (congrArg some (by kernel_rfl))
 f284 := Tryz.func139.trans (congrArg some (by kernel_rfl))
 f317 := Tryz.func152.trans (congrArg some (by kernel_rfl))
 f318 := Tryz.func154.trans (congrArg some (by kernel_rfl))
 t0 := Tryz.underlying0
 a0 := Tryz.isAgg0
 z0 := Tryz.sizeOf0
 v0 := Tryz.zeroValue0
 t3 := Tryz.underlying3
 a3 := Tryz.isAgg3
 z3 := Tryz.sizeOf3
 v3 := Tryz.zeroValue3
 t4 := Tryz.underlying4
 a4 := Tryz.isAgg4
 z4 := Tryz.sizeOf4
 v4 := Tryz.zeroValue4
 t5 := Tryz.underlying5
 a5 := Tryz.isAgg5
 z5 := Tryz.sizeOf5
 v5 := Tryz.zeroValue5
 t9 := Tryz.underlying9
 a9 := Tryz.isAgg9
 z9 := Tryz.sizeOf9
 v9 := Tryz.zeroValue9
 t46 := Tryz.underlying220
 a46 := Tryz.isAgg220
 z46 := Tryz.sizeOf220
 v46 := Tryz.zeroValue220
 t53 := Tryz.underlying199
 a53 := Tryz.isAgg199
 z53 := Tryz.sizeOf199
 v53 := Tryz.zeroValue199
 t212 := Tryz.underlying226
 a212 := Tryz.isAgg226
 z212 := Tryz.sizeOf226
 v212 := Tryz.zeroValue226
 g17 := by kernel_rfl
 i0 := by kernel_rfl
 i3 := by kernel_rfl
 i4 := by kernel_rfl
 i5 := by kernel_rfl
 i9 := by kernel_rfl
 i46 := by kernel_rfl
 i53 := by kernel_rfl
 i212 := by kernel_rfl
 m17 := by kernel_rfl }
open Go.Lib in
/-- internal/strconv.numDigits, at a d that is not 0: THE NUMBER OF d's DECIMAL DIGITS. The world is as it was. (LAID: no walk: one application.) -/
theorem Tryz.internal_strconv_numDigits (u : Nat) (h1 : 1 ≤ u) (h2 : u < 18446744073709551616) (w : World) (htab : Lib.TabIs Tryz.prog w "internal/strconv.uint64pow10" .u64 Lib.pow10Tab) :
  Calls Tryz.prog 139 #[.int .u64 u] w fun e w' => e = .returned (.int .i64 (Lib.nDigits u)) ∧ w' = w := Any.internal_strconv_numDigits Tryz.laysM284 u h1 h2 w htab
def Tryz.lays285_ren : Go.Shelf.Ren := ⟨fun | 285 => 140 | n => n, fun | 37 => 126 | 53 => 199 | 3 => 3 | 4 => 4 | 51 => 22 | 9 => 9 | 5 => 5 | 0 => 0 | n => n, fun | n => n⟩
theorem Tryz.lays285 : Go.Proofs.Lays.n285 Tryz.prog Tryz.lays285_ren := {
 mixed := by kernel_rfl
 f285 := Tryz.func140.trans (congrArg some (by kernel_rfl))
 t0 := Tryz.underlying0
 a0 := Tryz.isAgg0
 z0 := Tryz.sizeOf0
 v0 := Tryz.zeroValue0
 t3 := Tryz.underlying3
 a3 := Tryz.isAgg3
 z3 := Tryz.sizeOf3
 v3 := Tryz.zeroValue3
 t4 := Tryz.underlying4
 a4 := Tryz.isAgg4
 z4 := Tryz.sizeOf4
 v4 := Tryz.zeroValue4
 t5 := Tryz.underlying5
 a5 := Tryz.isAgg5
 z5 := Tryz.sizeOf5
 v5 := Tryz.zeroValue5
 t9 := Tryz.underlying9
 a9 := Tryz.isAgg9
 z9 := Tryz.sizeOf9
 v9 := Tryz.zeroValue9
 t37 := Tryz.underlying126
 a37 := Tryz.isAgg126
 z37 := Tryz.sizeOf126
 v37 := Tryz.zeroValue126
 t51 := Tryz.underlying22
 a51 := Tryz.isAgg22
 z51 := Tryz.sizeOf22
 v51 := Tryz.zeroValue22
 t53 := Tryz.underlying199
 a53 := Tryz.isAgg199
 z53 := Tryz.sizeOf199
 v53 := Tryz.zeroValue199 }
open Go.RowKit Go.Sort Go.Lib in
/-- internal/strconv.formatBase10: "formatBase10 formats the decimal representation of u into a. The caller is responsible for ensuring that a is big enough to hold u. If a is too big, leading zeros will be filled in as needed.": THE ROW HOLDS u's DIGITS ('FmtInv .. 0 ..': every place t holds 'dg u (len - 1 - t)'); all else is as it was but for the count of draws. (LAID: no walk: one application.) -/
theorem Tryz.internal_strconv_formatBase10 (blk off cap : Nat) (u : Nat) (d : Array UInt8) (w : World) (hH : Holds (fun (b : UInt8) => Value.int .u8 (b.toNat : Int)) w blk off d) (hu : u < 10 ^ d.size) (hu64 : u < 18446744073709551616) (hsz : d.size < 4611686018427387904) :
  Calls Tryz.prog 140 #[.slice (some ⟨blk, off, none⟩) d.size cap, .int .u64 u] w fun e w' =>
   e = .returned (.tuple #[]) ∧ ∃ (n v' : Nat) (dk : Array UInt8), w' = (putRow (fun (b : UInt8) => Value.int .u8 (b.toNat : Int)) w blk off dk).drewN n ∧ FmtInv d.size u 0 v' dk := Any.internal_strconv_formatBase10 Tryz.lays285 blk off cap u d w hH hu hu64 hsz
def Tryz.laysM171_ren : Go.Shelf.Ren := ⟨fun | 171 => 61 | 243 => 91 | 246 => 117 | 283 => 138 | 284 => 139 | 285 => 140 | 286 => 141 | 129 => 153 | 317 => 152 | 318 => 154 | 319 => 155 | 320 => 156 | 337 => 164 | 338 => 165 | n => n, fun | 3 => 3 | 9 => 9 | 2 => 2 | 4 => 4 | 171 => 209 | 0 => 0 | 53 => 199 | 37 => 126 | 5 => 5 | 173 => 212 | 212 => 226 | 51 => 22 | 20 => 20 | 213 => 227 | 46 => 220 | 232 => 240 | 233 => 241 | n => n, fun | 17 => 3 | 18 => 4 | 19 => 5 | n => n⟩
theorem Tryz.laysM171 : Go.Proofs.LaysM.n171 Tryz.prog Tryz.laysM171_ren := {
 mixed := by kernel_rfl
 f129 := Tryz.func153.trans (congrArg some (by kernel_rfl))
 f171 := Tryz.func61.trans (congrArg some (by kernel_rfl))
 f243 := Tryz.func91.trans (congrArg some (by kernel_rfl))
 f246 := Tryz.func117.trans (congrArg some (by kernel_rfl))
 f283 := Tryz.func138.trans (congrArg some (by kernel_rfl))
 f284 := Tryz.func139.trans (congrArg some (by kernel_rfl))
 f285 := Tryz.func140.trans (congrArg some (by kernel_rfl))
 f286 := Tryz.func141.trans (congrArg some (by kernel_rfl))
 f317 := Tryz.func152.trans (congrArg some (by kernel_rfl))
 f318 := Tryz.func154.trans (congrArg some (by kernel_rfl))
 f319 := Tryz.func155.trans (congrArg some (by kernel_rfl))
 f320 := Tryz.func156.trans (congrArg some (by kernel_rfl))
 f337 := Tryz.func164.trans (congrArg some (by kernel_rfl))
 f338 := Tryz.func165.trans (congrArg some (by kernel_rfl))
 t0 := Tryz.underlying0
 a0 := Tryz.isAgg0
 z0 := Tryz.sizeOf0
 v0 := Tryz.zeroValue0
 t2 := Tryz.underlying2
 a2 := Tryz.isAgg2
 z2 := Tryz.sizeOf2
 v2 := Tryz.zeroValue2
 t3 := Tryz.underlying3
 a3 := Tryz.isAgg3
 z3 := Tryz.sizeOf3
 v3 := Tryz.zeroValue3
 t4 := Tryz.underlying4
 a4 := Tryz.isAgg4
 z4 := Tryz.sizeOf4
 v4 := Tryz.zeroValue4
 t5 := Tryz.underlying5
 a5 := Tryz.isAgg5
 z5 := Tryz.sizeOf5
 v5 := Tryz.zeroValue5
 t9 := Tryz.underlying9
 a9 := Tryz.isAgg9
 z9 := Tryz.sizeOf9
 v9 := Tryz.zeroValue9
 t20 := Tryz.underlying20
 a20 := Tryz.isAgg20
 z20 := Tryz.sizeOf20
 v20 := Tryz.zeroValue20
 t37 := Tryz.underlying126
 a37 := Tryz.isAgg126
 z37 := Tryz.sizeOf126
 v37 := Tryz.zeroValue126
 t46 := Tryz.underlying220
 a46 := Tryz.isAgg220
 z46 := Tryz.sizeOf220
 v46 := Tryz.zeroValue220
 t51 := Tryz.underlying22
 a51 := Tryz.isAgg22
 z51 := Tryz.sizeOf22
 v51 := Tryz.zeroValue22
 t53 := Tryz.underlying199
 a53 := Tryz.isAgg199
 z53 := Tryz.sizeOf199
 v53 := Tryz.zeroValue199
 t171 := Tryz.underlying209
 a171 := Tryz.isAgg209
 z171 := Tryz.sizeOf209
 v171 := Tryz.zeroValue209
 t173 := Tryz.underlying212
 a173 := Tryz.isAgg212
 z173 := Tryz.sizeOf212
 v173 := Tryz.zeroValue212
 t212 := Tryz.underlying226
 a212 := Tryz.isAgg226
 z212 := Tryz.sizeOf226
 v212 := Tryz.zeroValue226
 t213 := Tryz.underlying227
 a213 := Tryz.isAgg227
 z213 := Tryz.sizeOf227
 t232 := Tryz.underlying240
 a232 := Tryz.isAgg240
 z232 := Tryz.sizeOf240
 v232 := Tryz.zeroValue240
 t233 := Tryz.underlying241
 a233 := Tryz.isAgg241
 z233 := Tryz.sizeOf241
 v233 := Tryz.zeroValue241
 g17 := by kernel_rfl
 g18 := by kernel_rfl
 g19 := by kernel_rfl
 i0 := by kernel_rfl
 i2 := by kernel_rfl
 i3 := by kernel_rfl
 i4 := by kernel_rfl
 i5 := by kernel_rfl
 i9 := by kernel_rfl
 i20 := by kernel_rfl
 i37 := by kernel_rfl
 i46 := by kernel_rfl
 i51 := by kernel_rfl
 i53 := by kernel_rfl
 i171 := by kernel_rfl
 i173 := by kernel_rfl
 i212 := by kernel_rfl
 i232 := by kernel_rfl
 i233 := by kernel_rfl
 m17 := by kernel_rfl
 m18 := by kernel_rfl
 m19 := by kernel_rfl }
open Go.RowKit Go.Sort Go.Lib in
/-- strconv.Itoa: "Itoa is equivalent to FormatInt(int64(i), 10).": i's DECIMAL NUMERAL ('Lib.itoa': a '-' where i is negative, then the digits), FOR EVERY int. The world behind the call: the world before it, new blocks behind the heap (the library's 'var a [24]byte'), draws. (LAID: no walk: one application.) -/
theorem Tryz.strconv_Itoa (n : Int) (h0 : -9223372036854775808 ≤ n) (h1 : n ≤ 9223372036854775807) (w : World) (htab : Lib.TabIs Tryz.prog w "internal/strconv.uint64pow10" .u64 Lib.pow10Tab) :
  Calls Tryz.prog 61 #[.int .i64 n] w fun e w' => e = .returned (.string ⟨(Lib.itoa n).toArray⟩) ∧ ∃ k os, w' = grow (w.drewN k) os := Any.strconv_Itoa Tryz.laysM171 n h0 h1 w htab
def Tryz.lays171_ren : Go.Shelf.Ren := ⟨fun | 171 => 61 | 243 => 91 | 246 => 117 | 283 => 138 | 284 => 139 | 285 => 140 | 286 => 141 | 129 => 153 | 317 => 152 | 318 => 154 | 319 => 155 | 320 => 156 | 337 => 164 | 338 => 165 | n => n, fun | 3 => 3 | 9 => 9 | 2 => 2 | 4 => 4 | 171 => 209 | 0 => 0 | 53 => 199 | 37 => 126 | 5 => 5 | 173 => 212 | 212 => 226 | 51 => 22 | 20 => 20 | 213 => 227 | 46 => 220 | 232 => 240 | 233 => 241 | n => n, fun | 17 => 3 | 18 => 4 | 19 => 5 | n => n⟩
theorem Tryz.lays171 : Go.Proofs.Lays.n171 Tryz.prog Tryz.lays171_ren := {
 mixed := by kernel_rfl
 f129 := Tryz.func153.trans (congrArg some (by kernel_rfl))
 f171 := Tryz.func61.trans (congrArg some (by kernel_rfl))
 f243 := Tryz.func91.trans (congrArg some (by kernel_rfl))
 f246 := Tryz.func117.trans (congrArg some (by kernel_rfl))
 f283 := Tryz.func138.trans (congrArg some (by kernel_rfl))
 f284 := Tryz.func139.trans (congrArg some (by kernel_rfl))
 f285 := Tryz.func140.trans (congrArg some (by kernel_rfl))
 f286 := Tryz.func141.trans (congrArg some (by kernel_rfl))
 f317 := Tryz.func152.trans (congrArg some (by kernel_rfl))
 f318 := Tryz.func154.trans (congrArg some (by kernel_rfl))
 f319 := Tryz.func155.trans (congrArg some (by kernel_rfl))
 f320 := Tryz.func156.trans (congrArg some (by kernel_rfl))
 f337 := Tryz.func164.trans (congrArg some (by kernel_rfl))
 f338 := Tryz.func165.trans (congrArg some (by kernel_rfl))
 t0 := Tryz.underlying0
 a0 := Tryz.isAgg0
 z0 := Tryz.sizeOf0
 v0 := Tryz.zeroValue0
 t2 := Tryz.underlying2
 a2 := Tryz.isAgg2
 z2 := Tryz.sizeOf2
 v2 := Tryz.zeroValue2
 t3 := Tryz.underlying3
 a3 := Tryz.isAgg3
 z3 := Tryz.sizeOf3
 v3 := Tryz.zeroValue3
 t4 := Tryz.underlying4
 a4 := Tryz.isAgg4
 z4 := Tryz.sizeOf4
 v4 := Tryz.zeroValue4
 t5 := Tryz.underlying5
 a5 := Tryz.isAgg5
 z5 := Tryz.sizeOf5
 v5 := Tryz.zeroValue5
 t9 := Tryz.underlying9
 a9 := Tryz.isAgg9
 z9 := Tryz.sizeOf9
 v9 := Tryz.zeroValue9
 t20 := Tryz.underlying20
 a20 := Tryz.isAgg20
 z20 := Tryz.sizeOf20
 v20 := Tryz.zeroValue20
 t37 := Tryz.underlying126
 a37 := Tryz.isAgg126
 z37 := Tryz.sizeOf126
 v37 := Tryz.zeroValue126
 t46 := Tryz.underlying220
 a46 := Tryz.isAgg220
 z46 := Tryz.sizeOf220
 v46 := Tryz.zeroValue220
 t51 := Tryz.underlying22
 a51 := Tryz.isAgg22
 z51 := Tryz.sizeOf22
 v51 := Tryz.zeroValue22
 t53 := Tryz.underlying199
 a53 := Tryz.isAgg199
 z53 := Tryz.sizeOf199
 v53 := Tryz.zeroValue199
 t171 := Tryz.underlying209
 a171 := Tryz.isAgg209
 z171 := Tryz.sizeOf209
 v171 := Tryz.zeroValue209
 t173 := Tryz.underlying212
 a173 := Tryz.isAgg212
 z173 := Tryz.sizeOf212
 v173 := Tryz.zeroValue212
 t212 := Tryz.underlying226
 a212 := Tryz.isAgg226
 z212 := Tryz.sizeOf226
 v212 := Tryz.zeroValue226
 t213 := Tryz.underlying227
 a213 := Tryz.isAgg227
 z213 := Tryz.sizeOf227
 t232 := Tryz.underlying240
 a232 := Tryz.isAgg240
 z232 := Tryz.sizeOf240
 v232 := Tryz.zeroValue240
 t233 := Tryz.underlying241
 a233 := Tryz.isAgg241
 z233 := Tryz.sizeOf241
 v233 := Tryz.zeroValue241
 g17 := by kernel_rfl
 g18 := by kernel_rfl
 g19 := by kernel_rfl }
open Go.RowKit Go.Sort Go.Lib in
/-- THE ROAD WITHOUT THE TABLE: 0 <= i < 100: NO PREMISE ON THE WORLD, AND THE WORLD IS AS IT WAS: a row that keeps its argument in that range need list no table ('laid = []'). (LAID: no walk: one application.) -/
theorem Tryz.strconv_Itoa_small (i : Nat) (hi : i < 100) (w : World) :
  Calls Tryz.prog 61 #[.int .i64 i] w fun e w' => e = .returned (.string ⟨(Lib.decDigits i).toArray⟩) ∧ w' = w := Any.strconv_Itoa_small Tryz.lays171 i hi w
def Tryz.laysC172_ren : Go.Shelf.Ren := ⟨fun | 172 => 146 | 244 => 160 | 245 => 161 | 247 => 166 | 279 => 167 | 280 => 168 | 281 => 169 | 282 => 170 | 287 => 172 | 316 => 173 | 171 => 61 | 205 => 174 | 321 => 175 | 322 => 176 | 243 => 91 | 246 => 117 | 283 => 138 | 284 => 139 | 285 => 140 | 286 => 141 | 129 => 153 | 317 => 152 | 318 => 154 | 319 => 155 | 320 => 156 | 337 => 164 | 338 => 165 | n => n, fun | 9 => 9 | 3 => 3 | 75 => 130 | 76 => 131 | 4 => 4 | 5 => 5 | 167 => 234 | 37 => 126 | 0 => 0 | 85 => 235 | 2 => 2 | 168 => 237 | 53 => 199 | 175 => 242 | 46 => 220 | 210 => 246 | 127 => 172 | 145 => 251 | 143 => 249 | 21 => 21 | 171 => 209 | 173 => 212 | 212 => 226 | 51 => 22 | 20 => 20 | 213 => 227 | 232 => 240 | 233 => 241 | 80 => 77 | n => n, fun | 15 => 6 | 16 => 7 | 17 => 3 | 18 => 4 | 19 => 5 | n => n⟩
theorem Tryz.laysC172 : Go.Proofs.LaysC.n172 Tryz.prog Tryz.laysC172_ren := {
 mixed := by kernel_rfl
 f129 := Tryz.func153.trans (congrArg some (by kernel_rfl))
 f171 := Tryz.func61.trans (congrArg some (by kernel_rfl))
 f172 := Tryz.func146.trans (congrArg some (by kernel_rfl))
 f205 := Tryz.func174.trans (congrArg some (by kernel_rfl))
 f243 := Tryz.func91.trans (congrArg some (by kernel_rfl))
 f244 := Tryz.func160.trans (congrArg some (by kernel_rfl))
 f245 := Tryz.func161.trans (congrArg some (by kernel_rfl))
 f246 := Tryz.func117.trans (congrArg some (by kernel_rfl))
 f247 := Tryz.func166.trans (congrArg some (by kernel_rfl))
 f279 := Tryz.func167.trans (congrArg some (by kernel_rfl))
 f280 := Tryz.func168.trans (congrArg some (by kernel_rfl))
 f281 := Tryz.func169.trans (congrArg some (by kernel_rfl))
 f282 := Tryz.func170.trans (congrArg some (by kernel_rfl))
 f283 := Tryz.func138.trans (congrArg some (by kernel_rfl))
 f284 := Tryz.func139.trans (congrArg some (by kernel_rfl))
 f285 := Tryz.func140.trans (congrArg some (by kernel_rfl))
 f286 := Tryz.func141.trans (congrArg some (by kernel_rfl))
 f287 := Tryz.func172.trans (congrArg some (by kernel_rfl))
 f316 := Tryz.func173.trans (congrArg some (by kernel_rfl))
 f317 := Tryz.func152.trans (congrArg some (by kernel_rfl))
 f318 := Tryz.func154.trans (congrArg some (by kernel_rfl))
 f319 := Tryz.func155.trans (congrArg some (by kernel_rfl))
 f320 := Tryz.func156.trans (congrArg some (by kernel_rfl))
 f321 := Tryz.func175.trans (congrArg some (by kernel_rfl))
 f322 := Tryz.func176.trans (congrArg some (by kernel_rfl))
 f337 := Tryz.func164.trans (congrArg some (by kernel_rfl))
 f338 := Tryz.func165.trans (congrArg some (by kernel_rfl))
 t0 := Tryz.underlying0
 a0 := Tryz.isAgg0
 z0 := Tryz.sizeOf0
 v0 := Tryz.zeroValue0
 t2 := Tryz.underlying2
 a2 := Tryz.isAgg2
 z2 := Tryz.sizeOf2
 v2 := Tryz.zeroValue2
 t3 := Tryz.underlying3
 a3 := Tryz.isAgg3
 z3 := Tryz.sizeOf3
 v3 := Tryz.zeroValue3
 t4 := Tryz.underlying4
 a4 := Tryz.isAgg4
 z4 := Tryz.sizeOf4
 v4 := Tryz.zeroValue4
 t5 := Tryz.underlying5
 a5 := Tryz.isAgg5
 z5 := Tryz.sizeOf5
 v5 := Tryz.zeroValue5
 t9 := Tryz.underlying9
 a9 := Tryz.isAgg9
 z9 := Tryz.sizeOf9
 v9 := Tryz.zeroValue9
 t20 := Tryz.underlying20
 a20 := Tryz.isAgg20
 z20 := Tryz.sizeOf20
 v20 := Tryz.zeroValue20
 t21 := Tryz.underlying21
 a21 := Tryz.isAgg21
 z21 := Tryz.sizeOf21
 v21 := Tryz.zeroValue21
 t37 := Tryz.underlying126
 a37 := Tryz.isAgg126
 z37 := Tryz.sizeOf126
 v37 := Tryz.zeroValue126
 t46 := Tryz.underlying220
 a46 := Tryz.isAgg220
 z46 := Tryz.sizeOf220
 v46 := Tryz.zeroValue220
 t51 := Tryz.underlying22
 a51 := Tryz.isAgg22
 z51 := Tryz.sizeOf22
 v51 := Tryz.zeroValue22
 t53 := Tryz.underlying199
 a53 := Tryz.isAgg199
 z53 := Tryz.sizeOf199
 v53 := Tryz.zeroValue199
 t75 := Tryz.underlying130
 a75 := Tryz.isAgg130
 z75 := Tryz.sizeOf130
 v75 := Tryz.zeroValue130
 t76 := Tryz.underlying131
 a76 := Tryz.isAgg131
 z76 := Tryz.sizeOf131
 v76 := Tryz.zeroValue131
 t85 := Tryz.underlying235
 a85 := Tryz.isAgg235
 z85 := Tryz.sizeOf235
 v85 := Tryz.zeroValue235
 t127 := Tryz.underlying172
 a127 := Tryz.isAgg172
 z127 := Tryz.sizeOf172
 v127 := Tryz.zeroValue172
 t143 := Tryz.underlying249
 a143 := Tryz.isAgg249
 z143 := Tryz.sizeOf249
 v143 := Tryz.zeroValue249
 t145 := Tryz.underlying251
 a145 := Tryz.isAgg251
 z145 := Tryz.sizeOf251
 v145 := Tryz.zeroValue251
 t167 := Tryz.underlying234
 a167 := Tryz.isAgg234
 z167 := Tryz.sizeOf234
 v167 := Tryz.zeroValue234
 t168 := Tryz.underlying237
 a168 := Tryz.isAgg237
 z168 := Tryz.sizeOf237
 v168 := Tryz.zeroValue237
 t171 := Tryz.underlying209
 a171 := Tryz.isAgg209
 z171 := Tryz.sizeOf209
 v171 := Tryz.zeroValue209
 t173 := Tryz.underlying212
 a173 := Tryz.isAgg212
 z173 := Tryz.sizeOf212
 v173 := Tryz.zeroValue212
 t175 := Tryz.underlying242
 a175 := Tryz.isAgg242
 z175 := Tryz.sizeOf242
 v175 := Tryz.zeroValue242
 t210 := Tryz.underlying246
 a210 := Tryz.isAgg246
 z210 := Tryz.sizeOf246
 v210 := Tryz.zeroValue246
 t212 := Tryz.underlying226
 a212 := Tryz.isAgg226
 z212 := Tryz.sizeOf226
 v212 := Tryz.zeroValue226
 t213 := Tryz.underlying227
 a213 := Tryz.isAgg227
 z213 := Tryz.sizeOf227
 t232 := Tryz.underlying240
 a232 := Tryz.isAgg240
 z232 := Tryz.sizeOf240
 v232 := Tryz.zeroValue240
 t233 := Tryz.underlying241
 a233 := Tryz.isAgg241
 z233 := Tryz.sizeOf241
 v233 := Tryz.zeroValue241
 g15 := by kernel_rfl
 g16 := by kernel_rfl
 g17 := by kernel_rfl
 g18 := by kernel_rfl
 g19 := by kernel_rfl
 t80 := Tryz.underlying77
 a80 := Tryz.isAgg77
 z80 := Tryz.sizeOf77
 v80 := Tryz.zeroValue77
 i0 := by kernel_rfl
 i2 := by kernel_rfl
 i3 := by kernel_rfl
 i4 := by kernel_rfl
 i5 := by kernel_rfl
 i9 := by kernel_rfl
 i20 := by kernel_rfl
 i21 := by kernel_rfl
 i37 := by kernel_rfl
 i46 := by kernel_rfl
 i51 := by kernel_rfl
 i53 := by kernel_rfl
 i75 := by kernel_rfl
 i76 := by kernel_rfl
 i80 := by kernel_rfl
 i85 := by kernel_rfl
 i127 := by kernel_rfl
 i143 := by kernel_rfl
 i145 := by kernel_rfl
 i167 := by kernel_rfl
 i168 := by kernel_rfl
 i171 := by kernel_rfl
 i173 := by kernel_rfl
 i175 := by kernel_rfl
 i210 := by kernel_rfl
 i212 := by kernel_rfl
 i232 := by kernel_rfl
 i233 := by kernel_rfl
 m15 := by kernel_rfl
 m16 := by kernel_rfl
 m17 := by kernel_rfl
 m18 := by kernel_rfl
 m19 := by kernel_rfl
 c0 := by kernel_rfl
 c2 := by kernel_rfl
 c3 := by kernel_rfl
 c4 := by kernel_rfl
 c5 := by kernel_rfl
 c9 := by kernel_rfl
 c20 := by kernel_rfl
 c21 := by kernel_rfl
 c37 := by kernel_rfl
 c46 := by kernel_rfl
 c51 := by kernel_rfl
 c53 := by kernel_rfl
 c75 := by kernel_rfl
 c76 := by kernel_rfl
 c80 := by kernel_rfl
 c85 := by kernel_rfl
 c127 := by kernel_rfl
 c143 := by kernel_rfl
 c145 := by kernel_rfl
 c167 := by kernel_rfl
 c168 := by kernel_rfl
 c171 := by kernel_rfl
 c173 := by kernel_rfl
 c175 := by kernel_rfl
 c210 := by kernel_rfl
 c212 := by kernel_rfl
 c213 := by kernel_rfl
 c232 := by kernel_rfl
 c233 := by kernel_rfl }
open Go.RowKit in
/-- strconv.Atoi, AT EVERY STRING THAT SPELLS AN int ('Lib.atoiAll .. = .ok v'; of whatever length: leading zeros count): v, AND NO ERROR. The world: as it was, or with the one new row that '[]byte(..)' lays. (LAID: no walk: one application.) -/
theorem Tryz.strconv_Atoi_ok (s : ByteArray) (hmax : s.size ≤ 9223372036854775806) (v : Int) (h : Lib.atoiAll s.data.toList = .ok v) (w : World) :
  Calls Tryz.prog 146 #[.string s] w fun e w' => e = .returned (.tuple #[.int .i64 v, .nilIface]) ∧ (w' = w ∨ ∃ t, w' = Lib.bytesWorld w 5 t) := Any.strconv_Atoi_ok Tryz.laysC172 s hmax v h w
open Go.RowKit in
theorem Tryz.strconv_Atoi_syntax_var (s : ByteArray) (hlim : s.size ≤ 281474976710656) (h1 : ∀ v, Lib.atoiAll s.data.toList ≠ .ok v) (h2 : Lib.atoiAll s.data.toList ≠ .range) (tp : TypeId) (p : Value) (w : World) (hvar : w.var? Tryz.prog "strconv.ErrSyntax" = some #[.iface tp p]) :
  Calls Tryz.prog 146 #[.string s] w fun e w' => ∃ N, e = .returned (.tuple #[.int .i64 0, .iface 237 (.pointer (some ⟨N, 0, none⟩))]) ∧ w.heap.size ≤ N ∧ w'.heap[N]? = some (.cells #[.string ⟨#[65, 116, 111, 105]⟩, .string s, .iface tp p] 246 (0, 0)) ∧ Below w.heap.size w w' := by
 cases h : Lib.atoiAll s.data.toList with
 | ok v => exact absurd h (h1 v)
 | range => exact absurd h h2
 | _ => exact Any.strconv_Atoi_syntax_var Tryz.laysC172 s hlim h tp p w hvar
open Go.RowKit in
theorem Tryz.strconv_Atoi_range_var (s : ByteArray) (hlim : s.size ≤ 281474976710656) (h : Lib.atoiAll s.data.toList = .range) (tp : TypeId) (p : Value) (w : World) (hvar : w.var? Tryz.prog "strconv.ErrRange" = some #[.iface tp p]) :
  Calls Tryz.prog 146 #[.string s] w fun e w' => ∃ N, e = .returned (.tuple #[.int .i64 (Lib.atoiSat s.data.toList), .iface 237 (.pointer (some ⟨N, 0, none⟩))]) ∧ w.heap.size ≤ N ∧ w'.heap[N]? = some (.cells #[.string ⟨#[65, 116, 111, 105]⟩, .string s, .iface tp p] 246 (0, 0)) ∧ Below w.heap.size w w' := Any.strconv_Atoi_range_var Tryz.laysC172 s hlim h tp p w hvar
def Tryz.laysM146_ren : Go.Shelf.Ren := ⟨fun | 146 => 129 | 221 => 145 | 268 => 159 | 138 => 113 | 143 => 115 | 195 => 133 | 197 => 116 | 218 => 134 | 219 => 136 | 260 => 137 | 217 => 107 | 225 => 149 | 224 => 150 | 267 => 151 | 266 => 127 | 314 => 163 | n => n, fun | 9 => 9 | 31 => 102 | 3 => 3 | 4 => 4 | 0 => 0 | 105 => 192 | 21 => 21 | 5 => 5 | 46 => 220 | 119 => 221 | 139 => 224 | 138 => 223 | 146 => 232 | 51 => 22 | n => n, fun | 1 => 0 | 3 => 1 | 4 => 2 | n => n⟩
theorem Tryz.laysM146 : Go.Proofs.LaysM.n146 Tryz.prog Tryz.laysM146_ren := {
 mixed := by kernel_rfl
 f138 := Tryz.func113.trans (congrArg some (by kernel_rfl))
 f143 := Tryz.func115.trans (congrArg some (by kernel_rfl))
 f146 := Tryz.func129.trans (congrArg some (by kernel_rfl))
 f195 := Tryz.func133.trans (congrArg some (by kernel_rfl))
 f197 := Tryz.func116.trans (congrArg some (by kernel_rfl))
 f217 := Tryz.func107.trans (congrArg some (by kernel_rfl))
 f218 := Tryz.func134.trans (congrArg some (by kernel_rfl))
 f219 := Tryz.func136.trans (congrArg some (by kernel_rfl))
 f221 := Tryz.func145.trans (congrArg some (by kernel_rfl))
 f224 := Tryz.func150.trans (congrArg some (by kernel_rfl))
 f225 := Tryz.func149.trans (congrArg some (by kernel_rfl))
 f260 := Tryz.func137.trans (congrArg some (by kernel_rfl))
 f266 := Tryz.func127.trans (congrArg some (by kernel_rfl))
 f267 := Tryz.func151.trans (congrArg some (by kernel_rfl))
 f268 := Tryz.func159.trans (congrArg some (by kernel_rfl))
 f314 := Tryz.func163.trans (congrArg some (by kernel_rfl))
 t0 := Tryz.underlying0
 a0 := Tryz.isAgg0
 z0 := Tryz.sizeOf0
 v0 := Tryz.zeroValue0
 t3 := Tryz.underlying3
 a3 := Tryz.isAgg3
 z3 := Tryz.sizeOf3
 v3 := Tryz.zeroValue3
 t4 := Tryz.underlying4
 a4 := Tryz.isAgg4
 z4 := Tryz.sizeOf4
 v4 := Tryz.zeroValue4
 t5 := Tryz.underlying5
 a5 := Tryz.isAgg5
 z5 := Tryz.sizeOf5
 v5 := Tryz.zeroValue5
 t9 := Tryz.underlying9
 a9 := Tryz.isAgg9
 z9 := Tryz.sizeOf9
 v9 := Tryz.zeroValue9
 t21 := Tryz.underlying21
 a21 := Tryz.isAgg21
 z21 := Tryz.sizeOf21
 v21 := Tryz.zeroValue21
 t31 := Tryz.underlying102
 a31 := Tryz.isAgg102
 z31 := Tryz.sizeOf102
 v31 := Tryz.zeroValue102
 t46 := Tryz.underlying220
 a46 := Tryz.isAgg220
 z46 := Tryz.sizeOf220
 v46 := Tryz.zeroValue220
 t51 := Tryz.underlying22
 a51 := Tryz.isAgg22
 z51 := Tryz.sizeOf22
 v51 := Tryz.zeroValue22
 t105 := Tryz.underlying192
 a105 := Tryz.isAgg192
 z105 := Tryz.sizeOf192
 v105 := Tryz.zeroValue192
 t119 := Tryz.underlying221
 a119 := Tryz.isAgg221
 z119 := Tryz.sizeOf221
 t138 := Tryz.underlying223
 a138 := Tryz.isAgg223
 z138 := Tryz.sizeOf223
 v138 := Tryz.zeroValue223
 t139 := Tryz.underlying224
 a139 := Tryz.isAgg224
 z139 := Tryz.sizeOf224
 v139 := Tryz.zeroValue224
 t146 := Tryz.underlying232
 a146 := Tryz.isAgg232
 z146 := Tryz.sizeOf232
 v146 := Tryz.zeroValue232
 g1 := by kernel_rfl
 g3 := by kernel_rfl
 g4 := by kernel_rfl
 i0 := by kernel_rfl
 i3 := by kernel_rfl
 i4 := by kernel_rfl
 i5 := by kernel_rfl
 i9 := by kernel_rfl
 i21 := by kernel_rfl
 i31 := by kernel_rfl
 i46 := by kernel_rfl
 i51 := by kernel_rfl
 i105 := by kernel_rfl
 i138 := by kernel_rfl
 i139 := by kernel_rfl
 i146 := by kernel_rfl
 m1 := by kernel_rfl
 s1_3 := fun w h => Go.Proofs.cell_of_shapedOpen_int (zero := #[.int .i64 0]) (t := 3) h (of_decide_eq_true (by kernel_rfl)) (by kernel_rfl) rfl (by kernel_rfl) (by kernel_rfl) Tryz.underlying3
 m3 := by kernel_rfl
 m4 := by kernel_rfl }
open Go.RowKit Go.Lib in
/-- strings.Split, sep not empty. (LAID: no walk: one application.) -/
theorem Tryz.strings_Split_shaped (s sep : ByteArray) (w : World) (h : w.ShapedOpen Tryz.prog) (hs : s.size < 4294967281) (h1 : 1 ≤ sep.size) :
  Calls Tryz.prog 129 #[.string s, .string sep] w fun e w' =>
   e = .returned (.slice (some ⟨w.heap.size, 0, none⟩) (Lib.countB s sep + 1) (Lib.countB s sep + 1)) ∧ w' = w.alloc (.cells ((Lib.splitB sep 0 (Lib.countB s sep) s).map Value.string).toArray 9) := Any.strings_Split_shaped Tryz.laysM146 s sep w h hs h1
end Go.Proofs
