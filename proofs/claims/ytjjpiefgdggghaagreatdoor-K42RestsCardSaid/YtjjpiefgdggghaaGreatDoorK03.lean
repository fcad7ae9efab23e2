/- Parts: Shelf, WLast. -/
import Derived.Shelf.Strings.Builder1
import Derived.Shelf.Strings.Builder2
import Derived.Shelf.Strings.OnBuilder
import Derived.Shelf.Small.Strs
import Derived.Shelf.Strings.BuilderF
import Derived.Shelf.Strings.BuilderK
import Derived.Shelf.Strings.Builder2Cap
import Derived.Shelf.Strconv.Atoi
import Derived.Shelf.Strconv.Itoa0
import Derived.Shelf.Strconv.Itoa1
import Derived.Shelf.LaysM
import Derived.Shelf.Strconv.Itoa2
import Derived.Shelf.Strconv.Itoa3
import Derived.Shelf.Strconv.AtoiErrFast
import Derived.Shelf.Strconv.ParseIntEmpty
import Derived.Shelf.Strconv.AtoiFail
import Derived.Shelf.Strconv.Clone
import Derived.Shelf.Strconv.SyntaxError
import Derived.Shelf.LaysC
import Derived.Shelf.Strconv.ToError
import Derived.Shelf.Strconv.Lower
import Derived.Shelf.Strconv.ParseUint10
import Derived.Shelf.Strconv.ParseUint10Empty
import Derived.Shelf.Strconv.ParseUint10Any
import Derived.Shelf.Strconv.ParseInt10
import Derived.Shelf.Strconv.AtoiLong
import Derived.Shelf.Strconv.AtoiInnerAll
import Derived.Shelf.Strconv.RangeError
import Derived.Shelf.Strconv.ToErrorRange
import Derived.Shelf.Strconv.AtoiAll
import Derived.Shelf.Strconv.ErrVarAll
import Derived.Shelf.Strings.Search1
import Derived.Shelf.Strings.Search2
import Derived.Shelf.Strings.Search3
import Derived.Shelf.Strings.Count
import Derived.Shelf.Strings.Shaped
import Derived.Shelf.Strings.Split
import Derived.Shelf.Strings.Replace
import Derived.Shelf.Strings.SplitShaped
import Derived.Shelf.Unicode.DecodeSlow
import Derived.Shelf.Strings.BuilderCap
import Derived.Shelf.Slices.Turned
import Derived.Test.YtjjpiefgdggghaaGreatDoorProg
import Derived.OrdersHeld
import Derived.Deep.RegionHeld3
import Derived.Laws.BitsLemmas
import Derived.RowKit
set_option linter.unusedVariables false
set_option linter.unusedSimpArgs false
set_option maxRecDepth 100000
set_option maxHeartbeats 40000000
namespace Go.Proofs
section
open Go.Shelf
def Tryz.Kh:Go.Shelf.Ren:=⟨fun |156=>170 |165=>110 |166=>112 |169=>114 |240=>133 |241=>134 |276=>154 |277=>155 |n=>n,fun |31=>108 |9=>9 |3=>3 |4=>4 |0=>0 |20=>20 |72=>168 |76=>172 |70=>166 |37=>142 |75=>171 |127=>188 |164=>210 |5=>5 |80=>74 |n=>n,fun |n=>n⟩
theorem Tryz.Xj:Go.Proofs.Lays.n156 Tryz.prog Tryz.Kh:={
 mixed:=by kernel_rfl
 f156:=Tryz.func170.trans (congrArg some (by kernel_rfl))
 f165:=Tryz.func110.trans (congrArg some (by kernel_rfl))
 f166:=Tryz.func112.trans (congrArg some (by kernel_rfl))
 f169:=Tryz.func114.trans (congrArg some (by kernel_rfl))
 f240:=Tryz.func133.trans (congrArg some (by kernel_rfl))
 f241:=Tryz.func134.trans (congrArg some (by kernel_rfl))
 f276:=Tryz.func154.trans (congrArg some (by kernel_rfl))
 f277:=Tryz.func155.trans (congrArg some (by kernel_rfl))
 t0:=Tryz.underlying0
 a0:=Tryz.isAgg0
 z0:=Tryz.sizeOf0
 v0:=Tryz.zeroValue0
 t3:=Tryz.underlying3
 a3:=Tryz.isAgg3
 z3:=Tryz.sizeOf3
 v3:=Tryz.zeroValue3
 t4:=Tryz.underlying4
 a4:=Tryz.isAgg4
 z4:=Tryz.sizeOf4
 v4:=Tryz.zeroValue4
 t9:=Tryz.underlying9
 a9:=Tryz.isAgg9
 z9:=Tryz.sizeOf9
 v9:=Tryz.zeroValue9
 t20:=Tryz.underlying20
 a20:=Tryz.isAgg20
 z20:=Tryz.sizeOf20
 v20:=Tryz.zeroValue20
 t31:=Tryz.underlying108
 a31:=Tryz.isAgg108
 z31:=Tryz.sizeOf108
 v31:=Tryz.zeroValue108
 t37:=Tryz.underlying142
 a37:=Tryz.isAgg142
 z37:=Tryz.sizeOf142
 v37:=Tryz.zeroValue142
 t70:=Tryz.underlying166
 a70:=Tryz.isAgg166
 z70:=Tryz.sizeOf166
 v70:=Tryz.zeroValue166
 t72:=Tryz.underlying168
 a72:=Tryz.isAgg168
 z72:=Tryz.sizeOf168
 v72:=Tryz.zeroValue168
 t75:=Tryz.underlying171
 a75:=Tryz.isAgg171
 z75:=Tryz.sizeOf171
 v75:=Tryz.zeroValue171
 t76:=Tryz.underlying172
 a76:=Tryz.isAgg172
 z76:=Tryz.sizeOf172
 v76:=Tryz.zeroValue172
 t127:=Tryz.underlying188
 a127:=Tryz.isAgg188
 z127:=Tryz.sizeOf188
 v127:=Tryz.zeroValue188
 t164:=Tryz.underlying210
 a164:=Tryz.isAgg210
 z164:=Tryz.sizeOf210
 v164:=Tryz.zeroValue210}
theorem Tryz.IV:Builder.Extra Tryz.prog Tryz.Kh:={
 sizeBuilder:=by kernel_rfl
 liesBuilder:=by kernel_rfl
 t5:=Tryz.underlying5
 a5:=Tryz.isAgg5
 z5:=Tryz.sizeOf5
 v5:=Tryz.zeroValue5
 infoByte:=by kernel_rfl
 cellsByte:=by kernel_rfl
 sizeByte:=by kernel_rfl
 neB5:=by decide}
open Go.RowKit in
theorem Tryz.strings_Join(bk o c:Nat)(xs:List ByteArray)(sep:ByteArray)(w:World)(hcells:∀ (j:Nat) x,xs[j]?=some x→w.cell? ⟨bk,o+j,none⟩=some (.string x))(hbk:bk<w.heap.size)(hN:xs.length≤140737488355328)(hcap:xs.length≤c)(hlen:(Lib.join (xs.map (·.data.toList)) sep.data.toList).length≤140737488355328) :
 Calls Tryz.prog 170 #[.slice (some ⟨bk,o,none⟩) xs.length c,.string sep] w fun e w'=>e=.returned (.string ⟨(Lib.join (xs.map (·.data.toList)) sep.data.toList).toArray⟩)∧Below w.heap.size w w':=Any.strings_Join Tryz.Xj Tryz.IV bk o c xs sep w hcells hbk hN hcap hlen
def Tryz.P7:Go.Shelf.Ren:=⟨fun |137=>95 |217=>119 |266=>142 |n=>n,fun |9=>9 |5=>5 |3=>3 |n=>n,fun |n=>n⟩
theorem Tryz.Xk:Go.Proofs.Lays.n137 Tryz.prog Tryz.P7:={
 mixed:=by kernel_rfl
 f137:=Tryz.func95.trans (congrArg some (by kernel_rfl))
 f217:=Tryz.func119.trans (congrArg some (by kernel_rfl))
 f266:=Tryz.func142.trans (congrArg some (by kernel_rfl))
 t3:=Tryz.underlying3
 a3:=Tryz.isAgg3
 z3:=Tryz.sizeOf3
 v3:=Tryz.zeroValue3
 t5:=Tryz.underlying5
 a5:=Tryz.isAgg5
 z5:=Tryz.sizeOf5
 v5:=Tryz.zeroValue5
 t9:=Tryz.underlying9
 a9:=Tryz.isAgg9
 z9:=Tryz.sizeOf9
 v9:=Tryz.zeroValue9}
open Go.RowKit in
theorem Tryz.strings_IndexByte(s:ByteArray)(c:Int)(w:World) :
 Calls Tryz.prog 95 #[.string s,.int .u8 c] w fun e w'=>e=.returned (.int .i64 (Lib.indexByte s.data.toList c.toNat.toUInt8))∧w'=w:=Any.strings_IndexByte Tryz.Xk s c w
def Tryz.P8:Go.Shelf.Ren:=⟨fun |283=>137 |n=>n,fun |3=>3 |9=>9 |4=>4 |n=>n,fun |n=>n⟩
theorem Tryz.Xl:Go.Proofs.Lays.n283 Tryz.prog Tryz.P8:={
 mixed:=by kernel_rfl
 f283:=Tryz.func137.trans (congrArg some (by kernel_rfl))
 t3:=Tryz.underlying3
 a3:=Tryz.isAgg3
 z3:=Tryz.sizeOf3
 v3:=Tryz.zeroValue3
 t4:=Tryz.underlying4
 a4:=Tryz.isAgg4
 z4:=Tryz.sizeOf4
 v4:=Tryz.zeroValue4
 t9:=Tryz.underlying9
 a9:=Tryz.isAgg9
 z9:=Tryz.sizeOf9
 v9:=Tryz.zeroValue9}
open Go.Lib in
theorem Tryz.internal_strconv_small(i:Nat)(h:i<100)(w:World) :
 Calls Tryz.prog 137 #[.int .i64 i] w fun e w'=>e=.returned (.string ⟨(Lib.decDigits i).toArray⟩)∧w'=w:=Any.internal_strconv_small Tryz.Xl i h w
def Tryz.Of:Go.Shelf.Ren:=⟨fun |284=>138 |129=>160 |317=>159 |318=>161 |n=>n,fun |53=>190 |3=>3 |212=>219 |0=>0 |4=>4 |46=>213 |5=>5 |9=>9 |n=>n,fun |17=>4 |n=>n⟩
theorem Tryz.UX:Go.Proofs.LaysM.n284 Tryz.prog Tryz.Of:={
 mixed:=by kernel_rfl
 f129:=Tryz.func160.trans (congrArg some (by kernel_rfl))
 f284:=Tryz.func138.trans (congrArg some (by kernel_rfl))
 f317:=Tryz.func159.trans (congrArg some (by kernel_rfl))
 f318:=Tryz.func161.trans (congrArg some (by kernel_rfl))
 t0:=Tryz.underlying0
 a0:=Tryz.isAgg0
 z0:=Tryz.sizeOf0
 v0:=Tryz.zeroValue0
 t3:=Tryz.underlying3
 a3:=Tryz.isAgg3
 z3:=Tryz.sizeOf3
 v3:=Tryz.zeroValue3
 t4:=Tryz.underlying4
 a4:=Tryz.isAgg4
 z4:=Tryz.sizeOf4
 v4:=Tryz.zeroValue4
 t5:=Tryz.underlying5
 a5:=Tryz.isAgg5
 z5:=Tryz.sizeOf5
 v5:=Tryz.zeroValue5
 t9:=Tryz.underlying9
 a9:=Tryz.isAgg9
 z9:=Tryz.sizeOf9
 v9:=Tryz.zeroValue9
 t46:=Tryz.underlying213
 a46:=Tryz.isAgg213
 z46:=Tryz.sizeOf213
 v46:=Tryz.zeroValue213
 t53:=Tryz.underlying190
 a53:=Tryz.isAgg190
 z53:=Tryz.sizeOf190
 v53:=Tryz.zeroValue190
 t212:=Tryz.underlying219
 a212:=Tryz.isAgg219
 z212:=Tryz.sizeOf219
 v212:=Tryz.zeroValue219
 g17:=by kernel_rfl
 i0:=by kernel_rfl
 i3:=by kernel_rfl
 i4:=by kernel_rfl
 i5:=by kernel_rfl
 i9:=by kernel_rfl
 i46:=by kernel_rfl
 i53:=by kernel_rfl
 i212:=by kernel_rfl
 m17:=by kernel_rfl}
open Go.Lib in
theorem Tryz.internal_strconv_numDigits(u:Nat)(h1:1≤u)(h2:u<18446744073709551616)(w:World)(htab:Lib.TabIs Tryz.prog w "internal/strconv.uint64pow10" .u64 Lib.pow10Tab) :
 Calls Tryz.prog 138 #[.int .u64 u] w fun e w'=>e=.returned (.int .i64 (Lib.nDigits u))∧w'=w:=Any.internal_strconv_numDigits Tryz.UX u h1 h2 w htab
def Tryz.P9:Go.Shelf.Ren:=⟨fun |285=>139 |n=>n,fun |37=>142 |53=>190 |3=>3 |4=>4 |51=>45 |9=>9 |5=>5 |0=>0 |n=>n,fun |n=>n⟩
theorem Tryz.Xm:Go.Proofs.Lays.n285 Tryz.prog Tryz.P9:={
 mixed:=by kernel_rfl
 f285:=Tryz.func139.trans (congrArg some (by kernel_rfl))
 t0:=Tryz.underlying0
 a0:=Tryz.isAgg0
 z0:=Tryz.sizeOf0
 v0:=Tryz.zeroValue0
 t3:=Tryz.underlying3
 a3:=Tryz.isAgg3
 z3:=Tryz.sizeOf3
 v3:=Tryz.zeroValue3
 t4:=Tryz.underlying4
 a4:=Tryz.isAgg4
 z4:=Tryz.sizeOf4
 v4:=Tryz.zeroValue4
 t5:=Tryz.underlying5
 a5:=Tryz.isAgg5
 z5:=Tryz.sizeOf5
 v5:=Tryz.zeroValue5
 t9:=Tryz.underlying9
 a9:=Tryz.isAgg9
 z9:=Tryz.sizeOf9
 v9:=Tryz.zeroValue9
 t37:=Tryz.underlying142
 a37:=Tryz.isAgg142
 z37:=Tryz.sizeOf142
 v37:=Tryz.zeroValue142
 t51:=Tryz.underlying45
 a51:=Tryz.isAgg45
 z51:=Tryz.sizeOf45
 v51:=Tryz.zeroValue45
 t53:=Tryz.underlying190
 a53:=Tryz.isAgg190
 z53:=Tryz.sizeOf190
 v53:=Tryz.zeroValue190}
open Go.RowKit Go.Sort Go.Lib in
theorem Tryz.internal_strconv_formatBase10(GR off cap:Nat)(u:Nat)(d:Array UInt8)(w:World)(hH:Holds (fun(b:UInt8)=>Value.int .u8 (b.toNat:Int)) w GR off d)(hu:u<10 ^ d.size)(hu64:u<18446744073709551616)(hsz:d.size<4611686018427387904) :
 Calls Tryz.prog 139 #[.slice (some ⟨GR,off,none⟩) d.size cap,.int .u64 u] w fun e w' =>
  e=.returned (.tuple #[])∧∃ (n v':Nat) (dk:Array UInt8),w'=(putRow (fun(b:UInt8)=>Value.int .u8 (b.toNat:Int)) w GR off dk).drewN n∧FmtInv d.size u 0 v' dk:=Any.internal_strconv_formatBase10 Tryz.Xm GR off cap u d w hH hu hu64 hsz
def Tryz.Og:Go.Shelf.Ren:=⟨fun |171=>48 |243=>78 |246=>115 |283=>137 |284=>138 |285=>139 |286=>140 |129=>160 |317=>159 |318=>161 |319=>162 |320=>163 |337=>174 |338=>175 |n=>n,fun |3=>3 |9=>9 |2=>2 |4=>4 |171=>189 |0=>0 |53=>190 |37=>142 |5=>5 |173=>193 |212=>219 |51=>45 |20=>20 |213=>220 |46=>213 |232=>236 |233=>237 |n=>n,fun |17=>4 |18=>5 |19=>6 |n=>n⟩
theorem Tryz.UY:Go.Proofs.LaysM.n171 Tryz.prog Tryz.Og:={
 mixed:=by kernel_rfl
 f129:=Tryz.func160.trans (congrArg some (by kernel_rfl))
 f171:=Tryz.func48.trans (congrArg some (by kernel_rfl))
 f243:=Tryz.func78.trans (congrArg some (by kernel_rfl))
 f246:=Tryz.func115.trans (congrArg some (by kernel_rfl))
 f283:=Tryz.func137.trans (congrArg some (by kernel_rfl))
 f284:=Tryz.func138.trans (congrArg some (by kernel_rfl))
 f285:=Tryz.func139.trans (congrArg some (by kernel_rfl))
 f286:=Tryz.func140.trans (congrArg some (by kernel_rfl))
 f317:=Tryz.func159.trans (congrArg some (by kernel_rfl))
 f318:=Tryz.func161.trans (congrArg some (by kernel_rfl))
 f319:=Tryz.func162.trans (congrArg some (by kernel_rfl))
 f320:=Tryz.func163.trans (congrArg some (by kernel_rfl))
 f337:=Tryz.func174.trans (congrArg some (by kernel_rfl))
 f338:=Tryz.func175.trans (congrArg some (by kernel_rfl))
 t0:=Tryz.underlying0
 a0:=Tryz.isAgg0
 z0:=Tryz.sizeOf0
 v0:=Tryz.zeroValue0
 t2:=Tryz.underlying2
 a2:=Tryz.isAgg2
 z2:=Tryz.sizeOf2
 v2:=Tryz.zeroValue2
 t3:=Tryz.underlying3
 a3:=Tryz.isAgg3
 z3:=Tryz.sizeOf3
 v3:=Tryz.zeroValue3
 t4:=Tryz.underlying4
 a4:=Tryz.isAgg4
 z4:=Tryz.sizeOf4
 v4:=Tryz.zeroValue4
 t5:=Tryz.underlying5
 a5:=Tryz.isAgg5
 z5:=Tryz.sizeOf5
 v5:=Tryz.zeroValue5
 t9:=Tryz.underlying9
 a9:=Tryz.isAgg9
 z9:=Tryz.sizeOf9
 v9:=Tryz.zeroValue9
 t20:=Tryz.underlying20
 a20:=Tryz.isAgg20
 z20:=Tryz.sizeOf20
 v20:=Tryz.zeroValue20
 t37:=Tryz.underlying142
 a37:=Tryz.isAgg142
 z37:=Tryz.sizeOf142
 v37:=Tryz.zeroValue142
 t46:=Tryz.underlying213
 a46:=Tryz.isAgg213
 z46:=Tryz.sizeOf213
 v46:=Tryz.zeroValue213
 t51:=Tryz.underlying45
 a51:=Tryz.isAgg45
 z51:=Tryz.sizeOf45
 v51:=Tryz.zeroValue45
 t53:=Tryz.underlying190
 a53:=Tryz.isAgg190
 z53:=Tryz.sizeOf190
 v53:=Tryz.zeroValue190
 t171:=Tryz.underlying189
 a171:=Tryz.isAgg189
 z171:=Tryz.sizeOf189
 v171:=Tryz.zeroValue189
 t173:=Tryz.underlying193
 a173:=Tryz.isAgg193
 z173:=Tryz.sizeOf193
 v173:=Tryz.zeroValue193
 t212:=Tryz.underlying219
 a212:=Tryz.isAgg219
 z212:=Tryz.sizeOf219
 v212:=Tryz.zeroValue219
 t213:=Tryz.underlying220
 a213:=Tryz.isAgg220
 z213:=Tryz.sizeOf220
 t232:=Tryz.underlying236
 a232:=Tryz.isAgg236
 z232:=Tryz.sizeOf236
 v232:=Tryz.zeroValue236
 t233:=Tryz.underlying237
 a233:=Tryz.isAgg237
 z233:=Tryz.sizeOf237
 v233:=Tryz.zeroValue237
 g17:=by kernel_rfl
 g18:=by kernel_rfl
 g19:=by kernel_rfl
 i0:=by kernel_rfl
 i2:=by kernel_rfl
 i3:=by kernel_rfl
 i4:=by kernel_rfl
 i5:=by kernel_rfl
 i9:=by kernel_rfl
 i20:=by kernel_rfl
 i37:=by kernel_rfl
 i46:=by kernel_rfl
 i51:=by kernel_rfl
 i53:=by kernel_rfl
 i171:=by kernel_rfl
 i173:=by kernel_rfl
 i212:=by kernel_rfl
 i232:=by kernel_rfl
 i233:=by kernel_rfl
 m17:=by kernel_rfl
 m18:=by kernel_rfl
 m19:=by kernel_rfl}
open Go.RowKit Go.Sort Go.Lib in
theorem Tryz.strconv_Itoa(n:Int)(h0:-9223372036854775808≤n)(h1:n≤9223372036854775807)(w:World)(htab:Lib.TabIs Tryz.prog w "internal/strconv.uint64pow10" .u64 Lib.pow10Tab) :
 Calls Tryz.prog 48 #[.int .i64 n] w fun e w'=>e=.returned (.string ⟨(Lib.itoa n).toArray⟩)∧∃ k os,w'=grow (w.drewN k) os:=Any.strconv_Itoa Tryz.UY n h0 h1 w htab
def Tryz.PA:Go.Shelf.Ren:=⟨fun |171=>48 |243=>78 |246=>115 |283=>137 |284=>138 |285=>139 |286=>140 |129=>160 |317=>159 |318=>161 |319=>162 |320=>163 |337=>174 |338=>175 |n=>n,fun |3=>3 |9=>9 |2=>2 |4=>4 |171=>189 |0=>0 |53=>190 |37=>142 |5=>5 |173=>193 |212=>219 |51=>45 |20=>20 |213=>220 |46=>213 |232=>236 |233=>237 |n=>n,fun |17=>4 |18=>5 |19=>6 |n=>n⟩
theorem Tryz.Xn:Go.Proofs.Lays.n171 Tryz.prog Tryz.PA:={
 mixed:=by kernel_rfl
 f129:=Tryz.func160.trans (congrArg some (by kernel_rfl))
 f171:=Tryz.func48.trans (congrArg some (by kernel_rfl))
 f243:=Tryz.func78.trans (congrArg some (by kernel_rfl))
 f246:=Tryz.func115.trans (congrArg some (by kernel_rfl))
 f283:=Tryz.func137.trans (congrArg some (by kernel_rfl))
 f284:=Tryz.func138.trans (congrArg some (by kernel_rfl))
 f285:=Tryz.func139.trans (congrArg some (by kernel_rfl))
 f286:=Tryz.func140.trans (congrArg some (by kernel_rfl))
 f317:=Tryz.func159.trans (congrArg some (by kernel_rfl))
 f318:=Tryz.func161.trans (congrArg some (by kernel_rfl))
 f319:=Tryz.func162.trans (congrArg some (by kernel_rfl))
 f320:=Tryz.func163.trans (congrArg some (by kernel_rfl))
 f337:=Tryz.func174.trans (congrArg some (by kernel_rfl))
 f338:=Tryz.func175.trans (congrArg some (by kernel_rfl))
 t0:=Tryz.underlying0
 a0:=Tryz.isAgg0
 z0:=Tryz.sizeOf0
 v0:=Tryz.zeroValue0
 t2:=Tryz.underlying2
 a2:=Tryz.isAgg2
 z2:=Tryz.sizeOf2
 v2:=Tryz.zeroValue2
 t3:=Tryz.underlying3
 a3:=Tryz.isAgg3
 z3:=Tryz.sizeOf3
 v3:=Tryz.zeroValue3
 t4:=Tryz.underlying4
 a4:=Tryz.isAgg4
 z4:=Tryz.sizeOf4
 v4:=Tryz.zeroValue4
 t5:=Tryz.underlying5
 a5:=Tryz.isAgg5
 z5:=Tryz.sizeOf5
 v5:=Tryz.zeroValue5
 t9:=Tryz.underlying9
 a9:=Tryz.isAgg9
 z9:=Tryz.sizeOf9
 v9:=Tryz.zeroValue9
 t20:=Tryz.underlying20
 a20:=Tryz.isAgg20
 z20:=Tryz.sizeOf20
 v20:=Tryz.zeroValue20
 t37:=Tryz.underlying142
 a37:=Tryz.isAgg142
 z37:=Tryz.sizeOf142
 v37:=Tryz.zeroValue142
 t46:=Tryz.underlying213
 a46:=Tryz.isAgg213
 z46:=Tryz.sizeOf213
 v46:=Tryz.zeroValue213
 t51:=Tryz.underlying45
 a51:=Tryz.isAgg45
 z51:=Tryz.sizeOf45
 v51:=Tryz.zeroValue45
 t53:=Tryz.underlying190
 a53:=Tryz.isAgg190
 z53:=Tryz.sizeOf190
 v53:=Tryz.zeroValue190
 t171:=Tryz.underlying189
 a171:=Tryz.isAgg189
 z171:=Tryz.sizeOf189
 v171:=Tryz.zeroValue189
 t173:=Tryz.underlying193
 a173:=Tryz.isAgg193
 z173:=Tryz.sizeOf193
 v173:=Tryz.zeroValue193
 t212:=Tryz.underlying219
 a212:=Tryz.isAgg219
 z212:=Tryz.sizeOf219
 v212:=Tryz.zeroValue219
 t213:=Tryz.underlying220
 a213:=Tryz.isAgg220
 z213:=Tryz.sizeOf220
 t232:=Tryz.underlying236
 a232:=Tryz.isAgg236
 z232:=Tryz.sizeOf236
 v232:=Tryz.zeroValue236
 t233:=Tryz.underlying237
 a233:=Tryz.isAgg237
 z233:=Tryz.sizeOf237
 v233:=Tryz.zeroValue237
 g17:=by kernel_rfl
 g18:=by kernel_rfl
 g19:=by kernel_rfl}
open Go.RowKit Go.Sort Go.Lib in
theorem Tryz.strconv_Itoa_small(i:Nat)(hi:i<100)(w:World) :
 Calls Tryz.prog 48 #[.int .i64 i] w fun e w'=>e=.returned (.string ⟨(Lib.decDigits i).toArray⟩)∧w'=w:=Any.strconv_Itoa_small Tryz.Xn i hi w
def Tryz.Oh:Go.Shelf.Ren:=⟨fun |172=>166 |244=>177 |245=>178 |247=>182 |279=>183 |280=>184 |281=>185 |282=>186 |287=>189 |316=>190 |171=>48 |205=>191 |321=>192 |322=>193 |243=>78 |246=>115 |283=>137 |284=>138 |285=>139 |286=>140 |129=>160 |317=>159 |318=>161 |319=>162 |320=>163 |337=>174 |338=>175 |n=>n,fun |9=>9 |3=>3 |75=>171 |76=>172 |4=>4 |5=>5 |167=>238 |37=>142 |0=>0 |85=>239 |2=>2 |168=>241 |53=>190 |175=>244 |46=>213 |210=>248 |127=>188 |145=>253 |143=>251 |21=>21 |171=>189 |173=>193 |212=>219 |51=>45 |20=>20 |213=>220 |232=>236 |233=>237 |80=>74 |n=>n,fun |15=>7 |16=>8 |17=>4 |18=>5 |19=>6 |n=>n⟩
theorem Tryz.L7:Go.Proofs.LaysC.n172 Tryz.prog Tryz.Oh:={
 mixed:=by kernel_rfl
 f129:=Tryz.func160.trans (congrArg some (by kernel_rfl))
 f171:=Tryz.func48.trans (congrArg some (by kernel_rfl))
 f172:=Tryz.func166.trans (congrArg some (by kernel_rfl))
 f205:=Tryz.func191.trans (congrArg some (by kernel_rfl))
 f243:=Tryz.func78.trans (congrArg some (by kernel_rfl))
 f244:=Tryz.func177.trans (congrArg some (by kernel_rfl))
 f245:=Tryz.func178.trans (congrArg some (by kernel_rfl))
 f246:=Tryz.func115.trans (congrArg some (by kernel_rfl))
 f247:=Tryz.func182.trans (congrArg some (by kernel_rfl))
 f279:=Tryz.func183.trans (congrArg some (by kernel_rfl))
 f280:=Tryz.func184.trans (congrArg some (by kernel_rfl))
 f281:=Tryz.func185.trans (congrArg some (by kernel_rfl))
 f282:=Tryz.func186.trans (congrArg some (by kernel_rfl))
 f283:=Tryz.func137.trans (congrArg some (by kernel_rfl))
 f284:=Tryz.func138.trans (congrArg some (by kernel_rfl))
 f285:=Tryz.func139.trans (congrArg some (by kernel_rfl))
 f286:=Tryz.func140.trans (congrArg some (by kernel_rfl))
 f287:=Tryz.func189.trans (congrArg some (by kernel_rfl))
 f316:=Tryz.func190.trans (congrArg some (by kernel_rfl))
 f317:=Tryz.func159.trans (congrArg some (by kernel_rfl))
 f318:=Tryz.func161.trans (congrArg some (by kernel_rfl))
 f319:=Tryz.func162.trans (congrArg some (by kernel_rfl))
 f320:=Tryz.func163.trans (congrArg some (by kernel_rfl))
 f321:=Tryz.func192.trans (congrArg some (by kernel_rfl))
 f322:=Tryz.func193.trans (congrArg some (by kernel_rfl))
 f337:=Tryz.func174.trans (congrArg some (by kernel_rfl))
 f338:=Tryz.func175.trans (congrArg some (by kernel_rfl))
 t0:=Tryz.underlying0
 a0:=Tryz.isAgg0
 z0:=Tryz.sizeOf0
 v0:=Tryz.zeroValue0
 t2:=Tryz.underlying2
 a2:=Tryz.isAgg2
 z2:=Tryz.sizeOf2
 v2:=Tryz.zeroValue2
 t3:=Tryz.underlying3
 a3:=Tryz.isAgg3
 z3:=Tryz.sizeOf3
 v3:=Tryz.zeroValue3
 t4:=Tryz.underlying4
 a4:=Tryz.isAgg4
 z4:=Tryz.sizeOf4
 v4:=Tryz.zeroValue4
 t5:=Tryz.underlying5
 a5:=Tryz.isAgg5
 z5:=Tryz.sizeOf5
 v5:=Tryz.zeroValue5
 t9:=Tryz.underlying9
 a9:=Tryz.isAgg9
 z9:=Tryz.sizeOf9
 v9:=Tryz.zeroValue9
 t20:=Tryz.underlying20
 a20:=Tryz.isAgg20
 z20:=Tryz.sizeOf20
 v20:=Tryz.zeroValue20
 t21:=Tryz.underlying21
 a21:=Tryz.isAgg21
 z21:=Tryz.sizeOf21
 v21:=Tryz.zeroValue21
 t37:=Tryz.underlying142
 a37:=Tryz.isAgg142
 z37:=Tryz.sizeOf142
 v37:=Tryz.zeroValue142
 t46:=Tryz.underlying213
 a46:=Tryz.isAgg213
 z46:=Tryz.sizeOf213
 v46:=Tryz.zeroValue213
 t51:=Tryz.underlying45
 a51:=Tryz.isAgg45
 z51:=Tryz.sizeOf45
 v51:=Tryz.zeroValue45
 t53:=Tryz.underlying190
 a53:=Tryz.isAgg190
 z53:=Tryz.sizeOf190
 v53:=Tryz.zeroValue190
 t75:=Tryz.underlying171
 a75:=Tryz.isAgg171
 z75:=Tryz.sizeOf171
 v75:=Tryz.zeroValue171
 t76:=Tryz.underlying172
 a76:=Tryz.isAgg172
 z76:=Tryz.sizeOf172
 v76:=Tryz.zeroValue172
 t85:=Tryz.underlying239
 a85:=Tryz.isAgg239
 z85:=Tryz.sizeOf239
 v85:=Tryz.zeroValue239
 t127:=Tryz.underlying188
 a127:=Tryz.isAgg188
 z127:=Tryz.sizeOf188
 v127:=Tryz.zeroValue188
 t143:=Tryz.underlying251
 a143:=Tryz.isAgg251
 z143:=Tryz.sizeOf251
 v143:=Tryz.zeroValue251
 t145:=Tryz.underlying253
 a145:=Tryz.isAgg253
 z145:=Tryz.sizeOf253
 v145:=Tryz.zeroValue253
 t167:=Tryz.underlying238
 a167:=Tryz.isAgg238
 z167:=Tryz.sizeOf238
 v167:=Tryz.zeroValue238
 t168:=Tryz.underlying241
 a168:=Tryz.isAgg241
 z168:=Tryz.sizeOf241
 v168:=Tryz.zeroValue241
 t171:=Tryz.underlying189
 a171:=Tryz.isAgg189
 z171:=Tryz.sizeOf189
 v171:=Tryz.zeroValue189
 t173:=Tryz.underlying193
 a173:=Tryz.isAgg193
 z173:=Tryz.sizeOf193
 v173:=Tryz.zeroValue193
 t175:=Tryz.underlying244
 a175:=Tryz.isAgg244
 z175:=Tryz.sizeOf244
 v175:=Tryz.zeroValue244
 t210:=Tryz.underlying248
 a210:=Tryz.isAgg248
 z210:=Tryz.sizeOf248
 v210:=Tryz.zeroValue248
 t212:=Tryz.underlying219
 a212:=Tryz.isAgg219
 z212:=Tryz.sizeOf219
 v212:=Tryz.zeroValue219
 t213:=Tryz.underlying220
 a213:=Tryz.isAgg220
 z213:=Tryz.sizeOf220
 t232:=Tryz.underlying236
 a232:=Tryz.isAgg236
 z232:=Tryz.sizeOf236
 v232:=Tryz.zeroValue236
 t233:=Tryz.underlying237
 a233:=Tryz.isAgg237
 z233:=Tryz.sizeOf237
 v233:=Tryz.zeroValue237
 g15:=by kernel_rfl
 g16:=by kernel_rfl
 g17:=by kernel_rfl
 g18:=by kernel_rfl
 g19:=by kernel_rfl
 t80:=Tryz.underlying74
 a80:=Tryz.isAgg74
 z80:=Tryz.sizeOf74
 v80:=Tryz.zeroValue74
 i0:=by kernel_rfl
 i2:=by kernel_rfl
 i3:=by kernel_rfl
 i4:=by kernel_rfl
 i5:=by kernel_rfl
 i9:=by kernel_rfl
 i20:=by kernel_rfl
 i21:=by kernel_rfl
 i37:=by kernel_rfl
 i46:=by kernel_rfl
 i51:=by kernel_rfl
 i53:=by kernel_rfl
 i75:=by kernel_rfl
 i76:=by kernel_rfl
 i80:=by kernel_rfl
 i85:=by kernel_rfl
 i127:=by kernel_rfl
 i143:=by kernel_rfl
 i145:=by kernel_rfl
 i167:=by kernel_rfl
 i168:=by kernel_rfl
 i171:=by kernel_rfl
 i173:=by kernel_rfl
 i175:=by kernel_rfl
 i210:=by kernel_rfl
 i212:=by kernel_rfl
 i232:=by kernel_rfl
 i233:=by kernel_rfl
 m15:=by kernel_rfl
 m16:=by kernel_rfl
 m17:=by kernel_rfl
 m18:=by kernel_rfl
 m19:=by kernel_rfl
 c0:=by kernel_rfl
 c2:=by kernel_rfl
 c3:=by kernel_rfl
 c4:=by kernel_rfl
 c5:=by kernel_rfl
 c9:=by kernel_rfl
 c20:=by kernel_rfl
 c21:=by kernel_rfl
 c37:=by kernel_rfl
 c46:=by kernel_rfl
 c51:=by kernel_rfl
 c53:=by kernel_rfl
 c75:=by kernel_rfl
 c76:=by kernel_rfl
 c80:=by kernel_rfl
 c85:=by kernel_rfl
 c127:=by kernel_rfl
 c143:=by kernel_rfl
 c145:=by kernel_rfl
 c167:=by kernel_rfl
 c168:=by kernel_rfl
 c171:=by kernel_rfl
 c173:=by kernel_rfl
 c175:=by kernel_rfl
 c210:=by kernel_rfl
 c212:=by kernel_rfl
 c213:=by kernel_rfl
 c232:=by kernel_rfl
 c233:=by kernel_rfl}
open Go.RowKit in
theorem Tryz.strconv_Atoi_ok(s:ByteArray)(hmax:s.size≤9223372036854775806)(v:Int)(h:Lib.atoiAll s.data.toList=.ok v)(w:World) :
 Calls Tryz.prog 166 #[.string s] w fun e w'=>e=.returned (.tuple #[.int .i64 v,.nilIface])∧(w'=w∨∃ t,w'=Lib.bytesWorld w 5 t):=Any.strconv_Atoi_ok Tryz.L7 s hmax v h w
open Go.RowKit in
theorem Tryz.strconv_Atoi_syntax_var(s:ByteArray)(hlim:s.size≤281474976710656)(h1:∀ v,Lib.atoiAll s.data.toList≠.ok v)(h2:Lib.atoiAll s.data.toList≠.range)(tp:TypeId)(p:Value)(w:World)(hvar:w.var? Tryz.prog "strconv.ErrSyntax" = some #[.iface tp p]) :
  Calls Tryz.prog 166 #[.string s] w fun e w'=>∃ N,e=.returned (.tuple #[.int .i64 0,.iface 241 (.pointer (some ⟨N,0,none⟩))])∧w.heap.size≤N∧w'.heap[N]?=some (.cells #[.string ⟨#[65,116,111,105]⟩,.string s,.iface tp p] 248 (0,0))∧Below w.heap.size w w':=by
 cases h:Lib.atoiAll s.data.toList with
 |ok v=>exact absurd h (h1 v)
 |range=>exact absurd h h2
 |_=>exact Any.strconv_Atoi_syntax_var Tryz.L7 s hlim h tp p w hvar
open Go.RowKit in
theorem Tryz.strconv_Atoi_range_var(s:ByteArray)(hlim:s.size≤281474976710656)(h:Lib.atoiAll s.data.toList=.range)(tp:TypeId)(p:Value)(w:World)(hvar:w.var? Tryz.prog "strconv.ErrRange" = some #[.iface tp p]) :
 Calls Tryz.prog 166 #[.string s] w fun e w'=>∃ N,e=.returned (.tuple #[.int .i64 (Lib.atoiSat s.data.toList),.iface 241 (.pointer (some ⟨N,0,none⟩))])∧w.heap.size≤N∧w'.heap[N]?=some (.cells #[.string ⟨#[65,116,111,105]⟩,.string s,.iface tp p] 248 (0,0))∧Below w.heap.size w w':=Any.strconv_Atoi_range_var Tryz.L7 s hlim h tp p w hvar
def Tryz.Oi:Go.Shelf.Ren:=⟨fun |146=>145 |221=>164 |268=>176 |138=>109 |143=>111 |195=>131 |197=>113 |218=>132 |219=>135 |260=>136 |217=>119 |225=>156 |224=>157 |267=>158 |266=>142 |314=>173 |n=>n,fun |9=>9 |31=>108 |3=>3 |4=>4 |0=>0 |105=>174 |21=>21 |5=>5 |46=>213 |119=>214 |139=>217 |138=>216 |146=>228 |51=>45 |n=>n,fun |1=>1 |3=>2 |4=>3 |n=>n⟩
theorem Tryz.UZ:Go.Proofs.LaysM.n146 Tryz.prog Tryz.Oi:={
 mixed:=by kernel_rfl
 f138:=Tryz.func109.trans (congrArg some (by kernel_rfl))
 f143:=Tryz.func111.trans (congrArg some (by kernel_rfl))
 f146:=Tryz.func145.trans (congrArg some (by kernel_rfl))
 f195:=Tryz.func131.trans (congrArg some (by kernel_rfl))
 f197:=Tryz.func113.trans (congrArg some (by kernel_rfl))
 f217:=Tryz.func119.trans (congrArg some (by kernel_rfl))
 f218:=Tryz.func132.trans (congrArg some (by kernel_rfl))
 f219:=Tryz.func135.trans (congrArg some (by kernel_rfl))
 f221:=Tryz.func164.trans (congrArg some (by kernel_rfl))
 f224:=Tryz.func157.trans (congrArg some (by kernel_rfl))
 f225:=Tryz.func156.trans (congrArg some (by kernel_rfl))
 f260:=Tryz.func136.trans (congrArg some (by kernel_rfl))
 f266:=Tryz.func142.trans (congrArg some (by kernel_rfl))
 f267:=Tryz.func158.trans (congrArg some (by kernel_rfl))
 f268:=Tryz.func176.trans (congrArg some (by kernel_rfl))
 f314:=Tryz.func173.trans (congrArg some (by kernel_rfl))
 t0:=Tryz.underlying0
 a0:=Tryz.isAgg0
 z0:=Tryz.sizeOf0
 v0:=Tryz.zeroValue0
 t3:=Tryz.underlying3
 a3:=Tryz.isAgg3
 z3:=Tryz.sizeOf3
 v3:=Tryz.zeroValue3
 t4:=Tryz.underlying4
 a4:=Tryz.isAgg4
 z4:=Tryz.sizeOf4
 v4:=Tryz.zeroValue4
 t5:=Tryz.underlying5
 a5:=Tryz.isAgg5
 z5:=Tryz.sizeOf5
 v5:=Tryz.zeroValue5
 t9:=Tryz.underlying9
 a9:=Tryz.isAgg9
 z9:=Tryz.sizeOf9
 v9:=Tryz.zeroValue9
 t21:=Tryz.underlying21
 a21:=Tryz.isAgg21
 z21:=Tryz.sizeOf21
 v21:=Tryz.zeroValue21
 t31:=Tryz.underlying108
 a31:=Tryz.isAgg108
 z31:=Tryz.sizeOf108
 v31:=Tryz.zeroValue108
 t46:=Tryz.underlying213
 a46:=Tryz.isAgg213
 z46:=Tryz.sizeOf213
 v46:=Tryz.zeroValue213
 t51:=Tryz.underlying45
 a51:=Tryz.isAgg45
 z51:=Tryz.sizeOf45
 v51:=Tryz.zeroValue45
 t105:=Tryz.underlying174
 a105:=Tryz.isAgg174
 z105:=Tryz.sizeOf174
 v105:=Tryz.zeroValue174
 t119:=Tryz.underlying214
 a119:=Tryz.isAgg214
 z119:=Tryz.sizeOf214
 t138:=Tryz.underlying216
 a138:=Tryz.isAgg216
 z138:=Tryz.sizeOf216
 v138:=Tryz.zeroValue216
 t139:=Tryz.underlying217
 a139:=Tryz.isAgg217
 z139:=Tryz.sizeOf217
 v139:=Tryz.zeroValue217
 t146:=Tryz.underlying228
 a146:=Tryz.isAgg228
 z146:=Tryz.sizeOf228
 v146:=Tryz.zeroValue228
 g1:=by kernel_rfl
 g3:=by kernel_rfl
 g4:=by kernel_rfl
 i0:=by kernel_rfl
 i3:=by kernel_rfl
 i4:=by kernel_rfl
 i5:=by kernel_rfl
 i9:=by kernel_rfl
 i21:=by kernel_rfl
 i31:=by kernel_rfl
 i46:=by kernel_rfl
 i51:=by kernel_rfl
 i105:=by kernel_rfl
 i138:=by kernel_rfl
 i139:=by kernel_rfl
 i146:=by kernel_rfl
 m1:=by kernel_rfl
 s1_3:=fun w h=>Go.Proofs.cell_of_shapedOpen_int (zero:=#[.int .i64 0]) (t:=3) h (of_decide_eq_true (by kernel_rfl)) (by kernel_rfl) rfl (by kernel_rfl) (by kernel_rfl) Tryz.underlying3
 m3:=by kernel_rfl
 m4:=by kernel_rfl}
open Go.RowKit Go.Lib in
theorem Tryz.strings_Split_shaped(s sep:ByteArray)(w:World)(h:w.ShapedOpen Tryz.prog)(hs:s.size<4294967281)(h1:1≤sep.size) :
 Calls Tryz.prog 145 #[.string s,.string sep] w fun e w' =>
  e=.returned (.slice (some ⟨w.heap.size,0,none⟩) (Lib.countB s sep+1) (Lib.countB s sep+1))∧w'=w.alloc (.cells ((Lib.splitB sep 0 (Lib.countB s sep) s).map Value.string).toArray 9):=Any.strings_Split_shaped Tryz.UZ s sep w h hs h1
end
end Go.Proofs
section
/-
 PRINTED WORDS, second file: A REGION THAT DRAWS ITS ORDER, WALKED BY HAND, where its last store writes what its own loads read ('x.f = append(x.f, f(i))'). Plain theorems; no macro, no elab. A claim may hold it (turn the namespace's name).
 A load may be taken first in every world that meets S; behind the operations of ds nothing is shown; sound because each of ds waits for what is taken (Region.lastB). The kernel checks it.
 By an AI agent of Go's test side, Mon Nov 16 2026. No person has read it.
-/
end
namespace Go.Proofs.YtjjpiefgdggghaaGreatDoorW.PrintLast
section
section
variable {P:Program} {ops:Array Oper} {Q:Exit→Act→World→Prop} {md:Region.Mode} {S:World→Prop} {ds:List Nat}
def Region.ND(md:Region.Mode)(ops:Array Oper)(i:Nat):Nat→Nat→Bool
 |0,_=>false
 |fuel+1,d=>match ops[d]? with
  |some o=>o.after.any fun e=>Region.binds md e&&(e.on==i||Region.ND md ops i fuel e.on)
  |none=>false
def Region.XO(md:Region.Mode)(ops:Array Oper)(listed:Array Bool)(ds:List Nat)(i:Nat):Bool :=
 ds.all fun d=>listed.getD d true||Region.ND md ops i ops.size d
def G6(md:Region.Mode)(ops:Array Oper)(listed:Array Bool):Prop :=
 ∀ j oj,ops[j]?=some oj→listed.getD j false=true→∀ e∈oj.after,Region.binds md e=true→listed.getD e.on false=true
theorem G6.set{listed:Array Bool}{i:Nat}(h:G6 md ops listed)(hi:i∈Region.ready md ops listed):G6 md ops (listed.setIfInBounds i true):=by
 obtain⟨_,oi,hoi,hall⟩:=mem_ready.1 hi;intro j oj hj hl e he hb;by_cases hij:i=j
 ·subst hij;have:oj=oi:=Option.some.inj (hj.symm.trans hoi);subst this;exact getD_set_true (hall e he hb)
 ·rw[getD_set_ne false hij]at hl;exact getD_set_true (h j oj hj hl e he hb)
def AV(P:Program)(md:Region.Mode)(ops:Array Oper)(Q:Exit→Act→World→Prop)(S:World→Prop)(ds:List Nat):Nat→Array Bool→Act→World→Prop
 |0,listed,a,w=>Region.ready md ops listed=[]∧Q .normal a w
 |fuel+1,listed,a,w =>
  (Region.ready md ops listed=[]→Q .normal a w) ∧
  ∀ i∈Region.ready md ops listed,wpOp P ops Q i (fun a' w'=>(i∉ds→S w→S w')∧AV P md ops Q S ds fuel (listed.setIfInBounds i true) a' w') a w
theorem HK:∀ (fuel:Nat) (listed:Array Bool) (a:Act) (w:World),AV P md ops Q S ds fuel listed a w→wpAny P md ops Q fuel listed a w
 |0,_,_,_,h=>h
 |fuel+1,_,_,_,h=>⟨h.1,fun i hi=>wpOp_mono (fun a' w' h'=>HK fuel _ a' w' h'.2) (h.2 i hi)⟩
theorem Mt{i:Nat}{oi:Oper}{v:Value}(hi:ops[i]?=some oi)(hsel:∀ (j:Nat) (o:Oper) cs b,ops[j]?=some o→o.op≠.select cs b)
  (hQ:∀ c a w,Q (.panic c) (a.put oi.dst v) w→Q (.panic c) a w) :
  ∀ (fuel:Nat) (listed:Array Bool) (a:Act) (w:World),
   (∀ j oj,ops[j]?=some oj→j≠i→listed.getD j true=false→(∀ e∈oj.after,Region.binds md e=true→e.on≠i)→oi.apart ops oj=true) →
   i∈Region.ready md ops listed→Yields P ops oi v a →
   AV P md ops Q S ds fuel (listed.setIfInBounds i true) (a.put oi.dst v) w→AV P md ops Q S ds (fuel+1) listed a w:=by
 intro fuel;induction fuel with
 |zero =>
  intro listed a w _ hr hy H;refine⟨fun h=>(by rw[h]at hr;cases hr),fun j hj=>?_⟩;by_cases hji:j=i
  ·subst hji;exact(hy.yieldsIf (S:=fun _=>True)).wpOp hi trivial ⟨fun _ h=>h,H⟩
  ·have:=ready_mono hj hji;rw[H.1]at this;cases this
 |succ fuel ih =>
  intro listed a w hfree hr hy H;refine⟨fun h=>(by rw[h]at hr;cases hr),fun j hj=>?_⟩;by_cases hji:j=i
  ·subst hji;exact(hy.yieldsIf (S:=fun _=>True)).wpOp hi trivial ⟨fun _ h=>h,H⟩
  ·have h1:=H.2 j (ready_mono hj hji);obtain⟨hjun,oj,hoj,hall⟩:=mem_ready.1 hj;have hiun:=(mem_ready.1 hr).1;have hnot:∀ e∈oj.after,Region.binds md e=true→e.on≠i:=fun e he hb heq=>by
    have h1:=hall e he hb;rw[heq]at h1;rcases Nat.lt_or_ge i listed.size with h' |h'
    ·simp[h']at hiun h1;rw[hiun]at h1;cases h1
    ·simp[Array.getElem?_eq_none h']at h1
   have h2:=wpOp_put hoj (hfree j oj hoj hji hjun hnot) (fun cs b=>hsel i oi cs b hi) (fun cs b=>hsel j oj cs b hoj) hQ hy h1;have hfree':∀ k ok,ops[k]?=some ok→k≠i→(listed.setIfInBounds j true).getD k true=false →
     (∀ e∈ok.after,Region.binds md e=true→e.on≠i)→oi.apart ops ok=true:=fun k ok hk hki hun hno=>by
    refine hfree k ok hk hki ?_ hno;by_cases hjk:j=k
    ·subst hjk;exact hjun
    ·rw[getD_set_ne true hjk]at hun;exact hun
   refine wpOp_mono (fun a' w' h3=>⟨h3.2.1,ih (listed.setIfInBounds j true) a' w' hfree' (ready_mono hr (Ne.symm hji)) h3.1 ?_⟩) h2;rw[Array.setIfInBounds_comm _ _ hji];exact h3.2.2
theorem Mu{rs:List Nat}{fuel:Nat}{listed:Array Bool}{a:Act}{w:World}(hr:Region.ready md ops listed=rs)(hne:rs≠[])
  (h:∀ i∈rs,wpOp P ops Q i (fun a' w'=>(i∉ds→S w→S w')∧AV P md ops Q S ds fuel (listed.setIfInBounds i true) a' w') a w):AV P md ops Q S ds (fuel+1) listed a w :=
 ⟨fun h0=>absurd (hr▸h0) hne,hr▸h⟩
theorem Le{listed:Array Bool}{a:Act}{w:World}(hr:Region.ready md ops listed=[])(h:Q .normal a w) :
  ∀ fuel,AV P md ops Q S ds fuel listed a w
 |0=>⟨hr,h⟩
 |_+1=>⟨fun _=>h,by rw[hr];simp⟩
theorem Lf{id:Nat}{a:Act}{w:World}(hm:P.follows .mixedOrders=true)
  (h:AV P .any ops Q S ds ops.size (Array.replicate ops.size false) a {w with drawn:=w.drawn+1}):(Code.region id ops true).wp P Q a w :=
 wp_region_any hm (HK _ _ _ _ h)
end
section
variable {P:Program} {ops:Array Oper} {Q:Exit→Act→World→Prop} {md:Region.Mode} {S:World→Prop} {ds:List Nat}
def Aa(P:Program)(md:Region.Mode)(ops:Array Oper)(Q:Exit→Act→World→Prop)(S:World→Prop)(ds:List Nat)(fuel:Nat)(listed:Array Bool)(a:Act)(w:World)(rs:List Nat):Prop :=
 ∀ i∈rs,wpOp P ops Q i (fun a' w'=>(i∉ds→S w→S w')∧AV P md ops Q S ds fuel (listed.setIfInBounds i true) a' w') a w
theorem Aa.nil{fuel:Nat}{listed:Array Bool}{a:Act}{w:World}:Aa P md ops Q S ds fuel listed a w []:=fun _ h=>by cases h
theorem Aa.cons{fuel:Nat}{listed:Array Bool}{a:Act}{w:World}{i:Nat}{o:Oper}{rs:List Nat}(ho:ops[i]?=some o)(hd:i∉ds)
  (h:∀ K':Act→World→Prop,Shut (∀ a w,S w→(S w→AV P md ops Q S ds fuel (listed.setIfInBounds i true) a w)→K' a w)→if Region.wanted o (yielded ops a.tmps)=true then Oper.wp P o a w K' Q else K' (a.put o.dst undef) w)
  (hs:Aa P md ops Q S ds fuel listed a w rs):Aa P md ops Q S ds fuel listed a w (i::rs):=fun j hj=>by
 rcases List.mem_cons.1 hj with rfl |hj
 ·exact wpOp_step ho (fun K' hK=>h K' (fun a w hS hW=>hK a w ⟨fun _ _=>hS,hW hS⟩))
 ·exact hs j hj
theorem EF{rs:List Nat}{fuel:Nat}{listed:Array Bool}{a:Act}{w:World}(hr:Region.ready md ops listed=rs)(hne:rs≠[])
 (h:Aa P md ops Q S ds fuel listed a w rs):AV P md ops Q S ds (fuel+1) listed a w:=Mu hr hne h
theorem Yx{id n:Nat}{a:Act}{w:World}(l:Array Bool)(hm:P.follows .mixedOrders=true)(hn:ops.size=n)(hl:Array.replicate n false=l)(hS:S w.drew)
  (h:S w.drew→AV P .any ops Q S ds n l a w.drew):(Code.region id ops true).wp P Q a w:=by
 subst hn;subst hl;exact Lf hm (h hS)
def WH(md:Region.Mode)(ops:Array Oper)(l l':Array Bool)(i:Nat):Bool :=
 Region.noSelect ops&&Region.free md ops l i&&(Region.ready md ops l).contains i&&(l.setIfInBounds i true==l')
theorem JQ{i:Nat}{N:Option Tmp}{oi:Oper}{v:Value}{fuel:Nat}{l:Array Bool}{a:Act}{w:World}(l':Array Bool)(hi:ops[i]?=some oi)(hN:oi.dst=N)(hc:WH md ops l l' i=true)
  (hQ:∀ c a w,Q (.panic c) (a.put oi.dst v) w→Q (.panic c) a w)(hy:Yields P ops oi v a){a':Act}(ha:a.put N v=a')
  (h:AV P md ops Q S ds fuel l' a' w):AV P md ops Q S ds (fuel+1) l a w:=by
 subst ha;subst hN;simp only[WH,Bool.and_eq_true,beq_iff_eq]at hc;obtain⟨⟨⟨h1,h2⟩,h3⟩,h6⟩:=hc;subst h6;exact Mt hi (Region.noSelect_spec h1) hQ fuel l a w (Region.free_spec hi h2) (by simpa using h3) hy h
def NF(md:Region.Mode)(ops:Array Oper)(l l':Array Bool)(i:Nat):Bool:=(Region.ready md ops l==[i])&&(l.setIfInBounds i true==l')
theorem WC{i:Nat}{N:Option Tmp}{oi:Oper}{fuel:Nat}{l:Array Bool}{a:Act}{w:World}(l':Array Bool)(hi:ops[i]?=some oi)(hN:oi.dst=N)(hc:NF md ops l l' i=true)(hd:i∉ds)
  (h:∀ K:Act→World→Prop,Shut (∀ a' w',S w'→(S w'→AV P md ops Q S ds fuel l' a' w')→K a' w')→if Region.wanted oi (yielded ops a.tmps)=true then Oper.wp P oi a w K Q else K (a.put N undef) w) :
  AV P md ops Q S ds (fuel+1) l a w:=by
 subst hN;simp only[NF,Bool.and_eq_true,beq_iff_eq]at hc;obtain⟨h1,h2⟩:=hc;subst h2;exact EF h1 (by simp) (Aa.cons hi hd (fun K hK=>h K hK) Aa.nil)
theorem Zn{l:Array Bool}{a:Act}{w:World}{n:Nat}(hr:(Region.ready md ops l==[])=true)(h:Q .normal a w):AV P md ops Q S ds n l a w:=Le (by simpa using hr) h n
theorem Zm{i j:Nat}{Ni Nj:Option Tmp}{oi oj:Oper}{fuel:Nat}{l:Array Bool}{a:Act}{w:World}(li lj:Array Bool)(hi:ops[i]?=some oi)(hj:ops[j]?=some oj)(hNi:oi.dst=Ni)(hNj:oj.dst=Nj)
  (hc:(Region.ready md ops l==[i,j]&&l.setIfInBounds i true==li&&l.setIfInBounds j true==lj)=true)(hdi:i∉ds)(hdj:j∉ds)
  (h1:∀ K:Act→World→Prop,Shut (∀ a' w',S w'→(S w'→AV P md ops Q S ds fuel li a' w')→K a' w')→if Region.wanted oi (yielded ops a.tmps)=true then Oper.wp P oi a w K Q else K (a.put Ni undef) w)
  (h2:∀ K:Act→World→Prop,Shut (∀ a' w',S w'→(S w'→AV P md ops Q S ds fuel lj a' w')→K a' w')→if Region.wanted oj (yielded ops a.tmps)=true then Oper.wp P oj a w K Q else K (a.put Nj undef) w) :
  AV P md ops Q S ds (fuel+1) l a w:=by
 subst hNi;subst hNj;simp only[Bool.and_eq_true,beq_iff_eq]at hc;obtain⟨⟨h3,h4⟩,h5⟩:=hc;subst h4;subst h5;exact EF h3 (by simp) (Aa.cons hi hdi (fun K hK=>h1 K hK) (Aa.cons hj hdj (fun K hK=>h2 K hK) Aa.nil))
theorem Aas{i j k:Nat}{Ni Nj Nk:Option Tmp}{oi oj ok:Oper}{fuel:Nat}{l:Array Bool}{a:Act}{w:World}(li lj lk:Array Bool)(hi:ops[i]?=some oi)(hj:ops[j]?=some oj)(hk:ops[k]?=some ok)(hNi:oi.dst=Ni)(hNj:oj.dst=Nj)(hNk:ok.dst=Nk)
  (hc:(Region.ready md ops l==[i,j,k]&&l.setIfInBounds i true==li&&l.setIfInBounds j true==lj&&l.setIfInBounds k true==lk)=true)(hdi:i∉ds)(hdj:j∉ds)(hdk:k∉ds)
  (h1:∀ K:Act→World→Prop,Shut (∀ a' w',S w'→(S w'→AV P md ops Q S ds fuel li a' w')→K a' w')→if Region.wanted oi (yielded ops a.tmps)=true then Oper.wp P oi a w K Q else K (a.put Ni undef) w)
  (h2:∀ K:Act→World→Prop,Shut (∀ a' w',S w'→(S w'→AV P md ops Q S ds fuel lj a' w')→K a' w')→if Region.wanted oj (yielded ops a.tmps)=true then Oper.wp P oj a w K Q else K (a.put Nj undef) w)
  (h3:∀ K:Act→World→Prop,Shut (∀ a' w',S w'→(S w'→AV P md ops Q S ds fuel lk a' w')→K a' w')→if Region.wanted ok (yielded ops a.tmps)=true then Oper.wp P ok a w K Q else K (a.put Nk undef) w) :
  AV P md ops Q S ds (fuel+1) l a w:=by
 subst hNi;subst hNj;subst hNk;simp only[Bool.and_eq_true,beq_iff_eq]at hc;obtain⟨⟨⟨h4,h5⟩,h6⟩,h7⟩:=hc;subst h5;subst h6;subst h7;exact EF h4 (by simp) (Aa.cons hi hdi (fun K hK=>h1 K hK) (Aa.cons hj hdj (fun K hK=>h2 K hK) (Aa.cons hk hdk (fun K hK=>h3 K hK) Aa.nil)))
def Ih:Act→List (Tmp×Value)→Act
 |a,[]=>a
 |a,(n,v)::r=>Ih (a.put (some n) v) r
theorem Zl{σ:Type}{fuel:Nat}{l:Array Bool}{a:Act}{w:World}(fuel':Nat)(l':Array Bool)(ns:σ→List (Tmp×Value))(F:σ→World→Prop)
 (hcont:∀ s w',F s w'→AV P md ops Q S ds fuel' l' (Ih a (ns s)) w')
 (h:(∀ s w',F s w'→AV P md ops Q S ds fuel' l' (Ih a (ns s)) w')→AV P md ops Q S ds fuel l a w):AV P md ops Q S ds fuel l a w:=h hcont
theorem GN{fuel:Nat}{l:Array Bool}{a a':Act}{w:World}(ha:a=a')(h:AV P md ops Q S ds fuel l a' w):AV P md ops Q S ds fuel l a w:=by
 subst ha;exact h
theorem Zp{oi:Oper}{N:Option Tmp}{a:Act}{w:World}{K:Act→World→Prop}(f:FuncId)(args:Array Value)(hw:Region.wanted oi (yielded ops a.tmps)=true)(hN:oi.dst=N)(hrun:(execOp a.eval oi).run P w=.ok (.enter f args) w)
  (h:Calls P f args w fun e w'=>∃ v,e=.returned v∧K (a.put N v) w'):if Region.wanted oi (yielded ops a.tmps)=true then Oper.wp P oi a w K Q else K (a.put N undef) w:=by
 rw[if_pos hw];subst hN;unfold Oper.wp;rw[hrun,Oper.upon_enter];refine h.mono fun e w'' hh=>?_
 obtain⟨v,rfl,hk⟩:=hh;exact hk
theorem R4{f:FuncId}{fn:Func}(hf:P.funcs[f]?=some fn)(hname:(fn.name == "runtime.NumGoroutine")=false)(hb:fn.body.isSome=true)(args:Array Value)(w:World):(callFunc f args).run P w=.ok (.enter f args) w:=by
 have h1:fn.name ≠ "runtime.NumGoroutine" :=by simpa using hname
 obtain⟨c,hc⟩:=Option.isSome_iff_exists.1 hb;simp[callFunc,hf,h1,hc]
theorem Um{oi:Oper}{N:Option Tmp}{a:Act}{w:World}{K:Act→World→Prop}{f:FuncId}{fn:Func}{az:Array Operand}{ts:Array TypeId}(hf:P.funcs[f]?=some fn)(hname:(fn.name == "runtime.NumGoroutine")=false)(hb:fn.body.isSome=true)(args:Array Value)
  (hw:Region.wanted oi (yielded ops a.tmps)=true)(hN:oi.dst=N)(hop:oi.op=.call {callee:=.value (.func f),args:=az,argTypes:=ts})(hargs:az.map a.eval=args)
  (h:Calls P f args w fun e w'=>∃ v,e=.returned v∧K (a.put N v) w'):if Region.wanted oi (yielded ops a.tmps)=true then Oper.wp P oi a w K Q else K (a.put N undef) w:=by
 refine Zp f args hw hN ?_ h;have he:=R4 hf hname hb args w;unfold execOp;simp[hop,resolve,Deferred.ofValue,invoke,Act.eval,hargs,he]
theorem NG{rest:List Oper}{oi:Oper}{a:Act}{w:World}(N:Option Tmp)(hd:oi.dst=N)(hg:oi.guard=none){f:FuncId}{fn:Func}{az:Array Operand}{ts:Array TypeId}(hf:P.funcs[f]?=some fn)(hname:(fn.name == "runtime.NumGoroutine")=false)(hb:fn.body.isSome=true)(args:Array Value)
  (hop:oi.op=.call {callee:=.value (.func f),args:=az,argTypes:=ts})(hargs:az.map a.eval=args)
  (h:Calls P f args w fun e w'=>∃ v,e=.returned v∧wpList P ops Q rest (a.put N v) w'):wpList P ops Q (oi::rest) a w:=by
 refine wpList_plain hg fun K hK=>?_
 have he:=R4 hf hname hb args w;have hrun:(execOp a.eval oi).run P w=.ok (.enter f args) w:=by
  unfold execOp;simp[hop,resolve,Deferred.ofValue,invoke,Act.eval,hargs,he]
 unfold Oper.wp;rw[hrun,Oper.upon_enter];refine h.mono fun e w'' hh=>?_
 obtain⟨v,rfl,hk⟩:=hh;subst hd;exact hK _ _ hk
theorem Qw{oi:Oper}{N:Option Tmp}{a:Act}{w w1:World}{v:Value}{K:Act→World→Prop}(hw:Region.wanted oi (yielded ops a.tmps)=true)(hN:oi.dst=N)(hrun:(execOp a.eval oi).run P w=.ok (.value v) w1)
  (h:K (a.put N v) w1):if Region.wanted oi (yielded ops a.tmps)=true then Oper.wp P oi a w K Q else K (a.put N undef) w:=by
 rw[if_pos hw];subst hN;unfold Oper.wp;rw[hrun];exact h
theorem Eg(n:Int):IntKind.i64.wrap n=Go.RowKit.wrap64 n:=by unfold Go.RowKit.wrap64;exact IntKind.wrap_i64 n
theorem Es(n:Int):IntKind.i32.wrap n=Go.RowKit.wrap32 n:=by unfold Go.RowKit.wrap32;exact IntKind.wrap_i32 n
end
end
end Go.Proofs.YtjjpiefgdggghaaGreatDoorW.PrintLast
