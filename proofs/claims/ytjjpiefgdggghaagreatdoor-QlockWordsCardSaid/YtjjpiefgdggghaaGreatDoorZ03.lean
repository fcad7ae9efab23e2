/- Parts: Shelf, TracePlain, TrIs. -/
import Derived.Shelf.Strings.Builder1
import Derived.Shelf.Strings.Builder2
import Derived.Shelf.Strings.OnBuilder
import Derived.Shelf.Small.Strs
import Derived.Shelf.Strings.BuilderF
import Derived.Shelf.Strings.BuilderK
import Derived.Shelf.Strings.Builder2Cap
import Derived.Shelf.Strconv.Atoi
import Derived.Shelf.Strconv.Itoa0
import Derived.Shelf.Strconv.Itoa1
import Derived.Shelf.LaysM
import Derived.Shelf.Strconv.Itoa2
import Derived.Shelf.Strconv.Itoa3
import Derived.Shelf.Strconv.AtoiErrFast
import Derived.Shelf.Strconv.ParseIntEmpty
import Derived.Shelf.Strconv.AtoiFail
import Derived.Shelf.Strconv.Clone
import Derived.Shelf.Strconv.SyntaxError
import Derived.Shelf.LaysC
import Derived.Shelf.Strconv.ToError
import Derived.Shelf.Strconv.Lower
import Derived.Shelf.Strconv.ParseUint10
import Derived.Shelf.Strconv.ParseUint10Empty
import Derived.Shelf.Strconv.ParseUint10Any
import Derived.Shelf.Strconv.ParseInt10
import Derived.Shelf.Strconv.AtoiLong
import Derived.Shelf.Strconv.AtoiInnerAll
import Derived.Shelf.Strconv.RangeError
import Derived.Shelf.Strconv.ToErrorRange
import Derived.Shelf.Strconv.AtoiAll
import Derived.Shelf.Strconv.ErrVarAll
import Derived.Shelf.Strings.Search1
import Derived.Shelf.Strings.Search2
import Derived.Shelf.Strings.Search3
import Derived.Shelf.Strings.Count
import Derived.Shelf.Strings.Shaped
import Derived.Shelf.Strings.Split
import Derived.Shelf.Strings.Replace
import Derived.Shelf.Strings.SplitShaped
import Derived.Shelf.Unicode.DecodeSlow
import Derived.Shelf.Strings.BuilderCap
import Derived.Shelf.Slices.Turned
import Derived.Test.YtjjpiefgdggghaaGreatDoorProg
import Derived.Test.YtjjpiefgdggghaaGreatDoorZ02
set_option linter.unusedVariables false
set_option linter.unusedSimpArgs false
set_option maxRecDepth 100000
set_option maxHeartbeats 40000000
namespace Go.Proofs
section
open Go.Shelf
def Tryz.Gk:Go.Shelf.Ren:=⟨fun |156=>170 |165=>110 |166=>112 |169=>114 |240=>133 |241=>134 |276=>154 |277=>155 |n=>n,fun |31=>108 |9=>9 |3=>3 |4=>4 |0=>0 |20=>20 |72=>168 |76=>172 |70=>166 |37=>142 |75=>171 |127=>188 |164=>210 |5=>5 |80=>74 |n=>n,fun |n=>n⟩
theorem Tryz.On:Go.Proofs.Lays.n156 Tryz.prog Tryz.Gk:={
 mixed:=by kernel_rfl
 f156:=Tryz.func170.trans (congrArg some (by kernel_rfl))
 f165:=Tryz.func110.trans (congrArg some (by kernel_rfl))
 f166:=Tryz.func112.trans (congrArg some (by kernel_rfl))
 f169:=Tryz.func114.trans (congrArg some (by kernel_rfl))
 f240:=Tryz.func133.trans (congrArg some (by kernel_rfl))
 f241:=Tryz.func134.trans (congrArg some (by kernel_rfl))
 f276:=Tryz.func154.trans (congrArg some (by kernel_rfl))
 f277:=Tryz.func155.trans (congrArg some (by kernel_rfl))
 t0:=Tryz.underlying0
 a0:=Tryz.isAgg0
 z0:=Tryz.sizeOf0
 v0:=Tryz.zeroValue0
 t3:=Tryz.underlying3
 a3:=Tryz.isAgg3
 z3:=Tryz.sizeOf3
 v3:=Tryz.zeroValue3
 t4:=Tryz.underlying4
 a4:=Tryz.isAgg4
 z4:=Tryz.sizeOf4
 v4:=Tryz.zeroValue4
 t9:=Tryz.underlying9
 a9:=Tryz.isAgg9
 z9:=Tryz.sizeOf9
 v9:=Tryz.zeroValue9
 t20:=Tryz.underlying20
 a20:=Tryz.isAgg20
 z20:=Tryz.sizeOf20
 v20:=Tryz.zeroValue20
 t31:=Tryz.underlying108
 a31:=Tryz.isAgg108
 z31:=Tryz.sizeOf108
 v31:=Tryz.zeroValue108
 t37:=Tryz.underlying142
 a37:=Tryz.isAgg142
 z37:=Tryz.sizeOf142
 v37:=Tryz.zeroValue142
 t70:=Tryz.underlying166
 a70:=Tryz.isAgg166
 z70:=Tryz.sizeOf166
 v70:=Tryz.zeroValue166
 t72:=Tryz.underlying168
 a72:=Tryz.isAgg168
 z72:=Tryz.sizeOf168
 v72:=Tryz.zeroValue168
 t75:=Tryz.underlying171
 a75:=Tryz.isAgg171
 z75:=Tryz.sizeOf171
 v75:=Tryz.zeroValue171
 t76:=Tryz.underlying172
 a76:=Tryz.isAgg172
 z76:=Tryz.sizeOf172
 v76:=Tryz.zeroValue172
 t127:=Tryz.underlying188
 a127:=Tryz.isAgg188
 z127:=Tryz.sizeOf188
 v127:=Tryz.zeroValue188
 t164:=Tryz.underlying210
 a164:=Tryz.isAgg210
 z164:=Tryz.sizeOf210
 v164:=Tryz.zeroValue210}
theorem Tryz.FE:Builder.Extra Tryz.prog Tryz.Gk:={
 sizeBuilder:=by kernel_rfl
 liesBuilder:=by kernel_rfl
 t5:=Tryz.underlying5
 a5:=Tryz.isAgg5
 z5:=Tryz.sizeOf5
 v5:=Tryz.zeroValue5
 infoByte:=by kernel_rfl
 cellsByte:=by kernel_rfl
 sizeByte:=by kernel_rfl
 neB5:=by decide}
open Go.RowKit in
theorem Tryz.strings_Join(bk o c:Nat)(xs:List ByteArray)(sep:ByteArray)(w:World)(hcells:∀ (j:Nat) x,xs[j]?=some x→w.cell? ⟨bk,o+j,none⟩=some (.string x))(hbk:bk<w.heap.size)(hN:xs.length≤140737488355328)(hcap:xs.length≤c)(hlen:(Lib.join (xs.map (·.data.toList)) sep.data.toList).length≤140737488355328) :
 Calls Tryz.prog 170 #[.slice (some ⟨bk,o,none⟩) xs.length c,.string sep] w fun e w'=>e=.returned (.string ⟨(Lib.join (xs.map (·.data.toList)) sep.data.toList).toArray⟩)∧Below w.heap.size w w':=Any.strings_Join Tryz.On Tryz.FE bk o c xs sep w hcells hbk hN hcap hlen
def Tryz.J9:Go.Shelf.Ren:=⟨fun |137=>95 |217=>119 |266=>142 |n=>n,fun |9=>9 |5=>5 |3=>3 |n=>n,fun |n=>n⟩
theorem Tryz.Oo:Go.Proofs.Lays.n137 Tryz.prog Tryz.J9:={
 mixed:=by kernel_rfl
 f137:=Tryz.func95.trans (congrArg some (by kernel_rfl))
 f217:=Tryz.func119.trans (congrArg some (by kernel_rfl))
 f266:=Tryz.func142.trans (congrArg some (by kernel_rfl))
 t3:=Tryz.underlying3
 a3:=Tryz.isAgg3
 z3:=Tryz.sizeOf3
 v3:=Tryz.zeroValue3
 t5:=Tryz.underlying5
 a5:=Tryz.isAgg5
 z5:=Tryz.sizeOf5
 v5:=Tryz.zeroValue5
 t9:=Tryz.underlying9
 a9:=Tryz.isAgg9
 z9:=Tryz.sizeOf9
 v9:=Tryz.zeroValue9}
open Go.RowKit in
theorem Tryz.strings_IndexByte(s:ByteArray)(c:Int)(w:World) :
 Calls Tryz.prog 95 #[.string s,.int .u8 c] w fun e w'=>e=.returned (.int .i64 (Lib.indexByte s.data.toList c.toNat.toUInt8))∧w'=w:=Any.strings_IndexByte Tryz.Oo s c w
def Tryz.JA:Go.Shelf.Ren:=⟨fun |283=>137 |n=>n,fun |3=>3 |9=>9 |4=>4 |n=>n,fun |n=>n⟩
theorem Tryz.Oq:Go.Proofs.Lays.n283 Tryz.prog Tryz.JA:={
 mixed:=by kernel_rfl
 f283:=Tryz.func137.trans (congrArg some (by kernel_rfl))
 t3:=Tryz.underlying3
 a3:=Tryz.isAgg3
 z3:=Tryz.sizeOf3
 v3:=Tryz.zeroValue3
 t4:=Tryz.underlying4
 a4:=Tryz.isAgg4
 z4:=Tryz.sizeOf4
 v4:=Tryz.zeroValue4
 t9:=Tryz.underlying9
 a9:=Tryz.isAgg9
 z9:=Tryz.sizeOf9
 v9:=Tryz.zeroValue9}
open Go.Lib in
theorem Tryz.internal_strconv_small(i:Nat)(h:i<100)(w:World) :
 Calls Tryz.prog 137 #[.int .i64 i] w fun e w'=>e=.returned (.string ⟨(Lib.decDigits i).toArray⟩)∧w'=w:=Any.internal_strconv_small Tryz.Oq i h w
def Tryz.IA:Go.Shelf.Ren:=⟨fun |284=>138 |129=>160 |317=>159 |318=>161 |n=>n,fun |53=>190 |3=>3 |212=>219 |0=>0 |4=>4 |46=>213 |5=>5 |9=>9 |n=>n,fun |17=>4 |n=>n⟩
theorem Tryz.Nd:Go.Proofs.LaysM.n284 Tryz.prog Tryz.IA:={
 mixed:=by kernel_rfl
 f129:=Tryz.func160.trans (congrArg some (by kernel_rfl))
 f284:=Tryz.func138.trans (congrArg some (by kernel_rfl))
 f317:=Tryz.func159.trans (congrArg some (by kernel_rfl))
 f318:=Tryz.func161.trans (congrArg some (by kernel_rfl))
 t0:=Tryz.underlying0
 a0:=Tryz.isAgg0
 z0:=Tryz.sizeOf0
 v0:=Tryz.zeroValue0
 t3:=Tryz.underlying3
 a3:=Tryz.isAgg3
 z3:=Tryz.sizeOf3
 v3:=Tryz.zeroValue3
 t4:=Tryz.underlying4
 a4:=Tryz.isAgg4
 z4:=Tryz.sizeOf4
 v4:=Tryz.zeroValue4
 t5:=Tryz.underlying5
 a5:=Tryz.isAgg5
 z5:=Tryz.sizeOf5
 v5:=Tryz.zeroValue5
 t9:=Tryz.underlying9
 a9:=Tryz.isAgg9
 z9:=Tryz.sizeOf9
 v9:=Tryz.zeroValue9
 t46:=Tryz.underlying213
 a46:=Tryz.isAgg213
 z46:=Tryz.sizeOf213
 v46:=Tryz.zeroValue213
 t53:=Tryz.underlying190
 a53:=Tryz.isAgg190
 z53:=Tryz.sizeOf190
 v53:=Tryz.zeroValue190
 t212:=Tryz.underlying219
 a212:=Tryz.isAgg219
 z212:=Tryz.sizeOf219
 v212:=Tryz.zeroValue219
 g17:=by kernel_rfl
 i0:=by kernel_rfl
 i3:=by kernel_rfl
 i4:=by kernel_rfl
 i5:=by kernel_rfl
 i9:=by kernel_rfl
 i46:=by kernel_rfl
 i53:=by kernel_rfl
 i212:=by kernel_rfl
 m17:=by kernel_rfl}
open Go.Lib in
theorem Tryz.internal_strconv_numDigits(u:Nat)(h1:1≤u)(h2:u<18446744073709551616)(w:World)(htab:Lib.TabIs Tryz.prog w "internal/strconv.uint64pow10" .u64 Lib.pow10Tab) :
 Calls Tryz.prog 138 #[.int .u64 u] w fun e w'=>e=.returned (.int .i64 (Lib.nDigits u))∧w'=w:=Any.internal_strconv_numDigits Tryz.Nd u h1 h2 w htab
def Tryz.JB:Go.Shelf.Ren:=⟨fun |285=>139 |n=>n,fun |37=>142 |53=>190 |3=>3 |4=>4 |51=>45 |9=>9 |5=>5 |0=>0 |n=>n,fun |n=>n⟩
theorem Tryz.Ot:Go.Proofs.Lays.n285 Tryz.prog Tryz.JB:={
 mixed:=by kernel_rfl
 f285:=Tryz.func139.trans (congrArg some (by kernel_rfl))
 t0:=Tryz.underlying0
 a0:=Tryz.isAgg0
 z0:=Tryz.sizeOf0
 v0:=Tryz.zeroValue0
 t3:=Tryz.underlying3
 a3:=Tryz.isAgg3
 z3:=Tryz.sizeOf3
 v3:=Tryz.zeroValue3
 t4:=Tryz.underlying4
 a4:=Tryz.isAgg4
 z4:=Tryz.sizeOf4
 v4:=Tryz.zeroValue4
 t5:=Tryz.underlying5
 a5:=Tryz.isAgg5
 z5:=Tryz.sizeOf5
 v5:=Tryz.zeroValue5
 t9:=Tryz.underlying9
 a9:=Tryz.isAgg9
 z9:=Tryz.sizeOf9
 v9:=Tryz.zeroValue9
 t37:=Tryz.underlying142
 a37:=Tryz.isAgg142
 z37:=Tryz.sizeOf142
 v37:=Tryz.zeroValue142
 t51:=Tryz.underlying45
 a51:=Tryz.isAgg45
 z51:=Tryz.sizeOf45
 v51:=Tryz.zeroValue45
 t53:=Tryz.underlying190
 a53:=Tryz.isAgg190
 z53:=Tryz.sizeOf190
 v53:=Tryz.zeroValue190}
open Go.RowKit Go.Sort Go.Lib in
theorem Tryz.internal_strconv_formatBase10(P4 off cap:Nat)(u:Nat)(d:Array UInt8)(w:World)(hH:Holds (fun(b:UInt8)=>Value.int .u8 (b.toNat:Int)) w P4 off d)(hu:u<10 ^ d.size)(hu64:u<18446744073709551616)(hsz:d.size<4611686018427387904) :
 Calls Tryz.prog 139 #[.slice (some ⟨P4,off,none⟩) d.size cap,.int .u64 u] w fun e w' =>
  e=.returned (.tuple #[])∧∃ (n v':Nat) (dk:Array UInt8),w'=(putRow (fun(b:UInt8)=>Value.int .u8 (b.toNat:Int)) w P4 off dk).drewN n∧FmtInv d.size u 0 v' dk:=Any.internal_strconv_formatBase10 Tryz.Ot P4 off cap u d w hH hu hu64 hsz
def Tryz.IB:Go.Shelf.Ren:=⟨fun |171=>48 |243=>78 |246=>115 |283=>137 |284=>138 |285=>139 |286=>140 |129=>160 |317=>159 |318=>161 |319=>162 |320=>163 |337=>174 |338=>175 |n=>n,fun |3=>3 |9=>9 |2=>2 |4=>4 |171=>189 |0=>0 |53=>190 |37=>142 |5=>5 |173=>193 |212=>219 |51=>45 |20=>20 |213=>220 |46=>213 |232=>236 |233=>237 |n=>n,fun |17=>4 |18=>5 |19=>6 |n=>n⟩
theorem Tryz.Nf:Go.Proofs.LaysM.n171 Tryz.prog Tryz.IB:={
 mixed:=by kernel_rfl
 f129:=Tryz.func160.trans (congrArg some (by kernel_rfl))
 f171:=Tryz.func48.trans (congrArg some (by kernel_rfl))
 f243:=Tryz.func78.trans (congrArg some (by kernel_rfl))
 f246:=Tryz.func115.trans (congrArg some (by kernel_rfl))
 f283:=Tryz.func137.trans (congrArg some (by kernel_rfl))
 f284:=Tryz.func138.trans (congrArg some (by kernel_rfl))
 f285:=Tryz.func139.trans (congrArg some (by kernel_rfl))
 f286:=Tryz.func140.trans (congrArg some (by kernel_rfl))
 f317:=Tryz.func159.trans (congrArg some (by kernel_rfl))
 f318:=Tryz.func161.trans (congrArg some (by kernel_rfl))
 f319:=Tryz.func162.trans (congrArg some (by kernel_rfl))
 f320:=Tryz.func163.trans (congrArg some (by kernel_rfl))
 f337:=Tryz.func174.trans (congrArg some (by kernel_rfl))
 f338:=Tryz.func175.trans (congrArg some (by kernel_rfl))
 t0:=Tryz.underlying0
 a0:=Tryz.isAgg0
 z0:=Tryz.sizeOf0
 v0:=Tryz.zeroValue0
 t2:=Tryz.underlying2
 a2:=Tryz.isAgg2
 z2:=Tryz.sizeOf2
 v2:=Tryz.zeroValue2
 t3:=Tryz.underlying3
 a3:=Tryz.isAgg3
 z3:=Tryz.sizeOf3
 v3:=Tryz.zeroValue3
 t4:=Tryz.underlying4
 a4:=Tryz.isAgg4
 z4:=Tryz.sizeOf4
 v4:=Tryz.zeroValue4
 t5:=Tryz.underlying5
 a5:=Tryz.isAgg5
 z5:=Tryz.sizeOf5
 v5:=Tryz.zeroValue5
 t9:=Tryz.underlying9
 a9:=Tryz.isAgg9
 z9:=Tryz.sizeOf9
 v9:=Tryz.zeroValue9
 t20:=Tryz.underlying20
 a20:=Tryz.isAgg20
 z20:=Tryz.sizeOf20
 v20:=Tryz.zeroValue20
 t37:=Tryz.underlying142
 a37:=Tryz.isAgg142
 z37:=Tryz.sizeOf142
 v37:=Tryz.zeroValue142
 t46:=Tryz.underlying213
 a46:=Tryz.isAgg213
 z46:=Tryz.sizeOf213
 v46:=Tryz.zeroValue213
 t51:=Tryz.underlying45
 a51:=Tryz.isAgg45
 z51:=Tryz.sizeOf45
 v51:=Tryz.zeroValue45
 t53:=Tryz.underlying190
 a53:=Tryz.isAgg190
 z53:=Tryz.sizeOf190
 v53:=Tryz.zeroValue190
 t171:=Tryz.underlying189
 a171:=Tryz.isAgg189
 z171:=Tryz.sizeOf189
 v171:=Tryz.zeroValue189
 t173:=Tryz.underlying193
 a173:=Tryz.isAgg193
 z173:=Tryz.sizeOf193
 v173:=Tryz.zeroValue193
 t212:=Tryz.underlying219
 a212:=Tryz.isAgg219
 z212:=Tryz.sizeOf219
 v212:=Tryz.zeroValue219
 t213:=Tryz.underlying220
 a213:=Tryz.isAgg220
 z213:=Tryz.sizeOf220
 t232:=Tryz.underlying236
 a232:=Tryz.isAgg236
 z232:=Tryz.sizeOf236
 v232:=Tryz.zeroValue236
 t233:=Tryz.underlying237
 a233:=Tryz.isAgg237
 z233:=Tryz.sizeOf237
 v233:=Tryz.zeroValue237
 g17:=by kernel_rfl
 g18:=by kernel_rfl
 g19:=by kernel_rfl
 i0:=by kernel_rfl
 i2:=by kernel_rfl
 i3:=by kernel_rfl
 i4:=by kernel_rfl
 i5:=by kernel_rfl
 i9:=by kernel_rfl
 i20:=by kernel_rfl
 i37:=by kernel_rfl
 i46:=by kernel_rfl
 i51:=by kernel_rfl
 i53:=by kernel_rfl
 i171:=by kernel_rfl
 i173:=by kernel_rfl
 i212:=by kernel_rfl
 i232:=by kernel_rfl
 i233:=by kernel_rfl
 m17:=by kernel_rfl
 m18:=by kernel_rfl
 m19:=by kernel_rfl}
open Go.RowKit Go.Sort Go.Lib in
theorem Tryz.strconv_Itoa(n:Int)(h0:-9223372036854775808≤n)(h1:n≤9223372036854775807)(w:World)(htab:Lib.TabIs Tryz.prog w "internal/strconv.uint64pow10" .u64 Lib.pow10Tab) :
 Calls Tryz.prog 48 #[.int .i64 n] w fun e w'=>e=.returned (.string ⟨(Lib.itoa n).toArray⟩)∧∃ k os,w'=grow (w.drewN k) os:=Any.strconv_Itoa Tryz.Nf n h0 h1 w htab
def Tryz.JC:Go.Shelf.Ren:=⟨fun |171=>48 |243=>78 |246=>115 |283=>137 |284=>138 |285=>139 |286=>140 |129=>160 |317=>159 |318=>161 |319=>162 |320=>163 |337=>174 |338=>175 |n=>n,fun |3=>3 |9=>9 |2=>2 |4=>4 |171=>189 |0=>0 |53=>190 |37=>142 |5=>5 |173=>193 |212=>219 |51=>45 |20=>20 |213=>220 |46=>213 |232=>236 |233=>237 |n=>n,fun |17=>4 |18=>5 |19=>6 |n=>n⟩
theorem Tryz.Ou:Go.Proofs.Lays.n171 Tryz.prog Tryz.JC:={
 mixed:=by kernel_rfl
 f129:=Tryz.func160.trans (congrArg some (by kernel_rfl))
 f171:=Tryz.func48.trans (congrArg some (by kernel_rfl))
 f243:=Tryz.func78.trans (congrArg some (by kernel_rfl))
 f246:=Tryz.func115.trans (congrArg some (by kernel_rfl))
 f283:=Tryz.func137.trans (congrArg some (by kernel_rfl))
 f284:=Tryz.func138.trans (congrArg some (by kernel_rfl))
 f285:=Tryz.func139.trans (congrArg some (by kernel_rfl))
 f286:=Tryz.func140.trans (congrArg some (by kernel_rfl))
 f317:=Tryz.func159.trans (congrArg some (by kernel_rfl))
 f318:=Tryz.func161.trans (congrArg some (by kernel_rfl))
 f319:=Tryz.func162.trans (congrArg some (by kernel_rfl))
 f320:=Tryz.func163.trans (congrArg some (by kernel_rfl))
 f337:=Tryz.func174.trans (congrArg some (by kernel_rfl))
 f338:=Tryz.func175.trans (congrArg some (by kernel_rfl))
 t0:=Tryz.underlying0
 a0:=Tryz.isAgg0
 z0:=Tryz.sizeOf0
 v0:=Tryz.zeroValue0
 t2:=Tryz.underlying2
 a2:=Tryz.isAgg2
 z2:=Tryz.sizeOf2
 v2:=Tryz.zeroValue2
 t3:=Tryz.underlying3
 a3:=Tryz.isAgg3
 z3:=Tryz.sizeOf3
 v3:=Tryz.zeroValue3
 t4:=Tryz.underlying4
 a4:=Tryz.isAgg4
 z4:=Tryz.sizeOf4
 v4:=Tryz.zeroValue4
 t5:=Tryz.underlying5
 a5:=Tryz.isAgg5
 z5:=Tryz.sizeOf5
 v5:=Tryz.zeroValue5
 t9:=Tryz.underlying9
 a9:=Tryz.isAgg9
 z9:=Tryz.sizeOf9
 v9:=Tryz.zeroValue9
 t20:=Tryz.underlying20
 a20:=Tryz.isAgg20
 z20:=Tryz.sizeOf20
 v20:=Tryz.zeroValue20
 t37:=Tryz.underlying142
 a37:=Tryz.isAgg142
 z37:=Tryz.sizeOf142
 v37:=Tryz.zeroValue142
 t46:=Tryz.underlying213
 a46:=Tryz.isAgg213
 z46:=Tryz.sizeOf213
 v46:=Tryz.zeroValue213
 t51:=Tryz.underlying45
 a51:=Tryz.isAgg45
 z51:=Tryz.sizeOf45
 v51:=Tryz.zeroValue45
 t53:=Tryz.underlying190
 a53:=Tryz.isAgg190
 z53:=Tryz.sizeOf190
 v53:=Tryz.zeroValue190
 t171:=Tryz.underlying189
 a171:=Tryz.isAgg189
 z171:=Tryz.sizeOf189
 v171:=Tryz.zeroValue189
 t173:=Tryz.underlying193
 a173:=Tryz.isAgg193
 z173:=Tryz.sizeOf193
 v173:=Tryz.zeroValue193
 t212:=Tryz.underlying219
 a212:=Tryz.isAgg219
 z212:=Tryz.sizeOf219
 v212:=Tryz.zeroValue219
 t213:=Tryz.underlying220
 a213:=Tryz.isAgg220
 z213:=Tryz.sizeOf220
 t232:=Tryz.underlying236
 a232:=Tryz.isAgg236
 z232:=Tryz.sizeOf236
 v232:=Tryz.zeroValue236
 t233:=Tryz.underlying237
 a233:=Tryz.isAgg237
 z233:=Tryz.sizeOf237
 v233:=Tryz.zeroValue237
 g17:=by kernel_rfl
 g18:=by kernel_rfl
 g19:=by kernel_rfl}
open Go.RowKit Go.Sort Go.Lib in
theorem Tryz.strconv_Itoa_small(i:Nat)(hi:i<100)(w:World) :
 Calls Tryz.prog 48 #[.int .i64 i] w fun e w'=>e=.returned (.string ⟨(Lib.decDigits i).toArray⟩)∧w'=w:=Any.strconv_Itoa_small Tryz.Ou i hi w
def Tryz.IC:Go.Shelf.Ren:=⟨fun |172=>166 |244=>177 |245=>178 |247=>182 |279=>183 |280=>184 |281=>185 |282=>186 |287=>189 |316=>190 |171=>48 |205=>191 |321=>192 |322=>193 |243=>78 |246=>115 |283=>137 |284=>138 |285=>139 |286=>140 |129=>160 |317=>159 |318=>161 |319=>162 |320=>163 |337=>174 |338=>175 |n=>n,fun |9=>9 |3=>3 |75=>171 |76=>172 |4=>4 |5=>5 |167=>238 |37=>142 |0=>0 |85=>239 |2=>2 |168=>241 |53=>190 |175=>244 |46=>213 |210=>248 |127=>188 |145=>253 |143=>251 |21=>21 |171=>189 |173=>193 |212=>219 |51=>45 |20=>20 |213=>220 |232=>236 |233=>237 |80=>74 |n=>n,fun |15=>7 |16=>8 |17=>4 |18=>5 |19=>6 |n=>n⟩
theorem Tryz.Hj:Go.Proofs.LaysC.n172 Tryz.prog Tryz.IC:={
 mixed:=by kernel_rfl
 f129:=Tryz.func160.trans (congrArg some (by kernel_rfl))
 f171:=Tryz.func48.trans (congrArg some (by kernel_rfl))
 f172:=Tryz.func166.trans (congrArg some (by kernel_rfl))
 f205:=Tryz.func191.trans (congrArg some (by kernel_rfl))
 f243:=Tryz.func78.trans (congrArg some (by kernel_rfl))
 f244:=Tryz.func177.trans (congrArg some (by kernel_rfl))
 f245:=Tryz.func178.trans (congrArg some (by kernel_rfl))
 f246:=Tryz.func115.trans (congrArg some (by kernel_rfl))
 f247:=Tryz.func182.trans (congrArg some (by kernel_rfl))
 f279:=Tryz.func183.trans (congrArg some (by kernel_rfl))
 f280:=Tryz.func184.trans (congrArg some (by kernel_rfl))
 f281:=Tryz.func185.trans (congrArg some (by kernel_rfl))
 f282:=Tryz.func186.trans (congrArg some (by kernel_rfl))
 f283:=Tryz.func137.trans (congrArg some (by kernel_rfl))
 f284:=Tryz.func138.trans (congrArg some (by kernel_rfl))
 f285:=Tryz.func139.trans (congrArg some (by kernel_rfl))
 f286:=Tryz.func140.trans (congrArg some (by kernel_rfl))
 f287:=Tryz.func189.trans (congrArg some (by kernel_rfl))
 f316:=Tryz.func190.trans (congrArg some (by kernel_rfl))
 f317:=Tryz.func159.trans (congrArg some (by kernel_rfl))
 f318:=Tryz.func161.trans (congrArg some (by kernel_rfl))
 f319:=Tryz.func162.trans (congrArg some (by kernel_rfl))
 f320:=Tryz.func163.trans (congrArg some (by kernel_rfl))
 f321:=Tryz.func192.trans (congrArg some (by kernel_rfl))
 f322:=Tryz.func193.trans (congrArg some (by kernel_rfl))
 f337:=Tryz.func174.trans (congrArg some (by kernel_rfl))
 f338:=Tryz.func175.trans (congrArg some (by kernel_rfl))
 t0:=Tryz.underlying0
 a0:=Tryz.isAgg0
 z0:=Tryz.sizeOf0
 v0:=Tryz.zeroValue0
 t2:=Tryz.underlying2
 a2:=Tryz.isAgg2
 z2:=Tryz.sizeOf2
 v2:=Tryz.zeroValue2
 t3:=Tryz.underlying3
 a3:=Tryz.isAgg3
 z3:=Tryz.sizeOf3
 v3:=Tryz.zeroValue3
 t4:=Tryz.underlying4
 a4:=Tryz.isAgg4
 z4:=Tryz.sizeOf4
 v4:=Tryz.zeroValue4
 t5:=Tryz.underlying5
 a5:=Tryz.isAgg5
 z5:=Tryz.sizeOf5
 v5:=Tryz.zeroValue5
 t9:=Tryz.underlying9
 a9:=Tryz.isAgg9
 z9:=Tryz.sizeOf9
 v9:=Tryz.zeroValue9
 t20:=Tryz.underlying20
 a20:=Tryz.isAgg20
 z20:=Tryz.sizeOf20
 v20:=Tryz.zeroValue20
 t21:=Tryz.underlying21
 a21:=Tryz.isAgg21
 z21:=Tryz.sizeOf21
 v21:=Tryz.zeroValue21
 t37:=Tryz.underlying142
 a37:=Tryz.isAgg142
 z37:=Tryz.sizeOf142
 v37:=Tryz.zeroValue142
 t46:=Tryz.underlying213
 a46:=Tryz.isAgg213
 z46:=Tryz.sizeOf213
 v46:=Tryz.zeroValue213
 t51:=Tryz.underlying45
 a51:=Tryz.isAgg45
 z51:=Tryz.sizeOf45
 v51:=Tryz.zeroValue45
 t53:=Tryz.underlying190
 a53:=Tryz.isAgg190
 z53:=Tryz.sizeOf190
 v53:=Tryz.zeroValue190
 t75:=Tryz.underlying171
 a75:=Tryz.isAgg171
 z75:=Tryz.sizeOf171
 v75:=Tryz.zeroValue171
 t76:=Tryz.underlying172
 a76:=Tryz.isAgg172
 z76:=Tryz.sizeOf172
 v76:=Tryz.zeroValue172
 t85:=Tryz.underlying239
 a85:=Tryz.isAgg239
 z85:=Tryz.sizeOf239
 v85:=Tryz.zeroValue239
 t127:=Tryz.underlying188
 a127:=Tryz.isAgg188
 z127:=Tryz.sizeOf188
 v127:=Tryz.zeroValue188
 t143:=Tryz.underlying251
 a143:=Tryz.isAgg251
 z143:=Tryz.sizeOf251
 v143:=Tryz.zeroValue251
 t145:=Tryz.underlying253
 a145:=Tryz.isAgg253
 z145:=Tryz.sizeOf253
 v145:=Tryz.zeroValue253
 t167:=Tryz.underlying238
 a167:=Tryz.isAgg238
 z167:=Tryz.sizeOf238
 v167:=Tryz.zeroValue238
 t168:=Tryz.underlying241
 a168:=Tryz.isAgg241
 z168:=Tryz.sizeOf241
 v168:=Tryz.zeroValue241
 t171:=Tryz.underlying189
 a171:=Tryz.isAgg189
 z171:=Tryz.sizeOf189
 v171:=Tryz.zeroValue189
 t173:=Tryz.underlying193
 a173:=Tryz.isAgg193
 z173:=Tryz.sizeOf193
 v173:=Tryz.zeroValue193
 t175:=Tryz.underlying244
 a175:=Tryz.isAgg244
 z175:=Tryz.sizeOf244
 v175:=Tryz.zeroValue244
 t210:=Tryz.underlying248
 a210:=Tryz.isAgg248
 z210:=Tryz.sizeOf248
 v210:=Tryz.zeroValue248
 t212:=Tryz.underlying219
 a212:=Tryz.isAgg219
 z212:=Tryz.sizeOf219
 v212:=Tryz.zeroValue219
 t213:=Tryz.underlying220
 a213:=Tryz.isAgg220
 z213:=Tryz.sizeOf220
 t232:=Tryz.underlying236
 a232:=Tryz.isAgg236
 z232:=Tryz.sizeOf236
 v232:=Tryz.zeroValue236
 t233:=Tryz.underlying237
 a233:=Tryz.isAgg237
 z233:=Tryz.sizeOf237
 v233:=Tryz.zeroValue237
 g15:=by kernel_rfl
 g16:=by kernel_rfl
 g17:=by kernel_rfl
 g18:=by kernel_rfl
 g19:=by kernel_rfl
 t80:=Tryz.underlying74
 a80:=Tryz.isAgg74
 z80:=Tryz.sizeOf74
 v80:=Tryz.zeroValue74
 i0:=by kernel_rfl
 i2:=by kernel_rfl
 i3:=by kernel_rfl
 i4:=by kernel_rfl
 i5:=by kernel_rfl
 i9:=by kernel_rfl
 i20:=by kernel_rfl
 i21:=by kernel_rfl
 i37:=by kernel_rfl
 i46:=by kernel_rfl
 i51:=by kernel_rfl
 i53:=by kernel_rfl
 i75:=by kernel_rfl
 i76:=by kernel_rfl
 i80:=by kernel_rfl
 i85:=by kernel_rfl
 i127:=by kernel_rfl
 i143:=by kernel_rfl
 i145:=by kernel_rfl
 i167:=by kernel_rfl
 i168:=by kernel_rfl
 i171:=by kernel_rfl
 i173:=by kernel_rfl
 i175:=by kernel_rfl
 i210:=by kernel_rfl
 i212:=by kernel_rfl
 i232:=by kernel_rfl
 i233:=by kernel_rfl
 m15:=by kernel_rfl
 m16:=by kernel_rfl
 m17:=by kernel_rfl
 m18:=by kernel_rfl
 m19:=by kernel_rfl
 c0:=by kernel_rfl
 c2:=by kernel_rfl
 c3:=by kernel_rfl
 c4:=by kernel_rfl
 c5:=by kernel_rfl
 c9:=by kernel_rfl
 c20:=by kernel_rfl
 c21:=by kernel_rfl
 c37:=by kernel_rfl
 c46:=by kernel_rfl
 c51:=by kernel_rfl
 c53:=by kernel_rfl
 c75:=by kernel_rfl
 c76:=by kernel_rfl
 c80:=by kernel_rfl
 c85:=by kernel_rfl
 c127:=by kernel_rfl
 c143:=by kernel_rfl
 c145:=by kernel_rfl
 c167:=by kernel_rfl
 c168:=by kernel_rfl
 c171:=by kernel_rfl
 c173:=by kernel_rfl
 c175:=by kernel_rfl
 c210:=by kernel_rfl
 c212:=by kernel_rfl
 c213:=by kernel_rfl
 c232:=by kernel_rfl
 c233:=by kernel_rfl}
open Go.RowKit in
theorem Tryz.strconv_Atoi_ok(s:ByteArray)(hmax:s.size≤9223372036854775806)(v:Int)(h:Lib.atoiAll s.data.toList=.ok v)(w:World) :
 Calls Tryz.prog 166 #[.string s] w fun e w'=>e=.returned (.tuple #[.int .i64 v,.nilIface])∧(w'=w∨∃ t,w'=Lib.bytesWorld w 5 t):=Any.strconv_Atoi_ok Tryz.Hj s hmax v h w
open Go.RowKit in
theorem Tryz.strconv_Atoi_syntax_var(s:ByteArray)(hlim:s.size≤281474976710656)(h1:∀ v,Lib.atoiAll s.data.toList≠.ok v)(h2:Lib.atoiAll s.data.toList≠.range)(tp:TypeId)(p:Value)(w:World)(hvar:w.var? Tryz.prog "strconv.ErrSyntax" = some #[.iface tp p]) :
  Calls Tryz.prog 166 #[.string s] w fun e w'=>∃ N,e=.returned (.tuple #[.int .i64 0,.iface 241 (.pointer (some ⟨N,0,none⟩))])∧w.heap.size≤N∧w'.heap[N]?=some (.cells #[.string ⟨#[65,116,111,105]⟩,.string s,.iface tp p] 248 (0,0))∧Below w.heap.size w w':=by
 cases h:Lib.atoiAll s.data.toList with
 |ok v=>exact absurd h (h1 v)
 |range=>exact absurd h h2
 |_=>exact Any.strconv_Atoi_syntax_var Tryz.Hj s hlim h tp p w hvar
open Go.RowKit in
theorem Tryz.strconv_Atoi_range_var(s:ByteArray)(hlim:s.size≤281474976710656)(h:Lib.atoiAll s.data.toList=.range)(tp:TypeId)(p:Value)(w:World)(hvar:w.var? Tryz.prog "strconv.ErrRange" = some #[.iface tp p]) :
 Calls Tryz.prog 166 #[.string s] w fun e w'=>∃ N,e=.returned (.tuple #[.int .i64 (Lib.atoiSat s.data.toList),.iface 241 (.pointer (some ⟨N,0,none⟩))])∧w.heap.size≤N∧w'.heap[N]?=some (.cells #[.string ⟨#[65,116,111,105]⟩,.string s,.iface tp p] 248 (0,0))∧Below w.heap.size w w':=Any.strconv_Atoi_range_var Tryz.Hj s hlim h tp p w hvar
def Tryz.ID:Go.Shelf.Ren:=⟨fun |146=>145 |221=>164 |268=>176 |138=>109 |143=>111 |195=>131 |197=>113 |218=>132 |219=>135 |260=>136 |217=>119 |225=>156 |224=>157 |267=>158 |266=>142 |314=>173 |n=>n,fun |9=>9 |31=>108 |3=>3 |4=>4 |0=>0 |105=>174 |21=>21 |5=>5 |46=>213 |119=>214 |139=>217 |138=>216 |146=>228 |51=>45 |n=>n,fun |1=>1 |3=>2 |4=>3 |n=>n⟩
theorem Tryz.Ng:Go.Proofs.LaysM.n146 Tryz.prog Tryz.ID:={
 mixed:=by kernel_rfl
 f138:=Tryz.func109.trans (congrArg some (by kernel_rfl))
 f143:=Tryz.func111.trans (congrArg some (by kernel_rfl))
 f146:=Tryz.func145.trans (congrArg some (by kernel_rfl))
 f195:=Tryz.func131.trans (congrArg some (by kernel_rfl))
 f197:=Tryz.func113.trans (congrArg some (by kernel_rfl))
 f217:=Tryz.func119.trans (congrArg some (by kernel_rfl))
 f218:=Tryz.func132.trans (congrArg some (by kernel_rfl))
 f219:=Tryz.func135.trans (congrArg some (by kernel_rfl))
 f221:=Tryz.func164.trans (congrArg some (by kernel_rfl))
 f224:=Tryz.func157.trans (congrArg some (by kernel_rfl))
 f225:=Tryz.func156.trans (congrArg some (by kernel_rfl))
 f260:=Tryz.func136.trans (congrArg some (by kernel_rfl))
 f266:=Tryz.func142.trans (congrArg some (by kernel_rfl))
 f267:=Tryz.func158.trans (congrArg some (by kernel_rfl))
 f268:=Tryz.func176.trans (congrArg some (by kernel_rfl))
 f314:=Tryz.func173.trans (congrArg some (by kernel_rfl))
 t0:=Tryz.underlying0
 a0:=Tryz.isAgg0
 z0:=Tryz.sizeOf0
 v0:=Tryz.zeroValue0
 t3:=Tryz.underlying3
 a3:=Tryz.isAgg3
 z3:=Tryz.sizeOf3
 v3:=Tryz.zeroValue3
 t4:=Tryz.underlying4
 a4:=Tryz.isAgg4
 z4:=Tryz.sizeOf4
 v4:=Tryz.zeroValue4
 t5:=Tryz.underlying5
 a5:=Tryz.isAgg5
 z5:=Tryz.sizeOf5
 v5:=Tryz.zeroValue5
 t9:=Tryz.underlying9
 a9:=Tryz.isAgg9
 z9:=Tryz.sizeOf9
 v9:=Tryz.zeroValue9
 t21:=Tryz.underlying21
 a21:=Tryz.isAgg21
 z21:=Tryz.sizeOf21
 v21:=Tryz.zeroValue21
 t31:=Tryz.underlying108
 a31:=Tryz.isAgg108
 z31:=Tryz.sizeOf108
 v31:=Tryz.zeroValue108
 t46:=Tryz.underlying213
 a46:=Tryz.isAgg213
 z46:=Tryz.sizeOf213
 v46:=Tryz.zeroValue213
 t51:=Tryz.underlying45
 a51:=Tryz.isAgg45
 z51:=Tryz.sizeOf45
 v51:=Tryz.zeroValue45
 t105:=Tryz.underlying174
 a105:=Tryz.isAgg174
 z105:=Tryz.sizeOf174
 v105:=Tryz.zeroValue174
 t119:=Tryz.underlying214
 a119:=Tryz.isAgg214
 z119:=Tryz.sizeOf214
 t138:=Tryz.underlying216
 a138:=Tryz.isAgg216
 z138:=Tryz.sizeOf216
 v138:=Tryz.zeroValue216
 t139:=Tryz.underlying217
 a139:=Tryz.isAgg217
 z139:=Tryz.sizeOf217
 v139:=Tryz.zeroValue217
 t146:=Tryz.underlying228
 a146:=Tryz.isAgg228
 z146:=Tryz.sizeOf228
 v146:=Tryz.zeroValue228
 g1:=by kernel_rfl
 g3:=by kernel_rfl
 g4:=by kernel_rfl
 i0:=by kernel_rfl
 i3:=by kernel_rfl
 i4:=by kernel_rfl
 i5:=by kernel_rfl
 i9:=by kernel_rfl
 i21:=by kernel_rfl
 i31:=by kernel_rfl
 i46:=by kernel_rfl
 i51:=by kernel_rfl
 i105:=by kernel_rfl
 i138:=by kernel_rfl
 i139:=by kernel_rfl
 i146:=by kernel_rfl
 m1:=by kernel_rfl
 s1_3:=fun w h=>Go.Proofs.cell_of_shapedOpen_int (zero:=#[.int .i64 0]) (t:=3) h (of_decide_eq_true (by kernel_rfl)) (by kernel_rfl) rfl (by kernel_rfl) (by kernel_rfl) Tryz.underlying3
 m3:=by kernel_rfl
 m4:=by kernel_rfl}
open Go.RowKit Go.Lib in
theorem Tryz.strings_Split_shaped(s sep:ByteArray)(w:World)(h:w.ShapedOpen Tryz.prog)(hs:s.size<4294967281)(h1:1≤sep.size) :
 Calls Tryz.prog 145 #[.string s,.string sep] w fun e w' =>
  e=.returned (.slice (some ⟨w.heap.size,0,none⟩) (Lib.countB s sep+1) (Lib.countB s sep+1))∧w'=w.alloc (.cells ((Lib.splitB sep 0 (Lib.countB s sep) s).map Value.string).toArray 9):=Any.strings_Split_shaped Tryz.Ng s sep w h hs h1
def Tryz.FF:Go.Shelf.Ren:=⟨fun |155=>47 |154=>77 |138=>109 |165=>110 |143=>111 |166=>112 |197=>113 |169=>114 |195=>131 |218=>132 |240=>133 |241=>134 |219=>135 |260=>136 |276=>154 |277=>155 |217=>119 |225=>156 |224=>157 |267=>158 |266=>142 |314=>173 |n=>n,fun |9=>9 |3=>3 |4=>4 |72=>168 |0=>0 |76=>172 |105=>174 |21=>21 |5=>5 |70=>166 |20=>20 |37=>142 |75=>171 |127=>188 |164=>210 |46=>213 |119=>214 |139=>217 |138=>216 |146=>228 |51=>45 |80=>74 |n=>n,fun |1=>1 |3=>2 |4=>3 |n=>n⟩
theorem Tryz.Nh:Go.Proofs.LaysM.n155 Tryz.prog Tryz.FF:={
 mixed:=by kernel_rfl
 f138:=Tryz.func109.trans (congrArg some (by kernel_rfl))
 f143:=Tryz.func111.trans (congrArg some (by kernel_rfl))
 f154:=Tryz.func77.trans (congrArg some (by kernel_rfl))
 f155:=Tryz.func47.trans (congrArg some (by kernel_rfl))
 f165:=Tryz.func110.trans (congrArg some (by kernel_rfl))
 f166:=Tryz.func112.trans (congrArg some (by kernel_rfl))
 f169:=Tryz.func114.trans (congrArg some (by kernel_rfl))
 f195:=Tryz.func131.trans (congrArg some (by kernel_rfl))
 f197:=Tryz.func113.trans (congrArg some (by kernel_rfl))
 f217:=Tryz.func119.trans (congrArg some (by kernel_rfl))
 f218:=Tryz.func132.trans (congrArg some (by kernel_rfl))
 f219:=Tryz.func135.trans (congrArg some (by kernel_rfl))
 f224:=Tryz.func157.trans (congrArg some (by kernel_rfl))
 f225:=Tryz.func156.trans (congrArg some (by kernel_rfl))
 f240:=Tryz.func133.trans (congrArg some (by kernel_rfl))
 f241:=Tryz.func134.trans (congrArg some (by kernel_rfl))
 f260:=Tryz.func136.trans (congrArg some (by kernel_rfl))
 f266:=Tryz.func142.trans (congrArg some (by kernel_rfl))
 f267:=Tryz.func158.trans (congrArg some (by kernel_rfl))
 f276:=Tryz.func154.trans (congrArg some (by kernel_rfl))
 f277:=Tryz.func155.trans (congrArg some (by kernel_rfl))
 f314:=Tryz.func173.trans (congrArg some (by kernel_rfl))
 t0:=Tryz.underlying0
 a0:=Tryz.isAgg0
 z0:=Tryz.sizeOf0
 v0:=Tryz.zeroValue0
 t3:=Tryz.underlying3
 a3:=Tryz.isAgg3
 z3:=Tryz.sizeOf3
 v3:=Tryz.zeroValue3
 t4:=Tryz.underlying4
 a4:=Tryz.isAgg4
 z4:=Tryz.sizeOf4
 v4:=Tryz.zeroValue4
 t5:=Tryz.underlying5
 a5:=Tryz.isAgg5
 z5:=Tryz.sizeOf5
 v5:=Tryz.zeroValue5
 t9:=Tryz.underlying9
 a9:=Tryz.isAgg9
 z9:=Tryz.sizeOf9
 v9:=Tryz.zeroValue9
 t20:=Tryz.underlying20
 a20:=Tryz.isAgg20
 z20:=Tryz.sizeOf20
 v20:=Tryz.zeroValue20
 t21:=Tryz.underlying21
 a21:=Tryz.isAgg21
 z21:=Tryz.sizeOf21
 v21:=Tryz.zeroValue21
 t37:=Tryz.underlying142
 a37:=Tryz.isAgg142
 z37:=Tryz.sizeOf142
 v37:=Tryz.zeroValue142
 t46:=Tryz.underlying213
 a46:=Tryz.isAgg213
 z46:=Tryz.sizeOf213
 v46:=Tryz.zeroValue213
 t51:=Tryz.underlying45
 a51:=Tryz.isAgg45
 z51:=Tryz.sizeOf45
 v51:=Tryz.zeroValue45
 t70:=Tryz.underlying166
 a70:=Tryz.isAgg166
 z70:=Tryz.sizeOf166
 v70:=Tryz.zeroValue166
 t72:=Tryz.underlying168
 a72:=Tryz.isAgg168
 z72:=Tryz.sizeOf168
 v72:=Tryz.zeroValue168
 t75:=Tryz.underlying171
 a75:=Tryz.isAgg171
 z75:=Tryz.sizeOf171
 v75:=Tryz.zeroValue171
 t76:=Tryz.underlying172
 a76:=Tryz.isAgg172
 z76:=Tryz.sizeOf172
 v76:=Tryz.zeroValue172
 t105:=Tryz.underlying174
 a105:=Tryz.isAgg174
 z105:=Tryz.sizeOf174
 v105:=Tryz.zeroValue174
 t119:=Tryz.underlying214
 a119:=Tryz.isAgg214
 z119:=Tryz.sizeOf214
 t127:=Tryz.underlying188
 a127:=Tryz.isAgg188
 z127:=Tryz.sizeOf188
 v127:=Tryz.zeroValue188
 t138:=Tryz.underlying216
 a138:=Tryz.isAgg216
 z138:=Tryz.sizeOf216
 v138:=Tryz.zeroValue216
 t139:=Tryz.underlying217
 a139:=Tryz.isAgg217
 z139:=Tryz.sizeOf217
 v139:=Tryz.zeroValue217
 t146:=Tryz.underlying228
 a146:=Tryz.isAgg228
 z146:=Tryz.sizeOf228
 v146:=Tryz.zeroValue228
 t164:=Tryz.underlying210
 a164:=Tryz.isAgg210
 z164:=Tryz.sizeOf210
 v164:=Tryz.zeroValue210
 g1:=by kernel_rfl
 g3:=by kernel_rfl
 g4:=by kernel_rfl
 t80:=Tryz.underlying74
 a80:=Tryz.isAgg74
 z80:=Tryz.sizeOf74
 v80:=Tryz.zeroValue74
 i0:=by kernel_rfl
 i3:=by kernel_rfl
 i4:=by kernel_rfl
 i5:=by kernel_rfl
 i9:=by kernel_rfl
 i20:=by kernel_rfl
 i21:=by kernel_rfl
 i37:=by kernel_rfl
 i46:=by kernel_rfl
 i51:=by kernel_rfl
 i70:=by kernel_rfl
 i72:=by kernel_rfl
 i75:=by kernel_rfl
 i76:=by kernel_rfl
 i80:=by kernel_rfl
 i105:=by kernel_rfl
 i127:=by kernel_rfl
 i138:=by kernel_rfl
 i139:=by kernel_rfl
 i146:=by kernel_rfl
 i164:=by kernel_rfl
 m1:=by kernel_rfl
 s1_3:=fun w h=>Go.Proofs.cell_of_shapedOpen_int (zero:=#[.int .i64 0]) (t:=3) h (of_decide_eq_true (by kernel_rfl)) (by kernel_rfl) rfl (by kernel_rfl) (by kernel_rfl) Tryz.underlying3
 m3:=by kernel_rfl
 m4:=by kernel_rfl}
theorem Tryz.Ft:Builder.Extra Tryz.prog Tryz.FF:={
 sizeBuilder:=by kernel_rfl
 liesBuilder:=by kernel_rfl
 t5:=Tryz.underlying5
 a5:=Tryz.isAgg5
 z5:=Tryz.sizeOf5
 v5:=Tryz.zeroValue5
 infoByte:=by kernel_rfl
 cellsByte:=by kernel_rfl
 sizeByte:=by kernel_rfl
 neB5:=by decide}
open Go.RowKit Go.Lib in
theorem Tryz.strings_ReplaceAll_shaped(s old new:ByteArray)(w:World)(h:w.ShapedOpen Tryz.prog)(hs:s.size<4294967281)(h1:1≤old.size)(hlen:s.size+Lib.countB s old*new.size≤140737488355328) :
 Calls Tryz.prog 47 #[.string s,.string old,.string new] w fun e w' =>
  e=.returned (.string ⟨(Lib.replaceAll s.data.toList old.data.toList new.data.toList).toArray⟩)∧Below w.heap.size w w':=Any.strings_ReplaceAll_shaped Tryz.Nh Tryz.Ft s old new w h hs h1 hlen
def Tryz.JD:Go.Shelf.Ren:=⟨fun |109=>62 |n=>n,fun |31=>108 |9=>9 |3=>3 |0=>0 |4=>4 |n=>n,fun |n=>n⟩
theorem Tryz.Ov:Go.Proofs.Lays.n109 Tryz.prog Tryz.JD:={
 mixed:=by kernel_rfl
 f109:=Tryz.func62.trans (congrArg some (by kernel_rfl))
 t0:=Tryz.underlying0
 a0:=Tryz.isAgg0
 z0:=Tryz.sizeOf0
 v0:=Tryz.zeroValue0
 t3:=Tryz.underlying3
 a3:=Tryz.isAgg3
 z3:=Tryz.sizeOf3
 v3:=Tryz.zeroValue3
 t4:=Tryz.underlying4
 a4:=Tryz.isAgg4
 z4:=Tryz.sizeOf4
 v4:=Tryz.zeroValue4
 t9:=Tryz.underlying9
 a9:=Tryz.isAgg9
 z9:=Tryz.sizeOf9
 v9:=Tryz.zeroValue9
 t31:=Tryz.underlying108
 a31:=Tryz.isAgg108
 z31:=Tryz.sizeOf108
 v31:=Tryz.zeroValue108}
open Go.Lib in
theorem Tryz.slices_Index_string(b off n c:Nat)(zs:List ByteArray)(x:ByteArray)(w:World)(hz:n≤zs.length)(hbig:n≤9223372036854775807)(hc:∀ j,j<zs.length→w.cell? ⟨b,off+j,none⟩=some (.string (zs.getD j ByteArray.empty))) :
 Calls Tryz.prog 62 #[.slice (some ⟨b,off,none⟩) n c,.string x] w fun e w'=>e=.returned (.int .i64 (Lib.idxOfS (zs.take n) x))∧w'=w:=Any.slices_Index_string Tryz.Ov b off n c zs x w hz hbig hc
end
end Go.Proofs
namespace Go.Proofs.YtjjpiefgdggghaaGreatDoor
section
theorem EK{α:Type}{motive:List α→Prop}(h0:motive [])(h1:∀ l x,motive l→motive (l++[x]))(l:List α):motive l:=by
 have:∀ l:List α,motive l.reverse:=by
  intro l;induction l with
  |nil=>exact h0
  |cons x l ih=>rw[List.reverse_cons];exact h1 _ _ ih
 have:=this l.reverse
 rwa [List.reverse_reverse]at this
abbrev Eg:=Nat×Nat
def Db(l:List Eg)(t:Nat):Nat:=l.foldl (fun k x=>if x.2=t then x.1 else k) 0
def K0(k:Nat):Nat:=if k=1 then 1 else if k=2 then 2 else if k=3 then 3 else if k=4 then 5 else if k=5 then 4 else if k=8 then 6 else if k=9 then 7 else 0
def FR(l:List Eg)(t:Nat):Nat:=K0 (Db l t)
def Dh(l:List Eg):List Eg→List Nat
 |[]=>[]
 |x::r=>if x.1=2∧Db l x.2=2∧Db r x.2=0 then x.2::Dh l r else Dh l r
def I1(l:List Eg):List Nat:=Dh l l
def MM(k:Nat):Bool:=k==3||k==4||k==6
def Ee(l:List Eg):List Eg→Int
 |[] => -1
 |x::r=>if MM (FR l x.2)=true then (x.2:Int) else Ee l r
def I2(l:List Eg):Int:=Ee l l.reverse
def EL(kind last:Nat)(head:Bool)(free:Bool):Bool :=
 if kind=1 then last==0||last==6||last==7||last==10
 else if kind=2∨kind=7 then last==1
 else if kind=3 then last==2&&head&&free
 else if kind=4 then last==2
 else if kind=5 then last==3
 else if kind=6 then last==4
 else if kind=8 then last==5
 else if kind=9 then last==8
 else if kind=10 then last==9
 else false
def GY(n:Nat)(l:List Eg)(x:Eg):Bool:=decide (x.2<n)&&EL x.1 (Db l x.2) ((I1 l).head?==some x.2) (I2 l == -1)
def Ef(n:Nat)(pre:List Eg):List Eg→Nat
 |[]=>pre.length
 |x::r=>if GY n pre x=true then Ef n (pre++[x]) r else pre.length
def Il(n:Nat)(l:List Eg):Nat:=if n<1∨n > 64 then 0 else Ef n [] l
theorem Ep(l:List Eg)(x:Eg)(t:Nat):Db (l++[x]) t=if x.2=t then x.1 else Db l t:=by
 simp[Db,List.foldl_append]
theorem EM(l:List Eg)(x:Eg)(hx:x.1≠0):∀ r:List Eg,Dh (l++[x]) (r++[x])=(Dh l r).filter (· != x.2)++(if x.1=2 then [x.2] else [])
 |[]=>by
  simp[Dh,Ep];by_cases h:x.1=2<;>simp[h,Db]
 |y::r=>by
  have ih:=EM l x hx r;simp only[List.cons_append,Dh,Ep,ih];by_cases h:x.2=y.2
  ·have h':¬(y.1=2∧(if x.2=y.2 then x.1 else Db l y.2)=2∧(if x.2=y.2 then x.1 else Db r y.2)=0):=fun⟨_,_,e⟩=>by rw[if_pos h]at e;exact hx e
   rw[if_neg h'];by_cases h2:y.1=2∧Db l y.2=2∧Db r y.2=0
   ·rw[if_pos h2,List.filter_cons_of_neg (by simp[h])]
   ·rw[if_neg h2]
  ·rw[if_neg h,if_neg h];by_cases h2:y.1=2∧Db l y.2=2∧Db r y.2=0
   ·rw[if_pos h2,if_pos h2,List.filter_cons_of_pos (by simpa using fun e=>h e.symm),List.cons_append]
   ·rw[if_neg h2,if_neg h2]
theorem Jy(l:List Eg)(x:Eg)(hx:x.1≠0):I1 (l++[x])=(I1 l).filter (· != x.2)++(if x.1=2 then [x.2] else []):=EM l x hx l
theorem EN(l:List Eg):∀ r:List Eg,Ee l r = -1↔∀ x∈r,MM (FR l x.2)=false
 |[]=>by simp[Ee]
 |x::r=>by
  have ih:=EN l r;unfold Ee;by_cases h:MM (FR l x.2)=true
  ·rw[if_pos h];constructor
   ·intro e;omega
   ·intro e;rw[e x (List.mem_cons_self ..)]at h;cases h
  ·rw[if_neg h,ih];simp at h;simp[h]
theorem Jz(l:List Eg):I2 l = -1↔∀ x∈l,MM (FR l x.2)=false:=by
 rw[I2,EN];simp
theorem LG:∀ (l:List Eg) (t:Nat),(∀ x∈l,x.2≠t)→Db l t=0:=by
 intro l t h;induction l using EK with
 |h0=>rfl
 |h1 l x ih =>
  rw[Ep,if_neg (h x (by simp)),ih (fun y hy=>h y (by simp[hy]))]
structure Cp where
 last:List Nat
 queue:List Nat
 ok:Bool
deriving DecidableEq
def Cp.new(n:Nat):Cp:=⟨List.replicate n 0,[],true⟩
def MN(k:Nat):Bool:=k==3||k==5||k==8
def Cp.fits(x:Cp)(kind t:Nat):Bool:=decide (t<x.last.length)&&EL kind (x.last.getD t 0) (x.queue.head?==some t) (x.last.all (fun k=>!MN k))
def Cp.enter(x:Cp)(kind t:Nat):Cp :=
 ⟨x.last.set t kind,x.queue.filter (· != t)++(if kind=2 then [t] else []),x.ok&&x.fits kind t⟩
def Cp.of(n:Nat)(l:List Eg):Cp:=l.foldl (fun x e=>x.enter e.1 e.2) (Cp.new n)
theorem Cp.DO(n:Nat)(l:List Eg)(e:Eg):Cp.of n (l++[e])=(Cp.of n l).enter e.1 e.2:=by simp[Cp.of,List.foldl_append]
theorem Cp.len(n:Nat)(l:List Eg):(Cp.of n l).last.length=n:=by
 induction l using EK with
 |h0=>simp[Cp.of,Cp.new]
 |h1 l x ih=>rw[Cp.DO];simp[Cp.enter,ih]
theorem Cp.Gx(n:Nat)(l:List Eg)(t:Nat)(ht:t<n):(Cp.of n l).last.getD t 0=Db l t:=by
 induction l using EK with
 |h0=>simp[Cp.of,Cp.new,Db,ht]
 |h1 l x ih =>
  rw[Cp.DO,Ep,←ih];have hl:=Cp.len n l;simp only[Cp.enter,List.getD_eq_getElem?_getD,List.getElem?_set];by_cases h:x.2=t
  ·rw[if_pos h,if_pos h,if_pos (by omega)];rfl
  ·rw[if_neg h,if_neg h]
theorem Cp.MO(n:Nat)(l:List Eg)(h:∀ x∈l,x.1≠0):(Cp.of n l).queue=I1 l:=by
 induction l using EK with
 |h0=>rfl
 |h1 l x ih =>
  rw[Cp.DO,Jy _ _ (h x (by simp)),←ih (fun y hy=>h y (by simp[hy]))];rfl
theorem HU(k:Nat):MM (K0 k)=MN k:=by
 unfold K0 MN;repeat' split
 all_goals first |(subst_vars;rfl) |skip
 rw[show(k==3)=false from Bq (by assumption),show(k==5)=false from Bq (by assumption),show(k==8)=false from Bq (by assumption)];rfl
theorem Cp.MP(n:Nat)(l:List Eg)(h:∀ x∈l,x.2<n):(Cp.of n l).last.all (fun k=>!MN k)=(I2 l == -1):=by
 rw[Bool.eq_iff_iff,List.all_eq_true,beq_iff_eq,Jz];constructor
 ·intro h1 x hx;have h2:=h x hx;have h3:=h1 ((Cp.of n l).last.getD x.2 0) (by
   rw[List.getD_eq_getElem?_getD,List.getElem?_eq_getElem (by rw[Cp.len];exact h2)];exact List.getElem_mem _)
  rw[Cp.Gx n l _ h2]at h3;rw[FR,HU]
  simpa using h3
 ·intro h1 k hk;obtain⟨t,ht,rfl⟩:=List.mem_iff_getElem.1 hk;have ht':t<n:=by rw[Cp.len]at ht;exact ht
  have e:(Cp.of n l).last[t]=Db l t:=by rw[←Cp.Gx n l t ht',List.getD_eq_getElem?_getD,List.getElem?_eq_getElem ht];rfl
  rw[e];by_cases hx:∃ x∈l,x.2=t
  ·obtain⟨x,hx,rfl⟩:=hx;have:=h1 x hx;rw[FR,HU]at this;simp[this]
  ·rw[LG l t (fun x hx2 e=>hx ⟨x,hx2,e⟩)];rfl
theorem MQ{kind last:Nat}{a b:Bool}(h:EL kind last a b=true):kind≠0:=by
 intro e;subst e;simp[EL]at h
def GZ(n:Nat)(l:List Eg):Prop:=∀ a x b,l=a++x::b→GY n a x=true
theorem HV(n:Nat):GZ n []:=fun a x b e=>by cases a with
 |nil=>cases e
 |cons y a=>cases e
theorem Ha{n:Nat}{l:List Eg}{x:Eg}:GZ n (l++[x])↔GZ n l∧GY n l x=true:=by
 constructor
 ·intro h;exact⟨fun a y b e=>h a y (b++[x]) (by rw[e];simp),h l x [] rfl⟩
 ·rintro⟨h1,h2⟩ a y b e;rcases List.eq_nil_or_concat b with rfl |⟨b',z,rfl⟩
  ·obtain⟨rfl,h⟩:=List.append_inj' e rfl;cases h;exact h2
  ·have e':l++[x]=(a++y::b')++[z]:=by rw[e];simp
   obtain⟨rfl,_⟩:=List.append_inj' e' rfl;exact h1 a y b' rfl
theorem LH{n:Nat}{l:List Eg}(h:GZ n l):∀ x∈l,x.2<n∧x.1≠0:=by
 intro x hx;obtain⟨a,b,rfl⟩:=List.append_of_mem hx;have:=h a x b rfl;simp only[GY,Bool.and_eq_true,decide_eq_true_eq]at this;exact⟨this.1,MQ this.2⟩
theorem Cp.Pj(n:Nat)(l:List Eg):(Cp.of n l).ok=true↔GZ n l:=by
 induction l using EK with
 |h0=>exact⟨fun _=>HV n,fun _=>rfl⟩
 |h1 l x ih =>
  rw[Ha,Cp.DO,←ih];simp only[Cp.enter,Bool.and_eq_true];refine and_congr_right fun h=>?_
  have hg:=LH (ih.1 h);have e:(Cp.of n l).fits x.1 x.2=GY n l x:=by
   unfold Cp.fits GY;rw[Cp.len,Cp.MO n l (fun y hy=>(hg y hy).2),Cp.MP n l (fun y hy=>(hg y hy).1)];by_cases hx:x.2<n
   ·rw[Cp.Gx n l _ hx]
   ·simp[hx]
  rw[e]
theorem Ff(n:Nat):∀ (r pre:List Eg),GZ n pre→(Ef n pre r=(pre++r).length↔GZ n (pre++r))
 |[],pre,h=>by simp[Ef,h]
 |x::r,pre,h=>by
  unfold Ef;by_cases hx:GY n pre x=true
  ·rw[if_pos hx];have:=Ff n r (pre++[x]) (Ha.2 ⟨h,hx⟩)
   simpa using this
  ·rw[if_neg hx];constructor
   ·intro e;simp at e
   ·intro e;exact absurd (e pre x r rfl) hx
theorem Hb(n:Nat)(h1:1≤n)(h2:n≤64)(l:List Eg):Il n l=l.length↔(Cp.of n l).ok=true:=by
 rw[Cp.Pj];unfold Il;rw[if_neg (by omega)];exact Ff n l [] (HV n)
def E1{α:Type}(f:Nat→α)(t:Nat)(v:α):Nat→α:=fun s=>if s=t then v else f s
theorem CX{α:Type}(f:Nat→α)(t:Nat)(v:α):E1 f t v t=v:=if_pos rfl
theorem DV{α:Type}(f:Nat→α){t s:Nat}(v:α)(h:s≠t):E1 f t v s=f s:=if_neg h
structure Dj (n:Nat) (x:Cp) (last:Nat→Nat) (q:List Nat):Prop where
 ok:x.ok=true
 len:x.last.length=n
 last:∀ t,t<n→x.last.getD t 0=last t
 q:x.queue=q
theorem Dj.new(n:Nat):Dj n (Cp.new n) (fun _=>0) []:=⟨rfl,by simp[Cp.new],fun t ht=>by simp[Cp.new,ht],rfl⟩
theorem Dj.congr{n:Nat}{x:Cp}{last last':Nat→Nat}{q:List Nat}(h:Dj n x last q)(e:∀ t,t<n→last t=last' t):Dj n x last' q :=
 ⟨h.ok,h.len,fun t ht=>(h.last t ht).trans (e t ht),h.q⟩
theorem LO{q:List Nat}{t:Nat}(h:t∉q):q.filter (· != t)=q :=
 List.filter_eq_self.2 fun a ha=>by
  have:a≠t:=fun e=>h (e▸ha)
  simpa using this
section
variable {n:Nat} {x:Cp} {last:Nat→Nat} {q:List Nat} {t:Nat}
theorem Dj.enter(h:Dj n x last q)(ht:t<n)(k:Nat)(hk:EL k (last t) (q.head?==some t) (x.last.all (fun k=>!MN k))=true) :
  Dj n (x.enter k t) (E1 last t k) (q.filter (· != t)++(if k=2 then [t] else [])):=by
 refine⟨?_,?_,?_,?_⟩
 ·unfold Cp.enter Cp.fits;rw[h.ok,h.len,h.q,h.last t ht,hk]
  simpa using ht
 ·simp[Cp.enter,h.len]
 ·intro s hs;have:=h.last s hs;simp only[Cp.enter,List.getD_eq_getElem?_getD,List.getElem?_set]at this ⊢;by_cases e:s=t
  ·subst e;rw[if_pos rfl,if_pos (by rw[h.len];exact hs),CX];rfl
  ·rw[if_neg (fun e'=>e e'.symm),DV _ _ e];exact this
 ·simp[Cp.enter,h.q]
theorem Dj.plain(h:Dj n x last q)(ht:t<n)(hq:t∉q)(k:Nat)(h2:k≠2)(hk:∀ a b,EL k (last t) a b=true):Dj n (x.enter k t) (E1 last t k) q:=by
 have:=h.enter ht k (hk _ _)
 rwa [LO hq,if_neg h2,List.append_nil]at this
theorem Dj.call(h:Dj n x last q)(ht:t<n)(hq:t∉q)(hl:last t=0∨last t=6∨last t=7∨last t=10):Dj n (x.enter 1 t) (E1 last t 1) q :=
 h.plain ht hq 1 (by decide) fun a b=>by rcases hl with e |e |e |e<;>simp[EL,e]
theorem Dj.JJ(h:Dj n x last q)(ht:t<n)(hq:t∉q)(hl:last t=3):Dj n (x.enter 5 t) (E1 last t 5) q :=
 h.plain ht hq 5 (by decide) fun a b=>by simp[EL,hl]
theorem Dj.full(h:Dj n x last q)(ht:t<n)(hq:t∉q)(hl:last t=1):Dj n (x.enter 7 t) (E1 last t 7) q :=
 h.plain ht hq 7 (by decide) fun a b=>by simp[EL,hl]
theorem Dj.unlock(h:Dj n x last q)(ht:t<n)(hq:t∉q)(hl:last t=5):Dj n (x.enter 8 t) (E1 last t 8) q :=
 h.plain ht hq 8 (by decide) fun a b=>by simp[EL,hl]
theorem Dj.over(h:Dj n x last q)(ht:t<n)(hq:t∉q)(hl:last t=9):Dj n (x.enter 10 t) (E1 last t 10) q :=
 h.plain ht hq 10 (by decide) fun a b=>by simp[EL,hl]
end
end
end Go.Proofs.YtjjpiefgdggghaaGreatDoor
