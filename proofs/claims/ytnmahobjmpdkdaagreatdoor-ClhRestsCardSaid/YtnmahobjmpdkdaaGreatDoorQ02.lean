/- Parts: Kit, Shelf, Env, Q0. -/
import Derived.Test.YtnmahobjmpdkdaaGreatDoorProg
import Derived.WalkKit
import Derived.Below
import Derived.Outline
import Derived.WalkLawsBesides
import Derived.Test.YtnmahobjmpdkdaaGreatDoorQ01
import Derived.Lib.Hide
import Derived.Laws.ResultCell
import Derived.Laws.Rows
import Derived.Shelf.Strings.Builder1
import Derived.Shelf.Strings.Builder2
import Derived.Shelf.Strings.OnBuilder
import Derived.Shelf.Small.Strs
import Derived.Shelf.Strings.BuilderF
import Derived.Shelf.Strings.BuilderK
import Derived.Shelf.Strings.Builder2Cap
import Derived.Shelf.Strconv.Atoi
import Derived.Shelf.Strconv.Itoa0
import Derived.Shelf.Strconv.Itoa1
import Derived.Shelf.LaysM
import Derived.Shelf.Strconv.Itoa2
import Derived.Shelf.Strconv.Itoa3
import Derived.Shelf.Strconv.AtoiErrFast
import Derived.Shelf.Strconv.ParseIntEmpty
import Derived.Shelf.Strconv.AtoiFail
import Derived.Shelf.Strconv.Clone
import Derived.Shelf.Strconv.SyntaxError
import Derived.Shelf.LaysC
import Derived.Shelf.Strconv.ToError
import Derived.Shelf.Strconv.Lower
import Derived.Shelf.Strconv.ParseUint10
import Derived.Shelf.Strconv.ParseUint10Empty
import Derived.Shelf.Strconv.ParseUint10Any
import Derived.Shelf.Strconv.ParseInt10
import Derived.Shelf.Strconv.AtoiLong
import Derived.Shelf.Strconv.AtoiInnerAll
import Derived.Shelf.Strconv.RangeError
import Derived.Shelf.Strconv.ToErrorRange
import Derived.Shelf.Strconv.AtoiAll
import Derived.Shelf.Strconv.ErrVarAll
import Derived.Shelf.Strings.Search1
import Derived.Shelf.Strings.Search2
import Derived.Shelf.Strings.Search3
import Derived.Shelf.Strings.Count
import Derived.Shelf.Strings.Shaped
import Derived.Shelf.Strings.Split
import Derived.Shelf.Strings.SplitShaped
import Derived.Shelf.Unicode.DecodeSlow
import Derived.Shelf.Strings.BuilderCap
import Derived.Lib.Strings
import Derived.Maps.AppendAt
set_option linter.unusedVariables false
set_option linter.unusedSimpArgs false
set_option maxRecDepth 100000
set_option maxHeartbeats 40000000
namespace Go.Proofs.YtnmahobjmpdkdaaGreatDoor
section
open Go.RowKit Go.Proofs.YtnmahobjmpdkdaaGreatDoorW.PrintWords
theorem Bv(w:World)(o:Obj):(w.alloc o).heap[w.heap.size]?=some o:=(MapKept.heap_alloc w o).1
theorem AJ{w:World}{g:Nat}{x:Obj}(h:w.heap[g]?=some x)(o:Obj):(w.alloc o).heap[g]?=some x:=(Below.heap_alloc _ _ _ (Bl h)).trans h
theorem Bk{w w':World}{g:Nat}{x:Obj}(hb:Below w.heap.size w w')(h:w.heap[g]?=some x):w'.heap[g]?=some x:=(hb.block _ (Bl h)).trans h
theorem Be{w:World}{g:Nat}{x:Obj}(h:w.heap[g]?=some x):w.drew.heap[g]?=some x:=h
theorem KQ{w:World}{g:Nat}{l:List UInt8}(h:Cw w .u8 (some ⟨g,0,none⟩) l.length (bytesOf ⟨l.toArray⟩))(k:Nat)(hk:k<l.length) :
  w.cell? ⟨g,k,none⟩=some (.int .u8 ((l.getD k 0).toNat:Int)):=by
 obtain⟨ad,e,hc⟩:=h.2.2 (by omega);cases e;have:=hc k hk;rw[add_plain]at this;rw[this];simp[bytesOf,List.getD_eq_getElem?_getD,List.getElem?_eq_getElem hk]
theorem Df(w:World)(o o':Obj):((w.alloc o).alloc o').heap[w.heap.size+1]?=some o':=by
 have h:=Bv (w.alloc o) o';have e:(w.alloc o).heap.size=w.heap.size+1:=by simp
 rw[e]at h;exact h
theorem I4(W:World)(e:TypeId)(l:List UInt8)(g:Nat)(hg:W.heap.size=g)(hs:l.length≤9223372036854775807) :
  Cw (Lib.bytesWorld W e ⟨l.toArray⟩) .u8 (some ⟨g,0,none⟩) l.length (bytesOf ⟨l.toArray⟩):=by
 subst hg;have h:=O3 W e ⟨l.toArray⟩ (by simpa [ByteArray.size]using hs)
 simpa [ByteArray.size]using h
theorem EN{W:World}{g:Nat}{x:Obj}(h:W.heap[g]?=some x)(e:TypeId)(s:ByteArray):(Lib.bytesWorld W e s).heap[g]?=some x :=
 (Lib.bytesWorld_at_old W e s g (Bl h)).trans h
theorem DE{w:World}{k:IntKind}{g n:Nat}{xs:List Int}(h:Cw w k (some ⟨g,0,none⟩) n xs){p:Addr}(hp:p.block≠g)(v:Value):Cw (w.setCell p v) k (some ⟨g,0,none⟩) n xs :=
 ⟨h.1,h.2.1,fun hn=>by
  obtain⟨ad,e,hc⟩:=h.2.2 hn;refine⟨ad,e,fun j hj=>?_⟩;cases e;have:=hc j hj;rw[add_plain]at this ⊢;rw[←this];exact World.cell?_of_block (w:=w) (a:=⟨g,j,none⟩) (Below.heap_setCell w p v g (fun e=>hp e.symm))⟩
theorem AL{P:Program}{fn:Func}{p u:Tmp}{ty:TypeId}(h:fn.results=#[.cell p ty,.tmp u])(tmps:Array Value)(w:World)(g:Nat)(t:TypeId)(cs:Array Value)(fr:Nat×Nat)(d:TypeDesc)
  (hp:tmps.getD p undef=.pointer (some ⟨g,0,none⟩))(hg:w.heap[g]?=some (.cells cs t fr))
  (hu:P.underlying ty=some d)(hd:(match d with |.struct _ |.array _ _=>true |_=>false)=true)(hi:(P.info? ty).map (·.size)=some cs.size) :
  (results fn tmps).run P w=.ok (.tuple #[.agg cs,tmps.getD u undef]) w:=by
 have hp':tmps[p]?.getD undef=.pointer (some ⟨g,0,none⟩):=by simpa using hp
 rw[results_cell_tmp h];simp[hp',asAddr,run_loadVar_row w g t ty cs fr d hg hu hd hi,Result.andThen]
theorem CD{w:World}{g:Nat}{t:TypeId}{a0 a1 a2 a3 a4 a5 a6 a7:Value}(h:w.heap[g]?=some (.cells #[a0,a1,a2,a3,a4,a5,a6,a7] t (0,0)))(v0 v1 v2 v3 v4 v5 v6 v7:Value) :
  ((((((((w.setCell ⟨g,0,none⟩ v0).setCell ⟨g,1,none⟩ v1).setCell ⟨g,2,none⟩ v2).setCell ⟨g,3,none⟩ v3).setCell ⟨g,4,none⟩ v4).setCell ⟨g,5,none⟩ v5).setCell ⟨g,6,none⟩ v6).setCell ⟨g,7,none⟩ v7).heap[g]?=some (.cells #[v0,v1,v2,v3,v4,v5,v6,v7] t (0,0)):=by
 have h0:(w.setCell ⟨g,0,none⟩ v0).heap[g]?=some (.cells #[v0,a1,a2,a3,a4,a5,a6,a7] t (0,0)):=Bs h 0 v0;have h1:((w.setCell ⟨g,0,none⟩ v0).setCell ⟨g,1,none⟩ v1).heap[g]?=some (.cells #[v0,v1,a2,a3,a4,a5,a6,a7] t (0,0)):=Bs h0 1 v1;have h2:(((w.setCell ⟨g,0,none⟩ v0).setCell ⟨g,1,none⟩ v1).setCell ⟨g,2,none⟩ v2).heap[g]?=some (.cells #[v0,v1,v2,a3,a4,a5,a6,a7] t (0,0)):=Bs h1 2 v2;have h3:((((w.setCell ⟨g,0,none⟩ v0).setCell ⟨g,1,none⟩ v1).setCell ⟨g,2,none⟩ v2).setCell ⟨g,3,none⟩ v3).heap[g]?=some (.cells #[v0,v1,v2,v3,a4,a5,a6,a7] t (0,0)):=Bs h2 3 v3;have h4:(((((w.setCell ⟨g,0,none⟩ v0).setCell ⟨g,1,none⟩ v1).setCell ⟨g,2,none⟩ v2).setCell ⟨g,3,none⟩ v3).setCell ⟨g,4,none⟩ v4).heap[g]?=some (.cells #[v0,v1,v2,v3,v4,a5,a6,a7] t (0,0)):=Bs h3 4 v4;have h5:((((((w.setCell ⟨g,0,none⟩ v0).setCell ⟨g,1,none⟩ v1).setCell ⟨g,2,none⟩ v2).setCell ⟨g,3,none⟩ v3).setCell ⟨g,4,none⟩ v4).setCell ⟨g,5,none⟩ v5).heap[g]?=some (.cells #[v0,v1,v2,v3,v4,v5,a6,a7] t (0,0)):=Bs h4 5 v5;have h6:(((((((w.setCell ⟨g,0,none⟩ v0).setCell ⟨g,1,none⟩ v1).setCell ⟨g,2,none⟩ v2).setCell ⟨g,3,none⟩ v3).setCell ⟨g,4,none⟩ v4).setCell ⟨g,5,none⟩ v5).setCell ⟨g,6,none⟩ v6).heap[g]?=some (.cells #[v0,v1,v2,v3,v4,v5,v6,a7] t (0,0)):=Bs h5 6 v6;have h7:((((((((w.setCell ⟨g,0,none⟩ v0).setCell ⟨g,1,none⟩ v1).setCell ⟨g,2,none⟩ v2).setCell ⟨g,3,none⟩ v3).setCell ⟨g,4,none⟩ v4).setCell ⟨g,5,none⟩ v5).setCell ⟨g,6,none⟩ v6).setCell ⟨g,7,none⟩ v7).heap[g]?=some (.cells #[v0,v1,v2,v3,v4,v5,v6,v7] t (0,0)):=Bs h6 7 v7;exact h7
end
end Go.Proofs.YtnmahobjmpdkdaaGreatDoor
namespace Go.Proofs
section
open Go.Shelf
def Tryz.JA:Go.Shelf.Ren:=⟨fun |156=>125 |165=>137 |166=>138 |169=>139 |240=>152 |241=>153 |276=>166 |277=>167 |n=>n,fun |31=>85 |9=>9 |3=>3 |4=>4 |0=>0 |20=>20 |72=>190 |76=>173 |70=>188 |37=>156 |75=>172 |127=>200 |164=>214 |5=>5 |80=>59 |n=>n,fun |n=>n⟩
theorem Tryz.VE:Go.Proofs.Lays.n156 Tryz.prog Tryz.JA:={
 mixed:=by kernel_rfl
 f156:=Tryz.func125.trans (congrArg some (by kernel_rfl))
 f165:=Tryz.func137.trans (congrArg some (by kernel_rfl))
 f166:=Tryz.func138.trans (congrArg some (by kernel_rfl))
 f169:=Tryz.func139.trans (congrArg some (by kernel_rfl))
 f240:=Tryz.func152.trans (congrArg some (by kernel_rfl))
 f241:=Tryz.func153.trans (congrArg some (by kernel_rfl))
 f276:=Tryz.func166.trans (congrArg some (by kernel_rfl))
 f277:=Tryz.func167.trans (congrArg some (by kernel_rfl))
 t0:=Tryz.underlying0
 a0:=Tryz.isAgg0
 z0:=Tryz.sizeOf0
 v0:=Tryz.zeroValue0
 t3:=Tryz.underlying3
 a3:=Tryz.isAgg3
 z3:=Tryz.sizeOf3
 v3:=Tryz.zeroValue3
 t4:=Tryz.underlying4
 a4:=Tryz.isAgg4
 z4:=Tryz.sizeOf4
 v4:=Tryz.zeroValue4
 t9:=Tryz.underlying9
 a9:=Tryz.isAgg9
 z9:=Tryz.sizeOf9
 v9:=Tryz.zeroValue9
 t20:=Tryz.underlying20
 a20:=Tryz.isAgg20
 z20:=Tryz.sizeOf20
 v20:=Tryz.zeroValue20
 t31:=Tryz.underlying85
 a31:=Tryz.isAgg85
 z31:=Tryz.sizeOf85
 v31:=Tryz.zeroValue85
 t37:=Tryz.underlying156
 a37:=Tryz.isAgg156
 z37:=Tryz.sizeOf156
 v37:=Tryz.zeroValue156
 t70:=Tryz.underlying188
 a70:=Tryz.isAgg188
 z70:=Tryz.sizeOf188
 v70:=Tryz.zeroValue188
 t72:=Tryz.underlying190
 a72:=Tryz.isAgg190
 z72:=Tryz.sizeOf190
 v72:=Tryz.zeroValue190
 t75:=Tryz.underlying172
 a75:=Tryz.isAgg172
 z75:=Tryz.sizeOf172
 v75:=Tryz.zeroValue172
 t76:=Tryz.underlying173
 a76:=Tryz.isAgg173
 z76:=Tryz.sizeOf173
 v76:=Tryz.zeroValue173
 t127:=Tryz.underlying200
 a127:=Tryz.isAgg200
 z127:=Tryz.sizeOf200
 v127:=Tryz.zeroValue200
 t164:=Tryz.underlying214
 a164:=Tryz.isAgg214
 z164:=Tryz.sizeOf214
 v164:=Tryz.zeroValue214}
theorem Tryz.I8:Builder.Extra Tryz.prog Tryz.JA:={
 sizeBuilder:=by kernel_rfl
 liesBuilder:=by kernel_rfl
 t5:=Tryz.underlying5
 a5:=Tryz.isAgg5
 z5:=Tryz.sizeOf5
 v5:=Tryz.zeroValue5
 infoByte:=by kernel_rfl
 cellsByte:=by kernel_rfl
 sizeByte:=by kernel_rfl
 neB5:=by decide}
open Go.RowKit in
theorem Tryz.strings_Join(bk o c:Nat)(xs:List ByteArray)(sep:ByteArray)(w:World)(hcells:∀ (j:Nat) x,xs[j]?=some x→w.cell? ⟨bk,o+j,none⟩=some (.string x))(hbk:bk<w.heap.size)(hN:xs.length≤140737488355328)(hcap:xs.length≤c)(hlen:(Lib.join (xs.map (·.data.toList)) sep.data.toList).length≤140737488355328) :
 Calls Tryz.prog 125 #[.slice (some ⟨bk,o,none⟩) xs.length c,.string sep] w fun e w'=>e=.returned (.string ⟨(Lib.join (xs.map (·.data.toList)) sep.data.toList).toArray⟩)∧Below w.heap.size w w':=Any.strings_Join Tryz.VE Tryz.I8 bk o c xs sep w hcells hbk hN hcap hlen
def Tryz.OE:Go.Shelf.Ren:=⟨fun |137=>76 |217=>93 |266=>107 |n=>n,fun |9=>9 |5=>5 |3=>3 |n=>n,fun |n=>n⟩
theorem Tryz.VF:Go.Proofs.Lays.n137 Tryz.prog Tryz.OE:={
 mixed:=by kernel_rfl
 f137:=Tryz.func76.trans (congrArg some (by kernel_rfl))
 f217:=Tryz.func93.trans (congrArg some (by kernel_rfl))
 f266:=Tryz.func107.trans (congrArg some (by kernel_rfl))
 t3:=Tryz.underlying3
 a3:=Tryz.isAgg3
 z3:=Tryz.sizeOf3
 v3:=Tryz.zeroValue3
 t5:=Tryz.underlying5
 a5:=Tryz.isAgg5
 z5:=Tryz.sizeOf5
 v5:=Tryz.zeroValue5
 t9:=Tryz.underlying9
 a9:=Tryz.isAgg9
 z9:=Tryz.sizeOf9
 v9:=Tryz.zeroValue9}
open Go.RowKit in
theorem Tryz.strings_IndexByte(s:ByteArray)(c:Int)(w:World) :
 Calls Tryz.prog 76 #[.string s,.int .u8 c] w fun e w'=>e=.returned (.int .i64 (Lib.indexByte s.data.toList c.toNat.toUInt8))∧w'=w:=Any.strings_IndexByte Tryz.VF s c w
def Tryz.OF:Go.Shelf.Ren:=⟨fun |283=>162 |n=>n,fun |3=>3 |9=>9 |4=>4 |n=>n,fun |n=>n⟩
theorem Tryz.VG:Go.Proofs.Lays.n283 Tryz.prog Tryz.OF:={
 mixed:=by kernel_rfl
 f283:=Tryz.func162.trans (congrArg some (by kernel_rfl))
 t3:=Tryz.underlying3
 a3:=Tryz.isAgg3
 z3:=Tryz.sizeOf3
 v3:=Tryz.zeroValue3
 t4:=Tryz.underlying4
 a4:=Tryz.isAgg4
 z4:=Tryz.sizeOf4
 v4:=Tryz.zeroValue4
 t9:=Tryz.underlying9
 a9:=Tryz.isAgg9
 z9:=Tryz.sizeOf9
 v9:=Tryz.zeroValue9}
open Go.Lib in
theorem Tryz.internal_strconv_small(i:Nat)(h:i<100)(w:World) :
 Calls Tryz.prog 162 #[.int .i64 i] w fun e w'=>e=.returned (.string ⟨(Lib.decDigits i).toArray⟩)∧w'=w:=Any.internal_strconv_small Tryz.VG i h w
def Tryz.Nq:Go.Shelf.Ren:=⟨fun |284=>163 |129=>172 |317=>171 |318=>173 |n=>n,fun |53=>187 |3=>3 |212=>228 |0=>0 |4=>4 |46=>201 |5=>5 |9=>9 |n=>n,fun |17=>5 |n=>n⟩
theorem Tryz.TN:Go.Proofs.LaysM.n284 Tryz.prog Tryz.Nq:={
 mixed:=by kernel_rfl
 f129:=Tryz.func172.trans (congrArg some (by kernel_rfl))
 f284:=Tryz.func163.trans (congrArg some (by kernel_rfl))
 f317:=Tryz.func171.trans (congrArg some (by kernel_rfl))
 f318:=Tryz.func173.trans (congrArg some (by kernel_rfl))
 t0:=Tryz.underlying0
 a0:=Tryz.isAgg0
 z0:=Tryz.sizeOf0
 v0:=Tryz.zeroValue0
 t3:=Tryz.underlying3
 a3:=Tryz.isAgg3
 z3:=Tryz.sizeOf3
 v3:=Tryz.zeroValue3
 t4:=Tryz.underlying4
 a4:=Tryz.isAgg4
 z4:=Tryz.sizeOf4
 v4:=Tryz.zeroValue4
 t5:=Tryz.underlying5
 a5:=Tryz.isAgg5
 z5:=Tryz.sizeOf5
 v5:=Tryz.zeroValue5
 t9:=Tryz.underlying9
 a9:=Tryz.isAgg9
 z9:=Tryz.sizeOf9
 v9:=Tryz.zeroValue9
 t46:=Tryz.underlying201
 a46:=Tryz.isAgg201
 z46:=Tryz.sizeOf201
 v46:=Tryz.zeroValue201
 t53:=Tryz.underlying187
 a53:=Tryz.isAgg187
 z53:=Tryz.sizeOf187
 v53:=Tryz.zeroValue187
 t212:=Tryz.underlying228
 a212:=Tryz.isAgg228
 z212:=Tryz.sizeOf228
 v212:=Tryz.zeroValue228
 g17:=by kernel_rfl
 i0:=by kernel_rfl
 i3:=by kernel_rfl
 i4:=by kernel_rfl
 i5:=by kernel_rfl
 i9:=by kernel_rfl
 i46:=by kernel_rfl
 i53:=by kernel_rfl
 i212:=by kernel_rfl
 m17:=by kernel_rfl}
open Go.Lib in
theorem Tryz.internal_strconv_numDigits(u:Nat)(h1:1≤u)(h2:u<18446744073709551616)(w:World)(htab:Lib.TabIs Tryz.prog w "internal/strconv.uint64pow10" .u64 Lib.pow10Tab) :
 Calls Tryz.prog 163 #[.int .u64 u] w fun e w'=>e=.returned (.int .i64 (Lib.nDigits u))∧w'=w:=Any.internal_strconv_numDigits Tryz.TN u h1 h2 w htab
def Tryz.OG:Go.Shelf.Ren:=⟨fun |285=>164 |n=>n,fun |37=>156 |53=>187 |3=>3 |4=>4 |51=>22 |9=>9 |5=>5 |0=>0 |n=>n,fun |n=>n⟩
theorem Tryz.VH:Go.Proofs.Lays.n285 Tryz.prog Tryz.OG:={
 mixed:=by kernel_rfl
 f285:=Tryz.func164.trans (congrArg some (by kernel_rfl))
 t0:=Tryz.underlying0
 a0:=Tryz.isAgg0
 z0:=Tryz.sizeOf0
 v0:=Tryz.zeroValue0
 t3:=Tryz.underlying3
 a3:=Tryz.isAgg3
 z3:=Tryz.sizeOf3
 v3:=Tryz.zeroValue3
 t4:=Tryz.underlying4
 a4:=Tryz.isAgg4
 z4:=Tryz.sizeOf4
 v4:=Tryz.zeroValue4
 t5:=Tryz.underlying5
 a5:=Tryz.isAgg5
 z5:=Tryz.sizeOf5
 v5:=Tryz.zeroValue5
 t9:=Tryz.underlying9
 a9:=Tryz.isAgg9
 z9:=Tryz.sizeOf9
 v9:=Tryz.zeroValue9
 t37:=Tryz.underlying156
 a37:=Tryz.isAgg156
 z37:=Tryz.sizeOf156
 v37:=Tryz.zeroValue156
 t51:=Tryz.underlying22
 a51:=Tryz.isAgg22
 z51:=Tryz.sizeOf22
 v51:=Tryz.zeroValue22
 t53:=Tryz.underlying187
 a53:=Tryz.isAgg187
 z53:=Tryz.sizeOf187
 v53:=Tryz.zeroValue187}
open Go.RowKit Go.Sort Go.Lib in
theorem Tryz.internal_strconv_formatBase10(G8 off cap:Nat)(u:Nat)(d:Array UInt8)(w:World)(hH:Holds (fun(b:UInt8)=>Value.int .u8 (b.toNat:Int)) w G8 off d)(hu:u<10 ^ d.size)(hu64:u<18446744073709551616)(hsz:d.size<4611686018427387904) :
 Calls Tryz.prog 164 #[.slice (some ⟨G8,off,none⟩) d.size cap,.int .u64 u] w fun e w' =>
  e=.returned (.tuple #[])∧∃ (n v':Nat) (dk:Array UInt8),w'=(putRow (fun(b:UInt8)=>Value.int .u8 (b.toNat:Int)) w G8 off dk).drewN n∧FmtInv d.size u 0 v' dk:=Any.internal_strconv_formatBase10 Tryz.VH G8 off cap u d w hH hu hu64 hsz
def Tryz.Nr:Go.Shelf.Ren:=⟨fun |171=>135 |243=>150 |246=>161 |283=>162 |284=>163 |285=>164 |286=>165 |129=>172 |317=>171 |318=>173 |319=>174 |320=>175 |337=>176 |338=>177 |n=>n,fun |3=>3 |9=>9 |2=>2 |4=>4 |171=>209 |0=>0 |53=>187 |37=>156 |5=>5 |173=>212 |212=>228 |51=>22 |20=>20 |213=>229 |46=>201 |232=>231 |233=>232 |n=>n,fun |17=>5 |18=>6 |19=>7 |n=>n⟩
theorem Tryz.TO:Go.Proofs.LaysM.n171 Tryz.prog Tryz.Nr:={
 mixed:=by kernel_rfl
 f129:=Tryz.func172.trans (congrArg some (by kernel_rfl))
 f171:=Tryz.func135.trans (congrArg some (by kernel_rfl))
 f243:=Tryz.func150.trans (congrArg some (by kernel_rfl))
 f246:=Tryz.func161.trans (congrArg some (by kernel_rfl))
 f283:=Tryz.func162.trans (congrArg some (by kernel_rfl))
 f284:=Tryz.func163.trans (congrArg some (by kernel_rfl))
 f285:=Tryz.func164.trans (congrArg some (by kernel_rfl))
 f286:=Tryz.func165.trans (congrArg some (by kernel_rfl))
 f317:=Tryz.func171.trans (congrArg some (by kernel_rfl))
 f318:=Tryz.func173.trans (congrArg some (by kernel_rfl))
 f319:=Tryz.func174.trans (congrArg some (by kernel_rfl))
 f320:=Tryz.func175.trans (congrArg some (by kernel_rfl))
 f337:=Tryz.func176.trans (congrArg some (by kernel_rfl))
 f338:=Tryz.func177.trans (congrArg some (by kernel_rfl))
 t0:=Tryz.underlying0
 a0:=Tryz.isAgg0
 z0:=Tryz.sizeOf0
 v0:=Tryz.zeroValue0
 t2:=Tryz.underlying2
 a2:=Tryz.isAgg2
 z2:=Tryz.sizeOf2
 v2:=Tryz.zeroValue2
 t3:=Tryz.underlying3
 a3:=Tryz.isAgg3
 z3:=Tryz.sizeOf3
 v3:=Tryz.zeroValue3
 t4:=Tryz.underlying4
 a4:=Tryz.isAgg4
 z4:=Tryz.sizeOf4
 v4:=Tryz.zeroValue4
 t5:=Tryz.underlying5
 a5:=Tryz.isAgg5
 z5:=Tryz.sizeOf5
 v5:=Tryz.zeroValue5
 t9:=Tryz.underlying9
 a9:=Tryz.isAgg9
 z9:=Tryz.sizeOf9
 v9:=Tryz.zeroValue9
 t20:=Tryz.underlying20
 a20:=Tryz.isAgg20
 z20:=Tryz.sizeOf20
 v20:=Tryz.zeroValue20
 t37:=Tryz.underlying156
 a37:=Tryz.isAgg156
 z37:=Tryz.sizeOf156
 v37:=Tryz.zeroValue156
 t46:=Tryz.underlying201
 a46:=Tryz.isAgg201
 z46:=Tryz.sizeOf201
 v46:=Tryz.zeroValue201
 t51:=Tryz.underlying22
 a51:=Tryz.isAgg22
 z51:=Tryz.sizeOf22
 v51:=Tryz.zeroValue22
 t53:=Tryz.underlying187
 a53:=Tryz.isAgg187
 z53:=Tryz.sizeOf187
 v53:=Tryz.zeroValue187
 t171:=Tryz.underlying209
 a171:=Tryz.isAgg209
 z171:=Tryz.sizeOf209
 v171:=Tryz.zeroValue209
 t173:=Tryz.underlying212
 a173:=Tryz.isAgg212
 z173:=Tryz.sizeOf212
 v173:=Tryz.zeroValue212
 t212:=Tryz.underlying228
 a212:=Tryz.isAgg228
 z212:=Tryz.sizeOf228
 v212:=Tryz.zeroValue228
 t213:=Tryz.underlying229
 a213:=Tryz.isAgg229
 z213:=Tryz.sizeOf229
 t232:=Tryz.underlying231
 a232:=Tryz.isAgg231
 z232:=Tryz.sizeOf231
 v232:=Tryz.zeroValue231
 t233:=Tryz.underlying232
 a233:=Tryz.isAgg232
 z233:=Tryz.sizeOf232
 v233:=Tryz.zeroValue232
 g17:=by kernel_rfl
 g18:=by kernel_rfl
 g19:=by kernel_rfl
 i0:=by kernel_rfl
 i2:=by kernel_rfl
 i3:=by kernel_rfl
 i4:=by kernel_rfl
 i5:=by kernel_rfl
 i9:=by kernel_rfl
 i20:=by kernel_rfl
 i37:=by kernel_rfl
 i46:=by kernel_rfl
 i51:=by kernel_rfl
 i53:=by kernel_rfl
 i171:=by kernel_rfl
 i173:=by kernel_rfl
 i212:=by kernel_rfl
 i232:=by kernel_rfl
 i233:=by kernel_rfl
 m17:=by kernel_rfl
 m18:=by kernel_rfl
 m19:=by kernel_rfl}
open Go.RowKit Go.Sort Go.Lib in
theorem Tryz.strconv_Itoa(n:Int)(h0:-9223372036854775808≤n)(h1:n≤9223372036854775807)(w:World)(htab:Lib.TabIs Tryz.prog w "internal/strconv.uint64pow10" .u64 Lib.pow10Tab) :
 Calls Tryz.prog 135 #[.int .i64 n] w fun e w'=>e=.returned (.string ⟨(Lib.itoa n).toArray⟩)∧∃ k os,w'=grow (w.drewN k) os:=Any.strconv_Itoa Tryz.TO n h0 h1 w htab
def Tryz.OH:Go.Shelf.Ren:=⟨fun |171=>135 |243=>150 |246=>161 |283=>162 |284=>163 |285=>164 |286=>165 |129=>172 |317=>171 |318=>173 |319=>174 |320=>175 |337=>176 |338=>177 |n=>n,fun |3=>3 |9=>9 |2=>2 |4=>4 |171=>209 |0=>0 |53=>187 |37=>156 |5=>5 |173=>212 |212=>228 |51=>22 |20=>20 |213=>229 |46=>201 |232=>231 |233=>232 |n=>n,fun |17=>5 |18=>6 |19=>7 |n=>n⟩
theorem Tryz.VI:Go.Proofs.Lays.n171 Tryz.prog Tryz.OH:={
 mixed:=by kernel_rfl
 f129:=Tryz.func172.trans (congrArg some (by kernel_rfl))
 f171:=Tryz.func135.trans (congrArg some (by kernel_rfl))
 f243:=Tryz.func150.trans (congrArg some (by kernel_rfl))
 f246:=Tryz.func161.trans (congrArg some (by kernel_rfl))
 f283:=Tryz.func162.trans (congrArg some (by kernel_rfl))
 f284:=Tryz.func163.trans (congrArg some (by kernel_rfl))
 f285:=Tryz.func164.trans (congrArg some (by kernel_rfl))
 f286:=Tryz.func165.trans (congrArg some (by kernel_rfl))
 f317:=Tryz.func171.trans (congrArg some (by kernel_rfl))
 f318:=Tryz.func173.trans (congrArg some (by kernel_rfl))
 f319:=Tryz.func174.trans (congrArg some (by kernel_rfl))
 f320:=Tryz.func175.trans (congrArg some (by kernel_rfl))
 f337:=Tryz.func176.trans (congrArg some (by kernel_rfl))
 f338:=Tryz.func177.trans (congrArg some (by kernel_rfl))
 t0:=Tryz.underlying0
 a0:=Tryz.isAgg0
 z0:=Tryz.sizeOf0
 v0:=Tryz.zeroValue0
 t2:=Tryz.underlying2
 a2:=Tryz.isAgg2
 z2:=Tryz.sizeOf2
 v2:=Tryz.zeroValue2
 t3:=Tryz.underlying3
 a3:=Tryz.isAgg3
 z3:=Tryz.sizeOf3
 v3:=Tryz.zeroValue3
 t4:=Tryz.underlying4
 a4:=Tryz.isAgg4
 z4:=Tryz.sizeOf4
 v4:=Tryz.zeroValue4
 t5:=Tryz.underlying5
 a5:=Tryz.isAgg5
 z5:=Tryz.sizeOf5
 v5:=Tryz.zeroValue5
 t9:=Tryz.underlying9
 a9:=Tryz.isAgg9
 z9:=Tryz.sizeOf9
 v9:=Tryz.zeroValue9
 t20:=Tryz.underlying20
 a20:=Tryz.isAgg20
 z20:=Tryz.sizeOf20
 v20:=Tryz.zeroValue20
 t37:=Tryz.underlying156
 a37:=Tryz.isAgg156
 z37:=Tryz.sizeOf156
 v37:=Tryz.zeroValue156
 t46:=Tryz.underlying201
 a46:=Tryz.isAgg201
 z46:=Tryz.sizeOf201
 v46:=Tryz.zeroValue201
 t51:=Tryz.underlying22
 a51:=Tryz.isAgg22
 z51:=Tryz.sizeOf22
 v51:=Tryz.zeroValue22
 t53:=Tryz.underlying187
 a53:=Tryz.isAgg187
 z53:=Tryz.sizeOf187
 v53:=Tryz.zeroValue187
 t171:=Tryz.underlying209
 a171:=Tryz.isAgg209
 z171:=Tryz.sizeOf209
 v171:=Tryz.zeroValue209
 t173:=Tryz.underlying212
 a173:=Tryz.isAgg212
 z173:=Tryz.sizeOf212
 v173:=Tryz.zeroValue212
 t212:=Tryz.underlying228
 a212:=Tryz.isAgg228
 z212:=Tryz.sizeOf228
 v212:=Tryz.zeroValue228
 t213:=Tryz.underlying229
 a213:=Tryz.isAgg229
 z213:=Tryz.sizeOf229
 t232:=Tryz.underlying231
 a232:=Tryz.isAgg231
 z232:=Tryz.sizeOf231
 v232:=Tryz.zeroValue231
 t233:=Tryz.underlying232
 a233:=Tryz.isAgg232
 z233:=Tryz.sizeOf232
 v233:=Tryz.zeroValue232
 g17:=by kernel_rfl
 g18:=by kernel_rfl
 g19:=by kernel_rfl}
open Go.RowKit Go.Sort Go.Lib in
theorem Tryz.strconv_Itoa_small(i:Nat)(hi:i<100)(w:World) :
 Calls Tryz.prog 135 #[.int .i64 i] w fun e w'=>e=.returned (.string ⟨(Lib.decDigits i).toArray⟩)∧w'=w:=Any.strconv_Itoa_small Tryz.VI i hi w
def Tryz.Ns:Go.Shelf.Ren:=⟨fun |172=>121 |244=>131 |245=>132 |247=>144 |279=>145 |280=>146 |281=>147 |282=>148 |287=>158 |316=>159 |171=>135 |205=>160 |321=>169 |322=>170 |243=>150 |246=>161 |283=>162 |284=>163 |285=>164 |286=>165 |129=>172 |317=>171 |318=>173 |319=>174 |320=>175 |337=>176 |338=>177 |n=>n,fun |9=>9 |3=>3 |75=>172 |76=>173 |4=>4 |5=>5 |167=>194 |37=>156 |0=>0 |85=>195 |2=>2 |168=>197 |53=>187 |175=>202 |46=>201 |210=>206 |127=>200 |145=>226 |143=>224 |21=>21 |171=>209 |173=>212 |212=>228 |51=>22 |20=>20 |213=>229 |232=>231 |233=>232 |80=>59 |n=>n,fun |15=>1 |16=>2 |17=>5 |18=>6 |19=>7 |n=>n⟩
theorem Tryz.KR:Go.Proofs.LaysC.n172 Tryz.prog Tryz.Ns:={
 mixed:=by kernel_rfl
 f129:=Tryz.func172.trans (congrArg some (by kernel_rfl))
 f171:=Tryz.func135.trans (congrArg some (by kernel_rfl))
 f172:=Tryz.func121.trans (congrArg some (by kernel_rfl))
 f205:=Tryz.func160.trans (congrArg some (by kernel_rfl))
 f243:=Tryz.func150.trans (congrArg some (by kernel_rfl))
 f244:=Tryz.func131.trans (congrArg some (by kernel_rfl))
 f245:=Tryz.func132.trans (congrArg some (by kernel_rfl))
 f246:=Tryz.func161.trans (congrArg some (by kernel_rfl))
 f247:=Tryz.func144.trans (congrArg some (by kernel_rfl))
 f279:=Tryz.func145.trans (congrArg some (by kernel_rfl))
 f280:=Tryz.func146.trans (congrArg some (by kernel_rfl))
 f281:=Tryz.func147.trans (congrArg some (by kernel_rfl))
 f282:=Tryz.func148.trans (congrArg some (by kernel_rfl))
 f283:=Tryz.func162.trans (congrArg some (by kernel_rfl))
 f284:=Tryz.func163.trans (congrArg some (by kernel_rfl))
 f285:=Tryz.func164.trans (congrArg some (by kernel_rfl))
 f286:=Tryz.func165.trans (congrArg some (by kernel_rfl))
 f287:=Tryz.func158.trans (congrArg some (by kernel_rfl))
 f316:=Tryz.func159.trans (congrArg some (by kernel_rfl))
 f317:=Tryz.func171.trans (congrArg some (by kernel_rfl))
 f318:=Tryz.func173.trans (congrArg some (by kernel_rfl))
 f319:=Tryz.func174.trans (congrArg some (by kernel_rfl))
 f320:=Tryz.func175.trans (congrArg some (by kernel_rfl))
 f321:=Tryz.func169.trans (congrArg some (by kernel_rfl))
 f322:=Tryz.func170.trans (congrArg some (by kernel_rfl))
 f337:=Tryz.func176.trans (congrArg some (by kernel_rfl))
 f338:=Tryz.func177.trans (congrArg some (by kernel_rfl))
 t0:=Tryz.underlying0
 a0:=Tryz.isAgg0
 z0:=Tryz.sizeOf0
 v0:=Tryz.zeroValue0
 t2:=Tryz.underlying2
 a2:=Tryz.isAgg2
 z2:=Tryz.sizeOf2
 v2:=Tryz.zeroValue2
 t3:=Tryz.underlying3
 a3:=Tryz.isAgg3
 z3:=Tryz.sizeOf3
 v3:=Tryz.zeroValue3
 t4:=Tryz.underlying4
 a4:=Tryz.isAgg4
 z4:=Tryz.sizeOf4
 v4:=Tryz.zeroValue4
 t5:=Tryz.underlying5
 a5:=Tryz.isAgg5
 z5:=Tryz.sizeOf5
 v5:=Tryz.zeroValue5
 t9:=Tryz.underlying9
 a9:=Tryz.isAgg9
 z9:=Tryz.sizeOf9
 v9:=Tryz.zeroValue9
 t20:=Tryz.underlying20
 a20:=Tryz.isAgg20
 z20:=Tryz.sizeOf20
 v20:=Tryz.zeroValue20
 t21:=Tryz.underlying21
 a21:=Tryz.isAgg21
 z21:=Tryz.sizeOf21
 v21:=Tryz.zeroValue21
 t37:=Tryz.underlying156
 a37:=Tryz.isAgg156
 z37:=Tryz.sizeOf156
 v37:=Tryz.zeroValue156
 t46:=Tryz.underlying201
 a46:=Tryz.isAgg201
 z46:=Tryz.sizeOf201
 v46:=Tryz.zeroValue201
 t51:=Tryz.underlying22
 a51:=Tryz.isAgg22
 z51:=Tryz.sizeOf22
 v51:=Tryz.zeroValue22
 t53:=Tryz.underlying187
 a53:=Tryz.isAgg187
 z53:=Tryz.sizeOf187
 v53:=Tryz.zeroValue187
 t75:=Tryz.underlying172
 a75:=Tryz.isAgg172
 z75:=Tryz.sizeOf172
 v75:=Tryz.zeroValue172
 t76:=Tryz.underlying173
 a76:=Tryz.isAgg173
 z76:=Tryz.sizeOf173
 v76:=Tryz.zeroValue173
 t85:=Tryz.underlying195
 a85:=Tryz.isAgg195
 z85:=Tryz.sizeOf195
 v85:=Tryz.zeroValue195
 t127:=Tryz.underlying200
 a127:=Tryz.isAgg200
 z127:=Tryz.sizeOf200
 v127:=Tryz.zeroValue200
 t143:=Tryz.underlying224
 a143:=Tryz.isAgg224
 z143:=Tryz.sizeOf224
 v143:=Tryz.zeroValue224
 t145:=Tryz.underlying226
 a145:=Tryz.isAgg226
 z145:=Tryz.sizeOf226
 v145:=Tryz.zeroValue226
 t167:=Tryz.underlying194
 a167:=Tryz.isAgg194
 z167:=Tryz.sizeOf194
 v167:=Tryz.zeroValue194
 t168:=Tryz.underlying197
 a168:=Tryz.isAgg197
 z168:=Tryz.sizeOf197
 v168:=Tryz.zeroValue197
 t171:=Tryz.underlying209
 a171:=Tryz.isAgg209
 z171:=Tryz.sizeOf209
 v171:=Tryz.zeroValue209
 t173:=Tryz.underlying212
 a173:=Tryz.isAgg212
 z173:=Tryz.sizeOf212
 v173:=Tryz.zeroValue212
 t175:=Tryz.underlying202
 a175:=Tryz.isAgg202
 z175:=Tryz.sizeOf202
 v175:=Tryz.zeroValue202
 t210:=Tryz.underlying206
 a210:=Tryz.isAgg206
 z210:=Tryz.sizeOf206
 v210:=Tryz.zeroValue206
 t212:=Tryz.underlying228
 a212:=Tryz.isAgg228
 z212:=Tryz.sizeOf228
 v212:=Tryz.zeroValue228
 t213:=Tryz.underlying229
 a213:=Tryz.isAgg229
 z213:=Tryz.sizeOf229
 t232:=Tryz.underlying231
 a232:=Tryz.isAgg231
 z232:=Tryz.sizeOf231
 v232:=Tryz.zeroValue231
 t233:=Tryz.underlying232
 a233:=Tryz.isAgg232
 z233:=Tryz.sizeOf232
 v233:=Tryz.zeroValue232
 g15:=by kernel_rfl
 g16:=by kernel_rfl
 g17:=by kernel_rfl
 g18:=by kernel_rfl
 g19:=by kernel_rfl
 t80:=Tryz.underlying59
 a80:=Tryz.isAgg59
 z80:=Tryz.sizeOf59
 v80:=Tryz.zeroValue59
 i0:=by kernel_rfl
 i2:=by kernel_rfl
 i3:=by kernel_rfl
 i4:=by kernel_rfl
 i5:=by kernel_rfl
 i9:=by kernel_rfl
 i20:=by kernel_rfl
 i21:=by kernel_rfl
 i37:=by kernel_rfl
 i46:=by kernel_rfl
 i51:=by kernel_rfl
 i53:=by kernel_rfl
 i75:=by kernel_rfl
 i76:=by kernel_rfl
 i80:=by kernel_rfl
 i85:=by kernel_rfl
 i127:=by kernel_rfl
 i143:=by kernel_rfl
 i145:=by kernel_rfl
 i167:=by kernel_rfl
 i168:=by kernel_rfl
 i171:=by kernel_rfl
 i173:=by kernel_rfl
 i175:=by kernel_rfl
 i210:=by kernel_rfl
 i212:=by kernel_rfl
 i232:=by kernel_rfl
 i233:=by kernel_rfl
 m15:=by kernel_rfl
 m16:=by kernel_rfl
 m17:=by kernel_rfl
 m18:=by kernel_rfl
 m19:=by kernel_rfl
 c0:=by kernel_rfl
 c2:=by kernel_rfl
 c3:=by kernel_rfl
 c4:=by kernel_rfl
 c5:=by kernel_rfl
 c9:=by kernel_rfl
 c20:=by kernel_rfl
 c21:=by kernel_rfl
 c37:=by kernel_rfl
 c46:=by kernel_rfl
 c51:=by kernel_rfl
 c53:=by kernel_rfl
 c75:=by kernel_rfl
 c76:=by kernel_rfl
 c80:=by kernel_rfl
 c85:=by kernel_rfl
 c127:=by kernel_rfl
 c143:=by kernel_rfl
 c145:=by kernel_rfl
 c167:=by kernel_rfl
 c168:=by kernel_rfl
 c171:=by kernel_rfl
 c173:=by kernel_rfl
 c175:=by kernel_rfl
 c210:=by kernel_rfl
 c212:=by kernel_rfl
 c213:=by kernel_rfl
 c232:=by kernel_rfl
 c233:=by kernel_rfl}
open Go.RowKit in
theorem Tryz.strconv_Atoi_ok(s:ByteArray)(hmax:s.size≤9223372036854775806)(v:Int)(h:Lib.atoiAll s.data.toList=.ok v)(w:World) :
 Calls Tryz.prog 121 #[.string s] w fun e w'=>e=.returned (.tuple #[.int .i64 v,.nilIface])∧(w'=w∨∃ t,w'=Lib.bytesWorld w 5 t):=Any.strconv_Atoi_ok Tryz.KR s hmax v h w
open Go.RowKit in
theorem Tryz.strconv_Atoi_syntax_var(s:ByteArray)(hlim:s.size≤281474976710656)(h1:∀ v,Lib.atoiAll s.data.toList≠.ok v)(h2:Lib.atoiAll s.data.toList≠.range)(tp:TypeId)(p:Value)(w:World)(hvar:w.var? Tryz.prog "strconv.ErrSyntax" = some #[.iface tp p]) :
  Calls Tryz.prog 121 #[.string s] w fun e w'=>∃ N,e=.returned (.tuple #[.int .i64 0,.iface 197 (.pointer (some ⟨N,0,none⟩))])∧w.heap.size≤N∧w'.heap[N]?=some (.cells #[.string ⟨#[65,116,111,105]⟩,.string s,.iface tp p] 206 (0,0))∧Below w.heap.size w w':=by
 cases h:Lib.atoiAll s.data.toList with
 |ok v=>exact absurd h (h1 v)
 |range=>exact absurd h h2
 |_=>exact Any.strconv_Atoi_syntax_var Tryz.KR s hlim h tp p w hvar
open Go.RowKit in
theorem Tryz.strconv_Atoi_range_var(s:ByteArray)(hlim:s.size≤281474976710656)(h:Lib.atoiAll s.data.toList=.range)(tp:TypeId)(p:Value)(w:World)(hvar:w.var? Tryz.prog "strconv.ErrRange" = some #[.iface tp p]) :
 Calls Tryz.prog 121 #[.string s] w fun e w'=>∃ N,e=.returned (.tuple #[.int .i64 (Lib.atoiSat s.data.toList),.iface 197 (.pointer (some ⟨N,0,none⟩))])∧w.heap.size≤N∧w'.heap[N]?=some (.cells #[.string ⟨#[65,116,111,105]⟩,.string s,.iface tp p] 206 (0,0))∧Below w.heap.size w w':=Any.strconv_Atoi_range_var Tryz.KR s hlim h tp p w hvar
def Tryz.Nt:Go.Shelf.Ren:=⟨fun |146=>110 |221=>119 |268=>128 |138=>129 |143=>130 |195=>140 |197=>141 |218=>142 |219=>143 |260=>154 |217=>93 |225=>155 |224=>156 |267=>157 |266=>107 |314=>168 |n=>n,fun |9=>9 |31=>85 |3=>3 |4=>4 |0=>0 |105=>192 |21=>21 |5=>5 |46=>201 |119=>217 |139=>220 |138=>219 |146=>221 |51=>22 |n=>n,fun |1=>0 |3=>3 |4=>4 |n=>n⟩
theorem Tryz.TP:Go.Proofs.LaysM.n146 Tryz.prog Tryz.Nt:={
 mixed:=by kernel_rfl
 f138:=Tryz.func129.trans (congrArg some (by kernel_rfl))
 f143:=Tryz.func130.trans (congrArg some (by kernel_rfl))
 f146:=Tryz.func110.trans (congrArg some (by kernel_rfl))
 f195:=Tryz.func140.trans (congrArg some (by kernel_rfl))
 f197:=Tryz.func141.trans (congrArg some (by kernel_rfl))
 f217:=Tryz.func93.trans (congrArg some (by kernel_rfl))
 f218:=Tryz.func142.trans (congrArg some (by kernel_rfl))
 f219:=Tryz.func143.trans (congrArg some (by kernel_rfl))
 f221:=Tryz.func119.trans (congrArg some (by kernel_rfl))
 f224:=Tryz.func156.trans (congrArg some (by kernel_rfl))
 f225:=Tryz.func155.trans (congrArg some (by kernel_rfl))
 f260:=Tryz.func154.trans (congrArg some (by kernel_rfl))
 f266:=Tryz.func107.trans (congrArg some (by kernel_rfl))
 f267:=Tryz.func157.trans (congrArg some (by kernel_rfl))
 f268:=Tryz.func128.trans (congrArg some (by kernel_rfl))
 f314:=Tryz.func168.trans (congrArg some (by kernel_rfl))
 t0:=Tryz.underlying0
 a0:=Tryz.isAgg0
 z0:=Tryz.sizeOf0
 v0:=Tryz.zeroValue0
 t3:=Tryz.underlying3
 a3:=Tryz.isAgg3
 z3:=Tryz.sizeOf3
 v3:=Tryz.zeroValue3
 t4:=Tryz.underlying4
 a4:=Tryz.isAgg4
 z4:=Tryz.sizeOf4
 v4:=Tryz.zeroValue4
 t5:=Tryz.underlying5
 a5:=Tryz.isAgg5
 z5:=Tryz.sizeOf5
 v5:=Tryz.zeroValue5
 t9:=Tryz.underlying9
 a9:=Tryz.isAgg9
 z9:=Tryz.sizeOf9
 v9:=Tryz.zeroValue9
 t21:=Tryz.underlying21
 a21:=Tryz.isAgg21
 z21:=Tryz.sizeOf21
 v21:=Tryz.zeroValue21
 t31:=Tryz.underlying85
 a31:=Tryz.isAgg85
 z31:=Tryz.sizeOf85
 v31:=Tryz.zeroValue85
 t46:=Tryz.underlying201
 a46:=Tryz.isAgg201
 z46:=Tryz.sizeOf201
 v46:=Tryz.zeroValue201
 t51:=Tryz.underlying22
 a51:=Tryz.isAgg22
 z51:=Tryz.sizeOf22
 v51:=Tryz.zeroValue22
 t105:=Tryz.underlying192
 a105:=Tryz.isAgg192
 z105:=Tryz.sizeOf192
 v105:=Tryz.zeroValue192
 t119:=Tryz.underlying217
 a119:=Tryz.isAgg217
 z119:=Tryz.sizeOf217
 t138:=Tryz.underlying219
 a138:=Tryz.isAgg219
 z138:=Tryz.sizeOf219
 v138:=Tryz.zeroValue219
 t139:=Tryz.underlying220
 a139:=Tryz.isAgg220
 z139:=Tryz.sizeOf220
 v139:=Tryz.zeroValue220
 t146:=Tryz.underlying221
 a146:=Tryz.isAgg221
 z146:=Tryz.sizeOf221
 v146:=Tryz.zeroValue221
 g1:=by kernel_rfl
 g3:=by kernel_rfl
 g4:=by kernel_rfl
 i0:=by kernel_rfl
 i3:=by kernel_rfl
 i4:=by kernel_rfl
 i5:=by kernel_rfl
 i9:=by kernel_rfl
 i21:=by kernel_rfl
 i31:=by kernel_rfl
 i46:=by kernel_rfl
 i51:=by kernel_rfl
 i105:=by kernel_rfl
 i138:=by kernel_rfl
 i139:=by kernel_rfl
 i146:=by kernel_rfl
 m1:=by kernel_rfl
 s1_3:=fun w h=>Go.Proofs.cell_of_shapedOpen_int (zero:=#[.int .i64 0]) (t:=3) h (of_decide_eq_true (by kernel_rfl)) (by kernel_rfl) rfl (by kernel_rfl) (by kernel_rfl) Tryz.underlying3
 m3:=by kernel_rfl
 m4:=by kernel_rfl}
open Go.RowKit Go.Lib in
theorem Tryz.strings_Split_shaped(s sep:ByteArray)(w:World)(h:w.ShapedOpen Tryz.prog)(hs:s.size<4294967281)(h1:1≤sep.size) :
 Calls Tryz.prog 110 #[.string s,.string sep] w fun e w' =>
  e=.returned (.slice (some ⟨w.heap.size,0,none⟩) (Lib.countB s sep+1) (Lib.countB s sep+1))∧w'=w.alloc (.cells ((Lib.splitB sep 0 (Lib.countB s sep) s).map Value.string).toArray 9):=Any.strings_Split_shaped Tryz.TP s sep w h hs h1
end
end Go.Proofs
namespace Go.Proofs.YtnmahobjmpdkdaaGreatDoor
section
open Go.RowKit Go.Proofs.YtnmahobjmpdkdaaGreatDoorW.PrintWords
structure Env (w:World):Prop where
 shaped:w.ShapedOpen Tryz.prog
 Z1:Lib.TabIs Tryz.prog w "internal/strconv.uint64pow10" .u64 Lib.pow10Tab
 Z8:∃ tp p,w.var? Tryz.prog "strconv.ErrSyntax" = some #[.iface tp p]
 Z9:∃ tp p,w.var? Tryz.prog "strconv.ErrRange" = some #[.iface tp p]
theorem La{P:Program}{w w':World}{n:String}{cs:Array Value}(hb:Below w.heap.size w w')(h:w.var? P n=some cs):w'.var? P n=some cs:=by
 unfold World.var? at h ⊢;cases hg:P.globalNamed n with
 |none=>rw[hg]at h;cases h
 |some g =>
  rw[hg]at h;simp only[Option.bind_some]at h ⊢;have hlt:g<w.heap.size:=by
   cases hh:w.heap[g]? with
   |none=>rw[hh]at h;cases h
   |some o=>exact Bl hh
  rw[hb.block g hlt];exact h
theorem Env.below{w w':World}(h:Env w)(hb:Below w.heap.size w w'):Env w' :=
 ⟨h.shaped.keptBut (hb.frame (fun _=>False)) (fun _ x=>x.elim),La hb h.Z1,h.Z8.imp fun _ x=>x.imp fun _ y=>La hb y,h.Z9.imp fun _ x=>x.imp fun _ y=>La hb y⟩
end
section
open Go.RowKit
theorem toList_mk(l:List UInt8):(⟨l.toArray⟩:ByteArray).toList=l:=by rw[ByteArray.toList_eq]
theorem DR(l:List UInt8)(a b:Nat):(⟨l.toArray⟩:ByteArray).extract a b=⟨((l.drop a).take (b-a)).toArray⟩:=by
 have h:=Lib.extract_data ⟨l.toArray⟩ a b;have e:∀ x:ByteArray,x=⟨x.data.toList.toArray⟩:=fun x=>by cases x;simp
 rw[e (ByteArray.extract _ _ _),h]
theorem BH{s:ByteArray}{l':List UInt8}(h:s=⟨l'.toArray⟩):Ending.returned (.string s)=.returned (.string ⟨l'.toArray⟩):=by rw[h]
theorem Rb{k:IntKind}{a b:Int}(h:a=b):Ending.returned (.int k a)=.returned (.int k b):=by rw[h]
theorem BU(a b:List UInt8):(⟨a.toArray⟩:ByteArray)++⟨b.toArray⟩=⟨(a++b).toArray⟩:=by
 have e:∀ x:ByteArray,x=⟨x.data.toList.toArray⟩:=fun x=>by cases x;simp
 rw[e (HAppend.hAppend _ _),ByteArray.data_append];simp
end
section
open Go.RowKit Go.Proofs.YtnmahobjmpdkdaaGreatDoorW.PrintWords
def BZ(w:World)(g:Nat)(e:TypeId)(l:List UInt8):Prop :=
 ∃ cs fr,w.heap[g]?=some (.cells cs e fr)∧∀ j,j<l.length→w.cell? ⟨g,j,none⟩=some (.int .u8 ((l.getD j 0).toNat:Int))
theorem Lb(W:World)(e:TypeId)(s:ByteArray):∃ cs fr,(Lib.bytesWorld W e s).heap[W.heap.size]?=some (.cells cs e fr):=by
 unfold Lib.bytesWorld World.freeze;have h:(W.drew.alloc (.cells (Lib.bytesCells W e s) e)).heap[W.heap.size]?=some (.cells (Lib.bytesCells W e s) e):=(MapKept.heap_alloc W.drew (.cells (Lib.bytesCells W e s) e)).1;simp only[Nat.one_ne_zero,if_false,Array.getElem?_modify,if_true,h,Option.map_some];exact⟨_,_,rfl⟩
theorem BZ.new(W:World)(e:TypeId)(l:List UInt8)(g:Nat)(hg:W.heap.size=g)(hs:l.length≤9223372036854775807):BZ (Lib.bytesWorld W e ⟨l.toArray⟩) g e l:=by
 obtain⟨cs,fr,h⟩:=Lb W e ⟨l.toArray⟩;refine⟨cs,fr,by rw[←hg];exact h,fun j hj=>?_⟩;exact KQ (I4 W e l g hg hs) j hj
theorem BZ.Qs{w w':World}{g:Nat}{e:TypeId}{l:List UInt8}(h:BZ w g e l)(hk:w'.heap[g]?=w.heap[g]?):BZ w' g e l:=by
 obtain⟨cs,fr,h1,h2⟩:=h;exact⟨cs,fr,hk.trans h1,fun j hj=>(World.cell?_of_block (w:=w) (a:=⟨g,j,none⟩) hk).trans (h2 j hj)⟩
theorem BZ.lt{w:World}{g:Nat}{e:TypeId}{l:List UInt8}(h:BZ w g e l):g<w.heap.size:=by
 obtain⟨cs,fr,h1,_⟩:=h;exact Bl h1
theorem BZ.keep{w w':World}{g:Nat}{e:TypeId}{l:List UInt8}(h:BZ w g e l)(hb:Below w.heap.size w w'):BZ w' g e l :=
 h.Qs (hb.block g h.lt)
theorem BZ.grown{w w':World}{g:Nat}{e:TypeId}{l:List UInt8}{row:Option Nat}(h:BZ w g e l)(hg:w.grownBy w' row)(hne:some g≠row):BZ w' g e l :=
 h.Qs (hg.block g h.lt hne)
theorem BZ.set{w:World}{g:Nat}{e:TypeId}{l:List UInt8}(h:BZ w g e l){p:Addr}(hp:g≠p.block)(v:Value):BZ (w.setCell p v) g e l :=
 h.Qs (Below.heap_setCell w p v g hp)
theorem Oa{w:World}{base:Nat}{e t:TypeId}{size n g:Nat}{v:Value}{xs:List Value}{cs:Array Value}{fr:Nat×Nat}(h:w.ownsRow base e size v n xs)(hg:w.heap[g]?=some (.cells cs t fr))(hne:e≠t):some g≠v.ownBlock:=by
 intro he;obtain⟨_,h⟩:=h;rcases h with ⟨rfl,_⟩ |⟨g',cap,cur,rfl,_,hh,_⟩
 ·cases he
 ·have:g=g':=by simpa [Value.ownBlock]using he
  subst this;rw[hg]at hh;cases hh;exact hne rfl
theorem BZ.own{w:World}{base:Nat}{e t:TypeId}{size n g:Nat}{v:Value}{xs:List Value}{l:List UInt8}(hb:BZ w g t l)(h:w.ownsRow base e size v n xs)(hne:e≠t):some g≠v.ownBlock:=by
 obtain⟨cs,fr,h1,_⟩:=hb;exact Oa h h1 hne
theorem Ff:(Tryz.prog.info? 3).map (fun i=>(i.zero,i.size,i.bytes))=some (some (.int .i64 0),1,8):=by kernel_rfl
def Bj(W:World)(base:Nat)(v:Value)(xs:List Int):Prop:=W.ownsRow base 3 1 v xs.length (xs.map (Value.int .i64))
theorem Bj.nil(W:World)(base:Nat):Bj W base (.slice none 0 0) []:=⟨rfl,.inl ⟨rfl,rfl⟩⟩
theorem Bj.cell{W:World}{base:Nat}{v:Value}{xs:List Int}(h:Bj W base v xs)(hn:0<xs.length) :
  ∃ g c,v=.slice (some ⟨g,0,none⟩) xs.length c∧xs.length≤c∧∀ j,j<xs.length→W.cell? ⟨g,j,none⟩=some (.int .i64 (xs.getD j 0)):=by
 obtain⟨h1,h2⟩:=h;rcases h2 with ⟨rfl,h0⟩ |⟨g,cap,cur,rfl,hg,hh,hc,hm,hs,ht⟩
 ·omega
 ·refine⟨g,cap,rfl,hc,fun j hj=>(Bc hh j).trans ?_⟩;have e:(cur.toList.take (xs.length*1))[j]?=(xs.map (Value.int .i64))[j]?:=by rw[ht]
  rw[List.getElem?_take_of_lt (by omega),Array.getElem?_toList]at e;rw[e];simp[List.getElem?_eq_getElem hj,List.getD_eq_getElem?_getD]
theorem Bj.slice{W:World}{base:Nat}{v:Value}{xs:List Int}(h:Bj W base v xs):∃ A c,v=.slice A xs.length c:=by
 rcases h.2 with ⟨rfl,h0⟩ |⟨g,cap,cur,rfl,_⟩
 ·exact⟨none,0,by rw[h0]⟩
 ·exact⟨_,_,rfl⟩
theorem Bj.move{W W1:World}{base:Nat}{v:Value}{xs:List Int}(h:Bj W base v xs)(hm:∀ k,v.ownBlock=some k→W1.heap[k]?=W.heap[k]?):Bj W1 base v xs:=Om h hm
theorem Bj.keep{W W1:World}{base:Nat}{v:Value}{xs:List Int}(h:Bj W base v xs)(hb:Below W.heap.size W W1):Bj W1 base v xs :=
 h.move fun k hk=>hb.block k (Ol h k hk)
structure E0 (W:World) (base:Nat) (v:Value) (xs:List Int) (u:Value) (ys:List Int):Prop where
 a:Bj W base v xs
 b:Bj W base u ys
 ap:∀ k,v.ownBlock=some k→u.ownBlock≠some k
section
variable {W W1:World} {base:Nat} {v u:Value} {xs ys:List Int}
theorem E0.nil(W:World)(base:Nat):E0 W base (.slice none 0 0) [] (.slice none 0 0) []:=⟨.nil _ _,.nil _ _,fun k hk=>by simp[Value.ownBlock]at hk⟩
theorem E0.keep(h:E0 W base v xs u ys)(hb:Below W.heap.size W W1):E0 W1 base v xs u ys:=⟨h.a.keep hb,h.b.keep hb,h.ap⟩
theorem E0.swap(h:E0 W base v xs u ys):E0 W base u ys v xs:=⟨h.b,h.a,fun k hk e=>h.ap k e hk⟩
theorem E0.set{p:Addr}{cs:Array Value}{t:TypeId}(h:E0 W base v xs u ys)(hp:W.heap[p.block]?=some (.cells cs t (0,0)))(ht:3≠t)(x:Value):E0 (W.setCell p x) base v xs u ys :=
 ⟨h.a.move fun k hk=>Below.heap_setCell W p x k (fun e=>Oa h.a hp ht (by rw[hk,e])),h.b.move fun k hk=>Below.heap_setCell W p x k (fun e=>Oa h.b hp ht (by rw[hk,e])),h.ap⟩
end
section
variable {ops:Array Oper} {rest:List Oper} {o:Oper} {a:Act} {Q:Exit→Act→World→Prop} {W:World}
theorem Nd(hgd:o.guard=none)(s x:Operand)(ho:o.op=.call {callee:=.builtin .append,args:=#[s,x],argTypes:=#[27,27]})
  (base g:Nat)(y:Int)(v:Value)(xs:List Int)(hs:a.eval s=v)(hr:Bj W base v xs)(hx:a.eval x=.slice (some ⟨g,0,none⟩) 1 1)
  (hy:W.heap[g]?=some (.cells #[.int .i64 y] 3 (0,0)))(hl:xs.length≤1000000)(hb:base≤W.heap.size)
  (h:∀ v' W1,Bj W1 base v' (xs++[y])→W.grownBy W1 v.ownBlock→(v'.ownBlock=v.ownBlock∨v'.ownBlock=some W.heap.size)→wpList Tryz.prog ops Q rest (a.put o.dst v') W1) :
  wpList Tryz.prog ops Q (o::rest) a W:=by
 obtain⟨i9,hi,hz0,hz1,hz2⟩:=info_parts Ff;refine wpList_append_own_at _ hgd s x 27 ho base 3 i9 (.int .i64 0) 1 8 Tryz.underlying27 hi hz0 hz1 hz2 rfl (by decide) v xs.length (xs.map (Value.int .i64)) hs hr ⟨g,0,none⟩ 1 1 [.int .i64 y] hx rfl ?_ ?_ ?_ ?_ hb ?_
 ·intro j u hj;rw[add_plain];exact(Bc hy j).trans (by simpa using hj)
 ·simp[Value.oneCell']
 ·simp[maxLen];omega
 ·omega
 ·intro v' w' h1 h2 _ h4;refine h v' w' ?_ h2 h4;unfold Bj;rw[List.map_append,List.length_append];exact h1
theorem Kf(hgd:o.guard=none)(s x:Operand)(ho:o.op=.call {callee:=.builtin .append,args:=#[s,x],argTypes:=#[27,27]})
  (base g:Nat)(y:Int)(v u:Value)(xs ys:List Int)(hs:a.eval s=v)(hr:E0 W base v xs u ys)(hx:a.eval x=.slice (some ⟨g,0,none⟩) 1 1)
  (hy:W.heap[g]?=some (.cells #[.int .i64 y] 3 (0,0)))(hl:xs.length≤1000000)(hb:base≤W.heap.size)
  (h:∀ v' W1,E0 W1 base v' (xs++[y]) u ys→W.grownBy W1 v.ownBlock→wpList Tryz.prog ops Q rest (a.put o.dst v') W1) :
  wpList Tryz.prog ops Q (o::rest) a W:=by
 refine Nd hgd s x ho base g y v xs hs hr.a hx hy hl hb fun v' W1 h1 h2 h3=>h v' W1 ⟨h1,hr.b.move fun k hk=>h2.block k (Ol hr.b k hk) (fun e=>hr.ap k e.symm hk),fun k hk e=>?_⟩ h2
 rcases h3 with h3 |h3
 ·exact hr.ap k (by rw[←h3];exact hk) e
 ·rw[h3]at hk;cases hk;exact absurd (Ol hr.b _ e) (Nat.lt_irrefl _)
end
end
section
open Go Go.RowKit Go.Proofs.YtnmahobjmpdkdaaGreatDoorW.PrintWords
theorem Az{p:Prop}(h:p):Af p:=⟨h⟩
theorem Bq{α:Type}[BEq α][LawfulBEq α]{a b:α}(h:a≠b):(a==b)=false:=beq_eq_false_iff_ne.2 h
theorem Sa{α:Type}(l:List α)(i:Nat)(a:α):l.toArray.setIfInBounds i a=(l.set i a).toArray:=List.setIfInBounds_toArray ..
theorem Sb{α:Type}(x:α)(l:List α)(a:α):(x::l).set 0 a=a::l:=List.set_cons_zero ..
theorem Sc{α:Type}(x:α)(l:List α)(i:Nat)(a:α):(x::l).set (i+1) a=x::l.set i a:=List.set_cons_succ ..
theorem Nl(n:Nat):n≤n:=Nat.le_refl n
end
end Go.Proofs.YtnmahobjmpdkdaaGreatDoor
