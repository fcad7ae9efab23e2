/- Parts: Format. -/
import Derived.Test.YtnmahobjmpdkdaaGreatDoorG02
import Derived.Test.YtnmahobjmpdkdaaGreatDoorG03
import Derived.Lib.AppendIntMem
set_option linter.unusedVariables false
set_option linter.unusedSimpArgs false
set_option maxRecDepth 100000
set_option maxHeartbeats 40000000
namespace Go.Proofs.YtnmahobjmpdkdaaGreatDoor
section
open Go.RowKit Go.Proofs.YtnmahobjmpdkdaaGreatDoorW.PrintWords Go.Shelf Go.Sort
theorem below_grow(w:World)(os:Array Obj):Below w.heap.size w (grow w os) :=
 ⟨rfl,rfl,rfl,by simp[grow],fun i hi=>by simp[grow,Array.getElem?_append,hi]⟩
theorem Kl{w w':World}(h:∃ k os,w'=grow (w.drewN k) os):Below w.heap.size w w':=by
 obtain⟨k,os,rfl⟩:=h;exact Lv (AJ (Below.refl w.heap.size w) k) (Nl _) (below_grow (w.drewN k) os)
theorem O5(u:Nat)(hu:u≤4294967295)(w:World)(he:Env w) :
  Calls Tryz.prog 151 #[.int .u64 u,.int .i64 10] w fun e w'=>e=.returned (.string ⟨(Lib.decDigits u).toArray⟩)∧Below w.heap.size w w':=by
 by_cases hs:u<100
 ·go_enter Tryz.func151,Tryz.ntmps151;go_wp2_with fail
  refine(Tryz.internal_strconv_small u hs _).mono ?_;rintro e w' ⟨rfl,rfl⟩;go_wp2;go_ret;exact⟨rfl,Below.refl _ _⟩
 ·have hu1:1≤u:=by omega
  have hu64:u<18446744073709551616:=by omega
  have hnd20:Lib.nDigits u≤20:=by have:=Lib.numDigits_eq u hu1 hu64;split at this<;>omega
  have hb3:Lib.nDigits u≤23:=by omega
  have hal:Tryz.prog.arrayLen 209=24:=by kernel_rfl
  have hsl1:∀ W,(Instr.sliceAt 209 (.pointer (some ⟨w.heap.size,0,none⟩)) none (some (.int .i64 (Lib.nDigits u:Int))) none).run Tryz.prog W=.ok (.slice (some ⟨w.heap.size,0,none⟩) (Lib.nDigits u) 24) W:=fun W=>by
   rw[run_sliceAt_array_h W 209 ⟨w.heap.size,0,none⟩ (by kernel_rfl) .i64 (Lib.nDigits u:Int) (by omega) (by rw[hal];omega)];go_simp
  have hH0:=Lib.holds_zero0 w 209 (Lib.nDigits u) (by omega);have hfmt:=Tryz.internal_strconv_formatBase10 w.heap.size 0 24 u (Array.replicate (Lib.nDigits u) 0) (w.alloc (.cells Lib.zeros24 209)) hH0 (by rw[Array.size_replicate];exact Lib.lt_pow_nDigits u) hu64 (by rw[Array.size_replicate];omega);rw[Array.size_replicate]at hfmt;have HH0:=Lib.hid hH0;have htab:=Lib.hid he.tab;clear hH0 hal he;go_enter Tryz.func151,Tryz.ntmps151;go_wp2_with fail
  refine(Tryz.internal_strconv_numDigits u hu1 hu64 _ (Lib.tabIs_alloc htab.out _)).mono ?_;rintro e w' ⟨rfl,rfl⟩;go_wp2_with fail
  refine hfmt.mono ?_;rintro e w' ⟨rfl,k,v',dk,rfl,hF⟩;have hcv:(convert 156 9 (.slice (some ⟨w.heap.size,0,none⟩) (Lib.nDigits u) 24)).run Tryz.prog ((putRow (fun(b:UInt8)=>Value.int .u8 (b.toNat:Int)) (w.alloc (.cells Lib.zeros24 209)) w.heap.size 0 dk).drewN k)=.ok (.string ⟨(Lib.decDigits u).toArray⟩) ((putRow (fun(b:UInt8)=>Value.int .u8 (b.toNat:Int)) (w.alloc (.cells Lib.zeros24 209)) w.heap.size 0 dk).drewN k):=by
   have h:=run_convert_bytes_back (P:=Tryz.prog) ((putRow (fun(b:UInt8)=>Value.int .u8 (b.toNat:Int)) (w.alloc (.cells Lib.zeros24 209)) w.heap.size 0 dk).drewN k) 156 9 5 ⟨w.heap.size,0,none⟩ 24 (Lib.decDigits u) Tryz.underlying156 Tryz.underlying5 Tryz.underlying9 (fun j hj=>by
    rw[Lib.row_is_numeral hF j hj,Lib.add_plain,World.cell?_drewN];exact cell?_putRow (fun(b:UInt8)=>Value.int .u8 (b.toNat:Int)) _ w.heap.size 0 _ dk HH0.out (by rw[hF.size,Array.size_replicate]) j (by rw[hF.size];rw[Lib.decDigits_length]at hj;exact hj))
   rw[Lib.decDigits_length]at h;exact h
  go_wp2;go_ret;refine⟨rfl,?_⟩;rw[alloc_eq_grow];obtain⟨os',_,eo⟩:=putRow_grow_new (fun(b:UInt8)=>Value.int .u8 (b.toNat:Int)) w #[.cells Lib.zeros24 209] w.heap.size 0 dk (Nl _);rw[eo];exact Kl ⟨k,os',rfl⟩
theorem O1(u:Nat)(hu:u≤4294967295)(w:World)(he:Env w) :
  Calls Tryz.prog 136 #[.int .u64 u,.int .i64 10] w fun e w'=>e=.returned (.string ⟨(Lib.decDigits u).toArray⟩)∧Below w.heap.size w w':=by
 go_enter Tryz.func136,Tryz.ntmps136;go_wp2_with fail
 refine(O5 u hu _ he).mono ?_;rintro e w' ⟨rfl,hb⟩;go_wp2;go_ret;exact⟨rfl,hb⟩
theorem LH(n:Int)(h0:0≤n)(h1:n≤9223372036854775807)(w:World)(he:Env w) :
  Calls Tryz.prog 135 #[.int .i64 n] w fun e w'=>e=.returned (.string ⟨(Lib.decDigits n.toNat).toArray⟩)∧Below w.heap.size w w':=by
 refine(Tryz.strconv_Itoa n (by omega) h1 w he.tab).mono ?_;rintro e w' ⟨rfl,hg⟩;refine⟨?_,Kl hg⟩;unfold Lib.itoa;rw[if_neg (by omega)]
theorem D9(u:Nat)(hu64:u<18446744073709551616):(Lib.decDigits u).length≤20:=by
 rw[Lib.decDigits_length];by_cases hu1:1≤u
 ·have:=Lib.numDigits_eq u hu1 hu64;split at this<;>omega
 ·obtain rfl:u=0:=by omega
  rw[Lib.nDigits_small (by omega)];omega
end
end Go.Proofs.YtnmahobjmpdkdaaGreatDoor
