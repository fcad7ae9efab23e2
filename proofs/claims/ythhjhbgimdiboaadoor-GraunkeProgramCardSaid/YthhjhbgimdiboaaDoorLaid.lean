/- What a row's list of package-level variables gives the walks: the table of powers, the two errors; and a world that meets it. -/
import Derived.Test.YthhjhbgimdiboaaDoorCards
import Derived.Test.YthhjhbgimdiboaaDoorTie
import Derived.Test.YthhjhbgimdiboaaDoorEnv
import Derived.ProofKit
import Derived.LaidMore
import Derived.OpenShut
import Derived.Deep.DeepHandedRow
import Derived.Lib.LaidTab
import Derived.Lib.LaidU8
import Derived.Stop.LaidErr
import Derived.JoinedCond
import Derived.Deep.DeepWitnessRowRef
import Derived.Test.YthhjhbgimdiboaaDoorIn8
namespace Go.Proofs.YthhjhbgimdiboaaDoor
open Go Go.ChangeShapes Go.WideShapes Go.ChangeAt Go.RowKit

theorem own : ownKnob Tryd.prog.godebug = none := by kernel_rfl
theorem gPow : Tryd.prog.globalNamed "internal/strconv.uint64pow10" = some 5 := by kernel_rfl
theorem gSyn : Tryd.prog.globalNamed "strconv.ErrSyntax" = some 1 := by kernel_rfl
theorem gRng : Tryd.prog.globalNamed "strconv.ErrRange" = some 2 := by kernel_rfl
theorem tPow : (Tryd.prog.globals[5]?).map (·.type) = some 156 := by kernel_rfl
theorem tSyn : (Tryd.prog.globals[1]?).map (·.type) = some 99 := by kernel_rfl
theorem tRng : (Tryd.prog.globals[2]?).map (·.type) = some 99 := by kernel_rfl
theorem c64 : Tryd.prog.cellsOf 114 = 1 := by kernel_rfl
theorem c20 : Tryd.prog.cellsOf 156 = 20 := by kernel_rfl
theorem starErr : "*" ++ "errors.errorString" = "*errors.errorString" := by decide +kernel
theorem rowErr (u : TypeId) (h : Tryd.prog.typeName? 3 u = some "*errors.errorString") : u = 152 :=
  typeName_ptr_named (nm := "errors.errorString") (by rw [starErr]; kernel_rfl) (by kernel_rfl) (by decide) u (by rw [starErr]; exact h)
def laidList : List (String × DataW Unit) := Rows.asmBigRow.laid

theorem env_of {W : World} (h : laidMetH Tryd.prog laidList W) (hs : W.ShapedOpen Tryd.prog) : Env W := by
  rw [MakeChecks.laidMetH_plain _ _ _ (by kernel_rfl)] at h
  have h2 := h.tail.tail
  have h4 := h2.tail.tail
  have h5 := h4.tail
  obtain ⟨a1, s1, hv1, _⟩ := laid_sentinel h4 gRng tRng Tryd.underlying99 rowErr Tryd.underlying152 Tryd.underlying154 rfl rfl Tryd.underlying9 (by kernel_rfl) (by kernel_rfl)
  obtain ⟨a2, s2, hv2, _⟩ := laid_sentinel h5 gSyn tSyn Tryd.underlying99 rowErr Tryd.underlying152 Tryd.underlying154 rfl rfl Tryd.underlying9 (by kernel_rfl) (by kernel_rfl)
  exact ⟨hs, Lib.tabIs_of_head (zs := Lib.pow10Tab) gPow tPow Tryd.underlying156 Tryd.underlying114 c64 c20 h2, ⟨_, _, hv2⟩, ⟨_, _, hv1⟩⟩

/-- A WORLD FOR THE WITNESS: the heap that the door's own run leaves, and the pinned table. -/
noncomputable def laidWorld (os : Os) : World :=
  { World.doorLaid Tryd.prog 72 os with heap := (World.doorLaid Tryd.prog 72 os).heap.modify 3 fun
      | .cells _ t frozen => .cells (Lib.firstTab.map (Value.int .u8)).toArray t frozen
      | o => o }
theorem laid_met (os : Os) (args : Array Value) : laidMetH Tryd.prog laidList ((laidWorld os).forCall (fun _ _ => 0) ⟨#[], args, []⟩).memory :=
  laidMetH_of_parts3 (fuel := 8) (laidMet_of_run' 8 (by kernel_rfl) (by kernel_rfl)) (by kernel_rfl) (by kernel_rfl)

/-- A law's end: what was there is as it was; the arguments read as they did. -/
theorem law_post {H : Type} {enc : TypeId × Value → H} {P : Program} {f : Func} {s : ChangeSpec} {W W' : World} {args : Array Value} {ds gs : List (DataW H)} {before pa : List MemPlace} {v : Value}
    (hW : DataW.Whole enc P f.params.toList s.vars false W args.toList ds gs before) (hb : Below W.heap.size W W')
    (hres : ∀ (b : Nat) (sp : Nat → Bool) (hd : Bool), DataW.TrodAll enc P W' b sp hd f.resultTypes.toList (v.resultList f.resultTypes.size) (s.fn H (ds ++ gs)).results [])
    (hargs : DataW.TrodAll enc P W' 0 (fun b => decide (b < W.heap.size)) true f.params.toList args.toList (s.fn H (ds ++ gs)).args pa)
    (hvars : ∀ sp : Nat → Bool, DataW.TrodVars enc P W' sp s.vars (s.fn H (ds ++ gs)).vars []) :
    s.post enc P f false true false false W args v W' :=
  ⟨ds, gs, before, [], pa, [], hW, hres _ _ _, hargs, hvars _, hb.frame _, fun h => by cases h⟩
end Go.Proofs.YthhjhbgimdiboaaDoor
