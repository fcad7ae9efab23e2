/- Parts: Laid. -/
import Derived.Test.YtjjpiefgdggghaaGreatDoorCards
import Derived.Test.YtjjpiefgdggghaaGreatDoorTie
import Derived.Test.YtjjpiefgdggghaaGreatDoorA04
import Derived.ProofKit
import Derived.LaidMore
import Derived.OpenShut
import Derived.Deep.DeepHandedRow
import Derived.Lib.LaidTab
import Derived.Lib.LaidU8
import Derived.Stop.LaidErr
import Derived.JoinedCond
import Derived.Deep.DeepWitnessRowRef
import Derived.Test.YtjjpiefgdggghaaGreatDoorA07
set_option linter.unusedVariables false
set_option linter.unusedSimpArgs false
set_option maxRecDepth 100000
set_option maxHeartbeats 40000000
namespace Go.Proofs.YtjjpiefgdggghaaGreatDoor
section
open Go Go.ChangeShapes Go.WideShapes Go.ChangeAt Go.RowKit
theorem own:ownKnob Tryz.prog.godebug=none:=by kernel_rfl
theorem Wl:Tryz.prog.globalNamed "internal/strconv.uint64pow10" = some 4:=by kernel_rfl
theorem Wm:Tryz.prog.globalNamed "strconv.ErrSyntax" = some 7:=by kernel_rfl
theorem Wn:Tryz.prog.globalNamed "strconv.ErrRange" = some 8:=by kernel_rfl
theorem Wo:(Tryz.prog.globals[4]?).map (·.type)=some 219:=by kernel_rfl
theorem Wp:(Tryz.prog.globals[7]?).map (·.type)=some 171:=by kernel_rfl
theorem Wq:(Tryz.prog.globals[8]?).map (·.type)=some 171:=by kernel_rfl
theorem WU:Tryz.prog.cellsOf 190=1:=by kernel_rfl
theorem c20:Tryz.prog.cellsOf 219=20:=by kernel_rfl
theorem O9 : "*" ++ "errors.errorString" = "*errors.errorString" :=by decide +kernel
theorem Rd(u:TypeId)(h:Tryz.prog.typeName? 3 u=some "*errors.errorString"):u=251 :=
 typeName_ptr_named (nm := "errors.errorString") (by rw[O9];kernel_rfl) (by kernel_rfl) (by decide) u (by rw[O9];exact h)
def M5:List (String×DataW Unit):=Rows.k42RestsRow.laid
theorem Lk{W:World}(h:laidMetH Tryz.prog M5 W)(hs:W.ShapedOpen Tryz.prog):Env W:=by
 rw[MakeChecks.laidMetH_plain _ _ _ (by kernel_rfl)]at h;have h2:=h.tail.tail;have h4:=h2.tail.tail;have h5:=h4.tail;obtain⟨a1,s1,hv1,_⟩:=laid_sentinel h4 Wn Wq Tryz.underlying171 Rd Tryz.underlying251 Tryz.underlying253 rfl rfl Tryz.underlying9 (by kernel_rfl) (by kernel_rfl);obtain⟨a2,s2,hv2,_⟩:=laid_sentinel h5 Wm Wp Tryz.underlying171 Rd Tryz.underlying251 Tryz.underlying253 rfl rfl Tryz.underlying9 (by kernel_rfl) (by kernel_rfl);exact⟨hs,Lib.tabIs_of_head (zs:=Lib.pow10Tab) Wl Wo Tryz.underlying219 Tryz.underlying190 WU c20 h2,⟨_,_,hv2⟩,⟨_,_,hv1⟩⟩
noncomputable def Dm (os:Os):World :=
 {World.doorLaid Tryz.prog 72 os with heap:=(World.doorLaid Tryz.prog 72 os).heap.modify 2 fun
  |.cells _ t frozen=>.cells (Lib.firstTab.map (Value.int .u8)).toArray t frozen
  |o=>o}
theorem H4(os:Os)(args:Array Value):laidMetH Tryz.prog M5 ((Dm os).forCall (fun _ _=>0) ⟨#[],args,[]⟩).memory :=
 laidMetH_of_parts3 (fuel:=8) (laidMet_of_run' 8 (by kernel_rfl) (by kernel_rfl)) (by kernel_rfl) (by kernel_rfl)
theorem H5{H:Type}{enc:TypeId×Value→H}{P:Program}{f:Func}{s:ChangeSpec}{W W':World}{args:Array Value}{ds gs:List (DataW H)}{before pa:List MemPlace}{v:Value}
  (hW:DataW.Whole enc P f.params.toList s.vars false W args.toList ds gs before)(hb:Below W.heap.size W W')
  (hres:∀ (b:Nat) (sp:Nat→Bool) (hd:Bool),DataW.TrodAll enc P W' b sp hd f.resultTypes.toList (v.resultList f.resultTypes.size) (s.fn H (ds++gs)).results [])
  (hargs:DataW.TrodAll enc P W' 0 (fun b=>decide (b<W.heap.size)) true f.params.toList args.toList (s.fn H (ds++gs)).args pa)
  (hvars:∀ sp:Nat→Bool,DataW.TrodVars enc P W' sp s.vars (s.fn H (ds++gs)).vars []) :
  s.post enc P f false true false false W args v W' :=
 ⟨ds,gs,before,[],pa,[],hW,hres _ _ _,hargs,hvars _,hb.frame _,fun h=>by cases h⟩
end
end Go.Proofs.YtjjpiefgdggghaaGreatDoor
