/- An argument of type ropelinelaw14.TicketRest, opened. -/
import Derived.Test.YtnmahobjmpdkdaaGreatDoorQOpsArg
set_option linter.unusedVariables false
set_option linter.unusedSimpArgs false
set_option maxRecDepth 100000
set_option maxHeartbeats 40000000
namespace Go.Proofs.YtnmahobjmpdkdaaGreatDoor
section
open Go Go.ChangeShapes Go.WideShapes Go.Deep Go.RowKit
set_option maxRecDepth 100000
theorem Rz{H:Type}{enc:TypeId×Value→H}{W:World}{base b0:Nat}{r:Reach}{sp:Nat→Bool}{held:Bool}{v:Value}{d:DataW H}{p:List MemPlace}(hv:Value.okWide Tryz.prog W r b0 49 v)(h:DataW.Trod enc Tryz.prog W base sp held 49 v d p) :
  ∃ x0 x1 A m c l x3,v=.agg #[.int .i64 x0,.int .u32 x1,.slice A m c,.int .u8 x3]∧(Lit.int .u32 x1).wf=true∧(Lit.int .u8 x3).wf=true∧l.length=m∧L7 W A l:=by
 have c4:Tryz.prog.cellsOf 49=4:=by kernel_rfl
 have k0:Tryz.prog.cellsOf 3=1:=by kernel_rfl
 have k1:Tryz.prog.cellsOf 22=1:=by kernel_rfl
 have k2:Tryz.prog.cellsOf 23=1:=by kernel_rfl
 have k3:Tryz.prog.cellsOf 5=1:=by kernel_rfl
 obtain⟨cs,rfl,hsz⟩:=okWide_struct Tryz.underlying49 hv;obtain⟨cs⟩:=cs;obtain⟨fuel,hf⟩:=h;obtain⟨xs,k,_,_,_,hxl,hg⟩:=DataW.trod_struct Tryz.underlying49 hf
 match cs,hsz.trans c4,xs,hxl with
 |[v0,v1,v2,v3],_,[y0,y1,y2,y3],_ =>
  have g0:=hg 0 _ rfl;have g1:=hg 1 _ rfl;have g2:=hg 2 _ rfl;have g3:=hg 3 _ rfl;simp[k0,k1,k2,k3,Value.cells]at g0 g1 g2 g3;obtain⟨x0,e0,_,_⟩:=DataW.trod_int Tryz.underlying3 g0;obtain⟨x1,e1,_,w1⟩:=DataW.trod_int Tryz.underlying22 g1;obtain⟨A,m,c,l,e2,hl,hc⟩:=Mh g2;obtain⟨x3,e3,_,w3⟩:=DataW.trod_int Tryz.underlying5 g3;cases e0;cases e1;cases e2;cases e3;exact⟨x0,x1,A,m,c,l,x3,rfl,w1,w3,hl,hc⟩
theorem L8:Tryz.prog.readableRec 49=true:=by kernel_rfl
theorem SW:49<Tryz.prog.types.size:=of_decide_eq_true (by kernel_rfl)
theorem Px{H:Type}{enc:TypeId×Value→H}{W W':World}{v:Value}{d:DataW H}{p:List MemPlace}(h:DataW.Trod enc Tryz.prog W 0 (fun _=>true) true 49 v d p)(hb:Below W.heap.size W W')(hlt:∀ x∈p,x.block<W.heap.size) :
 DataW.Trod enc Tryz.prog W' 0 (fun b=>decide (b<W.heap.size)) true 49 v d p:=Below.trod Q5 L8 SW h hb hlt
end
end Go.Proofs.YtnmahobjmpdkdaaGreatDoor
