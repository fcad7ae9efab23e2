/- An argument of type []ropelineref14.Op, opened: a row of operations that can be read, wherever it begins. -/
import Derived.Test.YtjjpiefgdggghaaGreatDoorATraceA
import Derived.Deep.Slices
import Derived.ChangeSame
import Derived.Carry
set_option linter.unusedVariables false
set_option linter.unusedSimpArgs false
set_option maxRecDepth 100000
set_option maxHeartbeats 40000000
namespace Go.Proofs.YtjjpiefgdggghaaGreatDoor
section
open Go Go.ChangeShapes Go.WideShapes Go.Deep Go.RowKit
set_option maxRecDepth 100000
theorem PL{H:Type}{enc:TypeId×Value→H}{W:World}{base:Nat}{sp:Nat→Bool}{held:Bool}{fuel:Nat}{cs:List Value}{x:DataW H×List MemPlace}(h:DataW.trod enc Tryz.prog W base sp held fuel 22 cs=some x) :
  ∃ A m c l,cs=[.slice A m c]∧l.length=m∧Qu W A l:=by
 rcases open_slice Tryz.underlying22 h with ⟨rfl,_⟩ |⟨a,len,cap,m,n,D,Pl,rfl,hb,hl,hm,hmm,hx,hi⟩
 ·exact⟨none,0,0,[],rfl,rfl,fun h=>absurd h (by simp)⟩
 have c3:Tryz.prog.cellsOf 85=3:=by kernel_rfl
 have c1:Tryz.prog.cellsOf 3=1:=by kernel_rfl
 have each:∀ i,i<len→∃ q:Int×Int×Int,W.cell? (a.add (i*3))=some (.int .i64 q.1)∧W.cell? ⟨(a.add (i*3)).block,(a.add (i*3)).off+1,none⟩=some (.int .i64 q.2.1)∧W.cell? ⟨(a.add (i*3)).block,(a.add (i*3)).off+2,none⟩=some (.int .i64 q.2.2):=by
  intro i Nh;obtain⟨cs',h1,h2⟩:=hi i (by rw[hmm];split<;>omega);rw[c3]at h1;obtain⟨_,hlen,hcell⟩:=World.cells?_some h1;obtain⟨xs,k,_,_,_,hxl,hf⟩:=DataW.trod_struct Tryz.underlying85 h2
  match xs,hxl,cs',hlen with
  |[y0,y1,y2],_,[v0,v1,v2],_ =>
   have g0:=hf 0 _ rfl;have g1:=hf 1 _ rfl;have g2:=hf 2 _ rfl;simp[c1]at g0 g1 g2;have e0:=hcell 0 (by omega);have e1:=hcell 1 (by omega);have e2:=hcell 2 (by omega);obtain⟨x0,e3,_,_⟩:=DataW.trod_int Tryz.underlying3 g0;obtain⟨x1,e4,_,_⟩:=DataW.trod_int Tryz.underlying3 g1;obtain⟨x2,e5,_,_⟩:=DataW.trod_int Tryz.underlying3 g2;cases e3;cases e4;cases e5;have z0:∀ b:Addr,b.add 0=b:=fun b=>by simp[Addr.add]
   have z1:∀ b:Addr,b.add 1=⟨b.block,b.off+1,none⟩:=fun b=>by simp[Addr.add]
   have z2:∀ b:Addr,b.add 2=⟨b.block,b.off+2,none⟩:=fun b=>by simp[Addr.add]
   rw[z0]at e0;rw[z1]at e1;rw[z2]at e2;exact⟨(x0,x1,x2),e0,e1,e2⟩
 obtain⟨q,hq⟩:=choose_lt each;refine⟨some a,len,cap,(List.range len).map q,rfl,by simp,fun _=>⟨a,rfl,fun j hj=>?_⟩⟩;have hj':j<len:=by simpa using hj
 have e:((List.range len).map q).getD j (0,0,0)=q j:=by simp[List.getD_eq_getElem?_getD,hj']
 rw[e];exact hq j hj'
theorem MC{H:Type}{enc:TypeId×Value→H}{W:World}{base b0:Nat}{r:Reach}{sp:Nat→Bool}{held:Bool}{v:Value}{d:DataW H}{p:List MemPlace}(hv:Value.okWide Tryz.prog W r b0 22 v)(h:DataW.Trod enc Tryz.prog W base sp held 22 v d p) :
  ∃ A m c l,v=.slice A m c∧l.length=m∧Qu W A l:=by
 obtain⟨fuel,hf⟩:=h;obtain⟨A,m,c,l,h1,h2,h3⟩:=PL hf;obtain⟨A',m',c',rfl⟩:=okWide_slice Tryz.underlying22 hv;simp[Value.cells]at h1;obtain⟨rfl,rfl,rfl⟩:=h1;exact⟨A',m',c',l,rfl,h2,h3⟩
theorem SW:laidOutB Tryz.prog=true:=by kernel_rfl
theorem Lw:Tryz.prog.readableRec 22=true:=by kernel_rfl
theorem SX:22<Tryz.prog.types.size:=of_decide_eq_true (by kernel_rfl)
theorem KL{H:Type}{enc:TypeId×Value→H}{W W':World}{v:Value}{d:DataW H}{p:List MemPlace}(h:DataW.Trod enc Tryz.prog W 0 (fun _=>true) true 22 v d p)(hb:Below W.heap.size W W')(hlt:∀ x∈p,x.block<W.heap.size) :
 DataW.Trod enc Tryz.prog W' 0 (fun b=>decide (b<W.heap.size)) true 22 v d p:=Below.trod SW Lw SX h hb hlt
end
end Go.Proofs.YtjjpiefgdggghaaGreatDoor
