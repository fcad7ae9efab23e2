/- Parts: SpecR. -/
import Derived.Test.YtnmahobjmpdkdaaGreatDoorG02
import Derived.Test.YtnmahobjmpdkdaaGreatDoorG36
import Derived.Test.YtnmahobjmpdkdaaGreatDoorG38
set_option linter.unusedVariables false
set_option linter.unusedSimpArgs false
set_option maxRecDepth 100000
set_option maxHeartbeats 40000000
namespace Go.Proofs.YtnmahobjmpdkdaaGreatDoor
section
open Go.RowKit Go.Proofs.YtnmahobjmpdkdaaGreatDoorW.PrintWords
def Ig(w:World)(T:List UInt8)(ss is rs:List Int)(each:Int)(e:Ending)(W:World):Prop :=
 ∃ va vs vi vr:Value,e=.returned (.tuple #[.agg #[va,.int .i64 (AH T).1.lock,.int .i64 (AH T).1.unlock,vs,vi,.int .i64 each,vr],.bool true]) ∧
  BM W w.heap.size va (AH T).1.l∧HRow W vs 3 (ss.map (Value.int .i64))∧HRow W vi 22 (is.map (Value.int .u32))∧HRow W vr 22 (rs.map (Value.int .u32))∧Below w.heap.size w W
def HP(w:World)(e:Ending)(W:World):Prop :=
 e=.returned (.tuple #[.agg #[.slice none 0 0,.int .i64 0,.int .i64 0,.slice none 0 0,.slice none 0 0,.int .i64 0,.slice none 0 0],.bool false])∧Below w.heap.size w W
theorem IB(t:List UInt8)(w:World)(ht:t.length≤90000):Calls Tryz.prog 38 #[.string ⟨t.toArray⟩] w (YH w (AH t)):=Rb t w ht
structure Mk (w W:World) (N p:Nat) (B C D:Option Addr) (n1 n2 n3 k1 k2 k3:Nat) (each:Int):Prop where
 b:Below N w W
 c:W.heap[N]?=some (.cells #[.slice none 0 0,.int .i64 0,.int .i64 0,.slice none 0 0,.slice none 0 0,.int .i64 0,.slice none 0 0] 30 (0,0))
 q:W.heap[p]?=some (.cells #[.slice none 0 0,.int .i64 0,.int .i64 0,.slice B n1 k1,.slice C n2 k2,.int .i64 each,.slice D n3 k3] 30 (0,0))
 ne:N<p
theorem Gl{w W:World}{N:Nat}(hb:Below N w W)(h:W.heap[N]?=some (.cells #[.slice none 0 0,.int .i64 0,.int .i64 0,.slice none 0 0,.slice none 0 0,.int .i64 0,.slice none 0 0] 30 (0,0))):∀ W',
  W'=((((((W.setCell ⟨N,0,none⟩ (.slice none 0 0)).setCell ⟨N,1,none⟩ (.int .i64 0)).setCell ⟨N,2,none⟩ (.int .i64 0)).setCell ⟨N,3,none⟩ (.slice none 0 0)).setCell ⟨N,4,none⟩ (.slice none 0 0)).setCell ⟨N,5,none⟩ (.int .i64 0)).setCell ⟨N,6,none⟩ (.slice none 0 0) →
  W'.heap[N]?=some (.cells #[.slice none 0 0,.int .i64 0,.int .i64 0,.slice none 0 0,.slice none 0 0,.int .i64 0,.slice none 0 0] 30 (0,0))∧Below N w W':=by
 rintro W' rfl;have sb:∀ (W:World) (i:Nat) (x:Value),Below N w W→Below N w (W.setCell ⟨N,i,none⟩ x):=fun W i x h=>h.setCell (Nl _) x
 exact⟨Bs (Bs (Bs (Bs (Bs (Bs (Bs h 0 _) 1 _) 2 _) 3 _) 4 _) 5 _) 6 _,sb _ _ _ (sb _ _ _ (sb _ _ _ (sb _ _ _ (sb _ _ _ (sb _ _ _ (sb _ _ _ hb))))))⟩
section
variable {w W W1:World} {N p:Nat} {B C D:Option Addr} {n1 n2 n3 k1 k2 k3:Nat} {each:Int}
theorem Mk.keep(h:Mk w W N p B C D n1 n2 n3 k1 k2 k3 each)(hb:Below W.heap.size W W1):Mk w W1 N p B C D n1 n2 n3 k1 k2 k3 each :=
 ⟨h.b.trans (hb.mono (Nat.le_of_lt (Bl h.c))),Bk hb h.c,Bk hb h.q,h.ne⟩
theorem Mk.fin(h:Mk w W N p B C D n1 n2 n3 k1 k2 k3 each){va:Value}{xs:List In}(l u:Int)(hr:BM W N va xs):∀ W',
  W'=(((((((((W.setCell ⟨p,0,none⟩ va).setCell ⟨p,1,none⟩ (.int .i64 l)).setCell ⟨p,2,none⟩ (.int .i64 u)).setCell ⟨N,0,none⟩ va).setCell ⟨N,1,none⟩ (.int .i64 l)).setCell ⟨N,2,none⟩ (.int .i64 u)).setCell ⟨N,3,none⟩ (.slice B n1 k1)).setCell ⟨N,4,none⟩ (.slice C n2 k2)).setCell ⟨N,5,none⟩ (.int .i64 each)).setCell ⟨N,6,none⟩ (.slice D n3 k3) →
  W'.heap[N]?=some (.cells #[va,.int .i64 l,.int .i64 u,.slice B n1 k1,.slice C n2 k2,.int .i64 each,.slice D n3 k3] 30 (0,0))∧BM W' N va xs∧Below N w W':=by
 rintro W' rfl;have hne:=h.ne;have sb:∀ (W:World) (g i:Nat) (x:Value),N≤g→Below N w W→Below N w (W.setCell ⟨g,i,none⟩ x):=fun W g i x hg h=>h.setCell (show N≤g from hg) x
 have far:∀ {W:World} {i:Nat} {o:Obj} (v:Value),W.heap[N]?=some o→(W.setCell ⟨p,i,none⟩ v).heap[N]?=some o:=fun v hj=>(Below.heap_setCell _ ⟨_,_,none⟩ v _ (show N≠p by omega)).trans hj
 have p0:=h.q;have p1:=Bs p0 0 va;have p2:=Bs p1 1 (.int .i64 l);have n0:=far (i:=2) (.int .i64 u) (far (i:=1) (.int .i64 l) (far (i:=0) va h.c));have m1:=Bs n0 0 va;have m2:=Bs m1 1 (.int .i64 l);have m3:=Bs m2 2 (.int .i64 u);have m4:=Bs m3 3 (.slice B n1 k1);have m5:=Bs m4 4 (.slice C n2 k2);have m6:=Bs m5 5 (.int .i64 each);have r3:=Rs (Rs (Rs hr p0 (by decide) 0 va) p1 (by decide) 1 (.int .i64 l)) p2 (by decide) 2 (.int .i64 u);have r6:=Rs (Rs (Rs r3 n0 (by decide) 0 va) m1 (by decide) 1 (.int .i64 l)) m2 (by decide) 2 (.int .i64 u);have b3:=sb _ p 2 (.int .i64 u) (by omega) (sb _ p 1 (.int .i64 l) (by omega) (sb _ p 0 va (by omega) h.b));have b6:=sb _ N 2 (.int .i64 u) (by omega) (sb _ N 1 (.int .i64 l) (by omega) (sb _ N 0 va (by omega) b3));exact⟨Bs m6 6 (.slice D n3 k3),Rs (Rs (Rs (Rs r6 m3 (by decide) 3 _) m4 (by decide) 4 _) m5 (by decide) 5 _) m6 (by decide) 6 _,
  sb _ N 6 _ (by omega) (sb _ N 5 _ (by omega) (sb _ N 4 _ (by omega) (sb _ N 3 _ (by omega) b6)))⟩
end
section
variable {ops:Array Oper} {o:Oper} {a:Act} {K:Act→World→Prop} {Q:Exit→Act→World→Prop} {E:Prop} {W:World}
theorem Js(hgd:o.guard=none)(ho:o.op=.alloc 30)
  (h:∀ g W1,Below W.heap.size W W1→W.heap.size≤g→W1.heap[g]?=some (.cells #[.slice none 0 0,.int .i64 0,.int .i64 0,.slice none 0 0,.slice none 0 0,.int .i64 0,.slice none 0 0] 30 (0,0))→K (a.put o.dst (.pointer (some ⟨g,0,none⟩))) W1) :
  if Region.wanted o (yielded ops a.tmps)=true then Oper.wp Tryz.prog o a W K Q else E:=by
 rw[if_pos (by simp[Region.wanted,hgd])];have:=h _ _ (Bw W (.cells #[.slice none 0 0,.int .i64 0,.int .i64 0,.slice none 0 0,.slice none 0 0,.int .i64 0,.slice none 0 0] 30)) (Nl _) (Bv W _);obtain⟨dst,op,type,pos,after,guard⟩:=o;dsimp only at ho;subst ho;go_simp
 exact this
end
theorem Mk.far{w W:World}{N p g i:Nat}{B C D:Option Addr}{n1 n2 n3 k1 k2 k3:Nat}{each:Int}{cs:Array Value}{t:TypeId}(h:Mk w W N p B C D n1 n2 n3 k1 k2 k3 each)(v:Value)(hg:N≤g)(hc:W.heap[g]?=some (.cells cs t (0,0)))(ht:t≠30) :
  Mk w (W.setCell ⟨g,i,none⟩ v) N p B C D n1 n2 n3 k1 k2 k3 each:=by
 have ne:∀ {j:Nat} {cs':Array Value},W.heap[j]?=some (.cells cs' 30 (0,0))→j≠g:=fun hj e=>by
  subst e;rw[hc]at hj;cases hj;exact ht rfl
 exact⟨h.b.setCell (show N≤g from hg) v,(Below.heap_setCell W ⟨g,i,none⟩ v _ (ne h.c)).trans h.c,(Below.heap_setCell W ⟨g,i,none⟩ v _ (ne h.q)).trans h.q,h.ne⟩
theorem Mk.finH{w W:World}{N p:Nat}{B C D:Option Addr}{n1 n2 n3 k1 k2 k3:Nat}{each:Int}(h:Mk w W N p B C D n1 n2 n3 k1 k2 k3 each){t:TypeId}{v va:Value}{cs:List Value}(l u:Int)(hr:HRow W v t cs)(ht:t≠30):∀ W',
  W'=(((((((((W.setCell ⟨p,0,none⟩ va).setCell ⟨p,1,none⟩ (.int .i64 l)).setCell ⟨p,2,none⟩ (.int .i64 u)).setCell ⟨N,0,none⟩ va).setCell ⟨N,1,none⟩ (.int .i64 l)).setCell ⟨N,2,none⟩ (.int .i64 u)).setCell ⟨N,3,none⟩ (.slice B n1 k1)).setCell ⟨N,4,none⟩ (.slice C n2 k2)).setCell ⟨N,5,none⟩ (.int .i64 each)).setCell ⟨N,6,none⟩ (.slice D n3 k3) →
  HRow W' v t cs:=by
 rintro W' rfl;have hne:=h.ne;have far:∀ {W:World} {i:Nat} {o:Obj} (v:Value),W.heap[N]?=some o→(W.setCell ⟨p,i,none⟩ v).heap[N]?=some o:=fun v hj=>(Below.heap_setCell _ ⟨_,_,none⟩ v _ (show N≠p by omega)).trans hj
 have p0:=h.q;have p1:=Bs p0 0 va;have p2:=Bs p1 1 (.int .i64 l);have n0:=far (i:=2) (.int .i64 u) (far (i:=1) (.int .i64 l) (far (i:=0) va h.c));have m1:=Bs n0 0 va;have m2:=Bs m1 1 (.int .i64 l);have m3:=Bs m2 2 (.int .i64 u);have m4:=Bs m3 3 (.slice B n1 k1);have m5:=Bs m4 4 (.slice C n2 k2);have m6:=Bs m5 5 (.int .i64 each);have r1:=hr.far (i:=0) (x:=va) p0 ht;have r2:=r1.far (i:=1) (x:=.int .i64 l) p1 ht;have r3:=r2.far (i:=2) (x:=.int .i64 u) p2 ht;have r4:=r3.far (i:=0) (x:=va) n0 ht;have r5:=r4.far (i:=1) (x:=.int .i64 l) m1 ht;have r6:=r5.far (i:=2) (x:=.int .i64 u) m2 ht;have r7:=r6.far (i:=3) (x:=.slice B n1 k1) m3 ht;have r8:=r7.far (i:=4) (x:=.slice C n2 k2) m4 ht;have r9:=r8.far (i:=5) (x:=.int .i64 each) m5 ht;exact r9.far (i:=6) (x:=.slice D n3 k3) m6 ht
end
end Go.Proofs.YtnmahobjmpdkdaaGreatDoor
