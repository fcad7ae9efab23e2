/- Parts: SpecR, RefK42. -/
import Derived.Test.YtjjpiefgdggghaaGreatDoorK05
import Derived.Test.YtjjpiefgdggghaaGreatDoorK38
import Derived.Test.YtjjpiefgdggghaaGreatDoorK47
import Derived.Test.YtjjpiefgdggghaaGreatDoorK12
import Derived.Test.YtjjpiefgdggghaaGreatDoorK39
set_option linter.unusedVariables false
set_option linter.unusedSimpArgs false
set_option maxRecDepth 100000
set_option maxHeartbeats 40000000
namespace Go.Proofs.YtjjpiefgdggghaaGreatDoor
section
open Go.RowKit Go.Proofs.YtjjpiefgdggghaaGreatDoorW.PrintWords
def Ig(w:World)(T:List UInt8)(ss is rs:List Int)(each:Int)(e:Ending)(W:World):Prop :=
 ∃ va vs vi vr:Value,e=.returned (.tuple #[.agg #[va,.int .i64 (AH T).1.lock,.int .i64 (AH T).1.unlock,vs,vi,.int .i64 each,vr],.bool true]) ∧
  BM W w.heap.size va (AH T).1.l∧HRow W vs 3 (ss.map (Value.int .i64))∧HRow W vi 45 (is.map (Value.int .u32))∧HRow W vr 45 (rs.map (Value.int .u32))∧Below w.heap.size w W
def HP(w:World)(e:Ending)(W:World):Prop :=
 e=.returned (.tuple #[.agg #[.slice none 0 0,.int .i64 0,.int .i64 0,.slice none 0 0,.slice none 0 0,.int .i64 0,.slice none 0 0],.bool false])∧Below w.heap.size w W
theorem IB(t:List UInt8)(w:World)(ht:t.length≤90000):Calls Tryz.prog 33 #[.string ⟨t.toArray⟩] w (YH w (AH t)):=Rb t w ht
structure Mk (w W:World) (N p:Nat) (B C D:Option Addr) (n1 n2 n3 k1 k2 k3:Nat) (each:Int):Prop where
 b:Below N w W
 c:W.heap[N]?=some (.cells #[.slice none 0 0,.int .i64 0,.int .i64 0,.slice none 0 0,.slice none 0 0,.int .i64 0,.slice none 0 0] 29 (0,0))
 q:W.heap[p]?=some (.cells #[.slice none 0 0,.int .i64 0,.int .i64 0,.slice B n1 k1,.slice C n2 k2,.int .i64 each,.slice D n3 k3] 29 (0,0))
 ne:N<p
theorem Gl{w W:World}{N:Nat}(hb:Below N w W)(h:W.heap[N]?=some (.cells #[.slice none 0 0,.int .i64 0,.int .i64 0,.slice none 0 0,.slice none 0 0,.int .i64 0,.slice none 0 0] 29 (0,0))):∀ W',
  W'=((((((W.setCell ⟨N,0,none⟩ (.slice none 0 0)).setCell ⟨N,1,none⟩ (.int .i64 0)).setCell ⟨N,2,none⟩ (.int .i64 0)).setCell ⟨N,3,none⟩ (.slice none 0 0)).setCell ⟨N,4,none⟩ (.slice none 0 0)).setCell ⟨N,5,none⟩ (.int .i64 0)).setCell ⟨N,6,none⟩ (.slice none 0 0) →
  W'.heap[N]?=some (.cells #[.slice none 0 0,.int .i64 0,.int .i64 0,.slice none 0 0,.slice none 0 0,.int .i64 0,.slice none 0 0] 29 (0,0))∧Below N w W':=by
 rintro W' rfl;have sb:∀ (W:World) (i:Nat) (x:Value),Below N w W→Below N w (W.setCell ⟨N,i,none⟩ x):=fun W i x h=>h.setCell (Nl _) x
 exact⟨Bs (Bs (Bs (Bs (Bs (Bs (Bs h 0 _) 1 _) 2 _) 3 _) 4 _) 5 _) 6 _,sb _ _ _ (sb _ _ _ (sb _ _ _ (sb _ _ _ (sb _ _ _ (sb _ _ _ (sb _ _ _ hb))))))⟩
section
variable {w W W1:World} {N p:Nat} {B C D:Option Addr} {n1 n2 n3 k1 k2 k3:Nat} {each:Int}
theorem Mk.keep(h:Mk w W N p B C D n1 n2 n3 k1 k2 k3 each)(hb:Below W.heap.size W W1):Mk w W1 N p B C D n1 n2 n3 k1 k2 k3 each :=
 ⟨h.b.trans (hb.mono (Nat.le_of_lt (Bl h.c))),Bk hb h.c,Bk hb h.q,h.ne⟩
theorem Mk.fin(h:Mk w W N p B C D n1 n2 n3 k1 k2 k3 each){va:Value}{xs:List In}(l u:Int)(hr:BM W N va xs):∀ W',
  W'=(((((((((W.setCell ⟨p,0,none⟩ va).setCell ⟨p,1,none⟩ (.int .i64 l)).setCell ⟨p,2,none⟩ (.int .i64 u)).setCell ⟨N,0,none⟩ va).setCell ⟨N,1,none⟩ (.int .i64 l)).setCell ⟨N,2,none⟩ (.int .i64 u)).setCell ⟨N,3,none⟩ (.slice B n1 k1)).setCell ⟨N,4,none⟩ (.slice C n2 k2)).setCell ⟨N,5,none⟩ (.int .i64 each)).setCell ⟨N,6,none⟩ (.slice D n3 k3) →
  W'.heap[N]?=some (.cells #[va,.int .i64 l,.int .i64 u,.slice B n1 k1,.slice C n2 k2,.int .i64 each,.slice D n3 k3] 29 (0,0))∧BM W' N va xs∧Below N w W':=by
 rintro W' rfl;have hne:=h.ne;have sb:∀ (W:World) (g i:Nat) (x:Value),N≤g→Below N w W→Below N w (W.setCell ⟨g,i,none⟩ x):=fun W g i x hg h=>h.setCell (show N≤g from hg) x
 have far:∀ {W:World} {i:Nat} {o:Obj} (v:Value),W.heap[N]?=some o→(W.setCell ⟨p,i,none⟩ v).heap[N]?=some o:=fun v hj=>(Below.heap_setCell _ ⟨_,_,none⟩ v _ (show N≠p by omega)).trans hj
 have p0:=h.q;have p1:=Bs p0 0 va;have p2:=Bs p1 1 (.int .i64 l);have n0:=far (i:=2) (.int .i64 u) (far (i:=1) (.int .i64 l) (far (i:=0) va h.c));have m1:=Bs n0 0 va;have m2:=Bs m1 1 (.int .i64 l);have m3:=Bs m2 2 (.int .i64 u);have m4:=Bs m3 3 (.slice B n1 k1);have m5:=Bs m4 4 (.slice C n2 k2);have m6:=Bs m5 5 (.int .i64 each);have r3:=Rs (Rs (Rs hr p0 (by decide) 0 va) p1 (by decide) 1 (.int .i64 l)) p2 (by decide) 2 (.int .i64 u);have r6:=Rs (Rs (Rs r3 n0 (by decide) 0 va) m1 (by decide) 1 (.int .i64 l)) m2 (by decide) 2 (.int .i64 u);have b3:=sb _ p 2 (.int .i64 u) (by omega) (sb _ p 1 (.int .i64 l) (by omega) (sb _ p 0 va (by omega) h.b));have b6:=sb _ N 2 (.int .i64 u) (by omega) (sb _ N 1 (.int .i64 l) (by omega) (sb _ N 0 va (by omega) b3));exact⟨Bs m6 6 (.slice D n3 k3),Rs (Rs (Rs (Rs r6 m3 (by decide) 3 _) m4 (by decide) 4 _) m5 (by decide) 5 _) m6 (by decide) 6 _,
  sb _ N 6 _ (by omega) (sb _ N 5 _ (by omega) (sb _ N 4 _ (by omega) (sb _ N 3 _ (by omega) b6)))⟩
end
section
variable {ops:Array Oper} {o:Oper} {a:Act} {K:Act→World→Prop} {Q:Exit→Act→World→Prop} {E:Prop} {W:World}
theorem Js(hgd:o.guard=none)(ho:o.op=.alloc 29)
  (h:∀ g W1,Below W.heap.size W W1→W.heap.size≤g→W1.heap[g]?=some (.cells #[.slice none 0 0,.int .i64 0,.int .i64 0,.slice none 0 0,.slice none 0 0,.int .i64 0,.slice none 0 0] 29 (0,0))→K (a.put o.dst (.pointer (some ⟨g,0,none⟩))) W1) :
  if Region.wanted o (yielded ops a.tmps)=true then Oper.wp Tryz.prog o a W K Q else E:=by
 rw[if_pos (by simp[Region.wanted,hgd])];have:=h _ _ (Bw W (.cells #[.slice none 0 0,.int .i64 0,.int .i64 0,.slice none 0 0,.slice none 0 0,.int .i64 0,.slice none 0 0] 29)) (Nl _) (Bv W _);obtain⟨dst,op,type,pos,after,guard⟩:=o;dsimp only at ho;subst ho;go_simp
 exact this
end
theorem Mk.far{w W:World}{N p g i:Nat}{B C D:Option Addr}{n1 n2 n3 k1 k2 k3:Nat}{each:Int}{cs:Array Value}{t:TypeId}(h:Mk w W N p B C D n1 n2 n3 k1 k2 k3 each)(v:Value)(hg:N≤g)(hc:W.heap[g]?=some (.cells cs t (0,0)))(ht:t≠29) :
  Mk w (W.setCell ⟨g,i,none⟩ v) N p B C D n1 n2 n3 k1 k2 k3 each:=by
 have ne:∀ {j:Nat} {cs':Array Value},W.heap[j]?=some (.cells cs' 29 (0,0))→j≠g:=fun hj e=>by
  subst e;rw[hc]at hj;cases hj;exact ht rfl
 exact⟨h.b.setCell (show N≤g from hg) v,(Below.heap_setCell W ⟨g,i,none⟩ v _ (ne h.c)).trans h.c,(Below.heap_setCell W ⟨g,i,none⟩ v _ (ne h.q)).trans h.q,h.ne⟩
theorem Mk.finH{w W:World}{N p:Nat}{B C D:Option Addr}{n1 n2 n3 k1 k2 k3:Nat}{each:Int}(h:Mk w W N p B C D n1 n2 n3 k1 k2 k3 each){t:TypeId}{v va:Value}{cs:List Value}(l u:Int)(hr:HRow W v t cs)(ht:t≠29):∀ W',
  W'=(((((((((W.setCell ⟨p,0,none⟩ va).setCell ⟨p,1,none⟩ (.int .i64 l)).setCell ⟨p,2,none⟩ (.int .i64 u)).setCell ⟨N,0,none⟩ va).setCell ⟨N,1,none⟩ (.int .i64 l)).setCell ⟨N,2,none⟩ (.int .i64 u)).setCell ⟨N,3,none⟩ (.slice B n1 k1)).setCell ⟨N,4,none⟩ (.slice C n2 k2)).setCell ⟨N,5,none⟩ (.int .i64 each)).setCell ⟨N,6,none⟩ (.slice D n3 k3) →
  HRow W' v t cs:=by
 rintro W' rfl;have hne:=h.ne;have far:∀ {W:World} {i:Nat} {o:Obj} (v:Value),W.heap[N]?=some o→(W.setCell ⟨p,i,none⟩ v).heap[N]?=some o:=fun v hj=>(Below.heap_setCell _ ⟨_,_,none⟩ v _ (show N≠p by omega)).trans hj
 have p0:=h.q;have p1:=Bs p0 0 va;have p2:=Bs p1 1 (.int .i64 l);have n0:=far (i:=2) (.int .i64 u) (far (i:=1) (.int .i64 l) (far (i:=0) va h.c));have m1:=Bs n0 0 va;have m2:=Bs m1 1 (.int .i64 l);have m3:=Bs m2 2 (.int .i64 u);have m4:=Bs m3 3 (.slice B n1 k1);have m5:=Bs m4 4 (.slice C n2 k2);have m6:=Bs m5 5 (.int .i64 each);have r1:=hr.far (i:=0) (x:=va) p0 ht;have r2:=r1.far (i:=1) (x:=.int .i64 l) p1 ht;have r3:=r2.far (i:=2) (x:=.int .i64 u) p2 ht;have r4:=r3.far (i:=0) (x:=va) n0 ht;have r5:=r4.far (i:=1) (x:=.int .i64 l) m1 ht;have r6:=r5.far (i:=2) (x:=.int .i64 u) m2 ht;have r7:=r6.far (i:=3) (x:=.slice B n1 k1) m3 ht;have r8:=r7.far (i:=4) (x:=.slice C n2 k2) m4 ht;have r9:=r8.far (i:=5) (x:=.int .i64 each) m5 ht;exact r9.far (i:=6) (x:=.slice D n3 k3) m6 ht
theorem K4(W:World):Calls Tryz.prog 34 #[] W fun e W'=>e=.returned (.string ⟨Du.toArray⟩)∧W'=W:=by
 go_enter Tryz.func34,Tryz.ntmps34;go_wp2;go_ret;exact⟨rfl,rfl⟩
theorem T8(k:Nat)(h1:1≤k)(h2:k≤64)(w:World):Calls Tryz.prog 11 #[.int .i64 (k:Int)] w (Ig w Du [1,1,(k:Int),(k:Int)] (List.replicate (2*k+2) (0:Int)) (List.replicate k (0:Int)) 0):=by
 have hd1:decide ((k:Int)<1)=false:=decide_eq_false (by omega);have hd2:decide ((64:Int)<(k:Int))=false:=decide_eq_false (by omega);have hw0:IntKind.i64.wrap (2*(k:Int))=2*(k:Int):=by rw[IntKind.wrap_i64];omega
 have hw1:IntKind.i64.wrap (2+2*(k:Int))=2+2*(k:Int):=by rw[IntKind.wrap_i64];omega
 have CT:=Az (fun W=>K4 W);have CA:=Az (fun(W:World)=>IB Du W So);have hN:=Bv w (.cells #[.slice none 0 0,.int .i64 0,.int .i64 0,.slice none 0 0,.slice none 0 0,.int .i64 0,.slice none 0 0] 29);have hb0:=Bw w (.cells #[.slice none 0 0,.int .i64 0,.int .i64 0,.slice none 0 0,.slice none 0 0,.int .i64 0,.slice none 0 0] 29);obtain⟨w0,hw0⟩:∃ y,w.alloc (.cells #[.slice none 0 0,.int .i64 0,.int .i64 0,.slice none 0 0,.slice none 0 0,.int .i64 0,.slice none 0 0] 29)=y:=⟨_,rfl⟩
 rw[hw0]at hN hb0;go_enter Tryz.func11,Tryz.ntmps11;go_upto_region 3 with fail
 try rw[hw0]
 clear hw0;go_cut [4] (fun v wx=>∃ (p:Nat) (B C D:Option Addr) (n1 n2 k1 k2 k3:Nat),v=.pointer (some ⟨p,0,none⟩)∧Af (Mk w wx w.heap.size p B C D n1 n2 k k1 k2 k3 (0))∧Af (HRow wx (.slice B n1 k1) 3 (([1,1,(k:Int),(k:Int)]).map (Value.int .i64))∧HRow wx (.slice C n2 k2) 45 ((List.replicate (2*k+2) (0:Int)).map (Value.int .u32))∧HRow wx (.slice D k k3) 45 ((List.replicate k (0:Int)).map (Value.int .u32))))
 case first =>
  refine Aw [] (S:=fun _=>True) (by kernel_rfl) trivial (fun _=>?_);replace hN:=Bk (Bd (Below.refl _ w0)) hN;have hBl:=hb0.trans ((Bd (Below.refl _ w0)).mono hb0.size);clear hb0 CT CA;generalize w0.drew=w0 at *;refine tY 0 (fun _=>trivial) ?_;refine tY 1 (fun _=>trivial) ?_;refine tY 3 (fun _=>trivial) ?_;refine tY 4 (fun _=>trivial) ?_;refine tY 5 (fun _=>trivial) ?_;refine tY 7 (fun _=>trivial) ?_;iterate 4
   all_goals try
    refine AM (i:=9) (v:=?_) (An rfl) (by decide +kernel) (fun _ _ _ h=>h) (.inl ⟨by rfl,?_⟩) (fun _=>trivial) ?_;rotate_left
    ·intro w;go_simp;try with_reducible rfl
    try simp only[Act.put,Sa,Sb,Sc]
   all_goals first
    |refine Ab (rs:=[2,6,8,10]) (by decide +kernel) (by simp) (Aa.cons (An rfl) (fun K hK=>?_) (Aa.cons (An rfl) (fun K hK=>?_) (Aa.cons (An rfl) (fun K hK=>?_) (Aa.cons (An rfl) (fun K hK=>?_) Aa.nil))))
    |refine Ab (rs:=[2,6,8]) (by decide +kernel) (by simp) (Aa.cons (An rfl) (fun K hK=>?_) (Aa.cons (An rfl) (fun K hK=>?_) (Aa.cons (An rfl) (fun K hK=>?_) Aa.nil)))
    |refine Ab (rs:=[2,6,10]) (by decide +kernel) (by simp) (Aa.cons (An rfl) (fun K hK=>?_) (Aa.cons (An rfl) (fun K hK=>?_) (Aa.cons (An rfl) (fun K hK=>?_) Aa.nil)))
    |refine Ab (rs:=[2,8,10]) (by decide +kernel) (by simp) (Aa.cons (An rfl) (fun K hK=>?_) (Aa.cons (An rfl) (fun K hK=>?_) (Aa.cons (An rfl) (fun K hK=>?_) Aa.nil)))
    |refine Ab (rs:=[6,8,10]) (by decide +kernel) (by simp) (Aa.cons (An rfl) (fun K hK=>?_) (Aa.cons (An rfl) (fun K hK=>?_) (Aa.cons (An rfl) (fun K hK=>?_) Aa.nil)))
    |refine Ab (rs:=[2,6]) (by decide +kernel) (by simp) (Aa.cons (An rfl) (fun K hK=>?_) (Aa.cons (An rfl) (fun K hK=>?_) Aa.nil))
    |refine Ab (rs:=[2,8]) (by decide +kernel) (by simp) (Aa.cons (An rfl) (fun K hK=>?_) (Aa.cons (An rfl) (fun K hK=>?_) Aa.nil))
    |refine Ab (rs:=[2,10]) (by decide +kernel) (by simp) (Aa.cons (An rfl) (fun K hK=>?_) (Aa.cons (An rfl) (fun K hK=>?_) Aa.nil))
    |refine Ab (rs:=[6,8]) (by decide +kernel) (by simp) (Aa.cons (An rfl) (fun K hK=>?_) (Aa.cons (An rfl) (fun K hK=>?_) Aa.nil))
    |refine Ab (rs:=[6,10]) (by decide +kernel) (by simp) (Aa.cons (An rfl) (fun K hK=>?_) (Aa.cons (An rfl) (fun K hK=>?_) Aa.nil))
    |refine Ab (rs:=[8,10]) (by decide +kernel) (by simp) (Aa.cons (An rfl) (fun K hK=>?_) (Aa.cons (An rfl) (fun K hK=>?_) Aa.nil))
    |refine Ab (rs:=[2]) (by decide +kernel) (by simp) (Aa.cons (An rfl) (fun K hK=>?_) Aa.nil)
    |refine Ab (rs:=[6]) (by decide +kernel) (by simp) (Aa.cons (An rfl) (fun K hK=>?_) Aa.nil)
    |refine Ab (rs:=[8]) (by decide +kernel) (by simp) (Aa.cons (An rfl) (fun K hK=>?_) Aa.nil)
    |refine Ab (rs:=[10]) (by decide +kernel) (by simp) (Aa.cons (An rfl) (fun K hK=>?_) Aa.nil)
   all_goals first
    |(refine step_h4 rfl _ _ _ _ rfl _ _ _ _ rfl rfl rfl rfl (fun gB wL hb hBk=>?_);replace hN:=Bk hb hN;replace hBl:=hBl.trans (hb.mono hBl.size);(try replace hM:=Bk hb hM);(try replace hR:=Bk hb hR);(try replace hA:=Bk hb hA);clear hb)
    |(refine step_mkz rfl _ rfl _ rfl (2*k+2) (by omega) (by omega) (fun gM wL csM hb hgM hM hsM=>?_);(try have hMR:gM≠gR:=Nat.ne_of_gt (Nat.lt_of_lt_of_le (Bl hR) hgM));have hNM:=Nat.le_trans (Nat.le_of_lt (Bl hN)) hgM;replace hN:=Bk hb hN;replace hBl:=hBl.trans (hb.mono hBl.size);(try replace hBk:=Bk hb hBk);(try replace hR:=Bk hb hR);(try replace hA:=Bk hb hA);clear hb)
    |(refine step_mkz rfl _ rfl _ rfl k (by omega) (by omega) (fun gR wL csR hb hgR hR hsR=>?_);(try have hMR:gM≠gR:=Nat.ne_of_lt (Nat.lt_of_lt_of_le (Bl hM) hgR));replace hN:=Bk hb hN;replace hBl:=hBl.trans (hb.mono hBl.size);(try replace hBk:=Bk hb hBk);(try replace hM:=Bk hb hM);(try replace hA:=Bk hb hA);clear hb)
    |(refine Js rfl rfl (fun p wL hb hgA hA=>?_);have hNp:=Nat.lt_of_lt_of_le (Bl hN) hgA;replace hN:=Bk hb hN;replace hBl:=hBl.trans (hb.mono hBl.size);(try replace hBk:=Bk hb hBk);(try replace hM:=Bk hb hM);(try replace hR:=Bk hb hR);clear hb)
   all_goals refine hK.out _ _ (fun _=>trivial) (fun _=>?_)
   all_goals clear hK K
   all_goals try simp only[Act.put,Sa,Sb,Sc]
  all_goals try
   refine AM (i:=9) (v:=?_) (An rfl) (by decide +kernel) (fun _ _ _ h=>h) (.inl ⟨by rfl,?_⟩) (fun _=>trivial) ?_;rotate_left
   ·intro w;go_simp;try with_reducible rfl
   try simp only[Act.put,Sa,Sb,Sc]
  all_goals (
   have hMp:gM≠p:=fun e=>by subst e;rw[hA]at hM;cases hM
   have hfin:=Az (EX hBl (Nat.le_of_lt hNp) hA (.slice none 0 0) (.int .i64 0) (.int .i64 0) (.slice (some ⟨gB,0,none⟩) 4 4) (.slice (some ⟨gM,0,none⟩) (2*k+2) (2*k+2)) (.int .i64 0) (.slice (some ⟨gR,0,none⟩) k k));have c0:wL.cell? ⟨p,0,none⟩=some (.slice none 0 0):=(Bc hA 0).trans rfl;have c1:wL.cell? ⟨p,1,none⟩=some (.int .i64 0):=(Bc hA 1).trans rfl;have c2:wL.cell? ⟨p,2,none⟩=some (.int .i64 0):=(Bc hA 2).trans rfl;have c3:wL.cell? ⟨p,3,none⟩=some (.slice none 0 0):=(Bc hA 3).trans rfl;have c4:wL.cell? ⟨p,4,none⟩=some (.slice none 0 0):=(Bc hA 4).trans rfl;have c5:wL.cell? ⟨p,5,none⟩=some (.int .i64 0):=(Bc hA 5).trans rfl;have c6:wL.cell? ⟨p,6,none⟩=some (.slice none 0 0):=(Bc hA 6).trans rfl;have f0:=Bf hA 0;have f1:=Bf hA 1;have f2:=Bf hA 2;have f3:=Bf hA 3;have f4:=Bf hA 4;have f5:=Bf hA 5;have f6:=Bf hA 6;have z0:p<wL.heap.size:=Bl hA;have r1:=HRow.new (([1,1,(k:Int),(k:Int)]).map (Value.int .i64)) hBk rfl (by simp) (fun j u hj=>by simpa using hj);have r2:=HRow.zeros hM (by omega) hsM.2;have r3:=HRow.zeros hR (by omega) hsR.2;have q1:=Az (seven_H hA r1 (by decide) (.slice none 0 0) (.int .i64 0) (.int .i64 0) (.slice (some ⟨gB,0,none⟩) 4 4) (.slice (some ⟨gM,0,none⟩) (2*k+2) (2*k+2)) (.int .i64 0) (.slice (some ⟨gR,0,none⟩) k k));have q2:=Az (seven_H hA r2 (by decide) (.slice none 0 0) (.int .i64 0) (.int .i64 0) (.slice (some ⟨gB,0,none⟩) 4 4) (.slice (some ⟨gM,0,none⟩) (2*k+2) (2*k+2)) (.int .i64 0) (.slice (some ⟨gR,0,none⟩) k k));have q3:=Az (seven_H hA r3 (by decide) (.slice none 0 0) (.int .i64 0) (.int .i64 0) (.slice (some ⟨gB,0,none⟩) 4 4) (.slice (some ⟨gM,0,none⟩) (2*k+2) (2*k+2)) (.int .i64 0) (.slice (some ⟨gR,0,none⟩) k k));have hsZ:=hsM.1;clear r1 r2 r3 hBk hR hsM hsR;replace hN:=Az hN;replace hM:=Az hM;replace hNp:=Az hNp;replace hMp:=Az hMp;clear hA hBl;refine Ab (rs:=[11]) (by kernel_rfl) (by simp) ?_;refine Aa.cons (An rfl) (fun K hK=>?_) Aa.nil;go_simp
   go_wp2_with fail
   refine hK.out _ _ (fun _=>trivial) (fun _=>?_);try simp only[Act.put,Sa,Sb,Sc]
   refine A4 (by kernel_rfl) ?_ _;go_wp2;go_meet
   obtain⟨g1,g2,g3⟩:=hfin.out _ rfl;exact⟨p,some ⟨gB,0,none⟩,some ⟨gM,0,none⟩,some ⟨gR,0,none⟩,4,2*k+2,4,2*k+2,k,rfl,⟨⟨g2,(g3 _ (Nat.ne_of_lt hNp.out)).trans hN.out,g1,hNp.out⟩⟩,⟨q1.out _ rfl,q2.out _ rfl,q3.out _ rfl⟩⟩)
 case rest =>
  obtain⟨p,B,C,D,n1,n2,k1,k2,k3,rfl,hB,hH⟩:=hcut;go_wp2_with fail
  refine(CT.out _).mono ?_;rintro e w1 ⟨rfl,rfl⟩;go_wp2_with fail
  refine(CA.out _).mono ?_;rintro e w2 ⟨va,rfl,hr,hb⟩;obtain⟨A,mm,c,rfl⟩:=AB hr;have hq:=Bv w2 (.cells #[.slice A mm c,.int .i64 (AH Du).1.lock,.int .i64 (AH Du).1.unlock] 25);have hb3:=Bw w2 (.cells #[.slice A mm c,.int .i64 (AH Du).1.lock,.int .i64 (AH Du).1.unlock] 25);have hbb:=hb.trans (hb3.mono hb.size);have hB2:=hB.out.keep hbb;have hr2:=BM.mono (xs:=(AH Du).1.l) (Om hr (fun k hk=>hb3.block k (Ol hr k hk))) hB.out.b.size;have x1:=Az (hB2.finH (va:=.slice A mm c) (AH Du).1.lock (AH Du).1.unlock (hH.out.1.keep hbb) (by decide));have x2:=Az (hB2.finH (va:=.slice A mm c) (AH Du).1.lock (AH Du).1.unlock (hH.out.2.1.keep hbb) (by decide));have x3:=Az (hB2.finH (va:=.slice A mm c) (AH Du).1.lock (AH Du).1.unlock (hH.out.2.2.keep hbb) (by decide));have hfin:=Az (hB2.fin (AH Du).1.lock (AH Du).1.unlock hr2);obtain⟨w3,hw3⟩:∃ y,w2.alloc (.cells #[.slice A mm c,.int .i64 (AH Du).1.lock,.int .i64 (AH Du).1.unlock] 25)=y:=⟨_,rfl⟩
  obtain⟨q,hqe⟩:∃ y,w2.heap.size=y:=⟨_,rfl⟩
  rw[hw3]at hq hB2 x1 x2 x3 hfin;rw[hqe]at hq;have qp:q≠p:=hqe▸Nat.ne_of_gt (Nat.lt_of_lt_of_le (Bl hB.out.q) hb.size);have qN:q≠w.heap.size:=hqe▸Nat.ne_of_gt (Nat.lt_of_lt_of_le (Bl hB.out.c) hb.size);have t0:w3.cell? ⟨q,0,none⟩=some (.slice A mm c):=(Bc hq 0).trans rfl;have t1:w3.cell? ⟨q,1,none⟩=some (.int .i64 (AH Du).1.lock):=(Bc hq 1).trans rfl;have t2:w3.cell? ⟨q,2,none⟩=some (.int .i64 (AH Du).1.unlock):=(Bc hq 2).trans rfl;have c0:w3.cell? ⟨p,0,none⟩=some (.slice none 0 0):=(Bc hB2.q 0).trans rfl;have c1:w3.cell? ⟨p,1,none⟩=some (.int .i64 0):=(Bc hB2.q 1).trans rfl;have c2:w3.cell? ⟨p,2,none⟩=some (.int .i64 0):=(Bc hB2.q 2).trans rfl;have c3:w3.cell? ⟨p,3,none⟩=some (.slice B n1 k1):=(Bc hB2.q 3).trans rfl;have c4:w3.cell? ⟨p,4,none⟩=some (.slice C n2 k2):=(Bc hB2.q 4).trans rfl;have c5:w3.cell? ⟨p,5,none⟩=some (.int .i64 0):=(Bc hB2.q 5).trans rfl;have c6:w3.cell? ⟨p,6,none⟩=some (.slice D k k3):=(Bc hB2.q 6).trans rfl;have f0:=Bf hB2.q 0;have f1:=Bf hB2.q 1;have f2:=Bf hB2.q 2;have d0:w3.cell? ⟨w.heap.size,0,none⟩=some (.slice none 0 0):=(Bc hB2.c 0).trans rfl;have d1:w3.cell? ⟨w.heap.size,1,none⟩=some (.int .i64 0):=(Bc hB2.c 1).trans rfl;have d2:w3.cell? ⟨w.heap.size,2,none⟩=some (.int .i64 0):=(Bc hB2.c 2).trans rfl;have d3:w3.cell? ⟨w.heap.size,3,none⟩=some (.slice none 0 0):=(Bc hB2.c 3).trans rfl;have d4:w3.cell? ⟨w.heap.size,4,none⟩=some (.slice none 0 0):=(Bc hB2.c 4).trans rfl;have d5:w3.cell? ⟨w.heap.size,5,none⟩=some (.int .i64 0):=(Bc hB2.c 5).trans rfl;have d6:w3.cell? ⟨w.heap.size,6,none⟩=some (.slice none 0 0):=(Bc hB2.c 6).trans rfl;have e0:=Bf hB2.c 0;have e1:=Bf hB2.c 1;have e2:=Bf hB2.c 2;have e3:=Bf hB2.c 3;have e4:=Bf hB2.c 4;have e5:=Bf hB2.c 5;have e6:=Bf hB2.c 6;have z0:w.heap.size<w3.heap.size:=Bl hB2.c;have zp:p<w3.heap.size:=Bl hB2.q;have ne0:¬w.heap.size=p:=Nat.ne_of_lt hB2.ne;have ne1:¬p=w.heap.size:=Nat.ne_of_gt hB2.ne;have ne2:¬p=q:=fun e=>qp e.symm
  have ne3:¬w.heap.size=q:=fun e=>qN e.symm
  clear hH hB hB2 hr hr2 hb hb3 hbb hq CT CA;go_upto_region 5 with fail
  try rw[hw3]
  try rw[hqe]
  clear hw3 hqe;go_wp2;obtain⟨g1,g2,g3⟩:=hfin.out _ rfl;refine bodyPost_ret (AD rfl _ _ w.heap.size 29 #[.slice A mm c,.int .i64 (AH Du).1.lock,.int .i64 (AH Du).1.unlock,.slice B n1 k1,.slice C n2 k2,.int .i64 0,.slice D k k3] (0,0) _ rfl g1 Tryz.underlying29 rfl (by kernel_rfl)) rfl ⟨_,_,_,_,rfl,g2,x1.out _ rfl,x2.out _ rfl,x3.out _ rfl,g3⟩
theorem Vn(n:Int)(h:n<1∨64<n)(w:World):Calls Tryz.prog 11 #[.int .i64 n] w (HP w):=by
 have hN:=Bv w (.cells #[.slice none 0 0,.int .i64 0,.int .i64 0,.slice none 0 0,.slice none 0 0,.int .i64 0,.slice none 0 0] 29);have hb0:=Bw w (.cells #[.slice none 0 0,.int .i64 0,.int .i64 0,.slice none 0 0,.slice none 0 0,.int .i64 0,.slice none 0 0] 29);have hfin:=Gl hb0 hN;obtain⟨w0,hw0⟩:∃ y,w.alloc (.cells #[.slice none 0 0,.int .i64 0,.int .i64 0,.slice none 0 0,.slice none 0 0,.int .i64 0,.slice none 0 0] 29)=y:=⟨_,rfl⟩
 rw[hw0]at hfin hN;have d0:w0.cell? ⟨w.heap.size,0,none⟩=some (.slice none 0 0):=(Bc hN 0).trans rfl;have d1:w0.cell? ⟨w.heap.size,1,none⟩=some (.int .i64 0):=(Bc hN 1).trans rfl;have d2:w0.cell? ⟨w.heap.size,2,none⟩=some (.int .i64 0):=(Bc hN 2).trans rfl;have d3:w0.cell? ⟨w.heap.size,3,none⟩=some (.slice none 0 0):=(Bc hN 3).trans rfl;have d4:w0.cell? ⟨w.heap.size,4,none⟩=some (.slice none 0 0):=(Bc hN 4).trans rfl;have d5:w0.cell? ⟨w.heap.size,5,none⟩=some (.int .i64 0):=(Bc hN 5).trans rfl;have d6:w0.cell? ⟨w.heap.size,6,none⟩=some (.slice none 0 0):=(Bc hN 6).trans rfl;have e0:=Bf hN 0;have e1:=Bf hN 1;have e2:=Bf hN 2;have e3:=Bf hN 3;have e4:=Bf hN 4;have e5:=Bf hN 5;have e6:=Bf hN 6;have z0:w.heap.size<w0.heap.size:=Bl hN;replace hfin:=Az hfin;clear hN hb0;go_enter Tryz.func11,Tryz.ntmps11;go_upto_region 1 with fail
 try rw[hw0]
 clear hw0;go_cut [13] (fun v wx=>v=.bool true∧wx=w0)
 case first =>
  rcases h with h |h
  ·have hd1:decide (n<1)=true:=decide_eq_true h;go_wp2;go_meet
   exact⟨rfl,rfl⟩
  ·have hd1:decide (n<1)=false:=decide_eq_false (by omega);have hd2:decide (64<n)=true:=decide_eq_true h;go_wp2;go_meet
   exact⟨rfl,rfl⟩
 case rest =>
  obtain⟨rfl,rfl⟩:=hcut;go_wp2;obtain⟨g1,g2⟩:=hfin.out _ rfl;refine bodyPost_ret (AD rfl _ _ w.heap.size 29 #[.slice none 0 0,.int .i64 0,.int .i64 0,.slice none 0 0,.slice none 0 0,.int .i64 0,.slice none 0 0] (0,0) _ rfl g1 Tryz.underlying29 rfl (by kernel_rfl)) rfl ⟨rfl,g2⟩
end
end Go.Proofs.YtjjpiefgdggghaaGreatDoor
