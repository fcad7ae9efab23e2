/- Parts: SpecR, RefAnderson. -/
import Derived.Test.YtjjpiefgdggghaaGreatDoorA03
import Derived.Test.YtjjpiefgdggghaaGreatDoorA31
import Derived.Test.YtjjpiefgdggghaaGreatDoorA13
import Derived.Test.YtjjpiefgdggghaaGreatDoorA39
import Derived.Test.YtjjpiefgdggghaaGreatDoorA18
set_option linter.unusedVariables false
set_option linter.unusedSimpArgs false
set_option maxRecDepth 100000
set_option maxHeartbeats 40000000
namespace Go.Proofs.YtjjpiefgdggghaaGreatDoor
section
open Go.RowKit Go.Proofs.YtjjpiefgdggghaaGreatDoorW.PrintWords
def Iy(w:World)(T:List UInt8)(ss is rs:List Int)(each:Int)(e:Ending)(W:World):Prop :=
 ∃ va vs vi vr:Value,e=.returned (.tuple #[.agg #[va,.int .i64 (Cx T).1.lock,.int .i64 (Cx T).1.unlock,vs,vi,.int .i64 each,vr],.bool true]) ∧
  BA W w.heap.size va (Cx T).1.l∧HRow W vs 3 (ss.map (Value.int .i64))∧HRow W vi 45 (is.map (Value.int .u32))∧HRow W vr 45 (rs.map (Value.int .u32))∧Below w.heap.size w W
def TY(w:World)(e:Ending)(W:World):Prop :=
 e=.returned (.tuple #[.agg #[.slice none 0 0,.int .i64 0,.int .i64 0,.slice none 0 0,.slice none 0 0,.int .i64 0,.slice none 0 0],.bool false])∧Below w.heap.size w W
theorem Tk(t:List UInt8)(w:World)(ht:t.length≤90000):Calls Tryz.prog 33 #[.string ⟨t.toArray⟩] w (Ue w (Cx t)):=N0 t w ht
structure RC (w W:World) (N p:Nat) (B C D:Option Addr) (n1 n2 n3 k1 k2 k3:Nat) (each:Int):Prop where
 b:Below N w W
 c:W.heap[N]?=some (.cells #[.slice none 0 0,.int .i64 0,.int .i64 0,.slice none 0 0,.slice none 0 0,.int .i64 0,.slice none 0 0] 29 (0,0))
 q:W.heap[p]?=some (.cells #[.slice none 0 0,.int .i64 0,.int .i64 0,.slice B n1 k1,.slice C n2 k2,.int .i64 each,.slice D n3 k3] 29 (0,0))
 ne:N<p
theorem PV{w W:World}{N:Nat}(hb:Below N w W)(h:W.heap[N]?=some (.cells #[.slice none 0 0,.int .i64 0,.int .i64 0,.slice none 0 0,.slice none 0 0,.int .i64 0,.slice none 0 0] 29 (0,0))):∀ W',
  W'=((((((W.setCell ⟨N,0,none⟩ (.slice none 0 0)).setCell ⟨N,1,none⟩ (.int .i64 0)).setCell ⟨N,2,none⟩ (.int .i64 0)).setCell ⟨N,3,none⟩ (.slice none 0 0)).setCell ⟨N,4,none⟩ (.slice none 0 0)).setCell ⟨N,5,none⟩ (.int .i64 0)).setCell ⟨N,6,none⟩ (.slice none 0 0) →
  W'.heap[N]?=some (.cells #[.slice none 0 0,.int .i64 0,.int .i64 0,.slice none 0 0,.slice none 0 0,.int .i64 0,.slice none 0 0] 29 (0,0))∧Below N w W':=by
 rintro W' rfl;have sb:∀ (W:World) (i:Nat) (x:Value),Below N w W→Below N w (W.setCell ⟨N,i,none⟩ x):=fun W i x h=>h.setCell (Nl _) x
 exact⟨Bs (Bs (Bs (Bs (Bs (Bs (Bs h 0 _) 1 _) 2 _) 3 _) 4 _) 5 _) 6 _,sb _ _ _ (sb _ _ _ (sb _ _ _ (sb _ _ _ (sb _ _ _ (sb _ _ _ (sb _ _ _ hb))))))⟩
section
variable {w W W1:World} {N p:Nat} {B C D:Option Addr} {n1 n2 n3 k1 k2 k3:Nat} {each:Int}
theorem RC.keep(h:RC w W N p B C D n1 n2 n3 k1 k2 k3 each)(hb:Below W.heap.size W W1):RC w W1 N p B C D n1 n2 n3 k1 k2 k3 each :=
 ⟨h.b.trans (hb.mono (Nat.le_of_lt (Bl h.c))),Bk hb h.c,Bk hb h.q,h.ne⟩
theorem RC.fin(h:RC w W N p B C D n1 n2 n3 k1 k2 k3 each){va:Value}{xs:List In}(l u:Int)(hr:BA W N va xs):∀ W',
  W'=(((((((((W.setCell ⟨p,0,none⟩ va).setCell ⟨p,1,none⟩ (.int .i64 l)).setCell ⟨p,2,none⟩ (.int .i64 u)).setCell ⟨N,0,none⟩ va).setCell ⟨N,1,none⟩ (.int .i64 l)).setCell ⟨N,2,none⟩ (.int .i64 u)).setCell ⟨N,3,none⟩ (.slice B n1 k1)).setCell ⟨N,4,none⟩ (.slice C n2 k2)).setCell ⟨N,5,none⟩ (.int .i64 each)).setCell ⟨N,6,none⟩ (.slice D n3 k3) →
  W'.heap[N]?=some (.cells #[va,.int .i64 l,.int .i64 u,.slice B n1 k1,.slice C n2 k2,.int .i64 each,.slice D n3 k3] 29 (0,0))∧BA W' N va xs∧Below N w W':=by
 rintro W' rfl;have hne:=h.ne;have sb:∀ (W:World) (g i:Nat) (x:Value),N≤g→Below N w W→Below N w (W.setCell ⟨g,i,none⟩ x):=fun W g i x hg h=>h.setCell (show N≤g from hg) x
 have far:∀ {W:World} {i:Nat} {o:Obj} (v:Value),W.heap[N]?=some o→(W.setCell ⟨p,i,none⟩ v).heap[N]?=some o:=fun v hj=>(Below.heap_setCell _ ⟨_,_,none⟩ v _ (show N≠p by omega)).trans hj
 have p0:=h.q;have p1:=Bs p0 0 va;have p2:=Bs p1 1 (.int .i64 l);have n0:=far (i:=2) (.int .i64 u) (far (i:=1) (.int .i64 l) (far (i:=0) va h.c));have m1:=Bs n0 0 va;have m2:=Bs m1 1 (.int .i64 l);have m3:=Bs m2 2 (.int .i64 u);have m4:=Bs m3 3 (.slice B n1 k1);have m5:=Bs m4 4 (.slice C n2 k2);have m6:=Bs m5 5 (.int .i64 each);have r3:=Rs (Rs (Rs hr p0 (by decide) 0 va) p1 (by decide) 1 (.int .i64 l)) p2 (by decide) 2 (.int .i64 u);have r6:=Rs (Rs (Rs r3 n0 (by decide) 0 va) m1 (by decide) 1 (.int .i64 l)) m2 (by decide) 2 (.int .i64 u);have b3:=sb _ p 2 (.int .i64 u) (by omega) (sb _ p 1 (.int .i64 l) (by omega) (sb _ p 0 va (by omega) h.b));have b6:=sb _ N 2 (.int .i64 u) (by omega) (sb _ N 1 (.int .i64 l) (by omega) (sb _ N 0 va (by omega) b3));exact⟨Bs m6 6 (.slice D n3 k3),Rs (Rs (Rs (Rs r6 m3 (by decide) 3 _) m4 (by decide) 4 _) m5 (by decide) 5 _) m6 (by decide) 6 _,
  sb _ N 6 _ (by omega) (sb _ N 5 _ (by omega) (sb _ N 4 _ (by omega) (sb _ N 3 _ (by omega) b6)))⟩
end
section
variable {ops:Array Oper} {o:Oper} {a:Act} {K:Act→World→Prop} {Q:Exit→Act→World→Prop} {E:Prop} {W:World}
theorem PU(hgd:o.guard=none)(ho:o.op=.alloc 29)
  (h:∀ g W1,Below W.heap.size W W1→W.heap.size≤g→W1.heap[g]?=some (.cells #[.slice none 0 0,.int .i64 0,.int .i64 0,.slice none 0 0,.slice none 0 0,.int .i64 0,.slice none 0 0] 29 (0,0))→K (a.put o.dst (.pointer (some ⟨g,0,none⟩))) W1) :
  if Region.wanted o (yielded ops a.tmps)=true then Oper.wp Tryz.prog o a W K Q else E:=by
 rw[if_pos (by simp[Region.wanted,hgd])];have:=h _ _ (Bw W (.cells #[.slice none 0 0,.int .i64 0,.int .i64 0,.slice none 0 0,.slice none 0 0,.int .i64 0,.slice none 0 0] 29)) (Nl _) (Bv W _);obtain⟨dst,op,type,pos,after,guard⟩:=o;dsimp only at ho;subst ho;go_simp
 exact this
end
theorem RC.far{w W:World}{N p g i:Nat}{B C D:Option Addr}{n1 n2 n3 k1 k2 k3:Nat}{each:Int}{cs:Array Value}{t:TypeId}(h:RC w W N p B C D n1 n2 n3 k1 k2 k3 each)(v:Value)(hg:N≤g)(hc:W.heap[g]?=some (.cells cs t (0,0)))(ht:t≠29) :
  RC w (W.setCell ⟨g,i,none⟩ v) N p B C D n1 n2 n3 k1 k2 k3 each:=by
 have ne:∀ {j:Nat} {cs':Array Value},W.heap[j]?=some (.cells cs' 29 (0,0))→j≠g:=fun hj e=>by
  subst e;rw[hc]at hj;cases hj;exact ht rfl
 exact⟨h.b.setCell (show N≤g from hg) v,(Below.heap_setCell W ⟨g,i,none⟩ v _ (ne h.c)).trans h.c,(Below.heap_setCell W ⟨g,i,none⟩ v _ (ne h.q)).trans h.q,h.ne⟩
theorem RC.finH{w W:World}{N p:Nat}{B C D:Option Addr}{n1 n2 n3 k1 k2 k3:Nat}{each:Int}(h:RC w W N p B C D n1 n2 n3 k1 k2 k3 each){t:TypeId}{v va:Value}{cs:List Value}(l u:Int)(hr:HRow W v t cs)(ht:t≠29):∀ W',
  W'=(((((((((W.setCell ⟨p,0,none⟩ va).setCell ⟨p,1,none⟩ (.int .i64 l)).setCell ⟨p,2,none⟩ (.int .i64 u)).setCell ⟨N,0,none⟩ va).setCell ⟨N,1,none⟩ (.int .i64 l)).setCell ⟨N,2,none⟩ (.int .i64 u)).setCell ⟨N,3,none⟩ (.slice B n1 k1)).setCell ⟨N,4,none⟩ (.slice C n2 k2)).setCell ⟨N,5,none⟩ (.int .i64 each)).setCell ⟨N,6,none⟩ (.slice D n3 k3) →
  HRow W' v t cs:=by
 rintro W' rfl;have hne:=h.ne;have far:∀ {W:World} {i:Nat} {o:Obj} (v:Value),W.heap[N]?=some o→(W.setCell ⟨p,i,none⟩ v).heap[N]?=some o:=fun v hj=>(Below.heap_setCell _ ⟨_,_,none⟩ v _ (show N≠p by omega)).trans hj
 have p0:=h.q;have p1:=Bs p0 0 va;have p2:=Bs p1 1 (.int .i64 l);have n0:=far (i:=2) (.int .i64 u) (far (i:=1) (.int .i64 l) (far (i:=0) va h.c));have m1:=Bs n0 0 va;have m2:=Bs m1 1 (.int .i64 l);have m3:=Bs m2 2 (.int .i64 u);have m4:=Bs m3 3 (.slice B n1 k1);have m5:=Bs m4 4 (.slice C n2 k2);have m6:=Bs m5 5 (.int .i64 each);have r1:=hr.far (i:=0) (x:=va) p0 ht;have r2:=r1.far (i:=1) (x:=.int .i64 l) p1 ht;have r3:=r2.far (i:=2) (x:=.int .i64 u) p2 ht;have r4:=r3.far (i:=0) (x:=va) n0 ht;have r5:=r4.far (i:=1) (x:=.int .i64 l) m1 ht;have r6:=r5.far (i:=2) (x:=.int .i64 u) m2 ht;have r7:=r6.far (i:=3) (x:=.slice B n1 k1) m3 ht;have r8:=r7.far (i:=4) (x:=.slice C n2 k2) m4 ht;have r9:=r8.far (i:=5) (x:=.int .i64 each) m5 ht;exact r9.far (i:=6) (x:=.slice D n3 k3) m6 ht
theorem Ti(M:Nat):(⟨Ws.toArray⟩:ByteArray)++⟨(No M).toArray⟩++⟨Wt.toArray⟩++⟨(No M).toArray⟩++⟨Wu.toArray⟩=⟨(Dn M).toArray⟩:=by
 rw[B9,B9,B9,B9];rfl
theorem Tj(M:Nat):(No M).length≤2:=by unfold No;split<;>simp
theorem FE{M:Nat}(hM:FB M)(W:World):Calls Tryz.prog 22 #[.int .i64 ((M:Int)+1)] W fun e W'=>e=.returned (.string ⟨(Dn M).toArray⟩)∧Below W.heap.size W W':=by
 have hmt:=CF hM;have hwa:IntKind.i64.wrap ((M:Int)+1-1)=(M:Int):=by rw[IntKind.wrap_i64];omega
 have CD:=Az (fun(W:World)=>HH M (by omega) W);have hd:Lib.decDigits M=No M:=OA hM;simp only[hd]at CD;have hl:=Tj M;have hz:((⟨(No M).toArray⟩:ByteArray)).size=(No M).length:=by simp[ByteArray.size]
 have hT:=Ti M;clear hd;go_enter Tryz.func22,Tryz.ntmps22;go_wp2_with fail
 refine(CD.out _).mono ?_;rintro e w1 ⟨rfl,hb1⟩;replace hb1:=Az hb1;clear CD;go_wp2_with fail
 go_ret;exact⟨rfl,hb1.out⟩
theorem KO(k M st:Nat)(hM:FB M)(hst:st<4294967296)(h1:1≤k)(h2:k≤M+1)(w:World):Calls Tryz.prog 18 #[.int .i64 (k:Int),.int .i64 ((M:Int)+1),.int .u32 (st:Int)] w (Iy w (Dn M) [1,(M:Int)+1] (Sm M st) (List.replicate k (0:Int)) 0):=by
 have hmt:=CF hM;have hd1:decide ((k:Int)<1)=false:=decide_eq_false (by omega);have hd2:decide ((64:Int)<(k:Int))=false:=decide_eq_false (by omega);have hd3:decide ((M:Int)+1<(k:Int))=false:=decide_eq_false (by omega);have hwh:IntKind.i64.wrap (M:Int)=(M:Int):=by rw[IntKind.wrap_i64];omega
 have hwb:IntKind.i64.wrap ((M:Int)+1+1)=(M:Int)+2:=by rw[IntKind.wrap_i64];omega
 have hwd:IntKind.i64.wrap (st:Int)=(st:Int):=by rw[IntKind.wrap_i64];omega
 obtain⟨P,hP⟩:∃ x,st%(M+1)=x:=⟨_,rfl⟩
 have hPM:P≤M:=by have h9:st%(M+1)<M+1:=Nat.mod_lt st (Nat.succ_pos M);omega
 have hwe:(st:Int).tmod ((M:Int)+1)=(P:Int):=by rw[←hP];rfl
 have hwg:IntKind.i64.wrap (P:Int)=(P:Int):=by rw[IntKind.wrap_i64];omega
 obtain⟨Q,hQ⟩:∃ x,1+P=x:=⟨_,rfl⟩
 have hQM:1≤Q∧Q≤M+1:=by omega
 have hwf:IntKind.i64.wrap (1+(P:Int))=(Q:Int):=by rw[IntKind.wrap_i64];omega
 have hmz:¬((M:Int)+1=0):=by omega
 have hZ:Sm M st=((List.replicate (M+2) (0:Int)).set 0 (st:Int)).set Q 1:=by unfold Sm;rw[hP,hQ]
 rw[hZ];clear hZ hP hQ;have CT:=Az (fun W=>FE hM W);have CA:=Az (fun(W:World)=>Tk (Dn M) W (Rl hM));have hN:=Bv w (.cells #[.slice none 0 0,.int .i64 0,.int .i64 0,.slice none 0 0,.slice none 0 0,.int .i64 0,.slice none 0 0] 29);have hb0:=Bw w (.cells #[.slice none 0 0,.int .i64 0,.int .i64 0,.slice none 0 0,.slice none 0 0,.int .i64 0,.slice none 0 0] 29);obtain⟨w0,hw0⟩:∃ y,w.alloc (.cells #[.slice none 0 0,.int .i64 0,.int .i64 0,.slice none 0 0,.slice none 0 0,.int .i64 0,.slice none 0 0] 29)=y:=⟨_,rfl⟩
 rw[hw0]at hN hb0;go_enter Tryz.func18,Tryz.ntmps18;go_upto_region 1 with fail
 try rw[hw0]
 clear hw0;go_cut [50] (fun v wx=>v=.bool false∧wx=w0)
 case first =>
  have b1:∀ z:Int,(M:Int)+1=z→decide (z<(k:Int))=false:=fun z e=>by rw[←e];exact hd3
  clear hwe hwf hwg hmz hwb hwh;rcases hM with rfl |rfl |rfl |rfl |rfl |rfl |rfl
  all_goals
   first |have b2:=b1 1 (by decide) |have b2:=b1 2 (by decide) |have b2:=b1 4 (by decide) |have b2:=b1 8 (by decide) |have b2:=b1 16 (by decide) |have b2:=b1 32 (by decide) |have b2:=b1 64 (by decide)
   go_wp2;go_meet
   exact⟨rfl,rfl⟩
 obtain⟨rfl,rfl⟩:=hcut;obtain⟨w0,hw9⟩:∃ x,x=wc:=⟨_,rfl⟩
 subst hw9;go_upto_region 3 with fail
 go_cut [8] (fun v wx=>∃ (p:Nat) (B C D:Option Addr) (n1 n2 k1 k2 k3:Nat),v=.pointer (some ⟨p,0,none⟩)∧Ag (RC w wx w.heap.size p B C D n1 n2 k k1 k2 k3 (0))∧Ag (HRow wx (.slice B n1 k1) 3 (([1,(M:Int)+1]).map (Value.int .i64))∧HRow wx (.slice C n2 k2) 45 ((List.replicate (M+2) (0:Int)).map (Value.int .u32))∧HRow wx (.slice D k k3) 45 ((List.replicate k (0:Int)).map (Value.int .u32)))∧(∀ (g n c:Nat),Value.slice D k k3=.slice (some ⟨g,0,none⟩) n c→C≠some ⟨g,0,none⟩)∧∃ (gM:Nat) (csM:Array Value),C=some ⟨gM,0,none⟩∧n2=M+2∧w.heap.size≤gM∧Ag (wx.heap[gM]?=some (.cells csM 45 (0,0))∧csM.size=M+2))
 case first =>
  refine Av [] (S:=fun _=>True) (by kernel_rfl) trivial (fun _=>?_);replace hN:=Bk (Bd (Below.refl _ w0)) hN;have hBl:=hb0.trans ((Bd (Below.refl _ w0)).mono hb0.size);clear hb0 CT CA;generalize w0.drew=w0 at *;refine tY 0 (fun _=>trivial) ?_;refine tY 2 (fun _=>trivial) ?_;refine tY 3 (fun _=>trivial) ?_;refine tY 5 (fun _=>trivial) ?_;iterate 4
   all_goals try
    refine Bo (i:=7) (v:=?_) (Au rfl) (by decide +kernel) (fun _ _ _ h=>h) (.inl ⟨by rfl,?_⟩) (fun _=>trivial) ?_;rotate_left
    ·intro w;go_simp;try with_reducible rfl
    try simp only[Act.put,Sa,Sb,Sc]
   all_goals first
    |refine Ab (rs:=[1,4,6,8]) (by decide +kernel) (by simp) (Aa.cons (Au rfl) (fun K hK=>?_) (Aa.cons (Au rfl) (fun K hK=>?_) (Aa.cons (Au rfl) (fun K hK=>?_) (Aa.cons (Au rfl) (fun K hK=>?_) Aa.nil))))
    |refine Ab (rs:=[1,4,6]) (by decide +kernel) (by simp) (Aa.cons (Au rfl) (fun K hK=>?_) (Aa.cons (Au rfl) (fun K hK=>?_) (Aa.cons (Au rfl) (fun K hK=>?_) Aa.nil)))
    |refine Ab (rs:=[1,4,8]) (by decide +kernel) (by simp) (Aa.cons (Au rfl) (fun K hK=>?_) (Aa.cons (Au rfl) (fun K hK=>?_) (Aa.cons (Au rfl) (fun K hK=>?_) Aa.nil)))
    |refine Ab (rs:=[1,6,8]) (by decide +kernel) (by simp) (Aa.cons (Au rfl) (fun K hK=>?_) (Aa.cons (Au rfl) (fun K hK=>?_) (Aa.cons (Au rfl) (fun K hK=>?_) Aa.nil)))
    |refine Ab (rs:=[4,6,8]) (by decide +kernel) (by simp) (Aa.cons (Au rfl) (fun K hK=>?_) (Aa.cons (Au rfl) (fun K hK=>?_) (Aa.cons (Au rfl) (fun K hK=>?_) Aa.nil)))
    |refine Ab (rs:=[1,4]) (by decide +kernel) (by simp) (Aa.cons (Au rfl) (fun K hK=>?_) (Aa.cons (Au rfl) (fun K hK=>?_) Aa.nil))
    |refine Ab (rs:=[1,6]) (by decide +kernel) (by simp) (Aa.cons (Au rfl) (fun K hK=>?_) (Aa.cons (Au rfl) (fun K hK=>?_) Aa.nil))
    |refine Ab (rs:=[1,8]) (by decide +kernel) (by simp) (Aa.cons (Au rfl) (fun K hK=>?_) (Aa.cons (Au rfl) (fun K hK=>?_) Aa.nil))
    |refine Ab (rs:=[4,6]) (by decide +kernel) (by simp) (Aa.cons (Au rfl) (fun K hK=>?_) (Aa.cons (Au rfl) (fun K hK=>?_) Aa.nil))
    |refine Ab (rs:=[4,8]) (by decide +kernel) (by simp) (Aa.cons (Au rfl) (fun K hK=>?_) (Aa.cons (Au rfl) (fun K hK=>?_) Aa.nil))
    |refine Ab (rs:=[6,8]) (by decide +kernel) (by simp) (Aa.cons (Au rfl) (fun K hK=>?_) (Aa.cons (Au rfl) (fun K hK=>?_) Aa.nil))
    |refine Ab (rs:=[1]) (by decide +kernel) (by simp) (Aa.cons (Au rfl) (fun K hK=>?_) Aa.nil)
    |refine Ab (rs:=[4]) (by decide +kernel) (by simp) (Aa.cons (Au rfl) (fun K hK=>?_) Aa.nil)
    |refine Ab (rs:=[6]) (by decide +kernel) (by simp) (Aa.cons (Au rfl) (fun K hK=>?_) Aa.nil)
    |refine Ab (rs:=[8]) (by decide +kernel) (by simp) (Aa.cons (Au rfl) (fun K hK=>?_) Aa.nil)
   all_goals first
    |(refine step_h2 rfl _ _ rfl _ _ rfl rfl (fun gB wL hb hBk=>?_);replace hN:=Bk hb hN;replace hBl:=hBl.trans (hb.mono hBl.size);(try replace hM:=Bk hb hM);(try replace hR:=Bk hb hR);(try replace hA:=Bk hb hA);clear hb)
    |(refine step_mkz rfl _ rfl _ rfl (M+2) (by omega) (by omega) (fun gM wL csM hb hgM hM hsM=>?_);(try have hMR:gM≠gR:=Nat.ne_of_gt (Nat.lt_of_lt_of_le (Bl hR) hgM));have hNM:=Nat.le_trans (Nat.le_of_lt (Bl hN)) hgM;replace hN:=Bk hb hN;replace hBl:=hBl.trans (hb.mono hBl.size);(try replace hBk:=Bk hb hBk);(try replace hR:=Bk hb hR);(try replace hA:=Bk hb hA);clear hb)
    |(refine step_mkz rfl _ rfl _ rfl k (by omega) (by omega) (fun gR wL csR hb hgR hR hsR=>?_);(try have hMR:gM≠gR:=Nat.ne_of_lt (Nat.lt_of_lt_of_le (Bl hM) hgR));replace hN:=Bk hb hN;replace hBl:=hBl.trans (hb.mono hBl.size);(try replace hBk:=Bk hb hBk);(try replace hM:=Bk hb hM);(try replace hA:=Bk hb hA);clear hb)
    |(refine PU rfl rfl (fun p wL hb hgA hA=>?_);have hNp:=Nat.lt_of_lt_of_le (Bl hN) hgA;replace hN:=Bk hb hN;replace hBl:=hBl.trans (hb.mono hBl.size);(try replace hBk:=Bk hb hBk);(try replace hM:=Bk hb hM);(try replace hR:=Bk hb hR);clear hb)
   all_goals refine hK.out _ _ (fun _=>trivial) (fun _=>?_)
   all_goals clear hK K
   all_goals try simp only[Act.put,Sa,Sb,Sc]
  all_goals try
   refine Bo (i:=7) (v:=?_) (Au rfl) (by decide +kernel) (fun _ _ _ h=>h) (.inl ⟨by rfl,?_⟩) (fun _=>trivial) ?_;rotate_left
   ·intro w;go_simp;try with_reducible rfl
   try simp only[Act.put,Sa,Sb,Sc]
  all_goals (
   have hMp:gM≠p:=fun e=>by subst e;rw[hA]at hM;cases hM
   have hfin:=Az (KH hBl (Nat.le_of_lt hNp) hA (.slice none 0 0) (.int .i64 0) (.int .i64 0) (.slice (some ⟨gB,0,none⟩) 2 2) (.slice (some ⟨gM,0,none⟩) (M+2) (M+2)) (.int .i64 0) (.slice (some ⟨gR,0,none⟩) k k));have c0:wL.cell? ⟨p,0,none⟩=some (.slice none 0 0):=(Bc hA 0).trans rfl;have c1:wL.cell? ⟨p,1,none⟩=some (.int .i64 0):=(Bc hA 1).trans rfl;have c2:wL.cell? ⟨p,2,none⟩=some (.int .i64 0):=(Bc hA 2).trans rfl;have c3:wL.cell? ⟨p,3,none⟩=some (.slice none 0 0):=(Bc hA 3).trans rfl;have c4:wL.cell? ⟨p,4,none⟩=some (.slice none 0 0):=(Bc hA 4).trans rfl;have c5:wL.cell? ⟨p,5,none⟩=some (.int .i64 0):=(Bc hA 5).trans rfl;have c6:wL.cell? ⟨p,6,none⟩=some (.slice none 0 0):=(Bc hA 6).trans rfl;have f0:=Bf hA 0;have f1:=Bf hA 1;have f2:=Bf hA 2;have f3:=Bf hA 3;have f4:=Bf hA 4;have f5:=Bf hA 5;have f6:=Bf hA 6;have z0:p<wL.heap.size:=Bl hA;have r1:=HRow.new (([1,(M:Int)+1]).map (Value.int .i64)) hBk rfl (by simp) (fun j u hj=>by simpa using hj);have r2:=HRow.zeros hM (by omega) hsM.2;have r3:=HRow.zeros hR (by omega) hsR.2;have q1:=Az (seven_H hA r1 (by decide) (.slice none 0 0) (.int .i64 0) (.int .i64 0) (.slice (some ⟨gB,0,none⟩) 2 2) (.slice (some ⟨gM,0,none⟩) (M+2) (M+2)) (.int .i64 0) (.slice (some ⟨gR,0,none⟩) k k));have q2:=Az (seven_H hA r2 (by decide) (.slice none 0 0) (.int .i64 0) (.int .i64 0) (.slice (some ⟨gB,0,none⟩) 2 2) (.slice (some ⟨gM,0,none⟩) (M+2) (M+2)) (.int .i64 0) (.slice (some ⟨gR,0,none⟩) k k));have q3:=Az (seven_H hA r3 (by decide) (.slice none 0 0) (.int .i64 0) (.int .i64 0) (.slice (some ⟨gB,0,none⟩) 2 2) (.slice (some ⟨gM,0,none⟩) (M+2) (M+2)) (.int .i64 0) (.slice (some ⟨gR,0,none⟩) k k));have hsZ:=hsM.1;have hDC:=Az (show ∀ (g n c:Nat),Value.slice (some ⟨gR,0,none⟩) k k=.slice (some ⟨g,0,none⟩) n c→(some ⟨gM,0,none⟩:Option Addr)≠some ⟨g,0,none⟩ from fun g n c hD hC=>hMR (by injection hD with a;injection a with a;injection a with a;injection hC with b;injection b with b;exact b.trans a.symm));clear r1 r2 r3 hBk hR hsM hsR;replace hN:=Az hN;replace hM:=Az hM;replace hNp:=Az hNp;replace hMp:=Az hMp;clear hA hBl;refine Ab (rs:=[9]) (by kernel_rfl) (by simp) ?_;refine Aa.cons (Au rfl) (fun K hK=>?_) Aa.nil;go_simp
   go_wp2_with fail
   refine hK.out _ _ (fun _=>trivial) (fun _=>?_);try simp only[Act.put,Sa,Sb,Sc]
   refine Ax (by kernel_rfl) ?_ _;go_wp2;go_meet
   obtain⟨g1,g2,g3⟩:=hfin.out _ rfl;exact⟨p,some ⟨gB,0,none⟩,some ⟨gM,0,none⟩,some ⟨gR,0,none⟩,2,M+2,2,M+2,k,rfl,⟨⟨g2,(g3 _ (Nat.ne_of_lt hNp.out)).trans hN.out,g1,hNp.out⟩⟩,⟨q1.out _ rfl,q2.out _ rfl,q3.out _ rfl⟩,hDC.out,gM,csM,rfl,rfl,hNM,⟨(g3 gM hMp.out).trans hM.out,hsZ⟩⟩)
 case rest =>
  obtain⟨p,B,C,D,n1,n2,k1,k2,k3,rfl,hB,hH,hDC,gM,csM,rfl,rfl,hNM,hM⟩:=hcut;have x2:wc.cell? ⟨p,4,none⟩=some (.slice (some ⟨gM,0,none⟩) (M+2) k2):=(Bc hB.out.q 4).trans rfl;have hsz:0<csM.size:=by rw[hM.out.2];omega
  have hsz2:Q<csM.size:=by rw[hM.out.2];omega
  have y0:wc.cell? ⟨gM,0,none⟩=some csM[0]:=(Bc hM.out.1 0).trans (by simp[hsz]);have y1:wc.cell? ⟨gM,Q,none⟩=some csM[Q]:=(Bc hM.out.1 (Q)).trans (by simp[hsz2]);have fy0:=Bf hM.out.1 0;have hMd:=Be (Bs hM.out.1 0 (.int .u32 (st:Int)));have y8:(wc.setCell ⟨gM,0,none⟩ (.int .u32 (st:Int))).drew.cell? ⟨gM,Q,none⟩=some csM[Q]:=(Bc hMd Q).trans (by rw[Array.getElem?_setIfInBounds_ne (by omega)];simp[hsz2]);have fy1:=Bf hMd Q;have zy8:=Bl hMd;clear hMd;have zy:gM<wc.heap.size:=Bl hM.out.1;have hMp:gM≠p:=fun e=>by have h1:=hM.out.1;rw[e,hB.out.q]at h1;cases h1
  have hB8:=hB.out.far (g:=gM) (i:=0) (.int .u32 (st:Int)) hNM hM.out.1 (by decide);have hB9:=hB8.far (g:=gM) (i:=Q) (.int .u32 1) hNM (Bs hM.out.1 0 _) (by decide);replace hB9:=Az (hB9.keep (Bd (Below.refl _ _)));have y2:=(hH.out.2.1.put (i:=0) (x:=.int .u32 (st:Int))).put (i:=Q) (x:=.int .u32 1);rw[←List.map_set,←List.map_set]at y2;have y3:=(hH.out.1.far (g:=gM) (i:=0) (x:=.int .u32 (st:Int)) hM.out.1 (by decide)).far (g:=gM) (i:=Q) (x:=.int .u32 1) (Bs hM.out.1 0 _) (by decide);have y4:=(hH.out.2.2.off (g:=gM) (i:=0) (x:=.int .u32 (st:Int)) (fun g n c e1 e2=>hDC g n c e1 (by rw[e2]))).off (g:=gM) (i:=Q) (x:=.int .u32 1) (fun g n c e1 e2=>hDC g n c e1 (by rw[e2]));have hH9:=Az (And.intro (y3.keep (Bd (Below.refl _ _))) (And.intro (y2.keep (Bd (Below.refl _ _))) (y4.keep (Bd (Below.refl _ _)))));clear y2 y3 y4 hH hDC;generalize csM[0]=v0 at y0;generalize csM[Q]=v1 at y1 y8;clear hM hB hsz hsz2 hB8;have hs0:(0:Int)<((M+2:Nat):Int):=by omega
  have hs4:(0:Int)<(M:Int)+2:=by omega
  have hs5:(Q:Int)<(M:Int)+2:=by omega
  have hs6:0<M+2:=by omega
  have hs1:(Q:Int)<((M+2:Nat):Int):=by omega
  have hs2:(0:Int)≤(Q:Int):=by omega
  go_upto_region 5 with fail
  go_region
  replace hB:=hB9;have hH:=hH9;clear hH9;clear hB9 x2 y0 y1 fy0 fy1 zy hs0 hs1 hs2 hs4 hs5 hs6;generalize ((wc.setCell ⟨gM,0,none⟩ (.int .u32 (st:Int))).setCell ⟨gM,Q,none⟩ (.int .u32 1)).drew=wc at *;go_wp2_with fail
  refine(CT.out _).mono ?_;rintro e w1 ⟨rfl,hb1⟩;replace hB:=Az (hB.out.keep hb1);replace hH:=Az (And.intro (hH.out.1.keep hb1) (And.intro (hH.out.2.1.keep hb1) (hH.out.2.2.keep hb1)));clear hb1;go_wp2_with fail
  refine(CA.out _).mono ?_;rintro e w2 ⟨va,rfl,hr,hb⟩;obtain⟨A,mm,c,rfl⟩:=AV hr;have hq:=Bv w2 (.cells #[.slice A mm c,.int .i64 (Cx (Dn M)).1.lock,.int .i64 (Cx (Dn M)).1.unlock] 25);have hb3:=Bw w2 (.cells #[.slice A mm c,.int .i64 (Cx (Dn M)).1.lock,.int .i64 (Cx (Dn M)).1.unlock] 25);have hbb:=hb.trans (hb3.mono hb.size);have hB2:=hB.out.keep hbb;have hr2:=BA.mono (xs:=(Cx (Dn M)).1.l) (Om hr (fun k hk=>hb3.block k (Ol hr k hk))) hB.out.b.size;have x1:=Az (hB2.finH (va:=.slice A mm c) (Cx (Dn M)).1.lock (Cx (Dn M)).1.unlock (hH.out.1.keep hbb) (by decide));have x2:=Az (hB2.finH (va:=.slice A mm c) (Cx (Dn M)).1.lock (Cx (Dn M)).1.unlock (hH.out.2.1.keep hbb) (by decide));have x3:=Az (hB2.finH (va:=.slice A mm c) (Cx (Dn M)).1.lock (Cx (Dn M)).1.unlock (hH.out.2.2.keep hbb) (by decide));have hfin:=Az (hB2.fin (Cx (Dn M)).1.lock (Cx (Dn M)).1.unlock hr2);obtain⟨w3,hw3⟩:∃ y,w2.alloc (.cells #[.slice A mm c,.int .i64 (Cx (Dn M)).1.lock,.int .i64 (Cx (Dn M)).1.unlock] 25)=y:=⟨_,rfl⟩
  obtain⟨q,hqe⟩:∃ y,w2.heap.size=y:=⟨_,rfl⟩
  rw[hw3]at hq hB2 x1 x2 x3 hfin;rw[hqe]at hq;have qp:q≠p:=hqe▸Nat.ne_of_gt (Nat.lt_of_lt_of_le (Bl hB.out.q) hb.size);have qN:q≠w.heap.size:=hqe▸Nat.ne_of_gt (Nat.lt_of_lt_of_le (Bl hB.out.c) hb.size);have t0:w3.cell? ⟨q,0,none⟩=some (.slice A mm c):=(Bc hq 0).trans rfl;have t1:w3.cell? ⟨q,1,none⟩=some (.int .i64 (Cx (Dn M)).1.lock):=(Bc hq 1).trans rfl;have t2:w3.cell? ⟨q,2,none⟩=some (.int .i64 (Cx (Dn M)).1.unlock):=(Bc hq 2).trans rfl;have c0:w3.cell? ⟨p,0,none⟩=some (.slice none 0 0):=(Bc hB2.q 0).trans rfl;have c1:w3.cell? ⟨p,1,none⟩=some (.int .i64 0):=(Bc hB2.q 1).trans rfl;have c2:w3.cell? ⟨p,2,none⟩=some (.int .i64 0):=(Bc hB2.q 2).trans rfl;have c3:w3.cell? ⟨p,3,none⟩=some (.slice B n1 k1):=(Bc hB2.q 3).trans rfl;have c4:w3.cell? ⟨p,4,none⟩=some (.slice (some ⟨gM,0,none⟩) (M+2) k2):=(Bc hB2.q 4).trans rfl;have c5:w3.cell? ⟨p,5,none⟩=some (.int .i64 0):=(Bc hB2.q 5).trans rfl;have c6:w3.cell? ⟨p,6,none⟩=some (.slice D k k3):=(Bc hB2.q 6).trans rfl;have f0:=Bf hB2.q 0;have f1:=Bf hB2.q 1;have f2:=Bf hB2.q 2;have d0:w3.cell? ⟨w.heap.size,0,none⟩=some (.slice none 0 0):=(Bc hB2.c 0).trans rfl;have d1:w3.cell? ⟨w.heap.size,1,none⟩=some (.int .i64 0):=(Bc hB2.c 1).trans rfl;have d2:w3.cell? ⟨w.heap.size,2,none⟩=some (.int .i64 0):=(Bc hB2.c 2).trans rfl;have d3:w3.cell? ⟨w.heap.size,3,none⟩=some (.slice none 0 0):=(Bc hB2.c 3).trans rfl;have d4:w3.cell? ⟨w.heap.size,4,none⟩=some (.slice none 0 0):=(Bc hB2.c 4).trans rfl;have d5:w3.cell? ⟨w.heap.size,5,none⟩=some (.int .i64 0):=(Bc hB2.c 5).trans rfl;have d6:w3.cell? ⟨w.heap.size,6,none⟩=some (.slice none 0 0):=(Bc hB2.c 6).trans rfl;have e0:=Bf hB2.c 0;have e1:=Bf hB2.c 1;have e2:=Bf hB2.c 2;have e3:=Bf hB2.c 3;have e4:=Bf hB2.c 4;have e5:=Bf hB2.c 5;have e6:=Bf hB2.c 6;have z0:w.heap.size<w3.heap.size:=Bl hB2.c;have zp:p<w3.heap.size:=Bl hB2.q;have ne0:¬w.heap.size=p:=Nat.ne_of_lt hB2.ne;have ne1:¬p=w.heap.size:=Nat.ne_of_gt hB2.ne;have ne2:¬p=q:=fun e=>qp e.symm
  have ne3:¬w.heap.size=q:=fun e=>qN e.symm
  clear hH hB hB2 hr hr2 hb hb3 hbb hq CT CA;go_upto_region 7 with fail
  try rw[hw3]
  try rw[hqe]
  clear hw3 hqe;go_wp2;obtain⟨g1,g2,g3⟩:=hfin.out _ rfl;refine bodyPost_ret (Bi rfl _ _ w.heap.size 29 #[.slice A mm c,.int .i64 (Cx (Dn M)).1.lock,.int .i64 (Cx (Dn M)).1.unlock,.slice B n1 k1,.slice (some ⟨gM,0,none⟩) (M+2) k2,.int .i64 0,.slice D k k3] (0,0) _ rfl g1 Tryz.underlying29 rfl (by kernel_rfl)) rfl ⟨_,_,_,_,rfl,g2,x1.out _ rfl,x2.out _ rfl,x3.out _ rfl,g3⟩
theorem MO(n sl st:Int)(h:¬Lt n sl)(w:World):Calls Tryz.prog 18 #[.int .i64 n,.int .i64 sl,.int .u32 st] w (TY w):=by
 have hN:=Bv w (.cells #[.slice none 0 0,.int .i64 0,.int .i64 0,.slice none 0 0,.slice none 0 0,.int .i64 0,.slice none 0 0] 29);have hb0:=Bw w (.cells #[.slice none 0 0,.int .i64 0,.int .i64 0,.slice none 0 0,.slice none 0 0,.int .i64 0,.slice none 0 0] 29);have hfin:=PV hb0 hN;obtain⟨w0,hw0⟩:∃ y,w.alloc (.cells #[.slice none 0 0,.int .i64 0,.int .i64 0,.slice none 0 0,.slice none 0 0,.int .i64 0,.slice none 0 0] 29)=y:=⟨_,rfl⟩
 rw[hw0]at hfin hN;have d0:w0.cell? ⟨w.heap.size,0,none⟩=some (.slice none 0 0):=(Bc hN 0).trans rfl;have d1:w0.cell? ⟨w.heap.size,1,none⟩=some (.int .i64 0):=(Bc hN 1).trans rfl;have d2:w0.cell? ⟨w.heap.size,2,none⟩=some (.int .i64 0):=(Bc hN 2).trans rfl;have d3:w0.cell? ⟨w.heap.size,3,none⟩=some (.slice none 0 0):=(Bc hN 3).trans rfl;have d4:w0.cell? ⟨w.heap.size,4,none⟩=some (.slice none 0 0):=(Bc hN 4).trans rfl;have d5:w0.cell? ⟨w.heap.size,5,none⟩=some (.int .i64 0):=(Bc hN 5).trans rfl;have d6:w0.cell? ⟨w.heap.size,6,none⟩=some (.slice none 0 0):=(Bc hN 6).trans rfl;have e0:=Bf hN 0;have e1:=Bf hN 1;have e2:=Bf hN 2;have e3:=Bf hN 3;have e4:=Bf hN 4;have e5:=Bf hN 5;have e6:=Bf hN 6;have z0:w.heap.size<w0.heap.size:=Bl hN;replace hfin:=Az hfin;clear hN hb0;go_enter Tryz.func18,Tryz.ntmps18;go_upto_region 1 with fail
 try rw[hw0]
 clear hw0;go_cut [50] (fun v wx=>v=.bool true∧wx=w0)
 case first =>
  by_cases c1:n<1
  ·have hd1:decide (n<1)=true:=decide_eq_true c1;go_wp2;go_meet
   exact⟨rfl,rfl⟩
  have hd1:decide (n<1)=false:=decide_eq_false c1;by_cases c2:64<n
  ·have hd2:decide (64<n)=true:=decide_eq_true c2;go_wp2;go_meet
   exact⟨rfl,rfl⟩
  have hd2:decide (64<n)=false:=decide_eq_false c2;by_cases c3:sl<n
  ·have hd3:decide (sl<n)=true:=decide_eq_true c3;go_wp2;go_meet
   exact⟨rfl,rfl⟩
  have hd3:decide (sl<n)=false:=decide_eq_false c3;have hz:∀ M:Nat,FB M→(sl != (M:Int)+1)=true:=fun M hM=>bne_iff_ne.2 fun e=>h ⟨n.toNat,M,by omega,e,hM,by omega,by omega⟩
  have z0:(sl != 1)=true:=hz 0 (.inl rfl);have z1:(sl != 2)=true:=hz 1 (.inr (.inl rfl));have z2:(sl != 4)=true:=hz 3 (.inr (.inr (.inl rfl)));have z3:(sl != 8)=true:=hz 7 (.inr (.inr (.inr (.inl rfl))));have z4:(sl != 16)=true:=hz 15 (.inr (.inr (.inr (.inr (.inl rfl)))));have z5:(sl != 32)=true:=hz 31 (.inr (.inr (.inr (.inr (.inr (.inl rfl))))));have z6:(sl != 64)=true:=hz 63 (.inr (.inr (.inr (.inr (.inr (.inr rfl))))));go_wp2;go_meet
  exact⟨rfl,rfl⟩
 case rest =>
  obtain⟨rfl,rfl⟩:=hcut;go_wp2;obtain⟨g1,g2⟩:=hfin.out _ rfl;refine bodyPost_ret (Bi rfl _ _ w.heap.size 29 #[.slice none 0 0,.int .i64 0,.int .i64 0,.slice none 0 0,.slice none 0 0,.int .i64 0,.slice none 0 0] (0,0) _ rfl g1 Tryz.underlying29 rfl (by kernel_rfl)) rfl ⟨rfl,g2⟩
end
end Go.Proofs.YtjjpiefgdggghaaGreatDoor
