/- Parts: One, RefTextF. -/
import Derived.Test.YtnmahobjmpdkdaaGreatDoorG02
import Derived.Test.YtnmahobjmpdkdaaGreatDoorG09
import Derived.Test.YtnmahobjmpdkdaaGreatDoorG07
import Derived.Test.YtnmahobjmpdkdaaGreatDoorG06
import Derived.Test.YtnmahobjmpdkdaaGreatDoorG03
import Derived.Deep.RegionHeld3
import Derived.Test.YtnmahobjmpdkdaaGreatDoorG16
set_option linter.unusedVariables false
set_option linter.unusedSimpArgs false
set_option maxRecDepth 100000
set_option maxHeartbeats 40000000
namespace Go.Proofs.YtnmahobjmpdkdaaGreatDoor
section
open Go.RowKit Go.Proofs.YtnmahobjmpdkdaaGreatDoorW.PrintWords
theorem FK{W W1:World}{a:Addr}{v:Value}(hb:Below W.heap.size W W1)(h:W.cell? a=some v):W1.cell? a=some v :=
 (World.cell?_of_block (hb.block a.block (World.block_lt_of_cell? W a h))).trans h
def CoreM.arr(c:CoreM):Array Value:=(c.r.map (fun v:Nat=>Value.int .i64 v)++[Value.int .i64 c.pc]).toArray
theorem Py(c:CoreM)(h:c.r.length=8):c.arr.size=9:=by simp[CoreM.arr,h]
theorem Ie{c:CoreM}(h:c.r.length=8)(i:Nat)(hi:i<8):c.arr[i]?=some (.int .i64 (c.r.getD i 0:Nat)):=by
 simp[CoreM.arr,List.getElem?_append_left,h,hi,List.getD_eq_getElem?_getD]
theorem Jk{c:CoreM}(h:c.r.length=8):c.arr[8]?=some (.int .i64 c.pc):=by
 simp[CoreM.arr,h]
theorem RW{c:CoreM}(h:c.r.length=8)(d:Nat)(hd:d<8)(v:Nat):c.arr.setIfInBounds d (.int .i64 v)=(c.set d v).arr:=by
 apply Array.ext';simp[CoreM.arr,CoreM.set,List.set_append,h,hd]
theorem QO{c:CoreM}(h:c.r.length=8)(pc:Int):c.arr.setIfInBounds 8 (.int .i64 pc)=(c.at pc).arr:=by
 apply Array.ext';simp[CoreM.arr,CoreM.at,List.set_append,h]
theorem EP(c:CoreM)(d:Int)(v:Nat):(c.set d v).r.length=c.r.length:=by simp[CoreM.set]
theorem Cm{c:CoreM}(h:c.r.length=8):∃ y0 y1 y2 y3 y4 y5 y6 y7 y8:Int,c.arr=#[.int .i64 y0,.int .i64 y1,.int .i64 y2,.int .i64 y3,.int .i64 y4,.int .i64 y5,.int .i64 y6,.int .i64 y7,.int .i64 y8]:=by
 obtain⟨l,pc⟩:=c
 match l,h with
 |[y0,y1,y2,y3,y4,y5,y6,y7],_=>exact⟨y0,y1,y2,y3,y4,y5,y6,y7,pc,rfl⟩
theorem Lz(w:World)(o o' o'':Obj):(((w.alloc o).alloc o').alloc o'').heap[w.heap.size+2]?=some o'':=by
 have h:=Dh (w.alloc o) o' o'';have e:(w.alloc o).heap.size=w.heap.size+1:=by simp
 rw[e]at h;exact h
theorem Hk{w:World}{g:Nat}{t:TypeId}{a0 a1 a2 a3 a4 a5 a6 a7 a8:Value}(h:w.heap[g]?=some (.cells #[a0,a1,a2,a3,a4,a5,a6,a7,a8] t (0,0)))(v0 v1 v2 v3 v4 v5 v6 v7 v8:Value) :
  (((((((((w.setCell ⟨g,0,none⟩ v0).setCell ⟨g,1,none⟩ v1).setCell ⟨g,2,none⟩ v2).setCell ⟨g,3,none⟩ v3).setCell ⟨g,4,none⟩ v4).setCell ⟨g,5,none⟩ v5).setCell ⟨g,6,none⟩ v6).setCell ⟨g,7,none⟩ v7).setCell ⟨g,8,none⟩ v8).heap[g]?=some (.cells #[v0,v1,v2,v3,v4,v5,v6,v7,v8] t (0,0)):=by
 have h1:(w.setCell ⟨g,0,none⟩ v0).heap[g]?=some (.cells #[v0,a1,a2,a3,a4,a5,a6,a7,a8] t (0,0)):=Bs h 0 v0;have h2:((w.setCell ⟨g,0,none⟩ v0).setCell ⟨g,1,none⟩ v1).heap[g]?=some (.cells #[v0,v1,a2,a3,a4,a5,a6,a7,a8] t (0,0)):=Bs h1 1 v1;have h3:(((w.setCell ⟨g,0,none⟩ v0).setCell ⟨g,1,none⟩ v1).setCell ⟨g,2,none⟩ v2).heap[g]?=some (.cells #[v0,v1,v2,a3,a4,a5,a6,a7,a8] t (0,0)):=Bs h2 2 v2;have h4:((((w.setCell ⟨g,0,none⟩ v0).setCell ⟨g,1,none⟩ v1).setCell ⟨g,2,none⟩ v2).setCell ⟨g,3,none⟩ v3).heap[g]?=some (.cells #[v0,v1,v2,v3,a4,a5,a6,a7,a8] t (0,0)):=Bs h3 3 v3;have h5:(((((w.setCell ⟨g,0,none⟩ v0).setCell ⟨g,1,none⟩ v1).setCell ⟨g,2,none⟩ v2).setCell ⟨g,3,none⟩ v3).setCell ⟨g,4,none⟩ v4).heap[g]?=some (.cells #[v0,v1,v2,v3,v4,a5,a6,a7,a8] t (0,0)):=Bs h4 4 v4;have h6:((((((w.setCell ⟨g,0,none⟩ v0).setCell ⟨g,1,none⟩ v1).setCell ⟨g,2,none⟩ v2).setCell ⟨g,3,none⟩ v3).setCell ⟨g,4,none⟩ v4).setCell ⟨g,5,none⟩ v5).heap[g]?=some (.cells #[v0,v1,v2,v3,v4,v5,a6,a7,a8] t (0,0)):=Bs h5 5 v5;have h7:(((((((w.setCell ⟨g,0,none⟩ v0).setCell ⟨g,1,none⟩ v1).setCell ⟨g,2,none⟩ v2).setCell ⟨g,3,none⟩ v3).setCell ⟨g,4,none⟩ v4).setCell ⟨g,5,none⟩ v5).setCell ⟨g,6,none⟩ v6).heap[g]?=some (.cells #[v0,v1,v2,v3,v4,v5,v6,a7,a8] t (0,0)):=Bs h6 6 v6;have h8:((((((((w.setCell ⟨g,0,none⟩ v0).setCell ⟨g,1,none⟩ v1).setCell ⟨g,2,none⟩ v2).setCell ⟨g,3,none⟩ v3).setCell ⟨g,4,none⟩ v4).setCell ⟨g,5,none⟩ v5).setCell ⟨g,6,none⟩ v6).setCell ⟨g,7,none⟩ v7).heap[g]?=some (.cells #[v0,v1,v2,v3,v4,v5,v6,v7,a8] t (0,0)):=Bs h7 7 v7;have h9:(((((((((w.setCell ⟨g,0,none⟩ v0).setCell ⟨g,1,none⟩ v1).setCell ⟨g,2,none⟩ v2).setCell ⟨g,3,none⟩ v3).setCell ⟨g,4,none⟩ v4).setCell ⟨g,5,none⟩ v5).setCell ⟨g,6,none⟩ v6).setCell ⟨g,7,none⟩ v7).setCell ⟨g,8,none⟩ v8).heap[g]?=some (.cells #[v0,v1,v2,v3,v4,v5,v6,v7,v8] t (0,0)):=Bs h8 8 v8;exact h9
theorem Ft{N g:Nat}{w W:World}(h:Below N w W)(hg:N≤g)(v0 v1 v2 v3 v4 v5 v6 v7 v8:Value):Below N w (((((((((W.setCell ⟨g,0,none⟩ v0).setCell ⟨g,1,none⟩ v1).setCell ⟨g,2,none⟩ v2).setCell ⟨g,3,none⟩ v3).setCell ⟨g,4,none⟩ v4).setCell ⟨g,5,none⟩ v5).setCell ⟨g,6,none⟩ v6).setCell ⟨g,7,none⟩ v7).setCell ⟨g,8,none⟩ v8):=by
 have h1:Below N w (W.setCell ⟨g,0,none⟩ v0):=h.setCell (p:=⟨g,0,none⟩) hg v0;have h2:Below N w ((W.setCell ⟨g,0,none⟩ v0).setCell ⟨g,1,none⟩ v1):=h1.setCell (p:=⟨g,1,none⟩) hg v1;have h3:Below N w (((W.setCell ⟨g,0,none⟩ v0).setCell ⟨g,1,none⟩ v1).setCell ⟨g,2,none⟩ v2):=h2.setCell (p:=⟨g,2,none⟩) hg v2;have h4:Below N w ((((W.setCell ⟨g,0,none⟩ v0).setCell ⟨g,1,none⟩ v1).setCell ⟨g,2,none⟩ v2).setCell ⟨g,3,none⟩ v3):=h3.setCell (p:=⟨g,3,none⟩) hg v3;have h5:Below N w (((((W.setCell ⟨g,0,none⟩ v0).setCell ⟨g,1,none⟩ v1).setCell ⟨g,2,none⟩ v2).setCell ⟨g,3,none⟩ v3).setCell ⟨g,4,none⟩ v4):=h4.setCell (p:=⟨g,4,none⟩) hg v4;have h6:Below N w ((((((W.setCell ⟨g,0,none⟩ v0).setCell ⟨g,1,none⟩ v1).setCell ⟨g,2,none⟩ v2).setCell ⟨g,3,none⟩ v3).setCell ⟨g,4,none⟩ v4).setCell ⟨g,5,none⟩ v5):=h5.setCell (p:=⟨g,5,none⟩) hg v5;have h7:Below N w (((((((W.setCell ⟨g,0,none⟩ v0).setCell ⟨g,1,none⟩ v1).setCell ⟨g,2,none⟩ v2).setCell ⟨g,3,none⟩ v3).setCell ⟨g,4,none⟩ v4).setCell ⟨g,5,none⟩ v5).setCell ⟨g,6,none⟩ v6):=h6.setCell (p:=⟨g,6,none⟩) hg v6;have h8:Below N w ((((((((W.setCell ⟨g,0,none⟩ v0).setCell ⟨g,1,none⟩ v1).setCell ⟨g,2,none⟩ v2).setCell ⟨g,3,none⟩ v3).setCell ⟨g,4,none⟩ v4).setCell ⟨g,5,none⟩ v5).setCell ⟨g,6,none⟩ v6).setCell ⟨g,7,none⟩ v7):=h7.setCell (p:=⟨g,7,none⟩) hg v7;have h9:Below N w (((((((((W.setCell ⟨g,0,none⟩ v0).setCell ⟨g,1,none⟩ v1).setCell ⟨g,2,none⟩ v2).setCell ⟨g,3,none⟩ v3).setCell ⟨g,4,none⟩ v4).setCell ⟨g,5,none⟩ v5).setCell ⟨g,6,none⟩ v6).setCell ⟨g,7,none⟩ v7).setCell ⟨g,8,none⟩ v8):=h8.setCell (p:=⟨g,8,none⟩) hg v8;exact h9
def CoreM.v(c:CoreM):Value:=.agg c.arr
def Ld:Array Value:=#[.int .i64 0,.int .i64 0,.int .i64 0,.int .i64 0,.int .i64 0,.int .i64 0,.int .i64 0,.int .i64 0,.int .i64 0]
theorem IZ{w W:World}{N d:Nat}{c:CoreM}{cs z:Array Value}{t t':TypeId}(b3:W.heap[N]?=some (.cells cs t (0,0)))(b6:W.heap[N+1+1]?=some (.cells z t' (0,0)))(hB:Below N w W)(he:c.arr=cs)
  (hs:∀ v:Nat,c.arr.setIfInBounds d (.int .i64 v)=(c.set d v).arr)(v:Nat) :
  (W.setCell ⟨N,d,none⟩ (.int .i64 v)).heap[N]?=some (.cells (c.set d v).arr t (0,0))∧(W.setCell ⟨N,d,none⟩ (.int .i64 v)).heap[N+1+1]?=some (.cells z t' (0,0))∧Below N w (W.setCell ⟨N,d,none⟩ (.int .i64 v)):=by
 have h:=Bs b3 d (.int .i64 v);rw[←he,hs]at h;exact⟨h,Ba (p:=⟨N,d,none⟩) b6 (show N+1+1≠N by omega) _,hB.setCell (p:=⟨N,d,none⟩) (Nl _) _⟩
theorem Pw(c:CoreM)(d s t k:Nat)(op u a q:Int)(self:Nat)(w:World)(hc:c.r.length=8)(hop:op=1∨op=2∨op=3∨op=4∨op=5∨op=6∨op=7∨op=8∨op=9∨op=10∨op=11∨op=12)(hk5:op=5∨op=6→k<32)(hd:d<8)(hs:s<8)(ht:t<8)(hk:k<4294967296)(hreg:∀ j,c.r.getD j 0<4294967296)(hself:self<4294967296)(hp0:0≤c.pc)(hp1:c.pc≤100000) :
  Calls Tryz.prog 117 #[c.v,(In.mk op d s t u a k q).v,.int .i64 self] w fun e W'=>e=.returned (Fz c ⟨op,d,s,t,u,a,k,q⟩ self).v∧Below w.heap.size w W':=by
 obtain⟨a0,a1,a2,a3,a4,a5,a6,a7,a8,he⟩:=Cm hc;have b0:=Az (Below.refl w.heap.size w);have hcs:=Ie hc s hs;have hct:=Ie hc t ht;have hcp:=Jk hc;have hset:=fun v=>RW hc d hd v
 unfold CoreM.v;rw[he]at hcs hct hcp ⊢;simp only[In.v];obtain⟨fin,hfin⟩:∃ r,Fz c ⟨op,d,s,t,u,a,k,q⟩ self=r:=⟨_,rfl⟩
 rw[hfin];obtain⟨S,hS9⟩:∃ S,c.r.getD s 0=S:=⟨_,rfl⟩
 obtain⟨T,hT9⟩:∃ S,c.r.getD t 0=S:=⟨_,rfl⟩
 simp only[Fz,CoreM.get,Int.toNat_natCast,hS9,hT9]at hfin;have hS1:=hreg s;have hT1:=hreg t;rw[hS9]at hcs hS1;rw[hT9]at hct hT1;clear hS9 hT9;have hcd:=Ie hc d hd;rw[he]at hcd;have hpw:IntKind.i64.wrap (c.pc+1)=c.pc+1:=by rw[IntKind.wrap_i64];omega
 obtain⟨D,hD9⟩:∃ S,c.r.getD d 0=S:=⟨_,rfl⟩
 rw[hD9]at hcd;clear hD9;replace hfin:=Az hfin;replace hset:=Az hset;have hkw:IntKind.i64.wrap (k:Int)=(k:Int):=by rw[IntKind.wrap_i64];omega
 have o1:¬op≥16:=by omega
 have o2:¬op=13:=by omega
 have o3:(op==13)=false:=Bq o2;go_enter Tryz.func117,Tryz.ntmps117;go_wp2_with fail
 obtain⟨W1,hW1⟩:∃ x,(((w.alloc (.cells #[.int .i64 a0,.int .i64 a1,.int .i64 a2,.int .i64 a3,.int .i64 a4,.int .i64 a5,.int .i64 a6,.int .i64 a7,.int .i64 a8] 133)).alloc (.cells (In.cs ⟨op,d,s,t,u,a,k,q⟩) 90)).alloc (.cells #[.int .i64 0,.int .i64 0,.int .i64 0,.int .i64 0,.int .i64 0,.int .i64 0,.int .i64 0,.int .i64 0,.int .i64 0] 133))=x:=⟨_,rfl⟩
 simp only[In.cs]at hW1;have b3:W1.heap[w.heap.size]?=some (.cells #[.int .i64 a0,.int .i64 a1,.int .i64 a2,.int .i64 a3,.int .i64 a4,.int .i64 a5,.int .i64 a6,.int .i64 a7,.int .i64 a8] 133 (0,0)):=by rw[←hW1];exact AF (AF (Bv w _) _) _
 have b4:W1.heap[w.heap.size+1]?=some (.cells (In.cs ⟨op,d,s,t,u,a,k,q⟩) 90 (0,0)):=by rw[←hW1];exact AF (Dh w _ _) _
 have b6:W1.heap[w.heap.size+1+1]?=some (.cells #[.int .i64 0,.int .i64 0,.int .i64 0,.int .i64 0,.int .i64 0,.int .i64 0,.int .i64 0,.int .i64 0,.int .i64 0] 133 (0,0)):=by rw[←hW1];exact Lz w _ _ _
 rw[hW1];have s0:(0:Int)≤(s:Int):=by omega
 have s1:(s:Int)<8:=by omega
 have t0:(0:Int)≤(t:Int):=by omega
 have t1:(t:Int)<8:=by omega
 have d0:(0:Int)≤(d:Int):=by omega
 have d1:(d:Int)<8:=by omega
 have hS:W1.drew.cell? ⟨w.heap.size+1,2,none⟩=some (.int .i64 s)∧W1.drew.cell? ⟨w.heap.size+1,3,none⟩=some (.int .i64 t)∧W1.drew.cell? ⟨w.heap.size+1,6,none⟩=some (.int .u32 k)∧W1.drew.cell? ⟨w.heap.size,s,none⟩=some (.int .i64 (S:Int))∧W1.drew.cell? ⟨w.heap.size,t,none⟩=some (.int .i64 (T:Int)) :=
  ⟨(Bc b4 2).trans rfl,(Bc b4 3).trans rfl,(Bc b4 6).trans rfl,(Bc b3 s).trans hcs,(Bc b3 t).trans hct⟩
 go_region_held3 (fun W=>W.cell? ⟨w.heap.size+1,2,none⟩=some (.int .i64 s)∧W.cell? ⟨w.heap.size+1,3,none⟩=some (.int .i64 t)∧W.cell? ⟨w.heap.size+1,6,none⟩=some (.int .u32 k)∧W.cell? ⟨w.heap.size,s,none⟩=some (.int .i64 (S:Int))∧W.cell? ⟨w.heap.size,t,none⟩=some (.int .i64 (T:Int))) (first |exact hS) (first |fail)
 replace b3:=Be b3;replace b4:=Be b4;replace b6:=Be b6;have hB:Below w.heap.size w W1.drew:=by rw[←hW1];exact Bd ((((b0.out.alloc (Nl _) _).alloc (by simp) _).alloc (by simp;omega) _))
 obtain⟨W2,hW2⟩:∃ x,W1.drew=x:=⟨_,rfl⟩
 rw[hW2]at b3 b4 b6 hB ⊢;clear hS hW1 hW2;replace hB:=Az hB;have p8:=(Bc b3 8).trans hcp;have f8:=Bf b3 8;have c3:W2.cell? ⟨w.heap.size,d,none⟩=some (.int .i64 (D:Int)):=(Bc b3 d).trans hcd;have f3:=Bf b3 d;have y0:W2.cell? ⟨w.heap.size+1,0,none⟩=some (.int .i64 op):=(Bc b4 0).trans rfl;have y1:W2.cell? ⟨w.heap.size+1,1,none⟩=some (.int .i64 d):=(Bc b4 1).trans rfl;have y7:W2.cell? ⟨w.heap.size+1,7,none⟩=some (.int .i64 q):=(Bc b4 7).trans rfl;have hput:=fun v=>(IZ b3 b6 hB.out he hset.out v)
 replace hput:=Az hput;replace b3:=Az b3;replace b6:=Az b6;go_upto_region 4 with fail
 go_cut [10] (fun v10 wx=>v10=.int .i64 (c.pc+1)∧wx=W2)
 case first =>
  go_wp2_with fail
  go_meet
  exact⟨rfl,rfl⟩
 case rest =>
 obtain⟨rfl,rfl⟩:=hcut;go_step
 go_step
 go_cut [10] (fun v10 wx=>∃ (c1:CoreM) (p:Int),v10=.int .i64 p∧Af (c1.at p=fin)∧c1.r.length=8∧Af (wx.heap[w.heap.size]?=some (.cells c1.arr 133 (0,0)))∧Af (wx.heap[w.heap.size+1+1]?=some (.cells Ld 133 (0,0)))∧Af (Below w.heap.size w wx))
 case first =>
  rcases hop with rfl |rfl |rfl |rfl |rfl |rfl |rfl |rfl |rfl |rfl |rfl |rfl
  ·go_wp2_with fail
   go_meet
   obtain⟨h1,h2,h3⟩:=hput.out k;exact⟨_,_,rfl,⟨by rw[←hfin.out];simp⟩,by rw[EP];exact hc,⟨h1⟩,⟨h2⟩,⟨h3⟩⟩
  ·go_wp2_with fail
   go_meet
   obtain⟨h1,h2,h3⟩:=hput.out S;exact⟨_,_,rfl,⟨by rw[←hfin.out];simp⟩,by rw[EP];exact hc,⟨h1⟩,⟨h2⟩,⟨h3⟩⟩
  ·go_wp2_with fail
   go_meet
   obtain⟨h1,h2,h3⟩:=hput.out ((S+k)%Bj);have e3:(((S+k)%Bj:Nat):Int)=((S:Int)+k)%4294967296:=by simp[Bj]
   rw[e3]at h1 h2 h3;exact⟨_,_,rfl,⟨by rw[←hfin.out];simp⟩,by rw[EP];exact hc,⟨h1⟩,⟨h2⟩,⟨h3⟩⟩
  ·skip
   have hS5:(fun W':World=>W'.cell? ⟨w.heap.size+1,1,none⟩=some (.int .i64 (d:Int))) wc.drew:=FK (Bd (Below.refl _ _)) y1;have hb3:=Be b3.out;have hb6:=Be b6.out;have hbB:=Bd hB.out;go_wp2_with fail
   refine Aw [7] (S:=fun W':World=>W'.cell? ⟨w.heap.size+1,1,none⟩=some (.int .i64 (d:Int))) (by kernel_rfl) hS5 (fun hS0=>?_);clear hS5 c3 f3 y0 y1 y7 p8 f8;try simp only[Act.put,Sa,Sb,Sc]
   refine tY 0 (fun _=>hS0) ?_;refine Db (i:=1) (v:=?_) (An rfl) (by kernel_rfl) (fun _ _ _ h=>h) (.inl ⟨by rfl,?_⟩) (hS0) ?_;rotate_left
   ·intro w hSw;obtain s0:=hSw;go_simp;try with_reducible rfl
   try simp only[Act.put,Sa,Sb,Sc]
   refine tY 2 (fun _=>hS0) ?_;refine tY 3 (fun _=>hS0) ?_;refine tY 5 (fun _=>hS0) ?_;refine Ab (rs:=[4]) (by kernel_rfl) (by simp) ?_;refine Aa.cons (An rfl) (fun K hK=>?_) Aa.nil;rw[if_pos (by rfl)];go_wp2_with fail
   refine(Tw S k hS1 (by omega) _).mono ?_;rintro e w9 ⟨rfl,hb9⟩;replace hS0:(fun W':World=>W'.cell? ⟨w.heap.size+1,1,none⟩=some (.int .i64 (d:Int))) w9:=FK hb9 hS0;refine hK.out _ _ (fun _=>hS0) (fun _=>?_);have p3:=Bk hb9 hb3;have p6:=Bk hb9 hb6;have pB:=hbB.trans (hb9.mono hbB.size);have c3:w9.cell? ⟨w.heap.size,d,none⟩=some (.int .i64 (D:Int)):=(Bc p3 d).trans hcd;have f3:=Bf p3 d;obtain⟨h1,h2,h3⟩:=IZ p3 p6 pB he hset.out (Nat.land S k);clear hb9 hb3 hb6 hbB hK p3 p6 pB;try simp only[Act.put,Sa,Sb,Sc]
   refine tY 6 (fun _=>hS0) ?_;refine Ab (rs:=[7]) (by kernel_rfl) (by simp) ?_;refine Aa.cons (An rfl) (fun K hK=>?_) Aa.nil;rw[if_pos (by rfl)];go_wp2_with fail
   refine hK.out _ _ (fun h=>by cases h) (fun _=>?_);try simp only[Act.put,Sa,Sb,Sc]
   refine A4 (by kernel_rfl) ?_ _;go_wp2;go_meet
   exact⟨_,_,rfl,⟨by rw[←hfin.out];simp⟩,by rw[EP];exact hc,⟨h1⟩,⟨h2⟩,⟨h3⟩⟩
  ·have hkk:=hk5 (.inl rfl);have C:=J0 k (by omega);have hpo:=IP (n:=k) (by omega);obtain⟨x,hx⟩:∃ x,2 ^ k=x:=⟨_,rfl⟩
   rw[hx]at C hpo;have hmul:S*x<9223372036854775808:=Nat.lt_of_lt_of_le (Nat.mul_lt_mul_of_lt_of_le hS1 hpo (by decide)) (by decide);obtain⟨z,hz⟩:∃ z,S*x=z:=⟨_,rfl⟩
   rw[hz]at hmul;have hz2:(S:Int)*(x:Int)=(z:Int):=by rw[←hz];simp
   have hz3:IntKind.i64.wrap (z:Int)=(z:Int):=by rw[IntKind.wrap_i64];omega
   have hz4:wrap64 (z:Int)=(z:Int):=by unfold wrap64;omega
   have hz5:Int.tmod (z:Int) 4294967296=((z%Bj:Nat):Int):=rfl;have hz6:IntKind.i64.wrap ((z%Bj:Nat):Int)=((z%Bj:Nat):Int):=(wrap_small (Nat.mod_lt _ (by decide))).1;have hS5:(fun W':World=>W'.cell? ⟨w.heap.size+1,1,none⟩=some (.int .i64 (d:Int))) wc.drew:=FK (Bd (Below.refl _ _)) y1;have hb3:=Be b3.out;have hb6:=Be b6.out;have hbB:=Bd hB.out;go_wp2_with fail
   refine Aw [9] (S:=fun W':World=>W'.cell? ⟨w.heap.size+1,1,none⟩=some (.int .i64 (d:Int))) (by kernel_rfl) hS5 (fun hS0=>?_);clear hS5 c3 f3 y0 y1 y7 p8 f8;try simp only[Act.put,Sa,Sb,Sc]
   refine tY 0 (fun _=>hS0) ?_;refine Db (i:=1) (v:=?_) (An rfl) (by kernel_rfl) (fun _ _ _ h=>h) (.inl ⟨by rfl,?_⟩) (hS0) ?_;rotate_left
   ·intro w hSw;obtain s0:=hSw;go_simp;try with_reducible rfl
   try simp only[Act.put,Sa,Sb,Sc]
   refine tY 2 (fun _=>hS0) ?_;refine tY 3 (fun _=>hS0) ?_;refine tY 7 (fun _=>hS0) ?_;refine Ab (rs:=[4]) (by kernel_rfl) (by simp) ?_;refine Aa.cons (An rfl) (fun K hK=>?_) Aa.nil;rw[if_pos (by rfl)];go_wp2_with fail
   refine(C _).mono ?_;rintro e w9 ⟨rfl,hb9⟩;replace hS0:(fun W':World=>W'.cell? ⟨w.heap.size+1,1,none⟩=some (.int .i64 (d:Int))) w9:=FK hb9 hS0;refine hK.out _ _ (fun _=>hS0) (fun _=>?_);have p3:=Bk hb9 hb3;have p6:=Bk hb9 hb6;have pB:=hbB.trans (hb9.mono hbB.size);have c3:w9.cell? ⟨w.heap.size,d,none⟩=some (.int .i64 (D:Int)):=(Bc p3 d).trans hcd;have f3:=Bf p3 d;obtain⟨h1,h2,h3⟩:=IZ p3 p6 pB he hset.out (z%Bj);clear hb9 hb3 hb6 hbB hK p3 p6 pB;try simp only[Act.put,Sa,Sb,Sc]
   refine tY 5 (fun _=>hS0) ?_;refine tY 6 (fun _=>hS0) ?_;refine tY 8 (fun _=>hS0) ?_;refine Ab (rs:=[9]) (by kernel_rfl) (by simp) ?_;refine Aa.cons (An rfl) (fun K hK=>?_) Aa.nil;rw[if_pos (by rfl)];go_wp2_with fail
   refine hK.out _ _ (fun h=>by cases h) (fun _=>?_);try simp only[Act.put,Sa,Sb,Sc]
   refine A4 (by kernel_rfl) ?_ _;go_wp2;go_meet
   exact⟨_,_,rfl,⟨by rw[←hfin.out];simp[←hz,←hx]⟩,by rw[EP];exact hc,⟨h1⟩,⟨h2⟩,⟨h3⟩⟩
  ·have hkk:=hk5 (.inr rfl);have C:=J0 k (by omega);have hpo:=IP (n:=k) (by omega);have hp0:=Nat.two_pow_pos k;obtain⟨x,hx⟩:∃ x,2 ^ k=x:=⟨_,rfl⟩
   rw[hx]at C hpo hp0;have xz:((x:Int)==0)=false:=Bq (by omega);have xz2:¬(x:Int)=0:=by omega
   have xz3:¬x=0:=by omega
   have hz2:Int.tdiv (S:Int) (x:Int)=((S/x:Nat):Int):=rfl;obtain⟨z,hz⟩:∃ z,S/x=z:=⟨_,rfl⟩
   have hzl:z<4294967296:=by rw[←hz];exact Nat.lt_of_le_of_lt (Nat.div_le_self S x) hS1
   rw[hz]at hz2;obtain⟨hz3,hz4⟩:=wrap_small hzl;have hS5:(fun W':World=>W'.cell? ⟨w.heap.size+1,1,none⟩=some (.int .i64 (d:Int))) wc.drew:=FK (Bd (Below.refl _ _)) y1;have hb3:=Be b3.out;have hb6:=Be b6.out;have hbB:=Bd hB.out;go_wp2_with fail
   refine Aw [8] (S:=fun W':World=>W'.cell? ⟨w.heap.size+1,1,none⟩=some (.int .i64 (d:Int))) (by kernel_rfl) hS5 (fun hS0=>?_);clear hS5 c3 f3 y0 y1 y7 p8 f8;try simp only[Act.put,Sa,Sb,Sc]
   refine tY 0 (fun _=>hS0) ?_;refine Db (i:=1) (v:=?_) (An rfl) (by kernel_rfl) (fun _ _ _ h=>h) (.inl ⟨by rfl,?_⟩) (hS0) ?_;rotate_left
   ·intro w hSw;obtain s0:=hSw;go_simp;try with_reducible rfl
   try simp only[Act.put,Sa,Sb,Sc]
   refine tY 2 (fun _=>hS0) ?_;refine tY 3 (fun _=>hS0) ?_;refine tY 6 (fun _=>hS0) ?_;refine Ab (rs:=[4]) (by kernel_rfl) (by simp) ?_;refine Aa.cons (An rfl) (fun K hK=>?_) Aa.nil;rw[if_pos (by rfl)];go_wp2_with fail
   refine(C _).mono ?_;rintro e w9 ⟨rfl,hb9⟩;replace hS0:(fun W':World=>W'.cell? ⟨w.heap.size+1,1,none⟩=some (.int .i64 (d:Int))) w9:=FK hb9 hS0;refine hK.out _ _ (fun _=>hS0) (fun _=>?_);have p3:=Bk hb9 hb3;have p6:=Bk hb9 hb6;have pB:=hbB.trans (hb9.mono hbB.size);have c3:w9.cell? ⟨w.heap.size,d,none⟩=some (.int .i64 (D:Int)):=(Bc p3 d).trans hcd;have f3:=Bf p3 d;obtain⟨h1,h2,h3⟩:=IZ p3 p6 pB he hset.out z;clear hb9 hb3 hb6 hbB hK p3 p6 pB;try simp only[Act.put,Sa,Sb,Sc]
   refine tY 5 (fun _=>hS0) ?_;refine tY 7 (fun _=>hS0) ?_;refine Ab (rs:=[8]) (by kernel_rfl) (by simp) ?_;refine Aa.cons (An rfl) (fun K hK=>?_) Aa.nil;rw[if_pos (by rfl)];go_wp2_with fail
   refine hK.out _ _ (fun h=>by cases h) (fun _=>?_);try simp only[Act.put,Sa,Sb,Sc]
   refine A4 (by kernel_rfl) ?_ _;go_wp2;go_meet
   exact⟨_,_,rfl,⟨by rw[←hfin.out];simp[←hz,←hx]⟩,by rw[EP];exact hc,⟨h1⟩,⟨h2⟩,⟨h3⟩⟩
  ·skip
   have hS5:(fun W':World=>W'.cell? ⟨w.heap.size+1,1,none⟩=some (.int .i64 (d:Int))) wc.drew:=FK (Bd (Below.refl _ _)) y1;have hb3:=Be b3.out;have hb6:=Be b6.out;have hbB:=Bd hB.out;go_wp2_with fail
   refine Aw [7] (S:=fun W':World=>W'.cell? ⟨w.heap.size+1,1,none⟩=some (.int .i64 (d:Int))) (by kernel_rfl) hS5 (fun hS0=>?_);clear hS5 c3 f3 y0 y1 y7 p8 f8;try simp only[Act.put,Sa,Sb,Sc]
   refine tY 0 (fun _=>hS0) ?_;refine Db (i:=1) (v:=?_) (An rfl) (by kernel_rfl) (fun _ _ _ h=>h) (.inl ⟨by rfl,?_⟩) (hS0) ?_;rotate_left
   ·intro w hSw;obtain s0:=hSw;go_simp;try with_reducible rfl
   try simp only[Act.put,Sa,Sb,Sc]
   refine tY 2 (fun _=>hS0) ?_;refine tY 3 (fun _=>hS0) ?_;refine tY 5 (fun _=>hS0) ?_;refine Ab (rs:=[4]) (by kernel_rfl) (by simp) ?_;refine Aa.cons (An rfl) (fun K hK=>?_) Aa.nil;rw[if_pos (by rfl)];go_wp2_with fail
   refine(US S T hS1 hT1 _).mono ?_;rintro e w9 ⟨rfl,hb9⟩;replace hS0:(fun W':World=>W'.cell? ⟨w.heap.size+1,1,none⟩=some (.int .i64 (d:Int))) w9:=FK hb9 hS0;refine hK.out _ _ (fun _=>hS0) (fun _=>?_);have p3:=Bk hb9 hb3;have p6:=Bk hb9 hb6;have pB:=hbB.trans (hb9.mono hbB.size);have c3:w9.cell? ⟨w.heap.size,d,none⟩=some (.int .i64 (D:Int)):=(Bc p3 d).trans hcd;have f3:=Bf p3 d;obtain⟨h1,h2,h3⟩:=IZ p3 p6 pB he hset.out (Nat.lor S T);clear hb9 hb3 hb6 hbB hK p3 p6 pB;try simp only[Act.put,Sa,Sb,Sc]
   refine tY 6 (fun _=>hS0) ?_;refine Ab (rs:=[7]) (by kernel_rfl) (by simp) ?_;refine Aa.cons (An rfl) (fun K hK=>?_) Aa.nil;rw[if_pos (by rfl)];go_wp2_with fail
   refine hK.out _ _ (fun h=>by cases h) (fun _=>?_);try simp only[Act.put,Sa,Sb,Sc]
   refine A4 (by kernel_rfl) ?_ _;go_wp2;go_meet
   exact⟨_,_,rfl,⟨by rw[←hfin.out];simp⟩,by rw[EP];exact hc,⟨h1⟩,⟨h2⟩,⟨h3⟩⟩
  ·by_cases hST:S=T
   ·subst hST;have e1:((S:Int)==(S:Int))=true:=beq_self_eq_true _;go_wp2_with fail
    go_meet
    exact⟨c,_,rfl,⟨by rw[←hfin.out];simp⟩,hc,⟨by rw[he];exact b3.out⟩,b6,hB⟩
   ·have e1:((S:Int)==(T:Int))=false:=Bq (by omega);go_wp2_with fail
    go_meet
    exact⟨c,_,rfl,⟨by rw[←hfin.out];simp[hST]⟩,hc,⟨by rw[he];exact b3.out⟩,b6,hB⟩
  ·by_cases hST:S=T
   ·subst hST;have e1:((S:Int)==(S:Int))=true:=beq_self_eq_true _;have e2:((S:Int) != (S:Int))=false:=bne_self_eq_false _;go_wp2_with fail
    go_meet
    exact⟨c,_,rfl,⟨by rw[←hfin.out];simp⟩,hc,⟨by rw[he];exact b3.out⟩,b6,hB⟩
   ·have e1:((S:Int)==(T:Int))=false:=Bq (by omega);have e2:((S:Int) != (T:Int))=true:=bne_iff_ne.2 (by omega);go_wp2_with fail
    go_meet
    exact⟨c,_,rfl,⟨by rw[←hfin.out];simp[hST]⟩,hc,⟨by rw[he];exact b3.out⟩,b6,hB⟩
  ·go_wp2_with fail
   go_meet
   exact⟨c,_,rfl,⟨by rw[←hfin.out];simp⟩,hc,⟨by rw[he];exact b3.out⟩,b6,hB⟩
  ·go_wp2_with fail
   go_meet
   obtain⟨h1,h2,h3⟩:=hput.out self;exact⟨_,_,rfl,⟨by rw[←hfin.out];simp⟩,by rw[EP];exact hc,⟨h1⟩,⟨h2⟩,⟨h3⟩⟩
  ·go_wp2_with fail
   go_meet
   exact⟨c,_,rfl,⟨by rw[←hfin.out];simp⟩,hc,⟨by rw[he];exact b3.out⟩,b6,hB⟩
 case rest =>
  obtain⟨c1,p,rfl,hf,hl,b3,b6,hB⟩:=hcut;have p8:=(Bc b3.out 8).trans (Jk hl);have f8:=Bf b3.out 8;have b3':=Bs b3.out 8 (.int .i64 p);have b6':=Ba (p:=⟨w.heap.size,8,none⟩) b6.out (show w.heap.size+1+1≠w.heap.size by omega) (.int .i64 p);have hB':=hB.out.setCell (p:=⟨w.heap.size,8,none⟩) (Nl _) (.int .i64 p);rw[QO hl,hf.out]at b3';have hl':fin.r.length=8:=by rw[←hf.out];exact hl
  generalize hW4:wc.setCell ⟨w.heap.size,8,none⟩ (.int .i64 p)=W4 at *;go_upto_region 31 with fail
  try rw[hW4]
  obtain⟨z0,z1,z2,z3,z4,z5,z6,z7,z8,hz⟩:=Cm (c:=fin) hl';rw[hz]at b3';have g0:W4.cell? ⟨w.heap.size,0,none⟩=some (.int .i64 z0):=(Bc b3' 0).trans rfl;have g1:W4.cell? ⟨w.heap.size,1,none⟩=some (.int .i64 z1):=(Bc b3' 1).trans rfl;have g2:W4.cell? ⟨w.heap.size,2,none⟩=some (.int .i64 z2):=(Bc b3' 2).trans rfl;have g3:W4.cell? ⟨w.heap.size,3,none⟩=some (.int .i64 z3):=(Bc b3' 3).trans rfl;have g4:W4.cell? ⟨w.heap.size,4,none⟩=some (.int .i64 z4):=(Bc b3' 4).trans rfl;have g5:W4.cell? ⟨w.heap.size,5,none⟩=some (.int .i64 z5):=(Bc b3' 5).trans rfl;have g6:W4.cell? ⟨w.heap.size,6,none⟩=some (.int .i64 z6):=(Bc b3' 6).trans rfl;have g7:W4.cell? ⟨w.heap.size,7,none⟩=some (.int .i64 z7):=(Bc b3' 7).trans rfl;have g8:W4.cell? ⟨w.heap.size,8,none⟩=some (.int .i64 z8):=(Bc b3' 8).trans rfl;have x0:W4.cell? ⟨w.heap.size+1+1,0,none⟩=some (.int .i64 0):=(Bc b6' 0).trans rfl;have y0:=Bf b6' 0;have x1:W4.cell? ⟨w.heap.size+1+1,1,none⟩=some (.int .i64 0):=(Bc b6' 1).trans rfl;have y1:=Bf b6' 1;have x2:W4.cell? ⟨w.heap.size+1+1,2,none⟩=some (.int .i64 0):=(Bc b6' 2).trans rfl;have y2:=Bf b6' 2;have x3:W4.cell? ⟨w.heap.size+1+1,3,none⟩=some (.int .i64 0):=(Bc b6' 3).trans rfl;have y3:=Bf b6' 3;have x4:W4.cell? ⟨w.heap.size+1+1,4,none⟩=some (.int .i64 0):=(Bc b6' 4).trans rfl;have y4:=Bf b6' 4;have x5:W4.cell? ⟨w.heap.size+1+1,5,none⟩=some (.int .i64 0):=(Bc b6' 5).trans rfl;have y5:=Bf b6' 5;have x6:W4.cell? ⟨w.heap.size+1+1,6,none⟩=some (.int .i64 0):=(Bc b6' 6).trans rfl;have y6:=Bf b6' 6;have x7:W4.cell? ⟨w.heap.size+1+1,7,none⟩=some (.int .i64 0):=(Bc b6' 7).trans rfl;have y7:=Bf b6' 7;have x8:W4.cell? ⟨w.heap.size+1+1,8,none⟩=some (.int .i64 0):=(Bc b6' 8).trans rfl;have y8:=Bf b6' 8;have hG2:w.heap.size≤w.heap.size+1+1:=by omega
  clear hW4 b3 b6 hB p8 f8;generalize w.heap.size+1+1=G at *;go_wp2;refine bodyPost_ret (fn:=Tryz.f117) (results_cell_row rfl _ _ G 133 #[.int .i64 z0,.int .i64 z1,.int .i64 z2,.int .i64 z3,.int .i64 z4,.int .i64 z5,.int .i64 z6,.int .i64 z7,.int .i64 z8] (0,0) _ rfl ?_ Tryz.underlying133 rfl (by kernel_rfl)) rfl ⟨by rw[hz],?_⟩
  ·exact Hk b6' _ _ _ _ _ _ _ _ _
  ·exact Ft hB' hG2 _ _ _ _ _ _ _ _ _
theorem St(a b c:UInt8):(⟨#[a,b,c]⟩:ByteArray)=⟨[a,b,c].toArray⟩:=rfl
theorem Su(a b c d e:UInt8):(⟨#[a,b,c,d,e]⟩:ByteArray)=⟨[a,b,c,d,e].toArray⟩:=rfl
theorem Xq(d s t u a q:Int)(hf:In.fits ⟨21,d,s,t,u,a,0,q⟩)(hq:0≤q)(w:World) :
  Calls Tryz.prog 92 #[.agg #[.int .i64 21,.int .i64 d,.int .i64 s,.int .i64 t,.int .i64 u,.int .i64 a,.int .u32 0,.int .i64 q]] w fun e w'=>e=.returned (.string ⟨(Bz ⟨21,d,s,t,u,a,0,q⟩).toArray⟩)∧Below w.heap.size w w':=by
 have ew:BW ⟨21,d,s,t,u,a,0,q⟩ 87=[101,113]::(114::dec t)::[[101,108,115,101],dec q]:=by
  unfold BW;rw[show AE 87=none from rfl];dsimp only;rw[if_neg (by omega),if_pos rfl,if_neg (show ¬q = -1 by omega)];rfl
 have te:Bz ⟨21,d,s,t,u,a,0,q⟩=(Ak 21++(((((32::114::dec d)++(32::dec a))++(32::114::dec s))++[32,101,113])++(32::114::dec t)))++([32,101,108,115,101]++(32::dec q)):=by
  show Go.Lib.join (Ak 21::List.flatten [[114::dec d],[dec a],[114::dec s],BW ⟨21,d,s,t,u,a,0,q⟩ 87]) [32]=_
  rw[ew];simp[BH,Go.Lib.join_one]
 clear ew;have CN:=Az (fun W=>AA 21 W);have CK:=Az (fun W=>Ca hf.k.1 hf.k.2 W);have CA:=Az (fun W=>Ca hf.a.1 (Int.le_trans hf.a.2 (by decide)) W);have CQ:=Az (fun W=>Ca hq (Int.le_trans hf.q.2 (by decide)) W);have Cd:=Az (fun W=>AU hf.d.1 (Int.le_trans hf.d.2 (by decide)) W);have Cs:=Az (fun W=>AU hf.s.1 (Int.le_trans hf.s.2 (by decide)) W);have Ct:=Az (fun W=>AU hf.t.1 (Int.le_trans hf.t.2 (by decide)) W);have lk0:=BB hf.k.2;have lq0:=BB (Int.le_trans hf.q.2 (show(1073741824:Int)≤4294967295 by decide));have ld0:=BB (Int.le_trans hf.d.2 (show(7:Int)≤4294967295 by decide));have ls0:=BB (Int.le_trans hf.s.2 (show(7:Int)≤4294967295 by decide));have lt0:=BB (Int.le_trans hf.t.2 (show(7:Int)≤4294967295 by decide));have la0:=BB (Int.le_trans hf.a.2 (show(7:Int)≤4294967295 by decide));dsimp only at lk0 lq0 ld0 ls0 lt0 la0 CN CK CA Cd Cs Ct CQ;have ln0:(Ak 21).length=5:=by decide
 have wk:IntKind.i64.wrap 0=0:=by decide
 have lk:¬9223372036854775807<1+(dec 0).length:=by omega
 have la:¬9223372036854775807<1+(dec a).length:=by omega
 have lq:¬9223372036854775807<1+(dec q).length:=by omega
 have b0:¬9223372036854775807<(((dec d).length+1+1)+(1+(dec a).length)):=by omega
 have b1:¬9223372036854775807<((((dec d).length+1+1)+(1+(dec a).length))+((dec s).length+1+1)):=by omega
 have b2:¬9223372036854775807<(((((dec d).length+1+1)+(1+(dec a).length))+((dec s).length+1+1))+3):=by omega
 have b3:¬9223372036854775807<((((((dec d).length+1+1)+(1+(dec a).length))+((dec s).length+1+1))+3)+((dec t).length+1+1)):=by omega
 have bn:¬9223372036854775807<(Ak 21).length+((((((dec d).length+1+1)+(1+(dec a).length))+((dec s).length+1+1))+3)+((dec t).length+1+1)):=by omega
 have be:¬9223372036854775807<5+(1+(dec q).length):=by omega
 have bz:¬9223372036854775807<(Ak 21).length+((((((dec d).length+1+1)+(1+(dec a).length))+((dec s).length+1+1))+3)+((dec t).length+1+1))+(5+(1+(dec q).length)):=by omega
 clear lk0 lq0 ld0 ls0 lt0 la0 ln0;have hS:=E2 (w:=w) (W:=(w.alloc (.cells (In.cs ⟨21,d,s,t,u,a,0,q⟩) 90)).drew) ⟨Be (Bv w (.cells (In.cs ⟨21,d,s,t,u,a,0,q⟩) 90)),Bd ((Below.refl w.heap.size w).alloc (Nl _) _)⟩;replace hf:=Az hf;replace te:=Az te;go_enter Tryz.func92,Tryz.ntmps92;go_wp2_with fail
 go_region_held3 (fun W=>RB w W 21 d s t u a 0 q)
  (first |exact hS |exact Ad hb (by assumption))
  (first
   |(go_at_call 105;(with_reducible refine(CK.out _).mono ?_);rintro e w' ⟨rfl,hb⟩)
   |(go_at_call 105;(with_reducible refine(CA.out _).mono ?_);rintro e w' ⟨rfl,hb⟩))
 obtain⟨HA,y0,y1,y2,y3,y4,y5,y6,y7⟩:=Ad (Below.refl _ _) (by assumption);go_wp2_with fail
 refine(CQ.out _).mono ?_;rintro e w2 ⟨rfl,hb2⟩;obtain⟨HA,y0,y1,y2,y3,y4,y5,y6,y7⟩:=Ad hb2 ⟨HA,y0,y1,y2,y3,y4,y5,y6,y7⟩;go_wp2_with fail
 refine(CN.out _).mono ?_;rintro e w3 ⟨rfl,hb3⟩;obtain⟨HA,y0,y1,y2,y3,y4,y5,y6,y7⟩:=Ad hb3 ⟨HA,y0,y1,y2,y3,y4,y5,y6,y7⟩;go_wp2_with fail
 have hT:=Ad (Bd (Below.refl w3.heap.size w3)) ⟨HA,y0,y1,y2,y3,y4,y5,y6,y7⟩;go_region_held3 (fun W=>RB w W 21 d s t u a 0 q)
  (first |exact hT |exact Ad hb (by assumption))
  (first
   |(go_at_call 106;(with_reducible refine(Cd.out _).mono ?_);rintro e w' ⟨rfl,hb⟩)
   |(go_at_call 106;(with_reducible refine(Cs.out _).mono ?_);rintro e w' ⟨rfl,hb⟩)
   |(go_at_call 106;(with_reducible refine(Ct.out _).mono ?_);rintro e w' ⟨rfl,hb⟩))
 obtain⟨HA,y0,y1,y2,y3,y4,y5,y6,y7⟩:=Ad (Below.refl _ _) (by assumption);go_wp2;go_ret;refine⟨BJ ?_,HA.out.2⟩;rw[te.out];simp[D4,St,Su,BV]
theorem Vc(d s t u a:Int)(hf:In.fits ⟨21,d,s,t,u,a,0,(-1)⟩)(w:World) :
  Calls Tryz.prog 92 #[.agg #[.int .i64 21,.int .i64 d,.int .i64 s,.int .i64 t,.int .i64 u,.int .i64 a,.int .u32 0,.int .i64 (-1)]] w fun e w'=>e=.returned (.string ⟨(Bz ⟨21,d,s,t,u,a,0,(-1)⟩).toArray⟩)∧Below w.heap.size w w':=by
 have ew:BW ⟨21,d,s,t,u,a,0,(-1)⟩ 87=[101,113]::(114::dec t)::[]:=by
  unfold BW;rw[show AE 87=none from rfl];dsimp only;rw[if_neg (by omega),if_pos rfl,if_pos rfl];rfl
 have te:Bz ⟨21,d,s,t,u,a,0,(-1)⟩=Ak 21++(((((32::114::dec d)++(32::dec a))++(32::114::dec s))++[32,101,113])++(32::114::dec t)):=by
  show Go.Lib.join (Ak 21::List.flatten [[114::dec d],[dec a],[114::dec s],BW ⟨21,d,s,t,u,a,0,(-1)⟩ 87]) [32]=_
  rw[ew];simp[BH,Go.Lib.join_one]
 clear ew;have CN:=Az (fun W=>AA 21 W);have CK:=Az (fun W=>Ca hf.k.1 hf.k.2 W);have CA:=Az (fun W=>Ca hf.a.1 (Int.le_trans hf.a.2 (by decide)) W);have Cd:=Az (fun W=>AU hf.d.1 (Int.le_trans hf.d.2 (by decide)) W);have Cs:=Az (fun W=>AU hf.s.1 (Int.le_trans hf.s.2 (by decide)) W);have Ct:=Az (fun W=>AU hf.t.1 (Int.le_trans hf.t.2 (by decide)) W);have lk0:=BB hf.k.2;have lq0:=BB (Int.le_trans hf.q.2 (show(1073741824:Int)≤4294967295 by decide));have ld0:=BB (Int.le_trans hf.d.2 (show(7:Int)≤4294967295 by decide));have ls0:=BB (Int.le_trans hf.s.2 (show(7:Int)≤4294967295 by decide));have lt0:=BB (Int.le_trans hf.t.2 (show(7:Int)≤4294967295 by decide));have la0:=BB (Int.le_trans hf.a.2 (show(7:Int)≤4294967295 by decide));dsimp only at lk0 lq0 ld0 ls0 lt0 la0 CN CK CA Cd Cs Ct;have ln0:(Ak 21).length=5:=by decide
 have wk:IntKind.i64.wrap 0=0:=by decide
 have lk:¬9223372036854775807<1+(dec 0).length:=by omega
 have la:¬9223372036854775807<1+(dec a).length:=by omega
 have b0:¬9223372036854775807<(((dec d).length+1+1)+(1+(dec a).length)):=by omega
 have b1:¬9223372036854775807<((((dec d).length+1+1)+(1+(dec a).length))+((dec s).length+1+1)):=by omega
 have b2:¬9223372036854775807<(((((dec d).length+1+1)+(1+(dec a).length))+((dec s).length+1+1))+3):=by omega
 have b3:¬9223372036854775807<((((((dec d).length+1+1)+(1+(dec a).length))+((dec s).length+1+1))+3)+((dec t).length+1+1)):=by omega
 have bn:¬9223372036854775807<(Ak 21).length+((((((dec d).length+1+1)+(1+(dec a).length))+((dec s).length+1+1))+3)+((dec t).length+1+1)):=by omega
 clear lk0 lq0 ld0 ls0 lt0 la0 ln0;have hS:=E2 (w:=w) (W:=(w.alloc (.cells (In.cs ⟨21,d,s,t,u,a,0,(-1)⟩) 90)).drew) ⟨Be (Bv w (.cells (In.cs ⟨21,d,s,t,u,a,0,(-1)⟩) 90)),Bd ((Below.refl w.heap.size w).alloc (Nl _) _)⟩;replace hf:=Az hf;replace te:=Az te;go_enter Tryz.func92,Tryz.ntmps92;go_wp2_with fail
 go_region_held3 (fun W=>RB w W 21 d s t u a 0 (-1))
  (first |exact hS |exact Ad hb (by assumption))
  (first
   |(go_at_call 105;(with_reducible refine(CK.out _).mono ?_);rintro e w' ⟨rfl,hb⟩)
   |(go_at_call 105;(with_reducible refine(CA.out _).mono ?_);rintro e w' ⟨rfl,hb⟩))
 obtain⟨HA,y0,y1,y2,y3,y4,y5,y6,y7⟩:=Ad (Below.refl _ _) (by assumption);go_wp2_with fail
 refine(CN.out _).mono ?_;rintro e w2 ⟨rfl,hb2⟩;obtain⟨HA,y0,y1,y2,y3,y4,y5,y6,y7⟩:=Ad hb2 ⟨HA,y0,y1,y2,y3,y4,y5,y6,y7⟩;go_wp2_with fail
 have hT:=Ad (Bd (Below.refl w2.heap.size w2)) ⟨HA,y0,y1,y2,y3,y4,y5,y6,y7⟩;go_region_held3 (fun W=>RB w W 21 d s t u a 0 (-1))
  (first |exact hT |exact Ad hb (by assumption))
  (first
   |(go_at_call 106;(with_reducible refine(Cd.out _).mono ?_);rintro e w' ⟨rfl,hb⟩)
   |(go_at_call 106;(with_reducible refine(Cs.out _).mono ?_);rintro e w' ⟨rfl,hb⟩)
   |(go_at_call 106;(with_reducible refine(Ct.out _).mono ?_);rintro e w' ⟨rfl,hb⟩))
 obtain⟨HA,y0,y1,y2,y3,y4,y5,y6,y7⟩:=Ad (Below.refl _ _) (by assumption);go_wp2;go_ret;refine⟨BJ ?_,HA.out.2⟩;rw[te.out];simp[D4,St,Su,BV]
theorem Xr(d s t u a q:Int)(hf:In.fits ⟨21,d,s,t,u,a,1,q⟩)(hq:0≤q)(w:World) :
  Calls Tryz.prog 92 #[.agg #[.int .i64 21,.int .i64 d,.int .i64 s,.int .i64 t,.int .i64 u,.int .i64 a,.int .u32 1,.int .i64 q]] w fun e w'=>e=.returned (.string ⟨(Bz ⟨21,d,s,t,u,a,1,q⟩).toArray⟩)∧Below w.heap.size w w':=by
 have ew:BW ⟨21,d,s,t,u,a,1,q⟩ 87=[110,101]::(114::dec t)::[[101,108,115,101],dec q]:=by
  unfold BW;rw[show AE 87=none from rfl];dsimp only;rw[if_neg (by omega),if_pos rfl,if_neg (show ¬q = -1 by omega)];rfl
 have te:Bz ⟨21,d,s,t,u,a,1,q⟩=(Ak 21++(((((32::114::dec d)++(32::dec a))++(32::114::dec s))++[32,110,101])++(32::114::dec t)))++([32,101,108,115,101]++(32::dec q)):=by
  show Go.Lib.join (Ak 21::List.flatten [[114::dec d],[dec a],[114::dec s],BW ⟨21,d,s,t,u,a,1,q⟩ 87]) [32]=_
  rw[ew];simp[BH,Go.Lib.join_one]
 clear ew;have CN:=Az (fun W=>AA 21 W);have CK:=Az (fun W=>Ca hf.k.1 hf.k.2 W);have CA:=Az (fun W=>Ca hf.a.1 (Int.le_trans hf.a.2 (by decide)) W);have CQ:=Az (fun W=>Ca hq (Int.le_trans hf.q.2 (by decide)) W);have Cd:=Az (fun W=>AU hf.d.1 (Int.le_trans hf.d.2 (by decide)) W);have Cs:=Az (fun W=>AU hf.s.1 (Int.le_trans hf.s.2 (by decide)) W);have Ct:=Az (fun W=>AU hf.t.1 (Int.le_trans hf.t.2 (by decide)) W);have lk0:=BB hf.k.2;have lq0:=BB (Int.le_trans hf.q.2 (show(1073741824:Int)≤4294967295 by decide));have ld0:=BB (Int.le_trans hf.d.2 (show(7:Int)≤4294967295 by decide));have ls0:=BB (Int.le_trans hf.s.2 (show(7:Int)≤4294967295 by decide));have lt0:=BB (Int.le_trans hf.t.2 (show(7:Int)≤4294967295 by decide));have la0:=BB (Int.le_trans hf.a.2 (show(7:Int)≤4294967295 by decide));dsimp only at lk0 lq0 ld0 ls0 lt0 la0 CN CK CA Cd Cs Ct CQ;have ln0:(Ak 21).length=5:=by decide
 have wk:IntKind.i64.wrap 1=1:=by decide
 have lk:¬9223372036854775807<1+(dec 1).length:=by omega
 have la:¬9223372036854775807<1+(dec a).length:=by omega
 have lq:¬9223372036854775807<1+(dec q).length:=by omega
 have b0:¬9223372036854775807<(((dec d).length+1+1)+(1+(dec a).length)):=by omega
 have b1:¬9223372036854775807<((((dec d).length+1+1)+(1+(dec a).length))+((dec s).length+1+1)):=by omega
 have b2:¬9223372036854775807<(((((dec d).length+1+1)+(1+(dec a).length))+((dec s).length+1+1))+3):=by omega
 have b3:¬9223372036854775807<((((((dec d).length+1+1)+(1+(dec a).length))+((dec s).length+1+1))+3)+((dec t).length+1+1)):=by omega
 have bn:¬9223372036854775807<(Ak 21).length+((((((dec d).length+1+1)+(1+(dec a).length))+((dec s).length+1+1))+3)+((dec t).length+1+1)):=by omega
 have be:¬9223372036854775807<5+(1+(dec q).length):=by omega
 have bz:¬9223372036854775807<(Ak 21).length+((((((dec d).length+1+1)+(1+(dec a).length))+((dec s).length+1+1))+3)+((dec t).length+1+1))+(5+(1+(dec q).length)):=by omega
 clear lk0 lq0 ld0 ls0 lt0 la0 ln0;have hS:=E2 (w:=w) (W:=(w.alloc (.cells (In.cs ⟨21,d,s,t,u,a,1,q⟩) 90)).drew) ⟨Be (Bv w (.cells (In.cs ⟨21,d,s,t,u,a,1,q⟩) 90)),Bd ((Below.refl w.heap.size w).alloc (Nl _) _)⟩;replace hf:=Az hf;replace te:=Az te;go_enter Tryz.func92,Tryz.ntmps92;go_wp2_with fail
 go_region_held3 (fun W=>RB w W 21 d s t u a 1 q)
  (first |exact hS |exact Ad hb (by assumption))
  (first
   |(go_at_call 105;(with_reducible refine(CK.out _).mono ?_);rintro e w' ⟨rfl,hb⟩)
   |(go_at_call 105;(with_reducible refine(CA.out _).mono ?_);rintro e w' ⟨rfl,hb⟩))
 obtain⟨HA,y0,y1,y2,y3,y4,y5,y6,y7⟩:=Ad (Below.refl _ _) (by assumption);go_wp2_with fail
 refine(CQ.out _).mono ?_;rintro e w2 ⟨rfl,hb2⟩;obtain⟨HA,y0,y1,y2,y3,y4,y5,y6,y7⟩:=Ad hb2 ⟨HA,y0,y1,y2,y3,y4,y5,y6,y7⟩;go_wp2_with fail
 refine(CN.out _).mono ?_;rintro e w3 ⟨rfl,hb3⟩;obtain⟨HA,y0,y1,y2,y3,y4,y5,y6,y7⟩:=Ad hb3 ⟨HA,y0,y1,y2,y3,y4,y5,y6,y7⟩;go_wp2_with fail
 have hT:=Ad (Bd (Below.refl w3.heap.size w3)) ⟨HA,y0,y1,y2,y3,y4,y5,y6,y7⟩;go_region_held3 (fun W=>RB w W 21 d s t u a 1 q)
  (first |exact hT |exact Ad hb (by assumption))
  (first
   |(go_at_call 106;(with_reducible refine(Cd.out _).mono ?_);rintro e w' ⟨rfl,hb⟩)
   |(go_at_call 106;(with_reducible refine(Cs.out _).mono ?_);rintro e w' ⟨rfl,hb⟩)
   |(go_at_call 106;(with_reducible refine(Ct.out _).mono ?_);rintro e w' ⟨rfl,hb⟩))
 obtain⟨HA,y0,y1,y2,y3,y4,y5,y6,y7⟩:=Ad (Below.refl _ _) (by assumption);go_wp2;go_ret;refine⟨BJ ?_,HA.out.2⟩;rw[te.out];simp[D4,St,Su,BV]
theorem Vd(d s t u a:Int)(hf:In.fits ⟨21,d,s,t,u,a,1,(-1)⟩)(w:World) :
  Calls Tryz.prog 92 #[.agg #[.int .i64 21,.int .i64 d,.int .i64 s,.int .i64 t,.int .i64 u,.int .i64 a,.int .u32 1,.int .i64 (-1)]] w fun e w'=>e=.returned (.string ⟨(Bz ⟨21,d,s,t,u,a,1,(-1)⟩).toArray⟩)∧Below w.heap.size w w':=by
 have ew:BW ⟨21,d,s,t,u,a,1,(-1)⟩ 87=[110,101]::(114::dec t)::[]:=by
  unfold BW;rw[show AE 87=none from rfl];dsimp only;rw[if_neg (by omega),if_pos rfl,if_pos rfl];rfl
 have te:Bz ⟨21,d,s,t,u,a,1,(-1)⟩=Ak 21++(((((32::114::dec d)++(32::dec a))++(32::114::dec s))++[32,110,101])++(32::114::dec t)):=by
  show Go.Lib.join (Ak 21::List.flatten [[114::dec d],[dec a],[114::dec s],BW ⟨21,d,s,t,u,a,1,(-1)⟩ 87]) [32]=_
  rw[ew];simp[BH,Go.Lib.join_one]
 clear ew;have CN:=Az (fun W=>AA 21 W);have CK:=Az (fun W=>Ca hf.k.1 hf.k.2 W);have CA:=Az (fun W=>Ca hf.a.1 (Int.le_trans hf.a.2 (by decide)) W);have Cd:=Az (fun W=>AU hf.d.1 (Int.le_trans hf.d.2 (by decide)) W);have Cs:=Az (fun W=>AU hf.s.1 (Int.le_trans hf.s.2 (by decide)) W);have Ct:=Az (fun W=>AU hf.t.1 (Int.le_trans hf.t.2 (by decide)) W);have lk0:=BB hf.k.2;have lq0:=BB (Int.le_trans hf.q.2 (show(1073741824:Int)≤4294967295 by decide));have ld0:=BB (Int.le_trans hf.d.2 (show(7:Int)≤4294967295 by decide));have ls0:=BB (Int.le_trans hf.s.2 (show(7:Int)≤4294967295 by decide));have lt0:=BB (Int.le_trans hf.t.2 (show(7:Int)≤4294967295 by decide));have la0:=BB (Int.le_trans hf.a.2 (show(7:Int)≤4294967295 by decide));dsimp only at lk0 lq0 ld0 ls0 lt0 la0 CN CK CA Cd Cs Ct;have ln0:(Ak 21).length=5:=by decide
 have wk:IntKind.i64.wrap 1=1:=by decide
 have lk:¬9223372036854775807<1+(dec 1).length:=by omega
 have la:¬9223372036854775807<1+(dec a).length:=by omega
 have b0:¬9223372036854775807<(((dec d).length+1+1)+(1+(dec a).length)):=by omega
 have b1:¬9223372036854775807<((((dec d).length+1+1)+(1+(dec a).length))+((dec s).length+1+1)):=by omega
 have b2:¬9223372036854775807<(((((dec d).length+1+1)+(1+(dec a).length))+((dec s).length+1+1))+3):=by omega
 have b3:¬9223372036854775807<((((((dec d).length+1+1)+(1+(dec a).length))+((dec s).length+1+1))+3)+((dec t).length+1+1)):=by omega
 have bn:¬9223372036854775807<(Ak 21).length+((((((dec d).length+1+1)+(1+(dec a).length))+((dec s).length+1+1))+3)+((dec t).length+1+1)):=by omega
 clear lk0 lq0 ld0 ls0 lt0 la0 ln0;have hS:=E2 (w:=w) (W:=(w.alloc (.cells (In.cs ⟨21,d,s,t,u,a,1,(-1)⟩) 90)).drew) ⟨Be (Bv w (.cells (In.cs ⟨21,d,s,t,u,a,1,(-1)⟩) 90)),Bd ((Below.refl w.heap.size w).alloc (Nl _) _)⟩;replace hf:=Az hf;replace te:=Az te;go_enter Tryz.func92,Tryz.ntmps92;go_wp2_with fail
 go_region_held3 (fun W=>RB w W 21 d s t u a 1 (-1))
  (first |exact hS |exact Ad hb (by assumption))
  (first
   |(go_at_call 105;(with_reducible refine(CK.out _).mono ?_);rintro e w' ⟨rfl,hb⟩)
   |(go_at_call 105;(with_reducible refine(CA.out _).mono ?_);rintro e w' ⟨rfl,hb⟩))
 obtain⟨HA,y0,y1,y2,y3,y4,y5,y6,y7⟩:=Ad (Below.refl _ _) (by assumption);go_wp2_with fail
 refine(CN.out _).mono ?_;rintro e w2 ⟨rfl,hb2⟩;obtain⟨HA,y0,y1,y2,y3,y4,y5,y6,y7⟩:=Ad hb2 ⟨HA,y0,y1,y2,y3,y4,y5,y6,y7⟩;go_wp2_with fail
 have hT:=Ad (Bd (Below.refl w2.heap.size w2)) ⟨HA,y0,y1,y2,y3,y4,y5,y6,y7⟩;go_region_held3 (fun W=>RB w W 21 d s t u a 1 (-1))
  (first |exact hT |exact Ad hb (by assumption))
  (first
   |(go_at_call 106;(with_reducible refine(Cd.out _).mono ?_);rintro e w' ⟨rfl,hb⟩)
   |(go_at_call 106;(with_reducible refine(Cs.out _).mono ?_);rintro e w' ⟨rfl,hb⟩)
   |(go_at_call 106;(with_reducible refine(Ct.out _).mono ?_);rintro e w' ⟨rfl,hb⟩))
 obtain⟨HA,y0,y1,y2,y3,y4,y5,y6,y7⟩:=Ad (Below.refl _ _) (by assumption);go_wp2;go_ret;refine⟨BJ ?_,HA.out.2⟩;rw[te.out];simp[D4,St,Su,BV]
end
end Go.Proofs.YtnmahobjmpdkdaaGreatDoor
