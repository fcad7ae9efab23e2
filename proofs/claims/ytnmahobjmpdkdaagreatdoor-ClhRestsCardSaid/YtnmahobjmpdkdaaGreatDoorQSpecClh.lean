/- clh.Text: the lock's program; it assembles. clh.Spec: the lock's spec; it refuses; awake. Written by gen_spec3.py. -/
import Derived.Test.YtnmahobjmpdkdaaGreatDoorQ02
import Derived.Test.YtnmahobjmpdkdaaGreatDoorQ25
set_option linter.unusedVariables false
set_option linter.unusedSimpArgs false
set_option maxRecDepth 100000
set_option maxHeartbeats 40000000
namespace Go.Proofs.YtnmahobjmpdkdaaGreatDoor
section
open Go.RowKit Go.Proofs.YtnmahobjmpdkdaaGreatDoorW.PrintWords
def CX:List UInt8:=[108,111,99,107,58,10,99,111,110,115,116,32,114,49,32,49,10,115,116,111,114,101,32,49,32,114,55,32,114,49,10,115,119,97,112,32,114,54,32,48,32,114,48,32,114,55,10,109,97,114,107,32,49,10,97,119,97,105,116,32,114,49,32,49,32,114,54,32,101,113,32,114,48,10,109,97,114,107,32,50,10,100,111,110,101,32,49,10,117,110,108,111,99,107,58,10,115,116,111,114,101,32,49,32,114,55,32,114,48,10,109,97,114,107,32,52,10,109,111,118,101,32,114,55,32,114,54,10,100,111,110,101,32,50,10]
theorem Nx:CX.length≤90000:=by decide +kernel
theorem TZ:4<(BE CX).1.l.length:=by decide +kernel
theorem H4(W:World):Calls Tryz.prog 57 #[] W fun e W'=>e=.returned (.string ⟨CX.toArray⟩)∧W'=W:=by
 go_enter Tryz.func57,Tryz.ntmps57;go_wp2;go_ret;exact⟨rfl,rfl⟩
def DU(W:World)(base:Nat)(v:Value)(xs:List Int):Prop:=W.ownsRow base 22 1 v xs.length (xs.map (Value.int .u32))
theorem DU.some{W:World}{base:Nat}{v:Value}{xs:List Int}(h:DU W base v xs)(hn:0<xs.length):∃ D c,v=.slice D xs.length c:=by
 rcases h.2 with ⟨rfl,h0⟩ |⟨g,cap,cur,rfl,_⟩
 ·omega
 ·exact⟨_,_,rfl⟩
section
variable {ops:Array Oper} {rest:List Oper} {o:Oper} {a:Act} {Q:Exit→Act→World→Prop} {W:World}
theorem Ny(hgd:o.guard=none)(s x:Operand)(ho:o.op=.call {callee:=.builtin .append,args:=#[s,x],argTypes:=#[28,28]})
  (base g:Nat)(y:Int)(v:Value)(xs:List Int)(hs:a.eval s=v)(hr:DU W base v xs)(hx:a.eval x=.slice (some ⟨g,0,none⟩) 1 1)
  (hy:W.heap[g]?=some (.cells #[.int .u32 y] 22 (0,0)))(hl:xs.length≤1000000)(hb:base≤W.heap.size)
  (h:∀ v' W1,DU W1 base v' (xs++[y])→W.grownBy W1 v.ownBlock→(v'.ownBlock=v.ownBlock∨v'.ownBlock=some W.heap.size)→wpList Tryz.prog ops Q rest (a.put o.dst v') W1) :
  wpList Tryz.prog ops Q (o::rest) a W:=by
 obtain⟨i9,hi,hz0,hz1,hz2⟩:=info_parts Oj;refine wpList_append_own_at _ hgd s x 28 ho base 22 i9 (.int .u32 0) 1 4 Tryz.underlying28 hi hz0 hz1 hz2 rfl (by decide) v xs.length (xs.map (Value.int .u32)) hs hr ⟨g,0,none⟩ 1 1 [.int .u32 y] hx rfl ?_ ?_ ?_ ?_ hb ?_
 ·intro j u hj;rw[add_plain];exact(Bc hy j).trans (by simpa using hj)
 ·simp[Value.oneCell']
 ·simp[maxLen];omega
 ·omega
 ·intro v' w' h1 h2 _ h4;refine h v' w' ?_ h2 h4;unfold DU;rw[List.map_append,List.length_append];exact h1
end
theorem SpB.grown{w W W1:World}{N p:Nat}{B C D:Option Addr}{n1 n2 n3 k1 k2 k3:Nat}{each:Int}{v:Value}{xs:List Int}(h:SpB w W N p B C D n1 n2 n3 k1 k2 k3 each)(hr:DU W N v xs)(hg:W.grownBy W1 v.ownBlock):SpB w W1 N p B C D n1 n2 n3 k1 k2 k3 each :=
 ⟨h.b.grown hg (Nat.le_of_lt (Bl h.c)) (fun k hk=>Ob hr k hk),Bg h.c hg (Oa hr h.c (by decide)),Bg h.q hg (Oa hr h.q (by decide)),h.ne⟩
theorem SpB.r7{w W:World}{N p:Nat}{B C D:Option Addr}{n1 n2 n3 k1 k2 k3:Nat}{each:Int}(h:SpB w W N p B C D n1 n2 n3 k1 k2 k3 each)(D':Option Addr)(n3' k3':Nat):SpB w (W.setCell ⟨p,6,none⟩ (.slice D' n3' k3')) N p B C D' n1 n2 n3' k1 k2 k3' each:=by
 have hne:=h.ne;exact⟨h.b.setCell (show N≤p by omega) _,(Below.heap_setCell W ⟨p,6,none⟩ _ _ (show N≠p by omega)).trans h.c,Bs h.q 6 _,h.ne⟩
theorem Qg(k:Nat)(h1:1≤k)(h2:k≤64)(w:World)(he:Env w):Calls Tryz.prog 37 #[.int .i64 (k:Int)] w (MS w CX k):=by
 have hd1:decide ((k:Int)<1)=false:=decide_eq_false (by omega);have hd2:decide ((64:Int)<(k:Int))=false:=decide_eq_false (by omega);have hw0:IntKind.i64.wrap ((k:Int)+1)=(k:Int)+1:=by rw[IntKind.wrap_i64];omega
 have hw1:IntKind.i64.wrap ((k:Int)+2)=(k:Int)+2:=by rw[IntKind.wrap_i64];omega
 obtain⟨cs,hcs,_,hmk⟩:=HG (k+2) (by omega);have e2:((k+2:Nat):Int)=(k:Int)+2:=by omega
 rw[e2]at hmk;clear e2;have CT:=Az (fun W=>H4 W);have CA:=Az (fun(W:World) (heW:Env W)=>EL CX W heW Nx);have hN:=Bv w (.cells #[.slice none 0 0,.int .i64 0,.int .i64 0,.slice none 0 0,.slice none 0 0,.int .i64 0,.slice none 0 0] 38);have hb0:=Bw w (.cells #[.slice none 0 0,.int .i64 0,.int .i64 0,.slice none 0 0,.slice none 0 0,.int .i64 0,.slice none 0 0] 38);obtain⟨w0,hw0'⟩:∃ y,w.alloc (.cells #[.slice none 0 0,.int .i64 0,.int .i64 0,.slice none 0 0,.slice none 0 0,.int .i64 0,.slice none 0 0] 38)=y:=⟨_,rfl⟩
 rw[hw0']at hN hb0;go_enter Tryz.func37,Tryz.ntmps37;go_upto_region 3 with fail
 try rw[hw0']
 clear hw0';replace hN:=Az hN;replace hb0:=Az hb0;go_cut [4] (fun v wx=>∃ (p:Nat) (B C:Option Addr) (n1 n2 k1 k2:Nat),v=.pointer (some ⟨p,0,none⟩)∧Af (SpB w wx w.heap.size p B C none n1 n2 0 k1 k2 0 0))
 case first =>
  go_wp2;go_meet
  have hlt:=Bl hN.out;refine⟨_,some ⟨w0.heap.size,0,none⟩,some ⟨w0.heap.size+1,0,none⟩,2,k+2,2,k+2,rfl,⟨⟨?_,?_,?_,?_⟩⟩⟩
  ·exact((hb0.out.trans ((Bw w0 _).mono hb0.out.size)).alloc (by simp;omega) _).alloc (by simp;omega) _
  ·exact AJ (AJ (AJ hN.out _) _) _
  ·exact Dk (by simp) _
  ·omega
 case rest =>
  obtain⟨p,B,C,n1,n2,k1,k2,rfl,hB⟩:=hcut;clear hN hb0 hmk;go_wp2_with fail
  go_loopw [21] (fun v21 wr=>∃ (i:Nat) (D:Option Addr) (k3:Nat) (xs:List Int),v21=.int .i64 i∧i≤k∧Af (SpB w wr w.heap.size p B C D n1 n2 i k1 k2 k3 0)∧Af (xs.length=i∧DU wr w.heap.size (.slice D i k3) xs)) (fun v21 _=>k-(intOf v21).toNat)
  case atStart=>exact⟨0,none,0,[],rfl,Nat.zero_le _,hB,⟨rfl,rfl,.inl ⟨rfl,rfl⟩⟩⟩
  case round =>
   obtain⟨i,D,k3,xs,rfl,hik,hB,hX⟩:=hrel;by_cases hlt:i<k
   ·have c6:wr.cell? ⟨p,6,none⟩=some (.slice D i k3):=(Bc hB.out.q 6).trans rfl;have hi1:(i:Int)<(k:Int):=by omega
    have Q8:IntKind.i64.wrap ((i:Int)+1)=(i:Int)+1:=by rw[IntKind.wrap_i64];omega
    have hiu:IntKind.u32.wrap ((i:Int)+1)=(i:Int)+1:=by rw[IntKind.wrap_u32];omega
    have hk2:=Bw wr (.cells #[.int .u32 ((i:Int)+1)] 22);have hr0:DU (wr.alloc (.cells #[.int .u32 ((i:Int)+1)] 22)) w.heap.size (.slice D i k3) xs:=Om hX.out.2 (fun k hk=>hk2.block k (Ol hX.out.2 k hk));have hB2:=hB.out.keep hk2;have hsz:w.heap.size≤(wr.alloc (.cells #[.int .u32 ((i:Int)+1)] 22)).heap.size:=Nat.le_of_lt (Bl hB2.c);replace hr0:=Az hr0;replace hB2:=Az hB2;replace hsz:=Az hsz;clear hk2;go_wp2_with (at_builtin;refine Ny rfl (.tmp 25) (.tmp 29) rfl w.heap.size wr.heap.size ((i:Int)+1) (.slice D i k3) xs rfl hr0.out rfl (Bv _ _) ?hl ?hb ?_)
    case hl=>have:=hX.out.1;omega
    case hb=>exact hsz.out
    intro v' W2 hr hg _;have hB3:=hB2.out.grown hr0.out hg;obtain⟨D',c',rfl⟩:=hr.some (by simp);have hlen:(xs++[(i:Int)+1]).length=i+1:=by rw[List.length_append,hX.out.1];rfl
    rw[hlen]at hr ⊢;have c62:W2.cell? ⟨p,6,none⟩=some (.slice D i k3):=(Bc hB3.q 6).trans rfl;have f62:=Bf hB3.q 6;have z62:p<W2.heap.size:=Bl hB3.q;have hB4:=Az (hB3.r7 D' (i+1) c');have hr4:=Az (Rs hr hB3.q (by decide) 6 (.slice D' (i+1) c'));replace hlen:=Az hlen;clear hB3 hr hg hB2 hr0 c6;go_wp2;go_roundw
    case rel=>exact⟨i+1,D',c',_,by go_num,hlt,hB4,⟨hlen.out,hr4.out⟩⟩
    case measure=>simp[intOf];omega
   ·obtain rfl:i=k:=by omega
    have hge:¬(i:Int)<(i:Int):=by omega
    clear hX hlt hik;go_wp2_with fail
    refine(CT.out _).mono ?_;rintro e w1 ⟨rfl,rfl⟩;go_wp2_with fail
    refine(CA.out _ (he.below hB.out.b)).mono ?_;rintro e w2 ⟨va,rfl,hr,hb⟩;have hB2:=hB.out.keep hb;have hr2:=hr.mono hB.out.b.size;obtain⟨A,m,c,rfl⟩:=AK hr;have hfin:=Az (hB2.fin (BE CX).1.lock (BE CX).1.unlock hr2);have c0:w2.cell? ⟨p,0,none⟩=some (.slice none 0 0):=(Bc hB2.q 0).trans rfl;have c1:w2.cell? ⟨p,1,none⟩=some (.int .i64 0):=(Bc hB2.q 1).trans rfl;have c2:w2.cell? ⟨p,2,none⟩=some (.int .i64 0):=(Bc hB2.q 2).trans rfl;have c3:w2.cell? ⟨p,3,none⟩=some (.slice B n1 k1):=(Bc hB2.q 3).trans rfl;have c4:w2.cell? ⟨p,4,none⟩=some (.slice C n2 k2):=(Bc hB2.q 4).trans rfl;have c5:w2.cell? ⟨p,5,none⟩=some (.int .i64 0):=(Bc hB2.q 5).trans rfl;have c6:w2.cell? ⟨p,6,none⟩=some (.slice D i k3):=(Bc hB2.q 6).trans rfl;have f0:=Bf hB2.q 0;have f1:=Bf hB2.q 1;have f2:=Bf hB2.q 2;have d0:w2.cell? ⟨w.heap.size,0,none⟩=some (.slice none 0 0):=(Bc hB2.c 0).trans rfl;have d1:w2.cell? ⟨w.heap.size,1,none⟩=some (.int .i64 0):=(Bc hB2.c 1).trans rfl;have d2:w2.cell? ⟨w.heap.size,2,none⟩=some (.int .i64 0):=(Bc hB2.c 2).trans rfl;have d3:w2.cell? ⟨w.heap.size,3,none⟩=some (.slice none 0 0):=(Bc hB2.c 3).trans rfl;have d4:w2.cell? ⟨w.heap.size,4,none⟩=some (.slice none 0 0):=(Bc hB2.c 4).trans rfl;have d5:w2.cell? ⟨w.heap.size,5,none⟩=some (.int .i64 0):=(Bc hB2.c 5).trans rfl;have d6:w2.cell? ⟨w.heap.size,6,none⟩=some (.slice none 0 0):=(Bc hB2.c 6).trans rfl;have e0:=Bf hB2.c 0;have e1:=Bf hB2.c 1;have e2:=Bf hB2.c 2;have e3:=Bf hB2.c 3;have e4:=Bf hB2.c 4;have e5:=Bf hB2.c 5;have e6:=Bf hB2.c 6;have z0:w.heap.size<w2.heap.size:=Bl hB2.c;have zp:p<w2.heap.size:=Bl hB2.q;have ne0:¬w.heap.size=p:=Nat.ne_of_lt hB2.ne;have ne1:¬p=w.heap.size:=Nat.ne_of_gt hB2.ne;clear hB hB2 hr hr2 hb CT CA;go_wp2;obtain⟨g1,g2,g3⟩:=hfin.out _ rfl;refine bodyPost_ret (AL rfl _ _ w.heap.size 38 #[.slice A m c,.int .i64 (BE CX).1.lock,.int .i64 (BE CX).1.unlock,.slice B n1 k1,.slice C n2 k2,.int .i64 0,.slice D i k3] (0,0) _ rfl g1 Tryz.underlying38 rfl (by kernel_rfl)) rfl ⟨_,B,C,D,n1,n2,k1,k2,k3,0,rfl,g2,g3⟩
theorem Qh(n:Int)(h:n<1∨64<n)(w:World):Calls Tryz.prog 37 #[.int .i64 n] w (GH w):=by
 have hN:=Bv w (.cells #[.slice none 0 0,.int .i64 0,.int .i64 0,.slice none 0 0,.slice none 0 0,.int .i64 0,.slice none 0 0] 38);have hb0:=Bw w (.cells #[.slice none 0 0,.int .i64 0,.int .i64 0,.slice none 0 0,.slice none 0 0,.int .i64 0,.slice none 0 0] 38);have hfin:=Iq hb0 hN;obtain⟨w0,hw0⟩:∃ y,w.alloc (.cells #[.slice none 0 0,.int .i64 0,.int .i64 0,.slice none 0 0,.slice none 0 0,.int .i64 0,.slice none 0 0] 38)=y:=⟨_,rfl⟩
 rw[hw0]at hfin hN;have d0:w0.cell? ⟨w.heap.size,0,none⟩=some (.slice none 0 0):=(Bc hN 0).trans rfl;have d1:w0.cell? ⟨w.heap.size,1,none⟩=some (.int .i64 0):=(Bc hN 1).trans rfl;have d2:w0.cell? ⟨w.heap.size,2,none⟩=some (.int .i64 0):=(Bc hN 2).trans rfl;have d3:w0.cell? ⟨w.heap.size,3,none⟩=some (.slice none 0 0):=(Bc hN 3).trans rfl;have d4:w0.cell? ⟨w.heap.size,4,none⟩=some (.slice none 0 0):=(Bc hN 4).trans rfl;have d5:w0.cell? ⟨w.heap.size,5,none⟩=some (.int .i64 0):=(Bc hN 5).trans rfl;have d6:w0.cell? ⟨w.heap.size,6,none⟩=some (.slice none 0 0):=(Bc hN 6).trans rfl;have e0:=Bf hN 0;have e1:=Bf hN 1;have e2:=Bf hN 2;have e3:=Bf hN 3;have e4:=Bf hN 4;have e5:=Bf hN 5;have e6:=Bf hN 6;have z0:w.heap.size<w0.heap.size:=Bl hN;replace hfin:=Az hfin;clear hN hb0;go_enter Tryz.func37,Tryz.ntmps37;go_upto_region 1 with fail
 try rw[hw0]
 clear hw0;go_cut [11] (fun v wx=>v=.bool true∧wx=w0)
 case first =>
  rcases h with h |h
  ·have hd1:decide (n<1)=true:=decide_eq_true h;go_wp2;go_meet
   exact⟨rfl,rfl⟩
  ·have hd1:decide (n<1)=false:=decide_eq_false (by omega);have hd2:decide (64<n)=true:=decide_eq_true h;go_wp2;go_meet
   exact⟨rfl,rfl⟩
 case rest =>
  obtain⟨rfl,rfl⟩:=hcut;go_wp2;obtain⟨g1,g2⟩:=hfin.out _ rfl;refine bodyPost_ret (AL rfl _ _ w.heap.size 38 #[.slice none 0 0,.int .i64 0,.int .i64 0,.slice none 0 0,.slice none 0 0,.int .i64 0,.slice none 0 0] (0,0) _ rfl g1 Tryz.underlying38 rfl (by kernel_rfl)) rfl ⟨rfl,g2⟩
theorem FK(w:World)(he:Env w):Calls Tryz.prog 36 #[] w fun e w'=>e=.returned (.bool true)∧Below w.heap.size w w':=by
 have C:=Qg 2 (by decide) (by decide) w he;unfold MS at C;have hm:=TZ;generalize BE CX=fin at C hm;obtain⟨⟨fl,fa,fb⟩,f1,f2⟩:=fin;dsimp only at C hm;replace C:=Az C;replace hm:=Az hm;go_enter Tryz.func36,Tryz.ntmps36;go_wp2_with fail
 refine C.out.mono ?_;rintro e w1 ⟨va,B,C',D,n1,n2,k1,k2,k3,each,rfl,hr,hb⟩;obtain⟨A,c,rfl⟩:=(C8.rd hr).slice;have hd:decide ((4:Int)<(fl.length:Int))=true:=decide_eq_true (by have:=hm.out;omega);have hb2:=Az (hb.alloc hb.size (.cells #[.slice A fl.length c,.int .i64 fa,.int .i64 fb,.slice B n1 k1,.slice C' n2 k2,.int .i64 each,.slice D 2 k3] 38));generalize fl.length=n at hd hb2;clear hr hb C hm;go_wp2;go_ret;exact⟨rfl,hb2.out⟩
end
end Go.Proofs.YtnmahobjmpdkdaaGreatDoor
