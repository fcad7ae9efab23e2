/- Parts: RefLine, RefAsm. -/
import Derived.Test.YtjjpiefgdggghaaGreatDoorK05
import Derived.Test.YtjjpiefgdggghaaGreatDoorK15
import Derived.Test.YtjjpiefgdggghaaGreatDoorK27
import Derived.Test.YtjjpiefgdggghaaGreatDoorK11
import Derived.Test.YtjjpiefgdggghaaGreatDoorK46
import Derived.Test.YtjjpiefgdggghaaGreatDoorK17
import Derived.Test.YtjjpiefgdggghaaGreatDoorK12
import Derived.Test.YtjjpiefgdggghaaGreatDoorK30
import Derived.Deep.RegionHeld3
set_option linter.unusedVariables false
set_option linter.unusedSimpArgs false
set_option maxRecDepth 100000
set_option maxHeartbeats 40000000
namespace Go.Proofs.YtjjpiefgdggghaaGreatDoor
section
open Go.RowKit Go.Proofs.YtjjpiefgdggghaaGreatDoorW.PrintWords
structure Qe (w W:World) (g:Nat) (i:In):Prop where
 b:Below w.heap.size w W
 z:W.heap[w.heap.size]?=some (.cells In.zero.cs 114 (0,0))
 i:W.heap[g]?=some (.cells i.cs 114 (0,0))
 n:w.heap.size<g
theorem Qe.keep{w W W1:World}{b:Nat}{i:In}(h:Qe w W b i)(hb:Below W.heap.size W W1):Qe w W1 b i :=
 ⟨h.b.trans (hb.mono h.b.size),Bk hb h.z,Bk hb h.i,h.n⟩
theorem Hq{W:World}{g:Nat}{t:TypeId}{op d s t' u a k q:Int}(h:W.heap[g]?=some (.cells (In.cs ⟨op,d,s,t',u,a,k,q⟩) t (0,0))) :
  W.cell? ⟨g,0,none⟩=some (.int .i64 op)∧W.cell? ⟨g,1,none⟩=some (.int .i64 d)∧W.cell? ⟨g,2,none⟩=some (.int .i64 s)∧W.cell? ⟨g,3,none⟩=some (.int .i64 t') ∧
  W.cell? ⟨g,4,none⟩=some (.int .i64 u)∧W.cell? ⟨g,5,none⟩=some (.int .i64 a)∧W.cell? ⟨g,6,none⟩=some (.int .u32 k)∧W.cell? ⟨g,7,none⟩=some (.int .i64 q) :=
 ⟨(Bc h 0).trans rfl,(Bc h 1).trans rfl,(Bc h 2).trans rfl,(Bc h 3).trans rfl,(Bc h 4).trans rfl,(Bc h 5).trans rfl,(Bc h 6).trans rfl,(Bc h 7).trans rfl⟩
theorem KO{W:World}{g:Nat}{cs:Array Value}{t:TypeId}(h:W.heap[g]?=some (.cells cs t (0,0))) :
  W.frozen? ⟨g,0,none⟩=false∧W.frozen? ⟨g,1,none⟩=false∧W.frozen? ⟨g,2,none⟩=false∧W.frozen? ⟨g,3,none⟩=false∧W.frozen? ⟨g,4,none⟩=false∧W.frozen? ⟨g,5,none⟩=false∧W.frozen? ⟨g,6,none⟩=false∧W.frozen? ⟨g,7,none⟩=false :=
 ⟨Bf h 0,Bf h 1,Bf h 2,Bf h 3,Bf h 4,Bf h 5,Bf h 6,Bf h 7⟩
theorem VT{w W:World}{b:Nat}{i:In}(h:Qe w W b i)(op d s t u a k q:Int) :
  Qe w ((((((((W.setCell ⟨b,0,none⟩ (.int .i64 op)).setCell ⟨b,1,none⟩ (.int .i64 d)).setCell ⟨b,2,none⟩ (.int .i64 s)).setCell ⟨b,3,none⟩ (.int .i64 t)).setCell ⟨b,4,none⟩ (.int .i64 u)).setCell ⟨b,5,none⟩ (.int .i64 a)).setCell ⟨b,6,none⟩ (.int .u32 k)).setCell ⟨b,7,none⟩ (.int .i64 q)) b ⟨op,d,s,t,u,a,k,q⟩:=by
 have hn:=Nat.le_of_lt h.n;have far:∀ {W:World} {j:Nat} {v:Value} {o:Obj},W.heap[w.heap.size]?=some o→(W.setCell ⟨b,j,none⟩ v).heap[w.heap.size]?=some o:=fun hj=>(Below.heap_setCell _ ⟨b,_,none⟩ _ _ (Nat.ne_of_lt h.n)).trans hj
 exact⟨(((((((h.b.setCell hn _).setCell hn _).setCell hn _).setCell hn _).setCell hn _).setCell hn _).setCell hn _).setCell hn _,
  far (far (far (far (far (far (far (far h.z))))))),C9 h.i _ _ _ _ _ _ _ _,h.n⟩
theorem TM(s:List UInt8):DL s=if (IF (BR s++[48])).2=true∧Ee (IF (BR s++[48])).1=true∧Cp (CF s)=true then ((IF (BR s++[48])).1,CF s,true) else
 if (IF s).2=false∨Ee (IF s).1=true then (In.zero,[],false) else ((IF s).1,[],true):=rfl
theorem Qf{α:Type}(l:List α)(d:α){m:Nat}(h:l.length=m+1):l.getD m d=l.getLastD d:=by
 rw[List.getLastD_eq_getLast?,List.getLast?_eq_getElem?,h,List.getD_eq_getElem?_getD];rfl
theorem PH(s:List UInt8)(w:World)(hl:s.length≤90000) :
  Calls Tryz.prog 64 #[.string ⟨s.toArray⟩] w fun e w'=>e=.returned (.tuple #[(DL s).1.v,.string ⟨(DL s).2.1.toArray⟩,.bool (DL s).2.2])∧Below w.heap.size w w':=by
 have hap:=MP s;have hF:=TM s;generalize DL s=fin at hF ⊢;have CW:=Az (fun W=>IX s (by omega) W);have hln:(BR s).length+(CF s).length=s.length:=by rw[←List.length_append,hap]
 have hne:=EW s;obtain⟨m,hm⟩:∃ m,(AR s).length=m+1:=⟨(AR s).length-1,by have:=List.length_pos_iff.2 hne;omega⟩
 have htl:(AR s).getD m []=CF s:=Qf _ _ hm;have hm1:m+1≤s.length+1:=by rw[←hm,DT];have:=List.count_le_length (a:=(32:UInt8)) (l:=s);omega
 have eh:(⟨s.toArray⟩:ByteArray).extract 0 (BR s).length=⟨(BR s).toArray⟩:=by
  rw[Ea,List.drop_zero,Nat.sub_zero,(Qu hap).1]
 have e0:(⟨(BR s).toArray⟩:ByteArray)++⟨#[48]⟩=⟨(BR s++[48]).toArray⟩:=BV (BR s) [48];have CN:=Az (fun W=>Kj (CF s) W (by omega));have C1:=Az (fun(W:World)=>Hs (BR s++[48]) (by simp;omega) W);have C2:=Az (fun(W:World)=>Hs s (by omega) W);rw[hm]at CW;generalize BR s=hd at *;generalize CF s=tl at *;have hw1:IntKind.i64.wrap (m:Int)=(m:Int):=by rw[IntKind.wrap_i64];omega
 have hsub:IntKind.i64.wrap ((s.length:Int)-(tl.length:Int))=(hd.length:Int):=by rw[IntKind.wrap_i64];omega
 have hb1:¬9223372036854775807<hd.length+1:=by omega
 have hle:hd.length≤s.length:=by omega
 have hle':(hd.length:Int)≤(s.length:Int):=by omega
 have hge':(0:Int)≤(hd.length:Int):=by omega
 have hZ0:=Az (Bv w (.cells In.zero.cs 114));have hB0:=Az ((Below.refl w.heap.size w).alloc (Nl _) (.cells In.zero.cs 114));generalize IF (hd++[48])=r1 at *;generalize IF s=r2 at *;obtain⟨⟨op,d,s1,t,u,a,k,q⟩,e1⟩:=r1;obtain⟨⟨op2,d2,s2,t2,u2,a2,k2,q2⟩,e2⟩:=r2;dsimp only at hF C1 C2;replace C1:=C1.out;replace C2:=C2.out;dsimp only[In.v]at C1 C2;replace C1:=Az C1;replace C2:=Az C2;have D1:=fun W=>Km ⟨op,d,s1,t,u,a,k,q⟩ W
 have D2:=fun W=>Km ⟨op2,d2,s2,t2,u2,a2,k2,q2⟩ W
 dsimp only[In.v]at D1 D2;replace D1:=Az D1;replace D2:=Az D2;generalize Ee ⟨op,d,s1,t,u,a,k,q⟩=g1 at *;generalize Ee ⟨op2,d2,s2,t2,u2,a2,k2,q2⟩=g2 at *;generalize Cp tl=nb at *;replace hF:=Az hF;clear hap hne;go_enter Tryz.func64,Tryz.ntmps64;go_wp2_with fail
 refine(CW.out _).mono ?_;rintro e w1 ⟨g,c,cur,rfl,hc,hg,hgz,hcur,hb⟩;have hcl:w1.cell? ⟨g,m,none⟩=some (.string ⟨tl.toArray⟩):=(Bc hg m).trans (by rw[hcur m (by omega),htl]);have hZ1:=Az (Bk hb hZ0.out);have hB1:=Az (hB0.out.trans (hb.mono hB0.out.size));clear hZ0 hB0 hb CW hcur hg htl hgz;go_wp2_with fail
 refine(C1.out _).mono ?_;rintro e w2 ⟨rfl,hb⟩;have hZ2:=Az (Bk hb hZ1.out);have hB2:=Az (hB1.out.trans (hb.mono hB1.out.size));have hs1:=Bl hZ2.out;have HI:=Az (show Qe w (w2.alloc (.cells (In.cs ⟨op,d,s1,t,u,a,k,q⟩) 114)) w2.heap.size ⟨op,d,s1,t,u,a,k,q⟩ from
  ⟨hB2.out.alloc hB2.out.size _,AF hZ2.out _,Bv _ _,hs1⟩)
 clear hZ1 hB1 hZ2 hB2 hb C1 hcl;obtain⟨b8,hb8⟩:∃ b,b=w2.heap.size:=⟨_,rfl⟩
 go_upto_region 5 with fail
 go_cut [39] (fun v wx=>v=.bool (e1&&g1&&nb)∧Af (Qe w wx b8 ⟨op,d,s1,t,u,a,k,q⟩))
 case first =>
  obtain⟨x0,x1,x2,x3,x4,x5,x6,x7⟩:=Hq HI.out.i;cases e1 with
  |false =>
   go_wp2;go_meet
   exact⟨rfl,by rw[hb8];exact HI⟩
  |true =>
   go_wp2_with fail
   refine(D1.out _).mono ?_;rintro e w3 ⟨rfl,hb⟩;replace HI:=Az (HI.out.keep hb);cases g1 with
   |false =>
    go_wp2;go_meet
    exact⟨rfl,by rw[hb8];exact HI⟩
   |true =>
    go_wp2_with fail
    refine(CN.out _).mono ?_;rintro e w4 ⟨rfl,hb'⟩;replace HI:=Az (HI.out.keep hb');go_wp2;go_meet
    exact⟨by simp,by rw[hb8];exact HI⟩
 case rest =>
  obtain⟨rfl,HI⟩:=hcut;subst hb8;clear D1 CN;obtain⟨x0,x1,x2,x3,x4,x5,x6,x7⟩:=Hq HI.out.i;obtain⟨f0,f1,f2,f3,f4,f5,f6,f7⟩:=KO HI.out.i;have z0:=Bl HI.out.z;have z1:=Bl HI.out.i;cases hc1:(e1&&g1&&nb) with
  |true =>
   simp only[Bool.and_eq_true]at hc1;have hfin:fin=(⟨op,d,s1,t,u,a,k,q⟩,tl,true):=by rw[hF.out,if_pos ⟨hc1.1.1,hc1.1.2,hc1.2⟩]
   subst hfin;obtain⟨y0,y1,y2,y3,y4,y5,y6,y7⟩:=KO HI.out.z;obtain⟨zc0,zc1,zc2,zc3,zc4,zc5,zc6,zc7⟩:=Hq HI.out.z;clear C2 D2 hF;go_wp2;refine bodyPost_ret (Dj rfl _ _ w.heap.size 114 (In.cs ⟨op,d,s1,t,u,a,k,q⟩) (0,0) _ rfl (C9 HI.out.z (.int .i64 op) (.int .i64 d) (.int .i64 s1) (.int .i64 t) (.int .i64 u) (.int .i64 a) (.int .u32 k) (.int .i64 q)) Tryz.underlying114 rfl (by kernel_rfl)) rfl ⟨rfl,?_⟩;exact(((((((HI.out.b.setCell (Nl _) _).setCell (Nl _) _).setCell (Nl _) _).setCell (Nl _) _).setCell (Nl _) _).setCell (Nl _) _).setCell (Nl _) _).setCell (Nl _) _
  |false =>
   have hn:¬(e1=true∧g1=true∧nb=true):=fun h=>by rw[h.1,h.2.1,h.2.2]at hc1;cases hc1
   replace hF:=Az (hF.out.trans (if_neg hn));clear hn hc1 x0 x1 x2 x3 x4 x5 x6 x7 f0 f1 f2 f3 f4 f5 f6 f7 z0 z1;go_wp2_with fail
   refine(C2.out _).mono ?_;rintro e w3 ⟨rfl,hb⟩;replace HI:=Az (HI.out.keep hb);clear hb C2;obtain⟨x0,x1,x2,x3,x4,x5,x6,x7⟩:=Hq HI.out.i;obtain⟨f0,f1,f2,f3,f4,f5,f6,f7⟩:=KO HI.out.i;have z0:=Bl HI.out.z;have z1:=Bl HI.out.i;have HJ:=VT HI.out op2 d2 s2 t2 u2 a2 k2 q2;obtain⟨w5,hw5⟩:∃ y,((((((((w3.setCell ⟨w2.heap.size,0,none⟩ (.int .i64 op2)).setCell ⟨w2.heap.size,1,none⟩ (.int .i64 d2)).setCell ⟨w2.heap.size,2,none⟩ (.int .i64 s2)).setCell ⟨w2.heap.size,3,none⟩ (.int .i64 t2)).setCell ⟨w2.heap.size,4,none⟩ (.int .i64 u2)).setCell ⟨w2.heap.size,5,none⟩ (.int .i64 a2)).setCell ⟨w2.heap.size,6,none⟩ (.int .u32 k2)).setCell ⟨w2.heap.size,7,none⟩ (.int .i64 q2))=y:=⟨_,rfl⟩
   rw[hw5]at HJ;replace HJ:=Az HJ;clear HI;go_upto_region 8 with fail
   try rw[hw5]
   clear hw5 x0 x1 x2 x3 x4 x5 x6 x7 f0 f1 f2 f3 f4 f5 f6 f7 z0 z1;obtain⟨b8,hb8⟩:∃ b,b=w2.heap.size:=⟨_,rfl⟩
   go_cut [52] (fun v wx=>v=.bool (!e2||g2)∧Af (Qe w wx b8 ⟨op2,d2,s2,t2,u2,a2,k2,q2⟩))
   case first =>
    obtain⟨x0,x1,x2,x3,x4,x5,x6,x7⟩:=Hq HJ.out.i;cases e2 with
    |false =>
     go_wp2;go_meet
     exact⟨rfl,by rw[hb8];exact HJ⟩
    |true =>
     go_wp2_with fail
     refine(D2.out _).mono ?_;rintro e w6 ⟨rfl,hb⟩;replace HJ:=Az (HJ.out.keep hb);go_wp2;go_meet
     exact⟨by simp,by rw[hb8];exact HJ⟩
   case rest =>
    obtain⟨rfl,HJ⟩:=hcut;subst hb8;clear D2;obtain⟨x0,x1,x2,x3,x4,x5,x6,x7⟩:=Hq HJ.out.i;obtain⟨y0,y1,y2,y3,y4,y5,y6,y7⟩:=KO HJ.out.z;obtain⟨zc0,zc1,zc2,zc3,zc4,zc5,zc6,zc7⟩:=Hq (op:=0) (d:=0) (s:=0) (t':=0) (u:=0) (a:=0) (k:=0) (q:=0) HJ.out.z;have z0:=Bl HJ.out.z;have z1:=Bl HJ.out.i;cases hc2:(!e2||g2) with
    |true =>
     have hfin:fin=(In.zero,[],false):=by
      rw[hF.out,if_pos];cases e2 with
      |false=>exact .inl rfl
      |true=>exact .inr (by simpa using hc2)
     subst hfin;clear hF;go_wp2;refine bodyPost_ret (Dj rfl _ _ w.heap.size 114 In.zero.cs (0,0) _ rfl (C9 HJ.out.z (.int .i64 0) (.int .i64 0) (.int .i64 0) (.int .i64 0) (.int .i64 0) (.int .i64 0) (.int .u32 0) (.int .i64 0)) Tryz.underlying114 rfl (by kernel_rfl)) rfl ⟨rfl,?_⟩;exact(((((((HJ.out.b.setCell (Nl _) _).setCell (Nl _) _).setCell (Nl _) _).setCell (Nl _) _).setCell (Nl _) _).setCell (Nl _) _).setCell (Nl _) _).setCell (Nl _) _
    |false =>
     have hfin:fin=(⟨op2,d2,s2,t2,u2,a2,k2,q2⟩,[],true):=by
      rw[hF.out,if_neg];rintro(h |h)
      ·rw[h]at hc2;cases hc2
      ·rw[h]at hc2;simp at hc2
     subst hfin;clear hF;go_wp2;refine bodyPost_ret (Dj rfl _ _ w.heap.size 114 (In.cs ⟨op2,d2,s2,t2,u2,a2,k2,q2⟩) (0,0) _ rfl (C9 HJ.out.z (.int .i64 op2) (.int .i64 d2) (.int .i64 s2) (.int .i64 t2) (.int .i64 u2) (.int .i64 a2) (.int .u32 k2) (.int .i64 q2)) Tryz.underlying114 rfl (by kernel_rfl)) rfl ⟨rfl,?_⟩;exact(((((((HJ.out.b.setCell (Nl _) _).setCell (Nl _) _).setCell (Nl _) _).setCell (Nl _) _).setCell (Nl _) _).setCell (Nl _) _).setCell (Nl _) _).setCell (Nl _) _
def YH(w:World)(fin:Pg×Int×Int)(e:Ending)(w':World):Prop :=
 ∃ v,e=.returned (.tuple #[.agg #[v,.int .i64 fin.1.lock,.int .i64 fin.1.unlock],.int .i64 fin.2.1,.int .i64 fin.2.2])∧BM w' w.heap.size v fin.1.l∧Below w.heap.size w w'
theorem Vo(w:World)(fin:Pg×Int×Int)(a:Act)(W:World)(v:Value)(hd:a.defers=[])
  (h2:a.tmps.getD 2 undef=.pointer (some ⟨w.heap.size,0,none⟩))(h3:a.tmps.getD 3 undef=.int .i64 fin.2.1)(h4:a.tmps.getD 4 undef=.int .i64 fin.2.2)
  (c2:W.heap[w.heap.size]?=some (.cells #[v,.int .i64 fin.1.lock,.int .i64 fin.1.unlock] 25 (0,0)))(hr:BM W w.heap.size v fin.1.l)(hb:Below w.heap.size w W) :
  bodyPost Tryz.prog Tryz.f33 (YH w fin) .ret a W :=
 bodyPost_ret (Dj rfl _ _ w.heap.size _ #[v,.int .i64 fin.1.lock,.int .i64 fin.1.unlock] (0,0) _ h2 c2 Tryz.underlying25 rfl (by kernel_rfl)) hd ⟨v,by rw[h3,h4],hr,hb⟩
section
variable {ops:Array Oper} {rest:List Oper} {o:Oper} {a:Act} {Q:Exit→Act→World→Prop} {W:World}
theorem YK(hgd:o.guard=none)(s x:Operand)(ho:o.op=.call {callee:=.builtin .append,args:=#[s,x],argTypes:=#[23,23]})
  (base g:Nat)(y:In)(v:Value)(xs:List In)(hs:a.eval s=v)(hr:BM W base v xs)(hx:a.eval x=.slice (some ⟨g,0,none⟩) 1 1)
  (hy:W.heap[g]?=some (.cells y.cs 114 (0,0)))(hl:xs.length≤1000000)(hb:base≤W.heap.size)
  (h:∀ v' W1,BM W1 base v' (xs++[y])→W.grownBy W1 v.ownBlock→wpList Tryz.prog ops Q rest (a.put o.dst v') W1) :
  wpList Tryz.prog ops Q (o::rest) a W:=by
 obtain⟨i9,hi,hz0,hz1,hz2⟩:=info_parts Oy;refine wpList_append_own_at _ hgd s x 23 ho base 114 i9 (.agg In.zero.cs) 8 64 Tryz.underlying23 hi hz0 hz1 hz2 rfl (by decide) v xs.length (By xs) hs hr ⟨g,0,none⟩ 1 1 y.cs.toList hx rfl ?_ ?_ ?_ ?_ hb ?_
 ·intro j u hj;rw[add_plain];exact(Bc hy j).trans (by simpa using hj)
 ·intro u hu;have:u∈y.cs.toList:=hu;simp[In.cs]at this;rcases this with rfl |rfl |rfl |rfl |rfl |rfl |rfl |rfl<;>rfl
 ·simp[maxLen];omega
 ·omega
 ·intro v' W1 h1 h2 _ h4;refine h v' W1 ?_ h2;unfold BM;rw[G7,List.length_append];exact h1
end
theorem RZ(l:List UInt8)(i:Nat)(hi:i<l.length)(W:World):(Instr.index 9 (.string ⟨l.toArray⟩) (.int .i64 (i:Int))).run Tryz.prog W=.ok (.int .u8 ((l.getD i 0).toNat:Int)) W:=by
 rw[run_index_string W 9 _ .i64 i Tryz.underlying9,dif_pos ⟨by omega,by simp[ByteArray.size];omega⟩];have:(⟨l.toArray⟩:ByteArray)[(i:Int).toNat]'(by simp[ByteArray.size];omega)=l.getD i 0:=by
  simp[List.getD_eq_getElem?_getD,List.getElem?_eq_getElem hi];rfl
 rw[this]
theorem YL(l:List UInt8)(f i:Nat)(hf:f≤i)(hi:i≤l.length)(W:World):(Instr.slice 9 (.string ⟨l.toArray⟩) (some (.int .i64 (f:Int))) (some (.int .i64 (i:Int))) none).run Tryz.prog W=.ok (.string ⟨((l.drop f).take (i-f)).toArray⟩) W:=by
 have hz:(⟨l.toArray⟩:ByteArray).size=l.length:=by simp[ByteArray.size]
 rw[run_slice_string W 9 ⟨l.toArray⟩ .i64 .i64 (f:Int) (i:Int) Tryz.underlying9 (by omega) (by omega) (by rw[hz];omega),Ea];rfl
theorem Rb(t:List UInt8)(w:World)(ht:t.length≤90000):Calls Tryz.prog 33 #[.string ⟨t.toArray⟩] w (YH w (AH t)):=by
 obtain⟨fin,hA⟩:∃ fin,AH t=fin:=⟨_,rfl⟩
 rw[hA];have hstop:∀ {x:Src} {n e:Int},FF (Bm t) 0 Src.zero=(x,n,e)→e≠0→fin=(Pg.zero,n,e):=fun h he=>hA.symm.trans (T9 h he)
 replace hstop:=Az (@hstop);replace hA:=Az hA;have hR0:=RX.start w;obtain⟨W0,hW0⟩:∃ x,((w.alloc (.cells #[.slice none 0 0,.int .i64 0,.int .i64 0] 25)).alloc (.cells #[.slice none 0 0,.int .i64 0,.int .i64 0] 25))=x:=⟨_,rfl⟩
 rw[hW0]at hR0;replace hR0:=Az hR0;go_enter Tryz.func33,Tryz.ntmps33;have hQ:=Az (fun a W v=>Vo w fin a W v);go_wp2_with fail
 try rw[hW0]
 try simp only[Nat.add_assoc,Nat.reduceAdd]
 go_loopw [6,7,8,9,10,11] (fun v6 v7 v8 v9 v10 v11 wr=>∃ (f n i:Nat) (x:Src) (v0:Value),v9=.int .i64 (f:Int)∧v10=.int .i64 (n:Int)∧v11=.int .i64 (i:Int)∧i≤t.length∧f≤i∧n≤i ∧
  Af (FF (Bm t) 0 Src.zero=FF (Bm (t.drop f)) n x)∧Af ((10:UInt8)∉(t.drop f).take (i-f))∧Af (I6 x n)∧Af (RX w wr w.heap.size v0 v6 v7 v8 x.l x.names x.rows x.labels)) (fun _ _ _ _ _ v11 _=>t.length-(intOf v11).toNat)
 case atStart=>exact⟨0,0,0,Src.zero,_,rfl,rfl,rfl,Nat.zero_le _,Nl _,Nl _,⟨rfl⟩,⟨by simp⟩,⟨⟨rfl,rfl,by simp[Src.zero],Nl _,fun s h=>by cases h⟩⟩,hR0⟩
 case round =>
  clear hR0 hW0;obtain⟨f,n,i,x,v0,rfl,rfl,rfl,hi,hfi,hni,hF,hno,hok,hR⟩:=hrel;by_cases hlt:i<t.length
  ·have hix:=fun W=>RZ t i hlt W
   have OM:(0:Int)≤(i:Int):=by omega
   have hi1:(i:Int)<(t.length:Int):=by omega
   have R3:IntKind.i64.wrap ((i:Int)+1)=(i:Int)+1:=by rw[IntKind.wrap_i64];omega
   by_cases h10:t.getD i 0=10
   ·have hb:(t.getD i 0).toNat=10:=by rw[h10];rfl
    rw[hb]at hix;have hline:=TA (n:=(n:Int)) (x:=x) hlt hfi h10 hno.out;rw[←hF.out]at hline;have hsl:=fun W=>YL t f i hfi hi W
    have hs1:((t.drop f).take (i-f)).length≤90000:=by rw[List.length_take,List.length_drop];omega
    have hf0:(0:Int)≤(f:Int):=by omega
    have hf1:(f:Int)≤(i:Int):=by omega
    have hi2:(i:Int)≤(t.length:Int):=by omega
    have hnw:IntKind.i64.wrap ((n:Int)+1)=(n:Int)+1:=by rw[IntKind.wrap_i64];omega
    generalize (t.drop f).take (i-f)=s at *;have hstep:=Az (Vp hok.out s ((n:Int)+1));have hdone:∀ {x':Src},El x s ((n:Int)+1)=(x',0)→FF (Bm t) 0 Src.zero=FF (Bm (t.drop (i+1))) ((n+1:Nat):Int) x':=fun h=>by rw[hline,h,if_pos rfl];rfl
    have hbad:∀ {x':Src} {e:Int},El x s ((n:Int)+1)=(x',e)→e≠0→fin=(Pg.zero,(n:Int)+1,e):=fun h he=>hstop.out (hline.trans (by rw[h,if_neg he])) he
    replace hdone:=Az (@hdone);replace hbad:=Az (@hbad);clear hF hno h10 hb hline;obtain⟨dd,hdd⟩:∃ D,decide (s.getLast?=some 58∧Cp s.dropLast=true)=D:=⟨_,rfl⟩
    replace hdd:=Az hdd;go_upto_region 13 with fail
    go_cut [55] (fun v wx=>v=.bool dd∧Af (RX w wx w.heap.size v0 u6 u7 u8 x.l x.names x.rows x.labels))
    case first =>
     clear hix hsl;by_cases hs0:0<s.length
     ·obtain⟨q,hq⟩:∃ q,s.length=q+1:=⟨s.length-1,by omega⟩
      have hs0':(0:Int)<(s.length:Int):=by omega
      have hlw:IntKind.i64.wrap ((s.length:Int)-1)=(q:Int):=by rw[IntKind.wrap_i64];omega
      have Jo:=fun W=>RZ s q (by omega) W
      have hq0:(0:Int)≤(q:Int):=by omega
      have hq1:(q:Int)<(s.length:Int):=by omega
      have hq2:(q:Int)≤(s.length:Int):=by omega
      have hgl:=Xs s q hq;have hs2:=fun W=>Sd s q hq W
      have he2:=PG s q hq;have CN:=Az (fun W=>Kj s.dropLast W (by simp;omega));replace hdd:=hdd.out;rw[hgl]at hdd;generalize Cp s.dropLast=nb at *;generalize s.dropLast=sd at *;clear hgl;replace hq:=Az hq;by_cases hc:s.getD q 0=58
      ·have hb:(s.getD q 0).toNat=58:=by rw[hc];rfl
       rw[hb]at Jo;rw[hc]at hdd;have hdn:dd=nb:=by rw[←hdd];cases nb<;>simp
       subst hdn;clear hb hc hdd;go_wp2_with fail
       refine(CN.out _).mono ?_;rintro e w2 ⟨rfl,hb2⟩;go_wp2;go_meet
       exact⟨rfl,⟨hR.out.keep hb2⟩⟩
      ·have hb:¬(s.getD q 0).toNat=58:=fun e=>hc (UInt8.toNat_inj.1 (by rw[e];rfl))
       rw[decide_eq_false (fun h=>hc (Option.some.inj h.1))]at hdd;subst hdd;clear hc;generalize (s.getD q 0).toNat=c at *;have hb1:¬(c:Int)=58:=by omega
       have hb2:((c:Int)==58)=false:=Bq hb1;go_wp2;go_meet
       exact⟨rfl,hR⟩
     ·have hs00:s=[]:=List.length_eq_zero_iff.1 (by omega);subst hs00;have hd0:dd=false:=by rw[←hdd.out];simp
      subst hd0;go_wp2;go_meet
      exact⟨rfl,hR⟩
    case rest =>
     obtain⟨rfl,hR⟩:=hcut;by_cases hlab:s.getLast?=some 58∧Cp s.dropLast=true
     ·have hd1:dd=true:=by rw[←hdd.out];exact decide_eq_true hlab
      subst hd1;clear hdd;have hst:El x s ((n:Int)+1)=if Lq x.labels s.dropLast=true then (x,2) else ({x with labels:=x.labels++[(s.dropLast,x.l.length)]},0):=by
       unfold El;rw[if_pos hlab]
      obtain⟨q,hq⟩:∃ q,s.length=q+1:=⟨s.length-1,by
       have:s≠[]:=fun e=>by rw[e]at hlab;simp at hlab
       have:=List.length_pos_iff.2 this;omega⟩
      have hlw:IntKind.i64.wrap ((s.length:Int)-1)=(q:Int):=by rw[IntKind.wrap_i64];omega
      have hq0:(0:Int)≤(q:Int):=by omega
      have hq2:(q:Int)≤(s.length:Int):=by omega
      have hs2:=fun W=>Sd s q hq W
      have he2:=PG s q hq;generalize s.dropLast=sd at *;replace hq:=Az hq;obtain⟨A,c,rfl⟩:=Dl hR.out.q3;obtain⟨A0,c0,rfl⟩:=Dl hR.out.q0;obtain⟨m,hm⟩:∃ m,x.labels.length=m:=⟨_,rfl⟩
      have hm9:m≤90000:=by have:=hok.out.b;omega
      rw[hm]at hR;replace hm:=Az hm;replace hst:=Az hst;clear hlab hix hsl;rw[hm.out];go_wp2_with fail
      go_loopw [58] (fun v58 wr2=>∃ k:Nat,v58=.int .i64 (k:Int)∧k≤m∧Af (∀ p∈x.labels.take k,p.1≠sd)∧Af (RX w wr2 w.heap.size (.slice A0 x.l.length c0) (.slice A m c) u7 u8 x.l x.names x.rows x.labels)) (fun v58 _=>m-(intOf v58).toNat)
      case atStart=>exact⟨0,rfl,Nat.zero_le _,⟨fun p h=>by cases h⟩,hR⟩
      case round =>
       obtain⟨k,rfl,hk,hnone,hR⟩:=hrel;by_cases hkm:k<m
       ·have hkx:k<x.labels.length:=by rw[hm.out];exact hkm
        have hq3:=hR.out.q3;unfold GO at hq3;obtain⟨g,c',hv,hc,hg,_,hcell⟩:=CO hq3 (by omega);have hAg:A=some ⟨g,0,none⟩:=by injection hv
        subst hAg;obtain⟨e1,e2⟩:=Ir x.labels k hkx;have c1:=hcell _ _ e1;have c2:=hcell _ _ e2;have hnext:(x.labels[k]'hkx).1≠sd→∀ p∈x.labels.take (k+1),p.1≠sd:=fun h p hp=>by
         rw[List.take_succ_eq_append_getElem hkx]at hp;rcases List.mem_append.1 hp with hp |hp
         ·exact hnone.out p hp
         ·rw[List.mem_singleton.1 hp];exact h
        have hhit:(x.labels[k]'hkx).1=sd→Lq x.labels sd=true:=fun h=>by
         unfold Lq;rw[List.any_eq_true];exact⟨_,List.getElem_mem hkx,by simp[h]⟩
        generalize x.labels[k].1=nm at c1 hnext hhit;generalize x.labels[k].2=pl at c2;have hk0':(0:Int)≤(k:Int):=by omega
        have hk1:(k:Int)<(m:Int):=by omega
        have hkw:IntKind.i64.wrap ((k:Int)+1)=(k:Int)+1:=by rw[IntKind.wrap_i64];omega
        have hRa:=hR.out.keep (Bd (Bw wr (.cells #[.string ⟨nm.toArray⟩,.int .i64 (pl:Int)] 112)));have hbx:=(Bc (Be (Bv wr (.cells #[.string ⟨nm.toArray⟩,.int .i64 (pl:Int)] 112))) 0).trans rfl;replace hRa:=Az hRa;replace hnext:=Az hnext;replace hhit:=Az hhit;clear hcell hv e1 e2 hR hq3 hnone hc;go_wp2_with fail
        go_region_held3 (fun W=>W.cell? ⟨wr.heap.size,0,none⟩=some (.string ⟨nm.toArray⟩)) (first |exact hbx) (first |fail)
        obtain⟨W2,hW2⟩:∃ y,(wr.alloc (.cells #[.string ⟨nm.toArray⟩,.int .i64 (pl:Int)] 112)).drew=y:=⟨_,rfl⟩
        rw[hW2]at hRa;try rw[hW2]
        clear hbx c1 c2;by_cases hn:nm=sd
        ·have hfin:=hbad.out (hst.out.trans (if_pos (hhit.out hn))) (by decide);have hqq:(nm==sd)=true:=beq_iff_eq.2 hn;rw[hqq];subst hfin;obtain⟨y0,y1,y2,y3,y4,y5,y6⟩:=hRa.out.facts;clear hW2;go_wp2;obtain⟨g1,g2⟩:=hRa.out.Vq (.slice none 0 0) (.int .i64 0) (.int .i64 0) _ rfl;exact hQ.out _ _ _ rfl rfl rfl rfl g1 (.nil _ _) g2
        ·have hqq:(nm==sd)=false:=Bq hn;rw[hqq];replace hnext:=Az (hnext.out hn);clear hW2;go_wp2;go_roundw
         case rel=>exact⟨k+1,by go_num,hkm,hnext,hRa⟩
         case measure=>simp[intOf];omega
       ·obtain rfl:k=m:=by omega
        have hge:¬(k:Int)<(k:Int):=by omega
        have hno:Lq x.labels sd=false:=by
         have h1:=hnone.out;rw[←hm.out,List.take_length]at h1;unfold Lq;rw[List.any_eq_false];intro p hp
         simpa using h1 p hp
        have hst2:=hst.out.trans (if_neg (by rw[hno];simp));rw[hst2]at hstep;replace hdone:=Az (hdone.out hst2);have hl64:x.l.length≤64:=hok.out.l;have hS:=hR.out.JC.1;clear hst2 hst hno hnone hbad;go_wp2_with fail
        refine Aw [10] (S:=fun W=>W.cell? ⟨w.heap.size+1,0,none⟩=some (.slice A0 x.l.length c0)) (by kernel_rfl) hS (fun hS0=>?_);have hR5:=hR.out.keep (Bd (Below.refl _ _));clear hS;obtain⟨w5,hw5⟩:∃ y,wr.drew=y:=⟨_,rfl⟩
        rw[hw5]at hR5 hS0 ⊢;clear hw5;refine tY 0 (fun _=>by assumption) ?_;refine tY 1 (fun _=>by assumption) ?_;refine tY 2 (fun _=>by assumption) ?_;refine tY 3 (fun _=>by assumption) ?_;refine tY 4 (fun _=>by assumption) ?_;refine tY 5 (fun _=>by assumption) ?_;refine tY 6 (fun _=>by assumption) ?_;refine Db (i:=7) (v:=?_) (An rfl) (by kernel_rfl) (fun _ _ _ h=>h) (.inl ⟨by rfl,?_⟩) (by assumption) ?_;rotate_left
        ·intro w hSw;go_simp;try with_reducible rfl
        try simp only[Act.put,Sa,Sb,Sc]
        refine tY 8 (fun _=>by assumption) ?_;refine tY 9 (fun _=>by assumption) ?_;refine Ab (rs:=[10]) (by kernel_rfl) (by simp) ?_;refine Aa.cons (An rfl) (fun K hK=>?_) Aa.nil;refine Vr rfl (.tmp 82) rfl sd x.l.length rfl (fun g10 w6 hb hy=>?_);have hR6:=hR5.keep hb;refine hK.out _ _ (fun h=>by cases h) (fun _=>?_);try simp only[Act.put,Sa,Sb,Sc]
        refine Ab (rs:=[11]) (by kernel_rfl) (by simp) ?_;refine Aa.cons (An rfl) (fun K hK=>?_) Aa.nil;refine Vs rfl (.tmp 73) (.tmp 83) rfl w.heap.size g10 (sd,x.l.length) _ x.labels rfl hR6.q3 rfl hy (by rw[hm.out];omega) hR6.hz (fun u7' w7 hr hg ha=>?_);have hR7:=Az (hR6.a3 hr hg);refine hK.out _ _ (fun h=>by cases h) (fun _=>?_);try simp only[Act.put,Sa,Sb,Sc]
        clear hR5 hR6 hb hy hr hg ha hS0;refine tY 12 (fun h=>by cases h) ?_;refine A4 (by kernel_rfl) ?_ _;go_wp2;go_roundw
        case rel=>exact⟨i+1,n+1,i+1,_,_,by go_num,by go_num,by go_num,by omega,Nl _,by omega,hdone,⟨by simp⟩,hstep,hR7⟩
        case measure=>simp[intOf];omega
     ·have hd1:dd=false:=by rw[←hdd.out];exact decide_eq_false hlab
      subst hd1;have hst:El x s ((n:Int)+1)=if (DL s).2.2=false then (x,8) else if 64≤x.l.length then (x,9) else ({x with l:=x.l++[(DL s).1],names:=x.names++[(DL s).2.1],rows:=x.rows++[(n:Int)+1]},0):=by
       unfold El;rw[if_neg hlab]
      have CL:=fun W=>PH s W hs1
      generalize DL s=r at hst CL;obtain⟨⟨op,d,s',t',u,a,k,q⟩,nm,ok⟩:=r;dsimp only at hst CL;dsimp only[In.v]at CL;replace CL:=Az CL;replace hst:=Az hst;obtain⟨A0,c0,rfl⟩:=Dl hR.out.q0;clear hdd hix hsl hlab;go_wp2_with fail
      refine(CL.out _).mono ?_;rintro e w2 ⟨rfl,hb⟩;have hR3:=(hR.out.keep hb).keep (Bw w2 (.cells (In.cs ⟨op,d,s',t',u,a,k,q⟩) 114));have hbx:=Bv w2 (.cells (In.cs ⟨op,d,s',t',u,a,k,q⟩) 114);obtain⟨w3,hw3⟩:∃ y,w2.alloc (.cells (In.cs ⟨op,d,s',t',u,a,k,q⟩) 114)=y:=⟨_,rfl⟩
      obtain⟨g3,hg3⟩:∃ y,w2.heap.size=y:=⟨_,rfl⟩
      rw[hw3]at hR3 hbx;rw[hg3]at hbx;simp only[In.cs]at hw3;go_upto_region 22 with fail
      try rw[hw3]
      try rw[hg3]
      clear hw3 hg3 hR hb CL;replace hR3:=Az hR3;replace hbx:=Az hbx;obtain⟨y0,y1,y2,y3,y4,y5,y6⟩:=hR3.out.facts;obtain⟨k0,k1,k2,k3,k4,k5,k6⟩:=hR3.out.JC;cases ok with
      |false =>
       have hfin:=hbad.out (hst.out.trans (if_pos rfl)) (by decide);subst hfin;go_wp2;obtain⟨g1,g2⟩:=hR3.out.Vq (.slice none 0 0) (.int .i64 0) (.int .i64 0) _ rfl;exact hQ.out _ _ _ rfl rfl rfl rfl g1 (.nil _ _) g2
      |true =>
       by_cases h64:64≤x.l.length
       ·have hfin:=hbad.out (hst.out.trans ((if_neg (by decide)).trans (if_pos h64))) (by decide);subst hfin;have h64a:decide (64≤(x.l.length:Int))=true:=decide_eq_true (by omega);go_wp2;obtain⟨g1,g2⟩:=hR3.out.Vq (.slice none 0 0) (.int .i64 0) (.int .i64 0) _ rfl;exact hQ.out _ _ _ rfl rfl rfl rfl g1 (.nil _ _) g2
       ·have hst2:=hst.out.trans ((if_neg (by decide)).trans (if_neg h64));rw[hst2]at hstep;replace hdone:=Az (hdone.out hst2);have h64a:decide (64≤(x.l.length:Int))=false:=decide_eq_false (by omega);have hnl:x.names.length≤64:=by rw[hok.out.n];exact hok.out.l
        have Jg:x.rows.length≤64:=by rw[hok.out.r];exact hok.out.l
        obtain⟨x0,x1,x2,x3,x4,x5,x6,x7⟩:=Hq hbx.out;have hRa:=Az (hR3.out.keep (Bw w3 (.cells (In.cs ⟨op,d,s',t',u,a,k,q⟩) 114)));clear hst2 hst hbad y0 y1 y2 y3 y4 y5 y6;go_wp2_with (at_builtin;refine YK rfl (.tmp 102) (.tmp 104) rfl w.heap.size w3.heap.size ⟨op,d,s',t',u,a,k,q⟩ (.slice A0 x.l.length c0) x.l rfl hRa.out.q0 rfl (Bv _ _) ?hl ?hb ?_)
        case hl=>omega
        case hb=>exact Nat.le_succ_of_le hR3.out.hz
        intro v1 w4 hr4 hg4;obtain⟨A1,c1,hv1⟩:=Dl hr4;simp only[List.length_append,List.length_singleton]at hv1;subst hv1;have hR4:=hRa.out.a0 hr4 hg4;have hc5:=Bg hRa.out.c5 hg4 (Oa hRa.out.q0 hRa.out.c5 (by decide));have l0:w4.cell? ⟨w.heap.size+1,0,none⟩=some (.slice A0 x.l.length c0):=(Bc hc5 0).trans rfl;have l1:=Bf hc5 0;have l2:=Bl hc5;replace hR4:=Az hR4;have hRb:=Az (hR4.out.keep (Bw _ (.cells #[.string ⟨nm.toArray⟩] 9)));clear hRa hR3 hbx k0 k1 k2 k3 k4 k5 k6 x0 x1 x2 x3 x4 x5 x6 x7 hr4 hg4 hc5;go_wp2_with (at_builtin;refine Yy rfl (.tmp 107) (.tmp 109) rfl w.heap.size w4.heap.size nm u7 x.names rfl hRb.out.q1 rfl (Dm (by simp) _) ?hl2 ?hb2 ?_)
        case hl2=>omega
        case hb2=>exact hRb.out.hz
        intro v2 w5 hr5 hg5 ha5;have hR5:=hRb.out.a1 hr5 hg5;have hRc:=Az (hR5.keep (Bw _ (.cells #[.int .i64 ((n:Int)+1)] 3)));replace hR5:=Az hR5;clear hRb hR4 hr5 hg5 ha5 l0 l1 l2;go_wp2_with (at_builtin;refine NU rfl (.tmp 111) (.tmp 113) rfl w.heap.size w5.heap.size ((n:Int)+1) u8 x.rows rfl hRc.out.q2 rfl (Bv _ _) ?hl3 ?hb3 ?_)
        case hl3=>omega
        case hb3=>exact hRc.out.hz
        intro v3 w6 hr6 hg6 ha6;have hR6:=Az (hRc.out.a2 hr6 hg6);clear hRc hR5 hr6 hg6 ha6;go_wp2;go_roundw
        case rel=>exact⟨i+1,n+1,i+1,_,_,by go_num,by go_num,by go_num,by omega,Nl _,by omega,hdone,⟨by simp⟩,hstep,hR6⟩
        case measure=>simp[intOf];omega
   ·have hb:¬(t.getD i 0).toNat=10:=fun e=>h10 (UInt8.toNat_inj.1 (by rw[e];rfl))
    have hno2:=Az (TB hlt hfi h10 hno.out);generalize (t.getD i 0).toNat=c at *;have hb1:¬(c:Int)=10:=by omega
    have hb2:((c:Int)==10)=false:=Bq hb1;go_wp2;go_roundw
    case rel=>exact⟨f,n,i+1,x,v0,rfl,rfl,by go_num,by omega,by omega,by omega,hF,hno2,hok,hR⟩
    case measure=>simp[intOf];omega
  ·obtain rfl:i=t.length:=by omega
   have hge:¬(t.length:Int)<(t.length:Int):=by omega
   have hend:=Vt (n:=(n:Int)) (x:=x) (f:=f) (t:=t) (by have:=hno.out;rwa [List.take_of_length_le (by simp)]at this);rw[←hF.out]at hend;clear hF hno;by_cases hfl:f<t.length
   ·rw[if_pos hfl]at hend;have hfin:=hstop.out hend (by decide);subst hfin;have hfl':(f:Int)<(t.length:Int):=by omega
    have hnw:IntKind.i64.wrap ((n:Int)+1)=(n:Int)+1:=by rw[IntKind.wrap_i64];omega
    obtain⟨y0,y1,y2,y3,y4,y5,y6⟩:=hR.out.facts;clear hend;go_wp2;obtain⟨g1,g2⟩:=hR.out.Vq (.slice none 0 0) (.int .i64 0) (.int .i64 0) _ rfl;exact hQ.out _ _ _ rfl rfl rfl rfl g1 (.nil _ _) g2
   ·rw[if_neg hfl]at hend;have hfl':¬(f:Int)<(t.length:Int):=by omega
    have hgo:=hA.out.symm.trans (Xt hend);clear hend hfl hstop hA;obtain⟨A0,c0,rfl⟩:=Dl hR.out.q0;obtain⟨A3,c3,rfl⟩:=Dl hR.out.q3;obtain⟨A1,c1,rfl⟩:=Dl hR.out.q1;obtain⟨A2,c2,rfl⟩:=Dl hR.out.q2;have n0:=hok.out.n;have r0:=hok.out.r;have l0:=hok.out.l;have hm9:x.labels.length≤90000:=by have:=hok.out.b;omega
    obtain⟨m,hm⟩:∃ m,x.l.length=m:=⟨_,rfl⟩
    rw[hm]at hR n0 r0 l0;rw[n0,r0]at hR;obtain⟨fx,hfx⟩:∃ fx,Hr x 0 []=fx:=⟨_,rfl⟩
    rw[hfx]at hgo;rw[hm]at hgo;replace hm:=Az hm;replace hgo:=Az hgo;replace hfx:=Az hfx;have k0:=hR.out.JC.1;rw[n0,r0];go_wp2_with fail
    clear k0;go_loopw [125] (fun v125 wr2=>∃ (k:Nat) (done:List In),v125=.int .i64 (k:Int)∧k≤m∧Af (done.length=k)∧Af (Hr x k done=fx)∧Af (RX w wr2 w.heap.size (.slice A0 m c0) (.slice A3 x.labels.length c3) (.slice A1 m c1) (.slice A2 m c2) (done++x.l.drop k) x.names x.rows x.labels)) (fun v125 _=>m-(intOf v125).toNat)
    case atStart=>exact⟨0,[],rfl,Nat.zero_le _,⟨rfl⟩,hfx,⟨by simpa using hR.out⟩⟩
    case round =>
     obtain⟨k,done,rfl,hk,hdl,hJ,hR⟩:=hrel;clear hfx;by_cases hlt:k<m
     ·have hlen:(done++x.l.drop k).length=m:=by rw[List.length_append,List.length_drop,hm.out,hdl.out];omega
      have hk0:(0:Int)≤(k:Int):=by omega
      have hk1:(k:Int)<(m:Int):=by omega
      have hkw:IntKind.i64.wrap ((k:Int)+1)=(k:Int)+1:=by rw[IntKind.wrap_i64];omega
      have hkc:(k:Int)+1=((k+1:Nat):Int):=by omega
      have hdl1:∀ i:In,(done++[i]).length=k+1:=fun i=>by rw[List.length_append,hdl.out];rfl
      have hstep:=Rl (x:=x) (k:=k) (done:=done) (by rw[hm.out];exact hlt) (by rw[hm.out];exact n0) (by rw[hm.out];exact r0);rw[hJ.out,hm.out]at hstep;have hq1:=hR.out.q1;unfold E7 at hq1;rw[n0]at hq1;obtain⟨g1,c1',hv1,hc1,_,_,hcell1⟩:=CO hq1 (by omega);have hA1:A1=some ⟨g1,0,none⟩:=by injection hv1
      subst hA1;have nk:wr.cell? ⟨g1,k,none⟩=some (.string ⟨(x.names.getD k []).toArray⟩):=hcell1 k _ (by
       rw[List.getElem?_map,List.getElem?_eq_getElem (show k<x.names.length by omega),getD_eq (show k<x.names.length by omega)];rfl)
      generalize x.names.getD k []=nm at nk hstep;replace hstep:=Az hstep;replace hdl1:=Az hdl1;replace hkc:=Az hkc;clear hcell1 hv1 hc1 hq1;cases nm with
      |nil =>
       go_wp2_with fail
       go_roundw
       case rel =>
        refine⟨k+1,done++[x.l.getD k In.zero],congrArg (Value.int .i64) hkc.out,hlt,⟨hdl1.out _⟩,⟨(hstep.out.trans (if_pos rfl)).symm⟩,⟨?_⟩⟩;have e:=hR.out;rw[Dz x.l k In.zero (by rw[hm.out];exact hlt)]at e
        simpa using e
       case measure=>simp[intOf];omega
      |cons b bs =>
       have P:=Az (fun(W:World) (hW:RX w W w.heap.size (.slice A0 m c0) (.slice A3 x.labels.length c3) (.slice (some ⟨g1,0,none⟩) m c1) (.slice A2 m c2) (done++x.l.drop k) x.names x.rows x.labels)=>Ho _ _ (b::bs) m _ W hW.q3 (by omega));have hS:=(hR.out.keep (Bd (Below.refl _ _))).S;have hS2:Af (RX w wr.drew w.heap.size (.slice A0 m c0) (.slice A3 x.labels.length c3) (.slice (some ⟨g1,0,none⟩) m c1) (.slice A2 m c2) (done++x.l.drop k) x.names x.rows x.labels)∧wr.drew.cell? ⟨w.heap.size+1,0,none⟩=some (.slice A0 m c0)∧wr.drew.cell? ⟨g1,k,none⟩=some (.string ⟨(b::bs).toArray⟩):=⟨hS.1,hS.2,nk⟩
       clear hS;obtain⟨fd,hfd⟩:∃ fd,Cy x.labels (b::bs) m=fd:=⟨_,rfl⟩
       rw[hfd]at hstep P;clear hfd;have hq0:=hR.out.q0;unfold BM at hq0;rw[hlen]at hq0;obtain⟨g0,c0',hv0,hc0,hg0,⟨cs0,hcs0,hcz⟩,_⟩:=CO hq0 (by omega);have hA0:A0=some ⟨g0,0,none⟩:=by injection hv0
       subst hA0;clear hv0 hq0 hcs0 hcz hc0;go_wp2_with fail
       refine Aw [14] (S:=fun W=>Af (RX w W w.heap.size (.slice (some ⟨g0,0,none⟩) m c0) (.slice A3 x.labels.length c3) (.slice (some ⟨g1,0,none⟩) m c1) (.slice A2 m c2) (done++x.l.drop k) x.names x.rows x.labels)∧W.cell? ⟨w.heap.size+1,0,none⟩=some (.slice (some ⟨g0,0,none⟩) m c0)∧W.cell? ⟨g1,k,none⟩=some (.string ⟨(b::bs).toArray⟩)) (by kernel_rfl) hS2 (fun hS0=>?_);clear hS2 nk hR;obtain⟨w5,hw5⟩:∃ y,wr.drew=y:=⟨_,rfl⟩
       rw[hw5]at hS0 ⊢;clear hw5;refine tY 0 (fun _=>by assumption) ?_;refine tL 1 (by assumption) ?_;refine tY 2 (fun _=>by assumption) ?_;refine tY 3 (fun _=>by assumption) ?_;refine tY 4 (fun _=>by assumption) ?_;refine tY 5 (fun _=>by assumption) ?_;refine tY 6 (fun _=>by assumption) ?_;refine tL 7 (by assumption) ?_;refine tY 8 (fun _=>by assumption) ?_;refine tL 9 (by assumption) ?_;refine tY 10 (fun _=>by assumption) ?_;refine Ab (rs:=[11]) (by kernel_rfl) (by simp) ?_;refine Aa.cons (An rfl) (fun K hK=>?_) Aa.nil;go_simp
       go_at_call 65
       refine(P.out _ hS0.1.out).mono ?_;rintro e w7 ⟨rfl,hb7⟩;have hS7:=Xu hb7 hS0;clear hS0 hb7;go_wp2_with fail
       refine hK.out _ _ (fun _=>hS7) (fun _=>?_);try simp only[Act.put,Sa,Sb,Sc]
       refine tY 12 (fun _=>by assumption) ?_;refine tY 13 (fun _=>by assumption) ?_;have hR7:=hS7.1.out;have hR8:=hR7.Sx (k:=k) (by rw[hlen];exact hlt) fd;obtain⟨cs7,hcs7,hcz7⟩:∃ cs,w7.heap[g0]?=some (.cells cs 114 (0,0))∧m*8≤cs.size:=by
        have hq:=hR7.q0;unfold BM at hq;rw[hlen]at hq;obtain⟨g0',c0',hv0,_,_,h,_⟩:=CO hq (by omega);have hgg:g0=g0':=by injection hv0 with a _ _;injection a with a;injection a
        subst hgg;exact h
       have hck:k*8+7<cs7.size:=by omega
       have z7:w7.cell? ⟨g0,k*8+7,none⟩=some cs7[k*8+7]:=(Bc hcs7 (k*8+7)).trans (by simp[hck]);have z7f:=Bf hcs7 (k*8+7);have z7l:=Bl hcs7;have z8:(w7.setCell ⟨g0,k*8+7,none⟩ (.int .i64 fd)).cell? ⟨g0,k*8+7,none⟩=some (.int .i64 fd):=(Bc (Bs hcs7 (k*8+7) _) (k*8+7)).trans (by simp[hck]);generalize cs7[k*8+7]=v7 at z7;replace hR8:=Az hR8;obtain⟨w8,hw8⟩:∃ y,w7.setCell ⟨g0,k*8+7,none⟩ (.int .i64 fd)=y:=⟨_,rfl⟩
       rw[hw8]at hR8 z8;replace z8:=Az z8;clear hS7 hR7 hcs7 hcz7 hck P;refine Ab (rs:=[14]) (by kernel_rfl) (by simp) ?_;refine Aa.cons (An rfl) (fun K hK=>?_) Aa.nil;go_simp
       go_wp2_with fail
       refine hK.out _ _ (fun h=>by cases h) (fun _=>?_);try simp only[Act.put,Sa,Sb,Sc]
       try rw[hw8]
       clear hw8 z7 z7f z7l;refine A4 (by kernel_rfl) ?_ _;replace z8:=z8.out;have k8:=hR8.out.JC.1;have hltx:k<x.l.length:=by rw[hm.out];exact hlt
       have e8:=hR8.out;rw[get_at done x.l k In.zero hdl.out hltx,Ub done x.l k _ hdl.out hltx]at e8;replace hR8:=Az e8;clear e8;by_cases hfd:fd<0
       ·have hfx2:fx=.inr (x.rows.getD k 0):=by rw[hstep.out,if_neg (by simp),if_pos hfd]
        subst hfx2;have hfin:fin=(Pg.zero,x.rows.getD k 0,10):=hgo.out;have hq2:=hR8.out.q2;unfold Bo at hq2;rw[r0]at hq2;obtain⟨g2,c2',hv2,_,_,_,hcell2⟩:=CO hq2 (by omega);have hA2:A2=some ⟨g2,0,none⟩:=by injection hv2
        subst hA2;have rk:w8.cell? ⟨g2,k,none⟩=some (.int .i64 (x.rows.getD k 0)):=hcell2 k _ (by
         rw[List.getElem?_map,List.getElem?_eq_getElem (show k<x.rows.length by omega),getD_eq (show k<x.rows.length by omega)];rfl)
        generalize x.rows.getD k 0=row at *;subst hfin;clear hcell2 hv2 hq2 hstep hgo hJ;go_wp2_with fail
        have hng:w.heap.size≠g2:=by
         obtain⟨cells,hc⟩:=Dy hR8.out.q2 g2 rfl;exact CU hR8.out.c2 hc (by decide)
        refine Aw [] (S:=fun W=>W.cell? ⟨g2,k,none⟩=some (.int .i64 row)) (by kernel_rfl) rk (fun hS0=>?_);have hR9:=hR8.out.keep (Bd (Below.refl _ _));obtain⟨w9,hw9⟩:∃ y,w8.drew=y:=⟨_,rfl⟩
        rw[hw9]at hS0 hR9 ⊢;clear hw9 rk hR8;replace hR9:=Az hR9;refine tY 0 (fun _=>by assumption) ?_;refine tY 1 (fun _=>by assumption) ?_;refine tY 2 (fun _=>by assumption) ?_;refine tY 3 (fun _=>by assumption) ?_;refine Db (i:=4) (v:=?_) (An rfl) (by kernel_rfl) (fun _ _ _ h=>h) (.inl ⟨by rfl,?_⟩) (by assumption) ?_;rotate_left
        ·intro w hSw;go_simp;try with_reducible rfl
        try simp only[Act.put,Sa,Sb,Sc]
        obtain⟨y0,y1,y2,y3,y4,y5,y6⟩:=hR9.out.facts;refine Ab (rs:=[5]) (by kernel_rfl) (by simp) ?_;refine Aa.cons (An rfl) (fun K hK=>?_) Aa.nil;go_simp
        go_wp2_with fail
        have hS1:=AaC hng (.slice none 0 0) (.int .i64 0) (.int .i64 0) hS0;refine hK.out _ _ (fun _=>hS1) (fun _=>?_);try simp only[Act.put,Sa,Sb,Sc]
        refine tY 6 (fun _=>by assumption) ?_;refine tY 7 (fun _=>by assumption) ?_;refine A4 (by kernel_rfl) ?_ _;go_wp2;obtain⟨g3,g4⟩:=hR9.out.Vq (.slice none 0 0) (.int .i64 0) (.int .i64 0) _ rfl;exact hQ.out _ _ _ rfl rfl rfl rfl g3 (.nil _ _) g4
       ·have hfx2:=hstep.out.trans ((if_neg (by simp)).trans (if_neg hfd));go_wp2;go_roundw
        case rel=>exact⟨k+1,done++[{x.l.getD k In.zero with q:=fd}],congrArg (Value.int .i64) hkc.out,hlt,⟨hdl1.out _⟩,⟨hfx2.symm⟩,hR8⟩
        case measure=>simp[intOf];omega
     ·obtain rfl:k=m:=by omega
      have hfx2:fx=.inl done:=by rw[←hJ.out];exact TC x k done (by rw[hm.out];exact Nl _)
      subst hfx2;have e0:done++x.l.drop k=done:=by rw[List.drop_eq_nil_of_le (by rw[hm.out];exact Nl _),List.append_nil]
      rw[e0]at hR;have hge2:¬(k:Int)<(k:Int):=by omega
      have P1:=Az (fun(W:World) (hW:RX w W w.heap.size (.slice A0 k c0) (.slice A3 x.labels.length c3) (.slice A1 k c1) (.slice A2 k c2) done x.names x.rows x.labels)=>Ho _ _ [108,111,99,107] k _ W hW.q3 (by omega));have P2:=Az (fun(W:World) (hW:RX w W w.heap.size (.slice A0 k c0) (.slice A3 x.labels.length c3) (.slice A1 k c1) (.slice A2 k c2) done x.names x.rows x.labels)=>Ho _ _ [117,110,108,111,99,107] k _ W hW.q3 (by omega));have hfin:=hgo.out;dsimp only at hfin;generalize Cy x.labels [108,111,99,107] k=f1 at P1 hfin;generalize Cy x.labels [117,110,108,111,99,107] k=f2 at P2 hfin;have hS:=(hR.out.keep (Bd (Below.refl _ _))).S;replace hfin:=Az hfin;clear hJ hgo e0 hlt;go_wp2_with fail
      refine Aw [11] (S:=fun W=>Af (RX w W w.heap.size (.slice A0 k c0) (.slice A3 x.labels.length c3) (.slice A1 k c1) (.slice A2 k c2) done x.names x.rows x.labels)∧W.cell? ⟨w.heap.size+1,0,none⟩=some (.slice A0 k c0)) (by kernel_rfl) hS (fun hS0=>?_);obtain⟨w5,hw5⟩:∃ y,wr.drew=y:=⟨_,rfl⟩
      rw[hw5]at hS0 ⊢;clear hw5 hS hR;refine tY 0 (fun _=>by assumption) ?_;refine tY 1 (fun _=>by assumption) ?_;refine tL 2 (by assumption) ?_;refine tY 3 (fun _=>by assumption) ?_;refine tY 5 (fun _=>by assumption) ?_;refine tY 6 (fun _=>by assumption) ?_;refine tL 7 (by assumption) ?_;refine tY 8 (fun _=>by assumption) ?_;refine Ab (rs:=[4]) (by kernel_rfl) (by simp) ?_;refine Aa.cons (An rfl) (fun K hK=>?_) Aa.nil;go_simp
      go_at_call 65
      refine(P1.out _ hS0.1.out).mono ?_;rintro e w7 ⟨rfl,hb7⟩;have hS7:=PI hb7 hS0;clear hS0 hb7 P1;go_wp2_with fail
      refine hK.out _ _ (fun _=>hS7) (fun _=>?_);try simp only[Act.put,Sa,Sb,Sc]
      refine tY 10 (fun _=>by assumption) ?_;refine Ab (rs:=[9]) (by kernel_rfl) (by simp) ?_;refine Aa.cons (An rfl) (fun K hK=>?_) Aa.nil;go_simp
      go_at_call 65
      refine(P2.out _ hS7.1.out).mono ?_;rintro e w8 ⟨rfl,hb8⟩;have hS8:=PI hb8 hS7;clear hS7 hb8 P2;go_wp2_with fail
      refine hK.out _ _ (fun _=>hS8) (fun _=>?_);try simp only[Act.put,Sa,Sb,Sc]
      obtain⟨k0,k1,k2,k3,k4,k5,k6⟩:=hS8.1.out.JC;have hlu:=hS8.1.out.lu (.int .i64 f1) (.int .i64 f2) _ rfl;clear hS8;refine Ab (rs:=[11]) (by kernel_rfl) (by simp) ?_;refine Aa.cons (An rfl) (fun K hK=>?_) Aa.nil;go_simp
      go_wp2_with fail
      refine hK.out _ _ (fun h=>by cases h) (fun _=>?_);try simp only[Act.put,Sa,Sb,Sc]
      refine tY 12 (fun h=>by cases h) ?_;refine Ab (rs:=[13]) (by kernel_rfl) (by simp) ?_;refine Aa.cons (An rfl) (fun K hK=>?_) Aa.nil;go_simp
      go_wp2_with fail
      refine hK.out _ _ (fun h=>by cases h) (fun _=>?_);try simp only[Act.put,Sa,Sb,Sc]
      obtain⟨w9,hw9⟩:∃ y,(w8.setCell ⟨w.heap.size+1,1,none⟩ (.int .i64 f1)).setCell ⟨w.heap.size+1,2,none⟩ (.int .i64 f2)=y:=⟨_,rfl⟩
      rw[hw9]at hlu ⊢;clear hw9 k0 k1 k2 k3 k4 k5 k6;refine A4 (by kernel_rfl) ?_ _;obtain⟨u1,u2,u3,u4⟩:=hlu;have y0:w9.cell? ⟨w.heap.size,0,none⟩=some (.slice none 0 0):=(Bc u2 0).trans rfl;have y1:w9.cell? ⟨w.heap.size,1,none⟩=some (.int .i64 0):=(Bc u2 1).trans rfl;have y2:w9.cell? ⟨w.heap.size,2,none⟩=some (.int .i64 0):=(Bc u2 2).trans rfl;have y3:=Bf u2 0;have y4:=Bf u2 1;have y5:=Bf u2 2;have y6:=Bl u2;have k0:w9.cell? ⟨w.heap.size+1,0,none⟩=some (.slice A0 k c0):=(Bc u3 0).trans rfl;have k1:w9.cell? ⟨w.heap.size+1,1,none⟩=some (.int .i64 f1):=(Bc u3 1).trans rfl;have k2:w9.cell? ⟨w.heap.size+1,2,none⟩=some (.int .i64 f2):=(Bc u3 2).trans rfl;replace u1:=Az u1;replace u2:=Az u2;replace u4:=Az u4;clear u3;by_cases h1:f1<0
      ·have hf:=hfin.out.trans (if_pos (.inl h1));subst hf;go_wp2;obtain⟨g3,_,g4⟩:=Vu u1.out u2.out u4.out (.slice none 0 0) (.int .i64 0) (.int .i64 0) _ rfl;exact hQ.out _ _ _ rfl rfl rfl rfl g3 (.nil _ _) g4
      ·by_cases h2:f2<0
       ·have hf:=hfin.out.trans (if_pos (.inr h2));subst hf;go_wp2;obtain⟨g3,_,g4⟩:=Vu u1.out u2.out u4.out (.slice none 0 0) (.int .i64 0) (.int .i64 0) _ rfl;exact hQ.out _ _ _ rfl rfl rfl rfl g3 (.nil _ _) g4
       ·have hf:=hfin.out.trans (if_neg (fun h=>h.elim h1 h2));subst hf;go_wp2;obtain⟨g3,g5,g4⟩:=Vu u1.out u2.out u4.out (.slice A0 k c0) (.int .i64 f1) (.int .i64 f2) _ rfl;exact hQ.out _ _ _ rfl rfl rfl rfl g3 g5 g4
end
end Go.Proofs.YtjjpiefgdggghaaGreatDoor
