/- Parts: AsmLine, AsmMid, AsmAdd. -/
import Derived.Test.YtnmahobjmpdkdaaGreatDoorG02
import Derived.Test.YtnmahobjmpdkdaaGreatDoorG19
import Derived.Test.YtnmahobjmpdkdaaGreatDoorG09
import Derived.Test.YtnmahobjmpdkdaaGreatDoorG16
import Derived.Test.YtnmahobjmpdkdaaGreatDoorG03
import Derived.Great.BuildSlice
import Derived.Deep.AppendLies
set_option linter.unusedVariables false
set_option linter.unusedSimpArgs false
set_option maxRecDepth 100000
set_option maxHeartbeats 40000000
namespace Go.Proofs.YtnmahobjmpdkdaaGreatDoor
section
open Go.RowKit Go.Proofs.YtnmahobjmpdkdaaGreatDoorW.PrintWords
structure Bx (W W1:World) (base gx bm:Nat) (v0 v1 v2 u0 u1 u2:Value):Prop where
 b:Below base W W1
 k:∀ k,k<W.heap.size→k≠gx→k≠bm→some k≠v0.ownBlock→some k≠v1.ownBlock→some k≠v2.ownBlock→W1.heap[k]?=W.heap[k]?
 n0:∀ k,u0.ownBlock=some k→v0.ownBlock=some k∨W.heap.size≤k
 n1:∀ k,u1.ownBlock=some k→v1.ownBlock=some k∨W.heap.size≤k
 n2:∀ k,u2.ownBlock=some k→v2.ownBlock=some k∨W.heap.size≤k
theorem Bx.CD{W W1:World}{base gx bm:Nat}{v0 v1 v2:Value}(hb:Below W.heap.size W W1)(hs:base≤W.heap.size):Bx W W1 base gx bm v0 v1 v2 v0 v1 v2 :=
 ⟨hb.mono hs,fun k hk _ _ _ _ _=>hb.block k hk,fun k h=>.inl h,fun k h=>.inl h,fun k h=>.inl h⟩
theorem FT.keep{W W1:World}{bm:Nat}{L:List (List UInt8×Nat)}(h:FT W bm L)(hk:W1.heap[bm]?=W.heap[bm]?):FT W1 bm L:=by
 obtain⟨n,D,⟨es,clock,hb,r⟩,hi,hn,hL⟩:=h;exact⟨n,D,⟨es,clock,hk.trans hb,r⟩,hi,hn,hL⟩
theorem FT.lt{W:World}{bm:Nat}{L:List (List UInt8×Nat)}(h:FT W bm L):bm<W.heap.size:=by
 obtain⟨n,D,⟨es,clock,hb,r⟩,_⟩:=h;exact Bl hb
theorem DK.keep{W W1:World}{base gx bm:Nat}{v0 v1 v2:Value}{x:Src}(h:DK W base gx bm v0 v1 v2 x)(hb:Below W.heap.size W W1):DK W1 base gx bm v0 v1 v2 x :=
 ⟨Bk hb h.s,Om h.r0 (fun k hk=>hb.block k (Ol h.r0 k hk)),Om h.r1 (fun k hk=>hb.block k (Ol h.r1 k hk)),h.r2.keep hb,h.m.keep (hb.block bm h.m.lt),h.gb,h.bb⟩
theorem X1(W:World)(bm:Nat)(L:List (List UInt8×Nat))(hl:L.length≤1000000)(h:FT W bm L)(s:List UInt8)(hs:s.length≤1000000)(p:Nat)(hp:p≤1000000) :
  ∃ W1,(Instr.mapUpdate 95 (.map (some bm)) (.string ⟨s.toArray⟩) (.int .i64 p)).run Tryz.prog W=.ok () W1∧FT W1 bm ((s,p)::L)∧W.grownBy W1 (some bm):=by
 obtain⟨n,D,ho,hi,hn,hL⟩:=h;obtain⟨W1,hr,h1,h2⟩:=ho.update (Go.Maps.string_keyed Tryz.underlying9) Tryz.underlying95 (by simp[maxLen];omega) (UI s hs) (plainElem_int (q:=.i64) (a:=(p:Int)) Tryz.underlying3 (by simp[Lit.wf,IntKind.min,IntKind.max,IntKind.signed,IntKind.bits];omega));refine⟨W1,hr,⟨n+1,_,h1,hi.put _ _,by simp;omega,fun t=>?_⟩,h2⟩;rw[QG];by_cases e:s=t
 ·subst e;rw[if_pos rfl];exact⟨Go.Maps.has_put_same hi (show WideAt.IsKeyLit (.string s) from trivial) _,Go.Maps.atKey_put_same hi (show WideAt.IsKeyLit (.string s) from trivial) _ _⟩
 ·have hne:(Lit.string t)≠(Lit.string s):=fun h=>e (by injection h with h;exact h.symm)
  rw[if_neg e,Go.Maps.has_put_other hne,Go.Maps.atKey_put_other hne];exact hL t
theorem FT.ne{W:World}{bm k:Nat}{L:List (List UInt8×Nat)}{cs:Array Value}{t:TypeId}{fr:Nat×Nat}(h:FT W bm L)(hk:W.heap[k]?=some (.cells cs t fr)):k≠bm:=by
 obtain⟨n,D,⟨es,clock,hb,r⟩,_⟩:=h;rintro rfl;rw[hb]at hk;cases hk
theorem LO{W W1:World}{base bm n size:Nat}{e:TypeId}{v:Value}{xs:List Value}{L:List (List UInt8×Nat)}(h:W.ownsRow base e size v n xs)(hm:FT W bm L)(hg:W.grownBy W1 (some bm)):W1.ownsRow base e size v n xs :=
 Om h fun k hk=>by
  obtain⟨cells,hc⟩:=Dy h k hk;exact hg.block k (Bl hc) (fun e=>hm.ne hc (Option.some.inj e))
theorem DK.EH{W W1:World}{base gx bm:Nat}{v0 v1 v2:Value}{x:Src}{L:List (List UInt8×Nat)}(h:DK W base gx bm v0 v1 v2 x)(hg:W.grownBy W1 (some bm))(hM:FT W1 bm L) :
  DK W1 base gx bm v0 v1 v2 {x with labels:=L} :=
 ⟨(hg.block gx (Bl h.s) (fun e=>h.m.ne h.s (Option.some.inj e))).trans h.s,LO h.r0 h.m hg,LO h.r1 h.m hg,LO h.r2 h.m hg,hM,h.gb,h.bb⟩
theorem TZ(W:World)(base gx bm:Nat)(v0 v1 v2:Value)(x:Src)(s:List UInt8)(n:Int)(he:Env W)(hX:DK W base gx bm v0 v1 v2 x)(hs:s.length≤90000)(hb0:base≤W.heap.size)
  (hend:s.getLast?≠some 10) :
  Calls Tryz.prog 62 #[.pointer (some ⟨gx,0,none⟩),.string ⟨s.toArray⟩,.int .i64 n] W fun e W1=>e=.returned (.int .i64 (Cv x s n).2) ∧
   ∃ u0 u1 u2,DK W1 base gx bm u0 u1 u2 (Cv x s n).1∧Bx W W1 base gx bm v0 v1 v2 u0 u1 u2:=by
 have hF:Cv x s n=(x,8):=by unfold Cv;rw[if_pos hend]
 rw[hF];have C:=E0 s 10 (by omega) W;have hc:Fy s 10=(s,false):=by unfold Fy;rw[if_neg hend]
 rw[hc]at C;replace C:=Az C;replace hX:=Az hX;clear hend hc hF;go_enter Tryz.func62,Tryz.ntmps62;go_wp2_with fail
 refine C.out.mono ?_;rintro e w1 ⟨rfl,hb⟩;go_wp2;go_ret;exact⟨rfl,v0,v1,v2,hX.out.keep hb,.CD hb hb0⟩
theorem Ql(W:World)(base gx bm:Nat)(v0 v1 v2:Value)(x:Src)(s:List UInt8)(n:Int)(he:Env W)(hX:DK W base gx bm v0 v1 v2 x)(hs:s.length≤90000)(hb0:base≤W.heap.size)
  (hlen:x.l.length≤1000000)(hlab:x.labels.length≤1000000)(hend:s.getLast?=some 10)(hcol:s.dropLast.getLast?=some 58)(hnm:Cp s.dropLast.dropLast=true) :
  Calls Tryz.prog 62 #[.pointer (some ⟨gx,0,none⟩),.string ⟨s.toArray⟩,.int .i64 n] W fun e W1=>e=.returned (.int .i64 (Cv x s n).2) ∧
   ∃ u0 u1 u2,DK W1 base gx bm u0 u1 u2 (Cv x s n).1∧Bx W W1 base gx bm v0 v1 v2 u0 u1 u2:=by
 have hF:Cv x s n=if (x.at s.dropLast.dropLast).isSome then (x,2) else ({x with labels:=(s.dropLast.dropLast,x.l.length)::x.labels},0):=by
  unfold Cv;rw[if_neg (by rw[hend];simp)];dsimp only;rw[if_pos ⟨hcol,hnm⟩]
 generalize Cv x s n=fin at hF ⊢;have hl1:s.dropLast.length≤90000:=by simp;omega
 have hl2:s.dropLast.dropLast.length≤90000:=by simp;omega
 have C1:=fun W'=>E0 s 10 (by omega) W'
 have C2:=fun W'=>E0 s.dropLast 58 (by omega) W'
 have C3:=fun W'=>FA s.dropLast.dropLast W' (by omega)
 have hc1:Fy s 10=(s.dropLast,true):=by unfold Fy;rw[if_pos hend]
 have hc2:Fy s.dropLast 58=(s.dropLast.dropLast,true):=by unfold Fy;rw[if_pos hcol]
 rw[hc1]at C1;rw[hc2]at C2;rw[hnm]at C3;clear hend hcol hnm hc1 hc2;generalize s.dropLast=s1 at *;generalize s1.dropLast=lb at *;replace C1:=Az C1;replace C2:=Az C2;replace C3:=Az C3;replace hX:=Az hX;go_enter Tryz.func62,Tryz.ntmps62;go_wp2_with fail
 refine(C1.out _).mono ?_;rintro e w1 ⟨rfl,hb1⟩;go_wp2_with fail
 refine(C2.out _).mono ?_;rintro e w2 ⟨rfl,hb2⟩;go_wp2_with fail
 refine(C3.out _).mono ?_;rintro e w3 ⟨rfl,hb3⟩;have hB:Below W.heap.size W w3:=(hb1.trans (hb2.mono hb1.size)).trans (hb3.mono (Nat.le_trans hb1.size hb2.size));have hX3:=Az (hX.out.keep hB);clear hb1 hb2 hb3 C1 C2 C3;have c0:w3.cell? ⟨gx,0,none⟩=some v0:=(Bc hX3.out.s 0).trans rfl;have c3:w3.cell? ⟨gx,3,none⟩=some (.map (some bm)):=(Bc hX3.out.s 3).trans rfl;obtain⟨b,hb⟩:∃ b,(Er x.labels lb).isSome=b:=⟨_,rfl⟩
 have hat:(x.at lb).isSome=b:=hb;rw[hat]at hF;replace hF:=Az hF;cases b with
 |true =>
  obtain rfl:fin=(x,2):=by rw[hF.out];rfl
  go_wp2_with (refine Lu rfl (.tmp 36) (.tmp 37) rfl bm x.labels rfl hX3.out.m lb (by omega) rfl ?_)
  go_ret;exact⟨rfl,v0,v1,v2,hX3.out,.CD hB hb0⟩
 |false =>
  obtain rfl:fin=({x with labels:=(lb,x.l.length)::x.labels},0):=by rw[hF.out];rfl
  obtain⟨A,c,rfl⟩:∃ A c,v0=.slice A x.l.length c:=by
   rcases hX3.out.r0.2 with ⟨rfl,h0⟩ |⟨g,cap,cur,rfl,_⟩
   ·exact⟨none,0,by rw[h0]⟩
   ·exact⟨_,_,rfl⟩
  have hX4:=Az (hX3.out.keep (Bd (Below.refl _ _)));obtain⟨w4,hrun,hM,hg⟩:=X1 w3.drew bm x.labels hlab hX4.out.m lb (by omega) x.l.length hlen;have hX5:=Az (hX4.out.EH hg hM);replace hM:=Az hM;replace hg:=Az hg;have hS:w3.drew.cell? ⟨gx,0,none⟩=some (.slice A x.l.length c)∧w3.drew.cell? ⟨gx,3,none⟩=some (.map (some bm)):=⟨c0,c3⟩
  go_wp2_with (refine Lu rfl (.tmp 36) (.tmp 37) rfl bm x.labels rfl hX3.out.m lb (by omega) rfl ?_)
  refine wp_region_held_drew (S:=(fun W'=>W'.cell? ⟨gx,0,none⟩=some (.slice A x.l.length c)∧W'.cell? ⟨gx,3,none⟩=some (.map (some bm)))) (by kernel_rfl) hS (fun hHeld0=>?_);refine wpAnyH_take (i:=0) (oi:=?oim0) (v:=?vm0) ?him0 ?hsm0 ?hfm0 ?hrm0 ?hQm0 ?hym0 ?hSm0 ?_;case him0=>refine An ?_;rfl
  case hsm0=>kernel_rfl
  case hfm0=>kernel_rfl
  case hrm0=>kernel_rfl
  case hQm0=>exact fun _ _ _ h=>h
  case hym0=>(refine Or.inl ⟨by rfl,?_⟩;intro w hSw;go_simp;try with_reducible rfl)
  case hSm0=>assumption
  try simp only[Act.put,Sa,Sb,Sc]
  refine wpAnyH_take (i:=1) (oi:=?oim1) (v:=?vm1) ?him1 ?hsm1 ?hfm1 ?hrm1 ?hQm1 ?hym1 ?hSm1 ?_;case him1=>refine An ?_;rfl
  case hsm1=>kernel_rfl
  case hfm1=>kernel_rfl
  case hrm1=>kernel_rfl
  case hQm1=>exact fun _ _ _ h=>h
  case hym1=>(refine Or.inl ⟨by rfl,?_⟩;intro w hSw;go_simp;try with_reducible rfl)
  case hSm1=>assumption
  try simp only[Act.put,Sa,Sb,Sc]
  refine wpAnyH_take (i:=2) (oi:=?oim2) (v:=?vm2) ?him2 ?hsm2 ?hfm2 ?hrm2 ?hQm2 ?hym2 ?hSm2 ?_;case him2=>refine An ?_;rfl
  case hsm2=>kernel_rfl
  case hfm2=>kernel_rfl
  case hrm2=>kernel_rfl
  case hQm2=>exact fun _ _ _ h=>h
  case hym2=>(refine Or.inl ⟨by rfl,?_⟩;intro w hSw;go_simp;try with_reducible rfl)
  case hSm2=>assumption
  try simp only[Act.put,Sa,Sb,Sc]
  refine wpAnyH_take (i:=3) (oi:=?oim3) (v:=?vm3) ?him3 ?hsm3 ?hfm3 ?hrm3 ?hQm3 ?hym3 ?hSm3 ?_;case him3=>refine An ?_;rfl
  case hsm3=>kernel_rfl
  case hfm3=>kernel_rfl
  case hrm3=>kernel_rfl
  case hQm3=>exact fun _ _ _ h=>h
  case hym3=>(refine Or.inl ⟨by rfl,?_⟩;intro w hSw;go_simp;try with_reducible rfl)
  case hSm3=>assumption
  try simp only[Act.put,Sa,Sb,Sc]
  refine wpAnyH_take (i:=4) (oi:=?oim4) (v:=?vm4) ?him4 ?hsm4 ?hfm4 ?hrm4 ?hQm4 ?hym4 ?hSm4 ?_;case him4=>refine An ?_;rfl
  case hsm4=>kernel_rfl
  case hfm4=>kernel_rfl
  case hrm4=>kernel_rfl
  case hQm4=>exact fun _ _ _ h=>h
  case hym4=>(refine Or.inl ⟨by rfl,?_⟩;intro w hSw;go_simp;try with_reducible rfl)
  case hSm4=>assumption
  try simp only[Act.put,Sa,Sb,Sc]
  refine wpAnyH_take (i:=5) (oi:=?oim5) (v:=?vm5) ?him5 ?hsm5 ?hfm5 ?hrm5 ?hQm5 ?hym5 ?hSm5 ?_;case him5=>refine An ?_;rfl
  case hsm5=>kernel_rfl
  case hfm5=>kernel_rfl
  case hrm5=>kernel_rfl
  case hQm5=>exact fun _ _ _ h=>h
  case hym5=>(refine Or.inl ⟨by rfl,?_⟩;intro w hSw;go_simp;try with_reducible rfl)
  case hSm5=>assumption
  try simp only[Act.put,Sa,Sb,Sc]
  refine wpAnyH_take (i:=6) (oi:=?oim6) (v:=?vm6) ?him6 ?hsm6 ?hfm6 ?hrm6 ?hQm6 ?hym6 ?hSm6 ?_;case him6=>refine An ?_;rfl
  case hsm6=>kernel_rfl
  case hfm6=>kernel_rfl
  case hrm6=>kernel_rfl
  case hQm6=>exact fun _ _ _ h=>h
  case hym6=>(refine Or.inl ⟨by rfl,?_⟩;intro w hSw;go_simp;try with_reducible rfl)
  case hSm6=>assumption
  try simp only[Act.put,Sa,Sb,Sc]
  refine wpAnyH_take (i:=7) (oi:=?oim7) (v:=?vm7) ?him7 ?hsm7 ?hfm7 ?hrm7 ?hQm7 ?hym7 ?hSm7 ?_;case him7=>refine An ?_;rfl
  case hsm7=>kernel_rfl
  case hfm7=>kernel_rfl
  case hrm7=>kernel_rfl
  case hQm7=>exact fun _ _ _ h=>h
  case hym7=>(refine Or.inl ⟨by rfl,?_⟩;intro w hSw;go_simp;try with_reducible rfl)
  case hSm7=>assumption
  try simp only[Act.put,Sa,Sb,Sc]
  refine wpAnyH_take (i:=8) (oi:=?oim8) (v:=?vm8) ?him8 ?hsm8 ?hfm8 ?hrm8 ?hQm8 ?hym8 ?hSm8 ?_;case him8=>refine An ?_;rfl
  case hsm8=>kernel_rfl
  case hfm8=>kernel_rfl
  case hrm8=>kernel_rfl
  case hQm8=>exact fun _ _ _ h=>h
  case hym8=>(refine Or.inl ⟨by rfl,?_⟩;intro w hSw;go_simp;try with_reducible rfl)
  case hSm8=>assumption
  try simp only[Act.put,Sa,Sb,Sc]
  refine wpAnyH_take (i:=9) (oi:=?oim9) (v:=?vm9) ?him9 ?hsm9 ?hfm9 ?hrm9 ?hQm9 ?hym9 ?hSm9 ?_;case him9=>refine An ?_;rfl
  case hsm9=>kernel_rfl
  case hfm9=>kernel_rfl
  case hrm9=>kernel_rfl
  case hQm9=>exact fun _ _ _ h=>h
  case hym9=>(refine Or.inl ⟨by rfl,?_⟩;intro w hSw;go_simp;try with_reducible rfl)
  case hSm9=>assumption
  try simp only[Act.put,Sa,Sb,Sc]
  refine wpAnyH_ready (rs:=[10]) (by kernel_rfl) (by simp) ?_;refine AllReadyH.cons (o:=?oM) ?hoM (fun K hK=>?_) AllReadyH.nil;case hoM=>refine An ?_;rfl
  go_simp
  go_wp2_with fail
  refine hK.out _ _ ⟨(Bc hX5.out.s 0).trans rfl,(Bc hX5.out.s 3).trans rfl⟩ (fun hHeldM=>?_);try simp only[Act.put,Sa,Sb,Sc]
  refine wpAnyH_done (by kernel_rfl) ?_ _;go_wp2;go_ret;refine⟨rfl,_,v1,v2,hX5.out,⟨?_,?_,fun k h=>.inl h,fun k h=>.inl h,fun k h=>.inl h⟩⟩
  ·exact((Bd hB).mono hb0).grown hg.out (Nat.le_trans hb0 (Bd hB).size) (fun k hk=>by cases hk;exact hX.out.bb)
  ·intro k hk h1 h2 _ _ _;exact(hg.out.block k (Nat.lt_of_lt_of_le hk (Bd hB).size) (fun e=>h2 (Option.some.inj e))).trans ((Bd hB).block k hk)
theorem S2(W:World)(base gx bm:Nat)(v0 v1 v2:Value)(x:Src)(s:List UInt8)(n:Int)(he:Env W)(hX:DK W base gx bm v0 v1 v2 x)(hs:s.length≤90000)(hb0:base≤W.heap.size)
  (hend:s.getLast?=some 10)(hnot:¬(s.dropLast.getLast?=some 58∧Cp s.dropLast.dropLast=true))(hbad:(Gt s.dropLast).2.2=false∨64≤x.l.length) :
  Calls Tryz.prog 62 #[.pointer (some ⟨gx,0,none⟩),.string ⟨s.toArray⟩,.int .i64 n] W fun e W1=>e=.returned (.int .i64 (Cv x s n).2) ∧
   ∃ u0 u1 u2,DK W1 base gx bm u0 u1 u2 (Cv x s n).1∧Bx W W1 base gx bm v0 v1 v2 u0 u1 u2:=by
 have hF:Cv x s n=if (Gt s.dropLast).2.2=false then (x,8) else if 64≤x.l.length then (x,9) else
   ({x with l:=x.l++[(Gt s.dropLast).1],names:=x.names++[(Gt s.dropLast).2.1],rows:=x.rows++[n]},0):=by
  unfold Cv;rw[if_neg (by rw[hend];simp)];dsimp only;rw[if_neg hnot]
 generalize Cv x s n=fin at hF ⊢;have hl1:s.dropLast.length≤90000:=by simp;omega
 have C1:=fun W'=>E0 s 10 (by omega) W'
 have C2:=fun W'=>E0 s.dropLast 58 (by omega) W'
 have C3:=fun W'=>FA s.dropLast.dropLast W' (by simp;omega)
 have C4:=fun(W':World) (heW:Env W')=>MO s.dropLast W' heW hl1
 have hc1:Fy s 10=(s.dropLast,true):=by unfold Fy;rw[if_pos hend]
 rw[hc1]at C1;generalize s.dropLast=s1 at *;generalize Gt s1=r at *;obtain⟨⟨op,d,s',t,u,a,k,q⟩,tl,ok⟩:=r;dsimp only at hF hbad C4;dsimp only[In.v]at C4;obtain⟨A,c,rfl⟩:∃ A c,v0=.slice A x.l.length c:=by
  rcases hX.r0.2 with ⟨rfl,h0⟩ |⟨g,cap,cur,rfl,_⟩
  ·exact⟨none,0,by rw[h0]⟩
  ·exact⟨_,_,rfl⟩
 replace C1:=Az C1;replace C4:=Az C4;replace hX:=Az hX;replace hF:=Az hF;clear hc1 hend;by_cases hcol:s1.getLast?=some 58
 ·have hnm:Cp s1.dropLast=false:=by simpa using fun h=>hnot ⟨hcol,h⟩
  have hc2:Fy s1 58=(s1.dropLast,true):=by unfold Fy;rw[if_pos hcol]
  rw[hc2]at C2;rw[hnm]at C3;replace C2:=Az C2;replace C3:=Az C3;clear hc2 hnm hcol hnot;go_enter Tryz.func62,Tryz.ntmps62;go_wp2_with fail
  refine(C1.out _).mono ?_;rintro e w1 ⟨rfl,hb1⟩;go_wp2_with fail
  refine(C2.out _).mono ?_;rintro e w2 ⟨rfl,hb2⟩;go_wp2_with fail
  refine(C3.out _).mono ?_;rintro e w3 ⟨rfl,hb3⟩;have hB:=Az ((hb1.trans (hb2.mono hb1.size)).trans (hb3.mono (Nat.le_trans hb1.size hb2.size)));clear hb1 hb2 hb3 C1 C2 C3;go_wp2_with fail
  refine(C4.out _ (he.below hB.out)).mono ?_;rintro e w4 ⟨rfl,hb4⟩;have hB4:=Az ((hB.out.trans (hb4.mono hB.out.size)).alloc (hB.out.trans (hb4.mono hB.out.size)).size (.cells (In.cs ⟨op,d,s',t,u,a,k,q⟩) 104));have hX4:=Az (hX.out.keep hB4.out);clear hB hb4 C4 hX;cases ok with
  |false =>
   obtain rfl:fin=(x,8):=by rw[hF.out];rfl
   go_wp2;go_ret;exact⟨rfl,_,v1,v2,hX4.out,.CD hB4.out hb0⟩
  |true =>
   obtain rfl:fin=(x,9):=by rw[hF.out,if_neg (by simp),if_pos (hbad.resolve_left (by simp))]
   have c0:(w4.alloc (.cells (In.cs ⟨op,d,s',t,u,a,k,q⟩) 104)).cell? ⟨gx,0,none⟩=some (.slice A x.l.length c):=(Bc hX4.out.s 0).trans rfl;have h64:decide (64≤(x.l.length:Int))=true:=decide_eq_true (by have:=hbad.resolve_left (by simp);omega);have h64':64≤x.l.length:=hbad.resolve_left (by simp);simp only[In.cs]at c0;go_wp2;go_ret;exact⟨rfl,_,v1,v2,hX4.out,.CD hB4.out hb0⟩
 ·have hc2:Fy s1 58=(s1,false):=by unfold Fy;rw[if_neg hcol]
  rw[hc2]at C2;replace C2:=Az C2;clear hc2 hcol hnot C3;go_enter Tryz.func62,Tryz.ntmps62;go_wp2_with fail
  refine(C1.out _).mono ?_;rintro e w1 ⟨rfl,hb1⟩;go_wp2_with fail
  refine(C2.out _).mono ?_;rintro e w2 ⟨rfl,hb2⟩;have hB:=Az (hb1.trans (hb2.mono hb1.size));clear hb1 hb2 C1 C2;go_wp2_with fail
  refine(C4.out _ (he.below hB.out)).mono ?_;rintro e w4 ⟨rfl,hb4⟩;have hB4:=Az ((hB.out.trans (hb4.mono hB.out.size)).alloc (hB.out.trans (hb4.mono hB.out.size)).size (.cells (In.cs ⟨op,d,s',t,u,a,k,q⟩) 104));have hX4:=Az (hX.out.keep hB4.out);clear hB hb4 C4 hX;cases ok with
  |false =>
   obtain rfl:fin=(x,8):=by rw[hF.out];rfl
   go_wp2;go_ret;exact⟨rfl,_,v1,v2,hX4.out,.CD hB4.out hb0⟩
  |true =>
   obtain rfl:fin=(x,9):=by rw[hF.out,if_neg (by simp),if_pos (hbad.resolve_left (by simp))]
   have c0:(w4.alloc (.cells (In.cs ⟨op,d,s',t,u,a,k,q⟩) 104)).cell? ⟨gx,0,none⟩=some (.slice A x.l.length c):=(Bc hX4.out.s 0).trans rfl;have h64:decide (64≤(x.l.length:Int))=true:=decide_eq_true (by have:=hbad.resolve_left (by simp);omega);have h64':64≤x.l.length:=hbad.resolve_left (by simp);simp only[In.cs]at c0;go_wp2;go_ret;exact⟨rfl,_,v1,v2,hX4.out,.CD hB4.out hb0⟩
theorem Bx.keep{W W1 W2:World}{base gx bm:Nat}{v0 v1 v2 u0 u1 u2:Value}(h:Bx W W1 base gx bm v0 v1 v2 u0 u1 u2)(hb:Below W1.heap.size W1 W2)(hs:base≤W1.heap.size):Bx W W2 base gx bm v0 v1 v2 u0 u1 u2 :=
 ⟨h.b.trans (hb.mono hs),fun k hk h1 h2 h3 h4 h5=>(hb.block k (Nat.lt_of_lt_of_le hk h.b.size)).trans (h.k k hk h1 h2 h3 h4 h5),h.n0,h.n1,h.n2⟩
theorem Bx.ZI{W W1 W2:World}{base gx bm:Nat}{v0 v1 v2 u0 u1 u2 u:Value}(h:Bx W W1 base gx bm v0 v1 v2 u0 u1 u2)(hg:W1.grownBy W2 u0.ownBlock)(ho:∀ k,u0.ownBlock=some k→base≤k)(ha:u.ownBlock=u0.ownBlock∨u.ownBlock=some W1.heap.size)(hs:base≤W1.heap.size):Bx W W2 base gx bm v0 v1 v2 u u1 u2 :=
 ⟨h.b.grown hg hs ho,fun k hk h1 h2 h3 h4 h5=>(hg.block k (Nat.lt_of_lt_of_le hk h.b.size) (fun e=>(h.n0 k e.symm).elim (fun e'=>h3 e'.symm) (fun e'=>absurd hk (Nat.not_lt.2 e')))).trans (h.k k hk h1 h2 h3 h4 h5),
  fun k hk=>ha.elim (fun e=>h.n0 k (e▸hk)) (fun e=>.inr (by rw[e]at hk;cases hk;exact h.b.size)),h.n1,h.n2⟩
theorem Bx.ZJ{W W1 W2:World}{base gx bm:Nat}{v0 v1 v2 u0 u1 u2 u:Value}(h:Bx W W1 base gx bm v0 v1 v2 u0 u1 u2)(hg:W1.grownBy W2 u1.ownBlock)(ho:∀ k,u1.ownBlock=some k→base≤k)(ha:u.ownBlock=u1.ownBlock∨u.ownBlock=some W1.heap.size)(hs:base≤W1.heap.size):Bx W W2 base gx bm v0 v1 v2 u0 u u2 :=
 ⟨h.b.grown hg hs ho,fun k hk h1 h2 h3 h4 h5=>(hg.block k (Nat.lt_of_lt_of_le hk h.b.size) (fun e=>(h.n1 k e.symm).elim (fun e'=>h4 e'.symm) (fun e'=>absurd hk (Nat.not_lt.2 e')))).trans (h.k k hk h1 h2 h3 h4 h5),
  h.n0,fun k hk=>ha.elim (fun e=>h.n1 k (e▸hk)) (fun e=>.inr (by rw[e]at hk;cases hk;exact h.b.size)),h.n2⟩
theorem Bx.ZK{W W1 W2:World}{base gx bm:Nat}{v0 v1 v2 u0 u1 u2 u:Value}(h:Bx W W1 base gx bm v0 v1 v2 u0 u1 u2)(hg:W1.grownBy W2 u2.ownBlock)(ho:∀ k,u2.ownBlock=some k→base≤k)(ha:u.ownBlock=u2.ownBlock∨u.ownBlock=some W1.heap.size)(hs:base≤W1.heap.size):Bx W W2 base gx bm v0 v1 v2 u0 u1 u :=
 ⟨h.b.grown hg hs ho,fun k hk h1 h2 h3 h4 h5=>(hg.block k (Nat.lt_of_lt_of_le hk h.b.size) (fun e=>(h.n2 k e.symm).elim (fun e'=>h5 e'.symm) (fun e'=>absurd hk (Nat.not_lt.2 e')))).trans (h.k k hk h1 h2 h3 h4 h5),
  h.n0,h.n1,fun k hk=>ha.elim (fun e=>h.n2 k (e▸hk)) (fun e=>.inr (by rw[e]at hk;cases hk;exact h.b.size))⟩
theorem Bx.set{W W1:World}{base gx bm:Nat}{v0 v1 v2 u0 u1 u2:Value}(h:Bx W W1 base gx bm v0 v1 v2 u0 u1 u2)(hg:base≤gx)(j:Nat)(x:Value):Bx W (W1.setCell ⟨gx,j,none⟩ x) base gx bm v0 v1 v2 u0 u1 u2 :=
 ⟨h.b.setCell hg x,fun k hk h1 h2 h3 h4 h5=>(Below.heap_setCell W1 ⟨gx,j,none⟩ x k h1).trans (h.k k hk h1 h2 h3 h4 h5),h.n0,h.n1,h.n2⟩
structure Ml (W0 W:World) (base gx bm b:Nat) (o0 o1 o2 r0 r1 r2:Value) (l:List In) (names:List (List UInt8)) (rows:List Int) (L:List (List UInt8×Nat)) (i:In):Prop where
 s:W.heap[gx]?=some (.cells #[o0,o1,o2,.map (some bm)] 97 (0,0))
 e:W.heap[b]?=some (.cells i.cs 104 (0,0))
 q0:Cw W base r0 l
 q1:E7 W base r1 names
 q2:Bo W base r2 rows
 m:FT W bm L
 gb:base≤gx
 bb:base≤bm
 n0:∀ k,r0.ownBlock=some k→k≠b
 K:Bx W0 W base gx bm o0 o1 o2 r0 r1 r2
section
variable {W0 W W1:World} {base gx bm b:Nat} {o0 o1 o2 r0 r1 r2 u:Value} {l:List In} {names:List (List UInt8)} {rows:List Int} {L:List (List UInt8×Nat)} {i y:In} {z:List UInt8} {n:Int}
theorem Ml.XU(h:Ml W0 W base gx bm b o0 o1 o2 r0 r1 r2 l names rows L i):base≤W.heap.size:=Nat.le_trans h.gb (Nat.le_of_lt (Bl h.s))
theorem Ml.keep(h:Ml W0 W base gx bm b o0 o1 o2 r0 r1 r2 l names rows L i)(hb:Below W.heap.size W W1):Ml W0 W1 base gx bm b o0 o1 o2 r0 r1 r2 l names rows L i :=
 ⟨Bk hb h.s,Bk hb h.e,Om h.q0 (fun k hk=>hb.block k (Ol h.q0 k hk)),Om h.q1 (fun k hk=>hb.block k (Ol h.q1 k hk)),h.q2.keep hb,h.m.keep (hb.block bm h.m.lt),h.gb,h.bb,h.n0,h.K.keep hb h.XU⟩
theorem Cl{W W1:World}{base n size n' size':Nat}{e e':TypeId}{v v':Value}{xs xs':List Value}(h:W.ownsRow base e size v n xs)(h':W.ownsRow base e' size' v' n' xs')(hne:e'≠e)(hg:W.grownBy W1 v'.ownBlock):W1.ownsRow base e size v n xs :=
 Om h fun k hk=>by
  obtain⟨cells,hc⟩:=Dy h k hk;exact hg.block k (Bl hc) (Oa h' hc hne)
theorem AB{W:World}{base n size:Nat}{e:TypeId}{v:Value}{xs:List Value}(h:W.ownsRow base e size v n xs):∃ A m c,v=.slice A m c:=by
 rcases h.2 with ⟨rfl,h0⟩ |⟨g,cap,cur,rfl,_⟩
 ·exact⟨_,_,_,rfl⟩
 ·exact⟨_,_,_,rfl⟩
theorem Oz{W W1:World}{bm base n size:Nat}{e:TypeId}{v:Value}{xs:List Value}(h:FT W bm L)(h':W.ownsRow base e size v n xs)(hg:W.grownBy W1 v.ownBlock):FT W1 bm L :=
 h.keep (hg.block bm h.lt (fun e1=>by
  obtain⟨cells,hc⟩:=Dy h' bm e1.symm;exact h.ne hc rfl))
theorem Ml.a0(h:Ml W0 W base gx bm b o0 o1 o2 r0 r1 r2 l names rows L i)(hr:Cw W1 base u (l++[y]))(hg:W.grownBy W1 r0.ownBlock)(ha:u.ownBlock=r0.ownBlock∨u.ownBlock=some W.heap.size):Ml W0 W1 base gx bm b o0 o1 o2 u r1 r2 (l++[y]) names rows L i :=
 ⟨Bg h.s hg (Oa h.q0 h.s (by decide)),Bg h.e hg (fun e=>h.n0 b e.symm rfl),hr,Cl h.q1 h.q0 (by decide) hg,Cl h.q2 h.q0 (by decide) hg,Oz h.m h.q0 hg,h.gb,h.bb,
  fun k hk=>ha.elim (fun e=>h.n0 k (e▸hk)) (fun e=>by rw[e]at hk;cases hk;exact Nat.ne_of_gt (Bl h.e)),h.K.ZI hg (fun k hk=>Ob h.q0 k hk) ha h.XU⟩
theorem Ml.a1(h:Ml W0 W base gx bm b o0 o1 o2 r0 r1 r2 l names rows L i)(hr:E7 W1 base u (names++[z]))(hg:W.grownBy W1 r1.ownBlock)(ha:u.ownBlock=r1.ownBlock∨u.ownBlock=some W.heap.size):Ml W0 W1 base gx bm b o0 o1 o2 r0 u r2 l (names++[z]) rows L i :=
 ⟨Bg h.s hg (Oa h.q1 h.s (by decide)),Bg h.e hg (Oa h.q1 h.e (by decide)),Cl h.q0 h.q1 (by decide) hg,hr,Cl h.q2 h.q1 (by decide) hg,Oz h.m h.q1 hg,h.gb,h.bb,h.n0,h.K.ZJ hg (fun k hk=>Ob h.q1 k hk) ha h.XU⟩
theorem Ml.a2(h:Ml W0 W base gx bm b o0 o1 o2 r0 r1 r2 l names rows L i)(hr:Bo W1 base u (rows++[n]))(hg:W.grownBy W1 r2.ownBlock)(ha:u.ownBlock=r2.ownBlock∨u.ownBlock=some W.heap.size):Ml W0 W1 base gx bm b o0 o1 o2 r0 r1 u l names (rows++[n]) L i :=
 ⟨Bg h.s hg (Oa h.q2 h.s (by decide)),Bg h.e hg (Oa h.q2 h.e (by decide)),Cl h.q0 h.q2 (by decide) hg,Cl h.q1 h.q2 (by decide) hg,hr,Oz h.m h.q2 hg,h.gb,h.bb,h.n0,h.K.ZK hg (fun k hk=>Ob h.q2 k hk) ha h.XU⟩
theorem Rs{W:World}{base gx n size:Nat}{e t:TypeId}{cs:Array Value}{v:Value}{xs:List Value}(h:W.ownsRow base e size v n xs)(hs:W.heap[gx]?=some (.cells cs t (0,0)))(hne:e≠t)(j:Nat)(x:Value):(W.setCell ⟨gx,j,none⟩ x).ownsRow base e size v n xs :=
 Om h fun k hk=>Below.heap_setCell W ⟨gx,j,none⟩ x k (fun e1=>Oa h hs hne (by rw[hk];exact congrArg some e1.symm))
theorem Ml.set(h:Ml W0 W base gx bm b o0 o1 o2 r0 r1 r2 l names rows L i)(j:Nat)(x:Value) :
  Cw (W.setCell ⟨gx,j,none⟩ x) base r0 l∧E7 (W.setCell ⟨gx,j,none⟩ x) base r1 names∧Bo (W.setCell ⟨gx,j,none⟩ x) base r2 rows∧FT (W.setCell ⟨gx,j,none⟩ x) bm L :=
 ⟨Rs h.q0 h.s (by decide) j x,Rs h.q1 h.s (by decide) j x,Rs h.q2 h.s (by decide) j x,h.m.keep (Below.heap_setCell W ⟨gx,j,none⟩ x bm (fun e=>h.m.ne h.s e.symm))⟩
theorem Ml.shut(h:Ml W0 W base gx bm b o0 o1 o2 r0 r1 r2 l names rows L i) :
  DK (((W.setCell ⟨gx,0,none⟩ r0).setCell ⟨gx,1,none⟩ r1).setCell ⟨gx,2,none⟩ r2) base gx bm r0 r1 r2 ⟨l,names,rows,L⟩:=by
 have s1:=Bs h.s 0 r0;have s2:=Bs s1 1 r1;have s3:=Bs s2 2 r2;have m1:=h.m.keep (Below.heap_setCell W ⟨gx,0,none⟩ r0 bm (fun e=>h.m.ne h.s e.symm));have m2:=m1.keep (Below.heap_setCell (W.setCell ⟨gx,0,none⟩ r0) ⟨gx,1,none⟩ r1 bm (fun e=>m1.ne s1 e.symm));have m3:=m2.keep (Below.heap_setCell ((W.setCell ⟨gx,0,none⟩ r0).setCell ⟨gx,1,none⟩ r1) ⟨gx,2,none⟩ r2 bm (fun e=>m2.ne s2 e.symm));exact⟨s3,Rs (Rs (Rs h.q0 h.s (by decide) 0 r0) s1 (by decide) 1 r1) s2 (by decide) 2 r2,Rs (Rs (Rs h.q1 h.s (by decide) 0 r0) s1 (by decide) 1 r1) s2 (by decide) 2 r2,
  Rs (Rs (Rs h.q2 h.s (by decide) 0 r0) s1 (by decide) 1 r1) s2 (by decide) 2 r2,m3,h.gb,h.bb⟩
theorem Ml.ZH(h:Ml W0 W base gx bm b o0 o1 o2 r0 r1 r2 l names rows L i) :
 Bx W0 (((W.setCell ⟨gx,0,none⟩ r0).setCell ⟨gx,1,none⟩ r1).setCell ⟨gx,2,none⟩ r2) base gx bm o0 o1 o2 r0 r1 r2:=((h.K.set h.gb 0 r0).set h.gb 1 r1).set h.gb 2 r2
end
def ZG(gx b:Nat)(o0 o1 o2:Value)(i:In)(W:World):Prop :=
 W.cell? ⟨gx,0,none⟩=some o0∧W.cell? ⟨gx,1,none⟩=some o1∧W.cell? ⟨gx,2,none⟩=some o2 ∧
 W.cell? ⟨b,0,none⟩=some (.int .i64 i.op)∧W.cell? ⟨b,1,none⟩=some (.int .i64 i.d)∧W.cell? ⟨b,2,none⟩=some (.int .i64 i.s)∧W.cell? ⟨b,3,none⟩=some (.int .i64 i.t) ∧
 W.cell? ⟨b,4,none⟩=some (.int .i64 i.u)∧W.cell? ⟨b,5,none⟩=some (.int .i64 i.a)∧W.cell? ⟨b,6,none⟩=some (.int .u32 i.k)∧W.cell? ⟨b,7,none⟩=some (.int .i64 i.q)
theorem XZ{W0 W:World}{base gx bm b:Nat}{o0 o1 o2 r0 r1 r2:Value}{l:List In}{names:List (List UInt8)}{rows:List Int}{L:List (List UInt8×Nat)}{i:In}(h:Ml W0 W base gx bm b o0 o1 o2 r0 r1 r2 l names rows L i):ZG gx b o0 o1 o2 i W :=
 ⟨(Bc h.s 0).trans rfl,(Bc h.s 1).trans rfl,(Bc h.s 2).trans rfl,(Bc h.e 0).trans rfl,(Bc h.e 1).trans rfl,(Bc h.e 2).trans rfl,(Bc h.e 3).trans rfl,(Bc h.e 4).trans rfl,(Bc h.e 5).trans rfl,(Bc h.e 6).trans rfl,(Bc h.e 7).trans rfl⟩
section
variable {ops:Array Oper} {o:Oper} {a:Act} {K:Act→World→Prop} {Q:Exit→Act→World→Prop} {E:Prop} {W:World}
theorem Bw(W:World)(o:Obj):Below W.heap.size W (W.alloc o):=(Below.refl _ _).alloc (Nl _) o
theorem Ve(hgd:o.guard=none)(x:Operand)(ho:o.op=.buildSlice 34 1 #[(0,x)])(i:In)(hx:a.eval x=.agg i.cs)
  (h:∀ g W1,Below W.heap.size W W1→W1.heap[g]?=some (.cells i.cs 104 (0,0))→K (a.put o.dst (.slice (some ⟨g,0,none⟩) 1 1)) W1) :
  if Region.wanted o (yielded ops a.tmps)=true then Oper.wp Tryz.prog o a W K Q else E:=by
 rw[if_pos (by simp[Region.wanted,hgd])];obtain⟨i9,hi,hz0,hz1,hz2⟩:=info_parts R5;refine wp_buildSlice 34 104 1 _ ho i.cs i9 (.agg In.zero.cs) Tryz.underlying34 hi hz0 (by rw[hz1];decide) (by rw[hz1];decide) ?_ (h _ _ (Bw W _) (Bv _ _));rw[hz1];simp only[List.map_toArray,List.map_cons,List.map_nil,hx];cases i
 kernel_rfl
theorem Vf(hgd:o.guard=none)(x:Operand)(ho:o.op=.buildSlice 85 1 #[(0,x)])(y:List UInt8)(hx:a.eval x=.string ⟨y.toArray⟩)
  (h:∀ g W1,Below W.heap.size W W1→W1.heap[g]?=some (.cells #[.string ⟨y.toArray⟩] 9 (0,0))→K (a.put o.dst (.slice (some ⟨g,0,none⟩) 1 1)) W1) :
  if Region.wanted o (yielded ops a.tmps)=true then Oper.wp Tryz.prog o a W K Q else E:=by
 rw[if_pos (by simp[Region.wanted,hgd])];obtain⟨i9,hi,hz0,hz1,hz2⟩:=info_parts NI;refine wp_buildSlice 85 9 1 _ ho #[.string ⟨y.toArray⟩] i9 (.string ⟨#[]⟩) Tryz.underlying85 hi hz0 (by rw[hz1];decide) (by rw[hz1];decide) ?_ (h _ _ (Bw W _) (Bv _ _));rw[hz1];simp only[List.map_toArray,List.map_cons,List.map_nil,hx]
 kernel_rfl
theorem T5(hgd:o.guard=none)(x:Operand)(ho:o.op=.buildSlice 27 1 #[(0,x)])(y:Int)(hx:a.eval x=.int .i64 y)
  (h:∀ g W1,Below W.heap.size W W1→W1.heap[g]?=some (.cells #[.int .i64 y] 3 (0,0))→K (a.put o.dst (.slice (some ⟨g,0,none⟩) 1 1)) W1) :
  if Region.wanted o (yielded ops a.tmps)=true then Oper.wp Tryz.prog o a W K Q else E:=by
 rw[if_pos (by simp[Region.wanted,hgd])];obtain⟨i9,hi,hz0,hz1,hz2⟩:=info_parts EA;refine wp_buildSlice 27 3 1 _ ho #[.int .i64 y] i9 (.int .i64 0) Tryz.underlying27 hi hz0 (by rw[hz1];decide) (by rw[hz1];decide) ?_ (h _ _ (Bw W _) (Bv _ _));rw[hz1];simp only[List.map_toArray,List.map_cons,List.map_nil,hx]
 kernel_rfl
theorem Gh(hgd:o.guard=none)(s x:Operand)(t:TypeId)(ho:o.op=.call {callee:=.builtin .append,args:=#[s,x],argTypes:=#[t,t]})
  (base:Nat)(e:TypeId)(i:TypeInfo)(z:Value)(size bytes:Nat)(ht:Tryz.prog.underlying t=some (.slice e))(hi:Tryz.prog.info? e=some i)(hz:i.zero=some z)
  (hsize:i.size=size)(hby:i.bytes=bytes)(hzs:z.cells.size=size)(hsz:0<size)
  (v:Value)(n:Nat)(xs:List Value)(hs:a.eval s=v)(hown:W.ownsRow base e size v n xs)
  (g:Nat)(cs:Array Value)(fr:Nat×Nat)(hx:a.eval x=.slice (some ⟨g,0,none⟩) 1 1)(hy:W.heap[g]?=some (.cells cs e fr))(hcs:cs.size=size)(h1:∀ u∈cs.toList,u.oneCell'=true)
  (hl:n≤1000000)(hbytes:bytes≤1000)(hb:base≤W.heap.size)
  (h:∀ v' W1,W1.ownsRow base e size v' (n+1) (xs++cs.toList)→W.grownBy W1 v.ownBlock→(v'.ownBlock=v.ownBlock∨v'.ownBlock=some W.heap.size)→K (a.put o.dst v') W1) :
  if Region.wanted o (yielded ops a.tmps)=true then Oper.wp Tryz.prog o a W K Q else E:=by
 rw[if_pos (by simp[Region.wanted,hgd])];have hm:(n+1)*bytes≤1000001*1000:=Nat.mul_le_mul (by omega) hbytes;obtain⟨v',w',hr,h2,h3,h4,h5⟩:=run_append_own_at (P:=Tryz.prog) W base t o.type e i z size bytes ht hi hz hsize hby hzs hsz v n xs hown ⟨g,0,none⟩ 1 1 cs.toList (by simpa using hcs) (World.news_of_block hy) h1 (by simp[maxLen];omega) (by omega) hb;unfold Oper.wp execOp;simp only[ho,resolve,invoke,builtin,Sem.run_bind,Sem.run_pure,Result.andThen_ok,List.map_toArray,List.map_cons,List.map_nil,hs,hx,hr];exact h _ _ h2 h3 h5
theorem Vg(hgd:o.guard=none)(s x:Operand)(ho:o.op=.call {callee:=.builtin .append,args:=#[s,x],argTypes:=#[34,34]})
  (base g:Nat)(y:In)(v:Value)(xs:List In)(hs:a.eval s=v)(hr:Cw W base v xs)(hx:a.eval x=.slice (some ⟨g,0,none⟩) 1 1)
  (hy:W.heap[g]?=some (.cells y.cs 104 (0,0)))(hl:xs.length≤1000000)(hb:base≤W.heap.size)
  (h:∀ v' W1,Cw W1 base v' (xs++[y])→W.grownBy W1 v.ownBlock→(v'.ownBlock=v.ownBlock∨v'.ownBlock=some W.heap.size)→K (a.put o.dst v') W1) :
  if Region.wanted o (yielded ops a.tmps)=true then Oper.wp Tryz.prog o a W K Q else E:=by
 obtain⟨i9,hi,hz0,hz1,hz2⟩:=info_parts R5;refine Gh hgd s x 34 ho base 104 i9 (.agg In.zero.cs) 8 64 Tryz.underlying34 hi hz0 hz1 hz2 rfl (by decide) v xs.length (By xs) hs hr g y.cs (0,0) hx hy rfl ?_ hl (by decide) hb ?_
 ·intro u hu;have:u∈y.cs.toList:=hu;simp[In.cs]at this;rcases this with rfl |rfl |rfl |rfl |rfl |rfl |rfl |rfl<;>rfl
 ·intro v' W1 h1 h2 h4;refine h v' W1 ?_ h2 h4;unfold Cw;rw[G7,List.length_append];exact h1
theorem Vh(hgd:o.guard=none)(s x:Operand)(ho:o.op=.call {callee:=.builtin .append,args:=#[s,x],argTypes:=#[85,85]})
  (base g:Nat)(y:List UInt8)(v:Value)(xs:List (List UInt8))(hs:a.eval s=v)(hr:E7 W base v xs)(hx:a.eval x=.slice (some ⟨g,0,none⟩) 1 1)
  (hy:W.heap[g]?=some (.cells #[.string ⟨y.toArray⟩] 9 (0,0)))(hl:xs.length≤1000000)(hb:base≤W.heap.size)
  (h:∀ v' W1,E7 W1 base v' (xs++[y])→W.grownBy W1 v.ownBlock→(v'.ownBlock=v.ownBlock∨v'.ownBlock=some W.heap.size)→K (a.put o.dst v') W1) :
  if Region.wanted o (yielded ops a.tmps)=true then Oper.wp Tryz.prog o a W K Q else E:=by
 obtain⟨i9,hi,hz0,hz1,hz2⟩:=info_parts NI;refine Gh hgd s x 85 ho base 9 i9 (.string ⟨#[]⟩) 1 16 Tryz.underlying85 hi hz0 hz1 hz2 rfl (by decide) v xs.length _ hs hr g #[.string ⟨y.toArray⟩] (0,0) hx hy rfl ?_ hl (by decide) hb ?_
 ·simp[Value.oneCell']
 ·intro v' W1 h1 h2 h4;refine h v' W1 ?_ h2 h4;unfold E7;rw[List.map_append,List.length_append];exact h1
theorem T6(hgd:o.guard=none)(s x:Operand)(ho:o.op=.call {callee:=.builtin .append,args:=#[s,x],argTypes:=#[27,27]})
  (base g:Nat)(y:Int)(v:Value)(xs:List Int)(hs:a.eval s=v)(hr:Bo W base v xs)(hx:a.eval x=.slice (some ⟨g,0,none⟩) 1 1)
  (hy:W.heap[g]?=some (.cells #[.int .i64 y] 3 (0,0)))(hl:xs.length≤1000000)(hb:base≤W.heap.size)
  (h:∀ v' W1,Bo W1 base v' (xs++[y])→W.grownBy W1 v.ownBlock→(v'.ownBlock=v.ownBlock∨v'.ownBlock=some W.heap.size)→K (a.put o.dst v') W1) :
  if Region.wanted o (yielded ops a.tmps)=true then Oper.wp Tryz.prog o a W K Q else E:=by
 obtain⟨i9,hi,hz0,hz1,hz2⟩:=info_parts EA;refine Gh hgd s x 27 ho base 3 i9 (.int .i64 0) 1 8 Tryz.underlying27 hi hz0 hz1 hz2 rfl (by decide) v xs.length _ hs hr g #[.int .i64 y] (0,0) hx hy rfl ?_ hl (by decide) hb ?_
 ·simp[Value.oneCell']
 ·intro v' W1 h1 h2 h4;refine h v' W1 ?_ h2 h4;unfold Bo;rw[List.map_append,List.length_append];exact h1
end
theorem TY(W:World)(base gx bm:Nat)(v0 v1 v2:Value)(x:Src)(s:List UInt8)(n:Int)(he:Env W)(hX:DK W base gx bm v0 v1 v2 x)(hs:s.length≤90000)(hb0:base≤W.heap.size)
  (hend:s.getLast?=some 10)(hnot:¬(s.dropLast.getLast?=some 58∧Cp s.dropLast.dropLast=true))(hgood:(Gt s.dropLast).2.2=true)(h64:x.l.length<64)(hnl:x.names.length=x.l.length)(Jg:x.rows.length=x.l.length) :
  Calls Tryz.prog 62 #[.pointer (some ⟨gx,0,none⟩),.string ⟨s.toArray⟩,.int .i64 n] W fun e W1=>e=.returned (.int .i64 (Cv x s n).2) ∧
   ∃ u0 u1 u2,DK W1 base gx bm u0 u1 u2 (Cv x s n).1∧Bx W W1 base gx bm v0 v1 v2 u0 u1 u2:=by
 have hF:Cv x s n=({x with l:=x.l++[(Gt s.dropLast).1],names:=x.names++[(Gt s.dropLast).2.1],rows:=x.rows++[n]},0):=by
  unfold Cv;rw[if_neg (by rw[hend];simp)];dsimp only;rw[if_neg hnot,hgood,if_neg (by simp),if_neg (by omega)]
 generalize Cv x s n=fin at hF ⊢;have hl1:s.dropLast.length≤90000:=by simp;omega
 have C1:=fun W'=>E0 s 10 (by omega) W'
 have C2:=fun W'=>E0 s.dropLast 58 (by omega) W'
 have C4:=fun(W':World) (heW:Env W')=>MO s.dropLast W' heW hl1
 have hc1:Fy s 10=(s.dropLast,true):=by unfold Fy;rw[if_pos hend]
 rw[hc1]at C1;have hc2:∃ p is,Fy s.dropLast 58=(p,is)∧(is=true→p.length≤90000∧Cp p=false):=by
  by_cases hcol:s.dropLast.getLast?=some 58
  ·refine⟨s.dropLast.dropLast,true,by unfold Fy;rw[if_pos hcol],fun _=>⟨by simp;omega,?_⟩⟩
   simpa using fun h=>hnot ⟨hcol,h⟩
  ·exact⟨s.dropLast,false,by unfold Fy;rw[if_neg hcol],fun h=>by cases h⟩
 obtain⟨p,is,hc2,hp⟩:=hc2;rw[hc2]at C2;generalize s.dropLast=s1 at *;generalize Gt s1=r at *;obtain⟨⟨op,d,s',t,u,a,k,q⟩,tl,ok⟩:=r;dsimp only at hF hgood C4;subst hgood;dsimp only[In.v]at C4;obtain⟨A,c,rfl⟩:∃ A c,v0=.slice A x.l.length c:=by
  rcases hX.r0.2 with ⟨rfl,h0⟩ |⟨g,cap,cur,rfl,_⟩
  ·exact⟨none,0,by rw[h0]⟩
  ·exact⟨_,_,rfl⟩
 replace C1:=Az C1;replace C2:=Az C2;replace C4:=Az C4;replace hX:=Az hX;replace hF:=Az hF;replace hp:=Az hp;have hcut0:(n:Int)=n:=rfl;clear hc1 hc2 hend hnot hcut0;go_enter Tryz.func62,Tryz.ntmps62;go_wp2_with fail
 refine(C1.out _).mono ?_;rintro e w1 ⟨rfl,hb1⟩;go_wp2_with fail
 refine(C2.out _).mono ?_;rintro e w2 ⟨rfl,hb2⟩;have hB:=Az (hb1.trans (hb2.mono hb1.size));clear hb1 hb2 C1 C2;go_upto_region 5 with fail
 go_cut [31] (fun v wx=>v=.bool false∧Af (Below W.heap.size W wx))
 case first =>
  cases is with
  |false =>
   go_wp2;go_meet
   exact⟨rfl,hB⟩
  |true =>
   have C3:=FA p w2 (by have:=(hp.out rfl).1;omega);rw[(hp.out rfl).2]at C3;replace C3:=Az C3;go_wp2_with fail
   refine C3.out.mono ?_;rintro e w3 ⟨rfl,hb3⟩;go_wp2;go_meet
   exact⟨rfl,⟨hB.out.trans (hb3.mono hB.out.size)⟩⟩
 case rest =>
  obtain⟨rfl,hB⟩:=hcut;go_wp2_with fail
  refine(C4.out _ (he.below hB.out)).mono ?_;rintro e w4 ⟨rfl,hb4⟩;have hB4:=Az ((hB.out.trans (hb4.mono hB.out.size)).alloc (hB.out.trans (hb4.mono hB.out.size)).size (.cells (In.cs ⟨op,d,s',t,u,a,k,q⟩) 104));have hX4:=Az (hX.out.keep hB4.out);have hE4:=Az (Bv w4 (.cells (In.cs ⟨op,d,s',t,u,a,k,q⟩) 104));have hle:=(hB.out.trans (hb4.mono hB.out.size)).size;have hM:=Az (show Ml W (w4.alloc (.cells (In.cs ⟨op,d,s',t,u,a,k,q⟩) 104)) base gx bm w4.heap.size (.slice A x.l.length c) v1 v2 (.slice A x.l.length c) v1 v2 x.l x.names x.rows x.labels ⟨op,d,s',t,u,a,k,q⟩ from
   ⟨hX4.out.s,hE4.out,hX4.out.r0,hX4.out.r1,hX4.out.r2,hX4.out.m,hX4.out.gb,hX4.out.bb,fun k hk=>Nat.ne_of_lt (Nat.lt_of_lt_of_le (Ol hX.out.r0 k hk) hle),.CD hB4.out hb0⟩)
  clear hX4 hE4 hle hB hB4 hb4 C4;have c0:(w4.alloc (.cells (In.cs ⟨op,d,s',t,u,a,k,q⟩) 104)).cell? ⟨gx,0,none⟩=some (.slice A x.l.length c):=(Bc hM.out.s 0).trans rfl;have h64a:decide (64≤(x.l.length:Int))=false:=decide_eq_false (by omega);have h64b:¬64≤x.l.length:=by omega
  obtain⟨b,hb⟩:∃ b,w4.heap.size=b:=⟨_,rfl⟩
  obtain⟨w5,hw5⟩:∃ y,w4.alloc (.cells (In.cs ⟨op,d,s',t,u,a,k,q⟩) 104)=y:=⟨_,rfl⟩
  rw[hw5,hb]at hM;rw[hw5]at c0;simp only[In.cs]at hw5;go_upto_region 16 with fail
  try rw[hw5]
  try rw[hb]
  clear hw5 hb c0;have hS:=XZ (hM.out.keep (Bd (Below.refl _ _)));refine Aw [26] (S:=ZG gx b (.slice A x.l.length c) v1 v2 ⟨op,d,s',t,u,a,k,q⟩) (by kernel_rfl) hS (fun hS0=>?_);replace hM:=hM.out.keep (Bd (Below.refl _ _));generalize w5.drew=w5 at *;have hrow:x.l.length≤1000000:=by omega
  have hrow1:x.names.length≤1000000:=by omega
  have hrow2:x.rows.length≤1000000:=by omega
  clear h64 h64a h64b hnl Jg he;refine tY 0 (fun _=>by assumption) ?_;refine tY 1 (fun _=>by assumption) ?_;refine tY 2 (fun _=>by assumption) ?_;refine tY 3 (fun _=>by assumption) ?_;refine tY 4 (fun _=>by assumption) ?_;refine tY 5 (fun _=>by assumption) ?_;refine tL 6 (by assumption) ?_;refine tL 7 (by assumption) ?_;refine tY 10 (fun _=>by assumption) ?_;refine tY 11 (fun _=>by assumption) ?_;refine tY 12 (fun _=>by assumption) ?_;refine tL 13 (by assumption) ?_;refine tY 14 (fun _=>by assumption) ?_;refine tY 17 (fun _=>by assumption) ?_;refine tY 18 (fun _=>by assumption) ?_;refine tY 19 (fun _=>by assumption) ?_;refine tL 20 (by assumption) ?_;refine tY 21 (fun _=>by assumption) ?_;iterate 6
   all_goals first
    |refine Ab (rs:=[8,15,22]) (by decide +kernel) (by simp) (Aa.cons (An rfl) (fun K hK=>?_) (Aa.cons (An rfl) (fun K hK=>?_) (Aa.cons (An rfl) (fun K hK=>?_) Aa.nil)))
    |refine Ab (rs:=[9,15,22]) (by decide +kernel) (by simp) (Aa.cons (An rfl) (fun K hK=>?_) (Aa.cons (An rfl) (fun K hK=>?_) (Aa.cons (An rfl) (fun K hK=>?_) Aa.nil)))
    |refine Ab (rs:=[8,15]) (by decide +kernel) (by simp) (Aa.cons (An rfl) (fun K hK=>?_) (Aa.cons (An rfl) (fun K hK=>?_) Aa.nil))
    |refine Ab (rs:=[8,22]) (by decide +kernel) (by simp) (Aa.cons (An rfl) (fun K hK=>?_) (Aa.cons (An rfl) (fun K hK=>?_) Aa.nil))
    |refine Ab (rs:=[9,15]) (by decide +kernel) (by simp) (Aa.cons (An rfl) (fun K hK=>?_) (Aa.cons (An rfl) (fun K hK=>?_) Aa.nil))
    |refine Ab (rs:=[9,22]) (by decide +kernel) (by simp) (Aa.cons (An rfl) (fun K hK=>?_) (Aa.cons (An rfl) (fun K hK=>?_) Aa.nil))
    |refine Ab (rs:=[15,22]) (by decide +kernel) (by simp) (Aa.cons (An rfl) (fun K hK=>?_) (Aa.cons (An rfl) (fun K hK=>?_) Aa.nil))
    |refine Ab (rs:=[16,22]) (by decide +kernel) (by simp) (Aa.cons (An rfl) (fun K hK=>?_) (Aa.cons (An rfl) (fun K hK=>?_) Aa.nil))
    |refine Ab (rs:=[8]) (by decide +kernel) (by simp) (Aa.cons (An rfl) (fun K hK=>?_) Aa.nil)
    |refine Ab (rs:=[9]) (by decide +kernel) (by simp) (Aa.cons (An rfl) (fun K hK=>?_) Aa.nil)
    |refine Ab (rs:=[15]) (by decide +kernel) (by simp) (Aa.cons (An rfl) (fun K hK=>?_) Aa.nil)
    |refine Ab (rs:=[16]) (by decide +kernel) (by simp) (Aa.cons (An rfl) (fun K hK=>?_) Aa.nil)
    |refine Ab (rs:=[22]) (by decide +kernel) (by simp) (Aa.cons (An rfl) (fun K hK=>?_) Aa.nil)
    |refine Ab (rs:=[23]) (by decide +kernel) (by simp) (Aa.cons (An rfl) (fun K hK=>?_) Aa.nil)
   all_goals first
    |(refine Ve rfl (.tmp 75) rfl ⟨op,d,s',t,u,a,k,q⟩ rfl (fun g8 w1 hb hy=>?_);replace hM:=hM.keep hb;(try replace hg15:=Bk hb hg15);(try replace hg22:=Bk hb hg22);have hg8:=hy;clear hb hy)
    |(refine Vf rfl (.tmp 82) rfl tl rfl (fun g15 w1 hb hy=>?_);replace hM:=hM.keep hb;(try replace hg8:=Bk hb hg8);(try replace hg22:=Bk hb hg22);have hg15:=hy;clear hb hy)
    |(refine T5 rfl (.tmp 89) rfl n rfl (fun g22 w1 hb hy=>?_);replace hM:=hM.keep hb;(try replace hg8:=Bk hb hg8);(try replace hg15:=Bk hb hg15);have hg22:=hy;clear hb hy)
    |(refine Vg rfl (.tmp 74) (.tmp 76) rfl base g8 ⟨op,d,s',t,u,a,k,q⟩ _ x.l rfl hM.q0 rfl hg8 hrow hM.XU (fun u0 w1 hr hg ha=>?_);(try replace hg15:=Bg hg15 hg (Oa hM.q0 hg15 (by decide)));(try replace hg22:=Bg hg22 hg (Oa hM.q0 hg22 (by decide)));replace hM:=hM.a0 hr hg ha;clear hr hg ha hg8)
    |(refine Vh rfl (.tmp 81) (.tmp 83) rfl base g15 tl _ x.names rfl hM.q1 rfl hg15 hrow1 hM.XU (fun u1 w1 hr hg ha=>?_);(try replace hg22:=Bg hg22 hg (Oa hM.q1 hg22 (by decide)));replace hM:=hM.a1 hr hg ha;clear hr hg ha hg15)
    |(refine T6 rfl (.tmp 88) (.tmp 90) rfl base g22 n _ x.rows rfl hM.q2 rfl hg22 hrow2 hM.XU (fun u2 wL hr hg ha=>?_);replace hM:=hM.a2 hr hg ha;clear hr hg ha hg22)
   all_goals refine hK.out _ _ (fun _=>XZ hM) (fun hSn=>?_)
   all_goals replace hS0:=hSn rfl
   all_goals clear hSn hK K
   all_goals try simp only[Act.put,Sa,Sb,Sc]
  all_goals (
   obtain⟨A0,n0,e0,rfl⟩:=AB hM.q0;obtain⟨A1,n1,e1,rfl⟩:=AB hM.q1;obtain⟨A2,n2,e2,rfl⟩:=AB hM.q2;have q0:wL.cell? ⟨gx,0,none⟩=some (.slice A x.l.length c):=(Bc hM.s 0).trans rfl;have f0:=Bf hM.s 0;have q1:wL.cell? ⟨gx,1,none⟩=some v1:=(Bc hM.s 1).trans rfl;have f1:=Bf hM.s 1;have q2:wL.cell? ⟨gx,2,none⟩=some v2:=(Bc hM.s 2).trans rfl;have f2:=Bf hM.s 2;have z0:gx<wL.heap.size:=Bl hM.s;replace hM:=Az hM;refine tY 24 (fun _=>by assumption) ?_;refine tY 25 (fun _=>by assumption) ?_;refine Ab (rs:=[26]) (by kernel_rfl) (by simp) ?_;refine Aa.cons (An rfl) (fun K hK=>?_) Aa.nil;go_simp
   go_wp2_with fail
   refine hK.out _ _ (fun h=>by cases h) (fun _=>?_);try simp only[Act.put,Sa,Sb,Sc]
   refine tY 27 (fun h=>by cases h) ?_;refine tY 28 (fun h=>by cases h) ?_;refine Ab (rs:=[29]) (by kernel_rfl) (by simp) ?_;refine Aa.cons (An rfl) (fun K hK=>?_) Aa.nil;go_simp
   go_wp2_with fail
   refine hK.out _ _ (fun h=>by cases h) (fun _=>?_);try simp only[Act.put,Sa,Sb,Sc]
   refine tY 30 (fun h=>by cases h) ?_;refine tY 31 (fun h=>by cases h) ?_;refine Ab (rs:=[32]) (by kernel_rfl) (by simp) ?_;refine Aa.cons (An rfl) (fun K hK=>?_) Aa.nil;go_simp
   go_wp2_with fail
   refine hK.out _ _ (fun h=>by cases h) (fun _=>?_);try simp only[Act.put,Sa,Sb,Sc]
   refine A4 (by kernel_rfl) ?_ _;go_wp2;go_ret;exact⟨by rw[hF.out];rfl,_,_,_,by rw[hF.out];exact hM.out.shut,hM.out.ZH⟩)
end
end Go.Proofs.YtnmahobjmpdkdaaGreatDoor
