/- Parts: AsmLine. -/
import Derived.Test.YtjjpiefgdggghaaGreatDoorZ02
import Derived.Test.YtjjpiefgdggghaaGreatDoorZ15
import Derived.Test.YtjjpiefgdggghaaGreatDoorZ10
import Derived.Test.YtjjpiefgdggghaaGreatDoorZ21
set_option linter.unusedVariables false
set_option linter.unusedSimpArgs false
set_option maxRecDepth 100000
set_option maxHeartbeats 40000000
namespace Go.Proofs.YtjjpiefgdggghaaGreatDoor
section
open Go.RowKit Go.Proofs.YtjjpiefgdggghaaGreatDoorW.PrintWords
structure AN (W W1:World) (base gx bm:Nat) (v0 v1 v2 u0 u1 u2:Value):Prop where
 b:Below base W W1
 k:∀ k,k<W.heap.size→k≠gx→k≠bm→some k≠v0.ownBlock→some k≠v1.ownBlock→some k≠v2.ownBlock→W1.heap[k]?=W.heap[k]?
 n0:∀ k,u0.ownBlock=some k→v0.ownBlock=some k∨W.heap.size≤k
 n1:∀ k,u1.ownBlock=some k→v1.ownBlock=some k∨W.heap.size≤k
 n2:∀ k,u2.ownBlock=some k→v2.ownBlock=some k∨W.heap.size≤k
theorem AN.Dm{W W1:World}{base gx bm:Nat}{v0 v1 v2:Value}(hb:Below W.heap.size W W1)(hs:base≤W.heap.size):AN W W1 base gx bm v0 v1 v2 v0 v1 v2 :=
 ⟨hb.mono hs,fun k hk _ _ _ _ _=>hb.block k hk,fun k h=>.inl h,fun k h=>.inl h,fun k h=>.inl h⟩
theorem DU.keep{W W1:World}{bm:Nat}{L:List (List UInt8×Nat)}(h:DU W bm L)(hk:W1.heap[bm]?=W.heap[bm]?):DU W1 bm L:=by
 obtain⟨n,D,⟨es,clock,hb,r⟩,hi,hn,hL⟩:=h;exact⟨n,D,⟨es,clock,hk.trans hb,r⟩,hi,hn,hL⟩
theorem DU.lt{W:World}{bm:Nat}{L:List (List UInt8×Nat)}(h:DU W bm L):bm<W.heap.size:=by
 obtain⟨n,D,⟨es,clock,hb,r⟩,_⟩:=h;exact Bl hb
theorem Cr.keep{W W1:World}{base gx bm:Nat}{v0 v1 v2:Value}{x:Src}(h:Cr W base gx bm v0 v1 v2 x)(hb:Below W.heap.size W W1):Cr W1 base gx bm v0 v1 v2 x :=
 ⟨Bk hb h.s,Om h.r0 (fun k hk=>hb.block k (Ol h.r0 k hk)),Om h.r1 (fun k hk=>hb.block k (Ol h.r1 k hk)),h.r2.keep hb,h.m.keep (hb.block bm h.m.lt),h.gb,h.bb⟩
theorem NH(W:World)(bm:Nat)(L:List (List UInt8×Nat))(hl:L.length≤1000000)(h:DU W bm L)(s:List UInt8)(hs:s.length≤1000000)(p:Nat)(hp:p≤1000000) :
  ∃ W1,(Instr.mapUpdate 119 (.map (some bm)) (.string ⟨s.toArray⟩) (.int .i64 p)).run Tryz.prog W=.ok () W1∧DU W1 bm ((s,p)::L)∧W.grownBy W1 (some bm):=by
 obtain⟨n,D,ho,hi,hn,hL⟩:=h;obtain⟨W1,hr,h1,h2⟩:=ho.update (Go.Maps.string_keyed Tryz.underlying9) Tryz.underlying119 (by simp[maxLen];omega) (M7 s hs) (plainElem_int (q:=.i64) (a:=(p:Int)) Tryz.underlying3 (by simp[Lit.wf,IntKind.min,IntKind.max,IntKind.signed,IntKind.bits];omega));refine⟨W1,hr,⟨n+1,_,h1,hi.put _ _,by simp;omega,fun t=>?_⟩,h2⟩;rw[Kp];by_cases e:s=t
 ·subst e;rw[if_pos rfl];exact⟨Go.Maps.has_put_same hi (show WideAt.IsKeyLit (.string s) from trivial) _,Go.Maps.atKey_put_same hi (show WideAt.IsKeyLit (.string s) from trivial) _ _⟩
 ·have hne:(Lit.string t)≠(Lit.string s):=fun h=>e (by injection h with h;exact h.symm)
  rw[if_neg e,Go.Maps.has_put_other hne,Go.Maps.atKey_put_other hne];exact hL t
theorem DU.ne{W:World}{bm k:Nat}{L:List (List UInt8×Nat)}{cs:Array Value}{t:TypeId}{fr:Nat×Nat}(h:DU W bm L)(hk:W.heap[k]?=some (.cells cs t fr)):k≠bm:=by
 obtain⟨n,D,⟨es,clock,hb,r⟩,_⟩:=h;rintro rfl;rw[hb]at hk;cases hk
theorem GQ{W W1:World}{base bm n size:Nat}{e:TypeId}{v:Value}{xs:List Value}{L:List (List UInt8×Nat)}(h:W.ownsRow base e size v n xs)(hm:DU W bm L)(hg:W.grownBy W1 (some bm)):W1.ownsRow base e size v n xs :=
 Om h fun k hk=>by
  obtain⟨cells,hc⟩:=Cg h k hk;exact hg.block k (Bl hc) (fun e=>hm.ne hc (Option.some.inj e))
theorem Cr.F5{W W1:World}{base gx bm:Nat}{v0 v1 v2:Value}{x:Src}{L:List (List UInt8×Nat)}(h:Cr W base gx bm v0 v1 v2 x)(hg:W.grownBy W1 (some bm))(hM:DU W1 bm L) :
  Cr W1 base gx bm v0 v1 v2 {x with labels:=L} :=
 ⟨(hg.block gx (Bl h.s) (fun e=>h.m.ne h.s (Option.some.inj e))).trans h.s,GQ h.r0 h.m hg,GQ h.r1 h.m hg,GQ h.r2 h.m hg,hM,h.gb,h.bb⟩
theorem M8(W:World)(base gx bm:Nat)(v0 v1 v2:Value)(x:Src)(s:List UInt8)(n:Int)(he:Env W)(hX:Cr W base gx bm v0 v1 v2 x)(hs:s.length≤90000)(hb0:base≤W.heap.size)
  (hend:s.getLast?≠some 10) :
  Calls Tryz.prog 67 #[.pointer (some ⟨gx,0,none⟩),.string ⟨s.toArray⟩,.int .i64 n] W fun e W1=>e=.returned (.int .i64 (BB x s n).2) ∧
   ∃ u0 u1 u2,Cr W1 base gx bm u0 u1 u2 (BB x s n).1∧AN W W1 base gx bm v0 v1 v2 u0 u1 u2:=by
 have hF:BB x s n=(x,8):=by unfold BB;rw[if_pos hend]
 rw[hF];have C:=De s 10 (by omega) W;have hc:DE s 10=(s,false):=by unfold DE;rw[if_neg hend]
 rw[hc]at C;replace C:=Az C;replace hX:=Az hX;clear hend hc hF;go_enter Tryz.func67,Tryz.ntmps67;go_wp2_with fail
 refine C.out.mono ?_;rintro e w1 ⟨rfl,hb⟩;go_wp2;go_ret;exact⟨rfl,v0,v1,v2,hX.out.keep hb,.Dm hb hb0⟩
theorem Kq(W:World)(base gx bm:Nat)(v0 v1 v2:Value)(x:Src)(s:List UInt8)(n:Int)(he:Env W)(hX:Cr W base gx bm v0 v1 v2 x)(hs:s.length≤90000)(hb0:base≤W.heap.size)
  (hlen:x.l.length≤1000000)(hlab:x.labels.length≤1000000)(hend:s.getLast?=some 10)(hcol:s.dropLast.getLast?=some 58)(hnm:B8 s.dropLast.dropLast=true) :
  Calls Tryz.prog 67 #[.pointer (some ⟨gx,0,none⟩),.string ⟨s.toArray⟩,.int .i64 n] W fun e W1=>e=.returned (.int .i64 (BB x s n).2) ∧
   ∃ u0 u1 u2,Cr W1 base gx bm u0 u1 u2 (BB x s n).1∧AN W W1 base gx bm v0 v1 v2 u0 u1 u2:=by
 have hF:BB x s n=if (x.at s.dropLast.dropLast).isSome then (x,2) else ({x with labels:=(s.dropLast.dropLast,x.l.length)::x.labels},0):=by
  unfold BB;rw[if_neg (by rw[hend];simp)];dsimp only;rw[if_pos ⟨hcol,hnm⟩]
 generalize BB x s n=fin at hF ⊢;have hl1:s.dropLast.length≤90000:=by simp;omega
 have hl2:s.dropLast.dropLast.length≤90000:=by simp;omega
 have C1:=fun W'=>De s 10 (by omega) W'
 have C2:=fun W'=>De s.dropLast 58 (by omega) W'
 have C3:=fun W'=>DK s.dropLast.dropLast W' (by omega)
 have hc1:DE s 10=(s.dropLast,true):=by unfold DE;rw[if_pos hend]
 have hc2:DE s.dropLast 58=(s.dropLast.dropLast,true):=by unfold DE;rw[if_pos hcol]
 rw[hc1]at C1;rw[hc2]at C2;rw[hnm]at C3;clear hend hcol hnm hc1 hc2;generalize s.dropLast=s1 at *;generalize s1.dropLast=lb at *;replace C1:=Az C1;replace C2:=Az C2;replace C3:=Az C3;replace hX:=Az hX;go_enter Tryz.func67,Tryz.ntmps67;go_wp2_with fail
 refine(C1.out _).mono ?_;rintro e w1 ⟨rfl,hb1⟩;go_wp2_with fail
 refine(C2.out _).mono ?_;rintro e w2 ⟨rfl,hb2⟩;go_wp2_with fail
 refine(C3.out _).mono ?_;rintro e w3 ⟨rfl,hb3⟩;have hB:Below W.heap.size W w3:=(hb1.trans (hb2.mono hb1.size)).trans (hb3.mono (Nat.le_trans hb1.size hb2.size));have hX3:=Az (hX.out.keep hB);clear hb1 hb2 hb3 C1 C2 C3;have c0:w3.cell? ⟨gx,0,none⟩=some v0:=(Bc hX3.out.s 0).trans rfl;have c3:w3.cell? ⟨gx,3,none⟩=some (.map (some bm)):=(Bc hX3.out.s 3).trans rfl;obtain⟨b,hb⟩:∃ b,(CZ x.labels lb).isSome=b:=⟨_,rfl⟩
 have hat:(x.at lb).isSome=b:=hb;rw[hat]at hF;replace hF:=Az hF;cases b with
 |true =>
  obtain rfl:fin=(x,2):=by rw[hF.out];rfl
  go_wp2_with (refine GR rfl (.tmp 36) (.tmp 37) rfl bm x.labels rfl hX3.out.m lb (by omega) rfl ?_)
  go_ret;exact⟨rfl,v0,v1,v2,hX3.out,.Dm hB hb0⟩
 |false =>
  obtain rfl:fin=({x with labels:=(lb,x.l.length)::x.labels},0):=by rw[hF.out];rfl
  obtain⟨A,c,rfl⟩:∃ A c,v0=.slice A x.l.length c:=by
   rcases hX3.out.r0.2 with ⟨rfl,h0⟩ |⟨g,cap,cur,rfl,_⟩
   ·exact⟨none,0,by rw[h0]⟩
   ·exact⟨_,_,rfl⟩
  have hX4:=Az (hX3.out.keep (Bd (Below.refl _ _)));obtain⟨w4,hrun,hM,hg⟩:=NH w3.drew bm x.labels hlab hX4.out.m lb (by omega) x.l.length hlen;have hX5:=Az (hX4.out.F5 hg hM);replace hM:=Az hM;replace hg:=Az hg;have hS:w3.drew.cell? ⟨gx,0,none⟩=some (.slice A x.l.length c)∧w3.drew.cell? ⟨gx,3,none⟩=some (.map (some bm)):=⟨c0,c3⟩
  go_wp2_with (refine GR rfl (.tmp 36) (.tmp 37) rfl bm x.labels rfl hX3.out.m lb (by omega) rfl ?_)
  refine wp_region_held_drew (S:=(fun W'=>W'.cell? ⟨gx,0,none⟩=some (.slice A x.l.length c)∧W'.cell? ⟨gx,3,none⟩=some (.map (some bm)))) (by kernel_rfl) hS (fun hHeld0=>?_);refine wpAnyH_take (i:=0) (oi:=?oim0) (v:=?vm0) ?him0 ?hsm0 ?hfm0 ?hrm0 ?hQm0 ?hym0 ?hSm0 ?_;case him0=>refine Ac ?_;rfl
  case hsm0=>kernel_rfl
  case hfm0=>kernel_rfl
  case hrm0=>kernel_rfl
  case hQm0=>exact fun _ _ _ h=>h
  case hym0=>(refine Or.inl ⟨by rfl,?_⟩;intro w hSw;go_simp;try with_reducible rfl)
  case hSm0=>assumption
  try simp only[Act.put,Sa,Sb,Sc]
  refine wpAnyH_take (i:=1) (oi:=?oim1) (v:=?vm1) ?him1 ?hsm1 ?hfm1 ?hrm1 ?hQm1 ?hym1 ?hSm1 ?_;case him1=>refine Ac ?_;rfl
  case hsm1=>kernel_rfl
  case hfm1=>kernel_rfl
  case hrm1=>kernel_rfl
  case hQm1=>exact fun _ _ _ h=>h
  case hym1=>(refine Or.inl ⟨by rfl,?_⟩;intro w hSw;go_simp;try with_reducible rfl)
  case hSm1=>assumption
  try simp only[Act.put,Sa,Sb,Sc]
  refine wpAnyH_take (i:=2) (oi:=?oim2) (v:=?vm2) ?him2 ?hsm2 ?hfm2 ?hrm2 ?hQm2 ?hym2 ?hSm2 ?_;case him2=>refine Ac ?_;rfl
  case hsm2=>kernel_rfl
  case hfm2=>kernel_rfl
  case hrm2=>kernel_rfl
  case hQm2=>exact fun _ _ _ h=>h
  case hym2=>(refine Or.inl ⟨by rfl,?_⟩;intro w hSw;go_simp;try with_reducible rfl)
  case hSm2=>assumption
  try simp only[Act.put,Sa,Sb,Sc]
  refine wpAnyH_take (i:=3) (oi:=?oim3) (v:=?vm3) ?him3 ?hsm3 ?hfm3 ?hrm3 ?hQm3 ?hym3 ?hSm3 ?_;case him3=>refine Ac ?_;rfl
  case hsm3=>kernel_rfl
  case hfm3=>kernel_rfl
  case hrm3=>kernel_rfl
  case hQm3=>exact fun _ _ _ h=>h
  case hym3=>(refine Or.inl ⟨by rfl,?_⟩;intro w hSw;go_simp;try with_reducible rfl)
  case hSm3=>assumption
  try simp only[Act.put,Sa,Sb,Sc]
  refine wpAnyH_take (i:=4) (oi:=?oim4) (v:=?vm4) ?him4 ?hsm4 ?hfm4 ?hrm4 ?hQm4 ?hym4 ?hSm4 ?_;case him4=>refine Ac ?_;rfl
  case hsm4=>kernel_rfl
  case hfm4=>kernel_rfl
  case hrm4=>kernel_rfl
  case hQm4=>exact fun _ _ _ h=>h
  case hym4=>(refine Or.inl ⟨by rfl,?_⟩;intro w hSw;go_simp;try with_reducible rfl)
  case hSm4=>assumption
  try simp only[Act.put,Sa,Sb,Sc]
  refine wpAnyH_take (i:=5) (oi:=?oim5) (v:=?vm5) ?him5 ?hsm5 ?hfm5 ?hrm5 ?hQm5 ?hym5 ?hSm5 ?_;case him5=>refine Ac ?_;rfl
  case hsm5=>kernel_rfl
  case hfm5=>kernel_rfl
  case hrm5=>kernel_rfl
  case hQm5=>exact fun _ _ _ h=>h
  case hym5=>(refine Or.inl ⟨by rfl,?_⟩;intro w hSw;go_simp;try with_reducible rfl)
  case hSm5=>assumption
  try simp only[Act.put,Sa,Sb,Sc]
  refine wpAnyH_take (i:=6) (oi:=?oim6) (v:=?vm6) ?him6 ?hsm6 ?hfm6 ?hrm6 ?hQm6 ?hym6 ?hSm6 ?_;case him6=>refine Ac ?_;rfl
  case hsm6=>kernel_rfl
  case hfm6=>kernel_rfl
  case hrm6=>kernel_rfl
  case hQm6=>exact fun _ _ _ h=>h
  case hym6=>(refine Or.inl ⟨by rfl,?_⟩;intro w hSw;go_simp;try with_reducible rfl)
  case hSm6=>assumption
  try simp only[Act.put,Sa,Sb,Sc]
  refine wpAnyH_take (i:=7) (oi:=?oim7) (v:=?vm7) ?him7 ?hsm7 ?hfm7 ?hrm7 ?hQm7 ?hym7 ?hSm7 ?_;case him7=>refine Ac ?_;rfl
  case hsm7=>kernel_rfl
  case hfm7=>kernel_rfl
  case hrm7=>kernel_rfl
  case hQm7=>exact fun _ _ _ h=>h
  case hym7=>(refine Or.inl ⟨by rfl,?_⟩;intro w hSw;go_simp;try with_reducible rfl)
  case hSm7=>assumption
  try simp only[Act.put,Sa,Sb,Sc]
  refine wpAnyH_take (i:=8) (oi:=?oim8) (v:=?vm8) ?him8 ?hsm8 ?hfm8 ?hrm8 ?hQm8 ?hym8 ?hSm8 ?_;case him8=>refine Ac ?_;rfl
  case hsm8=>kernel_rfl
  case hfm8=>kernel_rfl
  case hrm8=>kernel_rfl
  case hQm8=>exact fun _ _ _ h=>h
  case hym8=>(refine Or.inl ⟨by rfl,?_⟩;intro w hSw;go_simp;try with_reducible rfl)
  case hSm8=>assumption
  try simp only[Act.put,Sa,Sb,Sc]
  refine wpAnyH_take (i:=9) (oi:=?oim9) (v:=?vm9) ?him9 ?hsm9 ?hfm9 ?hrm9 ?hQm9 ?hym9 ?hSm9 ?_;case him9=>refine Ac ?_;rfl
  case hsm9=>kernel_rfl
  case hfm9=>kernel_rfl
  case hrm9=>kernel_rfl
  case hQm9=>exact fun _ _ _ h=>h
  case hym9=>(refine Or.inl ⟨by rfl,?_⟩;intro w hSw;go_simp;try with_reducible rfl)
  case hSm9=>assumption
  try simp only[Act.put,Sa,Sb,Sc]
  refine wpAnyH_ready (rs:=[10]) (by kernel_rfl) (by simp) ?_;refine AllReadyH.cons (o:=?oM) ?hoM (fun K hK=>?_) AllReadyH.nil;case hoM=>refine Ac ?_;rfl
  go_simp
  go_wp2_with fail
  refine hK.out _ _ ⟨(Bc hX5.out.s 0).trans rfl,(Bc hX5.out.s 3).trans rfl⟩ (fun hHeldM=>?_);try simp only[Act.put,Sa,Sb,Sc]
  refine wpAnyH_done (by kernel_rfl) ?_ _;go_wp2;go_ret;refine⟨rfl,_,v1,v2,hX5.out,⟨?_,?_,fun k h=>.inl h,fun k h=>.inl h,fun k h=>.inl h⟩⟩
  ·exact((Bd hB).mono hb0).grown hg.out (Nat.le_trans hb0 (Bd hB).size) (fun k hk=>by cases hk;exact hX.out.bb)
  ·intro k hk h1 h2 _ _ _;exact(hg.out.block k (Nat.lt_of_lt_of_le hk (Bd hB).size) (fun e=>h2 (Option.some.inj e))).trans ((Bd hB).block k hk)
theorem L6(W:World)(base gx bm:Nat)(v0 v1 v2:Value)(x:Src)(s:List UInt8)(n:Int)(he:Env W)(hX:Cr W base gx bm v0 v1 v2 x)(hs:s.length≤90000)(hb0:base≤W.heap.size)
  (hend:s.getLast?=some 10)(hnot:¬(s.dropLast.getLast?=some 58∧B8 s.dropLast.dropLast=true))(hbad:(Ek s.dropLast).2.2=false∨64≤x.l.length) :
  Calls Tryz.prog 67 #[.pointer (some ⟨gx,0,none⟩),.string ⟨s.toArray⟩,.int .i64 n] W fun e W1=>e=.returned (.int .i64 (BB x s n).2) ∧
   ∃ u0 u1 u2,Cr W1 base gx bm u0 u1 u2 (BB x s n).1∧AN W W1 base gx bm v0 v1 v2 u0 u1 u2:=by
 have hF:BB x s n=if (Ek s.dropLast).2.2=false then (x,8) else if 64≤x.l.length then (x,9) else
   ({x with l:=x.l++[(Ek s.dropLast).1],names:=x.names++[(Ek s.dropLast).2.1],rows:=x.rows++[n]},0):=by
  unfold BB;rw[if_neg (by rw[hend];simp)];dsimp only;rw[if_neg hnot]
 generalize BB x s n=fin at hF ⊢;have hl1:s.dropLast.length≤90000:=by simp;omega
 have C1:=fun W'=>De s 10 (by omega) W'
 have C2:=fun W'=>De s.dropLast 58 (by omega) W'
 have C3:=fun W'=>DK s.dropLast.dropLast W' (by simp;omega)
 have C4:=fun(W':World) (heW:Env W')=>HG s.dropLast W' heW hl1
 have hc1:DE s 10=(s.dropLast,true):=by unfold DE;rw[if_pos hend]
 rw[hc1]at C1;generalize s.dropLast=s1 at *;generalize Ek s1=r at *;obtain⟨⟨op,d,s',t,u,a,k,q⟩,tl,ok⟩:=r;dsimp only at hF hbad C4;dsimp only[In.v]at C4;obtain⟨A,c,rfl⟩:∃ A c,v0=.slice A x.l.length c:=by
  rcases hX.r0.2 with ⟨rfl,h0⟩ |⟨g,cap,cur,rfl,_⟩
  ·exact⟨none,0,by rw[h0]⟩
  ·exact⟨_,_,rfl⟩
 replace C1:=Az C1;replace C4:=Az C4;replace hX:=Az hX;replace hF:=Az hF;clear hc1 hend;by_cases hcol:s1.getLast?=some 58
 ·have hnm:B8 s1.dropLast=false:=by simpa using fun h=>hnot ⟨hcol,h⟩
  have hc2:DE s1 58=(s1.dropLast,true):=by unfold DE;rw[if_pos hcol]
  rw[hc2]at C2;rw[hnm]at C3;replace C2:=Az C2;replace C3:=Az C3;clear hc2 hnm hcol hnot;go_enter Tryz.func67,Tryz.ntmps67;go_wp2_with fail
  refine(C1.out _).mono ?_;rintro e w1 ⟨rfl,hb1⟩;go_wp2_with fail
  refine(C2.out _).mono ?_;rintro e w2 ⟨rfl,hb2⟩;go_wp2_with fail
  refine(C3.out _).mono ?_;rintro e w3 ⟨rfl,hb3⟩;have hB:=Az ((hb1.trans (hb2.mono hb1.size)).trans (hb3.mono (Nat.le_trans hb1.size hb2.size)));clear hb1 hb2 hb3 C1 C2 C3;go_wp2_with fail
  refine(C4.out _ (he.below hB.out)).mono ?_;rintro e w4 ⟨rfl,hb4⟩;have hB4:=Az ((hB.out.trans (hb4.mono hB.out.size)).alloc (hB.out.trans (hb4.mono hB.out.size)).size (.cells (In.cs ⟨op,d,s',t,u,a,k,q⟩) 126));have hX4:=Az (hX.out.keep hB4.out);clear hB hb4 C4 hX;cases ok with
  |false =>
   obtain rfl:fin=(x,8):=by rw[hF.out];rfl
   go_wp2;go_ret;exact⟨rfl,_,v1,v2,hX4.out,.Dm hB4.out hb0⟩
  |true =>
   obtain rfl:fin=(x,9):=by rw[hF.out,if_neg (by simp),if_pos (hbad.resolve_left (by simp))]
   have c0:(w4.alloc (.cells (In.cs ⟨op,d,s',t,u,a,k,q⟩) 126)).cell? ⟨gx,0,none⟩=some (.slice A x.l.length c):=(Bc hX4.out.s 0).trans rfl;have h64:decide (64≤(x.l.length:Int))=true:=decide_eq_true (by have:=hbad.resolve_left (by simp);omega);have h64':64≤x.l.length:=hbad.resolve_left (by simp);simp only[In.cs]at c0;go_wp2;go_ret;exact⟨rfl,_,v1,v2,hX4.out,.Dm hB4.out hb0⟩
 ·have hc2:DE s1 58=(s1,false):=by unfold DE;rw[if_neg hcol]
  rw[hc2]at C2;replace C2:=Az C2;clear hc2 hcol hnot C3;go_enter Tryz.func67,Tryz.ntmps67;go_wp2_with fail
  refine(C1.out _).mono ?_;rintro e w1 ⟨rfl,hb1⟩;go_wp2_with fail
  refine(C2.out _).mono ?_;rintro e w2 ⟨rfl,hb2⟩;have hB:=Az (hb1.trans (hb2.mono hb1.size));clear hb1 hb2 C1 C2;go_wp2_with fail
  refine(C4.out _ (he.below hB.out)).mono ?_;rintro e w4 ⟨rfl,hb4⟩;have hB4:=Az ((hB.out.trans (hb4.mono hB.out.size)).alloc (hB.out.trans (hb4.mono hB.out.size)).size (.cells (In.cs ⟨op,d,s',t,u,a,k,q⟩) 126));have hX4:=Az (hX.out.keep hB4.out);clear hB hb4 C4 hX;cases ok with
  |false =>
   obtain rfl:fin=(x,8):=by rw[hF.out];rfl
   go_wp2;go_ret;exact⟨rfl,_,v1,v2,hX4.out,.Dm hB4.out hb0⟩
  |true =>
   obtain rfl:fin=(x,9):=by rw[hF.out,if_neg (by simp),if_pos (hbad.resolve_left (by simp))]
   have c0:(w4.alloc (.cells (In.cs ⟨op,d,s',t,u,a,k,q⟩) 126)).cell? ⟨gx,0,none⟩=some (.slice A x.l.length c):=(Bc hX4.out.s 0).trans rfl;have h64:decide (64≤(x.l.length:Int))=true:=decide_eq_true (by have:=hbad.resolve_left (by simp);omega);have h64':64≤x.l.length:=hbad.resolve_left (by simp);simp only[In.cs]at c0;go_wp2;go_ret;exact⟨rfl,_,v1,v2,hX4.out,.Dm hB4.out hb0⟩
end
end Go.Proofs.YtjjpiefgdggghaaGreatDoor
