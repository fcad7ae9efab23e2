/- Parts: Of, Right, In8, Laid, AsmPlain, Labels. -/
import Derived.Test.YtnmahobjmpdkdaaGreatDoorQ02
import Derived.Test.YtnmahobjmpdkdaaGreatDoorQ03
import Derived.ProofKit
import Derived.Lib.SmallJoins
import Derived.OpenShut
import Derived.Deep.Fields
import Derived.Test.YtnmahobjmpdkdaaGreatDoorCards
import Derived.Test.YtnmahobjmpdkdaaGreatDoorTie
import Derived.LaidMore
import Derived.Deep.DeepHandedRow
import Derived.Lib.LaidTab
import Derived.Lib.LaidU8
import Derived.Stop.LaidErr
import Derived.JoinedCond
import Derived.Deep.DeepWitnessRowRef
import Derived.Maps.OwnSet
import Derived.Maps.Views
set_option linter.unusedVariables false
set_option linter.unusedSimpArgs false
set_option maxRecDepth 100000
set_option maxHeartbeats 40000000
namespace Go.Proofs.YtnmahobjmpdkdaaGreatDoor
section
open Go.RowKit Go.Proofs.YtnmahobjmpdkdaaGreatDoorW.PrintWords
theorem NL(op:Int)(w:World)(hn:¬(1≤op∧op≤13)) :
  Calls Tryz.prog 120 #[.int .i64 op] w fun e w'=>e=.returned (.agg #[.string ⟨(Aj op).toArray⟩,.string ⟨(Bm op).toArray⟩])∧Below w.heap.size w w':=by
 by_cases h16:op=16
 ·subst h16;go_enter Tryz.func120,Tryz.ntmps120;go_wp2;exact bodyPost_ret (v:=.agg #[.string ⟨#[108,111,97,100]⟩,.string ⟨#[68,65,83]⟩]) (by simp[results,Tryz.results120,go_sem]) rfl ⟨rfl,by apply_rules [Below.setCell,Below.alloc,Below.refl]<;>simp⟩
 by_cases h17:op=17
 ·subst h17;go_enter Tryz.func120,Tryz.ntmps120;go_wp2;exact bodyPost_ret (v:=.agg #[.string ⟨#[115,116,111,114,101]⟩,.string ⟨#[65,83,84]⟩]) (by simp[results,Tryz.results120,go_sem]) rfl ⟨rfl,by apply_rules [Below.setCell,Below.alloc,Below.refl]<;>simp⟩
 by_cases h18:op=18
 ·subst h18;go_enter Tryz.func120,Tryz.ntmps120;go_wp2;exact bodyPost_ret (v:=.agg #[.string ⟨#[115,119,97,112]⟩,.string ⟨#[68,65,83,84]⟩]) (by simp[results,Tryz.results120,go_sem]) rfl ⟨rfl,by apply_rules [Below.setCell,Below.alloc,Below.refl]<;>simp⟩
 by_cases h19:op=19
 ·subst h19;go_enter Tryz.func120,Tryz.ntmps120;go_wp2;exact bodyPost_ret (v:=.agg #[.string ⟨#[99,97,115]⟩,.string ⟨#[68,65,83,84,85]⟩]) (by simp[results,Tryz.results120,go_sem]) rfl ⟨rfl,by apply_rules [Below.setCell,Below.alloc,Below.refl]<;>simp⟩
 by_cases h20:op=20
 ·subst h20;go_enter Tryz.func120,Tryz.ntmps120;go_wp2;exact bodyPost_ret (v:=.agg #[.string ⟨#[102,97,100,100]⟩,.string ⟨#[68,65,83,75]⟩]) (by simp[results,Tryz.results120,go_sem]) rfl ⟨rfl,by apply_rules [Below.setCell,Below.alloc,Below.refl]<;>simp⟩
 by_cases h21:op=21
 ·subst h21;go_enter Tryz.func120,Tryz.ntmps120;go_wp2;exact bodyPost_ret (v:=.agg #[.string ⟨#[97,119,97,105,116]⟩,.string ⟨#[68,65,83,87]⟩]) (by simp[results,Tryz.results120,go_sem]) rfl ⟨rfl,by apply_rules [Below.setCell,Below.alloc,Below.refl]<;>simp⟩
 by_cases h22:op=22
 ·subst h22;go_enter Tryz.func120,Tryz.ntmps120;go_wp2;exact bodyPost_ret (v:=.agg #[.string ⟨#[116,97,107,101]⟩,.string ⟨#[68]⟩]) (by simp[results,Tryz.results120,go_sem]) rfl ⟨rfl,by apply_rules [Below.setCell,Below.alloc,Below.refl]<;>simp⟩
 by_cases h23:op=23
 ·subst h23;go_enter Tryz.func120,Tryz.ntmps120;go_wp2;exact bodyPost_ret (v:=.agg #[.string ⟨#[102,114,101,101]⟩,.string ⟨#[83]⟩]) (by simp[results,Tryz.results120,go_sem]) rfl ⟨rfl,by apply_rules [Below.setCell,Below.alloc,Below.refl]<;>simp⟩
 have g16:(op==16)=false:=Bq h16;have g17:(op==17)=false:=Bq h17;have g18:(op==18)=false:=Bq h18;have g19:(op==19)=false:=Bq h19;have g20:(op==20)=false:=Bq h20;have g21:(op==21)=false:=Bq h21;have g22:(op==22)=false:=Bq h22;have g23:(op==23)=false:=Bq h23;have e1:Aj op=[]:=by unfold Aj;repeat (first |rw[if_neg (by omega)] |rfl)
 have e2:Bm op=[]:=by unfold Bm;repeat (first |rw[if_neg (by omega)] |rfl)
 rw[e1,e2];clear e1 e2;go_enter Tryz.func120,Tryz.ntmps120;go_wp2;exact bodyPost_ret (v:=.agg #[.string ⟨#[]⟩,.string ⟨#[]⟩]) (by simp[results,Tryz.results120,go_sem]) rfl ⟨rfl,by apply_rules [Below.setCell,Below.alloc,Below.refl]<;>simp⟩
theorem GR(op:Int)(w:World) :
  Calls Tryz.prog 112 #[.int .i64 op] w fun e w'=>e=.returned (.agg #[.string ⟨(Aj op).toArray⟩,.string ⟨(Bm op).toArray⟩])∧Below w.heap.size w w':=by
 by_cases h1:op=1
 ·subst h1;go_enter Tryz.func112,Tryz.ntmps112;go_wp2;exact bodyPost_ret (v:=.agg #[.string ⟨#[99,111,110,115,116]⟩,.string ⟨#[68,75]⟩]) (by simp[results,Tryz.results112,go_sem]) rfl ⟨rfl,by apply_rules [Below.setCell,Below.alloc,Below.refl]<;>simp⟩
 by_cases h2:op=2
 ·subst h2;go_enter Tryz.func112,Tryz.ntmps112;go_wp2;exact bodyPost_ret (v:=.agg #[.string ⟨#[109,111,118,101]⟩,.string ⟨#[68,83]⟩]) (by simp[results,Tryz.results112,go_sem]) rfl ⟨rfl,by apply_rules [Below.setCell,Below.alloc,Below.refl]<;>simp⟩
 by_cases h3:op=3
 ·subst h3;go_enter Tryz.func112,Tryz.ntmps112;go_wp2;exact bodyPost_ret (v:=.agg #[.string ⟨#[97,100,100,107]⟩,.string ⟨#[68,83,75]⟩]) (by simp[results,Tryz.results112,go_sem]) rfl ⟨rfl,by apply_rules [Below.setCell,Below.alloc,Below.refl]<;>simp⟩
 by_cases h4:op=4
 ·subst h4;go_enter Tryz.func112,Tryz.ntmps112;go_wp2;exact bodyPost_ret (v:=.agg #[.string ⟨#[97,110,100,107]⟩,.string ⟨#[68,83,75]⟩]) (by simp[results,Tryz.results112,go_sem]) rfl ⟨rfl,by apply_rules [Below.setCell,Below.alloc,Below.refl]<;>simp⟩
 by_cases h5:op=5
 ·subst h5;go_enter Tryz.func112,Tryz.ntmps112;go_wp2;exact bodyPost_ret (v:=.agg #[.string ⟨#[115,104,108]⟩,.string ⟨#[68,83,66]⟩]) (by simp[results,Tryz.results112,go_sem]) rfl ⟨rfl,by apply_rules [Below.setCell,Below.alloc,Below.refl]<;>simp⟩
 by_cases h6:op=6
 ·subst h6;go_enter Tryz.func112,Tryz.ntmps112;go_wp2;exact bodyPost_ret (v:=.agg #[.string ⟨#[115,104,114]⟩,.string ⟨#[68,83,66]⟩]) (by simp[results,Tryz.results112,go_sem]) rfl ⟨rfl,by apply_rules [Below.setCell,Below.alloc,Below.refl]<;>simp⟩
 by_cases h7:op=7
 ·subst h7;go_enter Tryz.func112,Tryz.ntmps112;go_wp2;exact bodyPost_ret (v:=.agg #[.string ⟨#[111,114]⟩,.string ⟨#[68,83,84]⟩]) (by simp[results,Tryz.results112,go_sem]) rfl ⟨rfl,by apply_rules [Below.setCell,Below.alloc,Below.refl]<;>simp⟩
 by_cases h8:op=8
 ·subst h8;go_enter Tryz.func112,Tryz.ntmps112;go_wp2;exact bodyPost_ret (v:=.agg #[.string ⟨#[98,101,113]⟩,.string ⟨#[83,84,80]⟩]) (by simp[results,Tryz.results112,go_sem]) rfl ⟨rfl,by apply_rules [Below.setCell,Below.alloc,Below.refl]<;>simp⟩
 by_cases h9:op=9
 ·subst h9;go_enter Tryz.func112,Tryz.ntmps112;go_wp2;exact bodyPost_ret (v:=.agg #[.string ⟨#[98,110,101]⟩,.string ⟨#[83,84,80]⟩]) (by simp[results,Tryz.results112,go_sem]) rfl ⟨rfl,by apply_rules [Below.setCell,Below.alloc,Below.refl]<;>simp⟩
 by_cases h10:op=10
 ·subst h10;go_enter Tryz.func112,Tryz.ntmps112;go_wp2;exact bodyPost_ret (v:=.agg #[.string ⟨#[106,117,109,112]⟩,.string ⟨#[80]⟩]) (by simp[results,Tryz.results112,go_sem]) rfl ⟨rfl,by apply_rules [Below.setCell,Below.alloc,Below.refl]<;>simp⟩
 by_cases h11:op=11
 ·subst h11;go_enter Tryz.func112,Tryz.ntmps112;go_wp2;exact bodyPost_ret (v:=.agg #[.string ⟨#[115,101,108,102]⟩,.string ⟨#[68]⟩]) (by simp[results,Tryz.results112,go_sem]) rfl ⟨rfl,by apply_rules [Below.setCell,Below.alloc,Below.refl]<;>simp⟩
 by_cases h12:op=12
 ·subst h12;go_enter Tryz.func112,Tryz.ntmps112;go_wp2;exact bodyPost_ret (v:=.agg #[.string ⟨#[109,97,114,107]⟩,.string ⟨#[77]⟩]) (by simp[results,Tryz.results112,go_sem]) rfl ⟨rfl,by apply_rules [Below.setCell,Below.alloc,Below.refl]<;>simp⟩
 by_cases h13:op=13
 ·subst h13;go_enter Tryz.func112,Tryz.ntmps112;go_wp2;exact bodyPost_ret (v:=.agg #[.string ⟨#[100,111,110,101]⟩,.string ⟨#[79]⟩]) (by simp[results,Tryz.results112,go_sem]) rfl ⟨rfl,by apply_rules [Below.setCell,Below.alloc,Below.refl]<;>simp⟩
 have g1:(op==1)=false:=Bq h1;have g2:(op==2)=false:=Bq h2;have g3:(op==3)=false:=Bq h3;have g4:(op==4)=false:=Bq h4;have g5:(op==5)=false:=Bq h5;have g6:(op==6)=false:=Bq h6;have g7:(op==7)=false:=Bq h7;have g8:(op==8)=false:=Bq h8;have g9:(op==9)=false:=Bq h9;have g10:(op==10)=false:=Bq h10;have g11:(op==11)=false:=Bq h11;have g12:(op==12)=false:=Bq h12;have g13:(op==13)=false:=Bq h13;have hn:¬(1≤op∧op≤13):=by omega
 clear h1 h2 h3 h4 h5 h6 h7 h8 h9 h10 h11 h12 h13;go_enter Tryz.func112,Tryz.ntmps112;go_wp2_with fail
 refine(NL op _ hn).mono ?_;rintro e w' ⟨rfl,hb⟩;have BK:=Az (show w'.heap[w.heap.size]?=some (.cells #[.string ⟨#[]⟩,.string ⟨#[]⟩] 158 (0,0)) from Bk hb (Bv w _));have z:w.heap.size<w'.heap.size:=Bl BK.out;have c0:w'.cell? ⟨w.heap.size,0,none⟩=some (.string ⟨#[]⟩):=(Bc BK.out 0).trans rfl;have c1:w'.cell? ⟨w.heap.size,1,none⟩=some (.string ⟨#[]⟩):=(Bc BK.out 1).trans rfl;have f0:=Bf BK.out 0;have f1:=Bf BK.out 1;go_wp2;refine bodyPost_ret (results_cell_row rfl _ _ w.heap.size 158 #[.string ⟨(Aj op).toArray⟩,.string ⟨(Bm op).toArray⟩] (0,0) _ rfl (Bs (Bs BK.out 0 _) 1 _) Tryz.underlying158 rfl (by kernel_rfl)) rfl ⟨rfl,?_⟩;exact((((Below.refl _ _).alloc (Nl _) _).trans (hb.mono (by simp))).setCell (by simp) _).setCell (by simp) _
def In.v(i:In):Value:=.agg #[.int .i64 i.op,.int .i64 i.d,.int .i64 i.s,.int .i64 i.t,.int .i64 i.u,.int .i64 i.a,.int .u32 i.k,.int .i64 i.q]
def In.cs(i:In):Array Value:=#[.int .i64 i.op,.int .i64 i.d,.int .i64 i.s,.int .i64 i.t,.int .i64 i.u,.int .i64 i.a,.int .u32 i.k,.int .i64 i.q]
theorem In.c(i:In)(j:Nat)(h1:1≤j)(h5:j≤5):i.cs[j]?=some (.int .i64 (i.get j)):=by
 match j,h1,h5 with
 |1,_,_=>rfl
 |2,_,_=>rfl
 |3,_,_=>rfl
 |4,_,_=>rfl
 |5,_,_=>rfl
theorem In.Pu(i:In)(v:Int)(j:Nat)(h1:1≤j)(h5:j≤5):i.cs.setIfInBounds j (.int .i64 v)=(i.put v j).cs:=by
 match j,h1,h5 with
 |1,_,_=>rfl
 |2,_,_=>rfl
 |3,_,_=>rfl
 |4,_,_=>rfl
 |5,_,_=>rfl
theorem D6{places sg:Int}{l:List UInt8}{kk:Nat}{r:In}{fin:Bool}(hF:Cg (Bb places (l.drop kk) r)=fin)
  (hst:Bb places (l.drop kk) r=(BN places sg r).bind (Bb places (l.drop (kk+1))))(h:BN places sg r=none):fin=false:=by
 rw[hst,h]at hF;exact hF.symm
theorem FT{places sg:Int}{l:List UInt8}{kk:Nat}{r r':In}{fin:Bool}(hF:Cg (Bb places (l.drop kk) r)=fin)
  (hst:Bb places (l.drop kk) r=(BN places sg r).bind (Bb places (l.drop (kk+1))))(h:BN places sg r=some r'):Cg (Bb places (l.drop (kk+1)) r')=fin:=by
 rw[hst,h]at hF;exact hF
theorem In.TH(r:In):r=In.zero↔(r.op=0∧r.d=0∧r.s=0∧r.t=0∧r.u=0∧r.a=0∧r.k=0∧r.q=0):=by
 cases r;simp[In.zero]
theorem V8{places:Int}{l:List UInt8}{kk:Nat}{r:In}{fin b:Bool}(hk:kk=l.length)(hF:Cg (Bb places (l.drop kk) r)=fin)
  (h:b=decide (r.op=0∧r.d=0∧r.s=0∧r.t=0∧r.u=0∧r.a=0∧r.k=0∧r.q=0)):b=fin:=by
 subst hk;rw[List.drop_length]at hF;rw[←hF,h];simp only[Bb,Cg,In.TH]
theorem PO(op d s t u a k q places:Int)(hwk:0≤k∧k≤4294967295)(w:World)(hn:Aj op≠[]) :
  Calls Tryz.prog 123 #[.agg #[.int .i64 op,.int .i64 d,.int .i64 s,.int .i64 t,.int .i64 u,.int .i64 a,.int .u32 k,.int .i64 q],.int .i64 places] w fun e w'=>e=.returned (.bool (AO ⟨op,d,s,t,u,a,k,q⟩ places))∧Below w.heap.size w w':=by
 have hne:(Aj op).isEmpty=false:=by cases h:Aj op<;>simp_all
 rw[B4 _ _ hn];clear hn;dsimp only;have hsz:(Bm op).length≤5:=Ho op;have kb:=fun W=>GQ (P:=Tryz.prog) 9 156 5 Tryz.underlying9 Tryz.underlying156 Tryz.underlying5 ⟨(Bm op).toArray⟩ W
 generalize hl:Bm op=l at hsz kb ⊢;generalize hn:Aj op=nm at hne ⊢;have HL:=Az hl;have HN:=Az hn;clear hl hn;generalize hf:Cg (Bb places l ⟨0,d,s,t,u,a,k,q⟩)=fin;have HF:=Az hf;clear hf;go_enter Tryz.func123,Tryz.ntmps123;go_wp2_with fail
 refine(GR _ _).mono ?_;rintro e w1 ⟨rfl,hb⟩;rw[HL.out,HN.out];have BK:=Az (Bk hb (Bv w _));have z:w.heap.size<w1.heap.size:=Bl BK.out;have c0:w1.cell? ⟨w.heap.size,0,none⟩=some (.int .i64 op):=(Bc BK.out 0).trans rfl;have c1:w1.cell? ⟨w.heap.size,1,none⟩=some (.int .i64 d):=(Bc BK.out 1).trans rfl;have c2:w1.cell? ⟨w.heap.size,2,none⟩=some (.int .i64 s):=(Bc BK.out 2).trans rfl;have c3:w1.cell? ⟨w.heap.size,3,none⟩=some (.int .i64 t):=(Bc BK.out 3).trans rfl;have c4:w1.cell? ⟨w.heap.size,4,none⟩=some (.int .i64 u):=(Bc BK.out 4).trans rfl;have c5:w1.cell? ⟨w.heap.size,5,none⟩=some (.int .i64 a):=(Bc BK.out 5).trans rfl;have c6:w1.cell? ⟨w.heap.size,6,none⟩=some (.int .u32 k):=(Bc BK.out 6).trans rfl;have c7:w1.cell? ⟨w.heap.size,7,none⟩=some (.int .i64 q):=(Bc BK.out 7).trans rfl;go_wp2_with fail
 clear c0 c1 c2 c3 c4 c5 c6 c7 kb;generalize grownCap _ _ _ _=cap;have hB0:=Az (((Below.refl w.heap.size w).alloc (Nl _) (.cells (In.cs ⟨op,d,s,t,u,a,k,q⟩) 104)).trans (hb.mono (by simp)));have hB1:=Az (Fw ((hB0.out.alloc (Nat.le_of_lt z) (.cells #[.string ⟨nm.toArray⟩,.string ⟨l.toArray⟩] 158)).alloc (by simp;omega) (.cells (In.cs ⟨0,d,s,t,u,a,k,q⟩) 104)) (by simp;omega) 5 ⟨l.toArray⟩);have hR1:=Az (I4 ((w1.alloc (.cells #[.string ⟨nm.toArray⟩,.string ⟨l.toArray⟩] 158)).alloc (.cells (In.cs ⟨0,d,s,t,u,a,k,q⟩) 104)) 5 l (w1.heap.size+1+1) (by simp) (by omega));have hK1:=Az (EN (Df w1 (.cells #[.string ⟨nm.toArray⟩,.string ⟨l.toArray⟩] 158) (.cells (In.cs ⟨0,d,s,t,u,a,k,q⟩) 104)) 5 ⟨l.toArray⟩);go_loopw [28] (fun v wr=>∃ (kk:Nat) (r:In),v=.int .i64 kk∧kk≤l.length∧r.wk∧Af (wr.heap[w1.heap.size+1]?=some (.cells r.cs 104 (0,0)))∧Af (Cw wr .u8 (some ⟨w1.heap.size+1+1,0,none⟩) l.length (bytesOf ⟨l.toArray⟩))∧Af (Below w.heap.size w wr)∧Af (Cg (Bb places (l.drop kk) r)=fin)∧Af (w1.heap.size+1+1<wr.heap.size)) (fun v wr=>l.length-(intOf v).toNat)
 case atStart=>exact⟨0,⟨0,d,s,t,u,a,k,q⟩,rfl,Nat.zero_le _,hwk,hK1,hR1,hB1,by simpa using HF,⟨by rw[Lib.bytesWorld_size];simp⟩⟩
 case round =>
  clear hB0 hB1 hR1 hK1;obtain⟨kk,r,rfl,hkk,hwr,hK,hR,hB,hF,hZ⟩:=hrel;by_cases hlt:kk<l.length
  ·have hby:=KQ hR.out kk hlt;have hst:=Az (Tt places l kk r hlt);generalize hs0:((l.getD kk 0).toNat:Int)=sg at hby hst;have HS:=Az hs0;clear hs0;cases hfo:AH sg with
   |some j =>
    have hj:=GL hfo;obtain⟨n87,n80⟩:=Ot hfo;have hst':=Az (Ft (places:=places) (r:=r) hfo);have cj:wr.cell? ⟨w1.heap.size+1,j,none⟩=some (.int .i64 (r.get j)):=(Bc hK.out j).trans (r.c j hj.1 hj.2);have fj:=Bf hK.out j;have hwi:=Az (JN hfo);have hfo':=Az hfo;clear hfo;by_cases h1:r.get j<0
    ·go_wp2_with fail
     refine(C0 _ _ _ _ hfo'.out).mono ?_;rintro e w' ⟨rfl,rfl⟩;go_wp2;go_ret;exact⟨congrArg (fun b=>Ending.returned (.bool b)) (D6 hF.out hst.out (hst'.out.trans (if_pos (.inl h1)))).symm,hB.out⟩
    ·by_cases h2:7<r.get j
     ·go_wp2_with fail
      refine(C0 _ _ _ _ hfo'.out).mono ?_;rintro e w' ⟨rfl,rfl⟩;go_wp2;go_ret;exact⟨congrArg (fun b=>Ending.returned (.bool b)) (D6 hF.out hst.out (hst'.out.trans (if_pos (.inr h2)))).symm,hB.out⟩
     ·go_wp2_with fail
      refine(C0 _ _ _ _ hfo'.out).mono ?_;rintro e w' ⟨rfl,rfl⟩;go_wp2_with fail
      refine(BC _ _ _ _ _ hwi.out).mono ?_;rintro e w' ⟨rfl,rfl⟩;go_wp2;go_roundw
      case rel=>exact⟨kk+1,r.put 0 j,by go_num,by omega,In.Tu hwr _ _,⟨by have:=Bs hK.out j (.int .i64 0);rw[In.Pu _ _ _ hj.1 hj.2]at this;exact this⟩,⟨DE hR.out (by simp) _⟩,⟨hB.out.setCell (by simp;omega) _⟩,⟨FT hF.out hst.out (hst'.out.trans (if_neg (by omega)))⟩,⟨by simpa using hZ.out⟩⟩
      case measure=>simp[intOf];omega
   |none =>
    have c3:wr.cell? ⟨w1.heap.size+1,3,none⟩=some (.int .i64 r.t):=(Bc hK.out 3).trans rfl;have c6:wr.cell? ⟨w1.heap.size+1,6,none⟩=some (.int .u32 r.k):=(Bc hK.out 6).trans rfl;have c7:wr.cell? ⟨w1.heap.size+1,7,none⟩=some (.int .i64 r.q):=(Bc hK.out 7).trans rfl;have f3:=Bf hK.out 3;have f6:=Bf hK.out 6;have f7:=Bf hK.out 7;have hfo':=Az hfo;clear hfo;by_cases h87:sg=87
    ·subst h87;have hst':=Az (QJ (places:=places) (r:=r));have hwi:=Az (show within 87=(0,1,true) from rfl);have hk0:¬r.k<0:=by have:=hwr.1;omega
     by_cases hk2:1<r.k
     ·go_wp2_with fail
      refine(B0 _ _ _ hfo'.out).mono ?_;rintro e w' ⟨rfl,rfl⟩;go_wp2_with fail
      refine(BC _ _ _ _ _ hwi.out).mono ?_;rintro e w' ⟨rfl,rfl⟩;go_wp2;go_ret;exact⟨congrArg (fun b=>Ending.returned (.bool b)) (D6 hF.out hst.out (hst'.out.trans (if_pos hk2))).symm,hB.out⟩
     by_cases ht1:r.t<0
     ·go_wp2_with fail
      refine(B0 _ _ _ hfo'.out).mono ?_;rintro e w' ⟨rfl,rfl⟩;go_wp2_with fail
      refine(BC _ _ _ _ _ hwi.out).mono ?_;rintro e w' ⟨rfl,rfl⟩;go_wp2_with fail
      refine(C0 _ _ _ _ (show AH 84=some 3 from rfl)).mono ?_;rintro e w' ⟨rfl,rfl⟩;go_wp2;go_ret;exact⟨congrArg (fun b=>Ending.returned (.bool b)) (D6 hF.out hst.out (hst'.out.trans ((if_neg (by omega)).trans (if_pos (.inl ht1))))).symm,hB.out.setCell (by simp;omega) _⟩
     by_cases ht2:7<r.t
     ·go_wp2_with fail
      refine(B0 _ _ _ hfo'.out).mono ?_;rintro e w' ⟨rfl,rfl⟩;go_wp2_with fail
      refine(BC _ _ _ _ _ hwi.out).mono ?_;rintro e w' ⟨rfl,rfl⟩;go_wp2_with fail
      refine(C0 _ _ _ _ (show AH 84=some 3 from rfl)).mono ?_;rintro e w' ⟨rfl,rfl⟩;go_wp2;go_ret;exact⟨congrArg (fun b=>Ending.returned (.bool b)) (D6 hF.out hst.out (hst'.out.trans ((if_neg (by omega)).trans (if_pos (.inr (.inl ht2)))))).symm,hB.out.setCell (by simp;omega) _⟩
     by_cases hq1:r.q < -1
     ·go_wp2_with fail
      refine(B0 _ _ _ hfo'.out).mono ?_;rintro e w' ⟨rfl,rfl⟩;go_wp2_with fail
      refine(BC _ _ _ _ _ hwi.out).mono ?_;rintro e w' ⟨rfl,rfl⟩;go_wp2_with fail
      refine(C0 _ _ _ _ (show AH 84=some 3 from rfl)).mono ?_;rintro e w' ⟨rfl,rfl⟩;go_wp2;go_ret;exact⟨congrArg (fun b=>Ending.returned (.bool b)) (D6 hF.out hst.out (hst'.out.trans ((if_neg (by omega)).trans (if_pos (.inr (.inr (.inl hq1))))))).symm,hB.out.setCell (by simp;omega) _⟩
     by_cases hq2:r.q = -1
     ·have hq2b:(r.q != -1)=false:=bne_eq_false_iff_eq.2 hq2;have hq2:=Az hq2;go_wp2_with fail
      refine(B0 _ _ _ hfo'.out).mono ?_;rintro e w' ⟨rfl,rfl⟩;go_wp2_with fail
      refine(BC _ _ _ _ _ hwi.out).mono ?_;rintro e w' ⟨rfl,rfl⟩;go_wp2_with fail
      refine(C0 _ _ _ _ (show AH 84=some 3 from rfl)).mono ?_;rintro e w' ⟨rfl,rfl⟩;go_wp2;go_roundw
      case rel=>exact⟨kk+1,{r with k:=0,t:=0,q:=0},by go_num,by omega,⟨by simp,by simp⟩,⟨Bs (Bs (Bs (hK.out) 6 (.int .u32 0)) 3 (.int .i64 0)) 7 (.int .i64 0)⟩,⟨DE (DE (DE (hR.out) (by simp) _) (by simp) _) (by simp) _⟩,⟨(((hB.out).setCell (by simp;omega) _).setCell (by simp;omega) _).setCell (by simp;omega) _⟩,⟨FT hF.out hst.out (hst'.out.trans ((if_neg (by omega)).trans (if_neg (by have:=hq2.out;omega))))⟩,⟨by simpa using hZ.out⟩⟩
      case measure=>simp[intOf];omega
     ·have hq2b:(r.q != -1)=true:=bne_iff_ne.2 hq2;by_cases hq3:places≤r.q
      ·go_wp2_with fail
       refine(B0 _ _ _ hfo'.out).mono ?_;rintro e w' ⟨rfl,rfl⟩;go_wp2_with fail
       refine(BC _ _ _ _ _ hwi.out).mono ?_;rintro e w' ⟨rfl,rfl⟩;go_wp2_with fail
       refine(C0 _ _ _ _ (show AH 84=some 3 from rfl)).mono ?_;rintro e w' ⟨rfl,rfl⟩;go_wp2;go_ret;exact⟨congrArg (fun b=>Ending.returned (.bool b)) (D6 hF.out hst.out (hst'.out.trans ((if_neg (by omega)).trans (if_pos (.inr (.inr (.inr ⟨hq2,hq3⟩))))))).symm,hB.out.setCell (by simp;omega) _⟩
      ·go_wp2_with fail
       refine(B0 _ _ _ hfo'.out).mono ?_;rintro e w' ⟨rfl,rfl⟩;go_wp2_with fail
       refine(BC _ _ _ _ _ hwi.out).mono ?_;rintro e w' ⟨rfl,rfl⟩;go_wp2_with fail
       refine(C0 _ _ _ _ (show AH 84=some 3 from rfl)).mono ?_;rintro e w' ⟨rfl,rfl⟩;go_wp2;go_roundw
       case rel=>exact⟨kk+1,{r with k:=0,t:=0,q:=0},by go_num,by omega,⟨by simp,by simp⟩,⟨Bs (Bs (Bs (hK.out) 6 (.int .u32 0)) 3 (.int .i64 0)) 7 (.int .i64 0)⟩,⟨DE (DE (DE (hR.out) (by simp) _) (by simp) _) (by simp) _⟩,⟨(((hB.out).setCell (by simp;omega) _).setCell (by simp;omega) _).setCell (by simp;omega) _⟩,⟨FT hF.out hst.out (hst'.out.trans ((if_neg (by omega)).trans (if_neg (by omega))))⟩,⟨by simpa using hZ.out⟩⟩
       case measure=>simp[intOf];omega
    ·by_cases h80:sg=80
     ·subst h80;have hst':=Az (QI (places:=places) (r:=r));have hwi:=Az (show within 80=(0,0,false) from rfl);by_cases hq1:r.q<0
      ·go_wp2_with fail
       refine(B0 _ _ _ hfo'.out).mono ?_;rintro e w' ⟨rfl,rfl⟩;go_wp2_with fail
       refine(BC _ _ _ _ _ hwi.out).mono ?_;rintro e w' ⟨rfl,rfl⟩;go_wp2;go_ret;exact⟨congrArg (fun b=>Ending.returned (.bool b)) (D6 hF.out hst.out (hst'.out.trans (if_pos (.inl hq1)))).symm,hB.out⟩
      ·by_cases hq2:places≤r.q
       ·go_wp2_with fail
        refine(B0 _ _ _ hfo'.out).mono ?_;rintro e w' ⟨rfl,rfl⟩;go_wp2_with fail
        refine(BC _ _ _ _ _ hwi.out).mono ?_;rintro e w' ⟨rfl,rfl⟩;go_wp2;go_ret;exact⟨congrArg (fun b=>Ending.returned (.bool b)) (D6 hF.out hst.out (hst'.out.trans (if_pos (.inr hq2)))).symm,hB.out⟩
       ·go_wp2_with fail
        refine(B0 _ _ _ hfo'.out).mono ?_;rintro e w' ⟨rfl,rfl⟩;go_wp2_with fail
        refine(BC _ _ _ _ _ hwi.out).mono ?_;rintro e w' ⟨rfl,rfl⟩;go_wp2;go_roundw
        case rel=>exact⟨kk+1,{r with q:=0},by go_num,by omega,hwr,⟨Bs (hK.out) 7 (.int .i64 0)⟩,⟨DE (hR.out) (by simp) _⟩,⟨(hB.out).setCell (by simp;omega) _⟩,⟨FT hF.out hst.out (hst'.out.trans (if_neg (by omega)))⟩,⟨by simpa using hZ.out⟩⟩
        case measure=>simp[intOf];omega
     ·obtain⟨lo,hi,b,hwi⟩:∃ lo hi b,within sg=(lo,hi,b):=⟨_,_,_,rfl⟩
      cases b with
      |true =>
       obtain⟨_,n87,n80,hst'⟩:=V0 (places:=places) (r:=r) hwi hwr h87;have hst':=Az hst';have hwi:=Az hwi;by_cases hk1:r.k<lo
       ·go_wp2_with fail
        refine(B0 _ _ _ hfo'.out).mono ?_;rintro e w' ⟨rfl,rfl⟩;go_wp2_with fail
        refine(BC _ _ _ _ _ hwi.out).mono ?_;rintro e w' ⟨rfl,rfl⟩;go_wp2;go_ret;exact⟨congrArg (fun b=>Ending.returned (.bool b)) (D6 hF.out hst.out (hst'.out.trans (if_pos (.inl hk1)))).symm,hB.out⟩
       ·by_cases hk2:hi<r.k
        ·go_wp2_with fail
         refine(B0 _ _ _ hfo'.out).mono ?_;rintro e w' ⟨rfl,rfl⟩;go_wp2_with fail
         refine(BC _ _ _ _ _ hwi.out).mono ?_;rintro e w' ⟨rfl,rfl⟩;go_wp2;go_ret;exact⟨congrArg (fun b=>Ending.returned (.bool b)) (D6 hF.out hst.out (hst'.out.trans (if_pos (.inr hk2)))).symm,hB.out⟩
        ·go_wp2_with fail
         refine(B0 _ _ _ hfo'.out).mono ?_;rintro e w' ⟨rfl,rfl⟩;go_wp2_with fail
         refine(BC _ _ _ _ _ hwi.out).mono ?_;rintro e w' ⟨rfl,rfl⟩;go_wp2;go_roundw
         case rel=>exact⟨kk+1,{r with k:=0},by go_num,by omega,⟨by simp,by simp⟩,⟨Bs (hK.out) 6 (.int .u32 0)⟩,⟨DE (hR.out) (by simp) _⟩,⟨(hB.out).setCell (by simp;omega) _⟩,⟨FT hF.out hst.out (hst'.out.trans (if_neg (by omega)))⟩,⟨by simpa using hZ.out⟩⟩
         case measure=>simp[intOf];omega
      |false =>
       obtain⟨hst',rfl,rfl,_⟩:=Ou (places:=places) (r:=r) hfo'.out hwi h80;have hst':=Az hst';have hwi:=Az hwi;have n87:(sg==87)=false:=Bq h87;have n80:(sg==80)=false:=Bq h80;go_wp2_with fail
       refine(B0 _ _ _ hfo'.out).mono ?_;rintro e w' ⟨rfl,rfl⟩;go_wp2_with fail
       refine(BC _ _ _ _ _ hwi.out).mono ?_;rintro e w' ⟨rfl,rfl⟩;go_wp2;go_roundw
       case rel=>exact⟨kk+1,r,by go_num,by omega,hwr,hK,hR,hB,⟨FT hF.out hst.out hst'.out⟩,hZ⟩
       case measure=>simp[intOf];omega
  ·have hkl:kk=l.length:=by omega
   have c0:wr.cell? ⟨w1.heap.size+1,0,none⟩=some (.int .i64 r.op):=(Bc hK.out 0).trans rfl;have c1:wr.cell? ⟨w1.heap.size+1,1,none⟩=some (.int .i64 r.d):=(Bc hK.out 1).trans rfl;have c2:wr.cell? ⟨w1.heap.size+1,2,none⟩=some (.int .i64 r.s):=(Bc hK.out 2).trans rfl;have c3:wr.cell? ⟨w1.heap.size+1,3,none⟩=some (.int .i64 r.t):=(Bc hK.out 3).trans rfl;have c4:wr.cell? ⟨w1.heap.size+1,4,none⟩=some (.int .i64 r.u):=(Bc hK.out 4).trans rfl;have c5:wr.cell? ⟨w1.heap.size+1,5,none⟩=some (.int .i64 r.a):=(Bc hK.out 5).trans rfl;have c6:wr.cell? ⟨w1.heap.size+1,6,none⟩=some (.int .u32 r.k):=(Bc hK.out 6).trans rfl;have c7:wr.cell? ⟨w1.heap.size+1,7,none⟩=some (.int .i64 r.q):=(Bc hK.out 7).trans rfl;have hkl:=Az hkl;go_wp2;all_goals go_ret
   all_goals refine⟨congrArg (fun b=>Ending.returned (.bool b)) (V8 hkl.out hF.out ?_),hB.out⟩
   all_goals (simp only[*];simp)
theorem PQ(op d s t u a k q places:Int)(w:World)(hn:Aj op=[]) :
  Calls Tryz.prog 123 #[.agg #[.int .i64 op,.int .i64 d,.int .i64 s,.int .i64 t,.int .i64 u,.int .i64 a,.int .u32 k,.int .i64 q],.int .i64 places] w fun e w'=>e=.returned (.bool false)∧Below w.heap.size w w':=by
 have HN:=Az hn;clear hn;go_enter Tryz.func123,Tryz.ntmps123;go_wp2_with fail
 refine(GR _ _).mono ?_;rintro e w1 ⟨rfl,hb⟩;rw[HN.out];have z:w.heap.size<w1.heap.size:=Bl (Bk hb (Bv w _));go_wp2;go_ret;exact⟨rfl,(((Below.refl w.heap.size w).alloc (Nl _) _).trans (hb.mono (by simp))).alloc (Nat.le_of_lt z) _⟩
theorem J3(i:In)(places:Int)(hwk:i.wk)(w:World) :
  Calls Tryz.prog 123 #[i.v,.int .i64 places] w fun e w'=>e=.returned (.bool (AO i places))∧Below w.heap.size w w':=by
 cases i with
 |mk op d s t u a k q =>
  by_cases h:Aj op=[]
  ·have e:AO ⟨op,d,s,t,u,a,k,q⟩ places=false:=by unfold AO;rw[if_pos h]
   rw[e];exact PQ op d s t u a k q places w h
  ·exact PO op d s t u a k q places hwk w h
end
section
open Go Go.Deep Go.Joins Go.ChangeShapes Go.WideShapes Go.ChangeAt Go.RowKit

end
section
open Go Go.ChangeShapes Go.WideShapes Go.ChangeAt Go.RowKit
theorem own:ownKnob Tryz.prog.godebug=none:=by kernel_rfl
theorem Zv:Tryz.prog.globalNamed "internal/strconv.uint64pow10" = some 5:=by kernel_rfl
theorem Zw:Tryz.prog.globalNamed "strconv.ErrSyntax" = some 1:=by kernel_rfl
theorem Zx:Tryz.prog.globalNamed "strconv.ErrRange" = some 2:=by kernel_rfl
theorem Zy:(Tryz.prog.globals[5]?).map (·.type)=some 228:=by kernel_rfl
theorem Zz:(Tryz.prog.globals[1]?).map (·.type)=some 172:=by kernel_rfl
theorem Z0:(Tryz.prog.globals[2]?).map (·.type)=some 172:=by kernel_rfl
theorem ZE:Tryz.prog.cellsOf 187=1:=by kernel_rfl
theorem c20:Tryz.prog.cellsOf 228=20:=by kernel_rfl
theorem QV : "*" ++ "errors.errorString" = "*errors.errorString" :=by decide +kernel
theorem Ul(u:TypeId)(h:Tryz.prog.typeName? 3 u=some "*errors.errorString"):u=224 :=
 typeName_ptr_named (nm := "errors.errorString") (by rw[QV];kernel_rfl) (by kernel_rfl) (by decide) u (by rw[QV];exact h)
def OR:List (String×DataW Unit):=Rows.ticketPlaysRow.laid
theorem E2{W:World}(h:laidMetH Tryz.prog OR W)(hs:W.ShapedOpen Tryz.prog):Env W:=by
 rw[MakeChecks.laidMetH_plain _ _ _ (by kernel_rfl)]at h;have h2:=h.tail.tail;have h4:=h2.tail.tail;have h5:=h4.tail;obtain⟨a1,s1,hv1,_⟩:=laid_sentinel h4 Zx Z0 Tryz.underlying172 Ul Tryz.underlying224 Tryz.underlying226 rfl rfl Tryz.underlying9 (by kernel_rfl) (by kernel_rfl);obtain⟨a2,s2,hv2,_⟩:=laid_sentinel h5 Zw Zz Tryz.underlying172 Ul Tryz.underlying224 Tryz.underlying226 rfl rfl Tryz.underlying9 (by kernel_rfl) (by kernel_rfl);exact⟨hs,Lib.tabIs_of_head (zs:=Lib.pow10Tab) Zv Zy Tryz.underlying228 Tryz.underlying187 ZE c20 h2,⟨_,_,hv2⟩,⟨_,_,hv1⟩⟩
noncomputable def By (os:Os):World :=
 {World.doorLaid Tryz.prog 72 os with heap:=(World.doorLaid Tryz.prog 72 os).heap.modify 3 fun
  |.cells _ t frozen=>.cells (Lib.firstTab.map (Value.int .u8)).toArray t frozen
  |o=>o}
theorem Dt(os:Os)(args:Array Value):laidMetH Tryz.prog OR ((By os).forCall (fun _ _=>0) ⟨#[],args,[]⟩).memory :=
 laidMetH_of_parts3 (fuel:=8) (laidMet_of_run' 8 (by kernel_rfl) (by kernel_rfl)) (by kernel_rfl) (by kernel_rfl)
theorem Ds{H:Type}{enc:TypeId×Value→H}{P:Program}{f:Func}{s:ChangeSpec}{W W':World}{args:Array Value}{ds gs:List (DataW H)}{before pa:List MemPlace}{v:Value}
  (hW:DataW.Whole enc P f.params.toList s.vars false W args.toList ds gs before)(hb:Below W.heap.size W W')
  (hres:∀ (b:Nat) (sp:Nat→Bool) (hd:Bool),DataW.TrodAll enc P W' b sp hd f.resultTypes.toList (v.resultList f.resultTypes.size) (s.fn H (ds++gs)).results [])
  (hargs:DataW.TrodAll enc P W' 0 (fun b=>decide (b<W.heap.size)) true f.params.toList args.toList (s.fn H (ds++gs)).args pa)
  (hvars:∀ sp:Nat→Bool,DataW.TrodVars enc P W' sp s.vars (s.fn H (ds++gs)).vars []) :
  s.post enc P f false true false false W args v W' :=
 ⟨ds,gs,before,[],pa,[],hW,hres _ _ _,hargs,hvars _,hb.frame _,fun h=>by cases h⟩
end
section
open Go Go.Lib
def Bh:List UInt8→List (List UInt8)
 |[]=>[]
 |c::l=>if c=10 then [10]::Bh l else
  match Bh l with
  |[]=>[[c]]
  |w::ws=>(c::w)::ws
def EF(c:UInt8):Bool:=decide (97≤c.toNat∧c.toNat≤122)
def LK(c:UInt8):Bool:=decide (48≤c.toNat∧c.toNat≤57)
def Cq(l:List UInt8):Bool:=decide (1≤l.length∧l.length≤16)&&EF (l.headD 0)&&l.all (fun c=>EF c||LK c)
def DV(i:In):Bool:=decide ((8≤i.op∧i.op≤10)∨(i.op=21∧0≤i.q))
def CG(s:List UInt8):List UInt8:=(AT s).getLastD []
def BR(s:List UInt8):List UInt8:=s.take (s.length-(CG s).length)
def FZ(s:List UInt8):In×List UInt8×Bool :=
 let r:=DZ (BR s++[48])
 if r.2=0∧DV r.1=true then (r.1,CG s,Cq (CG s)) else
 let r:=DZ s
 (r.1,[],decide (r.2=0)&&!DV r.1)
structure Src where
 l:List In
 names:List (List UInt8)
 rows:List Int
 labels:List (List UInt8×Nat)
def Src.zero:Src:=⟨[],[],[],[]⟩
def Src.at(x:Src)(s:List UInt8):Option Nat:=(x.labels.find? (fun p=>p.1==s)).map (·.2)
def Cx(x:Src)(s:List UInt8)(n:Int):Src×Int :=
 if s.getLast?≠some 10 then (x,8) else
 let s:=s.dropLast
 if s.getLast?=some 58∧Cq s.dropLast=true then
  (if (x.at s.dropLast).isSome then (x,2) else ({x with labels:=(s.dropLast,x.l.length)::x.labels},0))
 else
  let r:=FZ s
  if r.2.2=false then (x,8)
  else if 64≤x.l.length then (x,9)
  else ({x with l:=x.l++[r.1],names:=x.names++[r.2.1],rows:=x.rows++[n]},0)
def Dc:List (List UInt8)→Int→Src→Src×Int×Int
 |[],n,x=>(x,n,0)
 |s::ls,n,x=>if (Cx x s (n+1)).2=0 then Dc ls (n+1) (Cx x s (n+1)).1 else (x,n+1,(Cx x s (n+1)).2)
def Src.place(x:Src)(s:List UInt8):Option Nat:=(x.at s).filter (·<x.l.length)
structure Pg where
 l:List In
 lock:Int
 unlock:Int
deriving DecidableEq
def Pg.zero:Pg:=⟨[],0,0⟩
def fixF(x:Src):List In→List (List UInt8)→List Int→List In ⊕ Int
 |i::l,s::names,r::rows =>
  if s=[] then (match fixF x l names rows with |.inl k=>.inl (i::k) |.inr e=>.inr e)
  else match x.place s with
   |none=>.inr r
   |some p=>match fixF x l names rows with |.inl k=>.inl ({i with q:=p}::k) |.inr e=>.inr e
 |_,_,_=>.inl []
def BE(t:List UInt8):Pg×Int×Int :=
 let r:=Dc (Bh t) 0 Src.zero
 if r.2.2≠0 then (Pg.zero,r.2.1,r.2.2) else
 match fixF r.1 r.1.l r.1.names r.1.rows with
 |.inr e=>(Pg.zero,e,10)
 |.inl k=>match r.1.place [108,111,99,107],r.1.place [117,110,108,111,99,107]with
  |some a,some b=>(⟨k,a,b⟩,0,0)
  |_,_=>(Pg.zero,0,10)
end
section
open Go.RowKit Go.Maps Go.Proofs.YtnmahobjmpdkdaaGreatDoorW.PrintWords
def Eg(L:List (List UInt8×Nat))(s:List UInt8):Option Nat:=(L.find? (fun p=>p.1==s)).map (·.2)
theorem PJ(k:List UInt8)(p:Nat)(L:List (List UInt8×Nat))(s:List UInt8):Eg ((k,p)::L) s=if k=s then some p else Eg L s:=by
 unfold Eg;by_cases h:k=s
 ·rw[if_pos h,List.find?_cons_of_pos (by simpa using h)];rfl
 ·rw[if_neg h,List.find?_cons_of_neg (by simpa using h)]
def FC(W:World)(bm:Nat)(L:List (List UInt8×Nat)):Prop :=
 ∃ (n:Nat) (D:DataW Unit),W.ownsMap Tryz.prog 9 (plainElem Tryz.prog 3) bm n D∧IsMap D∧n≤L.length ∧
  ∀ s:List UInt8,has D (.string s)=(Eg L s).isSome∧D.atKey (.string s) (.lit (.int .i64 0))=.lit (.int .i64 ((Eg L s).getD 0:Nat))
theorem FC.made(w:World):FC (w.alloc (.map #[] 0)) w.heap.size [] :=
 ⟨0,.map [],World.ownsMap_made w _ _ _,isMap_empty,Nl _,fun s=>⟨rfl,rfl⟩⟩
theorem T9(s:List UInt8)(hs:s.length≤1000000):keyOf Tryz.prog 9 (.string ⟨s.toArray⟩)=some (.string s):=by
 have h:(⟨s.toArray⟩:ByteArray).size≤maxLen:=by simp[ByteArray.size,maxLen];omega
 simp[keyOf,mapKey,Tryz.underlying9,h]
section
variable {ops:Array Oper} {rest:List Oper} {o:Oper} {a:Act} {Q:Exit→Act→World→Prop} {W:World}
theorem KH(hg:o.guard=none)(m x:Operand)(hop:o.op=.lookup 95 m x true)(bm:Nat)(L:List (List UInt8×Nat))(hm:a.eval m=.map (some bm))(h:FC W bm L)
  (s:List UInt8)(hs:s.length≤1000000)(hx:a.eval x=.string ⟨s.toArray⟩)
  (hK:wpList Tryz.prog ops Q rest (a.put o.dst (.tuple #[.int .i64 ((Eg L s).getD 0:Nat),.bool (Eg L s).isSome])) W):wpList Tryz.prog ops Q (o::rest) a W:=by
 obtain⟨n,D,ho,hi,hn,hL⟩:=h;refine wpList_lookup_own_ok_int W hg m x 95 hop 9 3 .i64 (string_keyed Tryz.underlying9) Tryz.underlying95 Tryz.underlying3 (Tryz.zeroValue3 _) bm n D hm ho _ (.string s) hx (T9 s hs) ?_;intro c hat hw;rw[(hL s).2]at hat;have e:c=(((Eg L s).getD 0:Nat):Int):=by
  injection hat with h1
  injection h1 with _ h2
  exact h2.symm
 rw[e,(hL s).1];exact hK
end
end
end Go.Proofs.YtnmahobjmpdkdaaGreatDoor
