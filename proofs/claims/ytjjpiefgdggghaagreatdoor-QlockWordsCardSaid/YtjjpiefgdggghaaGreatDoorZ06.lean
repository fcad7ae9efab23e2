/- Parts: Of. -/
import Derived.Test.YtjjpiefgdggghaaGreatDoorZ02
import Derived.Test.YtjjpiefgdggghaaGreatDoorZ04
set_option linter.unusedVariables false
set_option linter.unusedSimpArgs false
set_option maxRecDepth 100000
set_option maxHeartbeats 40000000
namespace Go.Proofs.YtjjpiefgdggghaaGreatDoor
section
open Go.RowKit Go.Proofs.YtjjpiefgdggghaaGreatDoorW.PrintWords
theorem IG(op:Int)(w:World)(hn:¬(1≤op∧op≤13)) :
  Calls Tryz.prog 165 #[.int .i64 op] w fun e w'=>e=.returned (.agg #[.string ⟨(Ag op).toArray⟩,.string ⟨(AK op).toArray⟩])∧Below w.heap.size w w':=by
 by_cases h16:op=16
 ·subst h16;go_enter Tryz.func165,Tryz.ntmps165;go_wp2;exact bodyPost_ret (v:=.agg #[.string ⟨#[108,111,97,100]⟩,.string ⟨#[68,65,83]⟩]) (by simp[results,Tryz.results165,go_sem]) rfl ⟨rfl,by apply_rules [Below.setCell,Below.alloc,Below.refl]<;>simp⟩
 by_cases h17:op=17
 ·subst h17;go_enter Tryz.func165,Tryz.ntmps165;go_wp2;exact bodyPost_ret (v:=.agg #[.string ⟨#[115,116,111,114,101]⟩,.string ⟨#[65,83,84]⟩]) (by simp[results,Tryz.results165,go_sem]) rfl ⟨rfl,by apply_rules [Below.setCell,Below.alloc,Below.refl]<;>simp⟩
 by_cases h18:op=18
 ·subst h18;go_enter Tryz.func165,Tryz.ntmps165;go_wp2;exact bodyPost_ret (v:=.agg #[.string ⟨#[115,119,97,112]⟩,.string ⟨#[68,65,83,84]⟩]) (by simp[results,Tryz.results165,go_sem]) rfl ⟨rfl,by apply_rules [Below.setCell,Below.alloc,Below.refl]<;>simp⟩
 by_cases h19:op=19
 ·subst h19;go_enter Tryz.func165,Tryz.ntmps165;go_wp2;exact bodyPost_ret (v:=.agg #[.string ⟨#[99,97,115]⟩,.string ⟨#[68,65,83,84,85]⟩]) (by simp[results,Tryz.results165,go_sem]) rfl ⟨rfl,by apply_rules [Below.setCell,Below.alloc,Below.refl]<;>simp⟩
 by_cases h20:op=20
 ·subst h20;go_enter Tryz.func165,Tryz.ntmps165;go_wp2;exact bodyPost_ret (v:=.agg #[.string ⟨#[102,97,100,100]⟩,.string ⟨#[68,65,83,75]⟩]) (by simp[results,Tryz.results165,go_sem]) rfl ⟨rfl,by apply_rules [Below.setCell,Below.alloc,Below.refl]<;>simp⟩
 by_cases h21:op=21
 ·subst h21;go_enter Tryz.func165,Tryz.ntmps165;go_wp2;exact bodyPost_ret (v:=.agg #[.string ⟨#[97,119,97,105,116]⟩,.string ⟨#[68,65,83,87]⟩]) (by simp[results,Tryz.results165,go_sem]) rfl ⟨rfl,by apply_rules [Below.setCell,Below.alloc,Below.refl]<;>simp⟩
 by_cases h22:op=22
 ·subst h22;go_enter Tryz.func165,Tryz.ntmps165;go_wp2;exact bodyPost_ret (v:=.agg #[.string ⟨#[116,97,107,101]⟩,.string ⟨#[68]⟩]) (by simp[results,Tryz.results165,go_sem]) rfl ⟨rfl,by apply_rules [Below.setCell,Below.alloc,Below.refl]<;>simp⟩
 by_cases h23:op=23
 ·subst h23;go_enter Tryz.func165,Tryz.ntmps165;go_wp2;exact bodyPost_ret (v:=.agg #[.string ⟨#[102,114,101,101]⟩,.string ⟨#[83]⟩]) (by simp[results,Tryz.results165,go_sem]) rfl ⟨rfl,by apply_rules [Below.setCell,Below.alloc,Below.refl]<;>simp⟩
 have g16:(op==16)=false:=Bq h16;have g17:(op==17)=false:=Bq h17;have g18:(op==18)=false:=Bq h18;have g19:(op==19)=false:=Bq h19;have g20:(op==20)=false:=Bq h20;have g21:(op==21)=false:=Bq h21;have g22:(op==22)=false:=Bq h22;have g23:(op==23)=false:=Bq h23;have e1:Ag op=[]:=by unfold Ag;repeat (first |rw[if_neg (by omega)] |rfl)
 have e2:AK op=[]:=by unfold AK;repeat (first |rw[if_neg (by omega)] |rfl)
 rw[e1,e2];clear e1 e2;go_enter Tryz.func165,Tryz.ntmps165;go_wp2;exact bodyPost_ret (v:=.agg #[.string ⟨#[]⟩,.string ⟨#[]⟩]) (by simp[results,Tryz.results165,go_sem]) rfl ⟨rfl,by apply_rules [Below.setCell,Below.alloc,Below.refl]<;>simp⟩
theorem E8(op:Int)(w:World) :
  Calls Tryz.prog 147 #[.int .i64 op] w fun e w'=>e=.returned (.agg #[.string ⟨(Ag op).toArray⟩,.string ⟨(AK op).toArray⟩])∧Below w.heap.size w w':=by
 by_cases h1:op=1
 ·subst h1;go_enter Tryz.func147,Tryz.ntmps147;go_wp2;exact bodyPost_ret (v:=.agg #[.string ⟨#[99,111,110,115,116]⟩,.string ⟨#[68,75]⟩]) (by simp[results,Tryz.results147,go_sem]) rfl ⟨rfl,by apply_rules [Below.setCell,Below.alloc,Below.refl]<;>simp⟩
 by_cases h2:op=2
 ·subst h2;go_enter Tryz.func147,Tryz.ntmps147;go_wp2;exact bodyPost_ret (v:=.agg #[.string ⟨#[109,111,118,101]⟩,.string ⟨#[68,83]⟩]) (by simp[results,Tryz.results147,go_sem]) rfl ⟨rfl,by apply_rules [Below.setCell,Below.alloc,Below.refl]<;>simp⟩
 by_cases h3:op=3
 ·subst h3;go_enter Tryz.func147,Tryz.ntmps147;go_wp2;exact bodyPost_ret (v:=.agg #[.string ⟨#[97,100,100,107]⟩,.string ⟨#[68,83,75]⟩]) (by simp[results,Tryz.results147,go_sem]) rfl ⟨rfl,by apply_rules [Below.setCell,Below.alloc,Below.refl]<;>simp⟩
 by_cases h4:op=4
 ·subst h4;go_enter Tryz.func147,Tryz.ntmps147;go_wp2;exact bodyPost_ret (v:=.agg #[.string ⟨#[97,110,100,107]⟩,.string ⟨#[68,83,75]⟩]) (by simp[results,Tryz.results147,go_sem]) rfl ⟨rfl,by apply_rules [Below.setCell,Below.alloc,Below.refl]<;>simp⟩
 by_cases h5:op=5
 ·subst h5;go_enter Tryz.func147,Tryz.ntmps147;go_wp2;exact bodyPost_ret (v:=.agg #[.string ⟨#[115,104,108]⟩,.string ⟨#[68,83,66]⟩]) (by simp[results,Tryz.results147,go_sem]) rfl ⟨rfl,by apply_rules [Below.setCell,Below.alloc,Below.refl]<;>simp⟩
 by_cases h6:op=6
 ·subst h6;go_enter Tryz.func147,Tryz.ntmps147;go_wp2;exact bodyPost_ret (v:=.agg #[.string ⟨#[115,104,114]⟩,.string ⟨#[68,83,66]⟩]) (by simp[results,Tryz.results147,go_sem]) rfl ⟨rfl,by apply_rules [Below.setCell,Below.alloc,Below.refl]<;>simp⟩
 by_cases h7:op=7
 ·subst h7;go_enter Tryz.func147,Tryz.ntmps147;go_wp2;exact bodyPost_ret (v:=.agg #[.string ⟨#[111,114]⟩,.string ⟨#[68,83,84]⟩]) (by simp[results,Tryz.results147,go_sem]) rfl ⟨rfl,by apply_rules [Below.setCell,Below.alloc,Below.refl]<;>simp⟩
 by_cases h8:op=8
 ·subst h8;go_enter Tryz.func147,Tryz.ntmps147;go_wp2;exact bodyPost_ret (v:=.agg #[.string ⟨#[98,101,113]⟩,.string ⟨#[83,84,80]⟩]) (by simp[results,Tryz.results147,go_sem]) rfl ⟨rfl,by apply_rules [Below.setCell,Below.alloc,Below.refl]<;>simp⟩
 by_cases h9:op=9
 ·subst h9;go_enter Tryz.func147,Tryz.ntmps147;go_wp2;exact bodyPost_ret (v:=.agg #[.string ⟨#[98,110,101]⟩,.string ⟨#[83,84,80]⟩]) (by simp[results,Tryz.results147,go_sem]) rfl ⟨rfl,by apply_rules [Below.setCell,Below.alloc,Below.refl]<;>simp⟩
 by_cases h10:op=10
 ·subst h10;go_enter Tryz.func147,Tryz.ntmps147;go_wp2;exact bodyPost_ret (v:=.agg #[.string ⟨#[106,117,109,112]⟩,.string ⟨#[80]⟩]) (by simp[results,Tryz.results147,go_sem]) rfl ⟨rfl,by apply_rules [Below.setCell,Below.alloc,Below.refl]<;>simp⟩
 by_cases h11:op=11
 ·subst h11;go_enter Tryz.func147,Tryz.ntmps147;go_wp2;exact bodyPost_ret (v:=.agg #[.string ⟨#[115,101,108,102]⟩,.string ⟨#[68]⟩]) (by simp[results,Tryz.results147,go_sem]) rfl ⟨rfl,by apply_rules [Below.setCell,Below.alloc,Below.refl]<;>simp⟩
 by_cases h12:op=12
 ·subst h12;go_enter Tryz.func147,Tryz.ntmps147;go_wp2;exact bodyPost_ret (v:=.agg #[.string ⟨#[109,97,114,107]⟩,.string ⟨#[77]⟩]) (by simp[results,Tryz.results147,go_sem]) rfl ⟨rfl,by apply_rules [Below.setCell,Below.alloc,Below.refl]<;>simp⟩
 by_cases h13:op=13
 ·subst h13;go_enter Tryz.func147,Tryz.ntmps147;go_wp2;exact bodyPost_ret (v:=.agg #[.string ⟨#[100,111,110,101]⟩,.string ⟨#[79]⟩]) (by simp[results,Tryz.results147,go_sem]) rfl ⟨rfl,by apply_rules [Below.setCell,Below.alloc,Below.refl]<;>simp⟩
 have g1:(op==1)=false:=Bq h1;have g2:(op==2)=false:=Bq h2;have g3:(op==3)=false:=Bq h3;have g4:(op==4)=false:=Bq h4;have g5:(op==5)=false:=Bq h5;have g6:(op==6)=false:=Bq h6;have g7:(op==7)=false:=Bq h7;have g8:(op==8)=false:=Bq h8;have g9:(op==9)=false:=Bq h9;have g10:(op==10)=false:=Bq h10;have g11:(op==11)=false:=Bq h11;have g12:(op==12)=false:=Bq h12;have g13:(op==13)=false:=Bq h13;have hn:¬(1≤op∧op≤13):=by omega
 clear h1 h2 h3 h4 h5 h6 h7 h8 h9 h10 h11 h12 h13;go_enter Tryz.func147,Tryz.ntmps147;go_wp2_with fail
 refine(IG op _ hn).mono ?_;rintro e w' ⟨rfl,hb⟩;have BK:=Az (show w'.heap[w.heap.size]?=some (.cells #[.string ⟨#[]⟩,.string ⟨#[]⟩] 198 (0,0)) from Bk hb (Bv w _));have z:w.heap.size<w'.heap.size:=Bl BK.out;have c0:w'.cell? ⟨w.heap.size,0,none⟩=some (.string ⟨#[]⟩):=(Bc BK.out 0).trans rfl;have c1:w'.cell? ⟨w.heap.size,1,none⟩=some (.string ⟨#[]⟩):=(Bc BK.out 1).trans rfl;have f0:=Bf BK.out 0;have f1:=Bf BK.out 1;go_wp2;refine bodyPost_ret (results_cell_row rfl _ _ w.heap.size 198 #[.string ⟨(Ag op).toArray⟩,.string ⟨(AK op).toArray⟩] (0,0) _ rfl (Bs (Bs BK.out 0 _) 1 _) Tryz.underlying198 rfl (by kernel_rfl)) rfl ⟨rfl,?_⟩;exact((((Below.refl _ _).alloc (Nl _) _).trans (hb.mono (by simp))).setCell (by simp) _).setCell (by simp) _
end
end Go.Proofs.YtjjpiefgdggghaaGreatDoor
