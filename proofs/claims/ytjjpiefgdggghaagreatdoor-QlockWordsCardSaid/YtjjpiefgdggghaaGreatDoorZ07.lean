/- Parts: Right, In8, Goes. -/
import Derived.Test.YtjjpiefgdggghaaGreatDoorZ02
import Derived.Test.YtjjpiefgdggghaaGreatDoorZ05
import Derived.Test.YtjjpiefgdggghaaGreatDoorZ04
import Derived.Test.YtjjpiefgdggghaaGreatDoorZ06
import Derived.ProofKit
import Derived.Lib.SmallJoins
import Derived.OpenShut
import Derived.Deep.Fields
set_option linter.unusedVariables false
set_option linter.unusedSimpArgs false
set_option maxRecDepth 100000
set_option maxHeartbeats 40000000
namespace Go.Proofs.YtjjpiefgdggghaaGreatDoor
section
open Go.RowKit Go.Proofs.YtjjpiefgdggghaaGreatDoorW.PrintWords
def In.v(i:In):Value:=.agg #[.int .i64 i.op,.int .i64 i.d,.int .i64 i.s,.int .i64 i.t,.int .i64 i.u,.int .i64 i.a,.int .u32 i.k,.int .i64 i.q]
def In.cs(i:In):Array Value:=#[.int .i64 i.op,.int .i64 i.d,.int .i64 i.s,.int .i64 i.t,.int .i64 i.u,.int .i64 i.a,.int .u32 i.k,.int .i64 i.q]
theorem In.c(i:In)(j:Nat)(h1:1≤j)(h5:j≤5):i.cs[j]?=some (.int .i64 (i.get j)):=by
 match j,h1,h5 with
 |1,_,_=>rfl
 |2,_,_=>rfl
 |3,_,_=>rfl
 |4,_,_=>rfl
 |5,_,_=>rfl
theorem In.JY(i:In)(v:Int)(j:Nat)(h1:1≤j)(h5:j≤5):i.cs.setIfInBounds j (.int .i64 v)=(i.put v j).cs:=by
 match j,h1,h5 with
 |1,_,_=>rfl
 |2,_,_=>rfl
 |3,_,_=>rfl
 |4,_,_=>rfl
 |5,_,_=>rfl
theorem Cm{places sg:Int}{l:List UInt8}{kk:Nat}{r:In}{fin:Bool}(hF:B0 (AF places (l.drop kk) r)=fin)
  (hst:AF places (l.drop kk) r=(Bn places sg r).bind (AF places (l.drop (kk+1))))(h:Bn places sg r=none):fin=false:=by
 rw[hst,h]at hF;exact hF.symm
theorem DY{places sg:Int}{l:List UInt8}{kk:Nat}{r r':In}{fin:Bool}(hF:B0 (AF places (l.drop kk) r)=fin)
  (hst:AF places (l.drop kk) r=(Bn places sg r).bind (AF places (l.drop (kk+1))))(h:Bn places sg r=some r'):B0 (AF places (l.drop (kk+1)) r')=fin:=by
 rw[hst,h]at hF;exact hF
theorem In.Mb(r:In):r=In.zero↔(r.op=0∧r.d=0∧r.s=0∧r.t=0∧r.u=0∧r.a=0∧r.k=0∧r.q=0):=by
 cases r;simp[In.zero]
theorem Ny{places:Int}{l:List UInt8}{kk:Nat}{r:In}{fin b:Bool}(hk:kk=l.length)(hF:B0 (AF places (l.drop kk) r)=fin)
  (h:b=decide (r.op=0∧r.d=0∧r.s=0∧r.t=0∧r.u=0∧r.a=0∧r.k=0∧r.q=0)):b=fin:=by
 subst hk;rw[List.drop_length]at hF;rw[←hF,h];simp only[AF,B0,In.Mb]
theorem JZ(op d s t u a k q places:Int)(hwk:0≤k∧k≤4294967295)(w:World)(hn:Ag op≠[]) :
  Calls Tryz.prog 168 #[.agg #[.int .i64 op,.int .i64 d,.int .i64 s,.int .i64 t,.int .i64 u,.int .i64 a,.int .u32 k,.int .i64 q],.int .i64 places] w fun e w'=>e=.returned (.bool (Av ⟨op,d,s,t,u,a,k,q⟩ places))∧Below w.heap.size w w':=by
 have hne:(Ag op).isEmpty=false:=by cases h:Ag op<;>simp_all
 rw[AR _ _ hn];clear hn;dsimp only;have hsz:(AK op).length≤5:=EU op;have kb:=fun W=>E7 (P:=Tryz.prog) 9 142 5 Tryz.underlying9 Tryz.underlying142 Tryz.underlying5 ⟨(AK op).toArray⟩ W
 generalize hl:AK op=l at hsz kb ⊢;generalize hn:Ag op=nm at hne ⊢;have HL:=Az hl;have HN:=Az hn;clear hl hn;generalize hf:B0 (AF places l ⟨0,d,s,t,u,a,k,q⟩)=fin;have HF:=Az hf;clear hf;go_enter Tryz.func168,Tryz.ntmps168;go_wp2_with fail
 refine(E8 _ _).mono ?_;rintro e w1 ⟨rfl,hb⟩;rw[HL.out,HN.out];have BK:=Az (Bk hb (Bv w _));have z:w.heap.size<w1.heap.size:=Bl BK.out;have c0:w1.cell? ⟨w.heap.size,0,none⟩=some (.int .i64 op):=(Bc BK.out 0).trans rfl;have c1:w1.cell? ⟨w.heap.size,1,none⟩=some (.int .i64 d):=(Bc BK.out 1).trans rfl;have c2:w1.cell? ⟨w.heap.size,2,none⟩=some (.int .i64 s):=(Bc BK.out 2).trans rfl;have c3:w1.cell? ⟨w.heap.size,3,none⟩=some (.int .i64 t):=(Bc BK.out 3).trans rfl;have c4:w1.cell? ⟨w.heap.size,4,none⟩=some (.int .i64 u):=(Bc BK.out 4).trans rfl;have c5:w1.cell? ⟨w.heap.size,5,none⟩=some (.int .i64 a):=(Bc BK.out 5).trans rfl;have c6:w1.cell? ⟨w.heap.size,6,none⟩=some (.int .u32 k):=(Bc BK.out 6).trans rfl;have c7:w1.cell? ⟨w.heap.size,7,none⟩=some (.int .i64 q):=(Bc BK.out 7).trans rfl;go_wp2_with fail
 clear c0 c1 c2 c3 c4 c5 c6 c7 kb;generalize grownCap _ _ _ _=cap;have hB0:=Az (((Below.refl w.heap.size w).alloc (Nl _) (.cells (In.cs ⟨op,d,s,t,u,a,k,q⟩) 126)).trans (hb.mono (by simp)));have hB1:=Az (DH ((hB0.out.alloc (Nat.le_of_lt z) (.cells #[.string ⟨nm.toArray⟩,.string ⟨l.toArray⟩] 198)).alloc (by simp;omega) (.cells (In.cs ⟨0,d,s,t,u,a,k,q⟩) 126)) (by simp;omega) 5 ⟨l.toArray⟩);have hR1:=Az (Fx ((w1.alloc (.cells #[.string ⟨nm.toArray⟩,.string ⟨l.toArray⟩] 198)).alloc (.cells (In.cs ⟨0,d,s,t,u,a,k,q⟩) 126)) 5 l (w1.heap.size+1+1) (by simp) (by omega));have hK1:=Az (Dv (Cx w1 (.cells #[.string ⟨nm.toArray⟩,.string ⟨l.toArray⟩] 198) (.cells (In.cs ⟨0,d,s,t,u,a,k,q⟩) 126)) 5 ⟨l.toArray⟩);go_loopw [28] (fun v wr=>∃ (kk:Nat) (r:In),v=.int .i64 kk∧kk≤l.length∧r.wk∧Ai (wr.heap[w1.heap.size+1]?=some (.cells r.cs 126 (0,0)))∧Ai (B9 wr .u8 (some ⟨w1.heap.size+1+1,0,none⟩) l.length (bytesOf ⟨l.toArray⟩))∧Ai (Below w.heap.size w wr)∧Ai (B0 (AF places (l.drop kk) r)=fin)∧Ai (w1.heap.size+1+1<wr.heap.size)) (fun v wr=>l.length-(intOf v).toNat)
 case atStart=>exact⟨0,⟨0,d,s,t,u,a,k,q⟩,rfl,Nat.zero_le _,hwk,hK1,hR1,hB1,by simpa using HF,⟨by rw[Lib.bytesWorld_size];simp⟩⟩
 case round =>
  clear hB0 hB1 hR1 hK1;obtain⟨kk,r,rfl,hkk,hwr,hK,hR,hB,hF,hZ⟩:=hrel;by_cases hlt:kk<l.length
  ·have hby:=GD hR.out kk hlt;have hst:=Az (Mc places l kk r hlt);generalize hs0:((l.getD kk 0).toNat:Int)=sg at hby hst;have HS:=Az hs0;clear hs0;cases hfo:Ap sg with
   |some j =>
    have hj:=E2 hfo;obtain⟨n87,n80⟩:=Jc hfo;have hst':=Az (DI (places:=places) (r:=r) hfo);have cj:wr.cell? ⟨w1.heap.size+1,j,none⟩=some (.int .i64 (r.get j)):=(Bc hK.out j).trans (r.c j hj.1 hj.2);have fj:=Bf hK.out j;have hwi:=Az (Gs hfo);have hfo':=Az hfo;clear hfo;by_cases h1:r.get j<0
    ·go_wp2_with fail
     refine(BC _ _ _ _ hfo'.out).mono ?_;rintro e w' ⟨rfl,rfl⟩;go_wp2;go_ret;exact⟨congrArg (fun b=>Ending.returned (.bool b)) (Cm hF.out hst.out (hst'.out.trans (if_pos (.inl h1)))).symm,hB.out⟩
    ·by_cases h2:7<r.get j
     ·go_wp2_with fail
      refine(BC _ _ _ _ hfo'.out).mono ?_;rintro e w' ⟨rfl,rfl⟩;go_wp2;go_ret;exact⟨congrArg (fun b=>Ending.returned (.bool b)) (Cm hF.out hst.out (hst'.out.trans (if_pos (.inr h2)))).symm,hB.out⟩
     ·go_wp2_with fail
      refine(BC _ _ _ _ hfo'.out).mono ?_;rintro e w' ⟨rfl,rfl⟩;go_wp2_with fail
      refine(AY _ _ _ _ _ hwi.out).mono ?_;rintro e w' ⟨rfl,rfl⟩;go_wp2;go_roundw
      case rel=>exact⟨kk+1,r.put 0 j,by go_num,by omega,In.Md hwr _ _,⟨by have:=Bs hK.out j (.int .i64 0);rw[In.JY _ _ _ hj.1 hj.2]at this;exact this⟩,⟨Cq hR.out (by simp) _⟩,⟨hB.out.setCell (by simp;omega) _⟩,⟨DY hF.out hst.out (hst'.out.trans (if_neg (by omega)))⟩,⟨by simpa using hZ.out⟩⟩
      case measure=>simp[intOf];omega
   |none =>
    have c3:wr.cell? ⟨w1.heap.size+1,3,none⟩=some (.int .i64 r.t):=(Bc hK.out 3).trans rfl;have c6:wr.cell? ⟨w1.heap.size+1,6,none⟩=some (.int .u32 r.k):=(Bc hK.out 6).trans rfl;have c7:wr.cell? ⟨w1.heap.size+1,7,none⟩=some (.int .i64 r.q):=(Bc hK.out 7).trans rfl;have f3:=Bf hK.out 3;have f6:=Bf hK.out 6;have f7:=Bf hK.out 7;have hfo':=Az hfo;clear hfo;by_cases h87:sg=87
    ·subst h87;have hst':=Az (KF (places:=places) (r:=r));have hwi:=Az (show within 87=(0,1,true) from rfl);have hk0:¬r.k<0:=by have:=hwr.1;omega
     by_cases hk2:1<r.k
     ·go_wp2_with fail
      refine(AQ _ _ _ hfo'.out).mono ?_;rintro e w' ⟨rfl,rfl⟩;go_wp2_with fail
      refine(AY _ _ _ _ _ hwi.out).mono ?_;rintro e w' ⟨rfl,rfl⟩;go_wp2;go_ret;exact⟨congrArg (fun b=>Ending.returned (.bool b)) (Cm hF.out hst.out (hst'.out.trans (if_pos hk2))).symm,hB.out⟩
     by_cases ht1:r.t<0
     ·go_wp2_with fail
      refine(AQ _ _ _ hfo'.out).mono ?_;rintro e w' ⟨rfl,rfl⟩;go_wp2_with fail
      refine(AY _ _ _ _ _ hwi.out).mono ?_;rintro e w' ⟨rfl,rfl⟩;go_wp2_with fail
      refine(BC _ _ _ _ (show Ap 84=some 3 from rfl)).mono ?_;rintro e w' ⟨rfl,rfl⟩;go_wp2;go_ret;exact⟨congrArg (fun b=>Ending.returned (.bool b)) (Cm hF.out hst.out (hst'.out.trans ((if_neg (by omega)).trans (if_pos (.inl ht1))))).symm,hB.out.setCell (by simp;omega) _⟩
     by_cases ht2:7<r.t
     ·go_wp2_with fail
      refine(AQ _ _ _ hfo'.out).mono ?_;rintro e w' ⟨rfl,rfl⟩;go_wp2_with fail
      refine(AY _ _ _ _ _ hwi.out).mono ?_;rintro e w' ⟨rfl,rfl⟩;go_wp2_with fail
      refine(BC _ _ _ _ (show Ap 84=some 3 from rfl)).mono ?_;rintro e w' ⟨rfl,rfl⟩;go_wp2;go_ret;exact⟨congrArg (fun b=>Ending.returned (.bool b)) (Cm hF.out hst.out (hst'.out.trans ((if_neg (by omega)).trans (if_pos (.inr (.inl ht2)))))).symm,hB.out.setCell (by simp;omega) _⟩
     by_cases hq1:r.q < -1
     ·go_wp2_with fail
      refine(AQ _ _ _ hfo'.out).mono ?_;rintro e w' ⟨rfl,rfl⟩;go_wp2_with fail
      refine(AY _ _ _ _ _ hwi.out).mono ?_;rintro e w' ⟨rfl,rfl⟩;go_wp2_with fail
      refine(BC _ _ _ _ (show Ap 84=some 3 from rfl)).mono ?_;rintro e w' ⟨rfl,rfl⟩;go_wp2;go_ret;exact⟨congrArg (fun b=>Ending.returned (.bool b)) (Cm hF.out hst.out (hst'.out.trans ((if_neg (by omega)).trans (if_pos (.inr (.inr (.inl hq1))))))).symm,hB.out.setCell (by simp;omega) _⟩
     by_cases hq2:r.q = -1
     ·have hq2b:(r.q != -1)=false:=bne_eq_false_iff_eq.2 hq2;have hq2:=Az hq2;go_wp2_with fail
      refine(AQ _ _ _ hfo'.out).mono ?_;rintro e w' ⟨rfl,rfl⟩;go_wp2_with fail
      refine(AY _ _ _ _ _ hwi.out).mono ?_;rintro e w' ⟨rfl,rfl⟩;go_wp2_with fail
      refine(BC _ _ _ _ (show Ap 84=some 3 from rfl)).mono ?_;rintro e w' ⟨rfl,rfl⟩;go_wp2;go_roundw
      case rel=>exact⟨kk+1,{r with k:=0,t:=0,q:=0},by go_num,by omega,⟨by simp,by simp⟩,⟨Bs (Bs (Bs (hK.out) 6 (.int .u32 0)) 3 (.int .i64 0)) 7 (.int .i64 0)⟩,⟨Cq (Cq (Cq (hR.out) (by simp) _) (by simp) _) (by simp) _⟩,⟨(((hB.out).setCell (by simp;omega) _).setCell (by simp;omega) _).setCell (by simp;omega) _⟩,⟨DY hF.out hst.out (hst'.out.trans ((if_neg (by omega)).trans (if_neg (by have:=hq2.out;omega))))⟩,⟨by simpa using hZ.out⟩⟩
      case measure=>simp[intOf];omega
     ·have hq2b:(r.q != -1)=true:=bne_iff_ne.2 hq2;by_cases hq3:places≤r.q
      ·go_wp2_with fail
       refine(AQ _ _ _ hfo'.out).mono ?_;rintro e w' ⟨rfl,rfl⟩;go_wp2_with fail
       refine(AY _ _ _ _ _ hwi.out).mono ?_;rintro e w' ⟨rfl,rfl⟩;go_wp2_with fail
       refine(BC _ _ _ _ (show Ap 84=some 3 from rfl)).mono ?_;rintro e w' ⟨rfl,rfl⟩;go_wp2;go_ret;exact⟨congrArg (fun b=>Ending.returned (.bool b)) (Cm hF.out hst.out (hst'.out.trans ((if_neg (by omega)).trans (if_pos (.inr (.inr (.inr ⟨hq2,hq3⟩))))))).symm,hB.out.setCell (by simp;omega) _⟩
      ·go_wp2_with fail
       refine(AQ _ _ _ hfo'.out).mono ?_;rintro e w' ⟨rfl,rfl⟩;go_wp2_with fail
       refine(AY _ _ _ _ _ hwi.out).mono ?_;rintro e w' ⟨rfl,rfl⟩;go_wp2_with fail
       refine(BC _ _ _ _ (show Ap 84=some 3 from rfl)).mono ?_;rintro e w' ⟨rfl,rfl⟩;go_wp2;go_roundw
       case rel=>exact⟨kk+1,{r with k:=0,t:=0,q:=0},by go_num,by omega,⟨by simp,by simp⟩,⟨Bs (Bs (Bs (hK.out) 6 (.int .u32 0)) 3 (.int .i64 0)) 7 (.int .i64 0)⟩,⟨Cq (Cq (Cq (hR.out) (by simp) _) (by simp) _) (by simp) _⟩,⟨(((hB.out).setCell (by simp;omega) _).setCell (by simp;omega) _).setCell (by simp;omega) _⟩,⟨DY hF.out hst.out (hst'.out.trans ((if_neg (by omega)).trans (if_neg (by omega))))⟩,⟨by simpa using hZ.out⟩⟩
       case measure=>simp[intOf];omega
    ·by_cases h80:sg=80
     ·subst h80;have hst':=Az (KG (places:=places) (r:=r));have hwi:=Az (show within 80=(0,0,false) from rfl);by_cases hq1:r.q<0
      ·go_wp2_with fail
       refine(AQ _ _ _ hfo'.out).mono ?_;rintro e w' ⟨rfl,rfl⟩;go_wp2_with fail
       refine(AY _ _ _ _ _ hwi.out).mono ?_;rintro e w' ⟨rfl,rfl⟩;go_wp2;go_ret;exact⟨congrArg (fun b=>Ending.returned (.bool b)) (Cm hF.out hst.out (hst'.out.trans (if_pos (.inl hq1)))).symm,hB.out⟩
      ·by_cases hq2:places≤r.q
       ·go_wp2_with fail
        refine(AQ _ _ _ hfo'.out).mono ?_;rintro e w' ⟨rfl,rfl⟩;go_wp2_with fail
        refine(AY _ _ _ _ _ hwi.out).mono ?_;rintro e w' ⟨rfl,rfl⟩;go_wp2;go_ret;exact⟨congrArg (fun b=>Ending.returned (.bool b)) (Cm hF.out hst.out (hst'.out.trans (if_pos (.inr hq2)))).symm,hB.out⟩
       ·go_wp2_with fail
        refine(AQ _ _ _ hfo'.out).mono ?_;rintro e w' ⟨rfl,rfl⟩;go_wp2_with fail
        refine(AY _ _ _ _ _ hwi.out).mono ?_;rintro e w' ⟨rfl,rfl⟩;go_wp2;go_roundw
        case rel=>exact⟨kk+1,{r with q:=0},by go_num,by omega,hwr,⟨Bs (hK.out) 7 (.int .i64 0)⟩,⟨Cq (hR.out) (by simp) _⟩,⟨(hB.out).setCell (by simp;omega) _⟩,⟨DY hF.out hst.out (hst'.out.trans (if_neg (by omega)))⟩,⟨by simpa using hZ.out⟩⟩
        case measure=>simp[intOf];omega
     ·obtain⟨lo,hi,b,hwi⟩:∃ lo hi b,within sg=(lo,hi,b):=⟨_,_,_,rfl⟩
      cases b with
      |true =>
       obtain⟨_,n87,n80,hst'⟩:=Nz (places:=places) (r:=r) hwi hwr h87;have hst':=Az hst';have hwi:=Az hwi;by_cases hk1:r.k<lo
       ·go_wp2_with fail
        refine(AQ _ _ _ hfo'.out).mono ?_;rintro e w' ⟨rfl,rfl⟩;go_wp2_with fail
        refine(AY _ _ _ _ _ hwi.out).mono ?_;rintro e w' ⟨rfl,rfl⟩;go_wp2;go_ret;exact⟨congrArg (fun b=>Ending.returned (.bool b)) (Cm hF.out hst.out (hst'.out.trans (if_pos (.inl hk1)))).symm,hB.out⟩
       ·by_cases hk2:hi<r.k
        ·go_wp2_with fail
         refine(AQ _ _ _ hfo'.out).mono ?_;rintro e w' ⟨rfl,rfl⟩;go_wp2_with fail
         refine(AY _ _ _ _ _ hwi.out).mono ?_;rintro e w' ⟨rfl,rfl⟩;go_wp2;go_ret;exact⟨congrArg (fun b=>Ending.returned (.bool b)) (Cm hF.out hst.out (hst'.out.trans (if_pos (.inr hk2)))).symm,hB.out⟩
        ·go_wp2_with fail
         refine(AQ _ _ _ hfo'.out).mono ?_;rintro e w' ⟨rfl,rfl⟩;go_wp2_with fail
         refine(AY _ _ _ _ _ hwi.out).mono ?_;rintro e w' ⟨rfl,rfl⟩;go_wp2;go_roundw
         case rel=>exact⟨kk+1,{r with k:=0},by go_num,by omega,⟨by simp,by simp⟩,⟨Bs (hK.out) 6 (.int .u32 0)⟩,⟨Cq (hR.out) (by simp) _⟩,⟨(hB.out).setCell (by simp;omega) _⟩,⟨DY hF.out hst.out (hst'.out.trans (if_neg (by omega)))⟩,⟨by simpa using hZ.out⟩⟩
         case measure=>simp[intOf];omega
      |false =>
       obtain⟨hst',rfl,rfl,_⟩:=Jd (places:=places) (r:=r) hfo'.out hwi h80;have hst':=Az hst';have hwi:=Az hwi;have n87:(sg==87)=false:=Bq h87;have n80:(sg==80)=false:=Bq h80;go_wp2_with fail
       refine(AQ _ _ _ hfo'.out).mono ?_;rintro e w' ⟨rfl,rfl⟩;go_wp2_with fail
       refine(AY _ _ _ _ _ hwi.out).mono ?_;rintro e w' ⟨rfl,rfl⟩;go_wp2;go_roundw
       case rel=>exact⟨kk+1,r,by go_num,by omega,hwr,hK,hR,hB,⟨DY hF.out hst.out hst'.out⟩,hZ⟩
       case measure=>simp[intOf];omega
  ·have hkl:kk=l.length:=by omega
   have c0:wr.cell? ⟨w1.heap.size+1,0,none⟩=some (.int .i64 r.op):=(Bc hK.out 0).trans rfl;have c1:wr.cell? ⟨w1.heap.size+1,1,none⟩=some (.int .i64 r.d):=(Bc hK.out 1).trans rfl;have c2:wr.cell? ⟨w1.heap.size+1,2,none⟩=some (.int .i64 r.s):=(Bc hK.out 2).trans rfl;have c3:wr.cell? ⟨w1.heap.size+1,3,none⟩=some (.int .i64 r.t):=(Bc hK.out 3).trans rfl;have c4:wr.cell? ⟨w1.heap.size+1,4,none⟩=some (.int .i64 r.u):=(Bc hK.out 4).trans rfl;have c5:wr.cell? ⟨w1.heap.size+1,5,none⟩=some (.int .i64 r.a):=(Bc hK.out 5).trans rfl;have c6:wr.cell? ⟨w1.heap.size+1,6,none⟩=some (.int .u32 r.k):=(Bc hK.out 6).trans rfl;have c7:wr.cell? ⟨w1.heap.size+1,7,none⟩=some (.int .i64 r.q):=(Bc hK.out 7).trans rfl;have hkl:=Az hkl;go_wp2;all_goals go_ret
   all_goals refine⟨congrArg (fun b=>Ending.returned (.bool b)) (Ny hkl.out hF.out ?_),hB.out⟩
   all_goals (simp only[*];simp)
theorem Ka(op d s t u a k q places:Int)(w:World)(hn:Ag op=[]) :
  Calls Tryz.prog 168 #[.agg #[.int .i64 op,.int .i64 d,.int .i64 s,.int .i64 t,.int .i64 u,.int .i64 a,.int .u32 k,.int .i64 q],.int .i64 places] w fun e w'=>e=.returned (.bool false)∧Below w.heap.size w w':=by
 have HN:=Az hn;clear hn;go_enter Tryz.func168,Tryz.ntmps168;go_wp2_with fail
 refine(E8 _ _).mono ?_;rintro e w1 ⟨rfl,hb⟩;rw[HN.out];have z:w.heap.size<w1.heap.size:=Bl (Bk hb (Bv w _));go_wp2;go_ret;exact⟨rfl,(((Below.refl w.heap.size w).alloc (Nl _) _).trans (hb.mono (by simp))).alloc (Nat.le_of_lt z) _⟩
theorem FY(i:In)(places:Int)(hwk:i.wk)(w:World) :
  Calls Tryz.prog 168 #[i.v,.int .i64 places] w fun e w'=>e=.returned (.bool (Av i places))∧Below w.heap.size w w':=by
 cases i with
 |mk op d s t u a k q =>
  by_cases h:Ag op=[]
  ·have e:Av ⟨op,d,s,t,u,a,k,q⟩ places=false:=by unfold Av;rw[if_pos h]
   rw[e];exact Ka op d s t u a k q places w h
  ·exact JZ op d s t u a k q places hwk w h
end
section
open Go Go.Deep Go.Joins Go.ChangeShapes Go.WideShapes Go.ChangeAt Go.RowKit

end
section
open Go.RowKit Go.Proofs.YtjjpiefgdggghaaGreatDoorW.PrintWords
theorem JG(W:World)(o:Obj):Below W.heap.size W (W.alloc o):=(Below.refl _ _).alloc (Nl _) o
theorem Ho(i:In)(w:World):Calls Tryz.prog 123 #[i.v] w fun e w'=>e=.returned (.bool (CE i))∧Below w.heap.size w w':=by
 obtain⟨op,d,s,t,u,a,k,q⟩:=i;have hb:=JG w (.cells #[.int .i64 op,.int .i64 d,.int .i64 s,.int .i64 t,.int .i64 u,.int .i64 a,.int .u32 k,.int .i64 q] 126);obtain⟨r,hr⟩:∃ r,CE ⟨op,d,s,t,u,a,k,q⟩=r:=⟨_,rfl⟩
 rw[hr];have hg:r=decide ((8≤op∧op≤10)∨(op=21∧0≤q)):=hr.symm;dsimp only[In.v];clear hr;go_enter Tryz.func123,Tryz.ntmps123;by_cases h1:8≤op
 ·by_cases h2:op≤10
  ·obtain rfl:r=true:=by rw[hg];exact decide_eq_true (by omega)
   clear hg;go_wp2;go_ret;exact⟨rfl,hb⟩
  ·by_cases h3:op=21
   ·by_cases h4:0≤q
    ·obtain rfl:r=true:=by rw[hg];exact decide_eq_true (by omega)
     subst h3;clear hg;go_wp2;go_ret;exact⟨rfl,hb⟩
    ·obtain rfl:r=false:=by rw[hg];exact decide_eq_false (by omega)
     subst h3;clear hg;go_wp2;go_ret;exact⟨rfl,hb⟩
   ·have x:(op==21)=false:=Bq h3;obtain rfl:r=false:=by rw[hg];exact decide_eq_false (by omega)
    clear h3;clear hg;go_wp2;go_ret;exact⟨rfl,hb⟩
 ·by_cases h3:op=21
  ·omega
  ·have x:(op==21)=false:=Bq h3;obtain rfl:r=false:=by rw[hg];exact decide_eq_false (by omega)
   clear h3;clear hg;go_wp2;go_ret;exact⟨rfl,hb⟩
theorem Gj(i:In)(w:World):Calls Tryz.prog 93 #[i.v] w fun e w'=>e=.returned (.bool (CE i))∧Below w.heap.size w w':=by
 obtain⟨op,d,s,t,u,a,k,q⟩:=i;have hb:=JG w (.cells #[.int .i64 op,.int .i64 d,.int .i64 s,.int .i64 t,.int .i64 u,.int .i64 a,.int .u32 k,.int .i64 q] 114);obtain⟨r,hr⟩:∃ r,CE ⟨op,d,s,t,u,a,k,q⟩=r:=⟨_,rfl⟩
 rw[hr];have hg:r=decide ((8≤op∧op≤10)∨(op=21∧0≤q)):=hr.symm;dsimp only[In.v];clear hr;go_enter Tryz.func93,Tryz.ntmps93;by_cases h1:8≤op
 ·by_cases h2:op≤10
  ·obtain rfl:r=true:=by rw[hg];exact decide_eq_true (by omega)
   clear hg;go_wp2;go_ret;exact⟨rfl,hb⟩
  ·by_cases h3:op=21
   ·by_cases h4:0≤q
    ·obtain rfl:r=true:=by rw[hg];exact decide_eq_true (by omega)
     subst h3;clear hg;go_wp2;go_ret;exact⟨rfl,hb⟩
    ·obtain rfl:r=false:=by rw[hg];exact decide_eq_false (by omega)
     subst h3;clear hg;go_wp2;go_ret;exact⟨rfl,hb⟩
   ·have x:(op==21)=false:=Bq h3;obtain rfl:r=false:=by rw[hg];exact decide_eq_false (by omega)
    clear h3;clear hg;go_wp2;go_ret;exact⟨rfl,hb⟩
 ·by_cases h3:op=21
  ·omega
  ·have x:(op==21)=false:=Bq h3;obtain rfl:r=false:=by rw[hg];exact decide_eq_false (by omega)
   clear h3;clear hg;go_wp2;go_ret;exact⟨rfl,hb⟩
end
end Go.Proofs.YtjjpiefgdggghaaGreatDoor
