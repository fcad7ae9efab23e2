/- Parts: Right, In8, One, Goes. -/
import Derived.Test.YtjjpiefgdggghaaGreatDoorK05
import Derived.Test.YtjjpiefgdggghaaGreatDoorK06
import Derived.Test.YtjjpiefgdggghaaGreatDoorK02
import Derived.Test.YtjjpiefgdggghaaGreatDoorK07
import Derived.ProofKit
import Derived.Lib.SmallJoins
import Derived.OpenShut
import Derived.Deep.Fields
import Derived.Test.YtjjpiefgdggghaaGreatDoorK10
import Derived.Deep.RegionHeld3
import Derived.Test.YtjjpiefgdggghaaGreatDoorK04
set_option linter.unusedVariables false
set_option linter.unusedSimpArgs false
set_option maxRecDepth 100000
set_option maxHeartbeats 40000000
namespace Go.Proofs.YtjjpiefgdggghaaGreatDoor
section
open Go.RowKit Go.Proofs.YtjjpiefgdggghaaGreatDoorW.PrintWords
def In.v(i:In):Value:=.agg #[.int .i64 i.op,.int .i64 i.d,.int .i64 i.s,.int .i64 i.t,.int .i64 i.u,.int .i64 i.a,.int .u32 i.k,.int .i64 i.q]
def In.cs(i:In):Array Value:=#[.int .i64 i.op,.int .i64 i.d,.int .i64 i.s,.int .i64 i.t,.int .i64 i.u,.int .i64 i.a,.int .u32 i.k,.int .i64 i.q]
theorem In.c(i:In)(j:Nat)(h1:1≤j)(h5:j≤5):i.cs[j]?=some (.int .i64 (i.get j)):=by
 match j,h1,h5 with
 |1,_,_=>rfl
 |2,_,_=>rfl
 |3,_,_=>rfl
 |4,_,_=>rfl
 |5,_,_=>rfl
theorem In.Qm(i:In)(v:Int)(j:Nat)(h1:1≤j)(h5:j≤5):i.cs.setIfInBounds j (.int .i64 v)=(i.put v j).cs:=by
 match j,h1,h5 with
 |1,_,_=>rfl
 |2,_,_=>rfl
 |3,_,_=>rfl
 |4,_,_=>rfl
 |5,_,_=>rfl
theorem DA{places sg:Int}{l:List UInt8}{kk:Nat}{r:In}{fin:Bool}(hF:Ce (Bh places (l.drop kk) r)=fin)
  (hst:Bh places (l.drop kk) r=(BN places sg r).bind (Bh places (l.drop (kk+1))))(h:BN places sg r=none):fin=false:=by
 rw[hst,h]at hF;exact hF.symm
theorem Gp{places sg:Int}{l:List UInt8}{kk:Nat}{r r':In}{fin:Bool}(hF:Ce (Bh places (l.drop kk) r)=fin)
  (hst:Bh places (l.drop kk) r=(BN places sg r).bind (Bh places (l.drop (kk+1))))(h:BN places sg r=some r'):Ce (Bh places (l.drop (kk+1)) r')=fin:=by
 rw[hst,h]at hF;exact hF
theorem In.UQ(r:In):r=In.zero↔(r.op=0∧r.d=0∧r.s=0∧r.t=0∧r.u=0∧r.a=0∧r.k=0∧r.q=0):=by
 cases r;simp[In.zero]
theorem Xd{places:Int}{l:List UInt8}{kk:Nat}{r:In}{fin b:Bool}(hk:kk=l.length)(hF:Ce (Bh places (l.drop kk) r)=fin)
  (h:b=decide (r.op=0∧r.d=0∧r.s=0∧r.t=0∧r.u=0∧r.a=0∧r.k=0∧r.q=0)):b=fin:=by
 subst hk;rw[List.drop_length]at hF;rw[←hF,h];simp only[Bh,Ce,In.UQ]
theorem QL(op d s t u a k q places:Int)(hwk:0≤k∧k≤4294967295)(w:World)(hn:Ak op≠[]) :
  Calls Tryz.prog 168 #[.agg #[.int .i64 op,.int .i64 d,.int .i64 s,.int .i64 t,.int .i64 u,.int .i64 a,.int .u32 k,.int .i64 q],.int .i64 places] w fun e w'=>e=.returned (.bool (AN ⟨op,d,s,t,u,a,k,q⟩ places))∧Below w.heap.size w w':=by
 have hne:(Ak op).isEmpty=false:=by cases h:Ak op<;>simp_all
 rw[BA _ _ hn];clear hn;dsimp only;have hsz:(Br op).length≤5:=H4 op;have kb:=fun W=>Hh (P:=Tryz.prog) 9 142 5 Tryz.underlying9 Tryz.underlying142 Tryz.underlying5 ⟨(Br op).toArray⟩ W
 generalize hl:Br op=l at hsz kb ⊢;generalize hn:Ak op=nm at hne ⊢;have HL:=Az hl;have HN:=Az hn;clear hl hn;generalize hf:Ce (Bh places l ⟨0,d,s,t,u,a,k,q⟩)=fin;have HF:=Az hf;clear hf;go_enter Tryz.func168,Tryz.ntmps168;go_wp2_with fail
 refine(Hi _ _).mono ?_;rintro e w1 ⟨rfl,hb⟩;rw[HL.out,HN.out];have BK:=Az (Bk hb (Bv w _));have z:w.heap.size<w1.heap.size:=Bl BK.out;have c0:w1.cell? ⟨w.heap.size,0,none⟩=some (.int .i64 op):=(Bc BK.out 0).trans rfl;have c1:w1.cell? ⟨w.heap.size,1,none⟩=some (.int .i64 d):=(Bc BK.out 1).trans rfl;have c2:w1.cell? ⟨w.heap.size,2,none⟩=some (.int .i64 s):=(Bc BK.out 2).trans rfl;have c3:w1.cell? ⟨w.heap.size,3,none⟩=some (.int .i64 t):=(Bc BK.out 3).trans rfl;have c4:w1.cell? ⟨w.heap.size,4,none⟩=some (.int .i64 u):=(Bc BK.out 4).trans rfl;have c5:w1.cell? ⟨w.heap.size,5,none⟩=some (.int .i64 a):=(Bc BK.out 5).trans rfl;have c6:w1.cell? ⟨w.heap.size,6,none⟩=some (.int .u32 k):=(Bc BK.out 6).trans rfl;have c7:w1.cell? ⟨w.heap.size,7,none⟩=some (.int .i64 q):=(Bc BK.out 7).trans rfl;go_wp2_with fail
 clear c0 c1 c2 c3 c4 c5 c6 c7 kb;generalize grownCap _ _ _ _=cap;have hB0:=Az (((Below.refl w.heap.size w).alloc (Nl _) (.cells (In.cs ⟨op,d,s,t,u,a,k,q⟩) 126)).trans (hb.mono (by simp)));have hB1:=Az (FH ((hB0.out.alloc (Nat.le_of_lt z) (.cells #[.string ⟨nm.toArray⟩,.string ⟨l.toArray⟩] 198)).alloc (by simp;omega) (.cells (In.cs ⟨0,d,s,t,u,a,k,q⟩) 126)) (by simp;omega) 5 ⟨l.toArray⟩);have hR1:=Az (IL ((w1.alloc (.cells #[.string ⟨nm.toArray⟩,.string ⟨l.toArray⟩] 198)).alloc (.cells (In.cs ⟨0,d,s,t,u,a,k,q⟩) 126)) 5 l (w1.heap.size+1+1) (by simp) (by omega));have hK1:=Az (EY (Dh w1 (.cells #[.string ⟨nm.toArray⟩,.string ⟨l.toArray⟩] 198) (.cells (In.cs ⟨0,d,s,t,u,a,k,q⟩) 126)) 5 ⟨l.toArray⟩);go_loopw [28] (fun v wr=>∃ (kk:Nat) (r:In),v=.int .i64 kk∧kk≤l.length∧r.wk∧Af (wr.heap[w1.heap.size+1]?=some (.cells r.cs 126 (0,0)))∧Af (Cr wr .u8 (some ⟨w1.heap.size+1+1,0,none⟩) l.length (bytesOf ⟨l.toArray⟩))∧Af (Below w.heap.size w wr)∧Af (Ce (Bh places (l.drop kk) r)=fin)∧Af (w1.heap.size+1+1<wr.heap.size)) (fun v wr=>l.length-(intOf v).toNat)
 case atStart=>exact⟨0,⟨0,d,s,t,u,a,k,q⟩,rfl,Nat.zero_le _,hwk,hK1,hR1,hB1,by simpa using HF,⟨by rw[Lib.bytesWorld_size];simp⟩⟩
 case round =>
  clear hB0 hB1 hR1 hK1;obtain⟨kk,r,rfl,hkk,hwr,hK,hR,hB,hF,hZ⟩:=hrel;by_cases hlt:kk<l.length
  ·have hby:=L0 hR.out kk hlt;have hst:=Az (U6 places l kk r hlt);generalize hs0:((l.getD kk 0).toNat:Int)=sg at hby hst;have HS:=Az hs0;clear hs0;cases hfo:AE sg with
   |some j =>
    have hj:=Hc hfo;obtain⟨n87,n80⟩:=Pj hfo;have hst':=Az (FE (places:=places) (r:=r) hfo);have cj:wr.cell? ⟨w1.heap.size+1,j,none⟩=some (.int .i64 (r.get j)):=(Bc hK.out j).trans (r.c j hj.1 hj.2);have fj:=Bf hK.out j;have hwi:=Az (Kv hfo);have hfo':=Az hfo;clear hfo;by_cases h1:r.get j<0
    ·go_wp2_with fail
     refine(Cz _ _ _ _ hfo'.out).mono ?_;rintro e w' ⟨rfl,rfl⟩;go_wp2;go_ret;exact⟨congrArg (fun b=>Ending.returned (.bool b)) (DA hF.out hst.out (hst'.out.trans (if_pos (.inl h1)))).symm,hB.out⟩
    ·by_cases h2:7<r.get j
     ·go_wp2_with fail
      refine(Cz _ _ _ _ hfo'.out).mono ?_;rintro e w' ⟨rfl,rfl⟩;go_wp2;go_ret;exact⟨congrArg (fun b=>Ending.returned (.bool b)) (DA hF.out hst.out (hst'.out.trans (if_pos (.inr h2)))).symm,hB.out⟩
     ·go_wp2_with fail
      refine(Cz _ _ _ _ hfo'.out).mono ?_;rintro e w' ⟨rfl,rfl⟩;go_wp2_with fail
      refine(BE _ _ _ _ _ hwi.out).mono ?_;rintro e w' ⟨rfl,rfl⟩;go_wp2;go_roundw
      case rel=>exact⟨kk+1,r.put 0 j,by go_num,by omega,In.U7 hwr _ _,⟨by have:=Bs hK.out j (.int .i64 0);rw[In.Qm _ _ _ hj.1 hj.2]at this;exact this⟩,⟨DG hR.out (by simp) _⟩,⟨hB.out.setCell (by simp;omega) _⟩,⟨Gp hF.out hst.out (hst'.out.trans (if_neg (by omega)))⟩,⟨by simpa using hZ.out⟩⟩
      case measure=>simp[intOf];omega
   |none =>
    have c3:wr.cell? ⟨w1.heap.size+1,3,none⟩=some (.int .i64 r.t):=(Bc hK.out 3).trans rfl;have c6:wr.cell? ⟨w1.heap.size+1,6,none⟩=some (.int .u32 r.k):=(Bc hK.out 6).trans rfl;have c7:wr.cell? ⟨w1.heap.size+1,7,none⟩=some (.int .i64 r.q):=(Bc hK.out 7).trans rfl;have f3:=Bf hK.out 3;have f6:=Bf hK.out 6;have f7:=Bf hK.out 7;have hfo':=Az hfo;clear hfo;by_cases h87:sg=87
    ·subst h87;have hst':=Az (RM (places:=places) (r:=r));have hwi:=Az (show within 87=(0,1,true) from rfl);have hk0:¬r.k<0:=by have:=hwr.1;omega
     by_cases hk2:1<r.k
     ·go_wp2_with fail
      refine(B5 _ _ _ hfo'.out).mono ?_;rintro e w' ⟨rfl,rfl⟩;go_wp2_with fail
      refine(BE _ _ _ _ _ hwi.out).mono ?_;rintro e w' ⟨rfl,rfl⟩;go_wp2;go_ret;exact⟨congrArg (fun b=>Ending.returned (.bool b)) (DA hF.out hst.out (hst'.out.trans (if_pos hk2))).symm,hB.out⟩
     by_cases ht1:r.t<0
     ·go_wp2_with fail
      refine(B5 _ _ _ hfo'.out).mono ?_;rintro e w' ⟨rfl,rfl⟩;go_wp2_with fail
      refine(BE _ _ _ _ _ hwi.out).mono ?_;rintro e w' ⟨rfl,rfl⟩;go_wp2_with fail
      refine(Cz _ _ _ _ (show AE 84=some 3 from rfl)).mono ?_;rintro e w' ⟨rfl,rfl⟩;go_wp2;go_ret;exact⟨congrArg (fun b=>Ending.returned (.bool b)) (DA hF.out hst.out (hst'.out.trans ((if_neg (by omega)).trans (if_pos (.inl ht1))))).symm,hB.out.setCell (by simp;omega) _⟩
     by_cases ht2:7<r.t
     ·go_wp2_with fail
      refine(B5 _ _ _ hfo'.out).mono ?_;rintro e w' ⟨rfl,rfl⟩;go_wp2_with fail
      refine(BE _ _ _ _ _ hwi.out).mono ?_;rintro e w' ⟨rfl,rfl⟩;go_wp2_with fail
      refine(Cz _ _ _ _ (show AE 84=some 3 from rfl)).mono ?_;rintro e w' ⟨rfl,rfl⟩;go_wp2;go_ret;exact⟨congrArg (fun b=>Ending.returned (.bool b)) (DA hF.out hst.out (hst'.out.trans ((if_neg (by omega)).trans (if_pos (.inr (.inl ht2)))))).symm,hB.out.setCell (by simp;omega) _⟩
     by_cases hq1:r.q < -1
     ·go_wp2_with fail
      refine(B5 _ _ _ hfo'.out).mono ?_;rintro e w' ⟨rfl,rfl⟩;go_wp2_with fail
      refine(BE _ _ _ _ _ hwi.out).mono ?_;rintro e w' ⟨rfl,rfl⟩;go_wp2_with fail
      refine(Cz _ _ _ _ (show AE 84=some 3 from rfl)).mono ?_;rintro e w' ⟨rfl,rfl⟩;go_wp2;go_ret;exact⟨congrArg (fun b=>Ending.returned (.bool b)) (DA hF.out hst.out (hst'.out.trans ((if_neg (by omega)).trans (if_pos (.inr (.inr (.inl hq1))))))).symm,hB.out.setCell (by simp;omega) _⟩
     by_cases hq2:r.q = -1
     ·have hq2b:(r.q != -1)=false:=bne_eq_false_iff_eq.2 hq2;have hq2:=Az hq2;go_wp2_with fail
      refine(B5 _ _ _ hfo'.out).mono ?_;rintro e w' ⟨rfl,rfl⟩;go_wp2_with fail
      refine(BE _ _ _ _ _ hwi.out).mono ?_;rintro e w' ⟨rfl,rfl⟩;go_wp2_with fail
      refine(Cz _ _ _ _ (show AE 84=some 3 from rfl)).mono ?_;rintro e w' ⟨rfl,rfl⟩;go_wp2;go_roundw
      case rel=>exact⟨kk+1,{r with k:=0,t:=0,q:=0},by go_num,by omega,⟨by simp,by simp⟩,⟨Bs (Bs (Bs (hK.out) 6 (.int .u32 0)) 3 (.int .i64 0)) 7 (.int .i64 0)⟩,⟨DG (DG (DG (hR.out) (by simp) _) (by simp) _) (by simp) _⟩,⟨(((hB.out).setCell (by simp;omega) _).setCell (by simp;omega) _).setCell (by simp;omega) _⟩,⟨Gp hF.out hst.out (hst'.out.trans ((if_neg (by omega)).trans (if_neg (by have:=hq2.out;omega))))⟩,⟨by simpa using hZ.out⟩⟩
      case measure=>simp[intOf];omega
     ·have hq2b:(r.q != -1)=true:=bne_iff_ne.2 hq2;by_cases hq3:places≤r.q
      ·go_wp2_with fail
       refine(B5 _ _ _ hfo'.out).mono ?_;rintro e w' ⟨rfl,rfl⟩;go_wp2_with fail
       refine(BE _ _ _ _ _ hwi.out).mono ?_;rintro e w' ⟨rfl,rfl⟩;go_wp2_with fail
       refine(Cz _ _ _ _ (show AE 84=some 3 from rfl)).mono ?_;rintro e w' ⟨rfl,rfl⟩;go_wp2;go_ret;exact⟨congrArg (fun b=>Ending.returned (.bool b)) (DA hF.out hst.out (hst'.out.trans ((if_neg (by omega)).trans (if_pos (.inr (.inr (.inr ⟨hq2,hq3⟩))))))).symm,hB.out.setCell (by simp;omega) _⟩
      ·go_wp2_with fail
       refine(B5 _ _ _ hfo'.out).mono ?_;rintro e w' ⟨rfl,rfl⟩;go_wp2_with fail
       refine(BE _ _ _ _ _ hwi.out).mono ?_;rintro e w' ⟨rfl,rfl⟩;go_wp2_with fail
       refine(Cz _ _ _ _ (show AE 84=some 3 from rfl)).mono ?_;rintro e w' ⟨rfl,rfl⟩;go_wp2;go_roundw
       case rel=>exact⟨kk+1,{r with k:=0,t:=0,q:=0},by go_num,by omega,⟨by simp,by simp⟩,⟨Bs (Bs (Bs (hK.out) 6 (.int .u32 0)) 3 (.int .i64 0)) 7 (.int .i64 0)⟩,⟨DG (DG (DG (hR.out) (by simp) _) (by simp) _) (by simp) _⟩,⟨(((hB.out).setCell (by simp;omega) _).setCell (by simp;omega) _).setCell (by simp;omega) _⟩,⟨Gp hF.out hst.out (hst'.out.trans ((if_neg (by omega)).trans (if_neg (by omega))))⟩,⟨by simpa using hZ.out⟩⟩
       case measure=>simp[intOf];omega
    ·by_cases h80:sg=80
     ·subst h80;have hst':=Az (RJ (places:=places) (r:=r));have hwi:=Az (show within 80=(0,0,false) from rfl);by_cases hq1:r.q<0
      ·go_wp2_with fail
       refine(B5 _ _ _ hfo'.out).mono ?_;rintro e w' ⟨rfl,rfl⟩;go_wp2_with fail
       refine(BE _ _ _ _ _ hwi.out).mono ?_;rintro e w' ⟨rfl,rfl⟩;go_wp2;go_ret;exact⟨congrArg (fun b=>Ending.returned (.bool b)) (DA hF.out hst.out (hst'.out.trans (if_pos (.inl hq1)))).symm,hB.out⟩
      ·by_cases hq2:places≤r.q
       ·go_wp2_with fail
        refine(B5 _ _ _ hfo'.out).mono ?_;rintro e w' ⟨rfl,rfl⟩;go_wp2_with fail
        refine(BE _ _ _ _ _ hwi.out).mono ?_;rintro e w' ⟨rfl,rfl⟩;go_wp2;go_ret;exact⟨congrArg (fun b=>Ending.returned (.bool b)) (DA hF.out hst.out (hst'.out.trans (if_pos (.inr hq2)))).symm,hB.out⟩
       ·go_wp2_with fail
        refine(B5 _ _ _ hfo'.out).mono ?_;rintro e w' ⟨rfl,rfl⟩;go_wp2_with fail
        refine(BE _ _ _ _ _ hwi.out).mono ?_;rintro e w' ⟨rfl,rfl⟩;go_wp2;go_roundw
        case rel=>exact⟨kk+1,{r with q:=0},by go_num,by omega,hwr,⟨Bs (hK.out) 7 (.int .i64 0)⟩,⟨DG (hR.out) (by simp) _⟩,⟨(hB.out).setCell (by simp;omega) _⟩,⟨Gp hF.out hst.out (hst'.out.trans (if_neg (by omega)))⟩,⟨by simpa using hZ.out⟩⟩
        case measure=>simp[intOf];omega
     ·obtain⟨lo,hi,b,hwi⟩:∃ lo hi b,within sg=(lo,hi,b):=⟨_,_,_,rfl⟩
      cases b with
      |true =>
       obtain⟨_,n87,n80,hst'⟩:=WV (places:=places) (r:=r) hwi hwr h87;have hst':=Az hst';have hwi:=Az hwi;by_cases hk1:r.k<lo
       ·go_wp2_with fail
        refine(B5 _ _ _ hfo'.out).mono ?_;rintro e w' ⟨rfl,rfl⟩;go_wp2_with fail
        refine(BE _ _ _ _ _ hwi.out).mono ?_;rintro e w' ⟨rfl,rfl⟩;go_wp2;go_ret;exact⟨congrArg (fun b=>Ending.returned (.bool b)) (DA hF.out hst.out (hst'.out.trans (if_pos (.inl hk1)))).symm,hB.out⟩
       ·by_cases hk2:hi<r.k
        ·go_wp2_with fail
         refine(B5 _ _ _ hfo'.out).mono ?_;rintro e w' ⟨rfl,rfl⟩;go_wp2_with fail
         refine(BE _ _ _ _ _ hwi.out).mono ?_;rintro e w' ⟨rfl,rfl⟩;go_wp2;go_ret;exact⟨congrArg (fun b=>Ending.returned (.bool b)) (DA hF.out hst.out (hst'.out.trans (if_pos (.inr hk2)))).symm,hB.out⟩
        ·go_wp2_with fail
         refine(B5 _ _ _ hfo'.out).mono ?_;rintro e w' ⟨rfl,rfl⟩;go_wp2_with fail
         refine(BE _ _ _ _ _ hwi.out).mono ?_;rintro e w' ⟨rfl,rfl⟩;go_wp2;go_roundw
         case rel=>exact⟨kk+1,{r with k:=0},by go_num,by omega,⟨by simp,by simp⟩,⟨Bs (hK.out) 6 (.int .u32 0)⟩,⟨DG (hR.out) (by simp) _⟩,⟨(hB.out).setCell (by simp;omega) _⟩,⟨Gp hF.out hst.out (hst'.out.trans (if_neg (by omega)))⟩,⟨by simpa using hZ.out⟩⟩
         case measure=>simp[intOf];omega
      |false =>
       obtain⟨hst',rfl,rfl,_⟩:=Pk (places:=places) (r:=r) hfo'.out hwi h80;have hst':=Az hst';have hwi:=Az hwi;have n87:(sg==87)=false:=Bq h87;have n80:(sg==80)=false:=Bq h80;go_wp2_with fail
       refine(B5 _ _ _ hfo'.out).mono ?_;rintro e w' ⟨rfl,rfl⟩;go_wp2_with fail
       refine(BE _ _ _ _ _ hwi.out).mono ?_;rintro e w' ⟨rfl,rfl⟩;go_wp2;go_roundw
       case rel=>exact⟨kk+1,r,by go_num,by omega,hwr,hK,hR,hB,⟨Gp hF.out hst.out hst'.out⟩,hZ⟩
       case measure=>simp[intOf];omega
  ·have hkl:kk=l.length:=by omega
   have c0:wr.cell? ⟨w1.heap.size+1,0,none⟩=some (.int .i64 r.op):=(Bc hK.out 0).trans rfl;have c1:wr.cell? ⟨w1.heap.size+1,1,none⟩=some (.int .i64 r.d):=(Bc hK.out 1).trans rfl;have c2:wr.cell? ⟨w1.heap.size+1,2,none⟩=some (.int .i64 r.s):=(Bc hK.out 2).trans rfl;have c3:wr.cell? ⟨w1.heap.size+1,3,none⟩=some (.int .i64 r.t):=(Bc hK.out 3).trans rfl;have c4:wr.cell? ⟨w1.heap.size+1,4,none⟩=some (.int .i64 r.u):=(Bc hK.out 4).trans rfl;have c5:wr.cell? ⟨w1.heap.size+1,5,none⟩=some (.int .i64 r.a):=(Bc hK.out 5).trans rfl;have c6:wr.cell? ⟨w1.heap.size+1,6,none⟩=some (.int .u32 r.k):=(Bc hK.out 6).trans rfl;have c7:wr.cell? ⟨w1.heap.size+1,7,none⟩=some (.int .i64 r.q):=(Bc hK.out 7).trans rfl;have hkl:=Az hkl;go_wp2;all_goals go_ret
   all_goals refine⟨congrArg (fun b=>Ending.returned (.bool b)) (Xd hkl.out hF.out ?_),hB.out⟩
   all_goals (simp only[*];simp)
theorem QM(op d s t u a k q places:Int)(w:World)(hn:Ak op=[]) :
  Calls Tryz.prog 168 #[.agg #[.int .i64 op,.int .i64 d,.int .i64 s,.int .i64 t,.int .i64 u,.int .i64 a,.int .u32 k,.int .i64 q],.int .i64 places] w fun e w'=>e=.returned (.bool false)∧Below w.heap.size w w':=by
 have HN:=Az hn;clear hn;go_enter Tryz.func168,Tryz.ntmps168;go_wp2_with fail
 refine(Hi _ _).mono ?_;rintro e w1 ⟨rfl,hb⟩;rw[HN.out];have z:w.heap.size<w1.heap.size:=Bl (Bk hb (Bv w _));go_wp2;go_ret;exact⟨rfl,(((Below.refl w.heap.size w).alloc (Nl _) _).trans (hb.mono (by simp))).alloc (Nat.le_of_lt z) _⟩
theorem JX(i:In)(places:Int)(hwk:i.wk)(w:World) :
  Calls Tryz.prog 168 #[i.v,.int .i64 places] w fun e w'=>e=.returned (.bool (AN i places))∧Below w.heap.size w w':=by
 cases i with
 |mk op d s t u a k q =>
  by_cases h:Ak op=[]
  ·have e:AN ⟨op,d,s,t,u,a,k,q⟩ places=false:=by unfold AN;rw[if_pos h]
   rw[e];exact QM op d s t u a k q places w h
  ·exact QL op d s t u a k q places hwk w h
end
section
open Go Go.Deep Go.Joins Go.ChangeShapes Go.WideShapes Go.ChangeAt Go.RowKit

end
section
open Go.RowKit Go.Proofs.YtjjpiefgdggghaaGreatDoorW.PrintWords
def CoreM.arr(c:CoreM):Array Value:=(c.r.map (fun v:Nat=>Value.int .i64 v)++[Value.int .i64 c.pc]).toArray
theorem Py(c:CoreM)(h:c.r.length=8):c.arr.size=9:=by simp[CoreM.arr,h]
theorem Ie{c:CoreM}(h:c.r.length=8)(i:Nat)(hi:i<8):c.arr[i]?=some (.int .i64 (c.r.getD i 0:Nat)):=by
 simp[CoreM.arr,List.getElem?_append_left,h,hi,List.getD_eq_getElem?_getD]
theorem Jk{c:CoreM}(h:c.r.length=8):c.arr[8]?=some (.int .i64 c.pc):=by
 simp[CoreM.arr,h]
theorem RW{c:CoreM}(h:c.r.length=8)(d:Nat)(hd:d<8)(v:Nat):c.arr.setIfInBounds d (.int .i64 v)=(c.set d v).arr:=by
 apply Array.ext';simp[CoreM.arr,CoreM.set,List.set_append,h,hd]
theorem QO{c:CoreM}(h:c.r.length=8)(pc:Int):c.arr.setIfInBounds 8 (.int .i64 pc)=(c.at pc).arr:=by
 apply Array.ext';simp[CoreM.arr,CoreM.at,List.set_append,h]
theorem EP(c:CoreM)(d:Int)(v:Nat):(c.set d v).r.length=c.r.length:=by simp[CoreM.set]
theorem Cm{c:CoreM}(h:c.r.length=8):∃ y0 y1 y2 y3 y4 y5 y6 y7 y8:Int,c.arr=#[.int .i64 y0,.int .i64 y1,.int .i64 y2,.int .i64 y3,.int .i64 y4,.int .i64 y5,.int .i64 y6,.int .i64 y7,.int .i64 y8]:=by
 obtain⟨l,pc⟩:=c
 match l,h with
 |[y0,y1,y2,y3,y4,y5,y6,y7],_=>exact⟨y0,y1,y2,y3,y4,y5,y6,y7,pc,rfl⟩
theorem Lz(w:World)(o o' o'':Obj):(((w.alloc o).alloc o').alloc o'').heap[w.heap.size+2]?=some o'':=by
 have h:=Dh (w.alloc o) o' o'';have e:(w.alloc o).heap.size=w.heap.size+1:=by simp
 rw[e]at h;exact h
theorem Hk{w:World}{g:Nat}{t:TypeId}{a0 a1 a2 a3 a4 a5 a6 a7 a8:Value}(h:w.heap[g]?=some (.cells #[a0,a1,a2,a3,a4,a5,a6,a7,a8] t (0,0)))(v0 v1 v2 v3 v4 v5 v6 v7 v8:Value) :
  (((((((((w.setCell ⟨g,0,none⟩ v0).setCell ⟨g,1,none⟩ v1).setCell ⟨g,2,none⟩ v2).setCell ⟨g,3,none⟩ v3).setCell ⟨g,4,none⟩ v4).setCell ⟨g,5,none⟩ v5).setCell ⟨g,6,none⟩ v6).setCell ⟨g,7,none⟩ v7).setCell ⟨g,8,none⟩ v8).heap[g]?=some (.cells #[v0,v1,v2,v3,v4,v5,v6,v7,v8] t (0,0)):=by
 have h1:(w.setCell ⟨g,0,none⟩ v0).heap[g]?=some (.cells #[v0,a1,a2,a3,a4,a5,a6,a7,a8] t (0,0)):=Bs h 0 v0;have h2:((w.setCell ⟨g,0,none⟩ v0).setCell ⟨g,1,none⟩ v1).heap[g]?=some (.cells #[v0,v1,a2,a3,a4,a5,a6,a7,a8] t (0,0)):=Bs h1 1 v1;have h3:(((w.setCell ⟨g,0,none⟩ v0).setCell ⟨g,1,none⟩ v1).setCell ⟨g,2,none⟩ v2).heap[g]?=some (.cells #[v0,v1,v2,a3,a4,a5,a6,a7,a8] t (0,0)):=Bs h2 2 v2;have h4:((((w.setCell ⟨g,0,none⟩ v0).setCell ⟨g,1,none⟩ v1).setCell ⟨g,2,none⟩ v2).setCell ⟨g,3,none⟩ v3).heap[g]?=some (.cells #[v0,v1,v2,v3,a4,a5,a6,a7,a8] t (0,0)):=Bs h3 3 v3;have h5:(((((w.setCell ⟨g,0,none⟩ v0).setCell ⟨g,1,none⟩ v1).setCell ⟨g,2,none⟩ v2).setCell ⟨g,3,none⟩ v3).setCell ⟨g,4,none⟩ v4).heap[g]?=some (.cells #[v0,v1,v2,v3,v4,a5,a6,a7,a8] t (0,0)):=Bs h4 4 v4;have h6:((((((w.setCell ⟨g,0,none⟩ v0).setCell ⟨g,1,none⟩ v1).setCell ⟨g,2,none⟩ v2).setCell ⟨g,3,none⟩ v3).setCell ⟨g,4,none⟩ v4).setCell ⟨g,5,none⟩ v5).heap[g]?=some (.cells #[v0,v1,v2,v3,v4,v5,a6,a7,a8] t (0,0)):=Bs h5 5 v5;have h7:(((((((w.setCell ⟨g,0,none⟩ v0).setCell ⟨g,1,none⟩ v1).setCell ⟨g,2,none⟩ v2).setCell ⟨g,3,none⟩ v3).setCell ⟨g,4,none⟩ v4).setCell ⟨g,5,none⟩ v5).setCell ⟨g,6,none⟩ v6).heap[g]?=some (.cells #[v0,v1,v2,v3,v4,v5,v6,a7,a8] t (0,0)):=Bs h6 6 v6;have h8:((((((((w.setCell ⟨g,0,none⟩ v0).setCell ⟨g,1,none⟩ v1).setCell ⟨g,2,none⟩ v2).setCell ⟨g,3,none⟩ v3).setCell ⟨g,4,none⟩ v4).setCell ⟨g,5,none⟩ v5).setCell ⟨g,6,none⟩ v6).setCell ⟨g,7,none⟩ v7).heap[g]?=some (.cells #[v0,v1,v2,v3,v4,v5,v6,v7,a8] t (0,0)):=Bs h7 7 v7;have h9:(((((((((w.setCell ⟨g,0,none⟩ v0).setCell ⟨g,1,none⟩ v1).setCell ⟨g,2,none⟩ v2).setCell ⟨g,3,none⟩ v3).setCell ⟨g,4,none⟩ v4).setCell ⟨g,5,none⟩ v5).setCell ⟨g,6,none⟩ v6).setCell ⟨g,7,none⟩ v7).setCell ⟨g,8,none⟩ v8).heap[g]?=some (.cells #[v0,v1,v2,v3,v4,v5,v6,v7,v8] t (0,0)):=Bs h8 8 v8;exact h9
theorem Ft{N g:Nat}{w W:World}(h:Below N w W)(hg:N≤g)(v0 v1 v2 v3 v4 v5 v6 v7 v8:Value):Below N w (((((((((W.setCell ⟨g,0,none⟩ v0).setCell ⟨g,1,none⟩ v1).setCell ⟨g,2,none⟩ v2).setCell ⟨g,3,none⟩ v3).setCell ⟨g,4,none⟩ v4).setCell ⟨g,5,none⟩ v5).setCell ⟨g,6,none⟩ v6).setCell ⟨g,7,none⟩ v7).setCell ⟨g,8,none⟩ v8):=by
 have h1:Below N w (W.setCell ⟨g,0,none⟩ v0):=h.setCell (p:=⟨g,0,none⟩) hg v0;have h2:Below N w ((W.setCell ⟨g,0,none⟩ v0).setCell ⟨g,1,none⟩ v1):=h1.setCell (p:=⟨g,1,none⟩) hg v1;have h3:Below N w (((W.setCell ⟨g,0,none⟩ v0).setCell ⟨g,1,none⟩ v1).setCell ⟨g,2,none⟩ v2):=h2.setCell (p:=⟨g,2,none⟩) hg v2;have h4:Below N w ((((W.setCell ⟨g,0,none⟩ v0).setCell ⟨g,1,none⟩ v1).setCell ⟨g,2,none⟩ v2).setCell ⟨g,3,none⟩ v3):=h3.setCell (p:=⟨g,3,none⟩) hg v3;have h5:Below N w (((((W.setCell ⟨g,0,none⟩ v0).setCell ⟨g,1,none⟩ v1).setCell ⟨g,2,none⟩ v2).setCell ⟨g,3,none⟩ v3).setCell ⟨g,4,none⟩ v4):=h4.setCell (p:=⟨g,4,none⟩) hg v4;have h6:Below N w ((((((W.setCell ⟨g,0,none⟩ v0).setCell ⟨g,1,none⟩ v1).setCell ⟨g,2,none⟩ v2).setCell ⟨g,3,none⟩ v3).setCell ⟨g,4,none⟩ v4).setCell ⟨g,5,none⟩ v5):=h5.setCell (p:=⟨g,5,none⟩) hg v5;have h7:Below N w (((((((W.setCell ⟨g,0,none⟩ v0).setCell ⟨g,1,none⟩ v1).setCell ⟨g,2,none⟩ v2).setCell ⟨g,3,none⟩ v3).setCell ⟨g,4,none⟩ v4).setCell ⟨g,5,none⟩ v5).setCell ⟨g,6,none⟩ v6):=h6.setCell (p:=⟨g,6,none⟩) hg v6;have h8:Below N w ((((((((W.setCell ⟨g,0,none⟩ v0).setCell ⟨g,1,none⟩ v1).setCell ⟨g,2,none⟩ v2).setCell ⟨g,3,none⟩ v3).setCell ⟨g,4,none⟩ v4).setCell ⟨g,5,none⟩ v5).setCell ⟨g,6,none⟩ v6).setCell ⟨g,7,none⟩ v7):=h7.setCell (p:=⟨g,7,none⟩) hg v7;have h9:Below N w (((((((((W.setCell ⟨g,0,none⟩ v0).setCell ⟨g,1,none⟩ v1).setCell ⟨g,2,none⟩ v2).setCell ⟨g,3,none⟩ v3).setCell ⟨g,4,none⟩ v4).setCell ⟨g,5,none⟩ v5).setCell ⟨g,6,none⟩ v6).setCell ⟨g,7,none⟩ v7).setCell ⟨g,8,none⟩ v8):=h8.setCell (p:=⟨g,8,none⟩) hg v8;exact h9
def CoreM.v(c:CoreM):Value:=.agg c.arr
def Ld:Array Value:=#[.int .i64 0,.int .i64 0,.int .i64 0,.int .i64 0,.int .i64 0,.int .i64 0,.int .i64 0,.int .i64 0,.int .i64 0]
theorem IZ{w W:World}{N d:Nat}{c:CoreM}{cs z:Array Value}{t t':TypeId}(b3:W.heap[N]?=some (.cells cs t (0,0)))(b6:W.heap[N+1+1]?=some (.cells z t' (0,0)))(hB:Below N w W)(he:c.arr=cs)
  (hs:∀ v:Nat,c.arr.setIfInBounds d (.int .i64 v)=(c.set d v).arr)(v:Nat) :
  (W.setCell ⟨N,d,none⟩ (.int .i64 v)).heap[N]?=some (.cells (c.set d v).arr t (0,0))∧(W.setCell ⟨N,d,none⟩ (.int .i64 v)).heap[N+1+1]?=some (.cells z t' (0,0))∧Below N w (W.setCell ⟨N,d,none⟩ (.int .i64 v)):=by
 have h:=Bs b3 d (.int .i64 v);rw[←he,hs]at h;exact⟨h,Ba (p:=⟨N,d,none⟩) b6 (show N+1+1≠N by omega) _,hB.setCell (p:=⟨N,d,none⟩) (Nl _) _⟩
theorem Pw(c:CoreM)(d s t k:Nat)(op u a q:Int)(self:Nat)(w:World)(hc:c.r.length=8)(hop:op=1∨op=2∨op=3∨op=8∨op=9∨op=10∨op=11∨op=12)(hd:d<8)(hs:s<8)(ht:t<8)(hk:k<4294967296)(hreg:∀ j,c.r.getD j 0<4294967296)(hself:self<4294967296)(hp0:0≤c.pc)(hp1:c.pc≤100000) :
  Calls Tryz.prog 152 #[c.v,(In.mk op d s t u a k q).v,.int .i64 self] w fun e W'=>e=.returned (Fz c ⟨op,d,s,t,u,a,k,q⟩ self).v∧Below w.heap.size w W':=by
 obtain⟨a0,a1,a2,a3,a4,a5,a6,a7,a8,he⟩:=Cm hc;have b0:=Az (Below.refl w.heap.size w);have hcs:=Ie hc s hs;have hct:=Ie hc t ht;have hcp:=Jk hc;have hset:=fun v=>RW hc d hd v
 unfold CoreM.v;rw[he]at hcs hct hcp ⊢;simp only[In.v];obtain⟨fin,hfin⟩:∃ r,Fz c ⟨op,d,s,t,u,a,k,q⟩ self=r:=⟨_,rfl⟩
 rw[hfin];obtain⟨S,hS9⟩:∃ S,c.r.getD s 0=S:=⟨_,rfl⟩
 obtain⟨T,hT9⟩:∃ S,c.r.getD t 0=S:=⟨_,rfl⟩
 simp only[Fz,CoreM.get,Int.toNat_natCast,hS9,hT9]at hfin;have hS1:=hreg s;have hT1:=hreg t;rw[hS9]at hcs hS1;rw[hT9]at hct hT1;clear hS9 hT9;have hcd:=Ie hc d hd;rw[he]at hcd;have hpw:IntKind.i64.wrap (c.pc+1)=c.pc+1:=by rw[IntKind.wrap_i64];omega
 obtain⟨D,hD9⟩:∃ S,c.r.getD d 0=S:=⟨_,rfl⟩
 rw[hD9]at hcd;clear hD9;replace hfin:=Az hfin;replace hset:=Az hset;have hkw:IntKind.i64.wrap (k:Int)=(k:Int):=by rw[IntKind.wrap_i64];omega
 have o1:¬op≥16:=by omega
 have o2:¬op=13:=by omega
 have o3:(op==13)=false:=Bq o2;go_enter Tryz.func152,Tryz.ntmps152;go_wp2_with fail
 obtain⟨W1,hW1⟩:∃ x,(((w.alloc (.cells #[.int .i64 a0,.int .i64 a1,.int .i64 a2,.int .i64 a3,.int .i64 a4,.int .i64 a5,.int .i64 a6,.int .i64 a7,.int .i64 a8] 155)).alloc (.cells (In.cs ⟨op,d,s,t,u,a,k,q⟩) 114)).alloc (.cells #[.int .i64 0,.int .i64 0,.int .i64 0,.int .i64 0,.int .i64 0,.int .i64 0,.int .i64 0,.int .i64 0,.int .i64 0] 155))=x:=⟨_,rfl⟩
 simp only[In.cs]at hW1;have b3:W1.heap[w.heap.size]?=some (.cells #[.int .i64 a0,.int .i64 a1,.int .i64 a2,.int .i64 a3,.int .i64 a4,.int .i64 a5,.int .i64 a6,.int .i64 a7,.int .i64 a8] 155 (0,0)):=by rw[←hW1];exact AF (AF (Bv w _) _) _
 have b4:W1.heap[w.heap.size+1]?=some (.cells (In.cs ⟨op,d,s,t,u,a,k,q⟩) 114 (0,0)):=by rw[←hW1];exact AF (Dh w _ _) _
 have b6:W1.heap[w.heap.size+1+1]?=some (.cells #[.int .i64 0,.int .i64 0,.int .i64 0,.int .i64 0,.int .i64 0,.int .i64 0,.int .i64 0,.int .i64 0,.int .i64 0] 155 (0,0)):=by rw[←hW1];exact Lz w _ _ _
 rw[hW1];have s0:(0:Int)≤(s:Int):=by omega
 have s1:(s:Int)<8:=by omega
 have t0:(0:Int)≤(t:Int):=by omega
 have t1:(t:Int)<8:=by omega
 have d0:(0:Int)≤(d:Int):=by omega
 have d1:(d:Int)<8:=by omega
 have hS:W1.drew.cell? ⟨w.heap.size+1,2,none⟩=some (.int .i64 s)∧W1.drew.cell? ⟨w.heap.size+1,3,none⟩=some (.int .i64 t)∧W1.drew.cell? ⟨w.heap.size+1,6,none⟩=some (.int .u32 k)∧W1.drew.cell? ⟨w.heap.size,s,none⟩=some (.int .i64 (S:Int))∧W1.drew.cell? ⟨w.heap.size,t,none⟩=some (.int .i64 (T:Int)) :=
  ⟨(Bc b4 2).trans rfl,(Bc b4 3).trans rfl,(Bc b4 6).trans rfl,(Bc b3 s).trans hcs,(Bc b3 t).trans hct⟩
 go_region_held3 (fun W=>W.cell? ⟨w.heap.size+1,2,none⟩=some (.int .i64 s)∧W.cell? ⟨w.heap.size+1,3,none⟩=some (.int .i64 t)∧W.cell? ⟨w.heap.size+1,6,none⟩=some (.int .u32 k)∧W.cell? ⟨w.heap.size,s,none⟩=some (.int .i64 (S:Int))∧W.cell? ⟨w.heap.size,t,none⟩=some (.int .i64 (T:Int))) (first |exact hS) (first |fail)
 replace b3:=Be b3;replace b4:=Be b4;replace b6:=Be b6;have hB:Below w.heap.size w W1.drew:=by rw[←hW1];exact Bd ((((b0.out.alloc (Nl _) _).alloc (by simp) _).alloc (by simp;omega) _))
 obtain⟨W2,hW2⟩:∃ x,W1.drew=x:=⟨_,rfl⟩
 rw[hW2]at b3 b4 b6 hB ⊢;clear hS hW1 hW2;replace hB:=Az hB;have p8:=(Bc b3 8).trans hcp;have f8:=Bf b3 8;have c3:W2.cell? ⟨w.heap.size,d,none⟩=some (.int .i64 (D:Int)):=(Bc b3 d).trans hcd;have f3:=Bf b3 d;have y0:W2.cell? ⟨w.heap.size+1,0,none⟩=some (.int .i64 op):=(Bc b4 0).trans rfl;have y1:W2.cell? ⟨w.heap.size+1,1,none⟩=some (.int .i64 d):=(Bc b4 1).trans rfl;have y7:W2.cell? ⟨w.heap.size+1,7,none⟩=some (.int .i64 q):=(Bc b4 7).trans rfl;have hput:=fun v=>(IZ b3 b6 hB.out he hset.out v)
 replace hput:=Az hput;replace b3:=Az b3;replace b6:=Az b6;go_upto_region 4 with fail
 go_cut [10] (fun v10 wx=>v10=.int .i64 (c.pc+1)∧wx=W2)
 case first =>
  go_wp2_with fail
  go_meet
  exact⟨rfl,rfl⟩
 case rest =>
 obtain⟨rfl,rfl⟩:=hcut;go_step
 go_step
 go_cut [10] (fun v10 wx=>∃ (c1:CoreM) (p:Int),v10=.int .i64 p∧Af (c1.at p=fin)∧c1.r.length=8∧Af (wx.heap[w.heap.size]?=some (.cells c1.arr 155 (0,0)))∧Af (wx.heap[w.heap.size+1+1]?=some (.cells Ld 155 (0,0)))∧Af (Below w.heap.size w wx))
 case first =>
  rcases hop with rfl |rfl |rfl |rfl |rfl |rfl |rfl |rfl
  ·go_wp2_with fail
   go_meet
   obtain⟨h1,h2,h3⟩:=hput.out k;exact⟨_,_,rfl,⟨by rw[←hfin.out];simp⟩,by rw[EP];exact hc,⟨h1⟩,⟨h2⟩,⟨h3⟩⟩
  ·go_wp2_with fail
   go_meet
   obtain⟨h1,h2,h3⟩:=hput.out S;exact⟨_,_,rfl,⟨by rw[←hfin.out];simp⟩,by rw[EP];exact hc,⟨h1⟩,⟨h2⟩,⟨h3⟩⟩
  ·go_wp2_with fail
   go_meet
   obtain⟨h1,h2,h3⟩:=hput.out ((S+k)%Bj);have e3:(((S+k)%Bj:Nat):Int)=((S:Int)+k)%4294967296:=by simp[Bj]
   rw[e3]at h1 h2 h3;exact⟨_,_,rfl,⟨by rw[←hfin.out];simp⟩,by rw[EP];exact hc,⟨h1⟩,⟨h2⟩,⟨h3⟩⟩
  ·by_cases hST:S=T
   ·subst hST;have e1:((S:Int)==(S:Int))=true:=beq_self_eq_true _;go_wp2_with fail
    go_meet
    exact⟨c,_,rfl,⟨by rw[←hfin.out];simp⟩,hc,⟨by rw[he];exact b3.out⟩,b6,hB⟩
   ·have e1:((S:Int)==(T:Int))=false:=Bq (by omega);go_wp2_with fail
    go_meet
    exact⟨c,_,rfl,⟨by rw[←hfin.out];simp[hST]⟩,hc,⟨by rw[he];exact b3.out⟩,b6,hB⟩
  ·by_cases hST:S=T
   ·subst hST;have e1:((S:Int)==(S:Int))=true:=beq_self_eq_true _;have e2:((S:Int) != (S:Int))=false:=bne_self_eq_false _;go_wp2_with fail
    go_meet
    exact⟨c,_,rfl,⟨by rw[←hfin.out];simp⟩,hc,⟨by rw[he];exact b3.out⟩,b6,hB⟩
   ·have e1:((S:Int)==(T:Int))=false:=Bq (by omega);have e2:((S:Int) != (T:Int))=true:=bne_iff_ne.2 (by omega);go_wp2_with fail
    go_meet
    exact⟨c,_,rfl,⟨by rw[←hfin.out];simp[hST]⟩,hc,⟨by rw[he];exact b3.out⟩,b6,hB⟩
  ·go_wp2_with fail
   go_meet
   exact⟨c,_,rfl,⟨by rw[←hfin.out];simp⟩,hc,⟨by rw[he];exact b3.out⟩,b6,hB⟩
  ·go_wp2_with fail
   go_meet
   obtain⟨h1,h2,h3⟩:=hput.out self;exact⟨_,_,rfl,⟨by rw[←hfin.out];simp⟩,by rw[EP];exact hc,⟨h1⟩,⟨h2⟩,⟨h3⟩⟩
  ·go_wp2_with fail
   go_meet
   exact⟨c,_,rfl,⟨by rw[←hfin.out];simp⟩,hc,⟨by rw[he];exact b3.out⟩,b6,hB⟩
 case rest =>
  obtain⟨c1,p,rfl,hf,hl,b3,b6,hB⟩:=hcut;have p8:=(Bc b3.out 8).trans (Jk hl);have f8:=Bf b3.out 8;have b3':=Bs b3.out 8 (.int .i64 p);have b6':=Ba (p:=⟨w.heap.size,8,none⟩) b6.out (show w.heap.size+1+1≠w.heap.size by omega) (.int .i64 p);have hB':=hB.out.setCell (p:=⟨w.heap.size,8,none⟩) (Nl _) (.int .i64 p);rw[QO hl,hf.out]at b3';have hl':fin.r.length=8:=by rw[←hf.out];exact hl
  generalize hW4:wc.setCell ⟨w.heap.size,8,none⟩ (.int .i64 p)=W4 at *;go_upto_region 31 with fail
  try rw[hW4]
  obtain⟨z0,z1,z2,z3,z4,z5,z6,z7,z8,hz⟩:=Cm (c:=fin) hl';rw[hz]at b3';have g0:W4.cell? ⟨w.heap.size,0,none⟩=some (.int .i64 z0):=(Bc b3' 0).trans rfl;have g1:W4.cell? ⟨w.heap.size,1,none⟩=some (.int .i64 z1):=(Bc b3' 1).trans rfl;have g2:W4.cell? ⟨w.heap.size,2,none⟩=some (.int .i64 z2):=(Bc b3' 2).trans rfl;have g3:W4.cell? ⟨w.heap.size,3,none⟩=some (.int .i64 z3):=(Bc b3' 3).trans rfl;have g4:W4.cell? ⟨w.heap.size,4,none⟩=some (.int .i64 z4):=(Bc b3' 4).trans rfl;have g5:W4.cell? ⟨w.heap.size,5,none⟩=some (.int .i64 z5):=(Bc b3' 5).trans rfl;have g6:W4.cell? ⟨w.heap.size,6,none⟩=some (.int .i64 z6):=(Bc b3' 6).trans rfl;have g7:W4.cell? ⟨w.heap.size,7,none⟩=some (.int .i64 z7):=(Bc b3' 7).trans rfl;have g8:W4.cell? ⟨w.heap.size,8,none⟩=some (.int .i64 z8):=(Bc b3' 8).trans rfl;have x0:W4.cell? ⟨w.heap.size+1+1,0,none⟩=some (.int .i64 0):=(Bc b6' 0).trans rfl;have y0:=Bf b6' 0;have x1:W4.cell? ⟨w.heap.size+1+1,1,none⟩=some (.int .i64 0):=(Bc b6' 1).trans rfl;have y1:=Bf b6' 1;have x2:W4.cell? ⟨w.heap.size+1+1,2,none⟩=some (.int .i64 0):=(Bc b6' 2).trans rfl;have y2:=Bf b6' 2;have x3:W4.cell? ⟨w.heap.size+1+1,3,none⟩=some (.int .i64 0):=(Bc b6' 3).trans rfl;have y3:=Bf b6' 3;have x4:W4.cell? ⟨w.heap.size+1+1,4,none⟩=some (.int .i64 0):=(Bc b6' 4).trans rfl;have y4:=Bf b6' 4;have x5:W4.cell? ⟨w.heap.size+1+1,5,none⟩=some (.int .i64 0):=(Bc b6' 5).trans rfl;have y5:=Bf b6' 5;have x6:W4.cell? ⟨w.heap.size+1+1,6,none⟩=some (.int .i64 0):=(Bc b6' 6).trans rfl;have y6:=Bf b6' 6;have x7:W4.cell? ⟨w.heap.size+1+1,7,none⟩=some (.int .i64 0):=(Bc b6' 7).trans rfl;have y7:=Bf b6' 7;have x8:W4.cell? ⟨w.heap.size+1+1,8,none⟩=some (.int .i64 0):=(Bc b6' 8).trans rfl;have y8:=Bf b6' 8;have hG2:w.heap.size≤w.heap.size+1+1:=by omega
  clear hW4 b3 b6 hB p8 f8;generalize w.heap.size+1+1=G at *;go_wp2;refine bodyPost_ret (fn:=Tryz.f152) (results_cell_row rfl _ _ G 155 #[.int .i64 z0,.int .i64 z1,.int .i64 z2,.int .i64 z3,.int .i64 z4,.int .i64 z5,.int .i64 z6,.int .i64 z7,.int .i64 z8] (0,0) _ rfl ?_ Tryz.underlying155 rfl (by kernel_rfl)) rfl ⟨by rw[hz],?_⟩
  ·exact Hk b6' _ _ _ _ _ _ _ _ _
  ·exact Ft hB' hG2 _ _ _ _ _ _ _ _ _
theorem Qd(W:World)(o:Obj):Below W.heap.size W (W.alloc o):=(Below.refl _ _).alloc (Nl _) o
theorem La(i:In)(w:World):Calls Tryz.prog 123 #[i.v] w fun e w'=>e=.returned (.bool (Ee i))∧Below w.heap.size w w':=by
 obtain⟨op,d,s,t,u,a,k,q⟩:=i;have hb:=Qd w (.cells #[.int .i64 op,.int .i64 d,.int .i64 s,.int .i64 t,.int .i64 u,.int .i64 a,.int .u32 k,.int .i64 q] 126);obtain⟨r,hr⟩:∃ r,Ee ⟨op,d,s,t,u,a,k,q⟩=r:=⟨_,rfl⟩
 rw[hr];have hg:r=decide ((8≤op∧op≤10)∨(op=21∧0≤q)):=hr.symm;dsimp only[In.v];clear hr;go_enter Tryz.func123,Tryz.ntmps123;by_cases h1:8≤op
 ·by_cases h2:op≤10
  ·obtain rfl:r=true:=by rw[hg];exact decide_eq_true (by omega)
   clear hg;go_wp2;go_ret;exact⟨rfl,hb⟩
  ·by_cases h3:op=21
   ·by_cases h4:0≤q
    ·obtain rfl:r=true:=by rw[hg];exact decide_eq_true (by omega)
     subst h3;clear hg;go_wp2;go_ret;exact⟨rfl,hb⟩
    ·obtain rfl:r=false:=by rw[hg];exact decide_eq_false (by omega)
     subst h3;clear hg;go_wp2;go_ret;exact⟨rfl,hb⟩
   ·have x:(op==21)=false:=Bq h3;obtain rfl:r=false:=by rw[hg];exact decide_eq_false (by omega)
    clear h3;clear hg;go_wp2;go_ret;exact⟨rfl,hb⟩
 ·by_cases h3:op=21
  ·omega
  ·have x:(op==21)=false:=Bq h3;obtain rfl:r=false:=by rw[hg];exact decide_eq_false (by omega)
   clear h3;clear hg;go_wp2;go_ret;exact⟨rfl,hb⟩
theorem Km(i:In)(w:World):Calls Tryz.prog 93 #[i.v] w fun e w'=>e=.returned (.bool (Ee i))∧Below w.heap.size w w':=by
 obtain⟨op,d,s,t,u,a,k,q⟩:=i;have hb:=Qd w (.cells #[.int .i64 op,.int .i64 d,.int .i64 s,.int .i64 t,.int .i64 u,.int .i64 a,.int .u32 k,.int .i64 q] 114);obtain⟨r,hr⟩:∃ r,Ee ⟨op,d,s,t,u,a,k,q⟩=r:=⟨_,rfl⟩
 rw[hr];have hg:r=decide ((8≤op∧op≤10)∨(op=21∧0≤q)):=hr.symm;dsimp only[In.v];clear hr;go_enter Tryz.func93,Tryz.ntmps93;by_cases h1:8≤op
 ·by_cases h2:op≤10
  ·obtain rfl:r=true:=by rw[hg];exact decide_eq_true (by omega)
   clear hg;go_wp2;go_ret;exact⟨rfl,hb⟩
  ·by_cases h3:op=21
   ·by_cases h4:0≤q
    ·obtain rfl:r=true:=by rw[hg];exact decide_eq_true (by omega)
     subst h3;clear hg;go_wp2;go_ret;exact⟨rfl,hb⟩
    ·obtain rfl:r=false:=by rw[hg];exact decide_eq_false (by omega)
     subst h3;clear hg;go_wp2;go_ret;exact⟨rfl,hb⟩
   ·have x:(op==21)=false:=Bq h3;obtain rfl:r=false:=by rw[hg];exact decide_eq_false (by omega)
    clear h3;clear hg;go_wp2;go_ret;exact⟨rfl,hb⟩
 ·by_cases h3:op=21
  ·omega
  ·have x:(op==21)=false:=Bq h3;obtain rfl:r=false:=by rw[hg];exact decide_eq_false (by omega)
   clear h3;clear hg;go_wp2;go_ret;exact⟨rfl,hb⟩
end
end Go.Proofs.YtjjpiefgdggghaaGreatDoor
