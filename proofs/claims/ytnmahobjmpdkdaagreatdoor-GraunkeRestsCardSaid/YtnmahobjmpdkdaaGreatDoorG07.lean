/- Parts: Right, In8, Bits, Goes. -/
import Derived.Test.YtnmahobjmpdkdaaGreatDoorG02
import Derived.Test.YtnmahobjmpdkdaaGreatDoorG04
import Derived.Test.YtnmahobjmpdkdaaGreatDoorG05
import Derived.ProofKit
import Derived.Lib.SmallJoins
import Derived.OpenShut
import Derived.Deep.Fields
import Derived.Test.YtnmahobjmpdkdaaGreatDoorG06
import Derived.Deep.RegionHeld3
import Derived.Test.YtnmahobjmpdkdaaGreatDoorG03
set_option linter.unusedVariables false
set_option linter.unusedSimpArgs false
set_option maxRecDepth 100000
set_option maxHeartbeats 40000000
namespace Go.Proofs.YtnmahobjmpdkdaaGreatDoor
section
open Go.RowKit Go.Proofs.YtnmahobjmpdkdaaGreatDoorW.PrintWords
def In.v(i:In):Value:=.agg #[.int .i64 i.op,.int .i64 i.d,.int .i64 i.s,.int .i64 i.t,.int .i64 i.u,.int .i64 i.a,.int .u32 i.k,.int .i64 i.q]
def In.cs(i:In):Array Value:=#[.int .i64 i.op,.int .i64 i.d,.int .i64 i.s,.int .i64 i.t,.int .i64 i.u,.int .i64 i.a,.int .u32 i.k,.int .i64 i.q]
theorem In.c(i:In)(j:Nat)(h1:1≤j)(h5:j≤5):i.cs[j]?=some (.int .i64 (i.get j)):=by
 match j,h1,h5 with
 |1,_,_=>rfl
 |2,_,_=>rfl
 |3,_,_=>rfl
 |4,_,_=>rfl
 |5,_,_=>rfl
theorem In.Qm(i:In)(v:Int)(j:Nat)(h1:1≤j)(h5:j≤5):i.cs.setIfInBounds j (.int .i64 v)=(i.put v j).cs:=by
 match j,h1,h5 with
 |1,_,_=>rfl
 |2,_,_=>rfl
 |3,_,_=>rfl
 |4,_,_=>rfl
 |5,_,_=>rfl
theorem DA{places sg:Int}{l:List UInt8}{kk:Nat}{r:In}{fin:Bool}(hF:Ce (Bh places (l.drop kk) r)=fin)
  (hst:Bh places (l.drop kk) r=(BN places sg r).bind (Bh places (l.drop (kk+1))))(h:BN places sg r=none):fin=false:=by
 rw[hst,h]at hF;exact hF.symm
theorem Gp{places sg:Int}{l:List UInt8}{kk:Nat}{r r':In}{fin:Bool}(hF:Ce (Bh places (l.drop kk) r)=fin)
  (hst:Bh places (l.drop kk) r=(BN places sg r).bind (Bh places (l.drop (kk+1))))(h:BN places sg r=some r'):Ce (Bh places (l.drop (kk+1)) r')=fin:=by
 rw[hst,h]at hF;exact hF
theorem In.UQ(r:In):r=In.zero↔(r.op=0∧r.d=0∧r.s=0∧r.t=0∧r.u=0∧r.a=0∧r.k=0∧r.q=0):=by
 cases r;simp[In.zero]
theorem Xd{places:Int}{l:List UInt8}{kk:Nat}{r:In}{fin b:Bool}(hk:kk=l.length)(hF:Ce (Bh places (l.drop kk) r)=fin)
  (h:b=decide (r.op=0∧r.d=0∧r.s=0∧r.t=0∧r.u=0∧r.a=0∧r.k=0∧r.q=0)):b=fin:=by
 subst hk;rw[List.drop_length]at hF;rw[←hF,h];simp only[Bh,Ce,In.UQ]
theorem QL(op d s t u a k q places:Int)(hwk:0≤k∧k≤4294967295)(w:World)(hn:Ak op≠[]) :
  Calls Tryz.prog 123 #[.agg #[.int .i64 op,.int .i64 d,.int .i64 s,.int .i64 t,.int .i64 u,.int .i64 a,.int .u32 k,.int .i64 q],.int .i64 places] w fun e w'=>e=.returned (.bool (AN ⟨op,d,s,t,u,a,k,q⟩ places))∧Below w.heap.size w w':=by
 have hne:(Ak op).isEmpty=false:=by cases h:Ak op<;>simp_all
 rw[BA _ _ hn];clear hn;dsimp only;have hsz:(Br op).length≤5:=H4 op;have kb:=fun W=>Hh (P:=Tryz.prog) 9 156 5 Tryz.underlying9 Tryz.underlying156 Tryz.underlying5 ⟨(Br op).toArray⟩ W
 generalize hl:Br op=l at hsz kb ⊢;generalize hn:Ak op=nm at hne ⊢;have HL:=Az hl;have HN:=Az hn;clear hl hn;generalize hf:Ce (Bh places l ⟨0,d,s,t,u,a,k,q⟩)=fin;have HF:=Az hf;clear hf;go_enter Tryz.func123,Tryz.ntmps123;go_wp2_with fail
 refine(Hi _ _).mono ?_;rintro e w1 ⟨rfl,hb⟩;rw[HL.out,HN.out];have BK:=Az (Bk hb (Bv w _));have z:w.heap.size<w1.heap.size:=Bl BK.out;have c0:w1.cell? ⟨w.heap.size,0,none⟩=some (.int .i64 op):=(Bc BK.out 0).trans rfl;have c1:w1.cell? ⟨w.heap.size,1,none⟩=some (.int .i64 d):=(Bc BK.out 1).trans rfl;have c2:w1.cell? ⟨w.heap.size,2,none⟩=some (.int .i64 s):=(Bc BK.out 2).trans rfl;have c3:w1.cell? ⟨w.heap.size,3,none⟩=some (.int .i64 t):=(Bc BK.out 3).trans rfl;have c4:w1.cell? ⟨w.heap.size,4,none⟩=some (.int .i64 u):=(Bc BK.out 4).trans rfl;have c5:w1.cell? ⟨w.heap.size,5,none⟩=some (.int .i64 a):=(Bc BK.out 5).trans rfl;have c6:w1.cell? ⟨w.heap.size,6,none⟩=some (.int .u32 k):=(Bc BK.out 6).trans rfl;have c7:w1.cell? ⟨w.heap.size,7,none⟩=some (.int .i64 q):=(Bc BK.out 7).trans rfl;go_wp2_with fail
 clear c0 c1 c2 c3 c4 c5 c6 c7 kb;generalize grownCap _ _ _ _=cap;have hB0:=Az (((Below.refl w.heap.size w).alloc (Nl _) (.cells (In.cs ⟨op,d,s,t,u,a,k,q⟩) 104)).trans (hb.mono (by simp)));have hB1:=Az (FH ((hB0.out.alloc (Nat.le_of_lt z) (.cells #[.string ⟨nm.toArray⟩,.string ⟨l.toArray⟩] 158)).alloc (by simp;omega) (.cells (In.cs ⟨0,d,s,t,u,a,k,q⟩) 104)) (by simp;omega) 5 ⟨l.toArray⟩);have hR1:=Az (IL ((w1.alloc (.cells #[.string ⟨nm.toArray⟩,.string ⟨l.toArray⟩] 158)).alloc (.cells (In.cs ⟨0,d,s,t,u,a,k,q⟩) 104)) 5 l (w1.heap.size+1+1) (by simp) (by omega));have hK1:=Az (EY (Dh w1 (.cells #[.string ⟨nm.toArray⟩,.string ⟨l.toArray⟩] 158) (.cells (In.cs ⟨0,d,s,t,u,a,k,q⟩) 104)) 5 ⟨l.toArray⟩);go_loopw [28] (fun v wr=>∃ (kk:Nat) (r:In),v=.int .i64 kk∧kk≤l.length∧r.wk∧Af (wr.heap[w1.heap.size+1]?=some (.cells r.cs 104 (0,0)))∧Af (Cr wr .u8 (some ⟨w1.heap.size+1+1,0,none⟩) l.length (bytesOf ⟨l.toArray⟩))∧Af (Below w.heap.size w wr)∧Af (Ce (Bh places (l.drop kk) r)=fin)∧Af (w1.heap.size+1+1<wr.heap.size)) (fun v wr=>l.length-(intOf v).toNat)
 case atStart=>exact⟨0,⟨0,d,s,t,u,a,k,q⟩,rfl,Nat.zero_le _,hwk,hK1,hR1,hB1,by simpa using HF,⟨by rw[Lib.bytesWorld_size];simp⟩⟩
 case round =>
  clear hB0 hB1 hR1 hK1;obtain⟨kk,r,rfl,hkk,hwr,hK,hR,hB,hF,hZ⟩:=hrel;by_cases hlt:kk<l.length
  ·have hby:=L0 hR.out kk hlt;have hst:=Az (U6 places l kk r hlt);generalize hs0:((l.getD kk 0).toNat:Int)=sg at hby hst;have HS:=Az hs0;clear hs0;cases hfo:AE sg with
   |some j =>
    have hj:=Hc hfo;obtain⟨n87,n80⟩:=Pj hfo;have hst':=Az (FE (places:=places) (r:=r) hfo);have cj:wr.cell? ⟨w1.heap.size+1,j,none⟩=some (.int .i64 (r.get j)):=(Bc hK.out j).trans (r.c j hj.1 hj.2);have fj:=Bf hK.out j;have hwi:=Az (Kv hfo);have hfo':=Az hfo;clear hfo;by_cases h1:r.get j<0
    ·go_wp2_with fail
     refine(Cz _ _ _ _ hfo'.out).mono ?_;rintro e w' ⟨rfl,rfl⟩;go_wp2;go_ret;exact⟨congrArg (fun b=>Ending.returned (.bool b)) (DA hF.out hst.out (hst'.out.trans (if_pos (.inl h1)))).symm,hB.out⟩
    ·by_cases h2:7<r.get j
     ·go_wp2_with fail
      refine(Cz _ _ _ _ hfo'.out).mono ?_;rintro e w' ⟨rfl,rfl⟩;go_wp2;go_ret;exact⟨congrArg (fun b=>Ending.returned (.bool b)) (DA hF.out hst.out (hst'.out.trans (if_pos (.inr h2)))).symm,hB.out⟩
     ·go_wp2_with fail
      refine(Cz _ _ _ _ hfo'.out).mono ?_;rintro e w' ⟨rfl,rfl⟩;go_wp2_with fail
      refine(BE _ _ _ _ _ hwi.out).mono ?_;rintro e w' ⟨rfl,rfl⟩;go_wp2;go_roundw
      case rel=>exact⟨kk+1,r.put 0 j,by go_num,by omega,In.U7 hwr _ _,⟨by have:=Bs hK.out j (.int .i64 0);rw[In.Qm _ _ _ hj.1 hj.2]at this;exact this⟩,⟨DG hR.out (by simp) _⟩,⟨hB.out.setCell (by simp;omega) _⟩,⟨Gp hF.out hst.out (hst'.out.trans (if_neg (by omega)))⟩,⟨by simpa using hZ.out⟩⟩
      case measure=>simp[intOf];omega
   |none =>
    have c3:wr.cell? ⟨w1.heap.size+1,3,none⟩=some (.int .i64 r.t):=(Bc hK.out 3).trans rfl;have c6:wr.cell? ⟨w1.heap.size+1,6,none⟩=some (.int .u32 r.k):=(Bc hK.out 6).trans rfl;have c7:wr.cell? ⟨w1.heap.size+1,7,none⟩=some (.int .i64 r.q):=(Bc hK.out 7).trans rfl;have f3:=Bf hK.out 3;have f6:=Bf hK.out 6;have f7:=Bf hK.out 7;have hfo':=Az hfo;clear hfo;by_cases h87:sg=87
    ·subst h87;have hst':=Az (RM (places:=places) (r:=r));have hwi:=Az (show within 87=(0,1,true) from rfl);have hk0:¬r.k<0:=by have:=hwr.1;omega
     by_cases hk2:1<r.k
     ·go_wp2_with fail
      refine(B5 _ _ _ hfo'.out).mono ?_;rintro e w' ⟨rfl,rfl⟩;go_wp2_with fail
      refine(BE _ _ _ _ _ hwi.out).mono ?_;rintro e w' ⟨rfl,rfl⟩;go_wp2;go_ret;exact⟨congrArg (fun b=>Ending.returned (.bool b)) (DA hF.out hst.out (hst'.out.trans (if_pos hk2))).symm,hB.out⟩
     by_cases ht1:r.t<0
     ·go_wp2_with fail
      refine(B5 _ _ _ hfo'.out).mono ?_;rintro e w' ⟨rfl,rfl⟩;go_wp2_with fail
      refine(BE _ _ _ _ _ hwi.out).mono ?_;rintro e w' ⟨rfl,rfl⟩;go_wp2_with fail
      refine(Cz _ _ _ _ (show AE 84=some 3 from rfl)).mono ?_;rintro e w' ⟨rfl,rfl⟩;go_wp2;go_ret;exact⟨congrArg (fun b=>Ending.returned (.bool b)) (DA hF.out hst.out (hst'.out.trans ((if_neg (by omega)).trans (if_pos (.inl ht1))))).symm,hB.out.setCell (by simp;omega) _⟩
     by_cases ht2:7<r.t
     ·go_wp2_with fail
      refine(B5 _ _ _ hfo'.out).mono ?_;rintro e w' ⟨rfl,rfl⟩;go_wp2_with fail
      refine(BE _ _ _ _ _ hwi.out).mono ?_;rintro e w' ⟨rfl,rfl⟩;go_wp2_with fail
      refine(Cz _ _ _ _ (show AE 84=some 3 from rfl)).mono ?_;rintro e w' ⟨rfl,rfl⟩;go_wp2;go_ret;exact⟨congrArg (fun b=>Ending.returned (.bool b)) (DA hF.out hst.out (hst'.out.trans ((if_neg (by omega)).trans (if_pos (.inr (.inl ht2)))))).symm,hB.out.setCell (by simp;omega) _⟩
     by_cases hq1:r.q < -1
     ·go_wp2_with fail
      refine(B5 _ _ _ hfo'.out).mono ?_;rintro e w' ⟨rfl,rfl⟩;go_wp2_with fail
      refine(BE _ _ _ _ _ hwi.out).mono ?_;rintro e w' ⟨rfl,rfl⟩;go_wp2_with fail
      refine(Cz _ _ _ _ (show AE 84=some 3 from rfl)).mono ?_;rintro e w' ⟨rfl,rfl⟩;go_wp2;go_ret;exact⟨congrArg (fun b=>Ending.returned (.bool b)) (DA hF.out hst.out (hst'.out.trans ((if_neg (by omega)).trans (if_pos (.inr (.inr (.inl hq1))))))).symm,hB.out.setCell (by simp;omega) _⟩
     by_cases hq2:r.q = -1
     ·have hq2b:(r.q != -1)=false:=bne_eq_false_iff_eq.2 hq2;have hq2:=Az hq2;go_wp2_with fail
      refine(B5 _ _ _ hfo'.out).mono ?_;rintro e w' ⟨rfl,rfl⟩;go_wp2_with fail
      refine(BE _ _ _ _ _ hwi.out).mono ?_;rintro e w' ⟨rfl,rfl⟩;go_wp2_with fail
      refine(Cz _ _ _ _ (show AE 84=some 3 from rfl)).mono ?_;rintro e w' ⟨rfl,rfl⟩;go_wp2;go_roundw
      case rel=>exact⟨kk+1,{r with k:=0,t:=0,q:=0},by go_num,by omega,⟨by simp,by simp⟩,⟨Bs (Bs (Bs (hK.out) 6 (.int .u32 0)) 3 (.int .i64 0)) 7 (.int .i64 0)⟩,⟨DG (DG (DG (hR.out) (by simp) _) (by simp) _) (by simp) _⟩,⟨(((hB.out).setCell (by simp;omega) _).setCell (by simp;omega) _).setCell (by simp;omega) _⟩,⟨Gp hF.out hst.out (hst'.out.trans ((if_neg (by omega)).trans (if_neg (by have:=hq2.out;omega))))⟩,⟨by simpa using hZ.out⟩⟩
      case measure=>simp[intOf];omega
     ·have hq2b:(r.q != -1)=true:=bne_iff_ne.2 hq2;by_cases hq3:places≤r.q
      ·go_wp2_with fail
       refine(B5 _ _ _ hfo'.out).mono ?_;rintro e w' ⟨rfl,rfl⟩;go_wp2_with fail
       refine(BE _ _ _ _ _ hwi.out).mono ?_;rintro e w' ⟨rfl,rfl⟩;go_wp2_with fail
       refine(Cz _ _ _ _ (show AE 84=some 3 from rfl)).mono ?_;rintro e w' ⟨rfl,rfl⟩;go_wp2;go_ret;exact⟨congrArg (fun b=>Ending.returned (.bool b)) (DA hF.out hst.out (hst'.out.trans ((if_neg (by omega)).trans (if_pos (.inr (.inr (.inr ⟨hq2,hq3⟩))))))).symm,hB.out.setCell (by simp;omega) _⟩
      ·go_wp2_with fail
       refine(B5 _ _ _ hfo'.out).mono ?_;rintro e w' ⟨rfl,rfl⟩;go_wp2_with fail
       refine(BE _ _ _ _ _ hwi.out).mono ?_;rintro e w' ⟨rfl,rfl⟩;go_wp2_with fail
       refine(Cz _ _ _ _ (show AE 84=some 3 from rfl)).mono ?_;rintro e w' ⟨rfl,rfl⟩;go_wp2;go_roundw
       case rel=>exact⟨kk+1,{r with k:=0,t:=0,q:=0},by go_num,by omega,⟨by simp,by simp⟩,⟨Bs (Bs (Bs (hK.out) 6 (.int .u32 0)) 3 (.int .i64 0)) 7 (.int .i64 0)⟩,⟨DG (DG (DG (hR.out) (by simp) _) (by simp) _) (by simp) _⟩,⟨(((hB.out).setCell (by simp;omega) _).setCell (by simp;omega) _).setCell (by simp;omega) _⟩,⟨Gp hF.out hst.out (hst'.out.trans ((if_neg (by omega)).trans (if_neg (by omega))))⟩,⟨by simpa using hZ.out⟩⟩
       case measure=>simp[intOf];omega
    ·by_cases h80:sg=80
     ·subst h80;have hst':=Az (RJ (places:=places) (r:=r));have hwi:=Az (show within 80=(0,0,false) from rfl);by_cases hq1:r.q<0
      ·go_wp2_with fail
       refine(B5 _ _ _ hfo'.out).mono ?_;rintro e w' ⟨rfl,rfl⟩;go_wp2_with fail
       refine(BE _ _ _ _ _ hwi.out).mono ?_;rintro e w' ⟨rfl,rfl⟩;go_wp2;go_ret;exact⟨congrArg (fun b=>Ending.returned (.bool b)) (DA hF.out hst.out (hst'.out.trans (if_pos (.inl hq1)))).symm,hB.out⟩
      ·by_cases hq2:places≤r.q
       ·go_wp2_with fail
        refine(B5 _ _ _ hfo'.out).mono ?_;rintro e w' ⟨rfl,rfl⟩;go_wp2_with fail
        refine(BE _ _ _ _ _ hwi.out).mono ?_;rintro e w' ⟨rfl,rfl⟩;go_wp2;go_ret;exact⟨congrArg (fun b=>Ending.returned (.bool b)) (DA hF.out hst.out (hst'.out.trans (if_pos (.inr hq2)))).symm,hB.out⟩
       ·go_wp2_with fail
        refine(B5 _ _ _ hfo'.out).mono ?_;rintro e w' ⟨rfl,rfl⟩;go_wp2_with fail
        refine(BE _ _ _ _ _ hwi.out).mono ?_;rintro e w' ⟨rfl,rfl⟩;go_wp2;go_roundw
        case rel=>exact⟨kk+1,{r with q:=0},by go_num,by omega,hwr,⟨Bs (hK.out) 7 (.int .i64 0)⟩,⟨DG (hR.out) (by simp) _⟩,⟨(hB.out).setCell (by simp;omega) _⟩,⟨Gp hF.out hst.out (hst'.out.trans (if_neg (by omega)))⟩,⟨by simpa using hZ.out⟩⟩
        case measure=>simp[intOf];omega
     ·obtain⟨lo,hi,b,hwi⟩:∃ lo hi b,within sg=(lo,hi,b):=⟨_,_,_,rfl⟩
      cases b with
      |true =>
       obtain⟨_,n87,n80,hst'⟩:=WV (places:=places) (r:=r) hwi hwr h87;have hst':=Az hst';have hwi:=Az hwi;by_cases hk1:r.k<lo
       ·go_wp2_with fail
        refine(B5 _ _ _ hfo'.out).mono ?_;rintro e w' ⟨rfl,rfl⟩;go_wp2_with fail
        refine(BE _ _ _ _ _ hwi.out).mono ?_;rintro e w' ⟨rfl,rfl⟩;go_wp2;go_ret;exact⟨congrArg (fun b=>Ending.returned (.bool b)) (DA hF.out hst.out (hst'.out.trans (if_pos (.inl hk1)))).symm,hB.out⟩
       ·by_cases hk2:hi<r.k
        ·go_wp2_with fail
         refine(B5 _ _ _ hfo'.out).mono ?_;rintro e w' ⟨rfl,rfl⟩;go_wp2_with fail
         refine(BE _ _ _ _ _ hwi.out).mono ?_;rintro e w' ⟨rfl,rfl⟩;go_wp2;go_ret;exact⟨congrArg (fun b=>Ending.returned (.bool b)) (DA hF.out hst.out (hst'.out.trans (if_pos (.inr hk2)))).symm,hB.out⟩
        ·go_wp2_with fail
         refine(B5 _ _ _ hfo'.out).mono ?_;rintro e w' ⟨rfl,rfl⟩;go_wp2_with fail
         refine(BE _ _ _ _ _ hwi.out).mono ?_;rintro e w' ⟨rfl,rfl⟩;go_wp2;go_roundw
         case rel=>exact⟨kk+1,{r with k:=0},by go_num,by omega,⟨by simp,by simp⟩,⟨Bs (hK.out) 6 (.int .u32 0)⟩,⟨DG (hR.out) (by simp) _⟩,⟨(hB.out).setCell (by simp;omega) _⟩,⟨Gp hF.out hst.out (hst'.out.trans (if_neg (by omega)))⟩,⟨by simpa using hZ.out⟩⟩
         case measure=>simp[intOf];omega
      |false =>
       obtain⟨hst',rfl,rfl,_⟩:=Pk (places:=places) (r:=r) hfo'.out hwi h80;have hst':=Az hst';have hwi:=Az hwi;have n87:(sg==87)=false:=Bq h87;have n80:(sg==80)=false:=Bq h80;go_wp2_with fail
       refine(B5 _ _ _ hfo'.out).mono ?_;rintro e w' ⟨rfl,rfl⟩;go_wp2_with fail
       refine(BE _ _ _ _ _ hwi.out).mono ?_;rintro e w' ⟨rfl,rfl⟩;go_wp2;go_roundw
       case rel=>exact⟨kk+1,r,by go_num,by omega,hwr,hK,hR,hB,⟨Gp hF.out hst.out hst'.out⟩,hZ⟩
       case measure=>simp[intOf];omega
  ·have hkl:kk=l.length:=by omega
   have c0:wr.cell? ⟨w1.heap.size+1,0,none⟩=some (.int .i64 r.op):=(Bc hK.out 0).trans rfl;have c1:wr.cell? ⟨w1.heap.size+1,1,none⟩=some (.int .i64 r.d):=(Bc hK.out 1).trans rfl;have c2:wr.cell? ⟨w1.heap.size+1,2,none⟩=some (.int .i64 r.s):=(Bc hK.out 2).trans rfl;have c3:wr.cell? ⟨w1.heap.size+1,3,none⟩=some (.int .i64 r.t):=(Bc hK.out 3).trans rfl;have c4:wr.cell? ⟨w1.heap.size+1,4,none⟩=some (.int .i64 r.u):=(Bc hK.out 4).trans rfl;have c5:wr.cell? ⟨w1.heap.size+1,5,none⟩=some (.int .i64 r.a):=(Bc hK.out 5).trans rfl;have c6:wr.cell? ⟨w1.heap.size+1,6,none⟩=some (.int .u32 r.k):=(Bc hK.out 6).trans rfl;have c7:wr.cell? ⟨w1.heap.size+1,7,none⟩=some (.int .i64 r.q):=(Bc hK.out 7).trans rfl;have hkl:=Az hkl;go_wp2;all_goals go_ret
   all_goals refine⟨congrArg (fun b=>Ending.returned (.bool b)) (Xd hkl.out hF.out ?_),hB.out⟩
   all_goals (simp only[*];simp)
theorem QM(op d s t u a k q places:Int)(w:World)(hn:Ak op=[]) :
  Calls Tryz.prog 123 #[.agg #[.int .i64 op,.int .i64 d,.int .i64 s,.int .i64 t,.int .i64 u,.int .i64 a,.int .u32 k,.int .i64 q],.int .i64 places] w fun e w'=>e=.returned (.bool false)∧Below w.heap.size w w':=by
 have HN:=Az hn;clear hn;go_enter Tryz.func123,Tryz.ntmps123;go_wp2_with fail
 refine(Hi _ _).mono ?_;rintro e w1 ⟨rfl,hb⟩;rw[HN.out];have z:w.heap.size<w1.heap.size:=Bl (Bk hb (Bv w _));go_wp2;go_ret;exact⟨rfl,(((Below.refl w.heap.size w).alloc (Nl _) _).trans (hb.mono (by simp))).alloc (Nat.le_of_lt z) _⟩
theorem JX(i:In)(places:Int)(hwk:i.wk)(w:World) :
  Calls Tryz.prog 123 #[i.v,.int .i64 places] w fun e w'=>e=.returned (.bool (AN i places))∧Below w.heap.size w w':=by
 cases i with
 |mk op d s t u a k q =>
  by_cases h:Ak op=[]
  ·have e:AN ⟨op,d,s,t,u,a,k,q⟩ places=false:=by unfold AN;rw[if_pos h]
   rw[e];exact QM op d s t u a k q places w h
  ·exact QL op d s t u a k q places hwk w h
end
section
open Go Go.Deep Go.Joins Go.ChangeShapes Go.WideShapes Go.ChangeAt Go.RowKit

end
section
open Go.RowKit Go.Proofs.YtnmahobjmpdkdaaGreatDoorW.PrintWords
theorem IP{n:Nat}(h:n≤31):2 ^ n≤2147483648:=Nat.pow_le_pow_right (by decide) h
theorem J0(n:Nat)(hn:n≤31)(w:World):Calls Tryz.prog 127 #[.int .i64 (n:Int)] w fun e w'=>e=.returned (.int .i64 ((2 ^ n:Nat):Int))∧Below w.heap.size w w':=by
 have b0:=Below.refl w.heap.size w;replace b0:=Az b0;go_enter Tryz.func127,Tryz.ntmps127;go_wp2_with fail
 go_loopw [3,4] (fun v3 v4 wr=>∃ i:Nat,v3=.int .i64 ((2 ^ i:Nat):Int)∧v4=.int .i64 (i:Int)∧i≤n∧wr=w) (fun v3 v4 _=>n-(intOf v4).toNat)
 case atStart=>exact⟨0,rfl,rfl,Nat.zero_le _,rfl⟩
 case round =>
  obtain⟨i,rfl,rfl,hi,rfl⟩:=hrel;by_cases hlt:i<n
  ·have k1:(i:Int)<(n:Int):=by omega
   have kw:IntKind.i64.wrap ((i:Int)+1)=(i:Int)+1:=by rw[IntKind.wrap_i64];omega
   have hp:=IP (n:=i+1) (by omega);have e2:2 ^ (i+1)=2 ^ i*2:=Nat.pow_succ 2 i;obtain⟨x,hx⟩:∃ x,2 ^ i=x:=⟨_,rfl⟩
   rw[hx]at e2 ⊢;have kp:IntKind.i64.wrap ((x:Int)*2)=(x:Int)*2:=by rw[IntKind.wrap_i64];omega
   go_wp2;go_roundw
   case rel=>exact⟨i+1,by rw[e2];go_num,by go_num,hlt,trivial⟩
   case measure=>simp[intOf];omega
  ·obtain rfl:i=n:=by omega
   have e1:¬(i:Int)<(i:Int):=by omega
   go_wp2;go_ret;exact⟨rfl,b0.out⟩
def EJ(a b:Nat)(both:Bool):Nat→Nat
 |0=>0
 |i+1=>EJ a b both i+(if (if both=true then a/2 ^ i%2+b/2 ^ i%2=2 else a/2 ^ i%2+b/2 ^ i%2 > 0) then 2 ^ i else 0)
theorem L1(a b:Nat):∀ i:Nat,EJ a b true i=(a &&& b)%2 ^ i
 |0=>by simp[EJ,Nat.mod_one]
 |i+1=>by
  rw[EJ,L1 a b i,Nat.mod_pow_succ]
  congr 1
  have h:=Nat.toNat_testBit (a &&& b) i;have ha:=Nat.toNat_testBit a i;have hb:=Nat.toNat_testBit b i;rw[Nat.testBit_and]at h;rw[←h,←ha,←hb];cases a.testBit i<;>cases b.testBit i<;>simp
theorem NW(a b:Nat):∀ i:Nat,EJ a b false i=(a ||| b)%2 ^ i
 |0=>by simp[EJ,Nat.mod_one]
 |i+1=>by
  rw[EJ,NW a b i,Nat.mod_pow_succ]
  congr 1
  have h:=Nat.toNat_testBit (a ||| b) i;have ha:=Nat.toNat_testBit a i;have hb:=Nat.toNat_testBit b i;rw[Nat.testBit_or]at h;rw[←h,←ha,←hb];cases a.testBit i<;>cases b.testBit i<;>simp
theorem RT(a b:Nat)(both:Bool)(i:Nat):EJ a b both i<2 ^ i:=by
 cases both
 ·rw[NW];exact Nat.mod_lt _ (Nat.two_pow_pos i)
 ·rw[L1];exact Nat.mod_lt _ (Nat.two_pow_pos i)
theorem QP{a b:Nat}(ha:a<4294967296):EJ a b true 32=Nat.land a b:=by
 rw[L1];exact Nat.mod_eq_of_lt (Nat.lt_of_le_of_lt Nat.and_le_left ha)
theorem Tv{a b:Nat}(ha:a<4294967296)(hb:b<4294967296):EJ a b false 32=Nat.lor a b:=by
 rw[NW];exact Nat.mod_eq_of_lt (Nat.or_lt_two_pow (n:=32) ha hb)
theorem wrap_small{x:Nat}(h:x<4294967296):IntKind.i64.wrap (x:Int)=(x:Int)∧wrap64 (x:Int)=(x:Int):=⟨by rw[IntKind.wrap_i64];omega,by unfold wrap64;omega⟩
theorem IQ{w W W':World}(hb:Below W.heap.size W W')(h:Af (Below w.heap.size w W)):Af (Below w.heap.size w W'):=⟨h.out.trans (hb.mono h.out.size)⟩
theorem L3(a b:Nat)(both:Bool)(ha:a<4294967296)(hb:b<4294967296)(w:World):Calls Tryz.prog 126 #[.int .i64 (a:Int),.int .i64 (b:Int),.int .i64 (bif both then 1 else 0)] w fun e w'=>e=.returned (.int .i64 (EJ a b both 32:Nat))∧Below w.heap.size w w':=by
 have b0:=Az (Below.refl w.heap.size w);obtain⟨bo,hbo⟩:∃ x:Int,(bif both then 1 else 0)=x:=⟨_,rfl⟩
 rw[hbo];go_enter Tryz.func126,Tryz.ntmps126;go_wp2_with fail
 go_loopw [7,8] (fun v7 v8 wr=>∃ i:Nat,v7=.int .i64 (EJ a b both i:Nat)∧v8=.int .i64 (i:Int)∧i≤32∧Af (Below w.heap.size w wr)) (fun v7 v8 _=>32-(intOf v8).toNat)
 case atStart=>exact⟨0,rfl,rfl,Nat.zero_le _,b0⟩
 case round =>
  obtain⟨i,rfl,rfl,hi,hB⟩:=hrel;clear b0;by_cases hlt:i<32
  ·have k1:(i:Int)<32:=by omega
   have kw:IntKind.i64.wrap ((i:Int)+1)=(i:Int)+1:=by rw[IntKind.wrap_i64];omega
   have hp:=IP (n:=i) (by omega);have hs:EJ a b both (i+1)=EJ a b both i+(if (if both=true then a/2 ^ i%2+b/2 ^ i%2=2 else a/2 ^ i%2+b/2 ^ i%2 > 0) then 2 ^ i else 0):=rfl;have hl:=RT a b both (i+1);have hl0:=RT a b both i;have hpo:=Nat.two_pow_pos i;have C:=Az (fun W=>J0 i (by omega) W);rw[Nat.pow_succ]at hl;obtain⟨y,hy⟩:∃ x,EJ a b both i=x:=⟨_,rfl⟩
   obtain⟨y1,hy1⟩:∃ x,EJ a b both (i+1)=x:=⟨_,rfl⟩
   obtain⟨x,hx⟩:∃ x,2 ^ i=x:=⟨_,rfl⟩
   rw[hy1]at hl;rw[hy,hy1,hx]at hs;rw[hx]at hl hl0 hp hpo C;rw[hy]at hl0 ⊢;have q1:Int.tdiv (a:Int) (x:Int)=((a/x:Nat):Int):=rfl;have q2:Int.tdiv (b:Int) (x:Int)=((b/x:Nat):Int):=rfl;have q3:Int.tmod ((a/x:Nat):Int) 2=((a/x%2:Nat):Int):=rfl;have q4:Int.tmod ((b/x:Nat):Int) 2=((b/x%2:Nat):Int):=rfl;have xz:((x:Int)==0)=false:=Bq (by omega);have xz2:¬(x:Int)=0:=by omega
   have xz3:¬x=0:=by omega
   have ab1:a/x≤a:=Nat.div_le_self a x;have ab2:b/x≤b:=Nat.div_le_self b x;generalize hA:a/x=A at *;generalize hBq:b/x=Bq at *;obtain⟨a2,ha2⟩:∃ z,A%2=z:=⟨_,rfl⟩
   obtain⟨b2,hb2⟩:∃ z,Bq%2=z:=⟨_,rfl⟩
   have hla:a2<2:=by omega
   have hlb:b2<2:=by omega
   rw[ha2]at q3 hs;rw[hb2]at q4 hs;obtain⟨qa2,qa⟩:=wrap_small (x:=A) (Nat.lt_of_le_of_lt ab1 ha);obtain⟨qb2,qb⟩:=wrap_small (x:=Bq) (Nat.lt_of_le_of_lt ab2 hb);replace hy1:=Az hy1;clear hA hBq ha2 hb2 hx hy ha hb;have hS:Af (Below w.heap.size w wr.drew):=⟨Bd hB.out⟩
   go_wp2_with fail
   go_region_held3 (fun W=>Af (Below w.heap.size w W)) (first |exact hS |exact IQ hb (by assumption))
    (first |(go_at_call 127;(with_reducible refine(C.out _).mono ?_);rintro e w' ⟨rfl,hb⟩))
   replace hS:=(by assumption:Af (Below w.heap.size w _))
   have c2:a2=0∨a2=1:=by omega
   have c3:b2=0∨b2=1:=by omega
   have ky:IntKind.i64.wrap ((y:Int)+(x:Int))=(y:Int)+(x:Int):=by rw[IntKind.wrap_i64];omega
   have ob:(bo==1)=both∧(bo==0)=!both:=by rw[←hbo];cases both<;>exact⟨rfl,rfl⟩
   obtain⟨o1,o0⟩:=ob;clear hbo;cases both<;>simp only[Bool.not_true,Bool.not_false]at o0<;>rcases c2 with rfl |rfl<;>rcases c3 with rfl |rfl<;>simp at hs
   ·subst hs;go_wp2_with fail
    clear C;go_roundw
    case rel=>exact⟨i+1,by rw[hy1.out],by go_num,hlt,hS⟩
    case measure=>simp[intOf];omega
   ·subst hs;go_wp2_with fail
    refine(C.out _).mono ?_;rintro e w9 ⟨rfl,hb9⟩;replace hS:=IQ hb9 hS;clear C;go_wp2;go_roundw
    case rel=>exact⟨i+1,by rw[hy1.out];go_num,by go_num,hlt,hS⟩
    case measure=>simp[intOf];omega
   ·subst hs;go_wp2_with fail
    refine(C.out _).mono ?_;rintro e w9 ⟨rfl,hb9⟩;replace hS:=IQ hb9 hS;clear C;go_wp2;go_roundw
    case rel=>exact⟨i+1,by rw[hy1.out];go_num,by go_num,hlt,hS⟩
    case measure=>simp[intOf];omega
   ·subst hs;go_wp2_with fail
    refine(C.out _).mono ?_;rintro e w9 ⟨rfl,hb9⟩;replace hS:=IQ hb9 hS;clear C;go_wp2;go_roundw
    case rel=>exact⟨i+1,by rw[hy1.out];go_num,by go_num,hlt,hS⟩
    case measure=>simp[intOf];omega
   ·subst hs;go_wp2_with fail
    clear C;go_roundw
    case rel=>exact⟨i+1,by rw[hy1.out],by go_num,hlt,hS⟩
    case measure=>simp[intOf];omega
   ·subst hs;go_wp2_with fail
    clear C;go_roundw
    case rel=>exact⟨i+1,by rw[hy1.out],by go_num,hlt,hS⟩
    case measure=>simp[intOf];omega
   ·subst hs;go_wp2_with fail
    clear C;go_roundw
    case rel=>exact⟨i+1,by rw[hy1.out],by go_num,hlt,hS⟩
    case measure=>simp[intOf];omega
   ·subst hs;go_wp2_with fail
    refine(C.out _).mono ?_;rintro e w9 ⟨rfl,hb9⟩;replace hS:=IQ hb9 hS;clear C;go_wp2;go_roundw
    case rel=>exact⟨i+1,by rw[hy1.out];go_num,by go_num,hlt,hS⟩
    case measure=>simp[intOf];omega
  ·obtain rfl:i=32:=by omega
   have e1:¬((32:Nat):Int)<32:=by omega
   go_wp2;go_ret;exact⟨rfl,hB.out⟩
theorem Tw(a b:Nat)(ha:a<4294967296)(hb:b<4294967296)(w:World):Calls Tryz.prog 126 #[.int .i64 (a:Int),.int .i64 (b:Int),.int .i64 1] w fun e w'=>e=.returned (.int .i64 (Nat.land a b:Nat))∧Below w.heap.size w w':=by
 rw[←QP (b:=b) ha];exact L3 a b true ha hb w
theorem US(a b:Nat)(ha:a<4294967296)(hb:b<4294967296)(w:World):Calls Tryz.prog 126 #[.int .i64 (a:Int),.int .i64 (b:Int),.int .i64 0] w fun e w'=>e=.returned (.int .i64 (Nat.lor a b:Nat))∧Below w.heap.size w w':=by
 rw[←Tv ha hb];exact L3 a b false ha hb w
theorem Qd(W:World)(o:Obj):Below W.heap.size W (W.alloc o):=(Below.refl _ _).alloc (Nl _) o
theorem La(i:In)(w:World):Calls Tryz.prog 97 #[i.v] w fun e w'=>e=.returned (.bool (Ee i))∧Below w.heap.size w w':=by
 obtain⟨op,d,s,t,u,a,k,q⟩:=i;have hb:=Qd w (.cells #[.int .i64 op,.int .i64 d,.int .i64 s,.int .i64 t,.int .i64 u,.int .i64 a,.int .u32 k,.int .i64 q] 104);obtain⟨r,hr⟩:∃ r,Ee ⟨op,d,s,t,u,a,k,q⟩=r:=⟨_,rfl⟩
 rw[hr];have hg:r=decide ((8≤op∧op≤10)∨(op=21∧0≤q)):=hr.symm;dsimp only[In.v];clear hr;go_enter Tryz.func97,Tryz.ntmps97;by_cases h1:8≤op
 ·by_cases h2:op≤10
  ·obtain rfl:r=true:=by rw[hg];exact decide_eq_true (by omega)
   clear hg;go_wp2;go_ret;exact⟨rfl,hb⟩
  ·by_cases h3:op=21
   ·by_cases h4:0≤q
    ·obtain rfl:r=true:=by rw[hg];exact decide_eq_true (by omega)
     subst h3;clear hg;go_wp2;go_ret;exact⟨rfl,hb⟩
    ·obtain rfl:r=false:=by rw[hg];exact decide_eq_false (by omega)
     subst h3;clear hg;go_wp2;go_ret;exact⟨rfl,hb⟩
   ·have x:(op==21)=false:=Bq h3;obtain rfl:r=false:=by rw[hg];exact decide_eq_false (by omega)
    clear h3;clear hg;go_wp2;go_ret;exact⟨rfl,hb⟩
 ·by_cases h3:op=21
  ·omega
  ·have x:(op==21)=false:=Bq h3;obtain rfl:r=false:=by rw[hg];exact decide_eq_false (by omega)
   clear h3;clear hg;go_wp2;go_ret;exact⟨rfl,hb⟩
theorem Km(i:In)(w:World):Calls Tryz.prog 74 #[i.v] w fun e w'=>e=.returned (.bool (Ee i))∧Below w.heap.size w w':=by
 obtain⟨op,d,s,t,u,a,k,q⟩:=i;have hb:=Qd w (.cells #[.int .i64 op,.int .i64 d,.int .i64 s,.int .i64 t,.int .i64 u,.int .i64 a,.int .u32 k,.int .i64 q] 90);obtain⟨r,hr⟩:∃ r,Ee ⟨op,d,s,t,u,a,k,q⟩=r:=⟨_,rfl⟩
 rw[hr];have hg:r=decide ((8≤op∧op≤10)∨(op=21∧0≤q)):=hr.symm;dsimp only[In.v];clear hr;go_enter Tryz.func74,Tryz.ntmps74;by_cases h1:8≤op
 ·by_cases h2:op≤10
  ·obtain rfl:r=true:=by rw[hg];exact decide_eq_true (by omega)
   clear hg;go_wp2;go_ret;exact⟨rfl,hb⟩
  ·by_cases h3:op=21
   ·by_cases h4:0≤q
    ·obtain rfl:r=true:=by rw[hg];exact decide_eq_true (by omega)
     subst h3;clear hg;go_wp2;go_ret;exact⟨rfl,hb⟩
    ·obtain rfl:r=false:=by rw[hg];exact decide_eq_false (by omega)
     subst h3;clear hg;go_wp2;go_ret;exact⟨rfl,hb⟩
   ·have x:(op==21)=false:=Bq h3;obtain rfl:r=false:=by rw[hg];exact decide_eq_false (by omega)
    clear h3;clear hg;go_wp2;go_ret;exact⟨rfl,hb⟩
 ·by_cases h3:op=21
  ·omega
  ·have x:(op==21)=false:=Bq h3;obtain rfl:r=false:=by rw[hg];exact decide_eq_false (by omega)
   clear h3;clear hg;go_wp2;go_ret;exact⟨rfl,hb⟩
end
end Go.Proofs.YtnmahobjmpdkdaaGreatDoor
