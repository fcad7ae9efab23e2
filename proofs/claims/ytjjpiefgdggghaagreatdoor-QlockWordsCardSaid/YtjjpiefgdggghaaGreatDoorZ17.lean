/- Parts: RefDig. -/
import Derived.Test.YtjjpiefgdggghaaGreatDoorZ02
import Derived.Test.YtjjpiefgdggghaaGreatDoorProg
import Derived.Test.YtjjpiefgdggghaaGreatDoorZ01
import Derived.Test.YtjjpiefgdggghaaGreatDoorZ09
import Derived.Test.YtjjpiefgdggghaaGreatDoorZ10
set_option linter.unusedVariables false
set_option linter.unusedSimpArgs false
set_option maxRecDepth 100000
set_option maxHeartbeats 40000000
namespace Go.Proofs.YtjjpiefgdggghaaGreatDoor
section
open Go.RowKit Go.Proofs.YtjjpiefgdggghaaGreatDoorW.PrintWords Go.Proofs.YtjjpiefgdggghaaGreatDoorW.PrintLast
theorem OG:(Tryz.prog.info? 9).map (fun i=>(i.zero,i.size,i.bytes))=some (some (.string ⟨#[]⟩),1,16):=by kernel_rfl
def Al.f:Nat→Int→Option (ByteArray)
 |0,_=>none
 |k+1,a0=>if a0<10 then (some (strOfNums (([(wrap64 (48+a0))%256]:List Int)))) else ((Al.f k (wrap64 (Int.tdiv a0 10))).bind fun t281=>((some (([(wrap64 (48+(Int.tmod a0 10)))%256]:List Int):List Int)).bind fun y282=>(if t281.size+(strOfNums y282).size≤9223372036854775807 then (some (t281++(strOfNums y282))) else (none))))
theorem Al.Dp:∀ k,(∀ y0,BH (Al.f k y0) (Al.f (k+1) y0))
 |0=>fun _ r h=>by simp[Al.f]at h
 |k+1=>by
  have ih0:=Al.Dp k
  ·intro y0;unfold Al.f;repeat' first
   |(with_reducible exact ih0 _)
   |(with_reducible exact BH.refl _)
   |(with_reducible exact BH.none _)
   |(with_reducible refine BH.ite ?_ ?_)
   |(with_reducible refine BH.bind ?_ (fun _=>?_))
   |exact ih0 _
   |exact BH.none _
   |refine BH.ite ?_ ?_
   |refine BH.bind ?_ (fun _=>?_)
theorem Al.mono:∀ a0 k,BH (Al.f k a0) (Al.f (k+1) a0):=by
 intro a0 k;have ih0:=Al.Dp k;exact ih0 a0
def Al.T3:Bool×List (List Nat×List Nat):=(true,[([],[]),([0],[0]),([1],[1]),([],[]),([3],[3]),([4],[4]),([5],[5]),([6],[6]),([7],[7]),([2,8],[2,8]),([9,2,0,1,2,3,4,5,6,7,8,9],[9])])
def Al.B3:List Nat:=[0,1,3,0,8,24,56,120,248,511,1023]
theorem Al.QW:En .any (opsOf Tryz.f49 3)=Al.T3:=by kernel_rfl
theorem Al.Qh:Iu Al.T3.2 Al.B3=true:=by kernel_rfl
theorem Al.calls(k:Nat):∀ (a0:Int) (r:ByteArray) (w:World) (h:Al.f k a0=some r),
  Calls Tryz.prog 49 #[.int .i64 a0] w fun e w'=>e=.returned (.string r)∧Below w.heap.size w w':=by
 induction k using Nat.strongRecOn with
 |_ k ih =>
 intro a0 r w h;cases k with
 |zero=>exact absurd h (by simp[Al.f])
 |succ k =>
 simp only[Al.f]at h;have HB:=Az (Below.refl w.heap.size w);have H:(if a0<10 then (some (strOfNums (([(wrap64 (48+a0))%256]:List Int)))) else ((Al.f k (wrap64 (Int.tdiv a0 10))).bind fun t281=>((some (([(wrap64 (48+(Int.tmod a0 10)))%256]:List Int):List Int)).bind fun y282=>(if t281.size+(strOfNums y282).size≤9223372036854775807 then (some (t281++(strOfNums y282))) else (none)))))=some r:=h;clear h;by_cases c2:a0<10
 ·rw[if_pos c2]at H;have c2b0:decide (a0<10)=true:=decide_eq_true c2;clear c2;obtain⟨y278,hy278⟩:∃ y_:List Int,y_=(([(wrap64 (48+a0))%256]:List Int)):=⟨_,rfl⟩
  replace H:(some (strOfNums y278))=some r:=by first |(rw[hy278];with_reducible exact H) |(have H2_:=(Option.bind_some _ _).symm.trans H;rw[hy278];with_reducible exact H2_) |(have H2_:=(Option.bind_some _ _).symm.trans H;with_reducible exact H2_) |with_reducible exact H |(rw[hy278];exact H) |exact H
  have Ny278:=Az hy278;clear hy278;obtain rfl:=Option.some.inj H;go_enter Tryz.func49,Tryz.ntmps49;go_wp2_with (first |((with_reducible refine M4 (N:=8) rfl ?_);refine Kd.PR (Kd.int .u8) _ 5 ?hg (N:=8) ?hd (xs:=([(wrap64 (48+a0))%256]:List Int)) (inner:=[.int .u8 ((wrap64 (48+a0))%256)]) (ok:=fun _=>True) (okp:=fun _=>True) ?hr ?hp (fun _ hk=>hk) trivial (Below.refl _ _) (Nl _) (by simp) ?_;(case hd=>rfl);(case hg=>rfl);(case hr=>first |(go_simp;done) |(go_simp;rfl));(case hp=>exact(Bo.one (show Kd.M (Kd.int .u8) _ _ _ ((wrap64 (48+a0))%256) [.int .u8 ((wrap64 (48+a0))%256)] from rfl) (Bo.none _ _)));intro v279 w3 ho4 hb hg_ hnew_;clear hg_ hnew_;(first |rw[←Ny278.out]at ho4 |(simp only[Int.reduceToNat]at ho4;rw[←Ny278.out]at ho4));have n0_:=Az (Kd.Gw ho4 (D7 (by repeat (first |(with_reducible first |exact HB.out |apply AA |apply Aq |apply AG) |exact HB.out))));have n1_:=Az (Dg (by repeat (first |(with_reducible first |exact HB.out |apply AA |apply Aq |apply AG) |exact HB.out)) hb);clear HB;have HO280:=n0_;have HB:=n1_;clear n0_ n1_;clear hb ho4;have hcv5:=El (P:=Tryz.prog) Tryz.underlying142 Tryz.underlying5 Tryz.underlying9 (Kd.EF HO280.out)))
  go_ret;exact⟨by first |rfl |(simp[errW_none,errW_some]<;>rfl) |(simp[*,errW_none,errW_some]<;>rfl),by repeat (first |(with_reducible first |exact HB.out |apply AA |apply Aq |apply AG) |exact HB.out)⟩
 ·rw[if_neg c2]at H;have c2b0:decide (a0<10)=false:=decide_eq_false c2;clear c2;replace H:=Option.bind_eq_some_iff.mp H;obtain⟨t281,A60,H⟩:=H;replace H:((some (([(wrap64 (48+(Int.tmod a0 10)))%256]:List Int):List Int)).bind fun y282=>(if t281.size+(strOfNums y282).size≤9223372036854775807 then (some (t281++(strOfNums y282))) else (none)))=some r:=H;have A6:=Az A60;clear A60;obtain⟨y282,hy282⟩:∃ y_:List Int,y_=(([(wrap64 (48+(Int.tmod a0 10)))%256]:List Int)):=⟨_,rfl⟩
  replace H:(if t281.size+(strOfNums y282).size≤9223372036854775807 then (some (t281++(strOfNums y282))) else (none))=some r:=by first |(rw[hy282];with_reducible exact H) |(have H2_:=(Option.bind_some _ _).symm.trans H;rw[hy282];with_reducible exact H2_) |(have H2_:=(Option.bind_some _ _).symm.trans H;with_reducible exact H2_) |with_reducible exact H |(rw[hy282];exact H) |exact H
  have Ny282:=Az hy282;clear hy282;by_cases c7:t281.size+(strOfNums y282).size≤9223372036854775807
  ·rw[if_pos c7]at H;have c7b0:=eq_true c7;have c7b1:decide (t281.size+(strOfNums y282).size≤9223372036854775807)=true:=decide_eq_true c7;try have c7b2:(9223372036854775807<t281.size+(strOfNums y282).size)=False:=eq_false (Nat.not_lt.2 c7)
   obtain rfl:=Option.some.inj H;go_enter Tryz.func49,Tryz.ntmps49;try go_wp2
   have n0_:=Az (AG HB.out);clear HB;have HB:=n0_;clear n0_;refine Ph (n:=11) (S:=fun w'=>True) (ds:=[]) #[false,false,false,false,false,false,false,false,false,false,false] (by kernel_rfl) rfl rfl trivial (fun hHeld=>?_);refine L9 Al.QW Al.Qh (fun HT_ HW_=>?_);generalize w.drew=w8 at HB hHeld ⊢;refine Gi (i:=0) (N:=some 10) (v:=?_) (a':=?_) #[true,false,false,false,false,false,false,false,false,false,false] rfl rfl (EI HT_.out (by kernel_rfl)) (fun _ _ _ h=>h) (Or.inl ⟨by rfl,?_⟩) ?_ ?_;rotate_left
   ·intro w';go_simp
    with_reducible rfl
   rotate_left
   ·simp only[Act.put,Sa,Sb,Sc,CG,Da];rfl
   refine Gi (i:=1) (N:=some 11) (v:=?_) (a':=?_) #[true,true,false,false,false,false,false,false,false,false,false] rfl rfl (EI HT_.out (by kernel_rfl)) (fun _ _ _ h=>h) (Or.inl ⟨by rfl,?_⟩) ?_ ?_;rotate_left
   ·intro w';go_simp
    with_reducible rfl
   rotate_left
   ·simp only[Act.put,Sa,Sb,Sc,CG,Da];rfl
   refine Gi (i:=3) (N:=some 13) (v:=?_) (a':=?_) #[true,true,false,true,false,false,false,false,false,false,false] rfl rfl (EI HT_.out (by kernel_rfl)) (fun _ _ _ h=>h) (Or.inl ⟨by rfl,?_⟩) ?_ ?_;rotate_left
   ·intro w';go_simp
    with_reducible rfl
   rotate_left
   ·simp only[Act.put,Sa,Sb,Sc,CG,Da];rfl
   refine Gi (i:=4) (N:=some 14) (v:=?_) (a':=?_) #[true,true,false,true,true,false,false,false,false,false,false] rfl rfl (EI HT_.out (by kernel_rfl)) (fun _ _ _ h=>h) (Or.inl ⟨by rfl,?_⟩) ?_ ?_;rotate_left
   ·intro w';go_simp
    with_reducible rfl
   rotate_left
   ·simp only[Act.put,Sa,Sb,Sc,CG,Da];rfl
   refine Gi (i:=5) (N:=some 15) (v:=?_) (a':=?_) #[true,true,false,true,true,true,false,false,false,false,false] rfl rfl (EI HT_.out (by kernel_rfl)) (fun _ _ _ h=>h) (Or.inl ⟨by rfl,?_⟩) ?_ ?_;rotate_left
   ·intro w';go_simp
    with_reducible rfl
   rotate_left
   ·simp only[Act.put,Sa,Sb,Sc,CG,Da];rfl
   refine Gi (i:=6) (N:=some 16) (v:=?_) (a':=?_) #[true,true,false,true,true,true,true,false,false,false,false] rfl rfl (EI HT_.out (by kernel_rfl)) (fun _ _ _ h=>h) (Or.inl ⟨by rfl,?_⟩) ?_ ?_;rotate_left
   ·intro w';go_simp
    with_reducible rfl
   rotate_left
   ·simp only[Act.put,Sa,Sb,Sc,CG,Da];rfl
   refine Qi (σ:=Value) 2 #[true,true,true,true,true,true,true,true,true,false,false] (fun s_=>[(12,.string t281),(17,s_),(18,.string (strOfNums y282))]) (fun s_ w'=>(Kd.R (Kd.int .u8) 5 w' w.heap.size (fun _=>True) s_ y282)∧(Below w.heap.size w w')) ?_ ?_;rotate_left
   ·intro hCont;refine Qj (i:=2) (j:=7) (Ni:=some 12) (Nj:=some 17) #[true,true,true,true,true,true,true,false,false,false,false] #[true,true,false,true,true,true,true,true,false,false,false] rfl rfl rfl rfl (MB HT_.out (by kernel_rfl)) (by decide) (by decide) (fun K hK=>?_) (fun K hK=>?_)
    ·skip
     refine MK Tryz.func49 (by kernel_rfl) rfl #[.int .i64 (wrap64 (Int.tdiv a0 10))] (by rfl) rfl rfl (by(try simp only[List.map_toArray,List.map_cons,List.map_nil]);first |done |rfl |(simp only[List.length_drop,List.length_take];rfl)) ?_
     with_reducible refine(ih k (by omega) (wrap64 (Int.tdiv a0 10)) t281 _ A6.out).mono ?_
     rintro e w9 ⟨rfl,hb⟩;refine⟨_,rfl,?_⟩;have n0_:=Az (Dg (by repeat (first |(with_reducible first |exact HB.out |apply AA |apply Aq |apply AG) |exact HB.out)) hb);clear HB;have HB:=n0_;clear n0_
     (try clear hb)
     (try clear hb2)
     (try clear hk)
     (try clear hi)
     refine hK.out _ _ trivial (fun hHeld=>?_);clear hK K;refine E0 (a':=?_) ?_ ?_;rotate_left
     ·show Act.put _ (some 12) _=_
      simp only[Act.put,Sa,Sb,Sc,CG,Da];rfl
     refine NW (i:=7) (N:=some 17) #[true,true,true,true,true,true,true,true,false,false,false] rfl rfl (Is HT_.out (by kernel_rfl)) (by decide) (fun K hK=>?_);refine Kd.GO (Kd.int .u8) _ 5 ?hg (N:=17) ?hd (xs:=([(wrap64 (48+(Int.tmod a0 10)))%256]:List Int)) (inner:=[.int .u8 ((wrap64 (48+(Int.tmod a0 10)))%256)]) (ok:=fun _=>True) (okp:=fun _=>True) ?hr ?hp (fun _ hk=>hk) trivial (Below.refl _ _) (Nl _) (by simp) ?_;(case hd=>rfl);(case hg=>rfl);(case hr=>first |(go_simp;done) |(go_simp;rfl));(case hp=>exact(Bo.one (show Kd.M (Kd.int .u8) _ _ _ ((wrap64 (48+(Int.tmod a0 10)))%256) [.int .u8 ((wrap64 (48+(Int.tmod a0 10)))%256)] from rfl) (Bo.none _ _)))
     intro v283 w10 ho11 hb hg_ hnew_;clear hg_ hnew_
     (first |rw[←Ny282.out]at ho11 |(simp only[Int.reduceToNat]at ho11;rw[←Ny282.out]at ho11))
     have n0_:=Az (Kd.Gw ho11 (D7 (by repeat (first |(with_reducible first |exact HB.out |apply AA |apply Aq |apply AG) |exact HB.out))));have n1_:=Az (Dg (by repeat (first |(with_reducible first |exact HB.out |apply AA |apply Aq |apply AG) |exact HB.out)) hb);clear HB;have HO284:=n0_;have HB:=n1_;clear n0_ n1_;clear hb ho11;refine hK.out _ _ trivial (fun hHeld=>?_);clear hK K;refine E0 (a':=?_) ?_ ?_;rotate_left
     ·show Act.put _ (some 17) _=_
      simp only[Act.put,Sa,Sb,Sc,CG,Da];rfl
     refine NW (i:=8) (N:=some 18) #[true,true,true,true,true,true,true,true,true,false,false] rfl rfl (Is HT_.out (by kernel_rfl)) (by decide) (fun K hK=>?_);have hcv12:=El (P:=Tryz.prog) Tryz.underlying142 Tryz.underlying5 Tryz.underlying9 (Kd.EF HO284.out);refine Kz (w1:=?_) (v:=?_) (by rfl) rfl ?_ ?_;rotate_left 2
     ·go_simp
      constructor
      ·rfl
      ·rfl
     clear hcv12;refine hK.out _ _ trivial (fun hHeld=>?_);clear hK K;refine E0 (a':=?_) ?_ ?_;rotate_left
     ·show Act.put _ (some 18) _=_
      simp only[Act.put,Sa,Sb,Sc,CG,Da];rfl
     exact E0 (by simp only[Fm,Act.put,Sa,Sb,Sc]) (hCont (v283) _ ⟨(by(with_reducible repeat (first |apply Kd.CU |apply Kd.CV |apply Kd.D6));exact HO284.out),(by repeat (first |(with_reducible first |exact HB.out |apply AA |apply Aq |apply AG) |exact HB.out))⟩)
    ·skip
     refine Kd.GO (Kd.int .u8) _ 5 ?hg (N:=17) ?hd (xs:=([(wrap64 (48+(Int.tmod a0 10)))%256]:List Int)) (inner:=[.int .u8 ((wrap64 (48+(Int.tmod a0 10)))%256)]) (ok:=fun _=>True) (okp:=fun _=>True) ?hr ?hp (fun _ hk=>hk) trivial (Below.refl _ _) (Nl _) (by simp) ?_;(case hd=>rfl);(case hg=>rfl);(case hr=>first |(go_simp;done) |(go_simp;rfl));(case hp=>exact(Bo.one (show Kd.M (Kd.int .u8) _ _ _ ((wrap64 (48+(Int.tmod a0 10)))%256) [.int .u8 ((wrap64 (48+(Int.tmod a0 10)))%256)] from rfl) (Bo.none _ _)))
     intro v283 w9 ho10 hb hg_ hnew_;clear hg_ hnew_
     (first |rw[←Ny282.out]at ho10 |(simp only[Int.reduceToNat]at ho10;rw[←Ny282.out]at ho10))
     have n0_:=Az (Kd.Gw ho10 (D7 (by repeat (first |(with_reducible first |exact HB.out |apply AA |apply Aq |apply AG) |exact HB.out))));have n1_:=Az (Dg (by repeat (first |(with_reducible first |exact HB.out |apply AA |apply Aq |apply AG) |exact HB.out)) hb);clear HB;have HO284:=n0_;have HB:=n1_;clear n0_ n1_;clear hb ho10;refine hK.out _ _ trivial (fun hHeld=>?_);clear hK K;refine E0 (a':=?_) ?_ ?_;rotate_left
     ·show Act.put _ (some 17) _=_
      simp only[Act.put,Sa,Sb,Sc,CG,Da];rfl
     refine Qj (i:=2) (j:=8) (Ni:=some 12) (Nj:=some 18) #[true,true,true,true,true,true,true,true,false,false,false] #[true,true,false,true,true,true,true,true,true,false,false] rfl rfl rfl rfl (MB HT_.out (by kernel_rfl)) (by decide) (by decide) (fun K hK=>?_) (fun K hK=>?_)
     ·skip
      refine MK Tryz.func49 (by kernel_rfl) rfl #[.int .i64 (wrap64 (Int.tdiv a0 10))] (by rfl) rfl rfl (by(try simp only[List.map_toArray,List.map_cons,List.map_nil]);first |done |rfl |(simp only[List.length_drop,List.length_take];rfl)) ?_
      with_reducible refine(ih k (by omega) (wrap64 (Int.tdiv a0 10)) t281 _ A6.out).mono ?_
      rintro e w11 ⟨rfl,hb⟩;refine⟨_,rfl,?_⟩;have n0_:=Az (Kd.F3 (by(with_reducible repeat (first |apply Kd.CU |apply Kd.CV |apply Kd.D6));exact HO284.out) hb);have n1_:=Az (Dg (by repeat (first |(with_reducible first |exact HB.out |apply AA |apply Aq |apply AG) |exact HB.out)) hb);clear HO284;clear HB;have HO284:=n0_;have HB:=n1_;clear n0_ n1_
      (try clear hb)
      (try clear hb2)
      (try clear hk)
      (try clear hi)
      refine hK.out _ _ trivial (fun hHeld=>?_);clear hK K;refine E0 (a':=?_) ?_ ?_;rotate_left
      ·show Act.put _ (some 12) _=_
       simp only[Act.put,Sa,Sb,Sc,CG,Da];rfl
      refine NW (i:=8) (N:=some 18) #[true,true,true,true,true,true,true,true,true,false,false] rfl rfl (Is HT_.out (by kernel_rfl)) (by decide) (fun K hK=>?_);have hcv12:=El (P:=Tryz.prog) Tryz.underlying142 Tryz.underlying5 Tryz.underlying9 (Kd.EF HO284.out);refine Kz (w1:=?_) (v:=?_) (by rfl) rfl ?_ ?_;rotate_left 2
      ·go_simp
       constructor
       ·rfl
       ·rfl
      clear hcv12;refine hK.out _ _ trivial (fun hHeld=>?_);clear hK K;refine E0 (a':=?_) ?_ ?_;rotate_left
      ·show Act.put _ (some 18) _=_
       simp only[Act.put,Sa,Sb,Sc,CG,Da];rfl
      exact E0 (by simp only[Fm,Act.put,Sa,Sb,Sc]) (hCont (v283) _ ⟨(by(with_reducible repeat (first |apply Kd.CU |apply Kd.CV |apply Kd.D6));exact HO284.out),(by repeat (first |(with_reducible first |exact HB.out |apply AA |apply Aq |apply AG) |exact HB.out))⟩)
     ·skip
      have hcv11:=El (P:=Tryz.prog) Tryz.underlying142 Tryz.underlying5 Tryz.underlying9 (Kd.EF HO284.out);refine Kz (w1:=?_) (v:=?_) (by rfl) rfl ?_ ?_;rotate_left 2
      ·go_simp
       constructor
       ·rfl
       ·rfl
      clear hcv11;refine hK.out _ _ trivial (fun hHeld=>?_);clear hK K;refine E0 (a':=?_) ?_ ?_;rotate_left
      ·show Act.put _ (some 18) _=_
       simp only[Act.put,Sa,Sb,Sc,CG,Da];rfl
      refine NW (i:=2) (N:=some 12) #[true,true,true,true,true,true,true,true,true,false,false] rfl rfl (Is HT_.out (by kernel_rfl)) (by decide) (fun K hK=>?_);refine MK Tryz.func49 (by kernel_rfl) rfl #[.int .i64 (wrap64 (Int.tdiv a0 10))] (by rfl) rfl rfl (by(try simp only[List.map_toArray,List.map_cons,List.map_nil]);first |done |rfl |(simp only[List.length_drop,List.length_take];rfl)) ?_
      with_reducible refine(ih k (by omega) (wrap64 (Int.tdiv a0 10)) t281 _ A6.out).mono ?_
      rintro e w12 ⟨rfl,hb⟩;refine⟨_,rfl,?_⟩;have n0_:=Az (Kd.F3 (by(with_reducible repeat (first |apply Kd.CU |apply Kd.CV |apply Kd.D6));exact HO284.out) hb);have n1_:=Az (Dg (by repeat (first |(with_reducible first |exact HB.out |apply AA |apply Aq |apply AG) |exact HB.out)) hb);clear HO284;clear HB;have HO284:=n0_;have HB:=n1_;clear n0_ n1_
      (try clear hb)
      (try clear hb2)
      (try clear hk)
      (try clear hi)
      refine hK.out _ _ trivial (fun hHeld=>?_);clear hK K;refine E0 (a':=?_) ?_ ?_;rotate_left
      ·show Act.put _ (some 12) _=_
       simp only[Act.put,Sa,Sb,Sc,CG,Da];rfl
      exact E0 (by simp only[Fm,Act.put,Sa,Sb,Sc]) (hCont (v283) _ ⟨(by(with_reducible repeat (first |apply Kd.CU |apply Kd.CV |apply Kd.D6));exact HO284.out),(by repeat (first |(with_reducible first |exact HB.out |apply AA |apply Aq |apply AG) |exact HB.out))⟩)
   rintro v283 w13 ⟨h0_,h1_⟩;have n0_:Ai (Kd.R (Kd.int .u8) 5 w13 w.heap.size (fun _=>True) v283 y282):=⟨h0_⟩
   have n1_:Ai (Below w.heap.size w w13):=⟨h1_⟩
   clear HB;clear h0_ h1_;have HO284:=n0_;have HB:=n1_;clear n0_ n1_;have hHeld:=trivial;refine E0 (a':=?_) ?_ ?_;rotate_left
   ·simp only[Fm,Act.put,Sa,Sb,Sc];rfl
   refine Gi (i:=9) (N:=some 19) (v:=?_) (a':=?_) #[true,true,true,true,true,true,true,true,true,true,false] rfl rfl (EI HT_.out (by kernel_rfl)) (fun _ _ _ h=>h) (Or.inl ⟨by rfl,?_⟩) ?_ ?_;rotate_left
   ·intro w';go_simp
    with_reducible rfl
   rotate_left
   ·simp only[Act.put,Sa,Sb,Sc,CG,Da];rfl
   refine Gi (i:=10) (N:=some 2) (v:=?_) (a':=?_) #[true,true,true,true,true,true,true,true,true,true,true] rfl rfl (EI HT_.out (by kernel_rfl)) (fun _ _ _ h=>h) (Or.inl ⟨by rfl,?_⟩) ?_ ?_;rotate_left
   ·intro w';go_simp
    with_reducible rfl
   rotate_left
   ·simp only[Act.put,Sa,Sb,Sc,CG,Da];rfl
   refine Qk (NK HT_.out (by kernel_rfl)) ?_;try go_wp2
   go_ret;exact⟨by first |rfl |(simp[errW_none,errW_some]<;>rfl) |(simp[*,errW_none,errW_some]<;>rfl),by repeat (first |(with_reducible first |exact HB.out |apply AA |apply Aq |apply AG) |exact HB.out)⟩
  ·rw[if_neg c7]at H;exact absurd H (by simp)
def B2.f(a0:ByteArray):Option (Int):=if (a0.size:Int)=2 then (if 0<(a0.size:Int) then (if (bt a0 0)=114 then (if 1<(a0.size:Int) then (if (bt a0 1)<48 then (some (-1)) else (if (bt a0 1) > 55 then (some (-1)) else (some (((bt a0 1)-48)%256)))) else (none)) else (some (-1))) else (none)) else (some (-1))
theorem B2.calls(a0:ByteArray)(r:Int)(w:World)(h:B2.f a0=some r) :
  Calls Tryz.prog 116 #[.string a0] w fun e w'=>e=.returned (.int .i64 r)∧Au w w':=by
 have H:(if (a0.size:Int)=2 then (if 0<(a0.size:Int) then (if (bt a0 0)=114 then (if 1<(a0.size:Int) then (if (bt a0 1)<48 then (some (-1)) else (if (bt a0 1) > 55 then (some (-1)) else (some (((bt a0 1)-48)%256)))) else (none)) else (some (-1))) else (none)) else (some (-1)))=some r:=h;clear h;by_cases c2:(a0.size:Int)=2
 ·rw[if_pos c2]at H;have c2b0:((a0.size:Int)==2)=true:=beq_iff_eq.mpr c2;have c2b1:((a0.size:Int) != 2)=false:=bne_eq_false_iff_eq.mpr c2;clear c2;by_cases c3:0<(a0.size:Int)
  ·rw[if_pos c3]at H;have c3b0:decide (0<(a0.size:Int))=true:=decide_eq_true c3;have c3b1:decide (0<a0.size)=true:=decide_eq_true (by omega);clear c3;by_cases c5:(bt a0 0)=114
   ·rw[if_pos c5]at H;have c5b0:((bt a0 0)==114)=true:=beq_iff_eq.mpr c5;have c5b1:((bt a0 0) != 114)=false:=bne_eq_false_iff_eq.mpr c5;clear c5;by_cases c6:1<(a0.size:Int)
    ·rw[if_pos c6]at H;have c6b0:decide (1<(a0.size:Int))=true:=decide_eq_true c6;have c6b1:decide (1<a0.size)=true:=decide_eq_true (by omega);clear c6;by_cases c8:(bt a0 1)<48
     ·rw[if_pos c8]at H;have c8b0:decide ((bt a0 1)<48)=true:=decide_eq_true c8;clear c8;obtain rfl:=Option.some.inj H;have p4:0≤(0:Int):=(by omega)
      have q4:0<a0.size:=(by have:(0:Int)<(a0.size:Int):=of_decide_eq_true (by first |(with_reducible assumption) |assumption);omega)
      have hx4:∀ h:0<a0.size,((a0[0]'h).toNat:Int)=bt a0 0:=Cz a0 0;clear p4;have qi4:(0<(a0.size:Int))=True:=eq_true (of_decide_eq_true (by first |(with_reducible assumption) |assumption));replace q4:=eq_true q4;have p7:0≤(1:Int):=(by omega)
      have q7:1<a0.size:=(by have:(1:Int)<(a0.size:Int):=of_decide_eq_true (by first |(with_reducible assumption) |assumption);omega)
      have hx7:∀ h:1<a0.size,((a0[1]'h).toNat:Int)=bt a0 1:=Cz a0 1;clear p7;have qi7:(1<(a0.size:Int))=True:=eq_true (of_decide_eq_true (by first |(with_reducible assumption) |assumption));replace q7:=eq_true q7;go_enter Tryz.func116,Tryz.ntmps116;go_wp2;go_ret;exact⟨by first |rfl |(simp;done) |(simp[*];done),by repeat (first |exact Au.refl _ |apply Au.step)⟩
     ·rw[if_neg c8]at H;have c8b0:decide ((bt a0 1)<48)=false:=decide_eq_false c8;clear c8;by_cases Jw:(bt a0 1) > 55
      ·rw[if_pos Jw]at H;have c10b0:decide (55<(bt a0 1))=true:=decide_eq_true Jw;clear Jw;obtain rfl:=Option.some.inj H;have p4:0≤(0:Int):=(by omega)
       have q4:0<a0.size:=(by have:(0:Int)<(a0.size:Int):=of_decide_eq_true (by first |(with_reducible assumption) |assumption);omega)
       have hx4:∀ h:0<a0.size,((a0[0]'h).toNat:Int)=bt a0 0:=Cz a0 0;clear p4;have qi4:(0<(a0.size:Int))=True:=eq_true (of_decide_eq_true (by first |(with_reducible assumption) |assumption));replace q4:=eq_true q4;have p7:0≤(1:Int):=(by omega)
       have q7:1<a0.size:=(by have:(1:Int)<(a0.size:Int):=of_decide_eq_true (by first |(with_reducible assumption) |assumption);omega)
       have hx7:∀ h:1<a0.size,((a0[1]'h).toNat:Int)=bt a0 1:=Cz a0 1;clear p7;have qi7:(1<(a0.size:Int))=True:=eq_true (of_decide_eq_true (by first |(with_reducible assumption) |assumption));replace q7:=eq_true q7;have p9:0≤(1:Int):=(by omega)
       have q9:1<a0.size:=(by have:(1:Int)<(a0.size:Int):=of_decide_eq_true (by first |(with_reducible assumption) |assumption);omega)
       have hx9:∀ h:1<a0.size,((a0[1]'h).toNat:Int)=bt a0 1:=Cz a0 1;clear p9;have qi9:(1<(a0.size:Int))=True:=eq_true (of_decide_eq_true (by first |(with_reducible assumption) |assumption));replace q9:=eq_true q9;go_enter Tryz.func116,Tryz.ntmps116;go_wp2;go_ret;exact⟨by first |rfl |(simp;done) |(simp[*];done),by repeat (first |exact Au.refl _ |apply Au.step)⟩
      ·rw[if_neg Jw]at H;have c10b0:decide (55<(bt a0 1))=false:=decide_eq_false Jw;clear Jw;obtain rfl:=Option.some.inj H;have p4:0≤(0:Int):=(by omega)
       have q4:0<a0.size:=(by have:(0:Int)<(a0.size:Int):=of_decide_eq_true (by first |(with_reducible assumption) |assumption);omega)
       have hx4:∀ h:0<a0.size,((a0[0]'h).toNat:Int)=bt a0 0:=Cz a0 0;clear p4;have qi4:(0<(a0.size:Int))=True:=eq_true (of_decide_eq_true (by first |(with_reducible assumption) |assumption));replace q4:=eq_true q4;have p7:0≤(1:Int):=(by omega)
       have q7:1<a0.size:=(by have:(1:Int)<(a0.size:Int):=of_decide_eq_true (by first |(with_reducible assumption) |assumption);omega)
       have hx7:∀ h:1<a0.size,((a0[1]'h).toNat:Int)=bt a0 1:=Cz a0 1;clear p7;have qi7:(1<(a0.size:Int))=True:=eq_true (of_decide_eq_true (by first |(with_reducible assumption) |assumption));replace q7:=eq_true q7;have p9:0≤(1:Int):=(by omega)
       have q9:1<a0.size:=(by have:(1:Int)<(a0.size:Int):=of_decide_eq_true (by first |(with_reducible assumption) |assumption);omega)
       have hx9:∀ h:1<a0.size,((a0[1]'h).toNat:Int)=bt a0 1:=Cz a0 1;clear p9;have qi9:(1<(a0.size:Int))=True:=eq_true (of_decide_eq_true (by first |(with_reducible assumption) |assumption));replace q9:=eq_true q9;have p11:0≤(1:Int):=(by omega)
       have q11:1<a0.size:=(by have:(1:Int)<(a0.size:Int):=of_decide_eq_true (by first |(with_reducible assumption) |assumption);omega)
       have hx11:∀ h:1<a0.size,((a0[1]'h).toNat:Int)=bt a0 1:=Cz a0 1;clear p11;have qi11:(1<(a0.size:Int))=True:=eq_true (of_decide_eq_true (by first |(with_reducible assumption) |assumption));replace q11:=eq_true q11;go_enter Tryz.func116,Tryz.ntmps116;go_wp2;go_ret;exact⟨by first |rfl |(simp;done) |(simp[*];done),by repeat (first |exact Au.refl _ |apply Au.step)⟩
    ·rw[if_neg c6]at H;exact absurd H (by simp)
   ·rw[if_neg c5]at H;have c5b0:((bt a0 0)==114)=false:=beq_eq_false_iff_ne.mpr c5;have c5b1:((bt a0 0) != 114)=true:=bne_iff_ne.mpr c5;obtain rfl:=Option.some.inj H;have p4:0≤(0:Int):=(by omega)
    have q4:0<a0.size:=(by have:(0:Int)<(a0.size:Int):=of_decide_eq_true (by first |(with_reducible assumption) |assumption);omega)
    have hx4:∀ h:0<a0.size,((a0[0]'h).toNat:Int)=bt a0 0:=Cz a0 0;clear p4;have qi4:(0<(a0.size:Int))=True:=eq_true (of_decide_eq_true (by first |(with_reducible assumption) |assumption));replace q4:=eq_true q4;go_enter Tryz.func116,Tryz.ntmps116;go_wp2;go_ret;exact⟨by first |rfl |(simp;done) |(simp[*];done),by repeat (first |exact Au.refl _ |apply Au.step)⟩
  ·rw[if_neg c3]at H;exact absurd H (by simp)
 ·rw[if_neg c2]at H;have c2b0:((a0.size:Int)==2)=false:=beq_eq_false_iff_ne.mpr c2;have c2b1:((a0.size:Int) != 2)=true:=bne_iff_ne.mpr c2;obtain rfl:=Option.some.inj H;go_enter Tryz.func116,Tryz.ntmps116;go_wp2;go_ret;exact⟨by first |rfl |(simp;done) |(simp[*];done),by repeat (first |exact Au.refl _ |apply Au.step)⟩
mutual
def Ae.j0:Nat→ByteArray→Bool→Option (Int)
 |0,_,_=>none
 |k+1,x0,x21=>if x21=true then (some (-1)) else (Ae.l0 k x0 0 0)
def Ae.l0:Nat→ByteArray→Int→Int→Option (Int)
 |0,_,_,_=>none
 |k+1,x0,x3,x4=>if x4<(x0.size:Int) then (if 0≤x4 then (if (bt x0 x4)<48 then (some (-1)) else (if (bt x0 x4) > 57 then (some (-1)) else (Ae.l0 k x0 (wrap64 ((wrap64 (x3*10))+(((bt x0 x4)-48)%256))) (wrap64 (x4+1))))) else (none)) else (if x3 > 4294967295 then (some (-1)) else (some x3))
end
def Ae.f(k:Nat)(a0:ByteArray):Option (Int):=if a0.toList=([]:List UInt8) then (Ae.j0 k a0 true) else (if (a0.size:Int) > 10 then (Ae.j0 k a0 true) else (if (a0.size:Int) > 1 then (if 0<(a0.size:Int) then (Ae.j0 k a0 ((bt a0 0)==48)) else (none)) else (Ae.j0 k a0 false)))
theorem Ae.Dp:∀ k,(∀ y0 y1,BH (Ae.j0 k y0 y1) (Ae.j0 (k+1) y0 y1))∧(∀ y0 y1 y2,BH (Ae.l0 k y0 y1 y2) (Ae.l0 (k+1) y0 y1 y2))
 |0=>⟨fun _ _ r h=>by simp[Ae.j0]at h,fun _ _ _ r h=>by simp[Ae.l0]at h⟩
 |k+1=>by
  obtain⟨ih0,ih1⟩:=Ae.Dp k;refine⟨?_,?_⟩
  ·intro y0 y1;unfold Ae.j0;repeat' first
   |(with_reducible exact ih0 _ _)
   |(with_reducible exact ih1 _ _ _)
   |(with_reducible exact BH.refl _)
   |(with_reducible exact BH.none _)
   |(with_reducible refine BH.ite ?_ ?_)
   |(with_reducible refine BH.bind ?_ (fun _=>?_))
   |exact ih0 _ _
   |exact ih1 _ _ _
   |exact BH.none _
   |refine BH.ite ?_ ?_
   |refine BH.bind ?_ (fun _=>?_)
  ·intro y0 y1 y2;unfold Ae.l0;repeat' first
   |(with_reducible exact ih0 _ _)
   |(with_reducible exact ih1 _ _ _)
   |(with_reducible exact BH.refl _)
   |(with_reducible exact BH.none _)
   |(with_reducible refine BH.ite ?_ ?_)
   |(with_reducible refine BH.bind ?_ (fun _=>?_))
   |exact ih0 _ _
   |exact ih1 _ _ _
   |exact BH.none _
   |refine BH.ite ?_ ?_
   |refine BH.bind ?_ (fun _=>?_)
theorem Ae.mono:∀ a0 k,BH (Ae.f k a0) (Ae.f (k+1) a0):=by
 intro a0 k;obtain⟨ih0,ih1⟩:=Ae.Dp k;unfold Ae.f;repeat' first
  |(with_reducible exact ih0 _ _)
  |(with_reducible exact ih1 _ _ _)
  |(with_reducible exact BH.refl _)
  |(with_reducible exact BH.none _)
  |(with_reducible refine BH.ite ?_ ?_)
  |(with_reducible refine BH.bind ?_ (fun _=>?_))
  |exact ih0 _ _
  |exact ih1 _ _ _
  |exact BH.none _
  |refine BH.ite ?_ ?_
  |refine BH.bind ?_ (fun _=>?_)
theorem Ae.calls(k:Nat)(a0:ByteArray)(r:Int)(w:World)(h:Ae.f k a0=some r) :
  Calls Tryz.prog 117 #[.string a0] w fun e w'=>e=.returned (.int .i64 r)∧Au w w':=by
 have H:(if a0.toList=([]:List UInt8) then (Ae.j0 k a0 true) else (if (a0.size:Int) > 10 then (Ae.j0 k a0 true) else (if (a0.size:Int) > 1 then (if 0<(a0.size:Int) then (Ae.j0 k a0 ((bt a0 0)==48)) else (none)) else (Ae.j0 k a0 false))))=some r:=h;clear h;have HC2:=Az H;clear H;go_enter Tryz.func117,Tryz.ntmps117;go_upto_region 1 with (fail)
 go_cut [21] (fun v21 wc=>∃ (kq:Nat) (x21_1:Bool),v21=.bool x21_1∧Ai (Ae.j0 kq a0 x21_1=some r)∧Ai (kq≤k)∧Au w wc)
 case first =>
  have H:=HC2.out;clear HC2;by_cases c3:a0.toList=([]:List UInt8)
  ·rw[if_pos c3]at H;have c3b0:(a0.toList==([]:List UInt8))=true:=beq_iff_eq.mpr c3;have c3b1:(a0.toList != ([]:List UInt8))=false:=bne_eq_false_iff_eq.mpr c3;clear c3
   (first |rw[c3b0] |(simp only[CG,Da];rw[c3b0]) |skip)
   have H':=Az H;clear H;go_wp2;go_meet
   case rel=>exact⟨_,(true),(by first |rfl |(simp;done) |(simp[*];done)),H',⟨by first |omega |exact Nl _⟩,by repeat (first |exact Au.refl _ |apply Au.step)⟩
  ·rw[if_neg c3]at H;have c3b0:(a0.toList==([]:List UInt8))=false:=beq_eq_false_iff_ne.mpr c3;have c3b1:(a0.toList != ([]:List UInt8))=true:=bne_iff_ne.mpr c3
   (first |rw[c3b0] |(simp only[CG,Da];rw[c3b0]) |skip)
   by_cases c4:(a0.size:Int) > 10
   ·rw[if_pos c4]at H;have c4b0:decide (10<(a0.size:Int))=true:=decide_eq_true c4;have c4b1:decide (10<a0.size)=true:=decide_eq_true (by omega);clear c4;have H':=Az H;clear H;go_wp2;go_meet
    case rel=>exact⟨_,(true),(by first |rfl |(simp;done) |(simp[*];done)),H',⟨by first |omega |exact Nl _⟩,by repeat (first |exact Au.refl _ |apply Au.step)⟩
   ·rw[if_neg c4]at H;have c4b0:decide (10<(a0.size:Int))=false:=decide_eq_false c4;have c4b1:decide (10<a0.size)=false:=decide_eq_false (by omega);clear c4;by_cases c5:(a0.size:Int) > 1
    ·rw[if_pos c5]at H;have c5b0:decide (1<(a0.size:Int))=true:=decide_eq_true c5;have c5b1:decide (1<a0.size)=true:=decide_eq_true (by omega);clear c5;by_cases c6:0<(a0.size:Int)
     ·rw[if_pos c6]at H;have c6b0:decide (0<(a0.size:Int))=true:=decide_eq_true c6;have c6b1:decide (0<a0.size)=true:=decide_eq_true (by omega);clear c6;have H':=Az H;clear H;have p7:0≤(0:Int):=(by omega)
      have q7:0<a0.size:=(by have:(0:Int)<(a0.size:Int):=of_decide_eq_true (by first |(with_reducible assumption) |assumption);omega)
      have hx7:∀ h:0<a0.size,((a0[0]'h).toNat:Int)=bt a0 0:=Cz a0 0;clear p7;have qi7:(0<(a0.size:Int))=True:=eq_true (of_decide_eq_true (by first |(with_reducible assumption) |assumption));replace q7:=eq_true q7;go_wp2;go_meet
      case rel=>exact⟨_,(((bt a0 0)==48)),(by first |rfl |(simp;done) |(simp[*];done)),H',⟨by first |omega |exact Nl _⟩,by repeat (first |exact Au.refl _ |apply Au.step)⟩
     ·rw[if_neg c6]at H;exact absurd H (by simp)
    ·rw[if_neg c5]at H;have c5b0:decide (1<(a0.size:Int))=false:=decide_eq_false c5;have c5b1:decide (1<a0.size)=false:=decide_eq_false (by omega);clear c5;have H':=Az H;clear H;go_wp2;go_meet
     case rel=>exact⟨_,(false),(by first |rfl |(simp;done) |(simp[*];done)),H',⟨by first |omega |exact Nl _⟩,by repeat (first |exact Au.refl _ |apply Au.step)⟩
 case rest =>
  clear HC2;try clear c1
  try clear p2
  try clear c3
  try clear c3b0
  try clear c3b1
  try clear c4
  try clear c4b0
  try clear c4b1
  try clear c5
  try clear c5b0
  try clear c5b1
  try clear c6
  try clear c6b0
  try clear c6b1
  try clear p7
  try clear q7
  try clear hx7
  try clear qi7
  try clear p7
  try clear q7
  obtain⟨kq,x21_1,rfl,HA,HJ1,⟨mc1,rfl⟩⟩:=hcut;cases kq with
  |zero=>exact absurd HA.out (by simp[Ae.j0])
  |succ kj1 =>
   have H:=HA.out;clear HA;simp only[Ae.j0]at H;by_cases c8:x21_1=true
   ·subst c8;have H1:(some (-1))=some r:=by rw[if_pos rfl]at H;exact H
    clear H;have H:=H1;clear H1;obtain rfl:=Option.some.inj H;go_wp2;go_ret;exact⟨by first |rfl |(simp;done) |(simp[*];done),by repeat (first |exact Au.refl _ |apply Au.step)⟩
   ·replace c8:=Bool.eq_false_iff.mpr c8;subst c8;have H1:(Ae.l0 kj1 a0 0 0)=some r:=by rw[if_neg (show ¬(false=true) by decide)]at H;exact H
    clear H;have H:=H1;clear H1;have H':=Az H;clear H;go_wp2;go_loopg [3,4] kj1 (fun kq v3 v4 w'=>∃ (x3_2:Int) (x4_2:Int),v3=.int .i64 x3_2∧v4=.int .i64 x4_2∧Ai (Ae.l0 kq a0 x3_2 x4_2=some r)∧Ai (kq≤kj1)∧Au w w')
    case atStart=>exact⟨(0),(0),(by first |rfl |(simp;done) |(simp[*];done)),(by first |rfl |(simp;done) |(simp[*];done)),H',⟨Nl _⟩,by repeat (first |exact Au.refl _ |apply Au.step)⟩
    case round =>
     clear H';try clear c1
     try clear p2
     try clear c3
     try clear c3b0
     try clear c3b1
     try clear c4
     try clear c4b0
     try clear c4b1
     try clear c5
     try clear c5b0
     try clear c5b1
     try clear c6
     try clear c6b0
     try clear c6b1
     try clear p7
     try clear q7
     try clear hx7
     try clear qi7
     try clear c8
     try clear p2
     try clear p7
     try clear q7
     obtain⟨x3_2,x4_2,rfl,rfl,HA,HK2,⟨m2,rfl⟩⟩:=hrel;cases gk with
     |zero=>exact absurd HA.out (by simp[Ae.l0])
     |succ k2 =>
      have H:=HA.out;clear HA;simp only[Ae.l0]at H;by_cases c9:x4_2<(a0.size:Int)
      ·rw[if_pos c9]at H;have c9b0:decide (x4_2<(a0.size:Int))=true:=decide_eq_true c9;clear c9;by_cases Jw:0≤x4_2
       ·rw[if_pos Jw]at H;have c10b0:decide (0≤x4_2)=true:=decide_eq_true Jw;clear Jw;by_cases c12:(bt a0 x4_2)<48
        ·rw[if_pos c12]at H;have c12b0:decide ((bt a0 x4_2)<48)=true:=decide_eq_true c12;clear c12;obtain rfl:=Option.some.inj H;have p11:0≤(x4_2:Int):=of_decide_eq_true (by first |(with_reducible assumption) |assumption);have q11:x4_2<(a0.size:Int):=of_decide_eq_true (by first |(with_reducible assumption) |assumption);have hx11:=Cz a0 x4_2;replace p11:=eq_true p11;replace q11:=eq_true q11;go_wp2;go_ret;exact⟨by first |rfl |(simp;done) |(simp[*];done),by repeat (first |exact Au.refl _ |apply Au.step)⟩
        ·rw[if_neg c12]at H;have c12b0:decide ((bt a0 x4_2)<48)=false:=decide_eq_false c12;clear c12;by_cases c14:(bt a0 x4_2) > 57
         ·rw[if_pos c14]at H;have c14b0:decide (57<(bt a0 x4_2))=true:=decide_eq_true c14;clear c14;obtain rfl:=Option.some.inj H;have p11:0≤(x4_2:Int):=of_decide_eq_true (by first |(with_reducible assumption) |assumption);have q11:x4_2<(a0.size:Int):=of_decide_eq_true (by first |(with_reducible assumption) |assumption);have hx11:=Cz a0 x4_2;replace p11:=eq_true p11;replace q11:=eq_true q11;have p13:0≤(x4_2:Int):=of_decide_eq_true (by first |(with_reducible assumption) |assumption);have q13:x4_2<(a0.size:Int):=of_decide_eq_true (by first |(with_reducible assumption) |assumption);have hx13:=Cz a0 x4_2;replace p13:=eq_true p13;replace q13:=eq_true q13;go_wp2;go_ret;exact⟨by first |rfl |(simp;done) |(simp[*];done),by repeat (first |exact Au.refl _ |apply Au.step)⟩
         ·rw[if_neg c14]at H;have c14b0:decide (57<(bt a0 x4_2))=false:=decide_eq_false c14;clear c14;have H':=Az H;clear H;have p11:0≤(x4_2:Int):=of_decide_eq_true (by first |(with_reducible assumption) |assumption);have q11:x4_2<(a0.size:Int):=of_decide_eq_true (by first |(with_reducible assumption) |assumption);have hx11:=Cz a0 x4_2;replace p11:=eq_true p11;replace q11:=eq_true q11;have p13:0≤(x4_2:Int):=of_decide_eq_true (by first |(with_reducible assumption) |assumption);have q13:x4_2<(a0.size:Int):=of_decide_eq_true (by first |(with_reducible assumption) |assumption);have hx13:=Cz a0 x4_2;replace p13:=eq_true p13;replace q13:=eq_true q13;have p15:0≤(x4_2:Int):=of_decide_eq_true (by first |(with_reducible assumption) |assumption);have q15:x4_2<(a0.size:Int):=of_decide_eq_true (by first |(with_reducible assumption) |assumption);have hx15:=Cz a0 x4_2;replace p15:=eq_true p15;replace q15:=eq_true q15;go_wp2;go_roundg k2
          case measure=>have:=HJ1.out;have:=HK2.out;omega
          case rel=>exact⟨(wrap64 ((wrap64 (x3_2*10))+(((bt a0 x4_2)-48)%256))),(wrap64 (x4_2+1)),(by first |rfl |(simp;done) |(simp[*];done)),(by first |rfl |(simp;done) |(simp[*];done)),H',⟨by have:=HJ1.out;have:=HK2.out;omega⟩,by repeat (first |exact Au.refl _ |apply Au.step)⟩
       ·rw[if_neg Jw]at H;exact absurd H (by simp)
      ·rw[if_neg c9]at H;have c9b0:decide (x4_2<(a0.size:Int))=false:=decide_eq_false c9;clear c9;by_cases c16:x3_2 > 4294967295
       ·rw[if_pos c16]at H;have c16b0:decide (4294967295<x3_2)=true:=decide_eq_true c16;clear c16;obtain rfl:=Option.some.inj H;go_wp2;go_ret;exact⟨by first |rfl |(simp;done) |(simp[*];done),by repeat (first |exact Au.refl _ |apply Au.step)⟩
       ·rw[if_neg c16]at H;have c16b0:decide (4294967295<x3_2)=false:=decide_eq_false c16;clear c16;obtain rfl:=Option.some.inj H;go_wp2;go_ret;exact⟨by first |rfl |(simp;done) |(simp[*];done),by repeat (first |exact Au.refl _ |apply Au.step)⟩
def Am.l0:Nat→ByteArray→List ByteArray→Int→Int→Option (List ByteArray)
 |0,_,_,_,_=>none
 |k+1,x0,x3,x4,x5=>if x5≤(x0.size:Int) then (if x5=(x0.size:Int) then (if 0≤x4 then (if x4≤x5 then (if x3.length<8796093022208 then (Am.l0 k x0 (x3++[x0.extract (x4:Int).toNat (x5:Int).toNat]) (wrap64 (x5+1)) (wrap64 (x5+1))) else (none)) else (none)) else (none)) else (if 0≤x5 then (if x5<(x0.size:Int) then (if (bt x0 x5)=32 then (if 0≤x4 then (if x4≤x5 then (if x3.length<8796093022208 then (Am.l0 k x0 (x3++[x0.extract (x4:Int).toNat (x5:Int).toNat]) (wrap64 (x5+1)) (wrap64 (x5+1))) else (none)) else (none)) else (none)) else (Am.l0 k x0 x3 x4 (wrap64 (x5+1)))) else (none)) else (none))) else (some x3)
def Am.f(k:Nat)(a0:ByteArray):Option (List ByteArray):=Am.l0 k a0 ([]:List ByteArray) 0 0
theorem Am.Dp:∀ k,(∀ y0 y1 y2 y3,BH (Am.l0 k y0 y1 y2 y3) (Am.l0 (k+1) y0 y1 y2 y3))
 |0=>fun _ _ _ _ r h=>by simp[Am.l0]at h
 |k+1=>by
  have ih0:=Am.Dp k
  ·intro y0 y1 y2 y3;unfold Am.l0;repeat' first
   |(with_reducible exact ih0 _ _ _ _)
   |(with_reducible exact BH.refl _)
   |(with_reducible exact BH.none _)
   |(with_reducible refine BH.ite ?_ ?_)
   |(with_reducible refine BH.bind ?_ (fun _=>?_))
   |exact ih0 _ _ _ _
   |exact BH.none _
   |refine BH.ite ?_ ?_
   |refine BH.bind ?_ (fun _=>?_)
theorem Am.mono:∀ a0 k,BH (Am.f k a0) (Am.f (k+1) a0):=by
 intro a0 k;have ih0:=Am.Dp k;unfold Am.f;repeat' first
  |(with_reducible exact ih0 _ _ _ _)
  |(with_reducible exact BH.refl _)
  |(with_reducible exact BH.none _)
  |(with_reducible refine BH.ite ?_ ?_)
  |(with_reducible refine BH.bind ?_ (fun _=>?_))
  |exact ih0 _ _ _ _
  |exact BH.none _
  |refine BH.ite ?_ ?_
  |refine BH.bind ?_ (fun _=>?_)
theorem Am.calls(k:Nat)(a0:ByteArray)(r:List ByteArray)(w:World)(h:Am.f k a0=some r) :
  Calls Tryz.prog 91 #[.string a0] w fun e w'=>∃ v0_:Value,e=.returned (v0_)∧Kd.R Kd.string 9 w' w.heap.size (fun _=>True) v0_ r∧Below w.heap.size w w':=by
 have HB:=Az (Below.refl w.heap.size w);have H:(Am.l0 k a0 ([]:List ByteArray) 0 0)=some r:=h;clear h;have H':=Az H;clear H;go_enter Tryz.func91,Tryz.ntmps91;go_wp2;go_loopg [3,4,5] k (fun kq v3 v4 v5 w'=>∃ (x3_1:List ByteArray) (x4_1:Int) (x5_1:Int),v4=.int .i64 x4_1∧v5=.int .i64 x5_1∧Ai (Am.l0 kq a0 x3_1 x4_1 x5_1=some r)∧Ai (kq≤k)∧Ai (Kd.R Kd.string 9 w' w.heap.size (fun _=>True) v3 x3_1)∧Ai (Below w.heap.size w w'))
 case atStart=>exact⟨(([]:List ByteArray)),(0),(0),(by first |rfl |(simp;done) |(simp[*];done)),(by first |rfl |(simp;done) |(simp[*];done)),H',⟨Nl _⟩,⟨by first |exact Kd.OC _ _ _ _ _ |exact Kd.N_nil _ _ _ _ _ |exact Kd.V_nil _ _ _ _ _ |exact Kd.PT _ _ _ _ _ |exact Kd.S_nil _ _ _ _ _⟩,⟨by repeat (first |(with_reducible first |exact HB.out |apply AA |apply Aq |apply AG) |exact HB.out)⟩⟩
 case round =>
  clear H';obtain⟨x3_1,x4_1,x5_1,rfl,rfl,HA,HK1,HO_3,HB⟩:=hrel;cases gk with
  |zero=>exact absurd HA.out (by simp[Am.l0])
  |succ k1 =>
   have H:=HA.out;clear HA;simp only[Am.l0]at H;by_cases c2:x5_1≤(a0.size:Int)
   ·rw[if_pos c2]at H;have c2b0:decide (x5_1≤(a0.size:Int))=true:=decide_eq_true c2;clear c2;by_cases c3:x5_1=(a0.size:Int)
    ·rw[if_pos c3]at H;have c3b0:(x5_1==(a0.size:Int))=true:=beq_iff_eq.mpr c3;have c3b1:(x5_1 != (a0.size:Int))=false:=bne_eq_false_iff_eq.mpr c3;clear c3;by_cases c4:0≤x4_1
     ·rw[if_pos c4]at H;have c4b0:=eq_true c4;have c4b1:decide (0≤x4_1)=true:=decide_eq_true c4;clear c4;by_cases c5:x4_1≤x5_1
      ·rw[if_pos c5]at H;have c5b0:=eq_true c5;have c5b1:decide (x4_1≤x5_1)=true:=decide_eq_true c5;clear c5;have c6b0:=eq_true (of_decide_eq_true (by first |(with_reducible assumption) |assumption):x5_1≤(a0.size:Int));by_cases c7:x3_1.length<8796093022208
       ·rw[if_pos c7]at H;have LMc7:=Az c7;clear c7;obtain⟨y286,hy286⟩:∃ y_:List ByteArray,y_=(x3_1++[a0.extract (x4_1:Int).toNat (x5_1:Int).toNat]):=⟨_,rfl⟩
        replace H:(Am.l0 k1 a0 y286 (wrap64 (x5_1+1)) (wrap64 (x5_1+1)))=some r:=by first |(rw[hy286];with_reducible exact H) |(have H2_:=(Option.bind_some _ _).symm.trans H;rw[hy286];with_reducible exact H2_) |(have H2_:=(Option.bind_some _ _).symm.trans H;with_reducible exact H2_) |with_reducible exact H |(rw[hy286];exact H) |exact H
        have Ny286:=Az hy286;clear hy286;have H':=Az H;clear H;go_wp2_with (first |(at_builtin;refine Kd.Jj Kd.string (w0:=w) w.heap.size rfl (.tmp 22) (.tmp 27) 108 9 (.string ⟨#[]⟩) 16 rfl Tryz.underlying108 OG rfl (by decide) (by omega) u3 x3_1 (a0.extract (x4_1:Int).toNat (x5_1:Int).toNat) [.string (a0.extract (x4_1:Int).toNat (x5_1:Int).toNat)] (fun _=>True) (fun _=>False) rfl rfl ?aP (fun _ hk=>hk.elim) ?aF ?aO ?aB ?aS ?aL ?_;(case aP=>exact rfl);(case aB=>exact(by repeat (first |(with_reducible first |exact HB.out |apply AA |apply Aq |apply AG) |exact HB.out)));(case aF=>exact(fun _ _=>trivial));(case aO=>exact(by(with_reducible repeat (first |apply Kd.CU |apply Kd.CV |apply Kd.D6));exact HO_3.out));(case aS=>exact(D7 (by repeat (first |(with_reducible first |exact HB.out |apply AA |apply Aq |apply AG) |exact HB.out))));(case aL=>have:=LMc7.out;omega);intro v287 w8 ho hb hg hat;rw[←Ny286.out]at ho;have n0_:=Az (hb);have n1_:=Az (ho);clear HB;clear HO_3;have HB:=n0_;have HO288:=n1_;clear n0_ n1_;clear ho hb hg hat))
        go_roundg k1
        case measure=>have:=HK1.out;omega
        case rel=>exact⟨(y286),(wrap64 (x5_1+1)),(wrap64 (x5_1+1)),(by first |rfl |(simp;done) |(simp[*];done)),(by first |rfl |(simp;done) |(simp[*];done)),H',⟨by have:=HK1.out;omega⟩,⟨by(with_reducible repeat (first |apply Kd.CU |apply Kd.CV |apply Kd.D6));exact HO288.out⟩,⟨by repeat (first |(with_reducible first |exact HB.out |apply AA |apply Aq |apply AG) |exact HB.out)⟩⟩
       ·rw[if_neg c7]at H;exact absurd H (by simp)
      ·rw[if_neg c5]at H;exact absurd H (by simp)
     ·rw[if_neg c4]at H;exact absurd H (by simp)
    ·rw[if_neg c3]at H;have c3b0:(x5_1==(a0.size:Int))=false:=beq_eq_false_iff_ne.mpr c3;have c3b1:(x5_1 != (a0.size:Int))=true:=bne_iff_ne.mpr c3;by_cases c9:0≤x5_1
     ·rw[if_pos c9]at H;have c9b0:decide (0≤x5_1)=true:=decide_eq_true c9;clear c9;by_cases Jw:x5_1<(a0.size:Int)
      ·rw[if_pos Jw]at H;have c10b0:decide (x5_1<(a0.size:Int))=true:=decide_eq_true Jw;clear Jw;by_cases c12:(bt a0 x5_1)=32
       ·rw[if_pos c12]at H;have c12b0:((bt a0 x5_1)==32)=true:=beq_iff_eq.mpr c12;have c12b1:((bt a0 x5_1) != 32)=false:=bne_eq_false_iff_eq.mpr c12;clear c12;by_cases c13:0≤x4_1
        ·rw[if_pos c13]at H;have c13b0:=eq_true c13;have c13b1:decide (0≤x4_1)=true:=decide_eq_true c13;clear c13;by_cases c14:x4_1≤x5_1
         ·rw[if_pos c14]at H;have c14b0:=eq_true c14;have c14b1:decide (x4_1≤x5_1)=true:=decide_eq_true c14;clear c14;have c15b0:=eq_true (of_decide_eq_true (by first |(with_reducible assumption) |assumption):x5_1≤(a0.size:Int));by_cases c16:x3_1.length<8796093022208
          ·rw[if_pos c16]at H;have LMc16:=Az c16;clear c16;obtain⟨y289,hy289⟩:∃ y_:List ByteArray,y_=(x3_1++[a0.extract (x4_1:Int).toNat (x5_1:Int).toNat]):=⟨_,rfl⟩
           replace H:(Am.l0 k1 a0 y289 (wrap64 (x5_1+1)) (wrap64 (x5_1+1)))=some r:=by first |(rw[hy289];with_reducible exact H) |(have H2_:=(Option.bind_some _ _).symm.trans H;rw[hy289];with_reducible exact H2_) |(have H2_:=(Option.bind_some _ _).symm.trans H;with_reducible exact H2_) |with_reducible exact H |(rw[hy289];exact H) |exact H
           have Ny289:=Az hy289;clear hy289;have H':=Az H;clear H;have p11:0≤(x5_1:Int):=of_decide_eq_true (by first |(with_reducible assumption) |assumption);have q11:x5_1<(a0.size:Int):=of_decide_eq_true (by first |(with_reducible assumption) |assumption);have hx11:=Cz a0 x5_1;replace p11:=eq_true p11;replace q11:=eq_true q11;go_wp2_with (first |(at_builtin;refine Kd.Jj Kd.string (w0:=w) w.heap.size rfl (.tmp 22) (.tmp 27) 108 9 (.string ⟨#[]⟩) 16 rfl Tryz.underlying108 OG rfl (by decide) (by omega) u3 x3_1 (a0.extract (x4_1:Int).toNat (x5_1:Int).toNat) [.string (a0.extract (x4_1:Int).toNat (x5_1:Int).toNat)] (fun _=>True) (fun _=>False) rfl rfl ?aP (fun _ hk=>hk.elim) ?aF ?aO ?aB ?aS ?aL ?_;(case aP=>exact rfl);(case aB=>exact(by repeat (first |(with_reducible first |exact HB.out |apply AA |apply Aq |apply AG) |exact HB.out)));(case aF=>exact(fun _ _=>trivial));(case aO=>exact(by(with_reducible repeat (first |apply Kd.CU |apply Kd.CV |apply Kd.D6));exact HO_3.out));(case aS=>exact(D7 (by repeat (first |(with_reducible first |exact HB.out |apply AA |apply Aq |apply AG) |exact HB.out))));(case aL=>have:=LMc16.out;omega);intro v290 w17 ho hb hg hat;rw[←Ny289.out]at ho;have n0_:=Az (hb);have n1_:=Az (ho);clear HB;clear HO_3;have HB:=n0_;have HO291:=n1_;clear n0_ n1_;clear ho hb hg hat))
           go_roundg k1
           case measure=>have:=HK1.out;omega
           case rel=>exact⟨(y289),(wrap64 (x5_1+1)),(wrap64 (x5_1+1)),(by first |rfl |(simp;done) |(simp[*];done)),(by first |rfl |(simp;done) |(simp[*];done)),H',⟨by have:=HK1.out;omega⟩,⟨by(with_reducible repeat (first |apply Kd.CU |apply Kd.CV |apply Kd.D6));exact HO291.out⟩,⟨by repeat (first |(with_reducible first |exact HB.out |apply AA |apply Aq |apply AG) |exact HB.out)⟩⟩
          ·rw[if_neg c16]at H;exact absurd H (by simp)
         ·rw[if_neg c14]at H;exact absurd H (by simp)
        ·rw[if_neg c13]at H;exact absurd H (by simp)
       ·rw[if_neg c12]at H;have c12b0:((bt a0 x5_1)==32)=false:=beq_eq_false_iff_ne.mpr c12;have c12b1:((bt a0 x5_1) != 32)=true:=bne_iff_ne.mpr c12;have H':=Az H;clear H;have p11:0≤(x5_1:Int):=of_decide_eq_true (by first |(with_reducible assumption) |assumption);have q11:x5_1<(a0.size:Int):=of_decide_eq_true (by first |(with_reducible assumption) |assumption);have hx11:=Cz a0 x5_1;replace p11:=eq_true p11;replace q11:=eq_true q11;go_wp2;go_roundg k1
        case measure=>have:=HK1.out;omega
        case rel=>exact⟨(x3_1),(x4_1),(wrap64 (x5_1+1)),(by first |rfl |(simp;done) |(simp[*];done)),(by first |rfl |(simp;done) |(simp[*];done)),H',⟨by have:=HK1.out;omega⟩,⟨by(with_reducible repeat (first |apply Kd.CU |apply Kd.CV |apply Kd.D6));exact HO_3.out⟩,⟨by repeat (first |(with_reducible first |exact HB.out |apply AA |apply Aq |apply AG) |exact HB.out)⟩⟩
      ·rw[if_neg Jw]at H;exact absurd H (by simp)
     ·rw[if_neg c9]at H;exact absurd H (by simp)
   ·rw[if_neg c2]at H;have c2b0:decide (x5_1≤(a0.size:Int))=false:=decide_eq_false c2;clear c2;obtain rfl:=Option.some.inj H;go_wp2;go_ret;exact⟨_,by first |rfl |(simp[errW_none,errW_some]<;>rfl) |(simp[*,errW_none,errW_some]<;>rfl),by(with_reducible repeat (first |apply Kd.CU |apply Kd.CV |apply Kd.D6));exact HO_3.out,by repeat (first |(with_reducible first |exact HB.out |apply AA |apply Aq |apply AG) |exact HB.out)⟩
end
end Go.Proofs.YtjjpiefgdggghaaGreatDoor
