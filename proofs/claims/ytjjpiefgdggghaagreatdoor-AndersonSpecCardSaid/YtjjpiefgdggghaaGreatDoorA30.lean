/- Parts: RefParse, RefLine. -/
import Derived.Test.YtjjpiefgdggghaaGreatDoorA03
import Derived.Test.YtjjpiefgdggghaaGreatDoorA29
import Derived.Test.YtjjpiefgdggghaaGreatDoorA18
import Derived.Test.YtjjpiefgdggghaaGreatDoorA07
import Derived.Test.YtjjpiefgdggghaaGreatDoorA16
set_option linter.unusedVariables false
set_option linter.unusedSimpArgs false
set_option maxRecDepth 100000
set_option maxHeartbeats 40000000
namespace Go.Proofs.YtjjpiefgdggghaaGreatDoor
section
open Go.RowKit Go.Proofs.YtjjpiefgdggghaaGreatDoorW.PrintWords
theorem Gp(l:List UInt8)(hl:l.length≤100000)(w:World) :
  Calls Tryz.prog 92 #[.string ⟨l.toArray⟩] w fun e w'=>e=.returned (.tuple #[(Ht l).1.v,.bool (Ht l).2])∧Below w.heap.size w w':=by
 have hC:=H9 l hl (w.alloc (.cells In.zero.cs 114));have hP:Ht l=NB l (GH ((AJ l).headD [])) (I8 ((AJ l).drop 1) [] [] 0):=rfl;have hln:(AJ l).length≤l.length+1:=by rw[Dx];have:=List.count_le_length (a:=(32:UInt8)) (l:=l);omega
 cases hs:AJ l with
 |nil=>exact absurd hs (Ej l)
 |cons s0 rest =>
  rw[hs]at hC hP hln;simp only[List.headD_cons,List.drop_succ_cons,List.drop_zero,List.length_cons]at hC hP hln;generalize Ht l=fin at hP ⊢;replace hP:=Az hP;replace hC:=Az hC;clear hs;go_enter Tryz.func92,Tryz.ntmps92;go_wp2_with fail
  refine hC.out.mono ?_;rintro e w1 ⟨g,c,cur,rfl,hc,hg,hgz,hcur,hb1⟩;have hz1:=hb1.size;simp at hz1 hgz;go_wp2_with fail
  have B1:=((Below.refl w.heap.size w).alloc (Nl _) (.cells In.zero.cs 114)).trans (hb1.mono (by simp));have I0:Dh w (w1.alloc (.cells In.zero.cs 114)) w1.heap.size In.zero g cur :=
   ⟨B1.alloc B1.size _,AZ (Bk hb1 (Bv w _)) _,Bv _ _,by omega,AZ hg _⟩
  replace I0:=Az I0;replace hcur:=Az hcur;clear hg hb1 B1;have h5z:w.heap.size<w1.heap.size:=by omega
  generalize hg5:w1.heap.size=g5 at *;go_loopw [6] (fun v6 wr=>∃ (op:Nat) (acc:Int),v6=.int .i64 op∧op≤24∧1≤op∧Ag (Fk s0 (24-op) op acc=GH s0)∧Ag (Dh w wr g5 {In.zero with op:=acc} g cur)) (fun v6 wr=>24-(intOf v6).toNat)
  case atStart=>exact⟨1,0,rfl,by omega,by omega,⟨rfl⟩,I0⟩
  case round =>
   clear I0;obtain⟨op,acc,rfl,h24,h1,hN,hI⟩:=hrel;by_cases hle:op≤23
   ·have hN':Fk s0 (24-op) op acc=Fk s0 (24-(op+1)) ((op+1:Nat):Int) (if Aj op≠[]∧Aj op=s0 then (op:Int) else acc):=by
     rw[show 24-op=(24-(op+1))+1 by omega,Fk];rfl
    have CN:=Aw (op:Int);have hc0:wr.cell? ⟨g,0,none⟩=some (.string ⟨s0.toArray⟩):=(Bc hI.out.r 0).trans (hcur.out 0 (by omega));have hS:Ag (Dh w wr.drew g5 {In.zero with op:=acc} g cur)∧wr.drew.cell? ⟨g,0,none⟩=some (.string ⟨s0.toArray⟩):=⟨⟨hI.out.drew⟩,hc0⟩
    generalize Aj (op:Int)=nm at CN hN';replace CN:=Az CN;cases nm with
    |nil =>
     rw[if_neg (fun h=>h.1 rfl)]at hN';go_wp2_with fail
     refine wp_region_held_drew (S:=(fun W=>Ag (Dh w W g5 {In.zero with op:=acc} g cur)∧W.cell? ⟨g,0,none⟩=some (.string ⟨s0.toArray⟩))) (by kernel_rfl) hS (fun hHeld0=>?_);refine wpAnyH_take (i:=0) (oi:=?oia) (v:=?va) ?hia ?hsa ?hfa ?hra ?hQa ?hya ?hSa ?_;case hia=>refine JQ ?_;rfl
     case hsa=>kernel_rfl
     case hfa=>kernel_rfl
     case hra=>kernel_rfl
     case hQa=>exact fun _ _ _ h=>h
     case hya=>(refine Or.inl ⟨by rfl,?_⟩;intro w hSw;go_simp;try with_reducible rfl)
     case hSa=>assumption
     try simp only[Act.put,Sa,Sb,Sc]
     refine wpAnyH_ready (rs:=[1]) (by kernel_rfl) (by simp) ?_;refine AllReadyH.cons (o:=?ob) ?hob (fun K hK=>?_) AllReadyH.nil;case hob=>refine JQ ?_;rfl
     go_simp
     go_at_call 99
     refine(CN.out _).mono ?_;rintro e w2 ⟨rfl,hb2⟩;go_wp2_with fail
     refine hK.out _ _ (Ek hb2 (by assumption)) (fun hHeld2=>?_);try simp only[Act.put,Sa,Sb,Sc]
     refine wpAnyH_take (i:=2) (oi:=?oic) (v:=?vc) ?hic ?hsc ?hfc ?hrc ?hQc ?hyc ?hSc ?_;case hic=>refine JQ ?_;rfl
     case hsc=>kernel_rfl
     case hfc=>kernel_rfl
     case hrc=>kernel_rfl
     case hQc=>exact fun _ _ _ h=>h
     case hyc=>(refine Or.inl ⟨by rfl,?_⟩;intro w hSw;go_simp;try with_reducible rfl)
     case hSc=>assumption
     try simp only[Act.put,Sa,Sb,Sc]
     refine wpAnyH_take (i:=3) (oi:=?oid) (v:=?vd) ?hid ?hsd ?hfd ?hrd ?hQd ?hyd ?hSd ?_;case hid=>refine JQ ?_;rfl
     case hsd=>kernel_rfl
     case hfd=>kernel_rfl
     case hrd=>kernel_rfl
     case hQd=>exact fun _ _ _ h=>h
     case hyd=>(refine Or.inl ⟨by rfl,?_⟩;intro w hSw;go_simp;try with_reducible rfl)
     case hSd=>assumption
     try simp only[Act.put,Sa,Sb,Sc]
     refine wpAnyH_take (i:=4) (oi:=?oie4) (v:=undef) ?hie4 ?hse4 ?hfe4 ?hre4 ?hQe4 ?hye4 ?hSe4 ?_;case hie4=>refine JQ ?_;rfl
     case hse4=>kernel_rfl
     case hfe4=>kernel_rfl
     case hre4=>kernel_rfl
     case hQe4=>exact fun _ _ _ h=>h
     case hye4=>(refine Or.inr ⟨by rfl,by rfl⟩)
     case hSe4=>assumption
     try simp only[Act.put,Sa,Sb,Sc]
     refine wpAnyH_take (i:=5) (oi:=?oie5) (v:=undef) ?hie5 ?hse5 ?hfe5 ?hre5 ?hQe5 ?hye5 ?hSe5 ?_;case hie5=>refine JQ ?_;rfl
     case hse5=>kernel_rfl
     case hfe5=>kernel_rfl
     case hre5=>kernel_rfl
     case hQe5=>exact fun _ _ _ h=>h
     case hye5=>(refine Or.inr ⟨by rfl,by rfl⟩)
     case hSe5=>assumption
     try simp only[Act.put,Sa,Sb,Sc]
     refine wpAnyH_take (i:=6) (oi:=?oie6) (v:=undef) ?hie6 ?hse6 ?hfe6 ?hre6 ?hQe6 ?hye6 ?hSe6 ?_;case hie6=>refine JQ ?_;rfl
     case hse6=>kernel_rfl
     case hfe6=>kernel_rfl
     case hre6=>kernel_rfl
     case hQe6=>exact fun _ _ _ h=>h
     case hye6=>(refine Or.inr ⟨by rfl,by rfl⟩)
     case hSe6=>assumption
     try simp only[Act.put,Sa,Sb,Sc]
     refine wpAnyH_take (i:=7) (oi:=?oie7) (v:=undef) ?hie7 ?hse7 ?hfe7 ?hre7 ?hQe7 ?hye7 ?hSe7 ?_;case hie7=>refine JQ ?_;rfl
     case hse7=>kernel_rfl
     case hfe7=>kernel_rfl
     case hre7=>kernel_rfl
     case hQe7=>exact fun _ _ _ h=>h
     case hye7=>(refine Or.inr ⟨by rfl,by rfl⟩)
     case hSe7=>assumption
     try simp only[Act.put,Sa,Sb,Sc]
     refine wpAnyH_take (i:=8) (oi:=?oie8) (v:=undef) ?hie8 ?hse8 ?hfe8 ?hre8 ?hQe8 ?hye8 ?hSe8 ?_;case hie8=>refine JQ ?_;rfl
     case hse8=>kernel_rfl
     case hfe8=>kernel_rfl
     case hre8=>kernel_rfl
     case hQe8=>exact fun _ _ _ h=>h
     case hye8=>(refine Or.inr ⟨by rfl,by rfl⟩)
     case hSe8=>assumption
     try simp only[Act.put,Sa,Sb,Sc]
     refine wpAnyH_take (i:=9) (oi:=?oie9) (v:=undef) ?hie9 ?hse9 ?hfe9 ?hre9 ?hQe9 ?hye9 ?hSe9 ?_;case hie9=>refine JQ ?_;rfl
     case hse9=>kernel_rfl
     case hfe9=>kernel_rfl
     case hre9=>kernel_rfl
     case hQe9=>exact fun _ _ _ h=>h
     case hye9=>(refine Or.inr ⟨by rfl,by rfl⟩)
     case hSe9=>assumption
     try simp only[Act.put,Sa,Sb,Sc]
     refine wpAnyH_take (i:=10) (oi:=?oif) (v:=?vf) ?hif ?hsf ?hff ?hrf ?hQf ?hyf ?hSf ?_;case hif=>refine JQ ?_;rfl
     case hsf=>kernel_rfl
     case hff=>kernel_rfl
     case hrf=>kernel_rfl
     case hQf=>exact fun _ _ _ h=>h
     case hyf=>(refine Or.inl ⟨by rfl,?_⟩;intro w hSw;go_simp;try with_reducible rfl)
     case hSf=>assumption
     try simp only[Act.put,Sa,Sb,Sc]
     refine wpAnyH_done (by kernel_rfl) ?_ _;obtain⟨hI2,hc2⟩:=Ek (Below.refl _ _) (by assumption);clear hS hI;go_wp2;go_roundw
     case rel=>exact⟨op+1,acc,by go_num,by omega,by omega,⟨by rw[←hN',hN.out]⟩,hI2⟩
     case measure=>simp[intOf];omega
    |cons cc nm =>
     by_cases hq:cc::nm=s0
     ·subst hq;go_wp2_with fail
      go_region_held3 (fun W=>Ag (Dh w W g5 {In.zero with op:=acc} g cur)∧W.cell? ⟨g,0,none⟩=some (.string ⟨(cc::nm).toArray⟩))
       (first |exact hS |exact Ek hb (by assumption))
       (first |(go_at_call 99;(with_reducible refine(CN.out _).mono ?_);rintro e w' ⟨rfl,hb⟩))
      obtain⟨hI2,hc2⟩:=Ek (Below.refl _ _) (by assumption);clear hS hI;rw[if_pos (by simp)]at hN';have c0:w'.cell? ⟨g5,0,none⟩=some (.int .i64 acc):=(Bc hI2.out.i 0).trans rfl;have f0:=Bf hI2.out.i 0;have z0:g5<w'.heap.size:=Bl hI2.out.i;go_wp2;go_roundw
      case rel=>exact⟨op+1,op,by go_num,by omega,by omega,⟨by rw[←hN',hN.out]⟩,⟨hI2.out.put 0 (.int .i64 (op:Int)) _ rfl⟩⟩
      case measure=>simp[intOf];omega
     ·have hqb:(cc::nm==s0)=false:=Bq hq;go_wp2_with fail
      go_region_held3 (fun W=>Ag (Dh w W g5 {In.zero with op:=acc} g cur)∧W.cell? ⟨g,0,none⟩=some (.string ⟨s0.toArray⟩))
       (first |exact hS |exact Ek hb (by assumption))
       (first |(go_at_call 99;(with_reducible refine(CN.out _).mono ?_);rintro e w' ⟨rfl,hb⟩))
      obtain⟨hI2,hc2⟩:=Ek (Below.refl _ _) (by assumption);clear hS hI;rw[if_neg (fun h=>hq h.2)]at hN';go_wp2;go_roundw
      case rel=>exact⟨op+1,acc,by go_num,by omega,by omega,⟨by rw[←hN',hN.out]⟩,hI2⟩
      case measure=>simp[intOf];omega
   ·obtain rfl:op=24:=by omega
    have hacc:acc=GH s0:=hN.out;have hnm:=Az (MY s0);subst hacc;clear hN;generalize GH s0=nm at *;obtain⟨A',c',hcut,hA'⟩:=RP g rest.length c hc;replace hA':=Az hA';go_wp2_with fail
    have hw5:=Bl hI.out.i;go_loopw [7,8,38] (fun v7 v8 v38 wr=>∃ (kk:Nat) (rs ns:List Int) (k:Int),v38=.int .i64 kk∧kk≤rest.length∧rs.length+ns.length≤kk∧(k=0∨k=1)∧Ag (DT wr w.heap.size v7 rs v8 ns) ∧
     Ag (Dh w wr g5 {In.zero with op:=nm,k:=k} g cur)∧Ag (NB l nm (I8 (rest.drop kk) rs ns k)=fin)) (fun _ _ v38 wr=>rest.length-(intOf v38).toNat)
    case atStart=>exact⟨0,[],[],0,rfl,Nat.zero_le _,Nl _,.inl rfl,⟨DT.nil _ _⟩,hI,⟨hP.out.symm⟩⟩
    case round =>
     clear hI hP hcut hw5;obtain⟨kk,rs,ns,k,rfl,hkk,hrn,hk01,hRw,hI,hF⟩:=hrel;by_cases hlt:kk<rest.length
     ·obtain rfl:=hA'.out (by omega);obtain⟨wd,hwd⟩:∃ wd,rest[kk]?=some wd:=⟨_,List.getElem?_eq_getElem hlt⟩
      have hdr:rest.drop kk=wd::rest.drop (kk+1):=by
       rw[List.drop_eq_getElem_cons hlt];rw[List.getElem?_eq_getElem hlt]at hwd;rw[Option.some.inj hwd]
      have hcw:wr.cell? ⟨g,1+kk,none⟩=some (.string ⟨wd.toArray⟩):=by
       refine(Bc hI.out.r (1+kk)).trans ((hcur.out (1+kk) (by omega)).trans ?_);rw[show 1+kk=kk+1 by omega,List.getD_cons_succ,List.getD_eq_getElem?_getD,hwd];rfl
      have hF':=hF.out;rw[hdr,I8]at hF';have CR:=Az (fun W=>J5 wd W);have CN:=Az (fun W=>Kx wd W);go_wp2_with fail
      refine(CR.out _).mono ?_;rintro e w2 ⟨rfl,hb2⟩;have hR2:=Az (hRw.out.keep hb2);have hI2:=Az (hI.out.keep hb2);clear hRw hI hF CR hb2;generalize Pp wd=x at hF' ⊢;by_cases hx:0≤x
      ·rw[if_pos hx]at hF';replace hF':=Az hF';have Ba:=Az ((Below.refl w2.heap.size w2).alloc (Nl _) (.cells #[.int .i64 x] 3));go_wp2_with (at_builtin;refine IY rfl (.tmp 46) (.tmp 48) rfl w.heap.size w2.heap.size x u7 u8 rs ns rfl (hR2.out.keep Ba.out) rfl (Bv _ _) ?hl ?hb ?_)
       case hl=>omega
       case hb=>exact(hI2.out.keep Ba.out).b.size
       intro v' w3 hR3 hg3;have hI3:=Az ((hI2.out.keep Ba.out).grown (hR2.out.keep Ba.out).a hg3);replace hR3:=Az hR3;clear hR2 hI2 Ba hg3;go_wp2;go_roundw
       case rel=>exact⟨kk+1,rs++[x],ns,k,by go_num,by omega,by simp;omega,hk01,hR3,hI3,hF'⟩
       case measure=>simp[intOf];omega
      ·rw[if_neg hx]at hF';go_wp2_with fail
       refine(CN.out _).mono ?_;rintro e w3 ⟨rfl,hb3⟩;have hR3:=Az (hR2.out.keep hb3);have hI3:=Az (hI2.out.keep hb3);clear hR2 hI2 CN hb3;generalize Pq wd=y at hF' ⊢;by_cases hy:0≤y
       ·rw[if_pos hy]at hF';replace hF':=Az hF';have Ba:=Az ((Below.refl w3.heap.size w3).alloc (Nl _) (.cells #[.int .i64 y] 3));go_wp2_with (at_builtin;refine IY rfl (.tmp 54) (.tmp 56) rfl w.heap.size w3.heap.size y u8 u7 ns rs rfl (hR3.out.keep Ba.out).swap rfl (Bv _ _) ?hl ?hb ?_)
        case hl=>omega
        case hb=>exact(hI3.out.keep Ba.out).b.size
        intro v' w4 hR4 hg4;have hI4:=Az ((hI3.out.keep Ba.out).grown (hR3.out.keep Ba.out).b hg4);replace hR4:=Az hR4.swap;clear hR3 hI3 Ba hg4;go_wp2;go_roundw
        case rel=>exact⟨kk+1,rs,ns++[y],k,by go_num,by omega,by simp;omega,hk01,hR4,hI4,hF'⟩
        case measure=>simp[intOf];omega
       ·rw[if_neg hy]at hF';by_cases h1:wd=[110,101]
        ·rw[if_pos h1]at hF';replace hF':=Az hF';subst h1;have c6:w3.cell? ⟨g5,6,none⟩=some (.int .u32 k):=(Bc hI3.out.i 6).trans rfl;have f6:=Bf hI3.out.i 6;have z6:g5<w3.heap.size:=Bl hI3.out.i;go_wp2;go_roundw
         case rel=>exact⟨kk+1,rs,ns,1,by go_num,by omega,by omega,.inr rfl,⟨hR3.out.set (p:=⟨g5,6,none⟩) hI3.out.i (by decide) _⟩,⟨hI3.out.put 6 (.int .u32 1) _ rfl⟩,hF'⟩
         case measure=>simp[intOf];omega
        ·rw[if_neg h1]at hF';have h1b:(wd==[110,101])=false:=Bq h1;by_cases h2:wd=[101,113]
         ·rw[if_neg (fun h=>h.1 h2)]at hF';replace hF':=Az hF';subst h2;go_wp2;go_roundw
          case rel=>exact⟨kk+1,rs,ns,k,by go_num,by omega,by omega,hk01,hR3,hI3,hF'⟩
          case measure=>simp[intOf];omega
         ·have h2b:(wd==[101,113])=false:=Bq h2;by_cases h3:wd=[101,108,115,101]
          ·rw[if_neg (fun h=>h.2 h3)]at hF';replace hF':=Az hF';subst h3;go_wp2;go_roundw
           case rel=>exact⟨kk+1,rs,ns,k,by go_num,by omega,by omega,hk01,hR3,hI3,hF'⟩
           case measure=>simp[intOf];omega
          ·have h3b:(wd==[101,108,115,101])=false:=Bq h3;rw[if_pos ⟨h2,h3⟩]at hF';have z0:w.heap.size<w3.heap.size:=Bl hI3.out.z;have zc0:w3.cell? ⟨w.heap.size,0,none⟩=some (.int .i64 0):=(Bc hI3.out.z 0).trans rfl;have zf0:=Bf hI3.out.z 0;have zc1:w3.cell? ⟨w.heap.size,1,none⟩=some (.int .i64 0):=(Bc hI3.out.z 1).trans rfl;have zf1:=Bf hI3.out.z 1;have zc2:w3.cell? ⟨w.heap.size,2,none⟩=some (.int .i64 0):=(Bc hI3.out.z 2).trans rfl;have zf2:=Bf hI3.out.z 2;have zc3:w3.cell? ⟨w.heap.size,3,none⟩=some (.int .i64 0):=(Bc hI3.out.z 3).trans rfl;have zf3:=Bf hI3.out.z 3;have zc4:w3.cell? ⟨w.heap.size,4,none⟩=some (.int .i64 0):=(Bc hI3.out.z 4).trans rfl;have zf4:=Bf hI3.out.z 4;have zc5:w3.cell? ⟨w.heap.size,5,none⟩=some (.int .i64 0):=(Bc hI3.out.z 5).trans rfl;have zf5:=Bf hI3.out.z 5;have zc6:w3.cell? ⟨w.heap.size,6,none⟩=some (.int .u32 0):=(Bc hI3.out.z 6).trans rfl;have zf6:=Bf hI3.out.z 6;have zc7:w3.cell? ⟨w.heap.size,7,none⟩=some (.int .i64 0):=(Bc hI3.out.z 7).trans rfl;have zf7:=Bf hI3.out.z 7;go_wp2;refine bodyPost_ret (Bi rfl _ _ w.heap.size 114 In.zero.cs (0,0) _ rfl (Ci hI3.out.z (.int .i64 0) (.int .i64 0) (.int .i64 0) (.int .i64 0) (.int .i64 0) (.int .i64 0) (.int .u32 0) (.int .i64 0)) Tryz.underlying114 rfl (by kernel_rfl)) rfl ⟨?_,((((((((hI3.out.b).setCell (p:=⟨w.heap.size,0,none⟩) (Nl _) _).setCell (p:=⟨w.heap.size,1,none⟩) (Nl _) _).setCell (p:=⟨w.heap.size,2,none⟩) (Nl _) _).setCell (p:=⟨w.heap.size,3,none⟩) (Nl _) _).setCell (p:=⟨w.heap.size,4,none⟩) (Nl _) _).setCell (p:=⟨w.heap.size,5,none⟩) (Nl _) _).setCell (p:=⟨w.heap.size,6,none⟩) (Nl _) _).setCell (p:=⟨w.heap.size,7,none⟩) (Nl _) _⟩;rw[←hF'];rfl
     ·obtain rfl:kk=rest.length:=by omega
      have hF':=hF.out;rw[List.drop_length]at hF';replace hF':Pr l (Vh nm k (Es 4 0 rs) (Es 2 (-1) ns))=fin:=hF';replace hF':=Az hF';clear hF hA' hcur;generalize HX:Es 4 0 rs=pr at hF';generalize hpn:Es 2 (-1) ns=pn at hF';replace HX:=Az HX;replace hpn:=Az hpn;have hns:ns.length≤100000:=by omega
      have hrs:rs.length≤100000:=by omega
      clear hrn hlt hkk;go_wp2_with fail
      go_loopw [7] (fun v7 wr=>∃ (rs:List Int),rs.length≤100000∧Ag (Es 4 0 rs=pr)∧Ag (DT wr w.heap.size v7 rs u8 ns)∧Ag (Dh w wr g5 {In.zero with op:=nm,k:=k} g cur)) (fun v7 wr=>4-sliceLen v7)
      case atStart=>exact⟨rs,hrs,HX,hRw,hI⟩
      case round =>
       clear hRw hI HX hrs;obtain⟨rs,hrs,HX,hRw,hI⟩:=hrel;obtain⟨A7,c7,rfl⟩:=hRw.out.a.slice;by_cases h4:rs.length<4
       ·have hp':=Az (show Es 4 0 (rs++[0])=pr by rw[←HX.out,JR h4]);have Ba:=Az ((Below.refl wr.heap.size wr).alloc (Nl _) (.cells #[.int .i64 0] 3));go_wp2_with (at_builtin;refine IY rfl (.tmp 72) (.tmp 73) rfl w.heap.size wr.heap.size 0 (.slice A7 rs.length c7) u8 rs ns rfl (hRw.out.keep Ba.out) rfl (Bv _ _) ?hl ?hb ?_)
        case hl=>omega
        case hb=>have:=(hI.out.keep Ba.out).b.size;simpa using this
        intro v' w3 hR3 hg3;have hI3:=Az ((hI.out.keep Ba.out).grown (hRw.out.keep Ba.out).a hg3);replace hR3:=Az hR3;obtain⟨A8,c8,rfl⟩:=hR3.out.a.slice;clear hRw hI Ba hg3;go_wp2;go_roundw
        case rel=>exact⟨rs++[0],by simp;omega,hp',hR3,hI3⟩
        case measure=>simp[sliceLen];omega
       ·have e:rs=pr:=by rw[←HX.out];exact(JS (by omega)).symm
        subst e;have h4':4≤rs.length:=by omega
        clear HX;go_wp2_with fail
        go_loopw [8] (fun v8 wr=>∃ (ns:List Int),ns.length≤100000∧Ag (Es 2 (-1) ns=pn)∧Ag (DT wr w.heap.size (.slice A7 rs.length c7) rs v8 ns)∧Ag (Dh w wr g5 {In.zero with op:=nm,k:=k} g cur)) (fun v8 wr=>2-sliceLen v8)
        case atStart=>exact⟨ns,hns,hpn,hRw,hI⟩
        case round =>
         clear hRw hI hpn hns;obtain⟨ns,hns,hpn,hRw,hI⟩:=hrel;obtain⟨A8,c8,rfl⟩:=hRw.out.b.slice;by_cases h2:ns.length<2
         ·have hp':=Az (show Es 2 (-1) (ns++[-1])=pn by rw[←hpn.out,JR h2]);have Ba:=Az ((Below.refl wr.heap.size wr).alloc (Nl _) (.cells #[.int .i64 (-1)] 3));go_wp2_with (at_builtin;refine IY rfl (.tmp 78) (.tmp 79) rfl w.heap.size wr.heap.size (-1) (.slice A8 ns.length c8) (.slice A7 rs.length c7) ns rs rfl (hRw.out.keep Ba.out).swap rfl (Bv _ _) ?hl ?hb ?_)
          case hl=>omega
          case hb=>have:=(hI.out.keep Ba.out).b.size;simpa using this
          intro v' w3 hR3 hg3;have hI3:=Az ((hI.out.keep Ba.out).grown (hRw.out.keep Ba.out).b hg3);replace hR3:=Az hR3.swap;obtain⟨A9,c9,rfl⟩:=hR3.out.b.slice;clear hRw hI Ba hg3;go_wp2;go_roundw
          case rel=>exact⟨ns++[-1],by simp;omega,hp',hR3,hI3⟩
          case measure=>simp[sliceLen];omega
         ·have e:ns=pn:=by rw[←hpn.out];exact(JS (by omega)).symm
          subst e;have h2':2≤ns.length:=by omega
          obtain⟨g7,d7,e7,_,J7⟩:=hRw.out.a.cell (by omega);obtain⟨g8,d8,e8,_,cell8⟩:=hRw.out.b.cell (by omega);cases e7;cases e8;have r0:=J7 0 (by omega);have r1:=J7 1 (by omega);have r2:=J7 2 (by omega);have r3:=J7 3 (by omega);have n0:=cell8 0 (by omega);have n1:=cell8 1 (by omega);have hF2:Pr l (Cl nm k (rs.getD 0 0) (rs.getD 1 0) (rs.getD 2 0) (rs.getD 3 0) (ns.getD 0 0) (ns.getD 1 0))=fin:=hF'.out;clear J7 cell8 hpn hF';generalize rs.getD 0 0=x0 at *;generalize rs.getD 1 0=x1 at *;generalize rs.getD 2 0=x2 at *;generalize rs.getD 3 0=x3 at *;generalize ns.getD 0 0=y0 at *;generalize ns.getD 1 0=y1 at *;replace hF2:=Az hF2;go_wp2_with fail
          have q0n:0<ns.length:=by omega
          have q1n:1<ns.length:=by omega
          have q0:(0:Int)<(ns.length:Int):=by omega
          have q1:(1:Int)<(ns.length:Int):=by omega
          have hS:wr.drew.cell? ⟨g8,0,none⟩=some (.int .i64 y0)∧wr.drew.cell? ⟨g8,1,none⟩=some (.int .i64 y1):=⟨n0,n1⟩
          go_region_held3 (fun W=>W.cell? ⟨g8,0,none⟩=some (.int .i64 y0)∧W.cell? ⟨g8,1,none⟩=some (.int .i64 y1)) (go_keep) (first |fail)
          clear hS n0 n1 q0 q1 q0n q1n;have HI:=Az hI.out.drew;have r0':wr.drew.cell? ⟨g7,0,none⟩=some (.int .i64 x0):=r0;have r1':wr.drew.cell? ⟨g7,1,none⟩=some (.int .i64 x1):=r1;have r2':wr.drew.cell? ⟨g7,2,none⟩=some (.int .i64 x2):=r2;have r3':wr.drew.cell? ⟨g7,3,none⟩=some (.int .i64 x3):=r3;have qn0:0<rs.length:=by omega
          have qn1:1<rs.length:=by omega
          have qn2:2<rs.length:=by omega
          have qn3:3<rs.length:=by omega
          have qq0:(0:Int)<(rs.length:Int):=by omega
          have qq1:(1:Int)<(rs.length:Int):=by omega
          have qq2:(2:Int)<(rs.length:Int):=by omega
          have qq3:(3:Int)<(rs.length:Int):=by omega
          have hne:g7≠g5:=fun e=>Oa hRw.out.a hI.out.i (by decide) (by rw[←e];rfl)
          clear r0 r1 r2 r3 hRw hI qn1 qn2 qn3;generalize rs.length=n7 at *;generalize ns.length=n8 at *;generalize wr.drew=w5 at *;have c0:w5.cell? ⟨g5,0,none⟩=some (.int .i64 nm):=(Bc HI.out.i 0).trans rfl;go_upto_block 8 with fail
          refine Ud nm hnm.out w w5 g5 g7 n7 c7 g cur k x0 x1 x2 x3 y0 y1 HI h4' hne r0' r1' r2' r3' _ _ _ _ _ _ _ _ _ _ _ _ _ _ _ _ _ _ _ _ _ _ _ _ _ _ _ _ _ _ _ _ _ _ _ _ _ _ _ _ _ _ _ _ _ _ _ _ _ _ _ _ _ _ _ _ _ _ _ _ _ _ _ _ _ _ _ _ _ _ _ _ _ _ _ _ _ _ _ _ _ _ _ _ _ _ _ _ _ _ _ _ _ _ _ _ _ _ _ _ _ _ _ _ _ _ _ _ _ _ _ _ _ _ _ _ _ _ _ _ _ _ _ _ _ _ _ _ _ _ _ _ _ _ _ _ _ _ _ _ _ _ _ _ _ _ _ _ _ _ _ _ _ _ _ _ _ _ _ _ _ _ _ _ _ _ _ _ _ _ _ _ _ _ _ _ _ _ _ _ _ _ _ _ _ _ _ _ _ _ _ _ _ _ _ _ _ _ _ _ _ _ _ _ _ _ _ _ _ _ _ _ ?_;intro s89 s90 s91 s92 s93 s94 s95 s96 s97 s98 s99 s100 s101 s102 s103 s104 s105 s106 s107 s108 s109 s110 s111 s112 s113 s114 s115 s116 s117 s118 s119 s120 s121 s122 s123 s124 s125 s126 s127 s128 s129 s130 s131 s132 s133 s134 s135 s136 s137 s138 s139 s140 s141 s142 s143 s144 s145 s146 s147 s148 s149 s150 s151 s152 s153 s154 s155 s156 s157 s158 s159 s160 s161 s162 s163 s164 s165 s166 s167 s168 s169 s170 s171 s172 s173 s174 s175 s176 s177 s178 s179 s180 s181 s182 s183 s184 s185 s186 s187 s188 s189 s190 s191 s192 s193 s194 s195 s196 s197 s198 s199 s200 s201 s202 s203 s204 w' hI;have hwk:=T5 nm k x0 x1 x2 x3 y0 y1 hk01;have hF':=hF2.out;clear hF2 HI r0' r1' r2' r3' c0;generalize Cl nm k x0 x1 x2 x3 y0 y1=i at *;have C1:=Az (fun W=>FG i 1073741824 hwk W);have C2:=Az (fun h W=>Ky i h hwk W);have ic0:w'.cell? ⟨g5,0,none⟩=some (.int .i64 i.op):=(Bc hI.out.i 0).trans rfl;have ic1:w'.cell? ⟨g5,1,none⟩=some (.int .i64 i.d):=(Bc hI.out.i 1).trans rfl;have ic2:w'.cell? ⟨g5,2,none⟩=some (.int .i64 i.s):=(Bc hI.out.i 2).trans rfl;have ic3:w'.cell? ⟨g5,3,none⟩=some (.int .i64 i.t):=(Bc hI.out.i 3).trans rfl;have ic4:w'.cell? ⟨g5,4,none⟩=some (.int .i64 i.u):=(Bc hI.out.i 4).trans rfl;have ic5:w'.cell? ⟨g5,5,none⟩=some (.int .i64 i.a):=(Bc hI.out.i 5).trans rfl;have ic6:w'.cell? ⟨g5,6,none⟩=some (.int .u32 i.k):=(Bc hI.out.i 6).trans rfl;have ic7:w'.cell? ⟨g5,7,none⟩=some (.int .i64 i.q):=(Bc hI.out.i 7).trans rfl;go_wp2_with fail
          refine(C1.out _).mono ?_;rintro e w6 ⟨rfl,hb6⟩;have hI6:=Az (hI.out.keep hb6);clear hI hb6 ic0 ic1 ic2 ic3 ic4 ic5 ic6 ic7;cases hr:AD i 1073741824 with
          |false =>
           have hfin:(In.zero,false)=fin:=by rw[←hF'];unfold Pr;rw[if_neg (by rw[hr];simp)]
           replace hfin:=Az hfin;clear hF' hr C1 C2;have z0:w.heap.size<w6.heap.size:=Bl hI6.out.z;have zc0:w6.cell? ⟨w.heap.size,0,none⟩=some (.int .i64 0):=(Bc hI6.out.z 0).trans rfl;have zf0:=Bf hI6.out.z 0;have zc1:w6.cell? ⟨w.heap.size,1,none⟩=some (.int .i64 0):=(Bc hI6.out.z 1).trans rfl;have zf1:=Bf hI6.out.z 1;have zc2:w6.cell? ⟨w.heap.size,2,none⟩=some (.int .i64 0):=(Bc hI6.out.z 2).trans rfl;have zf2:=Bf hI6.out.z 2;have zc3:w6.cell? ⟨w.heap.size,3,none⟩=some (.int .i64 0):=(Bc hI6.out.z 3).trans rfl;have zf3:=Bf hI6.out.z 3;have zc4:w6.cell? ⟨w.heap.size,4,none⟩=some (.int .i64 0):=(Bc hI6.out.z 4).trans rfl;have zf4:=Bf hI6.out.z 4;have zc5:w6.cell? ⟨w.heap.size,5,none⟩=some (.int .i64 0):=(Bc hI6.out.z 5).trans rfl;have zf5:=Bf hI6.out.z 5;have zc6:w6.cell? ⟨w.heap.size,6,none⟩=some (.int .u32 0):=(Bc hI6.out.z 6).trans rfl;have zf6:=Bf hI6.out.z 6;have zc7:w6.cell? ⟨w.heap.size,7,none⟩=some (.int .i64 0):=(Bc hI6.out.z 7).trans rfl;have zf7:=Bf hI6.out.z 7;go_wp2;refine bodyPost_ret (Bi rfl _ _ w.heap.size 114 In.zero.cs (0,0) _ rfl (Ci hI6.out.z (.int .i64 0) (.int .i64 0) (.int .i64 0) (.int .i64 0) (.int .i64 0) (.int .i64 0) (.int .u32 0) (.int .i64 0)) Tryz.underlying114 rfl (by kernel_rfl)) rfl ⟨?_,((((((((hI6.out.b).setCell (p:=⟨w.heap.size,0,none⟩) (Nl _) _).setCell (p:=⟨w.heap.size,1,none⟩) (Nl _) _).setCell (p:=⟨w.heap.size,2,none⟩) (Nl _) _).setCell (p:=⟨w.heap.size,3,none⟩) (Nl _) _).setCell (p:=⟨w.heap.size,4,none⟩) (Nl _) _).setCell (p:=⟨w.heap.size,5,none⟩) (Nl _) _).setCell (p:=⟨w.heap.size,6,none⟩) (Nl _) _).setCell (p:=⟨w.heap.size,7,none⟩) (Nl _) _⟩;rw[←hfin.out];rfl
          |true =>
           have ic0:w6.cell? ⟨g5,0,none⟩=some (.int .i64 i.op):=(Bc hI6.out.i 0).trans rfl;have ic1:w6.cell? ⟨g5,1,none⟩=some (.int .i64 i.d):=(Bc hI6.out.i 1).trans rfl;have ic2:w6.cell? ⟨g5,2,none⟩=some (.int .i64 i.s):=(Bc hI6.out.i 2).trans rfl;have ic3:w6.cell? ⟨g5,3,none⟩=some (.int .i64 i.t):=(Bc hI6.out.i 3).trans rfl;have ic4:w6.cell? ⟨g5,4,none⟩=some (.int .i64 i.u):=(Bc hI6.out.i 4).trans rfl;have ic5:w6.cell? ⟨g5,5,none⟩=some (.int .i64 i.a):=(Bc hI6.out.i 5).trans rfl;have ic6:w6.cell? ⟨g5,6,none⟩=some (.int .u32 i.k):=(Bc hI6.out.i 6).trans rfl;have ic7:w6.cell? ⟨g5,7,none⟩=some (.int .i64 i.q):=(Bc hI6.out.i 7).trans rfl;go_wp2_with fail
           refine(C2.out hr _).mono ?_;rintro e w7 ⟨rfl,hb7⟩;have hI7:=Az (hI6.out.keep hb7);clear hI6 hb7 ic0 ic1 ic2 ic3 ic4 ic5 ic6 ic7 C1 C2;by_cases h3:Bh i=l
           ·have hfin:(i,true)=fin:=by rw[←hF'];unfold Pr;rw[if_pos ⟨hr,h3⟩]
            replace hfin:=Az hfin;have h3b:(Bh i != l)=false:=bne_eq_false_iff_eq.2 h3;clear hF' hr;have z0:w.heap.size<w7.heap.size:=Bl hI7.out.z;have zc0:w7.cell? ⟨w.heap.size,0,none⟩=some (.int .i64 0):=(Bc hI7.out.z 0).trans rfl;have zf0:=Bf hI7.out.z 0;have zc1:w7.cell? ⟨w.heap.size,1,none⟩=some (.int .i64 0):=(Bc hI7.out.z 1).trans rfl;have zf1:=Bf hI7.out.z 1;have zc2:w7.cell? ⟨w.heap.size,2,none⟩=some (.int .i64 0):=(Bc hI7.out.z 2).trans rfl;have zf2:=Bf hI7.out.z 2;have zc3:w7.cell? ⟨w.heap.size,3,none⟩=some (.int .i64 0):=(Bc hI7.out.z 3).trans rfl;have zf3:=Bf hI7.out.z 3;have zc4:w7.cell? ⟨w.heap.size,4,none⟩=some (.int .i64 0):=(Bc hI7.out.z 4).trans rfl;have zf4:=Bf hI7.out.z 4;have zc5:w7.cell? ⟨w.heap.size,5,none⟩=some (.int .i64 0):=(Bc hI7.out.z 5).trans rfl;have zf5:=Bf hI7.out.z 5;have zc6:w7.cell? ⟨w.heap.size,6,none⟩=some (.int .u32 0):=(Bc hI7.out.z 6).trans rfl;have zf6:=Bf hI7.out.z 6;have zc7:w7.cell? ⟨w.heap.size,7,none⟩=some (.int .i64 0):=(Bc hI7.out.z 7).trans rfl;have zf7:=Bf hI7.out.z 7;have jc0:w7.cell? ⟨g5,0,none⟩=some (.int .i64 i.op):=(Bc hI7.out.i 0).trans rfl;have jc1:w7.cell? ⟨g5,1,none⟩=some (.int .i64 i.d):=(Bc hI7.out.i 1).trans rfl;have jc2:w7.cell? ⟨g5,2,none⟩=some (.int .i64 i.s):=(Bc hI7.out.i 2).trans rfl;have jc3:w7.cell? ⟨g5,3,none⟩=some (.int .i64 i.t):=(Bc hI7.out.i 3).trans rfl;have jc4:w7.cell? ⟨g5,4,none⟩=some (.int .i64 i.u):=(Bc hI7.out.i 4).trans rfl;have jc5:w7.cell? ⟨g5,5,none⟩=some (.int .i64 i.a):=(Bc hI7.out.i 5).trans rfl;have jc6:w7.cell? ⟨g5,6,none⟩=some (.int .u32 i.k):=(Bc hI7.out.i 6).trans rfl;have jc7:w7.cell? ⟨g5,7,none⟩=some (.int .i64 i.q):=(Bc hI7.out.i 7).trans rfl;go_wp2;refine bodyPost_ret (Bi rfl _ _ w.heap.size 114 i.cs (0,0) _ rfl (Ci hI7.out.z (.int .i64 i.op) (.int .i64 i.d) (.int .i64 i.s) (.int .i64 i.t) (.int .i64 i.u) (.int .i64 i.a) (.int .u32 i.k) (.int .i64 i.q)) Tryz.underlying114 rfl (by kernel_rfl)) rfl ⟨?_,((((((((hI7.out.b).setCell (p:=⟨w.heap.size,0,none⟩) (Nl _) _).setCell (p:=⟨w.heap.size,1,none⟩) (Nl _) _).setCell (p:=⟨w.heap.size,2,none⟩) (Nl _) _).setCell (p:=⟨w.heap.size,3,none⟩) (Nl _) _).setCell (p:=⟨w.heap.size,4,none⟩) (Nl _) _).setCell (p:=⟨w.heap.size,5,none⟩) (Nl _) _).setCell (p:=⟨w.heap.size,6,none⟩) (Nl _) _).setCell (p:=⟨w.heap.size,7,none⟩) (Nl _) _⟩;rw[←hfin.out];rfl
           ·have hfin:(In.zero,false)=fin:=by rw[←hF'];unfold Pr;rw[if_neg (fun h=>h3 h.2)]
            replace hfin:=Az hfin;have h3b:(Bh i==l)=false:=Bq h3;clear hF' hr;have z0:w.heap.size<w7.heap.size:=Bl hI7.out.z;have zc0:w7.cell? ⟨w.heap.size,0,none⟩=some (.int .i64 0):=(Bc hI7.out.z 0).trans rfl;have zf0:=Bf hI7.out.z 0;have zc1:w7.cell? ⟨w.heap.size,1,none⟩=some (.int .i64 0):=(Bc hI7.out.z 1).trans rfl;have zf1:=Bf hI7.out.z 1;have zc2:w7.cell? ⟨w.heap.size,2,none⟩=some (.int .i64 0):=(Bc hI7.out.z 2).trans rfl;have zf2:=Bf hI7.out.z 2;have zc3:w7.cell? ⟨w.heap.size,3,none⟩=some (.int .i64 0):=(Bc hI7.out.z 3).trans rfl;have zf3:=Bf hI7.out.z 3;have zc4:w7.cell? ⟨w.heap.size,4,none⟩=some (.int .i64 0):=(Bc hI7.out.z 4).trans rfl;have zf4:=Bf hI7.out.z 4;have zc5:w7.cell? ⟨w.heap.size,5,none⟩=some (.int .i64 0):=(Bc hI7.out.z 5).trans rfl;have zf5:=Bf hI7.out.z 5;have zc6:w7.cell? ⟨w.heap.size,6,none⟩=some (.int .u32 0):=(Bc hI7.out.z 6).trans rfl;have zf6:=Bf hI7.out.z 6;have zc7:w7.cell? ⟨w.heap.size,7,none⟩=some (.int .i64 0):=(Bc hI7.out.z 7).trans rfl;have zf7:=Bf hI7.out.z 7;go_wp2;refine bodyPost_ret (Bi rfl _ _ w.heap.size 114 In.zero.cs (0,0) _ rfl (Ci hI7.out.z (.int .i64 0) (.int .i64 0) (.int .i64 0) (.int .i64 0) (.int .i64 0) (.int .i64 0) (.int .u32 0) (.int .i64 0)) Tryz.underlying114 rfl (by kernel_rfl)) rfl ⟨?_,((((((((hI7.out.b).setCell (p:=⟨w.heap.size,0,none⟩) (Nl _) _).setCell (p:=⟨w.heap.size,1,none⟩) (Nl _) _).setCell (p:=⟨w.heap.size,2,none⟩) (Nl _) _).setCell (p:=⟨w.heap.size,3,none⟩) (Nl _) _).setCell (p:=⟨w.heap.size,4,none⟩) (Nl _) _).setCell (p:=⟨w.heap.size,5,none⟩) (Nl _) _).setCell (p:=⟨w.heap.size,6,none⟩) (Nl _) _).setCell (p:=⟨w.heap.size,7,none⟩) (Nl _) _⟩;rw[←hfin.out];rfl
structure MP (w W:World) (g:Nat) (i:In):Prop where
 b:Below w.heap.size w W
 z:W.heap[w.heap.size]?=some (.cells In.zero.cs 114 (0,0))
 i:W.heap[g]?=some (.cells i.cs 114 (0,0))
 n:w.heap.size<g
theorem MP.keep{w W W1:World}{b:Nat}{i:In}(h:MP w W b i)(hb:Below W.heap.size W W1):MP w W1 b i :=
 ⟨h.b.trans (hb.mono h.b.size),Bk hb h.z,Bk hb h.i,h.n⟩
theorem FK{W:World}{g:Nat}{t:TypeId}{op d s t' u a k q:Int}(h:W.heap[g]?=some (.cells (In.cs ⟨op,d,s,t',u,a,k,q⟩) t (0,0))) :
  W.cell? ⟨g,0,none⟩=some (.int .i64 op)∧W.cell? ⟨g,1,none⟩=some (.int .i64 d)∧W.cell? ⟨g,2,none⟩=some (.int .i64 s)∧W.cell? ⟨g,3,none⟩=some (.int .i64 t') ∧
  W.cell? ⟨g,4,none⟩=some (.int .i64 u)∧W.cell? ⟨g,5,none⟩=some (.int .i64 a)∧W.cell? ⟨g,6,none⟩=some (.int .u32 k)∧W.cell? ⟨g,7,none⟩=some (.int .i64 q) :=
 ⟨(Bc h 0).trans rfl,(Bc h 1).trans rfl,(Bc h 2).trans rfl,(Bc h 3).trans rfl,(Bc h 4).trans rfl,(Bc h 5).trans rfl,(Bc h 6).trans rfl,(Bc h 7).trans rfl⟩
theorem IZ{W:World}{g:Nat}{cs:Array Value}{t:TypeId}(h:W.heap[g]?=some (.cells cs t (0,0))) :
  W.frozen? ⟨g,0,none⟩=false∧W.frozen? ⟨g,1,none⟩=false∧W.frozen? ⟨g,2,none⟩=false∧W.frozen? ⟨g,3,none⟩=false∧W.frozen? ⟨g,4,none⟩=false∧W.frozen? ⟨g,5,none⟩=false∧W.frozen? ⟨g,6,none⟩=false∧W.frozen? ⟨g,7,none⟩=false :=
 ⟨Bf h 0,Bf h 1,Bf h 2,Bf h 3,Bf h 4,Bf h 5,Bf h 6,Bf h 7⟩
theorem RD{w W:World}{b:Nat}{i:In}(h:MP w W b i)(op d s t u a k q:Int) :
  MP w ((((((((W.setCell ⟨b,0,none⟩ (.int .i64 op)).setCell ⟨b,1,none⟩ (.int .i64 d)).setCell ⟨b,2,none⟩ (.int .i64 s)).setCell ⟨b,3,none⟩ (.int .i64 t)).setCell ⟨b,4,none⟩ (.int .i64 u)).setCell ⟨b,5,none⟩ (.int .i64 a)).setCell ⟨b,6,none⟩ (.int .u32 k)).setCell ⟨b,7,none⟩ (.int .i64 q)) b ⟨op,d,s,t,u,a,k,q⟩:=by
 have hn:=Nat.le_of_lt h.n;have far:∀ {W:World} {j:Nat} {v:Value} {o:Obj},W.heap[w.heap.size]?=some o→(W.setCell ⟨b,j,none⟩ v).heap[w.heap.size]?=some o:=fun hj=>(Below.heap_setCell _ ⟨b,_,none⟩ _ _ (Nat.ne_of_lt h.n)).trans hj
 exact⟨(((((((h.b.setCell hn _).setCell hn _).setCell hn _).setCell hn _).setCell hn _).setCell hn _).setCell hn _).setCell hn _,
  far (far (far (far (far (far (far (far h.z))))))),Ci h.i _ _ _ _ _ _ _ _,h.n⟩
theorem PW(s:List UInt8):Dt s=if (Ht (BE s++[48])).2=true∧D8 (Ht (BE s++[48])).1=true∧BY (Cq s)=true then ((Ht (BE s++[48])).1,Cq s,true) else
 if (Ht s).2=false∨D8 (Ht s).1=true then (In.zero,[],false) else ((Ht s).1,[],true):=rfl
theorem MQ{α:Type}(l:List α)(d:α){m:Nat}(h:l.length=m+1):l.getD m d=l.getLastD d:=by
 rw[List.getLastD_eq_getLast?,List.getLast?_eq_getElem?,h,List.getD_eq_getElem?_getD];rfl
theorem Mk(s:List UInt8)(w:World)(hl:s.length≤90000) :
  Calls Tryz.prog 64 #[.string ⟨s.toArray⟩] w fun e w'=>e=.returned (.tuple #[(Dt s).1.v,.string ⟨(Dt s).2.1.toArray⟩,.bool (Dt s).2.2])∧Below w.heap.size w w':=by
 have hap:=KP s;have hF:=PW s;generalize Dt s=fin at hF ⊢;have CW:=Az (fun W=>H9 s (by omega) W);have hln:(BE s).length+(Cq s).length=s.length:=by rw[←List.length_append,hap]
 have hne:=Ej s;obtain⟨m,hm⟩:∃ m,(AJ s).length=m+1:=⟨(AJ s).length-1,by have:=List.length_pos_iff.2 hne;omega⟩
 have htl:(AJ s).getD m []=Cq s:=MQ _ _ hm;have hm1:m+1≤s.length+1:=by rw[←hm,Dx];have:=List.count_le_length (a:=(32:UInt8)) (l:=s);omega
 have eh:(⟨s.toArray⟩:ByteArray).extract 0 (BE s).length=⟨(BE s).toArray⟩:=by
  rw[D4,List.drop_zero,Nat.sub_zero,(Of hap).1]
 have e0:(⟨(BE s).toArray⟩:ByteArray)++⟨#[48]⟩=⟨(BE s++[48]).toArray⟩:=B9 (BE s) [48];have CN:=Az (fun W=>I3 (Cq s) W (by omega));have C1:=Az (fun(W:World)=>Gp (BE s++[48]) (by simp;omega) W);have C2:=Az (fun(W:World)=>Gp s (by omega) W);rw[hm]at CW;generalize BE s=hd at *;generalize Cq s=tl at *;have hw1:IntKind.i64.wrap (m:Int)=(m:Int):=by rw[IntKind.wrap_i64];omega
 have hsub:IntKind.i64.wrap ((s.length:Int)-(tl.length:Int))=(hd.length:Int):=by rw[IntKind.wrap_i64];omega
 have hb1:¬9223372036854775807<hd.length+1:=by omega
 have hle:hd.length≤s.length:=by omega
 have hle':(hd.length:Int)≤(s.length:Int):=by omega
 have hge':(0:Int)≤(hd.length:Int):=by omega
 have hZ0:=Az (Bv w (.cells In.zero.cs 114));have hB0:=Az ((Below.refl w.heap.size w).alloc (Nl _) (.cells In.zero.cs 114));generalize Ht (hd++[48])=r1 at *;generalize Ht s=r2 at *;obtain⟨⟨op,d,s1,t,u,a,k,q⟩,e1⟩:=r1;obtain⟨⟨op2,d2,s2,t2,u2,a2,k2,q2⟩,e2⟩:=r2;dsimp only at hF C1 C2;replace C1:=C1.out;replace C2:=C2.out;dsimp only[In.v]at C1 C2;replace C1:=Az C1;replace C2:=Az C2;have D1:=fun W=>IJ ⟨op,d,s1,t,u,a,k,q⟩ W
 have D2:=fun W=>IJ ⟨op2,d2,s2,t2,u2,a2,k2,q2⟩ W
 dsimp only[In.v]at D1 D2;replace D1:=Az D1;replace D2:=Az D2;generalize D8 ⟨op,d,s1,t,u,a,k,q⟩=g1 at *;generalize D8 ⟨op2,d2,s2,t2,u2,a2,k2,q2⟩=g2 at *;generalize BY tl=nb at *;replace hF:=Az hF;clear hap hne;go_enter Tryz.func64,Tryz.ntmps64;go_wp2_with fail
 refine(CW.out _).mono ?_;rintro e w1 ⟨g,c,cur,rfl,hc,hg,hgz,hcur,hb⟩;have hcl:w1.cell? ⟨g,m,none⟩=some (.string ⟨tl.toArray⟩):=(Bc hg m).trans (by rw[hcur m (by omega),htl]);have hZ1:=Az (Bk hb hZ0.out);have hB1:=Az (hB0.out.trans (hb.mono hB0.out.size));clear hZ0 hB0 hb CW hcur hg htl hgz;go_wp2_with fail
 refine(C1.out _).mono ?_;rintro e w2 ⟨rfl,hb⟩;have hZ2:=Az (Bk hb hZ1.out);have hB2:=Az (hB1.out.trans (hb.mono hB1.out.size));have hs1:=Bl hZ2.out;have HI:=Az (show MP w (w2.alloc (.cells (In.cs ⟨op,d,s1,t,u,a,k,q⟩) 114)) w2.heap.size ⟨op,d,s1,t,u,a,k,q⟩ from
  ⟨hB2.out.alloc hB2.out.size _,AZ hZ2.out _,Bv _ _,hs1⟩)
 clear hZ1 hB1 hZ2 hB2 hb C1 hcl;obtain⟨b8,hb8⟩:∃ b,b=w2.heap.size:=⟨_,rfl⟩
 go_upto_region 5 with fail
 go_cut [39] (fun v wx=>v=.bool (e1&&g1&&nb)∧Ag (MP w wx b8 ⟨op,d,s1,t,u,a,k,q⟩))
 case first =>
  obtain⟨x0,x1,x2,x3,x4,x5,x6,x7⟩:=FK HI.out.i;cases e1 with
  |false =>
   go_wp2;go_meet
   exact⟨rfl,by rw[hb8];exact HI⟩
  |true =>
   go_wp2_with fail
   refine(D1.out _).mono ?_;rintro e w3 ⟨rfl,hb⟩;replace HI:=Az (HI.out.keep hb);cases g1 with
   |false =>
    go_wp2;go_meet
    exact⟨rfl,by rw[hb8];exact HI⟩
   |true =>
    go_wp2_with fail
    refine(CN.out _).mono ?_;rintro e w4 ⟨rfl,hb'⟩;replace HI:=Az (HI.out.keep hb');go_wp2;go_meet
    exact⟨by simp,by rw[hb8];exact HI⟩
 case rest =>
  obtain⟨rfl,HI⟩:=hcut;subst hb8;clear D1 CN;obtain⟨x0,x1,x2,x3,x4,x5,x6,x7⟩:=FK HI.out.i;obtain⟨f0,f1,f2,f3,f4,f5,f6,f7⟩:=IZ HI.out.i;have z0:=Bl HI.out.z;have z1:=Bl HI.out.i;cases hc1:(e1&&g1&&nb) with
  |true =>
   simp only[Bool.and_eq_true]at hc1;have hfin:fin=(⟨op,d,s1,t,u,a,k,q⟩,tl,true):=by rw[hF.out,if_pos ⟨hc1.1.1,hc1.1.2,hc1.2⟩]
   subst hfin;obtain⟨y0,y1,y2,y3,y4,y5,y6,y7⟩:=IZ HI.out.z;obtain⟨zc0,zc1,zc2,zc3,zc4,zc5,zc6,zc7⟩:=FK HI.out.z;clear C2 D2 hF;go_wp2;refine bodyPost_ret (CJ rfl _ _ w.heap.size 114 (In.cs ⟨op,d,s1,t,u,a,k,q⟩) (0,0) _ rfl (Ci HI.out.z (.int .i64 op) (.int .i64 d) (.int .i64 s1) (.int .i64 t) (.int .i64 u) (.int .i64 a) (.int .u32 k) (.int .i64 q)) Tryz.underlying114 rfl (by kernel_rfl)) rfl ⟨rfl,?_⟩;exact(((((((HI.out.b.setCell (Nl _) _).setCell (Nl _) _).setCell (Nl _) _).setCell (Nl _) _).setCell (Nl _) _).setCell (Nl _) _).setCell (Nl _) _).setCell (Nl _) _
  |false =>
   have hn:¬(e1=true∧g1=true∧nb=true):=fun h=>by rw[h.1,h.2.1,h.2.2]at hc1;cases hc1
   replace hF:=Az (hF.out.trans (if_neg hn));clear hn hc1 x0 x1 x2 x3 x4 x5 x6 x7 f0 f1 f2 f3 f4 f5 f6 f7 z0 z1;go_wp2_with fail
   refine(C2.out _).mono ?_;rintro e w3 ⟨rfl,hb⟩;replace HI:=Az (HI.out.keep hb);clear hb C2;obtain⟨x0,x1,x2,x3,x4,x5,x6,x7⟩:=FK HI.out.i;obtain⟨f0,f1,f2,f3,f4,f5,f6,f7⟩:=IZ HI.out.i;have z0:=Bl HI.out.z;have z1:=Bl HI.out.i;have HJ:=RD HI.out op2 d2 s2 t2 u2 a2 k2 q2;obtain⟨w5,hw5⟩:∃ y,((((((((w3.setCell ⟨w2.heap.size,0,none⟩ (.int .i64 op2)).setCell ⟨w2.heap.size,1,none⟩ (.int .i64 d2)).setCell ⟨w2.heap.size,2,none⟩ (.int .i64 s2)).setCell ⟨w2.heap.size,3,none⟩ (.int .i64 t2)).setCell ⟨w2.heap.size,4,none⟩ (.int .i64 u2)).setCell ⟨w2.heap.size,5,none⟩ (.int .i64 a2)).setCell ⟨w2.heap.size,6,none⟩ (.int .u32 k2)).setCell ⟨w2.heap.size,7,none⟩ (.int .i64 q2))=y:=⟨_,rfl⟩
   rw[hw5]at HJ;replace HJ:=Az HJ;clear HI;go_upto_region 8 with fail
   try rw[hw5]
   clear hw5 x0 x1 x2 x3 x4 x5 x6 x7 f0 f1 f2 f3 f4 f5 f6 f7 z0 z1;obtain⟨b8,hb8⟩:∃ b,b=w2.heap.size:=⟨_,rfl⟩
   go_cut [52] (fun v wx=>v=.bool (!e2||g2)∧Ag (MP w wx b8 ⟨op2,d2,s2,t2,u2,a2,k2,q2⟩))
   case first =>
    obtain⟨x0,x1,x2,x3,x4,x5,x6,x7⟩:=FK HJ.out.i;cases e2 with
    |false =>
     go_wp2;go_meet
     exact⟨rfl,by rw[hb8];exact HJ⟩
    |true =>
     go_wp2_with fail
     refine(D2.out _).mono ?_;rintro e w6 ⟨rfl,hb⟩;replace HJ:=Az (HJ.out.keep hb);go_wp2;go_meet
     exact⟨by simp,by rw[hb8];exact HJ⟩
   case rest =>
    obtain⟨rfl,HJ⟩:=hcut;subst hb8;clear D2;obtain⟨x0,x1,x2,x3,x4,x5,x6,x7⟩:=FK HJ.out.i;obtain⟨y0,y1,y2,y3,y4,y5,y6,y7⟩:=IZ HJ.out.z;obtain⟨zc0,zc1,zc2,zc3,zc4,zc5,zc6,zc7⟩:=FK (op:=0) (d:=0) (s:=0) (t':=0) (u:=0) (a:=0) (k:=0) (q:=0) HJ.out.z;have z0:=Bl HJ.out.z;have z1:=Bl HJ.out.i;cases hc2:(!e2||g2) with
    |true =>
     have hfin:fin=(In.zero,[],false):=by
      rw[hF.out,if_pos];cases e2 with
      |false=>exact .inl rfl
      |true=>exact .inr (by simpa using hc2)
     subst hfin;clear hF;go_wp2;refine bodyPost_ret (CJ rfl _ _ w.heap.size 114 In.zero.cs (0,0) _ rfl (Ci HJ.out.z (.int .i64 0) (.int .i64 0) (.int .i64 0) (.int .i64 0) (.int .i64 0) (.int .i64 0) (.int .u32 0) (.int .i64 0)) Tryz.underlying114 rfl (by kernel_rfl)) rfl ⟨rfl,?_⟩;exact(((((((HJ.out.b.setCell (Nl _) _).setCell (Nl _) _).setCell (Nl _) _).setCell (Nl _) _).setCell (Nl _) _).setCell (Nl _) _).setCell (Nl _) _).setCell (Nl _) _
    |false =>
     have hfin:fin=(⟨op2,d2,s2,t2,u2,a2,k2,q2⟩,[],true):=by
      rw[hF.out,if_neg];rintro(h |h)
      ·rw[h]at hc2;cases hc2
      ·rw[h]at hc2;simp at hc2
     subst hfin;clear hF;go_wp2;refine bodyPost_ret (CJ rfl _ _ w.heap.size 114 (In.cs ⟨op2,d2,s2,t2,u2,a2,k2,q2⟩) (0,0) _ rfl (Ci HJ.out.z (.int .i64 op2) (.int .i64 d2) (.int .i64 s2) (.int .i64 t2) (.int .i64 u2) (.int .i64 a2) (.int .u32 k2) (.int .i64 q2)) Tryz.underlying114 rfl (by kernel_rfl)) rfl ⟨rfl,?_⟩;exact(((((((HJ.out.b.setCell (Nl _) _).setCell (Nl _) _).setCell (Nl _) _).setCell (Nl _) _).setCell (Nl _) _).setCell (Nl _) _).setCell (Nl _) _).setCell (Nl _) _
end
end Go.Proofs.YtjjpiefgdggghaaGreatDoor
