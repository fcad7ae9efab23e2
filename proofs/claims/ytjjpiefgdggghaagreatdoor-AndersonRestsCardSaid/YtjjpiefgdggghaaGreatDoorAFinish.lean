/- ref14's finish: whoever is in a call goes on by turns, and unlocks, till nobody is. -/
import Derived.Test.YtjjpiefgdggghaaGreatDoorA03
import Derived.Test.YtjjpiefgdggghaaGreatDoorA42
set_option linter.unusedVariables false
set_option linter.unusedSimpArgs false
set_option maxRecDepth 100000
set_option maxHeartbeats 40000000
namespace Go.Proofs.YtjjpiefgdggghaaGreatDoor
section
open Go.RowKit Go.Proofs.YtjjpiefgdggghaaGreatDoorW.PrintWords
structure Dq (r:AH) (n m:Nat):Prop where
 fit:Dr r
 act:r.act.length=n
 l:r.l.length≤302*m
theorem Dq.op{r:AH}{n m:Nat}(h:Dq r n m)(kind t late:Int):Dq (r.op kind t late) n (m+1):=by
 have s:=Fu r kind t late h.fit.marks;have:=s.l;have hl:=h.l;exact⟨h.fit.same s,s.act.trans h.act,by omega⟩
theorem Dq.more{r:AH}{n m k:Nat}(h:Dq r n m)(hk:m≤k):Dq r n k:=⟨h.fit,h.act,by have:=h.l;omega⟩
theorem Dq.fold{r:AH}{n m:Nat}(h:Dq r n m):∀ j:Nat,Dq ((List.range j).foldl CU (r,false)).1 n (m+j)
 |0=>h
 |j+1=>by
  rw[List.range_succ,List.foldl_append];have:=h.fold j;generalize (List.range j).foldl CU (r,false)=v at this ⊢
  show Dq (if v.1.act.getD j 0=2 then v.1.op 2 j 0 else v.1.op 3 j 0) n (m+j+1)
  split
  ·exact this.op _ _ _
  ·exact this.op _ _ _
theorem Sf(r:AH)(j:Nat):(List.range (j+1)).foldl CU (r,false)=CU ((List.range j).foldl CU (r,false)) j:=by
 rw[List.range_succ,List.foldl_append];rfl
theorem Dq.fin{n:Nat}:∀ (k:Nat) {r:AH} {m:Nat},Dq r n m→Dq (H0 k r).1 n (m+k*n)
 |0,r,m,h=>by simpa [H0]using h
 |k+1,r,m,h=>by
  have hr:Dq (Fc r).1 n (m+n):=by unfold Fc;rw[h.act];exact h.fold n
  unfold H0;dsimp only;have e:(k+1)*n=n+k*n:=by rw[Nat.succ_mul];omega
  split
  ·exact hr.more (by rw[e];omega)
  ·have:=Dq.fin k hr;exact this.more (by rw[e];omega)
theorem Ly(w W:World)(pr px n M:Nat)(vl vc vw vr vd ve:Value)(pl:Option Addr)(r:AH)(h:C5 w W pr px vl vc vw vr pl vd ve r)(hk:Dq r n M)(n1:1≤n)(hn8:n≤8)(hM:M≤100000) :
  Calls Tryz.prog 42 #[.pointer (some ⟨pr,0,none⟩)] W fun e W'=>e=.returned (.bool (H0 5000 r).2)∧∃ ve',C5 w W' pr px vl vc vw vr pl vd ve' (H0 5000 r).1:=by
 obtain⟨gd,cd,hvd,_⟩:=Cw h.act (by rw[hk.act];exact n1);rw[hk.act]at hvd;subst hvd;obtain⟨K,hK⟩:∃ K,5000=K:=⟨_,rfl⟩
 obtain⟨fv,hfv⟩:∃ v,H0 K r=v:=⟨_,rfl⟩
 rw[hK,hfv];have hk0:Dq r n (M+0*8):=by simpa using hk
 have hKi:(5000:Int)=(K:Int):=by rw[←hK];rfl
 replace hK:=Az hK;replace hfv:=Az hfv;replace hk0:=Az hk0;replace n1:=Az n1;replace hn8:=Az hn8;replace hM:=Az hM;replace h:=Az h;clear hk;go_enter Tryz.func42,Tryz.ntmps42;go_wp2_with fail
 go_loopw [3] (fun v3 wr=>∃ (k m:Nat) (q:AH) (ve:Value),v3=.int .i64 (k:Int)∧k+m=K∧Ag (Dq q n (M+k*8))∧Ag (H0 m q=fv)∧Ag (C5 w wr pr px vl vc vw vr pl (.slice (some ⟨gd,0,none⟩) n cd) ve q)) (fun v3 _=>K-(intOf v3).toNat)
 case atStart=>exact⟨0,K,r,_,rfl,by omega,hk0,hfv,h⟩
 case round =>
  obtain⟨k,m,q,ve,rfl,hkm,hOk,hF,hR⟩:=hrel;clear h;cases m with
  |zero =>
   obtain rfl:k=K:=by omega
   have e1:¬(k:Int)<5000:=by rw[hKi];omega
   have hF0:(q,false)=fv:=hF.out;subst hF0;go_wp2_with fail
   go_ret;exact⟨rfl,ve,hR.out⟩
  |succ m =>
   have hlt:k<K:=by omega
   have k1:(k:Int)<5000:=by rw[hKi];omega
   have kw:IntKind.i64.wrap ((k:Int)+1)=(k:Int)+1:=by rw[IntKind.wrap_i64];omega
   have d1:wr.cell? ⟨pr,1,none⟩=some (.slice (some ⟨gd,0,none⟩) n cd):=(Bc hR.out.br 1).trans rfl;go_wp2_with fail
   go_loopw [4,15] (fun v4 v15 wr=>∃ (j:Nat) (p:AH) (b:Bool) (ve:Value),v15=.int .i64 (j:Int)∧v4=.bool b∧j≤n∧Ag ((p,b)=(List.range j).foldl CU (q,false))∧Ag (Dq p n (M+k*8+j))∧Ag (C5 w wr pr px vl vc vw vr pl (.slice (some ⟨gd,0,none⟩) n cd) ve p)) (fun _ v15 _=>n-(intOf v15).toNat)
   case atStart=>exact⟨0,q,false,ve,rfl,rfl,Nat.zero_le _,⟨rfl⟩,hOk,hR⟩
   case round =>
    obtain⟨j,p,b,ve,rfl,rfl,hj,hq,hP,hRp⟩:=hrel;clear hR d1;by_cases hjn:j<n
    ·have j0:(0:Int)≤(j:Int):=by omega
     have j1:(j:Int)<(n:Int):=by omega
     have jw:IntKind.i64.wrap ((j:Int)+1)=(j:Int)+1:=by have:=hn8.out;rw[IntKind.wrap_i64];omega
     obtain⟨_,_,hca⟩:=ET hRp.out.act hP.out.act hjn;have c1:wr.cell? ⟨pr,1,none⟩=some (.slice (some ⟨gd,0,none⟩) n cd):=(Bc hRp.out.br 1).trans rfl;obtain⟨av,hav⟩:∃ x,p.act.getD j 0=x:=⟨_,rfl⟩
     have hokp:Kp p:=hP.out.fit.ok (by have h1:=hP.out.l;have h2:=hM.out;have h3:=hK.out;have h4:=hn8.out;omega);have hfold:=Sf q j;rw[←hq.out]at hfold;obtain⟨p2,hp2⟩:∃ x,(if av=2 then p.op 2 j 0 else p.op 3 j 0)=x:=⟨_,rfl⟩
     have hturn:CU (p,b) j=(p2,b||decide (p2.act.getD j 0≠0)):=by
      rw[←hp2,←hav];rfl
     rw[hturn]at hfold;have hP2:Dq p2 n (M+k*8+(j+1)):=by
      rw[←hp2];split
      ·exact hP.out.op _ _ _
      ·exact hP.out.op _ _ _
     rw[hav]at hca;replace hokp:=Az hokp;replace hfold:=Az hfold;replace hP2:=Az hP2;clear hav hturn hq hP;obtain⟨bb,hbb⟩:∃ b,((av:Int)==2)=b:=⟨_,rfl⟩
     go_upto_if 25 with fail
     go_cut [] from 26 to 33 (fun wx=>∃ (ve5:Value),Ag (C5 w wx pr px vl vc vw vr pl (.slice (some ⟨gd,0,none⟩) n cd) ve5 p2))
     case first =>
      cases bb with
      |true =>
       have a2:av=2:=by have:=eq_of_beq hbb;omega
       subst a2;clear hbb;have hp3:=Az ((if_pos rfl).symm.trans hp2);have hO:=Az (Df w wr pr px _ vc vw vr pl _ ve p 2 (j:Int) 0 hRp.out hokp.out);rw[hp3.out]at hO;clear hp2 hp3;go_wp2_with fail
       refine hO.out.mono ?_;rintro e w5 ⟨rfl,ve5,hR5,_⟩;replace hR5:=Az hR5;clear hO;go_wp2_with fail
       go_meet
       exact⟨ve5,hR5⟩
      |false =>
       have a2:¬av=2:=fun e=>by rw[e]at hbb;cases hbb
       clear hbb;have hp3:=Az ((if_neg a2).symm.trans hp2);have hO:=Az (Df w wr pr px _ vc vw vr pl _ ve p 3 (j:Int) 0 hRp.out hokp.out);rw[hp3.out]at hO;clear hp2 hp3 a2;go_wp2_with fail
       refine hO.out.mono ?_;rintro e w5 ⟨rfl,ve5,hR5,_⟩;replace hR5:=Az hR5;clear hO;go_wp2_with fail
       go_meet
       exact⟨ve5,hR5⟩
     case rest =>
      obtain⟨ve5,hR5⟩:=hcut;obtain⟨_,_,hca2⟩:=ET hR5.out.act hP2.out.act hjn;have d1:wc.cell? ⟨pr,1,none⟩=some (.slice (some ⟨gd,0,none⟩) n cd):=(Bc hR5.out.br 1).trans rfl;obtain⟨a2,ha2⟩:∃ x,p2.act.getD j 0=x:=⟨_,rfl⟩
      rw[ha2]at hca2 hfold;clear ha2 hp2 hca c1 hbb;cases b with
      |true =>
       replace hfold:=Az (hfold.out.trans (congrArg (Prod.mk p2) (show(true||decide (a2≠0))=true from rfl)));go_wp2;go_roundw
       case rel=>exact⟨j+1,p2,true,ve5,by go_num,rfl,hjn,⟨hfold.out.symm⟩,hP2,hR5⟩
       case measure=>simp[intOf];omega
      |false =>
       by_cases a0:a2=0
       ·subst a0;replace hfold:=Az (hfold.out.trans (congrArg (Prod.mk p2) (show(false||decide ((0:Nat)≠0))=false from rfl)));go_wp2;go_roundw
        case rel=>exact⟨j+1,p2,false,ve5,by go_num,rfl,hjn,⟨hfold.out.symm⟩,hP2,hR5⟩
        case measure=>simp[intOf];omega
       ·have x0:((a2:Int) != 0)=true:=bne_iff_ne.2 (by omega);have x1:((a2:Int)==0)=false:=Bq (by omega);replace hfold:=Az (hfold.out.trans (congrArg (Prod.mk p2) (show(false||decide (a2≠0))=true by simp[a0])));clear a0;go_wp2;go_roundw
        case rel=>exact⟨j+1,p2,true,ve5,by go_num,rfl,hjn,⟨hfold.out.symm⟩,hP2,hR5⟩
        case measure=>simp[intOf];omega
    ·obtain rfl:j=n:=by omega
     have e1:¬(j:Int)<(j:Int):=by omega
     have hqr:(p,b)=Fc q:=by unfold Fc;rw[hOk.out.act];exact hq.out
     have hF2:=hF.out;unfold H0 at hF2;rw[←hqr]at hF2;dsimp only at hF2;have hOk':Dq p j (M+(k+1)*8):=hP.out.more (by have:=hn8.out;omega);replace hOk':=Az hOk';clear hq hqr hP hF hOk;cases b with
     |false =>
      have hf:=hF2.symm.trans (if_pos rfl);subst hf;go_wp2_with fail
      go_ret;exact⟨rfl,ve,hRp.out⟩
     |true =>
      have hf:=Az ((if_neg (by simp)).symm.trans hF2);clear hF2;go_wp2;go_roundw
      case rel=>exact⟨k+1,m,p,ve,by go_num,by omega,hOk',hf,hRp⟩
      case measure=>simp[intOf];omega
end
end Go.Proofs.YtjjpiefgdggghaaGreatDoor
