/- ref14's finish: whoever is in a call goes on by turns, and unlocks, till nobody is. -/
import Derived.Test.YtjjpiefgdggghaaGreatDoorK05
import Derived.Test.YtjjpiefgdggghaaGreatDoorK49
import Derived.Test.YtjjpiefgdggghaaGreatDoorK12
import Derived.Test.YtjjpiefgdggghaaGreatDoorK50
import Derived.Test.YtjjpiefgdggghaaGreatDoorK27
import Derived.Test.YtjjpiefgdggghaaGreatDoorKCloRestsK42
set_option linter.unusedVariables false
set_option linter.unusedSimpArgs false
set_option maxRecDepth 100000
set_option maxHeartbeats 40000000
namespace Go.Proofs.YtjjpiefgdggghaaGreatDoor
section
open Go.RowKit Go.Proofs.YtjjpiefgdggghaaGreatDoorW.PrintWords
structure DI (r:AQ) (n m:Nat):Prop where
 fit:DJ r
 act:r.act.length=n
 l:r.l.length≤302*m
theorem DI.op{r:AQ}{n m:Nat}(h:DI r n m)(kind t late:Int):DI (r.op kind t late) n (m+1):=by
 have s:=Gs r kind t late h.fit.marks;have:=s.l;have hl:=h.l;exact⟨h.fit.same s,s.act.trans h.act,by omega⟩
theorem DI.more{r:AQ}{n m k:Nat}(h:DI r n m)(hk:m≤k):DI r n k:=⟨h.fit,h.act,by have:=h.l;omega⟩
theorem DI.fold{r:AQ}{n m:Nat}(h:DI r n m):∀ j:Nat,DI ((List.range j).foldl Dw (r,false)).1 n (m+j)
 |0=>h
 |j+1=>by
  rw[List.range_succ,List.foldl_append];have:=h.fold j;generalize (List.range j).foldl Dw (r,false)=v at this ⊢
  show DI (if v.1.act.getD j 0=2 then v.1.op 2 j 0 else v.1.op 3 j 0) n (m+j+1)
  split
  ·exact this.op _ _ _
  ·exact this.op _ _ _
theorem VK(r:AQ)(j:Nat):(List.range (j+1)).foldl Dw (r,false)=Dw ((List.range j).foldl Dw (r,false)) j:=by
 rw[List.range_succ,List.foldl_append];rfl
theorem DI.fin{n:Nat}:∀ (k:Nat) {r:AQ} {m:Nat},DI r n m→DI (IY k r).1 n (m+k*n)
 |0,r,m,h=>by simpa [IY]using h
 |k+1,r,m,h=>by
  have hr:DI (Gr r).1 n (m+n):=by unfold Gr;rw[h.act];exact h.fold n
  unfold IY;dsimp only;have e:(k+1)*n=n+k*n:=by rw[Nat.succ_mul];omega
  split
  ·exact hr.more (by rw[e];omega)
  ·have:=DI.fin k hr;exact this.more (by rw[e];omega)
theorem On(w W:World)(pr px n M:Nat)(vl vc vw vr vd ve:Value)(pl:Option Addr)(r:AQ)(h:CZ w W pr px vl vc vw vr pl vd ve r)(hk:DI r n M)(n1:1≤n)(hn8:n≤8)(hM:M≤100000) :
  Calls Tryz.prog 42 #[.pointer (some ⟨pr,0,none⟩)] W fun e W'=>e=.returned (.bool (IY 5000 r).2)∧∃ ve',CZ w W' pr px vl vc vw vr pl vd ve' (IY 5000 r).1:=by
 obtain⟨gd,cd,hvd,_⟩:=CO h.act (by rw[hk.act];exact n1);rw[hk.act]at hvd;subst hvd;obtain⟨K,hK⟩:∃ K,5000=K:=⟨_,rfl⟩
 obtain⟨fv,hfv⟩:∃ v,IY K r=v:=⟨_,rfl⟩
 rw[hK,hfv];have hk0:DI r n (M+0*8):=by simpa using hk
 have hKi:(5000:Int)=(K:Int):=by rw[←hK];rfl
 replace hK:=Az hK;replace hfv:=Az hfv;replace hk0:=Az hk0;replace n1:=Az n1;replace hn8:=Az hn8;replace hM:=Az hM;replace h:=Az h;clear hk;go_enter Tryz.func42,Tryz.ntmps42;go_wp2_with fail
 go_loopw [3] (fun v3 wr=>∃ (k m:Nat) (q:AQ) (ve:Value),v3=.int .i64 (k:Int)∧k+m=K∧Af (DI q n (M+k*8))∧Af (IY m q=fv)∧Af (CZ w wr pr px vl vc vw vr pl (.slice (some ⟨gd,0,none⟩) n cd) ve q)) (fun v3 _=>K-(intOf v3).toNat)
 case atStart=>exact⟨0,K,r,_,rfl,by omega,hk0,hfv,h⟩
 case round =>
  obtain⟨k,m,q,ve,rfl,hkm,hOk,hF,hR⟩:=hrel;clear h;cases m with
  |zero =>
   obtain rfl:k=K:=by omega
   have e1:¬(k:Int)<5000:=by rw[hKi];omega
   have hF0:(q,false)=fv:=hF.out;subst hF0;go_wp2_with fail
   go_ret;exact⟨rfl,ve,hR.out⟩
  |succ m =>
   have hlt:k<K:=by omega
   have k1:(k:Int)<5000:=by rw[hKi];omega
   have kw:IntKind.i64.wrap ((k:Int)+1)=(k:Int)+1:=by rw[IntKind.wrap_i64];omega
   have d1:wr.cell? ⟨pr,1,none⟩=some (.slice (some ⟨gd,0,none⟩) n cd):=(Bc hR.out.br 1).trans rfl;go_wp2_with fail
   go_loopw [4,15] (fun v4 v15 wr=>∃ (j:Nat) (p:AQ) (b:Bool) (ve:Value),v15=.int .i64 (j:Int)∧v4=.bool b∧j≤n∧Af ((p,b)=(List.range j).foldl Dw (q,false))∧Af (DI p n (M+k*8+j))∧Af (CZ w wr pr px vl vc vw vr pl (.slice (some ⟨gd,0,none⟩) n cd) ve p)) (fun _ v15 _=>n-(intOf v15).toNat)
   case atStart=>exact⟨0,q,false,ve,rfl,rfl,Nat.zero_le _,⟨rfl⟩,hOk,hR⟩
   case round =>
    obtain⟨j,p,b,ve,rfl,rfl,hj,hq,hP,hRp⟩:=hrel;clear hR d1;by_cases hjn:j<n
    ·have j0:(0:Int)≤(j:Int):=by omega
     have j1:(j:Int)<(n:Int):=by omega
     have jw:IntKind.i64.wrap ((j:Int)+1)=(j:Int)+1:=by have:=hn8.out;rw[IntKind.wrap_i64];omega
     obtain⟨_,_,hca⟩:=Gc hRp.out.act hP.out.act hjn;have c1:wr.cell? ⟨pr,1,none⟩=some (.slice (some ⟨gd,0,none⟩) n cd):=(Bc hRp.out.br 1).trans rfl;obtain⟨av,hav⟩:∃ x,p.act.getD j 0=x:=⟨_,rfl⟩
     have hokp:Mp p:=hP.out.fit.ok (by have h1:=hP.out.l;have h2:=hM.out;have h3:=hK.out;have h4:=hn8.out;omega);have hfold:=VK q j;rw[←hq.out]at hfold;obtain⟨p2,hp2⟩:∃ x,(if av=2 then p.op 2 j 0 else p.op 3 j 0)=x:=⟨_,rfl⟩
     have hturn:Dw (p,b) j=(p2,b||decide (p2.act.getD j 0≠0)):=by
      rw[←hp2,←hav];rfl
     rw[hturn]at hfold;have hP2:DI p2 n (M+k*8+(j+1)):=by
      rw[←hp2];split
      ·exact hP.out.op _ _ _
      ·exact hP.out.op _ _ _
     rw[hav]at hca;replace hokp:=Az hokp;replace hfold:=Az hfold;replace hP2:=Az hP2;clear hav hturn hq hP;obtain⟨bb,hbb⟩:∃ b,((av:Int)==2)=b:=⟨_,rfl⟩
     go_upto_if 25 with fail
     go_cut [] from 26 to 33 (fun wx=>∃ (ve5:Value),Af (CZ w wx pr px vl vc vw vr pl (.slice (some ⟨gd,0,none⟩) n cd) ve5 p2))
     case first =>
      cases bb with
      |true =>
       have a2:av=2:=by have:=eq_of_beq hbb;omega
       subst a2;clear hbb;have hp3:=Az ((if_pos rfl).symm.trans hp2);have hO:=Az (DB w wr pr px _ vc vw vr pl _ ve p 2 (j:Int) 0 hRp.out hokp.out);rw[hp3.out]at hO;clear hp2 hp3;go_wp2_with fail
       refine hO.out.mono ?_;rintro e w5 ⟨rfl,ve5,hR5,_⟩;replace hR5:=Az hR5;clear hO;go_wp2_with fail
       go_meet
       exact⟨ve5,hR5⟩
      |false =>
       have a2:¬av=2:=fun e=>by rw[e]at hbb;cases hbb
       clear hbb;have hp3:=Az ((if_neg a2).symm.trans hp2);have hO:=Az (DB w wr pr px _ vc vw vr pl _ ve p 3 (j:Int) 0 hRp.out hokp.out);rw[hp3.out]at hO;clear hp2 hp3 a2;go_wp2_with fail
       refine hO.out.mono ?_;rintro e w5 ⟨rfl,ve5,hR5,_⟩;replace hR5:=Az hR5;clear hO;go_wp2_with fail
       go_meet
       exact⟨ve5,hR5⟩
     case rest =>
      obtain⟨ve5,hR5⟩:=hcut;obtain⟨_,_,hca2⟩:=Gc hR5.out.act hP2.out.act hjn;have d1:wc.cell? ⟨pr,1,none⟩=some (.slice (some ⟨gd,0,none⟩) n cd):=(Bc hR5.out.br 1).trans rfl;obtain⟨a2,ha2⟩:∃ x,p2.act.getD j 0=x:=⟨_,rfl⟩
      rw[ha2]at hca2 hfold;clear ha2 hp2 hca c1 hbb;cases b with
      |true =>
       replace hfold:=Az (hfold.out.trans (congrArg (Prod.mk p2) (show(true||decide (a2≠0))=true from rfl)));go_wp2;go_roundw
       case rel=>exact⟨j+1,p2,true,ve5,by go_num,rfl,hjn,⟨hfold.out.symm⟩,hP2,hR5⟩
       case measure=>simp[intOf];omega
      |false =>
       by_cases a0:a2=0
       ·subst a0;replace hfold:=Az (hfold.out.trans (congrArg (Prod.mk p2) (show(false||decide ((0:Nat)≠0))=false from rfl)));go_wp2;go_roundw
        case rel=>exact⟨j+1,p2,false,ve5,by go_num,rfl,hjn,⟨hfold.out.symm⟩,hP2,hR5⟩
        case measure=>simp[intOf];omega
       ·have x0:((a2:Int) != 0)=true:=bne_iff_ne.2 (by omega);have x1:((a2:Int)==0)=false:=Bq (by omega);replace hfold:=Az (hfold.out.trans (congrArg (Prod.mk p2) (show(false||decide (a2≠0))=true by simp[a0])));clear a0;go_wp2;go_roundw
        case rel=>exact⟨j+1,p2,true,ve5,by go_num,rfl,hjn,⟨hfold.out.symm⟩,hP2,hR5⟩
        case measure=>simp[intOf];omega
    ·obtain rfl:j=n:=by omega
     have e1:¬(j:Int)<(j:Int):=by omega
     have hqr:(p,b)=Gr q:=by unfold Gr;rw[hOk.out.act];exact hq.out
     have hF2:=hF.out;unfold IY at hF2;rw[←hqr]at hF2;dsimp only at hF2;have hOk':DI p j (M+(k+1)*8):=hP.out.more (by have:=hn8.out;omega);replace hOk':=Az hOk';clear hq hqr hP hF hOk;cases b with
     |false =>
      have hf:=hF2.symm.trans (if_pos rfl);subst hf;go_wp2_with fail
      go_ret;exact⟨rfl,ve,hRp.out⟩
     |true =>
      have hf:=Az ((if_neg (by simp)).symm.trans hF2);clear hF2;go_wp2;go_roundw
      case rel=>exact⟨k+1,m,p,ve,by go_num,by omega,hOk',hf,hRp⟩
      case measure=>simp[intOf];omega
end
end Go.Proofs.YtjjpiefgdggghaaGreatDoor
set_option linter.unusedVariables false
set_option linter.unusedSimpArgs false
set_option maxRecDepth 100000
set_option maxHeartbeats 40000000
namespace Go.Proofs.YtjjpiefgdggghaaGreatDoor
section
open Go.RowKit Go.Proofs.YtjjpiefgdggghaaGreatDoorW.PrintWords
theorem FJ:∀ (k:Nat) (r:AQ) (t:Nat),BS (k+1) r t=(BS k r t).op 3 t 0
 |0,_,_=>rfl
 |k+1,r,t=>by
  show BS (k+1) (r.op 3 t 0) t=_
  rw[FJ k];rfl
theorem DI.steps{r:AQ}{n m:Nat}(h:DI r n m)(t:Nat):∀ k:Nat,DI (BS k r t) n (m+k)
 |0=>h
 |k+1=>by rw[FJ];exact(h.steps t k).op _ _ _
theorem T4{x:AG}{n:Nat}{l:List (Int×Int×Int)}{t lock unlock:Nat}{q1 q2 q3 q4:AQ}{b:Bool}(h1:IY 5000 ((AQ.new x n).ops l)=(q1,b))(h2:BS lock (q1.op 1 t 0) t=q2)(h3:q2.op 2 t 0=q3)(h4:BS unlock q3 t=q4) :
  Ci x 0 n l t lock unlock=if b=false∨q1.bad=true then false else if q2.act.getD t 0≠2 then false else !q4.bad&&decide (q4.act.getD t 0=0)&&decide (Cj n q4.l=q4.l.length):=by
 unfold Ci;rw[h1];dsimp only;rw[h2,h3,h4];rfl
theorem DO(W:World)(vl vs vi vr:Value)(Ap:Option Addr)(cp:Nat)(pg:Pg)(ss is rs:List Nat)(n t lock unlock:Nat)(l:List (Int×Int×Int))(h:De W vl vs vi vr pg ss is rs)(k:Kq pg ss is rs n)(hp:K6 W Ap l)(hl:l.length≤300)
  (hn8:n≤8)(ht:t<n)(hlk:lock≤100)(hul:unlock≤100) :
  Calls Tryz.prog 16 #[.agg #[vl,.int .i64 pg.lock,.int .i64 pg.unlock,vs,vi,.int .i64 0,vr],.int .i64 (n:Int),.slice Ap l.length cp,.int .i64 (t:Int),.int .i64 (lock:Int),.int .i64 (unlock:Int)] W fun e W'=>e=.returned (.bool (Ci (AG.new pg ss is n 0 rs) 0 n l t lock unlock))∧Below W.heap.size W W':=by
 have hb0:=Bw W (.cells #[vl,.int .i64 pg.lock,.int .i64 pg.unlock,vs,vi,.int .i64 0,vr] 29);have hN:=Bv W (.cells #[vl,.int .i64 pg.lock,.int .i64 pg.unlock,vs,vi,.int .i64 0,vr] 29);have hC:=Az ((h.keep hb0).beg k);have hfit:=k.fit;have n1:=k.h1;have n2:=k.h2;obtain⟨Ai,ci,rfl⟩:=h.i.slice;obtain⟨Ar,cr,rfl⟩:=h.r.slice;obtain⟨As,cs,rfl⟩:=h.s.slice;obtain⟨Al,cl,rfl⟩:=h.l.slice;obtain⟨x0,hx0⟩:∃ x,AG.new pg ss is n 0 rs=x:=⟨_,rfl⟩
 rw[hx0]at hC hfit ⊢;obtain⟨r0,hr0⟩:∃ x,AQ.new x0 n=x:=⟨_,rfl⟩
 have hr0l:r0.l.length=0:=by rw[←hr0];rfl
 have hr0a:r0.act.length=n:=by rw[←hr0];simp[AQ.new]
 obtain⟨Q0,hQ0⟩:∃ x,r0.ops l=x:=⟨_,rfl⟩
 obtain⟨⟨Q1,b1⟩,hQ1⟩:∃ x,IY 5000 Q0=x:=⟨_,rfl⟩
 obtain⟨Q2,hQ2⟩:∃ x,BS lock (Q1.op 1 t 0) t=x:=⟨_,rfl⟩
 obtain⟨Q3,hQ3⟩:∃ x,Q2.op 2 t 0=x:=⟨_,rfl⟩
 obtain⟨Q4,hQ4⟩:∃ x,BS unlock Q3 t=x:=⟨_,rfl⟩
 have hfin:=T4 (x:=x0) (n:=n) (l:=l) (by rw[hr0,hQ0];exact hQ1) hQ2 hQ3 hQ4;rw[hr0]at hC hfit;rw[hfin];have hTk:∀ k,DI (r0.ops (l.take k)) n 300:=fun k=>by
  have hs:(r0.ops (l.take k)).act.length=n∧DJ (r0.ops (l.take k))∧(r0.ops (l.take k)).l.length≤302*(l.take k).length:=by
   have g:∀ (l:List (Int×Int×Int)) (r:AQ),DJ r→r.act.length=n→(r.ops l).act.length=n:=by
    intro l;induction l with
    |nil=>intro r _ h;exact h
    |cons o l ih=>intro r hf h;exact ih _ (hf.op _ _ _) ((Gs r o.1 o.2.1 o.2.2 hf.marks).act.trans h)
   obtain⟨a,b⟩:=DJ.ops (l.take k) r0 hfit;exact⟨g _ _ hfit hr0a,a,by omega⟩
  exact⟨hs.2.1,hs.1,by have h2:=hs.2.2;rw[List.length_take]at h2;omega⟩
 have hOk:∀ k,k≤l.length→Mp (r0.ops (l.take k)):=fun k hk=>(hTk k).fit.ok (by have:=(hTk k).l;omega)
 have hF0:DI Q0 n 300:=by have:=hTk l.length;rwa [List.take_length,hQ0]at this
 have hF1:DI Q1 n 50000:=by
  have:=DI.fin 5000 hF0;rw[hQ1]at this;exact this.more (by omega)
 have hF1b:DI (Q1.op 1 t 0) n 50001:=hF1.op _ _ _;have hF2s:∀ k,DI (BS k (Q1.op 1 t 0) t) n (50001+k):=hF1b.steps t;have hF2:DI Q2 n 50200:=by rw[←hQ2];exact(hF2s lock).more (by omega)
 have hF3:DI Q3 n 50201:=by rw[←hQ3];exact hF2.op _ _ _
 have hF3s:∀ k,DI (BS k Q3 t) n (50201+k):=hF3.steps t;have hF4:DI Q4 n 50400:=by rw[←hQ4];exact(hF3s unlock).more (by omega)
 have hO1:Mp Q1:=hF1.fit.ok (by have:=hF1.l;omega);have hO2:Mp Q2:=hF2.fit.ok (by have:=hF2.l;omega);have hO2s:∀ k,k≤100→Mp (BS k (Q1.op 1 t 0) t):=fun k hk=>(hF2s k).fit.ok (by have:=(hF2s k).l;omega)
 have hO3s:∀ k,k≤100→Mp (BS k Q3 t):=fun k hk=>(hF3s k).fit.ok (by have:=(hF3s k).l;omega)
 obtain⟨fin,hfn⟩:∃ b,(if b1=false∨Q1.bad=true then false else if Q2.act.getD t 0≠2 then false else !Q4.bad&&decide (Q4.act.getD t 0=0)&&decide (Cj n Q4.l=Q4.l.length))=b:=⟨_,rfl⟩
 rw[hfn];clear k h hx0 hr0 hfit hfin hr0l hTk hF1b;generalize pg.l.length=ml at *;generalize pg.lock=lk at *;generalize pg.unlock=ul at *;generalize ss.length=ms at *;generalize is.length=mi at *;generalize rs.length=mr at *;obtain⟨m,hm⟩:∃ x,l.length=x:=⟨_,rfl⟩
 rw[hm]at hl hOk ⊢;obtain⟨W1,hW1⟩:∃ X,W.alloc (.cells #[.slice Al ml cl,.int .i64 lk,.int .i64 ul,.slice As ms cs,.slice Ai mi ci,.int .i64 0,.slice Ar mr cr] 29)=X:=⟨_,rfl⟩
 rw[hW1]at hb0 hN hC;have c0:W1.cell? ⟨W.heap.size,0,none⟩=some (.slice Al ml cl):=(Bc hN 0).trans rfl;have c1:W1.cell? ⟨W.heap.size,1,none⟩=some (.int .i64 lk):=(Bc hN 1).trans rfl;have c2:W1.cell? ⟨W.heap.size,2,none⟩=some (.int .i64 ul):=(Bc hN 2).trans rfl;have c3:W1.cell? ⟨W.heap.size,3,none⟩=some (.slice As ms cs):=(Bc hN 3).trans rfl;have c4:W1.cell? ⟨W.heap.size,4,none⟩=some (.slice Ai mi ci):=(Bc hN 4).trans rfl;have c5:W1.cell? ⟨W.heap.size,5,none⟩=some (.int .i64 0):=(Bc hN 5).trans rfl;have c6:W1.cell? ⟨W.heap.size,6,none⟩=some (.slice Ar mr cr):=(Bc hN 6).trans rfl;have hk5:=Az c5;replace hb0:=Az hb0;replace hp:=Az hp;replace hm:=Az hm;replace hOk:=Az hOk;replace hfn:=Az hfn;replace n1:=Az n1;replace n2:=Az n2;replace hn8:=Az hn8;replace hlk:=Az hlk;replace hul:=Az hul;replace hQ0:=Az hQ0;replace hQ1:=Az hQ1;replace hQ2:=Az hQ2;replace hQ3:=Az hQ3;replace hQ4:=Az hQ4;replace hF0:=Az hF0;replace hF2:=Az hF2;replace hF4:=Az hF4;replace hF1:=Az hF1;replace hF2s:=Az hF2s;replace hF3s:=Az hF3s;replace hO1:=Az hO1;replace hO2:=Az hO2;replace hO2s:=Az hO2s;replace hO3s:=Az hO3s;replace hr0a:=Az hr0a;have t0:(0:Int)≤(t:Int):=by omega
 have t1:(t:Int)<(n:Int):=by omega
 clear hN;go_enter Tryz.func16,Tryz.ntmps16;go_wp2_with fail
 try rw[hW1]
 clear hW1;refine hC.out.mono ?_;rintro e w2 ⟨pr,px,vc,vw,vo,pl,vd,rfl,hR⟩;obtain⟨gd,cd,hvd,_⟩:=CO hR.act (by rw[hr0a.out];exact n1.out);rw[hr0a.out]at hvd;subst hvd;replace hR:=Az hR;clear hC c0 c1 c2 c3 c4 c5 c6;go_upto_block 0 with fail
 go_cut [] from 15 to 31 (fun wx=>∃ (ve:Value),Af (CZ W1 wx pr px (.slice Al ml cl) vc vw vo pl (.slice (some ⟨gd,0,none⟩) n cd) ve Q0))
 case first =>
  go_wp2_with fail
  go_loopw [24] (fun v24 wr=>∃ (k:Nat) (ve:Value),v24=.int .i64 (k:Int)∧k≤m∧Af (CZ W1 wr pr px (.slice Al ml cl) vc vw vo pl (.slice (some ⟨gd,0,none⟩) n cd) ve (r0.ops (l.take k)))) (fun v24 _=>m-(intOf v24).toNat)
  case atStart=>exact⟨0,_,rfl,Nat.zero_le _,hR⟩
  case round =>
   obtain⟨k,ve,rfl,hk,hI⟩:=hrel;clear hR;by_cases hlt:k<m
   ·have hkl:k<l.length:=by rw[hm.out];exact hlt
    obtain⟨ad,rfl,hpc⟩:=((hp.out.keep hb0.out).keep (hI.out.x.b)) (by omega);obtain⟨q0,q1,q2⟩:=hpc k hkl;have hst:=P4 (r:=r0) hkl;generalize l.getD k (0,0,0)=oo at q0 q1 q2 hst;obtain⟨kd,tt,lt⟩:=oo;dsimp only at q0 q1 q2 hst;have k0:(0:Int)≤(k:Int):=by omega
    have k1:(k:Int)<(m:Int):=by omega
    have kw:IntKind.i64.wrap ((k:Int)+1)=(k:Int)+1:=by rw[IntKind.wrap_i64];omega
    have hbn:=Bw wr (.cells #[.int .i64 kd,.int .i64 tt,.int .i64 lt] 85);have hO:=Az (DB W1 _ pr px _ vc vw vo pl _ ve _ kd tt lt (hI.out.keep hbn) (hOk.out k hk));clear hpc hbn hI;rw[←hst]at hO;go_wp2_with fail
    refine hO.out.mono ?_;rintro e w5 ⟨rfl,ve5,hR5,_⟩;replace hR5:=Az hR5;clear hO hst q0 q1 q2;go_wp2;go_roundw
    case rel=>exact⟨k+1,ve5,by go_num,hlt,hR5⟩
    case measure=>simp[intOf];omega
   ·obtain rfl:k=m:=by omega
    have e1:¬(k:Int)<(k:Int):=by omega
    have hIk:=hI.out;rw[←hm.out,List.take_length,hQ0.out]at hIk;replace hIk:=Az hIk;clear hI;go_wp2_with fail
    go_meet
    exact⟨ve,hIk⟩
 case rest =>
  obtain⟨ve,hR0⟩:=hcut;clear hR;have hFin:=Az (On W1 wc pr px n 300 _ _ _ _ _ ve pl Q0 hR0.out hF0.out n1.out hn8.out (by decide));rw[hQ1.out]at hFin;clear hR0;go_wp2_with fail
  refine hFin.out.mono ?_;rintro e w5 ⟨rfl,ve5,hR1⟩;replace hR1:=Az hR1;clear hFin;cases b1 with
  |false =>
   have hf:fin=false:=by rw[←hfn.out];rfl
   subst hf;have hB:=hb0.out.trans (hR1.out.x.b.mono hb0.out.size);replace hB:=Az hB;clear hR1;go_wp2;go_ret;exact⟨rfl,hB.out⟩
  |true =>
  have r3:w5.cell? ⟨pr,3,none⟩=some (.int .i64 (Uw Q1.bad)):=(Bc hR1.out.br 3).trans rfl;cases hbd:Q1.bad with
  |true =>
   rw[hbd]at r3;replace r3:w5.cell? ⟨pr,3,none⟩=some (.int .i64 1):=r3;have hf:fin=false:=by rw[←hfn.out,hbd];rfl
   subst hf;have hB:=hb0.out.trans (hR1.out.x.b.mono hb0.out.size);replace hB:=Az hB;clear hR1 hbd;go_wp2;go_ret;exact⟨rfl,hB.out⟩
  |false =>
  rw[hbd]at r3;replace r3:w5.cell? ⟨pr,3,none⟩=some (.int .i64 0):=r3;have hfn2:(if Q2.act.getD t 0≠2 then false else !Q4.bad&&decide (Q4.act.getD t 0=0)&&decide (Cj n Q4.l=Q4.l.length))=fin:=by rw[←hfn.out,hbd];rfl
  replace hfn2:=Az hfn2;clear hfn hbd;have k5:w5.cell? ⟨W.heap.size,5,none⟩=some (.int .i64 0):=Ck hR1.out.x.b hk5.out;go_upto_region 9 with fail
  go_region
  have hRd:=Az (hR1.out.keep (Bd (Below.refl _ _)));have hO:=Az (DB W1 w5.drew pr px _ _ _ _ pl _ ve5 Q1 1 (t:Int) 0 hRd.out hO1.out);clear hR1 r3 k5 hRd;go_wp2_with fail
  refine hO.out.mono ?_;rintro e w6 ⟨rfl,ve6,hR6,_⟩;replace hR6:=Az hR6;clear hO;go_upto_block 2 with fail
  go_cut [] from 17 to 71 (fun wx=>∃ (ve:Value),Af (CZ W1 wx pr px (.slice Al ml cl) vc vw vo pl (.slice (some ⟨gd,0,none⟩) n cd) ve Q2))
  case first =>
   go_wp2_with fail
   go_loopw [17] (fun v17 wr=>∃ (k:Nat) (ve:Value),v17=.int .i64 (k:Int)∧k≤lock∧Af (CZ W1 wr pr px (.slice Al ml cl) vc vw vo pl (.slice (some ⟨gd,0,none⟩) n cd) ve (BS k (Q1.op 1 t 0) t))) (fun v17 _=>lock-(intOf v17).toNat)
   case atStart=>exact⟨0,_,rfl,Nat.zero_le _,hR6⟩
   case round =>
    obtain⟨k,ve,rfl,hk,hI⟩:=hrel;clear hR6;by_cases hlt:k<lock
    ·have k1:(k:Int)<(lock:Int):=by omega
     have kw:IntKind.i64.wrap ((k:Int)+1)=(k:Int)+1:=by have:=hlk.out;rw[IntKind.wrap_i64];omega
     have hst:=FJ k (Q1.op 1 t 0) t;have hO:=Az (DB W1 wr pr px _ _ _ _ pl _ ve _ 3 (t:Int) 0 hI.out (hO2s.out k (by have:=hlk.out;omega)));rw[←hst]at hO;clear hst hI;go_wp2_with fail
     refine hO.out.mono ?_;rintro e w7 ⟨rfl,ve7,hR7,_⟩;replace hR7:=Az hR7;clear hO;go_wp2;go_roundw
     case rel=>exact⟨k+1,ve7,by go_num,hlt,hR7⟩
     case measure=>simp[intOf];omega
    ·obtain rfl:k=lock:=by omega
     have e1:¬(k:Int)<(k:Int):=by omega
     rw[hQ2.out]at hI;go_wp2_with fail
     go_meet
     exact⟨ve,hI⟩
  case rest =>
   obtain⟨ve2,hR2⟩:=hcut;clear hR6;obtain⟨_,_,hca⟩:=Gc hR2.out.act hF2.out.act ht;have d1:wc.cell? ⟨pr,1,none⟩=some (.slice (some ⟨gd,0,none⟩) n cd):=(Bc hR2.out.br 1).trans rfl;obtain⟨av,hav⟩:∃ x,Q2.act.getD t 0=x:=⟨_,rfl⟩
   rw[hav]at hca hfn2;clear hav;by_cases a2:av=2;case neg =>
    have x2:((av:Int) != 2)=true:=bne_iff_ne.2 (by omega);have x3:((av:Int)==2)=false:=Bq (by omega);have hf:fin=false:=by rw[←hfn2.out,if_pos a2]
    subst hf;have hB:=hb0.out.trans (hR2.out.x.b.mono hb0.out.size);replace hB:=Az hB;clear hR2 a2;go_wp2;go_ret;exact⟨rfl,hB.out⟩
   subst a2;have hfn3:(!Q4.bad&&decide (Q4.act.getD t 0=0)&&decide (Cj n Q4.l=Q4.l.length))=fin:=by rw[←hfn2.out];rfl
   replace hfn3:=Az hfn3;have hO:=Az (DB W1 wc pr px _ _ _ _ pl _ ve2 Q2 2 (t:Int) 0 hR2.out hO2.out);rw[hQ3.out]at hO;clear hfn2 hR2;go_wp2_with fail
   refine hO.out.mono ?_;rintro e w8 ⟨rfl,ve8,hR8,_⟩;replace hR8:=Az hR8;clear hO hca d1;go_upto_block 4 with fail
   go_cut [] from 18 to 124 (fun wx=>∃ (ve:Value),Af (CZ W1 wx pr px (.slice Al ml cl) vc vw vo pl (.slice (some ⟨gd,0,none⟩) n cd) ve Q4))
   case first =>
    go_wp2_with fail
    go_loopw [18] (fun v18 wr=>∃ (k:Nat) (ve:Value),v18=.int .i64 (k:Int)∧k≤unlock∧Af (CZ W1 wr pr px (.slice Al ml cl) vc vw vo pl (.slice (some ⟨gd,0,none⟩) n cd) ve (BS k Q3 t))) (fun v18 _=>unlock-(intOf v18).toNat)
    case atStart=>exact⟨0,_,rfl,Nat.zero_le _,hR8⟩
    case round =>
     obtain⟨k,ve,rfl,hk,hI⟩:=hrel;clear hR8;by_cases hlt:k<unlock
     ·have k1:(k:Int)<(unlock:Int):=by omega
      have kw:IntKind.i64.wrap ((k:Int)+1)=(k:Int)+1:=by have:=hul.out;rw[IntKind.wrap_i64];omega
      have hst:=FJ k Q3 t;have hO:=Az (DB W1 wr pr px _ _ _ _ pl _ ve _ 3 (t:Int) 0 hI.out (hO3s.out k (by have:=hul.out;omega)));rw[←hst]at hO;clear hst hI;go_wp2_with fail
      refine hO.out.mono ?_;rintro e w9 ⟨rfl,ve9,hR9,_⟩;replace hR9:=Az hR9;clear hO;go_wp2;go_roundw
      case rel=>exact⟨k+1,ve9,by go_num,hlt,hR9⟩
      case measure=>simp[intOf];omega
     ·obtain rfl:k=unlock:=by omega
      have e1:¬(k:Int)<(k:Int):=by omega
      rw[hQ4.out]at hI;go_wp2_with fail
      go_meet
      exact⟨ve,hI⟩
   case rest =>
    obtain⟨ve4,hR4⟩:=hcut;clear hR8;have hIk:=hR4.out;have hlen:=hF4.out.l;obtain⟨_,_,hca⟩:=Gc hR4.out.act hF4.out.act ht;clear hR4;have hB:=hb0.out.trans (hIk.x.b.mono hb0.out.size);have hbr:=hIk.br;obtain⟨Ae,ce,rfl,hce,hEc⟩:=Fk.c hIk.l;have hCk:=Az (GD wc.drew Ae ce Q4.l n n1.out n2.out (hEc.keep (Bd (Below.refl _ _))) (by omega) hce);replace hB:=Az (hB.trans (Bd (Below.refl _ _)));obtain⟨mq,hmq⟩:∃ x,Q4.l.length=x:=⟨_,rfl⟩
    rw[hmq]at hCk hbr;have hfq:=hfn3.out;rw[hmq]at hfq;obtain⟨av,hav⟩:∃ x,Q4.act.getD t 0=x:=⟨_,rfl⟩
    rw[hav]at hca hfq;replace hfq:=Az hfq;have r3:=(Bc hbr 3).trans rfl;have r2:=(Bc hbr 2).trans rfl;have r1:wc.cell? ⟨pr,1,none⟩=some (.slice (some ⟨gd,0,none⟩) n cd):=(Bc hbr 1).trans rfl;clear hmq hlen hfn3 hav;go_upto_region 24 with fail
    cases hbd:Q4.bad with
    |true =>
     rw[hbd]at r3;replace r3:wc.cell? ⟨pr,3,none⟩=some (.int .i64 1):=r3;have hf:fin=false:=by rw[←hfq.out,hbd];rfl
     subst hf;clear hbd hIk hEc hce hbr hCk r2 hca r1;go_region
     go_wp2;go_ret;exact⟨rfl,hB.out⟩
    |false =>
     by_cases ha:av=0;case neg =>
      rw[hbd]at r3;replace r3:wc.cell? ⟨pr,3,none⟩=some (.int .i64 0):=r3;have hf:fin=false:=by rw[←hfq.out,decide_eq_false ha];simp
      subst hf;have y:((av:Int)==0)=false:=Bq (by omega);clear hbd hIk hEc hce hbr hCk r2 ha;go_region
      go_wp2;go_ret;exact⟨rfl,hB.out⟩
     subst ha;have hf:fin=decide (Cj n Q4.l=mq):=by rw[←hfq.out,hbd];simp
     replace hf:=Az hf;have hS5:(fun W'=>W'.cell? ⟨pr,3,none⟩=some (.int .i64 0)∧W'.cell? ⟨pr,1,none⟩=some (.slice (some ⟨gd,0,none⟩) n cd)∧W'.cell? ⟨gd,t,none⟩=some (.int .i64 0)∧W'.cell? ⟨pr,2,none⟩=some (.slice Ae mq ce)) wc.drew:=⟨(Bc (Be hbr) 3).trans (by rw[hbd];rfl),(Bc (Be hbr) 1).trans rfl,hca,(Bc (Be hbr) 2).trans rfl⟩
     clear hbd hIk hEc hce hbr r2 r3 r1 hca;refine Aw [] (S:=fun W'=>W'.cell? ⟨pr,3,none⟩=some (.int .i64 0)∧W'.cell? ⟨pr,1,none⟩=some (.slice (some ⟨gd,0,none⟩) n cd)∧W'.cell? ⟨gd,t,none⟩=some (.int .i64 0)∧W'.cell? ⟨pr,2,none⟩=some (.slice Ae mq ce)) (by kernel_rfl) hS5 (fun hS0=>?_);clear hS5;try simp only[Act.put,Sa,Sb,Sc]
     refine tY 0 (fun _=>hS0) ?_;refine tY 1 (fun _=>hS0) ?_;refine tY 2 (fun _=>hS0) ?_;refine tL 3 (hS0) ?_;refine tY 4 (fun _=>hS0) ?_;refine tY 5 (fun _=>hS0) ?_;refine tY 6 (fun _=>hS0) ?_;refine tY 7 (fun _=>hS0) ?_;refine tY 8 (fun _=>hS0) ?_;refine tL 9 (hS0) ?_;refine tY 10 (fun _=>hS0) ?_;refine tY 11 (fun _=>hS0) ?_;refine tL 12 (hS0) ?_;refine tY 13 (fun _=>hS0) ?_;refine tY 14 (fun _=>hS0) ?_;refine tY 15 (fun _=>hS0) ?_;refine tY 16 (fun _=>hS0) ?_;refine tY 17 (fun _=>hS0) ?_;refine tY 18 (fun _=>hS0) ?_;refine tY 19 (fun _=>hS0) ?_;refine tL 20 (hS0) ?_;refine tY 22 (fun _=>hS0) ?_;refine tY 23 (fun _=>hS0) ?_;refine tY 24 (fun _=>hS0) ?_;refine tL 25 (hS0) ?_;refine tY 26 (fun _=>hS0) ?_;refine Ab (rs:=[21]) (by kernel_rfl) (by simp) ?_;refine Aa.cons (An rfl) (fun K hK=>?_) Aa.nil;rw[if_pos (by rfl)];go_wp2_with fail
     refine hCk.out.mono ?_;rintro e w8 ⟨rfl,hB8⟩;replace hB:=Az (hB.out.trans (hB8.mono hB.out.size));replace hS0:(fun W'=>W'.cell? ⟨pr,3,none⟩=some (.int .i64 0)∧W'.cell? ⟨pr,1,none⟩=some (.slice (some ⟨gd,0,none⟩) n cd)∧W'.cell? ⟨gd,t,none⟩=some (.int .i64 0)∧W'.cell? ⟨pr,2,none⟩=some (.slice Ae mq ce)) w8:=⟨Ck hB8 hS0.1,Ck hB8 hS0.2.1,Ck hB8 hS0.2.2.1,Ck hB8 hS0.2.2.2⟩
     refine hK.out _ _ (fun _=>hS0) (fun _=>?_);clear hK hCk hB8;try simp only[Act.put,Sa,Sb,Sc]
     by_cases hck:Cj n Q4.l=mq;case pos =>
      have hf2:fin=true:=hf.out.trans (decide_eq_true hck);subst hf2;rw[hck];refine tY 27 (fun _=>hS0) ?_;refine tY 28 (fun _=>hS0) ?_;refine tY 29 (fun _=>hS0) ?_;refine A4 (by kernel_rfl) ?_ _;go_wp2;go_ret;exact⟨rfl,hB.out⟩
     case neg =>
      have hf2:fin=false:=hf.out.trans (decide_eq_false hck);subst hf2;have y2:((Cj n Q4.l:Int)==(mq:Int))=false:=Bq (by omega);clear hck;refine tY 27 (fun _=>hS0) ?_;refine tY 28 (fun _=>hS0) ?_;refine tY 29 (fun _=>hS0) ?_;refine A4 (by kernel_rfl) ?_ _;go_wp2;go_ret;exact⟨rfl,hB.out⟩
end
end Go.Proofs.YtjjpiefgdggghaaGreatDoor
set_option linter.unusedVariables false
set_option linter.unusedSimpArgs false
set_option maxRecDepth 100000
set_option maxHeartbeats 40000000
namespace Go.Proofs.YtjjpiefgdggghaaGreatDoor
section
open Go.RowKit Go.Proofs.YtjjpiefgdggghaaGreatDoorW.PrintWords
abbrev LC(p:Nat)(a b c d e f:Value)(W':World):Prop:=W'.cell? ⟨p,0,none⟩=some a∧W'.cell? ⟨p,1,none⟩=some b∧W'.cell? ⟨p,2,none⟩=some c∧W'.cell? ⟨p,3,none⟩=some d∧W'.cell? ⟨p,4,none⟩=some e∧W'.cell? ⟨p,5,none⟩=some (.int .i64 0)∧W'.cell? ⟨p,6,none⟩=some f
theorem Iv{p:Nat}{a b c d e f:Value}{W W1:World}(hb:Below W.heap.size W W1)(h:LC p a b c d e f W):LC p a b c d e f W1:=⟨Ck hb h.1,Ck hb h.2.1,Ck hb h.2.2.1,Ck hb h.2.2.2.1,Ck hb h.2.2.2.2.1,Ck hb h.2.2.2.2.2.1,Ck hb h.2.2.2.2.2.2⟩
theorem Ot(n:Int)(Ao:Option Addr)(co mo:Nat)(lo:List (Int×Int×Int))(hmo:lo.length=mo)(who:Nat)(hwho:who<256)(w:World)(he:Env w)(hlo:K6 w Ao lo):Calls Tryz.prog 3 #[.int .i64 n,.slice Ao mo co,.int .u8 (who:Int)] w fun e w'=>e=.returned (.bool true)∧Below w.heap.size w w':=by
 have CB:=Az (J8 n w);have CA:=Az (fun(W:World) (heW:Env W)=>Ok n W heW);have AW:=Az (fun(W:World) (heW:Env W)=>Gd W heW);replace he:=Az he;replace hlo:=Az hlo;replace hmo:=Az hmo;go_enter Tryz.func3,Tryz.ntmps3;go_wp2_with fail
 refine CB.out.mono ?_;rintro e w1 (⟨k,rfl,n1,n2,A',B',C',D',m',c',m1,m2,m3,k1',k2',k3',l',u',rfl,hb⟩ |⟨hbad,rfl,hb⟩);case inr =>
  have hb2:=Az (hb.trans ((Bw w1 (.cells #[.slice none 0 0,.int .i64 0,.int .i64 0,.slice none 0 0,.slice none 0 0,.int .i64 0,.slice none 0 0] 29)).mono hb.size));clear hb CB CA hbad;go_wp2_with fail
  refine(AW.out _ (he.out.below hb2.out)).mono ?_;rintro e w3 ⟨rfl,hb3⟩;replace hb2:=Az (hb2.out.trans (hb3.mono hb2.out.size));clear hb3 AW;go_wp2;go_ret;exact⟨rfl,hb2.out⟩
 have hb2:=Az (hb.trans ((Bw w1 (.cells #[.slice A' m' c',.int .i64 l',.int .i64 u',.slice B' m1 k1',.slice C' m2 k2',.int .i64 0,.slice D' m3 k3'] 29)).mono hb.size));clear hb CB;by_cases h8:k≤8;case neg =>
  have n8:(8:Int)<(k:Int):=by omega
  clear CA n1 n2 h8;go_wp2_with fail
  refine(AW.out _ (he.out.below hb2.out)).mono ?_;rintro e w3 ⟨rfl,hb3⟩;replace hb2:=Az (hb2.out.trans (hb3.mono hb2.out.size));clear hb3 AW;go_wp2;go_ret;exact⟨rfl,hb2.out⟩
 have n8:¬(8:Int)<(k:Int):=by omega
 by_cases h150:mo≤150;case neg =>
  have l1:(150:Int)<(mo:Int):=by omega
  clear CA n1 n2 h8 h150;go_wp2_with fail
  refine(AW.out _ (he.out.below hb2.out)).mono ?_;rintro e w3 ⟨rfl,hb3⟩;replace hb2:=Az (hb2.out.trans (hb3.mono hb2.out.size));clear hb3 AW;go_wp2;go_ret;exact⟨rfl,hb2.out⟩
 have l1:¬(150:Int)<(mo:Int):=by omega
 have hsp:=LB k n1 n2;obtain⟨tq,htm⟩:∃ x,who%k=x:=⟨_,rfl⟩
 have htq:tq<k:=by rw[←htm];exact Nat.mod_lt _ (by omega)
 have hrem:(who:Int).tmod (k:Int)=(tq:Int):=by rw[←htm];rfl
 have hcw:IntKind.i64.wrap (who:Int)=(who:Int):=by rw[IntKind.wrap_i64];omega
 have hcw2:wrap64 (who:Int)=(who:Int):=by unfold wrap64;omega
 have hcw3:IntKind.i64.wrap (tq:Int)=(tq:Int):=by rw[IntKind.wrap_i64];omega
 have hcw4:wrap64 (tq:Int)=(tq:Int):=by unfold wrap64;omega
 have hkz:((k:Int)==0)=false:=Bq (by omega);have hkz3:¬k=0:=by omega
 have hsv:Ci (AG.new CE ([1,1,k,k]) (List.replicate (2*k+2) 0) k 0 (List.replicate k 0)) 0 k lo tq 2 2=true:=T7 k (by omega) (by omega) lo tq htq;replace h150:=Az h150;replace hsp:=Az hsp;replace hsv:=Az hsv;replace h8:=Az h8;replace htq:=Az htq;clear htm hwho;go_wp2_with fail
 refine(CA.out _ (he.out.below hb2.out)).mono ?_;rintro e w3 (⟨k',hk',_,_,A,B,C,D,c,k1,k2,k3,rfl,hS,hb⟩ |⟨hbad,rfl,hb⟩);case inr=>omega
 obtain rfl:k=k':=by omega
 have hlen:=hsp.out.pk.l1;obtain⟨ss,hss⟩:∃ x,([1,1,k,k]:List Nat)=x:=⟨_,rfl⟩
 obtain⟨is,his⟩:∃ x,(List.replicate (2*k+2) 0:List Nat)=x:=⟨_,rfl⟩
 obtain⟨rs,hrs⟩:∃ x,(List.replicate k 0:List Nat)=x:=⟨_,rfl⟩
 obtain⟨pg,hpg⟩:∃ x,CE=x:=⟨_,rfl⟩
 rw[hpg]at hlen;replace hsp:=hsp.out;replace hsv:=hsv.out;rw[hss,his,hrs,hpg]at hsp hsv hS;rw[hss,his,hrs,hpg];clear hss his hrs hpg CA hk';have RA:=Az (fun(W:World) (hb:Below w3.heap.size w3 W)=>BL (.slice A pg.l.length c) pg.lock pg.unlock 0 B C D ss.length is.length rs.length k1 k2 k3 pg.l W (hS.l.keep hb) (by omega));have RR:=Az (fun(W:World) (va:Value) (h:De W va (.slice B ss.length k1) (.slice C is.length k2) (.slice D rs.length k3) pg ss is rs)=>B4 W va (.slice B ss.length k1) (.slice C is.length k2) (.slice D rs.length k3) pg ss is rs 0 k h.l h.s h.i h.r hsp.h8 hsp.hle hsp.DD hsp.h1 hsp.h2 (by decide) hsp.Jo hsp.Jg hsp.pk);have SV:Af (∀ (W:World) (va:Value),Below w.heap.size w W→De W va (.slice B ss.length k1) (.slice C is.length k2) (.slice D rs.length k3) pg ss is rs→Calls Tryz.prog 16 #[.agg #[va,.int .i64 pg.lock,.int .i64 pg.unlock,.slice B ss.length k1,.slice C is.length k2,.int .i64 0,.slice D rs.length k3],.int .i64 (k:Int),.slice Ao lo.length co,.int .i64 (tq:Int),.int .i64 2,.int .i64 2] W fun e W'=>e=.returned (.bool (Ci (AG.new pg ss is k 0 rs) 0 k lo tq 2 2))∧Below W.heap.size W W') :=
  Az (fun W va hbw h=>DO W va (.slice B ss.length k1) (.slice C is.length k2) (.slice D rs.length k3) Ao co pg ss is rs k tq 2 2 lo h hsp (hlo.out.keep hbw) (by rw[hmo.out];have:=h150.out;omega) h8.out htq.out (by decide) (by decide))
 have hb4:=Bw w3 (.cells #[.slice A pg.l.length c,.int .i64 pg.lock,.int .i64 pg.unlock,.slice B ss.length k1,.slice C is.length k2,.int .i64 0,.slice D rs.length k3] 37);have bA:=Bv w3 (.cells #[.slice A pg.l.length c,.int .i64 pg.lock,.int .i64 pg.unlock,.slice B ss.length k1,.slice C is.length k2,.int .i64 0,.slice D rs.length k3] 37);have hz:=hb2.out.trans (hb.mono hb2.out.size);obtain⟨p,hp⟩:∃ p,w3.heap.size=p:=⟨_,rfl⟩
 obtain⟨w4,hw4⟩:∃ y,w3.alloc (.cells #[.slice A pg.l.length c,.int .i64 pg.lock,.int .i64 pg.unlock,.slice B ss.length k1,.slice C is.length k2,.int .i64 0,.slice D rs.length k3] 37)=y:=⟨_,rfl⟩
 rw[hw4]at hb4 bA;rw[hp]at bA;simp only[hsv,hmo.out]at SV;replace hS:=Az hS;replace hb4:=Az hb4;replace hz:=Az hz;replace bA:=Az bA;clear hb hb2 hsp hsv hlen h150 hlo hmo h8 htq;generalize ss.length=ms at *;generalize is.length=mi at *;generalize rs.length=mr at *;generalize hml:pg.l.length=ml at *;generalize pg.lock=lk at *;generalize pg.unlock=ul at *;clear hml;go_upto_region 5 with fail
 try rw[hw4]
 try rw[hp]
 clear hw4 hp;have d0:w4.cell? ⟨p,0,none⟩=some (.slice A ml c):=(Bc bA.out 0).trans rfl;have d1:w4.cell? ⟨p,1,none⟩=some (.int .i64 lk):=(Bc bA.out 1).trans rfl;have d2:w4.cell? ⟨p,2,none⟩=some (.int .i64 ul):=(Bc bA.out 2).trans rfl;have d3:w4.cell? ⟨p,3,none⟩=some (.slice B ms k1):=(Bc bA.out 3).trans rfl;have d4:w4.cell? ⟨p,4,none⟩=some (.slice C mi k2):=(Bc bA.out 4).trans rfl;have d5:w4.cell? ⟨p,5,none⟩=some (.int .i64 0):=(Bc bA.out 5).trans rfl;have d6:w4.cell? ⟨p,6,none⟩=some (.slice D mr k3):=(Bc bA.out 6).trans rfl;go_wp2_with fail
 refine(RA.out _ hb4.out).mono ?_;rintro e w5 ⟨va,rfl,hr5,hb5⟩;have hS5:=(hS.out.keep hb4.out).ref hb5 hr5;obtain⟨X,y5,z5,rfl⟩:=AB hr5;replace hb4:=Az (hb4.out.trans (hb5.mono hb4.out.size));replace bA:=Az (Bk hb5 bA.out);replace hS5:=Az hS5;clear hr5 hb5 d0 d1 d2 d3 d4 d5 d6;go_wp2_with fail
 refine(RR.out _ _ hS5.out).mono ?_;rintro e w6 ⟨rfl,hb6⟩;replace hb4:=Az (hb4.out.trans (hb6.mono hb4.out.size));replace bA:=Az (Bk hb6 bA.out);clear hb6 hS5 RR;have d0:w6.cell? ⟨p,0,none⟩=some (.slice A ml c):=(Bc bA.out 0).trans rfl;have d1:w6.cell? ⟨p,1,none⟩=some (.int .i64 lk):=(Bc bA.out 1).trans rfl;have d2:w6.cell? ⟨p,2,none⟩=some (.int .i64 ul):=(Bc bA.out 2).trans rfl;have d3:w6.cell? ⟨p,3,none⟩=some (.slice B ms k1):=(Bc bA.out 3).trans rfl;have d4:w6.cell? ⟨p,4,none⟩=some (.slice C mi k2):=(Bc bA.out 4).trans rfl;have d5:w6.cell? ⟨p,5,none⟩=some (.int .i64 0):=(Bc bA.out 5).trans rfl;have d6:w6.cell? ⟨p,6,none⟩=some (.slice D mr k3):=(Bc bA.out 6).trans rfl;go_upto_region 7 with fail
 clear d0 d1 d2 d3 d4 d5 d6;have hS5:(LC p (.slice A ml c) (.int .i64 lk) (.int .i64 ul) (.slice B ms k1) (.slice C mi k2) (.slice D mr k3)) w6.drew:=⟨(Bc (Be bA.out) 0).trans rfl,(Bc (Be bA.out) 1).trans rfl,(Bc (Be bA.out) 2).trans rfl,(Bc (Be bA.out) 3).trans rfl,(Bc (Be bA.out) 4).trans rfl,(Bc (Be bA.out) 5).trans rfl,(Bc (Be bA.out) 6).trans rfl⟩
 refine Aw [] (S:=LC p (.slice A ml c) (.int .i64 lk) (.int .i64 ul) (.slice B ms k1) (.slice C mi k2) (.slice D mr k3)) (by kernel_rfl) hS5 (fun hS0=>?_);clear hS5;replace hb4:=Az (hb4.out.trans (Bd (Below.refl _ _)));try simp only[Act.put,Sa,Sb,Sc]
 refine tL 0 (hS0) ?_;refine tY 2 (fun _=>hS0) ?_;refine tY 3 (fun _=>hS0) ?_;refine tY 4 (fun _=>hS0) ?_;refine tY 5 (fun _=>hS0) ?_;refine tY 6 (fun _=>hS0) ?_;refine AM (i:=7) (v:=?_) (An rfl) (by kernel_rfl) (fun _ _ _ h=>h) (.inl ⟨by rfl,?_⟩) (fun _=>hS0) ?_;rotate_left
 ·intro w;go_simp;(try rw[if_neg hkz3]);try with_reducible rfl
 try simp only[Act.put,Sa,Sb,Sc]
 refine Ab (rs:=[1]) (by kernel_rfl) (by simp) ?_;refine Aa.cons (An rfl) (fun K hK=>?_) Aa.nil;rw[if_pos (by rfl)];go_wp2_with fail
 refine(RA.out _ hb4.out).mono ?_;rintro e w7 ⟨vb,rfl,hr7,hb7⟩;have hS7:=(hS.out.keep hb4.out).ref hb7 hr7;obtain⟨Y,y7,z7,rfl⟩:=AB hr7;replace hb4:=Az (hb4.out.trans (hb7.mono hb4.out.size));replace hS7:=Az hS7;replace hS0:(LC p (.slice A ml c) (.int .i64 lk) (.int .i64 ul) (.slice B ms k1) (.slice C mi k2) (.slice D mr k3)) w7:=Iv hb7 hS0;refine hK.out _ _ (fun _=>hS0) (fun _=>?_);clear hr7 hb7 hK;try simp only[Act.put,Sa,Sb,Sc]
 refine Ab (rs:=[8]) (by kernel_rfl) (by simp) ?_;refine Aa.cons (An rfl) (fun K hK=>?_) Aa.nil;rw[if_pos (by rfl)];go_wp2_with fail
 refine(SV.out _ _ (hz.out.trans (hb4.out.mono hz.out.size)) hS7.out).mono ?_;rintro e w8 ⟨rfl,hb8⟩;have hz8:=hz.out.trans ((hb4.out.trans (hb8.mono hb4.out.size)).mono hz.out.size);replace hz:=Az hz8;replace hS0:(LC p (.slice A ml c) (.int .i64 lk) (.int .i64 ul) (.slice B ms k1) (.slice C mi k2) (.slice D mr k3)) w8:=Iv hb8 hS0;refine hK.out _ _ (fun _=>hS0) (fun _=>?_);clear hb8 hb4 hS7 hz8 hK;try simp only[Act.put,Sa,Sb,Sc]
 refine tY 9 (fun _=>hS0) ?_;refine Ab (rs:=[10]) (by kernel_rfl) (by simp) ?_;refine Aa.cons (An rfl) (fun K hK=>?_) Aa.nil;rw[if_pos (by rfl)];go_wp2_with fail
 refine(AW.out _ (he.out.below hz.out)).mono ?_;rintro e w9 ⟨rfl,hb9⟩;replace hz:=Az (hz.out.trans (hb9.mono hz.out.size));replace hS0:(LC p (.slice A ml c) (.int .i64 lk) (.int .i64 ul) (.slice B ms k1) (.slice C mi k2) (.slice D mr k3)) w9:=Iv hb9 hS0;refine hK.out _ _ (fun _=>hS0) (fun _=>?_);clear hb9 hK;try simp only[Act.put,Sa,Sb,Sc]
 refine tY 11 (fun _=>hS0) ?_;refine tY 12 (fun _=>hS0) ?_;refine A4 (by kernel_rfl) ?_ _;go_wp2;go_ret;exact⟨rfl,hz.out⟩
theorem MB(x0 x2:Int)(w2:(Lit.int .u8 x2).wf=true)(Ao:Option Addr)(co mo:Nat)(lo:List (Int×Int×Int))(hmo:lo.length=mo)(w:World)(he:Env w)(hlo:K6 w Ao lo):Calls Tryz.prog 3 #[.int .i64 x0,.slice Ao mo co,.int .u8 x2] w fun e w'=>e=.returned (.bool true)∧Below w.heap.size w w':=by
 have b2:=wf_u8 w2;obtain⟨who,rfl⟩:∃ c:Nat,x2=(c:Int):=⟨x2.toNat,by omega⟩
 exact Ot x0 Ao co mo lo hmo who (by omega) w he hlo
end
end Go.Proofs.YtjjpiefgdggghaaGreatDoor
set_option linter.unusedVariables false
set_option linter.unusedSimpArgs false
set_option maxRecDepth 100000
set_option maxHeartbeats 40000000
namespace Go.Proofs.YtjjpiefgdggghaaGreatDoor.k42Rests
section
open Go Go.ChangeShapes Go.WideShapes Go.ChangeAt Go.RowKit
theorem contract(H:Type)(enc:TypeId×Value→H)(W:World)(base:Nat)(args:Array Value)(ds gs:List (DataW H))(before:List MemPlace)
  (hval:∀ (j:Nat) t v,Tryz.f3.params[j]?=some t→args[j]?=some v→Value.okWide Tryz.prog W .any base t v)
  (hW:DataW.Whole enc Tryz.prog Tryz.f3.params.toList Rows.k42RestsSpec.vars false W args.toList ds gs before)(hL:laidMetH Tryz.prog Rows.k42RestsRow.laid W)(hsh:W.ShapedOpen Tryz.prog) :
  Calls Tryz.prog 3 args W fun e W'=>∃ v,e=.returned v∧Rows.k42RestsSpec.post enc Tryz.prog Tryz.f3 false true false false W args v W':=by
 have hW':=hW;obtain⟨p,q,hA0,hV,rfl,hfz,hnd⟩:=hW;have hA:DataW.TrodAll enc Tryz.prog W 0 (fun _=>true) true Tryz.f3.params.toList args.toList ds p:=hA0;rw[Tryz.params3]at hA hval;obtain⟨v0,vs0,d0,ds0,p0,q0,hargs0,rfl,rfl,h0,r0⟩:=trodAll_cons hA;obtain⟨v1,vs1,d1,ds1,p1,q1,hargs1,rfl,rfl,h1,r1⟩:=trodAll_cons r0;obtain⟨v2,vs2,d2,ds2,p2,q2,hargs2,rfl,rfl,h2,r2⟩:=trodAll_cons r1;obtain⟨rfl,rfl,rfl⟩:=trodAll_nil r2;obtain rfl:args=#[v0,v1,v2]:=by cases args;simp_all
 obtain⟨rfl,rfl⟩:=trodVars_none hV;obtain⟨x0,rfl,rfl,rfl,wx0⟩:=open_int Tryz.underlying3 (hval 0 3 v0 rfl rfl) h0;obtain⟨Ao,mo,co,lo,rfl,hmo,hlo⟩:=En (hval 1 22 v1 rfl rfl) h1;obtain⟨x2,rfl,rfl,rfl,wx2⟩:=open_int Tryz.underlying5 (hval 2 5 v2 rfl rfl) h2;clear hA0;simp only[List.append_nil]at hW';refine(MB x0 x2 wx2 Ao co mo lo hmo W (DU hL hsh) hlo).mono fun e W' ⟨he,hb⟩=>?_
 subst he;exact⟨_,rfl,CJ hW' hb (fun _ _ _=>trodAll_cons_mk (shut_bool Tryz.underlying4 _) trodAll_mk0) (trodAll_cons_mk (shut_int Tryz.underlying3 wx0) (trodAll_cons_mk (DH h1 hb (fun x hx=>hW'.lt x (by simpa using hx))) (trodAll_cons_mk (shut_int Tryz.underlying5 wx2) trodAll_mk0))) (fun _=>rfl)⟩
def wArgs:Array Value:=#[.int .i64 0,.slice none 0 0,.int .u8 0]
theorem reads(os:Os){H:Type}(enc:TypeId×Value→H):∃ places,DataW.whole enc Tryz.prog ((Bi os).forCall (fun _ _=>0) ⟨#[],wArgs,[]⟩).memory Tryz.f3.params.toList Rows.k42RestsSpec.vars false wArgs.toList 8 =
  some ([.lit (.int .i64 0),.nil,.lit (.int .u8 0)],[],places) :=
 ⟨[],by kernel_rfl⟩
theorem lifted(os:Os)(started:os.Started)(H:Type)(enc:TypeId×Value→H)(F:Stop.Interp) :
  ReturnsInHanded {} Tryz.checked os 3 .any ((OpenSpec.ofChange Rows.k42RestsSpec).preRow enc Tryz.prog Tryz.f3 Rows.k42RestsRow.domain false Rows.k42RestsRow.laid) (((OpenSpec.ofChange Rows.k42RestsSpec).at F).post enc Tryz.prog Tryz.f3 false true false false):=by
 obtain⟨places,hx⟩:=reads os enc;refine returnsInHanded_of_row (C:=Tryz.checked) (s:=OpenSpec.ofChange Rows.k42RestsSpec) own started (by kernel_rfl) Tryz.func3
  (witness_row_atRef (enc:=enc) (C:=Tryz.checked) false (Bi os) wArgs rfl (by kernel_rfl) (by kernel_rfl) (by kernel_rfl)
   (OpenSpec.preRow_of_cond 8 hx (by kernel_rfl) (fun k hk=>by cases hk) (by kernel_rfl) (CM os _))) ?_
 intro W base args ds gs before hval hW _ _ _ hL hsh _;exact contract H enc W base args ds gs before hval hW hL hsh
theorem said:Rows.K42RestsSaid :=
 OpenClaim.holds_of_cond 3 Tryz.f3 rfl rfl rfl rfl rfl rfl rfl ⟨rfl,rfl,rfl,rfl,rfl⟩ rfl rfl rfl rfl rfl (by kernel_rfl) Tryz.func3 closed
  (of_decide_eq_true (by kernel_rfl)) (by unfold Func.isWrapper;first |(rw[if_pos (by decide +kernel)];kernel_rfl) |(rw[if_neg (by decide +kernel)];exact⟨rfl,rfl⟩))
  (fun os started H enc _ F=>by rw[OpenClaim.pre_eq_preRow];exact lifted os started H enc F)
theorem plain(f:FuncId)(fn:Func)(hf:Tryz.pinned.checked.prog.funcNamed "ropeline/ropelinelaw19.K42Rests" = some f)(hfn:Tryz.pinned.checked.prog.funcs[f]?=some fn) :
  true=Tryz.pinned.checked.prog.looks []∧∀ (j:Nat) t,fn.params[j]?=some t→Tryz.pinned.checked.prog.wantsStandIn t=false:=by
 obtain rfl:f=3:=Option.some.inj ((show Tryz.prog.funcNamed "ropeline/ropelinelaw19.K42Rests" = some 3 by kernel_rfl).symm.trans hf) |>.symm
 obtain rfl:fn=Tryz.f3:=(Option.some.inj (Tryz.func3.symm.trans hfn)).symm;refine⟨by kernel_rfl,fun j t ht=>?_⟩;rw[Tryz.params3]at ht;have hm:=Array.mem_of_getElem? ht;have:t=3∨t=22∨t=5:=by simpa using hm
 rcases this with rfl |rfl |rfl
 ·exact(show Tryz.prog.wantsStandIn 3=false by kernel_rfl)
 ·exact(show Tryz.prog.wantsStandIn 22=false by kernel_rfl)
 ·exact(show Tryz.prog.wantsStandIn 5=false by kernel_rfl)
theorem card:Rows.K42RestsCardSaid :=
 Claim7.holds_tied_plain_at .later [] _ _ _ _ said (fun _ h=>by cases h) (by kernel_rfl) (fun _ h=>by cases h) k42Rests_row_tie rfl ⟨rfl,rfl⟩ (by kernel_rfl) rfl plain (by kernel_rfl)
end
end Go.Proofs.YtjjpiefgdggghaaGreatDoor.k42Rests
