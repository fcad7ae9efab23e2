/- ref14's Served, of a right spec without nodes. -/
import Derived.Test.YtjjpiefgdggghaaGreatDoorA03
import Derived.Test.YtjjpiefgdggghaaGreatDoorA13
import Derived.Test.YtjjpiefgdggghaaGreatDoorA42
set_option linter.unusedVariables false
set_option linter.unusedSimpArgs false
set_option maxRecDepth 100000
set_option maxHeartbeats 40000000
namespace Go.Proofs.YtjjpiefgdggghaaGreatDoor
section
open Go.RowKit Go.Proofs.YtjjpiefgdggghaaGreatDoorW.PrintWords
theorem JJ(W:World)(vl vs vi vr:Value)(pg:Pg)(ss is rs:List Nat)(n calls:Nat)(h:FF W vl vs vi vr pg ss is rs)(k:Mm pg ss is rs n)(hn8:n≤8)(hc12:calls≤12) :
  Calls Tryz.prog 24 #[.agg #[vl,.int .i64 pg.lock,.int .i64 pg.unlock,vs,vi,.int .i64 0,vr],.int .i64 (n:Int),.int .i64 (calls:Int)] W fun e W'=>e=.returned (.bool (Fo (AF.new pg ss is n 0 rs) n calls))∧Below W.heap.size W W':=by
 have hb0:=Bw W (.cells #[vl,.int .i64 pg.lock,.int .i64 pg.unlock,vs,vi,.int .i64 0,vr] 29);have hN:=Bv W (.cells #[vl,.int .i64 pg.lock,.int .i64 pg.unlock,vs,vi,.int .i64 0,vr] 29);have hC:=Az ((h.keep hb0).Wf k);have hfit:=k.fit;have n1:=k.h1;have n2:=k.h2;obtain⟨cz,hz0,hz1,hmk⟩:=QY n (by omega);have hz2:n≤1000000:=by omega
 obtain⟨Ai,ci,rfl⟩:=h.i.slice;obtain⟨Ar,cr,rfl⟩:=h.r.slice;obtain⟨As,cs,rfl⟩:=h.s.slice;obtain⟨Al,cl,rfl⟩:=h.l.slice;obtain⟨x0,hx0⟩:∃ x,AF.new pg ss is n 0 rs=x:=⟨_,rfl⟩
 rw[hx0]at hC hfit ⊢;obtain⟨r0,hr0⟩:∃ x,AH.new x0 n=x:=⟨_,rfl⟩
 have hr0l:r0.l.length=0:=by rw[←hr0];rfl
 have hr0a:r0.act.length=n:=by rw[←hr0];simp[AH.new]
 obtain⟨K,hK⟩:∃ K,100*(n+1)*(calls+1)=K:=⟨_,rfl⟩
 obtain⟨fv,hfv⟩:∃ v,DU.rounds n K ⟨r0,List.replicate n calls,0,true⟩=v:=⟨_,rfl⟩
 have hfin:Fo x0 n calls=(!fv.r.bad&&decide (fv.Fb=n*calls)&&decide (Cn n fv.r.l=fv.r.l.length)):=by rw[←hfv,←hK,←hr0];rfl
 rw[hr0]at hC hfit;rw[hfin];have hKle:K≤11700:=by
  rw[←hK];have h1:100*(n+1)*(calls+1)≤100*(n+1)*13:=Nat.mul_le_mul_left _ (by omega);omega
 have hKi:(100:Int)*((n:Int)+1)*((calls:Int)+1)=(K:Int):=by rw[←hK];push_cast;rfl
 have hnc:n*calls≤96:=Nat.mul_le_mul hn8 hc12;obtain⟨nc,hncv⟩:∃ x,n*calls=x:=⟨_,rfl⟩
 have hnci:(n:Int)*(calls:Int)=(nc:Int):=by rw[←hncv];push_cast;rfl
 rw[hncv]at hnc ⊢;have w31:IntKind.i64.wrap ((n:Int)+1)=(n:Int)+1:=by rw[IntKind.wrap_i64];omega
 have w32:IntKind.i64.wrap (100*((n:Int)+1))=100*((n:Int)+1):=by rw[IntKind.wrap_i64];omega
 have w34:IntKind.i64.wrap ((calls:Int)+1)=(calls:Int)+1:=by rw[IntKind.wrap_i64];omega
 have w35:IntKind.i64.wrap (100*((n:Int)+1)*((calls:Int)+1))=(K:Int):=by rw[hKi,IntKind.wrap_i64];omega
 have w123:IntKind.i64.wrap ((n:Int)*(calls:Int))=(nc:Int):=by rw[hnci,IntKind.wrap_i64];omega
 have hOk0:GB ⟨r0,List.replicate n calls,0,true⟩ n 0:=⟨hfit,hr0a,by simp,by dsimp only;omega,Nl _,fun t=>by have:=U7 n calls t;dsimp only;omega⟩
 have hfvOk:∀ (m:Nat) (kk:Nat) (v:DU),kk+m=K→GB v n (kk*8)→GB (v.rounds n m) n (K*8):=by
  intro m;induction m with
  |zero =>
   intro kk v he hv;have:kk=K:=by omega
   subst this;exact hv
  |succ m ih =>
   intro kk v he hv;have hr:GB (v.round n) n ((kk+1)*8):=by
    have hj:∀ j,GB ((List.range j).foldl DU.DV {v with busy:=false}) n (kk*8+j):=by
     intro j;induction j with
     |zero=>exact⟨hv.fit,hv.act,hv.left,hv.l,hv.Fb,hv.lb⟩
     |succ j ihj=>rw[DU.fold_succ];exact ihj.DV j
    have:=hj n;exact⟨this.fit,this.act,this.left,Nat.le_trans this.l (by omega),Nat.le_trans this.Fb (by omega),this.lb⟩
   rw[DU.rounds_succ];by_cases hc:(v.round n).busy=false∨(v.round n).r.bad=true
   ·rw[if_pos hc];exact⟨hr.fit,hr.act,hr.left,Nat.le_trans hr.l (by omega),Nat.le_trans hr.Fb (by omega),hr.lb⟩
   ·rw[if_neg hc];exact ih (kk+1) _ (by omega) hr
 have hfvo:=hfvOk K 0 _ (by omega) hOk0;rw[hfv]at hfvo;obtain⟨fin,hfn⟩:∃ b,(!fv.r.bad&&decide (fv.Fb=nc)&&decide (Cn n fv.r.l=fv.r.l.length))=b:=⟨_,rfl⟩
 rw[hfn];clear k h hx0 hr0 hfit hfin hr0l hK hKi hnci hncv hfvOk;generalize pg.l.length=ml at *;generalize pg.lock=lk at *;generalize pg.unlock=ul at *;generalize ss.length=ms at *;generalize is.length=mi at *;generalize rs.length=mr at *;obtain⟨W1,hW1⟩:∃ X,W.alloc (.cells #[.slice Al ml cl,.int .i64 lk,.int .i64 ul,.slice As ms cs,.slice Ai mi ci,.int .i64 0,.slice Ar mr cr] 29)=X:=⟨_,rfl⟩
 rw[hW1]at hb0 hN hC;have c0:W1.cell? ⟨W.heap.size,0,none⟩=some (.slice Al ml cl):=(Bc hN 0).trans rfl;have c1:W1.cell? ⟨W.heap.size,1,none⟩=some (.int .i64 lk):=(Bc hN 1).trans rfl;have c2:W1.cell? ⟨W.heap.size,2,none⟩=some (.int .i64 ul):=(Bc hN 2).trans rfl;have c3:W1.cell? ⟨W.heap.size,3,none⟩=some (.slice As ms cs):=(Bc hN 3).trans rfl;have c4:W1.cell? ⟨W.heap.size,4,none⟩=some (.slice Ai mi ci):=(Bc hN 4).trans rfl;have c5:W1.cell? ⟨W.heap.size,5,none⟩=some (.int .i64 0):=(Bc hN 5).trans rfl;have c6:W1.cell? ⟨W.heap.size,6,none⟩=some (.slice Ar mr cr):=(Bc hN 6).trans rfl;replace hb0:=Az hb0;replace hfn:=Az hfn;replace hfv:=Az hfv;replace hfvo:=Az hfvo;replace hOk0:=Az hOk0;replace hz0:=Az hz0;replace hz1:=Az hz1;replace hz2:=Az hz2;replace hr0a:=Az hr0a;replace n1:=Az n1;replace n2:=Az n2;replace hn8:=Az hn8;replace hc12:=Az hc12;replace hKle:=Az hKle;replace hnc:=Az hnc;clear hN;go_enter Tryz.func24,Tryz.ntmps24;go_wp2_with fail
 try rw[hW1]
 clear hW1;refine hC.out.mono ?_;rintro e w2 ⟨pr,px,vc,vw,vo,pl,vd,rfl,hR⟩;obtain⟨gd,cd,hvd,_⟩:=Cw hR.act (by rw[hr0a.out];exact n1.out);rw[hr0a.out]at hvd;subst hvd;have hgd:=(ET hR.act hr0a.out (k:=0) n1.out).2.1;have hgdl:gd<w2.heap.size:=hgd.elim fun _ h=>Bl h
 have hbz:=Bw w2 (.cells cz 3);have hL0:=Im (N:=W1.heap.size) (Bv w2 (.cells cz 3)) hR.x.hz hz2.out hz0.out hz1.out;replace hR:=Az (hR.keep hbz);replace hL0:=Az hL0;obtain⟨gl,hgl⟩:∃ x,w2.heap.size=x:=⟨_,rfl⟩
 rw[hgl]at hL0 hgdl;have hne:¬Jn (.slice (some ⟨gd,0,none⟩) n cd) gl:=fun e=>by
  have h2:gd=gl:=by injection e
  omega
 have hnk:∀ k,(Value.slice (some ⟨gl,0,none⟩) n n).ownBlock=some k→¬Jn (.slice (some ⟨gd,0,none⟩) n cd) k:=fun k hk e=>by
  have h2:gl=k:=by injection hk
  exact hne (by rw[h2];exact e)
 replace hne:=Az hne;replace hnk:=Az hnk;obtain⟨w3,hw3⟩:∃ X,w2.alloc (.cells cz 3)=X:=⟨_,rfl⟩
 rw[hw3]at hR hL0;clear hC c0 c1 c2 c3 c4 c5 c6 hbz hgd hgdl hz0 hz1 hz2;go_upto_block 0 with fail
 try rw[hw3]
 try rw[hgl]
 clear hw3 hgl hmk;go_cut [] from 22 to 28 (fun wx=>Ag (C5 W1 wx pr px (.slice Al ml cl) vc vw vo pl (.slice (some ⟨gd,0,none⟩) n cd) (.slice none 0 0) r0)∧Ag (BL wx W1.heap.size (.slice (some ⟨gl,0,none⟩) n n) (List.replicate n calls)))
 case first =>
  go_wp2_with fail
  go_loopw [21] (fun v21 wr=>∃ (k:Nat) (L:List Nat),v21=.int .i64 (k:Int)∧k≤n∧Ag (L.length=n)∧Ag (∀ j,j<n→L.getD j 0=if j<k then calls else 0)∧Ag (C5 W1 wr pr px (.slice Al ml cl) vc vw vo pl (.slice (some ⟨gd,0,none⟩) n cd) (.slice none 0 0) r0)∧Ag (BL wr W1.heap.size (.slice (some ⟨gl,0,none⟩) n n) L)) (fun v21 _=>n-(intOf v21).toNat)
  case atStart=>exact⟨0,List.replicate n 0,rfl,Nat.zero_le _,⟨by simp⟩,⟨fun j hj=>by simp[hj]⟩,hR,hL0⟩
  case round =>
   obtain⟨k,L,rfl,hk,hLn,hLv,hRr,hLr⟩:=hrel;clear hR hL0;by_cases hlt:k<n
   ·obtain⟨hgN,⟨csl,hcsl⟩,hcl⟩:=ET hLr.out hLn.out hlt;have k0:(0:Int)≤(k:Int):=by omega
    have k1:(k:Int)<(n:Int):=by omega
    have kw:IntKind.i64.wrap ((k:Int)+1)=(k:Int)+1:=by have:=n2.out;rw[IntKind.wrap_i64];omega
    have fz:=Bf hcsl k;have R2:=Az (hRr.out.far (j:=k) hcsl hgN hne.out (.int .i64 (calls:Int)));have L2:=Az (OH (v:=calls) hLr.out hLn.out hlt);have hLn2:Ag ((L.set k calls).length=n):=⟨by rw[List.length_set];exact hLn.out⟩
    have hLv2:Ag (∀ j,j<n→(L.set k calls).getD j 0=if j<k+1 then calls else 0):=⟨fun j hj=>by
     have:=hLv.out j hj;rw[List.getD_eq_getElem?_getD]at this ⊢;rw[List.getElem?_set];by_cases e:k=j
     ·subst e;rw[if_pos rfl,if_pos (by rw[hLn.out];exact hj),if_pos (by omega)];rfl
     ·rw[if_neg e,this];by_cases e2:j<k
      ·rw[if_pos e2,if_pos (by omega)]
      ·rw[if_neg e2,if_neg (by omega)]⟩
    clear hcsl hLr hRr hLv hLn;go_wp2;go_roundw
    case rel=>exact⟨k+1,_,by go_num,hlt,hLn2,hLv2,R2,L2⟩
    case measure=>simp[intOf];omega
   ·obtain rfl:k=n:=by omega
    have e1:¬(k:Int)<(k:Int):=by omega
    have eL:L=List.replicate k calls:=by
     apply List.ext_getElem
     ·rw[hLn.out,List.length_replicate]
     ·intro j h1 h2;have hj:j<k:=by rw[hLn.out]at h1;exact h1
      have:=hLv.out j hj;rw[List.getD_eq_getElem?_getD,List.getElem?_eq_getElem h1,if_pos hj]at this
      simpa using this
    subst eL;go_wp2_with fail
    go_meet
    exact⟨hRr,hLr⟩
 case rest =>
  obtain⟨hR,hL⟩:=hcut;clear hL0;go_upto_block 2 with fail
  go_cut [9] from 10 to 113 (fun v9 wx=>∃ (ve:Value),v9=.int .i64 (fv.Fb:Int)∧Ag (C5 W1 wx pr px (.slice Al ml cl) vc vw vo pl (.slice (some ⟨gd,0,none⟩) n cd) ve fv.r))
  case first =>
   go_wp2_with fail
   go_loopw [9,11] (fun v9 v11 wr=>∃ (k m:Nat) (v:DU) (ve:Value),v11=.int .i64 (k:Int)∧v9=.int .i64 (v.Fb:Int)∧k+m=K∧Ag (GB v n (k*8))∧Ag (v.rounds n m=fv)∧Ag (C5 W1 wr pr px (.slice Al ml cl) vc vw vo pl (.slice (some ⟨gd,0,none⟩) n cd) ve v.r)∧Ag (BL wr W1.heap.size (.slice (some ⟨gl,0,none⟩) n n) v.left)) (fun _ v11 _=>K-(intOf v11).toNat)
   case atStart=>exact⟨0,K,⟨r0,List.replicate n calls,0,true⟩,_,rfl,rfl,by omega,hOk0,hfv,hR,hL⟩
   case round =>
    obtain⟨k,m,v,ve,rfl,rfl,hkm,hOk,hF,hRv,hLv⟩:=hrel;clear hR hL;cases m with
    |zero =>
     obtain rfl:k=K:=by omega
     have e1:¬(k:Int)<(k:Int):=by omega
     have hF0:v=fv:=hF.out;subst hF0;go_wp2_with fail
     go_meet
     exact⟨ve,rfl,hRv⟩
    |succ m =>
     have hlt:k<K:=by omega
     have k1:(k:Int)<(K:Int):=by omega
     have kw:IntKind.i64.wrap ((k:Int)+1)=(k:Int)+1:=by have:=hKle.out;rw[IntKind.wrap_i64];omega
     go_wp2_with fail
     go_loopw [9,12,13] (fun v9 v12 v13 wr=>∃ (j:Nat) (q:DU) (ve:Value),v13=.int .i64 (j:Int)∧v12=.bool q.busy∧v9=.int .i64 (q.Fb:Int)∧j≤n∧Ag (q=(List.range j).foldl DU.DV {v with busy:=false})∧Ag (GB q n (k*8+j))∧Ag (C5 W1 wr pr px (.slice Al ml cl) vc vw vo pl (.slice (some ⟨gd,0,none⟩) n cd) ve q.r)∧Ag (BL wr W1.heap.size (.slice (some ⟨gl,0,none⟩) n n) q.left)) (fun _ _ v13 _=>n-(intOf v13).toNat)
     case atStart=>exact⟨0,{v with busy:=false},ve,rfl,rfl,rfl,Nat.zero_le _,⟨rfl⟩,⟨⟨hOk.out.fit,hOk.out.act,hOk.out.left,hOk.out.l,hOk.out.Fb,hOk.out.lb⟩⟩,hRv,hLv⟩
     case round =>
      obtain⟨j,q,ve,rfl,rfl,rfl,hj,hq,hQ,hRq,hLq⟩:=hrel;clear hRv hLv;by_cases hjn:j<n
      ·have j0:(0:Int)≤(j:Int):=by omega
       have j1:(j:Int)<(n:Int):=by omega
       have jw:IntKind.i64.wrap ((j:Int)+1)=(j:Int)+1:=by have:=n2.out;rw[IntKind.wrap_i64];omega
       have hact:=hQ.out.act;have hlef:=hQ.out.left;obtain⟨hgdN,⟨csa,hcsa⟩,hca⟩:=ET hRq.out.act hact hjn;obtain⟨hglN,⟨csl,hcsl⟩,hcl⟩:=ET hLq.out hlef hjn;have c1:wr.cell? ⟨pr,1,none⟩=some (.slice (some ⟨gd,0,none⟩) n cd):=(Bc hRq.out.br 1).trans rfl;have fl:=Bf hcsl j;have hll:=Bl hcsl;obtain⟨av,hav⟩:∃ x,q.r.act.getD j 0=x:=⟨_,rfl⟩
       obtain⟨lv,hlv⟩:∃ x,q.left.getD j 0=x:=⟨_,rfl⟩
       have hmid:q.Qh j=if av=0∧lv > 0 then {q with left:=q.left.set j (lv-1),r:=q.r.op 1 j 0} else if av=2 then {q with Fb:=q.Fb+1,r:=q.r.op 2 j 0} else {q with r:=q.r.op 3 j 0}:=by
        rw[←hav,←hlv];rfl
       have hokq:Kp q.r:=hQ.out.fit.ok (by have h1:=hQ.out.l;have h2:=hKle.out;have h3:=n2.out;omega);rw[hav]at hca;rw[hlv]at hcl;have hlvb:lv≤1000:=by rw[←hlv];exact hQ.out.lb j
       replace hlvb:=Az hlvb;replace hokq:=Az hokq;replace hmid:=Az hmid;replace hcsl:=Az hcsl;clear hcsa hact hav hlv;obtain⟨bb,hbb⟩:∃ b,(decide (av=0)&&decide (0<lv))=b:=⟨_,rfl⟩
       replace hbb:=Az hbb;replace hlef:=Az hlef;go_upto_region 16 with fail
       go_cut [58] from 44 to 58 (fun v58 wx=>v58=.bool bb∧wx=wr)
       case first =>
        by_cases a0:av=0
        ·subst a0;by_cases l0:0<lv
         ·have l1:(0:Int)<(lv:Int):=by omega
          have hb:bb=true:=by rw[←hbb.out];simp[l0]
          subst hb;go_wp2_with fail
          go_meet
          exact⟨rfl,rfl⟩
         ·have l1:¬(0:Int)<(lv:Int):=by omega
          have hb:bb=false:=by rw[←hbb.out];simp[l0]
          subst hb;go_wp2_with fail
          go_meet
          exact⟨rfl,rfl⟩
        ·have x0:((av:Int)==0)=false:=Bq (by omega);have hb:bb=false:=by rw[←hbb.out];simp[a0]
         subst hb;clear a0;go_wp2_with fail
         go_meet
         exact⟨rfl,rfl⟩
       case rest =>
        obtain⟨rfl,hwc⟩:=hcut;replace hwc:=hwc.symm;subst hwc;go_upto_if 58 with fail
        go_cut [9] from 59 to 86 (fun v9 wx=>∃ (p:DU) (ve1:Value),v9=.int .i64 (p.Fb:Int)∧Ag (p=q.Qh j)∧Ag (C5 W1 wx pr px (.slice Al ml cl) vc vw vo pl (.slice (some ⟨gd,0,none⟩) n cd) ve1 p.r)∧Ag (BL wx W1.heap.size (.slice (some ⟨gl,0,none⟩) n n) p.left))
        case first =>
         cases bb with
         |true =>
          have hbb':=hbb.out;simp only[Bool.and_eq_true,decide_eq_true_eq]at hbb';obtain⟨a0,l0⟩:=hbb';obtain⟨l',rfl⟩:∃ l',lv=l'+1:=⟨lv-1,by omega⟩
          have hm:=hmid.out.trans (if_pos ⟨a0,by omega⟩);rw[show l'+1-1=l' from rfl]at hm;have hlb:=hlvb.out;have lw:IntKind.i64.wrap (((l'+1:Nat):Int)-1)=(l':Int):=by rw[IntKind.wrap_i64];omega
          have lw2:IntKind.i64.wrap ((l':Int)+1-1)=(l':Int):=by rw[IntKind.wrap_i64];omega
          have lw3:wrap64 (l':Int)=(l':Int):=by unfold wrap64;omega
          clear hlb;have R2:=hRq.out.far (j:=j) hcsl.out hglN hne.out (.int .i64 (l':Int));have L2:=OH (v:=l') hLq.out hlef.out hjn;obtain⟨WS,hWS⟩:∃ X,wr.setCell ⟨gl,j,none⟩ (.int .i64 (l':Int))=X:=⟨_,rfl⟩
          rw[hWS]at R2 L2;have hO:=Az (Df W1 WS pr px _ vc vw vo pl _ ve q.r 1 (j:Int) 0 R2 hokq.out);replace hm:=Az hm;replace L2:=Az L2;clear a0 l0 R2;go_wp2_with fail
          try rw[hWS]
          refine hO.out.mono ?_;rintro e w5 ⟨rfl,ve5,hR5,hF5⟩;have L5:BL w5 W1.heap.size (.slice (some ⟨gl,0,none⟩) n n) (q.left.set j l'):=hF5.own L2.out (by decide) hnk.out;replace hR5:=Az hR5;replace L5:=Az L5;clear hO hWS L2 hF5;go_wp2_with fail
          go_meet
          exact⟨{q with left:=q.left.set j l',r:=q.r.op 1 (j:Int) 0},ve5,rfl,⟨hm.out.symm⟩,hR5,L5⟩
         |false =>
          have hnb:¬(av=0∧lv > 0):=fun h=>by
           have:=hbb.out;rw[decide_eq_true h.1,decide_eq_true (show 0<lv from h.2)]at this;cases this
          have hm:=hmid.out.trans (if_neg hnb);clear hnb;by_cases a2:av=2
          ·rw[if_pos a2]at hm;subst a2;have gw:IntKind.i64.wrap ((q.Fb:Int)+1)=((q.Fb+1:Nat):Int):=by have h1:=hQ.out.Fb;have h2:=hKle.out;have h3:=n2.out;rw[IntKind.wrap_i64];push_cast;omega
           have hO:=Az (Df W1 wr pr px _ vc vw vo pl _ ve q.r 2 (j:Int) 0 hRq.out hokq.out);replace hm:=Az hm;go_wp2_with fail
           refine hO.out.mono ?_;rintro e w5 ⟨rfl,ve5,hR5,hF5⟩;have L5:BL w5 W1.heap.size (.slice (some ⟨gl,0,none⟩) n n) q.left:=hF5.own hLq.out (by decide) hnk.out;replace hR5:=Az hR5;replace L5:=Az L5;clear hO hF5;go_wp2_with fail
           go_meet
           exact⟨_,ve5,by first |rfl |simp,⟨hm.out.symm⟩,hR5,L5⟩
          ·rw[if_neg a2]at hm;have x2:((av:Int)==2)=false:=Bq (by omega);have hO:=Az (Df W1 wr pr px _ vc vw vo pl _ ve q.r 3 (j:Int) 0 hRq.out hokq.out);replace hm:=Az hm;clear a2;go_wp2_with fail
           refine hO.out.mono ?_;rintro e w5 ⟨rfl,ve5,hR5,hF5⟩;have L5:BL w5 W1.heap.size (.slice (some ⟨gl,0,none⟩) n n) q.left:=hF5.own hLq.out (by decide) hnk.out;replace hR5:=Az hR5;replace L5:=Az L5;clear hO hF5;go_wp2_with fail
           go_meet
           exact⟨{q with r:=q.r.op 3 (j:Int) 0},ve5,rfl,⟨hm.out.symm⟩,hR5,L5⟩
        case rest =>
         obtain⟨p,ve1,rfl,hp,hRp,hLp⟩:=hcut;have hOp:GB p n (k*8+j+1):=by rw[hp.out];exact hQ.out.Qh j
         have hT:q.DV j={p with busy:=p.busy||decide (p.r.act.getD j 0≠0)||decide (p.left.getD j 0 > 0)}:=by rw[hp.out];rfl
         have hpb:p.busy=q.busy:=by
          rw[hp.out];unfold DU.Qh;split
          ·rfl
          ·split<;>rfl
         rw[hpb]at hT;obtain⟨_,_,hca2⟩:=ET hRp.out.act hOp.act hjn;obtain⟨_,_,hcl2⟩:=ET hLp.out hOp.left hjn;have d1:wc.cell? ⟨pr,1,none⟩=some (.slice (some ⟨gd,0,none⟩) n cd):=(Bc hRp.out.br 1).trans rfl;obtain⟨a2,ha2⟩:∃ x,p.r.act.getD j 0=x:=⟨_,rfl⟩
         obtain⟨l2,hl2⟩:∃ x,p.left.getD j 0=x:=⟨_,rfl⟩
         obtain⟨qb,hqb⟩:∃ x,q.busy=x:=⟨_,rfl⟩
         rw[ha2]at hca2 hT;rw[hl2]at hcl2 hT;rw[hqb]at hT;rw[hqb];have hfold:∀ b,(qb||decide (a2≠0)||decide (l2 > 0))=b→Ag (({p with busy:=b}:DU)=(List.range (j+1)).foldl DU.DV {v with busy:=false}):=fun b hb=>⟨by rw[DU.fold_succ,←hq.out,hT,hb]⟩
         have hOp2:∀ b,Ag (GB ({p with busy:=b}:DU) n (k*8+(j+1))):=fun b=>⟨⟨hOp.fit,hOp.act,hOp.left,hOp.l,hOp.Fb,hOp.lb⟩⟩
         replace hfold:=Az hfold;replace hOp2:=Az hOp2;clear hT hpb hOp ha2 hl2 hqb hca hcl c1 fl hll hmid hcsl hlef hokq hbb hp;cases qb with
         |true =>
          go_wp2;go_roundw
          case rel=>exact⟨j+1,{p with busy:=true},ve1,by go_num,rfl,rfl,hjn,hfold.out true (by simp),hOp2.out true,hRp,hLp⟩
          case measure=>simp[intOf];omega
         |false =>
          by_cases a0:a2=0
          ·subst a0;by_cases l0:0<l2
           ·have l1:(0:Int)<(l2:Int):=by omega
            go_wp2;go_roundw
            case rel=>exact⟨j+1,{p with busy:=true},ve1,by go_num,rfl,rfl,hjn,hfold.out true (by simp[l0]),hOp2.out true,hRp,hLp⟩
            case measure=>simp[intOf];omega
           ·have l1:¬(0:Int)<(l2:Int):=by omega
            go_wp2;go_roundw
            case rel=>exact⟨j+1,{p with busy:=false},ve1,by go_num,rfl,rfl,hjn,hfold.out false (by simp[l0]),hOp2.out false,hRp,hLp⟩
            case measure=>simp[intOf];omega
          ·have x0:((a2:Int) != 0)=true:=bne_iff_ne.2 (by omega);have x1:((a2:Int)==0)=false:=Bq (by omega);have ht:(false||decide (a2≠0)||decide (l2 > 0))=true:=by simp[a0]
           replace ht:=Az ht;clear a0;go_wp2;go_roundw
           case rel=>exact⟨j+1,{p with busy:=true},ve1,by go_num,rfl,rfl,hjn,hfold.out true ht.out,hOp2.out true,hRp,hLp⟩
           case measure=>simp[intOf];omega
      ·obtain rfl:j=n:=by omega
       have e1:¬(j:Int)<(j:Int):=by omega
       have hqr:q=v.round j:=hq.out;have hF2:=hF.out;rw[DU.rounds_succ,←hqr]at hF2;have r3:wr.cell? ⟨pr,3,none⟩=some (.int .i64 (Qw q.r.bad)):=(Bc hRq.out.br 3).trans rfl;have hOk':GB q j ((k+1)*8):=⟨hQ.out.fit,hQ.out.act,hQ.out.left,Nat.le_trans hQ.out.l (by have:=hn8.out;omega),Nat.le_trans hQ.out.Fb (by have:=hn8.out;omega),hQ.out.lb⟩
       replace hOk':=Az hOk';clear hq hqr hQ;obtain⟨qb,hqb⟩:∃ b,q.busy=b:=⟨_,rfl⟩
       obtain⟨bd,hbd⟩:∃ b,q.r.bad=b:=⟨_,rfl⟩
       rw[hqb]at hF2;rw[hbd]at hF2 r3;rw[hqb];replace hF2:=Az hF2;clear hqb hbd;cases qb with
       |false =>
        have hf:q=fv:=hF2.out.symm.trans (if_pos (.inl rfl)) |>.symm
        subst hf;go_wp2_with fail
        go_meet
        exact⟨ve,rfl,hRq⟩
       |true =>
        cases bd with
        |true =>
         replace r3:wr.cell? ⟨pr,3,none⟩=some (.int .i64 1):=r3;have hf:q=fv:=hF2.out.symm.trans (if_pos (.inr rfl)) |>.symm
         subst hf;go_wp2_with fail
         go_meet
         exact⟨ve,rfl,hRq⟩
        |false =>
         replace r3:wr.cell? ⟨pr,3,none⟩=some (.int .i64 0):=r3;have hf:=Az (hF2.out.symm.trans (if_neg (by simp))).symm;go_wp2;go_roundw
         case rel=>exact⟨k+1,m,q,ve,by go_num,rfl,by omega,hOk',hf,hRq,hLq⟩
         case measure=>simp[intOf];omega
  case rest =>
   obtain⟨ve,rfl,hI⟩:=hcut;have hIk:=hI.out;have hlen:=hfvo.out.l;clear hI hR hL;have hB:=hb0.out.trans (hIk.x.b.mono hb0.out.size);have hbr:=hIk.br;obtain⟨Ae,ce,rfl,hce,hEc⟩:=Eo.c hIk.l;have hCk:=Az (Fh wc.drew Ae ce fv.r.l n n1.out n2.out (hEc.keep (Bd (Below.refl _ _))) (by have:=hKle.out;omega) hce);replace hB:=Az (hB.trans (Bd (Below.refl _ _)));obtain⟨mq,hmq⟩:∃ x,fv.r.l.length=x:=⟨_,rfl⟩
   rw[hmq]at hCk hbr;have hfq:=hfn.out;rw[hmq]at hfq;replace hfq:=Az hfq;have r3:=(Bc hbr 3).trans rfl;have r2:=(Bc hbr 2).trans rfl;clear hmq hlen;obtain⟨gt,hgt⟩:∃ x,fv.Fb=x:=⟨_,rfl⟩
   rw[hgt];have hfg:=hfq.out;rw[hgt]at hfg;replace hfg:=Az hfg;clear hgt hfq;go_upto_region 25 with fail
   cases hbd:fv.r.bad with
   |true =>
    rw[hbd]at r3;replace r3:wc.cell? ⟨pr,3,none⟩=some (.int .i64 1):=r3;have hf:fin=false:=by rw[←hfg.out,hbd];rfl
    subst hf;clear hbd hIk hEc hce hbr hCk r2;go_region
    go_wp2;go_ret;exact⟨rfl,hB.out⟩
   |false =>
    by_cases hg:gt=nc;case neg =>
     rw[hbd]at r3;replace r3:wc.cell? ⟨pr,3,none⟩=some (.int .i64 0):=r3;have hf:fin=false:=by rw[←hfg.out,decide_eq_false hg];simp
     subst hf;have y:((gt:Int)==(nc:Int))=false:=Bq (by omega);clear hbd hIk hEc hce hbr hCk r2 hg;go_region
     go_wp2;go_ret;exact⟨rfl,hB.out⟩
    subst hg;have hf:fin=decide (Cn n fv.r.l=mq):=by rw[←hfg.out,hbd];simp
    replace hf:=Az hf;have y:((gt:Int)==(gt:Int))=true:=beq_self_eq_true _;have hS5:(fun W'=>W'.cell? ⟨pr,3,none⟩=some (.int .i64 0)∧W'.cell? ⟨pr,2,none⟩=some (.slice Ae mq ce)) wc.drew:=⟨(Bc (Be hbr) 3).trans (by rw[hbd];rfl),(Bc (Be hbr) 2).trans rfl⟩
    clear hbd hIk hEc hce hbr r2 r3;refine Av [] (S:=fun W'=>W'.cell? ⟨pr,3,none⟩=some (.int .i64 0)∧W'.cell? ⟨pr,2,none⟩=some (.slice Ae mq ce)) (by kernel_rfl) hS5 (fun hS0=>?_);clear hS5;try simp only[Act.put,Sa,Sb,Sc]
    refine tY 0 (fun _=>hS0) ?_;refine tY 1 (fun _=>hS0) ?_;refine tY 2 (fun _=>hS0) ?_;refine tL 3 (hS0) ?_;refine tY 4 (fun _=>hS0) ?_;refine tY 5 (fun _=>hS0) ?_;refine tY 6 (fun _=>hS0) ?_;refine tY 7 (fun _=>hS0) ?_;refine tY 8 (fun _=>hS0) ?_;refine tY 9 (fun _=>hS0) ?_;refine tY 10 (fun _=>hS0) ?_;refine tY 11 (fun _=>hS0) ?_;refine tY 12 (fun _=>hS0) ?_;refine tY 13 (fun _=>hS0) ?_;refine tY 14 (fun _=>hS0) ?_;refine tY 15 (fun _=>hS0) ?_;refine tY 16 (fun _=>hS0) ?_;refine tL 17 (hS0) ?_;refine tY 19 (fun _=>hS0) ?_;refine tY 20 (fun _=>hS0) ?_;refine tY 21 (fun _=>hS0) ?_;refine tL 22 (hS0) ?_;refine tY 23 (fun _=>hS0) ?_;refine Ab (rs:=[18]) (by kernel_rfl) (by simp) ?_;refine Aa.cons (Au rfl) (fun K hK=>?_) Aa.nil;rw[if_pos (by rfl)];go_wp2_with fail
    refine hCk.out.mono ?_;rintro e w8 ⟨rfl,hB8⟩;replace hB:=Az (hB.out.trans (hB8.mono hB.out.size));replace hS0:(fun W'=>W'.cell? ⟨pr,3,none⟩=some (.int .i64 0)∧W'.cell? ⟨pr,2,none⟩=some (.slice Ae mq ce)) w8:=⟨Ck hB8 hS0.1,Ck hB8 hS0.2⟩
    refine hK.out _ _ (fun _=>hS0) (fun _=>?_);clear hK hCk hB8;try simp only[Act.put,Sa,Sb,Sc]
    by_cases hck:Cn n fv.r.l=mq;case pos =>
     have hf2:fin=true:=hf.out.trans (decide_eq_true hck);subst hf2;rw[hck];refine tY 24 (fun _=>hS0) ?_;refine tY 25 (fun _=>hS0) ?_;refine tY 26 (fun _=>hS0) ?_;refine Ax (by kernel_rfl) ?_ _;go_wp2;go_ret;exact⟨rfl,hB.out⟩
    case neg =>
     have hf2:fin=false:=hf.out.trans (decide_eq_false hck);subst hf2;have y2:((Cn n fv.r.l:Int)==(mq:Int))=false:=Bq (by omega);clear hck;refine tY 24 (fun _=>hS0) ?_;refine tY 25 (fun _=>hS0) ?_;refine tY 26 (fun _=>hS0) ?_;refine Ax (by kernel_rfl) ?_ _;go_wp2;go_ret;exact⟨rfl,hB.out⟩
end
end Go.Proofs.YtjjpiefgdggghaaGreatDoor
