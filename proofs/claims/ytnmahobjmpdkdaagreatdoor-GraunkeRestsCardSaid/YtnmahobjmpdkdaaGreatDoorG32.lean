/- Parts: RunCame, RunOpA. -/
import Derived.Test.YtnmahobjmpdkdaaGreatDoorG02
import Derived.Test.YtnmahobjmpdkdaaGreatDoorG28
set_option linter.unusedVariables false
set_option linter.unusedSimpArgs false
set_option maxRecDepth 100000
set_option maxHeartbeats 40000000
namespace Go.Proofs.YtnmahobjmpdkdaaGreatDoor
section
open Go.RowKit Go.Proofs.YtnmahobjmpdkdaaGreatDoorW.PrintWords
theorem Cq.E3{B:Nat}{Ts:List TypeId}{M:Nat→Prop}{w w':World}(h:Cq B Ts (fun _=>False) w w'):Cq B Ts M w w' :=
 ⟨h.os,h.tape,h.output,h.size,fun k hk hc=>h.block k hk (hc.imp id fun h2=>⟨fun f=>f,h2.2⟩)⟩
theorem Cq.AaL{B:Nat}{Ts:List TypeId}{M:Nat→Prop}{a w:World}(h:Cq B Ts M a w){p:Addr}(hM:M p.block)(hB:B≤p.block)(v:Value):Cq B Ts M a (w.setCell p v) :=
 h.trans ⟨rfl,rfl,rfl,by simp[World.setCell],fun k hk hc=>Below.heap_setCell _ _ _ _ fun e=>by
  subst e;rcases hc with hc |⟨hc,_⟩
  ·omega
  ·exact hc hM⟩
def L8(vd:Value)(k:Nat):Prop:=vd.ownBlock=some k
section
variable {w W W1:World} {pr px:Nat} {vl vc vw vr vd ve:Value} {pl:Option Addr} {r:AQ}
theorem CZ.keep(h:CZ w W pr px vl vc vw vr pl vd ve r)(hb:Below W.heap.size W W1):CZ w W1 pr px vl vc vw vr pl vd ve r :=
 ⟨h.x.keep hb,h.Jh,Bk hb h.br,Om h.act (fun k hk=>hb.block k (Ol h.act k hk)),Om h.l (fun k hk=>hb.block k (Ol h.l k hk))⟩
theorem CZ.J7{g n c t v:Nat}(h:CZ w W pr px vl vc vw vr pl (.slice (some ⟨g,0,none⟩) n c) ve r)(ht:t<r.act.length):∀ W',W'=W.setCell ⟨g,t,none⟩ (.int .i64 v) →
  CZ w W' pr px vl vc vw vr pl (.slice (some ⟨g,0,none⟩) n c) ve {r with act:=r.act.set t v}∧Cq w.heap.size [3] (fun _=>False) W W'∧Cq w.heap.size [] (L8 (.slice (some ⟨g,0,none⟩) n c)) W W':=by
 rintro W' rfl;have ha:=h.act;unfold Cc at ha;obtain⟨g',c',hv,_,hg,⟨cs,hcs,_⟩,_⟩:=CO ha (by omega);have e1:g=g':=by injection hv with h1 h2 h3;injection h1 with h1;injection h1
 have e2:n=r.act.length:=by injection hv
 subst e1;subst e2;have F:Cq w.heap.size [3] (fun _=>False) W (W.setCell ⟨g,t,none⟩ (.int .i64 v)):=(Cq.refl _ _ _ W).set (p:=⟨g,t,none⟩) hcs (by simp) hg _;have hp:=DF ha t (by omega) (.int .i64 v);refine⟨⟨h.x.frame F (by decide) (by decide) (by decide) (by decide),h.Jh,F.GR h.br (by decide) (fun f=>f),?_,F.own h.l (by decide) (fun _ _ f=>f)⟩,F,Cq.AaL (M:=L8 (.slice (some ⟨g,0,none⟩) r.act.length c)) (Cq.refl _ _ _ W) (p:=⟨g,t,none⟩) (show Value.ownBlock _=_ from rfl) hg _⟩;unfold Cc;simp only[List.length_set,List.map_set];exact hp
theorem CZ.YO(h:CZ w W pr px vl vc vw vr pl vd ve r):∀ W',W'=W.setCell ⟨pr,3,none⟩ (.int .i64 1) →
  CZ w W' pr px vl vc vw vr pl vd ve {r with bad:=true}∧Cq w.heap.size [75] (fun _=>False) W W':=by
 rintro W' rfl;have F:Cq w.heap.size [75] (fun _=>False) W (W.setCell ⟨pr,3,none⟩ (.int .i64 1)):=(Cq.refl _ _ _ W).set (p:=⟨pr,3,none⟩) h.br (by simp) h.Jh _;exact⟨⟨h.x.frame F (by decide) (by decide) (by decide) (by decide),h.Jh,Bs h.br 3 (.int .i64 1),F.own h.act (by decide) (fun _ _ f=>f),F.own h.l (by decide) (fun _ _ f=>f)⟩,F⟩
end
theorem AaM(k:Nat)(hk:k<5)(W:World):(Instr.index 134 (.agg #[.int .i64 0,.int .i64 2,.int .i64 3,.int .i64 4,.int .i64 9]) (.int .i64 (k:Int))).run Tryz.prog W=.ok (.int .i64 (FN k:Int)) W:=by
 match k,hk with
 |0,_=>simp[Instr.index,Sem.run_bind,asIntOf,go_sem];rfl
 |1,_=>simp[Instr.index,Sem.run_bind,asIntOf,go_sem];rfl
 |2,_=>simp[Instr.index,Sem.run_bind,asIntOf,go_sem];rfl
 |3,_=>simp[Instr.index,Sem.run_bind,asIntOf,go_sem];rfl
 |4,_=>simp[Instr.index,Sem.run_bind,asIntOf,go_sem];rfl
def Is:List TypeId:=[75,83]
def ZR(w W:World)(pr px:Nat)(vl vc vw vr:Value)(pl:Option Addr)(vd:Value)(r:AQ)(e:Ending)(W':World):Prop :=
 e=.returned (.tuple #[])∧∃ ve',CZ w W' pr px vl vc vw vr pl vd ve' r∧Cq w.heap.size Is (L8 vd) W W'
theorem GF(w W:World)(pr px:Nat)(vl vc vw vr:Value)(pl:Option Addr)(vd ve vm:Value)(r:AQ)(t:Nat)(o:Ex)(h:CZ w W pr px vl vc vw vr pl vd ve r)(ht:t<r.act.length)(ht2:r.act.length≤64)
  (hm:Bo W w.heap.size vm o.marks)(hmk:∀ k∈o.marks,0≤k∧k<5)(hml:o.marks.length≤300)(hl:r.l.length+o.marks.length≤90000000) :
  Calls Tryz.prog 68 #[.pointer (some ⟨pr,0,none⟩),.int .i64 t,.agg #[vm,.int .i64 o.done,.int .i64 o.addr,.int .i64 (o.wrote:Int),.int .i64 (o.stay:Int),.int .i64 o.e]] W (ZR w W pr px vl vc vw vr pl vd (r.EK t o)):=by
 obtain⟨A,c,rfl⟩:=hm.slice;obtain⟨m,hmm⟩:∃ m,o.marks.length=m:=⟨_,rfl⟩
 rw[hmm]at hm hml hl ⊢;obtain⟨W1,hW1⟩:∃ X,W.alloc (.cells #[.slice A m c,.int .i64 o.done,.int .i64 o.addr,.int .i64 (o.wrote:Int),.int .i64 (o.stay:Int),.int .i64 o.e] 113)=X:=⟨_,rfl⟩
 have hb1:Below W.heap.size W W1:=by rw[←hW1];exact Bw W _
 have b5:W1.heap[W.heap.size]?=some (.cells #[.slice A m c,.int .i64 o.done,.int .i64 o.addr,.int .i64 (o.wrote:Int),.int .i64 (o.stay:Int),.int .i64 o.e] 113 (0,0)):=by rw[←hW1];exact Bv W _
 have hR1:=h.keep hb1;have hm1:Bo W1 w.heap.size (.slice A m c) o.marks:=hm.keep hb1;have q0:W1.cell? ⟨W.heap.size,0,none⟩=some (.slice A m c):=(Bc b5 0).trans rfl;have FW:Cq w.heap.size Is (fun _=>False) W W1:=Cq.CD hb1;obtain⟨fin,hfin⟩:∃ x,r.EK t o=x:=⟨_,rfl⟩
 rw[hfin];replace hfin:=Az hfin;replace h:=Az h;replace hR1:=Az hR1;replace hm1:=Az hm1;replace b5:=Az b5;replace FW:=Az FW;replace hmm:=Az hmm;go_enter Tryz.func68,Tryz.ntmps68;go_wp2_with fail
 try rw[hW1]
 clear hW1;go_loopw [7,11] (fun v7 v11 wr=>∃ (n:Nat) (ve':Value),v11=.int .i64 (n:Int)∧n≤m∧Af (CZ w wr pr px vl vc vw vr pl vd ve' {r with l:=r.l++(o.marks.take n).map (fun k=>(FN k,t))})∧Af (Cq w.heap.size [75,83] (fun _=>False) W1 wr)) (fun _ v11 _=>m-(intOf v11).toNat)
 case atStart=>exact⟨0,ve,rfl,Nat.zero_le _,⟨by simpa using hR1.out⟩,⟨Cq.refl _ _ _ _⟩⟩
 case round =>
  obtain⟨n,ve',rfl,hn,hR,hF⟩:=hrel;by_cases hlt:n<m
  ·have hnm:n<o.marks.length:=by rw[hmm.out];exact hlt
   obtain⟨g,c',hv,_,hcell⟩:=Bo.cell (hF.out.own hm1.out (by decide) (fun _ _ f=>f)) (by omega);have hcn:=hcell n hnm;have hA:A=some ⟨g,0,none⟩:=by injection hv
   subst hA;have hkm:=hmk (o.marks.getD n 0) (by rw[List.getD_eq_getElem?_getD,List.getElem?_eq_getElem hnm];exact List.getElem_mem _);have htake:(o.marks.take (n+1)).map (fun k=>(FN k,t))=(o.marks.take n).map (fun k=>(FN k,t))++[(FN (o.marks.getD n 0),t)]:=by
    rw[List.take_succ_eq_append_getElem hnm,List.map_append,List.getD_eq_getElem?_getD,List.getElem?_eq_getElem hnm];rfl
   generalize o.marks.getD n 0=k at *;have n0:(0:Int)≤(n:Int):=by omega
   have n1:(n:Int)<(m:Int):=by omega
   have nw:IntKind.i64.wrap ((n:Int)+1)=(n:Int)+1:=by rw[IntKind.wrap_i64];omega
   have hent:=fun kk=>FB w wr pr px vl vc vw vr pl vd ve' _ kk t hR.out (by simp;omega)
   replace hent:=Az hent;replace htake:=Az htake;clear hcell hv;obtain⟨kn,rfl⟩:∃ y:Nat,k=y:=⟨k.toNat,by omega⟩
   have hix:=fun W=>AaM kn (by omega) W
   go_wp2_with fail
   refine(hent.out _).mono ?_;rintro e w2 ⟨rfl,ve2,hR2,hF2⟩;rw[List.append_assoc]at hR2;go_wp2;go_roundw
   case rel=>exact⟨n+1,ve2,by go_num,hlt,⟨by rw[htake.out];exact hR2⟩,⟨hF.out.trans hF2⟩⟩
   case measure=>simp[intOf];omega
  ·obtain rfl:n=m:=by omega
   have n1:¬(n:Int)<(n:Int):=by omega
   have hR2:=hR.out;rw[←hmm.out,List.take_length]at hR2;have b5':=hF.out.GR b5.out (by decide) (fun f=>f);have e5:wr.cell? ⟨W.heap.size,5,none⟩=some (.int .i64 o.e):=(Bc b5' 5).trans rfl;have e1:wr.cell? ⟨W.heap.size,1,none⟩=some (.int .i64 o.done):=(Bc b5' 1).trans rfl;have hact:=hR2.act;unfold Cc at hact;obtain⟨gd,cd,hvd,_,hgd,⟨cs,hcs,_⟩,hcell⟩:=CO hact (show 0<r.act.length by omega);subst hvd;obtain⟨nd,hnd⟩:∃ y,r.act.length=y:=⟨_,rfl⟩
   have c1:wr.cell? ⟨pr,1,none⟩=some (.slice (some ⟨gd,0,none⟩) nd cd):=by rw[←hnd];exact(Bc hR2.br 1).trans rfl
   obtain⟨av,hav⟩:∃ y,r.act.getD t 0=y:=⟨_,rfl⟩
   have ca:wr.cell? ⟨gd,t,none⟩=some (.int .i64 (av:Int)):=hcell t _ (by rw[←hav];simp[List.getD_eq_getElem?_getD,List.getElem?_eq_getElem ht]);have t0:(0:Int)≤(t:Int):=by omega
   have t1:(t:Int)<(nd:Int):=by omega
   have hf:=hfin.out;unfold AQ.EK at hf;rw[hav]at hf;obtain⟨bm,hbm⟩:∃ b,Kz av o=b:=⟨_,rfl⟩
   rw[hbm]at hf;clear hfin hcell hact b5';replace hf:=Az hf;replace hR2:=Az hR2;go_upto_region 6 with fail
   go_cut [43] from 22 to 22 (fun v43 wx=>v43=.bool bm∧wx=wr.drew)
   case first =>
    unfold Kz at hbm;by_cases he:o.e=0
    ·have x1:(o.e != 0)=false:=by simp[he]
     by_cases hd:o.done≥0
     ·have x2:((av:Int)==3)=decide (av=3):=by
       by_cases h3:av=3
       ·subst h3;rfl
       ·rw[decide_eq_false h3];exact Bq (by omega)
      have x3:(o.done==2)=decide (o.done=2):=by
       by_cases h3:o.done=2
       ·rw[h3];rfl
       ·rw[decide_eq_false h3];exact Bq h3
      obtain⟨y2,hy2⟩:∃ y,decide (av=3)=y:=⟨_,rfl⟩
      obtain⟨y3,hy3⟩:∃ y,decide (o.done=2)=y:=⟨_,rfl⟩
      rw[hy2]at x2 hbm;rw[hy3]at x3 hbm;rw[decide_eq_false (fun h=>h he),decide_eq_true hd,Bool.false_or,Bool.true_and]at hbm;clear he;subst hbm;go_region
      go_wp2_with fail
      go_meet
      exact⟨rfl,rfl⟩
     ·rw[decide_eq_false (fun h=>h he),decide_eq_false hd]at hbm;have hd':o.done<0:=by omega
      clear he;subst hbm;go_region
      go_wp2_with fail
      go_meet
      exact⟨rfl,rfl⟩
    ·have x1:(o.e != 0)=true:=bne_iff_ne.2 he;rw[decide_eq_true he,Bool.true_or]at hbm;subst hbm;go_region
     go_wp2_with fail
     go_meet
     exact⟨rfl,rfl⟩
   case rest =>
    obtain⟨rfl,rfl⟩:=hcut;clear e5;have hRd:=hR2.out.keep (Bd (Below.refl _ _));have hFd:=((hF.out.then (Bd (Below.refl _ _))).mono (Ts':=Is) (by simp[Is]))
    replace hFd:=Az hFd;cases bm with
    |true =>
     have c3:wr.cell? ⟨pr,3,none⟩=some (.int .i64 (Uw r.bad)):=(Bc hR2.out.br 3).trans rfl;have f3:=Bf hR2.out.br 3;replace hRd:=Az hRd;go_wp2;obtain⟨hR5,hF5⟩:=hR2.out.YO _ rfl;refine bodyPost_ret (fn:=Tryz.f68) (v:=.tuple #[]) (results_none rfl _ _ _) rfl ⟨rfl,ve',?_,(FW.out.E3.trans ((Cq.E3 (hF.out.mono (Ts':=Is) (by simp[Is]))).trans (Cq.E3 (hF5.mono (by simp[Is]))))).drew⟩;rw[←hf.out];simp only[if_true];rw[←hnd];exact hR5.keep (Bd (Below.refl _ _))
    |false =>
     have hent:=fun kk=>FB w wr.drew pr px vl vc vw vr pl _ ve' _ kk t hRd (by simp only[List.length_append,List.length_map];have:=hmm.out;omega)
     have hR3:=hRd;replace hent:=Az hent;clear hRd;replace hf:=hf.out;rw[if_neg (by decide)]at hf;by_cases hd0:o.done=0
     ·rw[hd0]at hf;replace hf:=Az hf;replace hR3:=Az hR3;have x0:(o.done==0)=true:=by rw[hd0];rfl
      have x1:(o.done==1)=false:=by rw[hd0];rfl
      have x2:(o.done==2)=false:=by rw[hd0];rfl
      have x3:(o.done==3)=false:=by rw[hd0];rfl
      clear hd0;go_wp2_with fail
      refine(hent.out 6).mono ?_;rintro e w2 ⟨rfl,ve2,hR4,hF4⟩;have hact4:=hR4.act;unfold Cc at hact4;obtain⟨g4,c4,hv4,_,_,⟨cs4,hcs4,_⟩,hcell4⟩:=CO hact4 (show 0<r.act.length by omega);have eg:gd=g4:=by injection hv4 with h1 h2 h3;injection h1 with h1;injection h1
      rw[←eg]at hcs4 hcell4;have c14:w2.cell? ⟨pr,1,none⟩=some (.slice (some ⟨gd,0,none⟩) nd cd):=by rw[←hnd];exact(Bc hR4.br 1).trans rfl
      have ca4:w2.cell? ⟨gd,t,none⟩=some (.int .i64 (av:Int)):=hcell4 t _ (by rw[←hav];simp[List.getD_eq_getElem?_getD,List.getElem?_eq_getElem ht]);have fa4:=Bf hcs4 t;clear hcell4 hv4 hcs4 eg hact4 x0 x1 x2 x3;replace hR4:=Az hR4;go_wp2;obtain⟨hR5,_,hF5⟩:=hR4.out.J7 (v:=0) ht _ rfl;refine bodyPost_end (fn:=Tryz.f68) (v:=.tuple #[]) (results_none rfl _ _ _) rfl ⟨rfl,ve2,?_,FW.out.E3.trans ((hFd.out.E3.trans (Cq.E3 (hF4.mono (by simp[Is])))).trans (hF5.mono (by simp)))⟩;rw[←hf.out,←hnd];exact hR5
     ·by_cases hd1:o.done=1
      ·rw[hd1]at hf;replace hf:=Az hf;replace hR3:=Az hR3;have x0:(o.done==0)=false:=by rw[hd1];rfl
       have x1:(o.done==1)=true:=by rw[hd1];rfl
       have x2:(o.done==2)=false:=by rw[hd1];rfl
       have x3:(o.done==3)=false:=by rw[hd1];rfl
       clear hd1;go_wp2_with fail
       refine(hent.out 5).mono ?_;rintro e w2 ⟨rfl,ve2,hR4,hF4⟩;have hact4:=hR4.act;unfold Cc at hact4;obtain⟨g4,c4,hv4,_,_,⟨cs4,hcs4,_⟩,hcell4⟩:=CO hact4 (show 0<r.act.length by omega);have eg:gd=g4:=by injection hv4 with h1 h2 h3;injection h1 with h1;injection h1
       rw[←eg]at hcs4 hcell4;have c14:w2.cell? ⟨pr,1,none⟩=some (.slice (some ⟨gd,0,none⟩) nd cd):=by rw[←hnd];exact(Bc hR4.br 1).trans rfl
       have ca4:w2.cell? ⟨gd,t,none⟩=some (.int .i64 (av:Int)):=hcell4 t _ (by rw[←hav];simp[List.getD_eq_getElem?_getD,List.getElem?_eq_getElem ht]);have fa4:=Bf hcs4 t;clear hcell4 hv4 hcs4 eg hact4 x0 x1 x2 x3;replace hR4:=Az hR4;go_wp2;obtain⟨hR5,_,hF5⟩:=hR4.out.J7 (v:=2) ht _ rfl;refine bodyPost_end (fn:=Tryz.f68) (v:=.tuple #[]) (results_none rfl _ _ _) rfl ⟨rfl,ve2,?_,FW.out.E3.trans ((hFd.out.E3.trans (Cq.E3 (hF4.mono (by simp[Is])))).trans (hF5.mono (by simp)))⟩;rw[←hf.out,←hnd];exact hR5
      ·by_cases hd2:o.done=2
       ·rw[hd2]at hf;replace hf:=Az hf;replace hR3:=Az hR3;have x0:(o.done==0)=false:=by rw[hd2];rfl
        have x1:(o.done==1)=false:=by rw[hd2];rfl
        have x2:(o.done==2)=true:=by rw[hd2];rfl
        have x3:(o.done==3)=false:=by rw[hd2];rfl
        clear hd2;go_wp2_with fail
        refine(hent.out 10).mono ?_;rintro e w2 ⟨rfl,ve2,hR4,hF4⟩;have hact4:=hR4.act;unfold Cc at hact4;obtain⟨g4,c4,hv4,_,_,⟨cs4,hcs4,_⟩,hcell4⟩:=CO hact4 (show 0<r.act.length by omega);have eg:gd=g4:=by injection hv4 with h1 h2 h3;injection h1 with h1;injection h1
        rw[←eg]at hcs4 hcell4;have c14:w2.cell? ⟨pr,1,none⟩=some (.slice (some ⟨gd,0,none⟩) nd cd):=by rw[←hnd];exact(Bc hR4.br 1).trans rfl
        have ca4:w2.cell? ⟨gd,t,none⟩=some (.int .i64 (av:Int)):=hcell4 t _ (by rw[←hav];simp[List.getD_eq_getElem?_getD,List.getElem?_eq_getElem ht]);have fa4:=Bf hcs4 t;clear hcell4 hv4 hcs4 eg hact4 x0 x1 x2 x3;replace hR4:=Az hR4;go_wp2;obtain⟨hR5,_,hF5⟩:=hR4.out.J7 (v:=0) ht _ rfl;refine bodyPost_end (fn:=Tryz.f68) (v:=.tuple #[]) (results_none rfl _ _ _) rfl ⟨rfl,ve2,?_,FW.out.E3.trans ((hFd.out.E3.trans (Cq.E3 (hF4.mono (by simp[Is])))).trans (hF5.mono (by simp)))⟩;rw[←hf.out,←hnd];exact hR5
       ·by_cases hd3:o.done=3
        ·rw[hd3]at hf;replace hf:=Az hf;replace hR3:=Az hR3;have x0:(o.done==0)=false:=by rw[hd3];rfl
         have x1:(o.done==1)=false:=by rw[hd3];rfl
         have x2:(o.done==2)=false:=by rw[hd3];rfl
         have x3:(o.done==3)=true:=by rw[hd3];rfl
         clear hd3;go_wp2_with fail
         refine(hent.out 7).mono ?_;rintro e w2 ⟨rfl,ve2,hR4,hF4⟩;have hact4:=hR4.act;unfold Cc at hact4;obtain⟨g4,c4,hv4,_,_,⟨cs4,hcs4,_⟩,hcell4⟩:=CO hact4 (show 0<r.act.length by omega);have eg:gd=g4:=by injection hv4 with h1 h2 h3;injection h1 with h1;injection h1
         rw[←eg]at hcs4 hcell4;have c14:w2.cell? ⟨pr,1,none⟩=some (.slice (some ⟨gd,0,none⟩) nd cd):=by rw[←hnd];exact(Bc hR4.br 1).trans rfl
         have ca4:w2.cell? ⟨gd,t,none⟩=some (.int .i64 (av:Int)):=hcell4 t _ (by rw[←hav];simp[List.getD_eq_getElem?_getD,List.getElem?_eq_getElem ht]);have fa4:=Bf hcs4 t;clear hcell4 hv4 hcs4 eg hact4 x0 x1 x2 x3;replace hR4:=Az hR4;go_wp2;obtain⟨hR5,_,hF5⟩:=hR4.out.J7 (v:=0) ht _ rfl;refine bodyPost_end (fn:=Tryz.f68) (v:=.tuple #[]) (results_none rfl _ _ _) rfl ⟨rfl,ve2,?_,FW.out.E3.trans ((hFd.out.E3.trans (Cq.E3 (hF4.mono (by simp[Is])))).trans (hF5.mono (by simp)))⟩;rw[←hf.out,←hnd];exact hR5
        ·have x0:(o.done==0)=false:=Bq hd0;have x1:(o.done==1)=false:=Bq hd1;have x2:(o.done==2)=false:=Bq hd2;have x3:(o.done==3)=false:=Bq hd3;have he:JI o.done=none:=by simp[JI,hd0,hd1,hd2,hd3]
         rw[he]at hf;replace hf:=Az hf;replace hR3:=Az hR3;clear he;go_wp2;refine bodyPost_end (fn:=Tryz.f68) (v:=.tuple #[]) (results_none rfl _ _ _) rfl ⟨rfl,ve',?_,FW.out.E3.trans hFd.out.E3⟩;rw[←hf.out,←hnd];exact hR3.out
theorem CZ.exec{w W W':World}{pr px:Nat}{vl vc vw vr vd ve:Value}{pl:Option Addr}{r:AQ}{x':AG}(h:CZ w W pr px vl vc vw vr pl vd ve r)(hx:Dp w W' px vl vc vw vr pl x')(F:Cq w.heap.size Jz (fun _=>False) W W') :
  CZ w W' pr px vl vc vw vr pl vd ve {r with x:=x'} :=
 ⟨hx,h.Jh,F.GR h.br (by decide) (fun f=>f),F.own h.act (by decide) (fun _ _ f=>f),F.own h.l (by decide) (fun _ _ f=>f)⟩
def Mo(code:List In):Prop:=∀ i∈code,i.op=12→0≤i.k∧i.k<5
def Rc(ms:List Int)(n:Nat):Prop:=(∀ k∈ms,0≤k∧k<5)∧ms.length≤n
theorem Iu(code:List In)(t:Nat)(hm:Mo code):∀ (n:Nat) (c:CoreM) (ms:List Int) (b:Nat),Rc ms b→Rc (runM code t n c ms).2.1 (b+n)
 |0,c,ms,b,h=>⟨h.1,Nat.le_trans h.2 (by omega)⟩
 |n+1,c,ms,b,h=>by
  have h':Rc ms (b+(n+1)):=⟨h.1,Nat.le_trans h.2 (by omega)⟩
  unfold runM;by_cases h1:c.pc<0∨c.pc≥code.length
  ·rw[if_pos h1];exact h'
  ·rw[if_neg h1];by_cases h2:(code.getD c.pc.toNat In.zero).op≥16
   ·rw[if_pos h2];exact h'
   ·rw[if_neg h2];by_cases h3:n=0
    ·rw[if_pos h3];exact h'
    ·rw[if_neg h3];by_cases h4:(code.getD c.pc.toNat In.zero).op=13
     ·rw[if_pos h4];exact h'
     ·rw[if_neg h4];have hp:c.pc.toNat<code.length:=by omega
      have hi:code.getD c.pc.toNat In.zero∈code:=by
       rw[List.getD_eq_getElem?_getD,List.getElem?_eq_getElem hp];exact List.getElem_mem _
      by_cases h5:(code.getD c.pc.toNat In.zero).op=12
      ·rw[if_pos h5];have:=Iu code t hm n (Fz c (code.getD c.pc.toNat In.zero) t) (ms++[(code.getD c.pc.toNat In.zero).k]) (b+1) ⟨fun k hk=>by
        rcases List.mem_append.1 hk with hk |hk
        ·exact h.1 k hk
        ·rw[List.mem_singleton.1 hk];exact hm _ hi h5,by have:=h.2;simp;omega⟩
       exact⟨this.1,Nat.le_trans this.2 (by omega)⟩
      ·rw[if_neg h5];have:=Iu code t hm n (Fz c (code.getD c.pc.toNat In.zero) t) ms b h;exact⟨this.1,Nat.le_trans this.2 (by omega)⟩
theorem go_marks(x:AG)(t:Nat)(c:CoreM)(a:Int)(wr:Nat)(hm:Mo x.pg.l):Rc (x.go t c a wr).2.marks 300:=by
 have:=Iu x.pg.l t hm 257 c [] 0 ⟨by simp,by simp⟩;exact⟨this.1,Nat.le_trans this.2 (by omega)⟩
theorem F7(x:AG)(t:Nat)(u:Bool)(hm:Mo x.pg.l):Rc (x.begin t u).2.marks 300:=go_marks x t _ _ _ hm
theorem Ia(x:AG)(t:Nat)(late:Bool)(hm:Mo x.pg.l):Rc (x.step t late).2.marks 300:=by
 have h0:Rc [] 300:=⟨by simp,by simp⟩
 unfold AG.step;dsimp only;split
 ·exact h0
 split
 ·exact h0
 split
 ·exact go_marks _ t _ _ _ hm
 split
 ·split
  ·exact h0
  ·exact go_marks _ t _ _ _ hm
 split
 ·exact h0
 split
 ·exact h0
 ·rename_i r _ _
  refine go_marks _ t _ _ _ ?_;split<;>exact hm
end
end Go.Proofs.YtnmahobjmpdkdaaGreatDoor
