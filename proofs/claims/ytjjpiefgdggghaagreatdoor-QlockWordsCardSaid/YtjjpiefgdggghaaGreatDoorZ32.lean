/- Parts: QPlain, QSpec, QAwake. -/
import Derived.Test.YtjjpiefgdggghaaGreatDoorZ28
import Derived.Test.YtjjpiefgdggghaaGreatDoorZ29
import Derived.Test.YtjjpiefgdggghaaGreatDoorZZCT
import Derived.Test.YtjjpiefgdggghaaGreatDoorZ30
import Derived.Test.YtjjpiefgdggghaaGreatDoorZ31
import Derived.Test.YtjjpiefgdggghaaGreatDoorZ02
import Derived.Test.YtjjpiefgdggghaaGreatDoorZ08
set_option linter.unusedVariables false
set_option linter.unusedSimpArgs false
set_option maxRecDepth 100000
set_option maxHeartbeats 40000000
namespace Go.Proofs.YtjjpiefgdggghaaGreatDoor
section
open Go.RowKit Go.Proofs.YtjjpiefgdggghaaGreatDoorW.PrintWords
structure SpD where
 T:List UInt8
 ss:List Int
 is:List Int
 rs:List Int
 each:Int
open Classical in
noncomputable def qTicket (n st:Int):Option SpD:=if 1≤n∧n≤64 then some ⟨ticketT,[1,1],[st,st],List.replicate n.toNat 0,0⟩ else none
open Classical in
noncomputable def qAnderson (n sl st:Int):Option SpD:=if Lz n sl then some ⟨DA (sl-1).toNat,[1,sl],Nu (sl-1).toNat st.toNat,List.replicate n.toNat 0,0⟩ else none
open Classical in
noncomputable def qGraunke (n:Int):Option SpD:=if 1≤n∧n≤64 then some ⟨graunkeT,[1,(n.toNat:Int)+1],((List.replicate (n.toNat+2) (0:Int)).set 0 (2*(n.toNat:Int))).set (n.toNat+1) 1,List.replicate n.toNat 0,0⟩ else none
open Classical in
noncomputable def qClh (n:Int):Option SpD:=if 1≤n∧n≤64 then some ⟨clhT,[1,(n.toNat:Int)+1],List.replicate (n.toNat+2) 0,(List.range n.toNat).map fun i:Nat=>(i:Int)+1,0⟩ else none
open Classical in
noncomputable def qMcs (n:Int):Option SpD:=if 1≤n∧n≤64 then some ⟨mcsT,[1,(n.toNat:Int),(n.toNat:Int)],List.replicate (2*n.toNat+1) 0,List.replicate n.toNat 0,0⟩ else none
open Classical in
noncomputable def qK42 (n:Int):Option SpD:=if 1≤n∧n≤64 then some ⟨k42T,[1,1,(n.toNat:Int),(n.toNat:Int)],List.replicate (2*n.toNat+2) 0,List.replicate n.toNat 0,0⟩ else none
open Classical in
noncomputable def qClhTry (n ea:Int):Option SpD:=if (1≤n∧n≤64)∧2≤ea∧ea≤8 then some ⟨clhtryT,[1,(n.toNat:Int)*(ea.toNat:Int)+1],(List.replicate (n.toNat*ea.toNat+2) (0:Int)).set 1 1,List.replicate n.toNat 0,(ea.toNat:Int)⟩ else none
open Classical in
noncomputable def qMcsTry (n ea:Int):Option SpD:=if (1≤n∧n≤64)∧1≤ea∧ea≤8 then some ⟨mcstryT,[1,(n.toNat:Int)*(ea.toNat:Int)+1,(n.toNat:Int)*(ea.toNat:Int)+1],List.replicate (2*(n.toNat*ea.toNat)+3) 0,List.replicate n.toNat 0,(ea.toNat:Int)⟩ else none
noncomputable def qD (kd n sl ea st:Int):Option SpD :=
 if kd=1 then qTicket n st else
 if kd=2 then qAnderson n sl st else
 if kd=3 then qGraunke n else
 if kd=4 then qClh n else
 if kd=5 then qMcs n else
 if kd=6 then qK42 n else
 if kd=7 then qClhTry n ea else
 if kd=8 then qMcsTry n ea else
 none
noncomputable def qF (kd n sl ea sp st:Int):Option SpD:=if sp<1∨1000<sp then none else qD kd n sl ea st
theorem qF_1{n sl ea sp st:Int}(h:¬(sp<1∨1000<sp)):qF 1 n sl ea sp st=qTicket n st:=by unfold qF qD;rw[if_neg h];rfl
theorem qF_2{n sl ea sp st:Int}(h:¬(sp<1∨1000<sp)):qF 2 n sl ea sp st=qAnderson n sl st:=by unfold qF qD;rw[if_neg h];rfl
theorem qF_3{n sl ea sp st:Int}(h:¬(sp<1∨1000<sp)):qF 3 n sl ea sp st=qGraunke n:=by unfold qF qD;rw[if_neg h];rfl
theorem qF_4{n sl ea sp st:Int}(h:¬(sp<1∨1000<sp)):qF 4 n sl ea sp st=qClh n:=by unfold qF qD;rw[if_neg h];rfl
theorem qF_5{n sl ea sp st:Int}(h:¬(sp<1∨1000<sp)):qF 5 n sl ea sp st=qMcs n:=by unfold qF qD;rw[if_neg h];rfl
theorem qF_6{n sl ea sp st:Int}(h:¬(sp<1∨1000<sp)):qF 6 n sl ea sp st=qK42 n:=by unfold qF qD;rw[if_neg h];rfl
theorem qF_7{n sl ea sp st:Int}(h:¬(sp<1∨1000<sp)):qF 7 n sl ea sp st=qClhTry n ea:=by unfold qF qD;rw[if_neg h];rfl
theorem qF_8{n sl ea sp st:Int}(h:¬(sp<1∨1000<sp)):qF 8 n sl ea sp st=qMcsTry n ea:=by unfold qF qD;rw[if_neg h];rfl
theorem qF_bad{kd n sl ea sp st:Int}(h:kd<1∨8<kd∨sp<1∨1000<sp):qF kd n sl ea sp st=none:=by
 unfold qF;by_cases c:sp<1∨1000<sp
 ·rw[if_pos c]
 ·rw[if_neg c];unfold qD;rw[if_neg (by omega),if_neg (by omega),if_neg (by omega),if_neg (by omega),if_neg (by omega),if_neg (by omega),if_neg (by omega),if_neg (by omega)]
theorem qF_rest{kd n sl ea sp st a b s:Int}(h1:kd=2→a=sl)(h2:kd=7∨kd=8→b=ea)(h3:kd=1∨kd=2→s=st):qF kd n a b sp s=qF kd n sl ea sp st:=by
 unfold qF qD;by_cases c1:kd=1
 ·rw[h3 (.inl c1)];simp[c1]
 by_cases c2:kd=2
 ·rw[h1 c2,h3 (.inr c2)];simp[c2]
 by_cases c7:kd=7∨kd=8
 ·rw[h2 c7];simp[c1,c2]
 ·have e7:¬kd=7:=fun e=>c7 (.inl e)
  have e8:¬kd=8:=fun e=>c7 (.inr e)
  simp[c1,c2,e7,e8]
def QRes(w:World)(o:Option SpD)(e:Ending)(W:World):Prop :=
 match o with
 |some d=>SpecHas w d.T d.ss d.is d.rs d.each e W
 |none=>DS w e W
theorem ticket_q(n st:Int)(w:World)(he:Env w):Calls Tryz.prog 50 #[.int .i64 n,.int .u32 st] w (QRes w (qTicket n st)):=by
 unfold qTicket;by_cases h:1≤n∧n≤64
 ·rw[if_pos h];obtain⟨k,rfl⟩:∃ k:Nat,n=(k:Int):=⟨n.toNat,by omega⟩
  exact ticketSpec_has k st (by omega) (by omega) w he
 ·rw[if_neg h];exact ticketSpec_no n st (by omega) w
theorem anderson_q(n sl st:Int)(hst:0≤st∧st<4294967296)(w:World)(he:Env w):Calls Tryz.prog 17 #[.int .i64 n,.int .i64 sl,.int .u32 st] w (QRes w (qAnderson n sl st)):=by
 unfold qAnderson;by_cases h:Lz n sl
 ·rw[if_pos h];obtain⟨k,M,rfl,rfl,hM,h1,h2⟩:=h;obtain⟨s,rfl⟩:∃ s:Nat,st=(s:Int):=⟨st.toNat,by omega⟩
  have e1:((M:Int)+1-1).toNat=M:=by omega
  rw[e1];exact FU k M s hM (by omega) h1 h2 w he
 ·rw[if_neg h];exact Gu n sl st h w
theorem graunke_q(n:Int)(w:World)(he:Env w):Calls Tryz.prog 51 #[.int .i64 n] w (QRes w (qGraunke n)):=by
 unfold qGraunke;by_cases h:1≤n∧n≤64
 ·rw[if_pos h];obtain⟨k,rfl⟩:∃ k:Nat,n=(k:Int):=⟨n.toNat,by omega⟩
  exact graunkeSpec_has k (by omega) (by omega) w he
 ·rw[if_neg h];exact graunkeSpec_no n (by omega) w
theorem clh_q(n:Int)(w:World)(he:Env w):Calls Tryz.prog 52 #[.int .i64 n] w (QRes w (qClh n)):=by
 unfold qClh;by_cases h:1≤n∧n≤64
 ·rw[if_pos h];obtain⟨k,rfl⟩:∃ k:Nat,n=(k:Int):=⟨n.toNat,by omega⟩
  exact clhSpec_has k (by omega) (by omega) w he
 ·rw[if_neg h];exact clhSpec_no n (by omega) w
theorem mcs_q(n:Int)(w:World)(he:Env w):Calls Tryz.prog 53 #[.int .i64 n] w (QRes w (qMcs n)):=by
 unfold qMcs;by_cases h:1≤n∧n≤64
 ·rw[if_pos h];obtain⟨k,rfl⟩:∃ k:Nat,n=(k:Int):=⟨n.toNat,by omega⟩
  exact mcsSpec_has k (by omega) (by omega) w he
 ·rw[if_neg h];exact mcsSpec_no n (by omega) w
theorem k42_q(n:Int)(w:World)(he:Env w):Calls Tryz.prog 13 #[.int .i64 n] w (QRes w (qK42 n)):=by
 unfold qK42;by_cases h:1≤n∧n≤64
 ·rw[if_pos h];obtain⟨k,rfl⟩:∃ k:Nat,n=(k:Int):=⟨n.toNat,by omega⟩
  exact k42Spec_has k (by omega) (by omega) w he
 ·rw[if_neg h];exact k42Spec_no n (by omega) w
theorem clhtry_q(n ea:Int)(w:World)(he:Env w):Calls Tryz.prog 54 #[.int .i64 n,.int .i64 ea] w (QRes w (qClhTry n ea)):=by
 unfold qClhTry;by_cases h:(1≤n∧n≤64)∧2≤ea∧ea≤8
 ·rw[if_pos h];obtain⟨k,rfl⟩:∃ k:Nat,n=(k:Int):=⟨n.toNat,by omega⟩
  obtain⟨m,rfl⟩:∃ m:Nat,ea=(m:Int):=⟨ea.toNat,by omega⟩
  exact clhtrySpec_has k m (by omega) (by omega) (by omega) (by omega) w he
 ·rw[if_neg h];exact clhtrySpec_no n ea (by omega) w
theorem mcstry_q(n ea:Int)(w:World)(he:Env w):Calls Tryz.prog 55 #[.int .i64 n,.int .i64 ea] w (QRes w (qMcsTry n ea)):=by
 unfold qMcsTry;by_cases h:(1≤n∧n≤64)∧1≤ea∧ea≤8
 ·rw[if_pos h];obtain⟨k,rfl⟩:∃ k:Nat,n=(k:Int):=⟨n.toNat,by omega⟩
  obtain⟨m,rfl⟩:∃ m:Nat,ea=(m:Int):=⟨ea.toNat,by omega⟩
  exact mcstrySpec_has k m (by omega) (by omega) (by omega) (by omega) w he
 ·rw[if_neg h];exact mcstrySpec_no n ea (by omega) w
theorem qF_small{kd n sl ea sp st:Int}{d:SpD}(h:qF kd n sl ea sp st=some d):d.ss.length≤1000000∧d.is.length≤1000000∧d.rs.length≤1000000∧(At d.T).1.l.length≤1000:=by
 unfold qF at h;split at h
 ·cases h
 unfold qD at h;have anG:∀ {n sl st:Int} {d:SpD},qAnderson n sl st=some d→d.ss.length≤1000000∧d.is.length≤1000000∧d.rs.length≤1000000∧(At d.T).1.l.length≤1000:=by
  intro n sl st d h;unfold qAnderson at h;split at h
  ·rename_i ha
   cases h;obtain⟨k,M,rfl,rfl,hM,h1,h2⟩:=ha;have e1:((M:Int)+1-1).toNat=M:=by omega
   have hm:=DN hM;dsimp only;rw[e1];exact⟨by simp,by rw[NO];omega,by simp;omega,Pb hM⟩
  ·cases h
 split at h
 ·unfold qTicket at h;split at h
  ·rename_i ha
   cases h;exact⟨by simp,by simp<;>omega,by simp;omega,ticket_few⟩
  ·cases h
 split at h
 ·exact anG h
 split at h
 ·unfold qGraunke at h;split at h
  ·rename_i ha
   cases h;exact⟨by simp,by simp<;>omega,by simp;omega,graunke_few⟩
  ·cases h
 split at h
 ·unfold qClh at h;split at h
  ·rename_i ha
   cases h;exact⟨by simp,by simp<;>omega,by simp;omega,clh_few⟩
  ·cases h
 split at h
 ·unfold qMcs at h;split at h
  ·rename_i ha
   cases h;exact⟨by simp,by simp<;>omega,by simp;omega,mcs_few⟩
  ·cases h
 split at h
 ·unfold qK42 at h;split at h
  ·rename_i ha
   cases h;exact⟨by simp,by simp<;>omega,by simp;omega,k42_few⟩
  ·cases h
 split at h
 ·unfold qClhTry at h;split at h
  ·rename_i ha
   cases h;have hm:n.toNat*ea.toNat≤512:=Nat.le_trans (Nat.mul_le_mul (show n.toNat≤64 by omega) (show ea.toNat≤8 by omega)) (by decide);exact⟨by simp,by simp<;>omega,by simp;omega,clhtry_few⟩
  ·cases h
 split at h
 ·unfold qMcsTry at h;split at h
  ·rename_i ha
   cases h;have hm:n.toNat*ea.toNat≤512:=Nat.le_trans (Nat.mul_le_mul (show n.toNat≤64 by omega) (show ea.toNat≤8 by omega)) (by decide);exact⟨by simp,by simp<;>omega,by simp;omega,mcstry_few⟩
  ·cases h
 cases h
theorem QRes.cast{w W:World}{o:Option SpD}{e e':Ending}(g:QRes w o e' W)(h:e=e'):QRes w o e W:=h▸g
theorem QRes.eq{w W:World}{o o':Option SpD}{e:Ending}(h:o=o')(g:QRes w o' e W):QRes w o e W:=h▸g
theorem QRes.no{w W:World}{o:Option SpD}{e:Ending}(h:o=none)(g:DS w e W):QRes w o e W:=by subst h;exact g
theorem QRes.put{w w0 W:World}{o:Option SpD}{e:Ending}{N:Nat}(h:QRes w0 o e W)(hb:Below w.heap.size w w0)(hge:w.heap.size≤N)(hN:w0.heap[N]?=some (.cells #[.slice none 0 0,.int .i64 0,.int .i64 0,.slice none 0 0,.slice none 0 0,.int .i64 0,.slice none 0 0] 37 (0,0))) :
  ∃ (A B C D:Option Addr) (m c n1 n2 n3 k1 k2 k3:Nat) (l u ea:Int) (n9:Int),e=.returned (.tuple #[.agg #[.slice A m c,.int .i64 l,.int .i64 u,.slice B n1 k1,.slice C n2 k2,.int .i64 ea,.slice D n3 k3],.int .i64 n9]) ∧
   W.heap[N]?=some (.cells #[.slice none 0 0,.int .i64 0,.int .i64 0,.slice none 0 0,.slice none 0 0,.int .i64 0,.slice none 0 0] 37 (0,0)) ∧
   ∀ W',W'=((((((W.setCell ⟨N,0,none⟩ (.slice A m c)).setCell ⟨N,1,none⟩ (.int .i64 l)).setCell ⟨N,2,none⟩ (.int .i64 u)).setCell ⟨N,3,none⟩ (.slice B n1 k1)).setCell ⟨N,4,none⟩ (.slice C n2 k2)).setCell ⟨N,5,none⟩ (.int .i64 ea)).setCell ⟨N,6,none⟩ (.slice D n3 k3) →
    W'.heap[N]?=some (.cells #[.slice A m c,.int .i64 l,.int .i64 u,.slice B n1 k1,.slice C n2 k2,.int .i64 ea,.slice D n3 k3] 37 (0,0))∧QRes w o e W':=by
 cases o with
 |none =>
  obtain⟨rfl,hbW⟩:=h;have hN1:=Bk hbW hN;have hbb:=hb.trans (hbW.mono hb.size);refine⟨none,none,none,none,0,0,0,0,0,0,0,0,0,0,0,_,rfl,hN1,fun W' e=>?_⟩;obtain⟨g1,g2,_⟩:=Bj hbb hge hN1 _ _ _ _ _ _ _ W' e;exact⟨g1,rfl,g2⟩
 |some d =>
  obtain⟨va,vs,vi,vr,rfl,hr,r1,r2,r3,hbW⟩:=h;obtain⟨A,m,c,rfl⟩:=AB hr;obtain⟨B,k1,rfl⟩:=r1.rdn.slice;obtain⟨C,k2,rfl⟩:=r2.rdn.slice;obtain⟨D,k3,rfl⟩:=r3.rdn.slice;have hN1:=Bk hbW hN;have hbb:=hb.trans (hbW.mono hb.size);refine⟨A,B,C,D,_,c,_,_,_,k1,k2,k3,_,_,_,_,rfl,hN1,fun W' e=>?_⟩;obtain⟨g1,g2,g3⟩:=Bj hbb hge hN1 _ _ _ _ _ _ _ W' e;exact⟨g1,_,_,_,_,rfl,BN.mono (Om hr (fun k hk=>g3 k (fun e1=>Oa hr hN1 (by decide) (by rw[hk];exact congrArg some e1.symm)))) hb.size,seven_H hN1 r1 (by decide) _ _ _ _ _ _ _ W' e,seven_H hN1 r2 (by decide) _ _ _ _ _ _ _ W' e,seven_H hN1 r3 (by decide) _ _ _ _ _ _ _ W' e,g2⟩
theorem qspec_calls(kd n sl ea sp st:Int)(hst:0≤st∧st<4294967296)(w:World)(he:Env w):Calls Tryz.prog 25 #[.agg #[.int .i64 kd,.int .i64 n,.int .i64 sl,.int .i64 ea,.int .i64 sp,.int .u32 st]] w (QRes w (qF kd n sl ea sp st)):=by
 have bP:=As (Bv w (.cells #[.int .i64 kd,.int .i64 n,.int .i64 sl,.int .i64 ea,.int .i64 sp,.int .u32 st] 59)) (.cells #[.slice none 0 0,.int .i64 0,.int .i64 0,.slice none 0 0,.slice none 0 0,.int .i64 0,.slice none 0 0] 37);have bN:=BU (w:=w.alloc (.cells #[.int .i64 kd,.int .i64 n,.int .i64 sl,.int .i64 ea,.int .i64 sp,.int .u32 st] 59)) (n:=w.heap.size+1) (by simp) (.cells #[.slice none 0 0,.int .i64 0,.int .i64 0,.slice none 0 0,.slice none 0 0,.int .i64 0,.slice none 0 0] 37);have hb0:=(Bw w (.cells #[.int .i64 kd,.int .i64 n,.int .i64 sl,.int .i64 ea,.int .i64 sp,.int .u32 st] 59)).alloc (Bw w (.cells #[.int .i64 kd,.int .i64 n,.int .i64 sl,.int .i64 ea,.int .i64 sp,.int .u32 st] 59)).size (.cells #[.slice none 0 0,.int .i64 0,.int .i64 0,.slice none 0 0,.slice none 0 0,.int .i64 0,.slice none 0 0] 37);obtain⟨P,hP⟩:∃ x,w.heap.size=x:=⟨_,rfl⟩
 obtain⟨N,hN⟩:∃ x,w.heap.size+1=x:=⟨_,rfl⟩
 have hge:w.heap.size≤N:=by omega
 have hN2:P+1=N:=by rw[←hP];exact hN
 obtain⟨w0,hw0⟩:∃ y,(w.alloc (.cells #[.int .i64 kd,.int .i64 n,.int .i64 sl,.int .i64 ea,.int .i64 sp,.int .u32 st] 59)).alloc (.cells #[.slice none 0 0,.int .i64 0,.int .i64 0,.slice none 0 0,.slice none 0 0,.int .i64 0,.slice none 0 0] 37)=y:=⟨_,rfl⟩
 rw[hw0]at bP bN hb0;rw[hN]at bN;rw[hP]at bP;have q0:w0.cell? ⟨P,0,none⟩=some (.int .i64 kd):=(Bc bP 0).trans rfl;have q1:w0.cell? ⟨P,1,none⟩=some (.int .i64 n):=(Bc bP 1).trans rfl;have q2:w0.cell? ⟨P,2,none⟩=some (.int .i64 sl):=(Bc bP 2).trans rfl;have q3:w0.cell? ⟨P,3,none⟩=some (.int .i64 ea):=(Bc bP 3).trans rfl;have q4:w0.cell? ⟨P,4,none⟩=some (.int .i64 sp):=(Bc bP 4).trans rfl;have q5:w0.cell? ⟨P,5,none⟩=some (.int .u32 st):=(Bc bP 5).trans rfl;replace bN:=Az bN;replace hb0:=Az hb0;have he0:=he.below hb0.out;replace he0:=Az he0;clear bP;go_enter Tryz.func25,Tryz.ntmps25;go_upto_region 1 with fail
 try rw[hw0]
 try rw[hN]
 try rw[hP]
 try rw[hN2]
 clear hw0 hN;by_cases hbad:kd<1∨8<kd∨sp<1∨1000<sp
 ·have hQ:=Az (qF_bad (kd:=kd) (n:=n) (sl:=sl) (ea:=ea) (sp:=sp) (st:=st) (by omega));have d0:w0.cell? ⟨N,0,none⟩=some (.slice none 0 0):=(Bc bN.out 0).trans rfl;have d1:w0.cell? ⟨N,1,none⟩=some (.int .i64 0):=(Bc bN.out 1).trans rfl;have d2:w0.cell? ⟨N,2,none⟩=some (.int .i64 0):=(Bc bN.out 2).trans rfl;have d3:w0.cell? ⟨N,3,none⟩=some (.slice none 0 0):=(Bc bN.out 3).trans rfl;have d4:w0.cell? ⟨N,4,none⟩=some (.slice none 0 0):=(Bc bN.out 4).trans rfl;have d5:w0.cell? ⟨N,5,none⟩=some (.int .i64 0):=(Bc bN.out 5).trans rfl;have d6:w0.cell? ⟨N,6,none⟩=some (.slice none 0 0):=(Bc bN.out 6).trans rfl;have e0:=Bf bN.out 0;have e1:=Bf bN.out 1;have e2:=Bf bN.out 2;have e3:=Bf bN.out 3;have e4:=Bf bN.out 4;have e5:=Bf bN.out 5;have e6:=Bf bN.out 6;have z0:N<w0.heap.size:=Bl bN.out;have hres:=Bj hb0.out hge bN.out (.slice none 0 0) (.int .i64 0) (.int .i64 0) (.slice none 0 0) (.slice none 0 0) (.int .i64 0) (.slice none 0 0);replace hres:=Az hres;go_cut [21] (fun v wx=>v=.bool true∧wx=w0)
  case first =>
   by_cases c0:kd<1
   ·have p0:decide (kd<1)=true:=decide_eq_true c0;go_wp2;go_meet
    exact⟨rfl,rfl⟩
   have p0:decide (kd<1)=false:=decide_eq_false c0;by_cases c1:8<kd
   ·have p1:decide (8<kd)=true:=decide_eq_true c1;go_wp2;go_meet
    exact⟨rfl,rfl⟩
   have p1:decide (8<kd)=false:=decide_eq_false c1;by_cases c2:sp<1
   ·have p2:decide (sp<1)=true:=decide_eq_true c2;go_wp2;go_meet
    exact⟨rfl,rfl⟩
   have p2:decide (sp<1)=false:=decide_eq_false c2;have p3:decide (1000<sp)=true:=decide_eq_true (by omega);go_wp2;go_meet
   exact⟨rfl,rfl⟩
  case rest =>
   obtain⟨rfl,rfl⟩:=hcut;go_wp2;obtain⟨g1,g2,_⟩:=hres.out _ rfl;have g3:=QRes.no (e:=.returned (.tuple #[.agg #[.slice none 0 0,.int .i64 0,.int .i64 0,.slice none 0 0,.slice none 0 0,.int .i64 0,.slice none 0 0],.int .i64 5])) hQ.out ⟨rfl,g2⟩;exact bodyPost_ret (Ah rfl _ _ N 37 #[.slice none 0 0,.int .i64 0,.int .i64 0,.slice none 0 0,.slice none 0 0,.int .i64 0,.slice none 0 0] (0,0) _ rfl g1 Tryz.underlying37 rfl (by kernel_rfl)) rfl (g3.cast rfl)
 have p0:decide (kd<1)=false:=decide_eq_false (by omega);have p1:decide (8<kd)=false:=decide_eq_false (by omega);have p2:decide (sp<1)=false:=decide_eq_false (by omega);have p3:decide (1000<sp)=false:=decide_eq_false (by omega);have hk:kd=1∨kd=2∨kd=3∨kd=4∨kd=5∨kd=6∨kd=7∨kd=8:=by omega
 have hsp:¬(sp<1∨1000<sp):=by omega
 clear hbad;rcases hk with rfl |rfl |rfl |rfl |rfl |rfl |rfl |rfl
 ·have hQ:=Az (qF_1 (n:=n) (sl:=sl) (ea:=ea) (st:=st) hsp);have CC:=Az (ticket_q n st w0 he0.out);clear hsp;go_wp2_with fail
  refine CC.out.mono ?_;intro e w1 hq;obtain⟨A,B,C,D,m,c,n1,n2,n3,k1,k2,k3,l,u,ec,n9,rfl,hN1,hres⟩:=QRes.put hq hb0.out hge bN.out;clear hq CC q0 q1 q2 q3 q4 q5 bN;replace hres:=Az hres;have d0:w1.cell? ⟨N,0,none⟩=some (.slice none 0 0):=(Bc hN1 0).trans rfl;have d1:w1.cell? ⟨N,1,none⟩=some (.int .i64 0):=(Bc hN1 1).trans rfl;have d2:w1.cell? ⟨N,2,none⟩=some (.int .i64 0):=(Bc hN1 2).trans rfl;have d3:w1.cell? ⟨N,3,none⟩=some (.slice none 0 0):=(Bc hN1 3).trans rfl;have d4:w1.cell? ⟨N,4,none⟩=some (.slice none 0 0):=(Bc hN1 4).trans rfl;have d5:w1.cell? ⟨N,5,none⟩=some (.int .i64 0):=(Bc hN1 5).trans rfl;have d6:w1.cell? ⟨N,6,none⟩=some (.slice none 0 0):=(Bc hN1 6).trans rfl;have e0:=Bf hN1 0;have e1:=Bf hN1 1;have e2:=Bf hN1 2;have e3:=Bf hN1 3;have e4:=Bf hN1 4;have e5:=Bf hN1 5;have e6:=Bf hN1 6;have z0:N<w1.heap.size:=Bl hN1;clear hN1;go_wp2;obtain⟨g1,g2⟩:=hres.out _ rfl;have g3:=QRes.eq hQ.out g2;exact bodyPost_ret (Ah rfl _ _ N 37 #[.slice A m c,.int .i64 l,.int .i64 u,.slice B n1 k1,.slice C n2 k2,.int .i64 ec,.slice D n3 k3] (0,0) _ rfl g1 Tryz.underlying37 rfl (by kernel_rfl)) rfl (g3.cast rfl)
 ·have hQ:=Az (qF_2 (n:=n) (sl:=sl) (ea:=ea) (st:=st) hsp);have CC:=Az (anderson_q n sl st hst w0 he0.out);clear hsp;go_wp2_with fail
  refine CC.out.mono ?_;intro e w1 hq;obtain⟨A,B,C,D,m,c,n1,n2,n3,k1,k2,k3,l,u,ec,n9,rfl,hN1,hres⟩:=QRes.put hq hb0.out hge bN.out;clear hq CC q0 q1 q2 q3 q4 q5 bN;replace hres:=Az hres;have d0:w1.cell? ⟨N,0,none⟩=some (.slice none 0 0):=(Bc hN1 0).trans rfl;have d1:w1.cell? ⟨N,1,none⟩=some (.int .i64 0):=(Bc hN1 1).trans rfl;have d2:w1.cell? ⟨N,2,none⟩=some (.int .i64 0):=(Bc hN1 2).trans rfl;have d3:w1.cell? ⟨N,3,none⟩=some (.slice none 0 0):=(Bc hN1 3).trans rfl;have d4:w1.cell? ⟨N,4,none⟩=some (.slice none 0 0):=(Bc hN1 4).trans rfl;have d5:w1.cell? ⟨N,5,none⟩=some (.int .i64 0):=(Bc hN1 5).trans rfl;have d6:w1.cell? ⟨N,6,none⟩=some (.slice none 0 0):=(Bc hN1 6).trans rfl;have e0:=Bf hN1 0;have e1:=Bf hN1 1;have e2:=Bf hN1 2;have e3:=Bf hN1 3;have e4:=Bf hN1 4;have e5:=Bf hN1 5;have e6:=Bf hN1 6;have z0:N<w1.heap.size:=Bl hN1;clear hN1;go_wp2;obtain⟨g1,g2⟩:=hres.out _ rfl;have g3:=QRes.eq hQ.out g2;exact bodyPost_ret (Ah rfl _ _ N 37 #[.slice A m c,.int .i64 l,.int .i64 u,.slice B n1 k1,.slice C n2 k2,.int .i64 ec,.slice D n3 k3] (0,0) _ rfl g1 Tryz.underlying37 rfl (by kernel_rfl)) rfl (g3.cast rfl)
 ·have hQ:=Az (qF_3 (n:=n) (sl:=sl) (ea:=ea) (st:=st) hsp);have CC:=Az (graunke_q n w0 he0.out);clear hsp;go_wp2_with fail
  refine CC.out.mono ?_;intro e w1 hq;obtain⟨A,B,C,D,m,c,n1,n2,n3,k1,k2,k3,l,u,ec,n9,rfl,hN1,hres⟩:=QRes.put hq hb0.out hge bN.out;clear hq CC q0 q1 q2 q3 q4 q5 bN;replace hres:=Az hres;have d0:w1.cell? ⟨N,0,none⟩=some (.slice none 0 0):=(Bc hN1 0).trans rfl;have d1:w1.cell? ⟨N,1,none⟩=some (.int .i64 0):=(Bc hN1 1).trans rfl;have d2:w1.cell? ⟨N,2,none⟩=some (.int .i64 0):=(Bc hN1 2).trans rfl;have d3:w1.cell? ⟨N,3,none⟩=some (.slice none 0 0):=(Bc hN1 3).trans rfl;have d4:w1.cell? ⟨N,4,none⟩=some (.slice none 0 0):=(Bc hN1 4).trans rfl;have d5:w1.cell? ⟨N,5,none⟩=some (.int .i64 0):=(Bc hN1 5).trans rfl;have d6:w1.cell? ⟨N,6,none⟩=some (.slice none 0 0):=(Bc hN1 6).trans rfl;have e0:=Bf hN1 0;have e1:=Bf hN1 1;have e2:=Bf hN1 2;have e3:=Bf hN1 3;have e4:=Bf hN1 4;have e5:=Bf hN1 5;have e6:=Bf hN1 6;have z0:N<w1.heap.size:=Bl hN1;clear hN1;go_wp2;obtain⟨g1,g2⟩:=hres.out _ rfl;have g3:=QRes.eq hQ.out g2;exact bodyPost_ret (Ah rfl _ _ N 37 #[.slice A m c,.int .i64 l,.int .i64 u,.slice B n1 k1,.slice C n2 k2,.int .i64 ec,.slice D n3 k3] (0,0) _ rfl g1 Tryz.underlying37 rfl (by kernel_rfl)) rfl (g3.cast rfl)
 ·have hQ:=Az (qF_4 (n:=n) (sl:=sl) (ea:=ea) (st:=st) hsp);have CC:=Az (clh_q n w0 he0.out);clear hsp;go_wp2_with fail
  refine CC.out.mono ?_;intro e w1 hq;obtain⟨A,B,C,D,m,c,n1,n2,n3,k1,k2,k3,l,u,ec,n9,rfl,hN1,hres⟩:=QRes.put hq hb0.out hge bN.out;clear hq CC q0 q1 q2 q3 q4 q5 bN;replace hres:=Az hres;have d0:w1.cell? ⟨N,0,none⟩=some (.slice none 0 0):=(Bc hN1 0).trans rfl;have d1:w1.cell? ⟨N,1,none⟩=some (.int .i64 0):=(Bc hN1 1).trans rfl;have d2:w1.cell? ⟨N,2,none⟩=some (.int .i64 0):=(Bc hN1 2).trans rfl;have d3:w1.cell? ⟨N,3,none⟩=some (.slice none 0 0):=(Bc hN1 3).trans rfl;have d4:w1.cell? ⟨N,4,none⟩=some (.slice none 0 0):=(Bc hN1 4).trans rfl;have d5:w1.cell? ⟨N,5,none⟩=some (.int .i64 0):=(Bc hN1 5).trans rfl;have d6:w1.cell? ⟨N,6,none⟩=some (.slice none 0 0):=(Bc hN1 6).trans rfl;have e0:=Bf hN1 0;have e1:=Bf hN1 1;have e2:=Bf hN1 2;have e3:=Bf hN1 3;have e4:=Bf hN1 4;have e5:=Bf hN1 5;have e6:=Bf hN1 6;have z0:N<w1.heap.size:=Bl hN1;clear hN1;go_wp2;obtain⟨g1,g2⟩:=hres.out _ rfl;have g3:=QRes.eq hQ.out g2;exact bodyPost_ret (Ah rfl _ _ N 37 #[.slice A m c,.int .i64 l,.int .i64 u,.slice B n1 k1,.slice C n2 k2,.int .i64 ec,.slice D n3 k3] (0,0) _ rfl g1 Tryz.underlying37 rfl (by kernel_rfl)) rfl (g3.cast rfl)
 ·have hQ:=Az (qF_5 (n:=n) (sl:=sl) (ea:=ea) (st:=st) hsp);have CC:=Az (mcs_q n w0 he0.out);clear hsp;go_wp2_with fail
  refine CC.out.mono ?_;intro e w1 hq;obtain⟨A,B,C,D,m,c,n1,n2,n3,k1,k2,k3,l,u,ec,n9,rfl,hN1,hres⟩:=QRes.put hq hb0.out hge bN.out;clear hq CC q0 q1 q2 q3 q4 q5 bN;replace hres:=Az hres;have d0:w1.cell? ⟨N,0,none⟩=some (.slice none 0 0):=(Bc hN1 0).trans rfl;have d1:w1.cell? ⟨N,1,none⟩=some (.int .i64 0):=(Bc hN1 1).trans rfl;have d2:w1.cell? ⟨N,2,none⟩=some (.int .i64 0):=(Bc hN1 2).trans rfl;have d3:w1.cell? ⟨N,3,none⟩=some (.slice none 0 0):=(Bc hN1 3).trans rfl;have d4:w1.cell? ⟨N,4,none⟩=some (.slice none 0 0):=(Bc hN1 4).trans rfl;have d5:w1.cell? ⟨N,5,none⟩=some (.int .i64 0):=(Bc hN1 5).trans rfl;have d6:w1.cell? ⟨N,6,none⟩=some (.slice none 0 0):=(Bc hN1 6).trans rfl;have e0:=Bf hN1 0;have e1:=Bf hN1 1;have e2:=Bf hN1 2;have e3:=Bf hN1 3;have e4:=Bf hN1 4;have e5:=Bf hN1 5;have e6:=Bf hN1 6;have z0:N<w1.heap.size:=Bl hN1;clear hN1;go_wp2;obtain⟨g1,g2⟩:=hres.out _ rfl;have g3:=QRes.eq hQ.out g2;exact bodyPost_ret (Ah rfl _ _ N 37 #[.slice A m c,.int .i64 l,.int .i64 u,.slice B n1 k1,.slice C n2 k2,.int .i64 ec,.slice D n3 k3] (0,0) _ rfl g1 Tryz.underlying37 rfl (by kernel_rfl)) rfl (g3.cast rfl)
 ·have hQ:=Az (qF_6 (n:=n) (sl:=sl) (ea:=ea) (st:=st) hsp);have CC:=Az (k42_q n w0 he0.out);clear hsp;go_wp2_with fail
  refine CC.out.mono ?_;intro e w1 hq;obtain⟨A,B,C,D,m,c,n1,n2,n3,k1,k2,k3,l,u,ec,n9,rfl,hN1,hres⟩:=QRes.put hq hb0.out hge bN.out;clear hq CC q0 q1 q2 q3 q4 q5 bN;replace hres:=Az hres;have d0:w1.cell? ⟨N,0,none⟩=some (.slice none 0 0):=(Bc hN1 0).trans rfl;have d1:w1.cell? ⟨N,1,none⟩=some (.int .i64 0):=(Bc hN1 1).trans rfl;have d2:w1.cell? ⟨N,2,none⟩=some (.int .i64 0):=(Bc hN1 2).trans rfl;have d3:w1.cell? ⟨N,3,none⟩=some (.slice none 0 0):=(Bc hN1 3).trans rfl;have d4:w1.cell? ⟨N,4,none⟩=some (.slice none 0 0):=(Bc hN1 4).trans rfl;have d5:w1.cell? ⟨N,5,none⟩=some (.int .i64 0):=(Bc hN1 5).trans rfl;have d6:w1.cell? ⟨N,6,none⟩=some (.slice none 0 0):=(Bc hN1 6).trans rfl;have e0:=Bf hN1 0;have e1:=Bf hN1 1;have e2:=Bf hN1 2;have e3:=Bf hN1 3;have e4:=Bf hN1 4;have e5:=Bf hN1 5;have e6:=Bf hN1 6;have z0:N<w1.heap.size:=Bl hN1;clear hN1;go_wp2;obtain⟨g1,g2⟩:=hres.out _ rfl;have g3:=QRes.eq hQ.out g2;exact bodyPost_ret (Ah rfl _ _ N 37 #[.slice A m c,.int .i64 l,.int .i64 u,.slice B n1 k1,.slice C n2 k2,.int .i64 ec,.slice D n3 k3] (0,0) _ rfl g1 Tryz.underlying37 rfl (by kernel_rfl)) rfl (g3.cast rfl)
 ·have hQ:=Az (qF_7 (n:=n) (sl:=sl) (ea:=ea) (st:=st) hsp);have CC:=Az (clhtry_q n ea w0 he0.out);clear hsp;go_wp2_with fail
  refine CC.out.mono ?_;intro e w1 hq;obtain⟨A,B,C,D,m,c,n1,n2,n3,k1,k2,k3,l,u,ec,n9,rfl,hN1,hres⟩:=QRes.put hq hb0.out hge bN.out;clear hq CC q0 q1 q2 q3 q4 q5 bN;replace hres:=Az hres;have d0:w1.cell? ⟨N,0,none⟩=some (.slice none 0 0):=(Bc hN1 0).trans rfl;have d1:w1.cell? ⟨N,1,none⟩=some (.int .i64 0):=(Bc hN1 1).trans rfl;have d2:w1.cell? ⟨N,2,none⟩=some (.int .i64 0):=(Bc hN1 2).trans rfl;have d3:w1.cell? ⟨N,3,none⟩=some (.slice none 0 0):=(Bc hN1 3).trans rfl;have d4:w1.cell? ⟨N,4,none⟩=some (.slice none 0 0):=(Bc hN1 4).trans rfl;have d5:w1.cell? ⟨N,5,none⟩=some (.int .i64 0):=(Bc hN1 5).trans rfl;have d6:w1.cell? ⟨N,6,none⟩=some (.slice none 0 0):=(Bc hN1 6).trans rfl;have e0:=Bf hN1 0;have e1:=Bf hN1 1;have e2:=Bf hN1 2;have e3:=Bf hN1 3;have e4:=Bf hN1 4;have e5:=Bf hN1 5;have e6:=Bf hN1 6;have z0:N<w1.heap.size:=Bl hN1;clear hN1;go_wp2;obtain⟨g1,g2⟩:=hres.out _ rfl;have g3:=QRes.eq hQ.out g2;exact bodyPost_ret (Ah rfl _ _ N 37 #[.slice A m c,.int .i64 l,.int .i64 u,.slice B n1 k1,.slice C n2 k2,.int .i64 ec,.slice D n3 k3] (0,0) _ rfl g1 Tryz.underlying37 rfl (by kernel_rfl)) rfl (g3.cast rfl)
 ·have hQ:=Az (qF_8 (n:=n) (sl:=sl) (ea:=ea) (st:=st) hsp);have CC:=Az (mcstry_q n ea w0 he0.out);clear hsp;go_wp2_with fail
  refine CC.out.mono ?_;intro e w1 hq;obtain⟨A,B,C,D,m,c,n1,n2,n3,k1,k2,k3,l,u,ec,n9,rfl,hN1,hres⟩:=QRes.put hq hb0.out hge bN.out;clear hq CC q0 q1 q2 q3 q4 q5 bN;replace hres:=Az hres;have d0:w1.cell? ⟨N,0,none⟩=some (.slice none 0 0):=(Bc hN1 0).trans rfl;have d1:w1.cell? ⟨N,1,none⟩=some (.int .i64 0):=(Bc hN1 1).trans rfl;have d2:w1.cell? ⟨N,2,none⟩=some (.int .i64 0):=(Bc hN1 2).trans rfl;have d3:w1.cell? ⟨N,3,none⟩=some (.slice none 0 0):=(Bc hN1 3).trans rfl;have d4:w1.cell? ⟨N,4,none⟩=some (.slice none 0 0):=(Bc hN1 4).trans rfl;have d5:w1.cell? ⟨N,5,none⟩=some (.int .i64 0):=(Bc hN1 5).trans rfl;have d6:w1.cell? ⟨N,6,none⟩=some (.slice none 0 0):=(Bc hN1 6).trans rfl;have e0:=Bf hN1 0;have e1:=Bf hN1 1;have e2:=Bf hN1 2;have e3:=Bf hN1 3;have e4:=Bf hN1 4;have e5:=Bf hN1 5;have e6:=Bf hN1 6;have z0:N<w1.heap.size:=Bl hN1;clear hN1;go_wp2;obtain⟨g1,g2⟩:=hres.out _ rfl;have g3:=QRes.eq hQ.out g2;exact bodyPost_ret (Ah rfl _ _ N 37 #[.slice A m c,.int .i64 l,.int .i64 u,.slice B n1 k1,.slice C n2 k2,.int .i64 ec,.slice D n3 k3] (0,0) _ rfl g1 Tryz.underlying37 rfl (by kernel_rfl)) rfl (g3.cast rfl)
theorem q_bad:qF 2 3 2 0 1 0=none:=by
 rw[qF_2 (by omega)];unfold qAnderson;rw[if_neg];rintro⟨k,M,h1,h2,_,_,h5⟩;omega
theorem q_good:qF 2 3 4 0 1 0=some ⟨DA 3,[1,4],Nu 3 0,List.replicate 3 0,0⟩:=by
 rw[qF_2 (by omega)];unfold qAnderson;rw[if_pos ⟨3,3,rfl,rfl,.inr (.inr (.inl rfl)),by decide,by decide⟩];rfl
theorem awake22_calls(w:World)(he:Env22 w):Calls Tryz.prog 28 #[] w fun e w'=>e=.returned (.bool true)∧Below w.heap.size w w':=by
 have C1:=Az (qspec_calls 2 3 2 0 1 0 (by decide) w he.env);have C2:=Az (fun(W:World) (heW:Env W)=>qspec_calls 2 3 4 0 1 0 (by decide) W heW);have CN:=Az (fun(W:World) (heW:Env22 W)=>qname_calls 2 W heW);rw[q_bad]at C1;simp only[q_good]at C2;have en:nameF 2=[97,110,100,101,114,115,111,110]:=rfl;simp only[en]at CN;replace he:=Az he;go_enter Tryz.func28,Tryz.ntmps28;go_wp2_with fail
 refine C1.out.mono ?_;rintro e w1 ⟨rfl,hb⟩;have hb2:=Az (hb.trans ((Bw w1 (.cells #[.slice none 0 0,.int .i64 0,.int .i64 0,.slice none 0 0,.slice none 0 0,.int .i64 0,.slice none 0 0] 37)).mono hb.size));clear hb C1;go_wp2_with fail
 refine(C2.out _ (he.out.env.below hb2.out)).mono ?_;rintro e w3 ⟨va,vs,vi,vr,rfl,hr,h1,h2,h3,hb⟩;obtain⟨A,m,c,rfl⟩:=AB hr;obtain⟨B,k1,rfl⟩:=h1.rdn.slice;obtain⟨C,k2,e2⟩:=h2.rdn.slice;obtain⟨D,k3,rfl⟩:=h3.rdn.slice;have e4:vi=.slice C 5 k2:=e2;subst e4;have hb5:=hb2.out.trans (hb.mono hb2.out.size);have hb4:=Az (fun o=>hb5.alloc hb5.size o);clear hb hb5 hr h1 h2 h3 C2 hb2 e2;dsimp only;generalize (At (DA 3)).1.lock=lk;generalize (At (DA 3)).1.unlock=uk;go_wp2_with fail
 refine(CN.out _ (he.out.below (hb4.out _))).mono ?_;rintro e w5 ⟨rfl,rfl⟩;go_wp2;go_ret;exact⟨rfl,hb4.out _⟩
end
end Go.Proofs.YtjjpiefgdggghaaGreatDoor
