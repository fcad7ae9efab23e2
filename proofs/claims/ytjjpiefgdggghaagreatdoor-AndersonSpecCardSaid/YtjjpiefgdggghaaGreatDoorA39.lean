/- Parts: AndersonM, AnText, LogF. -/
import Derived.Test.YtjjpiefgdggghaaGreatDoorA03
import Derived.Test.YtjjpiefgdggghaaGreatDoorA11
import Derived.KernelRfl
import Derived.Test.YtjjpiefgdggghaaGreatDoorA06
import Derived.Lib.ReplaceLaws
import Derived.Lib.ItoaNum
import Derived.Test.YtjjpiefgdggghaaGreatDoorA13
import Derived.Test.YtjjpiefgdggghaaGreatDoorA38
set_option linter.unusedVariables false
set_option linter.unusedSimpArgs false
set_option maxRecDepth 100000
set_option maxHeartbeats 40000000
namespace Go.Proofs.YtjjpiefgdggghaaGreatDoor
section
def Du(M:Nat):Pg:=⟨[⟨20,1,0,0,0,0,1,0⟩,⟨12,0,0,0,0,0,1,0⟩,⟨4,2,1,0,0,0,M,0⟩,⟨1,3,0,0,0,0,1,0⟩,⟨21,4,2,3,0,1,0,-1⟩,⟨12,0,0,0,0,0,2,0⟩,⟨17,0,2,0,0,1,0,0⟩,⟨13,0,0,0,0,0,1,0⟩,⟨3,2,1,0,0,0,1,0⟩,⟨4,2,2,0,0,0,M,0⟩,⟨1,3,0,0,0,0,1,0⟩,⟨17,0,2,3,0,1,0,0⟩,⟨12,0,0,0,0,0,4,0⟩,⟨13,0,0,0,0,0,2,0⟩],0,8⟩
def FB(M:Nat):Prop:=M=0∨M=1∨M=3∨M=7∨M=15∨M=31∨M=63
theorem Ir{M:Nat}(h:FB M)(x:Nat):Nat.land x M=x%(M+1):=by
 have e:∀ j:Nat,Nat.land x (2 ^ j-1)=x%2 ^ j:=fun j=>Nat.and_two_pow_sub_one_eq_mod x j
 rcases h with rfl |rfl |rfl |rfl |rfl |rfl |rfl
 ·exact e 0
 ·exact e 1
 ·exact e 2
 ·exact e 3
 ·exact e 4
 ·exact e 5
 ·exact e 6
theorem Fe{M:Nat}(h:FB M)(x:Nat):x%B5%(M+1)=x%(M+1):=by
 unfold B5;rcases h with rfl |rfl |rfl |rfl |rfl |rfl |rfl<;>omega
theorem CF{M:Nat}(h:FB M):M<64:=by rcases h with rfl |rfl |rfl |rfl |rfl |rfl |rfl<;>decide
theorem ON{M o i:Nat}(h0:0<i)(h1:i≤M):(o+i)%(M+1)≠o%(M+1):=by
 intro e;have:=Nat.sub_mod_eq_zero_of_mod_eq e;rw[Nat.add_sub_cancel_left,Nat.mod_eq_of_lt (by omega)]at this;omega
inductive Kj where
 |idle
 |p0
 |wt (k:Nat)
 |g (k:Nat)
 |hold (k:Nat)
 |rel (k:Nat)
def Kj.is(M:Nat):Kj→Nat→CoreM→Nat→Prop
 |.idle,a,c,l=>a=0∧(l=0∨l=10)∧∃ r1 r2 r3 r4 r7 pc,c=⟨[0,r1,r2,r3,r4,0,0,r7],pc⟩
 |.p0,a,c,l=>a=1∧l=1∧∃ r1 r2 r3 r4 r7,c=⟨[0,r1,r2,r3,r4,0,0,r7],0⟩
 |.wt k,a,c,l=>a=1∧l=2∧∃ r4 r7,c=⟨[0,k,k%(M+1),1,r4,0,0,r7],4⟩
 |.g k,a,c,l=>a=1∧l=3∧∃ r4 r7,c=⟨[0,k,k%(M+1),1,r4,0,0,r7],6⟩
 |.hold k,a,c,l=>a=2∧l=5∧∃ r4 r7,c=⟨[0,k,k%(M+1),1,r4,0,0,r7],7⟩
 |.rel k,a,c,l=>a=3∧l=8∧∃ r4 r7,c=⟨[0,k,(k+1)%(M+1),1,r4,0,0,r7],11⟩
def Kj.rk:Kj→Nat
 |.idle=>0
 |.p0=>5
 |.wt _=>4
 |.g _=>3
 |.hold _=>2
 |.rel _=>1
def So(n:Nat)(P:Nat→Kj):Nat:=Bz n (fun t=>(P t).rk)
theorem Ok{n t:Nat}{P:Nat→Kj}(ht:t<n)(p:Kj):So n (Cb P t p)+(P t).rk=So n P+p.rk:=by
 have:=G7 (f:=fun t=>(P t).rk) (g:=fun u=>(Cb P t p u).rk) n ht (fun u hu=>by show(Cb P t p u).rk=_;rw[BR _ _ hu]);simp only[AT]at this;exact this
def JW(P:Nat→Kj):Nat→List Nat→Prop
 |_,[]=>True
 |b,t::q=>P t=.wt (b%B5)∧JW P (b+1) q
theorem DO{P:Nat→Kj}{t:Nat}{p:Kj}:∀ (q:List Nat) (b:Nat),t∉q→JW P b q→JW (Cb P t p) b q
 |[],_,_,_=>trivial
 |s::q,b,ht,h=>by
  rw[List.mem_cons,not_or]at ht;exact⟨by rw[BR _ _ (fun e=>ht.1 e.symm)];exact h.1,DO q (b+1) ht.2 h.2⟩
theorem JX{P:Nat→Kj}{t:Nat}:∀ (q:List Nat) (b:Nat),JW P b q→P t=.wt ((b+q.length)%B5)→JW P b (q++[t])
 |[],b,_,h=>⟨by simpa using h,trivial⟩
 |s::q,b,hq,h=>⟨hq.1,JX q (b+1) hq.2 (by rw[h,List.length_cons];congr 2;omega)⟩
theorem El{P:Nat→Kj}{t:Nat}:∀ (q:List Nat) (b:Nat),JW P b q→t∈q→∃ i,i<q.length∧P t=.wt ((b+i)%B5)∧(i=0→∃ q',q=t::q')
 |s::q,b,hq,h=>by
  by_cases e:t=s
  ·subst e;exact⟨0,by simp,hq.1,fun _=>⟨q,rfl⟩⟩
  ·obtain⟨i,h1,h2,_⟩:=El q (b+1) hq.2 (by simpa [e]using h);exact⟨i+1,by simp;omega,by rw[h2];congr 2;omega,fun h=>by omega⟩
theorem Hk:∀ (n:Nat) (q:List Nat),q.Nodup→(∀ t∈q,t<n)→q.length≤n
 |0,[],_,_=>Nl _
 |0,t::_,_,h=>absurd (h t (List.mem_cons_self ..)) (by omega)
 |n+1,q,hn,hl=>by
  have h:=Hk n (q.erase n) (hn.erase n) (fun t ht=>by
   have h1:=(hn.mem_erase_iff).1 ht;have:=hl t h1.2;omega)
  rw[List.length_erase]at h;split at h<;>omega
structure VQ where
 P:Nat→Kj
 L:Nat→Nat
 H:Option Nat
 up:Bool
 o:Nat
 q:List Nat
 m:Nat→Nat→Nat
abbrev Kk(M:Nat):List Nat:=[1,M+1]
structure Kl (n M:Nat) (g:VQ) (s:LS):Prop where
 W:Wd (Kk M) s.words g.m
 is:∀ t,t<n→(g.P t).is M (s.act t) (s.core t) (g.L t)
 tail:g.m 0 0=(g.o+g.H.toList.length+g.q.length)%B5
 fl:∀ p,p<M+1→g.m 1 p=if g.up=true∧p=g.o%(M+1) then 1 else 0
 w:JW g.P (g.o+g.H.toList.length) g.q
 hold:∀ t∈g.H,t<n∧t∉g.q∧(g.up=true∧g.P t=.g (g.o%B5)∨g.up=false∧(g.P t=.hold (g.o%B5)∨g.P t=.rel (g.o%B5)))
 no:g.H=none→g.up=true
 free:∀ t,t<n→t∉g.q→t∉g.H→g.P t=.idle∨g.P t=.p0
 nd:g.q.Nodup
 lt:∀ t∈g.q,t<n
 tr:Db n s.tr g.L g.q
section
variable {n M:Nat} {s s':LS} {g:VQ} {t:Nat} {r:AH} {late:Int}
theorem Fw{P:Nat→Kj}{A:Nat→Nat}{C:Nat→CoreM}{L:Nat→Nat}(h:∀ u,u<n→(P u).is M (A u) (C u) (L u))(p:Kj)(a:Nat)(c:CoreM)(l:Nat)(hp:p.is M a c l) :
  ∀ u,u<n→(Cb P t p u).is M (Cb A t a u) (Cb C t c u) (Cb L t l u):=by
 intro u hu;by_cases e:u=t
 ·subst e;simp only[AT];exact hp
 ·simp only[BR _ _ e];exact h u hu
theorem LM(h:Kl n M g s)(hP:∀ k,g.P t≠.wt k):t∉g.q:=fun hm=>by
 obtain⟨i,_,e,_⟩:=El _ _ h.w hm;exact hP _ e
theorem OO(h:Kl n M g s)(h0:∀ k,g.P t≠.g k)(h1:∀ k,g.P t≠.hold k)(h2:∀ k,g.P t≠.rel k):t∉g.H:=fun hm=>by
 rcases(h.hold t hm).2.2 with ⟨_,e⟩ |⟨_,e |e⟩
 ·exact h0 _ e
 ·exact h1 _ e
 ·exact h2 _ e
theorem UH(h:Kl n M g s)(ht:t<n)(hw:∀ k,g.P t≠.wt k)(hi:g.P t≠.idle)(hp:g.P t≠.p0):g.H=some t∧t∉g.q∧(g.up=true∧g.P t=.g (g.o%B5)∨g.up=false∧(g.P t=.hold (g.o%B5)∨g.P t=.rel (g.o%B5))):=by
 have hq:=LM h hw;by_cases hH:t∈g.H
 ·exact⟨by simpa using hH,hq,(h.hold t hH).2.2⟩
 ·rcases h.free t ht hq hH with e |e
  ·exact absurd e hi
  ·exact absurd e hp
theorem OP(hs:C8 n (Du M) (Bt (Kk M)) r s)(h:Kl n M g s)(ht:t<n)(ha:s.act t=0) :
  ∃ s',C8 n (Du M) (Bt (Kk M)) (r.op 1 t late) s'∧Kl n M {g with P:=Cb g.P t .p0,L:=Cb g.L t 1} s'∧s'.act=Cb s.act t 1:=by
 have hP:g.P t=.idle:=by
  have:=h.is t ht;cases hp:g.P t<;>rw[hp]at this<;>simp only[Kj.is]at this<;>omega
 have hi:=h.is t ht;rw[hP]at hi;obtain⟨_,hl,r1,r2,r3,r4,r7,pc,hc⟩:=hi;have hq:=LM h (t:=t) (by rw[hP];simp);have hH:=OO h (t:=t) (by rw[hP];simp) (by rw[hP];simp) (by rw[hP];simp);obtain⟨s',a1,a2,a3,a4,a5⟩:=hs.VJ (late:=late) h.W ht ha hc (c':=⟨[0,r1,r2,r3,r4,0,0,r7],0⟩) rfl;refine⟨s',a1,⟨a2,?_,h.tail,h.fl,DO _ _ hq h.w,fun u hu=>?_,h.no,fun u hu h1 h2=>?_,h.nd,h.lt,by rw[a5];exact h.tr.call ht hq (by omega)⟩,a4⟩
 ·rw[a3,a4];exact Fw h.is .p0 1 _ 1 ⟨rfl,rfl,r1,r2,r3,r4,r7,rfl⟩
 ·obtain⟨a1,a2,a3⟩:=h.hold u hu;have e:u≠t:=fun e=>hH (e▸hu)
  refine⟨a1,a2,?_⟩
  show _∧Cb g.P t _ u=_∨_∧(Cb g.P t _ u=_∨Cb g.P t _ u=_)
  rw[BR _ _ e];exact a3
 ·show Cb g.P t _ u=_∨Cb g.P t _ u=_
  by_cases e:u=t
  ·rw[e,AT];exact .inr rfl
  ·rw[BR _ _ e];exact h.free u hu h1 h2
theorem KU(hM:FB M)(hs:C8 n (Du M) (Bt (Kk M)) r s)(h:Kl n M g s)(ht:t<n)(ha:s.act t=2) :
  ∃ s' k,g.P t=.hold k∧C8 n (Du M) (Bt (Kk M)) (r.op 2 t late) s'∧Kl n M {g with P:=Cb g.P t (.rel k),L:=Cb g.L t 8} s'∧s'.act=Cb s.act t 3:=by
 obtain⟨k,hP⟩:∃ k,g.P t=.hold k:=by
  have:=h.is t ht;cases hp:g.P t<;>rw[hp]at this<;>simp only[Kj.is]at this
  case hold k=>exact⟨k,rfl⟩
  all_goals omega
 have hi:=h.is t ht;rw[hP]at hi;obtain⟨_,hl,r4,r7,hc⟩:=hi;obtain⟨hH,hq,h3⟩:=UH h ht (by rw[hP];simp) (by rw[hP];simp) (by rw[hP];simp);rw[hP]at h3;obtain⟨hup,hk⟩:g.up=false∧k=g.o%B5:=by
  rcases h3 with ⟨_,e⟩ |⟨e0,e |e⟩
  ·cases e
  ·cases e;exact⟨e0,rfl⟩
  ·cases e
 have ee:Sn (Du M) s.words t ((⟨[0,k,k%(M+1),1,r4,0,0,r7],7⟩:CoreM).at (Du M).unlock) (-1) 0=(s.words,⟨[0,k,Nat.land ((k+1)%B5) M,1,r4,0,0,r7],11⟩,⟨[],-1,-1,0,0,0⟩):=by kernel_rfl
 rw[Ir hM,Fe hM]at ee;obtain⟨s',a1,a2,a3,a4,a5⟩:=hs.T9 (late:=late) h.W ht ha hc ee;refine⟨s',k,hP,a1,⟨a2,?_,h.tail,h.fl,DO _ _ hq h.w,fun u hu=>?_,h.no,fun u hu h1 h2=>?_,h.nd,h.lt,by rw[a5];exact h.tr.unlock ht hq hl⟩,a4⟩
 ·rw[a3,a4];exact Fw h.is (.rel k) 3 _ 8 ⟨rfl,rfl,r4,r7,rfl⟩
 ·have hu':u∈g.H:=hu;rw[hH]at hu';obtain rfl:t=u:=by simpa using hu'
  exact⟨ht,hq,.inr ⟨hup,.inr (by show Cb g.P t _ t=_;rw[AT,hk])⟩⟩
 ·have e:u≠t:=fun e=>h2 (by show u∈g.H;rw[hH,e];rfl)
  show Cb g.P t _ u=_∨Cb g.P t _ u=_
  rw[BR _ _ e];exact h.free u hu h1 h2
variable {kind:Int}
theorem Ub(hM:FB M)(hn:n≤M+1)(hs:C8 n (Du M) (Bt (Kk M)) r s)(h:Kl n M g s)(ht:t<n)(hp:g.P t=.p0)(h1:kind≠1)(h2:kind≠2) :
  ∃ s',C8 n (Du M) (Bt (Kk M)) (r.op kind t late) s'∧∃ k,Kl n M {g with P:=Cb g.P t (.wt k),L:=Cb g.L t 2,q:=g.q++[t],m:=DZ g.m 0 0 ((k+1)%B5)} s'∧s'.act=Cb s.act t 1:=by
 have hi:=h.is t ht;rw[hp]at hi;obtain⟨hact,hl,r1,r2,r3,r4,r7,hc⟩:=hi;have hq:=LM h (t:=t) (by rw[hp];simp);have hH:=OO h (t:=t) (by rw[hp];simp) (by rw[hp];simp) (by rw[hp];simp);obtain⟨k,hk⟩:∃ k,(g.o+g.H.toList.length+g.q.length)%B5=k:=⟨_,rfl⟩
 have hm:=h.tail;rw[hk]at hm;have ee:∀ (l:Bool) (a:Nat),OQ (Du M) t ⟨[0,r1,r2,r3,r4,0,0,r7],0⟩ l k (decide (k=0)) a=(some ((k+1)%B5),⟨[0,k,Nat.land k M,1,r4,0,0,r7],4⟩,⟨[1],-1,a,1,0,0⟩):=fun l a=>by cases l<;>kernel_rfl
 rw[Ir hM]at ee;obtain⟨s',a1,a2,a3,a4,a5⟩:=hs.acc (late:=late) h.W ht (.inl hact) h1 h2 hc rfl 0 0 k _ rfl rfl (by show 0<1;decide) (by decide) hm rfl ee (by rw[hact];rfl);have a4':s'.act=Cb s.act t 1:=by rw[JF hact];exact a4
 have m0:DZ g.m 0 0 ((k+1)%B5) 0 0=(k+1)%B5:=(congrFun (AT _ _ _) 0).trans (AT _ _ _);have m1:DZ g.m 0 0 ((k+1)%B5) 1=g.m 1:=BR _ _ (by decide);refine⟨s',a1,k,⟨a2,?_,?_,fun p hp=>?_,JX _ _ (DO _ _ hq h.w) (by rw[hk];exact AT _ _ _),fun u hu=>?_,h.no,fun u hu h1 h2=>?_,?_,fun u hu=>?_,?_⟩,a4'⟩
 ·rw[a3,a4'];exact Fw h.is (.wt k) 1 _ 2 ⟨rfl,rfl,r4,r7,rfl⟩
 ·show DZ g.m 0 0 ((k+1)%B5) 0 0=(g.o+g.H.toList.length+(g.q++[t]).length)%B5
  rw[m0,←hk,Nat.mod_add_mod,List.length_append];rfl
 ·show DZ g.m 0 0 ((k+1)%B5) 1 p=_
  rw[m1];exact h.fl p hp
 ·obtain⟨a1,a2,a3⟩:=h.hold u hu;have e:u≠t:=fun e=>hH (e▸hu)
  refine⟨a1,by show u∉g.q++[t];simp[a2,e],?_⟩
  show _∧Cb g.P t _ u=_∨_∧(Cb g.P t _ u=_∨Cb g.P t _ u=_)
  rw[BR _ _ e];exact a3
 ·have e:u≠t:=fun e=>h1 (by show u∈g.q++[t];rw[e];simp)
  show Cb g.P t _ u=_∨Cb g.P t _ u=_
  rw[BR _ _ e];exact h.free u hu (fun hm=>h1 (List.mem_append_left _ hm)) h2
 ·show(g.q++[t]).Nodup
  rw[List.nodup_append];exact⟨h.nd,by simp,fun a ha b hb=>by rw[List.mem_singleton.1 hb];exact fun e=>hq (e▸ha)⟩
 ·rcases List.mem_append.1 hu with hu |hu
  ·exact h.lt u hu
  ·rw[List.mem_singleton.1 hu];exact ht
 ·rw[a5];exact h.tr.WX ht hq hl
theorem Nc(hM:FB M)(hn:n≤M+1)(hs:C8 n (Du M) (Bt (Kk M)) r s)(h:Kl n M g s)(ht:t<n)(hH:g.H=none){q:List Nat}(hq:g.q=t::q)(h1:kind≠1)(h2:kind≠2) :
  ∃ s',C8 n (Du M) (Bt (Kk M)) (r.op kind t late) s'∧(∃ k,g.P t=.wt k)∧Kl n M {g with P:=Cb g.P t (.g (g.o%B5)),L:=Cb g.L t 3,H:=some t,q:=q} s'∧s'.act=Cb s.act t 1:=by
 have hw:=h.w;rw[hq,hH]at hw;have hp:g.P t=.wt (g.o%B5):=hw.1;have hi:=h.is t ht;rw[hp]at hi;obtain⟨hact,hl,r4,r7,hc⟩:=hi;have hnd:(t::q).Nodup:=hq▸h.nd;have hnd:=List.nodup_cons.1 hnd;have hown:∀ u,u<n→MH (g.L u)=false:=fun u hu=>by
  have hiu:=h.is u hu;by_cases hm:u∈g.q
  ·obtain⟨i,_,e,_⟩:=El _ _ h.w hm;rw[e]at hiu;rw[hiu.2.1];rfl
  ·rcases h.free u hu hm (by rw[hH];simp) with e |e<;>rw[e]at hiu
   ·rcases hiu.2.1 with e |e<;>rw[e]<;>rfl
   ·rw[hiu.2.1];rfl
 have T0:=h.tr;rw[hq]at T0;have T1:=T0.VE ht hnd.1 hl hown;have hup:=h.no hH;have hf:=h.fl (g.o%(M+1)) (Nat.mod_lt _ (Nat.succ_pos M));rw[if_pos ⟨hup,rfl⟩]at hf;have hmm:=Fe hM g.o;have hM64:=CF hM;obtain⟨k,hk⟩:∃ k,g.o%B5=k:=⟨_,rfl⟩
 rw[hk]at hmm hc hp;rw[hmm]at hc;have hlt:g.o%(M+1)<M+1:=Nat.mod_lt _ (Nat.succ_pos M);obtain⟨p,hpp⟩:∃ p,g.o%(M+1)=p:=⟨_,rfl⟩
 rw[hpp]at hf hc hlt hmm;obtain⟨s',a1,a2,a3,a4,a5⟩:=hs.acc (late:=late) h.W ht (.inl hact) h1 h2 hc rfl 1 p 1 true rfl rfl hlt (by omega) hf rfl
  (wr:=none) (c':=⟨[0,k,p,1,1,0,0,r7],6⟩) (ms:=[2]) (done := -1) (wrote:=0) (stay:=0) (fun l a=>by cases l<;>kernel_rfl) (by rw[hact];rfl)
 have a4':s'.act=Cb s.act t 1:=by rw[JF hact];exact a4
 refine⟨s',a1,⟨_,hp⟩,⟨a2,?_,?_,h.fl,?_,fun u hu=>?_,(fun e=>by cases e),fun u hu h1 h2=>?_,hnd.2,fun u hu=>h.lt u (by rw[hq];exact List.mem_cons_of_mem _ hu),by rw[a5];exact T1⟩,a4'⟩
 ·rw[a3,a4',hk];exact Fw h.is (.g k) 1 _ 3 ⟨rfl,rfl,1,r7,by rw[hmm]⟩
 ·have:=h.tail;rw[hq,hH]at this
  show g.m 0 0=(g.o+1+q.length)%B5
  rw[this];congr 1;simp;omega
 ·exact DO _ _ hnd.1 (by simpa using hw.2)
 ·obtain rfl:t=u:=by simpa using hu
  exact⟨ht,hnd.1,.inl ⟨hup,AT _ _ _⟩⟩
 ·have e:u≠t:=fun e=>h2 (by rw[e];rfl)
  show Cb g.P t _ u=_∨Cb g.P t _ u=_
  rw[BR _ _ e];exact h.free u hu (by rw[hq];simp[e];exact h1) (by rw[hH];simp)
theorem TA(hM:FB M)(hn:n≤M+1)(hs:C8 n (Du M) (Bt (Kk M)) r s)(h:Kl n M g s)(ht:t<n){k:Nat}(hp:g.P t=.wt k)(hw:g.m 1 (k%(M+1))=0)(h1:kind≠1)(h2:kind≠2) :
  ∃ s',C8 n (Du M) (Bt (Kk M)) (r.op kind t late) s'∧Kl n M g s'∧s'.act=s.act:=by
 have hi:=h.is t ht;rw[hp]at hi;obtain⟨hact,hL,r4,r7,hc⟩:=hi;have hlt:k%(M+1)<M+1:=Nat.mod_lt _ (Nat.succ_pos M);have hM64:=CF hM;obtain⟨p,hpp⟩:∃ p,k%(M+1)=p:=⟨_,rfl⟩
 rw[hpp]at hw hc hlt;obtain⟨s',a1,a2,a3,a4,a5⟩:=hs.acc (late:=late) h.W ht (.inl hact) h1 h2 hc rfl 1 p 0 false rfl rfl hlt (by omega) hw rfl
  (wr:=none) (c':=⟨[0,k,p,1,0,0,0,r7],4⟩) (ms:=[]) (done := -1) (wrote:=0) (stay:=1) (fun l a=>by cases l<;>kernel_rfl) (by rw[hact];rfl)
 refine⟨s',a1,⟨a2,?_,h.tail,h.fl,h.w,h.hold,h.no,h.free,h.nd,h.lt,a5▸h.tr⟩,a4⟩;have:=Fw (t:=t) h.is (g.P t) (s.act t) ⟨[0,k,p,1,0,0,0,r7],4⟩ (g.L t) (by rw[hp];exact⟨hact,hL,0,r7,by rw[hpp]⟩);rw[JF (f:=g.P) rfl,JF (f:=s.act) rfl,JF (f:=g.L) rfl]at this;rw[a3,show s'.act=s.act from a4];exact this
theorem RU(hM:FB M)(hn:n≤M+1)(hs:C8 n (Du M) (Bt (Kk M)) r s)(h:Kl n M g s)(ht:t<n){k:Nat}(hp:g.P t=.g k)(h1:kind≠1)(h2:kind≠2) :
  ∃ s',C8 n (Du M) (Bt (Kk M)) (r.op kind t late) s'∧Kl n M {g with P:=Cb g.P t (.hold k),L:=Cb g.L t 5,up:=false,m:=DZ g.m 1 (g.o%(M+1)) 0} s'∧s'.act=Cb s.act t 2:=by
 have hi:=h.is t ht;rw[hp]at hi;obtain⟨hact,hl,r4,r7,hc⟩:=hi;obtain⟨hH,hq,h3⟩:=UH h ht (by rw[hp];simp) (by rw[hp];simp) (by rw[hp];simp);rw[hp]at h3;have hk:k=g.o%B5:=by
  rcases h3 with ⟨_,e⟩ |⟨e0,e |e⟩
  ·cases e;rfl
  ·cases e
  ·cases e
 have hmm:=Fe hM g.o;rw[←hk]at hmm;have hM64:=CF hM;have hlt:g.o%(M+1)<M+1:=Nat.mod_lt _ (Nat.succ_pos M);have hfl:=h.fl;rw[hmm]at hc;obtain⟨p,hpp⟩:∃ p,g.o%(M+1)=p:=⟨_,rfl⟩
 rw[hpp]at hc hlt hmm hfl ⊢;obtain⟨s',a1,a2,a3,a4,a5⟩:=hs.acc (late:=late) h.W ht (.inl hact) h1 h2 hc rfl 1 p (g.m 1 p) _ rfl rfl hlt (by omega) rfl rfl
  (wr:=some 0) (c':=⟨[0,k,p,1,r4,0,0,r7],7⟩) (ms:=[]) (done:=1) (wrote:=1) (stay:=0) (fun l a=>by cases l<;>kernel_rfl) (by rw[hact];rfl)
 have m0:DZ g.m 1 p 0 0=g.m 0:=BR _ _ (by decide);have m1:DZ g.m 1 p 0 1=Cb (g.m 1) p 0:=AT _ _ _;refine⟨s',a1,⟨a2,?_,(congrFun m0 0).trans h.tail,fun x hx=>?_,DO _ _ hq h.w,fun u hu=>?_,(fun e=>by rw[hH]at e;cases e),fun u hu h1 h2=>?_,h.nd,h.lt,by rw[a5];exact h.tr.Fb ht hq hl⟩,a4⟩
 ·rw[a3,a4];exact Fw h.is (.hold k) 2 _ 5 ⟨rfl,rfl,r4,r7,by rw[hmm]⟩
 ·show DZ g.m 1 p 0 1 x=_
  rw[m1,if_neg (fun e=>by cases e.1)];by_cases e:x=p
  ·rw[e,AT]
  ·rw[BR _ _ e,hfl x hx,if_neg (fun e'=>e e'.2)]
 ·have hu':u∈g.H:=hu;rw[hH]at hu';obtain rfl:t=u:=by simpa using hu'
  exact⟨ht,hq,.inr ⟨rfl,.inl (by show Cb g.P t _ t=_;rw[AT,hk])⟩⟩
 ·have e:u≠t:=fun e=>h2 (by show u∈g.H;rw[hH,e];rfl)
  show Cb g.P t _ u=_∨Cb g.P t _ u=_
  rw[BR _ _ e];exact h.free u hu h1 h2
theorem RV(hM:FB M)(hn:n≤M+1)(hs:C8 n (Du M) (Bt (Kk M)) r s)(h:Kl n M g s)(ht:t<n){k:Nat}(hp:g.P t=.rel k)(h1:kind≠1)(h2:kind≠2) :
  ∃ s',C8 n (Du M) (Bt (Kk M)) (r.op kind t late) s'∧Kl n M ⟨Cb g.P t .idle,Cb g.L t 10,none,true,g.o+1,g.q,DZ g.m 1 ((g.o+1)%(M+1)) 1⟩ s'∧s'.act=Cb s.act t 0:=by
 have hi:=h.is t ht;rw[hp]at hi;obtain⟨hact,hl,r4,r7,hc⟩:=hi;obtain⟨hH,hq,h3⟩:=UH h ht (by rw[hp];simp) (by rw[hp];simp) (by rw[hp];simp);rw[hp]at h3;obtain⟨hup,hk⟩:g.up=false∧k=g.o%B5:=by
  rcases h3 with ⟨_,e⟩ |⟨e0,e |e⟩
  ·cases e
  ·cases e
  ·cases e;exact⟨e0,rfl⟩
 have hmm:(k+1)%(M+1)=(g.o+1)%(M+1):=by
  rw[hk,←Fe hM (g.o%B5+1),Nat.mod_add_mod,Fe hM]
 have hM64:=CF hM;have hlt:(g.o+1)%(M+1)<M+1:=Nat.mod_lt _ (Nat.succ_pos M);have hfl:=h.fl;rw[hmm]at hc;obtain⟨p,hpp⟩:∃ p,(g.o+1)%(M+1)=p:=⟨_,rfl⟩
 rw[hpp]at hc hlt ⊢;have T1:=h.tr.release ht hq hl;have T2:=T1.over ht hq (AT _ _ _);rw[T6]at T2;obtain⟨s',a1,a2,a3,a4,a5⟩:=hs.acc (late:=late) h.W ht (.inr hact) h1 h2 hc rfl 1 p (g.m 1 p) _ rfl rfl hlt (by omega) rfl rfl
  (wr:=some 1) (c':=⟨[0,k,p,1,r4,0,0,r7],13⟩) (ms:=[4]) (done:=2) (wrote:=1) (stay:=0) (fun l a=>by cases l<;>kernel_rfl) (by rw[hact];rfl)
 have m0:DZ g.m 1 p 1 0=g.m 0:=BR _ _ (by decide);have m1:DZ g.m 1 p 1 1=Cb (g.m 1) p 1:=AT _ _ _;refine⟨s',a1,⟨a2,?_,?_,fun x hx=>?_,?_,fun u hu=>?_,fun _=>rfl,fun u hu h1 h2=>?_,h.nd,h.lt,by rw[a5];exact T2⟩,a4⟩
 ·rw[a3,a4];exact Fw h.is .idle 0 _ 10 ⟨rfl,.inr rfl,k,p,1,r4,r7,13,rfl⟩
 ·have:=h.tail;rw[hH]at this;exact(congrFun m0 0).trans this
 ·show DZ g.m 1 p 1 1 x=if true=true∧x=(g.o+1)%(M+1) then 1 else 0
  rw[m1,hpp];by_cases e:x=p
  ·rw[e,AT,if_pos ⟨rfl,rfl⟩]
  ·rw[BR _ _ e,hfl x hx,if_neg (fun e'=>by rw[hup]at e';cases e'.1),if_neg (fun e'=>e e'.2)]
 ·have:=h.w;rw[hH]at this;exact DO _ _ hq this
 ·cases hu
 ·show Cb g.P t _ u=_∨Cb g.P t _ u=_
  by_cases e:u=t
  ·rw[e,AT];exact .inl rfl
  ·rw[BR _ _ e];exact h.free u hu h1 (by rw[hH];intro e';exact e (by simpa using e'.symm))
theorem TB(hM:FB M)(hn:n≤M+1)(hs:C8 n (Du M) (Bt (Kk M)) r s)(h:Kl n M g s)(ht:t<n)(ha:s.act t=1∨s.act t=3)(h1:kind≠1)(h2:kind≠2) :
  ∃ s' g',C8 n (Du M) (Bt (Kk M)) (r.op kind t late) s'∧Kl n M g' s' ∧
   ((∃ a,s'.act=Cb s.act t a∧(s.act t=1∧(a=1∨a=2)∨s.act t=3∧(a=3∨a=0))∧So n g'.P<So n g.P)∨(g'=g∧s'.act=s.act∧∃ k,g.P t=.wt k∧¬(g.H=none∧∃ q,g.q=t::q))):=by
 have hi:=h.is t ht;have hrk:∀ k:Kj,k.rk<(g.P t).rk→So n (Cb g.P t k)<So n g.P:=fun k hk=>by have:=Ok (P:=g.P) ht k;omega
 cases hp:g.P t<;>rw[hp]at hi hrk<;>simp only[Kj.is]at hi
 case idle=>omega
 case hold=>omega
 case p0 =>
  obtain⟨s',a1,k,a2,a3⟩:=Ub (late:=late) hM hn hs h ht hp h1 h2;exact⟨s',_,a1,a2,.inl ⟨1,a3,.inl ⟨hi.1,.inl rfl⟩,hrk _ (by show 4<5;decide)⟩⟩
 case g k =>
  obtain⟨s',a1,a2,a3⟩:=RU (late:=late) hM hn hs h ht hp h1 h2;exact⟨s',_,a1,a2,.inl ⟨2,a3,.inl ⟨hi.1,.inr rfl⟩,hrk _ (by show 2<3;decide)⟩⟩
 case rel k =>
  obtain⟨s',a1,a2,a3⟩:=RV (late:=late) hM hn hs h ht hp h1 h2;exact⟨s',_,a1,a2,.inl ⟨0,a3,.inr ⟨hi.1,.inr rfl⟩,hrk _ (by show 0<1;decide)⟩⟩
 case wt k =>
  have hq:t∈g.q:=Classical.byContradiction fun hq=>by
   by_cases hH:t∈g.H
   ·rcases(h.hold t hH).2.2 with ⟨_,e⟩ |⟨_,e |e⟩<;>rw[hp]at e<;>cases e
   ·rcases h.free t ht hq hH with e |e<;>rw[hp]at e<;>cases e
  by_cases hg:g.H=none∧∃ q,g.q=t::q
  ·obtain⟨hH,q,hq⟩:=hg;obtain⟨s',a1,_,a2,a3⟩:=Nc (late:=late) hM hn hs h ht hH hq h1 h2;exact⟨s',_,a1,a2,.inl ⟨1,a3,.inl ⟨hi.1,.inl rfl⟩,hrk _ (by show 3<4;decide)⟩⟩
  ·have hflag:g.m 1 (k%(M+1))=0:=by
    obtain⟨i,Nh,e2,hz⟩:=El _ _ h.w hq;rw[hp]at e2;cases e2;rw[h.fl _ (Nat.mod_lt _ (Nat.succ_pos M)),Fe hM];refine if_neg (fun e=>?_);have hlen:=Hk n g.q h.nd h.lt;have e2:=e.2;cases hH:g.H with
    |none =>
     rw[hH]at e2;by_cases Lb:i=0
     ·exact hg ⟨hH,hz Lb⟩
     ·exact ON (M:=M) (o:=g.o) (i:=i) (by omega) (by omega) (by simpa using e2)
    |some u =>
     rw[hH]at e2;have hun:=(h.hold u (by rw[hH];rfl))
     have hlen2:(u::g.q).length≤n:=Hk n (u::g.q) (List.nodup_cons.2 ⟨hun.2.1,h.nd⟩) (fun x hx=>by
      rcases List.mem_cons.1 hx with rfl |hx
      ·exact hun.1
      ·exact h.lt x hx)
     rw[List.length_cons]at hlen2;exact ON (M:=M) (o:=g.o) (i:=1+i) (by omega) (by omega) (by simpa [Nat.add_assoc]using e2)
   obtain⟨s',a1,a2,a3⟩:=TA (late:=late) hM hn hs h ht hp hflag h1 h2;exact⟨s',g,a1,a2,.inr ⟨rfl,a3,k,rfl,hg⟩⟩
end
def OR(g:VQ)(t:Nat):Prop:=∃ k,g.P t=.wt k∧¬(g.H=none∧∃ q,g.q=t::q)
theorem TC{n M:Nat}(s:LS)(g:VQ)(h:Kl n M g s)(hs:∀ t,t<n→s.act t=0∨OR g t):∀ t,t<n→s.act t=0:=by
 have hn:∀ t,t<n→(∀ k,g.P t≠.wt k)→s.act t=0:=fun t ht hk=>by
  rcases hs t ht with a |⟨k,a,_⟩
  ·exact a
  ·exact absurd a (hk k)
 have hH:g.H=none:=by
  cases e:g.H with
  |none=>rfl
  |some u =>
   obtain⟨hu,_,b⟩:=h.hold u (by rw[e];rfl);have hi:=h.is u hu;have:=hn u hu (fun k hk=>by rcases b with ⟨_,b⟩ |⟨_,b |b⟩<;>rw[b]at hk<;>cases hk);rcases b with ⟨_,b⟩ |⟨_,b |b⟩<;>rw[b]at hi<;>have:=hi.1<;>omega
 have hq:g.q=[]:=by
  cases e:g.q with
  |nil=>rfl
  |cons u q =>
   have hu:=h.lt u (by rw[e];exact List.mem_cons_self ..);have hi:=h.is u hu;obtain⟨i,_,e2,_⟩:=El _ _ h.w (show u∈g.q by rw[e];exact List.mem_cons_self ..);rw[e2]at hi;rcases hs u hu with a |⟨_,_,a⟩
   ·have:=hi.1;omega
   ·exact absurd ⟨hH,q,e⟩ a
 intro t ht;refine hn t ht fun k hk=>?_
 rcases h.free t ht (by rw[hq];simp) (by rw[hH];simp) with e |e<;>rw[e]at hk<;>cases hk
theorem Jb{n M:Nat}(hM:FB M)(hn:n≤M+1):Fair n 5 (Du M) (Bt (Kk M)) (Kl n M) (fun g=>So n g.P) OR:=by
 refine⟨?_,?_,?_,TC,?_,fun s g h=>h.tr.ok⟩
 ·intro r s g t late h hi ht ha;obtain⟨s',a1,a2,a3⟩:=OP (late:=late) h hi ht ha;exact⟨s',_,a1,a2,a3,by have:=Ok (P:=g.P) ht .p0;simp only[Kj.rk]at this;dsimp only;omega⟩
 ·intro r s g t late h hi ht ha;obtain⟨s',k,hp,a1,a2,a3⟩:=KU (late:=late) hM h hi ht ha;exact⟨s',_,a1,a2,a3,by have:=Ok (P:=g.P) ht (.rel k);rw[hp]at this;simp only[Kj.rk]at this;dsimp only;omega⟩
 ·intro r s g t kind late h hi ht ha k1 k2;exact TB hM hn h hi ht ha k1 k2
 ·intro s g h t ht;have:=h.is t ht;cases hp:g.P t<;>rw[hp]at this<;>have:=this.1<;>omega
def G8(M st:Nat):List Nat:=((List.replicate (M+2) 0).set 0 st).set (1+st%(M+1)) 1
def VK(n M st:Nat):AF:=AF.new (Du M) [1,M+1] (G8 M st) n 0 (List.replicate n 0)
theorem On(n M st:Nat)(hs:st<B5):∃ s0 g0,C8 n (Du M) (Bt (Kk M)) (AH.new (VK n M st) n) s0∧Kl n M g0 s0∧(∀ t,t<n→s0.act t=0)∧So n g0.P=0:=by
 have hz:Wd (Kk M) (List.replicate (M+2) 0) (fun _ _=>0):=⟨by simp;omega,fun A p hp=>by simp[List.getD_eq_getElem?_getD,List.getElem?_replicate];split<;>rfl⟩
 have hw1:=hz.set (A:=0) (p:=0) st (by show 0<1;decide);have hw2:=hw1.set (A:=1) (p:=st%(M+1)) 1 (Nat.mod_lt _ (Nat.succ_pos M));have e1:((Kk M).take 0).sum+0=0:=rfl;have e2:((Kk M).take 1).sum+st%(M+1)=1+st%(M+1):=by simp
 rw[e1,e2]at hw2;refine⟨_,⟨fun _=>.idle,fun _=>0,none,true,st,[],DZ (DZ (fun _ _=>0) 0 0 st) 1 (st%(M+1)) 1⟩,C8.new n (Du M) [1,M+1] (G8 M st) 0 (List.replicate n 0) (by simp),?_,fun _ _=>rfl,E4 n (fun _ _=>rfl)⟩;have m0:DZ (DZ (fun _ _=>0) 0 0 st) 1 (st%(M+1)) 1 0 0=st:=(congrFun (BR _ _ (by decide)) 0).trans ((congrFun (AT _ _ _) 0).trans (AT _ _ _));have m1:DZ (DZ (fun _ _=>0) 0 0 st) 1 (st%(M+1)) 1 1=Cb (fun _=>0) (st%(M+1)) 1:=(AT _ _ _).trans (congrArg (fun f=>Cb f (st%(M+1)) 1) (BR _ _ (by decide)));refine⟨hw2,fun t ht=>⟨rfl,.inl rfl,0,0,0,0,_,0,rfl⟩,?_,fun p hp=>?_,trivial,fun t ht=>by simp at ht,fun _=>rfl,fun t ht _ _=>.inl rfl,List.nodup_nil,fun t ht=>by simp at ht,Db.new n⟩
 ·show DZ (DZ (fun _ _=>0) 0 0 st) 1 (st%(M+1)) 1 0 0=st%B5
  rw[m0,Nat.mod_eq_of_lt hs]
 ·dsimp only;rw[m1];unfold Cb;by_cases e:p=st%(M+1)
  ·rw[if_pos e,if_pos ⟨rfl,e⟩]
  ·rw[if_neg e,if_neg (fun e'=>e e'.2)]
section
variable (n M st:Nat) (hM:FB M) (hn:n≤M+1) (h1:1≤n) (hs:st<B5)
theorem Rc(hM:FB M)(hn:n≤M+1)(h1:1≤n)(hs:st<B5)(l:List (Int×Int×Int)):Le (VK n M st) n l=true:=by
 have h2:n≤64:=by have:=CF hM;omega
 obtain⟨s0,g0,ha,hi,_⟩:=On n M st hs;exact(Jb hM hn).trace h1 h2 l ha hi
theorem Qa(hM:FB M)(hn:n≤M+1)(h1:1≤n)(hs:st<B5)(calls:Nat):Fo (VK n M st) n calls=true:=by
 have h2:n≤64:=by have:=CF hM;omega
 obtain⟨s0,g0,ha,hi,h0,hr⟩:=On n M st hs;exact(Jb hM hn).served h1 h2 (by decide) calls ha hi h0 hr
theorem Q8(hM:FB M)(hn:n≤M+1)(h1:1≤n)(hs:st<B5)(l:List (Int×Int×Int))(t:Nat)(ht:t<n):FX (VK n M st) 0 n l t 3 1=true:=by
 have h2:n≤64:=by have:=CF hM;omega
 obtain⟨s0,g0,ha,hi,_⟩:=On n M st hs;obtain⟨s1,g1,ha,hi⟩:=(Jb hM hn).ops l _ s0 g0 ha hi;have hr:So n g1.P<5000:=by
  have:So n g1.P≤n*5:=by
   rw[←Gs 5 n];exact Nb n fun t _=>by cases g1.P t<;>simp[Kj.rk]
  omega
 obtain⟨r2,s2,g2,e2,ha,hi,hz⟩:=(Jb hM hn).fin 5000 _ s1 g1 ha hi hr;have hP:∀ u,u<n→g2.P u=.idle:=fun u hu=>by
  have:=hi.is u hu;have h0:=hz u hu;cases hp:g2.P u<;>rw[hp]at this<;>have:=this.1<;>first |rfl |omega
 have hH:g2.H=none:=by
  cases e:g2.H with
  |none=>rfl
  |some u =>
   obtain⟨hu,_,b⟩:=hi.hold u (by rw[e];rfl);rw[hP u hu]at b;rcases b with ⟨_,b⟩ |⟨_,b |b⟩<;>cases b
 have hq:g2.q=[]:=by
  cases e:g2.q with
  |nil=>rfl
  |cons u q =>
   have hm:u∈g2.q:=by rw[e];exact List.mem_cons_self ..
   obtain⟨i,_,e2,_⟩:=El _ _ hi.w hm;rw[hP u (hi.lt u hm)]at e2;cases e2
 have e0:FX (VK n M st) 0 n l t 3 1=(let r:=CG 3 (r2.op 1 t 0) t;if r.act.getD t 0≠2 then false else let q:=CG 1 (r.op 2 t 0) t;!q.bad&&decide (q.act.getD t 0=0)&&decide (Cn n q.l=q.l.length)):=by
  unfold FX;rw[e2];dsimp only;rw[if_neg (by rw[ha.bad];simp),if_neg (by simp)]
 rw[e0];dsimp only[CG];obtain⟨s3,ha,hi,c3⟩:=OP (late:=0) ha hi ht (hz t ht);obtain⟨s4,ha,k,hi,c4⟩:=Ub (late:=0) (kind:=3) hM hn ha hi ht (AT _ _ _) (by decide) (by decide);obtain⟨s5,ha,_,hi,c5⟩:=Nc (late:=0) (kind:=3) (q:=[]) hM hn ha hi ht hH (by show g2.q++[t]=_;rw[hq];rfl) (by decide) (by decide);obtain⟨s6,ha,hi,c6⟩:=RU (late:=0) (kind:=3) hM hn ha hi ht (AT _ _ _) (by decide) (by decide);rw[if_neg (by rw[ha.act t ht,c6,AT];simp)];obtain⟨s7,k7,hk7,ha,hi,c7⟩:=KU (late:=0) hM ha hi ht (by rw[c6,AT]);obtain⟨s8,ha,hi,c8⟩:=RV (late:=0) (kind:=3) hM hn ha hi ht (AT _ _ _) (by decide) (by decide);rw[ha.bad,ha.act t ht,c8,AT,decide_eq_true ((GZ n h1 h2 _).2 (by rw[ha.tr];exact hi.tr.ok))];rfl
end
end
section
open Go Go.Lib
def Ws:List UInt8:=[108,111,99,107,58,10,102,97,100,100,32,114,49,32,48,32,114,48,32,49,10,109,97,114,107,32,49,10,97,110,100,107,32,114,50,32,114,49,32]
def Wt:List UInt8:=[10,99,111,110,115,116,32,114,51,32,49,10,97,119,97,105,116,32,114,52,32,49,32,114,50,32,101,113,32,114,51,10,109,97,114,107,32,50,10,115,116,111,114,101,32,49,32,114,50,32,114,48,10,100,111,110,101,32,49,10,117,110,108,111,99,107,58,10,97,100,100,107,32,114,50,32,114,49,32,49,10,97,110,100,107,32,114,50,32,114,50,32]
def Wu:List UInt8:=[10,99,111,110,115,116,32,114,51,32,49,10,115,116,111,114,101,32,49,32,114,50,32,114,51,10,109,97,114,107,32,52,10,100,111,110,101,32,50,10]
def UP:List UInt8:=[77,65,83,75]
def Vq:List UInt8:=Ws++UP++Wt++UP++Wu
def No(M:Nat):List UInt8:=if M<10 then [UInt8.ofNat (48+M)] else [UInt8.ofNat (48+M/10),UInt8.ofNat (48+M%10)]
def Dn(M:Nat):List UInt8:=Ws++No M++Wt++No M++Wu
theorem OA{M:Nat}(h:FB M):decDigits M=No M:=by
 have:=CF h;unfold No;by_cases c:M<10
 ·rw[if_pos c,decDigits_one c]
 ·rw[if_neg c,decDigits,dif_neg c,decDigits_one (by omega)];rfl
theorem SM{M:Nat}(h:FB M):replaceAll Vq UP (No M)=Dn M:=by
 rcases h with rfl |rfl |rfl |rfl |rfl |rfl |rfl<;>decide +kernel
theorem Rk{M:Nat}(h:FB M):(BW (Dn M)).1=Du M:=by
 rcases h with rfl |rfl |rfl |rfl |rfl |rfl |rfl<;>decide +kernel
theorem Rl{M:Nat}(h:FB M):(Dn M).length≤90000:=by
 rcases h with rfl |rfl |rfl |rfl |rfl |rfl |rfl<;>decide +kernel
theorem Uv{M:Nat}(h:FB M):(BW (Dn M)).1.l.length≤1000:=by rw[Rk h];show 14≤1000;decide
def Lt(n sl:Int):Prop:=∃ k M:Nat,n=(k:Int)∧sl=(M:Int)+1∧FB M∧1≤k∧k≤M+1
theorem Uw{M:Nat}(h:FB M):bits .and .i64 ((M:Int)+1) (M:Int)=0:=by
 rcases h with rfl |rfl |rfl |rfl |rfl |rfl |rfl<;>decide +kernel
theorem SN:∀ s:Fin 65,1≤s.val→¬FB (s.val-1)→bits .and .i64 (s.val:Int) ((s.val:Int)-1)≠0:=by
 unfold FB
 decide +kernel
theorem Ux{n sl:Int}(h:¬Lt n sl)(h1:1≤n)(h2:n≤sl)(h3:sl≤64):bits .and .i64 sl (sl-1)≠0:=by
 obtain⟨s,rfl⟩:∃ s:Nat,sl=(s:Int):=⟨sl.toNat,by omega⟩
 obtain⟨k,rfl⟩:∃ k:Nat,n=(k:Int):=⟨n.toNat,by omega⟩
 refine SN ⟨s,by omega⟩ (by show 1≤s;omega) fun hM=>h ⟨k,s-1,rfl,by omega,hM,by omega,by omega⟩
def Sm(M st:Nat):List Int:=((List.replicate (M+2) (0:Int)).set 0 (st:Int)).set (1+st%(M+1)) 1
theorem SO(M st:Nat):(Sm M st).length=M+2:=by simp[Sm]
theorem Rm:4<(BW (Dn 3)).1.l.length:=by decide +kernel
theorem Rn{M:Nat}(h:FB M){st:Nat}(hst:st<4294967296):bits .and .i64 (st:Int) (M:Int)=((st%(M+1):Nat):Int):=by
 show IntKind.i64.wrap ((BitVec.ofInt 64 (st:Int) &&& BitVec.ofInt 64 (M:Int)).toNat:Int)=((st%(M+1):Nat):Int)
 have e:(BitVec.ofInt 64 (st:Int) &&& BitVec.ofInt 64 (M:Int)).toNat=st%(M+1):=by
  have hm:=CF h;rw[BitVec.toNat_and,BitVec.toNat_ofInt,BitVec.toNat_ofInt];have e1:((st:Int)%((2 ^ 64:Nat):Int)).toNat=st:=by omega
  have e2:((M:Int)%((2 ^ 64:Nat):Int)).toNat=M:=by omega
  rw[e1,e2];exact Ir h st
 rw[e,IntKind.wrap_i64];have:st%(M+1)<M+1:=Nat.mod_lt st (Nat.succ_pos M);have hm:=CF h;omega
end
section
open Go.RowKit Go.Proofs.YtjjpiefgdggghaaGreatDoorW.PrintWords
theorem T7{n k t:Nat}{l:List D5}(ht:t<n):Ez n l (k,t)=C9 k (Cm l t) ((Fs l).head?==some t) (Ft l == -1):=by simp[Ez,ht]
theorem Na(W:World)(A:Option Addr)(c:Nat)(l:List D5)(n k t:Nat)(h:E2 W A l)(hl:l.length≤100000000)(hlc:l.length≤c) :
  Calls Tryz.prog 76 #[.int .i64 (n:Int),.slice A l.length c,.agg #[.int .i64 (k:Int),.int .i64 (t:Int),.int .i64 0]] W fun e W'=>e=.returned (.bool (Ez n l (k,t)))∧Below W.heap.size W W':=by
 have hS:∀ W1:World,E2 W1 A l→Calls Tryz.prog 106 #[.slice A l.length c,.int .i64 (t:Int)] W1 fun e W'=>e=.returned (.int .i64 (Cm l t:Int))∧Below W1.heap.size W1 W':=fun W1 h1=>EL W1 A c l t h1 hl
 have hQ:∀ W1:World,E2 W1 A l→Calls Tryz.prog 107 #[.slice A l.length c] W1 fun e W'=>∃ vq,e=.returned vq∧AS W' W1.heap.size vq ((Fs l).map fun t:Nat=>(t:Int))∧Below W1.heap.size W1 W':=fun W1 h1=>L4 W1 A c l h1 hl hlc
 have hO:∀ W1:World,E2 W1 A l→Calls Tryz.prog 108 #[.slice A l.length c] W1 fun e W'=>e=.returned (.int .i64 (Ft l))∧Below W1.heap.size W1 W':=fun W1 h1=>LG W1 A c l h1 hl
 obtain⟨m,hm⟩:∃ m,l.length=m:=⟨_,rfl⟩
 obtain⟨fin,hfin⟩:∃ z,Ez n l (k,t)=z:=⟨_,rfl⟩
 rw[hm]at hl hS hQ hO hlc ⊢;rw[hfin];have hb0:=Bw W (.cells #[.int .i64 (k:Int),.int .i64 (t:Int),.int .i64 0] 97);have hE0:=(h.keep hb0).keep (Bd (Below.refl _ _));replace hb0:=Az (hb0.trans (Bd (Below.refl _ (W.alloc (.cells #[.int .i64 (k:Int),.int .i64 (t:Int),.int .i64 0] 97)))));have hbx:=Be (Bv W (.cells #[.int .i64 (k:Int),.int .i64 (t:Int),.int .i64 0] 97));have hx0:=(Bc hbx 0).trans rfl;have hx1:=(Bc hbx 1).trans rfl;have hx2:=(Bc hbx 2).trans rfl;have t0:¬(t:Int)<0:=by omega
 have hlast:0<m→∃ ad:Addr,A=some ad∧(W.alloc (.cells #[.int .i64 (k:Int),.int .i64 (t:Int),.int .i64 0] 97)).drew.cell? ⟨(ad.add ((m-1)*3)).block,(ad.add ((m-1)*3)).off+2,none⟩=some (.int .i64 0):=fun hp=>by
  obtain⟨ad,rfl,hc⟩:=hE0 (by omega);exact⟨ad,rfl,(hc (m-1) (by omega)).2.2⟩
 replace hlast:=Az hlast;have hS1:=Az (hS _ hE0);replace hE0:=Az hE0;replace hm:=Az hm;replace hQ:=Az hQ;replace hO:=Az hO;replace hfin:=Az hfin;clear h hS;go_enter Tryz.func76,Tryz.ntmps76;go_upto_region 1 with fail
 by_cases htn:t<n;case neg =>
  have hf:fin=false:=by rw[←hfin.out];simp[Ez,htn]
  subst hf;have t1:¬(t:Int)<(n:Int):=by omega
  have t2:(n:Int)≤(t:Int):=by omega
  clear htn hbx;go_region
  go_wp2;go_ret;exact⟨rfl,hb0.out⟩
 have t1:(t:Int)<(n:Int):=by omega
 have t2:¬(n:Int)≤(t:Int):=by omega
 replace hfin:=Az (hfin.out.symm.trans (T7 htn));clear htn;cases m;case' zero=>go_region
 case' succ j =>
  obtain⟨ad,rfl,hc3⟩:=hlast.out (by omega);rw[show(j+1-1)*3=j*3 from rfl]at hc3;have mw:IntKind.i64.wrap (((j+1:Nat):Int)-1)=(j:Int):=by rw[IntKind.wrap_i64];omega
  have mw':IntKind.i64.wrap (((j:Int)+1)-1)=(j:Int):=by rw[IntKind.wrap_i64];omega
  have j0:(0:Int)≤(j:Int):=by omega
  have j1:(j:Int)<((j+1:Nat):Int):=by omega
  have j2:(0:Int)<((j+1:Nat):Int):=by omega
  go_region
  clear mw mw' j0 j1 j2 hc3
 all_goals clear hlast
 all_goals
  go_wp2_with fail
  refine hS1.out.mono ?_;rintro e w1 ⟨rfl,hB1⟩;replace hx0:=Ck hB1 hx0;replace hx1:=Ck hB1 hx1;have hE1:=Az (hE0.out.keep hB1);have hb1:=Az (hb0.out.trans (hB1.mono hb0.out.size));clear hB1 hb0 hE0 hS1 hbx hx2 t0 t1 t2;obtain⟨lv,hlv⟩:∃ v,Cm l t=v:=⟨_,rfl⟩
  obtain⟨qs,hqs⟩:∃ v,Fs l=v:=⟨_,rfl⟩
  obtain⟨ow,how⟩:∃ v,Ft l=v:=⟨_,rfl⟩
  rw[hlv];have hQ1:=hQ.out w1 hE1.out;have hf0:=hfin.out;rw[hlv,hqs,how]at hf0;rw[hqs]at hQ1;rw[how]at hO;replace hQ1:=Az hQ1;replace hfin:=Az hf0;clear hf0 hlv hqs how hQ;by_cases hk1:k=1
  ·subst hk1;by_cases hv:lv=0
   ·subst hv;have hf:fin=true:=by rw[hfin.out];rfl
    subst hf;go_wp2;go_ret;exact⟨rfl,hb1.out⟩
   have y0:((lv:Int)==0)=false:=Bq (by omega);have v0:=Az hv;clear hv;by_cases hv:lv=6
   ·subst hv;have hf:fin=true:=by rw[hfin.out];rfl
    subst hf;go_wp2;go_ret;exact⟨rfl,hb1.out⟩
   have y6:((lv:Int)==6)=false:=Bq (by omega);have v6:=Az hv;clear hv;by_cases hv:lv=7
   ·subst hv;have hf:fin=true:=by rw[hfin.out];rfl
    subst hf;go_wp2;go_ret;exact⟨rfl,hb1.out⟩
   have y7:((lv:Int)==7)=false:=Bq (by omega);have v7:=Az hv;clear hv;by_cases hv:lv=10
   ·subst hv;have hf:fin=true:=by rw[hfin.out];rfl
    subst hf;go_wp2;go_ret;exact⟨rfl,hb1.out⟩
   have y10:((lv:Int)==10)=false:=Bq (by omega);have v10:=Az hv;clear hv;have hf:fin=false:=by rw[hfin.out];simp[C9,v0.out,v6.out,v7.out,v10.out]
   subst hf;go_wp2;go_ret;exact⟨rfl,hb1.out⟩
  have z1:((k:Int)==1)=false:=Bq (by omega);by_cases hk2:k=2
  ·subst hk2;by_cases hv:lv=1
   ·subst hv;have hf:fin=true:=by rw[hfin.out];rfl
    subst hf;go_wp2;go_ret;exact⟨rfl,hb1.out⟩
   ·have y:((lv:Int)==1)=false:=Bq (by omega);have hf:fin=false:=by rw[hfin.out];simp[C9,hv]
    subst hf;go_wp2;go_ret;exact⟨rfl,hb1.out⟩
  have z2:((k:Int)==2)=false:=Bq (by omega);by_cases hk7:k=7
  ·subst hk7;by_cases hv:lv=1
   ·subst hv;have hf:fin=true:=by rw[hfin.out];rfl
    subst hf;go_wp2;go_ret;exact⟨rfl,hb1.out⟩
   ·have y:((lv:Int)==1)=false:=Bq (by omega);have hf:fin=false:=by rw[hfin.out];simp[C9,hv]
    subst hf;go_wp2;go_ret;exact⟨rfl,hb1.out⟩
  have z7:((k:Int)==7)=false:=Bq (by omega);by_cases hk3:k=3
  ·subst hk3;go_wp2_with fail
   refine hQ1.out.mono ?_;rintro e w2 ⟨vq,rfl,hR,hB2⟩;replace hx1:=Ck hB2 hx1;have hE2:=Az (hE1.out.keep hB2);have hb2:=Az (hb1.out.trans (hB2.mono hb1.out.size));clear hB2 hE1 hb1 hQ1 hx0;by_cases hv:lv=2;case neg =>
    have y:((lv:Int)==2)=false:=Bq (by omega);have hf:fin=false:=by rw[hfin.out];simp[C9,hv]
    subst hf;obtain⟨A2,c2,rfl⟩:=hR.slice;clear hR;go_upto_region 12 with fail
    go_region
    go_wp2;go_ret;exact⟨rfl,hb2.out.trans (Bd (Below.refl _ _))⟩
   subst hv;cases qs with
   |nil =>
    have hf:fin=false:=by rw[hfin.out];rfl
    subst hf;obtain⟨A2,c2,rfl⟩:=hR.slice;clear hR;go_upto_region 12 with fail
    go_region
    go_wp2;go_ret;exact⟨rfl,hb2.out.trans (Bd (Below.refl _ _))⟩
   |cons a qs =>
    obtain⟨gq,cq,rfl,hcq,hq⟩:=hR.cell (by simp);have hq0:=hq 0 (by simp);replace hq0:w2.cell? ⟨gq,0,none⟩=some (.int .i64 (a:Int)):=hq0;obtain⟨z,hz⟩:∃ z,((a::qs).map fun t:Nat=>(t:Int)).length=z:=⟨_,rfl⟩
    have zp:0<z:=by rw[←hz];simp
    rw[hz];have zi:(0:Int)<(z:Int):=by omega
    clear hq hR hcq hz;by_cases ha:a=t;case neg =>
     have y:((a:Int)==(t:Int))=false:=Bq (by omega);have hf:fin=false:=by rw[hfin.out];simp[C9,ha]
     subst hf;clear ha;go_upto_region 12 with fail
     have hq1:=Ck (Bd (Below.refl _ w2)) hq0;have hx3:=Ck (Bd (Below.refl _ w2)) hx1;go_region
     go_wp2;go_ret;exact⟨rfl,hb2.out.trans (Bd (Below.refl _ _))⟩
    subst ha;have hf:fin=(ow == -1):=by rw[hfin.out];simp[C9]
    subst hf;have hC:=Az (hO.out _ (hE2.out.keep (Bd (Below.refl _ _))));have hS5:(fun W'=>W'.cell? ⟨gq,0,none⟩=some (.int .i64 (a:Int))∧W'.cell? ⟨W.heap.size,1,none⟩=some (.int .i64 (a:Int))) w2.drew:=⟨Ck (Bd (Below.refl _ _)) hq0,Ck (Bd (Below.refl _ _)) hx1⟩
    replace hb2:=Az (hb2.out.trans (Bd (Below.refl _ _)));clear hE2 hO hq0 hx1;go_upto_region 12 with fail
    refine Av [] (S:=fun W'=>W'.cell? ⟨gq,0,none⟩=some (.int .i64 (a:Int))∧W'.cell? ⟨W.heap.size,1,none⟩=some (.int .i64 (a:Int))) (by kernel_rfl) hS5 (fun hS0=>?_);clear hS5;try simp only[Act.put,Sa,Sb,Sc]
    refine tY 0 (fun _=>hS0) ?_;refine tY 1 (fun _=>hS0) ?_;refine tY 2 (fun _=>hS0) ?_;refine tY 3 (fun _=>hS0) ?_;refine tY 4 (fun _=>hS0) ?_;refine tY 5 (fun _=>hS0) ?_;refine tY 6 (fun _=>hS0) ?_;refine tY 7 (fun _=>hS0) ?_;refine tY 8 (fun _=>hS0) ?_;refine tY 9 (fun _=>hS0) ?_;refine tL 10 (hS0) ?_;refine tY 11 (fun _=>hS0) ?_;refine tL 12 (hS0) ?_;refine tY 13 (fun _=>hS0) ?_;refine tY 14 (fun _=>hS0) ?_;refine tY 15 (fun _=>hS0) ?_;refine tY 16 (fun _=>hS0) ?_;refine Ab (rs:=[17]) (by kernel_rfl) (by simp) ?_;refine Aa.cons (Au rfl) (fun K hK=>?_) Aa.nil;rw[if_pos (by rfl)];go_wp2_with fail
    refine hC.out.mono ?_;rintro e w3 ⟨rfl,hB3⟩;replace hb2:=Az (hb2.out.trans (hB3.mono hb2.out.size));replace hS0:(fun W'=>W'.cell? ⟨gq,0,none⟩=some (.int .i64 (a:Int))∧W'.cell? ⟨W.heap.size,1,none⟩=some (.int .i64 (a:Int))) w3:=⟨Ck hB3 hS0.1,Ck hB3 hS0.2⟩
    refine hK.out _ _ (fun _=>hS0) (fun _=>?_);clear hK hC hB3;try simp only[Act.put,Sa,Sb,Sc]
    refine tY 18 (fun _=>hS0) ?_;refine tY 19 (fun _=>hS0) ?_;refine tY 20 (fun _=>hS0) ?_;refine Ax (by kernel_rfl) ?_ _;go_wp2;go_ret;exact⟨rfl,hb2.out⟩
  have z3:((k:Int)==3)=false:=Bq (by omega);by_cases hk4:k=4
  ·subst hk4;by_cases hv:lv=2
   ·subst hv;have hf:fin=true:=by rw[hfin.out];rfl
    subst hf;go_wp2;go_ret;exact⟨rfl,hb1.out⟩
   ·have y:((lv:Int)==2)=false:=Bq (by omega);have hf:fin=false:=by rw[hfin.out];simp[C9,hv]
    subst hf;go_wp2;go_ret;exact⟨rfl,hb1.out⟩
  have z4:((k:Int)==4)=false:=Bq (by omega);by_cases hk5:k=5
  ·subst hk5;by_cases hv:lv=3
   ·subst hv;have hf:fin=true:=by rw[hfin.out];rfl
    subst hf;go_wp2;go_ret;exact⟨rfl,hb1.out⟩
   ·have y:((lv:Int)==3)=false:=Bq (by omega);have hf:fin=false:=by rw[hfin.out];simp[C9,hv]
    subst hf;go_wp2;go_ret;exact⟨rfl,hb1.out⟩
  have z5:((k:Int)==5)=false:=Bq (by omega);by_cases hk6:k=6
  ·subst hk6;by_cases hv:lv=4
   ·subst hv;have hf:fin=true:=by rw[hfin.out];rfl
    subst hf;go_wp2;go_ret;exact⟨rfl,hb1.out⟩
   ·have y:((lv:Int)==4)=false:=Bq (by omega);have hf:fin=false:=by rw[hfin.out];simp[C9,hv]
    subst hf;go_wp2;go_ret;exact⟨rfl,hb1.out⟩
  have z6:((k:Int)==6)=false:=Bq (by omega);by_cases hk8:k=8
  ·subst hk8;by_cases hv:lv=5
   ·subst hv;have hf:fin=true:=by rw[hfin.out];rfl
    subst hf;go_wp2;go_ret;exact⟨rfl,hb1.out⟩
   ·have y:((lv:Int)==5)=false:=Bq (by omega);have hf:fin=false:=by rw[hfin.out];simp[C9,hv]
    subst hf;go_wp2;go_ret;exact⟨rfl,hb1.out⟩
  have z8:((k:Int)==8)=false:=Bq (by omega);by_cases hk9:k=9
  ·subst hk9;by_cases hv:lv=8
   ·subst hv;have hf:fin=true:=by rw[hfin.out];rfl
    subst hf;go_wp2;go_ret;exact⟨rfl,hb1.out⟩
   ·have y:((lv:Int)==8)=false:=Bq (by omega);have hf:fin=false:=by rw[hfin.out];simp[C9,hv]
    subst hf;go_wp2;go_ret;exact⟨rfl,hb1.out⟩
  have z9:((k:Int)==9)=false:=Bq (by omega);by_cases hk10:k=10
  ·subst hk10;by_cases hv:lv=9
   ·subst hv;have hf:fin=true:=by rw[hfin.out];rfl
    subst hf;go_wp2;go_ret;exact⟨rfl,hb1.out⟩
   ·have y:((lv:Int)==9)=false:=Bq (by omega);have hf:fin=false:=by rw[hfin.out];simp[C9,hv]
    subst hf;go_wp2;go_ret;exact⟨rfl,hb1.out⟩
  have z10:((k:Int)==10)=false:=Bq (by omega);have hf:fin=false:=by rw[hfin.out];simp[C9,hk1,hk2,hk7,hk3,hk4,hk5,hk6,hk8,hk9,hk10]
  subst hf;clear hk1 hk2 hk7 hk3 hk4 hk5 hk6 hk8 hk9 hk10;go_wp2;go_ret;exact⟨rfl,hb1.out⟩
theorem LK{n i:Nat}{l:List D5}(h:i<l.length):CH n (l.take i) (l.drop i)=if Ez n (l.take i) (l.getD i (0,0))=true then CH n (l.take (i+1)) (l.drop (i+1)) else i:=by
 rw[List.drop_eq_getElem_cons h,CH,List.take_succ_eq_append_getElem h,List.getD_eq_getElem?_getD,List.getElem?_eq_getElem h,List.length_take,Nat.min_eq_left (by omega)];rfl
theorem Fh(W:World)(A:Option Addr)(c:Nat)(l:List D5)(n:Nat)(hn1:1≤n)(hn2:n≤64)(h:E2 W A l)(hl:l.length≤100000000)(hlc:l.length≤c) :
  Calls Tryz.prog 44 #[.int .i64 (n:Int),.slice A l.length c] W fun e W'=>e=.returned (.int .i64 (Cn n l:Int))∧Below W.heap.size W W':=by
 have hS:∀ W1:World,E2 W1 A l→∀ i,i≤l.length→∀ k t:Nat,Calls Tryz.prog 76 #[.int .i64 (n:Int),.slice A i c,.agg #[.int .i64 (k:Int),.int .i64 (t:Int),.int .i64 0]] W1 fun e W'=>e=.returned (.bool (Ez n (l.take i) (k,t)))∧Below W1.heap.size W1 W':=fun W1 h1 i hi k t=>by
  have:=Na W1 A c (l.take i) n k t (h1.take i) (by rw[List.length_take];omega) (by rw[List.length_take];omega)
  rwa [List.length_take,Nat.min_eq_left hi]at this
 obtain⟨m,hm⟩:∃ m,l.length=m:=⟨_,rfl⟩
 obtain⟨fin,hfin⟩:∃ z,Cn n l=z:=⟨_,rfl⟩
 have hf0:CH n (l.take 0) (l.drop 0)=fin:=by rw[←hfin,Cn,if_neg (by omega)];rfl
 rw[hm]at hl hS hlc ⊢;rw[hfin];replace hm:=Az hm;replace h:=Az h;replace hS:=Az hS;replace hf0:=Az hf0;have a1:¬(n:Int)<1:=by omega
 have a2:¬(64:Int)<(n:Int):=by omega
 clear hfin;go_enter Tryz.func44,Tryz.ntmps44;go_wp2_with fail
 go_loopw [14] (fun v14 wr=>∃ (i:Nat),v14=.int .i64 (i:Int)∧i≤m∧Ag (CH n (l.take i) (l.drop i)=fin)∧Ag (Below W.heap.size W wr)) (fun v14 _=>m-(intOf v14).toNat)
 case atStart=>exact⟨0,rfl,Nat.zero_le _,hf0,⟨Below.refl _ _⟩⟩
 case round =>
  obtain⟨i,rfl,hi,hF,hB⟩:=hrel;clear hf0 a1 a2;by_cases hlt:i<m
  ·have hnl:i<l.length:=by rw[hm.out];exact hlt
   have hEc:=(h.out.keep hB.out).keep (Bd (Below.refl _ _));replace hB:=Az (hB.out.trans (Bd (Below.refl _ _)));obtain⟨ad,rfl,hcell⟩:=hEc (by omega);obtain⟨c1,c2,c3⟩:=hcell i hnl;have hst:=LK (n:=n) hnl;rw[hF.out]at hst;generalize l.getD i (0,0)=e at c1 c2 hst;obtain⟨ek,et⟩:=e;dsimp only at c1 c2 hst;have n0:(0:Int)≤(i:Int):=by omega
   have n1:(i:Int)<(m:Int):=by omega
   have n2:(i:Int)≤(c:Int):=by omega
   have nw:IntKind.i64.wrap ((i:Int)+1)=(i:Int)+1:=by rw[IntKind.wrap_i64];omega
   have hC:=hS.out _ hEc i hi ek et;obtain⟨b,hb⟩:∃ b,Ez n (l.take i) (ek,et)=b:=⟨_,rfl⟩
   rw[hb]at hC hst;have hS5:(fun W'=>W'.cell? (ad.add (i*3))=some (.int .i64 (ek:Int))∧W'.cell? ⟨(ad.add (i*3)).block,(ad.add (i*3)).off+1,none⟩=some (.int .i64 (et:Int))∧W'.cell? ⟨(ad.add (i*3)).block,(ad.add (i*3)).off+2,none⟩=some (.int .i64 0)) wr.drew:=⟨c1,c2,c3⟩
   replace hst:=Az hst;replace hC:=Az hC;clear hcell hEc hF hb c1 c2 c3;go_upto_region 6 with fail
   refine Av [] (S:=fun W'=>W'.cell? (ad.add (i*3))=some (.int .i64 (ek:Int))∧W'.cell? ⟨(ad.add (i*3)).block,(ad.add (i*3)).off+1,none⟩=some (.int .i64 (et:Int))∧W'.cell? ⟨(ad.add (i*3)).block,(ad.add (i*3)).off+2,none⟩=some (.int .i64 0)) (by kernel_rfl) hS5 (fun hS0=>?_);clear hS5;try simp only[Act.put,Sa,Sb,Sc]
   refine tY 0 (fun _=>hS0) ?_;refine tY 1 (fun _=>hS0) ?_;refine tY 2 (fun _=>hS0) ?_;refine Bo (i:=3) (v:=.slice (some ad) i c) (Au rfl) (by kernel_rfl) (fun _ _ _ h=>h) (.inl ⟨by rfl,?_⟩) (fun _=>hS0) ?_
   ·intro w;go_simp;first |done |rw[if_pos (by omega)] |rfl
   try simp only[Act.put,Sa,Sb,Sc]
   refine tY 4 (fun _=>hS0) ?_;refine tY 5 (fun _=>hS0) ?_;refine tY 6 (fun _=>hS0) ?_;refine tL 7 (hS0) ?_;refine Ab (rs:=[8]) (by kernel_rfl) (by simp) ?_;refine Aa.cons (Au rfl) (fun K hK=>?_) Aa.nil;rw[if_pos (by rfl)];go_wp2_with fail
   refine hC.out.mono ?_;rintro e w3 ⟨rfl,hB3⟩;replace hB:=Az (hB.out.trans (hB3.mono hB.out.size));replace hS0:(fun W'=>W'.cell? (ad.add (i*3))=some (.int .i64 (ek:Int))∧W'.cell? ⟨(ad.add (i*3)).block,(ad.add (i*3)).off+1,none⟩=some (.int .i64 (et:Int))∧W'.cell? ⟨(ad.add (i*3)).block,(ad.add (i*3)).off+2,none⟩=some (.int .i64 0)) w3:=⟨Ck hB3 hS0.1,Ck hB3 hS0.2.1,Ck hB3 hS0.2.2⟩
   refine hK.out _ _ (fun _=>hS0) (fun _=>?_);clear hK hC hB3;try simp only[Act.put,Sa,Sb,Sc]
   refine tY 9 (fun _=>hS0) ?_;refine Ax (by kernel_rfl) ?_ _;clear hS0;cases b with
   |true =>
    replace hst:=Az (hst.out.trans (if_pos rfl)).symm;go_wp2;go_roundw
    case rel=>exact⟨i+1,by go_num,hlt,hst,hB⟩
    case measure=>simp[intOf];omega
   |false =>
    have hf:=hst.out.trans (if_neg (by simp));subst hf;go_wp2;go_ret;exact⟨rfl,hB.out⟩
  ·obtain rfl:i=m:=by omega
   have n1:¬(i:Int)<(i:Int):=by omega
   have hf:=hF.out;rw[List.drop_eq_nil_of_le (by rw[hm.out];exact Nl _),CH,←hm.out,List.take_length,hm.out]at hf;subst hf;go_wp2;go_ret;exact⟨rfl,hB.out⟩
end
end Go.Proofs.YtjjpiefgdggghaaGreatDoor
