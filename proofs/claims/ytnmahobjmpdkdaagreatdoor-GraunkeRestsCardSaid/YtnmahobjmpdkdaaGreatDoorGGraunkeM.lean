/- Graunke's lock on the document's machine: its marks are a trace of the abstract lock, nothing traps, all are served. Plain. -/
import Derived.Test.YtnmahobjmpdkdaaGreatDoorG02
import Derived.Test.YtnmahobjmpdkdaaGreatDoorGAcc
import Derived.KernelRfl
set_option linter.unusedVariables false
set_option linter.unusedSimpArgs false
set_option maxRecDepth 100000
set_option maxHeartbeats 40000000
namespace Go.Proofs.YtnmahobjmpdkdaaGreatDoor
section
def DS:Pg:=⟨[⟨11,1,0,0,0,0,0,0⟩,⟨16,2,1,0,0,1,0,0⟩,⟨5,3,1,0,0,0,1,0⟩,⟨7,3,3,2,0,0,0,0⟩,⟨18,4,0,3,0,0,0,0⟩,⟨12,0,0,0,0,0,1,0⟩,⟨4,5,4,0,0,0,1,0⟩,⟨6,6,4,0,0,0,1,0⟩,⟨21,4,6,5,0,1,1,-1⟩,⟨12,0,0,0,0,0,2,0⟩,⟨13,0,0,0,0,0,1,0⟩,⟨1,3,0,0,0,0,1,0⟩,⟨8,0,2,0,0,0,0,14⟩,⟨1,3,0,0,0,0,0,0⟩,⟨17,0,1,3,0,1,0,0⟩,⟨12,0,0,0,0,0,4,0⟩,⟨13,0,0,0,0,0,2,0⟩],0,11⟩
inductive GK where
 |idle
 |s1
 |s4
 |wt (p b:Nat)
 |hold
 |rel
def GK.is:GK→Nat→Nat→CoreM→Nat→Nat→Prop
 |.idle,_,a,c,l,_=>a=0∧(l=0∨l=10)∧∃ r1 r2 r3 r4 r5 r6 r7 pc,c=⟨[0,r1,r2,r3,r4,r5,r6,r7],pc⟩
 |.s1,t,a,c,l,_=>a=1∧l=1∧∃ r2 r3 r4 r5 r6 r7,c=⟨[0,t,r2,r3,r4,r5,r6,r7],1⟩
 |.s4,t,a,c,l,f=>a=1∧l=1∧∃ r4 r5 r6 r7,c=⟨[0,t,f,2*t+f,r4,r5,r6,r7],4⟩
 |.wt p b,t,a,c,l,f=>a=1∧l=2∧∃ r3 r4 r7,c=⟨[0,t,f,r3,r4,b,p,r7],8⟩
 |.hold,t,a,c,l,f=>a=2∧l=5∧∃ r3 r4 r5 r6 r7,c=⟨[0,t,f,r3,r4,r5,r6,r7],10⟩
 |.rel,t,a,c,l,f=>a=3∧l=8∧∃ r4 r5 r6 r7,c=⟨[0,t,f,1-f,r4,r5,r6,r7],14⟩
def GK.rk:GK→Nat
 |.idle=>0
 |.s1=>5
 |.s4=>4
 |.wt _ _=>3
 |.hold=>2
 |.rel=>1
def We(n:Nat)(P:Nat→GK):Nat:=B0 n (fun t=>(P t).rk)
theorem Qx{n t:Nat}{P:Nat→GK}(ht:t<n)(p:GK):We n (Ay P t p)+(P t).rk=We n P+p.rk:=by
 have:=D0 (f:=fun t=>(P t).rk) (g:=fun u=>(Ay P t p u).rk) n ht (fun u hu=>by show(Ay P t p u).rk=_;rw[Au _ _ hu]);simp only[Ag]at this;exact this
def IA(P:Nat→GK)(fl:Nat→Nat):Nat→Nat→List Nat→Prop
 |_,_,[]=>True
 |p,b,t::q=>P t=.wt p b∧IA P fl t (fl t) q
def Mw(fl:Nat→Nat):Nat→Nat→List Nat→Nat
 |p,b,[]=>2*p+b
 |_,_,t::q=>Mw fl t (fl t) q
section
variable {P P':Nat→GK} {fl fl':Nat→Nat} {t:Nat}
theorem Eh:∀ (q:List Nat) (p b:Nat),(∀ u∈q,P' u=P u∧fl' u=fl u)→IA P fl p b q→IA P' fl' p b q
 |[],_,_,_,_=>trivial
 |s::q,p,b,h,hw=>by
  obtain⟨e1,e2⟩:=h s (List.mem_cons_self ..);exact⟨e1.trans hw.1,by rw[e2];exact Eh q _ _ (fun u hu=>h u (List.mem_cons_of_mem _ hu)) hw.2⟩
theorem Lg:∀ (q:List Nat) (p b:Nat),(∀ u∈q,fl' u=fl u)→Mw fl' p b q=Mw fl p b q
 |[],_,_,_=>rfl
 |s::q,p,b,h=>by
  unfold Mw;rw[h s (List.mem_cons_self ..)];exact Lg q _ _ (fun u hu=>h u (List.mem_cons_of_mem _ hu))
theorem Lh{x y:Nat}:∀ (q:List Nat) (p b:Nat),IA P fl p b q→Mw fl p b q=2*x+y→(∀ u∈q,fl u≤1)→b≤1→y≤1→P t=.wt x y→IA P fl p b (q++[t])
 |[],p,b,_,e,_,hb,hy,h=>by
  have e:2*p+b=2*x+y:=e;obtain rfl:b=y:=by omega
  obtain rfl:p=x:=by omega
  exact⟨h,trivial⟩
 |s::q,p,b,hq,e,hf,hb,hy,h=>⟨hq.1,Lh q _ _ hq.2 e (fun u hu=>hf u (List.mem_cons_of_mem _ hu)) (hf s (List.mem_cons_self ..)) hy h⟩
theorem MS:∀ (q:List Nat) (p b:Nat),Mw fl p b (q++[t])=2*t+fl t
 |[],p,b=>rfl
 |s::q,p,b=>MS q _ _
theorem R7{n:Nat}:∀ (q:List Nat) (p b:Nat),p≤n→b≤1→(∀ u∈q,u<n∧fl u≤1)→∃ x y,Mw fl p b q=2*x+y∧x≤n∧y≤1
 |[],p,b,hp,hb,_=>⟨p,b,rfl,hp,hb⟩
 |s::q,p,b,_,_,h=>R7 q _ _ (Nat.le_of_lt (h s (List.mem_cons_self ..)).1) (h s (List.mem_cons_self ..)).2 (fun u hu=>h u (List.mem_cons_of_mem _ hu))
theorem EU:∀ (q:List Nat) (p b:Nat),IA P fl p b q→t∈q→(∃ q',q=t::q'∧P t=.wt p b)∨∃ u,u∈q∧P t=.wt u (fl u)
 |s::q,p,b,hq,h=>by
  by_cases e:t=s
  ·subst e;exact .inl ⟨q,rfl,hq.1⟩
  ·rcases EU q _ _ hq.2 (by simpa [e]using h) with ⟨q',rfl,h2⟩ |⟨u,h1,h2⟩
   ·exact .inr ⟨s,by simp,h2⟩
   ·exact .inr ⟨u,by simp[h1],h2⟩
end
structure GG where
 P:Nat→GK
 L:Nat→Nat
 H:Option Nat
 bp:Nat
 bb:Nat
 q:List Nat
 m:Nat→Nat→Nat
def GG.fp(g:GG):Nat:=match g.H with
 |none=>g.bp
 |some h=>h
def GG.fb(g:GG):Nat:=match g.H with
 |none=>g.bb
 |some h=>g.m 1 h
abbrev K8(n:Nat):List Nat:=[1,n+1]
structure GI (n:Nat) (g:GG) (s:LS):Prop where
 W:Wd (K8 n) s.words g.m
 is:∀ t,t<n→(g.P t).is t (s.act t) (s.core t) (g.L t) (g.m 1 t)
 tail:g.m 0 0=Mw (g.m 1) g.fp g.fb g.q
 w:IA g.P (g.m 1) g.fp g.fb g.q
 hold:∀ t∈g.H,t<n∧t∉g.q∧(g.P t=.hold∨g.P t=.rel)
 free:∀ t,t<n→t∉g.q→t∉g.H→g.P t=.idle∨g.P t=.s1∨g.P t=.s4
 nd:g.q.Nodup
 lt:∀ t∈g.q,t<n
 f1:∀ p,p≤n→g.m 1 p≤1
 bl:g.bp≤n
 b1:g.bb≤1
 ne:g.H=none→g.m 1 g.bp≠g.bb
 tr:Cn n s.tr g.L g.q
theorem H2{n t:Nat}{P:Nat→GK}{A:Nat→Nat}{C:Nat→CoreM}{L f f':Nat→Nat}(h:∀ u,u<n→(P u).is u (A u) (C u) (L u) (f u))(hf:∀ u,u≠t→f' u=f u)(p:GK)(a:Nat)(c:CoreM)(l:Nat)(hp:p.is t a c l (f' t)) :
  ∀ u,u<n→(Ay P t p u).is u (Ay A t a u) (Ay C t c u) (Ay L t l u) (f' u):=by
 intro u hu;by_cases e:u=t
 ·subst e;simp only[Ag];exact hp
 ·simp only[Au _ _ e,hf u e];exact h u hu
section
variable {n:Nat} {s s':LS} {g:GG} {t:Nat} {r:AQ} {late:Int}
theorem K9(h:GI n g s)(hP:∀ p b,g.P t≠.wt p b):t∉g.q:=fun hm=>by
 rcases EU _ _ _ h.w hm with ⟨_,_,e⟩ |⟨_,_,e⟩<;>exact hP _ _ e
theorem NJ(h:GI n g s)(h1:g.P t≠.hold)(h2:g.P t≠.rel):t∉g.H:=fun hm=>by
 rcases(h.hold t hm).2.2 with e |e
 ·exact h1 e
 ·exact h2 e
theorem Zq(h:GI n g s)(ht:t<n)(hP:g.P t=.hold∨g.P t=.rel):g.H=some t∧t∉g.q:=by
 have hq:=K9 h (t:=t) (by intro p b e;rcases hP with e' |e'<;>rw[e']at e<;>cases e);by_cases hH:t∈g.H
 ·exact⟨by simpa using hH,hq⟩
 ·rcases h.free t ht hq hH with e |e |e<;>rcases hP with e' |e'<;>rw[e']at e<;>cases e
theorem WI(h:GI n g s)(ht:t<n){c:CoreM}(W:Wd (K8 n) s'.words g.m)(is':(g.P t).is t (s.act t) c (g.L t) (g.m 1 t))(hc:s'.core=Ay s.core t c)(ha:s'.act=s.act)(tr:s'.tr=s.tr):GI n g s':=by
 refine⟨W,?_,h.tail,h.w,h.hold,h.free,h.nd,h.lt,h.f1,h.bl,h.b1,h.ne,by rw[tr];exact h.tr⟩;have:=H2 (t:=t) h.is (fun _ _=>rfl) (g.P t) (s.act t) c (g.L t) is';rw[AZ (f:=g.P) rfl,AZ (f:=s.act) rfl,AZ (f:=g.L) rfl]at this;rw[hc,ha];exact this
theorem R8(h:GI n g s)(ht:t<n)(hq:t∉g.q)(hH:t∉g.H){p:GK}(hp:p=.idle∨p=.s1∨p=.s4){a l:Nat}{c:CoreM}(W:Wd (K8 n) s'.words g.m)(is':p.is t a c l (g.m 1 t))(hc:s'.core=Ay s.core t c)(ha:s'.act=Ay s.act t a)(tr:Cn n s'.tr (Ay g.L t l) g.q) :
  GI n {g with P:=Ay g.P t p,L:=Ay g.L t l} s':=by
 refine⟨W,?_,h.tail,?_,fun u hu=>?_,fun u hu h1 h2=>?_,h.nd,h.lt,h.f1,h.bl,h.b1,h.ne,tr⟩
 ·rw[hc,ha];exact H2 h.is (fun _ _=>rfl) p a c l is'
 ·exact Eh _ _ _ (fun u hu=>⟨Au _ _ (fun e=>hq (e▸hu)),rfl⟩) h.w
 ·obtain⟨a1,a2,a3⟩:=h.hold u hu;have e:u≠t:=fun e=>hH (e▸hu)
  exact⟨a1,a2,by show Ay g.P t _ u=_∨Ay g.P t _ u=_;rw[Au _ _ e];exact a3⟩
 ·show Ay g.P t _ u=_∨Ay g.P t _ u=_∨Ay g.P t _ u=_
  by_cases e:u=t
  ·rw[e,Ag];exact hp
  ·rw[Au _ _ e];exact h.free u hu h1 h2
theorem R9(hs:BF n DS (AL (K8 n)) r s)(h:GI n g s)(ht:t<n)(ha:s.act t=0) :
  ∃ s',BF n DS (AL (K8 n)) (r.op 1 t late) s'∧GI n {g with P:=Ay g.P t .s1,L:=Ay g.L t 1} s'∧s'.act=Ay s.act t 1:=by
 have hP:g.P t=.idle:=by
  have:=h.is t ht;cases hp:g.P t<;>rw[hp]at this<;>simp only[GK.is]at this<;>omega
 have hi:=h.is t ht;rw[hP]at hi;obtain⟨_,hl,r1,r2,r3,r4,r5,r6,r7,pc,hc⟩:=hi;have hq:=K9 h (t:=t) (by rw[hP];intro p b e;cases e);have hH:=NJ h (t:=t) (by rw[hP];simp) (by rw[hP];simp);obtain⟨s',a1,a2,a3,a4,a5⟩:=hs.Ur (late:=late) h.W ht ha hc (c':=⟨[0,t,r2,r3,r4,r5,r6,r7],1⟩) rfl;exact⟨s',a1,R8 h ht hq hH (p:=.s1) (.inr (.inl rfl)) a2 ⟨rfl,rfl,r2,r3,r4,r5,r6,r7,rfl⟩ a3 a4 (by rw[a5];exact h.tr.call ht hq (by omega)),a4⟩
theorem MT(hs:BF n DS (AL (K8 n)) r s)(h:GI n g s)(ht:t<n)(ha:s.act t=2) :
  ∃ s',g.P t=.hold∧BF n DS (AL (K8 n)) (r.op 2 t late) s'∧GI n {g with P:=Ay g.P t .rel,L:=Ay g.L t 8} s'∧s'.act=Ay s.act t 3:=by
 have hP:g.P t=.hold:=by
  have:=h.is t ht;cases hp:g.P t<;>rw[hp]at this<;>simp only[GK.is]at this<;>first |rfl |omega
 have hi:=h.is t ht;rw[hP]at hi;obtain⟨_,hl,r3,r4,r5,r6,r7,hc⟩:=hi;obtain⟨hH,hq⟩:=Zq h ht (.inl hP);have hf:=h.f1 t (Nat.le_of_lt ht);obtain⟨s',a1,a2,a3,a4,a5⟩:=hs.NK (late:=late) h.W ht ha hc (c':=⟨[0,t,g.m 1 t,1-g.m 1 t,r4,r5,r6,r7],14⟩) (by
  have h01:g.m 1 t=0∨g.m 1 t=1:=by omega
  rcases h01 with e |e<;>rw[e]<;>rfl)
 refine⟨s',hP,a1,⟨a2,?_,h.tail,Eh _ _ _ (fun u hu=>⟨Au _ _ (fun e=>hq (e▸hu)),rfl⟩) h.w,fun u hu=>?_,fun u hu h1 h2=>?_,h.nd,h.lt,h.f1,h.bl,h.b1,h.ne,by rw[a5];exact h.tr.unlock ht hq hl⟩,a4⟩
 ·rw[a3,a4];exact H2 h.is (fun _ _=>rfl) .rel 3 _ 8 ⟨rfl,rfl,r4,r5,r6,r7,rfl⟩
 ·have hu':u∈g.H:=hu;rw[hH]at hu';obtain rfl:t=u:=by simpa using hu'
  exact⟨ht,hq,.inr (Ag _ _ _)⟩
 ·have e:u≠t:=fun e=>h2 (by show u∈g.H;rw[hH,e];rfl)
  show Ay g.P t _ u=_∨Ay g.P t _ u=_∨Ay g.P t _ u=_
  rw[Au _ _ e];exact h.free u hu h1 h2
variable {kind:Int}
theorem WJ:∀ t:Nat,t<64→∀ f:Nat,f<2→Nat.lor (t*2 ^ 1%Bj) f=2*t+f:=by decide +kernel
theorem Us:∀ p:Nat,p<65→∀ b:Nat,b<2→Nat.land (2*p+b) 1=b∧(2*p+b)/2 ^ 1=p:=by decide +kernel
theorem XP(hn:n≤64)(hs:BF n DS (AL (K8 n)) r s)(h:GI n g s)(ht:t<n)(hp:g.P t=.s1)(h1:kind≠1)(h2:kind≠2) :
  ∃ s',BF n DS (AL (K8 n)) (r.op kind t late) s'∧GI n {g with P:=Ay g.P t .s4,L:=Ay g.L t 1} s'∧s'.act=Ay s.act t 1:=by
 have hi:=h.is t ht;rw[hp]at hi;obtain⟨hact,hl,r2,r3,r4,r5,r6,r7,hc⟩:=hi;have hL:Ay g.L t 1=g.L:=AZ hl;have hq:=K9 h (t:=t) (by rw[hp];intro p b e;cases e);have hH:=NJ h (t:=t) (by rw[hp];simp) (by rw[hp];simp);have hf:=h.f1 t (Nat.le_of_lt ht);have ee:∀ (l:Bool) (a:Nat),Gj DS t ⟨[0,t,r2,r3,r4,r5,r6,r7],1⟩ l (g.m 1 t) (decide (g.m 1 t=0)) a=(none,⟨[0,t,g.m 1 t,Nat.lor (t*2 ^ 1%Bj) (g.m 1 t),r4,r5,r6,r7],4⟩,⟨[],-1,a,0,0,0⟩):=fun l a=>by cases l<;>kernel_rfl
 rw[WJ t (by omega) _ (by omega)]at ee;obtain⟨s',a1,a2,a3,a4,a5⟩:=hs.acc (late:=late) h.W ht (.inl hact) h1 h2 hc rfl 1 t (g.m 1 t) _ rfl rfl (Nat.lt_succ_of_lt ht) (by omega) rfl rfl ee (by rw[hact];rfl);have a4':s'.act=Ay s.act t 1:=by rw[AZ hact];exact a4
 exact⟨s',a1,R8 h ht hq hH (p:=.s4) (.inr (.inr rfl)) a2 ⟨rfl,rfl,r4,r5,r6,r7,rfl⟩ a3 a4' (by rw[hL];exact a5▸h.tr),a4'⟩
theorem Pa(h:GI n g s):g.fp≤n∧g.fb≤1:=by
 unfold GG.fp GG.fb;cases hH:g.H with
 |none=>exact⟨h.bl,h.b1⟩
 |some x=>have:=(h.hold x (by rw[hH];rfl)).1;exact⟨Nat.le_of_lt this,h.f1 x (Nat.le_of_lt this)⟩
theorem XQ(hn:n≤64)(hs:BF n DS (AL (K8 n)) r s)(h:GI n g s)(ht:t<n)(hp:g.P t=.s4)(h1:kind≠1)(h2:kind≠2) :
  ∃ s',BF n DS (AL (K8 n)) (r.op kind t late) s'∧∃ x y,GI n {g with P:=Ay g.P t (.wt x y),L:=Ay g.L t 2,q:=g.q++[t],m:=Bp g.m 0 0 (2*t+g.m 1 t)} s'∧s'.act=Ay s.act t 1:=by
 have hi:=h.is t ht;rw[hp]at hi;obtain⟨hact,hl,r4,r5,r6,r7,hc⟩:=hi;have hq:=K9 h (t:=t) (by rw[hp];intro p b e;cases e);have hH:=NJ h (t:=t) (by rw[hp];simp) (by rw[hp];simp);have hfr:=Pa h;have hfq:∀ u∈g.q,u<n∧g.m 1 u≤1:=fun u hu=>⟨h.lt u hu,h.f1 u (Nat.le_of_lt (h.lt u hu))⟩
 obtain⟨x,y,e1,hx,hy⟩:=R7 (fl:=g.m 1) g.q g.fp g.fb hfr.1 hfr.2 hfq;have hm:=h.tail;rw[e1]at hm;obtain⟨l1,l2⟩:=Us x (by omega) y (by omega);have ee:∀ (l:Bool) (a:Nat),Gj DS t ⟨[0,t,g.m 1 t,2*t+g.m 1 t,r4,r5,r6,r7],4⟩ l (2*x+y) (decide (2*x+y=2*t+g.m 1 t)) a=(some (2*t+g.m 1 t),⟨[0,t,g.m 1 t,2*t+g.m 1 t,2*x+y,Nat.land (2*x+y) 1,(2*x+y)/2 ^ 1,r7],8⟩,⟨[1],-1,a,1,0,0⟩):=fun l a=>by cases l<;>kernel_rfl
 rw[l1,l2]at ee;obtain⟨s',a1,a2,a3,a4,a5⟩:=hs.acc (late:=late) h.W ht (.inl hact) h1 h2 hc rfl 0 0 (2*x+y) _ rfl rfl (by show 0<1;decide) (by decide) hm rfl ee (by rw[hact];rfl);have a4':s'.act=Ay s.act t 1:=by rw[AZ hact];exact a4
 have m0:Bp g.m 0 0 (2*t+g.m 1 t) 0 0=2*t+g.m 1 t:=(congrFun (Ag _ _ _) 0).trans (Ag _ _ _);have m1:Bp g.m 0 0 (2*t+g.m 1 t) 1=g.m 1:=Au _ _ (by decide);have efb:(GG.fb {g with P:=Ay g.P t (.wt x y),L:=Ay g.L t 2,q:=g.q++[t],m:=Bp g.m 0 0 (2*t+g.m 1 t)})=g.fb:=by unfold GG.fb;dsimp only;rw[m1]
 refine⟨s',a1,x,y,⟨a2,?_,?_,?_,fun u hu=>?_,fun u hu h1 h2=>?_,?_,fun u hu=>?_,?_,h.bl,h.b1,?_,?_⟩,a4'⟩
 ·rw[a3,a4'];exact H2 h.is (fun u _=>congrFun m1 u) (.wt x y) 1 _ 2 ⟨rfl,rfl,2*t+g.m 1 t,2*x+y,r7,by rw[m1]⟩
 ·rw[efb]
  show Bp g.m 0 0 (2*t+g.m 1 t) 0 0=Mw (Bp g.m 0 0 (2*t+g.m 1 t) 1) g.fp g.fb (g.q++[t])
  rw[m0,m1,MS]
 ·rw[efb]
  show IA (Ay g.P t (.wt x y)) (Bp g.m 0 0 (2*t+g.m 1 t) 1) g.fp g.fb (g.q++[t])
  rw[m1];exact Lh (x:=x) (y:=y) _ _ _ (Eh _ _ _ (fun u hu=>⟨Au _ _ (fun e=>hq (e▸hu)),rfl⟩) h.w) e1 (fun u hu=>(hfq u hu).2) hfr.2 hy (Ag _ _ _)
 ·obtain⟨a1,a2,a3⟩:=h.hold u hu;have e:u≠t:=fun e=>hH (e▸hu)
  exact⟨a1,by show u∉g.q++[t];simp[a2,e],by show Ay g.P t _ u=_∨Ay g.P t _ u=_;rw[Au _ _ e];exact a3⟩
 ·have e:u≠t:=fun e=>h1 (by show u∈g.q++[t];rw[e];simp)
  show Ay g.P t _ u=_∨Ay g.P t _ u=_∨Ay g.P t _ u=_
  rw[Au _ _ e];exact h.free u hu (fun hm=>h1 (List.mem_append_left _ hm)) h2
 ·show(g.q++[t]).Nodup
  rw[List.nodup_append];exact⟨h.nd,by simp,fun a ha b hb=>by rw[List.mem_singleton.1 hb];exact fun e=>hq (e▸ha)⟩
 ·rcases List.mem_append.1 hu with hu |hu
  ·exact h.lt u hu
  ·rw[List.mem_singleton.1 hu];exact ht
 ·intro p hp;show Bp g.m 0 0 (2*t+g.m 1 t) 1 p≤1;rw[m1];exact h.f1 p hp
 ·intro hn;show Bp g.m 0 0 (2*t+g.m 1 t) 1 g.bp≠g.bb;rw[m1];exact h.ne hn
 ·rw[a5];exact h.tr.enq ht hq hl
theorem Pb(hn:n≤64)(hs:BF n DS (AL (K8 n)) r s)(h:GI n g s)(ht:t<n)(hH:g.H=none){q:List Nat}(hq:g.q=t::q)(h1:kind≠1)(h2:kind≠2) :
  ∃ s',BF n DS (AL (K8 n)) (r.op kind t late) s'∧(∃ p b,g.P t=.wt p b)∧GI n {g with P:=Ay g.P t .hold,L:=Ay g.L t 5,H:=some t,q:=q} s'∧s'.act=Ay s.act t 2:=by
 have hw:=h.w;have ep:g.fp=g.bp:=by unfold GG.fp;rw[hH]
 have eb:g.fb=g.bb:=by unfold GG.fb;rw[hH]
 rw[hq,ep,eb]at hw;have hp:=hw.1;have hi:=h.is t ht;rw[hp]at hi;obtain⟨hact,hl,r3,r4,r7,hc⟩:=hi;have hnd:(t::q).Nodup:=hq▸h.nd;have hnd:=List.nodup_cons.1 hnd;have hown:∀ u,u<n→Ks (g.L u)=false:=fun u hu=>by
  have hiu:=h.is u hu;by_cases hm:u∈g.q
  ·rcases EU _ _ _ h.w hm with ⟨_,_,e⟩ |⟨_,_,e⟩<;>rw[e]at hiu<;>rw[hiu.2.1]<;>rfl
  ·rcases h.free u hu hm (by rw[hH];simp) with e |e |e<;>rw[e]at hiu
   ·rcases hiu.2.1 with e |e<;>rw[e]<;>rfl
   ·rw[hiu.2.1];rfl
   ·rw[hiu.2.1];rfl
 have T0:=h.tr;rw[hq]at T0;have T1:=T0.Li ht hnd.1 hl hown;have T2:=T1.EV ht hnd.1 (Ag _ _ _);rw[Dr]at T2;have hne:=h.ne hH;have hbl:=h.bl;obtain⟨s',a1,a2,a3,a4,a5⟩:=hs.acc (late:=late) h.W ht (.inl hact) h1 h2 hc rfl 1 g.bp (g.m 1 g.bp) false rfl rfl (Nat.lt_succ_of_le hbl) (by omega) rfl (decide_eq_false hne)
  (wr:=none) (c':=⟨[0,t,g.m 1 t,r3,g.m 1 g.bp,g.bb,g.bp,r7],10⟩) (ms:=[2]) (done:=1) (wrote:=0) (stay:=0) (fun l a=>by cases l<;>kernel_rfl) (by rw[hact];rfl)
 refine⟨s',a1,⟨_,_,hp⟩,⟨a2,?_,?_,?_,fun u hu=>?_,fun u hu h1 h2=>?_,hnd.2,fun u hu=>h.lt u (by rw[hq];exact List.mem_cons_of_mem _ hu),h.f1,h.bl,h.b1,(fun e=>by cases e),by rw[a5];exact T2⟩,a4⟩
 ·rw[a3,a4];exact H2 h.is (fun _ _=>rfl) .hold 2 _ 5 ⟨rfl,rfl,r3,_,_,_,r7,rfl⟩
 ·have:=h.tail;rw[hq]at this;exact this
 ·exact Eh _ _ _ (fun u hu=>⟨Au _ _ (fun e=>hnd.1 (e▸hu)),rfl⟩) hw.2
 ·obtain rfl:t=u:=by simpa using hu
  exact⟨ht,hnd.1,.inl (Ag _ _ _)⟩
 ·have e:u≠t:=fun e=>h2 (by rw[e];rfl)
  show Ay g.P t _ u=_∨Ay g.P t _ u=_∨Ay g.P t _ u=_
  rw[Au _ _ e];exact h.free u hu (by rw[hq];simp[e];exact h1) (by rw[hH];simp)
theorem WK(hn:n≤64)(hs:BF n DS (AL (K8 n)) r s)(h:GI n g s)(ht:t<n){p b:Nat}(hp:g.P t=.wt p b)(hl:p≤n)(hw:g.m 1 p=b)(h1:kind≠1)(h2:kind≠2) :
  ∃ s',BF n DS (AL (K8 n)) (r.op kind t late) s'∧GI n g s'∧s'.act=s.act:=by
 have hi:=h.is t ht;rw[hp]at hi;obtain⟨hact,hL,r3,r4,r7,hc⟩:=hi;obtain⟨s',a1,a2,a3,a4,a5⟩:=hs.acc (late:=late) h.W ht (.inl hact) h1 h2 hc rfl 1 p b true rfl rfl (Nat.lt_succ_of_le hl) (by omega) hw (decide_eq_true rfl)
  (wr:=none) (c':=⟨[0,t,g.m 1 t,r3,b,b,p,r7],8⟩) (ms:=[]) (done := -1) (wrote:=0) (stay:=1) (fun l a=>by cases l<;>kernel_rfl) (by rw[hact];rfl)
 exact⟨s',a1,WI h ht a2 (by rw[hp];exact⟨hact,hL,r3,b,r7,rfl⟩) a3 a4 a5,a4⟩
theorem Ut(hn:n≤64)(hs:BF n DS (AL (K8 n)) r s)(h:GI n g s)(ht:t<n)(hp:g.P t=.rel)(h1:kind≠1)(h2:kind≠2) :
  ∃ s',BF n DS (AL (K8 n)) (r.op kind t late) s'∧GI n ⟨Ay g.P t .idle,Ay g.L t 10,none,t,g.m 1 t,g.q,Bp g.m 1 t (1-g.m 1 t)⟩ s'∧s'.act=Ay s.act t 0:=by
 have hi:=h.is t ht;rw[hp]at hi;obtain⟨hact,hl,r4,r5,r6,r7,hc⟩:=hi;obtain⟨hH,hq⟩:=Zq h ht (.inr hp);have ep:g.fp=t:=by unfold GG.fp;rw[hH]
 have eb:g.fb=g.m 1 t:=by unfold GG.fb;rw[hH]
 have T1:=h.tr.release ht hq hl;have T2:=T1.over ht hq (Ag _ _ _);rw[Dr]at T2;have hf:=h.f1 t (Nat.le_of_lt ht);obtain⟨s',a1,a2,a3,a4,a5⟩:=hs.acc (late:=late) h.W ht (.inr hact) h1 h2 hc rfl 1 t (g.m 1 t) _ rfl rfl (Nat.lt_succ_of_lt ht) (by omega) rfl rfl
  (wr:=some (1-g.m 1 t)) (c':=⟨[0,t,g.m 1 t,1-g.m 1 t,r4,r5,r6,r7],16⟩) (ms:=[4]) (done:=2) (wrote:=1) (stay:=0) (fun l a=>by cases l<;>kernel_rfl) (by rw[hact];rfl)
 have m0:Bp g.m 1 t (1-g.m 1 t) 0=g.m 0:=Au _ _ (by decide);have m1:Bp g.m 1 t (1-g.m 1 t) 1=Ay (g.m 1) t (1-g.m 1 t):=Ag _ _ _;have mo:∀ u,u≠t→Bp g.m 1 t (1-g.m 1 t) 1 u=g.m 1 u:=fun u hu=>by rw[m1,Au _ _ hu]
 have hqt:∀ u∈g.q,u≠t:=fun u hu e=>hq (e▸hu)
 refine⟨s',a1,⟨a2,?_,?_,?_,fun u hu=>?_,fun u hu h1 h2=>?_,h.nd,h.lt,fun p hp=>?_,Nat.le_of_lt ht,hf,fun _=>?_,by rw[a5];exact T2⟩,a4⟩
 ·rw[a3,a4];exact H2 h.is mo .idle 0 _ 10 ⟨rfl,.inr rfl,t,g.m 1 t,1-g.m 1 t,r4,r5,r6,r7,16,rfl⟩
 ·show Bp g.m 1 t (1-g.m 1 t) 0 0=Mw (Bp g.m 1 t (1-g.m 1 t) 1) t (g.m 1 t) g.q
  rw[m0,h.tail,ep,eb];exact(Lg _ _ _ (fun u hu=>mo u (hqt u hu))).symm
 ·show IA (Ay g.P t .idle) (Bp g.m 1 t (1-g.m 1 t) 1) t (g.m 1 t) g.q
  have:=h.w;rw[ep,eb]at this;exact Eh _ _ _ (fun u hu=>⟨Au _ _ (hqt u hu),mo u (hqt u hu)⟩) this
 ·cases hu
 ·show Ay g.P t _ u=_∨Ay g.P t _ u=_∨Ay g.P t _ u=_
  by_cases e:u=t
  ·rw[e,Ag];exact .inl rfl
  ·rw[Au _ _ e];exact h.free u hu h1 (by rw[hH];intro e';exact e (by simpa using e'.symm))
 ·show Bp g.m 1 t (1-g.m 1 t) 1 p≤1
  by_cases e:p=t
  ·rw[e,m1,Ag];omega
  ·rw[mo p e];exact h.f1 p hp
 ·show Bp g.m 1 t (1-g.m 1 t) 1 t≠g.m 1 t
  rw[m1,Ag];omega
theorem WL(hn:n≤64)(hs:BF n DS (AL (K8 n)) r s)(h:GI n g s)(ht:t<n)(ha:s.act t=1∨s.act t=3)(h1:kind≠1)(h2:kind≠2) :
  ∃ s' g',BF n DS (AL (K8 n)) (r.op kind t late) s'∧GI n g' s' ∧
   ((∃ a,s'.act=Ay s.act t a∧(s.act t=1∧(a=1∨a=2)∨s.act t=3∧(a=3∨a=0))∧We n g'.P<We n g.P)∨(g'=g∧s'.act=s.act∧∃ p b,g.P t=.wt p b∧¬(g.H=none∧∃ q,g.q=t::q))):=by
 have hi:=h.is t ht;have hrk:∀ k:GK,k.rk<(g.P t).rk→We n (Ay g.P t k)<We n g.P:=fun k hk=>by have:=Qx (P:=g.P) ht k;omega
 cases hp:g.P t<;>rw[hp]at hi hrk<;>simp only[GK.is]at hi
 case idle=>omega
 case hold=>omega
 case s1 =>
  obtain⟨s',a1,a2,a3⟩:=XP (late:=late) hn hs h ht hp h1 h2;exact⟨s',_,a1,a2,.inl ⟨1,a3,.inl ⟨hi.1,.inl rfl⟩,hrk _ (by decide)⟩⟩
 case s4 =>
  obtain⟨s',a1,x,y,a2,a3⟩:=XQ (late:=late) hn hs h ht hp h1 h2;exact⟨s',_,a1,a2,.inl ⟨1,a3,.inl ⟨hi.1,.inl rfl⟩,hrk _ (by show 3<4;decide)⟩⟩
 case rel =>
  obtain⟨s',a1,a2,a3⟩:=Ut (late:=late) hn hs h ht hp h1 h2;exact⟨s',_,a1,a2,.inl ⟨0,a3,.inr ⟨hi.1,.inr rfl⟩,hrk _ (by decide)⟩⟩
 case wt p b =>
  have hq:t∈g.q:=Classical.byContradiction fun hq=>by
   by_cases hH:t∈g.H
   ·rcases(h.hold t hH).2.2 with e |e<;>rw[hp]at e<;>cases e
   ·rcases h.free t ht hq hH with e |e |e<;>rw[hp]at e<;>cases e
  by_cases hg:g.H=none∧∃ q,g.q=t::q
  ·obtain⟨hH,q,hq⟩:=hg;obtain⟨s',a1,_,a2,a3⟩:=Pb (late:=late) hn hs h ht hH hq h1 h2;exact⟨s',_,a1,a2,.inl ⟨2,a3,.inl ⟨hi.1,.inr rfl⟩,hrk _ (by show 2<3;decide)⟩⟩
  ·have hflag:p≤n∧g.m 1 p=b:=by
    rcases EU _ _ _ h.w hq with ⟨q',e1,e2⟩ |⟨u,hu,e2⟩<;>rw[hp]at e2<;>cases e2
    ·refine⟨(Pa h).1,?_⟩;cases hH:g.H with
     |none=>exact absurd ⟨hH,q',e1⟩ hg
     |some u=>unfold GG.fp GG.fb;rw[hH]
    ·exact⟨Nat.le_of_lt (h.lt _ hu),rfl⟩
   obtain⟨s',a1,a2,a3⟩:=WK (late:=late) hn hs h ht hp hflag.1 hflag.2 h1 h2;exact⟨s',g,a1,a2,.inr ⟨rfl,a3,p,b,rfl,hg⟩⟩
end
def RC(g:GG)(t:Nat):Prop:=∃ p b,g.P t=.wt p b∧¬(g.H=none∧∃ q,g.q=t::q)
theorem WM{n:Nat}(s:LS)(g:GG)(h:GI n g s)(hs:∀ t,t<n→s.act t=0∨RC g t):∀ t,t<n→s.act t=0:=by
 have hn:∀ t,t<n→(∀ p b,g.P t≠.wt p b)→s.act t=0:=fun t ht hk=>by
  rcases hs t ht with a |⟨p,b,a,_⟩
  ·exact a
  ·exact absurd a (hk p b)
 have hH:g.H=none:=by
  cases e:g.H with
  |none=>rfl
  |some u =>
   obtain⟨hu,_,b⟩:=h.hold u (by rw[e];rfl);have hi:=h.is u hu;have:=hn u hu (fun p c hk=>by rcases b with b |b<;>rw[b]at hk<;>cases hk);rcases b with b |b<;>rw[b]at hi<;>have:=hi.1<;>omega
 have hq:g.q=[]:=by
  cases e:g.q with
  |nil=>rfl
  |cons u q =>
   have hu:=h.lt u (by rw[e];exact List.mem_cons_self ..);have hi:=h.is u hu;rcases EU _ _ _ h.w (show u∈g.q by rw[e];exact List.mem_cons_self ..) with ⟨_,_,e2⟩ |⟨_,_,e2⟩<;>rw[e2]at hi <;>
   (rcases hs u hu with a |⟨_,_,_,a⟩
    ·have:=hi.1;omega
    ·exact absurd ⟨hH,q,e⟩ a)
 intro t ht;refine hn t ht fun p b hk=>?_
 rcases h.free t ht (by rw[hq];simp) (by rw[hH];simp) with e |e |e<;>rw[e]at hk<;>cases hk
theorem KA{n:Nat}(hn:n≤64):Fair n 5 DS (AL (K8 n)) (GI n) (fun g=>We n g.P) RC:=by
 refine⟨?_,?_,?_,WM,?_,fun s g h=>h.tr.ok⟩
 ·intro r s g t late h hi ht ha;obtain⟨s',a1,a2,a3⟩:=R9 (late:=late) h hi ht ha;exact⟨s',_,a1,a2,a3,by have:=Qx (P:=g.P) ht .s1;simp only[GK.rk]at this;dsimp only;omega⟩
 ·intro r s g t late h hi ht ha;obtain⟨s',hp,a1,a2,a3⟩:=MT (late:=late) h hi ht ha;exact⟨s',_,a1,a2,a3,by have:=Qx (P:=g.P) ht .rel;rw[hp]at this;simp only[GK.rk]at this;dsimp only;omega⟩
 ·intro r s g t kind late h hi ht ha k1 k2;exact WL hn h hi ht ha k1 k2
 ·intro s g h t ht;have:=h.is t ht;cases hp:g.P t<;>rw[hp]at this<;>have:=this.1<;>omega
def Ik(n:Nat):List Nat:=((List.replicate (n+2) 0).set 0 (2*n)).set (n+1) 1
theorem Pc(n:Nat):(Ik n).length=n+2:=by simp[Ik]
theorem WN(n:Nat)(h:n≤64):∀ v∈Ik n,v<4294967296:=by
 intro v hv;rcases List.mem_or_eq_of_mem_set hv with hv |hv
 ·rcases List.mem_or_eq_of_mem_set hv with hv |hv
  ·have:=List.eq_of_mem_replicate hv;omega
  ·omega
 ·omega
theorem SK(n:Nat):(Ik n).map (fun v:Nat=>(v:Int))=((List.replicate (n+2) (0:Int)).set 0 (2*(n:Int))).set (n+1) 1:=by
 simp[Ik,List.map_set]
def Zr(n:Nat):AG:=AG.new DS [1,n+1] (Ik n) n 0 (List.replicate n 0)
theorem Qy(n:Nat):∃ s0 g0,BF n DS (AL (K8 n)) (AQ.new (Zr n) n) s0∧GI n g0 s0∧(∀ t,t<n→s0.act t=0)∧We n g0.P=0:=by
 have hl:(List.replicate (n+2) 0:List Nat).length=n+2:=List.length_replicate ..;have hz:Wd (K8 n) (List.replicate (n+2) 0) (fun _ _=>0):=⟨by simp;omega,fun A p hp=>by simp[List.getD_eq_getElem?_getD,List.getElem?_replicate];split<;>rfl⟩
 have hw1:=hz.set (A:=0) (p:=0) (2*n) (by show 0<1;decide);have hw2:=hw1.set (A:=1) (p:=n) 1 (by show n<n+1;omega);have e1:((K8 n).take 0).sum+0=0:=rfl;have e2:((K8 n).take 1).sum+n=n+1:=by simp;omega
 rw[e1,e2]at hw2;refine⟨_,⟨fun _=>.idle,fun _=>0,none,n,0,[],Bp (Bp (fun _ _=>0) 0 0 (2*n)) 1 n 1⟩,BF.new n DS [1,n+1] (Ik n) 0 (List.replicate n 0) (by simp),?_,fun _ _=>rfl,Ds n (fun _ _=>rfl)⟩;have m0:Bp (Bp (fun _ _=>0) 0 0 (2*n)) 1 n 1 0 0=2*n:=(congrFun (Au _ _ (by decide)) 0).trans ((congrFun (Ag _ _ _) 0).trans (Ag _ _ _));have m1:Bp (Bp (fun _ _=>0) 0 0 (2*n)) 1 n 1 1=Ay (fun _=>0) n 1:=(Ag _ _ _).trans (congrArg (fun f=>Ay f n 1) (Au _ _ (by decide)));refine⟨hw2,fun t ht=>⟨rfl,.inl rfl,0,0,0,0,0,0,_,0,rfl⟩,m0,trivial,fun t ht=>by simp at ht,fun t ht _ _=>.inl rfl,List.nodup_nil,fun t ht=>by simp at ht,fun p hp=>?_,Nl n,Nat.zero_le _,fun _=>?_,Cn.new n⟩
 ·dsimp only;rw[m1];unfold Ay;split
  ·exact Nl 1
  ·exact Nat.zero_le 1
 ·dsimp only;rw[m1,Ag];decide
theorem Uu(n:Nat)(h1:1≤n)(h2:n≤64)(l:List (Int×Int×Int)):EG (Zr n) n l=true:=by
 obtain⟨s0,g0,ha,hi,_⟩:=Qy n;exact(KA h2).trace h1 h2 l ha hi
theorem SL(n calls:Nat)(h1:1≤n)(h2:n≤64):Dq (Zr n) n calls=true:=by
 obtain⟨s0,g0,ha,hi,h0,hr⟩:=Qy n;exact(KA h2).served h1 h2 (by decide) calls ha hi h0 hr
theorem Uv(n:Nat)(h1:1≤n)(h2:n≤64)(l:List (Int×Int×Int))(t:Nat)(ht:t<n):Ci (Zr n) 0 n l t 3 1=true:=by
 obtain⟨s0,g0,ha,hi,_⟩:=Qy n;obtain⟨s1,g1,ha,hi⟩:=(KA h2).ops l _ s0 g0 ha hi;have hr:We n g1.P<5000:=by
  have:We n g1.P≤n*5:=by
   rw[←D8 5 n];exact Gk n fun t _=>by cases g1.P t<;>simp[GK.rk]
  omega
 obtain⟨r2,s2,g2,e2,ha,hi,hz⟩:=(KA h2).fin 5000 _ s1 g1 ha hi hr;have hP:∀ u,u<n→g2.P u=.idle:=fun u hu=>by
  have:=hi.is u hu;have h0:=hz u hu;cases hp:g2.P u<;>rw[hp]at this<;>have:=this.1<;>first |rfl |omega
 have hH:g2.H=none:=by
  cases e:g2.H with
  |none=>rfl
  |some u =>
   obtain⟨hu,_,b⟩:=hi.hold u (by rw[e];rfl);rw[hP u hu]at b;rcases b with b |b<;>cases b
 have hq:g2.q=[]:=by
  cases e:g2.q with
  |nil=>rfl
  |cons u q =>
   have hm:u∈g2.q:=by rw[e];exact List.mem_cons_self ..
   rcases EU _ _ _ hi.w hm with ⟨_,_,e2⟩ |⟨_,_,e2⟩<;>rw[hP u (hi.lt u hm)]at e2<;>cases e2
 have e0:Ci (Zr n) 0 n l t 3 1=(let r:=BS 3 (r2.op 1 t 0) t;if r.act.getD t 0≠2 then false else let q:=BS 1 (r.op 2 t 0) t;!q.bad&&decide (q.act.getD t 0=0)&&decide (Cj n q.l=q.l.length)):=by
  unfold Ci;rw[e2];dsimp only;rw[if_neg (by rw[ha.bad];simp),if_neg (by simp)]
 rw[e0];dsimp only[BS];obtain⟨s3,ha,hi,c3⟩:=R9 (late:=0) ha hi ht (hz t ht);obtain⟨s4,ha,hi,c4⟩:=XP (late:=0) (kind:=3) h2 ha hi ht (Ag _ _ _) (by decide) (by decide);obtain⟨s5,ha,x,y,hi,c5⟩:=XQ (late:=0) (kind:=3) h2 ha hi ht (Ag _ _ _) (by decide) (by decide);obtain⟨s6,ha,_,hi,c6⟩:=Pb (late:=0) (kind:=3) (q:=[]) h2 ha hi ht hH (by show g2.q++[t]=_;rw[hq];rfl) (by decide) (by decide);rw[if_neg (by rw[ha.act t ht,c6,Ag];simp)];obtain⟨s7,_,ha,hi,c7⟩:=MT (late:=0) ha hi ht (by rw[c6,Ag]);obtain⟨s8,ha,hi,c8⟩:=Ut (late:=0) (kind:=3) h2 ha hi ht (Ag _ _ _) (by decide) (by decide);rw[ha.bad,ha.act t ht,c8,Ag,decide_eq_true ((Eb n h1 h2 _).2 (by rw[ha.tr];exact hi.tr.ok))];rfl
end
end Go.Proofs.YtnmahobjmpdkdaaGreatDoor
