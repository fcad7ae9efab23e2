/- The CLH lock on the document's machine: its marks are a trace of the abstract lock, nothing traps, all are served. Plain. -/
import Derived.Test.YtnmahobjmpdkdaaGreatDoorQ24
set_option linter.unusedVariables false
set_option linter.unusedSimpArgs false
set_option maxRecDepth 100000
set_option maxHeartbeats 40000000
namespace Go.Proofs.YtnmahobjmpdkdaaGreatDoor
section
def CI:Pg:=⟨[⟨1,1,0,0,0,0,1,0⟩,⟨17,0,7,1,0,1,0,0⟩,⟨18,6,0,7,0,0,0,0⟩,⟨12,0,0,0,0,0,1,0⟩,⟨21,1,6,0,0,1,0,-1⟩,⟨12,0,0,0,0,0,2,0⟩,⟨13,0,0,0,0,0,1,0⟩,⟨17,0,7,0,0,1,0,0⟩,⟨12,0,0,0,0,0,4,0⟩,⟨2,7,6,0,0,0,0,0⟩,⟨13,0,0,0,0,0,2,0⟩],0,7⟩
def BS(n:Nat):List (Nat×Nat):=AG [1,n+1]
theorem S6(n:Nat):CY 0 0 0 (BS n)=some 0:=rfl
theorem Ht{n p:Nat}(h:p≤n)(hn:n≤64):CY 1 (p%4096) 0 (BS n)=some (p+1):=by
 rw[Nat.mod_eq_of_lt (by omega)];unfold BS AG B2 B2 B2;rw[JD (by decide)];have:=Ib (A:=1) (p:=p) (k:=1) (n+1) [] (by omega);rw[Nat.add_comm 1 p]at this;exact this
inductive CK where
 |idle
 |aa
 |st
 |wait (p:Nat)
 |hold (p:Nat)
 |rel (p:Nat)
def CK.is:CK→Nat→CoreM→Nat→Nat→Prop
 |.idle,a,c,l,m=>a=0∧(l=0∨l=10)∧∃ r1 r6 pc,c=⟨[0,r1,0,0,0,0,r6,m],pc⟩
 |.aa,a,c,l,m=>a=1∧l=1∧∃ r6,c=⟨[0,1,0,0,0,0,r6,m],1⟩
 |.st,a,c,l,m=>a=1∧l=1∧∃ r1 r6,c=⟨[0,r1,0,0,0,0,r6,m],2⟩
 |.wait p,a,c,l,m=>a=1∧l=2∧∃ r1,c=⟨[0,r1,0,0,0,0,p,m],4⟩
 |.hold p,a,c,l,m=>a=2∧l=5∧∃ r1,c=⟨[0,r1,0,0,0,0,p,m],6⟩
 |.rel p,a,c,l,m=>a=3∧l=8∧∃ r1,c=⟨[0,r1,0,0,0,0,p,m],7⟩
def CK.up:CK→Prop
 |.idle=>False
 |.aa=>False
 |_=>True
def CK.rk:CK→Nat
 |.idle=>0
 |.aa=>5
 |.st=>4
 |.wait _=>3
 |.hold _=>2
 |.rel _=>1
def WH(n:Nat)(P:Nat→CK):Nat:=Bz n (fun t=>(P t).rk)
theorem Jl{n t:Nat}{P:Nat→CK}(ht:t<n)(p:CK):WH n (A4 P t p)+(P t).rk=WH n P+p.rk:=by
 have:=DB (f:=fun t=>(P t).rk) (g:=fun u=>(A4 P t p u).rk) n ht (fun u hu=>by show(A4 P t p u).rk=_;rw[Ax _ _ hu]);simp only[Ak]at this;exact this
def IC(P:Nat→CK)(m:Nat→Nat):Nat→List Nat→Prop
 |_,[]=>True
 |p,t::q=>P t=.wait p∧IC P m (m t) q
def Jm(m:Nat→Nat):Nat→List Nat→Nat
 |p,[]=>p
 |_,t::q=>Jm m (m t) q
theorem Es{P:Nat→CK}{m:Nat→Nat}{t:Nat}{k:CK}:∀ (q:List Nat) (p:Nat),t∉q→IC P m p q→IC (A4 P t k) m p q
 |[],_,_,_=>trivial
 |s::q,p,ht,h=>by
  rw[List.mem_cons,not_or]at ht;exact⟨by rw[Ax _ _ (fun e=>ht.1 e.symm)];exact h.1,Es q _ ht.2 h.2⟩
theorem QW{P:Nat→CK}{m:Nat→Nat}{t v:Nat}:∀ (q:List Nat) (p:Nat),t∉q→IC P m p q→IC P (A4 m t v) p q
 |[],_,_,_=>trivial
 |s::q,p,ht,h=>by
  rw[List.mem_cons,not_or]at ht;exact⟨h.1,by rw[Ax _ _ (fun e=>ht.1 e.symm)];exact QW q _ ht.2 h.2⟩
theorem Uo{m:Nat→Nat}{t v:Nat}:∀ (q:List Nat) (p:Nat),t∉q→Jm (A4 m t v) p q=Jm m p q
 |[],_,_=>rfl
 |s::q,p,ht=>by
  rw[List.mem_cons,not_or]at ht;unfold Jm;rw[Ax _ _ (fun e=>ht.1 e.symm)];exact Uo q _ ht.2
theorem KX{P:Nat→CK}{m:Nat→Nat}{t:Nat}:∀ (q:List Nat) (p:Nat),IC P m p q→P t=.wait (Jm m p q)→IC P m p (q++[t])
 |[],p,_,h=>⟨h,trivial⟩
 |s::q,p,hq,h=>⟨hq.1,KX q _ hq.2 h⟩
theorem Mx{m:Nat→Nat}{t:Nat}:∀ (q:List Nat) (p:Nat),Jm m p (q++[t])=m t
 |[],p=>rfl
 |s::q,p=>Mx q _
theorem Et{P:Nat→CK}{m:Nat→Nat}{t:Nat}:∀ (q:List Nat) (p:Nat),IC P m p q→t∈q→(∃ q',q=t::q'∧P t=.wait p)∨∃ u,u∈q∧P t=.wait (m u)
 |s::q,p,hq,h=>by
  by_cases e:t=s
  ·subst e;exact .inl ⟨q,rfl,hq.1⟩
  ·rcases Et q _ hq.2 (by simpa [e]using h) with ⟨q',rfl,h2⟩ |⟨u,h1,h2⟩
   ·exact .inr ⟨s,by simp,h2⟩
   ·exact .inr ⟨u,by simp[h1],h2⟩
structure VR where
 P:Nat→CK
 L:Nat→Nat
 H:Option Nat
 b:Nat
 q:List Nat
 m:Nat→Nat
def VR.pre(g:VR):Nat:=match g.H with
 |none=>g.b
 |some h=>g.m h
structure L1 (n:Nat) (g:VR) (s:LS):Prop where
 is:∀ t,t<n→(g.P t).is (s.act t) (s.core t) (g.L t) (g.m t)
 len:s.words.length=n+2
 tail:s.words.getD 0 0=Jm g.m g.pre g.q
 w:IC g.P g.m g.pre g.q
 hold:∀ t∈g.H,t<n∧t∉g.q∧(g.P t=.hold g.b∨g.P t=.rel g.b)
 free:∀ t,t<n→t∉g.q→t∉g.H→g.P t=.idle∨g.P t=.aa∨g.P t=.st
 nd:g.q.Nodup
 lt:∀ t∈g.q,t<n
 up:∀ t,t<n→(g.P t).up→s.words.getD (g.m t+1) 0=1
 dn:s.words.getD (g.b+1) 0=0
 inj:∀ t u,t<n→u<n→g.m t=g.m u→t=u
 far:∀ t,t<n→g.m t≠g.b
 ml:∀ t,t<n→g.m t≤n
 bl:g.b≤n
 tr:Cv n s.tr g.L g.q
theorem Gn{n t:Nat}{P:Nat→CK}{A:Nat→Nat}{C:Nat→CoreM}{L m:Nat→Nat}(h:∀ t,t<n→(P t).is (A t) (C t) (L t) (m t))(p:CK)(a:Nat)(c:CoreM)(l k:Nat)(hp:p.is a c l k) :
  ∀ u,u<n→(A4 P t p u).is (A4 A t a u) (A4 C t c u) (A4 L t l u) (A4 m t k u):=by
 intro u hu;by_cases e:u=t
 ·subst e;simp only[Ak];exact hp
 ·simp only[Ax _ _ e];exact h u hu
section
variable {n:Nat} {s:LS} {g:VR} {t:Nat} {r:AR} {late:Int}
theorem Kg(h:L1 n g s)(hP:∀ p,g.P t≠.wait p):t∉g.q:=fun hm=>by
 rcases Et _ _ h.w hm with ⟨_,_,e⟩ |⟨_,_,e⟩<;>exact hP _ e
theorem NA(h:L1 n g s)(h1:∀ p,g.P t≠.hold p)(h2:∀ p,g.P t≠.rel p):t∉g.H:=fun hm=>by
 rcases(h.hold t hm).2.2 with e |e
 ·exact h1 _ e
 ·exact h2 _ e
theorem QX(hs:B9 n CI (BS n) r s)(h:L1 n g s)(ht:t<n)(ha:s.act t=0) :
  ∃ s',B9 n CI (BS n) (r.op 1 t late) s'∧L1 n {g with P:=A4 g.P t .aa,L:=A4 g.L t 1} s'∧s'.act=A4 s.act t 1:=by
 have hP:g.P t=.idle:=by
  have:=h.is t ht;cases hp:g.P t<;>rw[hp]at this<;>simp only[CK.is]at this<;>omega
 have hi:=h.is t ht;rw[hP]at hi;obtain⟨_,hl,r1,r6,pc,hc⟩:=hi;have hq:=Kg h (t:=t) (by rw[hP];intro p e;cases e);have hH:=NA h (t:=t) (by rw[hP];intro p e;cases e) (by rw[hP];intro p e;cases e);refine⟨_,hs.call ht ha (w:=s.words) (c:=⟨[0,1,0,0,0,0,r6,g.m t],1⟩) (o:=⟨[],-1,-1,0,0,0⟩) (by rw[hc];rfl) rfl,?_,rfl⟩;refine⟨?_,h.len,h.tail,Es _ _ hq h.w,fun u hu=>?_,fun u hu h1 h2=>?_,h.nd,h.lt,fun u hu hup=>?_,h.dn,h.inj,h.far,h.ml,h.bl,h.tr.call ht hq (by omega)⟩
 ·have:=Gn (t:=t) h.is .aa 1 ⟨[0,1,0,0,0,0,r6,g.m t],1⟩ 1 (g.m t) ⟨rfl,rfl,r6,rfl⟩
  rwa [AP (f:=g.m) rfl]at this
 ·obtain⟨a1,a2,a3⟩:=h.hold u hu;have e:u≠t:=fun e=>hH (e▸hu)
  exact⟨a1,a2,by show A4 g.P t _ u=_∨A4 g.P t _ u=_;rw[Ax _ _ e];exact a3⟩
 ·show A4 g.P t _ u=_∨A4 g.P t _ u=_∨A4 g.P t _ u=_
  by_cases e:u=t
  ·rw[e,Ak];exact .inr (.inl rfl)
  ·rw[Ax _ _ e];exact h.free u hu h1 h2
 ·by_cases e:u=t
  ·subst e;exact absurd hup (by show ¬(A4 g.P u CK.aa u).up;rw[Ak];exact id)
  ·exact h.up u hu (by have:(A4 g.P t CK.aa u).up:=hup;rwa [Ax _ _ e]at this)
theorem Y3(h:L1 n g s)(ht:t<n){p:Nat}(hP:g.P t=.hold p∨g.P t=.rel p):g.H=some t∧p=g.b∧t∉g.q:=by
 have hq:=Kg h (t:=t) (by intro p e;rcases hP with e' |e'<;>rw[e']at e<;>cases e);by_cases hH:t∈g.H
 ·refine⟨by simpa using hH,?_,hq⟩;rcases(h.hold t hH).2.2 with e |e<;>rcases hP with e' |e'<;>rw[e']at e<;>cases e<;>rfl
 ·rcases h.free t ht hq hH with e |e |e<;>rcases hP with e' |e'<;>rw[e']at e<;>cases e
theorem My(hs:B9 n CI (BS n) r s)(h:L1 n g s)(ht:t<n)(ha:s.act t=2) :
  ∃ s',g.P t=.hold g.b∧B9 n CI (BS n) (r.op 2 t late) s'∧L1 n {g with P:=A4 g.P t (.rel g.b),L:=A4 g.L t 8} s'∧s'.act=A4 s.act t 3:=by
 obtain⟨p,hP⟩:∃ p,g.P t=.hold p:=by
  have:=h.is t ht;cases hp:g.P t<;>rw[hp]at this<;>simp only[CK.is]at this
  case hold p=>exact⟨p,rfl⟩
  all_goals omega
 have hi:=h.is t ht;rw[hP]at hi;obtain⟨_,hl,r1,hc⟩:=hi;obtain⟨hH,rfl,hq⟩:=Y3 h ht (.inl hP);refine⟨_,hP,hs.unlock ht ha (w:=s.words) (c:=⟨[0,r1,0,0,0,0,g.b,g.m t],7⟩) (o:=⟨[],-1,-1,0,0,0⟩) (by rw[hc];rfl) rfl,?_,rfl⟩;refine⟨?_,h.len,h.tail,Es _ _ hq h.w,fun u hu=>?_,fun u hu h1 h2=>?_,h.nd,h.lt,fun u hu hup=>?_,h.dn,h.inj,h.far,h.ml,h.bl,h.tr.unlock ht hq hl⟩
 ·have:=Gn (t:=t) h.is (.rel g.b) 3 ⟨[0,r1,0,0,0,0,g.b,g.m t],7⟩ 8 (g.m t) ⟨rfl,rfl,r1,rfl⟩
  rwa [AP (f:=g.m) rfl]at this
 ·have hu':u∈g.H:=hu;rw[hH]at hu';obtain rfl:t=u:=by simpa using hu'
  exact⟨ht,hq,.inr (Ak _ _ _)⟩
 ·have e:u≠t:=fun e=>h2 (by show u∈g.H;rw[hH,e];rfl)
  show A4 g.P t _ u=_∨A4 g.P t _ u=_∨A4 g.P t _ u=_
  rw[Ax _ _ e];exact h.free u hu h1 h2
 ·by_cases e:u=t
  ·subst e;exact h.up u hu (by rw[hP];trivial)
  ·exact h.up u hu (by have:(A4 g.P t (CK.rel g.b) u).up:=hup;rwa [Ax _ _ e]at this)
variable {kind:Int}
theorem WI(hn:n≤64)(hs:B9 n CI (BS n) r s)(h:L1 n g s)(ht:t<n)(hp:g.P t=.aa)(h1:kind≠1)(h2:kind≠2) :
  ∃ s',B9 n CI (BS n) (r.op kind t late) s'∧L1 n {g with P:=A4 g.P t .st} s'∧s'.act=s.act:=by
 have hi:=h.is t ht;rw[hp]at hi;obtain⟨hact,hl,r6,hc⟩:=hi;have hm:=h.ml t ht;have hq:=Kg h (t:=t) (by rw[hp];intro p e;cases e);have hH:=NA h (t:=t) (by rw[hp];intro p e;cases e) (by rw[hp];intro p e;cases e);refine⟨_,hs.step ht (.inl hact) h1 h2 (w:=s.words.set (g.m t+1) 1) (c:=⟨[0,1,0,0,0,0,r6,g.m t],2⟩) (o:=⟨[],-1,(g.m t+1:Nat),1,0,0⟩)
  (by rw[hc];exact Eq.trans (Hu (g.m t+1) _ (Ht hm hn) rfl) rfl) (by rw[hact];rfl),?_,rfl⟩
 have hg:∀ j,(s.words.set (g.m t+1) 1).getD j 0=if g.m t+1=j then 1 else s.words.getD j 0:=fun j=>ID (by rw[h.len];omega)
 refine⟨?_,(List.length_set ..).trans h.len,?_,Es _ _ hq h.w,fun u hu=>?_,fun u hu h1 h2=>?_,h.nd,h.lt,fun u hu hup=>?_,?_,h.inj,h.far,h.ml,h.bl,h.tr⟩
 ·have:=Gn (t:=t) h.is .st 1 ⟨[0,1,0,0,0,0,r6,g.m t],2⟩ (g.L t) (g.m t) ⟨rfl,hl,1,r6,rfl⟩
  rwa [AP (f:=g.m) rfl,AP (f:=g.L) rfl,AP (f:=s.act) hact]at this
 ·show(s.words.set (g.m t+1) 1).getD 0 0=_
  rw[hg,if_neg (by omega)];exact h.tail
 ·obtain⟨a1,a2,a3⟩:=h.hold u hu;have e:u≠t:=fun e=>hH (e▸hu)
  exact⟨a1,a2,by show A4 g.P t _ u=_∨A4 g.P t _ u=_;rw[Ax _ _ e];exact a3⟩
 ·show A4 g.P t _ u=_∨A4 g.P t _ u=_∨A4 g.P t _ u=_
  by_cases e:u=t
  ·rw[e,Ak];exact .inr (.inr rfl)
  ·rw[Ax _ _ e];exact h.free u hu h1 h2
 ·show(s.words.set (g.m t+1) 1).getD (g.m u+1) 0=1
  rw[hg];by_cases e:u=t
  ·rw[e,if_pos rfl]
  ·rw[if_neg (fun e'=>e (h.inj _ _ ht hu (by omega)).symm)];exact h.up u hu (by have:(A4 g.P t CK.st u).up:=hup;rwa [Ax _ _ e]at this)
 ·show(s.words.set (g.m t+1) 1).getD (g.b+1) 0=0
  rw[hg,if_neg (fun e=>h.far t ht (by omega))];exact h.dn
theorem WJ(hs:B9 n CI (BS n) r s)(h:L1 n g s)(ht:t<n)(hp:g.P t=.st)(h1:kind≠1)(h2:kind≠2) :
  ∃ s',B9 n CI (BS n) (r.op kind t late) s'∧L1 n {g with P:=A4 g.P t (.wait (Jm g.m g.pre g.q)),L:=A4 g.L t 2,q:=g.q++[t]} s'∧s'.act=s.act:=by
 have hi:=h.is t ht;rw[hp]at hi;obtain⟨hact,hl,r1,r6,hc⟩:=hi;have hq:=Kg h (t:=t) (by rw[hp];intro p e;cases e);have hH:=NA h (t:=t) (by rw[hp];intro p e;cases e) (by rw[hp];intro p e;cases e);refine⟨_,hs.step ht (.inl hact) h1 h2 (w:=s.words.set 0 (g.m t)) (c:=⟨[0,r1,0,0,0,0,s.words.getD 0 0,g.m t],4⟩) (o:=⟨[1],-1,0,1,0,0⟩)
  (by rw[hc];exact Eq.trans (Hu 0 _ (S6 n) rfl) rfl) (by rw[hact];rfl),?_,rfl⟩
 have hg:∀ j,(s.words.set 0 (g.m t)).getD j 0=if 0=j then g.m t else s.words.getD j 0:=fun j=>ID (by rw[h.len];omega)
 refine⟨?_,(List.length_set ..).trans h.len,?_,KX _ _ (Es _ _ hq h.w) (Ak _ _ _),fun u hu=>?_,fun u hu h1 h2=>?_,?_,?_,fun u hu hup=>?_,?_,h.inj,h.far,h.ml,h.bl,h.tr.enq ht hq hl⟩
 ·have:=Gn (t:=t) h.is (.wait (Jm g.m g.pre g.q)) 1 ⟨[0,r1,0,0,0,0,s.words.getD 0 0,g.m t],4⟩ 2 (g.m t) ⟨rfl,rfl,r1,by rw[h.tail]⟩
  rwa [AP (f:=g.m) rfl,AP (f:=s.act) hact]at this
 ·show(s.words.set 0 (g.m t)).getD 0 0=Jm g.m g.pre (g.q++[t])
  rw[hg,if_pos rfl,Mx]
 ·obtain⟨a1,a2,a3⟩:=h.hold u hu;have e:u≠t:=fun e=>hH (e▸hu)
  exact⟨a1,by show u∉g.q++[t];simp[a2,e],by show A4 g.P t _ u=_∨A4 g.P t _ u=_;rw[Ax _ _ e];exact a3⟩
 ·have e:u≠t:=fun e=>h1 (by show u∈g.q++[t];rw[e];simp)
  show A4 g.P t _ u=_∨A4 g.P t _ u=_∨A4 g.P t _ u=_
  rw[Ax _ _ e];exact h.free u hu (fun hm=>h1 (List.mem_append_left _ hm)) h2
 ·show(g.q++[t]).Nodup
  rw[List.nodup_append];exact⟨h.nd,by simp,fun a ha b hb=>by rw[List.mem_singleton.1 hb];exact fun e=>hq (e▸ha)⟩
 ·intro u hu;rcases List.mem_append.1 hu with hu |hu
  ·exact h.lt u hu
  ·rw[List.mem_singleton.1 hu];exact ht
 ·show(s.words.set 0 (g.m t)).getD (g.m u+1) 0=1
  rw[hg,if_neg (by omega)];by_cases e:u=t
  ·subst e;exact h.up u hu (by rw[hp];trivial)
  ·exact h.up u hu (by have:(A4 g.P t (CK.wait (Jm g.m g.pre g.q)) u).up:=hup;rwa [Ax _ _ e]at this)
 ·show(s.words.set 0 (g.m t)).getD (g.b+1) 0=0
  rw[hg,if_neg (by omega)];exact h.dn
theorem OX(hn:n≤64)(hs:B9 n CI (BS n) r s)(h:L1 n g s)(ht:t<n)(hH:g.H=none){q:List Nat}(hq:g.q=t::q)(h1:kind≠1)(h2:kind≠2) :
  ∃ s',g.P t=.wait g.b∧B9 n CI (BS n) (r.op kind t late) s'∧L1 n {g with P:=A4 g.P t (.hold g.b),L:=A4 g.L t 5,H:=some t,q:=q} s'∧s'.act=A4 s.act t 2:=by
 have hw:=h.w;have ep:g.pre=g.b:=by unfold VR.pre;rw[hH]
 rw[hq,ep]at hw;have hp:=hw.1;have hi:=h.is t ht;rw[hp]at hi;obtain⟨hact,hl,r1,hc⟩:=hi;have hnd:(t::q).Nodup:=hq▸h.nd;have hnd:=List.nodup_cons.1 hnd;have hown:∀ u,u<n→K6 (g.L u)=false:=fun u hu=>by
  have hiu:=h.is u hu;by_cases hm:u∈g.q
  ·rcases Et _ _ h.w hm with ⟨_,_,e⟩ |⟨_,_,e⟩<;>rw[e]at hiu<;>rw[hiu.2.1]<;>rfl
  ·rcases h.free u hu hm (by rw[hH];simp) with e |e |e<;>rw[e]at hiu
   ·rcases hiu.2.1 with e |e<;>rw[e]<;>rfl
   ·rw[hiu.2.1];rfl
   ·rw[hiu.2.1];rfl
 have T0:=h.tr;rw[hq]at T0;have T1:=T0.Mr ht hnd.1 hl hown;have T2:=T1.EY ht hnd.1 (Ak _ _ _);rw[DC]at T2;have hb:=h.bl;refine⟨_,hp,hs.step ht (.inl hact) h1 h2 (w:=s.words) (c:=⟨[0,0,0,0,0,0,g.b,g.m t],6⟩) (o:=⟨[2],1,(g.b+1:Nat),0,0,0⟩)
  (by rw[hc];refine Eq.trans (Hu (g.b+1) true (Ht hb hn) (decide_eq_true (by rw[h.dn];rfl))) ?_;rw[show OY CI s.words t (⟨[0,r1,0,0,0,0,g.b,g.m t],4⟩:CoreM) (decide (late≠0)) (some (g.b+1)) true=some (s.words,⟨[0,s.words.getD (g.b+1) 0,0,0,0,0,g.b,g.m t],6⟩,⟨[2],1,(g.b+1:Nat),0,0,0⟩) from rfl,h.dn]) (by rw[hact];rfl),?_,rfl⟩
 refine⟨?_,h.len,?_,?_,fun u hu=>?_,fun u hu h1 h2=>?_,hnd.2,fun u hu=>h.lt u (by rw[hq];exact List.mem_cons_of_mem _ hu),fun u hu hup=>?_,h.dn,h.inj,h.far,h.ml,h.bl,T2⟩
 ·have:=Gn (t:=t) h.is (.hold g.b) 2 ⟨[0,0,0,0,0,0,g.b,g.m t],6⟩ 5 (g.m t) ⟨rfl,rfl,0,rfl⟩
  rwa [AP (f:=g.m) rfl]at this
 ·have:=h.tail;rw[hq,ep]at this;exact this
 ·exact Es _ _ hnd.1 hw.2
 ·obtain rfl:t=u:=by simpa using hu
  exact⟨ht,hnd.1,.inl (Ak _ _ _)⟩
 ·have e:u≠t:=fun e=>h2 (by rw[e];rfl)
  show A4 g.P t _ u=_∨A4 g.P t _ u=_∨A4 g.P t _ u=_
  rw[Ax _ _ e];exact h.free u hu (by rw[hq];simp[e];exact h1) (by rw[hH];simp)
 ·by_cases e:u=t
  ·subst e;exact h.up u hu (by rw[hp];trivial)
  ·exact h.up u hu (by have:(A4 g.P t (CK.hold g.b) u).up:=hup;rwa [Ax _ _ e]at this)
theorem VT(hn:n≤64)(hs:B9 n CI (BS n) r s)(h:L1 n g s)(ht:t<n){p:Nat}(hp:g.P t=.wait p)(hl:p≤n)(hw:s.words.getD (p+1) 0=1)(h1:kind≠1)(h2:kind≠2) :
  ∃ s',B9 n CI (BS n) (r.op kind t late) s'∧L1 n g s'∧s'.act=s.act:=by
 have hi:=h.is t ht;rw[hp]at hi;obtain⟨hact,hL,r1,hc⟩:=hi;refine⟨_,hs.step ht (.inl hact) h1 h2 (w:=s.words) (c:=⟨[0,1,0,0,0,0,p,g.m t],4⟩) (o:=⟨[],-1,(p+1:Nat),0,1,0⟩)
  (by rw[hc];refine Eq.trans (Hu (p+1) false (Ht hl hn) (decide_eq_false (by rw[hw];exact Nat.one_ne_zero))) ?_;rw[show OY CI s.words t (⟨[0,r1,0,0,0,0,p,g.m t],4⟩:CoreM) (decide (late≠0)) (some (p+1)) false=some (s.words,⟨[0,s.words.getD (p+1) 0,0,0,0,0,p,g.m t],4⟩,⟨[],-1,(p+1:Nat),0,1,0⟩) from by cases decide (late≠0)<;>rfl,hw]) (by rw[hact];rfl),?_,rfl⟩
 refine⟨?_,h.len,h.tail,h.w,h.hold,h.free,h.nd,h.lt,h.up,h.dn,h.inj,h.far,h.ml,h.bl,h.tr⟩;have:=Gn (t:=t) h.is (g.P t) 1 ⟨[0,1,0,0,0,0,p,g.m t],4⟩ (g.L t) (g.m t) (by rw[hp];exact⟨rfl,hL,1,rfl⟩)
 rwa [AP (f:=g.m) rfl,AP (f:=g.L) rfl,AP (f:=g.P) rfl,AP (f:=s.act) hact]at this
theorem Up(hn:n≤64)(hs:B9 n CI (BS n) r s)(h:L1 n g s)(ht:t<n){p:Nat}(hp:g.P t=.rel p)(h1:kind≠1)(h2:kind≠2) :
  ∃ s',B9 n CI (BS n) (r.op kind t late) s'∧L1 n {P:=A4 g.P t .idle,L:=A4 g.L t 10,H:=none,b:=g.m t,q:=g.q,m:=A4 g.m t g.b} s'∧s'.act=A4 s.act t 0:=by
 have hi:=h.is t ht;rw[hp]at hi;obtain⟨hact,hl,r1,hc⟩:=hi;obtain⟨hH,rfl,hq⟩:=Y3 h ht (.inr hp);have ep:g.pre=g.m t:=by unfold VR.pre;rw[hH]
 have T1:=h.tr.release ht hq hl;have T2:=T1.over ht hq (Ak _ _ _);rw[DC]at T2;have hm:=h.ml t ht;refine⟨_,hs.step ht (.inr hact) h1 h2 (w:=s.words.set (g.m t+1) 0) (c:=⟨[0,r1,0,0,0,0,g.b,g.b],10⟩) (o:=⟨[4],2,(g.m t+1:Nat),1,0,0⟩)
  (by rw[hc];exact Eq.trans (Hu (g.m t+1) _ (Ht hm hn) rfl) rfl) (by rw[hact];rfl),?_,rfl⟩
 have hg:∀ j,(s.words.set (g.m t+1) 0).getD j 0=if g.m t+1=j then 0 else s.words.getD j 0:=fun j=>ID (by rw[h.len];omega)
 have hmu:∀ u,u≠t→A4 g.m t g.b u=g.m u:=fun u hu=>Ax _ _ hu
 refine⟨?_,(List.length_set ..).trans h.len,?_,?_,fun u hu=>?_,fun u hu h1 h2=>?_,h.nd,h.lt,fun u hu hup=>?_,?_,fun u v hu hv e=>?_,fun u hu=>?_,fun u hu=>?_,hm,T2⟩
 ·exact Gn (t:=t) h.is .idle 0 ⟨[0,r1,0,0,0,0,g.b,g.b],10⟩ 10 g.b ⟨rfl,.inr rfl,r1,g.b,10,rfl⟩
 ·show(s.words.set (g.m t+1) 0).getD 0 0=Jm (A4 g.m t g.b) (g.m t) g.q
  rw[hg,if_neg (by omega),Uo _ _ hq,h.tail,ep]
 ·have:=h.w;rw[ep]at this;exact QW _ _ hq (Es _ _ hq this)
 ·cases hu
 ·show A4 g.P t _ u=_∨A4 g.P t _ u=_∨A4 g.P t _ u=_
  by_cases e:u=t
  ·subst e;rw[Ak];exact .inl rfl
  ·rw[Ax _ _ e];exact h.free u hu h1 (by rw[hH];intro e';exact e (by simpa using e'.symm))
 ·show(s.words.set (g.m t+1) 0).getD (A4 g.m t g.b u+1) 0=1
  by_cases e:u=t
  ·subst e;exact absurd hup (by show ¬(A4 g.P u CK.idle u).up;rw[Ak];exact id)
  ·rw[hmu u e,hg,if_neg (fun e'=>e (h.inj _ _ ht hu (by omega)).symm)];exact h.up u hu (by have:(A4 g.P t CK.idle u).up:=hup;rwa [Ax _ _ e]at this)
 ·show(s.words.set (g.m t+1) 0).getD (g.m t+1) 0=0
  rw[hg,if_pos rfl]
 ·have e:A4 g.m t g.b u=A4 g.m t g.b v:=e;by_cases e1:u=t<;>by_cases e2:v=t
  ·rw[e1,e2]
  ·rw[e1,Ak,hmu v e2]at e;exact absurd e.symm (h.far v hv)
  ·rw[e2,Ak,hmu u e1]at e;exact absurd e (h.far u hu)
  ·rw[hmu u e1,hmu v e2]at e;exact h.inj u v hu hv e
 ·show A4 g.m t g.b u≠g.m t
  by_cases e:u=t
  ·subst e;rw[Ak];exact fun e=>h.far u hu e.symm
  ·rw[hmu u e];exact fun e'=>e (h.inj u t hu ht e')
 ·show A4 g.m t g.b u≤n
  by_cases e:u=t
  ·subst e;rw[Ak];exact h.bl
  ·rw[hmu u e];exact h.ml u hu
theorem VU(hn:n≤64)(hs:B9 n CI (BS n) r s)(h:L1 n g s)(ht:t<n)(ha:s.act t=1∨s.act t=3)(h1:kind≠1)(h2:kind≠2) :
  ∃ s' g',B9 n CI (BS n) (r.op kind t late) s'∧L1 n g' s' ∧
   ((∃ a,s'.act=A4 s.act t a∧(s.act t=1∧(a=1∨a=2)∨s.act t=3∧(a=3∨a=0))∧WH n g'.P<WH n g.P)∨(g'=g∧s'.act=s.act∧∃ p,g.P t=.wait p∧¬(g.H=none∧∃ q,g.q=t::q))):=by
 have hi:=h.is t ht;cases hp:g.P t<;>rw[hp]at hi<;>simp only[CK.is]at hi
 case idle=>omega
 case hold k=>omega
 case aa =>
  obtain⟨s',a1,a2,a3⟩:=WI (late:=late) hn hs h ht hp h1 h2;exact⟨s',_,a1,a2,.inl ⟨1,by rw[AP hi.1];exact a3,.inl ⟨hi.1,.inl rfl⟩,by have:=Jl (P:=g.P) ht .st;rw[hp]at this;simp only[CK.rk]at this;dsimp only;omega⟩⟩
 case st =>
  obtain⟨s',a1,a2,a3⟩:=WJ (late:=late) hs h ht hp h1 h2;exact⟨s',_,a1,a2,.inl ⟨1,by rw[AP hi.1];exact a3,.inl ⟨hi.1,.inl rfl⟩,by have:=Jl (P:=g.P) ht (.wait (Jm g.m g.pre g.q));rw[hp]at this;simp only[CK.rk]at this;dsimp only;omega⟩⟩
 case rel p =>
  obtain⟨s',a1,a2,a3⟩:=Up (late:=late) hn hs h ht hp h1 h2;exact⟨s',_,a1,a2,.inl ⟨0,a3,.inr ⟨hi.1,.inr rfl⟩,by have:=Jl (P:=g.P) ht .idle;rw[hp]at this;simp only[CK.rk]at this;dsimp only;omega⟩⟩
 case wait p =>
  have hq:t∈g.q:=Classical.byContradiction fun hq=>by
   by_cases hH:t∈g.H
   ·rcases(h.hold t hH).2.2 with e |e<;>rw[hp]at e<;>cases e
   ·rcases h.free t ht hq hH with e |e |e<;>rw[hp]at e<;>cases e
  by_cases hg:g.H=none∧∃ q,g.q=t::q
  ·obtain⟨hH,q,hq⟩:=hg;obtain⟨s',e,a1,a2,a3⟩:=OX (late:=late) hn hs h ht hH hq h1 h2;exact⟨s',_,a1,a2,.inl ⟨2,a3,.inl ⟨hi.1,.inr rfl⟩,by have:=Jl (P:=g.P) ht (.hold g.b);rw[hp]at this;simp only[CK.rk]at this;dsimp only;omega⟩⟩
  ·have hflag:p≤n∧s.words.getD (p+1) 0=1:=by
    rcases Et _ _ h.w hq with ⟨q',e1,e2⟩ |⟨u,hu,e2⟩<;>rw[hp]at e2<;>cases e2
    ·cases hH:g.H with
     |none=>exact absurd ⟨hH,q',e1⟩ hg
     |some u =>
      obtain⟨hu,_,b⟩:=h.hold u (by rw[hH];rfl);rw[show g.pre=g.m u by unfold VR.pre;rw[hH]];exact⟨h.ml u hu,h.up u hu (by rcases b with b |b<;>rw[b]<;>trivial)⟩
    ·have hun:=h.lt u hu;refine⟨h.ml u hun,h.up u hun ?_⟩;rcases Et _ _ h.w hu with ⟨_,_,e⟩ |⟨_,_,e⟩<;>rw[e]<;>trivial
   obtain⟨s',a1,a2,a3⟩:=VT (late:=late) hn hs h ht hp hflag.1 hflag.2 h1 h2;exact⟨s',g,a1,a2,.inr ⟨rfl,a3,p,rfl,hg⟩⟩
end
def QY(g:VR)(t:Nat):Prop:=∃ p,g.P t=.wait p∧¬(g.H=none∧∃ q,g.q=t::q)
theorem VV{n:Nat}(s:LS)(g:VR)(h:L1 n g s)(hs:∀ t,t<n→s.act t=0∨QY g t):∀ t,t<n→s.act t=0:=by
 have hn:∀ t,t<n→(∀ k,g.P t≠.wait k)→s.act t=0:=fun t ht hk=>by
  rcases hs t ht with a |⟨k,a,_⟩
  ·exact a
  ·exact absurd a (hk k)
 have hH:g.H=none:=by
  cases e:g.H with
  |none=>rfl
  |some u =>
   obtain⟨hu,_,b⟩:=h.hold u (by rw[e];rfl);have hi:=h.is u hu;have:=hn u hu (fun k hk=>by rcases b with b |b<;>rw[b]at hk<;>cases hk);rcases b with b |b<;>rw[b]at hi<;>have:=hi.1<;>omega
 have hq:g.q=[]:=by
  cases e:g.q with
  |nil=>rfl
  |cons u q =>
   have hu:=h.lt u (by rw[e];exact List.mem_cons_self ..);have hi:=h.is u hu;rcases Et _ _ h.w (show u∈g.q by rw[e];exact List.mem_cons_self ..) with ⟨_,_,e2⟩ |⟨_,_,e2⟩<;>rw[e2]at hi <;>
   (rcases hs u hu with a |⟨_,_,a⟩
    ·have:=hi.1;omega
    ·exact absurd ⟨hH,q,e⟩ a)
 intro t ht;refine hn t ht fun k hk=>?_
 rcases h.free t ht (by rw[hq];simp) (by rw[hH];simp) with e |e |e<;>rw[e]at hk<;>cases hk
theorem Kh{n:Nat}(hn:n≤64):Fair n 5 CI (BS n) (L1 n) (fun g=>WH n g.P) QY:=by
 refine⟨?_,?_,?_,VV,?_,fun s g h=>h.tr.ok⟩
 ·intro r s g t late h hi ht ha;obtain⟨s',a1,a2,a3⟩:=QX (late:=late) h hi ht ha;exact⟨s',_,a1,a2,a3,by have:=Jl (P:=g.P) ht .aa;simp only[CK.rk]at this;dsimp only;omega⟩
 ·intro r s g t late h hi ht ha;obtain⟨s',hp,a1,a2,a3⟩:=My (late:=late) h hi ht ha;exact⟨s',_,a1,a2,a3,by have:=Jl (P:=g.P) ht (.rel g.b);rw[hp]at this;simp only[CK.rk]at this;dsimp only;omega⟩
 ·intro r s g t kind late h hi ht ha k1 k2;exact VU hn h hi ht ha k1 k2
 ·intro s g h t ht;have:=h.is t ht;cases hp:g.P t<;>rw[hp]at this<;>have:=this.1<;>omega
def Uq(n:Nat):AM:=AM.new CI [1,n+1] (List.replicate (n+2) 0) n 0 ((List.range n).map (·+1))
theorem QZ(a b v:Nat)(h:b<a):(List.replicate a v).getD b 0=v:=by simp[h]
theorem Qo(n:Nat):∃ s0 g0,B9 n CI (BS n) (AR.new (Uq n) n) s0∧L1 n g0 s0∧(∀ t,t<n→s0.act t=0)∧WH n g0.P=0:=by
 refine⟨_,⟨fun _=>.idle,fun _=>0,none,0,[],fun t=>t+1⟩,B9.new n CI [1,n+1] (List.replicate (n+2) 0) 0 ((List.range n).map (·+1)) (by simp),?_,fun _ _=>rfl,D4 n (fun _ _=>rfl)⟩;refine⟨fun t ht=>⟨rfl,.inl rfl,0,0,0,?_⟩,by simp,QZ _ _ _ (by omega),trivial,fun t ht=>by simp at ht,fun t ht _ _=>.inl rfl,List.nodup_nil,fun t ht=>by simp at ht,fun t _ hu=>hu.elim,QZ _ _ _ (show 0+1<n+2 by omega),fun t u _ _ e=>by dsimp only at e;omega,fun t _=>by dsimp only;omega,fun t ht=>ht,Nat.zero_le _,Cv.new n⟩
 show(⟨[0,0,0,0,0,0,0,((List.range n).map (·+1)).getD t 0],0⟩:CoreM)=⟨[0,0,0,0,0,0,0,t+1],0⟩
 simp[ht]
theorem Ur(n:Nat)(h1:1≤n)(h2:n≤64)(l:List (Int×Int×Int)):FF (Uq n) n l=true:=by
 obtain⟨s0,g0,ha,hi,_⟩:=Qo n;exact(Kh h2).trace h1 h2 l ha hi
theorem S7(n calls:Nat)(h1:1≤n)(h2:n≤64):DA (Uq n) n calls=true:=by
 obtain⟨s0,g0,ha,hi,h0,hr⟩:=Qo n;exact(Kh h2).served h1 h2 (by decide) calls ha hi h0 hr
theorem Ub(n:Nat)(h1:1≤n)(h2:n≤64)(l:List (Int×Int×Int))(t:Nat)(ht:t<n):CM (Uq n) 0 n l t 3 1=true:=by
 obtain⟨s0,g0,ha,hi,_⟩:=Qo n;obtain⟨s1,g1,ha,hi⟩:=(Kh h2).ops l _ s0 g0 ha hi;have hr:WH n g1.P<5000:=by
  have:WH n g1.P≤n*5:=by
   rw[←DY 5 n];exact GK n fun t _=>by cases g1.P t<;>simp[CK.rk]
  omega
 obtain⟨r2,s2,g2,e2,ha,hi,hz⟩:=(Kh h2).fin 5000 _ s1 g1 ha hi hr;have hP:∀ u,u<n→g2.P u=.idle:=fun u hu=>by
  have:=hi.is u hu;have h0:=hz u hu;cases hp:g2.P u<;>rw[hp]at this<;>have:=this.1<;>first |rfl |omega
 have hH:g2.H=none:=by
  cases e:g2.H with
  |none=>rfl
  |some u =>
   obtain⟨hu,_,b⟩:=hi.hold u (by rw[e];rfl);rw[hP u hu]at b;rcases b with b |b<;>cases b
 have hq:g2.q=[]:=by
  cases e:g2.q with
  |nil=>rfl
  |cons u q =>
   have hm:u∈g2.q:=by rw[e];exact List.mem_cons_self ..
   rcases Et _ _ hi.w hm with ⟨_,_,e2⟩ |⟨_,_,e2⟩<;>rw[hP u (hi.lt u hm)]at e2<;>cases e2
 have e0:CM (Uq n) 0 n l t 3 1=(let r:=Cf 3 (r2.op 1 t 0) t;if r.act.getD t 0≠2 then false else let q:=Cf 1 (r.op 2 t 0) t;!q.bad&&decide (q.act.getD t 0=0)&&decide (Co n q.l=q.l.length)):=by
  unfold CM;rw[e2];dsimp only;rw[if_neg (by rw[ha.bad];simp),if_neg (by simp)]
 rw[e0];dsimp only[Cf];obtain⟨s3,ha,hi,c3⟩:=QX (late:=0) ha hi ht (hz t ht);obtain⟨s4,ha,hi,c4⟩:=WI (late:=0) (kind:=3) h2 ha hi ht (Ak _ _ _) (by decide) (by decide);obtain⟨s5,ha,hi,c5⟩:=WJ (late:=0) (kind:=3) ha hi ht (Ak _ _ _) (by decide) (by decide);obtain⟨s6,_,ha,hi,c6⟩:=OX (late:=0) (kind:=3) (q:=[]) h2 ha hi ht hH (by show g2.q++[t]=_;rw[hq];rfl) (by decide) (by decide);rw[if_neg (by rw[ha.act t ht,c6,Ak];simp)];obtain⟨s7,_,ha,hi,c7⟩:=My (late:=0) ha hi ht (by rw[c6,Ak]);obtain⟨s8,ha,hi,c8⟩:=Up (late:=0) (kind:=3) h2 ha hi ht (Ak _ _ _) (by decide) (by decide);rw[ha.bad,ha.act t ht,c8,Ak,decide_eq_true ((Em n h1 h2 _).2 (by rw[ha.tr];exact hi.tr.ok))];rfl
end
end Go.Proofs.YtnmahobjmpdkdaaGreatDoor
