/- The ticket lock on the document's machine: whatever is done, its marks are a trace of the abstract lock, and nothing traps. Plain. -/
import Derived.Test.YtnmahobjmpdkdaaGreatDoorQ02
import Derived.Test.YtnmahobjmpdkdaaGreatDoorQ24
set_option linter.unusedVariables false
set_option linter.unusedSimpArgs false
set_option maxRecDepth 100000
set_option maxHeartbeats 40000000
namespace Go.Proofs.YtnmahobjmpdkdaaGreatDoor
section
def Ef:Pg:=⟨[⟨20,1,0,0,0,0,1,0⟩,⟨12,0,0,0,0,0,1,0⟩,⟨21,2,0,1,0,1,0,-1⟩,⟨12,0,0,0,0,0,2,0⟩,⟨13,0,0,0,0,0,1,0⟩,⟨3,1,1,0,0,0,1,0⟩,⟨17,0,0,1,0,1,0,0⟩,⟨12,0,0,0,0,0,4,0⟩,⟨13,0,0,0,0,0,2,0⟩],0,5⟩
def De:List (Nat×Nat):=[(0,0),(1,0)]
inductive TK where
 |idle
 |enq
 |wait (k:Nat)
 |hold (k:Nat)
 |rel (k:Nat)
def TK.is:TK→Nat→CoreM→Nat→Prop
 |.idle,a,c,l=>a=0∧(l=0∨l=10)∧∃ r1 r2 r7 pc,c=⟨[0,r1,r2,0,0,0,0,r7],pc⟩
 |.enq,a,c,l=>a=1∧l=1∧∃ r1 r2 r7,c=⟨[0,r1,r2,0,0,0,0,r7],0⟩
 |.wait k,a,c,l=>a=1∧l=2∧∃ r2 r7,c=⟨[0,k,r2,0,0,0,0,r7],2⟩
 |.hold k,a,c,l=>a=2∧l=5∧∃ r2 r7,c=⟨[0,k,r2,0,0,0,0,r7],4⟩
 |.rel k,a,c,l=>a=3∧l=8∧∃ r2 r7,c=⟨[0,(k+1)%Bn,r2,0,0,0,0,r7],6⟩
def TK.rk:TK→Nat
 |.idle=>0
 |.enq=>4
 |.wait _=>3
 |.hold _=>2
 |.rel _=>1
def SI(n:Nat)(P:Nat→TK):Nat:=Bz n (fun t=>(P t).rk)
theorem Lq{n t:Nat}{P:Nat→TK}(ht:t<n)(p:TK):SI n (A4 P t p)+(P t).rk=SI n P+p.rk:=by
 have:=DB (f:=fun t=>(P t).rk) (g:=fun u=>(A4 P t p u).rk) n ht (fun u hu=>by show(A4 P t p u).rk=_;rw[Ax _ _ hu]);simp only[Ak]at this;exact this
def waits(P:Nat→TK):Nat→List Nat→Prop
 |_,[]=>True
 |b,t::q=>P t=.wait (b%Bn)∧waits P (b+1) q
theorem EO{P:Nat→TK}{t:Nat}{p:TK}:∀ (q:List Nat) (b:Nat),t∉q→waits P b q→waits (A4 P t p) b q
 |[],_,_,_=>trivial
 |s::q,b,ht,h=>by
  rw[List.mem_cons,not_or]at ht;exact⟨by rw[Ax _ _ (fun e=>ht.1 e.symm)];exact h.1,EO q (b+1) ht.2 h.2⟩
theorem Lr{P:Nat→TK}{t:Nat}:∀ (q:List Nat) (b:Nat),waits P b q→P t=.wait ((b+q.length)%Bn)→waits P b (q++[t])
 |[],b,_,h=>⟨by simpa using h,trivial⟩
 |s::q,b,hq,h=>⟨hq.1,Lr q (b+1) hq.2 (by rw[h,List.length_cons];congr 2;omega)⟩
theorem EP{P:Nat→TK}{t:Nat}:∀ (q:List Nat) (b:Nat),waits P b q→t∈q→∃ i,i<q.length∧P t=.wait ((b+i)%Bn)∧(i=0→∃ q',q=t::q')
 |s::q,b,hq,h=>by
  by_cases e:t=s
  ·subst e;exact⟨0,by simp,hq.1,fun _=>⟨q,rfl⟩⟩
  ·obtain⟨i,h1,h2,_⟩:=EP q (b+1) hq.2 (by simpa [e]using h);exact⟨i+1,by simp;omega,by rw[h2];congr 2;omega,fun h=>by omega⟩
structure FA (n:Nat) (s:LS) (P:Nat→TK) (L:Nat→Nat) (H:Option Nat) (o:Nat) (q:List Nat):Prop where
 is:∀ t,t<n→(P t).is (s.act t) (s.core t) (L t)
 words:s.words=[(o+H.toList.length+q.length)%Bn,o%Bn]
 w:waits P (o+H.toList.length) q
 hold:∀ t∈H,t<n∧t∉q∧(P t=.hold (o%Bn)∨P t=.rel (o%Bn))
 free:∀ t,t<n→t∉q→t∉H→P t=.idle∨P t=.enq
 nd:q.Nodup
 lt:∀ t∈q,t<n
 tr:Cv n s.tr L q
theorem M3:∀ (n:Nat) (q:List Nat),q.Nodup→(∀ t∈q,t<n)→q.length≤n
 |0,[],_,_=>Nl _
 |0,t::_,_,h=>absurd (h t (List.mem_cons_self ..)) (by omega)
 |n+1,q,hn,hl=>by
  have h:=M3 n (q.erase n) (hn.erase n) (fun t ht=>by
   have h1:=(hn.mem_erase_iff).1 ht;have:=hl t h1.2;omega)
  rw[List.length_erase]at h;split at h<;>omega
section
variable {n:Nat} {s:LS} {P:Nat→TK} {L:Nat→Nat} {H:Option Nat} {o:Nat} {q:List Nat} {t:Nat} {r:AR} {late:Int}
theorem NJ{Q:TK→Nat→CoreM→Nat→Prop}{A:Nat→Nat}{C:Nat→CoreM}(h:∀ t,t<n→Q (P t) (A t) (C t) (L t))(p:TK)(a:Nat)(c:CoreM)(l:Nat)(hp:Q p a c l) :
  ∀ u,u<n→Q (A4 P t p u) (A4 A t a u) (A4 C t c u) (A4 L t l u):=by
 intro u hu;by_cases e:u=t
 ·subst e;simp only[Ak];exact hp
 ·simp only[Ax _ _ e];exact h u hu
theorem Wc{Q:TK→Nat→CoreM→Nat→Prop}{A:Nat→Nat}{C:Nat→CoreM}(h:∀ t,t<n→Q (P t) (A t) (C t) (L t))(p:TK)(c:CoreM)(l:Nat)(hp:Q p (A t) c l) :
  ∀ u,u<n→Q (A4 P t p u) (A u) (A4 C t c u) (A4 L t l u):=by
 intro u hu;by_cases e:u=t
 ·subst e;simp only[Ak];exact hp
 ·simp only[Ax _ _ e];exact h u hu
theorem Rh(hs:B9 n Ef De r s)(h:FA n s P L H o q)(ht:t<n)(ha:s.act t=0) :
  ∃ s',B9 n Ef De (r.op 1 t late) s'∧FA n s' (A4 P t .enq) (A4 L t 1) H o q∧s'.act=A4 s.act t 1∧SI n (A4 P t .enq)≤SI n P+4:=by
 have hP:P t=.idle:=by
  have:=h.is t ht;cases hp:P t<;>rw[hp]at this<;>simp only[TK.is]at this<;>omega
 have hi:=h.is t ht;rw[hP]at hi;obtain⟨_,hl,r1,r2,r7,pc,hc⟩:=hi;have hq:t∉q:=fun hm=>by obtain⟨i,_,e,_⟩:=EP q _ h.w hm;rw[hP]at e;cases e
 have hH:t∉H:=fun hm=>by rcases(h.hold t hm).2.2 with e |e<;>rw[hP]at e<;>cases e
 refine⟨_,hs.call ht ha (w:=s.words) (c:=⟨[0,r1,r2,0,0,0,0,r7],0⟩) (o:=⟨[],-1,-1,0,0,0⟩) (by rw[hc];rfl) rfl,?_,rfl,by have:=Lq (P:=P) ht .enq;simp only[TK.rk]at this;omega⟩;refine⟨NJ h.is _ _ _ _ ⟨rfl,rfl,r1,r2,r7,rfl⟩,h.words,EO q _ hq h.w,fun u hu=>?_,fun u hu h1 h2=>?_,h.nd,h.lt,h.tr.call ht hq (by omega)⟩
 ·obtain⟨a1,a2,a3⟩:=h.hold u hu;have e:u≠t:=fun e=>hH (e▸hu)
  exact⟨a1,a2,by rw[Ax _ _ e];exact a3⟩
 ·by_cases e:u=t
  ·rw[e,Ak];exact .inr rfl
  ·rw[Ax _ _ e];exact h.free u hu h1 h2
theorem Y6(h:FA n s P L H o q)(ht:t<n){k:Nat}(hP:P t=.hold k∨P t=.rel k):H=some t∧k=o%Bn∧t∉q:=by
 have hq:t∉q:=fun hm=>by obtain⟨i,_,e,_⟩:=EP q _ h.w hm;rcases hP with e' |e'<;>rw[e']at e<;>cases e
 by_cases hH:t∈H
 ·refine⟨by simpa using hH,?_,hq⟩;rcases(h.hold t hH).2.2 with e |e<;>rcases hP with e' |e'<;>rw[e']at e<;>cases e<;>rfl
 ·rcases h.free t ht hq hH with e |e<;>rcases hP with e' |e'<;>rw[e']at e<;>cases e
theorem M4(hs:B9 n Ef De r s)(h:FA n s P L H o q)(ht:t<n)(ha:s.act t=2) :
  ∃ s' k,P t=.hold k∧B9 n Ef De (r.op 2 t late) s'∧FA n s' (A4 P t (.rel k)) (A4 L t 8) H o q∧s'.act=A4 s.act t 3∧SI n (A4 P t (.rel k))<SI n P:=by
 obtain⟨k,hP⟩:∃ k,P t=.hold k:=by
  have:=h.is t ht;cases hp:P t<;>rw[hp]at this<;>simp only[TK.is]at this
  case hold k=>exact⟨k,rfl⟩
  all_goals omega
 have hi:=h.is t ht;rw[hP]at hi;obtain⟨_,hl,r2,r7,hc⟩:=hi;obtain⟨rfl,hk,hq⟩:=Y6 h ht (.inl hP);refine⟨_,k,hP,hs.unlock ht ha (w:=s.words) (c:=⟨[0,(k+1)%Bn,r2,0,0,0,0,r7],6⟩) (o:=⟨[],-1,-1,0,0,0⟩) (by rw[hc];rfl) rfl,?_,rfl,by have:=Lq (P:=P) ht (.rel k);rw[hP]at this;simp only[TK.rk]at this;omega⟩;refine⟨NJ h.is _ _ _ _ ⟨rfl,rfl,r2,r7,rfl⟩,h.words,EO q _ hq h.w,fun u hu=>?_,fun u hu h1 h2=>?_,h.nd,h.lt,h.tr.unlock ht hq hl⟩
 ·obtain rfl:t=u:=by simpa using hu
  exact⟨ht,hq,.inr (by rw[Ak,hk])⟩
 ·have e:u≠t:=fun e=>h2 (by rw[e];rfl)
  rw[Ax _ _ e];exact h.free u hu h1 h2
theorem UC(hs:B9 n Ef De r s)(h:FA n s P L H o q)(ht:t<n)(hp:P t=.enq){kind:Int}(h1:kind≠1)(h2:kind≠2) :
  ∃ s',B9 n Ef De (r.op kind t late) s'∧FA n s' (A4 P t (.wait ((o+H.toList.length+q.length)%Bn))) (A4 L t 2) H o (q++[t])∧s'.act=s.act:=by
 have hi:=h.is t ht;have hW:=h.words;rw[hp]at hi;simp only[TK.is]at hi;obtain⟨hact,hl,r1,r2,r7,hc⟩:=hi;have hq:t∉q:=fun hm=>by obtain⟨i,_,e,_⟩:=EP q _ h.w hm;rw[hp]at e;cases e
 have hH:t∉H:=fun hm=>by rcases(h.hold t hm).2.2 with e |e<;>rw[hp]at e<;>cases e
 refine⟨_,hs.step ht (.inl hact) h1 h2 (w:=[((o+H.toList.length+q.length)%Bn+1)%Bn,o%Bn]) (c:=⟨[0,(o+H.toList.length+q.length)%Bn,r2,0,0,0,0,r7],2⟩) (o:=⟨[1],-1,0,1,0,0⟩)
  (by rw[hc,hW];rfl) (by rw[hact];rfl),?_,rfl⟩
 refine⟨?_,?_,Lr q _ (EO q _ hq h.w) (Ak _ _ _),fun u hu=>?_,fun u hu h1 h2=>?_,?_,?_,h.tr.enq ht hq hl⟩
 ·exact Wc h.is _ _ _ ⟨hact,rfl,r2,r7,rfl⟩
 ·rw[Nat.mod_add_mod,List.length_append];rfl
 ·obtain⟨a1,a2,a3⟩:=h.hold u hu;have e:u≠t:=fun e=>hH (e▸hu)
  exact⟨a1,by simp[a2,e],by rw[Ax _ _ e];exact a3⟩
 ·have e:u≠t:=fun e=>h1 (by rw[e];simp)
  rw[Ax _ _ e];exact h.free u hu (fun hm=>h1 (List.mem_append_left _ hm)) h2
 ·rw[List.nodup_append];exact⟨h.nd,by simp,fun a ha b hb=>by rw[List.mem_singleton.1 hb];exact fun e=>hq (e▸ha)⟩
 ·intro u hu;rcases List.mem_append.1 hu with hu |hu
  ·exact h.lt u hu
  ·rw[List.mem_singleton.1 hu];exact ht
theorem Ph(hs:B9 n Ef De r s)(h:FA n s P L none o (t::q))(ht:t<n){kind:Int}(h1:kind≠1)(h2:kind≠2) :
  ∃ s',B9 n Ef De (r.op kind t late) s'∧FA n s' (A4 P t (.hold (o%Bn))) (A4 L t 5) (some t) o q∧s'.act=A4 s.act t 2:=by
 have hi:=h.is t ht;have hW:=h.words;have hp:P t=.wait (o%Bn):=h.w.1;obtain⟨k,hw⟩:∃ k,o%Bn=k:=⟨_,rfl⟩
 rw[hp,hw]at hi;rw[hw]at hp ⊢;simp only[TK.is]at hi;obtain⟨hact,hl,r2,r7,hc⟩:=hi;have hnd:=List.nodup_cons.1 h.nd;have hown:∀ u,u<n→K6 (L u)=false:=fun u hu=>by
  have hiu:=h.is u hu;by_cases hm:u∈t::q
  ·obtain⟨j,_,e,_⟩:=EP _ _ h.w hm;rw[e]at hiu;rw[hiu.2.1];rfl
  ·rcases h.free u hu hm (by simp) with e |e<;>rw[e]at hiu
   ·rcases hiu.2.1 with e |e<;>rw[e]<;>rfl
   ·rw[hiu.2.1];rfl
 have T1:=h.tr.Mr ht hnd.1 hl hown;have T2:=T1.EY ht hnd.1 (Ak _ _ _);rw[DC]at T2;refine⟨_,hs.step ht (.inl hact) h1 h2 (w:=s.words) (c:=⟨[0,k,o%Bn,0,0,0,0,r7],4⟩) (o:=⟨[2],1,1,0,0,0⟩)
  (by rw[hc,hW,Rc,show cmpL Ef De [(o+(none:Option Nat).toList.length+(t::q).length)%Bn,o%Bn] (⟨[0,k,r2,0,0,0,0,r7],2⟩:CoreM)=true from decide_eq_true hw];rfl) (by rw[hact];rfl),?_,rfl⟩
 refine⟨NJ h.is _ _ _ _ ⟨rfl,rfl,o%Bn,r7,rfl⟩,?_,?_,fun u hu=>?_,fun u hu h1 h2=>?_,hnd.2,fun u hu=>h.lt u (List.mem_cons_of_mem _ hu),T2⟩
 ·show s.words=_
  rw[hW];simp only[Option.toList_none,Option.toList_some,List.length_nil,List.length_cons];rw[show o+0+(q.length+1)=o+(0+1)+q.length by omega]
 ·exact EO q _ hnd.1 (by simpa using h.w.2)
 ·obtain rfl:t=u:=by simpa using hu
  exact⟨ht,hnd.1,.inl (by rw[Ak,hw])⟩
 ·have e:u≠t:=fun e=>h2 (by rw[e];rfl)
  rw[Ax _ _ e];exact h.free u hu (by simp[e,h1]) (by simp)
theorem UD(hs:B9 n Ef De r s)(h:FA n s P L H o q)(ht:t<n){k:Nat}(hp:P t=.rel k){kind:Int}(h1:kind≠1)(h2:kind≠2) :
  ∃ s',B9 n Ef De (r.op kind t late) s'∧FA n s' (A4 P t .idle) (A4 L t 10) none (o+1) q∧s'.act=A4 s.act t 0:=by
 have hi:=h.is t ht;have hW:=h.words;rw[hp]at hi;simp only[TK.is]at hi;obtain⟨hact,hl,r2,r7,hc⟩:=hi;obtain⟨rfl,hk,hq⟩:=Y6 h ht (.inr hp);have T1:=h.tr.release ht hq hl;have T2:=T1.over ht hq (Ak _ _ _);rw[DC]at T2;refine⟨_,hs.step ht (.inr hact) h1 h2 (w:=[(o+(some t).toList.length+q.length)%Bn,(k+1)%Bn]) (c:=⟨[0,(k+1)%Bn,r2,0,0,0,0,r7],8⟩) (o:=⟨[4],2,1,1,0,0⟩)
  (by rw[hc,hW];rfl) (by rw[hact];rfl),?_,rfl⟩
 refine⟨NJ h.is _ _ _ _ ⟨rfl,.inr rfl,_,r2,r7,8,rfl⟩,?_,?_,fun u hu=>?_,fun u hu h1 h2=>?_,h.nd,h.lt,T2⟩
 ·show [_,_]=_
  rw[hk,Nat.mod_add_mod];rfl
 ·exact EO q _ hq h.w
 ·simp at hu
 ·by_cases e:u=t
  ·subst e;rw[Ak];exact .inl rfl
  ·rw[Ax _ _ e];exact h.free u hu h1 (by simp;exact fun h=>e h.symm)
theorem We(hn:n≤64)(hs:B9 n Ef De r s)(h:FA n s P L H o q)(ht:t<n)(ha:s.act t=1∨s.act t=3){kind:Int}(h1:kind≠1)(h2:kind≠2) :
  ∃ s' P' L' H' o' q',B9 n Ef De (r.op kind t late) s'∧FA n s' P' L' H' o' q' ∧
   ((∃ a,s'.act=A4 s.act t a∧(s.act t=1∧(a=1∨a=2)∨s.act t=3∧(a=3∨a=0))∧SI n P'<SI n P)∨(P'=P∧L'=L∧H'=H∧o'=o∧q'=q∧s'.act=s.act∧∃ k,P t=.wait k∧o%Bn≠k)):=by
 have hi:=h.is t ht;have hW:=h.words;have hHl:H.toList.length≤1:=by cases H<;>simp
 cases hp:P t<;>rw[hp]at hi<;>simp only[TK.is]at hi
 case idle=>omega
 case hold k=>omega
 case enq =>
  obtain⟨s',a1,a2,a3⟩:=UC (late:=late) hs h ht hp h1 h2;exact⟨s',_,_,_,_,_,a1,a2,.inl ⟨1,by rw[AP hi.1];exact a3,.inl ⟨hi.1,.inl rfl⟩,by have:=Lq (P:=P) ht (.wait ((o+H.toList.length+q.length)%Bn));rw[hp]at this;simp only[TK.rk]at this;omega⟩⟩
 case wait k =>
  obtain⟨hact,hl,r2,r7,hc⟩:=hi;have hq:t∈q:=Classical.byContradiction fun hq=>by
   by_cases hH:t∈H
   ·rcases(h.hold t hH).2.2 with e |e<;>rw[hp]at e<;>cases e
   ·rcases h.free t ht hq hH with e |e<;>rw[hp]at e<;>cases e
  have hlen:=M3 n q h.nd h.lt;obtain⟨i,hi1,hi2,hi3⟩:=EP q _ h.w hq;rw[hp]at hi2;have hk:k=(o+H.toList.length+i)%Bn:=by cases hi2;rfl
  by_cases hw:o%Bn=k
  ·have hw0:H.toList.length=0∧i=0:=by
    rw[hk]at hw;simp only[Bn]at hw;omega
   have hH0:H=none:=by cases H with
    |none=>rfl
    |some x=>simp at hw0
   subst hH0;obtain⟨q',rfl⟩:=hi3 hw0.2;subst hw;obtain⟨s',a1,a2,a3⟩:=Ph (late:=late) hs h ht h1 h2;exact⟨s',_,_,_,_,_,a1,a2,.inl ⟨2,a3,.inl ⟨hact,.inr rfl⟩,by have:=Lq (P:=P) ht (.hold (o%Bn));rw[hp]at this;simp only[TK.rk]at this;omega⟩⟩
  ·refine⟨_,P,L,H,o,q,hs.step ht ha h1 h2 (w:=s.words) (c:=⟨[0,k,o%Bn,0,0,0,0,r7],2⟩) (o:=⟨[],-1,1,0,1,0⟩)
    (by rw[hc,hW,Rc,show cmpL Ef De [(o+H.toList.length+q.length)%Bn,o%Bn] (⟨[0,k,r2,0,0,0,0,r7],2⟩:CoreM)=false from decide_eq_false hw];cases decide (late≠0)<;>rfl) (by rw[hact];rfl),?_,.inr ⟨rfl,rfl,rfl,rfl,rfl,rfl,k,rfl,hw⟩⟩
   refine⟨fun u hu=>?_,h.words,h.w,h.hold,h.free,h.nd,h.lt,h.tr⟩;by_cases e:u=t
   ·subst e
    show TK.is _ _ (A4 s.core u _ u) _
    rw[hp,Ak];exact⟨hact,hl,o%Bn,r7,rfl⟩
   ·show TK.is _ _ (A4 s.core t _ u) _
    rw[Ax _ _ e];exact h.is u hu
 case rel k =>
  obtain⟨s',a1,a2,a3⟩:=UD (late:=late) hs h ht hp h1 h2;exact⟨s',_,_,_,_,_,a1,a2,.inl ⟨0,a3,.inr ⟨hi.1,.inr rfl⟩,by have:=Lq (P:=P) ht (.idle);rw[hp]at this;simp only[TK.rk]at this;omega⟩⟩
end
structure Z2 where
 P:Nat→TK
 L:Nat→Nat
 H:Option Nat
 o:Nat
 q:List Nat
def YO(n:Nat)(g:Z2)(s:LS):Prop:=FA n s g.P g.L g.H g.o g.q
def Ri(g:Z2)(t:Nat):Prop:=∃ k,g.P t=.wait k∧g.o%Bn≠k
theorem Wf{n:Nat}(s:LS)(g:Z2)(h:YO n g s)(hs:∀ t,t<n→s.act t=0∨Ri g t):∀ t,t<n→s.act t=0:=by
 have hw:∀ t k,t<n→g.P t=.wait k→g.o%Bn≠k:=fun t k ht e=>by
  have:=h.is t ht;rw[e]at this;rcases hs t ht with a |⟨k',a,b⟩
  ·have:=this.1;omega
  ·rw[e]at a;cases a;exact b
 have hn:∀ t,t<n→(∀ k,g.P t≠.wait k)→s.act t=0:=fun t ht hk=>by
  rcases hs t ht with a |⟨k,a,_⟩
  ·exact a
  ·exact absurd a (hk k)
 have hH:g.H=none:=by
  cases e:g.H with
  |none=>rfl
  |some u =>
   obtain⟨hu,_,b⟩:=h.hold u (by rw[e];rfl);have hi:=h.is u hu;have:=hn u hu (fun k hk=>by rcases b with b |b<;>rw[b]at hk<;>cases hk);rcases b with b |b<;>rw[b]at hi<;>have:=hi.1<;>omega
 have hq:g.q=[]:=by
  cases e:g.q with
  |nil=>rfl
  |cons u q =>
   have:=h.w;rw[e,hH]at this;exact absurd rfl (hw u _ (h.lt u (by rw[e];exact List.mem_cons_self ..)) this.1)
 intro t ht;refine hn t ht fun k hk=>?_
 rcases h.free t ht (by rw[hq];simp) (by rw[hH];simp) with e |e<;>rw[e]at hk<;>cases hk
theorem Kj{n:Nat}(hn:n≤64):Fair n 4 Ef De (YO n) (fun g=>SI n g.P) Ri:=by
 refine⟨?_,?_,?_,Wf,?_,fun s g h=>h.tr.ok⟩
 ·intro r s g t late h hi ht ha;obtain⟨s',a1,a2,a3,a4⟩:=Rh (late:=late) h hi ht ha;exact⟨s',⟨_,_,_,_,_⟩,a1,a2,a3,a4⟩
 ·intro r s g t late h hi ht ha;obtain⟨s',k,_,a1,a2,a3,a4⟩:=M4 (late:=late) h hi ht ha;exact⟨s',⟨_,_,_,_,_⟩,a1,a2,a3,a4⟩
 ·intro r s g t kind late h hi ht ha k1 k2;obtain⟨s',P,L,H,o,q,a1,a2,a3⟩:=We (late:=late) hn h hi ht ha k1 k2;refine⟨s',⟨P,L,H,o,q⟩,a1,a2,?_⟩;rcases a3 with a3 |⟨rfl,rfl,rfl,rfl,rfl,b1,b2⟩
  ·exact .inl a3
  ·exact .inr ⟨rfl,b1,b2⟩
 ·intro s g h t ht;have:=h.is t ht;cases hp:g.P t<;>rw[hp]at this<;>have:=this.1<;>omega
def Y7(n s:Nat):AM:=AM.new Ef [1,1] [s,s] n 0 (List.replicate n 0)
theorem Qv(n s:Nat)(hs:s<Bn):∃ s0 g0,B9 n Ef De (AR.new (Y7 n s) n) s0∧YO n g0 s0∧(∀ t,t<n→s0.act t=0)∧SI n g0.P=0:=by
 refine⟨_,⟨fun _=>.idle,fun _=>0,none,s,[]⟩,B9.new n Ef [1,1] [s,s] 0 (List.replicate n 0) (by simp),?_,fun _ _=>rfl,D4 n (fun _ _=>rfl)⟩;refine⟨fun t ht=>⟨rfl,.inl rfl,0,0,_,0,rfl⟩,?_,trivial,fun t ht=>by simp at ht,fun t ht _ _=>.inl rfl,List.nodup_nil,fun t ht=>by simp at ht,Cv.new n⟩
 show [s,s]=_
 simp[Nat.mod_eq_of_lt hs]
theorem TY(n s:Nat)(h1:1≤n)(h2:n≤64)(hs:s<Bn)(l:List (Int×Int×Int)):FF (Y7 n s) n l=true:=by
 obtain⟨s0,g0,ha,hi,_⟩:=Qv n s hs;exact(Kj h2).trace h1 h2 l ha hi
theorem RC(n s calls:Nat)(h1:1≤n)(h2:n≤64)(hs:s<Bn):DA (Y7 n s) n calls=true:=by
 obtain⟨s0,g0,ha,hi,h0,hr⟩:=Qv n s hs;exact(Kj h2).served h1 h2 (by decide) calls ha hi h0 hr
theorem U2(n s:Nat)(h1:1≤n)(h2:n≤64)(hs:s<Bn)(l:List (Int×Int×Int))(t:Nat)(ht:t<n):CM (Y7 n s) 0 n l t 2 1=true:=by
 obtain⟨s0,g0,ha,hi,_⟩:=Qv n s hs;obtain⟨s1,g1,ha,hi⟩:=(Kj h2).ops l _ s0 g0 ha hi;have hr:SI n g1.P<5000:=by
  have:SI n g1.P≤n*4:=by
   rw[←DY 4 n];exact GK n fun t _=>by cases g1.P t<;>simp[TK.rk]
  omega
 obtain⟨r2,s2,g2,e2,ha,hi,hz⟩:=(Kj h2).fin 5000 _ s1 g1 ha hi hr;have hP:∀ u,u<n→g2.P u=.idle∨g2.P u=.enq:=fun u hu=>by
  have:=hi.is u hu;have h0:=hz u hu;cases hp:g2.P u<;>rw[hp]at this<;>have:=this.1<;>first |exact .inl rfl |exact .inr rfl |omega
 have hP0:∀ u,u<n→g2.P u=.idle:=fun u hu=>by
  rcases hP u hu with e |e
  ·exact e
  ·have:=hi.is u hu;rw[e]at this;have:=this.1;have:=hz u hu;omega
 have hH:g2.H=none:=by
  cases e:g2.H with
  |none=>rfl
  |some u =>
   obtain⟨hu,_,b⟩:=hi.hold u (by rw[e];rfl);rw[hP0 u hu]at b;rcases b with b |b<;>cases b
 have hq:g2.q=[]:=by
  cases e:g2.q with
  |nil=>rfl
  |cons u q =>
   have h3:=hi.w;rw[e]at h3;have:=hP0 u (hi.lt u (by rw[e];exact List.mem_cons_self ..));rw[h3.1]at this;cases this
 have e0:CM (Y7 n s) 0 n l t 2 1=(let r:=Cf 2 (r2.op 1 t 0) t;if r.act.getD t 0≠2 then false else let q:=Cf 1 (r.op 2 t 0) t;!q.bad&&decide (q.act.getD t 0=0)&&decide (Co n q.l=q.l.length)):=by
  unfold CM;rw[e2];dsimp only;rw[if_neg (by rw[ha.bad];simp),if_neg (by simp)]
 rw[e0];dsimp only[Cf];unfold YO at hi;rw[hH,hq]at hi;obtain⟨s3,ha,hi,hc,_⟩:=Rh (late:=0) ha hi ht (hz t ht);have c3:s3.act t=1:=by rw[hc,Ak]
 obtain⟨s4,ha,hi,c4⟩:=UC (late:=0) (kind:=3) ha hi ht (Ak _ _ _) (by decide) (by decide);obtain⟨s5,ha,hi,c5⟩:=Ph (late:=0) (kind:=3) ha hi ht (by decide) (by decide);rw[if_neg (by rw[ha.act t ht,c5,Ak];simp)];obtain⟨s6,k6,hk,ha,hi,c6,_⟩:=M4 (late:=0) ha hi ht (by rw[c5,Ak]);obtain⟨s7,ha,hi,c7⟩:=UD (late:=0) (kind:=3) ha hi ht (Ak _ _ _) (by decide) (by decide);rw[ha.bad,ha.act t ht,c7,Ak,decide_eq_true ((Em n h1 h2 _).2 (by rw[ha.tr];exact hi.tr.ok))];rfl
end
end Go.Proofs.YtnmahobjmpdkdaaGreatDoor
