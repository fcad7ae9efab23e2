/- The MCS lock on the document's machine: its marks are a trace of the abstract lock, nothing traps, all are served. Plain. -/
import Derived.Test.YtnmahobjmpdkdaaGreatDoorQAcc
import Derived.KernelRfl
set_option linter.unusedVariables false
set_option linter.unusedSimpArgs false
set_option maxRecDepth 100000
set_option maxHeartbeats 40000000
namespace Go.Proofs.YtnmahobjmpdkdaaGreatDoor
section
def BQ:Pg:=⟨[⟨11,1,0,0,0,0,0,0⟩,⟨3,2,1,0,0,0,1,0⟩,⟨17,0,1,0,0,1,0,0⟩,⟨1,3,0,0,0,0,1,0⟩,⟨17,0,1,3,0,2,0,0⟩,⟨18,4,0,2,0,0,0,0⟩,⟨12,0,0,0,0,0,1,0⟩,⟨8,0,4,0,0,0,0,11⟩,⟨3,4,4,0,0,0,4294967295,0⟩,⟨17,0,4,2,0,1,0,0⟩,⟨21,5,1,0,0,2,0,-1⟩,⟨12,0,0,0,0,0,2,0⟩,⟨13,0,0,0,0,0,1,0⟩,⟨16,4,1,0,0,1,0,0⟩,⟨9,0,4,0,0,0,0,20⟩,⟨19,5,0,2,0,0,0,0⟩,⟨8,0,5,0,0,0,0,19⟩,⟨12,0,0,0,0,0,4,0⟩,⟨13,0,0,0,0,0,2,0⟩,⟨21,4,1,0,0,1,1,-1⟩,⟨3,4,4,0,0,0,4294967295,0⟩,⟨17,0,4,0,0,2,0,0⟩,⟨12,0,0,0,0,0,4,0⟩,⟨13,0,0,0,0,0,2,0⟩],0,13⟩
inductive MK where
 |idle
 |s2
 |s4
 |s5
 |lk (p:Nat)
 |wt
 |hold
 |u13
 |u15
 |u19
 |u21 (v:Nat)
def MK.is:MK→Nat→Nat→CoreM→Nat→Prop
 |.idle,_,a,c,l=>a=0∧(l=0∨l=10)∧∃ r1 r2 r3 r4 r5 r7 pc,c=⟨[0,r1,r2,r3,r4,r5,0,r7],pc⟩
 |.s2,t,a,c,l=>a=1∧l=1∧∃ r3 r4 r5 r7,c=⟨[0,t,t+1,r3,r4,r5,0,r7],2⟩
 |.s4,t,a,c,l=>a=1∧l=1∧∃ r4 r5 r7,c=⟨[0,t,t+1,1,r4,r5,0,r7],4⟩
 |.s5,t,a,c,l=>a=1∧l=1∧∃ r4 r5 r7,c=⟨[0,t,t+1,1,r4,r5,0,r7],5⟩
 |.lk p,t,a,c,l=>a=1∧l=2∧∃ r5 r7,c=⟨[0,t,t+1,1,p,r5,0,r7],9⟩
 |.wt,t,a,c,l=>a=1∧l=2∧∃ r4 r5 r7,c=⟨[0,t,t+1,1,r4,r5,0,r7],10⟩
 |.hold,t,a,c,l=>a=2∧l=5∧∃ r4 r5 r7,c=⟨[0,t,t+1,1,r4,r5,0,r7],12⟩
 |.u13,t,a,c,l=>a=3∧l=8∧∃ r4 r5 r7,c=⟨[0,t,t+1,1,r4,r5,0,r7],13⟩
 |.u15,t,a,c,l=>a=3∧l=8∧∃ r4 r5 r7,c=⟨[0,t,t+1,1,r4,r5,0,r7],15⟩
 |.u19,t,a,c,l=>a=3∧l=8∧∃ r4 r5 r7,c=⟨[0,t,t+1,1,r4,r5,0,r7],19⟩
 |.u21 v,t,a,c,l=>a=3∧l=8∧∃ r5 r7,c=⟨[0,t,t+1,1,v,r5,0,r7],21⟩
def MK.rk:MK→Nat
 |.idle=>0
 |.s2=>10
 |.s4=>9
 |.s5=>8
 |.lk _=>7
 |.wt=>6
 |.hold=>5
 |.u13=>4
 |.u15=>3
 |.u19=>2
 |.u21 _=>1
def MK.out:MK→Prop
 |.idle=>True
 |.s2=>True
 |.s4=>True
 |.s5=>True
 |_=>False
def MK.own(P:Nat→MK)(q:List Nat):MK→Prop
 |.hold=>True
 |.u13=>True
 |.u15=>True
 |.u19=>q≠[]
 |.u21 v=>P v=.wt∧∃ q',q=v::q'
 |_=>False
def MK.fl:MK→Prop
 |.s5=>True
 |.lk _=>True
 |.wt=>True
 |_=>False
def MK.nil:MK→Prop
 |.s4=>True
 |.s5=>True
 |_=>False
def US(n:Nat)(P:Nat→MK):Nat:=Bz n (fun t=>(P t).rk)
theorem P8{n t:Nat}{P:Nat→MK}(ht:t<n)(p:MK):US n (A4 P t p)+(P t).rk=US n P+p.rk:=by
 have:=DB (f:=fun t=>(P t).rk) (g:=fun u=>(A4 P t p u).rk) n ht (fun u hu=>by show(A4 P t p u).rk=_;rw[Ax _ _ hu]);simp only[Ak]at this;exact this
def Eh(P:Nat→MK)(nx:Nat→Nat):Nat→List Nat→Prop
 |p,[]=>nx p=0
 |p,t::q=>(P t=.wt∧nx p=t+1∨P t=.lk p∧nx p=0)∧Eh P nx t q
section
variable {P:Nat→MK} {nx:Nat→Nat} {t v:Nat} {k:MK}
theorem DT{P':Nat→MK}{nx':Nat→Nat}:∀ (q:List Nat) (p:Nat),(∀ u∈q,P' u=P u)→(∀ u∈p::q,nx' u=nx u)→Eh P nx p q→Eh P' nx' p q
 |[],p,_,h2,h=>by show nx' p=0;rw[h2 p (List.mem_cons_self ..)];exact h
 |s::q,p,h1,h2,h=>by
  refine⟨?_,DT q s (fun u hu=>h1 u (List.mem_cons_of_mem _ hu)) (fun u hu=>h2 u (List.mem_cons_of_mem _ hu)) h.2⟩;rw[h1 s (List.mem_cons_self ..),h2 p (List.mem_cons_self ..)];exact h.1
theorem Mp:∀ (q:List Nat) (p:Nat),Eh P nx p q→P t=.lk (CE p q)→nx t=0→Eh P nx p (q++[t])
 |[],p,h,h1,h2=>⟨.inr ⟨h1,h⟩,h2⟩
 |s::q,p,h,h1,h2=>⟨h.1,Mp q s h.2 h1 h2⟩
theorem K5:∀ (q:List Nat) (p:Nat),Eh P nx p q→t∈q→P t=.wt∨∃ p',P t=.lk p'∧(p'=p∨p'∈q)
 |s::q,p,h,ht=>by
  by_cases e:t=s
  ·subst e;rcases h.1 with h1 |h1
   ·exact .inl h1.1
   ·exact .inr ⟨p,h1.1,.inl rfl⟩
  ·rcases K5 q s h.2 (by simpa [e]using ht) with h1 |⟨p',h1,h2⟩
   ·exact .inl h1
   ·refine .inr ⟨p',h1,.inr ?_⟩;rcases h2 with rfl |h2
    ·exact List.mem_cons_self ..
    ·exact List.mem_cons_of_mem _ h2
theorem QC{p0:Nat}:∀ (q:List Nat) (p:Nat),(p::q).Nodup→Eh P nx p q→t∈q→P t=.lk p0→Eh (A4 P t .wt) (A4 nx p0 (t+1)) p q∧nx p0=0
 |s::q,p,hn,h,ht,hp=>by
  have hn1:=List.nodup_cons.1 hn;have hn2:=List.nodup_cons.1 hn1.2;by_cases e:t=s
  ·subst e;rcases h.1 with h1 |h1
   ·rw[h1.1]at hp;cases hp
   ·rw[h1.1]at hp;cases hp;refine⟨⟨.inl ⟨Ak _ _ _,Ak _ _ _⟩,?_⟩,h1.2⟩;refine DT q t (fun u hu=>Ax _ _ (fun e=>hn2.1 (e▸hu))) (fun u hu=>Ax _ _ (fun e=>hn1.1 (e▸hu))) h.2
  ·have htq:t∈q:=by simpa [e]using ht
   obtain⟨a1,a2⟩:=QC q s hn1.2 h.2 htq hp;refine⟨⟨?_,a1⟩,a2⟩;have hpp:p≠p0:=fun e'=>by
    rcases K5 q s h.2 htq with h1 |⟨p',h1,h2⟩
    ·rw[h1]at hp;cases hp
    ·rw[h1]at hp;cases hp;rw[←e']at h2;rcases h2 with h2 |h2
     ·exact hn1.1 (by rw[h2];exact List.mem_cons_self ..)
     ·exact hn1.1 (List.mem_cons_of_mem _ h2)
   rw[Ax _ _ (fun e'=>e e'.symm),Ax _ _ hpp];exact h.1
end
structure JM where
 P:Nat→MK
 L:Nat→Nat
 own:Bool
 c:List Nat
 m:Nat→Nat→Nat
def JM.q(g:JM):List Nat:=if g.own=true then g.c.tail else g.c
def JM.chain(g:JM):Prop:=match g.c with
 |[]=>g.m 0 0=0∧g.own=false
 |h::q=>g.m 0 0=CE h q+1∧Eh g.P (g.m 1) h q∧if g.own=true then (g.P h).own g.P q else g.P h=.wt∧g.m 2 h=0
structure Fs (n:Nat) (g:JM) (s:LS):Prop where
 W:Wd [1,n,n] s.words g.m
 is:∀ t,t<n→(g.P t).is t (s.act t) (s.core t) (g.L t)
 nd:g.c.Nodup
 lt:∀ t∈g.c,t<n
 ch:g.chain
 fl:∀ t,t<n→(g.P t).fl→(g.own=true∨g.c.head?≠some t)→g.m 2 t=1
 nil:∀ t,t<n→(g.P t).nil→g.m 1 t=0
 free:∀ t,t<n→t∉g.c→(g.P t).out
 tr:Cv n s.tr g.L g.q
theorem IU{P P':Nat→MK}{q:List Nat}(h:∀ u∈q,P' u=P u):∀ {k:MK},k.own P q→k.own P' q
 |.hold,_=>trivial
 |.u13,_=>trivial
 |.u15,_=>trivial
 |.u19,hk=>hk
 |.u21 v,⟨h1,q',e⟩=>⟨by rw[h v (by rw[e];exact List.mem_cons_self ..)];exact h1,q',e⟩
theorem Xl{P:Nat→MK}{q:List Nat}{t:Nat}:∀ {k:MK},k.own P q→k.own (A4 P t .wt) q
 |.hold,_=>trivial
 |.u13,_=>trivial
 |.u15,_=>trivial
 |.u19,hk=>hk
 |.u21 v,⟨h1,q',e⟩=>⟨by unfold A4;split;rfl;exact h1,q',e⟩
theorem MV{P:Nat→MK}{q:List Nat}:∀ {k:MK},k.own P q→¬k.out∧¬k.fl∧¬k.nil
 |.hold,_=>⟨id,id,id⟩
 |.u13,_=>⟨id,id,id⟩
 |.u15,_=>⟨id,id,id⟩
 |.u19,_=>⟨id,id,id⟩
 |.u21 _,_=>⟨id,id,id⟩
theorem On{g g':JM}(hc:g'.c=g.c)(ho:g'.own=g.own)(hP:∀ u∈g.c,g'.P u=g.P u)(m0:g'.m 0 0=g.m 0 0)(hm:∀ u∈g.c,g'.m 1 u=g.m 1 u∧g'.m 2 u=g.m 2 u)(h:g.chain):g'.chain:=by
 unfold JM.chain at h ⊢;rw[hc,ho]
 revert h hP hm
 cases g.c with
 |nil=>intro _ _ h;exact⟨m0.trans h.1,h.2⟩
 |cons x q =>
  intro hP hm h;obtain⟨h1,h2,h3⟩:=h;have hq:∀ u∈q,g'.P u=g.P u:=fun u hu=>hP u (List.mem_cons_of_mem _ hu)
  refine⟨m0.trans h1,DT q x hq (fun u hu=>(hm u hu).1) h2,?_⟩;rw[hP x (List.mem_cons_self ..),(hm x (List.mem_cons_self ..)).2];split
  ·rename_i e;rw[if_pos e]at h3;exact IU hq h3
  ·rename_i e;rw[if_neg e]at h3;exact h3
theorem EE{n t:Nat}{P:Nat→MK}{A:Nat→Nat}{C:Nat→CoreM}{L:Nat→Nat}(h:∀ u,u<n→(P u).is u (A u) (C u) (L u))(p:MK)(a:Nat)(c:CoreM)(l:Nat)(hp:p.is t a c l) :
  ∀ u,u<n→(A4 P t p u).is u (A4 A t a u) (A4 C t c u) (A4 L t l u):=by
 intro u hu;by_cases e:u=t
 ·subst e;simp only[Ak];exact hp
 ·simp only[Ax _ _ e];exact h u hu
section
variable {n:Nat} {s s':LS} {g:JM} {t:Nat} {r:AR} {late:Int}
theorem Oo(h:Fs n g s)(hc:t∈g.c):(∃ q,g.c=t::q∧g.own=true∧g.m 0 0=CE t q+1∧Eh g.P (g.m 1) t q∧(g.P t).own g.P q) ∨
  (∃ q,g.c=t::q∧g.own=false∧g.m 0 0=CE t q+1∧Eh g.P (g.m 1) t q∧g.P t=.wt∧g.m 2 t=0) ∨
  (∃ x q,g.c=x::q∧t∈q∧t≠x∧g.m 0 0=CE x q+1∧Eh g.P (g.m 1) x q∧(g.P t=.wt∨∃ p,g.P t=.lk p∧p∈g.c)):=by
 have hn:=h.nd;have hch:=h.ch;unfold JM.chain at hch;cases e:g.c with
 |nil=>rw[e]at hc;cases hc
 |cons x q =>
  rw[e]at hc hn hch;dsimp only at hch;obtain⟨h1,h2,h3⟩:=hch;by_cases ex:t=x
  ·subst ex;by_cases ho:g.own=true
   ·rw[if_pos ho]at h3;exact .inl ⟨q,rfl,ho,h1,h2,h3⟩
   ·rw[if_neg ho]at h3;exact .inr (.inl ⟨q,rfl,by simpa using ho,h1,h2,h3.1,h3.2⟩)
  ·have htq:t∈q:=by simpa [ex]using hc
   refine .inr (.inr ⟨x,q,rfl,htq,ex,h1,h2,?_⟩);rcases K5 q x h2 htq with h4 |⟨p,h4,h5⟩
   ·exact .inl h4
   ·exact .inr ⟨p,h4,by simpa using h5⟩
theorem Hn(h:Fs n g s)(ho:(g.P t).out):t∉g.c:=fun hc=>by
 rcases Oo h hc with ⟨q,_,_,_,_,h1⟩ |⟨q,_,_,_,_,h1,_⟩ |⟨x,q,_,_,_,_,_,h1 |⟨p,h1,_⟩⟩
 ·exact(MV h1).1 ho
 ·rw[h1]at ho;exact ho
 ·rw[h1]at ho;exact ho
 ·rw[h1]at ho;exact ho
theorem Ir(h:Fs n g s)(ht:t<n)(ho:¬(g.P t).out)(hw:g.P t≠.wt)(hl:∀ p,g.P t≠.lk p):∃ q,g.c=t::q∧g.own=true∧g.m 0 0=CE t q+1∧Eh g.P (g.m 1) t q∧(g.P t).own g.P q:=by
 have hc:t∈g.c:=Classical.byContradiction fun hc=>ho (h.free t ht hc)
 rcases Oo h hc with h1 |⟨q,_,_,_,_,h1,_⟩ |⟨x,q,_,_,_,_,_,h1 |⟨p,h1,_⟩⟩
 ·exact h1
 ·exact absurd h1 hw
 ·exact absurd h1 hw
 ·exact absurd h1 (hl p)
theorem MW(h:Fs n g s)(ht:t<n)(ho:(g.P t).out){p:MK}(hp:p.out){m':Nat→Nat→Nat}(m0:m' 0 0=g.m 0 0)(mu:∀ u,u≠t→m' 1 u=g.m 1 u∧m' 2 u=g.m 2 u)(f:p.fl→m' 2 t=1)(z:p.nil→m' 1 t=0)
  {a l:Nat}{c:CoreM}(W:Wd [1,n,n] s'.words m')(is':p.is t a c l)(hc:s'.core=A4 s.core t c)(ha:s'.act=A4 s.act t a)(tr:Cv n s'.tr (A4 g.L t l) g.q):Fs n ⟨A4 g.P t p,A4 g.L t l,g.own,g.c,m'⟩ s':=by
 have hn:=Hn h ho;have hne:∀ u∈g.c,u≠t:=fun u hu e=>hn (e▸hu)
 refine⟨W,?_,h.nd,h.lt,On (g:=g) rfl rfl (fun u hu=>Ax _ _ (hne u hu)) m0 (fun u hu=>mu u (hne u hu)) h.ch,fun u hu hf hx=>?_,fun u hu hf=>?_,fun u hu hx=>?_,tr⟩
 ·rw[hc,ha];exact EE h.is p a c l is'
 ·by_cases e:u=t
  ·subst e;exact f (by simpa only[Ak]using hf)
  ·exact(mu u e).2.trans (h.fl u hu (by simpa only[Ax _ _ e]using hf) hx)
 ·by_cases e:u=t
  ·subst e;exact z (by simpa only[Ak]using hf)
  ·exact(mu u e).1.trans (h.nil u hu (by simpa only[Ax _ _ e]using hf))
 ·by_cases e:u=t
  ·subst e;simpa only[Ak]using hp
  ·simpa only[Ax _ _ e]using h.free u hu hx
theorem Oq(h:Fs n g s)(ht:t<n){q:List Nat}(hq:g.c=t::q)(ho:g.own=true){k:MK}(hk:k.own g.P q){a l:Nat}{c:CoreM}(W:Wd [1,n,n] s'.words g.m)(is':k.is t a c l)(hc:s'.core=A4 s.core t c)(ha:s'.act=A4 s.act t a)(tr:Cv n s'.tr (A4 g.L t l) g.q) :
  Fs n {g with P:=A4 g.P t k,L:=A4 g.L t l} s':=by
 have hnd:=h.nd;rw[hq]at hnd;have hnd:=List.nodup_cons.1 hnd;have hch:=h.ch;refine⟨W,?_,h.nd,h.lt,?_,fun u hu hf hx=>?_,fun u hu hf=>?_,fun u hu hx=>?_,tr⟩
 ·rw[hc,ha];exact EE h.is k a c l is'
 ·unfold JM.chain at hch ⊢;dsimp only;rw[hq]at hch ⊢;dsimp only at hch ⊢;have hne:∀ u∈q,A4 g.P t k u=g.P u:=fun u hu=>Ax _ _ (fun e=>hnd.1 (e▸hu))
  refine⟨hch.1,DT q t hne (fun _ _=>rfl) hch.2.1,?_⟩;rw[if_pos ho,Ak];exact IU hne hk
 ·by_cases e:u=t
  ·subst e;exact absurd (by simpa only[Ak]using hf) (MV hk).2.1
  ·exact h.fl u hu (by simpa only[Ax _ _ e]using hf) hx
 ·by_cases e:u=t
  ·subst e;exact absurd (by simpa only[Ak]using hf) (MV hk).2.2
  ·exact h.nil u hu (by simpa only[Ax _ _ e]using hf)
 ·have e:u≠t:=fun e=>hx (by show u∈g.c;rw[hq,e];exact List.mem_cons_self ..)
  simpa only[Ax _ _ e]using h.free u hu hx
theorem QD(hn:n≤64)(hs:B9 n BQ (AG [1,n,n]) r s)(h:Fs n g s)(ht:t<n)(ha:s.act t=0) :
  ∃ s',B9 n BQ (AG [1,n,n]) (r.op 1 t late) s'∧Fs n {g with P:=A4 g.P t .s2,L:=A4 g.L t 1} s'∧s'.act=A4 s.act t 1:=by
 have hP:g.P t=.idle:=by
  have:=h.is t ht;cases hp:g.P t<;>rw[hp]at this<;>simp only[MK.is]at this<;>omega
 have hi:=h.is t ht;rw[hP]at hi;obtain⟨_,hl,r1,r2,r3,r4,r5,r7,pc,hc⟩:=hi;have ho:(g.P t).out:=by rw[hP];trivial
 have hq:t∉g.q:=fun hm=>Hn h ho (by unfold JM.q at hm;split at hm;exact List.mem_of_mem_tail hm;exact hm)
 have hm:(t+1)%Bn=t+1:=Nat.mod_eq_of_lt (by unfold Bn;omega);obtain⟨s',a1,a2,a3,a4,a5⟩:=hs.Wx (late:=late) h.W ht ha hc (c':=⟨[0,t,t+1,r3,r4,r5,0,r7],2⟩) (by rw[←hm];rfl);refine⟨s',a1,MW h ht ho (p:=.s2) trivial rfl (fun _ _=>⟨rfl,rfl⟩) (fun h=>h.elim) (fun h=>h.elim) a2 ⟨rfl,rfl,r3,r4,r5,r7,rfl⟩ a3 a4 ?_,a4⟩;rw[a5];exact h.tr.call ht hq (by omega)
theorem Mq(hn:n≤64)(hs:B9 n BQ (AG [1,n,n]) r s)(h:Fs n g s)(ht:t<n)(ha:s.act t=2) :
  ∃ s',g.P t=.hold∧B9 n BQ (AG [1,n,n]) (r.op 2 t late) s'∧Fs n {g with P:=A4 g.P t .u13,L:=A4 g.L t 8} s'∧s'.act=A4 s.act t 3:=by
 have hP:g.P t=.hold:=by
  have:=h.is t ht;cases hp:g.P t<;>rw[hp]at this<;>simp only[MK.is]at this<;>first |rfl |omega
 have hi:=h.is t ht;rw[hP]at hi;obtain⟨_,hl,r4,r5,r7,hc⟩:=hi;obtain⟨q,e1,e2,_,_,_⟩:=Ir h ht (by rw[hP];exact id) (by rw[hP];exact fun e=>by cases e) (by rw[hP];exact fun p e=>by cases e);have hnd:=h.nd;rw[e1]at hnd;have hq:t∉g.q:=by unfold JM.q;rw[if_pos e2,e1];exact(List.nodup_cons.1 hnd).1
 obtain⟨s',a1,a2,a3,a4,a5⟩:=hs.QE (late:=late) h.W ht ha hc (c':=⟨[0,t,t+1,1,r4,r5,0,r7],13⟩) rfl;refine⟨s',hP,a1,Oq h ht e1 e2 (k:=.u13) trivial a2 ⟨rfl,rfl,r4,r5,r7,rfl⟩ a3 a4 ?_,a4⟩;rw[a5];exact h.tr.unlock ht hq hl
variable {kind:Int}
theorem Wy(hn:n≤64)(hs:B9 n BQ (AG [1,n,n]) r s)(h:Fs n g s)(ht:t<n)(hp:g.P t=.s2)(h1:kind≠1)(h2:kind≠2) :
  ∃ s',B9 n BQ (AG [1,n,n]) (r.op kind t late) s'∧Fs n ⟨A4 g.P t .s4,A4 g.L t 1,g.own,g.c,BD g.m 1 t 0⟩ s'∧s'.act=A4 s.act t 1:=by
 have hi:=h.is t ht;rw[hp]at hi;obtain⟨hact,hl,r3,r4,r5,r7,hc⟩:=hi;obtain⟨s',a1,a2,a3,a4,a5⟩:=hs.acc (late:=late) h.W ht (.inl hact) h1 h2 hc rfl 1 t (g.m 1 t) _ rfl rfl ht (by omega) rfl rfl
  (wr:=some 0) (c':=⟨[0,t,t+1,1,r4,r5,0,r7],4⟩) (ms:=[]) (done := -1) (wrote:=1) (stay:=0) (fun l a=>by cases l<;>kernel_rfl) (by rw[hact];rfl)
 have a4':s'.act=A4 s.act t 1:=by rw[AP hact];exact a4
 refine⟨s',a1,MW h ht (by rw[hp];trivial) (p:=.s4) (m':=BD g.m 1 t 0) trivial rfl (fun u hu=>?_) (fun h=>h.elim) (fun _=>?_) a2 ⟨rfl,rfl,r4,r5,r7,rfl⟩ a3 a4' ?_,a4'⟩
 ·rw[CV,Bo _ _ _ (by decide),Ax _ _ hu];exact⟨rfl,rfl⟩
 ·rw[CV,Ak]
 ·rw[AP hl];exact a5▸h.tr
theorem Wz(hn:n≤64)(hs:B9 n BQ (AG [1,n,n]) r s)(h:Fs n g s)(ht:t<n)(hp:g.P t=.s4)(h1:kind≠1)(h2:kind≠2) :
  ∃ s',B9 n BQ (AG [1,n,n]) (r.op kind t late) s'∧Fs n ⟨A4 g.P t .s5,A4 g.L t 1,g.own,g.c,BD g.m 2 t 1⟩ s'∧s'.act=A4 s.act t 1:=by
 have hi:=h.is t ht;rw[hp]at hi;obtain⟨hact,hl,r4,r5,r7,hc⟩:=hi;obtain⟨s',a1,a2,a3,a4,a5⟩:=hs.acc (late:=late) h.W ht (.inl hact) h1 h2 hc rfl 2 t (g.m 2 t) _ rfl rfl ht (by omega) rfl rfl
  (wr:=some 1) (c':=⟨[0,t,t+1,1,r4,r5,0,r7],5⟩) (ms:=[]) (done := -1) (wrote:=1) (stay:=0) (fun l a=>by cases l<;>kernel_rfl) (by rw[hact];rfl)
 have a4':s'.act=A4 s.act t 1:=by rw[AP hact];exact a4
 refine⟨s',a1,MW h ht (by rw[hp];trivial) (p:=.s5) (m':=BD g.m 2 t 1) trivial rfl (fun u hu=>?_) (fun _=>?_) (fun _=>?_) a2 ⟨rfl,rfl,r4,r5,r7,rfl⟩ a3 a4' ?_,a4'⟩
 ·rw[CV,Bo _ _ _ (by decide),Ax _ _ hu];exact⟨rfl,rfl⟩
 ·rw[CV,Ak]
 ·rw[Bo _ _ _ (by decide)];exact h.nil t ht (by rw[hp];trivial)
 ·rw[AP hl];exact a5▸h.tr
theorem Tm{p:Nat}(h:p<64):(p+1+4294967295)%Bn=p:=by unfold Bn;omega
theorem Vw(h:Fs n g s)(ho:(g.P t).out):t∉g.q:=fun hm=>Hn h ho (by unfold JM.q at hm;split at hm;exact List.mem_of_mem_tail hm;exact hm)
theorem Jz(h:Fs n g s)(ho:g.own=false):∀ u,u<n→K6 (g.L u)=false:=fun u hu=>by
 have hi:=h.is u hu;by_cases hc:u∈g.c
 ·rcases Oo h hc with ⟨q,_,e,_⟩ |⟨q,_,_,_,_,e,_⟩ |⟨x,q,_,_,_,_,_,e |⟨p,e,_⟩⟩
  ·rw[ho]at e;cases e
  ·rw[e]at hi;rw[hi.2.1];rfl
  ·rw[e]at hi;rw[hi.2.1];rfl
  ·rw[e]at hi;rw[hi.2.1];rfl
 ·have hf:=h.free u hu hc;cases e:g.P u<;>rw[e]at hi hf
  case idle=>rcases hi.2.1 with e |e<;>rw[e]<;>rfl
  case s2=>rw[hi.2.1];rfl
  case s4=>rw[hi.2.1];rfl
  case s5=>rw[hi.2.1];rfl
  all_goals exact hf.elim
theorem WA(hn:n≤64)(hs:B9 n BQ (AG [1,n,n]) r s)(h:Fs n g s)(ht:t<n)(hp:g.P t=.s5)(h1:kind≠1)(h2:kind≠2) :
  ∃ s',B9 n BQ (AG [1,n,n]) (r.op kind t late) s'∧(g.c=[]∧Fs n ⟨A4 g.P t .hold,A4 g.L t 5,true,[t],BD g.m 0 0 (t+1)⟩ s'∧s'.act=A4 s.act t 2 ∨
   ∃ x q,g.c=x::q∧Fs n ⟨A4 g.P t (.lk (CE x q)),A4 g.L t 2,g.own,g.c++[t],BD g.m 0 0 (t+1)⟩ s'∧s'.act=A4 s.act t 1):=by
 have hi:=h.is t ht;rw[hp]at hi;obtain⟨hact,hl,r4,r5,r7,hc⟩:=hi;have hout:(g.P t).out:=by rw[hp];trivial
 have hnc:=Hn h hout;have hnq:=Vw h hout;have hfl:=h.fl t ht (by rw[hp];trivial);have hnil:=h.nil t ht (by rw[hp];trivial);have hch:=h.ch;have m1:BD g.m 0 0 (t+1) 1=g.m 1:=Bo _ _ _ (by decide);have m2:BD g.m 0 0 (t+1) 2=g.m 2:=Bo _ _ _ (by decide);have m0:BD g.m 0 0 (t+1) 0 0=t+1:=by rw[CV,Ak]
 unfold JM.chain at hch;cases ec:g.c with
 |nil =>
  rw[ec]at hch;obtain⟨hm,hown⟩:=hch;obtain⟨s',a1,a2,a3,a4,a5⟩:=hs.acc (late:=late) h.W ht (.inl hact) h1 h2 hc rfl 0 0 0 _ rfl rfl (by show 0<1;decide) (by decide) hm rfl
   (wr:=some (t+1)) (c':=⟨[0,t,t+1,1,0,r5,0,r7],12⟩) (ms:=[1,2]) (done:=1) (wrote:=1) (stay:=0) (fun l a=>by cases l<;>kernel_rfl) (by rw[hact];rfl)
  refine⟨s',a1,.inl ⟨rfl,?_,a4⟩⟩;have hq0:g.q=[]:=by unfold JM.q;rw[ec,hown];rfl
  have T1:=h.tr.enq ht hnq hl;rw[hq0]at T1;have T2:=T1.Mr ht (by simp) (Ak _ _ _) (fun u hu=>by
   by_cases e:u=t
   ·rw[e,Ak];rfl
   ·rw[Ax _ _ e];exact Jz h hown u hu)
  have T3:=T2.EY ht (by simp) (Ak _ _ _);rw[DC,DC]at T3;refine⟨a2,?_,by simp,fun u hu=>by rw[List.mem_singleton.1 hu];exact ht,?_,fun u hu hf hx=>?_,fun u hu hf=>?_,fun u hu hx=>?_,?_⟩
  ·rw[a3,a4];exact EE h.is .hold 2 _ 5 ⟨rfl,rfl,0,r5,r7,rfl⟩
  ·refine⟨m0,?_,?_⟩
   ·show BD g.m 0 0 (t+1) 1 t=0;rw[m1];exact hnil
   ·rw[if_pos rfl];show MK.own _ _ (A4 g.P t .hold t);rw[Ak];trivial
  ·show BD g.m 0 0 (t+1) 2 u=1
   rw[m2];by_cases e:u=t
   ·subst e;exact absurd hf (by show ¬(A4 g.P u MK.hold u).fl;rw[Ak];exact id)
   ·exact h.fl u hu (by have:(A4 g.P t MK.hold u).fl:=hf;rwa [Ax _ _ e]at this) (.inr (by rw[ec];simp))
  ·show BD g.m 0 0 (t+1) 1 u=0
   rw[m1];by_cases e:u=t
   ·subst e;exact hnil
   ·exact h.nil u hu (by have:(A4 g.P t MK.hold u).nil:=hf;rwa [Ax _ _ e]at this)
  ·have e:u≠t:=fun e=>hx (by show u∈[t];simp[e])
   show(A4 g.P t MK.hold u).out
   rw[Ax _ _ e];exact h.free u hu (by rw[ec];simp)
  ·rw[a5];exact T3
 |cons x q =>
  have hch0:=hch;rw[ec]at hch;dsimp only at hch;obtain⟨hm,hlk,hrest⟩:=hch;have hlt:CE x q<n:=by
   rcases FQ q x with ⟨e,_⟩ |e
   ·rw[e];exact h.lt x (by rw[ec];simp)
   ·exact h.lt _ (by rw[ec];simp[e])
  have hnx:t≠x:=fun e=>hnc (by rw[ec,e];simp)
  have hnq':t∉q:=fun e=>hnc (by rw[ec];simp[e])
  have hsn:=Mp (P:=A4 g.P t (.lk (CE x q))) (nx:=g.m 1) (t:=t) q x (DT q x (fun u hu=>Ax _ _ (fun e=>hnq' (e▸hu))) (fun _ _=>rfl) hlk) (Ak _ _ _) hnil;have hlast:=HP t q x;have hq:g.q++[t]=(if g.own=true then (g.c++[t]).tail else g.c++[t]):=by
   unfold JM.q;rw[ec];split<;>rfl
  obtain⟨p,hpp⟩:∃ p,CE x q=p:=⟨_,rfl⟩
  rw[hpp]at hm hlt hsn;have hdec:=Tm (p:=p) (by omega);have ee:∀ (l:Bool) (a:Nat),Is BQ t ⟨[0,t,t+1,1,r4,r5,0,r7],5⟩ l (p+1) (decide (p+1=t+1)) a=(some (t+1),⟨[0,t,t+1,1,(p+1+4294967295)%Bn,r5,0,r7],9⟩,⟨[1],-1,a,1,0,0⟩):=fun l a=>by cases l<;>kernel_rfl
  rw[hdec]at ee;obtain⟨s',a1,a2,a3,a4,a5⟩:=hs.acc (late:=late) h.W ht (.inl hact) h1 h2 hc rfl 0 0 (p+1) _ rfl rfl (by show 0<1;decide) (by decide) hm rfl ee (by rw[hact];rfl);have a4':s'.act=A4 s.act t 1:=by rw[AP hact];exact a4
  refine⟨s',a1,.inr ⟨x,q,rfl,?_,a4'⟩⟩;rw[hpp];refine⟨a2,?_,?_,?_,?_,fun u hu hf hx=>?_,fun u hu hf=>?_,fun u hu hx=>?_,?_⟩
  ·rw[a3,a4'];exact EE h.is (.lk p) 1 _ 2 ⟨rfl,rfl,r5,r7,rfl⟩
  ·show(x::q++[t]).Nodup
   have hnd:=h.nd;rw[ec]at hnd;rw[List.nodup_append];exact⟨hnd,by simp,fun a ha b hb=>by rw[List.mem_singleton.1 hb];exact fun e=>hnc (by rw[ec];exact e▸ha)⟩
  ·intro u hu;have hu':u∈x::q++[t]:=hu;rcases List.mem_append.1 hu' with hu |hu
   ·exact h.lt u (by rw[ec];exact hu)
   ·rw[List.mem_singleton.1 hu];exact ht
  ·show JM.chain ⟨A4 g.P t (.lk p),_,g.own,x::q++[t],_⟩
   refine⟨?_,?_,?_⟩
   ·exact m0.trans (congrArg (·+1) hlast.symm)
   ·show Eh (A4 g.P t (.lk p)) (BD g.m 0 0 (t+1) 1) x (q++[t])
    rw[m1];exact hsn
   ·show if g.own=true then (A4 g.P t (.lk p) x).own (A4 g.P t (.lk p)) (q++[t]) else A4 g.P t (.lk p) x=.wt∧BD g.m 0 0 (t+1) 2 x=0
    rw[m2,Ax _ _ (fun e=>hnx e.symm)];split
    ·rename_i e;rw[if_pos e]at hrest
     have:=IU (P':=A4 g.P t (.lk p)) (fun u hu=>Ax _ _ (fun e=>hnq' (e▸hu))) hrest
     revert this
     cases g.P x<;>intro hk
     case u19=>exact fun e=>by simp at e
     case u21 v=>obtain⟨b1,q',b2⟩:=hk;exact⟨b1,q'++[t],by rw[b2];rfl⟩
     all_goals exact hk
    ·rename_i e;rw[if_neg e]at hrest;exact hrest
  ·show BD g.m 0 0 (t+1) 2 u=1
   rw[m2];have hx':g.own=true∨(x::q++[t]).head?≠some u:=hx;by_cases e:u=t
   ·subst e;exact hfl (by rw[ec];rcases hx' with e |e;exact .inl e;exact .inr (by simpa using e))
   ·exact h.fl u hu (by have:(A4 g.P t (MK.lk p) u).fl:=hf;rwa [Ax _ _ e]at this) (by rw[ec];rcases hx' with e |e;exact .inl e;exact .inr (by simpa using e))
  ·show BD g.m 0 0 (t+1) 1 u=0
   rw[m1];by_cases e:u=t
   ·subst e;exact hnil
   ·exact h.nil u hu (by have:(A4 g.P t (MK.lk p) u).nil:=hf;rwa [Ax _ _ e]at this)
  ·have hx':u∉x::q++[t]:=hx;have e:u≠t:=fun e=>hx' (by simp[e])
   show(A4 g.P t (MK.lk p) u).out
   rw[Ax _ _ e];exact h.free u hu (by rw[ec];intro hm;exact hx' (List.mem_append_left _ hm))
  ·rw[a5]
   show Cv n _ (A4 g.L t 2) (if g.own=true then (x::q++[t]).tail else x::q++[t])
   rw[ec]at hq;rw[←hq];exact h.tr.enq ht hnq hl
theorem Yb(hn:n≤64)(hs:B9 n BQ (AG [1,n,n]) r s)(h:Fs n g s)(ht:t<n){p:Nat}(hp:g.P t=.lk p)(h1:kind≠1)(h2:kind≠2) :
  ∃ s',B9 n BQ (AG [1,n,n]) (r.op kind t late) s'∧Fs n ⟨A4 g.P t .wt,A4 g.L t 2,g.own,g.c,BD g.m 1 p (t+1)⟩ s'∧s'.act=A4 s.act t 1:=by
 have hi:=h.is t ht;rw[hp]at hi;obtain⟨hact,hl,r5,r7,hc⟩:=hi;have htc:t∈g.c:=Classical.byContradiction fun hc=>by have:=h.free t ht hc;rw[hp]at this;exact this
 obtain⟨x,q,ec,htq,hne,hm,hlk,hpc⟩:∃ x q,g.c=x::q∧t∈q∧t≠x∧g.m 0 0=CE x q+1∧Eh g.P (g.m 1) x q∧p∈g.c:=by
  rcases Oo h htc with ⟨q,_,_,_,_,e⟩ |⟨q,_,_,_,_,e,_⟩ |⟨x,q,b1,b2,b3,b4,b5,e |⟨p',e,b6⟩⟩
  ·rw[hp]at e;exact e.elim
  ·rw[hp]at e;cases e
  ·rw[hp]at e;cases e
  ·rw[hp]at e;cases e;exact⟨x,q,b1,b2,b3,b4,b5,b6⟩
 have hpn:=h.lt p hpc;have hnd:=h.nd;rw[ec]at hnd;obtain⟨k1,k2⟩:=QC q x hnd hlk htq hp;have hch:=h.ch;unfold JM.chain at hch;rw[ec]at hch;obtain⟨_,_,hrest⟩:=hch;obtain⟨s',a1,a2,a3,a4,a5⟩:=hs.acc (late:=late) h.W ht (.inl hact) h1 h2 hc rfl 1 p 0 _ rfl rfl hpn (by omega) k2 rfl
  (wr:=some (t+1)) (c':=⟨[0,t,t+1,1,p,r5,0,r7],10⟩) (ms:=[]) (done := -1) (wrote:=1) (stay:=0) (fun l a=>by cases l<;>kernel_rfl) (by rw[hact];rfl)
 have a4':s'.act=A4 s.act t 1:=by rw[AP hact];exact a4
 have m1:BD g.m 1 p (t+1) 1=A4 (g.m 1) p (t+1):=CV _ _ _ _;have m2:BD g.m 1 p (t+1) 2=g.m 2:=Bo _ _ _ (by decide);have m0:BD g.m 1 p (t+1) 0=g.m 0:=Bo _ _ _ (by decide);refine⟨s',a1,⟨a2,?_,h.nd,h.lt,?_,fun u hu hf hx=>?_,fun u hu hf=>?_,fun u hu hx=>?_,?_⟩,a4'⟩
 ·rw[a3,a4'];exact EE h.is .wt 1 _ 2 ⟨rfl,rfl,p,r5,r7,rfl⟩
 ·rw[ec];refine⟨?_,?_,?_⟩
  ·show BD g.m 1 p (t+1) 0 0=_;rw[m0];exact hm
  ·show Eh (A4 g.P t .wt) (BD g.m 1 p (t+1) 1) x q;rw[m1];exact k1
  ·show if g.own=true then (A4 g.P t .wt x).own (A4 g.P t .wt) q else A4 g.P t .wt x=.wt∧BD g.m 1 p (t+1) 2 x=0
   rw[m2,Ax _ _ (fun e=>hne e.symm)];split
   ·rename_i e;rw[if_pos e]at hrest;exact Xl hrest
   ·rename_i e;rw[if_neg e]at hrest;exact hrest
 ·show BD g.m 1 p (t+1) 2 u=1
  rw[m2];by_cases e:u=t
  ·subst e;exact h.fl u hu (by rw[hp];trivial) hx
  ·exact h.fl u hu (by have:(A4 g.P t MK.wt u).fl:=hf;rwa [Ax _ _ e]at this) hx
 ·show BD g.m 1 p (t+1) 1 u=0
  rw[m1];by_cases e:u=t
  ·subst e;exact absurd hf (by show ¬(A4 g.P u MK.wt u).nil;rw[Ak];exact id)
  ·have hf':(g.P u).nil:=by have:(A4 g.P t MK.wt u).nil:=hf;rwa [Ax _ _ e]at this
   have hup:u≠p:=fun e=>Hn h (t:=u) (by revert hf';cases g.P u<;>intro hf'<;>first |trivial |exact hf'.elim) (e▸hpc)
   rw[Ax _ _ hup];exact h.nil u hu hf'
 ·have e:u≠t:=fun e=>hx (e▸htc)
  show(A4 g.P t MK.wt u).out
  rw[Ax _ _ e];exact h.free u hu hx
 ·show Cv n s'.tr (A4 g.L t 2) g.q
  rw[AP hl];exact a5▸h.tr
theorem QF(h:Fs n g s)(ht:t<n){c:CoreM}(W:Wd [1,n,n] s'.words g.m)(is':(g.P t).is t (s.act t) c (g.L t))(hc:s'.core=A4 s.core t c)(ha:s'.act=s.act)(tr:s'.tr=s.tr):Fs n g s':=by
 refine⟨W,?_,h.nd,h.lt,h.ch,h.fl,h.nil,h.free,by rw[tr];exact h.tr⟩;have:=EE (t:=t) h.is (g.P t) (s.act t) c (g.L t) is';rw[AP (f:=g.P) rfl,AP (f:=s.act) rfl,AP (f:=g.L) rfl]at this;rw[hc,ha];exact this
theorem Tn(hn:n≤64)(hs:B9 n BQ (AG [1,n,n]) r s)(h:Fs n g s)(ht:t<n)(hp:g.P t=.wt){q:List Nat}(ec:g.c=t::q)(hown:g.own=false)(hm:g.m 2 t=0)(h1:kind≠1)(h2:kind≠2) :
  ∃ s',B9 n BQ (AG [1,n,n]) (r.op kind t late) s'∧Fs n ⟨A4 g.P t .hold,A4 g.L t 5,true,g.c,g.m⟩ s'∧s'.act=A4 s.act t 2:=by
 have hi:=h.is t ht;rw[hp]at hi;obtain⟨hact,hl,r4,r5,r7,hc⟩:=hi;obtain⟨s',a1,a2,a3,a4,a5⟩:=hs.acc (late:=late) h.W ht (.inl hact) h1 h2 hc rfl 2 t 0 _ rfl rfl ht (by omega) hm rfl
  (wr:=none) (c':=⟨[0,t,t+1,1,r4,0,0,r7],12⟩) (ms:=[2]) (done:=1) (wrote:=0) (stay:=0) (fun l a=>by cases l<;>kernel_rfl) (by rw[hact];rfl)
 have hnd:=h.nd;rw[ec]at hnd;have hnd:=List.nodup_cons.1 hnd;have hch:=h.ch;unfold JM.chain at hch;rw[ec]at hch;obtain⟨hm0,hlk,_⟩:=hch;have T0:=h.tr;have hq:g.q=t::q:=by unfold JM.q;rw[hown,ec];rfl
 rw[hq]at T0;have T1:=T0.Mr ht hnd.1 hl (Jz h hown);have T2:=T1.EY ht hnd.1 (Ak _ _ _);rw[DC]at T2;have hne:∀ u∈q,A4 g.P t .hold u=g.P u:=fun u hu=>Ax _ _ (fun e=>hnd.1 (e▸hu))
 refine⟨s',a1,⟨a2,?_,h.nd,h.lt,?_,fun u hu hf hx=>?_,fun u hu hf=>?_,fun u hu hx=>?_,?_⟩,a4⟩
 ·rw[a3,a4];exact EE h.is .hold 2 _ 5 ⟨rfl,rfl,r4,0,r7,rfl⟩
 ·rw[ec];refine⟨hm0,DT q t hne (fun _ _=>rfl) hlk,?_⟩;rw[if_pos rfl]
  show(A4 g.P t .hold t).own _ _
  rw[Ak];trivial
 ·by_cases e:u=t
  ·subst e;exact absurd hf (by show ¬(A4 g.P u MK.hold u).fl;rw[Ak];exact id)
  ·exact h.fl u hu (by have:(A4 g.P t MK.hold u).fl:=hf;rwa [Ax _ _ e]at this) (.inr (by rw[ec];simpa using fun e'=>e e'.symm))
 ·by_cases e:u=t
  ·subst e;exact absurd hf (by show ¬(A4 g.P u MK.hold u).nil;rw[Ak];exact id)
  ·exact h.nil u hu (by have:(A4 g.P t MK.hold u).nil:=hf;rwa [Ax _ _ e]at this)
 ·have e:u≠t:=fun e=>hx (by show u∈g.c;rw[ec,e];simp)
  show(A4 g.P t MK.hold u).out
  rw[Ax _ _ e];exact h.free u hu hx
 ·rw[a5]
  show Cv n _ (A4 g.L t 5) (if true=true then g.c.tail else g.c)
  rw[if_pos rfl,ec];exact T2
theorem Vx(hn:n≤64)(hs:B9 n BQ (AG [1,n,n]) r s)(h:Fs n g s)(ht:t<n)(hp:g.P t=.wt)(hm:g.m 2 t=1)(h1:kind≠1)(h2:kind≠2) :
  ∃ s',B9 n BQ (AG [1,n,n]) (r.op kind t late) s'∧Fs n g s'∧s'.act=s.act:=by
 have hi:=h.is t ht;rw[hp]at hi;obtain⟨hact,hl,r4,r5,r7,hc⟩:=hi;obtain⟨s',a1,a2,a3,a4,a5⟩:=hs.acc (late:=late) h.W ht (.inl hact) h1 h2 hc rfl 2 t 1 _ rfl rfl ht (by omega) hm rfl
  (wr:=none) (c':=⟨[0,t,t+1,1,r4,1,0,r7],10⟩) (ms:=[]) (done := -1) (wrote:=0) (stay:=1) (fun l a=>by cases l<;>kernel_rfl) (by rw[hact];rfl)
 exact⟨s',a1,QF h ht a2 (by rw[hp];exact⟨hact,hl,r4,1,r7,rfl⟩) a3 a4 a5,a4⟩
theorem QG(h:Fs n g s){q:List Nat}(hlk:Eh g.P (g.m 1) t q):g.m 1 t=0∧(∀ v q',q=v::q'→g.P v≠.wt)∨∃ v q',q=v::q'∧g.P v=.wt∧g.m 1 t=v+1:=by
 cases q with
 |nil=>exact .inl ⟨hlk,fun v q' e=>by cases e⟩
 |cons v q' =>
  rcases hlk.1 with h1 |h1
  ·exact .inr ⟨v,q',rfl,h1⟩
  ·exact .inl ⟨h1.2,fun v q' e=>by cases e;rw[h1.1];exact fun e=>by cases e⟩
theorem To(hn:n≤64)(hs:B9 n BQ (AG [1,n,n]) r s)(h:Fs n g s)(ht:t<n)(hp:g.P t=.u13)(h1:kind≠1)(h2:kind≠2) :
  ∃ s' k,B9 n BQ (AG [1,n,n]) (r.op kind t late) s'∧Fs n {g with P:=A4 g.P t k,L:=A4 g.L t 8} s'∧s'.act=A4 s.act t 3∧(k=.u15∨∃ v,k=.u21 v)∧(g.c=[t]→k=.u15):=by
 have hi:=h.is t ht;rw[hp]at hi;obtain⟨hact,hl,r4,r5,r7,hc⟩:=hi;obtain⟨q,e1,e2,e3,e4,e5⟩:=Ir h ht (by rw[hp];exact id) (by rw[hp];exact fun e=>by cases e) (by rw[hp];exact fun p e=>by cases e);have hL:A4 g.L t 8=g.L:=AP hl;rcases QG h e4 with ⟨m0,_⟩ |⟨v,q',rfl,b1,b2⟩
 ·obtain⟨s',a1,a2,a3,a4,a5⟩:=hs.acc (late:=late) h.W ht (.inr hact) h1 h2 hc rfl 1 t 0 _ rfl rfl ht (by omega) m0 rfl
   (wr:=none) (c':=⟨[0,t,t+1,1,0,r5,0,r7],15⟩) (ms:=[]) (done := -1) (wrote:=0) (stay:=0) (fun l a=>by cases l<;>kernel_rfl) (by rw[hact];rfl)
  have a4':s'.act=A4 s.act t 3:=by rw[AP hact];exact a4
  exact⟨s',.u15,a1,Oq h ht e1 e2 (k:=.u15) trivial a2 ⟨rfl,rfl,0,r5,r7,rfl⟩ a3 a4' (by rw[hL];exact a5▸h.tr),a4',.inl rfl,fun _=>rfl⟩
 ·have hv:=h.lt v (by rw[e1];simp);have hdec:=Tm (p:=v) (by omega);have ee:∀ (l:Bool) (a:Nat),Is BQ t ⟨[0,t,t+1,1,r4,r5,0,r7],13⟩ l (v+1) (decide (v+1=0)) a=(none,⟨[0,t,t+1,1,(v+1+4294967295)%Bn,r5,0,r7],21⟩,⟨[],-1,a,0,0,0⟩):=fun l a=>by cases l<;>kernel_rfl
  rw[hdec]at ee;obtain⟨s',a1,a2,a3,a4,a5⟩:=hs.acc (late:=late) h.W ht (.inr hact) h1 h2 hc rfl 1 t (v+1) _ rfl rfl ht (by omega) b2 rfl ee (by rw[hact];rfl);have a4':s'.act=A4 s.act t 3:=by rw[AP hact];exact a4
  exact⟨s',.u21 v,a1,Oq h ht e1 e2 (k:=.u21 v) ⟨b1,q',rfl⟩ a2 ⟨rfl,rfl,r5,r7,rfl⟩ a3 a4' (by rw[hL];exact a5▸h.tr),a4',.inr ⟨v,rfl⟩,fun e=>by rw[e1]at e;cases e⟩
theorem Xm(hn:n≤64)(hs:B9 n BQ (AG [1,n,n]) r s)(h:Fs n g s)(ht:t<n)(hp:g.P t=.u19)(h1:kind≠1)(h2:kind≠2) :
  ∃ s',B9 n BQ (AG [1,n,n]) (r.op kind t late) s'∧((∃ v,Fs n {g with P:=A4 g.P t (.u21 v),L:=A4 g.L t 8} s'∧s'.act=A4 s.act t 3)∨(Fs n g s'∧s'.act=s.act∧∃ v q,g.c=t::v::q∧g.P v≠.wt)):=by
 have hi:=h.is t ht;rw[hp]at hi;obtain⟨hact,hl,r4,r5,r7,hc⟩:=hi;obtain⟨q,e1,e2,e3,e4,e5⟩:=Ir h ht (by rw[hp];exact id) (by rw[hp];exact fun e=>by cases e) (by rw[hp];exact fun p e=>by cases e);rw[hp]at e5;have hL:A4 g.L t 8=g.L:=AP hl;rcases QG h e4 with ⟨m0,m1⟩ |⟨v,q',rfl,b1,b2⟩
 ·obtain⟨s',a1,a2,a3,a4,a5⟩:=hs.acc (late:=late) h.W ht (.inr hact) h1 h2 hc rfl 1 t 0 _ rfl rfl ht (by omega) m0 rfl
   (wr:=none) (c':=⟨[0,t,t+1,1,0,r5,0,r7],19⟩) (ms:=[]) (done := -1) (wrote:=0) (stay:=1) (fun l a=>by cases l<;>kernel_rfl) (by rw[hact];rfl)
  refine⟨s',a1,.inr ⟨QF h ht a2 (by rw[hp];exact⟨hact,hl,0,r5,r7,rfl⟩) a3 a4 a5,a4,?_⟩⟩;cases q with
  |nil=>exact absurd rfl e5
  |cons v q=>exact⟨v,q,e1,m1 v q rfl⟩
 ·have hv:=h.lt v (by rw[e1];simp);have hdec:=Tm (p:=v) (by omega);have ee:∀ (l:Bool) (a:Nat),Is BQ t ⟨[0,t,t+1,1,r4,r5,0,r7],19⟩ l (v+1) (decide (v+1=0)) a=(none,⟨[0,t,t+1,1,(v+1+4294967295)%Bn,r5,0,r7],21⟩,⟨[],-1,a,0,0,0⟩):=fun l a=>by cases l<;>kernel_rfl
  rw[hdec]at ee;obtain⟨s',a1,a2,a3,a4,a5⟩:=hs.acc (late:=late) h.W ht (.inr hact) h1 h2 hc rfl 1 t (v+1) _ rfl rfl ht (by omega) b2 rfl ee (by rw[hact];rfl);have a4':s'.act=A4 s.act t 3:=by rw[AP hact];exact a4
  exact⟨s',a1,.inl ⟨v,Oq h ht e1 e2 (k:=.u21 v) ⟨b1,q',rfl⟩ a2 ⟨rfl,rfl,r5,r7,rfl⟩ a3 a4' (by rw[hL];exact a5▸h.tr),a4'⟩⟩
theorem Tp(hn:n≤64)(hs:B9 n BQ (AG [1,n,n]) r s)(h:Fs n g s)(ht:t<n)(hp:g.P t=.u15)(h1:kind≠1)(h2:kind≠2) :
  ∃ s',B9 n BQ (AG [1,n,n]) (r.op kind t late) s'∧(g.c=[t]∧Fs n ⟨A4 g.P t .idle,A4 g.L t 10,false,[],BD g.m 0 0 0⟩ s'∧s'.act=A4 s.act t 0 ∨
   g.c≠[t]∧Fs n {g with P:=A4 g.P t .u19,L:=A4 g.L t 8} s'∧s'.act=A4 s.act t 3):=by
 have hi:=h.is t ht;rw[hp]at hi;obtain⟨hact,hl,r4,r5,r7,hc⟩:=hi;obtain⟨q,e1,e2,e3,e4,e5⟩:=Ir h ht (by rw[hp];exact id) (by rw[hp];exact fun e=>by cases e) (by rw[hp];exact fun p e=>by cases e);have hL:A4 g.L t 8=g.L:=AP hl;have hnd:=h.nd;rw[e1]at hnd;have hnd:=List.nodup_cons.1 hnd;rcases FQ q t with ⟨b1,rfl⟩ |b1
 ·rw[b1]at e3;obtain⟨s',a1,a2,a3,a4,a5⟩:=hs.acc (late:=late) h.W ht (.inr hact) h1 h2 hc rfl 0 0 (t+1) true rfl rfl (by show 0<1;decide) (by decide) e3 (decide_eq_true rfl)
   (wr:=some 0) (c':=⟨[0,t,t+1,1,r4,1,0,r7],18⟩) (ms:=[4]) (done:=2) (wrote:=1) (stay:=0) (fun l a=>by cases l<;>kernel_rfl) (by rw[hact];rfl)
  have hq0:g.q=[]:=by unfold JM.q;rw[e1,e2];rfl
  have T1:=h.tr.release ht (by rw[hq0];simp) hl;have T2:=T1.over ht (by rw[hq0];simp) (Ak _ _ _);rw[DC,hq0]at T2;have m1:BD g.m 0 0 0 1=g.m 1:=Bo _ _ _ (by decide);have m2:BD g.m 0 0 0 2=g.m 2:=Bo _ _ _ (by decide);refine⟨s',a1,.inl ⟨e1,⟨a2,?_,by simp,(fun u hu=>by cases hu),?_,fun u hu hf hx=>?_,fun u hu hf=>?_,fun u hu hx=>?_,?_⟩,a4⟩⟩
  ·rw[a3,a4];exact EE h.is .idle 0 _ 10 ⟨rfl,.inr rfl,t,t+1,1,r4,1,r7,18,rfl⟩
  ·exact⟨by show BD g.m 0 0 0 0 0=0;rw[CV,Ak],rfl⟩
  ·show BD g.m 0 0 0 2 u=1
   rw[m2];by_cases e:u=t
   ·subst e;exact absurd hf (by show ¬(A4 g.P u MK.idle u).fl;rw[Ak];exact id)
   ·exact h.fl u hu (by have:(A4 g.P t MK.idle u).fl:=hf;rwa [Ax _ _ e]at this) (.inl e2)
  ·show BD g.m 0 0 0 1 u=0
   rw[m1];by_cases e:u=t
   ·subst e;exact absurd hf (by show ¬(A4 g.P u MK.idle u).nil;rw[Ak];exact id)
   ·exact h.nil u hu (by have:(A4 g.P t MK.idle u).nil:=hf;rwa [Ax _ _ e]at this)
  ·show(A4 g.P t MK.idle u).out
   by_cases e:u=t
   ·subst e;rw[Ak];trivial
   ·rw[Ax _ _ e];exact h.free u hu (by rw[e1];simpa using e)
  ·rw[a5];exact T2
 ·have hne:CE t q≠t:=fun e=>hnd.1 (e▸b1)
  have hqne:q≠[]:=fun e=>by rw[e]at b1;cases b1
  obtain⟨s',a1,a2,a3,a4,a5⟩:=hs.acc (late:=late) h.W ht (.inr hact) h1 h2 hc rfl 0 0 (CE t q+1) false rfl rfl (by show 0<1;decide) (by decide) e3 (decide_eq_false (fun e=>hne (Nat.succ.inj e)))
   (wr:=none) (c':=⟨[0,t,t+1,1,r4,0,0,r7],19⟩) (ms:=[]) (done := -1) (wrote:=0) (stay:=0) (fun l a=>by cases l<;>kernel_rfl) (by rw[hact];rfl)
  have a4':s'.act=A4 s.act t 3:=by rw[AP hact];exact a4
  exact⟨s',a1,.inr ⟨by rw[e1];exact fun e=>hqne (List.cons.inj e).2,Oq h ht e1 e2 (k:=.u19) hqne a2 ⟨rfl,rfl,r4,0,r7,rfl⟩ a3 a4' (by rw[hL];exact a5▸h.tr),a4'⟩⟩
theorem Xn(hn:n≤64)(hs:B9 n BQ (AG [1,n,n]) r s)(h:Fs n g s)(ht:t<n){v:Nat}(hp:g.P t=.u21 v)(h1:kind≠1)(h2:kind≠2) :
  ∃ s' q',B9 n BQ (AG [1,n,n]) (r.op kind t late) s'∧Fs n ⟨A4 g.P t .idle,A4 g.L t 10,false,q',BD g.m 2 v 0⟩ s'∧s'.act=A4 s.act t 0:=by
 have hi:=h.is t ht;rw[hp]at hi;obtain⟨hact,hl,r5,r7,hc⟩:=hi;obtain⟨q,e1,e2,e3,e4,e5⟩:=Ir h ht (by rw[hp];exact id) (by rw[hp];exact fun e=>by cases e) (by rw[hp];exact fun p e=>by cases e);rw[hp]at e5;obtain⟨hw,q',rfl⟩:=e5;have hnd:=h.nd;rw[e1]at hnd;have hnd:=List.nodup_cons.1 hnd;have hnd2:=List.nodup_cons.1 hnd.2;have hvt:v≠t:=fun e=>hnd.1 (by rw[e];simp)
 have hv:=h.lt v (by rw[e1];simp);obtain⟨s',a1,a2,a3,a4,a5⟩:=hs.acc (late:=late) h.W ht (.inr hact) h1 h2 hc rfl 2 v (g.m 2 v) _ rfl rfl hv (by omega) rfl rfl
  (wr:=some 0) (c':=⟨[0,t,t+1,1,v,r5,0,r7],23⟩) (ms:=[4]) (done:=2) (wrote:=1) (stay:=0) (fun l a=>by cases l<;>kernel_rfl) (by rw[hact];rfl)
 have hq:g.q=v::q':=by unfold JM.q;rw[e1,e2];rfl
 have T1:=h.tr.release ht (by rw[hq];exact hnd.1) hl;have T2:=T1.over ht (by rw[hq];exact hnd.1) (Ak _ _ _);rw[DC,hq]at T2;have m0:BD g.m 2 v 0 0=g.m 0:=Bo _ _ _ (by decide);have m1:BD g.m 2 v 0 1=g.m 1:=Bo _ _ _ (by decide);have m2:BD g.m 2 v 0 2=A4 (g.m 2) v 0:=CV _ _ _ _;refine⟨s',v::q',a1,⟨a2,?_,hnd.2,fun u hu=>h.lt u (by rw[e1];exact List.mem_cons_of_mem _ hu),?_,fun u hu hf hx=>?_,fun u hu hf=>?_,fun u hu hx=>?_,?_⟩,a4⟩
 ·rw[a3,a4];exact EE h.is .idle 0 _ 10 ⟨rfl,.inr rfl,t,t+1,1,v,r5,r7,23,rfl⟩
 ·refine⟨?_,?_,?_⟩
  ·show BD g.m 2 v 0 0 0=CE v q'+1
   rw[m0];exact e3
  ·show Eh (A4 g.P t .idle) (BD g.m 2 v 0 1) v q'
   rw[m1];exact DT q' v (fun u hu=>Ax _ _ (fun e=>hnd.1 (by rw[←e];exact List.mem_cons_of_mem _ hu))) (fun _ _=>rfl) e4.2
  ·rw[if_neg (by exact fun e=>by cases e)]
   show A4 g.P t .idle v=.wt∧BD g.m 2 v 0 2 v=0
   rw[m2,Ak,Ax _ _ hvt];exact⟨hw,rfl⟩
 ·show BD g.m 2 v 0 2 u=1
  have huv:u≠v:=fun e=>by
   rcases hx with hx |hx
   ·cases hx
   ·exact hx (by rw[e];rfl)
  rw[m2,Ax _ _ huv];by_cases e:u=t
  ·subst e;exact absurd hf (by show ¬(A4 g.P u MK.idle u).fl;rw[Ak];exact id)
  ·exact h.fl u hu (by have:(A4 g.P t MK.idle u).fl:=hf;rwa [Ax _ _ e]at this) (.inl e2)
 ·show BD g.m 2 v 0 1 u=0
  rw[m1];by_cases e:u=t
  ·subst e;exact absurd hf (by show ¬(A4 g.P u MK.idle u).nil;rw[Ak];exact id)
  ·exact h.nil u hu (by have:(A4 g.P t MK.idle u).nil:=hf;rwa [Ax _ _ e]at this)
 ·show(A4 g.P t MK.idle u).out
  have hx':u∉v::q':=hx;by_cases e:u=t
  ·subst e;rw[Ak];trivial
  ·rw[Ax _ _ e];exact h.free u hu (by rw[e1];intro hm;rcases List.mem_cons.1 hm with e' |e';exact e e';exact hx' e')
 ·rw[a5];exact T2
def MX(g:JM)(t:Nat):Prop:=(g.P t=.wt∧¬(g.own=false∧∃ q,g.c=t::q))∨(g.P t=.u19∧∃ v q,g.c=t::v::q∧g.P v≠.wt)
theorem Vy(hn:n≤64)(hs:B9 n BQ (AG [1,n,n]) r s)(h:Fs n g s)(ht:t<n)(ha:s.act t=1∨s.act t=3)(h1:kind≠1)(h2:kind≠2) :
  ∃ s' g',B9 n BQ (AG [1,n,n]) (r.op kind t late) s'∧Fs n g' s' ∧
   ((∃ a,s'.act=A4 s.act t a∧(s.act t=1∧(a=1∨a=2)∨s.act t=3∧(a=3∨a=0))∧US n g'.P<US n g.P)∨(g'=g∧s'.act=s.act∧MX g t)):=by
 have hi:=h.is t ht;have hrk:∀ k:MK,k.rk<(g.P t).rk→US n (A4 g.P t k)<US n g.P:=fun k hk=>by have:=P8 (P:=g.P) ht k;omega
 cases hp:g.P t<;>rw[hp]at hi hrk<;>simp only[MK.is]at hi
 case idle=>omega
 case hold=>omega
 case s2 =>
  obtain⟨s',a1,a2,a3⟩:=Wy (late:=late) hn hs h ht hp h1 h2;exact⟨s',_,a1,a2,.inl ⟨1,a3,.inl ⟨hi.1,.inl rfl⟩,hrk _ (by decide)⟩⟩
 case s4 =>
  obtain⟨s',a1,a2,a3⟩:=Wz (late:=late) hn hs h ht hp h1 h2;exact⟨s',_,a1,a2,.inl ⟨1,a3,.inl ⟨hi.1,.inl rfl⟩,hrk _ (by decide)⟩⟩
 case s5 =>
  obtain⟨s',a1,⟨_,a2,a3⟩ |⟨x,q,_,a2,a3⟩⟩:=WA (late:=late) hn hs h ht hp h1 h2
  ·exact⟨s',_,a1,a2,.inl ⟨2,a3,.inl ⟨hi.1,.inr rfl⟩,hrk _ (by decide)⟩⟩
  ·exact⟨s',_,a1,a2,.inl ⟨1,a3,.inl ⟨hi.1,.inl rfl⟩,hrk _ (by show 7<8;decide)⟩⟩
 case lk p =>
  obtain⟨s',a1,a2,a3⟩:=Yb (late:=late) hn hs h ht hp h1 h2;exact⟨s',_,a1,a2,.inl ⟨1,a3,.inl ⟨hi.1,.inl rfl⟩,hrk _ (by show 6<7;decide)⟩⟩
 case wt =>
  have hc:t∈g.c:=Classical.byContradiction fun hc=>by have:=h.free t ht hc;rw[hp]at this;exact this
  rcases Oo h hc with ⟨q,_,_,_,_,e⟩ |⟨q,b1,b2,_,_,_,b3⟩ |⟨x,q,b1,b2,b3,_⟩
  ·rw[hp]at e;exact e.elim
  ·obtain⟨s',a1,a2,a3⟩:=Tn (late:=late) hn hs h ht hp b1 b2 b3 h1 h2;exact⟨s',_,a1,a2,.inl ⟨2,a3,.inl ⟨hi.1,.inr rfl⟩,hrk _ (by decide)⟩⟩
  ·obtain⟨s',a1,a2,a3⟩:=Vx (late:=late) hn hs h ht hp (h.fl t ht (by rw[hp];trivial) (.inr (by rw[b1];simpa using fun e=>b3 e.symm))) h1 h2;exact⟨s',g,a1,a2,.inr ⟨rfl,a3,.inl ⟨hp,fun⟨_,q',e⟩=>by rw[b1]at e;cases e;exact b3 rfl⟩⟩⟩
 case u13 =>
  obtain⟨s',k,a1,a2,a3,a4,_⟩:=To (late:=late) hn hs h ht hp h1 h2;exact⟨s',_,a1,a2,.inl ⟨3,a3,.inr ⟨hi.1,.inl rfl⟩,hrk _ (by rcases a4 with rfl |⟨v,rfl⟩;decide;show 1<4;decide)⟩⟩
 case u15 =>
  obtain⟨s',a1,⟨_,a2,a3⟩ |⟨_,a2,a3⟩⟩:=Tp (late:=late) hn hs h ht hp h1 h2
  ·exact⟨s',_,a1,a2,.inl ⟨0,a3,.inr ⟨hi.1,.inr rfl⟩,hrk _ (by decide)⟩⟩
  ·exact⟨s',_,a1,a2,.inl ⟨3,a3,.inr ⟨hi.1,.inl rfl⟩,hrk _ (by decide)⟩⟩
 case u19 =>
  obtain⟨s',a1,⟨v,a2,a3⟩ |⟨a2,a3,a4⟩⟩:=Xm (late:=late) hn hs h ht hp h1 h2
  ·exact⟨s',_,a1,a2,.inl ⟨3,a3,.inr ⟨hi.1,.inl rfl⟩,hrk _ (by show 1<2;decide)⟩⟩
  ·exact⟨s',g,a1,a2,.inr ⟨rfl,a3,.inr ⟨hp,a4⟩⟩⟩
 case u21 v =>
  obtain⟨s',q',a1,a2,a3⟩:=Xn (late:=late) hn hs h ht hp h1 h2;exact⟨s',_,a1,a2,.inl ⟨0,a3,.inr ⟨hi.1,.inr rfl⟩,hrk _ (by show 0<1;decide)⟩⟩
end
theorem Vz{n:Nat}(s:LS)(g:JM)(h:Fs n g s)(hs:∀ t,t<n→s.act t=0∨MX g t):∀ t,t<n→s.act t=0:=by
 have hwt:∀ t,t<n→g.P t=.wt→¬(g.own=false∧∃ q,g.c=t::q):=fun t ht e=>by
  have hi:=h.is t ht;rw[e]at hi;rcases hs t ht with a |⟨_,a⟩ |⟨a,_⟩
  ·have:=hi.1;omega
  ·exact a
  ·rw[e]at a;cases a
 have hc:g.c=[]:=by
  cases ec:g.c with
  |nil=>rfl
  |cons x q =>
   exfalso;have hx:=h.lt x (by rw[ec];simp);have hi:=h.is x hx;have hch:=h.ch;unfold JM.chain at hch;rw[ec]at hch;obtain⟨_,hlk,h3⟩:=hch;by_cases ho:g.own=true
   ·rw[if_pos ho]at h3;rcases hs x hx with a |⟨a,_⟩ |⟨a,v,q',e,hv⟩
    ·cases hp:g.P x<;>rw[hp]at hi h3<;>first |exact h3.elim |(have:=hi.1;omega)
    ·rw[a]at h3;exact h3
    ·rw[ec]at e;cases e;have hvn:=h.lt v (by rw[ec];simp);have hiv:=h.is v hvn;rcases hlk.1 with b |b
     ·exact hv b.1
     ·rw[b.1]at hiv;rcases hs v hvn with a |⟨a,_⟩ |⟨a,_⟩
      ·have:=hiv.1;omega
      ·rw[b.1]at a;cases a
      ·rw[b.1]at a;cases a
   ·rw[if_neg ho]at h3;exact hwt x hx h3.1 ⟨by simpa using ho,q,ec⟩
 intro t ht;have hf:=h.free t ht (by rw[hc];simp);rcases hs t ht with a |⟨a,_⟩ |⟨a,_⟩
 ·exact a
 ·rw[a]at hf;exact hf.elim
 ·rw[a]at hf;exact hf.elim
theorem Ka{n:Nat}(hn:n≤64):Fair n 10 BQ (AG [1,n,n]) (Fs n) (fun g=>US n g.P) MX:=by
 refine⟨?_,?_,?_,Vz,?_,fun s g h=>h.tr.ok⟩
 ·intro r s g t late h hi ht ha;obtain⟨s',a1,a2,a3⟩:=QD (late:=late) hn h hi ht ha;exact⟨s',_,a1,a2,a3,by have:=P8 (P:=g.P) ht .s2;simp only[MK.rk]at this;dsimp only;omega⟩
 ·intro r s g t late h hi ht ha;obtain⟨s',hp,a1,a2,a3⟩:=Mq (late:=late) hn h hi ht ha;exact⟨s',_,a1,a2,a3,by have:=P8 (P:=g.P) ht .u13;rw[hp]at this;simp only[MK.rk]at this;dsimp only;omega⟩
 ·intro r s g t kind late h hi ht ha k1 k2;exact Vy hn h hi ht ha k1 k2
 ·intro s g h t ht;have:=h.is t ht;cases hp:g.P t<;>rw[hp]at this<;>have:=this.1<;>omega
def Tq(n:Nat):AM:=AM.new BQ ([1,n,n]) (List.replicate (2*n+1) 0) n 0 (List.replicate n 0)
theorem P9(n:Nat):∃ s0 g0,B9 n BQ (AG [1,n,n]) (AR.new (Tq n) n) s0∧Fs n g0 s0∧(∀ t,t<n→s0.act t=0)∧US n g0.P=0:=by
 refine⟨_,⟨fun _=>.idle,fun _=>0,false,[],fun _ _=>0⟩,B9.new n BQ [1,n,n] (List.replicate (2*n+1) 0) 0 (List.replicate n 0) (by simp),?_,fun _ _=>rfl,D4 n (fun _ _=>rfl)⟩;exact⟨QH _ _ (by simp;omega),fun t ht=>⟨rfl,.inl rfl,0,0,0,0,0,_,0,rfl⟩,List.nodup_nil,fun t ht=>by simp at ht,⟨rfl,rfl⟩,fun t _ hf=>hf.elim,fun t _ hf=>hf.elim,fun t _ _=>trivial,Cv.new n⟩
theorem Tr(n:Nat)(h1:1≤n)(h2:n≤64)(l:List (Int×Int×Int)):FF (Tq n) n l=true:=by
 obtain⟨s0,g0,ha,hi,_⟩:=P9 n;exact(Ka h2).trace h1 h2 l ha hi
theorem RG(n calls:Nat)(h1:1≤n)(h2:n≤64):DA (Tq n) n calls=true:=by
 obtain⟨s0,g0,ha,hi,h0,hr⟩:=P9 n;exact(Ka h2).served h1 h2 (by decide) calls ha hi h0 hr
theorem SX(n:Nat)(h1:1≤n)(h2:n≤64)(l:List (Int×Int×Int))(t:Nat)(ht:t<n):CM (Tq n) 0 n l t 3 2=true:=by
 obtain⟨s0,g0,ha,hi,_⟩:=P9 n;obtain⟨s1,g1,ha,hi⟩:=(Ka h2).ops l _ s0 g0 ha hi;have hr:US n g1.P<5000:=by
  have:US n g1.P≤n*10:=by
   rw[←DY 10 n];exact GK n fun t _=>by cases g1.P t<;>simp[MK.rk]
  omega
 obtain⟨r2,s2,g2,e2,ha,hi,hz⟩:=(Ka h2).fin 5000 _ s1 g1 ha hi hr;have hP:∀ u,u<n→g2.P u=.idle:=fun u hu=>by
  have:=hi.is u hu;have h0:=hz u hu;cases hp:g2.P u<;>rw[hp]at this<;>have:=this.1<;>first |rfl |omega
 have hc:g2.c=[]:=by
  cases e:g2.c with
  |nil=>rfl
  |cons u q =>
   have hm:u∈g2.c:=by rw[e];exact List.mem_cons_self ..
   exact absurd hm (Hn hi (by rw[hP u (hi.lt u hm)];trivial))
 have e0:CM (Tq n) 0 n l t 3 2=(let r:=Cf 3 (r2.op 1 t 0) t;if r.act.getD t 0≠2 then false else let q:=Cf 2 (r.op 2 t 0) t;!q.bad&&decide (q.act.getD t 0=0)&&decide (Co n q.l=q.l.length)):=by
  unfold CM;rw[e2];dsimp only;rw[if_neg (by rw[ha.bad];simp),if_neg (by simp)]
 rw[e0];dsimp only[Cf];obtain⟨s3,ha,hi,c3⟩:=QD (late:=0) h2 ha hi ht (hz t ht);obtain⟨s4,ha,hi,c4⟩:=Wy (late:=0) (kind:=3) h2 ha hi ht (Ak _ _ _) (by decide) (by decide);obtain⟨s5,ha,hi,c5⟩:=Wz (late:=0) (kind:=3) h2 ha hi ht (Ak _ _ _) (by decide) (by decide);obtain⟨s6,ha,⟨_,hi,c6⟩ |⟨x,q,e,_⟩⟩:=WA (late:=0) (kind:=3) h2 ha hi ht (Ak _ _ _) (by decide) (by decide);case inr=>have e:g2.c=x::q:=e;rw[hc]at e;cases e
 rw[if_neg (by rw[ha.act t ht,c6,Ak];simp)];obtain⟨s7,_,ha,hi,c7⟩:=Mq (late:=0) h2 ha hi ht (by rw[c6,Ak]);obtain⟨s8,k,ha,hi,c8,_,hk⟩:=To (late:=0) (kind:=3) h2 ha hi ht (Ak _ _ _) (by decide) (by decide);obtain rfl:=hk rfl;obtain⟨s9,ha,⟨_,hi,c9⟩ |⟨e,_⟩⟩:=Tp (late:=0) (kind:=3) h2 ha hi ht (Ak _ _ _) (by decide) (by decide);case inr=>exact absurd rfl e
 rw[ha.bad,ha.act t ht,c9,Ak,decide_eq_true ((Em n h1 h2 _).2 (by rw[ha.tr];exact hi.tr.ok))];rfl
end
end Go.Proofs.YtnmahobjmpdkdaaGreatDoor
