/- An access of one cell, with the memory as a function of area and index, for locks that take no nodes. Plain. -/
import Derived.Test.YtjjpiefgdggghaaGreatDoorK12
import Derived.Test.YtjjpiefgdggghaaGreatDoorK05
import Derived.KernelRfl
set_option linter.unusedVariables false
set_option linter.unusedSimpArgs false
set_option maxRecDepth 100000
set_option maxHeartbeats 40000000
namespace Go.Proofs.YtjjpiefgdggghaaGreatDoor
section
def Bp(m:Nat→Nat→Nat)(A p v:Nat):Nat→Nat→Nat:=Ay m A (Ay (m A) p v)
def Wd(sizes w:List Nat)(m:Nat→Nat→Nat):Prop:=w.length=sizes.sum∧∀ A p,p<sizes.getD A 0→w.getD ((sizes.take A).sum+p) 0=m A p
theorem KN:∀ (l:List Nat) (A B:Nat),A<B→(l.take A).sum+l.getD A 0≤(l.take B).sum
 |[],A,B,_=>by simp
 |x::l,0,B+1,_=>by simp
 |x::l,A+1,B+1,h=>by have:=KN l A B (by omega);simp at this ⊢;omega
theorem X7{l:List Nat}{A B p q:Nat}(hp:p<l.getD A 0)(hq:q<l.getD B 0)(e:(l.take A).sum+p=(l.take B).sum+q):A=B∧p=q:=by
 rcases Nat.lt_trichotomy A B with h |h |h
 ·have:=KN l A B h;omega
 ·subst h;exact⟨rfl,by omega⟩
 ·have:=KN l B A h;omega
theorem YP{l:List Nat}{A p:Nat}(hp:p<l.getD A 0):(l.take A).sum+p<l.sum:=by
 have hA:A<l.length:=Classical.byContradiction fun h=>by
  rw[List.getD_eq_getElem?_getD,List.getElem?_eq_none (by omega)]at hp;simp at hp
 have:=KN l A l.length hA;rw[List.take_length]at this;omega
theorem Wd.set{sizes w:List Nat}{m:Nat→Nat→Nat}(h:Wd sizes w m){A p:Nat}(v:Nat)(hp:p<sizes.getD A 0):Wd sizes (w.set ((sizes.take A).sum+p) v) (Bp m A p v):=by
 refine⟨by rw[List.length_set];exact h.1,fun B q hq=>?_⟩;rw[Jb (by rw[h.1];exact YP hp)];by_cases e:(sizes.take A).sum+p=(sizes.take B).sum+q
 ·obtain⟨rfl,rfl⟩:=X7 hp hq e;rw[if_pos rfl,Bp,Ag,Ag]
 ·rw[if_neg e,h.2 B q hq,Bp];by_cases eA:B=A
  ·subst eA;rw[Ag,Au _ _ (fun e'=>e (by rw[e']))]
  ·rw[Au _ _ eA]
theorem Nr:∀ (sizes:List Nat) (a k A p:Nat),p<sizes.getD A 0→CY ((a+A:Nat):Int) p k (B9 a sizes)=some (k+(sizes.take A).sum+p)
 |[],a,k,A,p,h=>by simp at h
 |s::r,a,k,0,p,h=>by
  simp at h;unfold B9;rw[Nat.add_zero,Iy s _ h];simp
 |s::r,a,k,A+1,p,h=>by
  unfold B9;rw[Kk (by omega)];have:=Nr r (a+1) (k+s) A p (by simpa using h);rw[show a+1+A=a+(A+1) by omega]at this;rw[this];simp;omega
theorem X8{sizes:List Nat}{A p:Nat}(h:p<sizes.getD A 0)(h4:p<4096):CY (A:Int) (p%4096) 0 (AL sizes)=some ((sizes.take A).sum+p):=by
 have:=Nr sizes 0 0 A p h;rw[Nat.mod_eq_of_lt h4];unfold AL
 simpa using this
def X9(pg:Pg)(t a:Nat)(r:Option Nat×CoreM×Bool):Option Nat×CoreM×Ex :=
 if r.2.2=true then (r.1,r.2.1,⟨[],-1,a,(match r.1 with |none=>0 |some _=>1),1,0⟩)
 else (r.1,(runM pg.l t 257 r.2.1 []).1,⟨(runM pg.l t 257 r.2.1 []).2.1,(runM pg.l t 257 r.2.1 []).2.2.1,a,(match r.1 with |none=>0 |some _=>1),0,(runM pg.l t 257 r.2.1 []).2.2.2⟩)
def Gj(pg:Pg)(t:Nat)(c:CoreM)(late:Bool)(was:Nat)(b:Bool)(a:Nat):Option Nat×CoreM×Ex:=X9 pg t a (TH (pg.l.getD c.pc.toNat In.zero) c was late b)
def Qa(pg:Pg)(c:CoreM):Bool:=decide (¬(c.pc<0∨c.pc≥pg.l.length))&&decide (¬(pg.l.getD c.pc.toNat In.zero).op<16)&&decide ((pg.l.getD c.pc.toNat In.zero).op≠22)&&decide ((pg.l.getD c.pc.toNat In.zero).op≠23)
def wrW(words:List Nat)(a:Nat):Option Nat→List Nat
 |none=>words
 |some v=>words.set a v
theorem XA{pg:Pg}{cells:List (Nat×Nat)}{words:List Nat}{t:Nat}{c:CoreM}{late:Bool}{a was:Nat}{b:Bool}{wr:Option Nat}{c':CoreM}{o:Ex}(hok:Qa pg c=true)
  (hf:CY (pg.l.getD c.pc.toNat In.zero).a (c.get (pg.l.getD c.pc.toNat In.zero).s%4096) 0 cells=some a)(hw:words.getD a 0=was)(hb:decide (was=c.get (pg.l.getD c.pc.toNat In.zero).t)=b)
  (e:Gj pg t c late was b a=(wr,c',o)):Jd pg cells words t c late=some (wrW words a wr,c',o):=by
 unfold Qa at hok;simp only[Bool.and_eq_true,decide_eq_true_eq]at hok;obtain⟨⟨⟨h1,h2⟩,h3⟩,h4⟩:=hok;rw[HC a b hf (by rw[hw];exact hb)];unfold PR;rw[if_neg h1];dsimp only;rw[if_neg h2,if_neg h3,if_neg h4,hw];have key:∀ r:Option Nat×CoreM×Bool,(if r.2.2=true then some ((match r.1 with |none=>words |some v=>words.set a v),r.2.1,(⟨[],-1,a,(match r.1 with |none=>0 |some _=>1),1,0⟩:Ex))
   else some (V4 pg (match r.1 with |none=>words |some v=>words.set a v) t r.2.1 a (match r.1 with |none=>0 |some _=>1))) =
   some ((match (X9 pg t a r).1 with |none=>words |some v=>words.set a v),(X9 pg t a r).2.1,(X9 pg t a r).2.2):=by
  intro⟨r1,r2,r3⟩;cases r3<;>cases r1<;>rfl
 refine(key (TH (pg.l.getD c.pc.toNat In.zero) c was late b)).trans ?_;unfold Gj at e;rw[e];cases wr<;>rfl
def YQ(m:Nat→Nat→Nat)(A p:Nat):Option Nat→Nat→Nat→Nat
 |none=>m
 |some v=>Bp m A p v
section
variable {n:Nat} {pg:Pg} {sizes:List Nat} {r:AQ} {s:LS} {t:Nat} {late kind:Int} {m:Nat→Nat→Nat}
theorem BF.acc(h:BF n pg (AL sizes) r s)(hW:Wd sizes s.words m)(ht:t<n)(ha:s.act t=1∨s.act t=3)(h1:kind≠1)(h2:kind≠2){c:CoreM}(hc:s.core t=c)(hok:Qa pg c=true)(A p was:Nat)(b:Bool)
  (hA:(pg.l.getD c.pc.toNat In.zero).a=(A:Int))(hp:c.get (pg.l.getD c.pc.toNat In.zero).s=p)(hlt:p<sizes.getD A 0)(h4:p<4096)(hw:m A p=was)
  (hb:decide (was=c.get (pg.l.getD c.pc.toNat In.zero).t)=b){wr:Option Nat}{c':CoreM}{ms:List Int}{done:Int}{wrote stay:Nat}
  (e:∀ (l:Bool) (a:Nat),Gj pg t c l was b a=(wr,c',⟨ms,done,a,wrote,stay,0⟩))(hbad:Kz (s.act t) ⟨ms,done,0,wrote,stay,0⟩=false) :
  ∃ s',BF n pg (AL sizes) (r.op kind t late) s'∧Wd sizes s'.words (YQ m A p wr)∧s'.core=Ay s.core t c' ∧
   s'.act=(match JI done with |none=>s.act |some q=>Ay s.act t q.2) ∧
   s'.tr=(match JI done with |none=>ms.foldl (fun x k=>x.enter (FN k) t) s.tr |some q=>(ms.foldl (fun x k=>x.enter (FN k) t) s.tr).enter q.1 t):=by
 have hst:Jd pg (AL sizes) s.words t (s.core t) (decide (late≠0))=some (wrW s.words ((sizes.take A).sum+p) wr,c',⟨ms,done,((sizes.take A).sum+p:Nat),wrote,stay,0⟩):=by
  rw[hc];exact XA (a:=(sizes.take A).sum+p) (was:=was) (b:=b) hok (by rw[hA,hp];exact X8 hlt h4) ((hW.2 A p hlt).trans hw) hb (e _ _)
 have hs:=h.step (late:=late) ht ha h1 h2 hst hbad;refine⟨_,hs,?_,?_,?_,?_⟩
 ·have:Wd sizes (wrW s.words ((sizes.take A).sum+p) wr) (YQ m A p wr):=by
   cases wr with
   |none=>exact hW
   |some v=>exact hW.set v hlt
  unfold LS.EK;dsimp only;generalize JI done=x;cases x<;>exact this
 ·unfold LS.EK;dsimp only;generalize JI done=x;cases x<;>rfl
 ·unfold LS.EK;dsimp only;generalize JI done=x;cases x<;>rfl
 ·unfold LS.EK;dsimp only;generalize JI done=x;cases x<;>rfl
theorem BF.Ur(h:BF n pg (AL sizes) r s)(hW:Wd sizes s.words m)(ht:t<n)(ha:s.act t=0){c c':CoreM}(hc:s.core t=c)
  (e:V4 pg s.words t (c.at pg.lock) (-1) 0=(s.words,c',⟨[],-1,-1,0,0,0⟩)) :
  ∃ s',BF n pg (AL sizes) (r.op 1 t late) s'∧Wd sizes s'.words m∧s'.core=Ay s.core t c'∧s'.act=Ay s.act t 1∧s'.tr=s.tr.enter 1 t :=
 ⟨_,h.call ht ha (w:=s.words) (c:=c') (o:=⟨[],-1,-1,0,0,0⟩) (by rw[hc];exact e) rfl,hW,rfl,rfl,rfl⟩
theorem BF.NK(h:BF n pg (AL sizes) r s)(hW:Wd sizes s.words m)(ht:t<n)(ha:s.act t=2){c c':CoreM}(hc:s.core t=c)
  (e:V4 pg s.words t (c.at pg.unlock) (-1) 0=(s.words,c',⟨[],-1,-1,0,0,0⟩)) :
  ∃ s',BF n pg (AL sizes) (r.op 2 t late) s'∧Wd sizes s'.words m∧s'.core=Ay s.core t c'∧s'.act=Ay s.act t 3∧s'.tr=s.tr.enter 8 t :=
 ⟨_,h.unlock ht ha (w:=s.words) (c:=c') (o:=⟨[],-1,-1,0,0,0⟩) (by rw[hc];exact e) rfl,hW,rfl,rfl,rfl⟩
end
def CC:Nat→List Nat→Nat
 |p,[]=>p
 |_,t::q=>CC t q
theorem Io(t:Nat):∀ (q:List Nat) (p:Nat),CC p (q++[t])=t
 |[],p=>rfl
 |s::q,p=>Io t q s
theorem Gm:∀ (q:List Nat) (p:Nat),CC p q=p∧q=[]∨CC p q∈q
 |[],p=>.inl ⟨rfl,rfl⟩
 |s::q,p=>.inr (by
  rcases Gm q s with ⟨h,_⟩ |h
  ·show CC s q∈_;rw[h];exact List.mem_cons_self ..
  ·exact List.mem_cons_of_mem _ h)
theorem CV(m:Nat→Nat→Nat)(A p v:Nat):Bp m A p v A=Ay (m A) p v:=Ag _ _ _
theorem Bt(m:Nat→Nat→Nat){A B:Nat}(p v:Nat)(h:B≠A):Bp m A p v B=m B:=Au _ _ h
theorem RI(sizes:List Nat)(k:Nat)(hk:k=sizes.sum):Wd sizes (List.replicate k 0) (fun _ _=>0):=⟨by simp[hk],fun A p hp=>by simp[List.getD_eq_getElem?_getD,List.getElem?_replicate];split<;>rfl⟩
end
end Go.Proofs.YtjjpiefgdggghaaGreatDoor
set_option linter.unusedVariables false
set_option linter.unusedSimpArgs false
set_option maxRecDepth 100000
set_option maxHeartbeats 40000000
namespace Go.Proofs.YtjjpiefgdggghaaGreatDoor
section
def CE:Pg:=⟨[⟨11,1,0,0,0,0,0,0⟩,⟨3,2,1,0,0,0,2,0⟩,⟨1,3,0,0,0,0,1,0⟩,⟨16,4,0,0,0,0,0,0⟩,⟨9,0,4,0,0,0,0,10⟩,⟨19,5,0,0,3,0,0,0⟩,⟨8,0,5,0,0,0,0,3⟩,⟨12,0,0,0,0,0,1,0⟩,⟨12,0,0,0,0,0,2,0⟩,⟨13,0,0,0,0,0,1,0⟩,⟨17,0,1,0,0,2,0,0⟩,⟨17,0,1,3,0,3,0,0⟩,⟨19,5,0,4,2,0,0,0⟩,⟨8,0,5,0,0,0,0,3⟩,⟨12,0,0,0,0,0,1,0⟩,⟨8,0,4,3,0,0,0,19⟩,⟨3,4,4,0,0,0,4294967294,0⟩,⟨17,0,4,2,0,2,0,0⟩,⟨10,0,0,0,0,0,0,20⟩,⟨17,0,0,2,0,1,0,0⟩,⟨21,5,1,0,0,3,0,-1⟩,⟨12,0,0,0,0,0,2,0⟩,⟨16,4,1,0,0,2,0,0⟩,⟨9,0,4,0,0,0,0,28⟩,⟨17,0,0,0,0,1,0,0⟩,⟨19,5,0,2,3,0,0,0⟩,⟨9,0,5,0,0,0,0,29⟩,⟨21,4,1,0,0,2,1,-1⟩,⟨17,0,0,4,0,1,0,0⟩,⟨13,0,0,0,0,0,1,0⟩,⟨16,4,0,0,0,1,0,0⟩,⟨9,0,4,0,0,0,0,38⟩,⟨1,3,0,0,0,0,1,0⟩,⟨19,5,0,3,0,0,0,0⟩,⟨8,0,5,0,0,0,0,37⟩,⟨12,0,0,0,0,0,4,0⟩,⟨13,0,0,0,0,0,2,0⟩,⟨21,4,0,0,0,1,1,-1⟩,⟨3,4,4,0,0,0,4294967294,0⟩,⟨17,0,4,0,0,3,0,0⟩,⟨12,0,0,0,0,0,4,0⟩,⟨13,0,0,0,0,0,2,0⟩],0,30⟩
inductive KK where
 |idle
 |p3
 |p5
 |p10 (w:Nat)
 |p11 (w:Nat)
 |p12 (w:Nat)
 |lk (p:Nat)
 |fs
 |wt
 |a22
 |a24
 |a25
 |a27
 |a28 (v:Nat)
 |hold
 |u30
 |u33
 |u37
 |u39 (v:Nat)
def KK.is:KK→Nat→Nat→CoreM→Nat→Prop
 |.idle,_,a,c,l=>a=0∧(l=0∨l=10)∧∃ r1 r2 r3 r4 r5 r7 pc,c=⟨[0,r1,r2,r3,r4,r5,0,r7],pc⟩
 |.p3,t,a,c,l=>a=1∧l=1∧∃ r4 r5 r7,c=⟨[0,t,t+2,1,r4,r5,0,r7],3⟩
 |.p5,t,a,c,l=>a=1∧l=1∧∃ r4 r5 r7,c=⟨[0,t,t+2,1,r4,r5,0,r7],5⟩
 |.p10 w,t,a,c,l=>a=1∧l=1∧∃ r5 r7,c=⟨[0,t,t+2,1,w+1,r5,0,r7],10⟩
 |.p11 w,t,a,c,l=>a=1∧l=1∧∃ r5 r7,c=⟨[0,t,t+2,1,w+1,r5,0,r7],11⟩
 |.p12 w,t,a,c,l=>a=1∧l=1∧∃ r5 r7,c=⟨[0,t,t+2,1,w+1,r5,0,r7],12⟩
 |.lk p,t,a,c,l=>a=1∧l=2∧∃ r5 r7,c=⟨[0,t,t+2,1,p,r5,0,r7],17⟩
 |.fs,t,a,c,l=>a=1∧l=2∧∃ r4 r5 r7,c=⟨[0,t,t+2,1,r4,r5,0,r7],19⟩
 |.wt,t,a,c,l=>a=1∧l=2∧∃ r4 r5 r7,c=⟨[0,t,t+2,1,r4,r5,0,r7],20⟩
 |.a22,t,a,c,l=>a=1∧l=3∧∃ r4 r5 r7,c=⟨[0,t,t+2,1,r4,r5,0,r7],22⟩
 |.a24,t,a,c,l=>a=1∧l=3∧∃ r4 r5 r7,c=⟨[0,t,t+2,1,r4,r5,0,r7],24⟩
 |.a25,t,a,c,l=>a=1∧l=3∧∃ r4 r5 r7,c=⟨[0,t,t+2,1,r4,r5,0,r7],25⟩
 |.a27,t,a,c,l=>a=1∧l=3∧∃ r4 r5 r7,c=⟨[0,t,t+2,1,r4,r5,0,r7],27⟩
 |.a28 v,t,a,c,l=>a=1∧l=3∧∃ r5 r7,c=⟨[0,t,t+2,1,v+2,r5,0,r7],28⟩
 |.hold,t,a,c,l=>a=2∧l=5∧∃ r4 r5 r7 pc,c=⟨[0,t,t+2,1,r4,r5,0,r7],pc⟩
 |.u30,t,a,c,l=>a=3∧l=8∧∃ r4 r5 r7,c=⟨[0,t,t+2,1,r4,r5,0,r7],30⟩
 |.u33,t,a,c,l=>a=3∧l=8∧∃ r4 r5 r7,c=⟨[0,t,t+2,1,r4,r5,0,r7],33⟩
 |.u37,t,a,c,l=>a=3∧l=8∧∃ r4 r5 r7,c=⟨[0,t,t+2,1,r4,r5,0,r7],37⟩
 |.u39 v,t,a,c,l=>a=3∧l=8∧∃ r5 r7,c=⟨[0,t,t+2,1,v,r5,0,r7],39⟩
def KK.rk(K tl:Nat):KK→Nat
 |.idle=>0
 |.p3=>3*K+24
 |.p5=>if tl=0 then 3*K+21 else 3*K+25
 |.p10 w=>if tl=w+1 then 3*K+23 else 3*K+27
 |.p11 w=>if tl=w+1 then 3*K+22 else 3*K+26
 |.p12 w=>if tl=w+1 then 3*K+21 else 3*K+25
 |.lk _=>2*K+18
 |.fs=>2*K+18
 |.wt=>2*K+17
 |.a22=>2*K+16
 |.a24=>2*K+15
 |.a25=>2*K+14
 |.a27=>K+9
 |.a28 _=>K+8
 |.hold=>K+7
 |.u30=>K+6
 |.u33=>K+5
 |.u37=>2
 |.u39 _=>1
def KK.out:KK→Prop
 |.idle=>True
 |.p3=>True
 |.p5=>True
 |.p10 _=>True
 |.p11 _=>True
 |.p12 _=>True
 |_=>False
def KK.inq(P:Nat→KK)(m:Nat)(q:List Nat):KK→Prop
 |.a22=>True
 |.a24=>True
 |.a25=>m=0
 |.a27=>q≠[]
 |.a28 v=>P v=.wt∧∃ q',q=v::q'
 |_=>False
def KK.hd(P:Nat→KK)(q:List Nat):KK→Prop
 |.hold=>True
 |.u30=>True
 |.u33=>True
 |.u37=>q≠[]
 |.u39 v=>P v=.wt∧∃ q',q=v::q'
 |_=>False
def KK.fl:KK→Prop
 |.p12 _=>True
 |.lk _=>True
 |.fs=>True
 |.wt=>True
 |_=>False
def KK.nil:KK→Prop
 |.p11 _=>True
 |.p12 _=>True
 |_=>False
def Ew(P:Nat→KK)(nx:Nat→Nat):Nat→List Nat→Prop
 |p,[]=>nx p=0
 |p,t::q=>(P t=.wt∧nx p=t+2∨P t=.lk p∧nx p=0)∧Ew P nx t q
section
variable {P:Nat→KK} {nx:Nat→Nat} {t v:Nat} {k:KK}
theorem C5{P':Nat→KK}{nx':Nat→Nat}:∀ (q:List Nat) (p:Nat),(∀ u∈q,P' u=P u)→(∀ u∈p::q,nx' u=nx u)→Ew P nx p q→Ew P' nx' p q
 |[],p,_,h2,h=>by show nx' p=0;rw[h2 p (List.mem_cons_self ..)];exact h
 |s::q,p,h1,h2,h=>by
  refine⟨?_,C5 q s (fun u hu=>h1 u (List.mem_cons_of_mem _ hu)) (fun u hu=>h2 u (List.mem_cons_of_mem _ hu)) h.2⟩;rw[h1 s (List.mem_cons_self ..),h2 p (List.mem_cons_self ..)];exact h.1
theorem Nt:∀ (q:List Nat) (p:Nat),Ew P nx p q→P t=.lk (CC p q)→nx t=0→Ew P nx p (q++[t])
 |[],p,h,h1,h2=>⟨.inr ⟨h1,h⟩,h2⟩
 |s::q,p,h,h1,h2=>⟨h.1,Nt q s h.2 h1 h2⟩
theorem Me:∀ (q:List Nat) (p:Nat),Ew P nx p q→t∈q→P t=.wt∨∃ p',P t=.lk p'∧(p'=p∨p'∈q)
 |s::q,p,h,ht=>by
  by_cases e:t=s
  ·subst e;rcases h.1 with h1 |h1
   ·exact .inl h1.1
   ·exact .inr ⟨p,h1.1,.inl rfl⟩
  ·rcases Me q s h.2 (by simpa [e]using ht) with h1 |⟨p',h1,h2⟩
   ·exact .inl h1
   ·refine .inr ⟨p',h1,.inr ?_⟩;rcases h2 with rfl |h2
    ·exact List.mem_cons_self ..
    ·exact List.mem_cons_of_mem _ h2
theorem Sv{p0:Nat}:∀ (q:List Nat) (p:Nat),(p::q).Nodup→Ew P nx p q→t∈q→P t=.lk p0→Ew (Ay P t .wt) (Ay nx p0 (t+2)) p q∧nx p0=0
 |s::q,p,hn,h,ht,hp=>by
  have hn1:=List.nodup_cons.1 hn;have hn2:=List.nodup_cons.1 hn1.2;by_cases e:t=s
  ·subst e;rcases h.1 with h1 |h1
   ·rw[h1.1]at hp;cases hp
   ·rw[h1.1]at hp;cases hp;refine⟨⟨.inl ⟨Ag _ _ _,Ag _ _ _⟩,?_⟩,h1.2⟩;refine C5 q t (fun u hu=>Au _ _ (fun e=>hn2.1 (e▸hu))) (fun u hu=>Au _ _ (fun e=>hn1.1 (e▸hu))) h.2
  ·have htq:t∈q:=by simpa [e]using ht
   obtain⟨a1,a2⟩:=Sv q s hn1.2 h.2 htq hp;refine⟨⟨?_,a1⟩,a2⟩;have hpp:p≠p0:=fun e'=>by
    rcases Me q s h.2 htq with h1 |⟨p',h1,h2⟩
    ·rw[h1]at hp;cases hp
    ·rw[h1]at hp;cases hp;rw[←e']at h2;rcases h2 with h2 |h2
     ·exact hn1.1 (by rw[h2];exact List.mem_cons_self ..)
     ·exact hn1.1 (List.mem_cons_of_mem _ h2)
   rw[Au _ _ (fun e'=>e e'.symm),Au _ _ hpp];exact h.1
theorem HD{P':Nat→KK}{m:Nat}{q:List Nat}(h:∀ u∈q,P u=.wt→P' u=.wt):∀ {k:KK},k.inq P m q→k.inq P' m q
 |.a22,_=>trivial
 |.a24,_=>trivial
 |.a25,hk=>hk
 |.a27,hk=>hk
 |.a28 v,⟨h1,q',e⟩=>⟨h v (by rw[e];exact List.mem_cons_self ..) h1,q',e⟩
theorem Fx{P':Nat→KK}{q:List Nat}(h:∀ u∈q,P u=.wt→P' u=.wt):∀ {k:KK},k.hd P q→k.hd P' q
 |.hold,_=>trivial
 |.u30,_=>trivial
 |.u33,_=>trivial
 |.u37,hk=>hk
 |.u39 v,⟨h1,q',e⟩=>⟨h v (by rw[e];exact List.mem_cons_self ..) h1,q',e⟩
theorem VU{m t:Nat}{q:List Nat}:∀ {k:KK},k.inq P m q→k.inq P m (q++[t])
 |.a22,_=>trivial
 |.a24,_=>trivial
 |.a25,hk=>hk
 |.a27,hk=>fun e=>by simp at e
 |.a28 v,⟨h1,q',e⟩=>⟨h1,q'++[t],by rw[e];rfl⟩
theorem Sw{t:Nat}{q:List Nat}:∀ {k:KK},k.hd P q→k.hd P (q++[t])
 |.hold,_=>trivial
 |.u30,_=>trivial
 |.u33,_=>trivial
 |.u37,hk=>fun e=>by simp at e
 |.u39 v,⟨h1,q',e⟩=>⟨h1,q'++[t],by rw[e];rfl⟩
theorem OC{m:Nat}{q:List Nat}:∀ {k:KK},k.inq P m q→¬k.out∧¬k.fl∧¬k.nil∧k≠.wt∧k≠.fs∧(∀ p,k≠.lk p)∧∀ (P:Nat→KK) q,¬k.hd P q
 |.a22,_=>⟨id,id,id,by simp,by simp,by simp,fun _ _=>id⟩
 |.a24,_=>⟨id,id,id,by simp,by simp,by simp,fun _ _=>id⟩
 |.a25,_=>⟨id,id,id,by simp,by simp,by simp,fun _ _=>id⟩
 |.a27,_=>⟨id,id,id,by simp,by simp,by simp,fun _ _=>id⟩
 |.a28 _,_=>⟨id,id,id,by simp,by simp,by simp,fun _ _=>id⟩
theorem Mf{q:List Nat}:∀ {k:KK},k.hd P q→¬k.out∧¬k.fl∧¬k.nil∧k≠.wt∧k≠.fs∧(∀ p,k≠.lk p)∧∀ (P:Nat→KK) m q,¬k.inq P m q
 |.hold,_=>⟨id,id,id,by simp,by simp,by simp,fun _ _ _=>id⟩
 |.u30,_=>⟨id,id,id,by simp,by simp,by simp,fun _ _ _=>id⟩
 |.u33,_=>⟨id,id,id,by simp,by simp,by simp,fun _ _ _=>id⟩
 |.u37,_=>⟨id,id,id,by simp,by simp,by simp,fun _ _ _=>id⟩
 |.u39 _,_=>⟨id,id,id,by simp,by simp,by simp,fun _ _ _=>id⟩
end
inductive KM where
 |none
 |inq
 |own (h:Nat)
structure KG where
 P:Nat→KK
 L:Nat→Nat
 md:KM
 c:List Nat
 m:Nat→Nat→Nat
def KM.q:KM→List Nat→List Nat
 |.inq,c=>c.tail
 |_,c=>c
def chK(P:Nat→KK)(m:Nat→Nat→Nat):KM→List Nat→Prop
 |.none,[]=>m 0 0=0∧m 1 0=0
 |.none,v::q=>m 0 0=CC v q+2∧Ew P (m 2) v q∧P v=.wt∧m 3 v=0
 |.inq,[]=>False
 |.inq,h::q=>m 0 0=CC h q+2∧Ew P (m 2) h q∧(P h).inq P (m 1 0) q
 |.own h,[]=>m 0 0=1∧m 1 0=0∧(P h).hd P []
 |.own h,v::q=>m 0 0=CC v q+2∧Ew P (m 2) v q∧(P v=.wt∧m 1 0=v+2∨P v=.fs∧m 1 0=0)∧(P h).hd P (v::q)
def KM.is:KM→Nat→Prop
 |.own h,t=>t=h
 |_,_=>False
def KM.hand:KM→List Nat→Nat→Prop
 |.none,c,t=>c.head?=some t
 |_,_,_=>False
abbrev Qi(n:Nat):List Nat:=[1,1,n,n]
structure KI (n:Nat) (g:KG) (s:LS):Prop where
 W:Wd (Qi n) s.words g.m
 is:∀ t,t<n→(g.P t).is t (s.act t) (s.core t) (g.L t)
 nd:g.c.Nodup
 lt:∀ t∈g.c,t<n
 ot:∀ t,g.md.is t→t<n∧t∉g.c
 ch:chK g.P g.m g.md g.c
 fl:∀ t,t<n→(g.P t).fl→g.m 3 t=1∨g.md.hand g.c t
 nil:∀ t,t<n→(g.P t).nil→g.m 2 t=0
 free:∀ t,t<n→t∉g.c→¬g.md.is t→(g.P t).out
 tr:Cn n s.tr g.L (g.md.q g.c)
theorem OD{n t:Nat}{P:Nat→KK}{A:Nat→Nat}{C:Nat→CoreM}{L:Nat→Nat}(h:∀ u,u<n→(P u).is u (A u) (C u) (L u))(p:KK)(a:Nat)(c:CoreM)(l:Nat)(hp:p.is t a c l) :
  ∀ u,u<n→(Ay P t p u).is u (Ay A t a u) (Ay C t c u) (Ay L t l u):=by
 intro u hu;by_cases e:u=t
 ·subst e;simp only[Ag];exact hp
 ·simp only[Au _ _ e];exact h u hu
theorem TN{P P':Nat→KK}{m m':Nat→Nat→Nat}{md:KM}{c:List Nat}(hP:∀ u,u∈c∨md.is u→P' u=P u)(m0:m' 0 0=m 0 0)(m1:m' 1 0=m 1 0)(hm:∀ u∈c,m' 2 u=m 2 u∧m' 3 u=m 3 u)(h:chK P m md c):chK P' m' md c:=by
 cases md<;>cases c
 case none.nil=>exact⟨m0.trans h.1,m1.trans h.2⟩
 case inq.nil=>exact h
 case own.nil x =>
  obtain⟨h1,h2,h3⟩:=h;exact⟨m0.trans h1,m1.trans h2,by rw[hP x (.inr rfl)];exact Fx (fun u hu=>by cases hu) h3⟩
 case none.cons v q =>
  obtain⟨h1,h2,h3,h4⟩:=h;exact⟨m0.trans h1,C5 q v (fun u hu=>hP u (.inl (List.mem_cons_of_mem _ hu))) (fun u hu=>(hm u hu).1) h2,(hP v (.inl (List.mem_cons_self ..))).trans h3,(hm v (List.mem_cons_self ..)).2.trans h4⟩
 case inq.cons v q =>
  obtain⟨h1,h2,h3⟩:=h;refine⟨m0.trans h1,C5 q v (fun u hu=>hP u (.inl (List.mem_cons_of_mem _ hu))) (fun u hu=>(hm u hu).1) h2,?_⟩;rw[hP v (.inl (List.mem_cons_self ..)),m1];exact HD (fun u hu e=>(hP u (.inl (List.mem_cons_of_mem _ hu))).trans e) h3
 case own.cons x v q =>
  obtain⟨h1,h2,h3,h4⟩:=h;refine⟨m0.trans h1,C5 q v (fun u hu=>hP u (.inl (List.mem_cons_of_mem _ hu))) (fun u hu=>(hm u hu).1) h2,?_,?_⟩
  ·rw[hP v (.inl (List.mem_cons_self ..)),m1];exact h3
  ·rw[hP x (.inr rfl)];exact Fx (fun u hu e=>(hP u (.inl hu)).trans e) h4
section
variable {n:Nat} {s s':LS} {g:KG} {t:Nat} {r:AQ} {late:Int}
theorem TO(h:KI n g s)(hc:t∈g.c):(∃ q,g.c=t::q∧g.md=.inq∧(g.P t).inq g.P (g.m 1 0) q)∨(∃ q,g.c=t::q∧g.md=.none∧g.P t=.wt∧g.m 3 t=0) ∨
  (∃ q x,g.c=t::q∧g.md=.own x∧(g.P t=.wt∧g.m 1 0=t+2∨g.P t=.fs∧g.m 1 0=0)) ∨
  (∃ x q,g.c=x::q∧t∈q∧t≠x∧Ew g.P (g.m 2) x q∧(g.P t=.wt∨∃ p,g.P t=.lk p∧p∈g.c)):=by
 have hch:=h.ch
 revert hch hc
 cases hmd:g.md<;>cases hcc:g.c<;>intro hc hch
 case none.nil=>cases hc
 case inq.nil=>cases hc
 case own.nil x=>cases hc
 all_goals
  rename_i v q
  by_cases ex:t=v
  ·subst ex;first
    |exact .inl ⟨q,rfl,rfl,hch.2.2⟩
    |exact .inr (.inl ⟨q,rfl,rfl,hch.2.2⟩)
    |exact .inr (.inr (.inl ⟨q,_,rfl,rfl,hch.2.2.1⟩))
  ·have htq:t∈q:=by simpa [ex]using hc
   refine .inr (.inr (.inr ⟨v,q,rfl,htq,ex,hch.2.1,?_⟩));rcases Me q v hch.2.1 htq with h4 |⟨p,h4,h5⟩
   ·exact .inl h4
   ·exact .inr ⟨p,h4,by simpa using h5⟩
theorem Ko(h:KI n g s)(hm:g.md.is t):g.md=.own t∧(g.P t).hd g.P g.c:=by
 have hch:=h.ch
 revert hch hm
 cases hmd:g.md<;>cases hcc:g.c<;>intro hm hch
 case own.nil x=>obtain rfl:t=x:=hm;exact⟨rfl,hch.2.2⟩
 case own.cons x v q=>obtain rfl:t=x:=hm;exact⟨rfl,hch.2.2.2⟩
 all_goals exact hm.elim
theorem I2(h:KI n g s)(ho:(g.P t).out):t∉g.c∧¬g.md.is t:=by
 refine⟨fun hc=>?_,fun hm=>(Mf (Ko h hm).2).1 ho⟩;rcases TO h hc with ⟨q,_,_,e⟩ |⟨q,_,_,e,_⟩ |⟨q,x,_,_,⟨e,_⟩ |⟨e,_⟩⟩ |⟨x,q,_,_,_,_,e |⟨p,e,_⟩⟩
 ·exact(OC e).1 ho
 all_goals rw[e]at ho;exact ho
theorem I3(h:KI n g s)(ht:t<n)(ho:(g.P t).out){p:KK}(hp:p.out){m':Nat→Nat→Nat}(m0:m' 0 0=g.m 0 0)(m1:m' 1 0=g.m 1 0)(mu:∀ u,u≠t→m' 2 u=g.m 2 u∧m' 3 u=g.m 3 u)(f:p.fl→m' 3 t=1)(z:p.nil→m' 2 t=0)
  {a l:Nat}{c:CoreM}(W:Wd (Qi n) s'.words m')(is':p.is t a c l)(hc:s'.core=Ay s.core t c)(ha:s'.act=Ay s.act t a)(tr:Cn n s'.tr (Ay g.L t l) (g.md.q g.c)):KI n ⟨Ay g.P t p,Ay g.L t l,g.md,g.c,m'⟩ s':=by
 have hn:=I2 h ho;have hne:∀ u∈g.c,u≠t:=fun u hu e=>hn.1 (e▸hu)
 refine⟨W,?_,h.nd,h.lt,h.ot,TN (fun u hu=>Au _ _ (fun e=>by subst e;rcases hu with hu |hu;exact hn.1 hu;exact hn.2 hu)) m0 m1 (fun u hu=>mu u (hne u hu)) h.ch,fun u hu hf=>?_,fun u hu hf=>?_,fun u hu hx hy=>?_,tr⟩
 ·rw[hc,ha];exact OD h.is p a c l is'
 ·by_cases e:u=t
  ·subst e;exact .inl (f (by simpa only[Ag]using hf))
  ·rw[show(KG.m ⟨Ay g.P t p,Ay g.L t l,g.md,g.c,m'⟩) 3 u=g.m 3 u from(mu u e).2];exact h.fl u hu (by simpa only[Au _ _ e]using hf)
 ·by_cases e:u=t
  ·subst e;exact z (by simpa only[Ag]using hf)
  ·exact(mu u e).1.trans (h.nil u hu (by simpa only[Au _ _ e]using hf))
 ·by_cases e:u=t
  ·subst e;simpa only[Ag]using hp
  ·simpa only[Au _ _ e]using h.free u hu hx hy
theorem K5(h:KI n g s)(ht:t<n){k:KK}{md:KM}{cc:List Nat}{m':Nat→Nat→Nat}{a l:Nat}{c:CoreM}(W:Wd (Qi n) s'.words m')(is':k.is t a c l)(hc:s'.core=Ay s.core t c)(ha:s'.act=Ay s.act t a)
  (nd:cc.Nodup)(lt:∀ u∈cc,u<n)(ot:∀ u,md.is u→u<n∧u∉cc)(ch:chK (Ay g.P t k) m' md cc)(flt:k.fl→m' 3 t=1∨md.hand cc t)(flo:∀ u,u<n→u≠t→(g.P u).fl→g.m 3 u=1∨g.md.hand g.c u→m' 3 u=1∨md.hand cc u)
  (nt:¬k.nil)(no:∀ u,u<n→u≠t→(g.P u).out→m' 2 u=g.m 2 u)(ft:t∉cc→¬md.is t→k.out)(fo:∀ u,u<n→u≠t→u∉cc→¬md.is u→u∉g.c∧¬g.md.is u)(tr:Cn n s'.tr (Ay g.L t l) (md.q cc)) :
  KI n ⟨Ay g.P t k,Ay g.L t l,md,cc,m'⟩ s':=by
 refine⟨W,?_,nd,lt,ot,ch,fun u hu hf=>?_,fun u hu hf=>?_,fun u hu hx hy=>?_,tr⟩
 ·rw[hc,ha];exact OD h.is k a c l is'
 ·by_cases e:u=t
  ·subst e;exact flt (by simpa only[Ag]using hf)
  ·have hf':(g.P u).fl:=by simpa only[Au _ _ e]using hf
   exact flo u hu e hf' (h.fl u hu hf')
 ·by_cases e:u=t
  ·subst e;exact absurd (by simpa only[Ag]using hf) nt
  ·have hf':(g.P u).nil:=by simpa only[Au _ _ e]using hf
   exact(no u hu e (by revert hf';cases g.P u<;>intro hf'<;>first |trivial |exact hf'.elim)).trans (h.nil u hu hf')
 ·by_cases e:u=t
  ·subst e;simpa only[Ag]using ft hx hy
  ·obtain⟨b1,b2⟩:=fo u hu e hx hy
   simpa only[Au _ _ e]using h.free u hu b1 b2
theorem OE(h:KI n g s)(ho:t∉g.c):t∉g.md.q g.c:=fun hm=>ho (by revert hm;cases g.md<;>intro hm<;>first |exact hm |exact List.mem_of_mem_tail hm)
theorem VV(hn:n≤64)(hs:BF n CE (AL (Qi n)) r s)(h:KI n g s)(ht:t<n)(ha:s.act t=0) :
  ∃ s',BF n CE (AL (Qi n)) (r.op 1 t late) s'∧KI n ⟨Ay g.P t .p3,Ay g.L t 1,g.md,g.c,g.m⟩ s'∧s'.act=Ay s.act t 1∧g.P t=.idle:=by
 have hP:g.P t=.idle:=by
  have:=h.is t ht;cases hp:g.P t<;>rw[hp]at this<;>simp only[KK.is]at this<;>first |rfl |omega
 have hi:=h.is t ht;rw[hP]at hi;obtain⟨_,hl,r1,r2,r3,r4,r5,r7,pc,hc⟩:=hi;have ho:(g.P t).out:=by rw[hP];trivial
 have hm:(t+2)%Bj=t+2:=Nat.mod_eq_of_lt (by unfold Bj;omega);have ee:V4 CE s.words t ((⟨[0,r1,r2,r3,r4,r5,0,r7],pc⟩:CoreM).at CE.lock) (-1) 0=(s.words,⟨[0,t,(t+2)%Bj,1,r4,r5,0,r7],3⟩,⟨[],-1,-1,0,0,0⟩):=rfl;rw[hm]at ee;obtain⟨s',a1,a2,a3,a4,a5⟩:=hs.Ur (late:=late) h.W ht ha hc ee;refine⟨s',a1,I3 h ht ho (p:=.p3) trivial rfl rfl (fun _ _=>⟨rfl,rfl⟩) (fun h=>h.elim) (fun h=>h.elim) a2 ⟨rfl,rfl,r4,r5,r7,rfl⟩ a3 a4 ?_,a4,hP⟩;rw[a5];exact h.tr.call ht (OE h (I2 h ho).1) (by omega)
theorem VW(h:KI n g s)(ht:t<n)(ho:¬(g.P t).out)(hi:∀ P m q,¬(g.P t).inq P m q)(hw:g.P t≠.wt)(hf:g.P t≠.fs)(hl:∀ p,g.P t≠.lk p):g.md=.own t∧t∉g.c∧(g.P t).hd g.P g.c:=by
 have hc:t∉g.c:=fun hc=>by
  rcases TO h hc with ⟨q,_,_,e⟩ |⟨q,_,_,e,_⟩ |⟨q,x,_,_,⟨e,_⟩ |⟨e,_⟩⟩ |⟨x,q,_,_,_,_,e |⟨p,e,_⟩⟩
  ·exact hi _ _ _ e
  ·exact hw e
  ·exact hw e
  ·exact hf e
  ·exact hw e
  ·exact hl p e
 have hm:g.md.is t:=Classical.byContradiction fun hm=>ho (h.free t ht hc hm)
 obtain⟨e1,e2⟩:=Ko h hm;exact⟨e1,hc,e2⟩
theorem TP(h:KI n g s)(ht:t<n)(ho:¬(g.P t).out)(hi:∀ P q,¬(g.P t).hd P q)(hw:g.P t≠.wt)(hf:g.P t≠.fs)(hl:∀ p,g.P t≠.lk p):∃ q,g.md=.inq∧g.c=t::q∧g.m 0 0=CC t q+2∧Ew g.P (g.m 2) t q∧(g.P t).inq g.P (g.m 1 0) q:=by
 have hm:¬g.md.is t:=fun hm=>hi _ _ (Ko h hm).2
 have hc:t∈g.c:=Classical.byContradiction fun hc=>ho (h.free t ht hc hm)
 rcases TO h hc with ⟨q,e1,e2,e⟩ |⟨q,_,_,e,_⟩ |⟨q,x,_,_,⟨e,_⟩ |⟨e,_⟩⟩ |⟨x,q,_,_,_,_,e |⟨p,e,_⟩⟩
 ·have hch:=h.ch;rw[e1,e2]at hch;exact⟨q,e2,e1,hch.1,hch.2.1,e⟩
 ·exact absurd e hw
 ·exact absurd e hw
 ·exact absurd e hf
 ·exact absurd e hw
 ·exact absurd e (hl p)
theorem VX(h:KI n g s)(ht:t<n)(hmd:g.md=.own t)(hc:t∉g.c){k:KK}(hk:k.hd g.P g.c){a l:Nat}{c:CoreM}(W:Wd (Qi n) s'.words g.m)(is':k.is t a c l)(hcc:s'.core=Ay s.core t c)(ha:s'.act=Ay s.act t a)(tr:Cn n s'.tr (Ay g.L t l) (g.md.q g.c)) :
  KI n ⟨Ay g.P t k,Ay g.L t l,g.md,g.c,g.m⟩ s':=by
 have hch:=h.ch;have hne:∀ u∈g.c,Ay g.P t k u=g.P u:=fun u hu=>Au _ _ (fun e=>hc (e▸hu))
 refine K5 h ht W is' hcc ha h.nd h.lt h.ot ?_ (fun hf=>absurd hf (Mf hk).2.1) (fun u _ _ _ h=>h) (Mf hk).2.2.1 (fun _ _ _ _=>rfl) (fun _ hm=>absurd (by rw[hmd];rfl) hm) (fun _ _ _ h1 h2=>⟨h1,h2⟩) tr;have hk':k.hd (Ay g.P t k) g.c:=Fx (fun u hu e=>(hne u hu).trans e) hk
 revert hch hk' hne
 rw[hmd];cases g.c with
 |nil=>exact fun hch hne hk'=>⟨hch.1,hch.2.1,by rw[Ag];exact hk'⟩
 |cons v q =>
  intro hch hne hk';refine⟨hch.1,C5 q v (fun u hu=>hne u (List.mem_cons_of_mem _ hu)) (fun _ _=>rfl) hch.2.1,?_,by rw[Ag];exact hk'⟩;rw[hne v (List.mem_cons_self ..)];exact hch.2.2.1
theorem Mg(h:KI n g s)(ht:t<n){q:List Nat}(hmd:g.md=.inq)(hc:g.c=t::q){k:KK}{m':Nat→Nat→Nat}(hk:k.inq g.P (m' 1 0) q)(m0:m' 0=g.m 0)(m2:m' 2=g.m 2)(m3:m' 3=g.m 3){a l:Nat}{c:CoreM}(W:Wd (Qi n) s'.words m')(is':k.is t a c l)(hcc:s'.core=Ay s.core t c)(ha:s'.act=Ay s.act t a)(tr:Cn n s'.tr (Ay g.L t l) (g.md.q g.c)) :
  KI n ⟨Ay g.P t k,Ay g.L t l,g.md,g.c,m'⟩ s':=by
 have hch:=h.ch;have hnd:=h.nd;rw[hc]at hnd;have hnd:=List.nodup_cons.1 hnd;have hne:∀ u∈q,Ay g.P t k u=g.P u:=fun u hu=>Au _ _ (fun e=>hnd.1 (e▸hu))
 refine K5 h ht W is' hcc ha h.nd h.lt h.ot ?_ (fun hf=>absurd hf (OC hk).2.1) (fun u _ _ _ h=>by rw[m3];exact h) (OC hk).2.2.1 (fun _ _ _ _=>by rw[m2]) (fun h _=>absurd (by rw[hc];simp) h) (fun _ _ _ h1 h2=>⟨h1,h2⟩) tr;rw[hmd,hc]at hch ⊢;refine⟨by rw[m0];exact hch.1,?_,?_⟩
 ·rw[m2];exact C5 q t hne (fun _ _=>rfl) hch.2.1
 ·rw[Ag];exact HD (fun u hu e=>(hne u hu).trans e) hk
theorem Qh(hn:n≤64)(hs:BF n CE (AL (Qi n)) r s)(h:KI n g s)(ht:t<n)(ha:s.act t=2) :
  ∃ s',g.P t=.hold∧BF n CE (AL (Qi n)) (r.op 2 t late) s'∧KI n ⟨Ay g.P t .u30,Ay g.L t 8,g.md,g.c,g.m⟩ s'∧s'.act=Ay s.act t 3:=by
 have hP:g.P t=.hold:=by
  have:=h.is t ht;cases hp:g.P t<;>rw[hp]at this<;>simp only[KK.is]at this<;>first |rfl |omega
 have hi:=h.is t ht;rw[hP]at hi;obtain⟨_,hl,r4,r5,r7,pc,hc⟩:=hi;obtain⟨e1,e2,e3⟩:=VW h ht (by rw[hP];exact id) (by rw[hP];exact fun _ _ _=>id) (by rw[hP];simp) (by rw[hP];simp) (by rw[hP];simp);obtain⟨s',a1,a2,a3,a4,a5⟩:=hs.NK (late:=late) h.W ht ha hc (c':=⟨[0,t,t+2,1,r4,r5,0,r7],30⟩) rfl;refine⟨s',hP,a1,VX h ht e1 e2 (k:=.u30) trivial a2 ⟨rfl,rfl,r4,r5,r7,rfl⟩ a3 a4 ?_,a4⟩;rw[a5];exact h.tr.unlock ht (OE h e2) hl
abbrev Gg(n:Nat)(r:AQ)(s:LS):Prop:=BF n CE (AL (Qi n)) r s
theorem ua{f:Nat→Nat}{t x:Nat}(h:f t=x){g:Nat→Nat}(e:g=f):g=Ay f t x:=by rw[AZ h];exact e
abbrev KOb(n:Nat)(s:LS)(g:KG)(r:AQ)(t:Nat)(kind late:Int)(A p:Nat)(wr:Option Nat)(c':CoreM)(ms:List Int)(done:Int):Prop:=∃ s',Gg n (r.op kind t late) s'∧Wd (Qi n) s'.words (YQ g.m A p wr)∧s'.core=Ay s.core t c' ∧
 s'.act=(match JI done with |none=>s.act |some q=>Ay s.act t q.2) ∧
 s'.tr=(match JI done with |none=>ms.foldl (fun x k=>x.enter (FN k) t) s.tr |some q=>(ms.foldl (fun x k=>x.enter (FN k) t) s.tr).enter q.1 t)
theorem ka(late:Int)(hs:Gg n r s)(h:KI n g s)(ht:t<n){x:Nat}(hact:s.act t=x){kind:Int}(h1:kind≠1)(h2:kind≠2){c:CoreM}(hc:s.core t=c)(A p was:Nat)(b:Bool)(hw:g.m A p=was)
  (hb:decide (was=c.get (CE.l.getD c.pc.toNat In.zero).t)=b){wr:Option Nat}{c':CoreM}{ms:List Int}{done:Int}{wrote stay:Nat}(e:∀ (l:Bool) (a:Nat),Gj CE t c l was b a=(wr,c',⟨ms,done,a,wrote,stay,0⟩))
  (hx:x=1∨x=3:=by first |exact Or.inl rfl |exact Or.inr rfl)(hlt:p<(Qi n).getD A 0:=by first |(show 0<1;decide) |(simp;omega))(h4:p<4096:=by first |decide |omega)(hok:Qa CE c=true:=by rfl)
  (hA:(CE.l.getD c.pc.toNat In.zero).a=(A:Int):=by rfl)(hp:c.get (CE.l.getD c.pc.toNat In.zero).s=p:=by rfl)(hbad:Kz x ⟨ms,done,0,wrote,stay,0⟩=false:=by rfl):KOb n s g r t kind late A p wr c' ms done :=
 hs.acc h.W ht (by rw[hact];exact hx) h1 h2 hc hok A p was b hA hp hlt h4 hw hb e (by rw[hact];exact hbad)
theorem kb(late:Int)(hs:Gg n r s)(h:KI n g s)(ht:t<n){x:Nat}(hact:s.act t=x){kind:Int}(h1:kind≠1)(h2:kind≠2){c:CoreM}(hc:s.core t=c)(A p was:Nat)(b:Bool)(hw:g.m A p=was)
  (hb:decide (was=c.get (CE.l.getD c.pc.toNat In.zero).t)=b)(wr:Option Nat)(c':CoreM)(ms:List Int)(done:Int)(wrote stay:Nat)(e:∀ (l:Bool) (a:Nat),Gj CE t c l was b a=(wr,c',⟨ms,done,a,wrote,stay,0⟩):=by exact fun l a=>by cases l<;>kernel_rfl)
  (hx:x=1∨x=3:=by first |exact Or.inl rfl |exact Or.inr rfl)(hlt:p<(Qi n).getD A 0:=by first |(show 0<1;decide) |(simp;omega))(h4:p<4096:=by first |decide |omega)(hok:Qa CE c=true:=by rfl)
  (hA:(CE.l.getD c.pc.toNat In.zero).a=(A:Int):=by rfl)(hp:c.get (CE.l.getD c.pc.toNat In.zero).s=p:=by rfl)(hbad:Kz x ⟨ms,done,0,wrote,stay,0⟩=false:=by rfl):KOb n s g r t kind late A p wr c' ms done :=
 ka late hs h ht hact h1 h2 hc A p was b hw hb e hx hlt h4 hok hA hp hbad
variable {kind:Int}
theorem VY{p:Nat}(h:p<64):(p+2+4294967294)%Bj=p:=by unfold Bj;omega
theorem ZS(hn:n≤64)(hs:Gg n r s)(h:KI n g s)(ht:t<n)(hp:g.P t=.p3)(h1:kind≠1)(h2:kind≠2) :
  ∃ s',Gg n (r.op kind t late) s'∧∃ k,KI n ⟨Ay g.P t k,Ay g.L t 1,g.md,g.c,g.m⟩ s'∧s'.act=Ay s.act t 1∧(k=.p5∧g.m 0 0=0∨∃ w,k=.p10 w∧g.m 0 0=w+1):=by
 have hi:=h.is t ht;rw[hp]at hi;obtain⟨hact,hl,r4,r5,r7,hc⟩:=hi;have hL:Ay g.L t 1=g.L:=AZ hl;cases hm:g.m 0 0 with
 |zero =>
  obtain⟨s',a1,a2,a3,a4,a5⟩:=kb late hs h ht hact h1 h2 hc 0 0 0 _ hm rfl none ⟨[0,t,t+2,1,0,r5,0,r7],5⟩ [] (-1) 0 0;have a4':=ua hact a4;exact⟨s',a1,.p5,I3 h ht (by rw[hp];trivial) (p:=.p5) trivial rfl rfl (fun _ _=>⟨rfl,rfl⟩) (fun h=>h.elim) (fun h=>h.elim) a2 ⟨rfl,rfl,0,r5,r7,rfl⟩ a3 a4' (by rw[hL];exact a5▸h.tr),a4',.inl ⟨rfl,rfl⟩⟩
 |succ w =>
  obtain⟨s',a1,a2,a3,a4,a5⟩:=kb late hs h ht hact h1 h2 hc 0 0 (w+1) _ hm rfl none ⟨[0,t,t+2,1,w+1,r5,0,r7],10⟩ [] (-1) 0 0;have a4':=ua hact a4;exact⟨s',a1,.p10 w,I3 h ht (by rw[hp];trivial) (p:=.p10 w) trivial rfl rfl (fun _ _=>⟨rfl,rfl⟩) (fun h=>h.elim) (fun h=>h.elim) a2 ⟨rfl,rfl,r5,r7,rfl⟩ a3 a4' (by rw[hL];exact a5▸h.tr),a4',.inr ⟨w,rfl,rfl⟩⟩
theorem ZT(hn:n≤64)(hs:Gg n r s)(h:KI n g s)(ht:t<n){w:Nat}(hp:g.P t=.p10 w)(h1:kind≠1)(h2:kind≠2) :
  ∃ s',Gg n (r.op kind t late) s'∧KI n ⟨Ay g.P t (.p11 w),Ay g.L t 1,g.md,g.c,Bp g.m 2 t 0⟩ s'∧s'.act=Ay s.act t 1:=by
 have hi:=h.is t ht;rw[hp]at hi;obtain⟨hact,hl,r5,r7,hc⟩:=hi;have hL:Ay g.L t 1=g.L:=AZ hl;obtain⟨s',a1,a2,a3,a4,a5⟩:=kb late hs h ht hact h1 h2 hc 2 t (g.m 2 t) _ rfl rfl (some 0) ⟨[0,t,t+2,1,w+1,r5,0,r7],11⟩ [] (-1) 1 0;have a4':=ua hact a4;refine⟨s',a1,I3 h ht (by rw[hp];trivial) (p:=.p11 w) trivial (by rw[Bt _ _ _ (by decide)]) (by rw[Bt _ _ _ (by decide)]) (fun u hu=>?_) (fun hf=>?_) (fun hf=>?_) a2 ⟨rfl,rfl,r5,r7,rfl⟩ a3 a4' (by rw[hL];exact a5▸h.tr),a4'⟩
 ·rw[CV,Bt _ _ _ (by decide),Au _ _ hu];exact⟨rfl,rfl⟩
 ·exact hf.elim
 ·rw[CV,Ag]
theorem ZU(hn:n≤64)(hs:Gg n r s)(h:KI n g s)(ht:t<n){w:Nat}(hp:g.P t=.p11 w)(h1:kind≠1)(h2:kind≠2) :
  ∃ s',Gg n (r.op kind t late) s'∧KI n ⟨Ay g.P t (.p12 w),Ay g.L t 1,g.md,g.c,Bp g.m 3 t 1⟩ s'∧s'.act=Ay s.act t 1:=by
 have hi:=h.is t ht;rw[hp]at hi;obtain⟨hact,hl,r5,r7,hc⟩:=hi;have hL:Ay g.L t 1=g.L:=AZ hl;obtain⟨s',a1,a2,a3,a4,a5⟩:=kb late hs h ht hact h1 h2 hc 3 t (g.m 3 t) _ rfl rfl (some 1) ⟨[0,t,t+2,1,w+1,r5,0,r7],12⟩ [] (-1) 1 0;have a4':=ua hact a4;refine⟨s',a1,I3 h ht (by rw[hp];trivial) (p:=.p12 w) trivial (by rw[Bt _ _ _ (by decide)]) (by rw[Bt _ _ _ (by decide)]) (fun u hu=>?_) (fun hf=>?_) (fun hf=>?_) a2 ⟨rfl,rfl,r5,r7,rfl⟩ a3 a4' (by rw[hL];exact a5▸h.tr),a4'⟩
 ·rw[CV,Bt _ _ _ (by decide),Au _ _ hu];exact⟨rfl,rfl⟩
 ·rw[CV,Ag]
 ·rw[Bt _ _ _ (by decide)];exact h.nil t ht (by rw[hp];trivial)
theorem Nu(h:KI n g s)(ho:g.md=.none):∀ u,u<n→Ks (g.L u)=false:=fun u hu=>by
 have hi:=h.is u hu;by_cases hc:u∈g.c
 ·rcases TO h hc with ⟨q,_,e2,e⟩ |⟨q,_,_,e,_⟩ |⟨q,x,_,_,⟨e,_⟩ |⟨e,_⟩⟩ |⟨x,q,_,_,_,_,e |⟨p,e,_⟩⟩
  ·rw[ho]at e2;cases e2
  all_goals rw[e]at hi;rw[hi.2.1];rfl
 ·have hf:=h.free u hu hc (by rw[ho];exact id);cases e:g.P u<;>rw[e]at hi hf
  case idle=>rcases hi.2.1 with e |e<;>rw[e]<;>rfl
  case p3=>rw[hi.2.1];rfl
  case p5=>rw[hi.2.1];rfl
  case p10=>rw[hi.2.1];rfl
  case p11=>rw[hi.2.1];rfl
  case p12=>rw[hi.2.1];rfl
  all_goals exact hf.elim
theorem ZV(hn:n≤64)(hs:Gg n r s)(h:KI n g s)(ht:t<n)(hp:g.P t=.p5)(h1:kind≠1)(h2:kind≠2) :
  ∃ s',Gg n (r.op kind t late) s'∧(g.m 0 0=0∧KI n ⟨Ay g.P t .hold,Ay g.L t 5,.own t,[],Bp g.m 0 0 1⟩ s'∧s'.act=Ay s.act t 2∨g.m 0 0≠0∧KI n ⟨Ay g.P t .p3,Ay g.L t 1,g.md,g.c,g.m⟩ s'∧s'.act=Ay s.act t 1):=by
 have hi:=h.is t ht;rw[hp]at hi;obtain⟨hact,hl,r4,r5,r7,hc⟩:=hi;have hout:(g.P t).out:=by rw[hp];trivial
 have hnc:=I2 h hout;have hL:Ay g.L t 1=g.L:=AZ hl;cases hm:g.m 0 0 with
 |succ w =>
  obtain⟨s',a1,a2,a3,a4,a5⟩:=kb late hs h ht hact h1 h2 hc 0 0 (w+1) false hm (decide_eq_false (Nat.succ_ne_zero w)) none ⟨[0,t,t+2,1,r4,0,0,r7],3⟩ [] (-1) 0 0;have a4':=ua hact a4;exact⟨s',a1,.inr ⟨by simp,I3 h ht hout (p:=.p3) trivial rfl rfl (fun _ _=>⟨rfl,rfl⟩) (fun h=>h.elim) (fun h=>h.elim) a2 ⟨rfl,rfl,r4,0,r7,rfl⟩ a3 a4' (by rw[hL];exact a5▸h.tr),a4'⟩⟩
 |zero =>
  have hch:=h.ch;obtain⟨hmd,hcc,hm1⟩:g.md=.none∧g.c=[]∧g.m 1 0=0:=by
   revert hch
   cases g.md<;>cases g.c<;>intro hch
   case none.nil=>exact⟨rfl,rfl,hch.2⟩
   case inq.nil=>exact hch.elim
   all_goals (have:=hch.1;omega)
  obtain⟨s',a1,a2,a3,a4,a5⟩:=kb late hs h ht hact h1 h2 hc 0 0 0 true hm rfl (some 1) ⟨[0,t,t+2,1,r4,1,0,r7],9⟩ [1,2] 1 1 0;have T1:=h.tr.enq ht (OE h hnc.1) hl;rw[hmd,hcc]at T1;have T2:=T1.Li ht (by simp) (Ag _ _ _) (fun u hu=>by
   by_cases e:u=t
   ·rw[e,Ag];rfl
   ·rw[Au _ _ e];exact Nu h hmd u hu)
  have T3:=T2.EV ht (by simp) (Ag _ _ _);rw[Dr,Dr]at T3;refine⟨s',a1,.inl ⟨rfl,K5 h ht (k:=.hold) a2 ⟨rfl,rfl,r4,1,r7,9,rfl⟩ a3 a4 List.nodup_nil (fun u hu=>by cases hu) (fun u hu=>⟨by rw[show u=t from hu];exact ht,by simp⟩) ?_ (fun hf=>hf.elim) (fun u _ _ _ hx=>?_) id (fun u _ _ _=>?_) (fun _ hm=>absurd rfl hm) (fun u _ e _ _=>⟨by rw[hcc];simp,by rw[hmd];exact id⟩) (by rw[a5];exact T3),a4⟩⟩
  ·exact⟨by rw[CV,Ag],by rw[Bt _ _ _ (by decide)];exact hm1,by rw[Ag];trivial⟩
  ·rw[hmd,hcc]at hx;rcases hx with hx |hx
   ·exact .inl (by rw[Bt _ _ _ (by decide)];exact hx)
   ·cases hx
  ·rw[Bt _ _ _ (by decide)]
theorem ZW(hn:n≤64)(hs:Gg n r s)(h:KI n g s)(ht:t<n){w:Nat}(hp:g.P t=.p12 w)(h1:kind≠1)(h2:kind≠2) :
  ∃ s',Gg n (r.op kind t late) s'∧((∃ k,KI n ⟨Ay g.P t k,Ay g.L t 2,g.md,g.c++[t],Bp g.m 0 0 (t+2)⟩ s'∧(k=.fs∨∃ p,k=.lk p))∧g.m 0 0=w+1∨g.m 0 0≠w+1∧KI n ⟨Ay g.P t .p3,Ay g.L t 1,g.md,g.c,g.m⟩ s')∧s'.act=Ay s.act t 1:=by
 have hi:=h.is t ht;rw[hp]at hi;obtain⟨hact,hl,r5,r7,hc⟩:=hi;have hout:(g.P t).out:=by rw[hp];trivial
 have hnc:=I2 h hout;have hL:Ay g.L t 1=g.L:=AZ hl;have hfl:=h.fl t ht (by rw[hp];trivial);have hnil:=h.nil t ht (by rw[hp];trivial);have hnh:¬g.md.hand g.c t:=fun hx=>hnc.1 (by
  revert hx
  cases g.md<;>cases g.c<;>intro hx<;>first |(cases hx;exact List.mem_cons_self ..) |exact hx.elim |cases hx)
 have hf3:g.m 3 t=1:=by rcases hfl with e |e;exact e;exact absurd e hnh
 by_cases hm:g.m 0 0=w+1;case neg =>
  obtain⟨s',a1,a2,a3,a4,a5⟩:=kb late hs h ht hact h1 h2 hc 0 0 (g.m 0 0) false rfl (decide_eq_false hm) none ⟨[0,t,t+2,1,w+1,0,0,r7],3⟩ [] (-1) 0 0;have a4':=ua hact a4;exact⟨s',a1,.inr ⟨hm,I3 h ht hout (p:=.p3) trivial rfl rfl (fun _ _=>⟨rfl,rfl⟩) (fun h=>h.elim) (fun h=>h.elim) a2 ⟨rfl,rfl,w+1,0,r7,rfl⟩ a3 a4' (by rw[hL];exact a5▸h.tr)⟩,a4'⟩
 have hch:=h.ch;have m0:Bp g.m 0 0 (t+2) 0 0=t+2:=by rw[CV,Ag]
 have m1:Bp g.m 0 0 (t+2) 1=g.m 1:=Bt _ _ _ (by decide);have m2:Bp g.m 0 0 (t+2) 2=g.m 2:=Bt _ _ _ (by decide);have m3:Bp g.m 0 0 (t+2) 3=g.m 3:=Bt _ _ _ (by decide);have hfin:(∃ x,w=0∧g.md=.own x∧g.c=[])∨∃ v q,g.c=v::q∧w=CC v q+1:=by
  revert hch
  cases g.md<;>cases g.c<;>intro hch
  case none.nil=>have:=hch.1;omega
  case inq.nil=>exact hch.elim
  case own.nil x=>exact .inl ⟨x,by have:=hch.1;omega,rfl,rfl⟩
  all_goals (rename_i v q;exact .inr ⟨v,q,rfl,by have:=hch.1;omega⟩)
 have hnd':(g.c++[t]).Nodup:=by
  rw[List.nodup_append];exact⟨h.nd,by simp,fun a ha b hb=>by rw[List.mem_singleton.1 hb];exact fun e=>hnc.1 (e▸ha)⟩
 have hlt':∀ u∈g.c++[t],u<n:=fun u hu=>by
  rcases List.mem_append.1 hu with hu |hu
  ·exact h.lt u hu
  ·rw[List.mem_singleton.1 hu];exact ht
 have hot':∀ u,g.md.is u→u<n∧u∉g.c++[t]:=fun u hu=>⟨(h.ot u hu).1,fun hm=>by
  rcases List.mem_append.1 hm with hm |hm
  ·exact(h.ot u hu).2 hm
  ·rw[List.mem_singleton.1 hm]at hu;exact hnc.2 hu⟩
 have hflo:∀ u,u<n→u≠t→(g.P u).fl→g.m 3 u=1∨g.md.hand g.c u→Bp g.m 0 0 (t+2) 3 u=1∨g.md.hand (g.c++[t]) u:=fun u _ _ _ hx=>by
  rw[m3];rcases hx with hx |hx
  ·exact .inl hx
  ·refine .inr ?_
   revert hx
   cases g.md<;>cases g.c<;>intro hx<;>first |exact hx |exact hx.elim |cases hx
 have hfo:∀ u,u<n→u≠t→u∉g.c++[t]→¬g.md.is u→u∉g.c∧¬g.md.is u:=fun u _ _ hx hy=>⟨fun hm=>hx (List.mem_append_left _ hm),hy⟩
 have htq:Cn n (s.tr.enter 2 t) (Ay g.L t 2) (g.md.q (g.c++[t])):=by
  have:=h.tr.enq ht (OE h hnc.1) hl
  revert this
  have hne:g.md=.inq→g.c≠[]:=fun e1 e2=>by rw[e1,e2]at hch;exact hch
  revert hne
  cases g.md<;>cases g.c<;>intro hne this<;>first |exact this |exact absurd rfl (hne rfl)
 rcases hfin with ⟨x,rfl,hmd,hcc⟩ |⟨v,q,hcc,rfl⟩
 ·obtain⟨s',a1,a2,a3,a4,a5⟩:=kb late hs h ht hact h1 h2 hc 0 0 1 true hm rfl (some (t+2)) ⟨[0,t,t+2,1,1,1,0,r7],19⟩ [1] (-1) 1 0;have a4':=ua hact a4;refine⟨s',a1,.inl ⟨⟨.fs,K5 h ht (k:=.fs) a2 ⟨rfl,rfl,1,1,r7,rfl⟩ a3 a4' hnd' hlt' hot' ?_ (fun _=>.inl (by exact(congrFun m3 t).trans hf3)) hflo id (fun u _ _ _=>congrFun m2 u) (fun hx _=>absurd (by simp) hx) hfo (by rw[a5];exact htq),.inl rfl⟩,hm⟩,a4'⟩;have hx:=Ko h (t:=x) (by rw[hmd];rfl);have hxt:x≠t:=fun e=>hnc.2 (by rw[hmd];exact e.symm)
  rw[hmd,hcc]at hch ⊢;refine⟨m0,?_,.inr ⟨Ag _ _ _,?_⟩,?_⟩
  ·show Bp g.m 0 0 (t+2) 2 t=0;rw[m2];exact hnil
  ·show Bp g.m 0 0 (t+2) 1 0=0;rw[m1];exact hch.2.1
  ·rw[Au _ _ hxt];exact Sw (q:=[]) (Fx (fun u hu=>by cases hu) hch.2.2)
 ·have hlt:CC v q<n:=by
   rcases Gm q v with ⟨e,_⟩ |e
   ·rw[e];exact h.lt v (by rw[hcc];simp)
   ·exact h.lt _ (by rw[hcc];simp[e])
  obtain⟨p,hpp⟩:∃ p,CC v q=p:=⟨_,rfl⟩
  rw[hpp]at hlt hm hc;have hdec:=VY (p:=p) (by omega);have ee:∀ (l:Bool) (a:Nat),Gj CE t ⟨[0,t,t+2,1,p+1+1,r5,0,r7],12⟩ l (p+1+1) true a=(some (t+2),⟨[0,t,t+2,1,(p+2+4294967294)%Bj,1,0,r7],17⟩,⟨[1],-1,a,1,0,0⟩):=fun l a=>by cases l<;>kernel_rfl
  rw[hdec]at ee;obtain⟨s',a1,a2,a3,a4,a5⟩:=ka late hs h ht hact h1 h2 hc 0 0 (p+1+1) true hm (decide_eq_true rfl) ee;have a4':=ua hact a4;have hne:∀ u∈g.c,Ay g.P t (.lk p) u=g.P u:=fun u hu=>Au _ _ (fun e=>hnc.1 (e▸hu))
  rw[hcc]at hne;refine⟨s',a1,.inl ⟨⟨.lk p,K5 h ht (k:=.lk p) a2 ⟨rfl,rfl,1,r7,rfl⟩ a3 a4' hnd' hlt' hot' ?_ (fun _=>.inl (by exact(congrFun m3 t).trans hf3)) hflo id (fun u _ _ _=>congrFun m2 u) (fun hx _=>absurd (by simp) hx) hfo (by rw[a5];exact htq),.inr ⟨p,rfl⟩⟩,by rw[hpp];exact hm⟩,a4'⟩;have hsn:Ew g.P (g.m 2) v q→Ew (Ay g.P t (.lk p)) (Bp g.m 0 0 (t+2) 2) v (q++[t]):=fun hk=>by
   rw[m2];exact Nt q v (C5 q v (fun u hu=>hne u (List.mem_cons_of_mem _ hu)) (fun _ _=>rfl) hk) (by rw[Ag,hpp]) hnil
  have hla:Bp g.m 0 0 (t+2) 0 0=CC v (q++[t])+2:=by rw[m0,Io]
  have hev:Ay g.P t (.lk p) v=g.P v:=hne v (List.mem_cons_self ..);have hqq:∀ u∈q,g.P u=.wt→Ay g.P t (.lk p) u=.wt:=fun u hu e=>(hne u (List.mem_cons_of_mem _ hu)).trans e
  rw[hcc]at hch ⊢;cases hmd:g.md<;>rw[hmd]at hch
  case none=>exact⟨hla,hsn hch.2.1,hev.trans hch.2.2.1,(congrFun m3 v).trans hch.2.2.2⟩
  case inq=>exact⟨hla,hsn hch.2.1,by rw[hev,m1];exact VU (HD hqq hch.2.2)⟩
  case own x =>
   have hxt:x≠t:=fun e=>hnc.2 (by rw[hmd];exact e.symm)
   refine⟨hla,hsn hch.2.1,by rw[hev,m1];exact hch.2.2.1,?_⟩;rw[Au _ _ hxt];exact Sw (q:=v::q) (Fx (fun u hu e=>(hne u hu).trans e) hch.2.2.2)
theorem AaO(hn:n≤64)(hs:Gg n r s)(h:KI n g s)(ht:t<n){p:Nat}(hp:g.P t=.lk p)(h1:kind≠1)(h2:kind≠2) :
  ∃ s',Gg n (r.op kind t late) s'∧KI n ⟨Ay g.P t .wt,Ay g.L t 2,g.md,g.c,Bp g.m 2 p (t+2)⟩ s'∧s'.act=Ay s.act t 1:=by
 have hi:=h.is t ht;rw[hp]at hi;obtain⟨hact,hl,r5,r7,hc⟩:=hi;have hL:Ay g.L t 2=g.L:=AZ hl;have htm:¬g.md.is t:=fun hm=>(Mf (Ko h hm).2).2.2.2.2.2.1 p hp
 have htc:t∈g.c:=Classical.byContradiction fun hc=>by have:=h.free t ht hc htm;rw[hp]at this;exact this
 obtain⟨x,q,ec,htq,hne,hlk,hpc⟩:∃ x q,g.c=x::q∧t∈q∧t≠x∧Ew g.P (g.m 2) x q∧p∈g.c:=by
  rcases TO h htc with ⟨q,_,_,e⟩ |⟨q,_,_,e,_⟩ |⟨q,x,_,_,⟨e,_⟩ |⟨e,_⟩⟩ |⟨x,q,b1,b2,b3,b4,e |⟨p',e,b6⟩⟩
  ·rw[hp]at e;exact e.elim
  ·rw[hp]at e;cases e
  ·rw[hp]at e;cases e
  ·rw[hp]at e;cases e
  ·rw[hp]at e;cases e
  ·rw[hp]at e;cases e;exact⟨x,q,b1,b2,b3,b4,b6⟩
 have hpn:=h.lt p hpc;have hnd:=h.nd;rw[ec]at hnd;obtain⟨k1,k2⟩:=Sv q x hnd hlk htq hp;obtain⟨s',a1,a2,a3,a4,a5⟩:=kb late hs h ht hact h1 h2 hc 2 p 0 _ k2 rfl (some (t+2)) ⟨[0,t,t+2,1,p,r5,0,r7],20⟩ [] (-1) 1 0;have a4':=ua hact a4;have m0:Bp g.m 2 p (t+2) 0=g.m 0:=Bt _ _ _ (by decide);have m1:Bp g.m 2 p (t+2) 1=g.m 1:=Bt _ _ _ (by decide);have m2:Bp g.m 2 p (t+2) 2=Ay (g.m 2) p (t+2):=CV _ _ _ _;have m3:Bp g.m 2 p (t+2) 3=g.m 3:=Bt _ _ _ (by decide);refine⟨s',a1,K5 h ht (k:=.wt) a2 ⟨rfl,rfl,p,r5,r7,rfl⟩ a3 a4' h.nd h.lt h.ot ?_ (fun _=>by rw[m3];exact h.fl t ht (by rw[hp];trivial)) (fun u _ _ _ hx=>by rw[m3];exact hx) id (fun u _ _ ho=>by
  rw[m2];exact Au _ _ (fun e=>(I2 h ho).1 (by rw[e];exact hpc))) (fun hx _=>absurd htc hx) (fun _ _ _ h1 h2=>⟨h1,h2⟩) (by rw[hL];exact a5▸h.tr),a4'⟩
 have hch:=h.ch;have hw:∀ u,g.P u=.wt→Ay g.P t .wt u=.wt:=fun u e=>by unfold Ay;split;rfl;exact e
 have hxn:Ay g.P t .wt x=g.P x:=Au _ _ (fun e=>hne e.symm);have hlk':Ew (Ay g.P t .wt) (Bp g.m 2 p (t+2) 2) x q:=by rw[m2];exact k1
 rw[ec]at hch ⊢;cases hmd:g.md<;>rw[hmd]at hch htm
 case none=>exact⟨by rw[m0];exact hch.1,hlk',hw _ hch.2.2.1,by rw[m3];exact hch.2.2.2⟩
 case inq=>exact⟨by rw[m0];exact hch.1,hlk',by rw[hxn,m1];exact HD (fun u _ e=>hw u e) hch.2.2⟩
 case own z=>exact⟨by rw[m0];exact hch.1,hlk',by rw[hxn,m1];exact hch.2.2.1,by rw[Au _ _ (fun e=>htm e.symm)];exact Fx (fun u _ e=>hw u e) hch.2.2.2⟩
theorem AaP(hn:n≤64)(hs:Gg n r s)(h:KI n g s)(ht:t<n)(hp:g.P t=.fs)(h1:kind≠1)(h2:kind≠2) :
  ∃ s',Gg n (r.op kind t late) s'∧KI n ⟨Ay g.P t .wt,Ay g.L t 2,g.md,g.c,Bp g.m 1 0 (t+2)⟩ s'∧s'.act=Ay s.act t 1:=by
 have hi:=h.is t ht;rw[hp]at hi;obtain⟨hact,hl,r4,r5,r7,hc⟩:=hi;have hL:Ay g.L t 2=g.L:=AZ hl;have htm:¬g.md.is t:=fun hm=>(Mf (Ko h hm).2).2.2.2.2.1 hp
 have htc:t∈g.c:=Classical.byContradiction fun hc=>by have:=h.free t ht hc htm;rw[hp]at this;exact this
 obtain⟨q,z,ec,hmd⟩:∃ q z,g.c=t::q∧g.md=.own z:=by
  rcases TO h htc with ⟨q,_,_,e⟩ |⟨q,_,_,e,_⟩ |⟨q,x,b1,b2,_⟩ |⟨x,q,_,_,_,_,e |⟨p',e,_⟩⟩
  ·rw[hp]at e;exact e.elim
  ·rw[hp]at e;cases e
  ·exact⟨q,x,b1,b2⟩
  ·rw[hp]at e;cases e
  ·rw[hp]at e;cases e
 obtain⟨s',a1,a2,a3,a4,a5⟩:=kb late hs h ht hact h1 h2 hc 1 0 (g.m 1 0) _ rfl rfl (some (t+2)) ⟨[0,t,t+2,1,r4,r5,0,r7],20⟩ [] (-1) 1 0;have a4':=ua hact a4;have m0:Bp g.m 1 0 (t+2) 0=g.m 0:=Bt _ _ _ (by decide);have m1:Bp g.m 1 0 (t+2) 1 0=t+2:=(congrFun (CV _ _ _ _) 0).trans (Ag _ _ _);have m2:Bp g.m 1 0 (t+2) 2=g.m 2:=Bt _ _ _ (by decide);have m3:Bp g.m 1 0 (t+2) 3=g.m 3:=Bt _ _ _ (by decide);refine⟨s',a1,K5 h ht (k:=.wt) a2 ⟨rfl,rfl,r4,r5,r7,rfl⟩ a3 a4' h.nd h.lt h.ot ?_ (fun _=>by rw[m3];exact h.fl t ht (by rw[hp];trivial)) (fun u _ _ _ hx=>by rw[m3];exact hx) id (fun u _ _ ho=>by
  rw[m2]) (fun hx _=>absurd htc hx) (fun _ _ _ h1 h2=>⟨h1,h2⟩) (by rw[hL];exact a5▸h.tr),a4'⟩
 have hch:=h.ch;have hw:∀ u,g.P u=.wt→Ay g.P t .wt u=.wt:=fun u e=>by unfold Ay;split;rfl;exact e
 have hnd:=h.nd;rw[ec]at hnd;have hnd:=List.nodup_cons.1 hnd;rw[hmd]at htm;rw[ec,hmd]at hch ⊢;refine⟨by rw[m0];exact hch.1,?_,.inl ⟨Ag _ _ _,m1⟩,?_⟩
 ·rw[m2];exact C5 q t (fun u hu=>Au _ _ (fun e=>hnd.1 (e▸hu))) (fun _ _=>rfl) hch.2.1
 ·rw[Au _ _ (fun e=>htm e.symm)];exact Fx (fun u _ e=>hw u e) hch.2.2.2
theorem Rx(h:KI n g s)(ht:t<n){c:CoreM}(W:Wd (Qi n) s'.words g.m)(is':(g.P t).is t (s.act t) c (g.L t))(hc:s'.core=Ay s.core t c)(ha:s'.act=s.act)(tr:s'.tr=s.tr):KI n g s':=by
 refine⟨W,?_,h.nd,h.lt,h.ot,h.ch,h.fl,h.nil,h.free,by rw[tr];exact h.tr⟩;have:=OD (t:=t) h.is (g.P t) (s.act t) c (g.L t) is';rw[AZ (f:=g.P) rfl,AZ (f:=s.act) rfl,AZ (f:=g.L) rfl]at this;rw[hc,ha];exact this
theorem XK(hn:n≤64)(hs:Gg n r s)(h:KI n g s)(ht:t<n)(hp:g.P t=.wt){q:List Nat}(ec:g.c=t::q)(hmd:g.md=.none)(hm:g.m 3 t=0)(h1:kind≠1)(h2:kind≠2) :
  ∃ s',Gg n (r.op kind t late) s'∧KI n ⟨Ay g.P t .a22,Ay g.L t 3,.inq,g.c,g.m⟩ s'∧s'.act=Ay s.act t 1:=by
 have hi:=h.is t ht;rw[hp]at hi;obtain⟨hact,hl,r4,r5,r7,hc⟩:=hi;obtain⟨s',a1,a2,a3,a4,a5⟩:=kb late hs h ht hact h1 h2 hc 3 t 0 _ hm rfl none ⟨[0,t,t+2,1,r4,0,0,r7],22⟩ [2] (-1) 0 0;have a4':=ua hact a4;have hnd:=h.nd;rw[ec]at hnd;have hnd:=List.nodup_cons.1 hnd;have T0:=h.tr;rw[hmd,ec]at T0;have T1:=T0.Li ht hnd.1 hl (Nu h hmd);refine⟨s',a1,K5 h ht (k:=.a22) a2 ⟨rfl,rfl,r4,0,r7,rfl⟩ a3 a4' h.nd h.lt (fun _ hx=>hx.elim) ?_ (fun hf=>hf.elim) (fun u _ hu _ hx=>?_) id (fun _ _ _ _=>rfl) (fun hx _=>absurd (by rw[ec];simp) hx) (fun u _ _ hx _=>⟨hx,by rw[hmd];exact id⟩) (by rw[a5,ec];exact T1),a4'⟩
 ·have hch:=h.ch;rw[ec,hmd]at hch;rw[ec];refine⟨hch.1,C5 q t (fun u hu=>Au _ _ (fun e=>hnd.1 (e▸hu))) (fun _ _=>rfl) hch.2.1,?_⟩;rw[Ag];trivial
 ·rcases hx with hx |hx
  ·exact .inl hx
  ·rw[hmd,ec]at hx;exact absurd (by simpa [KM.hand]using hx:t=u) (fun e=>hu e.symm)
theorem YT(hn:n≤64)(hs:Gg n r s)(h:KI n g s)(ht:t<n)(hp:g.P t=.wt)(hm:g.m 3 t=1)(h1:kind≠1)(h2:kind≠2) :
  ∃ s',Gg n (r.op kind t late) s'∧KI n g s'∧s'.act=s.act:=by
 have hi:=h.is t ht;rw[hp]at hi;obtain⟨hact,hl,r4,r5,r7,hc⟩:=hi;obtain⟨s',a1,a2,a3,a4,a5⟩:=kb late hs h ht hact h1 h2 hc 3 t 1 _ hm rfl none ⟨[0,t,t+2,1,r4,1,0,r7],20⟩ [] (-1) 0 1;exact⟨s',a1,Rx h ht a2 (by rw[hp];exact⟨hact,hl,r4,1,r7,rfl⟩) a3 a4 a5,a4⟩
theorem VZ{q:List Nat}(hlk:Ew g.P (g.m 2) t q):g.m 2 t=0∧(∀ v q',q=v::q'→g.P v≠.wt)∨∃ v q',q=v::q'∧g.P v=.wt∧g.m 2 t=v+2:=by
 cases q with
 |nil=>exact .inl ⟨hlk,fun v q' e=>by cases e⟩
 |cons v q' =>
  rcases hlk.1 with h1 |h1
  ·exact .inr ⟨v,q',rfl,h1⟩
  ·exact .inl ⟨h1.2,fun v q' e=>by cases e;rw[h1.1];exact fun e=>by cases e⟩
theorem ZX(hn:n≤64)(hs:Gg n r s)(h:KI n g s)(ht:t<n)(hp:g.P t=.a22)(h1:kind≠1)(h2:kind≠2) :
  ∃ s',Gg n (r.op kind t late) s'∧∃ k,KI n ⟨Ay g.P t k,Ay g.L t 3,g.md,g.c,g.m⟩ s'∧s'.act=Ay s.act t 1∧(k=.a24∨∃ v,k=.a28 v):=by
 have hi:=h.is t ht;rw[hp]at hi;obtain⟨hact,hl,r4,r5,r7,hc⟩:=hi;have hL:Ay g.L t 3=g.L:=AZ hl;obtain⟨q,hmd,ec,hm0,hlk,hk⟩:=TP h ht (by rw[hp];exact id) (by rw[hp];exact fun _ _=>id) (by rw[hp];simp) (by rw[hp];simp) (by rw[hp];simp);rw[hp]at hk;rcases VZ hlk with ⟨m0,_⟩ |⟨v,q',rfl,b1,b2⟩
 ·obtain⟨s',a1,a2,a3,a4,a5⟩:=kb late hs h ht hact h1 h2 hc 2 t 0 _ m0 rfl none ⟨[0,t,t+2,1,0,r5,0,r7],24⟩ [] (-1) 0 0;have a4':=ua hact a4;exact⟨s',a1,.a24,Mg h ht hmd ec (k:=.a24) trivial rfl rfl rfl a2 ⟨rfl,rfl,0,r5,r7,rfl⟩ a3 a4' (by rw[hL];exact a5▸h.tr),a4',.inl rfl⟩
 ·obtain⟨s',a1,a2,a3,a4,a5⟩:=kb late hs h ht hact h1 h2 hc 2 t (v+2) _ b2 rfl none ⟨[0,t,t+2,1,v+2,r5,0,r7],28⟩ [] (-1) 0 0;have a4':=ua hact a4;exact⟨s',a1,.a28 v,Mg h ht hmd ec (k:=.a28 v) ⟨b1,q',rfl⟩ rfl rfl rfl a2 ⟨rfl,rfl,r5,r7,rfl⟩ a3 a4' (by rw[hL];exact a5▸h.tr),a4',.inr ⟨v,rfl⟩⟩
theorem ZY(hn:n≤64)(hs:Gg n r s)(h:KI n g s)(ht:t<n)(hp:g.P t=.a24)(h1:kind≠1)(h2:kind≠2) :
  ∃ s',Gg n (r.op kind t late) s'∧KI n ⟨Ay g.P t .a25,Ay g.L t 3,g.md,g.c,Bp g.m 1 0 0⟩ s'∧s'.act=Ay s.act t 1:=by
 have hi:=h.is t ht;rw[hp]at hi;obtain⟨hact,hl,r4,r5,r7,hc⟩:=hi;have hL:Ay g.L t 3=g.L:=AZ hl;obtain⟨q,hmd,ec,hm0,hlk,hk⟩:=TP h ht (by rw[hp];exact id) (by rw[hp];exact fun _ _=>id) (by rw[hp];simp) (by rw[hp];simp) (by rw[hp];simp);rw[hp]at hk;obtain⟨s',a1,a2,a3,a4,a5⟩:=kb late hs h ht hact h1 h2 hc 1 0 (g.m 1 0) _ rfl rfl (some 0) ⟨[0,t,t+2,1,r4,r5,0,r7],25⟩ [] (-1) 1 0;have a4':=ua hact a4;exact⟨s',a1,Mg h ht hmd ec (k:=.a25) ((congrFun (CV _ _ _ _) 0).trans (Ag _ _ _)) (Bt _ _ _ (by decide)) (Bt _ _ _ (by decide)) (Bt _ _ _ (by decide)) a2 ⟨rfl,rfl,r4,r5,r7,rfl⟩ a3 a4' (by rw[hL];exact a5▸h.tr),a4'⟩
theorem ZZ(hn:n≤64)(hs:Gg n r s)(h:KI n g s)(ht:t<n)(hp:g.P t=.a25)(h1:kind≠1)(h2:kind≠2) :
  ∃ s',Gg n (r.op kind t late) s'∧(g.m 0 0=t+2∧KI n ⟨Ay g.P t .hold,Ay g.L t 5,.own t,[],Bp g.m 0 0 1⟩ s'∧s'.act=Ay s.act t 2∨KI n ⟨Ay g.P t .a27,Ay g.L t 3,g.md,g.c,g.m⟩ s'∧s'.act=Ay s.act t 1):=by
 have hi:=h.is t ht;rw[hp]at hi;obtain⟨hact,hl,r4,r5,r7,hc⟩:=hi;have hL:Ay g.L t 3=g.L:=AZ hl;obtain⟨q,hmd,ec,hm0,hlk,hk⟩:=TP h ht (by rw[hp];exact id) (by rw[hp];exact fun _ _=>id) (by rw[hp];simp) (by rw[hp];simp) (by rw[hp];simp);rw[hp]at hk;have hnd:=h.nd;rw[ec]at hnd;have hnd:=List.nodup_cons.1 hnd;rcases Gm q t with ⟨b1,rfl⟩ |b1
 ·rw[b1]at hm0;obtain⟨s',a1,a2,a3,a4,a5⟩:=kb late hs h ht hact h1 h2 hc 0 0 (t+2) true hm0 (decide_eq_true rfl) (some 1) ⟨[0,t,t+2,1,r4,1,0,r7],29⟩ [] 1 1 0;have T0:=h.tr;rw[hmd,ec]at T0;have T1:=T0.EV ht (by simp[KM.q]) hl;refine⟨s',a1,.inl ⟨hm0,K5 h ht (k:=.hold) a2 ⟨rfl,rfl,r4,1,r7,29,rfl⟩ a3 a4 List.nodup_nil (fun u hu=>by cases hu) (fun u hu=>⟨by rw[show u=t from hu];exact ht,by simp⟩) ?_ (fun hf=>hf.elim) (fun u _ _ _ hx=>?_) id (fun u _ _ _=>?_) (fun _ hm=>absurd rfl hm) (fun u _ e _ _=>⟨by rw[ec];simpa using e,by rw[hmd];exact id⟩) (by rw[a5];exact T1),a4⟩⟩
  ·exact⟨(congrFun (CV _ _ _ _) 0).trans (Ag _ _ _),(congrFun (Bt _ _ _ (by decide)) 0).trans hk,by rw[Ag];trivial⟩
  ·rw[hmd]at hx;rcases hx with hx |hx
   ·exact .inl ((congrFun (Bt _ _ _ (by decide)) u).trans hx)
   ·exact hx.elim
  ·exact congrFun (Bt _ _ _ (by decide)) u
 ·have hne:CC t q≠t:=fun e=>hnd.1 (e▸b1)
  have hqne:q≠[]:=fun e=>by rw[e]at b1;cases b1
  obtain⟨s',a1,a2,a3,a4,a5⟩:=kb late hs h ht hact h1 h2 hc 0 0 (CC t q+2) false hm0 (decide_eq_false (fun e=>hne (by have e:CC t q+2=t+2:=e;omega))) none ⟨[0,t,t+2,1,r4,0,0,r7],27⟩ [] (-1) 0 0;have a4':=ua hact a4;exact⟨s',a1,.inr ⟨Mg h ht hmd ec (k:=.a27) hqne rfl rfl rfl a2 ⟨rfl,rfl,r4,0,r7,rfl⟩ a3 a4' (by rw[hL];exact a5▸h.tr),a4'⟩⟩
theorem Aaa(hn:n≤64)(hs:Gg n r s)(h:KI n g s)(ht:t<n)(hp:g.P t=.a27)(h1:kind≠1)(h2:kind≠2) :
  ∃ s',Gg n (r.op kind t late) s'∧((∃ v,KI n ⟨Ay g.P t (.a28 v),Ay g.L t 3,g.md,g.c,g.m⟩ s'∧s'.act=Ay s.act t 1)∨KI n g s'∧s'.act=s.act∧∃ v q,g.c=t::v::q∧g.P v≠.wt):=by
 have hi:=h.is t ht;rw[hp]at hi;obtain⟨hact,hl,r4,r5,r7,hc⟩:=hi;have hL:Ay g.L t 3=g.L:=AZ hl;obtain⟨q,hmd,ec,hm0,hlk,hk⟩:=TP h ht (by rw[hp];exact id) (by rw[hp];exact fun _ _=>id) (by rw[hp];simp) (by rw[hp];simp) (by rw[hp];simp);rw[hp]at hk;rcases VZ hlk with ⟨m0,b0⟩ |⟨v,q',rfl,b1,b2⟩
 ·obtain⟨s',a1,a2,a3,a4,a5⟩:=kb late hs h ht hact h1 h2 hc 2 t 0 _ m0 rfl none ⟨[0,t,t+2,1,0,r5,0,r7],27⟩ [] (-1) 0 1;refine⟨s',a1,.inr ⟨Rx h ht a2 (by rw[hp];exact⟨hact,hl,0,r5,r7,rfl⟩) a3 a4 a5,a4,?_⟩⟩;cases q with
  |nil=>exact absurd rfl hk
  |cons v q=>exact⟨v,q,ec,b0 v q rfl⟩
 ·obtain⟨s',a1,a2,a3,a4,a5⟩:=kb late hs h ht hact h1 h2 hc 2 t (v+2) _ b2 rfl none ⟨[0,t,t+2,1,v+2,r5,0,r7],28⟩ [] (-1) 0 0;have a4':=ua hact a4;exact⟨s',a1,.inl ⟨v,Mg h ht hmd ec (k:=.a28 v) ⟨b1,q',rfl⟩ rfl rfl rfl a2 ⟨rfl,rfl,r5,r7,rfl⟩ a3 a4' (by rw[hL];exact a5▸h.tr),a4'⟩⟩
theorem Aab(hn:n≤64)(hs:Gg n r s)(h:KI n g s)(ht:t<n){v:Nat}(hp:g.P t=.a28 v)(h1:kind≠1)(h2:kind≠2) :
  ∃ s',Gg n (r.op kind t late) s'∧∃ q',KI n ⟨Ay g.P t .hold,Ay g.L t 5,.own t,q',Bp g.m 1 0 (v+2)⟩ s'∧s'.act=Ay s.act t 2:=by
 have hi:=h.is t ht;rw[hp]at hi;obtain⟨hact,hl,r5,r7,hc⟩:=hi;obtain⟨q,hmd,ec,hm0,hlk,hk⟩:=TP h ht (by rw[hp];exact id) (by rw[hp];exact fun _ _=>id) (by rw[hp];simp) (by rw[hp];simp) (by rw[hp];simp);rw[hp]at hk;obtain⟨b1,q',rfl⟩:=hk;have hnd:=h.nd;rw[ec]at hnd;have hnd:=List.nodup_cons.1 hnd;obtain⟨s',a1,a2,a3,a4,a5⟩:=kb late hs h ht hact h1 h2 hc 1 0 (g.m 1 0) _ rfl rfl (some (v+2)) ⟨[0,t,t+2,1,v+2,r5,0,r7],29⟩ [] 1 1 0;have T0:=h.tr;rw[hmd,ec]at T0;have T1:=T0.EV ht hnd.1 hl;have hne:∀ u∈v::q',Ay g.P t .hold u=g.P u:=fun u hu=>Au _ _ (fun e=>hnd.1 (e▸hu))
 refine⟨s',a1,v::q',K5 h ht (k:=.hold) a2 ⟨rfl,rfl,v+2,r5,r7,29,rfl⟩ a3 a4 hnd.2 (fun u hu=>h.lt u (by rw[ec];exact List.mem_cons_of_mem _ hu)) (fun u hu=>by rw[show u=t from hu];exact⟨ht,hnd.1⟩) ?_ (fun hf=>hf.elim) (fun u _ _ _ hx=>?_) id (fun u _ _ _=>congrFun (Bt _ _ _ (by decide)) u) (fun _ hm=>absurd rfl hm) (fun u _ e hx _=>⟨by rw[ec];intro hm;rcases List.mem_cons.1 hm with e' |e';exact e e';exact hx e',by rw[hmd];exact id⟩) (by rw[a5];exact T1),a4⟩
 ·refine⟨(congrFun (Bt _ _ _ (by decide)) 0).trans hm0,?_,.inl ⟨(hne v (List.mem_cons_self ..)).trans b1,(congrFun (CV _ _ _ _) 0).trans (Ag _ _ _)⟩,by rw[Ag];trivial⟩;rw[show Bp g.m 1 0 (v+2) 2=g.m 2 from Bt _ _ _ (by decide)];exact C5 q' v (fun u hu=>hne u (List.mem_cons_of_mem _ hu)) (fun _ _=>rfl) hlk.2
 ·rw[hmd]at hx;rcases hx with hx |hx
  ·exact .inl ((congrFun (Bt _ _ _ (by decide)) u).trans hx)
  ·exact hx.elim
theorem Mh(h:KI n g s)(hmd:g.md=.own t):(g.c=[]∧g.m 0 0=1∧g.m 1 0=0)∨(∃ v q,g.c=v::q∧g.m 0 0=CC v q+2∧g.P v≠.wt∧g.m 1 0=0)∨∃ v q,g.c=v::q∧g.m 0 0=CC v q+2∧g.P v=.wt∧g.m 1 0=v+2:=by
 have hch:=h.ch;rw[hmd]at hch
 revert hch
 cases g.c with
 |nil=>exact fun hch=>.inl ⟨rfl,hch.1,hch.2.1⟩
 |cons v q =>
  intro hch;rcases hch.2.2.1 with ⟨b1,b2⟩ |⟨b1,b2⟩
  ·exact .inr (.inr ⟨v,q,rfl,hch.1,b1,b2⟩)
  ·exact .inr (.inl ⟨v,q,rfl,hch.1,by rw[b1];simp,b2⟩)
theorem Yg(hn:n≤64)(hs:Gg n r s)(h:KI n g s)(ht:t<n)(hp:g.P t=.u30)(h1:kind≠1)(h2:kind≠2) :
  ∃ s',Gg n (r.op kind t late) s'∧∃ k,KI n ⟨Ay g.P t k,Ay g.L t 8,g.md,g.c,g.m⟩ s'∧s'.act=Ay s.act t 3∧(k=.u33∨∃ v,k=.u39 v)∧(g.c=[]→k=.u33):=by
 have hi:=h.is t ht;rw[hp]at hi;obtain⟨hact,hl,r4,r5,r7,hc⟩:=hi;have hL:Ay g.L t 8=g.L:=AZ hl;obtain⟨hmd,htc,hk⟩:=VW h ht (by rw[hp];exact id) (by rw[hp];exact fun _ _ _=>id) (by rw[hp];simp) (by rw[hp];simp) (by rw[hp];simp);rw[hp]at hk;have hz:g.m 1 0=0∨∃ v q,g.c=v::q∧g.P v=.wt∧g.m 1 0=v+2:=by
  rcases Mh h hmd with ⟨_,_,e⟩ |⟨_,_,_,_,_,e⟩ |⟨v,q,b1,_,b2,b3⟩
  ·exact .inl e
  ·exact .inl e
  ·exact .inr ⟨v,q,b1,b2,b3⟩
 rcases hz with m0 |⟨v,q,b0,b1,b2⟩
 ·obtain⟨s',a1,a2,a3,a4,a5⟩:=kb late hs h ht hact h1 h2 hc 1 0 0 _ m0 rfl none ⟨[0,t,t+2,1,0,r5,0,r7],33⟩ [] (-1) 0 0;have a4':=ua hact a4;exact⟨s',a1,.u33,VX h ht hmd htc (k:=.u33) trivial a2 ⟨rfl,rfl,0,r5,r7,rfl⟩ a3 a4' (by rw[hL];exact a5▸h.tr),a4',.inl rfl,fun _=>rfl⟩
 ·have hv:=h.lt v (by rw[b0];simp);have hdec:=VY (p:=v) (by omega);have ee:∀ (l:Bool) (a:Nat),Gj CE t ⟨[0,t,t+2,1,r4,r5,0,r7],30⟩ l (v+2) (decide (v+2=0)) a=(none,⟨[0,t,t+2,1,(v+2+4294967294)%Bj,r5,0,r7],39⟩,⟨[],-1,a,0,0,0⟩):=fun l a=>by cases l<;>kernel_rfl
  rw[hdec]at ee;obtain⟨s',a1,a2,a3,a4,a5⟩:=ka late hs h ht hact h1 h2 hc 1 0 (v+2) _ b2 rfl ee;have a4':=ua hact a4;exact⟨s',a1,.u39 v,VX h ht hmd htc (k:=.u39 v) ⟨b1,q,b0⟩ a2 ⟨rfl,rfl,r5,r7,rfl⟩ a3 a4' (by rw[hL];exact a5▸h.tr),a4',.inr ⟨v,rfl⟩,fun e=>by rw[b0]at e;cases e⟩
theorem Aac(hn:n≤64)(hs:Gg n r s)(h:KI n g s)(ht:t<n)(hp:g.P t=.u37)(h1:kind≠1)(h2:kind≠2) :
  ∃ s',Gg n (r.op kind t late) s'∧((∃ v,KI n ⟨Ay g.P t (.u39 v),Ay g.L t 8,g.md,g.c,g.m⟩ s'∧s'.act=Ay s.act t 3)∨KI n g s'∧s'.act=s.act∧g.md=.own t∧∃ v q,g.c=v::q∧g.P v≠.wt):=by
 have hi:=h.is t ht;rw[hp]at hi;obtain⟨hact,hl,r4,r5,r7,hc⟩:=hi;have hL:Ay g.L t 8=g.L:=AZ hl;obtain⟨hmd,htc,hk⟩:=VW h ht (by rw[hp];exact id) (by rw[hp];exact fun _ _ _=>id) (by rw[hp];simp) (by rw[hp];simp) (by rw[hp];simp);rw[hp]at hk;rcases Mh h hmd with ⟨e,_⟩ |⟨v,q,b0,_,b1,m0⟩ |⟨v,q,b0,_,b1,b2⟩
 ·exact absurd e hk
 ·obtain⟨s',a1,a2,a3,a4,a5⟩:=kb late hs h ht hact h1 h2 hc 1 0 0 _ m0 rfl none ⟨[0,t,t+2,1,0,r5,0,r7],37⟩ [] (-1) 0 1;exact⟨s',a1,.inr ⟨Rx h ht a2 (by rw[hp];exact⟨hact,hl,0,r5,r7,rfl⟩) a3 a4 a5,a4,hmd,v,q,b0,b1⟩⟩
 ·have hv:=h.lt v (by rw[b0];simp);have hdec:=VY (p:=v) (by omega);have ee:∀ (l:Bool) (a:Nat),Gj CE t ⟨[0,t,t+2,1,r4,r5,0,r7],37⟩ l (v+2) (decide (v+2=0)) a=(none,⟨[0,t,t+2,1,(v+2+4294967294)%Bj,r5,0,r7],39⟩,⟨[],-1,a,0,0,0⟩):=fun l a=>by cases l<;>kernel_rfl
  rw[hdec]at ee;obtain⟨s',a1,a2,a3,a4,a5⟩:=ka late hs h ht hact h1 h2 hc 1 0 (v+2) _ b2 rfl ee;have a4':=ua hact a4;exact⟨s',a1,.inl ⟨v,VX h ht hmd htc (k:=.u39 v) ⟨b1,q,b0⟩ a2 ⟨rfl,rfl,r5,r7,rfl⟩ a3 a4' (by rw[hL];exact a5▸h.tr),a4'⟩⟩
theorem Yh(hn:n≤64)(hs:Gg n r s)(h:KI n g s)(ht:t<n)(hp:g.P t=.u33)(h1:kind≠1)(h2:kind≠2) :
  ∃ s',Gg n (r.op kind t late) s'∧(g.c=[]∧KI n ⟨Ay g.P t .idle,Ay g.L t 10,.none,[],Bp g.m 0 0 0⟩ s'∧s'.act=Ay s.act t 0∨g.c≠[]∧KI n ⟨Ay g.P t .u37,Ay g.L t 8,g.md,g.c,g.m⟩ s'∧s'.act=Ay s.act t 3):=by
 have hi:=h.is t ht;rw[hp]at hi;obtain⟨hact,hl,r4,r5,r7,hc⟩:=hi;have hL:Ay g.L t 8=g.L:=AZ hl;obtain⟨hmd,htc,hk⟩:=VW h ht (by rw[hp];exact id) (by rw[hp];exact fun _ _ _=>id) (by rw[hp];simp) (by rw[hp];simp) (by rw[hp];simp);rw[hp]at hk;have hz:(g.c=[]∧g.m 0 0=1∧g.m 1 0=0)∨g.c≠[]∧∃ w,g.m 0 0=w+2:=by
  rcases Mh h hmd with e |⟨v,q,b0,b1,_⟩ |⟨v,q,b0,b1,_⟩
  ·exact .inl e
  ·exact .inr ⟨by rw[b0];simp,_,b1⟩
  ·exact .inr ⟨by rw[b0];simp,_,b1⟩
 rcases hz with ⟨ec,e0,e1⟩ |⟨ec,w,e0⟩
 ·obtain⟨s',a1,a2,a3,a4,a5⟩:=kb late hs h ht hact h1 h2 hc 0 0 1 true e0 rfl (some 0) ⟨[0,t,t+2,1,r4,1,0,r7],36⟩ [4] 2 1 0;have hq0:g.md.q g.c=[]:=by rw[hmd,ec];rfl
  have T1:=h.tr.release ht (by rw[hq0];simp) hl;have T2:=T1.over ht (by rw[hq0];simp) (Ag _ _ _);rw[Dr,hq0]at T2;refine⟨s',a1,.inl ⟨ec,K5 h ht (k:=.idle) a2 ⟨rfl,.inr rfl,t,t+2,1,r4,1,r7,36,rfl⟩ a3 a4 List.nodup_nil (fun u hu=>by cases hu) (fun u hu=>hu.elim) ?_ (fun hf=>hf.elim) (fun u _ _ _ hx=>?_) id (fun u _ _ _=>congrFun (Bt _ _ _ (by decide)) u) (fun _ _=>trivial) (fun u _ e _ _=>⟨by rw[ec];simp,by rw[hmd];exact e⟩) (by rw[a5];exact T2),a4⟩⟩
  ·exact⟨(congrFun (CV _ _ _ _) 0).trans (Ag _ _ _),(congrFun (Bt _ _ _ (by decide)) 0).trans e1⟩
  ·rw[hmd]at hx;rcases hx with hx |hx
   ·exact .inl ((congrFun (Bt _ _ _ (by decide)) u).trans hx)
   ·exact hx.elim
 ·obtain⟨s',a1,a2,a3,a4,a5⟩:=kb late hs h ht hact h1 h2 hc 0 0 (w+2) false e0 (decide_eq_false (fun e=>by have e:w+2=1:=e;omega)) none ⟨[0,t,t+2,1,r4,0,0,r7],37⟩ [] (-1) 0 0;have a4':=ua hact a4;exact⟨s',a1,.inr ⟨ec,VX h ht hmd htc (k:=.u37) ec a2 ⟨rfl,rfl,r4,0,r7,rfl⟩ a3 a4' (by rw[hL];exact a5▸h.tr),a4'⟩⟩
theorem Aad(hn:n≤64)(hs:Gg n r s)(h:KI n g s)(ht:t<n){v:Nat}(hp:g.P t=.u39 v)(h1:kind≠1)(h2:kind≠2) :
  ∃ s',Gg n (r.op kind t late) s'∧KI n ⟨Ay g.P t .idle,Ay g.L t 10,.none,g.c,Bp g.m 3 v 0⟩ s'∧s'.act=Ay s.act t 0:=by
 have hi:=h.is t ht;rw[hp]at hi;obtain⟨hact,hl,r5,r7,hc⟩:=hi;obtain⟨hmd,htc,hk⟩:=VW h ht (by rw[hp];exact id) (by rw[hp];exact fun _ _ _=>id) (by rw[hp];simp) (by rw[hp];simp) (by rw[hp];simp);rw[hp]at hk;obtain⟨b1,q',ec⟩:=hk;have hv:=h.lt v (by rw[ec];simp);obtain⟨s',a1,a2,a3,a4,a5⟩:=kb late hs h ht hact h1 h2 hc 3 v (g.m 3 v) _ rfl rfl (some 0) ⟨[0,t,t+2,1,v,r5,0,r7],41⟩ [4] 2 1 0;have T0:=h.tr;rw[hmd]at T0;have T1:=T0.release ht htc hl;have T2:=T1.over ht htc (Ag _ _ _);rw[Dr]at T2;have hne:∀ u∈g.c,Ay g.P t .idle u=g.P u:=fun u hu=>Au _ _ (fun e=>htc (e▸hu))
 refine⟨s',a1,K5 h ht (k:=.idle) a2 ⟨rfl,.inr rfl,t,t+2,1,v,r5,r7,41,rfl⟩ a3 a4 h.nd h.lt (fun u hu=>hu.elim) ?_ (fun hf=>hf.elim) (fun u _ _ _ hx=>?_) id (fun u _ _ _=>congrFun (Bt _ _ _ (by decide)) u) (fun _ _=>trivial) (fun u _ e hx _=>⟨hx,by rw[hmd];exact e⟩) (by rw[a5];exact T2),a4⟩
 ·have hch:=h.ch;rw[hmd]at hch;rw[ec]at hch hne ⊢;refine⟨(congrFun (Bt _ _ _ (by decide)) 0).trans hch.1,?_,(hne v (List.mem_cons_self ..)).trans b1,(congrFun (CV _ _ _ _) v).trans (Ag _ _ _)⟩;rw[show Bp g.m 3 v 0 2=g.m 2 from Bt _ _ _ (by decide)];exact C5 q' v (fun u hu=>hne u (List.mem_cons_of_mem _ hu)) (fun _ _=>rfl) hch.2.1
 ·rw[hmd]at hx;rcases hx with hx |hx
  ·by_cases e:u=v
   ·exact .inr (by rw[ec,e];rfl)
   ·exact .inl ((congrFun (CV _ _ _ _) u).trans ((Au _ _ e).trans hx))
  ·exact hx.elim
end
theorem I4(m:Nat→Nat→Nat)(A p v:Nat)(h:0≠A):Bp m A p v 0 0=m 0 0:=congrFun (Bt m p v h) 0
def GM(n:Nat)(g:KG):Nat:=B0 n (fun t=>(g.P t).rk (4*n) (g.m 0 0))
def Mi(g:KG)(t:Nat):Prop:=(g.P t=.wt∧¬(g.md=.none∧∃ q,g.c=t::q))∨(g.P t=.a27∧∃ v q,g.c=t::v::q∧g.P v≠.wt)∨(g.P t=.u37∧g.md=.own t∧∃ v q,g.c=v::q∧g.P v≠.wt)
theorem Nv{n t:Nat}{g g':KG}(ht:t<n){k:KK}(hP:g'.P=Ay g.P t k)(hm:g'.m 0 0=g.m 0 0)(hk:k.rk (4*n) (g.m 0 0)<(g.P t).rk (4*n) (g.m 0 0)):GM n g'<GM n g:=by
 have:=D0 (f:=fun t=>(g.P t).rk (4*n) (g.m 0 0)) (g:=fun t=>(g'.P t).rk (4*n) (g'.m 0 0)) n ht (fun u hu=>by(try dsimp only);rw[hP,hm,Au _ _ hu]);try dsimp only at this
 rw[hP,Ag,hm]at this;unfold GM;rw[hP,hm];omega
theorem Aae(K a b:Nat)(k:KK):k.rk K a≤k.rk K b+4:=by
 cases k<;>simp only[KK.rk]<;>(try split)<;>(try split)<;>omega
theorem Mj{f h:Nat→Nat}:∀ n:Nat,(∀ t,t<n→f t≤h t+4)→B0 n f≤B0 n h+4*n
 |0,_=>Nl _
 |n+1,hh=>by
  have:=Mj n (fun t ht=>hh t (by omega));have:=hh n (by omega);rw[B0,B0];omega
theorem TQ{n t:Nat}{g g':KG}(ht:t<n){k:KK}(hP:g'.P=Ay g.P t k)(hk:k.rk (4*n) (g.m 0 0)+4*n<(g.P t).rk (4*n) (g.m 0 0)):GM n g'<GM n g:=by
 have h1:GM n g'≤B0 n (fun t=>(g'.P t).rk (4*n) (g.m 0 0))+4*n:=Mj n (fun t _=>Aae _ _ _ _);have:=D0 (f:=fun t=>(g.P t).rk (4*n) (g.m 0 0)) (g:=fun t=>(g'.P t).rk (4*n) (g.m 0 0)) n ht (fun u hu=>by(try dsimp only);rw[hP,Au _ _ hu]);try dsimp only at this
 rw[hP,Ag]at this;rw[hP]at h1;unfold GM at h1 ⊢;omega
section
variable {n:Nat} {s s':LS} {g:KG} {t:Nat} {r:AQ} {late kind:Int}
theorem YU(hn:n≤64)(hs:Gg n r s)(h:KI n g s)(ht:t<n)(ha:s.act t=1∨s.act t=3)(h1:kind≠1)(h2:kind≠2) :
  ∃ s' g',Gg n (r.op kind t late) s'∧KI n g' s' ∧
   ((∃ a,s'.act=Ay s.act t a∧(s.act t=1∧(a=1∨a=2)∨s.act t=3∧(a=3∨a=0))∧GM n g'<GM n g)∨(g'=g∧s'.act=s.act∧Mi g t)):=by
 have hi:=h.is t ht;have hsame:∀ (g':KG) (k:KK),g'.P=Ay g.P t k→g'.m 0 0=g.m 0 0→k.rk (4*n) (g.m 0 0)<(g.P t).rk (4*n) (g.m 0 0)→GM n g'<GM n g:=fun g' k=>Nv ht
 have htail:∀ (g':KG) (k:KK),g'.P=Ay g.P t k→k.rk (4*n) (g.m 0 0)+4*n<(g.P t).rk (4*n) (g.m 0 0)→GM n g'<GM n g:=fun g' k=>TQ ht
 cases hp:g.P t<;>rw[hp]at hi hsame htail<;>simp only[KK.is]at hi
 case idle=>omega
 case hold=>omega
 case p3 =>
  obtain⟨s',a1,k,a2,a3,a4⟩:=ZS (late:=late) hn hs h ht hp h1 h2;refine⟨s',_,a1,a2,.inl ⟨1,a3,.inl ⟨hi.1,.inl rfl⟩,hsame _ k rfl rfl ?_⟩⟩;rcases a4 with ⟨rfl,e⟩ |⟨w,rfl,e⟩<;>simp only[KK.rk,e,if_true]<;>omega
 case p5 =>
  obtain⟨s',a1,⟨e,a2,a3⟩ |⟨e,a2,a3⟩⟩:=ZV (late:=late) hn hs h ht hp h1 h2
  ·exact⟨s',_,a1,a2,.inl ⟨2,a3,.inl ⟨hi.1,.inr rfl⟩,htail _ .hold rfl (by simp only[KK.rk,if_pos e];omega)⟩⟩
  ·exact⟨s',_,a1,a2,.inl ⟨1,a3,.inl ⟨hi.1,.inl rfl⟩,hsame _ .p3 rfl rfl (by simp only[KK.rk,if_neg e];omega)⟩⟩
 case p10 w =>
  obtain⟨s',a1,a2,a3⟩:=ZT (late:=late) hn hs h ht hp h1 h2;exact⟨s',_,a1,a2,.inl ⟨1,a3,.inl ⟨hi.1,.inl rfl⟩,hsame _ (.p11 w) rfl (I4 g.m 2 t 0 (by decide)) (by simp only[KK.rk];split<;>omega)⟩⟩
 case p11 w =>
  obtain⟨s',a1,a2,a3⟩:=ZU (late:=late) hn hs h ht hp h1 h2;exact⟨s',_,a1,a2,.inl ⟨1,a3,.inl ⟨hi.1,.inl rfl⟩,hsame _ (.p12 w) rfl (I4 g.m 3 t 1 (by decide)) (by simp only[KK.rk];split<;>omega)⟩⟩
 case p12 w =>
  obtain⟨s',a1,⟨⟨k,a2,a4⟩,e⟩ |⟨e,a2⟩,a3⟩:=ZW (late:=late) hn hs h ht hp h1 h2
  ·exact⟨s',_,a1,a2,.inl ⟨1,a3,.inl ⟨hi.1,.inl rfl⟩,htail _ k rfl (by rcases a4 with rfl |⟨p,rfl⟩<;>simp only[KK.rk,if_pos e]<;>omega)⟩⟩
  ·exact⟨s',_,a1,a2,.inl ⟨1,a3,.inl ⟨hi.1,.inl rfl⟩,hsame _ .p3 rfl rfl (by simp only[KK.rk,if_neg e];omega)⟩⟩
 case lk p =>
  obtain⟨s',a1,a2,a3⟩:=AaO (late:=late) hn hs h ht hp h1 h2;exact⟨s',_,a1,a2,.inl ⟨1,a3,.inl ⟨hi.1,.inl rfl⟩,hsame _ .wt rfl (I4 g.m 2 p (t+2) (by decide)) (by simp only[KK.rk];omega)⟩⟩
 case fs =>
  obtain⟨s',a1,a2,a3⟩:=AaP (late:=late) hn hs h ht hp h1 h2;exact⟨s',_,a1,a2,.inl ⟨1,a3,.inl ⟨hi.1,.inl rfl⟩,hsame _ .wt rfl (I4 g.m 1 0 (t+2) (by decide)) (by simp only[KK.rk];omega)⟩⟩
 case wt =>
  have htm:¬g.md.is t:=fun hm=>(Mf (Ko h hm).2).2.2.2.1 hp
  have hc:t∈g.c:=Classical.byContradiction fun hc=>by have:=h.free t ht hc htm;rw[hp]at this;exact this
  by_cases hg:g.md=.none∧∃ q,g.c=t::q
  ·obtain⟨b2,q,b1⟩:=hg;have hch:=h.ch;rw[b1,b2]at hch;obtain⟨s',a1,a2,a3⟩:=XK (late:=late) hn hs h ht hp b1 b2 hch.2.2.2 h1 h2;exact⟨s',_,a1,a2,.inl ⟨1,a3,.inl ⟨hi.1,.inl rfl⟩,hsame _ .a22 rfl rfl (by simp only[KK.rk];omega)⟩⟩
  ·have hf:g.m 3 t=1:=by
    rcases h.fl t ht (by rw[hp];trivial) with e |e
    ·exact e
    ·exfalso;refine hg ?_
     revert e
     cases g.md<;>cases g.c<;>intro e
     case none.cons v q =>
      obtain rfl:v=t:=by simpa [KM.hand]using e
      exact⟨rfl,q,rfl⟩
     all_goals first |exact e.elim |cases e
   obtain⟨s',a1,a2,a3⟩:=YT (late:=late) hn hs h ht hp hf h1 h2;exact⟨s',g,a1,a2,.inr ⟨rfl,a3,.inl ⟨hp,hg⟩⟩⟩
 case a22 =>
  obtain⟨s',a1,k,a2,a3,a4⟩:=ZX (late:=late) hn hs h ht hp h1 h2;exact⟨s',_,a1,a2,.inl ⟨1,a3,.inl ⟨hi.1,.inl rfl⟩,hsame _ k rfl rfl (by rcases a4 with rfl |⟨v,rfl⟩<;>simp only[KK.rk]<;>omega)⟩⟩
 case a24 =>
  obtain⟨s',a1,a2,a3⟩:=ZY (late:=late) hn hs h ht hp h1 h2;exact⟨s',_,a1,a2,.inl ⟨1,a3,.inl ⟨hi.1,.inl rfl⟩,hsame _ .a25 rfl (I4 g.m 1 0 0 (by decide)) (by simp only[KK.rk];omega)⟩⟩
 case a25 =>
  obtain⟨s',a1,⟨_,a2,a3⟩ |⟨a2,a3⟩⟩:=ZZ (late:=late) hn hs h ht hp h1 h2
  ·exact⟨s',_,a1,a2,.inl ⟨2,a3,.inl ⟨hi.1,.inr rfl⟩,htail _ .hold rfl (by simp only[KK.rk];omega)⟩⟩
  ·exact⟨s',_,a1,a2,.inl ⟨1,a3,.inl ⟨hi.1,.inl rfl⟩,hsame _ .a27 rfl rfl (by simp only[KK.rk];omega)⟩⟩
 case a27 =>
  obtain⟨s',a1,⟨v,a2,a3⟩ |⟨a2,a3,a4⟩⟩:=Aaa (late:=late) hn hs h ht hp h1 h2
  ·exact⟨s',_,a1,a2,.inl ⟨1,a3,.inl ⟨hi.1,.inl rfl⟩,hsame _ (.a28 v) rfl rfl (by simp only[KK.rk];omega)⟩⟩
  ·exact⟨s',g,a1,a2,.inr ⟨rfl,a3,.inr (.inl ⟨hp,a4⟩)⟩⟩
 case a28 v =>
  obtain⟨s',a1,q',a2,a3⟩:=Aab (late:=late) hn hs h ht hp h1 h2;exact⟨s',_,a1,a2,.inl ⟨2,a3,.inl ⟨hi.1,.inr rfl⟩,hsame _ .hold rfl (I4 g.m 1 0 (v+2) (by decide)) (by simp only[KK.rk];omega)⟩⟩
 case u30 =>
  obtain⟨s',a1,k,a2,a3,a4,_⟩:=Yg (late:=late) hn hs h ht hp h1 h2;exact⟨s',_,a1,a2,.inl ⟨3,a3,.inr ⟨hi.1,.inl rfl⟩,hsame _ k rfl rfl (by rcases a4 with rfl |⟨v,rfl⟩<;>simp only[KK.rk]<;>omega)⟩⟩
 case u33 =>
  obtain⟨s',a1,⟨_,a2,a3⟩ |⟨_,a2,a3⟩⟩:=Yh (late:=late) hn hs h ht hp h1 h2
  ·exact⟨s',_,a1,a2,.inl ⟨0,a3,.inr ⟨hi.1,.inr rfl⟩,htail _ .idle rfl (by simp only[KK.rk];omega)⟩⟩
  ·exact⟨s',_,a1,a2,.inl ⟨3,a3,.inr ⟨hi.1,.inl rfl⟩,hsame _ .u37 rfl rfl (by simp only[KK.rk];omega)⟩⟩
 case u37 =>
  obtain⟨s',a1,⟨v,a2,a3⟩ |⟨a2,a3,a4⟩⟩:=Aac (late:=late) hn hs h ht hp h1 h2
  ·exact⟨s',_,a1,a2,.inl ⟨3,a3,.inr ⟨hi.1,.inl rfl⟩,hsame _ (.u39 v) rfl rfl (by simp only[KK.rk];omega)⟩⟩
  ·exact⟨s',g,a1,a2,.inr ⟨rfl,a3,.inr (.inr ⟨hp,a4⟩)⟩⟩
 case u39 v =>
  obtain⟨s',a1,a2,a3⟩:=Aad (late:=late) hn hs h ht hp h1 h2;exact⟨s',_,a1,a2,.inl ⟨0,a3,.inr ⟨hi.1,.inr rfl⟩,hsame _ .idle rfl (I4 g.m 3 v 0 (by decide)) (by simp only[KK.rk];omega)⟩⟩
end
theorem YV{n:Nat}(s:LS)(g:KG)(h:KI n g s)(hs:∀ t,t<n→s.act t=0∨Mi g t):∀ t,t<n→s.act t=0:=by
 have hz:∀ t,t<n→g.P t≠.wt→g.P t≠.a27→g.P t≠.u37→s.act t=0:=fun t ht e1 e2 e3=>by
  rcases hs t ht with a |⟨a,_⟩ |⟨a,_⟩ |⟨a,_⟩
  ·exact a
  ·exact absurd a e1
  ·exact absurd a e2
  ·exact absurd a e3
 have hact:∀ t,t<n→s.act t=0→g.P t=.idle:=fun t ht e=>by
  have:=h.is t ht;cases hp:g.P t<;>rw[hp]at this<;>have:=this.1<;>first |rfl |omega
 have hfs:∀ t,t<n→g.P t≠.fs:=fun t ht e=>by
  have:=hact t ht (hz t ht (by rw[e];simp) (by rw[e];simp) (by rw[e];simp));rw[e]at this;cases this
 have hlk:∀ t p,t<n→g.P t≠.lk p:=fun t p ht e=>by
  have:=hact t ht (hz t ht (by rw[e];simp) (by rw[e];simp) (by rw[e];simp));rw[e]at this;cases this
 have hst:∀ t,t<n→g.P t=.a27→False:=fun t ht e=>by
  rcases hs t ht with a |⟨a,_⟩ |⟨_,v,q,ec,hv⟩ |⟨a,_⟩
  ·have:=hact t ht a;rw[e]at this;cases this
  ·rw[e]at a;cases a
  ·have hvn:=h.lt v (by rw[ec];simp);obtain⟨q',hmd,ec',_,hl,_⟩:=TP h ht (by rw[e];exact id) (by rw[e];exact fun _ _=>id) (by rw[e];simp) (by rw[e];simp) (by rw[e];simp);rw[ec]at ec';cases ec';rcases hl.1 with b |b
   ·exact hv b.1
   ·exact hlk v _ hvn b.1
  ·rw[e]at a;cases a
 have hst2:∀ t,t<n→g.P t=.u37→False:=fun t ht e=>by
  rcases hs t ht with a |⟨a,_⟩ |⟨a,_⟩ |⟨_,hmd,v,q,ec,hv⟩
  ·have:=hact t ht a;rw[e]at this;cases this
  ·rw[e]at a;cases a
  ·rw[e]at a;cases a
  ·have hvn:=h.lt v (by rw[ec];simp);have hch:=h.ch;rw[hmd,ec]at hch;rcases hch.2.2.1 with b |b
   ·exact hv b.1
   ·exact hfs v hvn b.1
 have hz2:∀ t,t<n→g.P t≠.wt→g.P t=.idle:=fun t ht e1=>hact t ht (hz t ht e1 (fun e=>hst t ht e) (fun e=>hst2 t ht e))
 have hmd:g.md=.none:=by
  cases e:g.md with
  |none=>rfl
  |inq =>
   exfalso;have hch:=h.ch;rw[e]at hch;cases ec:g.c with
   |nil=>rw[ec]at hch;exact hch
   |cons x q =>
    rw[ec]at hch;have hx:=h.lt x (by rw[ec];simp);have hk:=hch.2.2;have:=hz2 x hx (OC hk).2.2.2.1;rw[this]at hk;exact hk
  |own x =>
   exfalso;have hm:g.md.is x:=by rw[e];rfl
   have hk:=(Ko h hm).2;have:=hz2 x (h.ot x hm).1 (Mf hk).2.2.2.1;rw[this]at hk;exact hk
 have hc:g.c=[]:=by
  cases ec:g.c with
  |nil=>rfl
  |cons x q =>
   exfalso;have hx:=h.lt x (by rw[ec];simp);have hch:=h.ch;rw[hmd,ec]at hch;rcases hs x hx with a |⟨_,a⟩ |⟨a,_⟩ |⟨a,_⟩
   ·have:=hact x hx a;rw[hch.2.2.1]at this;cases this
   ·exact a ⟨hmd,q,ec⟩
   ·rw[hch.2.2.1]at a;cases a
   ·rw[hch.2.2.1]at a;cases a
 intro t ht;have hf:=h.free t ht (by rw[hc];simp) (by rw[hmd];exact id);exact hz t ht (by intro e;rw[e]at hf;exact hf) (by intro e;rw[e]at hf;exact hf) (by intro e;rw[e]at hf;exact hf)
theorem OF{n:Nat}(hn:n≤64):Fair n (12*n+24) CE (AL (Qi n)) (KI n) (GM n) Mi:=by
 refine⟨?_,?_,?_,YV,?_,fun s g h=>h.tr.ok⟩
 ·intro r s g t late h hi ht ha;obtain⟨s',a1,a2,a3,a4⟩:=VV (late:=late) hn h hi ht ha;refine⟨s',_,a1,a2,a3,?_⟩;have:=D0 (f:=fun t=>(g.P t).rk (4*n) (g.m 0 0)) (g:=fun u=>(Ay g.P t .p3 u).rk (4*n) (g.m 0 0)) n ht (fun u hu=>by(try dsimp only);rw[Au _ _ hu]);try dsimp only at this
  rw[Ag]at this
  show B0 n (fun u=>(Ay g.P t .p3 u).rk (4*n) (g.m 0 0))≤GM n g+_
  unfold GM;have e3:KK.rk (4*n) (g.m 0 0) .p3=12*n+24:=by simp only[KK.rk];omega
  rw[e3]at this;omega
 ·intro r s g t late h hi ht ha;obtain⟨s',hp,a1,a2,a3⟩:=Qh (late:=late) hn h hi ht ha;exact⟨s',_,a1,a2,a3,Nv ht (k:=.u30) rfl rfl (by rw[hp];simp only[KK.rk];omega)⟩
 ·intro r s g t kind late h hi ht ha k1 k2;exact YU hn h hi ht ha k1 k2
 ·intro s g h t ht;have:=h.is t ht;cases hp:g.P t<;>rw[hp]at this<;>have:=this.1<;>omega
def Wa(n:Nat):AG:=AG.new CE ([1,1,n,n]) (List.replicate (2*n+2) 0) n 0 (List.replicate n 0)
theorem Wc(n:Nat):∃ s0 g0,Gg n (AQ.new (Wa n) n) s0∧KI n g0 s0∧(∀ t,t<n→s0.act t=0)∧GM n g0=0:=by
 refine⟨_,⟨fun _=>.idle,fun _=>0,.none,[],fun _ _=>0⟩,BF.new n CE (Qi n) (List.replicate (2*n+2) 0) 0 (List.replicate n 0) (by simp),?_,fun _ _=>rfl,Ds n (fun _ _=>rfl)⟩;exact⟨RI _ _ (by simp;omega),fun t ht=>⟨rfl,.inl rfl,0,0,0,0,0,_,0,rfl⟩,List.nodup_nil,fun t ht=>by simp at ht,fun t ht=>ht.elim,⟨rfl,rfl⟩,fun t _ hf=>hf.elim,fun t _ hf=>hf.elim,fun t _ _ _=>trivial,Cn.new n⟩
theorem T7(n:Nat)(h1:1≤n)(h8:n≤8)(l:List (Int×Int×Int))(t:Nat)(ht:t<n):Ci (Wa n) 0 n l t 2 2=true:=by
 have h2:n≤64:=by omega
 obtain⟨s0,g0,ha,hi,_⟩:=Wc n;obtain⟨s1,g1,ha,hi⟩:=(OF h2).ops l _ s0 g0 ha hi;have hr:GM n g1<5000:=by
  have:GM n g1≤n*124:=by
   rw[←D8 124 n];exact Gk n fun t _=>by cases g1.P t<;>simp only[KK.rk]<;>(try split)<;>omega
  omega
 obtain⟨r2,s2,g2,e2,ha,hi,hz⟩:=(OF h2).fin 5000 _ s1 g1 ha hi hr;have hP:∀ u,u<n→g2.P u=.idle:=fun u hu=>by
  have:=hi.is u hu;have h0:=hz u hu;cases hp:g2.P u<;>rw[hp]at this<;>have:=this.1<;>first |rfl |omega
 have hc:g2.c=[]:=by
  cases e:g2.c with
  |nil=>rfl
  |cons u q =>
   have hm:u∈g2.c:=by rw[e];exact List.mem_cons_self ..
   exact absurd hm (I2 hi (by rw[hP u (hi.lt u hm)];trivial)).1
 have hmd:g2.md=.none:=by
  have hch:=hi.ch;rw[hc]at hch;cases e:g2.md with
  |none=>rfl
  |inq=>rw[e]at hch;exact hch.elim
  |own x =>
   have hm:g2.md.is x:=by rw[e];rfl
   exact absurd hm (I2 hi (by rw[hP x (hi.ot x hm).1];trivial)).2
 have hm0:g2.m 0 0=0:=by
  have hch:=hi.ch;rw[hc,hmd]at hch;exact hch.1
 have e0:Ci (Wa n) 0 n l t 2 2=(let r:=BS 2 (r2.op 1 t 0) t;if r.act.getD t 0≠2 then false else let q:=BS 2 (r.op 2 t 0) t;!q.bad&&decide (q.act.getD t 0=0)&&decide (Cj n q.l=q.l.length)):=by
  unfold Ci;rw[e2];dsimp only;rw[if_neg (by rw[ha.bad];simp),if_neg (by simp)]
 rw[e0];dsimp only[BS];obtain⟨s3,ha,hi,c3,_⟩:=VV (late:=0) h2 ha hi ht (hz t ht);obtain⟨s4,ha,k,hi,c4,hk⟩:=ZS (late:=0) (kind:=3) h2 ha hi ht (Ag _ _ _) (by decide) (by decide);have hk5:k=.p5:=by
  rcases hk with ⟨e,_⟩ |⟨w,_,e⟩
  ·exact e
  ·have e:g2.m 0 0=w+1:=e;omega
 subst hk5;obtain⟨s5,ha,⟨_,hi,c5⟩ |⟨e,_⟩⟩:=ZV (late:=0) (kind:=3) h2 ha hi ht (Ag _ _ _) (by decide) (by decide);case inr=>exact absurd hm0 e
 rw[if_neg (by rw[ha.act t ht,c5,Ag];simp)];obtain⟨s6,_,ha,hi,c6⟩:=Qh (late:=0) h2 ha hi ht (by rw[c5,Ag]);obtain⟨s7,ha,k,hi,c7,_,hk⟩:=Yg (late:=0) (kind:=3) h2 ha hi ht (Ag _ _ _) (by decide) (by decide);obtain rfl:=hk rfl;obtain⟨s8,ha,⟨_,hi,c8⟩ |⟨e,_⟩⟩:=Yh (late:=0) (kind:=3) h2 ha hi ht (Ag _ _ _) (by decide) (by decide);case inr=>exact absurd rfl e
 rw[ha.bad,ha.act t ht,c8,Ag,decide_eq_true ((Eb n h1 h2 _).2 (by rw[ha.tr];exact hi.tr.ok))];rfl
end
end Go.Proofs.YtjjpiefgdggghaaGreatDoor
