/- An access of one cell, with the memory as a function of area and index, for locks that take no nodes. Plain. -/
import Derived.Test.YtnmahobjmpdkdaaGreatDoorG06
set_option linter.unusedVariables false
set_option linter.unusedSimpArgs false
set_option maxRecDepth 100000
set_option maxHeartbeats 40000000
namespace Go.Proofs.YtnmahobjmpdkdaaGreatDoor
section
def Bp(m:Nat→Nat→Nat)(A p v:Nat):Nat→Nat→Nat:=Ay m A (Ay (m A) p v)
def Wd(sizes w:List Nat)(m:Nat→Nat→Nat):Prop:=w.length=sizes.sum∧∀ A p,p<sizes.getD A 0→w.getD ((sizes.take A).sum+p) 0=m A p
theorem KN:∀ (l:List Nat) (A B:Nat),A<B→(l.take A).sum+l.getD A 0≤(l.take B).sum
 |[],A,B,_=>by simp
 |x::l,0,B+1,_=>by simp
 |x::l,A+1,B+1,h=>by have:=KN l A B (by omega);simp at this ⊢;omega
theorem X7{l:List Nat}{A B p q:Nat}(hp:p<l.getD A 0)(hq:q<l.getD B 0)(e:(l.take A).sum+p=(l.take B).sum+q):A=B∧p=q:=by
 rcases Nat.lt_trichotomy A B with h |h |h
 ·have:=KN l A B h;omega
 ·subst h;exact⟨rfl,by omega⟩
 ·have:=KN l B A h;omega
theorem YP{l:List Nat}{A p:Nat}(hp:p<l.getD A 0):(l.take A).sum+p<l.sum:=by
 have hA:A<l.length:=Classical.byContradiction fun h=>by
  rw[List.getD_eq_getElem?_getD,List.getElem?_eq_none (by omega)]at hp;simp at hp
 have:=KN l A l.length hA;rw[List.take_length]at this;omega
theorem Wd.set{sizes w:List Nat}{m:Nat→Nat→Nat}(h:Wd sizes w m){A p:Nat}(v:Nat)(hp:p<sizes.getD A 0):Wd sizes (w.set ((sizes.take A).sum+p) v) (Bp m A p v):=by
 refine⟨by rw[List.length_set];exact h.1,fun B q hq=>?_⟩;rw[Jb (by rw[h.1];exact YP hp)];by_cases e:(sizes.take A).sum+p=(sizes.take B).sum+q
 ·obtain⟨rfl,rfl⟩:=X7 hp hq e;rw[if_pos rfl,Bp,Ag,Ag]
 ·rw[if_neg e,h.2 B q hq,Bp];by_cases eA:B=A
  ·subst eA;rw[Ag,Au _ _ (fun e'=>e (by rw[e']))]
  ·rw[Au _ _ eA]
theorem Nr:∀ (sizes:List Nat) (a k A p:Nat),p<sizes.getD A 0→CY ((a+A:Nat):Int) p k (B9 a sizes)=some (k+(sizes.take A).sum+p)
 |[],a,k,A,p,h=>by simp at h
 |s::r,a,k,0,p,h=>by
  simp at h;unfold B9;rw[Nat.add_zero,Iy s _ h];simp
 |s::r,a,k,A+1,p,h=>by
  unfold B9;rw[Kk (by omega)];have:=Nr r (a+1) (k+s) A p (by simpa using h);rw[show a+1+A=a+(A+1) by omega]at this;rw[this];simp;omega
theorem X8{sizes:List Nat}{A p:Nat}(h:p<sizes.getD A 0)(h4:p<4096):CY (A:Int) (p%4096) 0 (AL sizes)=some ((sizes.take A).sum+p):=by
 have:=Nr sizes 0 0 A p h;rw[Nat.mod_eq_of_lt h4];unfold AL
 simpa using this
def X9(pg:Pg)(t a:Nat)(r:Option Nat×CoreM×Bool):Option Nat×CoreM×Ex :=
 if r.2.2=true then (r.1,r.2.1,⟨[],-1,a,(match r.1 with |none=>0 |some _=>1),1,0⟩)
 else (r.1,(runM pg.l t 257 r.2.1 []).1,⟨(runM pg.l t 257 r.2.1 []).2.1,(runM pg.l t 257 r.2.1 []).2.2.1,a,(match r.1 with |none=>0 |some _=>1),0,(runM pg.l t 257 r.2.1 []).2.2.2⟩)
def Gj(pg:Pg)(t:Nat)(c:CoreM)(late:Bool)(was:Nat)(b:Bool)(a:Nat):Option Nat×CoreM×Ex:=X9 pg t a (TH (pg.l.getD c.pc.toNat In.zero) c was late b)
def Qa(pg:Pg)(c:CoreM):Bool:=decide (¬(c.pc<0∨c.pc≥pg.l.length))&&decide (¬(pg.l.getD c.pc.toNat In.zero).op<16)&&decide ((pg.l.getD c.pc.toNat In.zero).op≠22)&&decide ((pg.l.getD c.pc.toNat In.zero).op≠23)
def wrW(words:List Nat)(a:Nat):Option Nat→List Nat
 |none=>words
 |some v=>words.set a v
theorem XA{pg:Pg}{cells:List (Nat×Nat)}{words:List Nat}{t:Nat}{c:CoreM}{late:Bool}{a was:Nat}{b:Bool}{wr:Option Nat}{c':CoreM}{o:Ex}(hok:Qa pg c=true)
  (hf:CY (pg.l.getD c.pc.toNat In.zero).a (c.get (pg.l.getD c.pc.toNat In.zero).s%4096) 0 cells=some a)(hw:words.getD a 0=was)(hb:decide (was=c.get (pg.l.getD c.pc.toNat In.zero).t)=b)
  (e:Gj pg t c late was b a=(wr,c',o)):Jd pg cells words t c late=some (wrW words a wr,c',o):=by
 unfold Qa at hok;simp only[Bool.and_eq_true,decide_eq_true_eq]at hok;obtain⟨⟨⟨h1,h2⟩,h3⟩,h4⟩:=hok;rw[HC a b hf (by rw[hw];exact hb)];unfold PR;rw[if_neg h1];dsimp only;rw[if_neg h2,if_neg h3,if_neg h4,hw];have key:∀ r:Option Nat×CoreM×Bool,(if r.2.2=true then some ((match r.1 with |none=>words |some v=>words.set a v),r.2.1,(⟨[],-1,a,(match r.1 with |none=>0 |some _=>1),1,0⟩:Ex))
   else some (V4 pg (match r.1 with |none=>words |some v=>words.set a v) t r.2.1 a (match r.1 with |none=>0 |some _=>1))) =
   some ((match (X9 pg t a r).1 with |none=>words |some v=>words.set a v),(X9 pg t a r).2.1,(X9 pg t a r).2.2):=by
  intro⟨r1,r2,r3⟩;cases r3<;>cases r1<;>rfl
 refine(key (TH (pg.l.getD c.pc.toNat In.zero) c was late b)).trans ?_;unfold Gj at e;rw[e];cases wr<;>rfl
def YQ(m:Nat→Nat→Nat)(A p:Nat):Option Nat→Nat→Nat→Nat
 |none=>m
 |some v=>Bp m A p v
section
variable {n:Nat} {pg:Pg} {sizes:List Nat} {r:AQ} {s:LS} {t:Nat} {late kind:Int} {m:Nat→Nat→Nat}
theorem BF.acc(h:BF n pg (AL sizes) r s)(hW:Wd sizes s.words m)(ht:t<n)(ha:s.act t=1∨s.act t=3)(h1:kind≠1)(h2:kind≠2){c:CoreM}(hc:s.core t=c)(hok:Qa pg c=true)(A p was:Nat)(b:Bool)
  (hA:(pg.l.getD c.pc.toNat In.zero).a=(A:Int))(hp:c.get (pg.l.getD c.pc.toNat In.zero).s=p)(hlt:p<sizes.getD A 0)(h4:p<4096)(hw:m A p=was)
  (hb:decide (was=c.get (pg.l.getD c.pc.toNat In.zero).t)=b){wr:Option Nat}{c':CoreM}{ms:List Int}{done:Int}{wrote stay:Nat}
  (e:∀ (l:Bool) (a:Nat),Gj pg t c l was b a=(wr,c',⟨ms,done,a,wrote,stay,0⟩))(hbad:Kz (s.act t) ⟨ms,done,0,wrote,stay,0⟩=false) :
  ∃ s',BF n pg (AL sizes) (r.op kind t late) s'∧Wd sizes s'.words (YQ m A p wr)∧s'.core=Ay s.core t c' ∧
   s'.act=(match JI done with |none=>s.act |some q=>Ay s.act t q.2) ∧
   s'.tr=(match JI done with |none=>ms.foldl (fun x k=>x.enter (FN k) t) s.tr |some q=>(ms.foldl (fun x k=>x.enter (FN k) t) s.tr).enter q.1 t):=by
 have hst:Jd pg (AL sizes) s.words t (s.core t) (decide (late≠0))=some (wrW s.words ((sizes.take A).sum+p) wr,c',⟨ms,done,((sizes.take A).sum+p:Nat),wrote,stay,0⟩):=by
  rw[hc];exact XA (a:=(sizes.take A).sum+p) (was:=was) (b:=b) hok (by rw[hA,hp];exact X8 hlt h4) ((hW.2 A p hlt).trans hw) hb (e _ _)
 have hs:=h.step (late:=late) ht ha h1 h2 hst hbad;refine⟨_,hs,?_,?_,?_,?_⟩
 ·have:Wd sizes (wrW s.words ((sizes.take A).sum+p) wr) (YQ m A p wr):=by
   cases wr with
   |none=>exact hW
   |some v=>exact hW.set v hlt
  unfold LS.EK;dsimp only;generalize JI done=x;cases x<;>exact this
 ·unfold LS.EK;dsimp only;generalize JI done=x;cases x<;>rfl
 ·unfold LS.EK;dsimp only;generalize JI done=x;cases x<;>rfl
 ·unfold LS.EK;dsimp only;generalize JI done=x;cases x<;>rfl
theorem BF.Ur(h:BF n pg (AL sizes) r s)(hW:Wd sizes s.words m)(ht:t<n)(ha:s.act t=0){c c':CoreM}(hc:s.core t=c)
  (e:V4 pg s.words t (c.at pg.lock) (-1) 0=(s.words,c',⟨[],-1,-1,0,0,0⟩)) :
  ∃ s',BF n pg (AL sizes) (r.op 1 t late) s'∧Wd sizes s'.words m∧s'.core=Ay s.core t c'∧s'.act=Ay s.act t 1∧s'.tr=s.tr.enter 1 t :=
 ⟨_,h.call ht ha (w:=s.words) (c:=c') (o:=⟨[],-1,-1,0,0,0⟩) (by rw[hc];exact e) rfl,hW,rfl,rfl,rfl⟩
theorem BF.NK(h:BF n pg (AL sizes) r s)(hW:Wd sizes s.words m)(ht:t<n)(ha:s.act t=2){c c':CoreM}(hc:s.core t=c)
  (e:V4 pg s.words t (c.at pg.unlock) (-1) 0=(s.words,c',⟨[],-1,-1,0,0,0⟩)) :
  ∃ s',BF n pg (AL sizes) (r.op 2 t late) s'∧Wd sizes s'.words m∧s'.core=Ay s.core t c'∧s'.act=Ay s.act t 3∧s'.tr=s.tr.enter 8 t :=
 ⟨_,h.unlock ht ha (w:=s.words) (c:=c') (o:=⟨[],-1,-1,0,0,0⟩) (by rw[hc];exact e) rfl,hW,rfl,rfl,rfl⟩
end
def CC:Nat→List Nat→Nat
 |p,[]=>p
 |_,t::q=>CC t q
theorem Io(t:Nat):∀ (q:List Nat) (p:Nat),CC p (q++[t])=t
 |[],p=>rfl
 |s::q,p=>Io t q s
theorem Gm:∀ (q:List Nat) (p:Nat),CC p q=p∧q=[]∨CC p q∈q
 |[],p=>.inl ⟨rfl,rfl⟩
 |s::q,p=>.inr (by
  rcases Gm q s with ⟨h,_⟩ |h
  ·show CC s q∈_;rw[h];exact List.mem_cons_self ..
  ·exact List.mem_cons_of_mem _ h)
theorem CV(m:Nat→Nat→Nat)(A p v:Nat):Bp m A p v A=Ay (m A) p v:=Ag _ _ _
theorem Bt(m:Nat→Nat→Nat){A B:Nat}(p v:Nat)(h:B≠A):Bp m A p v B=m B:=Au _ _ h
theorem RI(sizes:List Nat)(k:Nat)(hk:k=sizes.sum):Wd sizes (List.replicate k 0) (fun _ _=>0):=⟨by simp[hk],fun A p hp=>by simp[List.getD_eq_getElem?_getD,List.getElem?_replicate];split<;>rfl⟩
end
end Go.Proofs.YtnmahobjmpdkdaaGreatDoor
