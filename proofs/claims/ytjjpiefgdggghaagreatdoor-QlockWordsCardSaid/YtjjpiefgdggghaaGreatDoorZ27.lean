/- Parts: FairS, Acc, AndersonM, AnText. -/
import Derived.Test.YtjjpiefgdggghaaGreatDoorZ02
import Derived.Test.YtjjpiefgdggghaaGreatDoorZ23
import Derived.KernelRfl
import Derived.Test.YtjjpiefgdggghaaGreatDoorZ05
import Derived.Lib.ReplaceLaws
import Derived.Lib.ItoaNum
set_option linter.unusedVariables false
set_option linter.unusedSimpArgs false
set_option maxRecDepth 100000
set_option maxHeartbeats 40000000
namespace Go.Proofs.YtjjpiefgdggghaaGreatDoor
section
def Dr(a:Nat→Nat)(t:Nat):Nat:=if a t=1∨a t=2 then 1 else 0
def lf(l:List Nat)(t:Nat):Nat:=l.getD t 0
theorem OJ{l:List Nat}{t u v:Nat}(h:u≠t):lf (l.set t v) u=lf l u:=by
 unfold lf;rw[List.getD_eq_getElem?_getD,List.getD_eq_getElem?_getD,List.getElem?_set,if_neg (fun e=>h e.symm)]
theorem Qr{l:List Nat}{t v:Nat}(h:t<l.length):lf (l.set t v) t=v:=by
 unfold lf;rw[List.getD_eq_getElem?_getD,List.getElem?_set,if_pos rfl,if_pos h];rfl
theorem Hp{n t a:Nat}{A:Nat→Nat}(ht:t<n):Bm n (Dr (E1 A t a))+Dr A t=Bm n (Dr A)+(if a=1∨a=2 then 1 else 0):=by
 have:=FW (f:=Dr A) (g:=Dr (E1 A t a)) n ht (fun u hu=>by unfold Dr;rw[DV _ _ hu]);rw[this];simp only[Dr,CX]
section
variable {n R:Nat} {pg:Pg} {cells:List (Nat×Nat)} {σ:Type} {I:σ→LS→Prop} {rank:σ→Nat} {stuck:σ→Nat→Prop}
structure Pu (n R:Nat) (pg:Pg) (cells:List (Nat×Nat)) (I:σ→LS→Prop) (rank:σ→Nat) (stuck:σ→Nat→Prop) (v v':H0) (s s':LS) (g g':σ) (t:Nat):Prop where
 abs:C6 n pg cells v'.r s'
 i:I g' s'
 len:v'.left.length=n
 sum:v'.JJ+Bm n (lf v'.left)+Bm n (Dr s'.act)=v.JJ+Bm n (lf v.left)+Bm n (Dr s.act)
 busy:v'.busy=(v.busy||decide (s'.act t≠0)||decide (lf v'.left t > 0))
 Rf:∀ u,u≠t→s'.act u=s.act u∧lf v'.left u=lf v.left u
 dec:rank g'+(R+1)*Bm n (lf v'.left)<rank g+(R+1)*Bm n (lf v.left)∨(g'=g∧s'.act=s.act∧v'.left=v.left∧(s.act t=0∧lf v.left t=0∨s.act t≠0∧stuck g t))
theorem Fair.Ox(F:Fair n R pg cells I rank stuck){v:H0}{s:LS}{g:σ}{t:Nat}(h:C6 n pg cells v.r s)(hi:I g s)(ht:t<n)(hl:v.left.length=n) :
  ∃ s' g',Pu n R pg cells I rank stuck v (v.F5 t) s s' g g' t:=by
 have ea:=h.act t ht;by_cases h0:s.act t=0∧lf v.left t > 0
 ·obtain⟨s',g',a1,a2,a3,a4⟩:=F.call v.r s g t 0 h hi ht h0.1;have e:v.F5 t=⟨v.r.op 1 t 0,v.left.set t (lf v.left t-1),v.JJ,v.busy||decide (s'.act t≠0)||decide (lf (v.left.set t (lf v.left t-1)) t > 0)⟩:=by
   rw[←a1.act t ht];unfold H0.F5;rw[ea];simp only[if_pos (show s.act t=0∧v.left.getD t 0 > 0 from h0)];rfl
  have hs:=FW (f:=lf v.left) (g:=lf (v.left.set t (lf v.left t-1))) n ht (fun u hu=>OJ hu);rw[Qr (by omega)]at hs;have hp:=Hp (a:=1) (A:=s.act) ht;have hp0:Dr s.act t=0:=by unfold Dr;rw[if_neg (by omega)]
  rw[hp0,if_pos (.inl rfl)]at hp;refine⟨s',g',by rw[e];exact a1,a2,by rw[e];simpa using hl,?_,by rw[e],?_,?_⟩
  ·rw[e,a3];show v.JJ+Bm n (lf (v.left.set t (lf v.left t-1)))+Bm n (Dr (E1 s.act t 1))=_;omega
  ·intro u hu;rw[e,a3];exact⟨DV _ _ hu,OJ hu⟩
  ·left
   rw[e]
   show rank g'+(R+1)*Bm n (lf (v.left.set t (lf v.left t-1)))<_
   have h1:Bm n (lf v.left)=Bm n (lf (v.left.set t (lf v.left t-1)))+1:=by omega
   rw[h1,Nat.mul_add];omega
 ·by_cases h2:s.act t=2
  ·obtain⟨s',g',a1,a2,a3,a4⟩:=F.unlock v.r s g t 0 h hi ht h2;have e:v.F5 t=⟨v.r.op 2 t 0,v.left,v.JJ+1,v.busy||decide (s'.act t≠0)||decide (lf v.left t > 0)⟩:=by
    rw[←a1.act t ht];unfold H0.F5;rw[ea];simp only[if_neg (show ¬(s.act t=0∧v.left.getD t 0 > 0) from h0),if_pos h2];rfl
   have hp:=Hp (a:=3) (A:=s.act) ht;have hp0:Dr s.act t=1:=by unfold Dr;rw[if_pos (.inr h2)]
   rw[hp0,if_neg (by decide)]at hp;refine⟨s',g',by rw[e];exact a1,a2,by rw[e];exact hl,?_,by rw[e],?_,?_⟩
   ·rw[e,a3];show v.JJ+1+Bm n (lf v.left)+Bm n (Dr (E1 s.act t 3))=_;omega
   ·intro u hu;rw[e,a3];exact⟨DV _ _ hu,rfl⟩
   ·left
    rw[e]
    show rank g'+(R+1)*Bm n (lf v.left)<_
    omega
  ·obtain⟨s',g',a1,a2,a3⟩:=F.F5 h hi ht;rw[if_neg h2]at a1;have e:v.F5 t=⟨v.r.op 3 t 0,v.left,v.JJ,v.busy||decide (s'.act t≠0)||decide (lf v.left t > 0)⟩:=by
    rw[←a1.act t ht];unfold H0.F5;rw[ea];simp only[if_neg (show ¬(s.act t=0∧v.left.getD t 0 > 0) from h0),if_neg h2];rfl
   refine⟨s',g',by rw[e];exact a1,a2,by rw[e];exact hl,?_,by rw[e],?_,?_⟩
   ·rw[e]
    show v.JJ+Bm n (lf v.left)+Bm n (Dr s'.act)=_
    rcases a3 with ⟨a,b1,b2,_⟩ |⟨_,b2,_⟩
    ·have hp:=Hp (a:=a) (A:=s.act) ht;rw[b1];have:Dr s.act t=(if a=1∨a=2 then 1 else 0):=by
      unfold Dr;rcases b2 with ⟨c1,c2⟩ |⟨c1,c2⟩ |⟨c1,c2⟩
      ·rw[if_pos (.inl c1),if_pos c2]
      ·exact absurd c1 h2
      ·rw[if_neg (by omega),if_neg (by omega)]
     omega
    ·rw[b2]
   ·intro u hu;rw[e];refine⟨?_,rfl⟩;rcases a3 with ⟨a,b1,_⟩ |⟨_,b2,_⟩
    ·rw[b1];exact DV _ _ hu
    ·rw[b2]
   ·rw[e];rcases a3 with ⟨a,b1,b2,b3⟩ |⟨b1,b2,b3⟩
    ·left
     show rank g'+(R+1)*Bm n (lf v.left)<_
     omega
    ·right
     refine⟨b1,b2,rfl,?_⟩;rcases b3 with b3 |⟨b3,_,b4⟩
     ·exact .inl ⟨b3,by have:¬lf v.left t > 0:=fun h=>h0 ⟨b3,h⟩;omega⟩
     ·exact .inr ⟨b3,b4⟩
theorem Fair.JI(F:Fair n R pg cells I rank stuck){v:H0}{s:LS}{g:σ}(h:C6 n pg cells v.r s)(hi:I g s)(hl:v.left.length=n)(hb:v.busy=false):∀ k:Nat,k≤n →
  ∃ v' s' g',v'=(List.range k).foldl H0.F5 v∧C6 n pg cells v'.r s'∧I g' s'∧v'.left.length=n ∧
   v'.JJ+Bm n (lf v'.left)+Bm n (Dr s'.act)=v.JJ+Bm n (lf v.left)+Bm n (Dr s.act) ∧
   (v'.busy=true↔∃ t,t<k∧(s'.act t≠0∨lf v'.left t > 0)) ∧
   (rank g'+(R+1)*Bm n (lf v'.left)<rank g+(R+1)*Bm n (lf v.left)∨(g'=g∧s'.act=s.act∧v'.left=v.left∧∀ t,t<k→s.act t=0∧lf v.left t=0∨s.act t≠0∧stuck g t))
 |0,_=>⟨v,s,g,rfl,h,hi,hl,rfl,by rw[hb];simp,.inr ⟨rfl,rfl,rfl,fun t ht=>by omega⟩⟩
 |k+1,hk=>by
  obtain⟨v1,s1,g1,e1,a1,a2,a3,a4,a5,a6⟩:=F.JI h hi hl hb k (by omega);obtain⟨s2,g2,S⟩:=F.Ox (t:=k) a1 a2 (by omega) a3;rw[List.range_succ,List.foldl_append,List.foldl_cons,List.foldl_nil,←e1];refine⟨_,s2,g2,rfl,S.abs,S.i,S.len,S.sum.trans a4,?_,?_⟩
  ·rw[S.busy];simp only[Bool.or_eq_true,decide_eq_true_eq,a5];constructor
   ·rintro((⟨t,ht,hn⟩ |hn) |hn)
    ·have:=S.Rf t (by omega);exact⟨t,by omega,by rw[this.1,this.2];exact hn⟩
    ·exact⟨k,by omega,.inl hn⟩
    ·exact⟨k,by omega,.inr hn⟩
   ·rintro⟨t,ht,hn⟩;by_cases e:t=k
    ·subst e;rcases hn with hn |hn
     ·exact .inl (.inr hn)
     ·exact .inr hn
    ·have:=S.Rf t e;rw[this.1,this.2]at hn;exact .inl (.inl ⟨t,by omega,hn⟩)
  ·rcases S.dec with d |⟨rfl,d2,d3,d4⟩
   ·rcases a6 with a6 |⟨rfl,_,a7,_⟩
    ·exact .inl (by omega)
    ·rw[a7]at d;exact .inl d
   ·rcases a6 with a6 |⟨rfl,a7,a8,a9⟩
    ·rw[d3];exact .inl a6
    ·refine .inr ⟨rfl,by rw[d2,a7],by rw[d3,a8],fun t ht=>?_⟩;by_cases e:t=k
     ·subst e;rw[a7,a8]at d4;exact d4
     ·exact a9 t (by omega)
theorem Fair.Ic(F:Fair n R pg cells I rank stuck):∀ (K:Nat) (v:H0) (s:LS) (g:σ),C6 n pg cells v.r s→I g s→v.left.length=n→rank g+(R+1)*Bm n (lf v.left)<K →
  ∃ s' g',C6 n pg cells (v.rounds n K).r s'∧I g' s'∧(v.rounds n K).JJ=v.JJ+Bm n (lf v.left)+Bm n (Dr s.act)
 |K+1,v,s,g,h,hi,hl,hk=>by
  obtain⟨v1,s1,g1,e1,a1,a2,a3,a4,a5,a6⟩:=F.JI (v:={v with busy:=false}) h hi hl rfl n (Nl n);have e:v.round n=v1:=e1.symm;unfold H0.rounds;rw[e];dsimp only;by_cases hb:v1.busy=false
  ·rw[if_pos (.inl hb)];refine⟨s1,g1,a1,a2,?_⟩;have hz:∀ t,t<n→s1.act t=0∧lf v1.left t=0:=fun t ht=>Classical.byContradiction fun hn=>by
    rw[a5.2 ⟨t,ht,by omega⟩]at hb;cases hb
   have z1:=Es (f:=lf v1.left) n (fun t ht=>(hz t ht).2);have z2:=Es (f:=Dr s1.act) n (fun t ht=>by unfold Dr;rw[if_neg (by have:=(hz t ht).1;omega)]);rw[z1,z2]at a4;exact a4
  ·rw[if_neg (fun x=>by rcases x with x |x;exact hb x;rw[a1.bad]at x;cases x)];rcases a6 with a6 |⟨rfl,a7,a8,a9⟩
   ·obtain⟨s2,g2,c1,c2,c3⟩:=F.Ic K v1 s1 g1 a1 a2 a3 (by dsimp only at a6;omega);exact⟨s2,g2,c1,c2,c3.trans a4⟩
   ·exfalso;obtain⟨t,ht,hn⟩:=a5.1 (by simpa using hb);have hp:=F.prog s g1 hi (fun t ht=>by rcases a9 t ht with b |b;exact .inl b.1;exact .inr b.2) t ht;rw[a7,a8]at hn;rcases a9 t ht with b |b
    ·dsimp only at b hn;omega
    ·exact b.1 hp
theorem Pv(n c t:Nat)(ht:t<n):lf (List.replicate n c) t=c:=by simp[lf,ht]
theorem Fair.Oy(F:Fair n R pg cells I rank stuck)(h1:1≤n)(h2:n≤64)(calls:Nat)(hm:(R+1)*(n*calls)<100*(n+1)*(calls+1)){x:BW}{s:LS}{g:σ}(h:C6 n pg cells (Bz.new x n) s)(hi:I g s)(ha:∀ t,t<n→s.act t=0)(hg:rank g=0):Im x n calls=true:=by
 have hs:Bm n (lf (List.replicate n calls))=n*calls:=by
  rw[ES (g:=fun _=>calls) n (fun t ht=>Pv n calls t ht),Gm]
 have hz:=Es (f:=Dr s.act) n (fun t ht=>by unfold Dr;rw[if_neg (by have:=ha t ht;omega)]);obtain⟨s1,g1,a1,a2,a3⟩:=F.Ic (100*(n+1)*(calls+1)) ⟨Bz.new x n,List.replicate n calls,0,true⟩ s g h hi (by simp) (by rw[hs,hg];omega);unfold Im;dsimp only;rw[a1.bad,a3,decide_eq_true ((Hb n h1 h2 _).2 (by rw[a1.tr];exact F.ok s1 g1 a2))];simp[hs,hz]
theorem Fair.served(F:Fair n R pg cells I rank stuck)(h1:1≤n)(h2:n≤64)(hR:R+1≤100)(calls:Nat){x:BW}{s:LS}{g:σ}(h:C6 n pg cells (Bz.new x n) s)(hi:I g s)(ha:∀ t,t<n→s.act t=0)(hg:rank g=0):Im x n calls=true:=by
 have hm:(R+1)*(n*calls)<100*(n+1)*(calls+1):=by
  have m1:(R+1)*(n*calls)≤100*(n*calls):=Nat.mul_le_mul_right _ hR;have m2:100*(n+1)*(calls+1)=100*(n*calls)+100*n+100*calls+100:=by
   simp only[Nat.mul_add,Nat.add_mul,Nat.mul_one,Nat.mul_assoc];omega
  omega
 exact F.Oy h1 h2 calls hm h hi ha hg
end
def O3(m:Nat→Nat→Nat)(A p v:Nat):Nat→Nat→Nat:=E1 m A (E1 (m A) p v)
def Wd(sizes w:List Nat)(m:Nat→Nat→Nat):Prop:=w.length=sizes.sum∧∀ A p,p<sizes.getD A 0→w.getD ((sizes.take A).sum+p) 0=m A p
theorem G1:∀ (l:List Nat) (A B:Nat),A<B→(l.take A).sum+l.getD A 0≤(l.take B).sum
 |[],A,B,_=>by simp
 |x::l,0,B+1,_=>by simp
 |x::l,A+1,B+1,h=>by have:=G1 l A B (by omega);simp at this ⊢;omega
theorem O4{l:List Nat}{A B p q:Nat}(hp:p<l.getD A 0)(hq:q<l.getD B 0)(e:(l.take A).sum+p=(l.take B).sum+q):A=B∧p=q:=by
 rcases Nat.lt_trichotomy A B with h |h |h
 ·have:=G1 l A B h;omega
 ·subst h;exact⟨rfl,by omega⟩
 ·have:=G1 l B A h;omega
theorem Py{l:List Nat}{A p:Nat}(hp:p<l.getD A 0):(l.take A).sum+p<l.sum:=by
 have hA:A<l.length:=Classical.byContradiction fun h=>by
  rw[List.getD_eq_getElem?_getD,List.getElem?_eq_none (by omega)]at hp;simp at hp
 have:=G1 l A l.length hA;rw[List.take_length]at this;omega
theorem Wd.set{sizes w:List Nat}{m:Nat→Nat→Nat}(h:Wd sizes w m){A p:Nat}(v:Nat)(hp:p<sizes.getD A 0):Wd sizes (w.set ((sizes.take A).sum+p) v) (O3 m A p v):=by
 refine⟨by rw[List.length_set];exact h.1,fun B q hq=>?_⟩;rw[MV (by rw[h.1];exact Py hp)];by_cases e:(sizes.take A).sum+p=(sizes.take B).sum+q
 ·obtain⟨rfl,rfl⟩:=O4 hp hq e;rw[if_pos rfl,O3,CX,CX]
 ·rw[if_neg e,h.2 B q hq,O3];by_cases eA:B=A
  ·subst eA;rw[CX,DV _ _ (fun e'=>e (by rw[e']))]
  ·rw[DV _ _ eA]
theorem Ie:∀ (sizes:List Nat) (a k A p:Nat),p<sizes.getD A 0→D9 ((a+A:Nat):Int) p k (Ed a sizes)=some (k+(sizes.take A).sum+p)
 |[],a,k,A,p,h=>by simp at h
 |s::r,a,k,0,p,h=>by
  simp at h;unfold Ed;rw[Nat.add_zero,Hd s _ h];simp
 |s::r,a,k,A+1,p,h=>by
  unfold Ed;rw[J2 (by omega)];have:=Ie r (a+1) (k+s) A p (by simpa using h);rw[show a+1+A=a+(A+1) by omega]at this;rw[this];simp;omega
theorem O5{sizes:List Nat}{A p:Nat}(h:p<sizes.getD A 0)(h4:p<4096):D9 (A:Int) (p%4096) 0 (Fl sizes)=some ((sizes.take A).sum+p):=by
 have:=Ie sizes 0 0 A p h;rw[Nat.mod_eq_of_lt h4];unfold Fl
 simpa using this
def O6(pg:Pg)(t a:Nat)(r:Option Nat×CoreM×Bool):Option Nat×CoreM×Ec :=
 if r.2.2=true then (r.1,r.2.1,⟨[],-1,a,(match r.1 with |none=>0 |some _=>1),1,0⟩)
 else (r.1,(runM pg.l t 257 r.2.1 []).1,⟨(runM pg.l t 257 r.2.1 []).2.1,(runM pg.l t 257 r.2.1 []).2.2.1,a,(match r.1 with |none=>0 |some _=>1),0,(runM pg.l t 257 r.2.1 []).2.2.2⟩)
def Np(pg:Pg)(t:Nat)(c:CoreM)(late:Bool)(was:Nat)(b:Bool)(a:Nat):Option Nat×CoreM×Ec:=O6 pg t a (MT (pg.l.getD c.pc.toNat In.zero) c was late b)
def Nq(pg:Pg)(c:CoreM):Bool:=decide (¬(c.pc<0∨c.pc≥pg.l.length))&&decide (¬(pg.l.getD c.pc.toNat In.zero).op<16)&&decide ((pg.l.getD c.pc.toNat In.zero).op≠22)&&decide ((pg.l.getD c.pc.toNat In.zero).op≠23)
def Rb(words:List Nat)(a:Nat):Option Nat→List Nat
 |none=>words
 |some v=>words.set a v
theorem O7{pg:Pg}{cells:List (Nat×Nat)}{words:List Nat}{t:Nat}{c:CoreM}{late:Bool}{a was:Nat}{b:Bool}{wr:Option Nat}{c':CoreM}{o:Ec}(hok:Nq pg c=true)
  (hf:D9 (pg.l.getD c.pc.toNat In.zero).a (c.get (pg.l.getD c.pc.toNat In.zero).s%4096) 0 cells=some a)(hw:words.getD a 0=was)(hb:decide (was=c.get (pg.l.getD c.pc.toNat In.zero).t)=b)
  (e:Np pg t c late was b a=(wr,c',o)):Hc pg cells words t c late=some (Rb words a wr,c',o):=by
 unfold Nq at hok;simp only[Bool.and_eq_true,decide_eq_true_eq]at hok;obtain⟨⟨⟨h1,h2⟩,h3⟩,h4⟩:=hok;rw[NY a b hf (by rw[hw];exact hb)];unfold MU;rw[if_neg h1];dsimp only;rw[if_neg h2,if_neg h3,if_neg h4,hw];have key:∀ r:Option Nat×CoreM×Bool,(if r.2.2=true then some ((match r.1 with |none=>words |some v=>words.set a v),r.2.1,(⟨[],-1,a,(match r.1 with |none=>0 |some _=>1),1,0⟩:Ec))
   else some (Pk pg (match r.1 with |none=>words |some v=>words.set a v) t r.2.1 a (match r.1 with |none=>0 |some _=>1))) =
   some ((match (O6 pg t a r).1 with |none=>words |some v=>words.set a v),(O6 pg t a r).2.1,(O6 pg t a r).2.2):=by
  intro⟨r1,r2,r3⟩;cases r3<;>cases r1<;>rfl
 refine(key (MT (pg.l.getD c.pc.toNat In.zero) c was late b)).trans ?_;unfold Np at e;rw[e];cases wr<;>rfl
def Qt(m:Nat→Nat→Nat)(A p:Nat):Option Nat→Nat→Nat→Nat
 |none=>m
 |some v=>O3 m A p v
section
variable {n:Nat} {pg:Pg} {sizes:List Nat} {r:Bz} {s:LS} {t:Nat} {late kind:Int} {m:Nat→Nat→Nat}
theorem C6.acc(h:C6 n pg (Fl sizes) r s)(hW:Wd sizes s.words m)(ht:t<n)(ha:s.act t=1∨s.act t=3)(h1:kind≠1)(h2:kind≠2){c:CoreM}(hc:s.core t=c)(hok:Nq pg c=true)(A p was:Nat)(b:Bool)
  (hA:(pg.l.getD c.pc.toNat In.zero).a=(A:Int))(hp:c.get (pg.l.getD c.pc.toNat In.zero).s=p)(hlt:p<sizes.getD A 0)(h4:p<4096)(hw:m A p=was)
  (hb:decide (was=c.get (pg.l.getD c.pc.toNat In.zero).t)=b){wr:Option Nat}{c':CoreM}{ms:List Int}{done:Int}{wrote stay:Nat}
  (e:∀ (l:Bool) (a:Nat),Np pg t c l was b a=(wr,c',⟨ms,done,a,wrote,stay,0⟩))(hbad:Jm (s.act t) ⟨ms,done,0,wrote,stay,0⟩=false) :
  ∃ s',C6 n pg (Fl sizes) (r.op kind t late) s'∧Wd sizes s'.words (Qt m A p wr)∧s'.core=E1 s.core t c' ∧
   s'.act=(match Ik done with |none=>s.act |some q=>E1 s.act t q.2) ∧
   s'.tr=(match Ik done with |none=>ms.foldl (fun x k=>x.enter (GP k) t) s.tr |some q=>(ms.foldl (fun x k=>x.enter (GP k) t) s.tr).enter q.1 t):=by
 have hst:Hc pg (Fl sizes) s.words t (s.core t) (decide (late≠0))=some (Rb s.words ((sizes.take A).sum+p) wr,c',⟨ms,done,((sizes.take A).sum+p:Nat),wrote,stay,0⟩):=by
  rw[hc];exact O7 (a:=(sizes.take A).sum+p) (was:=was) (b:=b) hok (by rw[hA,hp];exact O5 hlt h4) ((hW.2 A p hlt).trans hw) hb (e _ _)
 have hs:=h.step (late:=late) ht ha h1 h2 hst hbad;refine⟨_,hs,?_,?_,?_,?_⟩
 ·have:Wd sizes (Rb s.words ((sizes.take A).sum+p) wr) (Qt m A p wr):=by
   cases wr with
   |none=>exact hW
   |some v=>exact hW.set v hlt
  unfold LS.Em;dsimp only;generalize Ik done=x;cases x<;>exact this
 ·unfold LS.Em;dsimp only;generalize Ik done=x;cases x<;>rfl
 ·unfold LS.Em;dsimp only;generalize Ik done=x;cases x<;>rfl
 ·unfold LS.Em;dsimp only;generalize Ik done=x;cases x<;>rfl
end
def QM(M:Nat):Pg:=⟨[⟨20,1,0,0,0,0,1,0⟩,⟨12,0,0,0,0,0,1,0⟩,⟨4,2,1,0,0,0,M,0⟩,⟨1,3,0,0,0,0,1,0⟩,⟨21,4,2,3,0,1,0,-1⟩,⟨12,0,0,0,0,0,2,0⟩,⟨17,0,2,0,0,1,0,0⟩,⟨13,0,0,0,0,0,1,0⟩,⟨3,2,1,0,0,0,1,0⟩,⟨4,2,2,0,0,0,M,0⟩,⟨1,3,0,0,0,0,1,0⟩,⟨17,0,2,3,0,1,0,0⟩,⟨12,0,0,0,0,0,4,0⟩,⟨13,0,0,0,0,0,2,0⟩],0,8⟩
def Iw(M:Nat):Prop:=M=0∨M=1∨M=3∨M=7∨M=15∨M=31∨M=63
theorem LA{M:Nat}(h:Iw M)(x:Nat):Nat.land x M=x%(M+1):=by
 have e:∀ j:Nat,Nat.land x (2 ^ j-1)=x%2 ^ j:=fun j=>Nat.and_two_pow_sub_one_eq_mod x j
 rcases h with rfl |rfl |rfl |rfl |rfl |rfl |rfl
 ·exact e 0
 ·exact e 1
 ·exact e 2
 ·exact e 3
 ·exact e 4
 ·exact e 5
 ·exact e 6
theorem DN{M:Nat}(h:Iw M):M<64:=by rcases h with rfl |rfl |rfl |rfl |rfl |rfl |rfl<;>decide
inductive P9 where
 |idle
 |p0
 |wt (k:Nat)
 |g (k:Nat)
 |hold (k:Nat)
 |rel (k:Nat)
def P9.is(M:Nat):P9→Nat→CoreM→Nat→Prop
 |.idle,a,c,l=>a=0∧(l=0∨l=10)∧∃ r1 r2 r3 r4 r7 pc,c=⟨[0,r1,r2,r3,r4,0,0,r7],pc⟩
 |.p0,a,c,l=>a=1∧l=1∧∃ r1 r2 r3 r4 r7,c=⟨[0,r1,r2,r3,r4,0,0,r7],0⟩
 |.wt k,a,c,l=>a=1∧l=2∧∃ r4 r7,c=⟨[0,k,k%(M+1),1,r4,0,0,r7],4⟩
 |.g k,a,c,l=>a=1∧l=3∧∃ r4 r7,c=⟨[0,k,k%(M+1),1,r4,0,0,r7],6⟩
 |.hold k,a,c,l=>a=2∧l=5∧∃ r4 r7,c=⟨[0,k,k%(M+1),1,r4,0,0,r7],7⟩
 |.rel k,a,c,l=>a=3∧l=8∧∃ r4 r7,c=⟨[0,k,(k+1)%(M+1),1,r4,0,0,r7],11⟩
def P9.rk:P9→Nat
 |.idle=>0
 |.p0=>5
 |.wt _=>4
 |.g _=>3
 |.hold _=>2
 |.rel _=>1
def OI(P:Nat→P9):Nat→List Nat→Prop
 |_,[]=>True
 |b,t::q=>P t=.wt (b%F4)∧OI P (b+1) q
structure Rl where
 P:Nat→P9
 L:Nat→Nat
 H:Option Nat
 up:Bool
 o:Nat
 q:List Nat
 m:Nat→Nat→Nat
abbrev Rm(M:Nat):List Nat:=[1,M+1]
structure Ro (n M:Nat) (g:Rl) (s:LS):Prop where
 W:Wd (Rm M) s.words g.m
 is:∀ t,t<n→(g.P t).is M (s.act t) (s.core t) (g.L t)
 tail:g.m 0 0=(g.o+g.H.toList.length+g.q.length)%F4
 fl:∀ p,p<M+1→g.m 1 p=if g.up=true∧p=g.o%(M+1) then 1 else 0
 w:OI g.P (g.o+g.H.toList.length) g.q
 hold:∀ t∈g.H,t<n∧t∉g.q∧(g.up=true∧g.P t=.g (g.o%F4)∨g.up=false∧(g.P t=.hold (g.o%F4)∨g.P t=.rel (g.o%F4)))
 no:g.H=none→g.up=true
 free:∀ t,t<n→t∉g.q→t∉g.H→g.P t=.idle∨g.P t=.p0
 nd:g.q.Nodup
 lt:∀ t∈g.q,t<n
 tr:Dj n s.tr g.L g.q
end
section
open Go Go.Lib
def QJ:List UInt8:=[108,111,99,107,58,10,102,97,100,100,32,114,49,32,48,32,114,48,32,49,10,109,97,114,107,32,49,10,97,110,100,107,32,114,50,32,114,49,32]
def QK:List UInt8:=[10,99,111,110,115,116,32,114,51,32,49,10,97,119,97,105,116,32,114,52,32,49,32,114,50,32,101,113,32,114,51,10,109,97,114,107,32,50,10,115,116,111,114,101,32,49,32,114,50,32,114,48,10,100,111,110,101,32,49,10,117,110,108,111,99,107,58,10,97,100,100,107,32,114,50,32,114,49,32,49,10,97,110,100,107,32,114,50,32,114,50,32]
def QL:List UInt8:=[10,99,111,110,115,116,32,114,51,32,49,10,115,116,111,114,101,32,49,32,114,50,32,114,51,10,109,97,114,107,32,52,10,100,111,110,101,32,50,10]
def P6:List UInt8:=[77,65,83,75]
def PW:List UInt8:=QJ++P6++QK++P6++QL
def JK(M:Nat):List UInt8:=if M<10 then [UInt8.ofNat (48+M)] else [UInt8.ofNat (48+M/10),UInt8.ofNat (48+M%10)]
def DA(M:Nat):List UInt8:=QJ++JK M++QK++JK M++QL
theorem KO{M:Nat}(h:Iw M):decDigits M=JK M:=by
 have:=DN h;unfold JK;by_cases c:M<10
 ·rw[if_pos c,decDigits_one c]
 ·rw[if_neg c,decDigits,dif_neg c,decDigits_one (by omega)];rfl
theorem NM{M:Nat}(h:Iw M):replaceAll PW P6 (JK M)=DA M:=by
 rcases h with rfl |rfl |rfl |rfl |rfl |rfl |rfl<;>decide +kernel
theorem Pa{M:Nat}(h:Iw M):(At (DA M)).1=QM M:=by
 rcases h with rfl |rfl |rfl |rfl |rfl |rfl |rfl<;>decide +kernel
theorem MD{M:Nat}(h:Iw M):(DA M).length≤90000:=by
 rcases h with rfl |rfl |rfl |rfl |rfl |rfl |rfl<;>decide +kernel
theorem Pb{M:Nat}(h:Iw M):(At (DA M)).1.l.length≤1000:=by rw[Pa h];show 14≤1000;decide
def Lz(n sl:Int):Prop:=∃ k M:Nat,n=(k:Int)∧sl=(M:Int)+1∧Iw M∧1≤k∧k≤M+1
theorem Pc{M:Nat}(h:Iw M):bits .and .i64 ((M:Int)+1) (M:Int)=0:=by
 rcases h with rfl |rfl |rfl |rfl |rfl |rfl |rfl<;>decide +kernel
theorem NN:∀ s:Fin 65,1≤s.val→¬Iw (s.val-1)→bits .and .i64 (s.val:Int) ((s.val:Int)-1)≠0:=by
 unfold Iw
 decide +kernel
theorem Pd{n sl:Int}(h:¬Lz n sl)(h1:1≤n)(h2:n≤sl)(h3:sl≤64):bits .and .i64 sl (sl-1)≠0:=by
 obtain⟨s,rfl⟩:∃ s:Nat,sl=(s:Int):=⟨sl.toNat,by omega⟩
 obtain⟨k,rfl⟩:∃ k:Nat,n=(k:Int):=⟨n.toNat,by omega⟩
 refine NN ⟨s,by omega⟩ (by show 1≤s;omega) fun hM=>h ⟨k,s-1,rfl,by omega,hM,by omega,by omega⟩
def Nu(M st:Nat):List Int:=((List.replicate (M+2) (0:Int)).set 0 (st:Int)).set (1+st%(M+1)) 1
theorem NO(M st:Nat):(Nu M st).length=M+2:=by simp[Nu]
theorem ME{M:Nat}(h:Iw M){st:Nat}(hst:st<4294967296):bits .and .i64 (st:Int) (M:Int)=((st%(M+1):Nat):Int):=by
 show IntKind.i64.wrap ((BitVec.ofInt 64 (st:Int) &&& BitVec.ofInt 64 (M:Int)).toNat:Int)=((st%(M+1):Nat):Int)
 have e:(BitVec.ofInt 64 (st:Int) &&& BitVec.ofInt 64 (M:Int)).toNat=st%(M+1):=by
  have hm:=DN h;rw[BitVec.toNat_and,BitVec.toNat_ofInt,BitVec.toNat_ofInt];have e1:((st:Int)%((2 ^ 64:Nat):Int)).toNat=st:=by omega
  have e2:((M:Int)%((2 ^ 64:Nat):Int)).toNat=M:=by omega
  rw[e1,e2];exact LA h st
 rw[e,IntKind.wrap_i64];have:st%(M+1)<M+1:=Nat.mod_lt st (Nat.succ_pos M);have hm:=DN h;omega
end
end Go.Proofs.YtjjpiefgdggghaaGreatDoor
