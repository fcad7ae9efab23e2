/- Parts: TracePlain, Frame, TrIs. -/
import Derived.Test.YtjjpiefgdggghaaGreatDoorK05
import Derived.Test.YtjjpiefgdggghaaGreatDoorK04
set_option linter.unusedVariables false
set_option linter.unusedSimpArgs false
set_option maxRecDepth 100000
set_option maxHeartbeats 40000000
namespace Go.Proofs.YtjjpiefgdggghaaGreatDoor
section
theorem Hv{α:Type}{motive:List α→Prop}(h0:motive [])(h1:∀ l x,motive l→motive (l++[x]))(l:List α):motive l:=by
 have:∀ l:List α,motive l.reverse:=by
  intro l;induction l with
  |nil=>exact h0
  |cons x l ih=>rw[List.reverse_cons];exact h1 _ _ ih
 have:=this l.reverse
 rwa [List.reverse_reverse]at this
abbrev DZ:=Nat×Nat
def C8(l:List DZ)(t:Nat):Nat:=l.foldl (fun k x=>if x.2=t then x.1 else k) 0
def N5(k:Nat):Nat:=if k=1 then 1 else if k=2 then 2 else if k=3 then 3 else if k=4 then 5 else if k=5 then 4 else if k=8 then 6 else if k=9 then 7 else 0
def ED(l:List DZ)(t:Nat):Nat:=N5 (C8 l t)
def Cf(l:List DZ):List DZ→List Nat
 |[]=>[]
 |x::r=>if x.1=2∧C8 l x.2=2∧C8 r x.2=0 then x.2::Cf l r else Cf l r
def GL(l:List DZ):List Nat:=Cf l l
def Qr(k:Nat):Bool:=k==3||k==4||k==6
def DE(l:List DZ):List DZ→Int
 |[] => -1
 |x::r=>if Qr (ED l x.2)=true then (x.2:Int) else DE l r
def Gw(l:List DZ):Int:=DE l l.reverse
def Dc(kind last:Nat)(head:Bool)(free:Bool):Bool :=
 if kind=1 then last==0||last==6||last==7||last==10
 else if kind=2∨kind=7 then last==1
 else if kind=3 then last==2&&head&&free
 else if kind=4 then last==2
 else if kind=5 then last==3
 else if kind=6 then last==4
 else if kind=8 then last==5
 else if kind=9 then last==8
 else if kind=10 then last==9
 else false
def Fw(n:Nat)(l:List DZ)(x:DZ):Bool:=decide (x.2<n)&&Dc x.1 (C8 l x.2) ((GL l).head?==some x.2) (Gw l == -1)
def Di(n:Nat)(pre:List DZ):List DZ→Nat
 |[]=>pre.length
 |x::r=>if Fw n pre x=true then Di n (pre++[x]) r else pre.length
def Cj(n:Nat)(l:List DZ):Nat:=if n<1∨n > 64 then 0 else Di n [] l
theorem Fl(l:List DZ)(x:DZ)(t:Nat):C8 (l++[x]) t=if x.2=t then x.1 else C8 l t:=by
 simp[C8,List.foldl_append]
theorem Hw(l:List DZ)(x:DZ)(hx:x.1≠0):∀ r:List DZ,Cf (l++[x]) (r++[x])=(Cf l r).filter (· != x.2)++(if x.1=2 then [x.2] else [])
 |[]=>by
  simp[Cf,Fl];by_cases h:x.1=2<;>simp[h,C8]
 |y::r=>by
  have ih:=Hw l x hx r;simp only[List.cons_append,Cf,Fl,ih];by_cases h:x.2=y.2
  ·have h':¬(y.1=2∧(if x.2=y.2 then x.1 else C8 l y.2)=2∧(if x.2=y.2 then x.1 else C8 r y.2)=0):=fun⟨_,_,e⟩=>by rw[if_pos h]at e;exact hx e
   rw[if_neg h'];by_cases h2:y.1=2∧C8 l y.2=2∧C8 r y.2=0
   ·rw[if_pos h2,List.filter_cons_of_neg (by simp[h])]
   ·rw[if_neg h2]
  ·rw[if_neg h,if_neg h];by_cases h2:y.1=2∧C8 l y.2=2∧C8 r y.2=0
   ·rw[if_pos h2,if_pos h2,List.filter_cons_of_pos (by simpa using fun e=>h e.symm),List.cons_append]
   ·rw[if_neg h2,if_neg h2]
theorem PV(l:List DZ)(x:DZ)(hx:x.1≠0):GL (l++[x])=(GL l).filter (· != x.2)++(if x.1=2 then [x.2] else []):=Hw l x hx l
theorem Hx(l:List DZ):∀ r:List DZ,DE l r = -1↔∀ x∈r,Qr (ED l x.2)=false
 |[]=>by simp[DE]
 |x::r=>by
  have ih:=Hx l r;unfold DE;by_cases h:Qr (ED l x.2)=true
  ·rw[if_pos h];constructor
   ·intro e;omega
   ·intro e;rw[e x (List.mem_cons_self ..)]at h;cases h
  ·rw[if_neg h,ih];simp at h;simp[h]
theorem PW(l:List DZ):Gw l = -1↔∀ x∈l,Qr (ED l x.2)=false:=by
 rw[Gw,Hx];simp
theorem TI:∀ (l:List DZ) (t:Nat),(∀ x∈l,x.2≠t)→C8 l t=0:=by
 intro l t h;induction l using Hv with
 |h0=>rfl
 |h1 l x ih =>
  rw[Fl,if_neg (h x (by simp)),ih (fun y hy=>h y (by simp[hy]))]
structure DC where
 last:List Nat
 queue:List Nat
 ok:Bool
deriving DecidableEq
def DC.new(n:Nat):DC:=⟨List.replicate n 0,[],true⟩
def Ks(k:Nat):Bool:=k==3||k==5||k==8
def DC.fits(x:DC)(kind t:Nat):Bool:=decide (t<x.last.length)&&Dc kind (x.last.getD t 0) (x.queue.head?==some t) (x.last.all (fun k=>!Ks k))
def DC.enter(x:DC)(kind t:Nat):DC :=
 ⟨x.last.set t kind,x.queue.filter (· != t)++(if kind=2 then [t] else []),x.ok&&x.fits kind t⟩
def DC.of(n:Nat)(l:List DZ):DC:=l.foldl (fun x e=>x.enter e.1 e.2) (DC.new n)
theorem DC.FO(n:Nat)(l:List DZ)(e:DZ):DC.of n (l++[e])=(DC.of n l).enter e.1 e.2:=by simp[DC.of,List.foldl_append]
theorem DC.len(n:Nat)(l:List DZ):(DC.of n l).last.length=n:=by
 induction l using Hv with
 |h0=>simp[DC.of,DC.new]
 |h1 l x ih=>rw[DC.FO];simp[DC.enter,ih]
theorem DC.KC(n:Nat)(l:List DZ)(t:Nat)(ht:t<n):(DC.of n l).last.getD t 0=C8 l t:=by
 induction l using Hv with
 |h0=>simp[DC.of,DC.new,C8,ht]
 |h1 l x ih =>
  rw[DC.FO,Fl,←ih];have hl:=DC.len n l;simp only[DC.enter,List.getD_eq_getElem?_getD,List.getElem?_set];by_cases h:x.2=t
  ·rw[if_pos h,if_pos h,if_pos (by omega)];rfl
  ·rw[if_neg h,if_neg h]
theorem DC.V8(n:Nat)(l:List DZ)(h:∀ x∈l,x.1≠0):(DC.of n l).queue=GL l:=by
 induction l using Hv with
 |h0=>rfl
 |h1 l x ih =>
  rw[DC.FO,PV _ _ (h x (by simp)),←ih (fun y hy=>h y (by simp[hy]))];rfl
theorem Ng(k:Nat):Qr (N5 k)=Ks k:=by
 unfold N5 Ks;repeat' split
 all_goals first |(subst_vars;rfl) |skip
 rw[show(k==3)=false from Bq (by assumption),show(k==5)=false from Bq (by assumption),show(k==8)=false from Bq (by assumption)];rfl
theorem DC.V9(n:Nat)(l:List DZ)(h:∀ x∈l,x.2<n):(DC.of n l).last.all (fun k=>!Ks k)=(Gw l == -1):=by
 rw[Bool.eq_iff_iff,List.all_eq_true,beq_iff_eq,PW];constructor
 ·intro h1 x hx;have h2:=h x hx;have h3:=h1 ((DC.of n l).last.getD x.2 0) (by
   rw[List.getD_eq_getElem?_getD,List.getElem?_eq_getElem (by rw[DC.len];exact h2)];exact List.getElem_mem _)
  rw[DC.KC n l _ h2]at h3;rw[ED,Ng]
  simpa using h3
 ·intro h1 k hk;obtain⟨t,ht,rfl⟩:=List.mem_iff_getElem.1 hk;have ht':t<n:=by rw[DC.len]at ht;exact ht
  have e:(DC.of n l).last[t]=C8 l t:=by rw[←DC.KC n l t ht',List.getD_eq_getElem?_getD,List.getElem?_eq_getElem ht];rfl
  rw[e];by_cases hx:∃ x∈l,x.2=t
  ·obtain⟨x,hx,rfl⟩:=hx;have:=h1 x hx;rw[ED,Ng]at this;simp[this]
  ·rw[TI l t (fun x hx2 e=>hx ⟨x,hx2,e⟩)];rfl
theorem VA{kind last:Nat}{a b:Bool}(h:Dc kind last a b=true):kind≠0:=by
 intro e;subst e;simp[Dc]at h
def LP(n:Nat)(l:List DZ):Prop:=∀ a x b,l=a++x::b→Fw n a x=true
theorem Nh(n:Nat):LP n []:=fun a x b e=>by cases a with
 |nil=>cases e
 |cons y a=>cases e
theorem LQ{n:Nat}{l:List DZ}{x:DZ}:LP n (l++[x])↔LP n l∧Fw n l x=true:=by
 constructor
 ·intro h;exact⟨fun a y b e=>h a y (b++[x]) (by rw[e];simp),h l x [] rfl⟩
 ·rintro⟨h1,h2⟩ a y b e;rcases List.eq_nil_or_concat b with rfl |⟨b',z,rfl⟩
  ·obtain⟨rfl,h⟩:=List.append_inj' e rfl;cases h;exact h2
  ·have e':l++[x]=(a++y::b')++[z]:=by rw[e];simp
   obtain⟨rfl,_⟩:=List.append_inj' e' rfl;exact h1 a y b' rfl
theorem TJ{n:Nat}{l:List DZ}(h:LP n l):∀ x∈l,x.2<n∧x.1≠0:=by
 intro x hx;obtain⟨a,b,rfl⟩:=List.append_of_mem hx;have:=h a x b rfl;simp only[Fw,Bool.and_eq_true,decide_eq_true_eq]at this;exact⟨this.1,VA this.2⟩
theorem DC.YN(n:Nat)(l:List DZ):(DC.of n l).ok=true↔LP n l:=by
 induction l using Hv with
 |h0=>exact⟨fun _=>Nh n,fun _=>rfl⟩
 |h1 l x ih =>
  rw[LQ,DC.FO,←ih];simp only[DC.enter,Bool.and_eq_true];refine and_congr_right fun h=>?_
  have hg:=TJ (ih.1 h);have e:(DC.of n l).fits x.1 x.2=Fw n l x:=by
   unfold DC.fits Fw;rw[DC.len,DC.V8 n l (fun y hy=>(hg y hy).2),DC.V9 n l (fun y hy=>(hg y hy).1)];by_cases hx:x.2<n
   ·rw[DC.KC n l _ hx]
   ·simp[hx]
  rw[e]
theorem HX(n:Nat):∀ (r pre:List DZ),LP n pre→(Di n pre r=(pre++r).length↔LP n (pre++r))
 |[],pre,h=>by simp[Di,h]
 |x::r,pre,h=>by
  unfold Di;by_cases hx:Fw n pre x=true
  ·rw[if_pos hx];have:=HX n r (pre++[x]) (LQ.2 ⟨h,hx⟩)
   simpa using this
  ·rw[if_neg hx];constructor
   ·intro e;simp at e
   ·intro e;exact absurd (e pre x r rfl) hx
theorem Eb(n:Nat)(h1:1≤n)(h2:n≤64)(l:List DZ):Cj n l=l.length↔(DC.of n l).ok=true:=by
 rw[DC.YN];unfold Cj;rw[if_neg (by omega)];exact HX n l [] (Nh n)
end
section
open Go.RowKit Go.Proofs.YtjjpiefgdggghaaGreatDoorW.PrintWords
structure Cq (B:Nat) (Ts:List TypeId) (M:Nat→Prop) (w w':World):Prop where
 os:w'.os=w.os
 tape:w'.tape=w.tape
 output:w'.output=w.output
 size:w.heap.size≤w'.heap.size
 block:∀ k,k<w.heap.size→(k<B∨(¬M k∧∀ cs t fr,w.heap[k]?=some (.cells cs t fr)→t∉Ts))→w'.heap[k]?=w.heap[k]?
section
variable {B:Nat} {Ts Ts':List TypeId} {M:Nat→Prop} {a w w':World}
theorem Cq.refl(B:Nat)(Ts:List TypeId)(M:Nat→Prop)(w:World):Cq B Ts M w w:=⟨rfl,rfl,rfl,Nl _,fun _ _ _=>rfl⟩
theorem Cq.trans{b c:World}(h:Cq B Ts M a b)(k:Cq B Ts M b c):Cq B Ts M a c :=
 ⟨k.os.trans h.os,k.tape.trans h.tape,k.output.trans h.output,Nat.le_trans h.size k.size,fun i hi hc=>by
  have e:=h.block i hi hc;rw[k.block i (Nat.lt_of_lt_of_le hi h.size) (hc.imp id fun⟨h1,h2⟩=>⟨h1,fun cs t fr ht=>h2 cs t fr (by rw[←e];exact ht)⟩),e]⟩
theorem Cq.mono(h:Cq B Ts M w w')(hs:∀ t∈Ts,t∈Ts'):Cq B Ts' M w w' :=
 ⟨h.os,h.tape,h.output,h.size,fun k hk hc=>h.block k hk (hc.imp id fun⟨h1,h2⟩=>⟨h1,fun cs t fr ht hm=>h2 cs t fr ht (hs t hm)⟩)⟩
theorem Cq.CD(h:Below w.heap.size w w'):Cq B Ts M w w':=⟨h.os,h.tape,h.output,h.size,fun k hk _=>h.block k hk⟩
theorem Cq.below(h:Cq B Ts M w w')(hB:B≤w.heap.size):Below B w w':=⟨h.os,h.tape,h.output,h.size,fun k hk=>h.block k (by omega) (.inl hk)⟩
theorem Cq.set(h:Cq B Ts M a w){p:Addr}{cs:Array Value}{t:TypeId}{fr:Nat×Nat}(hp:w.heap[p.block]?=some (.cells cs t fr))(ht:t∈Ts)(hB:B≤p.block)(v:Value):Cq B Ts M a (w.setCell p v) :=
 h.trans ⟨rfl,rfl,rfl,by simp[World.setCell],fun k hk hc=>Below.heap_setCell _ _ _ _ fun e=>by
  subst e;rcases hc with hc |⟨_,hc⟩
  ·omega
  ·exact hc cs t fr hp ht⟩
theorem Cq.grown(h:Cq B Ts M a w){e:TypeId}{size n:Nat}{v:Value}{xs:List Value}(ho:w.ownsRow B e size v n xs)(ht:e∈Ts)(hg:w.grownBy w' v.ownBlock):Cq B Ts M a w' :=
 h.trans ⟨hg.os,hg.tape,hg.output,hg.size,fun k hk hc=>hg.block k hk fun e1=>by
  rcases ho.2 with ⟨rfl,_⟩ |⟨g,cap,cur,rfl,hb,hh,_⟩
  ·cases e1
  ·have:k=g:=by simpa [Value.ownBlock]using e1
   subst this;rcases hc with hc |⟨_,hc⟩
   ·omega
   ·exact hc cur e (0,0) hh ht⟩
theorem Cq.then(h:Cq B Ts M a w)(k:Below w.heap.size w w'):Cq B Ts M a w':=h.trans (Cq.CD k)
theorem Cq.drew(h:Cq B Ts M a w):Cq B Ts M a w.drew:=⟨h.os,h.tape,h.output,h.size,h.block⟩
theorem Cq.GR(h:Cq B Ts M w w'){g:Nat}{cs:Array Value}{t:TypeId}{fr:Nat×Nat}(hg:w.heap[g]?=some (.cells cs t fr))(ht:t∉Ts)(hm:¬M g):w'.heap[g]?=some (.cells cs t fr) :=
 (h.block g (Bl hg) (.inr ⟨hm,fun cs' t' fr' he=>by rw[hg]at he;cases he;exact ht⟩)).trans hg
theorem Cq.own(h:Cq B Ts M w w'){base:Nat}{e:TypeId}{size n:Nat}{v:Value}{xs:List Value}(ho:w.ownsRow base e size v n xs)(ht:e∉Ts)(hm:∀ k,v.ownBlock=some k→¬M k):w'.ownsRow base e size v n xs:=by
 refine Om ho fun k hk=>?_
 rcases ho.2 with ⟨rfl,_⟩ |⟨g,cap,cur,rfl,hb,hh,_⟩
 ·cases hk
 ·have:k=g:=by simpa [Value.ownBlock]using hk.symm
  subst this;exact(h.GR hh ht (hm k hk)).trans hh.symm
end
theorem DF{W:World}{base:Nat}{e:TypeId}{size n g c:Nat}{xs:List Value}(h:W.ownsRow base e size (.slice (some ⟨g,0,none⟩) n c) n xs)(j:Nat)(hj:j<n*size)(u:Value) :
  (W.setCell ⟨g,j,none⟩ u).ownsRow base e size (.slice (some ⟨g,0,none⟩) n c) n (xs.set j u):=by
 obtain⟨h1,h2⟩:=h;refine⟨by rw[List.length_set];exact h1,?_⟩;rcases h2 with ⟨e1,_⟩ |⟨g',cap,cur,e1,hg,hh,hc,hm,hs,ht⟩
 ·cases e1
 ·cases e1;refine .inr ⟨g,c,cur.set! j u,rfl,hg,?_,hc,hm,by simpa using hs,?_⟩
  ·simpa using Bs hh j u
  ·rw[←ht];simp[List.take_set]
end
section
def Ay{α:Type}(f:Nat→α)(t:Nat)(v:α):Nat→α:=fun s=>if s=t then v else f s
theorem Ag{α:Type}(f:Nat→α)(t:Nat)(v:α):Ay f t v t=v:=if_pos rfl
theorem Au{α:Type}(f:Nat→α){t s:Nat}(v:α)(h:s≠t):Ay f t v s=f s:=if_neg h
theorem Dr{α:Type}(f:Nat→α)(t:Nat)(v u:α):Ay (Ay f t v) t u=Ay f t u:=by
 funext s;unfold Ay;split<;>rfl
structure Cn (n:Nat) (x:DC) (last:Nat→Nat) (q:List Nat):Prop where
 ok:x.ok=true
 len:x.last.length=n
 last:∀ t,t<n→x.last.getD t 0=last t
 q:x.queue=q
theorem Cn.new(n:Nat):Cn n (DC.new n) (fun _=>0) []:=⟨rfl,by simp[DC.new],fun t ht=>by simp[DC.new,ht],rfl⟩
theorem Cn.congr{n:Nat}{x:DC}{last last':Nat→Nat}{q:List Nat}(h:Cn n x last q)(e:∀ t,t<n→last t=last' t):Cn n x last' q :=
 ⟨h.ok,h.len,fun t ht=>(h.last t ht).trans (e t ht),h.q⟩
theorem JB{q:List Nat}{t:Nat}(h:t∉q):q.filter (· != t)=q :=
 List.filter_eq_self.2 fun a ha=>by
  have:a≠t:=fun e=>h (e▸ha)
  simpa using this
section
variable {n:Nat} {x:DC} {last:Nat→Nat} {q:List Nat} {t:Nat}
theorem Cn.enter(h:Cn n x last q)(ht:t<n)(k:Nat)(hk:Dc k (last t) (q.head?==some t) (x.last.all (fun k=>!Ks k))=true) :
  Cn n (x.enter k t) (Ay last t k) (q.filter (· != t)++(if k=2 then [t] else [])):=by
 refine⟨?_,?_,?_,?_⟩
 ·unfold DC.enter DC.fits;rw[h.ok,h.len,h.q,h.last t ht,hk]
  simpa using ht
 ·simp[DC.enter,h.len]
 ·intro s hs;have:=h.last s hs;simp only[DC.enter,List.getD_eq_getElem?_getD,List.getElem?_set]at this ⊢;by_cases e:s=t
  ·subst e;rw[if_pos rfl,if_pos (by rw[h.len];exact hs),Ag];rfl
  ·rw[if_neg (fun e'=>e e'.symm),Au _ _ e];exact this
 ·simp[DC.enter,h.q]
theorem Cn.plain(h:Cn n x last q)(ht:t<n)(hq:t∉q)(k:Nat)(h2:k≠2)(hk:∀ a b,Dc k (last t) a b=true):Cn n (x.enter k t) (Ay last t k) q:=by
 have:=h.enter ht k (hk _ _)
 rwa [JB hq,if_neg h2,List.append_nil]at this
theorem Cn.call(h:Cn n x last q)(ht:t<n)(hq:t∉q)(hl:last t=0∨last t=6∨last t=7∨last t=10):Cn n (x.enter 1 t) (Ay last t 1) q :=
 h.plain ht hq 1 (by decide) fun a b=>by rcases hl with e |e |e |e<;>simp[Dc,e]
theorem Cn.enq(h:Cn n x last q)(ht:t<n)(hq:t∉q)(hl:last t=1):Cn n (x.enter 2 t) (Ay last t 2) (q++[t]):=by
 have:=h.enter ht 2 (by simp[Dc,hl])
 rwa [JB hq,if_pos rfl]at this
theorem Cn.Li(h:Cn n x last (t::q))(ht:t<n)(hq:t∉q)(hl:last t=2)(ho:∀ s,s<n→Ks (last s)=false):Cn n (x.enter 3 t) (Ay last t 3) q:=by
 have hall:x.last.all (fun k=>!Ks k)=true:=by
  rw[List.all_eq_true];intro k hk;obtain⟨s,hs,rfl⟩:=List.mem_iff_getElem.1 hk;have:=h.last s (by rw[←h.len];exact hs);rw[List.getD_eq_getElem?_getD,List.getElem?_eq_getElem hs]at this;rw[show x.last[s]=last s from this,ho s (by rw[←h.len];exact hs)];rfl
 have:=h.enter ht 3 (by simp[Dc,hl,hall]);rw[if_neg (by decide),List.append_nil,List.filter_cons_of_neg (by simp),JB hq]at this;exact this
theorem Cn.EV(h:Cn n x last q)(ht:t<n)(hq:t∉q)(hl:last t=3):Cn n (x.enter 5 t) (Ay last t 5) q :=
 h.plain ht hq 5 (by decide) fun a b=>by simp[Dc,hl]
theorem Cn.full(h:Cn n x last q)(ht:t<n)(hq:t∉q)(hl:last t=1):Cn n (x.enter 7 t) (Ay last t 7) q :=
 h.plain ht hq 7 (by decide) fun a b=>by simp[Dc,hl]
theorem Cn.unlock(h:Cn n x last q)(ht:t<n)(hq:t∉q)(hl:last t=5):Cn n (x.enter 8 t) (Ay last t 8) q :=
 h.plain ht hq 8 (by decide) fun a b=>by simp[Dc,hl]
theorem Cn.release(h:Cn n x last q)(ht:t<n)(hq:t∉q)(hl:last t=8):Cn n (x.enter 9 t) (Ay last t 9) q :=
 h.plain ht hq 9 (by decide) fun a b=>by simp[Dc,hl]
theorem Cn.over(h:Cn n x last q)(ht:t<n)(hq:t∉q)(hl:last t=9):Cn n (x.enter 10 t) (Ay last t 10) q :=
 h.plain ht hq 10 (by decide) fun a b=>by simp[Dc,hl]
end
end
end Go.Proofs.YtjjpiefgdggghaaGreatDoor
