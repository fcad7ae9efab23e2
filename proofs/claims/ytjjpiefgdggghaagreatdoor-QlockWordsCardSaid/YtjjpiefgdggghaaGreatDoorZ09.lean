/- Parts: WLast, WRepsOne, Format, RefName. -/
import Derived.OrdersHeld
import Derived.Deep.RegionHeld3
import Derived.Laws.BitsLemmas
import Derived.RowKit
import Derived.Test.YtjjpiefgdggghaaGreatDoorZ01
import Derived.Test.YtjjpiefgdggghaaGreatDoorZ02
import Derived.Test.YtjjpiefgdggghaaGreatDoorZ04
import Derived.Lib.AppendIntMem
import Derived.Great.BuildSlice
import Derived.Great.Walk
set_option linter.unusedVariables false
set_option linter.unusedSimpArgs false
set_option maxRecDepth 100000
set_option maxHeartbeats 40000000
section
/-
 PRINTED WORDS, second file: A REGION THAT DRAWS ITS ORDER, WALKED BY HAND, where its last store writes what its own loads read ('x.f = append(x.f, f(i))'). Plain theorems; no macro, no elab. A claim may hold it (turn the namespace's name).
 A load may be taken first in every world that meets S; behind the operations of ds nothing is shown; sound because each of ds waits for what is taken (Region.lastB). The kernel checks it.
 By an AI agent of Go's test side, Mon Nov 16 2026. No person has read it.
-/
end
namespace Go.Proofs.YtjjpiefgdggghaaGreatDoorW.PrintLast
section
section
variable {P:Program} {ops:Array Oper} {Q:Exit→Act→World→Prop} {md:Region.Mode} {S:World→Prop} {ds:List Nat}
def Region.Iq(md:Region.Mode)(ops:Array Oper)(i:Nat):Nat→Nat→Bool
 |0,_=>false
 |fuel+1,d=>match ops[d]? with
  |some o=>o.after.any fun e=>Region.binds md e&&(e.on==i||Region.Iq md ops i fuel e.on)
  |none=>false
def Region.OE(md:Region.Mode)(ops:Array Oper)(listed:Array Bool)(ds:List Nat)(i:Nat):Bool :=
 ds.all fun d=>listed.getD d true||Region.Iq md ops i ops.size d
def Er(md:Region.Mode)(ops:Array Oper)(listed:Array Bool):Prop :=
 ∀ j oj,ops[j]?=some oj→listed.getD j false=true→∀ e∈oj.after,Region.binds md e=true→listed.getD e.on false=true
theorem Er.set{listed:Array Bool}{i:Nat}(h:Er md ops listed)(hi:i∈Region.ready md ops listed):Er md ops (listed.setIfInBounds i true):=by
 obtain⟨_,oi,hoi,hall⟩:=mem_ready.1 hi;intro j oj hj hl e he hb;by_cases hij:i=j
 ·subst hij;have:oj=oi:=Option.some.inj (hj.symm.trans hoi);subst this;exact getD_set_true (hall e he hb)
 ·rw[getD_set_ne false hij]at hl;exact getD_set_true (h j oj hj hl e he hb)
def AE(P:Program)(md:Region.Mode)(ops:Array Oper)(Q:Exit→Act→World→Prop)(S:World→Prop)(ds:List Nat):Nat→Array Bool→Act→World→Prop
 |0,listed,a,w=>Region.ready md ops listed=[]∧Q .normal a w
 |fuel+1,listed,a,w =>
  (Region.ready md ops listed=[]→Q .normal a w) ∧
  ∀ i∈Region.ready md ops listed,wpOp P ops Q i (fun a' w'=>(i∉ds→S w→S w')∧AE P md ops Q S ds fuel (listed.setIfInBounds i true) a' w') a w
theorem Fg:∀ (fuel:Nat) (listed:Array Bool) (a:Act) (w:World),AE P md ops Q S ds fuel listed a w→wpAny P md ops Q fuel listed a w
 |0,_,_,_,h=>h
 |fuel+1,_,_,_,h=>⟨h.1,fun i hi=>wpOp_mono (fun a' w' h'=>Fg fuel _ a' w' h'.2) (h.2 i hi)⟩
theorem H5{i:Nat}{oi:Oper}{v:Value}(hi:ops[i]?=some oi)(hsel:∀ (j:Nat) (o:Oper) cs b,ops[j]?=some o→o.op≠.select cs b)
  (hQ:∀ c a w,Q (.panic c) (a.put oi.dst v) w→Q (.panic c) a w) :
  ∀ (fuel:Nat) (listed:Array Bool) (a:Act) (w:World),
   (∀ j oj,ops[j]?=some oj→j≠i→listed.getD j true=false→(∀ e∈oj.after,Region.binds md e=true→e.on≠i)→oi.apart ops oj=true) →
   i∈Region.ready md ops listed→Yields P ops oi v a →
   AE P md ops Q S ds fuel (listed.setIfInBounds i true) (a.put oi.dst v) w→AE P md ops Q S ds (fuel+1) listed a w:=by
 intro fuel;induction fuel with
 |zero =>
  intro listed a w _ hr hy H;refine⟨fun h=>(by rw[h]at hr;cases hr),fun j hj=>?_⟩;by_cases hji:j=i
  ·subst hji;exact(hy.yieldsIf (S:=fun _=>True)).wpOp hi trivial ⟨fun _ h=>h,H⟩
  ·have:=ready_mono hj hji;rw[H.1]at this;cases this
 |succ fuel ih =>
  intro listed a w hfree hr hy H;refine⟨fun h=>(by rw[h]at hr;cases hr),fun j hj=>?_⟩;by_cases hji:j=i
  ·subst hji;exact(hy.yieldsIf (S:=fun _=>True)).wpOp hi trivial ⟨fun _ h=>h,H⟩
  ·have h1:=H.2 j (ready_mono hj hji);obtain⟨hjun,oj,hoj,hall⟩:=mem_ready.1 hj;have hiun:=(mem_ready.1 hr).1;have hnot:∀ e∈oj.after,Region.binds md e=true→e.on≠i:=fun e he hb heq=>by
    have h1:=hall e he hb;rw[heq]at h1;rcases Nat.lt_or_ge i listed.size with h' |h'
    ·simp[h']at hiun h1;rw[hiun]at h1;cases h1
    ·simp[Array.getElem?_eq_none h']at h1
   have h2:=wpOp_put hoj (hfree j oj hoj hji hjun hnot) (fun cs b=>hsel i oi cs b hi) (fun cs b=>hsel j oj cs b hoj) hQ hy h1;have hfree':∀ k ok,ops[k]?=some ok→k≠i→(listed.setIfInBounds j true).getD k true=false →
     (∀ e∈ok.after,Region.binds md e=true→e.on≠i)→oi.apart ops ok=true:=fun k ok hk hki hun hno=>by
    refine hfree k ok hk hki ?_ hno;by_cases hjk:j=k
    ·subst hjk;exact hjun
    ·rw[getD_set_ne true hjk]at hun;exact hun
   refine wpOp_mono (fun a' w' h3=>⟨h3.2.1,ih (listed.setIfInBounds j true) a' w' hfree' (ready_mono hr (Ne.symm hji)) h3.1 ?_⟩) h2;rw[Array.setIfInBounds_comm _ _ hji];exact h3.2.2
theorem H6{rs:List Nat}{fuel:Nat}{listed:Array Bool}{a:Act}{w:World}(hr:Region.ready md ops listed=rs)(hne:rs≠[])
  (h:∀ i∈rs,wpOp P ops Q i (fun a' w'=>(i∉ds→S w→S w')∧AE P md ops Q S ds fuel (listed.setIfInBounds i true) a' w') a w):AE P md ops Q S ds (fuel+1) listed a w :=
 ⟨fun h0=>absurd (hr▸h0) hne,hr▸h⟩
theorem Hg{listed:Array Bool}{a:Act}{w:World}(hr:Region.ready md ops listed=[])(h:Q .normal a w) :
  ∀ fuel,AE P md ops Q S ds fuel listed a w
 |0=>⟨hr,h⟩
 |_+1=>⟨fun _=>h,by rw[hr];simp⟩
theorem Hh{id:Nat}{a:Act}{w:World}(hm:P.follows .mixedOrders=true)
  (h:AE P .any ops Q S ds ops.size (Array.replicate ops.size false) a {w with drawn:=w.drawn+1}):(Code.region id ops true).wp P Q a w :=
 wp_region_any hm (Fg _ _ _ _ h)
end
section
variable {P:Program} {ops:Array Oper} {Q:Exit→Act→World→Prop} {md:Region.Mode} {S:World→Prop} {ds:List Nat}
def Aa(P:Program)(md:Region.Mode)(ops:Array Oper)(Q:Exit→Act→World→Prop)(S:World→Prop)(ds:List Nat)(fuel:Nat)(listed:Array Bool)(a:Act)(w:World)(rs:List Nat):Prop :=
 ∀ i∈rs,wpOp P ops Q i (fun a' w'=>(i∉ds→S w→S w')∧AE P md ops Q S ds fuel (listed.setIfInBounds i true) a' w') a w
theorem Aa.nil{fuel:Nat}{listed:Array Bool}{a:Act}{w:World}:Aa P md ops Q S ds fuel listed a w []:=fun _ h=>by cases h
theorem Aa.cons{fuel:Nat}{listed:Array Bool}{a:Act}{w:World}{i:Nat}{o:Oper}{rs:List Nat}(ho:ops[i]?=some o)(hd:i∉ds)
  (h:∀ K':Act→World→Prop,Shut (∀ a w,S w→(S w→AE P md ops Q S ds fuel (listed.setIfInBounds i true) a w)→K' a w)→if Region.wanted o (yielded ops a.tmps)=true then Oper.wp P o a w K' Q else K' (a.put o.dst undef) w)
  (hs:Aa P md ops Q S ds fuel listed a w rs):Aa P md ops Q S ds fuel listed a w (i::rs):=fun j hj=>by
 rcases List.mem_cons.1 hj with rfl |hj
 ·exact wpOp_step ho (fun K' hK=>h K' (fun a w hS hW=>hK a w ⟨fun _ _=>hS,hW hS⟩))
 ·exact hs j hj
theorem Dq{rs:List Nat}{fuel:Nat}{listed:Array Bool}{a:Act}{w:World}(hr:Region.ready md ops listed=rs)(hne:rs≠[])
 (h:Aa P md ops Q S ds fuel listed a w rs):AE P md ops Q S ds (fuel+1) listed a w:=H6 hr hne h
theorem Ph{id n:Nat}{a:Act}{w:World}(l:Array Bool)(hm:P.follows .mixedOrders=true)(hn:ops.size=n)(hl:Array.replicate n false=l)(hS:S w.drew)
  (h:S w.drew→AE P .any ops Q S ds n l a w.drew):(Code.region id ops true).wp P Q a w:=by
 subst hn;subst hl;exact Hh hm (h hS)
def NJ(md:Region.Mode)(ops:Array Oper)(l l':Array Bool)(i:Nat):Bool :=
 Region.noSelect ops&&Region.free md ops l i&&(Region.ready md ops l).contains i&&(l.setIfInBounds i true==l')
theorem Gi{i:Nat}{N:Option Tmp}{oi:Oper}{v:Value}{fuel:Nat}{l:Array Bool}{a:Act}{w:World}(l':Array Bool)(hi:ops[i]?=some oi)(hN:oi.dst=N)(hc:NJ md ops l l' i=true)
  (hQ:∀ c a w,Q (.panic c) (a.put oi.dst v) w→Q (.panic c) a w)(hy:Yields P ops oi v a){a':Act}(ha:a.put N v=a')
  (h:AE P md ops Q S ds fuel l' a' w):AE P md ops Q S ds (fuel+1) l a w:=by
 subst ha;subst hN;simp only[NJ,Bool.and_eq_true,beq_iff_eq]at hc;obtain⟨⟨⟨h1,h2⟩,h3⟩,h6⟩:=hc;subst h6;exact H5 hi (Region.noSelect_spec h1) hQ fuel l a w (Region.free_spec hi h2) (by simpa using h3) hy h
def It(md:Region.Mode)(ops:Array Oper)(l l':Array Bool)(i:Nat):Bool:=(Region.ready md ops l==[i])&&(l.setIfInBounds i true==l')
theorem NW{i:Nat}{N:Option Tmp}{oi:Oper}{fuel:Nat}{l:Array Bool}{a:Act}{w:World}(l':Array Bool)(hi:ops[i]?=some oi)(hN:oi.dst=N)(hc:It md ops l l' i=true)(hd:i∉ds)
  (h:∀ K:Act→World→Prop,Shut (∀ a' w',S w'→(S w'→AE P md ops Q S ds fuel l' a' w')→K a' w')→if Region.wanted oi (yielded ops a.tmps)=true then Oper.wp P oi a w K Q else K (a.put N undef) w) :
  AE P md ops Q S ds (fuel+1) l a w:=by
 subst hN;simp only[It,Bool.and_eq_true,beq_iff_eq]at hc;obtain⟨h1,h2⟩:=hc;subst h2;exact Dq h1 (by simp) (Aa.cons hi hd (fun K hK=>h K hK) Aa.nil)
theorem Qk{l:Array Bool}{a:Act}{w:World}{n:Nat}(hr:(Region.ready md ops l==[])=true)(h:Q .normal a w):AE P md ops Q S ds n l a w:=Hg (by simpa using hr) h n
theorem Qj{i j:Nat}{Ni Nj:Option Tmp}{oi oj:Oper}{fuel:Nat}{l:Array Bool}{a:Act}{w:World}(li lj:Array Bool)(hi:ops[i]?=some oi)(hj:ops[j]?=some oj)(hNi:oi.dst=Ni)(hNj:oj.dst=Nj)
  (hc:(Region.ready md ops l==[i,j]&&l.setIfInBounds i true==li&&l.setIfInBounds j true==lj)=true)(hdi:i∉ds)(hdj:j∉ds)
  (h1:∀ K:Act→World→Prop,Shut (∀ a' w',S w'→(S w'→AE P md ops Q S ds fuel li a' w')→K a' w')→if Region.wanted oi (yielded ops a.tmps)=true then Oper.wp P oi a w K Q else K (a.put Ni undef) w)
  (h2:∀ K:Act→World→Prop,Shut (∀ a' w',S w'→(S w'→AE P md ops Q S ds fuel lj a' w')→K a' w')→if Region.wanted oj (yielded ops a.tmps)=true then Oper.wp P oj a w K Q else K (a.put Nj undef) w) :
  AE P md ops Q S ds (fuel+1) l a w:=by
 subst hNi;subst hNj;simp only[Bool.and_eq_true,beq_iff_eq]at hc;obtain⟨⟨h3,h4⟩,h5⟩:=hc;subst h4;subst h5;exact Dq h3 (by simp) (Aa.cons hi hdi (fun K hK=>h1 K hK) (Aa.cons hj hdj (fun K hK=>h2 K hK) Aa.nil))
theorem QZ{i j k:Nat}{Ni Nj Nk:Option Tmp}{oi oj ok:Oper}{fuel:Nat}{l:Array Bool}{a:Act}{w:World}(li lj lk:Array Bool)(hi:ops[i]?=some oi)(hj:ops[j]?=some oj)(hk:ops[k]?=some ok)(hNi:oi.dst=Ni)(hNj:oj.dst=Nj)(hNk:ok.dst=Nk)
  (hc:(Region.ready md ops l==[i,j,k]&&l.setIfInBounds i true==li&&l.setIfInBounds j true==lj&&l.setIfInBounds k true==lk)=true)(hdi:i∉ds)(hdj:j∉ds)(hdk:k∉ds)
  (h1:∀ K:Act→World→Prop,Shut (∀ a' w',S w'→(S w'→AE P md ops Q S ds fuel li a' w')→K a' w')→if Region.wanted oi (yielded ops a.tmps)=true then Oper.wp P oi a w K Q else K (a.put Ni undef) w)
  (h2:∀ K:Act→World→Prop,Shut (∀ a' w',S w'→(S w'→AE P md ops Q S ds fuel lj a' w')→K a' w')→if Region.wanted oj (yielded ops a.tmps)=true then Oper.wp P oj a w K Q else K (a.put Nj undef) w)
  (h3:∀ K:Act→World→Prop,Shut (∀ a' w',S w'→(S w'→AE P md ops Q S ds fuel lk a' w')→K a' w')→if Region.wanted ok (yielded ops a.tmps)=true then Oper.wp P ok a w K Q else K (a.put Nk undef) w) :
  AE P md ops Q S ds (fuel+1) l a w:=by
 subst hNi;subst hNj;subst hNk;simp only[Bool.and_eq_true,beq_iff_eq]at hc;obtain⟨⟨⟨h4,h5⟩,h6⟩,h7⟩:=hc;subst h5;subst h6;subst h7;exact Dq h4 (by simp) (Aa.cons hi hdi (fun K hK=>h1 K hK) (Aa.cons hj hdj (fun K hK=>h2 K hK) (Aa.cons hk hdk (fun K hK=>h3 K hK) Aa.nil)))
def Fm:Act→List (Tmp×Value)→Act
 |a,[]=>a
 |a,(n,v)::r=>Fm (a.put (some n) v) r
theorem Qi{σ:Type}{fuel:Nat}{l:Array Bool}{a:Act}{w:World}(fuel':Nat)(l':Array Bool)(ns:σ→List (Tmp×Value))(F:σ→World→Prop)
 (hcont:∀ s w',F s w'→AE P md ops Q S ds fuel' l' (Fm a (ns s)) w')
 (h:(∀ s w',F s w'→AE P md ops Q S ds fuel' l' (Fm a (ns s)) w')→AE P md ops Q S ds fuel l a w):AE P md ops Q S ds fuel l a w:=h hcont
theorem E0{fuel:Nat}{l:Array Bool}{a a':Act}{w:World}(ha:a=a')(h:AE P md ops Q S ds fuel l a' w):AE P md ops Q S ds fuel l a w:=by
 subst ha;exact h
theorem Qp{oi:Oper}{N:Option Tmp}{a:Act}{w:World}{K:Act→World→Prop}(f:FuncId)(args:Array Value)(hw:Region.wanted oi (yielded ops a.tmps)=true)(hN:oi.dst=N)(hrun:(execOp a.eval oi).run P w=.ok (.enter f args) w)
  (h:Calls P f args w fun e w'=>∃ v,e=.returned v∧K (a.put N v) w'):if Region.wanted oi (yielded ops a.tmps)=true then Oper.wp P oi a w K Q else K (a.put N undef) w:=by
 rw[if_pos hw];subst hN;unfold Oper.wp;rw[hrun,Oper.upon_enter];refine h.mono fun e w'' hh=>?_
 obtain⟨v,rfl,hk⟩:=hh;exact hk
theorem KT{f:FuncId}{fn:Func}(hf:P.funcs[f]?=some fn)(hname:(fn.name == "runtime.NumGoroutine")=false)(hb:fn.body.isSome=true)(args:Array Value)(w:World):(callFunc f args).run P w=.ok (.enter f args) w:=by
 have h1:fn.name ≠ "runtime.NumGoroutine" :=by simpa using hname
 obtain⟨c,hc⟩:=Option.isSome_iff_exists.1 hb;simp[callFunc,hf,h1,hc]
theorem MK{oi:Oper}{N:Option Tmp}{a:Act}{w:World}{K:Act→World→Prop}{f:FuncId}{fn:Func}{az:Array Operand}{ts:Array TypeId}(hf:P.funcs[f]?=some fn)(hname:(fn.name == "runtime.NumGoroutine")=false)(hb:fn.body.isSome=true)(args:Array Value)
  (hw:Region.wanted oi (yielded ops a.tmps)=true)(hN:oi.dst=N)(hop:oi.op=.call {callee:=.value (.func f),args:=az,argTypes:=ts})(hargs:az.map a.eval=args)
  (h:Calls P f args w fun e w'=>∃ v,e=.returned v∧K (a.put N v) w'):if Region.wanted oi (yielded ops a.tmps)=true then Oper.wp P oi a w K Q else K (a.put N undef) w:=by
 refine Qp f args hw hN ?_ h;have he:=KT hf hname hb args w;unfold execOp;simp[hop,resolve,Deferred.ofValue,invoke,Act.eval,hargs,he]
theorem I8{rest:List Oper}{oi:Oper}{a:Act}{w:World}(N:Option Tmp)(hd:oi.dst=N)(hg:oi.guard=none){f:FuncId}{fn:Func}{az:Array Operand}{ts:Array TypeId}(hf:P.funcs[f]?=some fn)(hname:(fn.name == "runtime.NumGoroutine")=false)(hb:fn.body.isSome=true)(args:Array Value)
  (hop:oi.op=.call {callee:=.value (.func f),args:=az,argTypes:=ts})(hargs:az.map a.eval=args)
  (h:Calls P f args w fun e w'=>∃ v,e=.returned v∧wpList P ops Q rest (a.put N v) w'):wpList P ops Q (oi::rest) a w:=by
 refine wpList_plain hg fun K hK=>?_
 have he:=KT hf hname hb args w;have hrun:(execOp a.eval oi).run P w=.ok (.enter f args) w:=by
  unfold execOp;simp[hop,resolve,Deferred.ofValue,invoke,Act.eval,hargs,he]
 unfold Oper.wp;rw[hrun,Oper.upon_enter];refine h.mono fun e w'' hh=>?_
 obtain⟨v,rfl,hk⟩:=hh;subst hd;exact hK _ _ hk
theorem Kz{oi:Oper}{N:Option Tmp}{a:Act}{w w1:World}{v:Value}{K:Act→World→Prop}(hw:Region.wanted oi (yielded ops a.tmps)=true)(hN:oi.dst=N)(hrun:(execOp a.eval oi).run P w=.ok (.value v) w1)
  (h:K (a.put N v) w1):if Region.wanted oi (yielded ops a.tmps)=true then Oper.wp P oi a w K Q else K (a.put N undef) w:=by
 rw[if_pos hw];subst hN;unfold Oper.wp;rw[hrun];exact h
theorem CG(n:Int):IntKind.i64.wrap n=Go.RowKit.wrap64 n:=by unfold Go.RowKit.wrap64;exact IntKind.wrap_i64 n
theorem Da(n:Int):IntKind.i32.wrap n=Go.RowKit.wrap32 n:=by unfold Go.RowKit.wrap32;exact IntKind.wrap_i32 n
end
end
end Go.Proofs.YtjjpiefgdggghaaGreatDoorW.PrintLast
namespace Go.Proofs.YtjjpiefgdggghaaGreatDoorW.PrintWords
section
theorem Bo.one{α:Type}{R:α→List Value→Prop}{ps:List α}{cs:List Value}{p:α}{v:Value}(hp:R p [v])(h:Bo R 1 ps cs):Bo R 1 (p::ps) (v::cs):=by
 refine⟨by simp[h.1],fun j q hq=>?_⟩;cases j with
 |zero =>
  simp only[List.getElem?_cons_zero,Option.some.injEq]at hq;subst hq
  simpa using hp
 |succ j =>
  simp only[List.getElem?_cons_succ]at hq;have h1:=h.2 j q hq
  simpa [Nat.mul_one]using h1
theorem Bo.front{α:Type}{R:α→List Value→Prop}{size:Nat}{ps:List α}{cs c all:List Value}{p:α}(hp:R p c)(hc:c.length=size)(h:Bo R size ps cs)(ha:c++cs=all):Bo R size (p::ps) all:=by
 subst ha;refine⟨by rw[List.length_append,hc,h.1,List.length_cons,Nat.succ_mul,Nat.add_comm],fun j q hq=>?_⟩;cases j with
 |zero =>
  simp only[List.getElem?_cons_zero,Option.some.injEq]at hq;subst hq;rw[Nat.zero_mul,List.drop_zero,List.take_append_of_le_length (by omega),List.take_of_length_le (by omega)];exact hp
 |succ j =>
  simp only[List.getElem?_cons_succ]at hq;have h1:=h.2 j q hq;rw[Nat.succ_mul,List.drop_append,List.drop_of_length_le (by rw[hc];exact Nat.le_add_left _ _),List.nil_append,hc,Nat.add_sub_cancel];exact h1
theorem Bo.c2{α:Type}{R:α→List Value→Prop}{ps:List α}{cs:List Value}{p:α}{va vb:Value}(hp:R p [va,vb])(h:Bo R 2 ps cs):Bo R 2 (p::ps) (va::vb::cs):=Bo.front hp rfl h rfl
theorem Bo.c3{α:Type}{R:α→List Value→Prop}{ps:List α}{cs:List Value}{p:α}{va vb vc:Value}(hp:R p [va,vb,vc])(h:Bo R 3 ps cs):Bo R 3 (p::ps) (va::vb::vc::cs):=Bo.front hp rfl h rfl
theorem Bo.c4{α:Type}{R:α→List Value→Prop}{ps:List α}{cs:List Value}{p:α}{va vb vc vd:Value}(hp:R p [va,vb,vc,vd])(h:Bo R 4 ps cs):Bo R 4 (p::ps) (va::vb::vc::vd::cs):=Bo.front hp rfl h rfl
theorem Bo.c5{α:Type}{R:α→List Value→Prop}{ps:List α}{cs:List Value}{p:α}{va vb vc vd ve:Value}(hp:R p [va,vb,vc,vd,ve])(h:Bo R 5 ps cs):Bo R 5 (p::ps) (va::vb::vc::vd::ve::cs):=Bo.front hp rfl h rfl
theorem Bo.c6{α:Type}{R:α→List Value→Prop}{ps:List α}{cs:List Value}{p:α}{va vb vc vd ve vf:Value}(hp:R p [va,vb,vc,vd,ve,vf])(h:Bo R 6 ps cs):Bo R 6 (p::ps) (va::vb::vc::vd::ve::vf::cs):=Bo.front hp rfl h rfl
theorem Bo.c7{α:Type}{R:α→List Value→Prop}{ps:List α}{cs:List Value}{p:α}{va vb vc vd ve vf vg:Value}(hp:R p [va,vb,vc,vd,ve,vf,vg])(h:Bo R 7 ps cs):Bo R 7 (p::ps) (va::vb::vc::vd::ve::vf::vg::cs):=Bo.front hp rfl h rfl
theorem Bo.c8{α:Type}{R:α→List Value→Prop}{ps:List α}{cs:List Value}{p:α}{va vb vc vd ve vf vg vh:Value}(hp:R p [va,vb,vc,vd,ve,vf,vg,vh])(h:Bo R 8 ps cs):Bo R 8 (p::ps) (va::vb::vc::vd::ve::vf::vg::vh::cs):=Bo.front hp rfl h rfl
theorem Bo.c9{α:Type}{R:α→List Value→Prop}{ps:List α}{cs:List Value}{p:α}{va vb vc vd ve vf vg vh vi:Value}(hp:R p [va,vb,vc,vd,ve,vf,vg,vh,vi])(h:Bo R 9 ps cs):Bo R 9 (p::ps) (va::vb::vc::vd::ve::vf::vg::vh::vi::cs):=Bo.front hp rfl h rfl
theorem Bo.Jw{α:Type}{R:α→List Value→Prop}{ps:List α}{cs:List Value}{p:α}{va vb vc vd ve vf vg vh vi vj:Value}(hp:R p [va,vb,vc,vd,ve,vf,vg,vh,vi,vj])(h:Bo R 10 ps cs):Bo R 10 (p::ps) (va::vb::vc::vd::ve::vf::vg::vh::vi::vj::cs):=Bo.front hp rfl h rfl
end
end Go.Proofs.YtjjpiefgdggghaaGreatDoorW.PrintWords
namespace Go.Proofs.YtjjpiefgdggghaaGreatDoor
section
open Go.RowKit Go.Proofs.YtjjpiefgdggghaaGreatDoorW.PrintWords Go.Shelf Go.Sort
theorem below_grow(w:World)(os:Array Obj):Below w.heap.size w (grow w os) :=
 ⟨rfl,rfl,rfl,by simp[grow],fun i hi=>by simp[grow,Array.getElem?_append,hi]⟩
theorem Gl{w w':World}(h:∃ k os,w'=grow (w.drewN k) os):Below w.heap.size w w':=by
 obtain⟨k,os,rfl⟩:=h;exact GL (Aq (Below.refl w.heap.size w) k) (Nl _) (below_grow (w.drewN k) os)
theorem IE(u:Nat)(hu:u≤4294967295)(w:World)(he:Env w) :
  Calls Tryz.prog 188 #[.int .u64 u,.int .i64 10] w fun e w'=>e=.returned (.string ⟨(Lib.decDigits u).toArray⟩)∧Below w.heap.size w w':=by
 by_cases hs:u<100
 ·go_enter Tryz.func188,Tryz.ntmps188;go_wp2_with fail
  refine(Tryz.internal_strconv_small u hs _).mono ?_;rintro e w' ⟨rfl,rfl⟩;go_wp2;go_ret;exact⟨rfl,Below.refl _ _⟩
 ·have hu1:1≤u:=by omega
  have hu64:u<18446744073709551616:=by omega
  have hnd20:Lib.nDigits u≤20:=by have:=Lib.numDigits_eq u hu1 hu64;split at this<;>omega
  have hb3:Lib.nDigits u≤23:=by omega
  have hal:Tryz.prog.arrayLen 189=24:=by kernel_rfl
  have hsl1:∀ W,(Instr.sliceAt 189 (.pointer (some ⟨w.heap.size,0,none⟩)) none (some (.int .i64 (Lib.nDigits u:Int))) none).run Tryz.prog W=.ok (.slice (some ⟨w.heap.size,0,none⟩) (Lib.nDigits u) 24) W:=fun W=>by
   rw[run_sliceAt_array_h W 189 ⟨w.heap.size,0,none⟩ (by kernel_rfl) .i64 (Lib.nDigits u:Int) (by omega) (by rw[hal];omega)];go_simp
  have hH0:=Lib.holds_zero0 w 189 (Lib.nDigits u) (by omega);have hfmt:=Tryz.internal_strconv_formatBase10 w.heap.size 0 24 u (Array.replicate (Lib.nDigits u) 0) (w.alloc (.cells Lib.zeros24 189)) hH0 (by rw[Array.size_replicate];exact Lib.lt_pow_nDigits u) hu64 (by rw[Array.size_replicate];omega);rw[Array.size_replicate]at hfmt;have HH0:=Lib.hid hH0;have htab:=Lib.hid he.QQ;clear hH0 hal he;go_enter Tryz.func188,Tryz.ntmps188;go_wp2_with fail
  refine(Tryz.internal_strconv_numDigits u hu1 hu64 _ (Lib.tabIs_alloc htab.out _)).mono ?_;rintro e w' ⟨rfl,rfl⟩;go_wp2_with fail
  refine hfmt.mono ?_;rintro e w' ⟨rfl,k,v',dk,rfl,hF⟩;have hcv:(convert 142 9 (.slice (some ⟨w.heap.size,0,none⟩) (Lib.nDigits u) 24)).run Tryz.prog ((putRow (fun(b:UInt8)=>Value.int .u8 (b.toNat:Int)) (w.alloc (.cells Lib.zeros24 189)) w.heap.size 0 dk).drewN k)=.ok (.string ⟨(Lib.decDigits u).toArray⟩) ((putRow (fun(b:UInt8)=>Value.int .u8 (b.toNat:Int)) (w.alloc (.cells Lib.zeros24 189)) w.heap.size 0 dk).drewN k):=by
   have h:=run_convert_bytes_back (P:=Tryz.prog) ((putRow (fun(b:UInt8)=>Value.int .u8 (b.toNat:Int)) (w.alloc (.cells Lib.zeros24 189)) w.heap.size 0 dk).drewN k) 142 9 5 ⟨w.heap.size,0,none⟩ 24 (Lib.decDigits u) Tryz.underlying142 Tryz.underlying5 Tryz.underlying9 (fun j hj=>by
    rw[Lib.row_is_numeral hF j hj,Lib.add_plain,World.cell?_drewN];exact cell?_putRow (fun(b:UInt8)=>Value.int .u8 (b.toNat:Int)) _ w.heap.size 0 _ dk HH0.out (by rw[hF.size,Array.size_replicate]) j (by rw[hF.size];rw[Lib.decDigits_length]at hj;exact hj))
   rw[Lib.decDigits_length]at h;exact h
  go_wp2;go_ret;refine⟨rfl,?_⟩;rw[alloc_eq_grow];obtain⟨os',_,eo⟩:=putRow_grow_new (fun(b:UInt8)=>Value.int .u8 (b.toNat:Int)) w #[.cells Lib.zeros24 189] w.heap.size 0 dk (Nl _);rw[eo];exact Gl ⟨k,os',rfl⟩
theorem Ih(u:Nat)(hu:u≤4294967295)(w:World)(he:Env w) :
  Calls Tryz.prog 181 #[.int .u64 u,.int .i64 10] w fun e w'=>e=.returned (.string ⟨(Lib.decDigits u).toArray⟩)∧Below w.heap.size w w':=by
 go_enter Tryz.func181,Tryz.ntmps181;go_wp2_with fail
 refine(IE u hu _ he).mono ?_;rintro e w' ⟨rfl,hb⟩;go_wp2;go_ret;exact⟨rfl,hb⟩
theorem Fi(n:Int)(h0:0≤n)(h1:n≤9223372036854775807)(w:World)(he:Env w) :
  Calls Tryz.prog 48 #[.int .i64 n] w fun e w'=>e=.returned (.string ⟨(Lib.decDigits n.toNat).toArray⟩)∧Below w.heap.size w w':=by
 refine(Tryz.strconv_Itoa n (by omega) h1 w he.QQ).mono ?_;rintro e w' ⟨rfl,hg⟩;refine⟨?_,Gl hg⟩;unfold Lib.itoa;rw[if_neg (by omega)]
theorem Cj(u:Nat)(hu64:u<18446744073709551616):(Lib.decDigits u).length≤20:=by
 rw[Lib.decDigits_length];by_cases hu1:1≤u
 ·have:=Lib.numDigits_eq u hu1 hu64;split at this<;>omega
 ·obtain rfl:u=0:=by omega
  rw[Lib.nDigits_small (by omega)];omega
end
section
open Go.RowKit Go.Proofs.YtjjpiefgdggghaaGreatDoorW.PrintWords
theorem Ak(n:Int)(h:0≤n∧n≤7)(w:World) :
  Calls Tryz.prog 100 #[.int .i64 n] w fun e w'=>e=.returned (.bool true)∧w=w':=by
 obtain⟨h1,h2⟩:=h;go_enter Tryz.func100,Tryz.ntmps100;go_wp2;go_ret;exact⟨by simp;try omega,rfl⟩
theorem G6(n:Int)(h:¬(0≤n∧n≤7))(w:World) :
  Calls Tryz.prog 100 #[.int .i64 n] w fun e w'=>e=.returned (.bool false)∧w=w':=by
 by_cases h1:0≤n
 ·have h2:¬n≤7:=fun x=>h ⟨h1,x⟩
  go_enter Tryz.func100,Tryz.ntmps100;go_wp2;go_ret;exact⟨by simp;try omega,rfl⟩
 ·go_enter Tryz.func100,Tryz.ntmps100;go_wp2;go_ret;exact⟨by simp;try omega,rfl⟩
def DQ:Array Value:=#[.string ⟨#[]⟩,.string ⟨#[99,111,110,115,116]⟩,.string ⟨#[109,111,118,101]⟩,.string ⟨#[97,100,100,107]⟩,.string ⟨#[97,110,100,107]⟩,.string ⟨#[115,104,108]⟩,.string ⟨#[115,104,114]⟩,.string ⟨#[111,114]⟩,.string ⟨#[98,101,113]⟩,.string ⟨#[98,110,101]⟩,.string ⟨#[106,117,109,112]⟩,.string ⟨#[115,101,108,102]⟩,.string ⟨#[109,97,114,107]⟩,.string ⟨#[100,111,110,101]⟩,.string ⟨#[]⟩,.string ⟨#[]⟩,.string ⟨#[108,111,97,100]⟩,.string ⟨#[115,116,111,114,101]⟩,.string ⟨#[115,119,97,112]⟩,.string ⟨#[99,97,115]⟩,.string ⟨#[102,97,100,100]⟩,.string ⟨#[97,119,97,105,116]⟩,.string ⟨#[116,97,107,101]⟩,.string ⟨#[102,114,101,101]⟩]
theorem K2(n:Nat)(h1:1≤n)(h2:n≤23):DQ[n]?=some (.string ⟨(Ag (n:Int)).toArray⟩):=by
 have:n=1∨n=2∨n=3∨n=4∨n=5∨n=6∨n=7∨n=8∨n=9∨n=10∨n=11∨n=12∨n=13∨n=14∨n=15∨n=16∨n=17∨n=18∨n=19∨n=20∨n=21∨n=22∨n=23:=by omega
 rcases this with rfl |rfl |rfl |rfl |rfl |rfl |rfl |rfl |rfl |rfl |rfl |rfl |rfl |rfl |rfl |rfl |rfl |rfl |rfl |rfl |rfl |rfl |rfl<;>rfl
theorem Ao(op:Int)(w:World) :
  Calls Tryz.prog 99 #[.int .i64 op] w fun e w'=>e=.returned (.string ⟨(Ag op).toArray⟩)∧Below w.heap.size w w':=by
 by_cases h:op<1∨23<op
 ·have e:Ag op=[]:=by unfold Ag;repeat (first |rw[if_neg (by omega)] |rfl)
  rw[e];clear e;rcases h with h |h
  ·go_enter Tryz.func99,Tryz.ntmps99;go_wp2_with (first
    |(refine wpList_buildTo rfl 182 _ rfl (some 4) rfl DQ ?b1 ?_;(case b1=>as_aux_lemma=>kernel_rfl))
    |(refine wpList_store_rowTo rfl 182 (.tmp 3) (.tmp 4) rfl rfl w.heap.size DQ ?hx ?hy 182 #[.string ⟨#[]⟩,.string ⟨#[]⟩,.string ⟨#[]⟩,.string ⟨#[]⟩,.string ⟨#[]⟩,.string ⟨#[]⟩,.string ⟨#[]⟩,.string ⟨#[]⟩,.string ⟨#[]⟩,.string ⟨#[]⟩,.string ⟨#[]⟩,.string ⟨#[]⟩,.string ⟨#[]⟩,.string ⟨#[]⟩,.string ⟨#[]⟩,.string ⟨#[]⟩,.string ⟨#[]⟩,.string ⟨#[]⟩,.string ⟨#[]⟩,.string ⟨#[]⟩,.string ⟨#[]⟩,.string ⟨#[]⟩,.string ⟨#[]⟩,.string ⟨#[]⟩] ?hg ?b3 ?b4 ?b5 ?_;(case hx=>rfl);(case hy=>rfl);(case hg=>exact Bv _ _);(case b3=>as_aux_lemma=>kernel_rfl);(case b4=>rfl);(case b5=>as_aux_lemma=>kernel_rfl)))
   go_ret;exact⟨rfl,⟨rfl,rfl,rfl,by simp[World.setRow],fun k hk=>(setRow_other _ _ _ _ (by omega)).trans (Below.heap_alloc _ _ _ hk)⟩⟩
  ·go_enter Tryz.func99,Tryz.ntmps99;go_wp2_with (first
    |(refine wpList_buildTo rfl 182 _ rfl (some 4) rfl DQ ?b1 ?_;(case b1=>as_aux_lemma=>kernel_rfl))
    |(refine wpList_store_rowTo rfl 182 (.tmp 3) (.tmp 4) rfl rfl w.heap.size DQ ?hx ?hy 182 #[.string ⟨#[]⟩,.string ⟨#[]⟩,.string ⟨#[]⟩,.string ⟨#[]⟩,.string ⟨#[]⟩,.string ⟨#[]⟩,.string ⟨#[]⟩,.string ⟨#[]⟩,.string ⟨#[]⟩,.string ⟨#[]⟩,.string ⟨#[]⟩,.string ⟨#[]⟩,.string ⟨#[]⟩,.string ⟨#[]⟩,.string ⟨#[]⟩,.string ⟨#[]⟩,.string ⟨#[]⟩,.string ⟨#[]⟩,.string ⟨#[]⟩,.string ⟨#[]⟩,.string ⟨#[]⟩,.string ⟨#[]⟩,.string ⟨#[]⟩,.string ⟨#[]⟩] ?hg ?b3 ?b4 ?b5 ?_;(case hx=>rfl);(case hy=>rfl);(case hg=>exact Bv _ _);(case b3=>as_aux_lemma=>kernel_rfl);(case b4=>rfl);(case b5=>as_aux_lemma=>kernel_rfl)))
   go_ret;exact⟨rfl,⟨rfl,rfl,rfl,by simp[World.setRow],fun k hk=>(setRow_other _ _ _ _ (by omega)).trans (Below.heap_alloc _ _ _ hk)⟩⟩
 ·obtain⟨n,rfl⟩:=Int.eq_ofNat_of_zero_le (show 0≤op by omega);have h1:1≤n:=by omega
  have h2:n≤23:=by omega
  have hc:((w.alloc (.cells #[.string ⟨#[]⟩,.string ⟨#[]⟩,.string ⟨#[]⟩,.string ⟨#[]⟩,.string ⟨#[]⟩,.string ⟨#[]⟩,.string ⟨#[]⟩,.string ⟨#[]⟩,.string ⟨#[]⟩,.string ⟨#[]⟩,.string ⟨#[]⟩,.string ⟨#[]⟩,.string ⟨#[]⟩,.string ⟨#[]⟩,.string ⟨#[]⟩,.string ⟨#[]⟩,.string ⟨#[]⟩,.string ⟨#[]⟩,.string ⟨#[]⟩,.string ⟨#[]⟩,.string ⟨#[]⟩,.string ⟨#[]⟩,.string ⟨#[]⟩,.string ⟨#[]⟩] 182)).setRow w.heap.size DQ).cell? ⟨w.heap.size,n,none⟩=some (.string ⟨(Ag (n:Int)).toArray⟩):=(cell_setRow_same _ _ _ _ _ _ _ (Bv _ _)).trans (K2 n h1 h2);clear h;go_enter Tryz.func99,Tryz.ntmps99;go_wp2_with (first
   |(refine wpList_buildTo rfl 182 _ rfl (some 4) rfl DQ ?b1 ?_;(case b1=>as_aux_lemma=>kernel_rfl))
   |(refine wpList_store_rowTo rfl 182 (.tmp 3) (.tmp 4) rfl rfl w.heap.size DQ ?hx ?hy 182 #[.string ⟨#[]⟩,.string ⟨#[]⟩,.string ⟨#[]⟩,.string ⟨#[]⟩,.string ⟨#[]⟩,.string ⟨#[]⟩,.string ⟨#[]⟩,.string ⟨#[]⟩,.string ⟨#[]⟩,.string ⟨#[]⟩,.string ⟨#[]⟩,.string ⟨#[]⟩,.string ⟨#[]⟩,.string ⟨#[]⟩,.string ⟨#[]⟩,.string ⟨#[]⟩,.string ⟨#[]⟩,.string ⟨#[]⟩,.string ⟨#[]⟩,.string ⟨#[]⟩,.string ⟨#[]⟩,.string ⟨#[]⟩,.string ⟨#[]⟩,.string ⟨#[]⟩] ?hg ?b3 ?b4 ?b5 ?_;(case hx=>rfl);(case hy=>rfl);(case hg=>exact Bv _ _);(case b3=>as_aux_lemma=>kernel_rfl);(case b4=>rfl);(case b5=>as_aux_lemma=>kernel_rfl)))
  go_ret;exact⟨rfl,⟨rfl,rfl,rfl,by simp[World.setRow],fun k hk=>(setRow_other _ _ _ _ (by omega)).trans (Below.heap_alloc _ _ _ hk)⟩⟩
end
end Go.Proofs.YtjjpiefgdggghaaGreatDoor
