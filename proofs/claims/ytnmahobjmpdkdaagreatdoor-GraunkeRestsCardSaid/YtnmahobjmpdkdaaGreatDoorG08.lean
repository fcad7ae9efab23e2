/- Parts: WLast, WTab, AsmDig, RangeCell. -/
import Derived.OrdersHeld
import Derived.Deep.RegionHeld3
import Derived.Laws.BitsLemmas
import Derived.RowKit
import Derived.Test.YtnmahobjmpdkdaaGreatDoorG01
import Derived.Test.YtnmahobjmpdkdaaGreatDoorG02
import Derived.Test.YtnmahobjmpdkdaaGreatDoorProg
import Derived.RangeFuncWrites
set_option linter.unusedVariables false
set_option linter.unusedSimpArgs false
set_option maxRecDepth 100000
set_option maxHeartbeats 40000000
section
/-
 PRINTED WORDS, second file: A REGION THAT DRAWS ITS ORDER, WALKED BY HAND, where its last store writes what its own loads read ('x.f = append(x.f, f(i))'). Plain theorems; no macro, no elab. A claim may hold it (turn the namespace's name).
 A load may be taken first in every world that meets S; behind the operations of ds nothing is shown; sound because each of ds waits for what is taken (Region.lastB). The kernel checks it.
 By an AI agent of Go's test side, Mon Nov 16 2026. No person has read it.
-/
end
namespace Go.Proofs.YtnmahobjmpdkdaaGreatDoorW.PrintLast
section
section
variable {P:Program} {ops:Array Oper} {Q:Exit→Act→World→Prop} {md:Region.Mode} {S:World→Prop} {ds:List Nat}
def Region.ND(md:Region.Mode)(ops:Array Oper)(i:Nat):Nat→Nat→Bool
 |0,_=>false
 |fuel+1,d=>match ops[d]? with
  |some o=>o.after.any fun e=>Region.binds md e&&(e.on==i||Region.ND md ops i fuel e.on)
  |none=>false
def Region.XO(md:Region.Mode)(ops:Array Oper)(listed:Array Bool)(ds:List Nat)(i:Nat):Bool :=
 ds.all fun d=>listed.getD d true||Region.ND md ops i ops.size d
def G6(md:Region.Mode)(ops:Array Oper)(listed:Array Bool):Prop :=
 ∀ j oj,ops[j]?=some oj→listed.getD j false=true→∀ e∈oj.after,Region.binds md e=true→listed.getD e.on false=true
theorem G6.set{listed:Array Bool}{i:Nat}(h:G6 md ops listed)(hi:i∈Region.ready md ops listed):G6 md ops (listed.setIfInBounds i true):=by
 obtain⟨_,oi,hoi,hall⟩:=mem_ready.1 hi;intro j oj hj hl e he hb;by_cases hij:i=j
 ·subst hij;have:oj=oi:=Option.some.inj (hj.symm.trans hoi);subst this;exact getD_set_true (hall e he hb)
 ·rw[getD_set_ne false hij]at hl;exact getD_set_true (h j oj hj hl e he hb)
def AV(P:Program)(md:Region.Mode)(ops:Array Oper)(Q:Exit→Act→World→Prop)(S:World→Prop)(ds:List Nat):Nat→Array Bool→Act→World→Prop
 |0,listed,a,w=>Region.ready md ops listed=[]∧Q .normal a w
 |fuel+1,listed,a,w =>
  (Region.ready md ops listed=[]→Q .normal a w) ∧
  ∀ i∈Region.ready md ops listed,wpOp P ops Q i (fun a' w'=>(i∉ds→S w→S w')∧AV P md ops Q S ds fuel (listed.setIfInBounds i true) a' w') a w
theorem HK:∀ (fuel:Nat) (listed:Array Bool) (a:Act) (w:World),AV P md ops Q S ds fuel listed a w→wpAny P md ops Q fuel listed a w
 |0,_,_,_,h=>h
 |fuel+1,_,_,_,h=>⟨h.1,fun i hi=>wpOp_mono (fun a' w' h'=>HK fuel _ a' w' h'.2) (h.2 i hi)⟩
theorem Mt{i:Nat}{oi:Oper}{v:Value}(hi:ops[i]?=some oi)(hsel:∀ (j:Nat) (o:Oper) cs b,ops[j]?=some o→o.op≠.select cs b)
  (hQ:∀ c a w,Q (.panic c) (a.put oi.dst v) w→Q (.panic c) a w) :
  ∀ (fuel:Nat) (listed:Array Bool) (a:Act) (w:World),
   (∀ j oj,ops[j]?=some oj→j≠i→listed.getD j true=false→(∀ e∈oj.after,Region.binds md e=true→e.on≠i)→oi.apart ops oj=true) →
   i∈Region.ready md ops listed→Yields P ops oi v a →
   AV P md ops Q S ds fuel (listed.setIfInBounds i true) (a.put oi.dst v) w→AV P md ops Q S ds (fuel+1) listed a w:=by
 intro fuel;induction fuel with
 |zero =>
  intro listed a w _ hr hy H;refine⟨fun h=>(by rw[h]at hr;cases hr),fun j hj=>?_⟩;by_cases hji:j=i
  ·subst hji;exact(hy.yieldsIf (S:=fun _=>True)).wpOp hi trivial ⟨fun _ h=>h,H⟩
  ·have:=ready_mono hj hji;rw[H.1]at this;cases this
 |succ fuel ih =>
  intro listed a w hfree hr hy H;refine⟨fun h=>(by rw[h]at hr;cases hr),fun j hj=>?_⟩;by_cases hji:j=i
  ·subst hji;exact(hy.yieldsIf (S:=fun _=>True)).wpOp hi trivial ⟨fun _ h=>h,H⟩
  ·have h1:=H.2 j (ready_mono hj hji);obtain⟨hjun,oj,hoj,hall⟩:=mem_ready.1 hj;have hiun:=(mem_ready.1 hr).1;have hnot:∀ e∈oj.after,Region.binds md e=true→e.on≠i:=fun e he hb heq=>by
    have h1:=hall e he hb;rw[heq]at h1;rcases Nat.lt_or_ge i listed.size with h' |h'
    ·simp[h']at hiun h1;rw[hiun]at h1;cases h1
    ·simp[Array.getElem?_eq_none h']at h1
   have h2:=wpOp_put hoj (hfree j oj hoj hji hjun hnot) (fun cs b=>hsel i oi cs b hi) (fun cs b=>hsel j oj cs b hoj) hQ hy h1;have hfree':∀ k ok,ops[k]?=some ok→k≠i→(listed.setIfInBounds j true).getD k true=false →
     (∀ e∈ok.after,Region.binds md e=true→e.on≠i)→oi.apart ops ok=true:=fun k ok hk hki hun hno=>by
    refine hfree k ok hk hki ?_ hno;by_cases hjk:j=k
    ·subst hjk;exact hjun
    ·rw[getD_set_ne true hjk]at hun;exact hun
   refine wpOp_mono (fun a' w' h3=>⟨h3.2.1,ih (listed.setIfInBounds j true) a' w' hfree' (ready_mono hr (Ne.symm hji)) h3.1 ?_⟩) h2;rw[Array.setIfInBounds_comm _ _ hji];exact h3.2.2
theorem Mu{rs:List Nat}{fuel:Nat}{listed:Array Bool}{a:Act}{w:World}(hr:Region.ready md ops listed=rs)(hne:rs≠[])
  (h:∀ i∈rs,wpOp P ops Q i (fun a' w'=>(i∉ds→S w→S w')∧AV P md ops Q S ds fuel (listed.setIfInBounds i true) a' w') a w):AV P md ops Q S ds (fuel+1) listed a w :=
 ⟨fun h0=>absurd (hr▸h0) hne,hr▸h⟩
theorem Le{listed:Array Bool}{a:Act}{w:World}(hr:Region.ready md ops listed=[])(h:Q .normal a w) :
  ∀ fuel,AV P md ops Q S ds fuel listed a w
 |0=>⟨hr,h⟩
 |_+1=>⟨fun _=>h,by rw[hr];simp⟩
theorem Lf{id:Nat}{a:Act}{w:World}(hm:P.follows .mixedOrders=true)
  (h:AV P .any ops Q S ds ops.size (Array.replicate ops.size false) a {w with drawn:=w.drawn+1}):(Code.region id ops true).wp P Q a w :=
 wp_region_any hm (HK _ _ _ _ h)
end
section
variable {P:Program} {ops:Array Oper} {Q:Exit→Act→World→Prop} {md:Region.Mode} {S:World→Prop} {ds:List Nat}
def Aa(P:Program)(md:Region.Mode)(ops:Array Oper)(Q:Exit→Act→World→Prop)(S:World→Prop)(ds:List Nat)(fuel:Nat)(listed:Array Bool)(a:Act)(w:World)(rs:List Nat):Prop :=
 ∀ i∈rs,wpOp P ops Q i (fun a' w'=>(i∉ds→S w→S w')∧AV P md ops Q S ds fuel (listed.setIfInBounds i true) a' w') a w
theorem Aa.nil{fuel:Nat}{listed:Array Bool}{a:Act}{w:World}:Aa P md ops Q S ds fuel listed a w []:=fun _ h=>by cases h
theorem Aa.cons{fuel:Nat}{listed:Array Bool}{a:Act}{w:World}{i:Nat}{o:Oper}{rs:List Nat}(ho:ops[i]?=some o)(hd:i∉ds)
  (h:∀ K':Act→World→Prop,Shut (∀ a w,S w→(S w→AV P md ops Q S ds fuel (listed.setIfInBounds i true) a w)→K' a w)→if Region.wanted o (yielded ops a.tmps)=true then Oper.wp P o a w K' Q else K' (a.put o.dst undef) w)
  (hs:Aa P md ops Q S ds fuel listed a w rs):Aa P md ops Q S ds fuel listed a w (i::rs):=fun j hj=>by
 rcases List.mem_cons.1 hj with rfl |hj
 ·exact wpOp_step ho (fun K' hK=>h K' (fun a w hS hW=>hK a w ⟨fun _ _=>hS,hW hS⟩))
 ·exact hs j hj
theorem EF{rs:List Nat}{fuel:Nat}{listed:Array Bool}{a:Act}{w:World}(hr:Region.ready md ops listed=rs)(hne:rs≠[])
 (h:Aa P md ops Q S ds fuel listed a w rs):AV P md ops Q S ds (fuel+1) listed a w:=Mu hr hne h
theorem Yx{id n:Nat}{a:Act}{w:World}(l:Array Bool)(hm:P.follows .mixedOrders=true)(hn:ops.size=n)(hl:Array.replicate n false=l)(hS:S w.drew)
  (h:S w.drew→AV P .any ops Q S ds n l a w.drew):(Code.region id ops true).wp P Q a w:=by
 subst hn;subst hl;exact Lf hm (h hS)
def WH(md:Region.Mode)(ops:Array Oper)(l l':Array Bool)(i:Nat):Bool :=
 Region.noSelect ops&&Region.free md ops l i&&(Region.ready md ops l).contains i&&(l.setIfInBounds i true==l')
theorem JQ{i:Nat}{N:Option Tmp}{oi:Oper}{v:Value}{fuel:Nat}{l:Array Bool}{a:Act}{w:World}(l':Array Bool)(hi:ops[i]?=some oi)(hN:oi.dst=N)(hc:WH md ops l l' i=true)
  (hQ:∀ c a w,Q (.panic c) (a.put oi.dst v) w→Q (.panic c) a w)(hy:Yields P ops oi v a){a':Act}(ha:a.put N v=a')
  (h:AV P md ops Q S ds fuel l' a' w):AV P md ops Q S ds (fuel+1) l a w:=by
 subst ha;subst hN;simp only[WH,Bool.and_eq_true,beq_iff_eq]at hc;obtain⟨⟨⟨h1,h2⟩,h3⟩,h6⟩:=hc;subst h6;exact Mt hi (Region.noSelect_spec h1) hQ fuel l a w (Region.free_spec hi h2) (by simpa using h3) hy h
def NF(md:Region.Mode)(ops:Array Oper)(l l':Array Bool)(i:Nat):Bool:=(Region.ready md ops l==[i])&&(l.setIfInBounds i true==l')
theorem WC{i:Nat}{N:Option Tmp}{oi:Oper}{fuel:Nat}{l:Array Bool}{a:Act}{w:World}(l':Array Bool)(hi:ops[i]?=some oi)(hN:oi.dst=N)(hc:NF md ops l l' i=true)(hd:i∉ds)
  (h:∀ K:Act→World→Prop,Shut (∀ a' w',S w'→(S w'→AV P md ops Q S ds fuel l' a' w')→K a' w')→if Region.wanted oi (yielded ops a.tmps)=true then Oper.wp P oi a w K Q else K (a.put N undef) w) :
  AV P md ops Q S ds (fuel+1) l a w:=by
 subst hN;simp only[NF,Bool.and_eq_true,beq_iff_eq]at hc;obtain⟨h1,h2⟩:=hc;subst h2;exact EF h1 (by simp) (Aa.cons hi hd (fun K hK=>h K hK) Aa.nil)
theorem Zn{l:Array Bool}{a:Act}{w:World}{n:Nat}(hr:(Region.ready md ops l==[])=true)(h:Q .normal a w):AV P md ops Q S ds n l a w:=Le (by simpa using hr) h n
theorem Zm{i j:Nat}{Ni Nj:Option Tmp}{oi oj:Oper}{fuel:Nat}{l:Array Bool}{a:Act}{w:World}(li lj:Array Bool)(hi:ops[i]?=some oi)(hj:ops[j]?=some oj)(hNi:oi.dst=Ni)(hNj:oj.dst=Nj)
  (hc:(Region.ready md ops l==[i,j]&&l.setIfInBounds i true==li&&l.setIfInBounds j true==lj)=true)(hdi:i∉ds)(hdj:j∉ds)
  (h1:∀ K:Act→World→Prop,Shut (∀ a' w',S w'→(S w'→AV P md ops Q S ds fuel li a' w')→K a' w')→if Region.wanted oi (yielded ops a.tmps)=true then Oper.wp P oi a w K Q else K (a.put Ni undef) w)
  (h2:∀ K:Act→World→Prop,Shut (∀ a' w',S w'→(S w'→AV P md ops Q S ds fuel lj a' w')→K a' w')→if Region.wanted oj (yielded ops a.tmps)=true then Oper.wp P oj a w K Q else K (a.put Nj undef) w) :
  AV P md ops Q S ds (fuel+1) l a w:=by
 subst hNi;subst hNj;simp only[Bool.and_eq_true,beq_iff_eq]at hc;obtain⟨⟨h3,h4⟩,h5⟩:=hc;subst h4;subst h5;exact EF h3 (by simp) (Aa.cons hi hdi (fun K hK=>h1 K hK) (Aa.cons hj hdj (fun K hK=>h2 K hK) Aa.nil))
theorem Aas{i j k:Nat}{Ni Nj Nk:Option Tmp}{oi oj ok:Oper}{fuel:Nat}{l:Array Bool}{a:Act}{w:World}(li lj lk:Array Bool)(hi:ops[i]?=some oi)(hj:ops[j]?=some oj)(hk:ops[k]?=some ok)(hNi:oi.dst=Ni)(hNj:oj.dst=Nj)(hNk:ok.dst=Nk)
  (hc:(Region.ready md ops l==[i,j,k]&&l.setIfInBounds i true==li&&l.setIfInBounds j true==lj&&l.setIfInBounds k true==lk)=true)(hdi:i∉ds)(hdj:j∉ds)(hdk:k∉ds)
  (h1:∀ K:Act→World→Prop,Shut (∀ a' w',S w'→(S w'→AV P md ops Q S ds fuel li a' w')→K a' w')→if Region.wanted oi (yielded ops a.tmps)=true then Oper.wp P oi a w K Q else K (a.put Ni undef) w)
  (h2:∀ K:Act→World→Prop,Shut (∀ a' w',S w'→(S w'→AV P md ops Q S ds fuel lj a' w')→K a' w')→if Region.wanted oj (yielded ops a.tmps)=true then Oper.wp P oj a w K Q else K (a.put Nj undef) w)
  (h3:∀ K:Act→World→Prop,Shut (∀ a' w',S w'→(S w'→AV P md ops Q S ds fuel lk a' w')→K a' w')→if Region.wanted ok (yielded ops a.tmps)=true then Oper.wp P ok a w K Q else K (a.put Nk undef) w) :
  AV P md ops Q S ds (fuel+1) l a w:=by
 subst hNi;subst hNj;subst hNk;simp only[Bool.and_eq_true,beq_iff_eq]at hc;obtain⟨⟨⟨h4,h5⟩,h6⟩,h7⟩:=hc;subst h5;subst h6;subst h7;exact EF h4 (by simp) (Aa.cons hi hdi (fun K hK=>h1 K hK) (Aa.cons hj hdj (fun K hK=>h2 K hK) (Aa.cons hk hdk (fun K hK=>h3 K hK) Aa.nil)))
def Ih:Act→List (Tmp×Value)→Act
 |a,[]=>a
 |a,(n,v)::r=>Ih (a.put (some n) v) r
theorem Zl{σ:Type}{fuel:Nat}{l:Array Bool}{a:Act}{w:World}(fuel':Nat)(l':Array Bool)(ns:σ→List (Tmp×Value))(F:σ→World→Prop)
 (hcont:∀ s w',F s w'→AV P md ops Q S ds fuel' l' (Ih a (ns s)) w')
 (h:(∀ s w',F s w'→AV P md ops Q S ds fuel' l' (Ih a (ns s)) w')→AV P md ops Q S ds fuel l a w):AV P md ops Q S ds fuel l a w:=h hcont
theorem GN{fuel:Nat}{l:Array Bool}{a a':Act}{w:World}(ha:a=a')(h:AV P md ops Q S ds fuel l a' w):AV P md ops Q S ds fuel l a w:=by
 subst ha;exact h
theorem Zp{oi:Oper}{N:Option Tmp}{a:Act}{w:World}{K:Act→World→Prop}(f:FuncId)(args:Array Value)(hw:Region.wanted oi (yielded ops a.tmps)=true)(hN:oi.dst=N)(hrun:(execOp a.eval oi).run P w=.ok (.enter f args) w)
  (h:Calls P f args w fun e w'=>∃ v,e=.returned v∧K (a.put N v) w'):if Region.wanted oi (yielded ops a.tmps)=true then Oper.wp P oi a w K Q else K (a.put N undef) w:=by
 rw[if_pos hw];subst hN;unfold Oper.wp;rw[hrun,Oper.upon_enter];refine h.mono fun e w'' hh=>?_
 obtain⟨v,rfl,hk⟩:=hh;exact hk
theorem R4{f:FuncId}{fn:Func}(hf:P.funcs[f]?=some fn)(hname:(fn.name == "runtime.NumGoroutine")=false)(hb:fn.body.isSome=true)(args:Array Value)(w:World):(callFunc f args).run P w=.ok (.enter f args) w:=by
 have h1:fn.name ≠ "runtime.NumGoroutine" :=by simpa using hname
 obtain⟨c,hc⟩:=Option.isSome_iff_exists.1 hb;simp[callFunc,hf,h1,hc]
theorem Um{oi:Oper}{N:Option Tmp}{a:Act}{w:World}{K:Act→World→Prop}{f:FuncId}{fn:Func}{az:Array Operand}{ts:Array TypeId}(hf:P.funcs[f]?=some fn)(hname:(fn.name == "runtime.NumGoroutine")=false)(hb:fn.body.isSome=true)(args:Array Value)
  (hw:Region.wanted oi (yielded ops a.tmps)=true)(hN:oi.dst=N)(hop:oi.op=.call {callee:=.value (.func f),args:=az,argTypes:=ts})(hargs:az.map a.eval=args)
  (h:Calls P f args w fun e w'=>∃ v,e=.returned v∧K (a.put N v) w'):if Region.wanted oi (yielded ops a.tmps)=true then Oper.wp P oi a w K Q else K (a.put N undef) w:=by
 refine Zp f args hw hN ?_ h;have he:=R4 hf hname hb args w;unfold execOp;simp[hop,resolve,Deferred.ofValue,invoke,Act.eval,hargs,he]
theorem NG{rest:List Oper}{oi:Oper}{a:Act}{w:World}(N:Option Tmp)(hd:oi.dst=N)(hg:oi.guard=none){f:FuncId}{fn:Func}{az:Array Operand}{ts:Array TypeId}(hf:P.funcs[f]?=some fn)(hname:(fn.name == "runtime.NumGoroutine")=false)(hb:fn.body.isSome=true)(args:Array Value)
  (hop:oi.op=.call {callee:=.value (.func f),args:=az,argTypes:=ts})(hargs:az.map a.eval=args)
  (h:Calls P f args w fun e w'=>∃ v,e=.returned v∧wpList P ops Q rest (a.put N v) w'):wpList P ops Q (oi::rest) a w:=by
 refine wpList_plain hg fun K hK=>?_
 have he:=R4 hf hname hb args w;have hrun:(execOp a.eval oi).run P w=.ok (.enter f args) w:=by
  unfold execOp;simp[hop,resolve,Deferred.ofValue,invoke,Act.eval,hargs,he]
 unfold Oper.wp;rw[hrun,Oper.upon_enter];refine h.mono fun e w'' hh=>?_
 obtain⟨v,rfl,hk⟩:=hh;subst hd;exact hK _ _ hk
theorem Qw{oi:Oper}{N:Option Tmp}{a:Act}{w w1:World}{v:Value}{K:Act→World→Prop}(hw:Region.wanted oi (yielded ops a.tmps)=true)(hN:oi.dst=N)(hrun:(execOp a.eval oi).run P w=.ok (.value v) w1)
  (h:K (a.put N v) w1):if Region.wanted oi (yielded ops a.tmps)=true then Oper.wp P oi a w K Q else K (a.put N undef) w:=by
 rw[if_pos hw];subst hN;unfold Oper.wp;rw[hrun];exact h
theorem Eg(n:Int):IntKind.i64.wrap n=Go.RowKit.wrap64 n:=by unfold Go.RowKit.wrap64;exact IntKind.wrap_i64 n
theorem Es(n:Int):IntKind.i32.wrap n=Go.RowKit.wrap32 n:=by unfold Go.RowKit.wrap32;exact IntKind.wrap_i32 n
end
end
section
open Go.Proofs.YtnmahobjmpdkdaaGreatDoorW.PrintWords (Af)
def H6(md:Region.Mode)(o:Oper):List Nat:=(o.after.toList.filter (fun e=>Region.binds md e)).map (fun e=>e.on)
def NX(md:Region.Mode)(ops:Array Oper)(i:Nat)(oi:Oper):List Nat:=(List.range ops.size).filter fun j=>!(j==i)&&match ops[j]? with
 |some oj=>!(oj.after.any (fun e=>Region.binds md e&&e.on==i)||oi.apart ops oj)
 |none=>false
def Gy(md:Region.Mode)(ops:Array Oper):Bool×List (List Nat×List Nat):=(Region.noSelect ops,(List.range ops.size).map fun i=>match ops[i]? with
 |some o=>(H6 md o,NX md ops i o)
 |none=>([],[]))
def H7(T:List (List Nat×List Nat))(l:List Bool)(i:Nat):Bool:=!l.getD i true&&match T[i]? with
 |some r=>r.1.all (fun j=>l.getD j false)
 |none=>false
def J1(T:List (List Nat×List Nat))(l:List Bool):List Nat:=(List.range T.length).filter (H7 T l)
def UT(T:List (List Nat×List Nat))(l:List Bool)(i:Nat):Bool:=match T[i]? with
 |some r=>r.2.all (fun j=>l.getD j true)
 |none=>false
def NY(T:List (List Nat×List Nat))(i:Nat):Nat→Nat→Bool
 |0,_=>false
 |fuel+1,d=>match T[d]? with
  |some r=>r.1.any fun j=>j==i||NY T i fuel j
  |none=>false
def XW(T:List (List Nat×List Nat))(l:List Bool)(ds:List Nat)(i:Nat):Bool:=ds.all fun d=>l.getD d true||NY T i T.length d
section
variable {md:Region.Mode} {ops:Array Oper} {T:Bool×List (List Nat×List Nat)} {l l' li lj lk:Array Bool} {ds:List Nat} {i j k:Nat}
theorem gd(l:Array Bool)(j:Nat)(b:Bool):l.getD j b=l.toList.getD j b:=by simp[Array.getD_eq_getD_getElem?,List.getD_eq_getElem?_getD]
theorem Tx(o:Oper)(p:Nat→Bool):o.after.all (fun e=>!Region.binds md e||p e.on)=(H6 md o).all p:=by
 unfold H6;rw[←Array.all_toList];induction o.after.toList with
 |nil=>rfl
 |cons e r ih =>
  rw[List.all_cons,ih,List.filter_cons];cases h:Region.binds md e<;>simp
theorem Ty(o:Oper)(p:Nat→Bool):o.after.any (fun e=>Region.binds md e&&p e.on)=(H6 md o).any p:=by
 unfold H6;rw[←Array.any_toList];induction o.after.toList with
 |nil=>rfl
 |cons e r ih =>
  rw[List.any_cons,ih,List.filter_cons];cases h:Region.binds md e<;>simp
theorem Hm:(Gy md ops).2.length=ops.size:=by simp[Gy]
theorem J2{o:Oper}(h:ops[i]?=some o):(Gy md ops).2[i]?=some (H6 md o,NX md ops i o):=by
 have hi:=(Array.getElem?_eq_some_iff.1 h).1;unfold Gy;rw[List.getElem?_map,List.getElem?_range hi,Option.map_some,h]
theorem J3(h:ops[i]?=none):(Gy md ops).2[i]?=none:=by
 have hi:ops.size≤i:=Array.getElem?_eq_none_iff.1 h;exact List.getElem?_eq_none (by rw[Hm];exact hi)
theorem QQ:H7 (Gy md ops).2 l.toList i=(!l.getD i true&&((ops[i]?).map (·.after.all fun e=>!Region.binds md e||l.getD e.on false)).getD false):=by
 unfold H7;rw[gd];cases h:ops[i]? with
 |none=>rw[J3 h];rfl
 |some o =>
  rw[J2 h];simp only[Option.map_some,Option.getD_some];rw[←Tx];simp only[gd]
theorem IS:Region.ready md ops l=J1 (Gy md ops).2 l.toList:=by
 unfold Region.ready J1;rw[Hm];refine List.filter_congr (fun i _=>?_);rw[QQ]
theorem Xf:Region.free md ops l i=UT (Gy md ops).2 l.toList i:=by
 unfold Region.free UT;cases h:ops[i]? with
 |none=>rw[J3 h]
 |some oi =>
  rw[J2 h];simp only[NX];rw[List.all_filter]
  congr 1
  funext j
  rw[gd];cases hj:ops[j]? with
  |none=>cases (j==i)<;>cases (l.toList.getD j true)<;>simp
  |some oj =>
   cases (j==i)<;>cases (l.toList.getD j true)<;>cases (oj.after.any (fun e=>Region.binds md e&&e.on==i)||oi.apart ops oj)<;>simp_all
theorem P0:∀ (fuel d:Nat),Region.ND md ops i fuel d=NY (Gy md ops).2 i fuel d
 |0,_=>rfl
 |fuel+1,d=>by
  unfold Region.ND NY;cases h:ops[d]? with
  |none=>rw[J3 h]
  |some o =>
   rw[J2 h];simp only;rw[←Ty]
   congr 1
   funext e
   rw[P0 fuel]
theorem KC:Region.XO md ops l ds i=XW (Gy md ops).2 l.toList ds i:=by
 unfold Region.XO XW;rw[Hm]
 congr 1
 funext d
 rw[gd,P0]
theorem P3(h:H7 T.2 l.toList i=true)(hT:Gy md ops=T):(Region.ready md ops l).contains i=true:=by
 subst hT;rw[IS];unfold J1;rw[List.contains_iff_mem,List.mem_filter,List.mem_range];refine⟨?_,h⟩;unfold H7 at h;rw[Bool.and_eq_true]at h;cases hq:(Gy md ops).2[i]? with
 |none=>rw[hq]at h;simp at h
 |some r=>exact(List.getElem?_eq_some_iff.1 hq).1
theorem NZ(h:(l.toList.set i true==l'.toList)=true):(l.setIfInBounds i true==l')=true:=by
 rw[beq_iff_eq]at h ⊢;apply Array.ext';rw[Array.toList_setIfInBounds];exact h
def Zz(T:Bool×List (List Nat×List Nat))(l l':List Bool)(i:Nat):Bool:=T.1&&UT T.2 l i&&H7 T.2 l i&&(l.set i true==l')
theorem GX(hT:Gy md ops=T)(h:Zz T l.toList l'.toList i=true):WH md ops l l' i=true:=by
 simp only[Zz,Bool.and_eq_true]at h;obtain⟨⟨⟨h1,h2⟩,h3⟩,h4⟩:=h;have h5:=P3 h3 hT;have h6:=NZ h4;subst hT;simp only[WH,Bool.and_eq_true];exact⟨⟨⟨h1,by rw[Xf];exact h2⟩,h5⟩,h6⟩
theorem NC(hT:Gy md ops=T)(h:(J1 T.2 l.toList==[i]&&l.toList.set i true==l'.toList)=true):NF md ops l l' i=true:=by
 simp only[Bool.and_eq_true]at h;obtain⟨h1,h2⟩:=h;subst hT;simp only[NF,Bool.and_eq_true];exact⟨by rw[IS];exact h1,NZ h2⟩
theorem Ul(hT:Gy md ops=T)(h:(J1 T.2 l.toList==[i,j]&&l.toList.set i true==li.toList&&l.toList.set j true==lj.toList)=true):(Region.ready md ops l==[i,j]&&l.setIfInBounds i true==li&&l.setIfInBounds j true==lj)=true:=by
 simp only[Bool.and_eq_true]at h ⊢;obtain⟨⟨h1,h2⟩,h3⟩:=h;subst hT;exact⟨⟨by rw[IS];exact h1,NZ h2⟩,NZ h3⟩
theorem WD(hT:Gy md ops=T)(h:(J1 T.2 l.toList==[])=true):(Region.ready md ops l==[])=true:=by
 subst hT;rw[IS];exact h
def upM(B:List Nat)(d:Nat):List Nat→Nat
 |[]=>0
 |n::r=>(2 ^ n ||| (if n<d then B.getD n 0 else 0)) ||| upM B d r
def NB(T:List (List Nat×List Nat))(B:List Nat):Bool:=(List.range T.length).all fun d=>match T[d]? with
 |some r=>(B.getD d 0 ||| upM B d r.1)==upM B d r.1
 |none=>false
theorem SH{P:Program}{Q:Exit→Act→World→Prop}{S:World→Prop}{n:Nat}{a:Act}{w:World}{B:List Nat}(hT:Gy md ops=T)(hB:NB T.2 B=true)(h:Af (Gy md ops=T)→Af (NB T.2 B=true)→AV P md ops Q S ds n l a w):AV P md ops Q S ds n l a w:=h ⟨hT⟩ ⟨hB⟩
end
def HU:Code→Nat→Option (Array Oper)
 |.region id ops _,k=>if id==k then some ops else none
 |.seq a b,k=>match HU a k with
  |some o=>some o
  |none=>HU b k
 |.cond _ a b,k=>match HU a k with
  |some o=>some o
  |none=>HU b k
 |.block _ c,k=>HU c k
 |.loop c,k=>HU c k
 |.scope c,k=>HU c k
 |.rangeFunc _ _ a b,k=>match HU a k with
  |some o=>some o
  |none=>HU b k
 |_,_=>none
def opsOf(f:Func)(k:Nat):Array Oper:=((f.body.bind fun c=>HU c k)).getD #[]
end
end Go.Proofs.YtnmahobjmpdkdaaGreatDoorW.PrintLast
namespace Go.Proofs.YtnmahobjmpdkdaaGreatDoor
section
open Go.RowKit Go.Proofs.YtnmahobjmpdkdaaGreatDoorW.PrintWords Go.Proofs.YtnmahobjmpdkdaaGreatDoorW.PrintLast
section
variable {P:Program} {ops:Array Oper} {rest:List Oper} {o:Oper} {a:Act} {Q:Exit→Act→World→Prop} {W:World}
theorem KJ{f:FuncId}{xs:Array Operand}{ts:Array TypeId}(_:o.op=.call {callee:=.value (.func f),args:=xs,argTypes:=ts})(h:wpList P ops Q (o::rest) a W):wpList P ops Q (o::rest) a W:=h
end
def Aj.l0:Nat→ByteArray→Int→Int→Option (Int)
 |0,_,_,_=>none
 |k+1,x0,x1,x5=>if x5≥0 then (if 0≤x5 then (if x5<(x0.size:Int) then (if (bt x0 x5)=x1 then (some x5) else (Aj.l0 k x0 x1 (wrap64 (x5-1)))) else (none)) else (none)) else (some (-1))
def Aj.f(k:Nat)(a0:ByteArray)(a1:Int):Option (Int):=Aj.l0 k a0 a1 (wrap64 ((a0.size:Int)-1))
theorem Aj.EE:∀ k,(∀ y0 y1 y2,CG (Aj.l0 k y0 y1 y2) (Aj.l0 (k+1) y0 y1 y2))
 |0=>fun _ _ _ r h=>by simp[Aj.l0]at h
 |k+1=>by
  have ih0:=Aj.EE k
  ·intro y0 y1 y2;unfold Aj.l0;repeat' first
   |(with_reducible exact ih0 _ _ _)
   |(with_reducible exact CG.refl _)
   |(with_reducible exact CG.none _)
   |(with_reducible refine CG.ite ?_ ?_)
   |(with_reducible refine CG.bind ?_ (fun _=>?_))
   |exact ih0 _ _ _
   |exact CG.none _
   |refine CG.ite ?_ ?_
   |refine CG.bind ?_ (fun _=>?_)
theorem Aj.mono:∀ a0 a1 k,CG (Aj.f k a0 a1) (Aj.f (k+1) a0 a1):=by
 intro a0 a1 k;have ih0:=Aj.EE k;unfold Aj.f;repeat' first
  |(with_reducible exact ih0 _ _ _)
  |(with_reducible exact CG.refl _)
  |(with_reducible exact CG.none _)
  |(with_reducible refine CG.ite ?_ ?_)
  |(with_reducible refine CG.bind ?_ (fun _=>?_))
  |exact ih0 _ _ _
  |exact CG.none _
  |refine CG.ite ?_ ?_
  |refine CG.bind ?_ (fun _=>?_)
theorem Aj.calls(k:Nat)(a0:ByteArray)(a1:Int)(r:Int)(w:World)(h:Aj.f k a0 a1=some r) :
  Calls Tryz.prog 109 #[.string a0,.int .u8 a1] w fun e w'=>e=.returned (.int .i64 r)∧AO w w':=by
 have H:(Aj.l0 k a0 a1 (wrap64 ((a0.size:Int)-1)))=some r:=h;clear h;have H':=Az H;clear H;go_enter Tryz.func109,Tryz.ntmps109;go_wp2;go_loopg [5] k (fun kq v5 w'=>∃ (x5_1:Int),v5=.int .i64 x5_1∧Af (Aj.l0 kq a0 a1 x5_1=some r)∧Af (kq≤k)∧AO w w')
 case atStart=>exact⟨(wrap64 ((a0.size:Int)-1)),(by first |rfl |(simp;done) |(simp[*];done)),H',⟨Nl _⟩,by repeat (first |exact AO.refl _ |apply AO.step)⟩
 case round =>
  clear H';try clear c1
  try clear p2
  obtain⟨x5_1,rfl,HA,HK1,⟨m1,rfl⟩⟩:=hrel;cases gk with
  |zero=>exact absurd HA.out (by simp[Aj.l0])
  |succ k1 =>
   have H:=HA.out;clear HA;simp only[Aj.l0]at H;by_cases c3:x5_1≥0
   ·rw[if_pos c3]at H;have c3b0:decide (0≤x5_1)=true:=decide_eq_true c3;clear c3;by_cases c4:0≤x5_1
    ·rw[if_pos c4]at H;have c4b0:decide (0≤x5_1)=true:=decide_eq_true c4;clear c4;by_cases c5:x5_1<(a0.size:Int)
     ·rw[if_pos c5]at H;have c5b0:decide (x5_1<(a0.size:Int))=true:=decide_eq_true c5;clear c5;by_cases c7:(bt a0 x5_1)=a1
      ·rw[if_pos c7]at H;have c7b0:((bt a0 x5_1)==a1)=true:=beq_iff_eq.mpr c7;have c7b1:((bt a0 x5_1) != a1)=false:=bne_eq_false_iff_eq.mpr c7;clear c7;obtain rfl:=Option.some.inj H;have p6:0≤(x5_1:Int):=of_decide_eq_true (by first |(with_reducible assumption) |assumption);have q6:x5_1<(a0.size:Int):=of_decide_eq_true (by first |(with_reducible assumption) |assumption);have hx6:=DR a0 x5_1;replace p6:=eq_true p6;replace q6:=eq_true q6;go_wp2;go_ret;exact⟨by first |rfl |(simp;done) |(simp[*];done),by repeat (first |exact AO.refl _ |apply AO.step)⟩
      ·rw[if_neg c7]at H;have c7b0:((bt a0 x5_1)==a1)=false:=beq_eq_false_iff_ne.mpr c7;have c7b1:((bt a0 x5_1) != a1)=true:=bne_iff_ne.mpr c7;have H':=Az H;clear H;have p6:0≤(x5_1:Int):=of_decide_eq_true (by first |(with_reducible assumption) |assumption);have q6:x5_1<(a0.size:Int):=of_decide_eq_true (by first |(with_reducible assumption) |assumption);have hx6:=DR a0 x5_1;replace p6:=eq_true p6;replace q6:=eq_true q6;go_wp2;go_roundg k1
       case measure=>have:=HK1.out;omega
       case rel=>exact⟨(wrap64 (x5_1-1)),(by first |rfl |(simp;done) |(simp[*];done)),H',⟨by have:=HK1.out;omega⟩,by repeat (first |exact AO.refl _ |apply AO.step)⟩
     ·rw[if_neg c5]at H;exact absurd H (by simp)
    ·rw[if_neg c4]at H;exact absurd H (by simp)
   ·rw[if_neg c3]at H;have c3b0:decide (0≤x5_1)=false:=decide_eq_false c3;clear c3;obtain rfl:=Option.some.inj H;go_wp2;go_ret;exact⟨by first |rfl |(simp;done) |(simp[*];done),by repeat (first |exact AO.refl _ |apply AO.step)⟩
def Bn.f(k:Nat)(a0:ByteArray)(a1:Int):Option (Int):=(Aj.f k a0 a1).bind fun t156=>(some t156)
theorem Bn.mono:∀ a0 a1 k,CG (Bn.f k a0 a1) (Bn.f (k+1) a0 a1):=by
 intro a0 a1 k;unfold Bn.f;repeat' first
  |(with_reducible exact Aj.mono _ _ _)
  |(with_reducible exact CG.refl _)
  |(with_reducible exact CG.none _)
  |(with_reducible refine CG.ite ?_ ?_)
  |(with_reducible refine CG.bind ?_ (fun _=>?_))
  |exact Aj.mono _ _ _
  |exact CG.none _
  |refine CG.ite ?_ ?_
  |refine CG.bind ?_ (fun _=>?_)
theorem Bn.calls(k:Nat)(a0:ByteArray)(a1:Int)(r:Int)(w:World)(h:Bn.f k a0 a1=some r) :
  Calls Tryz.prog 95 #[.string a0,.int .u8 a1] w fun e w'=>e=.returned (.int .i64 r)∧AO w w':=by
 have H:((Aj.f k a0 a1).bind fun t156=>(some t156))=some r:=h;clear h;replace H:=Option.bind_eq_some_iff.mp H;obtain⟨t156,A30,H⟩:=H;replace H:(some t156)=some r:=H;have A3:=Az A30;clear A30;obtain rfl:=Option.some.inj H;go_enter Tryz.func95,Tryz.ntmps95;go_wp2_with (first |((with_reducible refine KJ (f:=109) rfl ?_);refine NG (some 7) rfl rfl Tryz.func109 (by kernel_rfl) rfl #[.string a0,.int .u8 a1] rfl (by(try simp only[List.map_toArray,List.map_cons,List.map_nil]);first |done |rfl |(simp only[List.length_drop,List.length_take];rfl)) ?_;(with_reducible refine(Aj.calls k a0 a1 t156 _ A3.out).mono ?_);rintro e w' ⟨rfl,⟨nd,rfl⟩⟩;refine⟨_,rfl,?_⟩))
 go_ret;exact⟨by first |rfl |(simp;done) |(simp[*];done),by repeat (first |exact AO.refl _ |apply AO.step)⟩
def BG.f(a0:ByteArray)(a1:ByteArray):Option (Bool):=if (a0.size:Int)≥(a1.size:Int) then (if 0≤(wrap64 ((a0.size:Int)-(a1.size:Int))) then (if (wrap64 ((a0.size:Int)-(a1.size:Int)))≤(a0.size:Int) then (some ((a0.extract ((wrap64 ((a0.size:Int)-(a1.size:Int))):Int).toNat a0.size).toList==a1.toList)) else (none)) else (none)) else (some false)
theorem BG.calls(a0:ByteArray)(a1:ByteArray)(r:Bool)(w:World)(h:BG.f a0 a1=some r) :
  Calls Tryz.prog 108 #[.string a0,.string a1] w fun e w'=>e=.returned (.bool r)∧AO w w':=by
 have H:(if (a0.size:Int)≥(a1.size:Int) then (if 0≤(wrap64 ((a0.size:Int)-(a1.size:Int))) then (if (wrap64 ((a0.size:Int)-(a1.size:Int)))≤(a0.size:Int) then (some ((a0.extract ((wrap64 ((a0.size:Int)-(a1.size:Int))):Int).toNat a0.size).toList==a1.toList)) else (none)) else (none)) else (some false))=some r:=h;clear h;by_cases c3:(a0.size:Int)≥(a1.size:Int)
 ·rw[if_pos c3]at H;have c3b0:decide ((a1.size:Int)≤(a0.size:Int))=true:=decide_eq_true c3;have c3b1:decide (a1.size≤a0.size)=true:=decide_eq_true (Int.ofNat_le.mp c3);clear c3;obtain⟨ji4,hji4⟩:∃ j_:Int,(wrap64 ((a0.size:Int)-(a1.size:Int)))=j_:=⟨_,rfl⟩
  replace H:(if 0≤(ji4) then (if (ji4)≤(a0.size:Int) then (some ((a0.extract ((ji4):Int).toNat a0.size).toList==a1.toList)) else (none)) else (none))=some r:=by first |(rw[hji4]at H;exact H) |(simp only[hji4]at H ⊢;exact H)
  have hji4w:(IntKind.i64.wrap ((a0.size:Int)-(a1.size:Int)))=ji4:=(Eg _).trans hji4;by_cases c5:0≤(ji4)
  ·rw[if_pos c5]at H;have c5b0:=eq_true c5;have c5b1:decide (0≤(ji4))=true:=decide_eq_true c5;clear c5;by_cases c6:(ji4)≤(a0.size:Int)
   ·rw[if_pos c6]at H;have c6b0:=eq_true c6;have c6b1:decide ((ji4)≤(a0.size:Int))=true:=decide_eq_true c6;clear c6;obtain rfl:=Option.some.inj H;go_enter Tryz.func108,Tryz.ntmps108;go_wp2;go_ret;exact⟨by first |rfl |(simp;done) |(simp only[←hji4]<;>(first |rfl |simp)) |(simp[*];done),by repeat (first |exact AO.refl _ |apply AO.step)⟩
   ·rw[if_neg c6]at H;exact absurd H (by simp)
  ·rw[if_neg c5]at H;exact absurd H (by simp)
 ·rw[if_neg c3]at H;have c3b0:decide ((a1.size:Int)≤(a0.size:Int))=false:=decide_eq_false c3;have c3b1:decide (a1.size≤a0.size)=false:=decide_eq_false (fun h=>c3 (Int.ofNat_le.mpr h));clear c3;obtain rfl:=Option.some.inj H;go_enter Tryz.func108,Tryz.ntmps108;go_wp2;go_ret;exact⟨by first |rfl |(simp;done) |(simp[*];done),by repeat (first |exact AO.refl _ |apply AO.step)⟩
def BP.f(a0:ByteArray)(a1:ByteArray):Option (ByteArray×Bool):=(BG.f a0 a1).bind fun t153=>(if t153=true then (if 0≤(wrap64 ((a0.size:Int)-(a1.size:Int))) then (if (wrap64 ((a0.size:Int)-(a1.size:Int)))≤(a0.size:Int) then (some (a0.extract 0 ((wrap64 ((a0.size:Int)-(a1.size:Int))):Int).toNat,true)) else (none)) else (none)) else (some (a0,false)))
theorem BP.calls(a0:ByteArray)(a1:ByteArray)(r1:ByteArray)(r2:Bool)(w:World)(h:BP.f a0 a1=some (r1,r2)) :
  Calls Tryz.prog 94 #[.string a0,.string a1] w fun e w'=>e=.returned (.tuple #[.string r1,.bool r2])∧AO w w':=by
 have H:((BG.f a0 a1).bind fun t153=>(if t153=true then (if 0≤(wrap64 ((a0.size:Int)-(a1.size:Int))) then (if (wrap64 ((a0.size:Int)-(a1.size:Int)))≤(a0.size:Int) then (some (a0.extract 0 ((wrap64 ((a0.size:Int)-(a1.size:Int))):Int).toNat,true)) else (none)) else (none)) else (some (a0,false))))=some (r1,r2):=h;clear h;replace H:=Option.bind_eq_some_iff.mp H;obtain⟨t153,A30,H⟩:=H;replace H:(if t153=true then (if 0≤(wrap64 ((a0.size:Int)-(a1.size:Int))) then (if (wrap64 ((a0.size:Int)-(a1.size:Int)))≤(a0.size:Int) then (some (a0.extract 0 ((wrap64 ((a0.size:Int)-(a1.size:Int))):Int).toNat,true)) else (none)) else (none)) else (some (a0,false)))=some (r1,r2):=H;have A3:=Az A30;clear A30;by_cases c4:t153=true
 ·subst c4;have H1:(if 0≤(wrap64 ((a0.size:Int)-(a1.size:Int))) then (if (wrap64 ((a0.size:Int)-(a1.size:Int)))≤(a0.size:Int) then (some (a0.extract 0 ((wrap64 ((a0.size:Int)-(a1.size:Int))):Int).toNat,true)) else (none)) else (none))=some (r1,r2):=by rw[if_pos rfl]at H;exact H
  clear H;have H:=H1;clear H1;obtain⟨ji5,hji5⟩:∃ j_:Int,(wrap64 ((a0.size:Int)-(a1.size:Int)))=j_:=⟨_,rfl⟩
  replace H:(if 0≤(ji5) then (if (ji5)≤(a0.size:Int) then (some (a0.extract 0 ((ji5):Int).toNat,true)) else (none)) else (none))=some (r1,r2):=by first |(rw[hji5]at H;exact H) |(simp only[hji5]at H ⊢;exact H)
  (try rw[hji5]at A3)
  have hji5w:(IntKind.i64.wrap ((a0.size:Int)-(a1.size:Int)))=ji5:=(Eg _).trans hji5;by_cases c6:0≤(ji5)
  ·rw[if_pos c6]at H;have c6b0:=eq_true c6;have c6b1:decide (0≤(ji5))=true:=decide_eq_true c6;clear c6;by_cases c7:(ji5)≤(a0.size:Int)
   ·rw[if_pos c7]at H;have c7b0:=eq_true c7;have c7b1:decide ((ji5)≤(a0.size:Int))=true:=decide_eq_true c7;clear c7;simp only[Option.some.injEq,Prod.mk.injEq]at H;obtain⟨rfl,rfl⟩:=H;go_enter Tryz.func94,Tryz.ntmps94;go_wp2_with (first |((with_reducible refine KJ (f:=108) rfl ?_);refine NG (some 8) rfl rfl Tryz.func108 (by kernel_rfl) rfl #[.string a0,.string a1] rfl (by(try simp only[List.map_toArray,List.map_cons,List.map_nil]);first |done |rfl |(simp only[List.length_drop,List.length_take];rfl)) ?_;(with_reducible refine(BG.calls a0 a1 true _ A3.out).mono ?_);rintro e w' ⟨rfl,⟨nd,rfl⟩⟩;refine⟨_,rfl,?_⟩))
    go_ret2
    exact⟨by first |rfl |(simp;done) |(simp only[←hji5]<;>(first |rfl |simp)) |(simp[*];done),by repeat (first |exact AO.refl _ |apply AO.step)⟩
   ·rw[if_neg c7]at H;exact absurd H (by simp)
  ·rw[if_neg c6]at H;exact absurd H (by simp)
 ·replace c4:=Bool.eq_false_iff.mpr c4;subst c4;have H1:(some (a0,false))=some (r1,r2):=by rw[if_neg (show ¬(false=true) by decide)]at H;exact H
  clear H;have H:=H1;clear H1;simp only[Option.some.injEq,Prod.mk.injEq]at H;obtain⟨rfl,rfl⟩:=H;go_enter Tryz.func94,Tryz.ntmps94;go_wp2_with (first |((with_reducible refine KJ (f:=108) rfl ?_);refine NG (some 8) rfl rfl Tryz.func108 (by kernel_rfl) rfl #[.string a0,.string a1] rfl (by(try simp only[List.map_toArray,List.map_cons,List.map_nil]);first |done |rfl |(simp only[List.length_drop,List.length_take];rfl)) ?_;(with_reducible refine(BG.calls a0 a1 false _ A3.out).mono ?_);rintro e w' ⟨rfl,⟨nd,rfl⟩⟩;refine⟨_,rfl,?_⟩))
  go_ret2
  exact⟨by first |rfl |(simp;done) |(simp[*];done),by repeat (first |exact AO.refl _ |apply AO.step)⟩
def Da.f(a0:ByteArray)(a1:ByteArray):Option (ByteArray×Bool):=(BP.f a0 a1).bind fun bt154=>(some (bt154.1,bt154.2))
theorem Da.calls(a0:ByteArray)(a1:ByteArray)(r1:ByteArray)(r2:Bool)(w:World)(h:Da.f a0 a1=some (r1,r2)) :
  Calls Tryz.prog 77 #[.string a0,.string a1] w fun e w'=>e=.returned (.tuple #[.string r1,.bool r2])∧AO w w':=by
 have H:((BP.f a0 a1).bind fun bt154=>(some (bt154.1,bt154.2)))=some (r1,r2):=h;clear h;replace H:=Option.bind_eq_some_iff.mp H;obtain⟨⟨t154,t155⟩,A30,H⟩:=H;replace H:(some (t154,t155))=some (r1,r2):=H;have A3:=Az A30;clear A30;simp only[Option.some.injEq,Prod.mk.injEq]at H;obtain⟨rfl,rfl⟩:=H;go_enter Tryz.func77,Tryz.ntmps77;go_wp2_with (first |((with_reducible refine KJ (f:=94) rfl ?_);refine NG (some 8) rfl rfl Tryz.func94 (by kernel_rfl) rfl #[.string a0,.string a1] rfl (by(try simp only[List.map_toArray,List.map_cons,List.map_nil]);first |done |rfl |(simp only[List.length_drop,List.length_take];rfl)) ?_;(with_reducible refine(BP.calls a0 a1 t154 t155 _ A3.out).mono ?_);rintro e w' ⟨rfl,⟨nd,rfl⟩⟩;refine⟨_,rfl,?_⟩))
 go_ret2
 exact⟨by first |rfl |(simp;done) |(simp[*];done),by repeat (first |exact AO.refl _ |apply AO.step)⟩
end
section
open Go Go.RowKit Go.Proofs.YtnmahobjmpdkdaaGreatDoorW.PrintWords
section
variable {F:Fence} {n:Nat} {P:Program} {α:Type}
structure Calm {β:Type} (c:Nat) (I:β→World→Prop):Prop where
 below:∀ s W W',I s W→Below W.heap.size W W'→I s W'
 cell:∀ s W v,I s W→I s (W.setCell ⟨c,0,none⟩ v)
def OL(F:Fence)(n:Nat)(P:Program)(g:Nat)(lb:Array Value)(enc:α→Value)(c:Nat)(S Sp:List α→Prop)(w:World):Prop :=
 ∀ (l:Nat) (J Jx:List α→World→Prop) (W:World),Below w.heap.size w W→Calm c J→Calm c Jx →
  (∀ pre x W1,Sp (pre++[x])→J pre W1→YieldAt F (n-1) P l #[enc x] W1 fun e W2 =>
   (e=.returned (.bool true)∧J (pre++[x]) W2∧W2.heap[c]?=W1.heap[c]?)∨(e=.returned (.bool false)∧Jx (pre++[x]) W2)) →
  J [] W →
  CallsIn F n P g (#[.func (.yield l) #[] #[]]++lb) W fun e W2=>(∃ v,e=.returned v)∧((∃ xs,S xs∧J xs W2)∨(∃ pre,Sp pre∧Jx pre W2))
def Ud(B c:Nat)(I Ix:List α→World→Prop)(xs:List α)(W:World):Exit→Act→World→Prop
 |.normal,_,W2=>KeepsFrom B W W2∧W2.heap[c]?=W.heap[c]?∧I xs W2
 |.ret,_,W2=>KeepsFrom B W W2∧Ix xs W2
 |_,_,_=>False
theorem ET{W:World}{l c:Nat}{o:Obj}(h:c≠l):(W.putObj l o).heap[c]?=W.heap[c]?:=World.putObj_heap_other h
theorem Qn{g:Operand}{p:Tmp}{assign body:Code}{Q:Exit→Act→World→Prop}{a:Act}{w:World}
  (hro:F.round=none)(h1:1≤n){gf:Nat}{lb:Array Value}(hg:a.eval g=.func (.func gf) #[] lb)(hFg:F.fn gf)(eg:∀ args w,(callFunc gf args).run P w=.ok (.enter gf args) w)
  {enc:α→Value}{c:Nat}{S Sp:List α→Prop}(hc:c<w.heap.size)(hseq:OL F (n-1) P gf lb enc c S Sp w)
  (I Ix:List α→World→Prop)(hI:Calm c I)(hIx:Calm c Ix)
  (hIp:∀ s W l o o',I s W→w.heap.size≤l→W.heap[l]?=some o→o.isCells=false→I s (W.putObj l o'))
  (hIxp:∀ s W l o o',Ix s W→w.heap.size≤l→W.heap[l]?=some o→o.isCells=false→Ix s (W.putObj l o'))
  (h0:I [] w)(a₁:α→Act)
  (hassign:∀ (l:Nat) (x:α) (W:World) (K:Act→World→Prop),K (a₁ x) W →
   assign.wpIn (F.inRound l) (n-1-1) P (Exit.then K (fun _ _ _=>False)) {tmps:=(#[p].zip #[enc x]).foldl (fun t (p,v)=>t.setIfInBounds p v) a.tmps,defers:=[]} W)
  (hbody:∀ (l:Nat) (pre:List α) (x:α) (W:World),Sp (pre++[x])→I pre W→body.wpIn (F.inRound l) (n-1-1) P (Ud w.heap.size c I Ix (pre++[x]) W) (a₁ x) W)
  (hdone:∀ (D:Nat) (xs:List α) (W:World),w.heap.size≤D→S xs→I xs W→W.heap[D]?=some (.deferred (some []))→Q .normal {a with defers:={target:=.collected D,args:=#[]}::a.defers} W)
  (hstop:∀ (D:Nat) (pre:List α) (W:World),w.heap.size≤D→Sp pre→Ix pre W→W.heap[D]?=some (.deferred (some []))→Code.ret.wpIn F n P Q {a with defers:={target:=.collected D,args:=#[]}::a.defers} W) :
  (Code.rangeFunc g #[p] assign body).wpIn F n P Q a w:=by
 refine wpIn_rangeFunc fun fn hfn=>?_
 rw[hro]
 let rec_:LoopState→Option Code→Loop:=fun st pe=>{state:=st,pending:=pe,fn,tmps:=a.tmps,params:=#[p],assign,body,defers:=w.heap.size}
 have hrec:∀ st pe,rec_ st pe={state:=st,pending:=pe,fn,tmps:=a.tmps,params:=#[p],assign,body,defers:=w.heap.size}:=fun _ _=>rfl
 generalize rec_=rec at hrec;have hD0:(w.alloc (.deferred (some []))).heap[w.heap.size]?=some (.deferred (some [])):=Bv w _;have hW1:((w.alloc (.deferred (some []))).alloc (.loop (rec .ready none))).heap[w.heap.size+1]?=some (.loop (rec .ready none)):=by
  have:=Bv (w.alloc (.deferred (some []))) (.loop (rec .ready none))
  rwa [World.size_alloc]at this
 have hD1:((w.alloc (.deferred (some []))).alloc (.loop (rec .ready none))).heap[w.heap.size]?=some (.deferred (some [])):=AF hD0 _;have hB1:Below w.heap.size w ((w.alloc (.deferred (some []))).alloc (.loop (rec .ready none))):=((Below.refl _ w).alloc (Nl _) _).alloc (by simp) _;have hI1:I [] ((w.alloc (.deferred (some []))).alloc (.loop (rec .ready none))):=hI.below _ _ _ h0 hB1;refine⟨w.heap.size+1,[{target:=.collected w.heap.size,args:=#[]}],(w.alloc (.deferred (some []))).alloc (.loop (rec .ready none)),{target:=.fn (.func gf) lb,args:=#[.func (.yield (w.heap.size+1)) #[] #[]]},
  (w.alloc (.deferred (some []))).alloc (.loop (rec .ready none)),gf,#[.func (.yield (w.heap.size+1)) #[] #[]]++lb,(w.alloc (.deferred (some []))).alloc (.loop (rec .ready none)),?_,?_,?_,?_,fun _=>h1,?_⟩
 ·rw[hrec];exact run_enterLoop_outer _ _ _ _ _
 ·simp only[resolve,hg];simp[go_sem]
 ·intro f' hf';simp[Target.leads]at hf';subst hf';exact hFg
 ·simp[invoke,go_sem,eg]
 have hkeep:∀ {W W2:World} {o:Obj} {k:Nat},W.heap[k]?=some o→Below W.heap.size W W2→W2.heap[k]?=some o:=fun h hb=>Bk hb h
 have hfar:∀ {W:World} {o:Obj} {k:Nat} (v:Value),w.heap.size≤k→W.heap[k]?=some o→(W.setCell ⟨c,0,none⟩ v).heap[k]?=some o:=fun v hk h =>
  (Below.heap_setCell _ ⟨c,0,none⟩ v _ (show _≠c by omega)).trans h
 refine(hseq (w.heap.size+1)
  (fun pre W=>I pre W∧W.heap[w.heap.size+1]?=some (.loop (rec .ready none))∧W.heap[w.heap.size]?=some (.deferred (some [])))
  (fun pre W=>Ix pre W∧W.heap[w.heap.size+1]?=some (.loop (rec .done (some .ret)))∧W.heap[w.heap.size]?=some (.deferred (some [])))
  _ hB1
  ⟨fun s W W2 h hb=>⟨hI.below _ _ _ h.1 hb,hkeep h.2.1 hb,hkeep h.2.2 hb⟩,fun s W v h=>⟨hI.cell _ _ _ h.1,hfar v (by omega) h.2.1,hfar v (by omega) h.2.2⟩⟩
  ⟨fun s W W2 h hb=>⟨hIx.below _ _ _ h.1 hb,hkeep h.2.1 hb,hkeep h.2.2 hb⟩,fun s W v h=>⟨hIx.cell _ _ _ h.1,hfar v (by omega) h.2.1,hfar v (by omega) h.2.2⟩⟩
  ?round ⟨hI1,hW1,hD1⟩).mono ?after
 case round =>
  rintro pre x W hsp ⟨hi,hl,hd⟩;have hlt:w.heap.size+1<W.heap.size:=Bl hl;have hy:=run_yield (P:=P) (args:=#[enc x]) hl (by rw[hrec];rfl);rw[hrec]at hy;refine⟨fn,_,assign,body,hy,roundIn_of_wpIn hfn (hassign _ x W _ ⟨_,run_beginRound hl (by rw[hrec]),?_⟩)⟩;obtain⟨busy,hbusy⟩:∃ b:Obj,b=.loop {rec .ready none with state:=.busy}:=⟨_,rfl⟩
  rw[←hbusy];have hl2:(W.putObj (w.heap.size+1) busy).heap[w.heap.size+1]?=some busy:=World.putObj_heap_same hlt;have hd2:(W.putObj (w.heap.size+1) busy).heap[w.heap.size]?=some (.deferred (some [])):=(ET (by omega)).trans hd;have hc2:(W.putObj (w.heap.size+1) busy).heap[c]?=W.heap[c]?:=ET (by omega);have hnb:busy.isCells=false:=by rw[hbusy];rfl
  refine wpIn_mono (hbody _ pre x _ hsp (hIp _ _ _ _ _ hi (by omega) hl rfl)) ?_;rintro e a3 W3 hp;have fin:∀ (jump:Option Code),KeepsFrom w.heap.size (W.putObj (w.heap.size+1) busy) W3 →
    (Instr.endRound (w.heap.size+1) jump).run P W3=.ok (.bool jump.isNone) (W3.putObj (w.heap.size+1) (.loop (rec (if jump.isNone then .ready else .done) jump))) ∧
    W3.heap[w.heap.size+1]?=some busy ∧
    (W3.putObj (w.heap.size+1) (.loop (rec (if jump.isNone then .ready else .done) jump))).heap[w.heap.size+1]?=some (.loop (rec (if jump.isNone then .ready else .done) jump)) ∧
    (W3.putObj (w.heap.size+1) (.loop (rec (if jump.isNone then .ready else .done) jump))).heap[w.heap.size]?=some (.deferred (some [])):=fun jump hk3=>by
   have hl3:=hk3.same _ _ (by omega) hl2 hnb;have hd3:=hk3.same _ _ (Nl _) hd2 rfl;have hr:=hl3;rw[hbusy]at hr;have:=run_endRound (P:=P) jump hr;rw[hrec]at this ⊢;exact⟨this,hl3,World.putObj_heap_same (Bl hl3),(ET (by omega)).trans hd3⟩
  cases e with
  |normal =>
   obtain⟨hk3,hc3,hi3⟩:=hp;obtain⟨hr,hl3,hl4,hd4⟩:=fin none hk3;exact⟨_,_,hr,.inl ⟨rfl,⟨hIp _ _ _ _ _ hi3 (by omega) hl3 hnb,hl4,hd4⟩,(ET (by omega)).trans (hc3.trans hc2)⟩⟩
  |ret =>
   obtain⟨hk3,hi3⟩:=hp;obtain⟨hr,hl3,hl4,hd4⟩:=fin (some .ret) hk3;exact⟨_,_,hr,.inr ⟨rfl,hIxp _ _ _ _ _ hi3 (by omega) hl3 hnb,hl4,hd4⟩⟩
  |exit id=>exact hp.elim
  |goto t=>exact hp.elim
  |panic ch=>exact hp.elim
  |outgrown=>exact hp.elim
 case after =>
  rintro e W2 ⟨⟨v,rfl⟩,(⟨xs,hS,hi,hl,hd⟩ |⟨pre,hSp,hi,hl,hd⟩)⟩
  ·have he:=run_endLoop (P:=P) hl (by rw[hrec];simp);rw[hrec]at he;exact⟨none,_,he,hdone _ xs _ (Nl _) hS (hIp _ _ _ _ _ hi (by omega) hl rfl) ((ET (by omega)).trans hd)⟩
  ·have he:=run_endLoop (P:=P) hl (by rw[hrec];simp);rw[hrec]at he;exact⟨some .ret,_,he,hstop _ pre _ (Nl _) hSp (hIxp _ _ _ _ _ hi (by omega) hl rfl) ((ET (by omega)).trans hd)⟩
end
end
end Go.Proofs.YtnmahobjmpdkdaaGreatDoor
