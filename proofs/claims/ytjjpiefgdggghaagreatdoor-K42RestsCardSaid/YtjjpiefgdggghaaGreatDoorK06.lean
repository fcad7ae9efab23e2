/- Parts: Field, RegionLate, WTab, WRepsOne, AsmDig, Format. -/
import Derived.Test.YtjjpiefgdggghaaGreatDoorK05
import Derived.Test.YtjjpiefgdggghaaGreatDoorK02
import Derived.OrdersHeld
import Derived.Deep.RegionHeld3
import Derived.Test.YtjjpiefgdggghaaGreatDoorK03
import Derived.Test.YtjjpiefgdggghaaGreatDoorK01
import Derived.Test.YtjjpiefgdggghaaGreatDoorProg
import Derived.Test.YtjjpiefgdggghaaGreatDoorK04
import Derived.Lib.AppendIntMem
set_option linter.unusedVariables false
set_option linter.unusedSimpArgs false
set_option maxRecDepth 100000
set_option maxHeartbeats 40000000
namespace Go.Proofs.YtjjpiefgdggghaaGreatDoor
section
open Go.RowKit
theorem Cz(b:Nat)(s:Int)(k:Nat)(w:World)(h:AE s=some k) :
  Calls Tryz.prog 149 #[.pointer (some ⟨b,0,none⟩),.int .u8 s] w fun e w'=>e=.returned (.tuple #[.pointer (some ⟨b,k,none⟩),.int .i64 7])∧w=w':=by
 have hs:(s=68∧k=1)∨(s=83∧k=2)∨(s=84∧k=3)∨(s=85∧k=4)∨(s=65∧k=5):=by
  unfold AE at h;repeat' (split at h<;>try (simp_all;done))
 clear h;rcases hs with ⟨rfl,rfl⟩ |⟨rfl,rfl⟩ |⟨rfl,rfl⟩ |⟨rfl,rfl⟩ |⟨rfl,rfl⟩
 all_goals
  go_enter Tryz.func149,Tryz.ntmps149;go_wp2;go_ret2
  exact⟨rfl,rfl⟩
theorem B5(b:Nat)(s:Int)(w:World)(h:AE s=none) :
  Calls Tryz.prog 149 #[.pointer (some ⟨b,0,none⟩),.int .u8 s] w fun e w'=>e=.returned (.tuple #[.pointer none,.int .i64 0])∧w=w':=by
 have hs:(s==68)=false∧(s==83)=false∧(s==84)=false∧(s==85)=false∧(s==65)=false:=by
  unfold AE at h;repeat' (split at h<;>try (simp_all;done))
 clear h;obtain⟨h1,h2,h3,h4,h5⟩:=hs;go_enter Tryz.func149,Tryz.ntmps149;go_wp2;go_ret2
 exact⟨rfl,rfl⟩
theorem BE(s:Int)(lo hi:Int)(b:Bool)(w:World)(h:within s=(lo,hi,b)) :
  Calls Tryz.prog 180 #[.int .u8 s] w fun e w'=>e=.returned (.tuple #[.int .u32 lo,.int .u32 hi,.bool b])∧w=w':=by
 have hs:(s=75∧lo=0∧hi=4294967295∧b=true)∨(s=66∧lo=0∧hi=31∧b=true)∨(s=77∧lo=1∧hi=4∧b=true)∨(s=79∧lo=0∧hi=3∧b=true)∨(s=87∧lo=0∧hi=1∧b=true) ∨
   ((s==75)=false∧(s==66)=false∧(s==77)=false∧(s==79)=false∧(s==87)=false∧lo=0∧hi=0∧b=false):=by
  unfold within at h;by_cases h1:s=75
  ·rw[if_pos h1]at h;cases h;simp[h1]
  by_cases h2:s=66
  ·rw[if_neg h1,if_pos h2]at h;cases h;simp[h2]
  by_cases h3:s=77
  ·rw[if_neg h1,if_neg h2,if_pos h3]at h;cases h;simp[h3]
  by_cases h4:s=79
  ·rw[if_neg h1,if_neg h2,if_neg h3,if_pos h4]at h;cases h;simp[h4]
  by_cases h5:s=87
  ·rw[if_neg h1,if_neg h2,if_neg h3,if_neg h4,if_pos h5]at h;cases h;simp[h5]
  rw[if_neg h1,if_neg h2,if_neg h3,if_neg h4,if_neg h5]at h;cases h;simp[h1,h2,h3,h4,h5]
 clear h;rcases hs with ⟨rfl,rfl,rfl,rfl⟩ |⟨rfl,rfl,rfl,rfl⟩ |⟨rfl,rfl,rfl,rfl⟩ |⟨rfl,rfl,rfl,rfl⟩ |⟨rfl,rfl,rfl,rfl⟩ |⟨h1,h2,h3,h4,h5,rfl,rfl,rfl⟩
 all_goals
  go_enter Tryz.func180,Tryz.ntmps180;go_wp2;go_ret3
  exact⟨rfl,rfl⟩
end
end Go.Proofs.YtjjpiefgdggghaaGreatDoor
namespace Go
section
section
variable {P:Program} {ops:Array Oper} {Q:Exit→Act→World→Prop} {md:Region.Mode} {S:World→Prop} {D:List Nat}
def DM(D:List Nat)(listed:Array Bool):Bool:=D.all fun d=>!listed.getD d false
def Dx(md:Region.Mode)(ops:Array Oper)(i:Nat):Nat→Nat→Bool
 |0,d=>d==i
 |n+1,d=>d==i||((ops[d]?).map (·.after.any fun e=>Region.binds md e&&Dx md ops i n e.on)).getD false
def Je(md:Region.Mode)(ops:Array Oper)(listed:Array Bool):Bool :=
 (List.range ops.size).all fun j=>!listed.getD j false||((ops[j]?).map (·.after.all fun e=>!Region.binds md e||listed.getD e.on false)).getD false
def Fv(md:Region.Mode)(ops:Array Oper)(listed:Array Bool):Prop :=
 ∀ j o,ops[j]?=some o→listed.getD j false=true→∀ e∈o.after,Region.binds md e=true→listed.getD e.on false=true
theorem MD{listed:Array Bool}(h:Je md ops listed=true):Fv md ops listed:=by
 intro j o ho hj e he hb;unfold Je at h;rw[List.all_eq_true]at h;have h1:=h j (List.mem_range.2 (Array.getElem?_eq_some_iff.1 ho).1);rw[hj,ho]at h1;have h2:(o.after.all fun e=>!Region.binds md e||listed.getD e.on false)=true:=by simpa using h1
 have h3:=Array.all_eq_true_iff_forall_mem.1 h2 e he;rw[hb]at h3
 simpa using h3
theorem Fv.step{listed:Array Bool}{i:Nat}(h:Fv md ops listed)(hr:i∈Region.ready md ops listed):Fv md ops (listed.setIfInBounds i true):=by
 intro j o ho hj e he hb;obtain⟨_,oi,hoi,hall⟩:=mem_ready.1 hr;by_cases hij:i=j
 ·subst hij;rw[hoi]at ho;cases ho;exact getD_set_true (hall e he hb)
 ·rw[getD_set_ne false hij]at hj;exact getD_set_true (h j o ho hj e he hb)
theorem Gf{listed:Array Bool}{i:Nat}(h:Fv md ops listed):∀ n d,Dx md ops i n d=true→listed.getD d false=true→listed.getD i false=true
 |0,d,hw,hd=>by
  have:d=i:=by simpa [Dx]using hw
  subst this;exact hd
 |n+1,d,hw,hd=>by
  unfold Dx at hw;rcases Bool.or_eq_true ..▸hw with h1 |h1
  ·have:d=i:=by simpa using h1
   subst this;exact hd
  ·cases ho:ops[d]? with
   |none=>rw[ho]at h1;simp at h1
   |some o =>
    rw[ho]at h1;have h2:(o.after.any fun e=>Region.binds md e&&Dx md ops i n e.on)=true:=by simpa using h1
    obtain⟨e,he,hb⟩:=Array.any_eq_true'.1 h2;rw[Bool.and_eq_true]at hb;exact Gf h n e.on hb.2 (h d o ho hd e he hb.1)
theorem LN{listed:Array Bool}{i:Nat}(h:Fv md ops listed)(hi:listed.getD i false=false)(n d:Nat)(hw:Dx md ops i n d=true)(hne:d≠i) :
  d∉Region.ready md ops listed:=fun hr=>by
 obtain⟨_,o,ho,hall⟩:=mem_ready.1 hr;cases n with
 |zero=>exact hne (by simpa [Dx]using hw)
 |succ n =>
  unfold Dx at hw;rcases Bool.or_eq_true ..▸hw with h1 |h1
  ·exact hne (by simpa using h1)
  ·rw[ho]at h1;have h2:(o.after.any fun e=>Region.binds md e&&Dx md ops i n e.on)=true:=by simpa using h1
   obtain⟨e,he,hb⟩:=Array.any_eq_true'.1 h2;rw[Bool.and_eq_true]at hb;have:=Gf h n e.on hb.2 (hall e he hb.1);rw[hi]at this;cases this
def Dv(P:Program)(md:Region.Mode)(ops:Array Oper)(Q:Exit→Act→World→Prop)(S:World→Prop)(D:List Nat):Nat→Array Bool→Act→World→Prop
 |0,listed,a,w=>Region.ready md ops listed=[]∧Q .normal a w
 |fuel+1,listed,a,w =>
  (Region.ready md ops listed=[]→Q .normal a w) ∧
  ∀ i∈Region.ready md ops listed,wpOp P ops Q i (fun a' w'=>(DM D (listed.setIfInBounds i true)=true→S w')∧Dv P md ops Q S D fuel (listed.setIfInBounds i true) a' w') a w
theorem HW:∀ (fuel:Nat) (listed:Array Bool) (a:Act) (w:World),Dv P md ops Q S D fuel listed a w→wpAny P md ops Q fuel listed a w
 |0,_,_,_,h=>h
 |fuel+1,_,_,_,h=>⟨h.1,fun i hi=>wpOp_mono (fun a' w' h'=>HW fuel _ a' w' h'.2) (h.2 i hi)⟩
theorem Hu{listed:Array Bool}{i:Nat}(hr:i∈Region.ready md ops listed):listed.getD i false=false:=by
 have h0:=(mem_ready.1 hr).1;rcases Nat.lt_or_ge i listed.size with h' |h'
 ·simp[h']at h0 ⊢;exact h0
 ·simp[Array.getElem?_eq_none h']at h0
theorem I1{listed:Array Bool}{i:Nat}(hi:i∉D)(h:DM D listed=true):DM D (listed.setIfInBounds i true)=true:=by
 unfold DM at *;rw[List.all_eq_true]at *;intro d hd;rw[getD_set_ne false (fun e:i=d=>hi (by rw[e];exact hd))];exact h d hd
theorem O2{i:Nat}{oi:Oper}{v:Value}(hi:ops[i]?=some oi)(hsel:∀ (j:Nat) (o:Oper) cs b,ops[j]?=some o→o.op≠.select cs b)
  (hQ:∀ c a w,Q (.panic c) (a.put oi.dst v) w→Q (.panic c) a w)(hD:∀ d∈D,d≠i∧Dx md ops i ops.size d=true) :
  ∀ (fuel:Nat) (listed:Array Bool) (a:Act) (w:World),
   (∀ j oj,ops[j]?=some oj→j≠i→listed.getD j true=false→(∀ e∈oj.after,Region.binds md e=true→e.on≠i)→oi.apart ops oj=true) →
   Fv md ops listed→i∈Region.ready md ops listed→YieldsIf P ops S oi v a→S w →
   Dv P md ops Q S D fuel (listed.setIfInBounds i true) (a.put oi.dst v) w→Dv P md ops Q S D (fuel+1) listed a w:=by
 intro fuel;induction fuel with
 |zero =>
  intro listed a w _ hsd hr hy hS H;refine⟨fun h=>(by rw[h]at hr;cases hr),fun j hj=>?_⟩;by_cases hji:j=i
  ·subst hji;exact hy.wpOp hi hS ⟨fun _=>hS,H⟩
  ·have:=ready_mono hj hji;rw[H.1]at this;cases this
 |succ fuel ih =>
  intro listed a w hfree hsd hr hy hS H;refine⟨fun h=>(by rw[h]at hr;cases hr),fun j hj=>?_⟩;by_cases hji:j=i
  ·subst hji;exact hy.wpOp hi hS ⟨fun _=>hS,H⟩
  ·have h1:=H.2 j (ready_mono hj hji);obtain⟨hjun,oj,hoj,hall⟩:=mem_ready.1 hj;have hnot:∀ e∈oj.after,Region.binds md e=true→e.on≠i:=fun e he hb heq=>by
    have h1:=hall e he hb;rw[heq,Hu hr]at h1;cases h1
   have h2:=wpOp_putIf hoj (hfree j oj hoj hji hjun hnot) (fun cs b=>hsel i oi cs b hi) (fun cs b=>hsel j oj cs b hoj) hQ hy h1;have hfree':∀ k ok,ops[k]?=some ok→k≠i→(listed.setIfInBounds j true).getD k true=false →
     (∀ e∈ok.after,Region.binds md e=true→e.on≠i)→oi.apart ops ok=true:=fun k ok hk hki hun hno=>by
    refine hfree k ok hk hki ?_ hno;by_cases hjk:j=k
    ·subst hjk;exact hjun
    ·rw[getD_set_ne true hjk]at hun;exact hun
   have hun:=Hu hr;have hjD:j∉D:=fun hd=>LN hsd hun _ j (hD j hd).2 hji hj
   have hiD:i∉D:=fun hd=>(hD i hd).1 rfl
   have hnl:DM D listed=true:=by
    unfold DM;rw[List.all_eq_true];intro d hd;cases hc:listed.getD d false with
    |false=>rfl
    |true =>
     have:=Gf hsd _ d (hD d hd).2 hc;rw[hun]at this;cases this
   refine wpOp_mono (fun a' w' h3=>?_) h2;have hS':S w':=h3.2.1 (I1 hjD (I1 hiD hnl));refine⟨fun _=>hS',ih (listed.setIfInBounds j true) a' w' hfree' (hsd.step hj) (ready_mono hr (Ne.symm hji)) h3.1 hS' ?_⟩;rw[Array.setIfInBounds_comm _ _ hji];exact h3.2.2
theorem Db{i:Nat}{oi:Oper}{v:Value}{fuel:Nat}{listed:Array Bool}{a:Act}{w:World}(hi:ops[i]?=some oi)
  (hs:(Region.noSelect ops&&Region.free md ops listed i&&(Region.ready md ops listed).contains i&&Je md ops listed&&D.all (fun d=>d != i&&Dx md ops i ops.size d))=true)
  (hQ:∀ c a w,Q (.panic c) (a.put oi.dst v) w→Q (.panic c) a w)(hy:YieldsIf P ops S oi v a)(hS:S w)
  (h:Dv P md ops Q S D fuel (listed.setIfInBounds i true) (a.put oi.dst v) w):Dv P md ops Q S D (fuel+1) listed a w:=by
 simp only[Bool.and_eq_true]at hs;obtain⟨⟨⟨⟨h1,h2⟩,h3⟩,h4⟩,h5⟩:=hs;refine O2 hi (Region.noSelect_spec h1) hQ (fun d hd=>?_) fuel listed a w (Region.free_spec hi h2) (MD h4) (by simpa using h3) hy hS h;have:=List.all_eq_true.1 h5 d hd
 simpa using this
theorem ME{i:Nat}{oi:Oper}{v:Value}(hi:ops[i]?=some oi)(hsel:∀ (j:Nat) (o:Oper) cs b,ops[j]?=some o→o.op≠.select cs b)
  (hQ:∀ c a w,Q (.panic c) (a.put oi.dst v) w→Q (.panic c) a w)(hiD:i∉D) :
  ∀ (fuel:Nat) (listed:Array Bool) (a:Act) (w:World),
   (∀ j oj,ops[j]?=some oj→j≠i→listed.getD j true=false→(∀ e∈oj.after,Region.binds md e=true→e.on≠i)→oi.apart ops oj=true) →
   i∈Region.ready md ops listed→Yields P ops oi v a→(DM D listed=true→S w) →
   Dv P md ops Q S D fuel (listed.setIfInBounds i true) (a.put oi.dst v) w→Dv P md ops Q S D (fuel+1) listed a w:=by
 have back:∀ {listed:Array Bool},DM D (listed.setIfInBounds i true)=true→DM D listed=true:=fun {listed} h=>by
  unfold DM at *;rw[List.all_eq_true]at *;intro d hd;have h1:=h d hd
  rwa [getD_set_ne false (fun e:i=d=>hiD (by rw[e];exact hd))]at h1
 intro fuel;induction fuel with
 |zero =>
  intro listed a w _ hr hy hS H;refine⟨fun h=>(by rw[h]at hr;cases hr),fun j hj=>?_⟩;by_cases hji:j=i
  ·subst hji;exact hy.wpOp hi ⟨fun h=>hS (back h),H⟩
  ·have:=ready_mono hj hji;rw[H.1]at this;cases this
 |succ fuel ih =>
  intro listed a w hfree hr hy hS H;refine⟨fun h=>(by rw[h]at hr;cases hr),fun j hj=>?_⟩;by_cases hji:j=i
  ·subst hji;exact hy.wpOp hi ⟨fun h=>hS (back h),H⟩
  ·have h1:=H.2 j (ready_mono hj hji);obtain⟨hjun,oj,hoj,hall⟩:=mem_ready.1 hj;have hnot:∀ e∈oj.after,Region.binds md e=true→e.on≠i:=fun e he hb heq=>by
    have h1:=hall e he hb;rw[heq,Hu hr]at h1;cases h1
   have h2:=wpOp_put hoj (hfree j oj hoj hji hjun hnot) (fun cs b=>hsel i oi cs b hi) (fun cs b=>hsel j oj cs b hoj) hQ hy h1;have hfree':∀ k ok,ops[k]?=some ok→k≠i→(listed.setIfInBounds j true).getD k true=false →
     (∀ e∈ok.after,Region.binds md e=true→e.on≠i)→oi.apart ops ok=true:=fun k ok hk hki hun hno=>by
    refine hfree k ok hk hki ?_ hno;by_cases hjk:j=k
    ·subst hjk;exact hjun
    ·rw[getD_set_ne true hjk]at hun;exact hun
   refine wpOp_mono (fun a' w' h3=>?_) h2;have hS':DM D (listed.setIfInBounds j true)=true→S w':=fun h=>h3.2.1 (by rw[Array.setIfInBounds_comm _ _ (Ne.symm hji)];exact I1 hiD h)
   refine⟨hS',ih (listed.setIfInBounds j true) a' w' hfree' (ready_mono hr (Ne.symm hji)) h3.1 hS' ?_⟩;rw[Array.setIfInBounds_comm _ _ hji];exact h3.2.2
theorem AM{i:Nat}{oi:Oper}{v:Value}{fuel:Nat}{listed:Array Bool}{a:Act}{w:World}(hi:ops[i]?=some oi)
  (hs:(Region.noSelect ops&&Region.free md ops listed i&&(Region.ready md ops listed).contains i&&!D.contains i)=true)
  (hQ:∀ c a w,Q (.panic c) (a.put oi.dst v) w→Q (.panic c) a w)(hy:Yields P ops oi v a)(hS:DM D listed=true→S w)
  (h:Dv P md ops Q S D fuel (listed.setIfInBounds i true) (a.put oi.dst v) w):Dv P md ops Q S D (fuel+1) listed a w:=by
 simp only[Bool.and_eq_true]at hs;obtain⟨⟨⟨h1,h2⟩,h3⟩,h4⟩:=hs;exact ME hi (Region.noSelect_spec h1) hQ (by simpa using h4) fuel listed a w (Region.free_spec hi h2) (by simpa using h3) hy hS h
def Aa(P:Program)(md:Region.Mode)(ops:Array Oper)(Q:Exit→Act→World→Prop)(S:World→Prop)(D:List Nat)(fuel:Nat)(listed:Array Bool)(a:Act)(w:World)(rs:List Nat):Prop :=
 ∀ i∈rs,wpOp P ops Q i (fun a' w'=>(DM D (listed.setIfInBounds i true)=true→S w')∧Dv P md ops Q S D fuel (listed.setIfInBounds i true) a' w') a w
theorem Aa.nil{fuel:Nat}{listed:Array Bool}{a:Act}{w:World}:Aa P md ops Q S D fuel listed a w []:=fun _ h=>by cases h
theorem Aa.cons{fuel:Nat}{listed:Array Bool}{a:Act}{w:World}{i:Nat}{o:Oper}{rs:List Nat}(ho:ops[i]?=some o)
  (h:∀ K':Act→World→Prop,Shut (∀ a w,(DM D (listed.setIfInBounds i true)=true→S w)→((DM D (listed.setIfInBounds i true)=true→S w)→Dv P md ops Q S D fuel (listed.setIfInBounds i true) a w)→K' a w)→if Region.wanted o (yielded ops a.tmps)=true then Oper.wp P o a w K' Q else K' (a.put o.dst undef) w)
  (hs:Aa P md ops Q S D fuel listed a w rs):Aa P md ops Q S D fuel listed a w (i::rs):=fun j hj=>by
 rcases List.mem_cons.1 hj with rfl |hj
 ·exact wpOp_step ho (fun K' hK=>h K' (fun a w hS hW=>hK a w ⟨hS,hW hS⟩))
 ·exact hs j hj
theorem Ab{rs:List Nat}{fuel:Nat}{listed:Array Bool}{a:Act}{w:World}(hr:Region.ready md ops listed=rs)(hne:rs≠[])
 (h:Aa P md ops Q S D fuel listed a w rs):Dv P md ops Q S D (fuel+1) listed a w:=⟨fun h0=>absurd (hr▸h0) hne,hr▸h⟩
theorem A4{listed:Array Bool}{a:Act}{w:World}(hr:Region.ready md ops listed=[])(h:Q .normal a w) :
  ∀ fuel,Dv P md ops Q S D fuel listed a w
 |0=>⟨hr,h⟩
 |_+1=>⟨fun _=>h,by rw[hr];simp⟩
theorem Aw{id:Nat}{a:Act}{w:World}(D:List Nat)(hm:P.follows .mixedOrders=true)(hS:S w.drew)
  (h:S w.drew→Dv P .any ops Q S D ops.size (Array.replicate ops.size false) a w.drew):(Code.region id ops true).wp P Q a w :=
 wp_region_any hm (HW _ _ _ _ (h hS))
end
end
end Go
namespace Go.Proofs.YtjjpiefgdggghaaGreatDoorW.PrintLast
section
open Go.Proofs.YtjjpiefgdggghaaGreatDoorW.PrintWords (Af)
def H6(md:Region.Mode)(o:Oper):List Nat:=(o.after.toList.filter (fun e=>Region.binds md e)).map (fun e=>e.on)
def NX(md:Region.Mode)(ops:Array Oper)(i:Nat)(oi:Oper):List Nat:=(List.range ops.size).filter fun j=>!(j==i)&&match ops[j]? with
 |some oj=>!(oj.after.any (fun e=>Region.binds md e&&e.on==i)||oi.apart ops oj)
 |none=>false
def Gy(md:Region.Mode)(ops:Array Oper):Bool×List (List Nat×List Nat):=(Region.noSelect ops,(List.range ops.size).map fun i=>match ops[i]? with
 |some o=>(H6 md o,NX md ops i o)
 |none=>([],[]))
def H7(T:List (List Nat×List Nat))(l:List Bool)(i:Nat):Bool:=!l.getD i true&&match T[i]? with
 |some r=>r.1.all (fun j=>l.getD j false)
 |none=>false
def J1(T:List (List Nat×List Nat))(l:List Bool):List Nat:=(List.range T.length).filter (H7 T l)
def UT(T:List (List Nat×List Nat))(l:List Bool)(i:Nat):Bool:=match T[i]? with
 |some r=>r.2.all (fun j=>l.getD j true)
 |none=>false
def NY(T:List (List Nat×List Nat))(i:Nat):Nat→Nat→Bool
 |0,_=>false
 |fuel+1,d=>match T[d]? with
  |some r=>r.1.any fun j=>j==i||NY T i fuel j
  |none=>false
def XW(T:List (List Nat×List Nat))(l:List Bool)(ds:List Nat)(i:Nat):Bool:=ds.all fun d=>l.getD d true||NY T i T.length d
section
variable {md:Region.Mode} {ops:Array Oper} {T:Bool×List (List Nat×List Nat)} {l l' li lj lk:Array Bool} {ds:List Nat} {i j k:Nat}
theorem gd(l:Array Bool)(j:Nat)(b:Bool):l.getD j b=l.toList.getD j b:=by simp[Array.getD_eq_getD_getElem?,List.getD_eq_getElem?_getD]
theorem Tx(o:Oper)(p:Nat→Bool):o.after.all (fun e=>!Region.binds md e||p e.on)=(H6 md o).all p:=by
 unfold H6;rw[←Array.all_toList];induction o.after.toList with
 |nil=>rfl
 |cons e r ih =>
  rw[List.all_cons,ih,List.filter_cons];cases h:Region.binds md e<;>simp
theorem Ty(o:Oper)(p:Nat→Bool):o.after.any (fun e=>Region.binds md e&&p e.on)=(H6 md o).any p:=by
 unfold H6;rw[←Array.any_toList];induction o.after.toList with
 |nil=>rfl
 |cons e r ih =>
  rw[List.any_cons,ih,List.filter_cons];cases h:Region.binds md e<;>simp
theorem Hm:(Gy md ops).2.length=ops.size:=by simp[Gy]
theorem J2{o:Oper}(h:ops[i]?=some o):(Gy md ops).2[i]?=some (H6 md o,NX md ops i o):=by
 have hi:=(Array.getElem?_eq_some_iff.1 h).1;unfold Gy;rw[List.getElem?_map,List.getElem?_range hi,Option.map_some,h]
theorem J3(h:ops[i]?=none):(Gy md ops).2[i]?=none:=by
 have hi:ops.size≤i:=Array.getElem?_eq_none_iff.1 h;exact List.getElem?_eq_none (by rw[Hm];exact hi)
theorem QQ:H7 (Gy md ops).2 l.toList i=(!l.getD i true&&((ops[i]?).map (·.after.all fun e=>!Region.binds md e||l.getD e.on false)).getD false):=by
 unfold H7;rw[gd];cases h:ops[i]? with
 |none=>rw[J3 h];rfl
 |some o =>
  rw[J2 h];simp only[Option.map_some,Option.getD_some];rw[←Tx];simp only[gd]
theorem IS:Region.ready md ops l=J1 (Gy md ops).2 l.toList:=by
 unfold Region.ready J1;rw[Hm];refine List.filter_congr (fun i _=>?_);rw[QQ]
theorem Xf:Region.free md ops l i=UT (Gy md ops).2 l.toList i:=by
 unfold Region.free UT;cases h:ops[i]? with
 |none=>rw[J3 h]
 |some oi =>
  rw[J2 h];simp only[NX];rw[List.all_filter]
  congr 1
  funext j
  rw[gd];cases hj:ops[j]? with
  |none=>cases (j==i)<;>cases (l.toList.getD j true)<;>simp
  |some oj =>
   cases (j==i)<;>cases (l.toList.getD j true)<;>cases (oj.after.any (fun e=>Region.binds md e&&e.on==i)||oi.apart ops oj)<;>simp_all
theorem P0:∀ (fuel d:Nat),Region.ND md ops i fuel d=NY (Gy md ops).2 i fuel d
 |0,_=>rfl
 |fuel+1,d=>by
  unfold Region.ND NY;cases h:ops[d]? with
  |none=>rw[J3 h]
  |some o =>
   rw[J2 h];simp only;rw[←Ty]
   congr 1
   funext e
   rw[P0 fuel]
theorem KC:Region.XO md ops l ds i=XW (Gy md ops).2 l.toList ds i:=by
 unfold Region.XO XW;rw[Hm]
 congr 1
 funext d
 rw[gd,P0]
theorem P3(h:H7 T.2 l.toList i=true)(hT:Gy md ops=T):(Region.ready md ops l).contains i=true:=by
 subst hT;rw[IS];unfold J1;rw[List.contains_iff_mem,List.mem_filter,List.mem_range];refine⟨?_,h⟩;unfold H7 at h;rw[Bool.and_eq_true]at h;cases hq:(Gy md ops).2[i]? with
 |none=>rw[hq]at h;simp at h
 |some r=>exact(List.getElem?_eq_some_iff.1 hq).1
theorem NZ(h:(l.toList.set i true==l'.toList)=true):(l.setIfInBounds i true==l')=true:=by
 rw[beq_iff_eq]at h ⊢;apply Array.ext';rw[Array.toList_setIfInBounds];exact h
def Zz(T:Bool×List (List Nat×List Nat))(l l':List Bool)(i:Nat):Bool:=T.1&&UT T.2 l i&&H7 T.2 l i&&(l.set i true==l')
theorem GX(hT:Gy md ops=T)(h:Zz T l.toList l'.toList i=true):WH md ops l l' i=true:=by
 simp only[Zz,Bool.and_eq_true]at h;obtain⟨⟨⟨h1,h2⟩,h3⟩,h4⟩:=h;have h5:=P3 h3 hT;have h6:=NZ h4;subst hT;simp only[WH,Bool.and_eq_true];exact⟨⟨⟨h1,by rw[Xf];exact h2⟩,h5⟩,h6⟩
theorem NC(hT:Gy md ops=T)(h:(J1 T.2 l.toList==[i]&&l.toList.set i true==l'.toList)=true):NF md ops l l' i=true:=by
 simp only[Bool.and_eq_true]at h;obtain⟨h1,h2⟩:=h;subst hT;simp only[NF,Bool.and_eq_true];exact⟨by rw[IS];exact h1,NZ h2⟩
theorem Ul(hT:Gy md ops=T)(h:(J1 T.2 l.toList==[i,j]&&l.toList.set i true==li.toList&&l.toList.set j true==lj.toList)=true):(Region.ready md ops l==[i,j]&&l.setIfInBounds i true==li&&l.setIfInBounds j true==lj)=true:=by
 simp only[Bool.and_eq_true]at h ⊢;obtain⟨⟨h1,h2⟩,h3⟩:=h;subst hT;exact⟨⟨by rw[IS];exact h1,NZ h2⟩,NZ h3⟩
theorem WD(hT:Gy md ops=T)(h:(J1 T.2 l.toList==[])=true):(Region.ready md ops l==[])=true:=by
 subst hT;rw[IS];exact h
def upM(B:List Nat)(d:Nat):List Nat→Nat
 |[]=>0
 |n::r=>(2 ^ n ||| (if n<d then B.getD n 0 else 0)) ||| upM B d r
def NB(T:List (List Nat×List Nat))(B:List Nat):Bool:=(List.range T.length).all fun d=>match T[d]? with
 |some r=>(B.getD d 0 ||| upM B d r.1)==upM B d r.1
 |none=>false
theorem SH{P:Program}{Q:Exit→Act→World→Prop}{S:World→Prop}{n:Nat}{a:Act}{w:World}{B:List Nat}(hT:Gy md ops=T)(hB:NB T.2 B=true)(h:Af (Gy md ops=T)→Af (NB T.2 B=true)→AV P md ops Q S ds n l a w):AV P md ops Q S ds n l a w:=h ⟨hT⟩ ⟨hB⟩
end
def HU:Code→Nat→Option (Array Oper)
 |.region id ops _,k=>if id==k then some ops else none
 |.seq a b,k=>match HU a k with
  |some o=>some o
  |none=>HU b k
 |.cond _ a b,k=>match HU a k with
  |some o=>some o
  |none=>HU b k
 |.block _ c,k=>HU c k
 |.loop c,k=>HU c k
 |.scope c,k=>HU c k
 |.rangeFunc _ _ a b,k=>match HU a k with
  |some o=>some o
  |none=>HU b k
 |_,_=>none
def opsOf(f:Func)(k:Nat):Array Oper:=((f.body.bind fun c=>HU c k)).getD #[]
end
end Go.Proofs.YtjjpiefgdggghaaGreatDoorW.PrintLast
namespace Go.Proofs.YtjjpiefgdggghaaGreatDoorW.PrintWords
section
theorem BO.one{α:Type}{R:α→List Value→Prop}{ps:List α}{cs:List Value}{p:α}{v:Value}(hp:R p [v])(h:BO R 1 ps cs):BO R 1 (p::ps) (v::cs):=by
 refine⟨by simp[h.1],fun j q hq=>?_⟩;cases j with
 |zero =>
  simp only[List.getElem?_cons_zero,Option.some.injEq]at hq;subst hq
  simpa using hp
 |succ j =>
  simp only[List.getElem?_cons_succ]at hq;have h1:=h.2 j q hq
  simpa [Nat.mul_one]using h1
theorem BO.front{α:Type}{R:α→List Value→Prop}{size:Nat}{ps:List α}{cs c all:List Value}{p:α}(hp:R p c)(hc:c.length=size)(h:BO R size ps cs)(ha:c++cs=all):BO R size (p::ps) all:=by
 subst ha;refine⟨by rw[List.length_append,hc,h.1,List.length_cons,Nat.succ_mul,Nat.add_comm],fun j q hq=>?_⟩;cases j with
 |zero =>
  simp only[List.getElem?_cons_zero,Option.some.injEq]at hq;subst hq;rw[Nat.zero_mul,List.drop_zero,List.take_append_of_le_length (by omega),List.take_of_length_le (by omega)];exact hp
 |succ j =>
  simp only[List.getElem?_cons_succ]at hq;have h1:=h.2 j q hq;rw[Nat.succ_mul,List.drop_append,List.drop_of_length_le (by rw[hc];exact Nat.le_add_left _ _),List.nil_append,hc,Nat.add_sub_cancel];exact h1
theorem BO.c2{α:Type}{R:α→List Value→Prop}{ps:List α}{cs:List Value}{p:α}{va vb:Value}(hp:R p [va,vb])(h:BO R 2 ps cs):BO R 2 (p::ps) (va::vb::cs):=BO.front hp rfl h rfl
theorem BO.c3{α:Type}{R:α→List Value→Prop}{ps:List α}{cs:List Value}{p:α}{va vb vc:Value}(hp:R p [va,vb,vc])(h:BO R 3 ps cs):BO R 3 (p::ps) (va::vb::vc::cs):=BO.front hp rfl h rfl
theorem BO.c4{α:Type}{R:α→List Value→Prop}{ps:List α}{cs:List Value}{p:α}{va vb vc vd:Value}(hp:R p [va,vb,vc,vd])(h:BO R 4 ps cs):BO R 4 (p::ps) (va::vb::vc::vd::cs):=BO.front hp rfl h rfl
theorem BO.c5{α:Type}{R:α→List Value→Prop}{ps:List α}{cs:List Value}{p:α}{va vb vc vd ve:Value}(hp:R p [va,vb,vc,vd,ve])(h:BO R 5 ps cs):BO R 5 (p::ps) (va::vb::vc::vd::ve::cs):=BO.front hp rfl h rfl
theorem BO.c6{α:Type}{R:α→List Value→Prop}{ps:List α}{cs:List Value}{p:α}{va vb vc vd ve vf:Value}(hp:R p [va,vb,vc,vd,ve,vf])(h:BO R 6 ps cs):BO R 6 (p::ps) (va::vb::vc::vd::ve::vf::cs):=BO.front hp rfl h rfl
theorem BO.c7{α:Type}{R:α→List Value→Prop}{ps:List α}{cs:List Value}{p:α}{va vb vc vd ve vf vg:Value}(hp:R p [va,vb,vc,vd,ve,vf,vg])(h:BO R 7 ps cs):BO R 7 (p::ps) (va::vb::vc::vd::ve::vf::vg::cs):=BO.front hp rfl h rfl
theorem BO.c8{α:Type}{R:α→List Value→Prop}{ps:List α}{cs:List Value}{p:α}{va vb vc vd ve vf vg vh:Value}(hp:R p [va,vb,vc,vd,ve,vf,vg,vh])(h:BO R 8 ps cs):BO R 8 (p::ps) (va::vb::vc::vd::ve::vf::vg::vh::cs):=BO.front hp rfl h rfl
theorem BO.c9{α:Type}{R:α→List Value→Prop}{ps:List α}{cs:List Value}{p:α}{va vb vc vd ve vf vg vh vi:Value}(hp:R p [va,vb,vc,vd,ve,vf,vg,vh,vi])(h:BO R 9 ps cs):BO R 9 (p::ps) (va::vb::vc::vd::ve::vf::vg::vh::vi::cs):=BO.front hp rfl h rfl
theorem BO.OV{α:Type}{R:α→List Value→Prop}{ps:List α}{cs:List Value}{p:α}{va vb vc vd ve vf vg vh vi vj:Value}(hp:R p [va,vb,vc,vd,ve,vf,vg,vh,vi,vj])(h:BO R 10 ps cs):BO R 10 (p::ps) (va::vb::vc::vd::ve::vf::vg::vh::vi::vj::cs):=BO.front hp rfl h rfl
end
end Go.Proofs.YtjjpiefgdggghaaGreatDoorW.PrintWords
namespace Go.Proofs.YtjjpiefgdggghaaGreatDoor
section
open Go.RowKit Go.Proofs.YtjjpiefgdggghaaGreatDoorW.PrintWords Go.Proofs.YtjjpiefgdggghaaGreatDoorW.PrintLast
section
variable {P:Program} {ops:Array Oper} {rest:List Oper} {o:Oper} {a:Act} {Q:Exit→Act→World→Prop} {W:World}
theorem KJ{f:FuncId}{xs:Array Operand}{ts:Array TypeId}(_:o.op=.call {callee:=.value (.func f),args:=xs,argTypes:=ts})(h:wpList P ops Q (o::rest) a W):wpList P ops Q (o::rest) a W:=h
end
def Aj.l0:Nat→ByteArray→Int→Int→Option (Int)
 |0,_,_,_=>none
 |k+1,x0,x1,x5=>if x5≥0 then (if 0≤x5 then (if x5<(x0.size:Int) then (if (bt x0 x5)=x1 then (some x5) else (Aj.l0 k x0 x1 (wrap64 (x5-1)))) else (none)) else (none)) else (some (-1))
def Aj.f(k:Nat)(a0:ByteArray)(a1:Int):Option (Int):=Aj.l0 k a0 a1 (wrap64 ((a0.size:Int)-1))
theorem Aj.EE:∀ k,(∀ y0 y1 y2,CG (Aj.l0 k y0 y1 y2) (Aj.l0 (k+1) y0 y1 y2))
 |0=>fun _ _ _ r h=>by simp[Aj.l0]at h
 |k+1=>by
  have ih0:=Aj.EE k
  ·intro y0 y1 y2;unfold Aj.l0;repeat' first
   |(with_reducible exact ih0 _ _ _)
   |(with_reducible exact CG.refl _)
   |(with_reducible exact CG.none _)
   |(with_reducible refine CG.ite ?_ ?_)
   |(with_reducible refine CG.bind ?_ (fun _=>?_))
   |exact ih0 _ _ _
   |exact CG.none _
   |refine CG.ite ?_ ?_
   |refine CG.bind ?_ (fun _=>?_)
theorem Aj.mono:∀ a0 a1 k,CG (Aj.f k a0 a1) (Aj.f (k+1) a0 a1):=by
 intro a0 a1 k;have ih0:=Aj.EE k;unfold Aj.f;repeat' first
  |(with_reducible exact ih0 _ _ _)
  |(with_reducible exact CG.refl _)
  |(with_reducible exact CG.none _)
  |(with_reducible refine CG.ite ?_ ?_)
  |(with_reducible refine CG.bind ?_ (fun _=>?_))
  |exact ih0 _ _ _
  |exact CG.none _
  |refine CG.ite ?_ ?_
  |refine CG.bind ?_ (fun _=>?_)
theorem Aj.calls(k:Nat)(a0:ByteArray)(a1:Int)(r:Int)(w:World)(h:Aj.f k a0 a1=some r) :
  Calls Tryz.prog 144 #[.string a0,.int .u8 a1] w fun e w'=>e=.returned (.int .i64 r)∧AO w w':=by
 have H:(Aj.l0 k a0 a1 (wrap64 ((a0.size:Int)-1)))=some r:=h;clear h;have H':=Az H;clear H;go_enter Tryz.func144,Tryz.ntmps144;go_wp2;go_loopg [5] k (fun kq v5 w'=>∃ (x5_1:Int),v5=.int .i64 x5_1∧Af (Aj.l0 kq a0 a1 x5_1=some r)∧Af (kq≤k)∧AO w w')
 case atStart=>exact⟨(wrap64 ((a0.size:Int)-1)),(by first |rfl |(simp;done) |(simp[*];done)),H',⟨Nl _⟩,by repeat (first |exact AO.refl _ |apply AO.step)⟩
 case round =>
  clear H';try clear c1
  try clear p2
  obtain⟨x5_1,rfl,HA,HK1,⟨m1,rfl⟩⟩:=hrel;cases gk with
  |zero=>exact absurd HA.out (by simp[Aj.l0])
  |succ k1 =>
   have H:=HA.out;clear HA;simp only[Aj.l0]at H;by_cases c3:x5_1≥0
   ·rw[if_pos c3]at H;have c3b0:decide (0≤x5_1)=true:=decide_eq_true c3;clear c3;by_cases c4:0≤x5_1
    ·rw[if_pos c4]at H;have c4b0:decide (0≤x5_1)=true:=decide_eq_true c4;clear c4;by_cases c5:x5_1<(a0.size:Int)
     ·rw[if_pos c5]at H;have c5b0:decide (x5_1<(a0.size:Int))=true:=decide_eq_true c5;clear c5;by_cases c7:(bt a0 x5_1)=a1
      ·rw[if_pos c7]at H;have c7b0:((bt a0 x5_1)==a1)=true:=beq_iff_eq.mpr c7;have c7b1:((bt a0 x5_1) != a1)=false:=bne_eq_false_iff_eq.mpr c7;clear c7;obtain rfl:=Option.some.inj H;have p6:0≤(x5_1:Int):=of_decide_eq_true (by first |(with_reducible assumption) |assumption);have q6:x5_1<(a0.size:Int):=of_decide_eq_true (by first |(with_reducible assumption) |assumption);have hx6:=DR a0 x5_1;replace p6:=eq_true p6;replace q6:=eq_true q6;go_wp2;go_ret;exact⟨by first |rfl |(simp;done) |(simp[*];done),by repeat (first |exact AO.refl _ |apply AO.step)⟩
      ·rw[if_neg c7]at H;have c7b0:((bt a0 x5_1)==a1)=false:=beq_eq_false_iff_ne.mpr c7;have c7b1:((bt a0 x5_1) != a1)=true:=bne_iff_ne.mpr c7;have H':=Az H;clear H;have p6:0≤(x5_1:Int):=of_decide_eq_true (by first |(with_reducible assumption) |assumption);have q6:x5_1<(a0.size:Int):=of_decide_eq_true (by first |(with_reducible assumption) |assumption);have hx6:=DR a0 x5_1;replace p6:=eq_true p6;replace q6:=eq_true q6;go_wp2;go_roundg k1
       case measure=>have:=HK1.out;omega
       case rel=>exact⟨(wrap64 (x5_1-1)),(by first |rfl |(simp;done) |(simp[*];done)),H',⟨by have:=HK1.out;omega⟩,by repeat (first |exact AO.refl _ |apply AO.step)⟩
     ·rw[if_neg c5]at H;exact absurd H (by simp)
    ·rw[if_neg c4]at H;exact absurd H (by simp)
   ·rw[if_neg c3]at H;have c3b0:decide (0≤x5_1)=false:=decide_eq_false c3;clear c3;obtain rfl:=Option.some.inj H;go_wp2;go_ret;exact⟨by first |rfl |(simp;done) |(simp[*];done),by repeat (first |exact AO.refl _ |apply AO.step)⟩
def Bn.f(k:Nat)(a0:ByteArray)(a1:Int):Option (Int):=(Aj.f k a0 a1).bind fun t223=>(some t223)
theorem Bn.mono:∀ a0 a1 k,CG (Bn.f k a0 a1) (Bn.f (k+1) a0 a1):=by
 intro a0 a1 k;unfold Bn.f;repeat' first
  |(with_reducible exact Aj.mono _ _ _)
  |(with_reducible exact CG.refl _)
  |(with_reducible exact CG.none _)
  |(with_reducible refine CG.ite ?_ ?_)
  |(with_reducible refine CG.bind ?_ (fun _=>?_))
  |exact Aj.mono _ _ _
  |exact CG.none _
  |refine CG.ite ?_ ?_
  |refine CG.bind ?_ (fun _=>?_)
theorem Bn.calls(k:Nat)(a0:ByteArray)(a1:Int)(r:Int)(w:World)(h:Bn.f k a0 a1=some r) :
  Calls Tryz.prog 121 #[.string a0,.int .u8 a1] w fun e w'=>e=.returned (.int .i64 r)∧AO w w':=by
 have H:((Aj.f k a0 a1).bind fun t223=>(some t223))=some r:=h;clear h;replace H:=Option.bind_eq_some_iff.mp H;obtain⟨t223,A30,H⟩:=H;replace H:(some t223)=some r:=H;have A3:=Az A30;clear A30;obtain rfl:=Option.some.inj H;go_enter Tryz.func121,Tryz.ntmps121;go_wp2_with (first |((with_reducible refine KJ (f:=144) rfl ?_);refine NG (some 7) rfl rfl Tryz.func144 (by kernel_rfl) rfl #[.string a0,.int .u8 a1] rfl (by(try simp only[List.map_toArray,List.map_cons,List.map_nil]);first |done |rfl |(simp only[List.length_drop,List.length_take];rfl)) ?_;(with_reducible refine(Aj.calls k a0 a1 t223 _ A3.out).mono ?_);rintro e w' ⟨rfl,⟨nd,rfl⟩⟩;refine⟨_,rfl,?_⟩))
 go_ret;exact⟨by first |rfl |(simp;done) |(simp[*];done),by repeat (first |exact AO.refl _ |apply AO.step)⟩
def BG.f(a0:ByteArray)(a1:ByteArray):Option (Bool):=if (a0.size:Int)≥(a1.size:Int) then (if 0≤(wrap64 ((a0.size:Int)-(a1.size:Int))) then (if (wrap64 ((a0.size:Int)-(a1.size:Int)))≤(a0.size:Int) then (some ((a0.extract ((wrap64 ((a0.size:Int)-(a1.size:Int))):Int).toNat a0.size).toList==a1.toList)) else (none)) else (none)) else (some false)
theorem BG.calls(a0:ByteArray)(a1:ByteArray)(r:Bool)(w:World)(h:BG.f a0 a1=some r) :
  Calls Tryz.prog 143 #[.string a0,.string a1] w fun e w'=>e=.returned (.bool r)∧AO w w':=by
 have H:(if (a0.size:Int)≥(a1.size:Int) then (if 0≤(wrap64 ((a0.size:Int)-(a1.size:Int))) then (if (wrap64 ((a0.size:Int)-(a1.size:Int)))≤(a0.size:Int) then (some ((a0.extract ((wrap64 ((a0.size:Int)-(a1.size:Int))):Int).toNat a0.size).toList==a1.toList)) else (none)) else (none)) else (some false))=some r:=h;clear h;by_cases c3:(a0.size:Int)≥(a1.size:Int)
 ·rw[if_pos c3]at H;have c3b0:decide ((a1.size:Int)≤(a0.size:Int))=true:=decide_eq_true c3;have c3b1:decide (a1.size≤a0.size)=true:=decide_eq_true (Int.ofNat_le.mp c3);clear c3;obtain⟨ji4,hji4⟩:∃ j_:Int,(wrap64 ((a0.size:Int)-(a1.size:Int)))=j_:=⟨_,rfl⟩
  replace H:(if 0≤(ji4) then (if (ji4)≤(a0.size:Int) then (some ((a0.extract ((ji4):Int).toNat a0.size).toList==a1.toList)) else (none)) else (none))=some r:=by first |(rw[hji4]at H;exact H) |(simp only[hji4]at H ⊢;exact H)
  have hji4w:(IntKind.i64.wrap ((a0.size:Int)-(a1.size:Int)))=ji4:=(Eg _).trans hji4;by_cases c5:0≤(ji4)
  ·rw[if_pos c5]at H;have c5b0:=eq_true c5;have c5b1:decide (0≤(ji4))=true:=decide_eq_true c5;clear c5;by_cases c6:(ji4)≤(a0.size:Int)
   ·rw[if_pos c6]at H;have c6b0:=eq_true c6;have c6b1:decide ((ji4)≤(a0.size:Int))=true:=decide_eq_true c6;clear c6;obtain rfl:=Option.some.inj H;go_enter Tryz.func143,Tryz.ntmps143;go_wp2;go_ret;exact⟨by first |rfl |(simp;done) |(simp only[←hji4]<;>(first |rfl |simp)) |(simp[*];done),by repeat (first |exact AO.refl _ |apply AO.step)⟩
   ·rw[if_neg c6]at H;exact absurd H (by simp)
  ·rw[if_neg c5]at H;exact absurd H (by simp)
 ·rw[if_neg c3]at H;have c3b0:decide ((a1.size:Int)≤(a0.size:Int))=false:=decide_eq_false c3;have c3b1:decide (a1.size≤a0.size)=false:=decide_eq_false (fun h=>c3 (Int.ofNat_le.mpr h));clear c3;obtain rfl:=Option.some.inj H;go_enter Tryz.func143,Tryz.ntmps143;go_wp2;go_ret;exact⟨by first |rfl |(simp;done) |(simp[*];done),by repeat (first |exact AO.refl _ |apply AO.step)⟩
def BP.f(a0:ByteArray)(a1:ByteArray):Option (ByteArray×Bool):=(BG.f a0 a1).bind fun t220=>(if t220=true then (if 0≤(wrap64 ((a0.size:Int)-(a1.size:Int))) then (if (wrap64 ((a0.size:Int)-(a1.size:Int)))≤(a0.size:Int) then (some (a0.extract 0 ((wrap64 ((a0.size:Int)-(a1.size:Int))):Int).toNat,true)) else (none)) else (none)) else (some (a0,false)))
theorem BP.calls(a0:ByteArray)(a1:ByteArray)(r1:ByteArray)(r2:Bool)(w:World)(h:BP.f a0 a1=some (r1,r2)) :
  Calls Tryz.prog 120 #[.string a0,.string a1] w fun e w'=>e=.returned (.tuple #[.string r1,.bool r2])∧AO w w':=by
 have H:((BG.f a0 a1).bind fun t220=>(if t220=true then (if 0≤(wrap64 ((a0.size:Int)-(a1.size:Int))) then (if (wrap64 ((a0.size:Int)-(a1.size:Int)))≤(a0.size:Int) then (some (a0.extract 0 ((wrap64 ((a0.size:Int)-(a1.size:Int))):Int).toNat,true)) else (none)) else (none)) else (some (a0,false))))=some (r1,r2):=h;clear h;replace H:=Option.bind_eq_some_iff.mp H;obtain⟨t220,A30,H⟩:=H;replace H:(if t220=true then (if 0≤(wrap64 ((a0.size:Int)-(a1.size:Int))) then (if (wrap64 ((a0.size:Int)-(a1.size:Int)))≤(a0.size:Int) then (some (a0.extract 0 ((wrap64 ((a0.size:Int)-(a1.size:Int))):Int).toNat,true)) else (none)) else (none)) else (some (a0,false)))=some (r1,r2):=H;have A3:=Az A30;clear A30;by_cases c4:t220=true
 ·subst c4;have H1:(if 0≤(wrap64 ((a0.size:Int)-(a1.size:Int))) then (if (wrap64 ((a0.size:Int)-(a1.size:Int)))≤(a0.size:Int) then (some (a0.extract 0 ((wrap64 ((a0.size:Int)-(a1.size:Int))):Int).toNat,true)) else (none)) else (none))=some (r1,r2):=by rw[if_pos rfl]at H;exact H
  clear H;have H:=H1;clear H1;obtain⟨ji5,hji5⟩:∃ j_:Int,(wrap64 ((a0.size:Int)-(a1.size:Int)))=j_:=⟨_,rfl⟩
  replace H:(if 0≤(ji5) then (if (ji5)≤(a0.size:Int) then (some (a0.extract 0 ((ji5):Int).toNat,true)) else (none)) else (none))=some (r1,r2):=by first |(rw[hji5]at H;exact H) |(simp only[hji5]at H ⊢;exact H)
  (try rw[hji5]at A3)
  have hji5w:(IntKind.i64.wrap ((a0.size:Int)-(a1.size:Int)))=ji5:=(Eg _).trans hji5;by_cases c6:0≤(ji5)
  ·rw[if_pos c6]at H;have c6b0:=eq_true c6;have c6b1:decide (0≤(ji5))=true:=decide_eq_true c6;clear c6;by_cases c7:(ji5)≤(a0.size:Int)
   ·rw[if_pos c7]at H;have c7b0:=eq_true c7;have c7b1:decide ((ji5)≤(a0.size:Int))=true:=decide_eq_true c7;clear c7;simp only[Option.some.injEq,Prod.mk.injEq]at H;obtain⟨rfl,rfl⟩:=H;go_enter Tryz.func120,Tryz.ntmps120;go_wp2_with (first |((with_reducible refine KJ (f:=143) rfl ?_);refine NG (some 8) rfl rfl Tryz.func143 (by kernel_rfl) rfl #[.string a0,.string a1] rfl (by(try simp only[List.map_toArray,List.map_cons,List.map_nil]);first |done |rfl |(simp only[List.length_drop,List.length_take];rfl)) ?_;(with_reducible refine(BG.calls a0 a1 true _ A3.out).mono ?_);rintro e w' ⟨rfl,⟨nd,rfl⟩⟩;refine⟨_,rfl,?_⟩))
    go_ret2
    exact⟨by first |rfl |(simp;done) |(simp only[←hji5]<;>(first |rfl |simp)) |(simp[*];done),by repeat (first |exact AO.refl _ |apply AO.step)⟩
   ·rw[if_neg c7]at H;exact absurd H (by simp)
  ·rw[if_neg c6]at H;exact absurd H (by simp)
 ·replace c4:=Bool.eq_false_iff.mpr c4;subst c4;have H1:(some (a0,false))=some (r1,r2):=by rw[if_neg (show ¬(false=true) by decide)]at H;exact H
  clear H;have H:=H1;clear H1;simp only[Option.some.injEq,Prod.mk.injEq]at H;obtain⟨rfl,rfl⟩:=H;go_enter Tryz.func120,Tryz.ntmps120;go_wp2_with (first |((with_reducible refine KJ (f:=143) rfl ?_);refine NG (some 8) rfl rfl Tryz.func143 (by kernel_rfl) rfl #[.string a0,.string a1] rfl (by(try simp only[List.map_toArray,List.map_cons,List.map_nil]);first |done |rfl |(simp only[List.length_drop,List.length_take];rfl)) ?_;(with_reducible refine(BG.calls a0 a1 false _ A3.out).mono ?_);rintro e w' ⟨rfl,⟨nd,rfl⟩⟩;refine⟨_,rfl,?_⟩))
  go_ret2
  exact⟨by first |rfl |(simp;done) |(simp[*];done),by repeat (first |exact AO.refl _ |apply AO.step)⟩
def Da.f(a0:ByteArray)(a1:ByteArray):Option (ByteArray×Bool):=(BP.f a0 a1).bind fun bt221=>(some (bt221.1,bt221.2))
theorem Da.calls(a0:ByteArray)(a1:ByteArray)(r1:ByteArray)(r2:Bool)(w:World)(h:Da.f a0 a1=some (r1,r2)) :
  Calls Tryz.prog 96 #[.string a0,.string a1] w fun e w'=>e=.returned (.tuple #[.string r1,.bool r2])∧AO w w':=by
 have H:((BP.f a0 a1).bind fun bt221=>(some (bt221.1,bt221.2)))=some (r1,r2):=h;clear h;replace H:=Option.bind_eq_some_iff.mp H;obtain⟨⟨t221,t222⟩,A30,H⟩:=H;replace H:(some (t221,t222))=some (r1,r2):=H;have A3:=Az A30;clear A30;simp only[Option.some.injEq,Prod.mk.injEq]at H;obtain⟨rfl,rfl⟩:=H;go_enter Tryz.func96,Tryz.ntmps96;go_wp2_with (first |((with_reducible refine KJ (f:=120) rfl ?_);refine NG (some 8) rfl rfl Tryz.func120 (by kernel_rfl) rfl #[.string a0,.string a1] rfl (by(try simp only[List.map_toArray,List.map_cons,List.map_nil]);first |done |rfl |(simp only[List.length_drop,List.length_take];rfl)) ?_;(with_reducible refine(BP.calls a0 a1 t221 t222 _ A3.out).mono ?_);rintro e w' ⟨rfl,⟨nd,rfl⟩⟩;refine⟨_,rfl,?_⟩))
 go_ret2
 exact⟨by first |rfl |(simp;done) |(simp[*];done),by repeat (first |exact AO.refl _ |apply AO.step)⟩
end
section
open Go.RowKit Go.Proofs.YtjjpiefgdggghaaGreatDoorW.PrintWords Go.Shelf Go.Sort
theorem below_grow(w:World)(os:Array Obj):Below w.heap.size w (grow w os) :=
 ⟨rfl,rfl,rfl,by simp[grow],fun i hi=>by simp[grow,Array.getElem?_append,hi]⟩
theorem Kl{w w':World}(h:∃ k os,w'=grow (w.drewN k) os):Below w.heap.size w w':=by
 obtain⟨k,os,rfl⟩:=h;exact Lv (AJ (Below.refl w.heap.size w) k) (Nl _) (below_grow (w.drewN k) os)
theorem O5(u:Nat)(hu:u≤4294967295)(w:World)(he:Env w) :
  Calls Tryz.prog 188 #[.int .u64 u,.int .i64 10] w fun e w'=>e=.returned (.string ⟨(Lib.decDigits u).toArray⟩)∧Below w.heap.size w w':=by
 by_cases hs:u<100
 ·go_enter Tryz.func188,Tryz.ntmps188;go_wp2_with fail
  refine(Tryz.internal_strconv_small u hs _).mono ?_;rintro e w' ⟨rfl,rfl⟩;go_wp2;go_ret;exact⟨rfl,Below.refl _ _⟩
 ·have hu1:1≤u:=by omega
  have hu64:u<18446744073709551616:=by omega
  have hnd20:Lib.nDigits u≤20:=by have:=Lib.numDigits_eq u hu1 hu64;split at this<;>omega
  have hb3:Lib.nDigits u≤23:=by omega
  have hal:Tryz.prog.arrayLen 189=24:=by kernel_rfl
  have hsl1:∀ W,(Instr.sliceAt 189 (.pointer (some ⟨w.heap.size,0,none⟩)) none (some (.int .i64 (Lib.nDigits u:Int))) none).run Tryz.prog W=.ok (.slice (some ⟨w.heap.size,0,none⟩) (Lib.nDigits u) 24) W:=fun W=>by
   rw[run_sliceAt_array_h W 189 ⟨w.heap.size,0,none⟩ (by kernel_rfl) .i64 (Lib.nDigits u:Int) (by omega) (by rw[hal];omega)];go_simp
  have hH0:=Lib.holds_zero0 w 189 (Lib.nDigits u) (by omega);have hfmt:=Tryz.internal_strconv_formatBase10 w.heap.size 0 24 u (Array.replicate (Lib.nDigits u) 0) (w.alloc (.cells Lib.zeros24 189)) hH0 (by rw[Array.size_replicate];exact Lib.lt_pow_nDigits u) hu64 (by rw[Array.size_replicate];omega);rw[Array.size_replicate]at hfmt;have HH0:=Lib.hid hH0;have htab:=Lib.hid he.tab;clear hH0 hal he;go_enter Tryz.func188,Tryz.ntmps188;go_wp2_with fail
  refine(Tryz.internal_strconv_numDigits u hu1 hu64 _ (Lib.tabIs_alloc htab.out _)).mono ?_;rintro e w' ⟨rfl,rfl⟩;go_wp2_with fail
  refine hfmt.mono ?_;rintro e w' ⟨rfl,k,v',dk,rfl,hF⟩;have hcv:(convert 142 9 (.slice (some ⟨w.heap.size,0,none⟩) (Lib.nDigits u) 24)).run Tryz.prog ((putRow (fun(b:UInt8)=>Value.int .u8 (b.toNat:Int)) (w.alloc (.cells Lib.zeros24 189)) w.heap.size 0 dk).drewN k)=.ok (.string ⟨(Lib.decDigits u).toArray⟩) ((putRow (fun(b:UInt8)=>Value.int .u8 (b.toNat:Int)) (w.alloc (.cells Lib.zeros24 189)) w.heap.size 0 dk).drewN k):=by
   have h:=run_convert_bytes_back (P:=Tryz.prog) ((putRow (fun(b:UInt8)=>Value.int .u8 (b.toNat:Int)) (w.alloc (.cells Lib.zeros24 189)) w.heap.size 0 dk).drewN k) 142 9 5 ⟨w.heap.size,0,none⟩ 24 (Lib.decDigits u) Tryz.underlying142 Tryz.underlying5 Tryz.underlying9 (fun j hj=>by
    rw[Lib.row_is_numeral hF j hj,Lib.add_plain,World.cell?_drewN];exact cell?_putRow (fun(b:UInt8)=>Value.int .u8 (b.toNat:Int)) _ w.heap.size 0 _ dk HH0.out (by rw[hF.size,Array.size_replicate]) j (by rw[hF.size];rw[Lib.decDigits_length]at hj;exact hj))
   rw[Lib.decDigits_length]at h;exact h
  go_wp2;go_ret;refine⟨rfl,?_⟩;rw[alloc_eq_grow];obtain⟨os',_,eo⟩:=putRow_grow_new (fun(b:UInt8)=>Value.int .u8 (b.toNat:Int)) w #[.cells Lib.zeros24 189] w.heap.size 0 dk (Nl _);rw[eo];exact Kl ⟨k,os',rfl⟩
theorem O1(u:Nat)(hu:u≤4294967295)(w:World)(he:Env w) :
  Calls Tryz.prog 181 #[.int .u64 u,.int .i64 10] w fun e w'=>e=.returned (.string ⟨(Lib.decDigits u).toArray⟩)∧Below w.heap.size w w':=by
 go_enter Tryz.func181,Tryz.ntmps181;go_wp2_with fail
 refine(O5 u hu _ he).mono ?_;rintro e w' ⟨rfl,hb⟩;go_wp2;go_ret;exact⟨rfl,hb⟩
theorem LH(n:Int)(h0:0≤n)(h1:n≤9223372036854775807)(w:World)(he:Env w) :
  Calls Tryz.prog 48 #[.int .i64 n] w fun e w'=>e=.returned (.string ⟨(Lib.decDigits n.toNat).toArray⟩)∧Below w.heap.size w w':=by
 refine(Tryz.strconv_Itoa n (by omega) h1 w he.tab).mono ?_;rintro e w' ⟨rfl,hg⟩;refine⟨?_,Kl hg⟩;unfold Lib.itoa;rw[if_neg (by omega)]
theorem D9(u:Nat)(hu64:u<18446744073709551616):(Lib.decDigits u).length≤20:=by
 rw[Lib.decDigits_length];by_cases hu1:1≤u
 ·have:=Lib.numDigits_eq u hu1 hu64;split at this<;>omega
 ·obtain rfl:u=0:=by omega
  rw[Lib.nDigits_small (by omega)];omega
end
end Go.Proofs.YtjjpiefgdggghaaGreatDoor
