/- Parts: Env, RegionLate, TracePlain, TrIs. -/
import Derived.Test.YtnmahobjmpdkdaaGreatDoorG02
import Derived.Lib.Strings
import Derived.Maps.AppendAt
import Derived.OrdersHeld
import Derived.Deep.RegionHeld3
set_option linter.unusedVariables false
set_option linter.unusedSimpArgs false
set_option maxRecDepth 100000
set_option maxHeartbeats 40000000
namespace Go.Proofs.YtnmahobjmpdkdaaGreatDoor
section
open Go.RowKit Go.Proofs.YtnmahobjmpdkdaaGreatDoorW.PrintWords
structure Env (w:World):Prop where
 shaped:w.ShapedOpen Tryz.prog
 tab:Lib.TabIs Tryz.prog w "internal/strconv.uint64pow10" .u64 Lib.pow10Tab
 syn:∃ tp p,w.var? Tryz.prog "strconv.ErrSyntax" = some #[.iface tp p]
 rng:∃ tp p,w.var? Tryz.prog "strconv.ErrRange" = some #[.iface tp p]
theorem LJ{P:Program}{w w':World}{n:String}{cs:Array Value}(hb:Below w.heap.size w w')(h:w.var? P n=some cs):w'.var? P n=some cs:=by
 unfold World.var? at h ⊢;cases hg:P.globalNamed n with
 |none=>rw[hg]at h;cases h
 |some g =>
  rw[hg]at h;simp only[Option.bind_some]at h ⊢;have hlt:g<w.heap.size:=by
   cases hh:w.heap[g]? with
   |none=>rw[hh]at h;cases h
   |some o=>exact Bl hh
  rw[hb.block g hlt];exact h
theorem Env.below{w w':World}(h:Env w)(hb:Below w.heap.size w w'):Env w' :=
 ⟨h.shaped.keptBut (hb.frame (fun _=>False)) (fun _ x=>x.elim),LJ hb h.tab,h.syn.imp fun _ x=>x.imp fun _ y=>LJ hb y,h.rng.imp fun _ x=>x.imp fun _ y=>LJ hb y⟩
end
section
open Go.RowKit
theorem toList_mk(l:List UInt8):(⟨l.toArray⟩:ByteArray).toList=l:=by rw[ByteArray.toList_eq]
theorem Ea(l:List UInt8)(a b:Nat):(⟨l.toArray⟩:ByteArray).extract a b=⟨((l.drop a).take (b-a)).toArray⟩:=by
 have h:=Lib.extract_data ⟨l.toArray⟩ a b;have e:∀ x:ByteArray,x=⟨x.data.toList.toArray⟩:=fun x=>by cases x;simp
 rw[e (ByteArray.extract _ _ _),h]
theorem BJ{s:ByteArray}{l':List UInt8}(h:s=⟨l'.toArray⟩):Ending.returned (.string s)=.returned (.string ⟨l'.toArray⟩):=by rw[h]
theorem Sk{k:IntKind}{a b:Int}(h:a=b):Ending.returned (.int k a)=.returned (.int k b):=by rw[h]
theorem BV(a b:List UInt8):(⟨a.toArray⟩:ByteArray)++⟨b.toArray⟩=⟨(a++b).toArray⟩:=by
 have e:∀ x:ByteArray,x=⟨x.data.toList.toArray⟩:=fun x=>by cases x;simp
 rw[e (HAppend.hAppend _ _),ByteArray.data_append];simp
end
section
open Go.RowKit Go.Proofs.YtnmahobjmpdkdaaGreatDoorW.PrintWords
def BZ(w:World)(g:Nat)(e:TypeId)(l:List UInt8):Prop :=
 ∃ cs fr,w.heap[g]?=some (.cells cs e fr)∧∀ j,j<l.length→w.cell? ⟨g,j,none⟩=some (.int .u8 ((l.getD j 0).toNat:Int))
theorem LK(W:World)(e:TypeId)(s:ByteArray):∃ cs fr,(Lib.bytesWorld W e s).heap[W.heap.size]?=some (.cells cs e fr):=by
 unfold Lib.bytesWorld World.freeze;have h:(W.drew.alloc (.cells (Lib.bytesCells W e s) e)).heap[W.heap.size]?=some (.cells (Lib.bytesCells W e s) e):=(MapKept.heap_alloc W.drew (.cells (Lib.bytesCells W e s) e)).1;simp only[Nat.one_ne_zero,if_false,Array.getElem?_modify,if_true,h,Option.map_some];exact⟨_,_,rfl⟩
theorem BZ.new(W:World)(e:TypeId)(l:List UInt8)(g:Nat)(hg:W.heap.size=g)(hs:l.length≤9223372036854775807):BZ (Lib.bytesWorld W e ⟨l.toArray⟩) g e l:=by
 obtain⟨cs,fr,h⟩:=LK W e ⟨l.toArray⟩;refine⟨cs,fr,by rw[←hg];exact h,fun j hj=>?_⟩;exact L0 (IL W e l g hg hs) j hj
theorem BZ.Rq{w w':World}{g:Nat}{e:TypeId}{l:List UInt8}(h:BZ w g e l)(hk:w'.heap[g]?=w.heap[g]?):BZ w' g e l:=by
 obtain⟨cs,fr,h1,h2⟩:=h;exact⟨cs,fr,hk.trans h1,fun j hj=>(World.cell?_of_block (w:=w) (a:=⟨g,j,none⟩) hk).trans (h2 j hj)⟩
theorem BZ.lt{w:World}{g:Nat}{e:TypeId}{l:List UInt8}(h:BZ w g e l):g<w.heap.size:=by
 obtain⟨cs,fr,h1,_⟩:=h;exact Bl h1
theorem BZ.keep{w w':World}{g:Nat}{e:TypeId}{l:List UInt8}(h:BZ w g e l)(hb:Below w.heap.size w w'):BZ w' g e l :=
 h.Rq (hb.block g h.lt)
theorem BZ.grown{w w':World}{g:Nat}{e:TypeId}{l:List UInt8}{row:Option Nat}(h:BZ w g e l)(hg:w.grownBy w' row)(hne:some g≠row):BZ w' g e l :=
 h.Rq (hg.block g h.lt hne)
theorem BZ.set{w:World}{g:Nat}{e:TypeId}{l:List UInt8}(h:BZ w g e l){p:Addr}(hp:g≠p.block)(v:Value):BZ (w.setCell p v) g e l :=
 h.Rq (Below.heap_setCell w p v g hp)
theorem Oa{w:World}{base:Nat}{e t:TypeId}{size n g:Nat}{v:Value}{xs:List Value}{cs:Array Value}{fr:Nat×Nat}(h:w.ownsRow base e size v n xs)(hg:w.heap[g]?=some (.cells cs t fr))(hne:e≠t):some g≠v.ownBlock:=by
 intro he;obtain⟨_,h⟩:=h;rcases h with ⟨rfl,_⟩ |⟨g',cap,cur,rfl,_,hh,_⟩
 ·cases he
 ·have:g=g':=by simpa [Value.ownBlock]using he
  subst this;rw[hg]at hh;cases hh;exact hne rfl
theorem BZ.own{w:World}{base:Nat}{e t:TypeId}{size n g:Nat}{v:Value}{xs:List Value}{l:List UInt8}(hb:BZ w g t l)(h:w.ownsRow base e size v n xs)(hne:e≠t):some g≠v.ownBlock:=by
 obtain⟨cs,fr,h1,_⟩:=hb;exact Oa h h1 hne
theorem EA:(Tryz.prog.info? 3).map (fun i=>(i.zero,i.size,i.bytes))=some (some (.int .i64 0),1,8):=by kernel_rfl
def Bo(W:World)(base:Nat)(v:Value)(xs:List Int):Prop:=W.ownsRow base 3 1 v xs.length (xs.map (Value.int .i64))
theorem Bo.nil(W:World)(base:Nat):Bo W base (.slice none 0 0) []:=⟨rfl,.inl ⟨rfl,rfl⟩⟩
theorem Bo.cell{W:World}{base:Nat}{v:Value}{xs:List Int}(h:Bo W base v xs)(hn:0<xs.length) :
  ∃ g c,v=.slice (some ⟨g,0,none⟩) xs.length c∧xs.length≤c∧∀ j,j<xs.length→W.cell? ⟨g,j,none⟩=some (.int .i64 (xs.getD j 0)):=by
 obtain⟨h1,h2⟩:=h;rcases h2 with ⟨rfl,h0⟩ |⟨g,cap,cur,rfl,hg,hh,hc,hm,hs,ht⟩
 ·omega
 ·refine⟨g,cap,rfl,hc,fun j hj=>(Bc hh j).trans ?_⟩;have e:(cur.toList.take (xs.length*1))[j]?=(xs.map (Value.int .i64))[j]?:=by rw[ht]
  rw[List.getElem?_take_of_lt (by omega),Array.getElem?_toList]at e;rw[e];simp[List.getElem?_eq_getElem hj,List.getD_eq_getElem?_getD]
theorem Bo.slice{W:World}{base:Nat}{v:Value}{xs:List Int}(h:Bo W base v xs):∃ A c,v=.slice A xs.length c:=by
 rcases h.2 with ⟨rfl,h0⟩ |⟨g,cap,cur,rfl,_⟩
 ·exact⟨none,0,by rw[h0]⟩
 ·exact⟨_,_,rfl⟩
theorem Bo.move{W W1:World}{base:Nat}{v:Value}{xs:List Int}(h:Bo W base v xs)(hm:∀ k,v.ownBlock=some k→W1.heap[k]?=W.heap[k]?):Bo W1 base v xs:=Om h hm
theorem Bo.keep{W W1:World}{base:Nat}{v:Value}{xs:List Int}(h:Bo W base v xs)(hb:Below W.heap.size W W1):Bo W1 base v xs :=
 h.move fun k hk=>hb.block k (Ol h k hk)
structure EB (W:World) (base:Nat) (v:Value) (xs:List Int) (u:Value) (ys:List Int):Prop where
 a:Bo W base v xs
 b:Bo W base u ys
 ap:∀ k,v.ownBlock=some k→u.ownBlock≠some k
section
variable {W W1:World} {base:Nat} {v u:Value} {xs ys:List Int}
theorem EB.nil(W:World)(base:Nat):EB W base (.slice none 0 0) [] (.slice none 0 0) []:=⟨.nil _ _,.nil _ _,fun k hk=>by simp[Value.ownBlock]at hk⟩
theorem EB.keep(h:EB W base v xs u ys)(hb:Below W.heap.size W W1):EB W1 base v xs u ys:=⟨h.a.keep hb,h.b.keep hb,h.ap⟩
theorem EB.swap(h:EB W base v xs u ys):EB W base u ys v xs:=⟨h.b,h.a,fun k hk e=>h.ap k e hk⟩
theorem EB.set{p:Addr}{cs:Array Value}{t:TypeId}(h:EB W base v xs u ys)(hp:W.heap[p.block]?=some (.cells cs t (0,0)))(ht:3≠t)(x:Value):EB (W.setCell p x) base v xs u ys :=
 ⟨h.a.move fun k hk=>Below.heap_setCell W p x k (fun e=>Oa h.a hp ht (by rw[hk,e])),h.b.move fun k hk=>Below.heap_setCell W p x k (fun e=>Oa h.b hp ht (by rw[hk,e])),h.ap⟩
end
section
variable {ops:Array Oper} {rest:List Oper} {o:Oper} {a:Act} {Q:Exit→Act→World→Prop} {W:World}
theorem NU(hgd:o.guard=none)(s x:Operand)(ho:o.op=.call {callee:=.builtin .append,args:=#[s,x],argTypes:=#[27,27]})
  (base g:Nat)(y:Int)(v:Value)(xs:List Int)(hs:a.eval s=v)(hr:Bo W base v xs)(hx:a.eval x=.slice (some ⟨g,0,none⟩) 1 1)
  (hy:W.heap[g]?=some (.cells #[.int .i64 y] 3 (0,0)))(hl:xs.length≤1000000)(hb:base≤W.heap.size)
  (h:∀ v' W1,Bo W1 base v' (xs++[y])→W.grownBy W1 v.ownBlock→(v'.ownBlock=v.ownBlock∨v'.ownBlock=some W.heap.size)→wpList Tryz.prog ops Q rest (a.put o.dst v') W1) :
  wpList Tryz.prog ops Q (o::rest) a W:=by
 obtain⟨i9,hi,hz0,hz1,hz2⟩:=info_parts EA;refine wpList_append_own_at _ hgd s x 27 ho base 3 i9 (.int .i64 0) 1 8 Tryz.underlying27 hi hz0 hz1 hz2 rfl (by decide) v xs.length (xs.map (Value.int .i64)) hs hr ⟨g,0,none⟩ 1 1 [.int .i64 y] hx rfl ?_ ?_ ?_ ?_ hb ?_
 ·intro j u hj;rw[add_plain];exact(Bc hy j).trans (by simpa using hj)
 ·simp[Value.oneCell']
 ·simp[maxLen];omega
 ·omega
 ·intro v' w' h1 h2 _ h4;refine h v' w' ?_ h2 h4;unfold Bo;rw[List.map_append,List.length_append];exact h1
theorem KE(hgd:o.guard=none)(s x:Operand)(ho:o.op=.call {callee:=.builtin .append,args:=#[s,x],argTypes:=#[27,27]})
  (base g:Nat)(y:Int)(v u:Value)(xs ys:List Int)(hs:a.eval s=v)(hr:EB W base v xs u ys)(hx:a.eval x=.slice (some ⟨g,0,none⟩) 1 1)
  (hy:W.heap[g]?=some (.cells #[.int .i64 y] 3 (0,0)))(hl:xs.length≤1000000)(hb:base≤W.heap.size)
  (h:∀ v' W1,EB W1 base v' (xs++[y]) u ys→W.grownBy W1 v.ownBlock→wpList Tryz.prog ops Q rest (a.put o.dst v') W1) :
  wpList Tryz.prog ops Q (o::rest) a W:=by
 refine NU hgd s x ho base g y v xs hs hr.a hx hy hl hb fun v' W1 h1 h2 h3=>h v' W1 ⟨h1,hr.b.move fun k hk=>h2.block k (Ol hr.b k hk) (fun e=>hr.ap k e.symm hk),fun k hk e=>?_⟩ h2
 rcases h3 with h3 |h3
 ·exact hr.ap k (by rw[←h3];exact hk) e
 ·rw[h3]at hk;cases hk;exact absurd (Ol hr.b _ e) (Nat.lt_irrefl _)
end
end
end Go.Proofs.YtnmahobjmpdkdaaGreatDoor
namespace Go
section
section
variable {P:Program} {ops:Array Oper} {Q:Exit→Act→World→Prop} {md:Region.Mode} {S:World→Prop} {D:List Nat}
def DM(D:List Nat)(listed:Array Bool):Bool:=D.all fun d=>!listed.getD d false
def Dx(md:Region.Mode)(ops:Array Oper)(i:Nat):Nat→Nat→Bool
 |0,d=>d==i
 |n+1,d=>d==i||((ops[d]?).map (·.after.any fun e=>Region.binds md e&&Dx md ops i n e.on)).getD false
def Je(md:Region.Mode)(ops:Array Oper)(listed:Array Bool):Bool :=
 (List.range ops.size).all fun j=>!listed.getD j false||((ops[j]?).map (·.after.all fun e=>!Region.binds md e||listed.getD e.on false)).getD false
def Fv(md:Region.Mode)(ops:Array Oper)(listed:Array Bool):Prop :=
 ∀ j o,ops[j]?=some o→listed.getD j false=true→∀ e∈o.after,Region.binds md e=true→listed.getD e.on false=true
theorem MD{listed:Array Bool}(h:Je md ops listed=true):Fv md ops listed:=by
 intro j o ho hj e he hb;unfold Je at h;rw[List.all_eq_true]at h;have h1:=h j (List.mem_range.2 (Array.getElem?_eq_some_iff.1 ho).1);rw[hj,ho]at h1;have h2:(o.after.all fun e=>!Region.binds md e||listed.getD e.on false)=true:=by simpa using h1
 have h3:=Array.all_eq_true_iff_forall_mem.1 h2 e he;rw[hb]at h3
 simpa using h3
theorem Fv.step{listed:Array Bool}{i:Nat}(h:Fv md ops listed)(hr:i∈Region.ready md ops listed):Fv md ops (listed.setIfInBounds i true):=by
 intro j o ho hj e he hb;obtain⟨_,oi,hoi,hall⟩:=mem_ready.1 hr;by_cases hij:i=j
 ·subst hij;rw[hoi]at ho;cases ho;exact getD_set_true (hall e he hb)
 ·rw[getD_set_ne false hij]at hj;exact getD_set_true (h j o ho hj e he hb)
theorem Gf{listed:Array Bool}{i:Nat}(h:Fv md ops listed):∀ n d,Dx md ops i n d=true→listed.getD d false=true→listed.getD i false=true
 |0,d,hw,hd=>by
  have:d=i:=by simpa [Dx]using hw
  subst this;exact hd
 |n+1,d,hw,hd=>by
  unfold Dx at hw;rcases Bool.or_eq_true ..▸hw with h1 |h1
  ·have:d=i:=by simpa using h1
   subst this;exact hd
  ·cases ho:ops[d]? with
   |none=>rw[ho]at h1;simp at h1
   |some o =>
    rw[ho]at h1;have h2:(o.after.any fun e=>Region.binds md e&&Dx md ops i n e.on)=true:=by simpa using h1
    obtain⟨e,he,hb⟩:=Array.any_eq_true'.1 h2;rw[Bool.and_eq_true]at hb;exact Gf h n e.on hb.2 (h d o ho hd e he hb.1)
theorem LN{listed:Array Bool}{i:Nat}(h:Fv md ops listed)(hi:listed.getD i false=false)(n d:Nat)(hw:Dx md ops i n d=true)(hne:d≠i) :
  d∉Region.ready md ops listed:=fun hr=>by
 obtain⟨_,o,ho,hall⟩:=mem_ready.1 hr;cases n with
 |zero=>exact hne (by simpa [Dx]using hw)
 |succ n =>
  unfold Dx at hw;rcases Bool.or_eq_true ..▸hw with h1 |h1
  ·exact hne (by simpa using h1)
  ·rw[ho]at h1;have h2:(o.after.any fun e=>Region.binds md e&&Dx md ops i n e.on)=true:=by simpa using h1
   obtain⟨e,he,hb⟩:=Array.any_eq_true'.1 h2;rw[Bool.and_eq_true]at hb;have:=Gf h n e.on hb.2 (hall e he hb.1);rw[hi]at this;cases this
def Dv(P:Program)(md:Region.Mode)(ops:Array Oper)(Q:Exit→Act→World→Prop)(S:World→Prop)(D:List Nat):Nat→Array Bool→Act→World→Prop
 |0,listed,a,w=>Region.ready md ops listed=[]∧Q .normal a w
 |fuel+1,listed,a,w =>
  (Region.ready md ops listed=[]→Q .normal a w) ∧
  ∀ i∈Region.ready md ops listed,wpOp P ops Q i (fun a' w'=>(DM D (listed.setIfInBounds i true)=true→S w')∧Dv P md ops Q S D fuel (listed.setIfInBounds i true) a' w') a w
theorem HW:∀ (fuel:Nat) (listed:Array Bool) (a:Act) (w:World),Dv P md ops Q S D fuel listed a w→wpAny P md ops Q fuel listed a w
 |0,_,_,_,h=>h
 |fuel+1,_,_,_,h=>⟨h.1,fun i hi=>wpOp_mono (fun a' w' h'=>HW fuel _ a' w' h'.2) (h.2 i hi)⟩
theorem Hu{listed:Array Bool}{i:Nat}(hr:i∈Region.ready md ops listed):listed.getD i false=false:=by
 have h0:=(mem_ready.1 hr).1;rcases Nat.lt_or_ge i listed.size with h' |h'
 ·simp[h']at h0 ⊢;exact h0
 ·simp[Array.getElem?_eq_none h']at h0
theorem I1{listed:Array Bool}{i:Nat}(hi:i∉D)(h:DM D listed=true):DM D (listed.setIfInBounds i true)=true:=by
 unfold DM at *;rw[List.all_eq_true]at *;intro d hd;rw[getD_set_ne false (fun e:i=d=>hi (by rw[e];exact hd))];exact h d hd
theorem O2{i:Nat}{oi:Oper}{v:Value}(hi:ops[i]?=some oi)(hsel:∀ (j:Nat) (o:Oper) cs b,ops[j]?=some o→o.op≠.select cs b)
  (hQ:∀ c a w,Q (.panic c) (a.put oi.dst v) w→Q (.panic c) a w)(hD:∀ d∈D,d≠i∧Dx md ops i ops.size d=true) :
  ∀ (fuel:Nat) (listed:Array Bool) (a:Act) (w:World),
   (∀ j oj,ops[j]?=some oj→j≠i→listed.getD j true=false→(∀ e∈oj.after,Region.binds md e=true→e.on≠i)→oi.apart ops oj=true) →
   Fv md ops listed→i∈Region.ready md ops listed→YieldsIf P ops S oi v a→S w →
   Dv P md ops Q S D fuel (listed.setIfInBounds i true) (a.put oi.dst v) w→Dv P md ops Q S D (fuel+1) listed a w:=by
 intro fuel;induction fuel with
 |zero =>
  intro listed a w _ hsd hr hy hS H;refine⟨fun h=>(by rw[h]at hr;cases hr),fun j hj=>?_⟩;by_cases hji:j=i
  ·subst hji;exact hy.wpOp hi hS ⟨fun _=>hS,H⟩
  ·have:=ready_mono hj hji;rw[H.1]at this;cases this
 |succ fuel ih =>
  intro listed a w hfree hsd hr hy hS H;refine⟨fun h=>(by rw[h]at hr;cases hr),fun j hj=>?_⟩;by_cases hji:j=i
  ·subst hji;exact hy.wpOp hi hS ⟨fun _=>hS,H⟩
  ·have h1:=H.2 j (ready_mono hj hji);obtain⟨hjun,oj,hoj,hall⟩:=mem_ready.1 hj;have hnot:∀ e∈oj.after,Region.binds md e=true→e.on≠i:=fun e he hb heq=>by
    have h1:=hall e he hb;rw[heq,Hu hr]at h1;cases h1
   have h2:=wpOp_putIf hoj (hfree j oj hoj hji hjun hnot) (fun cs b=>hsel i oi cs b hi) (fun cs b=>hsel j oj cs b hoj) hQ hy h1;have hfree':∀ k ok,ops[k]?=some ok→k≠i→(listed.setIfInBounds j true).getD k true=false →
     (∀ e∈ok.after,Region.binds md e=true→e.on≠i)→oi.apart ops ok=true:=fun k ok hk hki hun hno=>by
    refine hfree k ok hk hki ?_ hno;by_cases hjk:j=k
    ·subst hjk;exact hjun
    ·rw[getD_set_ne true hjk]at hun;exact hun
   have hun:=Hu hr;have hjD:j∉D:=fun hd=>LN hsd hun _ j (hD j hd).2 hji hj
   have hiD:i∉D:=fun hd=>(hD i hd).1 rfl
   have hnl:DM D listed=true:=by
    unfold DM;rw[List.all_eq_true];intro d hd;cases hc:listed.getD d false with
    |false=>rfl
    |true =>
     have:=Gf hsd _ d (hD d hd).2 hc;rw[hun]at this;cases this
   refine wpOp_mono (fun a' w' h3=>?_) h2;have hS':S w':=h3.2.1 (I1 hjD (I1 hiD hnl));refine⟨fun _=>hS',ih (listed.setIfInBounds j true) a' w' hfree' (hsd.step hj) (ready_mono hr (Ne.symm hji)) h3.1 hS' ?_⟩;rw[Array.setIfInBounds_comm _ _ hji];exact h3.2.2
theorem Db{i:Nat}{oi:Oper}{v:Value}{fuel:Nat}{listed:Array Bool}{a:Act}{w:World}(hi:ops[i]?=some oi)
  (hs:(Region.noSelect ops&&Region.free md ops listed i&&(Region.ready md ops listed).contains i&&Je md ops listed&&D.all (fun d=>d != i&&Dx md ops i ops.size d))=true)
  (hQ:∀ c a w,Q (.panic c) (a.put oi.dst v) w→Q (.panic c) a w)(hy:YieldsIf P ops S oi v a)(hS:S w)
  (h:Dv P md ops Q S D fuel (listed.setIfInBounds i true) (a.put oi.dst v) w):Dv P md ops Q S D (fuel+1) listed a w:=by
 simp only[Bool.and_eq_true]at hs;obtain⟨⟨⟨⟨h1,h2⟩,h3⟩,h4⟩,h5⟩:=hs;refine O2 hi (Region.noSelect_spec h1) hQ (fun d hd=>?_) fuel listed a w (Region.free_spec hi h2) (MD h4) (by simpa using h3) hy hS h;have:=List.all_eq_true.1 h5 d hd
 simpa using this
theorem ME{i:Nat}{oi:Oper}{v:Value}(hi:ops[i]?=some oi)(hsel:∀ (j:Nat) (o:Oper) cs b,ops[j]?=some o→o.op≠.select cs b)
  (hQ:∀ c a w,Q (.panic c) (a.put oi.dst v) w→Q (.panic c) a w)(hiD:i∉D) :
  ∀ (fuel:Nat) (listed:Array Bool) (a:Act) (w:World),
   (∀ j oj,ops[j]?=some oj→j≠i→listed.getD j true=false→(∀ e∈oj.after,Region.binds md e=true→e.on≠i)→oi.apart ops oj=true) →
   i∈Region.ready md ops listed→Yields P ops oi v a→(DM D listed=true→S w) →
   Dv P md ops Q S D fuel (listed.setIfInBounds i true) (a.put oi.dst v) w→Dv P md ops Q S D (fuel+1) listed a w:=by
 have back:∀ {listed:Array Bool},DM D (listed.setIfInBounds i true)=true→DM D listed=true:=fun {listed} h=>by
  unfold DM at *;rw[List.all_eq_true]at *;intro d hd;have h1:=h d hd
  rwa [getD_set_ne false (fun e:i=d=>hiD (by rw[e];exact hd))]at h1
 intro fuel;induction fuel with
 |zero =>
  intro listed a w _ hr hy hS H;refine⟨fun h=>(by rw[h]at hr;cases hr),fun j hj=>?_⟩;by_cases hji:j=i
  ·subst hji;exact hy.wpOp hi ⟨fun h=>hS (back h),H⟩
  ·have:=ready_mono hj hji;rw[H.1]at this;cases this
 |succ fuel ih =>
  intro listed a w hfree hr hy hS H;refine⟨fun h=>(by rw[h]at hr;cases hr),fun j hj=>?_⟩;by_cases hji:j=i
  ·subst hji;exact hy.wpOp hi ⟨fun h=>hS (back h),H⟩
  ·have h1:=H.2 j (ready_mono hj hji);obtain⟨hjun,oj,hoj,hall⟩:=mem_ready.1 hj;have hnot:∀ e∈oj.after,Region.binds md e=true→e.on≠i:=fun e he hb heq=>by
    have h1:=hall e he hb;rw[heq,Hu hr]at h1;cases h1
   have h2:=wpOp_put hoj (hfree j oj hoj hji hjun hnot) (fun cs b=>hsel i oi cs b hi) (fun cs b=>hsel j oj cs b hoj) hQ hy h1;have hfree':∀ k ok,ops[k]?=some ok→k≠i→(listed.setIfInBounds j true).getD k true=false →
     (∀ e∈ok.after,Region.binds md e=true→e.on≠i)→oi.apart ops ok=true:=fun k ok hk hki hun hno=>by
    refine hfree k ok hk hki ?_ hno;by_cases hjk:j=k
    ·subst hjk;exact hjun
    ·rw[getD_set_ne true hjk]at hun;exact hun
   refine wpOp_mono (fun a' w' h3=>?_) h2;have hS':DM D (listed.setIfInBounds j true)=true→S w':=fun h=>h3.2.1 (by rw[Array.setIfInBounds_comm _ _ (Ne.symm hji)];exact I1 hiD h)
   refine⟨hS',ih (listed.setIfInBounds j true) a' w' hfree' (ready_mono hr (Ne.symm hji)) h3.1 hS' ?_⟩;rw[Array.setIfInBounds_comm _ _ hji];exact h3.2.2
theorem AM{i:Nat}{oi:Oper}{v:Value}{fuel:Nat}{listed:Array Bool}{a:Act}{w:World}(hi:ops[i]?=some oi)
  (hs:(Region.noSelect ops&&Region.free md ops listed i&&(Region.ready md ops listed).contains i&&!D.contains i)=true)
  (hQ:∀ c a w,Q (.panic c) (a.put oi.dst v) w→Q (.panic c) a w)(hy:Yields P ops oi v a)(hS:DM D listed=true→S w)
  (h:Dv P md ops Q S D fuel (listed.setIfInBounds i true) (a.put oi.dst v) w):Dv P md ops Q S D (fuel+1) listed a w:=by
 simp only[Bool.and_eq_true]at hs;obtain⟨⟨⟨h1,h2⟩,h3⟩,h4⟩:=hs;exact ME hi (Region.noSelect_spec h1) hQ (by simpa using h4) fuel listed a w (Region.free_spec hi h2) (by simpa using h3) hy hS h
def Aa(P:Program)(md:Region.Mode)(ops:Array Oper)(Q:Exit→Act→World→Prop)(S:World→Prop)(D:List Nat)(fuel:Nat)(listed:Array Bool)(a:Act)(w:World)(rs:List Nat):Prop :=
 ∀ i∈rs,wpOp P ops Q i (fun a' w'=>(DM D (listed.setIfInBounds i true)=true→S w')∧Dv P md ops Q S D fuel (listed.setIfInBounds i true) a' w') a w
theorem Aa.nil{fuel:Nat}{listed:Array Bool}{a:Act}{w:World}:Aa P md ops Q S D fuel listed a w []:=fun _ h=>by cases h
theorem Aa.cons{fuel:Nat}{listed:Array Bool}{a:Act}{w:World}{i:Nat}{o:Oper}{rs:List Nat}(ho:ops[i]?=some o)
  (h:∀ K':Act→World→Prop,Shut (∀ a w,(DM D (listed.setIfInBounds i true)=true→S w)→((DM D (listed.setIfInBounds i true)=true→S w)→Dv P md ops Q S D fuel (listed.setIfInBounds i true) a w)→K' a w)→if Region.wanted o (yielded ops a.tmps)=true then Oper.wp P o a w K' Q else K' (a.put o.dst undef) w)
  (hs:Aa P md ops Q S D fuel listed a w rs):Aa P md ops Q S D fuel listed a w (i::rs):=fun j hj=>by
 rcases List.mem_cons.1 hj with rfl |hj
 ·exact wpOp_step ho (fun K' hK=>h K' (fun a w hS hW=>hK a w ⟨hS,hW hS⟩))
 ·exact hs j hj
theorem Ab{rs:List Nat}{fuel:Nat}{listed:Array Bool}{a:Act}{w:World}(hr:Region.ready md ops listed=rs)(hne:rs≠[])
 (h:Aa P md ops Q S D fuel listed a w rs):Dv P md ops Q S D (fuel+1) listed a w:=⟨fun h0=>absurd (hr▸h0) hne,hr▸h⟩
theorem A4{listed:Array Bool}{a:Act}{w:World}(hr:Region.ready md ops listed=[])(h:Q .normal a w) :
  ∀ fuel,Dv P md ops Q S D fuel listed a w
 |0=>⟨hr,h⟩
 |_+1=>⟨fun _=>h,by rw[hr];simp⟩
theorem Aw{id:Nat}{a:Act}{w:World}(D:List Nat)(hm:P.follows .mixedOrders=true)(hS:S w.drew)
  (h:S w.drew→Dv P .any ops Q S D ops.size (Array.replicate ops.size false) a w.drew):(Code.region id ops true).wp P Q a w :=
 wp_region_any hm (HW _ _ _ _ (h hS))
end
end
end Go
namespace Go.Proofs.YtnmahobjmpdkdaaGreatDoor
section
theorem Hv{α:Type}{motive:List α→Prop}(h0:motive [])(h1:∀ l x,motive l→motive (l++[x]))(l:List α):motive l:=by
 have:∀ l:List α,motive l.reverse:=by
  intro l;induction l with
  |nil=>exact h0
  |cons x l ih=>rw[List.reverse_cons];exact h1 _ _ ih
 have:=this l.reverse
 rwa [List.reverse_reverse]at this
abbrev DZ:=Nat×Nat
def C8(l:List DZ)(t:Nat):Nat:=l.foldl (fun k x=>if x.2=t then x.1 else k) 0
def N5(k:Nat):Nat:=if k=1 then 1 else if k=2 then 2 else if k=3 then 3 else if k=4 then 5 else if k=5 then 4 else if k=8 then 6 else if k=9 then 7 else 0
def ED(l:List DZ)(t:Nat):Nat:=N5 (C8 l t)
def Cf(l:List DZ):List DZ→List Nat
 |[]=>[]
 |x::r=>if x.1=2∧C8 l x.2=2∧C8 r x.2=0 then x.2::Cf l r else Cf l r
def GL(l:List DZ):List Nat:=Cf l l
def Qr(k:Nat):Bool:=k==3||k==4||k==6
def DE(l:List DZ):List DZ→Int
 |[] => -1
 |x::r=>if Qr (ED l x.2)=true then (x.2:Int) else DE l r
def Gw(l:List DZ):Int:=DE l l.reverse
def Dc(kind last:Nat)(head:Bool)(free:Bool):Bool :=
 if kind=1 then last==0||last==6||last==7||last==10
 else if kind=2∨kind=7 then last==1
 else if kind=3 then last==2&&head&&free
 else if kind=4 then last==2
 else if kind=5 then last==3
 else if kind=6 then last==4
 else if kind=8 then last==5
 else if kind=9 then last==8
 else if kind=10 then last==9
 else false
def Fw(n:Nat)(l:List DZ)(x:DZ):Bool:=decide (x.2<n)&&Dc x.1 (C8 l x.2) ((GL l).head?==some x.2) (Gw l == -1)
def Di(n:Nat)(pre:List DZ):List DZ→Nat
 |[]=>pre.length
 |x::r=>if Fw n pre x=true then Di n (pre++[x]) r else pre.length
def Cj(n:Nat)(l:List DZ):Nat:=if n<1∨n > 64 then 0 else Di n [] l
theorem Fl(l:List DZ)(x:DZ)(t:Nat):C8 (l++[x]) t=if x.2=t then x.1 else C8 l t:=by
 simp[C8,List.foldl_append]
theorem Hw(l:List DZ)(x:DZ)(hx:x.1≠0):∀ r:List DZ,Cf (l++[x]) (r++[x])=(Cf l r).filter (· != x.2)++(if x.1=2 then [x.2] else [])
 |[]=>by
  simp[Cf,Fl];by_cases h:x.1=2<;>simp[h,C8]
 |y::r=>by
  have ih:=Hw l x hx r;simp only[List.cons_append,Cf,Fl,ih];by_cases h:x.2=y.2
  ·have h':¬(y.1=2∧(if x.2=y.2 then x.1 else C8 l y.2)=2∧(if x.2=y.2 then x.1 else C8 r y.2)=0):=fun⟨_,_,e⟩=>by rw[if_pos h]at e;exact hx e
   rw[if_neg h'];by_cases h2:y.1=2∧C8 l y.2=2∧C8 r y.2=0
   ·rw[if_pos h2,List.filter_cons_of_neg (by simp[h])]
   ·rw[if_neg h2]
  ·rw[if_neg h,if_neg h];by_cases h2:y.1=2∧C8 l y.2=2∧C8 r y.2=0
   ·rw[if_pos h2,if_pos h2,List.filter_cons_of_pos (by simpa using fun e=>h e.symm),List.cons_append]
   ·rw[if_neg h2,if_neg h2]
theorem PV(l:List DZ)(x:DZ)(hx:x.1≠0):GL (l++[x])=(GL l).filter (· != x.2)++(if x.1=2 then [x.2] else []):=Hw l x hx l
theorem Hx(l:List DZ):∀ r:List DZ,DE l r = -1↔∀ x∈r,Qr (ED l x.2)=false
 |[]=>by simp[DE]
 |x::r=>by
  have ih:=Hx l r;unfold DE;by_cases h:Qr (ED l x.2)=true
  ·rw[if_pos h];constructor
   ·intro e;omega
   ·intro e;rw[e x (List.mem_cons_self ..)]at h;cases h
  ·rw[if_neg h,ih];simp at h;simp[h]
theorem PW(l:List DZ):Gw l = -1↔∀ x∈l,Qr (ED l x.2)=false:=by
 rw[Gw,Hx];simp
theorem TI:∀ (l:List DZ) (t:Nat),(∀ x∈l,x.2≠t)→C8 l t=0:=by
 intro l t h;induction l using Hv with
 |h0=>rfl
 |h1 l x ih =>
  rw[Fl,if_neg (h x (by simp)),ih (fun y hy=>h y (by simp[hy]))]
structure DC where
 last:List Nat
 queue:List Nat
 ok:Bool
deriving DecidableEq
def DC.new(n:Nat):DC:=⟨List.replicate n 0,[],true⟩
def Ks(k:Nat):Bool:=k==3||k==5||k==8
def DC.fits(x:DC)(kind t:Nat):Bool:=decide (t<x.last.length)&&Dc kind (x.last.getD t 0) (x.queue.head?==some t) (x.last.all (fun k=>!Ks k))
def DC.enter(x:DC)(kind t:Nat):DC :=
 ⟨x.last.set t kind,x.queue.filter (· != t)++(if kind=2 then [t] else []),x.ok&&x.fits kind t⟩
def DC.of(n:Nat)(l:List DZ):DC:=l.foldl (fun x e=>x.enter e.1 e.2) (DC.new n)
theorem DC.FO(n:Nat)(l:List DZ)(e:DZ):DC.of n (l++[e])=(DC.of n l).enter e.1 e.2:=by simp[DC.of,List.foldl_append]
theorem DC.len(n:Nat)(l:List DZ):(DC.of n l).last.length=n:=by
 induction l using Hv with
 |h0=>simp[DC.of,DC.new]
 |h1 l x ih=>rw[DC.FO];simp[DC.enter,ih]
theorem DC.KC(n:Nat)(l:List DZ)(t:Nat)(ht:t<n):(DC.of n l).last.getD t 0=C8 l t:=by
 induction l using Hv with
 |h0=>simp[DC.of,DC.new,C8,ht]
 |h1 l x ih =>
  rw[DC.FO,Fl,←ih];have hl:=DC.len n l;simp only[DC.enter,List.getD_eq_getElem?_getD,List.getElem?_set];by_cases h:x.2=t
  ·rw[if_pos h,if_pos h,if_pos (by omega)];rfl
  ·rw[if_neg h,if_neg h]
theorem DC.V8(n:Nat)(l:List DZ)(h:∀ x∈l,x.1≠0):(DC.of n l).queue=GL l:=by
 induction l using Hv with
 |h0=>rfl
 |h1 l x ih =>
  rw[DC.FO,PV _ _ (h x (by simp)),←ih (fun y hy=>h y (by simp[hy]))];rfl
theorem Ng(k:Nat):Qr (N5 k)=Ks k:=by
 unfold N5 Ks;repeat' split
 all_goals first |(subst_vars;rfl) |skip
 rw[show(k==3)=false from Bq (by assumption),show(k==5)=false from Bq (by assumption),show(k==8)=false from Bq (by assumption)];rfl
theorem DC.V9(n:Nat)(l:List DZ)(h:∀ x∈l,x.2<n):(DC.of n l).last.all (fun k=>!Ks k)=(Gw l == -1):=by
 rw[Bool.eq_iff_iff,List.all_eq_true,beq_iff_eq,PW];constructor
 ·intro h1 x hx;have h2:=h x hx;have h3:=h1 ((DC.of n l).last.getD x.2 0) (by
   rw[List.getD_eq_getElem?_getD,List.getElem?_eq_getElem (by rw[DC.len];exact h2)];exact List.getElem_mem _)
  rw[DC.KC n l _ h2]at h3;rw[ED,Ng]
  simpa using h3
 ·intro h1 k hk;obtain⟨t,ht,rfl⟩:=List.mem_iff_getElem.1 hk;have ht':t<n:=by rw[DC.len]at ht;exact ht
  have e:(DC.of n l).last[t]=C8 l t:=by rw[←DC.KC n l t ht',List.getD_eq_getElem?_getD,List.getElem?_eq_getElem ht];rfl
  rw[e];by_cases hx:∃ x∈l,x.2=t
  ·obtain⟨x,hx,rfl⟩:=hx;have:=h1 x hx;rw[ED,Ng]at this;simp[this]
  ·rw[TI l t (fun x hx2 e=>hx ⟨x,hx2,e⟩)];rfl
theorem VA{kind last:Nat}{a b:Bool}(h:Dc kind last a b=true):kind≠0:=by
 intro e;subst e;simp[Dc]at h
def LP(n:Nat)(l:List DZ):Prop:=∀ a x b,l=a++x::b→Fw n a x=true
theorem Nh(n:Nat):LP n []:=fun a x b e=>by cases a with
 |nil=>cases e
 |cons y a=>cases e
theorem LQ{n:Nat}{l:List DZ}{x:DZ}:LP n (l++[x])↔LP n l∧Fw n l x=true:=by
 constructor
 ·intro h;exact⟨fun a y b e=>h a y (b++[x]) (by rw[e];simp),h l x [] rfl⟩
 ·rintro⟨h1,h2⟩ a y b e;rcases List.eq_nil_or_concat b with rfl |⟨b',z,rfl⟩
  ·obtain⟨rfl,h⟩:=List.append_inj' e rfl;cases h;exact h2
  ·have e':l++[x]=(a++y::b')++[z]:=by rw[e];simp
   obtain⟨rfl,_⟩:=List.append_inj' e' rfl;exact h1 a y b' rfl
theorem TJ{n:Nat}{l:List DZ}(h:LP n l):∀ x∈l,x.2<n∧x.1≠0:=by
 intro x hx;obtain⟨a,b,rfl⟩:=List.append_of_mem hx;have:=h a x b rfl;simp only[Fw,Bool.and_eq_true,decide_eq_true_eq]at this;exact⟨this.1,VA this.2⟩
theorem DC.YN(n:Nat)(l:List DZ):(DC.of n l).ok=true↔LP n l:=by
 induction l using Hv with
 |h0=>exact⟨fun _=>Nh n,fun _=>rfl⟩
 |h1 l x ih =>
  rw[LQ,DC.FO,←ih];simp only[DC.enter,Bool.and_eq_true];refine and_congr_right fun h=>?_
  have hg:=TJ (ih.1 h);have e:(DC.of n l).fits x.1 x.2=Fw n l x:=by
   unfold DC.fits Fw;rw[DC.len,DC.V8 n l (fun y hy=>(hg y hy).2),DC.V9 n l (fun y hy=>(hg y hy).1)];by_cases hx:x.2<n
   ·rw[DC.KC n l _ hx]
   ·simp[hx]
  rw[e]
theorem HX(n:Nat):∀ (r pre:List DZ),LP n pre→(Di n pre r=(pre++r).length↔LP n (pre++r))
 |[],pre,h=>by simp[Di,h]
 |x::r,pre,h=>by
  unfold Di;by_cases hx:Fw n pre x=true
  ·rw[if_pos hx];have:=HX n r (pre++[x]) (LQ.2 ⟨h,hx⟩)
   simpa using this
  ·rw[if_neg hx];constructor
   ·intro e;simp at e
   ·intro e;exact absurd (e pre x r rfl) hx
theorem Eb(n:Nat)(h1:1≤n)(h2:n≤64)(l:List DZ):Cj n l=l.length↔(DC.of n l).ok=true:=by
 rw[DC.YN];unfold Cj;rw[if_neg (by omega)];exact HX n l [] (Nh n)
def Ay{α:Type}(f:Nat→α)(t:Nat)(v:α):Nat→α:=fun s=>if s=t then v else f s
theorem Ag{α:Type}(f:Nat→α)(t:Nat)(v:α):Ay f t v t=v:=if_pos rfl
theorem Au{α:Type}(f:Nat→α){t s:Nat}(v:α)(h:s≠t):Ay f t v s=f s:=if_neg h
theorem Dr{α:Type}(f:Nat→α)(t:Nat)(v u:α):Ay (Ay f t v) t u=Ay f t u:=by
 funext s;unfold Ay;split<;>rfl
structure Cn (n:Nat) (x:DC) (last:Nat→Nat) (q:List Nat):Prop where
 ok:x.ok=true
 len:x.last.length=n
 last:∀ t,t<n→x.last.getD t 0=last t
 q:x.queue=q
theorem Cn.new(n:Nat):Cn n (DC.new n) (fun _=>0) []:=⟨rfl,by simp[DC.new],fun t ht=>by simp[DC.new,ht],rfl⟩
theorem Cn.congr{n:Nat}{x:DC}{last last':Nat→Nat}{q:List Nat}(h:Cn n x last q)(e:∀ t,t<n→last t=last' t):Cn n x last' q :=
 ⟨h.ok,h.len,fun t ht=>(h.last t ht).trans (e t ht),h.q⟩
theorem JB{q:List Nat}{t:Nat}(h:t∉q):q.filter (· != t)=q :=
 List.filter_eq_self.2 fun a ha=>by
  have:a≠t:=fun e=>h (e▸ha)
  simpa using this
section
variable {n:Nat} {x:DC} {last:Nat→Nat} {q:List Nat} {t:Nat}
theorem Cn.enter(h:Cn n x last q)(ht:t<n)(k:Nat)(hk:Dc k (last t) (q.head?==some t) (x.last.all (fun k=>!Ks k))=true) :
  Cn n (x.enter k t) (Ay last t k) (q.filter (· != t)++(if k=2 then [t] else [])):=by
 refine⟨?_,?_,?_,?_⟩
 ·unfold DC.enter DC.fits;rw[h.ok,h.len,h.q,h.last t ht,hk]
  simpa using ht
 ·simp[DC.enter,h.len]
 ·intro s hs;have:=h.last s hs;simp only[DC.enter,List.getD_eq_getElem?_getD,List.getElem?_set]at this ⊢;by_cases e:s=t
  ·subst e;rw[if_pos rfl,if_pos (by rw[h.len];exact hs),Ag];rfl
  ·rw[if_neg (fun e'=>e e'.symm),Au _ _ e];exact this
 ·simp[DC.enter,h.q]
theorem Cn.plain(h:Cn n x last q)(ht:t<n)(hq:t∉q)(k:Nat)(h2:k≠2)(hk:∀ a b,Dc k (last t) a b=true):Cn n (x.enter k t) (Ay last t k) q:=by
 have:=h.enter ht k (hk _ _)
 rwa [JB hq,if_neg h2,List.append_nil]at this
theorem Cn.call(h:Cn n x last q)(ht:t<n)(hq:t∉q)(hl:last t=0∨last t=6∨last t=7∨last t=10):Cn n (x.enter 1 t) (Ay last t 1) q :=
 h.plain ht hq 1 (by decide) fun a b=>by rcases hl with e |e |e |e<;>simp[Dc,e]
theorem Cn.enq(h:Cn n x last q)(ht:t<n)(hq:t∉q)(hl:last t=1):Cn n (x.enter 2 t) (Ay last t 2) (q++[t]):=by
 have:=h.enter ht 2 (by simp[Dc,hl])
 rwa [JB hq,if_pos rfl]at this
theorem Cn.Li(h:Cn n x last (t::q))(ht:t<n)(hq:t∉q)(hl:last t=2)(ho:∀ s,s<n→Ks (last s)=false):Cn n (x.enter 3 t) (Ay last t 3) q:=by
 have hall:x.last.all (fun k=>!Ks k)=true:=by
  rw[List.all_eq_true];intro k hk;obtain⟨s,hs,rfl⟩:=List.mem_iff_getElem.1 hk;have:=h.last s (by rw[←h.len];exact hs);rw[List.getD_eq_getElem?_getD,List.getElem?_eq_getElem hs]at this;rw[show x.last[s]=last s from this,ho s (by rw[←h.len];exact hs)];rfl
 have:=h.enter ht 3 (by simp[Dc,hl,hall]);rw[if_neg (by decide),List.append_nil,List.filter_cons_of_neg (by simp),JB hq]at this;exact this
theorem Cn.EV(h:Cn n x last q)(ht:t<n)(hq:t∉q)(hl:last t=3):Cn n (x.enter 5 t) (Ay last t 5) q :=
 h.plain ht hq 5 (by decide) fun a b=>by simp[Dc,hl]
theorem Cn.full(h:Cn n x last q)(ht:t<n)(hq:t∉q)(hl:last t=1):Cn n (x.enter 7 t) (Ay last t 7) q :=
 h.plain ht hq 7 (by decide) fun a b=>by simp[Dc,hl]
theorem Cn.unlock(h:Cn n x last q)(ht:t<n)(hq:t∉q)(hl:last t=5):Cn n (x.enter 8 t) (Ay last t 8) q :=
 h.plain ht hq 8 (by decide) fun a b=>by simp[Dc,hl]
theorem Cn.release(h:Cn n x last q)(ht:t<n)(hq:t∉q)(hl:last t=8):Cn n (x.enter 9 t) (Ay last t 9) q :=
 h.plain ht hq 9 (by decide) fun a b=>by simp[Dc,hl]
theorem Cn.over(h:Cn n x last q)(ht:t<n)(hq:t∉q)(hl:last t=9):Cn n (x.enter 10 t) (Ay last t 10) q :=
 h.plain ht hq 10 (by decide) fun a b=>by simp[Dc,hl]
end
end
end Go.Proofs.YtnmahobjmpdkdaaGreatDoor
