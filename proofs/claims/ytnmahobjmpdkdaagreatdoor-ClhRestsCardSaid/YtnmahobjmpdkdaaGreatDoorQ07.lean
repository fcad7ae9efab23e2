/- Parts: WTab, WRepsOne, AsmDig, Goes, AsmWords, AsmName. -/
import Derived.Test.YtnmahobjmpdkdaaGreatDoorQ06
import Derived.Test.YtnmahobjmpdkdaaGreatDoorQ01
import Derived.Test.YtnmahobjmpdkdaaGreatDoorQ02
import Derived.Test.YtnmahobjmpdkdaaGreatDoorProg
import Derived.Test.YtnmahobjmpdkdaaGreatDoorQ04
import Derived.Laws.RangeString
set_option linter.unusedVariables false
set_option linter.unusedSimpArgs false
set_option maxRecDepth 100000
set_option maxHeartbeats 40000000
namespace Go.Proofs.YtnmahobjmpdkdaaGreatDoorW.PrintLast
section
open Go.Proofs.YtnmahobjmpdkdaaGreatDoorW.PrintWords (Af)
def Hq(md:Region.Mode)(o:Oper):List Nat:=(o.after.toList.filter (fun e=>Region.binds md e)).map (fun e=>e.on)
def Ng(md:Region.Mode)(ops:Array Oper)(i:Nat)(oi:Oper):List Nat:=(List.range ops.size).filter fun j=>!(j==i)&&match ops[j]? with
 |some oj=>!(oj.after.any (fun e=>Region.binds md e&&e.on==i)||oi.apart ops oj)
 |none=>false
def Ge(md:Region.Mode)(ops:Array Oper):Bool×List (List Nat×List Nat):=(Region.noSelect ops,(List.range ops.size).map fun i=>match ops[i]? with
 |some o=>(Hq md o,Ng md ops i o)
 |none=>([],[]))
def Hr(T:List (List Nat×List Nat))(l:List Bool)(i:Nat):Bool:=!l.getD i true&&match T[i]? with
 |some r=>r.1.all (fun j=>l.getD j false)
 |none=>false
def Ja(T:List (List Nat×List Nat))(l:List Bool):List Nat:=(List.range T.length).filter (Hr T l)
def TJ(T:List (List Nat×List Nat))(l:List Bool)(i:Nat):Bool:=match T[i]? with
 |some r=>r.2.all (fun j=>l.getD j true)
 |none=>false
def Nh(T:List (List Nat×List Nat))(i:Nat):Nat→Nat→Bool
 |0,_=>false
 |fuel+1,d=>match T[d]? with
  |some r=>r.1.any fun j=>j==i||Nh T i fuel j
  |none=>false
def WC(T:List (List Nat×List Nat))(l:List Bool)(ds:List Nat)(i:Nat):Bool:=ds.all fun d=>l.getD d true||Nh T i T.length d
section
variable {md:Region.Mode} {ops:Array Oper} {T:Bool×List (List Nat×List Nat)} {l l' li lj lk:Array Bool} {ds:List Nat} {i j k:Nat}
theorem gd(l:Array Bool)(j:Nat)(b:Bool):l.getD j b=l.toList.getD j b:=by simp[Array.getD_eq_getD_getElem?,List.getD_eq_getElem?_getD]
theorem Sr(o:Oper)(p:Nat→Bool):o.after.all (fun e=>!Region.binds md e||p e.on)=(Hq md o).all p:=by
 unfold Hq;rw[←Array.all_toList];induction o.after.toList with
 |nil=>rfl
 |cons e r ih =>
  rw[List.all_cons,ih,List.filter_cons];cases h:Region.binds md e<;>simp
theorem Ss(o:Oper)(p:Nat→Bool):o.after.any (fun e=>Region.binds md e&&p e.on)=(Hq md o).any p:=by
 unfold Hq;rw[←Array.any_toList];induction o.after.toList with
 |nil=>rfl
 |cons e r ih =>
  rw[List.any_cons,ih,List.filter_cons];cases h:Region.binds md e<;>simp
theorem GW:(Ge md ops).2.length=ops.size:=by simp[Ge]
theorem Jb{o:Oper}(h:ops[i]?=some o):(Ge md ops).2[i]?=some (Hq md o,Ng md ops i o):=by
 have hi:=(Array.getElem?_eq_some_iff.1 h).1;unfold Ge;rw[List.getElem?_map,List.getElem?_range hi,Option.map_some,h]
theorem Jc(h:ops[i]?=none):(Ge md ops).2[i]?=none:=by
 have hi:ops.size≤i:=Array.getElem?_eq_none_iff.1 h;exact List.getElem?_eq_none (by rw[GW];exact hi)
theorem PT:Hr (Ge md ops).2 l.toList i=(!l.getD i true&&((ops[i]?).map (·.after.all fun e=>!Region.binds md e||l.getD e.on false)).getD false):=by
 unfold Hr;rw[gd];cases h:ops[i]? with
 |none=>rw[Jc h];rfl
 |some o =>
  rw[Jb h];simp only[Option.map_some,Option.getD_some];rw[←Sr];simp only[gd]
theorem I6:Region.ready md ops l=Ja (Ge md ops).2 l.toList:=by
 unfold Region.ready Ja;rw[GW];refine List.filter_congr (fun i _=>?_);rw[PT]
theorem VA:Region.free md ops l i=TJ (Ge md ops).2 l.toList i:=by
 unfold Region.free TJ;cases h:ops[i]? with
 |none=>rw[Jc h]
 |some oi =>
  rw[Jb h];simp only[Ng];rw[List.all_filter]
  congr 1
  funext j
  rw[gd];cases hj:ops[j]? with
  |none=>cases (j==i)<;>cases (l.toList.getD j true)<;>simp
  |some oj =>
   cases (j==i)<;>cases (l.toList.getD j true)<;>cases (oj.after.any (fun e=>Region.binds md e&&e.on==i)||oi.apart ops oj)<;>simp_all
theorem O9:∀ (fuel d:Nat),Region.MP md ops i fuel d=Nh (Ge md ops).2 i fuel d
 |0,_=>rfl
 |fuel+1,d=>by
  unfold Region.MP Nh;cases h:ops[d]? with
  |none=>rw[Jc h]
  |some o =>
   rw[Jb h];simp only;rw[←Ss]
   congr 1
   funext e
   rw[O9 fuel]
theorem Kb:Region.Ww md ops l ds i=WC (Ge md ops).2 l.toList ds i:=by
 unfold Region.Ww WC;rw[GW]
 congr 1
 funext d
 rw[gd,O9]
theorem OA(h:Hr T.2 l.toList i=true)(hT:Ge md ops=T):(Region.ready md ops l).contains i=true:=by
 subst hT;rw[I6];unfold Ja;rw[List.contains_iff_mem,List.mem_filter,List.mem_range];refine⟨?_,h⟩;unfold Hr at h;rw[Bool.and_eq_true]at h;cases hq:(Ge md ops).2[i]? with
 |none=>rw[hq]at h;simp at h
 |some r=>exact(List.getElem?_eq_some_iff.1 hq).1
theorem Nn(h:(l.toList.set i true==l'.toList)=true):(l.setIfInBounds i true==l')=true:=by
 rw[beq_iff_eq]at h ⊢;apply Array.ext';rw[Array.toList_setIfInBounds];exact h
def Yh(T:Bool×List (List Nat×List Nat))(l l':List Bool)(i:Nat):Bool:=T.1&&TJ T.2 l i&&Hr T.2 l i&&(l.set i true==l')
theorem GF(hT:Ge md ops=T)(h:Yh T l.toList l'.toList i=true):Vu md ops l l' i=true:=by
 simp only[Yh,Bool.and_eq_true]at h;obtain⟨⟨⟨h1,h2⟩,h3⟩,h4⟩:=h;have h5:=OA h3 hT;have h6:=Nn h4;subst hT;simp only[Vu,Bool.and_eq_true];exact⟨⟨⟨h1,by rw[VA];exact h2⟩,h5⟩,h6⟩
theorem MO(hT:Ge md ops=T)(h:(Ja T.2 l.toList==[i]&&l.toList.set i true==l'.toList)=true):MQ md ops l l' i=true:=by
 simp only[Bool.and_eq_true]at h;obtain⟨h1,h2⟩:=h;subst hT;simp only[MQ,Bool.and_eq_true];exact⟨by rw[I6];exact h1,Nn h2⟩
theorem Td(hT:Ge md ops=T)(h:(Ja T.2 l.toList==[i,j]&&l.toList.set i true==li.toList&&l.toList.set j true==lj.toList)=true):(Region.ready md ops l==[i,j]&&l.setIfInBounds i true==li&&l.setIfInBounds j true==lj)=true:=by
 simp only[Bool.and_eq_true]at h ⊢;obtain⟨⟨h1,h2⟩,h3⟩:=h;subst hT;exact⟨⟨by rw[I6];exact h1,Nn h2⟩,Nn h3⟩
theorem Vr(hT:Ge md ops=T)(h:(Ja T.2 l.toList==[])=true):(Region.ready md ops l==[])=true:=by
 subst hT;rw[I6];exact h
def Zf(B:List Nat)(d:Nat):List Nat→Nat
 |[]=>0
 |n::r=>(2 ^ n ||| (if n<d then B.getD n 0 else 0)) ||| Zf B d r
def MN(T:List (List Nat×List Nat))(B:List Nat):Bool:=(List.range T.length).all fun d=>match T[d]? with
 |some r=>(B.getD d 0 ||| Zf B d r.1)==Zf B d r.1
 |none=>false
theorem R8{P:Program}{Q:Exit→Act→World→Prop}{S:World→Prop}{n:Nat}{a:Act}{w:World}{B:List Nat}(hT:Ge md ops=T)(hB:MN T.2 B=true)(h:Af (Ge md ops=T)→Af (MN T.2 B=true)→AY P md ops Q S ds n l a w):AY P md ops Q S ds n l a w:=h ⟨hT⟩ ⟨hB⟩
end
def H3:Code→Nat→Option (Array Oper)
 |.region id ops _,k=>if id==k then some ops else none
 |.seq a b,k=>match H3 a k with
  |some o=>some o
  |none=>H3 b k
 |.cond _ a b,k=>match H3 a k with
  |some o=>some o
  |none=>H3 b k
 |.block _ c,k=>H3 c k
 |.loop c,k=>H3 c k
 |.scope c,k=>H3 c k
 |.rangeFunc _ _ a b,k=>match H3 a k with
  |some o=>some o
  |none=>H3 b k
 |_,_=>none
def opsOf(f:Func)(k:Nat):Array Oper:=((f.body.bind fun c=>H3 c k)).getD #[]
end
end Go.Proofs.YtnmahobjmpdkdaaGreatDoorW.PrintLast
namespace Go.Proofs.YtnmahobjmpdkdaaGreatDoorW.PrintWords
section
theorem BO.one{α:Type}{R:α→List Value→Prop}{ps:List α}{cs:List Value}{p:α}{v:Value}(hp:R p [v])(h:BO R 1 ps cs):BO R 1 (p::ps) (v::cs):=by
 refine⟨by simp[h.1],fun j q hq=>?_⟩;cases j with
 |zero =>
  simp only[List.getElem?_cons_zero,Option.some.injEq]at hq;subst hq
  simpa using hp
 |succ j =>
  simp only[List.getElem?_cons_succ]at hq;have h1:=h.2 j q hq
  simpa [Nat.mul_one]using h1
theorem BO.front{α:Type}{R:α→List Value→Prop}{size:Nat}{ps:List α}{cs c all:List Value}{p:α}(hp:R p c)(hc:c.length=size)(h:BO R size ps cs)(ha:c++cs=all):BO R size (p::ps) all:=by
 subst ha;refine⟨by rw[List.length_append,hc,h.1,List.length_cons,Nat.succ_mul,Nat.add_comm],fun j q hq=>?_⟩;cases j with
 |zero =>
  simp only[List.getElem?_cons_zero,Option.some.injEq]at hq;subst hq;rw[Nat.zero_mul,List.drop_zero,List.take_append_of_le_length (by omega),List.take_of_length_le (by omega)];exact hp
 |succ j =>
  simp only[List.getElem?_cons_succ]at hq;have h1:=h.2 j q hq;rw[Nat.succ_mul,List.drop_append,List.drop_of_length_le (by rw[hc];exact Nat.le_add_left _ _),List.nil_append,hc,Nat.add_sub_cancel];exact h1
theorem BO.c2{α:Type}{R:α→List Value→Prop}{ps:List α}{cs:List Value}{p:α}{va vb:Value}(hp:R p [va,vb])(h:BO R 2 ps cs):BO R 2 (p::ps) (va::vb::cs):=BO.front hp rfl h rfl
theorem BO.c3{α:Type}{R:α→List Value→Prop}{ps:List α}{cs:List Value}{p:α}{va vb vc:Value}(hp:R p [va,vb,vc])(h:BO R 3 ps cs):BO R 3 (p::ps) (va::vb::vc::cs):=BO.front hp rfl h rfl
theorem BO.c4{α:Type}{R:α→List Value→Prop}{ps:List α}{cs:List Value}{p:α}{va vb vc vd:Value}(hp:R p [va,vb,vc,vd])(h:BO R 4 ps cs):BO R 4 (p::ps) (va::vb::vc::vd::cs):=BO.front hp rfl h rfl
theorem BO.c5{α:Type}{R:α→List Value→Prop}{ps:List α}{cs:List Value}{p:α}{va vb vc vd ve:Value}(hp:R p [va,vb,vc,vd,ve])(h:BO R 5 ps cs):BO R 5 (p::ps) (va::vb::vc::vd::ve::cs):=BO.front hp rfl h rfl
theorem BO.c6{α:Type}{R:α→List Value→Prop}{ps:List α}{cs:List Value}{p:α}{va vb vc vd ve vf:Value}(hp:R p [va,vb,vc,vd,ve,vf])(h:BO R 6 ps cs):BO R 6 (p::ps) (va::vb::vc::vd::ve::vf::cs):=BO.front hp rfl h rfl
theorem BO.c7{α:Type}{R:α→List Value→Prop}{ps:List α}{cs:List Value}{p:α}{va vb vc vd ve vf vg:Value}(hp:R p [va,vb,vc,vd,ve,vf,vg])(h:BO R 7 ps cs):BO R 7 (p::ps) (va::vb::vc::vd::ve::vf::vg::cs):=BO.front hp rfl h rfl
theorem BO.c8{α:Type}{R:α→List Value→Prop}{ps:List α}{cs:List Value}{p:α}{va vb vc vd ve vf vg vh:Value}(hp:R p [va,vb,vc,vd,ve,vf,vg,vh])(h:BO R 8 ps cs):BO R 8 (p::ps) (va::vb::vc::vd::ve::vf::vg::vh::cs):=BO.front hp rfl h rfl
theorem BO.c9{α:Type}{R:α→List Value→Prop}{ps:List α}{cs:List Value}{p:α}{va vb vc vd ve vf vg vh vi:Value}(hp:R p [va,vb,vc,vd,ve,vf,vg,vh,vi])(h:BO R 9 ps cs):BO R 9 (p::ps) (va::vb::vc::vd::ve::vf::vg::vh::vi::cs):=BO.front hp rfl h rfl
theorem BO.JY{α:Type}{R:α→List Value→Prop}{ps:List α}{cs:List Value}{p:α}{va vb vc vd ve vf vg vh vi vj:Value}(hp:R p [va,vb,vc,vd,ve,vf,vg,vh,vi,vj])(h:BO R 10 ps cs):BO R 10 (p::ps) (va::vb::vc::vd::ve::vf::vg::vh::vi::vj::cs):=BO.front hp rfl h rfl
end
end Go.Proofs.YtnmahobjmpdkdaaGreatDoorW.PrintWords
namespace Go.Proofs.YtnmahobjmpdkdaaGreatDoor
section
open Go.RowKit Go.Proofs.YtnmahobjmpdkdaaGreatDoorW.PrintWords Go.Proofs.YtnmahobjmpdkdaaGreatDoorW.PrintLast
section
variable {P:Program} {ops:Array Oper} {rest:List Oper} {o:Oper} {a:Act} {Q:Exit→Act→World→Prop} {W:World}
theorem Ki{f:FuncId}{xs:Array Operand}{ts:Array TypeId}(_:o.op=.call {callee:=.value (.func f),args:=xs,argTypes:=ts})(h:wpList P ops Q (o::rest) a W):wpList P ops Q (o::rest) a W:=h
end
def Ah.l0:Nat→ByteArray→Int→Int→Option (Int)
 |0,_,_,_=>none
 |k+1,x0,x1,x5=>if x5≥0 then (if 0≤x5 then (if x5<(x0.size:Int) then (if (bt x0 x5)=x1 then (some x5) else (Ah.l0 k x0 x1 (wrap64 (x5-1)))) else (none)) else (none)) else (some (-1))
def Ah.f(k:Nat)(a0:ByteArray)(a1:Int):Option (Int):=Ah.l0 k a0 a1 (wrap64 ((a0.size:Int)-1))
theorem Ah.DS:∀ k,(∀ y0 y1 y2,Ca (Ah.l0 k y0 y1 y2) (Ah.l0 (k+1) y0 y1 y2))
 |0=>fun _ _ _ r h=>by simp[Ah.l0]at h
 |k+1=>by
  have ih0:=Ah.DS k
  ·intro y0 y1 y2;unfold Ah.l0;repeat' first
   |(with_reducible exact ih0 _ _ _)
   |(with_reducible exact Ca.refl _)
   |(with_reducible exact Ca.none _)
   |(with_reducible refine Ca.ite ?_ ?_)
   |(with_reducible refine Ca.bind ?_ (fun _=>?_))
   |exact ih0 _ _ _
   |exact Ca.none _
   |refine Ca.ite ?_ ?_
   |refine Ca.bind ?_ (fun _=>?_)
theorem Ah.mono:∀ a0 a1 k,Ca (Ah.f k a0 a1) (Ah.f (k+1) a0 a1):=by
 intro a0 a1 k;have ih0:=Ah.DS k;unfold Ah.f;repeat' first
  |(with_reducible exact ih0 _ _ _)
  |(with_reducible exact Ca.refl _)
  |(with_reducible exact Ca.none _)
  |(with_reducible refine Ca.ite ?_ ?_)
  |(with_reducible refine Ca.bind ?_ (fun _=>?_))
  |exact ih0 _ _ _
  |exact Ca.none _
  |refine Ca.ite ?_ ?_
  |refine Ca.bind ?_ (fun _=>?_)
theorem Ah.calls(k:Nat)(a0:ByteArray)(a1:Int)(r:Int)(w:World)(h:Ah.f k a0 a1=some r) :
  Calls Tryz.prog 109 #[.string a0,.int .u8 a1] w fun e w'=>e=.returned (.int .i64 r)∧AD w w':=by
 have H:(Ah.l0 k a0 a1 (wrap64 ((a0.size:Int)-1)))=some r:=h;clear h;have H':=Az H;clear H;go_enter Tryz.func109,Tryz.ntmps109;go_wp2;go_loopg [5] k (fun kq v5 w'=>∃ (x5_1:Int),v5=.int .i64 x5_1∧Af (Ah.l0 kq a0 a1 x5_1=some r)∧Af (kq≤k)∧AD w w')
 case atStart=>exact⟨(wrap64 ((a0.size:Int)-1)),(by first |rfl |(simp;done) |(simp[*];done)),H',⟨Nl _⟩,by repeat (first |exact AD.refl _ |apply AD.step)⟩
 case round =>
  clear H';try clear c1
  try clear p2
  obtain⟨x5_1,rfl,HA,HK1,⟨m1,rfl⟩⟩:=hrel;cases gk with
  |zero=>exact absurd HA.out (by simp[Ah.l0])
  |succ k1 =>
   have H:=HA.out;clear HA;simp only[Ah.l0]at H;by_cases c3:x5_1≥0
   ·rw[if_pos c3]at H;have c3b0:decide (0≤x5_1)=true:=decide_eq_true c3;clear c3;by_cases c4:0≤x5_1
    ·rw[if_pos c4]at H;have c4b0:decide (0≤x5_1)=true:=decide_eq_true c4;clear c4;by_cases c5:x5_1<(a0.size:Int)
     ·rw[if_pos c5]at H;have c5b0:decide (x5_1<(a0.size:Int))=true:=decide_eq_true c5;clear c5;by_cases c7:(bt a0 x5_1)=a1
      ·rw[if_pos c7]at H;have c7b0:((bt a0 x5_1)==a1)=true:=beq_iff_eq.mpr c7;have c7b1:((bt a0 x5_1) != a1)=false:=bne_eq_false_iff_eq.mpr c7;clear c7;obtain rfl:=Option.some.inj H;have p6:0≤(x5_1:Int):=of_decide_eq_true (by first |(with_reducible assumption) |assumption);have q6:x5_1<(a0.size:Int):=of_decide_eq_true (by first |(with_reducible assumption) |assumption);have hx6:=BL a0 x5_1;replace p6:=eq_true p6;replace q6:=eq_true q6;go_wp2;go_ret;exact⟨by first |rfl |(simp;done) |(simp[*];done),by repeat (first |exact AD.refl _ |apply AD.step)⟩
      ·rw[if_neg c7]at H;have c7b0:((bt a0 x5_1)==a1)=false:=beq_eq_false_iff_ne.mpr c7;have c7b1:((bt a0 x5_1) != a1)=true:=bne_iff_ne.mpr c7;have H':=Az H;clear H;have p6:0≤(x5_1:Int):=of_decide_eq_true (by first |(with_reducible assumption) |assumption);have q6:x5_1<(a0.size:Int):=of_decide_eq_true (by first |(with_reducible assumption) |assumption);have hx6:=BL a0 x5_1;replace p6:=eq_true p6;replace q6:=eq_true q6;go_wp2;go_roundg k1
       case measure=>have:=HK1.out;omega
       case rel=>exact⟨(wrap64 (x5_1-1)),(by first |rfl |(simp;done) |(simp[*];done)),H',⟨by have:=HK1.out;omega⟩,by repeat (first |exact AD.refl _ |apply AD.step)⟩
     ·rw[if_neg c5]at H;exact absurd H (by simp)
    ·rw[if_neg c4]at H;exact absurd H (by simp)
   ·rw[if_neg c3]at H;have c3b0:decide (0≤x5_1)=false:=decide_eq_false c3;clear c3;obtain rfl:=Option.some.inj H;go_wp2;go_ret;exact⟨by first |rfl |(simp;done) |(simp[*];done),by repeat (first |exact AD.refl _ |apply AD.step)⟩
def Bi.f(k:Nat)(a0:ByteArray)(a1:Int):Option (Int):=(Ah.f k a0 a1).bind fun t156=>(some t156)
theorem Bi.mono:∀ a0 a1 k,Ca (Bi.f k a0 a1) (Bi.f (k+1) a0 a1):=by
 intro a0 a1 k;unfold Bi.f;repeat' first
  |(with_reducible exact Ah.mono _ _ _)
  |(with_reducible exact Ca.refl _)
  |(with_reducible exact Ca.none _)
  |(with_reducible refine Ca.ite ?_ ?_)
  |(with_reducible refine Ca.bind ?_ (fun _=>?_))
  |exact Ah.mono _ _ _
  |exact Ca.none _
  |refine Ca.ite ?_ ?_
  |refine Ca.bind ?_ (fun _=>?_)
theorem Bi.calls(k:Nat)(a0:ByteArray)(a1:Int)(r:Int)(w:World)(h:Bi.f k a0 a1=some r) :
  Calls Tryz.prog 95 #[.string a0,.int .u8 a1] w fun e w'=>e=.returned (.int .i64 r)∧AD w w':=by
 have H:((Ah.f k a0 a1).bind fun t156=>(some t156))=some r:=h;clear h;replace H:=Option.bind_eq_some_iff.mp H;obtain⟨t156,A30,H⟩:=H;replace H:(some t156)=some r:=H;have A3:=Az A30;clear A30;obtain rfl:=Option.some.inj H;go_enter Tryz.func95,Tryz.ntmps95;go_wp2_with (first |((with_reducible refine Ki (f:=109) rfl ?_);refine MR (some 7) rfl rfl Tryz.func109 (by kernel_rfl) rfl #[.string a0,.int .u8 a1] rfl (by(try simp only[List.map_toArray,List.map_cons,List.map_nil]);first |done |rfl |(simp only[List.length_drop,List.length_take];rfl)) ?_;(with_reducible refine(Ah.calls k a0 a1 t156 _ A3.out).mono ?_);rintro e w' ⟨rfl,⟨nd,rfl⟩⟩;refine⟨_,rfl,?_⟩))
 go_ret;exact⟨by first |rfl |(simp;done) |(simp[*];done),by repeat (first |exact AD.refl _ |apply AD.step)⟩
def BF.f(a0:ByteArray)(a1:ByteArray):Option (Bool):=if (a0.size:Int)≥(a1.size:Int) then (if 0≤(wrap64 ((a0.size:Int)-(a1.size:Int))) then (if (wrap64 ((a0.size:Int)-(a1.size:Int)))≤(a0.size:Int) then (some ((a0.extract ((wrap64 ((a0.size:Int)-(a1.size:Int))):Int).toNat a0.size).toList==a1.toList)) else (none)) else (none)) else (some false)
theorem BF.calls(a0:ByteArray)(a1:ByteArray)(r:Bool)(w:World)(h:BF.f a0 a1=some r) :
  Calls Tryz.prog 108 #[.string a0,.string a1] w fun e w'=>e=.returned (.bool r)∧AD w w':=by
 have H:(if (a0.size:Int)≥(a1.size:Int) then (if 0≤(wrap64 ((a0.size:Int)-(a1.size:Int))) then (if (wrap64 ((a0.size:Int)-(a1.size:Int)))≤(a0.size:Int) then (some ((a0.extract ((wrap64 ((a0.size:Int)-(a1.size:Int))):Int).toNat a0.size).toList==a1.toList)) else (none)) else (none)) else (some false))=some r:=h;clear h;by_cases c3:(a0.size:Int)≥(a1.size:Int)
 ·rw[if_pos c3]at H;have c3b0:decide ((a1.size:Int)≤(a0.size:Int))=true:=decide_eq_true c3;have c3b1:decide (a1.size≤a0.size)=true:=decide_eq_true (Int.ofNat_le.mp c3);clear c3;obtain⟨ji4,hji4⟩:∃ j_:Int,(wrap64 ((a0.size:Int)-(a1.size:Int)))=j_:=⟨_,rfl⟩
  replace H:(if 0≤(ji4) then (if (ji4)≤(a0.size:Int) then (some ((a0.extract ((ji4):Int).toNat a0.size).toList==a1.toList)) else (none)) else (none))=some r:=by first |(rw[hji4]at H;exact H) |(simp only[hji4]at H ⊢;exact H)
  have hji4w:(IntKind.i64.wrap ((a0.size:Int)-(a1.size:Int)))=ji4:=(DI _).trans hji4;by_cases c5:0≤(ji4)
  ·rw[if_pos c5]at H;have c5b0:=eq_true c5;have c5b1:decide (0≤(ji4))=true:=decide_eq_true c5;clear c5;by_cases c6:(ji4)≤(a0.size:Int)
   ·rw[if_pos c6]at H;have c6b0:=eq_true c6;have c6b1:decide ((ji4)≤(a0.size:Int))=true:=decide_eq_true c6;clear c6;obtain rfl:=Option.some.inj H;go_enter Tryz.func108,Tryz.ntmps108;go_wp2;go_ret;exact⟨by first |rfl |(simp;done) |(simp only[←hji4]<;>(first |rfl |simp)) |(simp[*];done),by repeat (first |exact AD.refl _ |apply AD.step)⟩
   ·rw[if_neg c6]at H;exact absurd H (by simp)
  ·rw[if_neg c5]at H;exact absurd H (by simp)
 ·rw[if_neg c3]at H;have c3b0:decide ((a1.size:Int)≤(a0.size:Int))=false:=decide_eq_false c3;have c3b1:decide (a1.size≤a0.size)=false:=decide_eq_false (fun h=>c3 (Int.ofNat_le.mpr h));clear c3;obtain rfl:=Option.some.inj H;go_enter Tryz.func108,Tryz.ntmps108;go_wp2;go_ret;exact⟨by first |rfl |(simp;done) |(simp[*];done),by repeat (first |exact AD.refl _ |apply AD.step)⟩
def BP.f(a0:ByteArray)(a1:ByteArray):Option (ByteArray×Bool):=(BF.f a0 a1).bind fun t153=>(if t153=true then (if 0≤(wrap64 ((a0.size:Int)-(a1.size:Int))) then (if (wrap64 ((a0.size:Int)-(a1.size:Int)))≤(a0.size:Int) then (some (a0.extract 0 ((wrap64 ((a0.size:Int)-(a1.size:Int))):Int).toNat,true)) else (none)) else (none)) else (some (a0,false)))
theorem BP.calls(a0:ByteArray)(a1:ByteArray)(r1:ByteArray)(r2:Bool)(w:World)(h:BP.f a0 a1=some (r1,r2)) :
  Calls Tryz.prog 94 #[.string a0,.string a1] w fun e w'=>e=.returned (.tuple #[.string r1,.bool r2])∧AD w w':=by
 have H:((BF.f a0 a1).bind fun t153=>(if t153=true then (if 0≤(wrap64 ((a0.size:Int)-(a1.size:Int))) then (if (wrap64 ((a0.size:Int)-(a1.size:Int)))≤(a0.size:Int) then (some (a0.extract 0 ((wrap64 ((a0.size:Int)-(a1.size:Int))):Int).toNat,true)) else (none)) else (none)) else (some (a0,false))))=some (r1,r2):=h;clear h;replace H:=Option.bind_eq_some_iff.mp H;obtain⟨t153,A30,H⟩:=H;replace H:(if t153=true then (if 0≤(wrap64 ((a0.size:Int)-(a1.size:Int))) then (if (wrap64 ((a0.size:Int)-(a1.size:Int)))≤(a0.size:Int) then (some (a0.extract 0 ((wrap64 ((a0.size:Int)-(a1.size:Int))):Int).toNat,true)) else (none)) else (none)) else (some (a0,false)))=some (r1,r2):=H;have A3:=Az A30;clear A30;by_cases c4:t153=true
 ·subst c4;have H1:(if 0≤(wrap64 ((a0.size:Int)-(a1.size:Int))) then (if (wrap64 ((a0.size:Int)-(a1.size:Int)))≤(a0.size:Int) then (some (a0.extract 0 ((wrap64 ((a0.size:Int)-(a1.size:Int))):Int).toNat,true)) else (none)) else (none))=some (r1,r2):=by rw[if_pos rfl]at H;exact H
  clear H;have H:=H1;clear H1;obtain⟨ji5,hji5⟩:∃ j_:Int,(wrap64 ((a0.size:Int)-(a1.size:Int)))=j_:=⟨_,rfl⟩
  replace H:(if 0≤(ji5) then (if (ji5)≤(a0.size:Int) then (some (a0.extract 0 ((ji5):Int).toNat,true)) else (none)) else (none))=some (r1,r2):=by first |(rw[hji5]at H;exact H) |(simp only[hji5]at H ⊢;exact H)
  (try rw[hji5]at A3)
  have hji5w:(IntKind.i64.wrap ((a0.size:Int)-(a1.size:Int)))=ji5:=(DI _).trans hji5;by_cases c6:0≤(ji5)
  ·rw[if_pos c6]at H;have c6b0:=eq_true c6;have c6b1:decide (0≤(ji5))=true:=decide_eq_true c6;clear c6;by_cases c7:(ji5)≤(a0.size:Int)
   ·rw[if_pos c7]at H;have c7b0:=eq_true c7;have c7b1:decide ((ji5)≤(a0.size:Int))=true:=decide_eq_true c7;clear c7;simp only[Option.some.injEq,Prod.mk.injEq]at H;obtain⟨rfl,rfl⟩:=H;go_enter Tryz.func94,Tryz.ntmps94;go_wp2_with (first |((with_reducible refine Ki (f:=108) rfl ?_);refine MR (some 8) rfl rfl Tryz.func108 (by kernel_rfl) rfl #[.string a0,.string a1] rfl (by(try simp only[List.map_toArray,List.map_cons,List.map_nil]);first |done |rfl |(simp only[List.length_drop,List.length_take];rfl)) ?_;(with_reducible refine(BF.calls a0 a1 true _ A3.out).mono ?_);rintro e w' ⟨rfl,⟨nd,rfl⟩⟩;refine⟨_,rfl,?_⟩))
    go_ret2
    exact⟨by first |rfl |(simp;done) |(simp only[←hji5]<;>(first |rfl |simp)) |(simp[*];done),by repeat (first |exact AD.refl _ |apply AD.step)⟩
   ·rw[if_neg c7]at H;exact absurd H (by simp)
  ·rw[if_neg c6]at H;exact absurd H (by simp)
 ·replace c4:=Bool.eq_false_iff.mpr c4;subst c4;have H1:(some (a0,false))=some (r1,r2):=by rw[if_neg (show ¬(false=true) by decide)]at H;exact H
  clear H;have H:=H1;clear H1;simp only[Option.some.injEq,Prod.mk.injEq]at H;obtain⟨rfl,rfl⟩:=H;go_enter Tryz.func94,Tryz.ntmps94;go_wp2_with (first |((with_reducible refine Ki (f:=108) rfl ?_);refine MR (some 8) rfl rfl Tryz.func108 (by kernel_rfl) rfl #[.string a0,.string a1] rfl (by(try simp only[List.map_toArray,List.map_cons,List.map_nil]);first |done |rfl |(simp only[List.length_drop,List.length_take];rfl)) ?_;(with_reducible refine(BF.calls a0 a1 false _ A3.out).mono ?_);rintro e w' ⟨rfl,⟨nd,rfl⟩⟩;refine⟨_,rfl,?_⟩))
  go_ret2
  exact⟨by first |rfl |(simp;done) |(simp[*];done),by repeat (first |exact AD.refl _ |apply AD.step)⟩
def Da.f(a0:ByteArray)(a1:ByteArray):Option (ByteArray×Bool):=(BP.f a0 a1).bind fun bt154=>(some (bt154.1,bt154.2))
theorem Da.calls(a0:ByteArray)(a1:ByteArray)(r1:ByteArray)(r2:Bool)(w:World)(h:Da.f a0 a1=some (r1,r2)) :
  Calls Tryz.prog 77 #[.string a0,.string a1] w fun e w'=>e=.returned (.tuple #[.string r1,.bool r2])∧AD w w':=by
 have H:((BP.f a0 a1).bind fun bt154=>(some (bt154.1,bt154.2)))=some (r1,r2):=h;clear h;replace H:=Option.bind_eq_some_iff.mp H;obtain⟨⟨t154,t155⟩,A30,H⟩:=H;replace H:(some (t154,t155))=some (r1,r2):=H;have A3:=Az A30;clear A30;simp only[Option.some.injEq,Prod.mk.injEq]at H;obtain⟨rfl,rfl⟩:=H;go_enter Tryz.func77,Tryz.ntmps77;go_wp2_with (first |((with_reducible refine Ki (f:=94) rfl ?_);refine MR (some 8) rfl rfl Tryz.func94 (by kernel_rfl) rfl #[.string a0,.string a1] rfl (by(try simp only[List.map_toArray,List.map_cons,List.map_nil]);first |done |rfl |(simp only[List.length_drop,List.length_take];rfl)) ?_;(with_reducible refine(BP.calls a0 a1 t154 t155 _ A3.out).mono ?_);rintro e w' ⟨rfl,⟨nd,rfl⟩⟩;refine⟨_,rfl,?_⟩))
 go_ret2
 exact⟨by first |rfl |(simp;done) |(simp[*];done),by repeat (first |exact AD.refl _ |apply AD.step)⟩
end
section
open Go.RowKit Go.Proofs.YtnmahobjmpdkdaaGreatDoorW.PrintWords
theorem Pm(W:World)(o:Obj):Below W.heap.size W (W.alloc o):=(Below.refl _ _).alloc (Nl _) o
theorem Kx(i:In)(w:World):Calls Tryz.prog 97 #[i.v] w fun e w'=>e=.returned (.bool (DV i))∧Below w.heap.size w w':=by
 obtain⟨op,d,s,t,u,a,k,q⟩:=i;have hb:=Pm w (.cells #[.int .i64 op,.int .i64 d,.int .i64 s,.int .i64 t,.int .i64 u,.int .i64 a,.int .u32 k,.int .i64 q] 104);obtain⟨r,hr⟩:∃ r,DV ⟨op,d,s,t,u,a,k,q⟩=r:=⟨_,rfl⟩
 rw[hr];have hg:r=decide ((8≤op∧op≤10)∨(op=21∧0≤q)):=hr.symm;dsimp only[In.v];clear hr;go_enter Tryz.func97,Tryz.ntmps97;by_cases h1:8≤op
 ·by_cases h2:op≤10
  ·obtain rfl:r=true:=by rw[hg];exact decide_eq_true (by omega)
   clear hg;go_wp2;go_ret;exact⟨rfl,hb⟩
  ·by_cases h3:op=21
   ·by_cases h4:0≤q
    ·obtain rfl:r=true:=by rw[hg];exact decide_eq_true (by omega)
     subst h3;clear hg;go_wp2;go_ret;exact⟨rfl,hb⟩
    ·obtain rfl:r=false:=by rw[hg];exact decide_eq_false (by omega)
     subst h3;clear hg;go_wp2;go_ret;exact⟨rfl,hb⟩
   ·have x:(op==21)=false:=Bq h3;obtain rfl:r=false:=by rw[hg];exact decide_eq_false (by omega)
    clear h3;clear hg;go_wp2;go_ret;exact⟨rfl,hb⟩
 ·by_cases h3:op=21
  ·omega
  ·have x:(op==21)=false:=Bq h3;obtain rfl:r=false:=by rw[hg];exact decide_eq_false (by omega)
   clear h3;clear hg;go_wp2;go_ret;exact⟨rfl,hb⟩
theorem JF(i:In)(w:World):Calls Tryz.prog 74 #[i.v] w fun e w'=>e=.returned (.bool (DV i))∧Below w.heap.size w w':=by
 obtain⟨op,d,s,t,u,a,k,q⟩:=i;have hb:=Pm w (.cells #[.int .i64 op,.int .i64 d,.int .i64 s,.int .i64 t,.int .i64 u,.int .i64 a,.int .u32 k,.int .i64 q] 90);obtain⟨r,hr⟩:∃ r,DV ⟨op,d,s,t,u,a,k,q⟩=r:=⟨_,rfl⟩
 rw[hr];have hg:r=decide ((8≤op∧op≤10)∨(op=21∧0≤q)):=hr.symm;dsimp only[In.v];clear hr;go_enter Tryz.func74,Tryz.ntmps74;by_cases h1:8≤op
 ·by_cases h2:op≤10
  ·obtain rfl:r=true:=by rw[hg];exact decide_eq_true (by omega)
   clear hg;go_wp2;go_ret;exact⟨rfl,hb⟩
  ·by_cases h3:op=21
   ·by_cases h4:0≤q
    ·obtain rfl:r=true:=by rw[hg];exact decide_eq_true (by omega)
     subst h3;clear hg;go_wp2;go_ret;exact⟨rfl,hb⟩
    ·obtain rfl:r=false:=by rw[hg];exact decide_eq_false (by omega)
     subst h3;clear hg;go_wp2;go_ret;exact⟨rfl,hb⟩
   ·have x:(op==21)=false:=Bq h3;obtain rfl:r=false:=by rw[hg];exact decide_eq_false (by omega)
    clear h3;clear hg;go_wp2;go_ret;exact⟨rfl,hb⟩
 ·by_cases h3:op=21
  ·omega
  ·have x:(op==21)=false:=Bq h3;obtain rfl:r=false:=by rw[hg];exact decide_eq_false (by omega)
   clear h3;clear hg;go_wp2;go_ret;exact⟨rfl,hb⟩
theorem Zb(l:List UInt8)(k:Nat):bt ⟨l.toArray⟩ (k:Int)=((l.getD k 0).toNat:Int):=by
 unfold bt;by_cases h:k<l.length
 ·rw[dif_pos (by simpa [ByteArray.size]using h)];simp[List.getD_eq_getElem?_getD,List.getElem?_eq_getElem h];rfl
 ·rw[dif_neg (by simpa [ByteArray.size]using h)];simp[List.getD_eq_getElem?_getD,List.getElem?_eq_none (Nat.le_of_not_lt h)]
theorem XH(l:List UInt8):((⟨l.toArray⟩:ByteArray).size:Int)=l.length:=by simp[ByteArray.size]
def Fk(l:List UInt8)(c:UInt8):List UInt8×Bool:=if l.getLast?=some c then (l.dropLast,true) else (l,false)
theorem wid{x:Int}(h0:-9223372036854775808≤x)(h1:x<9223372036854775808):wrap64 x=x:=by unfold wrap64;omega
theorem Ya(l:List UInt8)(c:UInt8)(hl:l.length≤1000000):Da.f ⟨l.toArray⟩ ⟨#[c]⟩=some (⟨(Fk l c).1.toArray⟩,(Fk l c).2):=by
 have h1:((⟨#[c]⟩:ByteArray).size:Int)=1:=rfl;unfold Da.f BP.f BF.f Fk;rw[XH,h1];by_cases hn:l=[]
 ·subst hn;rfl
 ·have hp:0<l.length:=List.length_pos_iff.2 hn;have e:wrap64 ((l.length:Int)-1)=(l.length:Int)-1:=wid (by omega) (by omega);have et:((l.length:Int)-1).toNat=l.length-1:=by omega
  rw[e,if_pos (by omega),if_pos (by omega),if_pos (by omega),et];have hs:(⟨l.toArray⟩:ByteArray).size=l.length:=by simp[ByteArray.size]
  have hx:((⟨l.toArray⟩:ByteArray).extract (l.length-1) (⟨l.toArray⟩:ByteArray).size).toList=[l.getLast hn]:=by
   rw[hs,DR,toList_mk,List.drop_eq_getElem_cons (by omega),show l.length-1+1=l.length by omega,List.drop_length,List.getLast_eq_getElem];exact List.take_of_length_le (by simp;omega)
  have hy:(⟨#[c]⟩:ByteArray).toList=[c]:=toList_mk [c];rw[hx,hy,List.getLast?_eq_some_getLast hn];by_cases hc:l.getLast hn=c
  ·simp only[hc,Option.bind_some,beq_self_eq_true,if_true];rw[DR,if_pos (show(0:Int)≤(l.length:Int)-1 by omega),if_pos (show(l.length:Int)-1≤(l.length:Int) by omega)];simp[List.dropLast_eq_take]
  ·have hc':¬some (l.getLast hn)=some c:=fun h=>hc (Option.some.inj h)
   have:([l.getLast hn]==[c])=false:=Bq (fun h=>hc (List.head_eq_of_cons_eq h));simp only[this,Option.bind_some,if_neg hc'];rfl
theorem El(l:List UInt8)(c:UInt8)(hl:l.length≤1000000)(w:World):Calls Tryz.prog 77 #[.string ⟨l.toArray⟩,.string ⟨#[c]⟩] w fun e w' =>
  e=.returned (.tuple #[.string ⟨(Fk l c).1.toArray⟩,.bool (Fk l c).2])∧Below w.heap.size w w' :=
 (Da.calls _ _ _ _ w (Ya l c hl)).mono fun e w' h=>⟨h.1,h.2.below⟩
theorem HK:∀ (l:List UInt8),(32:UInt8)∈l→∃ a b,l=a++32::b∧(32:UInt8)∉b
 |c::l,h=>by
  by_cases h2:(32:UInt8)∈l
  ·obtain⟨a,b,e,hb⟩:=HK l h2;exact⟨c::a,b,by rw[e];rfl,hb⟩
  ·cases h with
   |head=>exact⟨[],l,rfl,h2⟩
   |tail _ h=>exact absurd h h2
theorem Jw:∀ (a b:List UInt8),(32:UInt8)∉b→AT (a++32::b)=AT a++[b]
 |[],b,h=>by rw[List.nil_append,show AT (32::b)=[]::AT b by simp[AT],Fq b h];rfl
 |c::a,b,h=>by
  have ih:=Jw a b h;rw[List.cons_append,AT,AT];by_cases hc:c=32
  ·rw[if_pos hc,if_pos hc,ih];rfl
  ·rw[if_neg hc,if_neg hc,ih];cases hs:AT a with
   |nil=>exact absurd hs (EM a)
   |cons x xs=>rfl
theorem GJ{l:List UInt8}(h:(32:UInt8)∉l):CG l=l∧BR l=[]:=by
 have e:CG l=l:=by unfold CG;rw[Fq l h];rfl
 exact⟨e,by unfold BR;rw[e,Nat.sub_self];rfl⟩
theorem HM{a b:List UInt8}(h:(32:UInt8)∉b):CG (a++32::b)=b∧BR (a++32::b)=a++[32]:=by
 have e:CG (a++32::b)=b:=by unfold CG;rw[Jw a b h];simp[List.getLastD_eq_getLast?]
 refine⟨e,?_⟩;unfold BR;rw[e,show(a++32::b).length-b.length=(a++[32]).length by simp;omega,show a++32::b=(a++[32])++b by simp,List.take_left]
theorem Mj(l:List UInt8):BR l++CG l=l:=by
 by_cases h:(32:UInt8)∈l
 ·obtain⟨a,b,rfl,hb⟩:=HK l h;rw[(HM hb).1,(HM hb).2];simp
 ·rw[(GJ h).1,(GJ h).2];rfl
theorem Mm(l:List UInt8)(h:(32:UInt8)∉l)(hl:l.length≤1000000):∀ (j:Nat),j≤l.length→Ah.l0 (j+1) ⟨l.toArray⟩ 32 ((j:Int)-1)=some (-1)
 |0,_=>by rw[Ah.l0,if_neg (by omega)]
 |j+1,hj=>by
  have hne:¬((l.getD j 0).toNat:Int)=32:=fun e=>h (by
   have:l.getD j 0=32:=UInt8.toNat_inj.1 (by show(l.getD j 0).toNat=32;omega);rw[←this,List.getD_eq_getElem?_getD,List.getElem?_eq_getElem (by omega)];exact List.getElem_mem _)
  rw[Ah.l0,XH,show(((j+1:Nat):Int)-1)=(j:Int) by omega,Zb,if_pos (by omega),if_pos (by omega),if_pos (by omega),if_neg hne,wid (by omega) (by omega)];exact Mm l h hl j (by omega)
theorem Mn(a b:List UInt8)(h:(32:UInt8)∉b)(hl:(a++32::b).length≤1000000):∀ (j:Nat),j≤b.length→Ah.l0 (j+1) ⟨(a++32::b).toArray⟩ 32 ((a.length+j:Nat):Int)=some (a.length:Int)
 |0,_=>by
  have e:(a++32::b).getD (a.length+0) 0=32:=by simp[List.getD_eq_getElem?_getD]
  have hz:(a++32::b).length=a.length+1+b.length:=by simp;omega
  rw[Ah.l0,XH,Zb,e,if_pos (by omega),if_pos (by omega),if_pos (by omega)];rfl
 |j+1,hj=>by
  have hz:(a++32::b).length=a.length+1+b.length:=by simp;omega
  have e:(a++32::b).getD (a.length+(j+1)) 0=b.getD j 0:=by
   simp[List.getD_eq_getElem?_getD,List.getElem?_append_right (show a.length≤a.length+(j+1) by omega)]
  have hne:¬((b.getD j 0).toNat:Int)=32:=fun e=>h (by
   have:b.getD j 0=32:=UInt8.toNat_inj.1 (by show(b.getD j 0).toNat=32;omega);rw[←this,List.getD_eq_getElem?_getD,List.getElem?_eq_getElem (by omega)];exact List.getElem_mem _)
  rw[Ah.l0,XH,Zb,e,if_pos (by omega),if_pos (by omega),if_pos (by omega),if_neg hne,wid (by omega) (by omega),show(((a.length+(j+1):Nat):Int)-1)=((a.length+j:Nat):Int) by omega];exact Mn a b h hl j (by omega)
theorem Xk(l:List UInt8)(hl:l.length≤1000000):∃ k,Bi.f k ⟨l.toArray⟩ 32=some (((BR l).length:Int)-1):=by
 have e:wrap64 ((l.length:Int)-1)=(l.length:Int)-1:=wid (by omega) (by omega);by_cases h:(32:UInt8)∈l
 ·obtain⟨a,b,rfl,hb⟩:=HK l h;refine⟨b.length+1,?_⟩;have hk:=Mn a b hb hl b.length (Nl _);have hz:((a++32::b).length:Int)-1=((a.length+b.length:Nat):Int):=by simp;omega
  unfold Bi.f Ah.f;rw[XH,e,hz,hk,(HM hb).2];simp
 ·refine⟨l.length+1,?_⟩;have hk:=Mm l h hl l.length (Nl _);unfold Bi.f Ah.f;rw[XH,e,hk,(GJ h).2];rfl
theorem P5(l:List UInt8)(hl:l.length≤1000000)(w:World):Calls Tryz.prog 95 #[.string ⟨l.toArray⟩,.int .u8 32] w fun e w' =>
  e=.returned (.int .i64 (((BR l).length:Int)-1))∧Below w.heap.size w w':=by
 obtain⟨k,hk⟩:=Xk l hl;exact(Bi.calls k _ _ _ w hk).mono fun e w' h=>⟨h.1,h.2.below⟩
theorem Sf(s:ByteArray)(i:Nat)(h:128≤(s.get! i).toNat):128≤(Utf8.decode s i).1:=by
 have e:(s.get! (i+0)).toNat=(s.get! i).toNat:=rfl;unfold Utf8.decode;simp only[e];rw[if_neg (by omega)];split
 ·split
  ·simpa using ‹_›
  ·simp[Utf8.runeError]
 ·split
  ·split
   ·rename_i h2
    simp only[Bool.and_eq_true,decide_eq_true_eq]at h2;have:=h2.1;dsimp only;omega
   ·simp[Utf8.runeError]
  ·split
   ·split
    ·rename_i h2
     simp only[Bool.and_eq_true,decide_eq_true_eq]at h2;have:=h2.1;dsimp only;omega
    ·simp[Utf8.runeError]
   ·simp[Utf8.runeError]
theorem Xp(l:List UInt8)(k:Nat)(h:k<l.length):(⟨l.toArray⟩:ByteArray).get! k=l.getD k 0:=by
 simp[ByteArray.get!,List.getD_eq_getElem?_getD,List.getElem?_eq_getElem h,h]
theorem LJ{P:Program}(w:World)(s:ByteArray)(pos:Nat)(ty:TypeId)(h:pos<s.size) :
  (Instr.next (.pointer (some ⟨w.heap.size,0,none⟩)) true ty).run P (w.iter s pos) =
   .ok (.tuple #[.bool true,.int .i64 pos,.int .i32 (Utf8.decode s pos).1]) (w.iter s (pos+(Utf8.decode s pos).2)):=by
 simp only[Instr.next,getObj,setObj,Sem.run_bind,Sem.run,World.iter_heap,Result.andThen,h,if_true,World.iter_set];simp[goInt,Sem.run,World.iter_heap,World.iter_set]
def posOf(g:Nat)(W:World):Nat:=match W.heap[g]? with
 |some (.stringIter _ p)=>p
 |_=>0
theorem Gk(w:World)(s:ByteArray)(p:Nat):posOf w.heap.size (w.iter s p)=p:=by
 unfold posOf;rw[World.iter_heap]
def Sg(l:List UInt8)(k:Nat):Prop:=(∀ j,j<k→(EF (l.getD j 0)||LK (l.getD j 0))=true)∧(0<k→EF (l.getD 0 0)=true)
theorem O2{l:List UInt8}(h:Sg l l.length)(hn:0<l.length):EF (l.headD 0)=true∧l.all (fun c=>EF c||LK c)=true:=by
 refine⟨?_,?_⟩
 ·have:=h.2 hn;cases l with
  |nil=>simp at hn
  |cons c r=>exact this
 ·rw[List.all_eq_true];intro c hc;obtain⟨j,hj,rfl⟩:=List.mem_iff_getElem.1 hc;have:=h.1 j hj
  rwa [show l.getD j 0=l[j] by simp[List.getD_eq_getElem?_getD,List.getElem?_eq_getElem hj]]at this
theorem Ms{l:List UInt8}{k:Nat}(h:Sg l k)(hk:(EF (l.getD k 0)||LK (l.getD k 0))=true)(h0:k=0→EF (l.getD 0 0)=true):Sg l (k+1):=by
 refine⟨fun j hj=>?_,fun _=>?_⟩
 ·by_cases e:j=k
  ·rw[e];exact hk
  ·exact h.1 j (by omega)
 ·by_cases e:k=0
  ·exact h0 e
  ·exact h.2 (by omega)
theorem IX{l:List UInt8}{k:Nat}(hk:k<l.length)(h:(EF (l.getD k 0)||LK (l.getD k 0))=false):Cq l=false:=by
 have:l.all (fun c=>EF c||LK c)=false:=by
  rw[List.all_eq_false];exact⟨l.getD k 0,by rw[show l.getD k 0=l[k] by simp[List.getD_eq_getElem?_getD,List.getElem?_eq_getElem hk]];exact List.getElem_mem hk,by simpa using h⟩
 unfold Cq;rw[this];simp
theorem KF{l:List UInt8}(hk:0<l.length)(h:EF (l.getD 0 0)=false):Cq l=false:=by
 have:EF (l.headD 0)=false:=by
  cases l with
  |nil=>simp at hk
  |cons c r=>exact h
 unfold Cq;rw[this];simp
theorem Fo(l:List UInt8)(w:World)(hl:l.length≤1000000) :
  Calls Tryz.prog 78 #[.string ⟨l.toArray⟩] w fun e w'=>e=.returned (.bool (Cq l))∧Below w.heap.size w w':=by
 have hsz:(⟨l.toArray⟩:ByteArray).size=l.length:=by simp[ByteArray.size]
 obtain⟨r,hr⟩:∃ r,Cq l=r:=⟨_,rfl⟩
 rw[hr];replace hr:=Az hr;go_enter Tryz.func78,Tryz.ntmps78;go_wp2;go_loopw [3,4] (fun v3 v4 wr=>∃ pos,pos≤l.length∧wr=w.iter ⟨l.toArray⟩ pos∧Af (Sg l pos)) (fun _ _ wr=>l.length-posOf w.heap.size wr)
 case atStart=>exact⟨0,Nat.zero_le _,rfl,⟨fun j hj=>by omega,fun h=>by omega⟩⟩
 case round =>
  obtain⟨pos,hp,rfl,hok⟩:=hrel;have hB:Below w.heap.size w (w.iter ⟨l.toArray⟩ pos):=(Below.refl _ w).alloc (Nl _) _;by_cases hlt:pos<l.length
  ·have hnx:=fun ty=>LJ (P:=Tryz.prog) w ⟨l.toArray⟩ pos ty (by rw[hsz];exact hlt)
   have hg:=Xp l pos hlt;have hb:=(l.getD pos 0).toNat_lt;by_cases ha:(l.getD pos 0).toNat<128
   ·have hd:Utf8.decode ⟨l.toArray⟩ pos=((l.getD pos 0).toNat,1):=by
     rw[decode_ascii ⟨l.toArray⟩ pos (by rw[hsz];exact hlt) (by
      have:(⟨l.toArray⟩:ByteArray)[pos]'(by rw[hsz];exact hlt)=l.getD pos 0:=by
       simp[List.getD_eq_getElem?_getD,List.getElem?_eq_getElem hlt];rfl
      rw[this];exact ha)]
     congr 2
     simp[List.getD_eq_getElem?_getD,List.getElem?_eq_getElem hlt];rfl
    simp only[hd]at hnx;have hlow:EF (l.getD pos 0)=decide (97≤(l.getD pos 0).toNat∧(l.getD pos 0).toNat≤122):=rfl;have hdig:LK (l.getD pos 0)=decide (48≤(l.getD pos 0).toNat∧(l.getD pos 0).toNat≤57):=rfl;have hB2:Below w.heap.size w (w.iter ⟨l.toArray⟩ (pos+1)):=(Below.refl _ w).alloc (Nl _) _;have hstep:=fun h h0=>Ms (l:=l) hok.out h h0
    have hbad:=fun h=>IX (l:=l) hlt h
    have hbad0:pos=0→EF (l.getD pos 0)=false→Cq l=false:=fun e h=>KF (by omega) (by rw[e]at h;exact h)
    have hz:pos=0→EF (l.getD pos 0)=true→EF (l.getD 0 0)=true:=fun e h=>by rw[e]at h;exact h
    rw[hlow,hdig]at hstep hbad;rw[hlow]at hbad0 hz;clear hg hd hlow hdig;generalize (l.getD pos 0).toNat=b at *;by_cases c1:b<97
    ·have r1:decide ((b:Int)<97)=true:=decide_eq_true (by omega);by_cases h0:pos=0
     ·obtain rfl:r=false:=by rw[←hr.out,hbad0 h0 (decide_eq_false (by omega))]
      subst h0;clear hstep hbad hbad0 hz hok;go_wp2;go_ret;exact⟨rfl,hB2⟩
     ·have q0:((pos:Int)==0)=false:=Bq (by omega);by_cases c3:b<48
      ·have r3:decide ((b:Int)<48)=true:=decide_eq_true (by omega);obtain rfl:r=false:=by rw[←hr.out,hbad (by rw[decide_eq_false (by omega),decide_eq_false (by omega)];rfl)]
       go_wp2;go_ret;exact⟨rfl,hB2⟩
      ·have r3:decide ((b:Int)<48)=false:=decide_eq_false (by omega);by_cases c4:57<b
       ·have r4:decide (57<(b:Int))=true:=decide_eq_true (by omega);obtain rfl:r=false:=by rw[←hr.out,hbad (by rw[decide_eq_false (by omega),decide_eq_false (by omega)];rfl)]
        go_wp2;go_ret;exact⟨rfl,hB2⟩
       ·have r4:decide (57<(b:Int))=false:=decide_eq_false (by omega);have hok':=Az (hstep (by rw[decide_eq_false (by omega),decide_eq_true (by omega)];rfl) (fun e=>absurd e h0));clear hstep hbad hbad0 hz hok;go_wp2;go_roundw
        case rel=>exact⟨pos+1,by omega,rfl,hok'⟩
        case measure=>rw[Gk,Gk];omega
    ·have r1:decide ((b:Int)<97)=false:=decide_eq_false (by omega);by_cases c2:122<b
     ·have r2:decide (122<(b:Int))=true:=decide_eq_true (by omega);have r3:decide ((b:Int)<48)=false:=decide_eq_false (by omega);have r4:decide (57<(b:Int))=true:=decide_eq_true (by omega);obtain rfl:r=false:=by rw[←hr.out,hbad (by rw[decide_eq_false (by omega),decide_eq_false (by omega)];rfl)]
      by_cases h0:pos=0
      ·subst h0;clear hstep hbad hbad0 hz hok;go_wp2;go_ret;exact⟨rfl,hB2⟩
      ·have q0:((pos:Int)==0)=false:=Bq (by omega);go_wp2;go_ret;exact⟨rfl,hB2⟩
     ·have r2:decide (122<(b:Int))=false:=decide_eq_false (by omega);have hl':decide (97≤b∧b≤122)=true:=decide_eq_true (by omega);have hok':=Az (hstep (by rw[hl'];rfl) (fun e=>hz e hl'));clear hstep hbad hbad0 hz hok;go_wp2;go_roundw
      case rel=>exact⟨pos+1,by omega,rfl,hok'⟩
      case measure=>rw[Gk,Gk];omega
   ·have hd:=Sf ⟨l.toArray⟩ pos (by rw[hg];omega);have hbad:=IX hlt (show(EF (l.getD pos 0)||LK (l.getD pos 0))=false by unfold EF LK;rw[decide_eq_false (by omega),decide_eq_false (by omega)];rfl);generalize (Utf8.decode ⟨l.toArray⟩ pos).1=R at hnx hd;generalize (Utf8.decode ⟨l.toArray⟩ pos).2=sz at hnx;have hB2:Below w.heap.size w (w.iter ⟨l.toArray⟩ (pos+sz)):=(Below.refl _ w).alloc (Nl _) _;have r1:decide ((R:Int)<97)=false:=decide_eq_false (by omega);have r2:decide (122<(R:Int))=true:=decide_eq_true (by omega);have r3:decide ((R:Int)<48)=false:=decide_eq_false (by omega);have r4:decide (57<(R:Int))=true:=decide_eq_true (by omega);obtain rfl:r=false:=by rw[←hr.out,hbad]
    clear hg hb ha hbad hd;by_cases h0:pos=0
    ·subst h0;go_wp2;go_ret;exact⟨rfl,by simpa using hB2⟩
    ·have q0:((pos:Int)==0)=false:=Bq (by omega);go_wp2;go_ret;exact⟨rfl,hB2⟩
  ·obtain rfl:pos=l.length:=by omega
   have hnx:=fun ty=>run_next_end (P:=Tryz.prog) w ⟨l.toArray⟩ l.length ty (by rw[hsz];omega)
   have hr':=hr.out;by_cases h1:1≤l.length
   ·obtain⟨ha,hb⟩:=O2 hok.out (by omega);have g1:decide (1≤(l.length:Int))=true:=decide_eq_true (by omega);by_cases h2:l.length≤16
    ·have g2:decide ((l.length:Int)≤16)=true:=decide_eq_true (by omega);obtain rfl:r=true:=by rw[←hr'];unfold Cq;rw[ha,hb,decide_eq_true ⟨h1,h2⟩];rfl
     clear hr hr' ha hb hok;go_wp2;exact bodyPost_ret (fn:=Tryz.f78) (results_tmp rfl _ _ _) rfl ⟨rfl,hB⟩
    ·have g2:decide ((l.length:Int)≤16)=false:=decide_eq_false (by omega);obtain rfl:r=false:=by rw[←hr'];unfold Cq;rw[decide_eq_false (fun h=>h2 h.2)];rfl
     clear hr hr' ha hb hok;go_wp2;go_ret;exact⟨by first |rfl |(simp;omega),hB⟩
   ·have g1:decide (1≤(l.length:Int))=false:=decide_eq_false (by omega);obtain rfl:r=false:=by rw[←hr'];unfold Cq;rw[decide_eq_false (fun h=>h1 h.1)];rfl
    clear hr hr' hok;go_wp2;go_ret;exact⟨by first |rfl |(simp;omega),hB⟩
end
end Go.Proofs.YtnmahobjmpdkdaaGreatDoor
