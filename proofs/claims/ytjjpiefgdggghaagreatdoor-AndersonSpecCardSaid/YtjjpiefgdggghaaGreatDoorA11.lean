/- Parts: WTab, AsmDig, Fair, FairS, Acc. -/
import Derived.Test.YtjjpiefgdggghaaGreatDoorA10
import Derived.Test.YtjjpiefgdggghaaGreatDoorA01
import Derived.Test.YtjjpiefgdggghaaGreatDoorA03
import Derived.Test.YtjjpiefgdggghaaGreatDoorProg
import Derived.Test.YtjjpiefgdggghaaGreatDoorA06
set_option linter.unusedVariables false
set_option linter.unusedSimpArgs false
set_option maxRecDepth 100000
set_option maxHeartbeats 40000000
namespace Go.Proofs.YtjjpiefgdggghaaGreatDoorW.PrintLast
section
open Go.Proofs.YtjjpiefgdggghaaGreatDoorW.PrintWords (Ag)
def Gw(md:Region.Mode)(o:Oper):List Nat:=(o.after.toList.filter (fun e=>Region.binds md e)).map (fun e=>e.on)
def Ll(md:Region.Mode)(ops:Array Oper)(i:Nat)(oi:Oper):List Nat:=(List.range ops.size).filter fun j=>!(j==i)&&match ops[j]? with
 |some oj=>!(oj.after.any (fun e=>Region.binds md e&&e.on==i)||oi.apart ops oj)
 |none=>false
def Fp(md:Region.Mode)(ops:Array Oper):Bool×List (List Nat×List Nat):=(Region.noSelect ops,(List.range ops.size).map fun i=>match ops[i]? with
 |some o=>(Gw md o,Ll md ops i o)
 |none=>([],[]))
def Gx(T:List (List Nat×List Nat))(l:List Bool)(i:Nat):Bool:=!l.getD i true&&match T[i]? with
 |some r=>r.1.all (fun j=>l.getD j false)
 |none=>false
def Io(T:List (List Nat×List Nat))(l:List Bool):List Nat:=(List.range T.length).filter (Gx T l)
def Rh(T:List (List Nat×List Nat))(l:List Bool)(i:Nat):Bool:=match T[i]? with
 |some r=>r.2.all (fun j=>l.getD j true)
 |none=>false
def Lm(T:List (List Nat×List Nat))(i:Nat):Nat→Nat→Bool
 |0,_=>false
 |fuel+1,d=>match T[d]? with
  |some r=>r.1.any fun j=>j==i||Lm T i fuel j
  |none=>false
def TU(T:List (List Nat×List Nat))(l:List Bool)(ds:List Nat)(i:Nat):Bool:=ds.all fun d=>l.getD d true||Lm T i T.length d
section
variable {md:Region.Mode} {ops:Array Oper} {T:Bool×List (List Nat×List Nat)} {l l' li lj lk:Array Bool} {ds:List Nat} {i j k:Nat}
theorem gd(l:Array Bool)(j:Nat)(b:Bool):l.getD j b=l.toList.getD j b:=by simp[Array.getD_eq_getD_getElem?,List.getD_eq_getElem?_getD]
theorem PD(o:Oper)(p:Nat→Bool):o.after.all (fun e=>!Region.binds md e||p e.on)=(Gw md o).all p:=by
 unfold Gw;rw[←Array.all_toList];induction o.after.toList with
 |nil=>rfl
 |cons e r ih =>
  rw[List.all_cons,ih,List.filter_cons];cases h:Region.binds md e<;>simp
theorem PE(o:Oper)(p:Nat→Bool):o.after.any (fun e=>Region.binds md e&&p e.on)=(Gw md o).any p:=by
 unfold Gw;rw[←Array.any_toList];induction o.after.toList with
 |nil=>rfl
 |cons e r ih =>
  rw[List.any_cons,ih,List.filter_cons];cases h:Region.binds md e<;>simp
theorem Gg:(Fp md ops).2.length=ops.size:=by simp[Fp]
theorem Ip{o:Oper}(h:ops[i]?=some o):(Fp md ops).2[i]?=some (Gw md o,Ll md ops i o):=by
 have hi:=(Array.getElem?_eq_some_iff.1 h).1;unfold Fp;rw[List.getElem?_map,List.getElem?_range hi,Option.map_some,h]
theorem Iq(h:ops[i]?=none):(Fp md ops).2[i]?=none:=by
 have hi:ops.size≤i:=Array.getElem?_eq_none_iff.1 h;exact List.getElem?_eq_none (by rw[Gg];exact hi)
theorem NL:Gx (Fp md ops).2 l.toList i=(!l.getD i true&&((ops[i]?).map (·.after.all fun e=>!Region.binds md e||l.getD e.on false)).getD false):=by
 unfold Gx;rw[gd];cases h:ops[i]? with
 |none=>rw[Iq h];rfl
 |some o =>
  rw[Ip h];simp only[Option.map_some,Option.getD_some];rw[←PD];simp only[gd]
theorem H7:Region.ready md ops l=Io (Fp md ops).2 l.toList:=by
 unfold Region.ready Io;rw[Gg];refine List.filter_congr (fun i _=>?_);rw[NL]
theorem SI:Region.free md ops l i=Rh (Fp md ops).2 l.toList i:=by
 unfold Region.free Rh;cases h:ops[i]? with
 |none=>rw[Iq h]
 |some oi =>
  rw[Ip h];simp only[Ll];rw[List.all_filter]
  congr 1
  funext j
  rw[gd];cases hj:ops[j]? with
  |none=>cases (j==i)<;>cases (l.toList.getD j true)<;>simp
  |some oj =>
   cases (j==i)<;>cases (l.toList.getD j true)<;>cases (oj.after.any (fun e=>Region.binds md e&&e.on==i)||oi.apart ops oj)<;>simp_all
theorem M6:∀ (fuel d:Nat),Region.Ln md ops i fuel d=Lm (Fp md ops).2 i fuel d
 |0,_=>rfl
 |fuel+1,d=>by
  unfold Region.Ln Lm;cases h:ops[d]? with
  |none=>rw[Iq h]
  |some o =>
   rw[Ip h];simp only;rw[←PE]
   congr 1
   funext e
   rw[M6 fuel]
theorem IX:Region.TV md ops l ds i=TU (Fp md ops).2 l.toList ds i:=by
 unfold Region.TV TU;rw[Gg]
 congr 1
 funext d
 rw[gd,M6]
theorem M7(h:Gx T.2 l.toList i=true)(hT:Fp md ops=T):(Region.ready md ops l).contains i=true:=by
 subst hT;rw[H7];unfold Io;rw[List.contains_iff_mem,List.mem_filter,List.mem_range];refine⟨?_,h⟩;unfold Gx at h;rw[Bool.and_eq_true]at h;cases hq:(Fp md ops).2[i]? with
 |none=>rw[hq]at h;simp at h
 |some r=>exact(List.getElem?_eq_some_iff.1 hq).1
theorem Lo(h:(l.toList.set i true==l'.toList)=true):(l.setIfInBounds i true==l')=true:=by
 rw[beq_iff_eq]at h ⊢;apply Array.ext';rw[Array.toList_setIfInBounds];exact h
def Vp(T:Bool×List (List Nat×List Nat))(l l':List Bool)(i:Nat):Bool:=T.1&&Rh T.2 l i&&Gx T.2 l i&&(l.set i true==l')
theorem Gh(hT:Fp md ops=T)(h:Vp T l.toList l'.toList i=true):SJ md ops l l' i=true:=by
 simp only[Vp,Bool.and_eq_true]at h;obtain⟨⟨⟨h1,h2⟩,h3⟩,h4⟩:=h;have h5:=M7 h3 hT;have h6:=Lo h4;subst hT;simp only[SJ,Bool.and_eq_true];exact⟨⟨⟨h1,by rw[SI];exact h2⟩,h5⟩,h6⟩
theorem Lp(hT:Fp md ops=T)(h:(Io T.2 l.toList==[i]&&l.toList.set i true==l'.toList)=true):Lq md ops l l' i=true:=by
 simp only[Bool.and_eq_true]at h;obtain⟨h1,h2⟩:=h;subst hT;simp only[Lq,Bool.and_eq_true];exact⟨by rw[H7];exact h1,Lo h2⟩
theorem Ri(hT:Fp md ops=T)(h:(Io T.2 l.toList==[i,j]&&l.toList.set i true==li.toList&&l.toList.set j true==lj.toList)=true):(Region.ready md ops l==[i,j]&&l.setIfInBounds i true==li&&l.setIfInBounds j true==lj)=true:=by
 simp only[Bool.and_eq_true]at h ⊢;obtain⟨⟨h1,h2⟩,h3⟩:=h;subst hT;exact⟨⟨by rw[H7];exact h1,Lo h2⟩,Lo h3⟩
theorem SK(hT:Fp md ops=T)(h:(Io T.2 l.toList==[])=true):(Region.ready md ops l==[])=true:=by
 subst hT;rw[H7];exact h
def Wr(B:List Nat)(d:Nat):List Nat→Nat
 |[]=>0
 |n::r=>(2 ^ n ||| (if n<d then B.getD n 0 else 0)) ||| Wr B d r
def Lr(T:List (List Nat×List Nat))(B:List Nat):Bool:=(List.range T.length).all fun d=>match T[d]? with
 |some r=>(B.getD d 0 ||| Wr B d r.1)==Wr B d r.1
 |none=>false
theorem PF{P:Program}{Q:Exit→Act→World→Prop}{S:World→Prop}{n:Nat}{a:Act}{w:World}{B:List Nat}(hT:Fp md ops=T)(hB:Lr T.2 B=true)(h:Ag (Fp md ops=T)→Ag (Lr T.2 B=true)→AM P md ops Q S ds n l a w):AM P md ops Q S ds n l a w:=h ⟨hT⟩ ⟨hB⟩
end
def GJ:Code→Nat→Option (Array Oper)
 |.region id ops _,k=>if id==k then some ops else none
 |.seq a b,k=>match GJ a k with
  |some o=>some o
  |none=>GJ b k
 |.cond _ a b,k=>match GJ a k with
  |some o=>some o
  |none=>GJ b k
 |.block _ c,k=>GJ c k
 |.loop c,k=>GJ c k
 |.scope c,k=>GJ c k
 |.rangeFunc _ _ a b,k=>match GJ a k with
  |some o=>some o
  |none=>GJ b k
 |_,_=>none
def opsOf(f:Func)(k:Nat):Array Oper:=((f.body.bind fun c=>GJ c k)).getD #[]
end
end Go.Proofs.YtjjpiefgdggghaaGreatDoorW.PrintLast
namespace Go.Proofs.YtjjpiefgdggghaaGreatDoor
section
open Go.RowKit Go.Proofs.YtjjpiefgdggghaaGreatDoorW.PrintWords Go.Proofs.YtjjpiefgdggghaaGreatDoorW.PrintLast
section
variable {P:Program} {ops:Array Oper} {rest:List Oper} {o:Oper} {a:Act} {Q:Exit→Act→World→Prop} {W:World}
theorem Ja{f:FuncId}{xs:Array Operand}{ts:Array TypeId}(_:o.op=.call {callee:=.value (.func f),args:=xs,argTypes:=ts})(h:wpList P ops Q (o::rest) a W):wpList P ops Q (o::rest) a W:=h
end
def Ah.l0:Nat→ByteArray→Int→Int→Option (Int)
 |0,_,_,_=>none
 |k+1,x0,x1,x5=>if x5≥0 then (if 0≤x5 then (if x5<(x0.size:Int) then (if (bt x0 x5)=x1 then (some x5) else (Ah.l0 k x0 x1 (wrap64 (x5-1)))) else (none)) else (none)) else (some (-1))
def Ah.f(k:Nat)(a0:ByteArray)(a1:Int):Option (Int):=Ah.l0 k a0 a1 (wrap64 ((a0.size:Int)-1))
theorem Ah.DW:∀ k,(∀ y0 y1 y2,Co (Ah.l0 k y0 y1 y2) (Ah.l0 (k+1) y0 y1 y2))
 |0=>fun _ _ _ r h=>by simp[Ah.l0]at h
 |k+1=>by
  have ih0:=Ah.DW k
  ·intro y0 y1 y2;unfold Ah.l0;repeat' first
   |(with_reducible exact ih0 _ _ _)
   |(with_reducible exact Co.refl _)
   |(with_reducible exact Co.none _)
   |(with_reducible refine Co.ite ?_ ?_)
   |(with_reducible refine Co.bind ?_ (fun _=>?_))
   |exact ih0 _ _ _
   |exact Co.none _
   |refine Co.ite ?_ ?_
   |refine Co.bind ?_ (fun _=>?_)
theorem Ah.mono:∀ a0 a1 k,Co (Ah.f k a0 a1) (Ah.f (k+1) a0 a1):=by
 intro a0 a1 k;have ih0:=Ah.DW k;unfold Ah.f;repeat' first
  |(with_reducible exact ih0 _ _ _)
  |(with_reducible exact Co.refl _)
  |(with_reducible exact Co.none _)
  |(with_reducible refine Co.ite ?_ ?_)
  |(with_reducible refine Co.bind ?_ (fun _=>?_))
  |exact ih0 _ _ _
  |exact Co.none _
  |refine Co.ite ?_ ?_
  |refine Co.bind ?_ (fun _=>?_)
theorem Ah.calls(k:Nat)(a0:ByteArray)(a1:Int)(r:Int)(w:World)(h:Ah.f k a0 a1=some r) :
  Calls Tryz.prog 144 #[.string a0,.int .u8 a1] w fun e w'=>e=.returned (.int .i64 r)∧AE w w':=by
 have H:(Ah.l0 k a0 a1 (wrap64 ((a0.size:Int)-1)))=some r:=h;clear h;have H':=Az H;clear H;go_enter Tryz.func144,Tryz.ntmps144;go_wp2;go_loopg [5] k (fun kq v5 w'=>∃ (x5_1:Int),v5=.int .i64 x5_1∧Ag (Ah.l0 kq a0 a1 x5_1=some r)∧Ag (kq≤k)∧AE w w')
 case atStart=>exact⟨(wrap64 ((a0.size:Int)-1)),(by first |rfl |(simp;done) |(simp[*];done)),H',⟨Nl _⟩,by repeat (first |exact AE.refl _ |apply AE.step)⟩
 case round =>
  clear H';try clear c1
  try clear p2
  obtain⟨x5_1,rfl,HA,HK1,⟨m1,rfl⟩⟩:=hrel;cases gk with
  |zero=>exact absurd HA.out (by simp[Ah.l0])
  |succ k1 =>
   have H:=HA.out;clear HA;simp only[Ah.l0]at H;by_cases c3:x5_1≥0
   ·rw[if_pos c3]at H;have c3b0:decide (0≤x5_1)=true:=decide_eq_true c3;clear c3;by_cases c4:0≤x5_1
    ·rw[if_pos c4]at H;have c4b0:decide (0≤x5_1)=true:=decide_eq_true c4;clear c4;by_cases c5:x5_1<(a0.size:Int)
     ·rw[if_pos c5]at H;have c5b0:decide (x5_1<(a0.size:Int))=true:=decide_eq_true c5;clear c5;by_cases c7:(bt a0 x5_1)=a1
      ·rw[if_pos c7]at H;have c7b0:((bt a0 x5_1)==a1)=true:=beq_iff_eq.mpr c7;have c7b1:((bt a0 x5_1) != a1)=false:=bne_eq_false_iff_eq.mpr c7;clear c7;obtain rfl:=Option.some.inj H;have p6:0≤(x5_1:Int):=of_decide_eq_true (by first |(with_reducible assumption) |assumption);have q6:x5_1<(a0.size:Int):=of_decide_eq_true (by first |(with_reducible assumption) |assumption);have hx6:=Dz a0 x5_1;replace p6:=eq_true p6;replace q6:=eq_true q6;go_wp2;go_ret;exact⟨by first |rfl |(simp;done) |(simp[*];done),by repeat (first |exact AE.refl _ |apply AE.step)⟩
      ·rw[if_neg c7]at H;have c7b0:((bt a0 x5_1)==a1)=false:=beq_eq_false_iff_ne.mpr c7;have c7b1:((bt a0 x5_1) != a1)=true:=bne_iff_ne.mpr c7;have H':=Az H;clear H;have p6:0≤(x5_1:Int):=of_decide_eq_true (by first |(with_reducible assumption) |assumption);have q6:x5_1<(a0.size:Int):=of_decide_eq_true (by first |(with_reducible assumption) |assumption);have hx6:=Dz a0 x5_1;replace p6:=eq_true p6;replace q6:=eq_true q6;go_wp2;go_roundg k1
       case measure=>have:=HK1.out;omega
       case rel=>exact⟨(wrap64 (x5_1-1)),(by first |rfl |(simp;done) |(simp[*];done)),H',⟨by have:=HK1.out;omega⟩,by repeat (first |exact AE.refl _ |apply AE.step)⟩
     ·rw[if_neg c5]at H;exact absurd H (by simp)
    ·rw[if_neg c4]at H;exact absurd H (by simp)
   ·rw[if_neg c3]at H;have c3b0:decide (0≤x5_1)=false:=decide_eq_false c3;clear c3;obtain rfl:=Option.some.inj H;go_wp2;go_ret;exact⟨by first |rfl |(simp;done) |(simp[*];done),by repeat (first |exact AE.refl _ |apply AE.step)⟩
def AR.f(k:Nat)(a0:ByteArray)(a1:Int):Option (Int):=(Ah.f k a0 a1).bind fun t223=>(some t223)
theorem AR.mono:∀ a0 a1 k,Co (AR.f k a0 a1) (AR.f (k+1) a0 a1):=by
 intro a0 a1 k;unfold AR.f;repeat' first
  |(with_reducible exact Ah.mono _ _ _)
  |(with_reducible exact Co.refl _)
  |(with_reducible exact Co.none _)
  |(with_reducible refine Co.ite ?_ ?_)
  |(with_reducible refine Co.bind ?_ (fun _=>?_))
  |exact Ah.mono _ _ _
  |exact Co.none _
  |refine Co.ite ?_ ?_
  |refine Co.bind ?_ (fun _=>?_)
theorem AR.calls(k:Nat)(a0:ByteArray)(a1:Int)(r:Int)(w:World)(h:AR.f k a0 a1=some r) :
  Calls Tryz.prog 121 #[.string a0,.int .u8 a1] w fun e w'=>e=.returned (.int .i64 r)∧AE w w':=by
 have H:((Ah.f k a0 a1).bind fun t223=>(some t223))=some r:=h;clear h;replace H:=Option.bind_eq_some_iff.mp H;obtain⟨t223,A30,H⟩:=H;replace H:(some t223)=some r:=H;have A3:=Az A30;clear A30;obtain rfl:=Option.some.inj H;go_enter Tryz.func121,Tryz.ntmps121;go_wp2_with (first |((with_reducible refine Ja (f:=144) rfl ?_);refine L8 (some 7) rfl rfl Tryz.func144 (by kernel_rfl) rfl #[.string a0,.int .u8 a1] rfl (by(try simp only[List.map_toArray,List.map_cons,List.map_nil]);first |done |rfl |(simp only[List.length_drop,List.length_take];rfl)) ?_;(with_reducible refine(Ah.calls k a0 a1 t223 _ A3.out).mono ?_);rintro e w' ⟨rfl,⟨nd,rfl⟩⟩;refine⟨_,rfl,?_⟩))
 go_ret;exact⟨by first |rfl |(simp;done) |(simp[*];done),by repeat (first |exact AE.refl _ |apply AE.step)⟩
def B0.f(a0:ByteArray)(a1:ByteArray):Option (Bool):=if (a0.size:Int)≥(a1.size:Int) then (if 0≤(wrap64 ((a0.size:Int)-(a1.size:Int))) then (if (wrap64 ((a0.size:Int)-(a1.size:Int)))≤(a0.size:Int) then (some ((a0.extract ((wrap64 ((a0.size:Int)-(a1.size:Int))):Int).toNat a0.size).toList==a1.toList)) else (none)) else (none)) else (some false)
theorem B0.calls(a0:ByteArray)(a1:ByteArray)(r:Bool)(w:World)(h:B0.f a0 a1=some r) :
  Calls Tryz.prog 143 #[.string a0,.string a1] w fun e w'=>e=.returned (.bool r)∧AE w w':=by
 have H:(if (a0.size:Int)≥(a1.size:Int) then (if 0≤(wrap64 ((a0.size:Int)-(a1.size:Int))) then (if (wrap64 ((a0.size:Int)-(a1.size:Int)))≤(a0.size:Int) then (some ((a0.extract ((wrap64 ((a0.size:Int)-(a1.size:Int))):Int).toNat a0.size).toList==a1.toList)) else (none)) else (none)) else (some false))=some r:=h;clear h;by_cases c3:(a0.size:Int)≥(a1.size:Int)
 ·rw[if_pos c3]at H;have c3b0:decide ((a1.size:Int)≤(a0.size:Int))=true:=decide_eq_true c3;have c3b1:decide (a1.size≤a0.size)=true:=decide_eq_true (Int.ofNat_le.mp c3);clear c3;obtain⟨ji4,hji4⟩:∃ j_:Int,(wrap64 ((a0.size:Int)-(a1.size:Int)))=j_:=⟨_,rfl⟩
  replace H:(if 0≤(ji4) then (if (ji4)≤(a0.size:Int) then (some ((a0.extract ((ji4):Int).toNat a0.size).toList==a1.toList)) else (none)) else (none))=some r:=by first |(rw[hji4]at H;exact H) |(simp only[hji4]at H ⊢;exact H)
  have hji4w:(IntKind.i64.wrap ((a0.size:Int)-(a1.size:Int)))=ji4:=(D9 _).trans hji4;by_cases c5:0≤(ji4)
  ·rw[if_pos c5]at H;have c5b0:=eq_true c5;have c5b1:decide (0≤(ji4))=true:=decide_eq_true c5;clear c5;by_cases c6:(ji4)≤(a0.size:Int)
   ·rw[if_pos c6]at H;have c6b0:=eq_true c6;have c6b1:decide ((ji4)≤(a0.size:Int))=true:=decide_eq_true c6;clear c6;obtain rfl:=Option.some.inj H;go_enter Tryz.func143,Tryz.ntmps143;go_wp2;go_ret;exact⟨by first |rfl |(simp;done) |(simp only[←hji4]<;>(first |rfl |simp)) |(simp[*];done),by repeat (first |exact AE.refl _ |apply AE.step)⟩
   ·rw[if_neg c6]at H;exact absurd H (by simp)
  ·rw[if_neg c5]at H;exact absurd H (by simp)
 ·rw[if_neg c3]at H;have c3b0:decide ((a1.size:Int)≤(a0.size:Int))=false:=decide_eq_false c3;have c3b1:decide (a1.size≤a0.size)=false:=decide_eq_false (fun h=>c3 (Int.ofNat_le.mpr h));clear c3;obtain rfl:=Option.some.inj H;go_enter Tryz.func143,Tryz.ntmps143;go_wp2;go_ret;exact⟨by first |rfl |(simp;done) |(simp[*];done),by repeat (first |exact AE.refl _ |apply AE.step)⟩
def BD.f(a0:ByteArray)(a1:ByteArray):Option (ByteArray×Bool):=(B0.f a0 a1).bind fun t220=>(if t220=true then (if 0≤(wrap64 ((a0.size:Int)-(a1.size:Int))) then (if (wrap64 ((a0.size:Int)-(a1.size:Int)))≤(a0.size:Int) then (some (a0.extract 0 ((wrap64 ((a0.size:Int)-(a1.size:Int))):Int).toNat,true)) else (none)) else (none)) else (some (a0,false)))
theorem BD.calls(a0:ByteArray)(a1:ByteArray)(r1:ByteArray)(r2:Bool)(w:World)(h:BD.f a0 a1=some (r1,r2)) :
  Calls Tryz.prog 120 #[.string a0,.string a1] w fun e w'=>e=.returned (.tuple #[.string r1,.bool r2])∧AE w w':=by
 have H:((B0.f a0 a1).bind fun t220=>(if t220=true then (if 0≤(wrap64 ((a0.size:Int)-(a1.size:Int))) then (if (wrap64 ((a0.size:Int)-(a1.size:Int)))≤(a0.size:Int) then (some (a0.extract 0 ((wrap64 ((a0.size:Int)-(a1.size:Int))):Int).toNat,true)) else (none)) else (none)) else (some (a0,false))))=some (r1,r2):=h;clear h;replace H:=Option.bind_eq_some_iff.mp H;obtain⟨t220,A30,H⟩:=H;replace H:(if t220=true then (if 0≤(wrap64 ((a0.size:Int)-(a1.size:Int))) then (if (wrap64 ((a0.size:Int)-(a1.size:Int)))≤(a0.size:Int) then (some (a0.extract 0 ((wrap64 ((a0.size:Int)-(a1.size:Int))):Int).toNat,true)) else (none)) else (none)) else (some (a0,false)))=some (r1,r2):=H;have A3:=Az A30;clear A30;by_cases c4:t220=true
 ·subst c4;have H1:(if 0≤(wrap64 ((a0.size:Int)-(a1.size:Int))) then (if (wrap64 ((a0.size:Int)-(a1.size:Int)))≤(a0.size:Int) then (some (a0.extract 0 ((wrap64 ((a0.size:Int)-(a1.size:Int))):Int).toNat,true)) else (none)) else (none))=some (r1,r2):=by rw[if_pos rfl]at H;exact H
  clear H;have H:=H1;clear H1;obtain⟨ji5,hji5⟩:∃ j_:Int,(wrap64 ((a0.size:Int)-(a1.size:Int)))=j_:=⟨_,rfl⟩
  replace H:(if 0≤(ji5) then (if (ji5)≤(a0.size:Int) then (some (a0.extract 0 ((ji5):Int).toNat,true)) else (none)) else (none))=some (r1,r2):=by first |(rw[hji5]at H;exact H) |(simp only[hji5]at H ⊢;exact H)
  (try rw[hji5]at A3)
  have hji5w:(IntKind.i64.wrap ((a0.size:Int)-(a1.size:Int)))=ji5:=(D9 _).trans hji5;by_cases c6:0≤(ji5)
  ·rw[if_pos c6]at H;have c6b0:=eq_true c6;have c6b1:decide (0≤(ji5))=true:=decide_eq_true c6;clear c6;by_cases c7:(ji5)≤(a0.size:Int)
   ·rw[if_pos c7]at H;have c7b0:=eq_true c7;have c7b1:decide ((ji5)≤(a0.size:Int))=true:=decide_eq_true c7;clear c7;simp only[Option.some.injEq,Prod.mk.injEq]at H;obtain⟨rfl,rfl⟩:=H;go_enter Tryz.func120,Tryz.ntmps120;go_wp2_with (first |((with_reducible refine Ja (f:=143) rfl ?_);refine L8 (some 8) rfl rfl Tryz.func143 (by kernel_rfl) rfl #[.string a0,.string a1] rfl (by(try simp only[List.map_toArray,List.map_cons,List.map_nil]);first |done |rfl |(simp only[List.length_drop,List.length_take];rfl)) ?_;(with_reducible refine(B0.calls a0 a1 true _ A3.out).mono ?_);rintro e w' ⟨rfl,⟨nd,rfl⟩⟩;refine⟨_,rfl,?_⟩))
    go_ret2
    exact⟨by first |rfl |(simp;done) |(simp only[←hji5]<;>(first |rfl |simp)) |(simp[*];done),by repeat (first |exact AE.refl _ |apply AE.step)⟩
   ·rw[if_neg c7]at H;exact absurd H (by simp)
  ·rw[if_neg c6]at H;exact absurd H (by simp)
 ·replace c4:=Bool.eq_false_iff.mpr c4;subst c4;have H1:(some (a0,false))=some (r1,r2):=by rw[if_neg (show ¬(false=true) by decide)]at H;exact H
  clear H;have H:=H1;clear H1;simp only[Option.some.injEq,Prod.mk.injEq]at H;obtain⟨rfl,rfl⟩:=H;go_enter Tryz.func120,Tryz.ntmps120;go_wp2_with (first |((with_reducible refine Ja (f:=143) rfl ?_);refine L8 (some 8) rfl rfl Tryz.func143 (by kernel_rfl) rfl #[.string a0,.string a1] rfl (by(try simp only[List.map_toArray,List.map_cons,List.map_nil]);first |done |rfl |(simp only[List.length_drop,List.length_take];rfl)) ?_;(with_reducible refine(B0.calls a0 a1 false _ A3.out).mono ?_);rintro e w' ⟨rfl,⟨nd,rfl⟩⟩;refine⟨_,rfl,?_⟩))
  go_ret2
  exact⟨by first |rfl |(simp;done) |(simp[*];done),by repeat (first |exact AE.refl _ |apply AE.step)⟩
def C6.f(a0:ByteArray)(a1:ByteArray):Option (ByteArray×Bool):=(BD.f a0 a1).bind fun bt221=>(some (bt221.1,bt221.2))
theorem C6.calls(a0:ByteArray)(a1:ByteArray)(r1:ByteArray)(r2:Bool)(w:World)(h:C6.f a0 a1=some (r1,r2)) :
  Calls Tryz.prog 96 #[.string a0,.string a1] w fun e w'=>e=.returned (.tuple #[.string r1,.bool r2])∧AE w w':=by
 have H:((BD.f a0 a1).bind fun bt221=>(some (bt221.1,bt221.2)))=some (r1,r2):=h;clear h;replace H:=Option.bind_eq_some_iff.mp H;obtain⟨⟨t221,t222⟩,A30,H⟩:=H;replace H:(some (t221,t222))=some (r1,r2):=H;have A3:=Az A30;clear A30;simp only[Option.some.injEq,Prod.mk.injEq]at H;obtain⟨rfl,rfl⟩:=H;go_enter Tryz.func96,Tryz.ntmps96;go_wp2_with (first |((with_reducible refine Ja (f:=120) rfl ?_);refine L8 (some 8) rfl rfl Tryz.func120 (by kernel_rfl) rfl #[.string a0,.string a1] rfl (by(try simp only[List.map_toArray,List.map_cons,List.map_nil]);first |done |rfl |(simp only[List.length_drop,List.length_take];rfl)) ?_;(with_reducible refine(BD.calls a0 a1 t221 t222 _ A3.out).mono ?_);rintro e w' ⟨rfl,⟨nd,rfl⟩⟩;refine⟨_,rfl,?_⟩))
 go_ret2
 exact⟨by first |rfl |(simp;done) |(simp[*];done),by repeat (first |exact AE.refl _ |apply AE.step)⟩
end
section
def Bz:Nat→(Nat→Nat)→Nat
 |0,_=>0
 |n+1,f=>Bz n f+f n
theorem Gr{f g:Nat→Nat}:∀ n:Nat,(∀ t,t<n→f t=g t)→Bz n f=Bz n g
 |0,_=>rfl
 |n+1,h=>by rw[Bz,Bz,Gr n (fun t ht=>h t (by omega)),h n (by omega)]
theorem G7{f g:Nat→Nat}{t:Nat}:∀ n:Nat,t<n→(∀ u,u≠t→g u=f u)→Bz n g+f t=Bz n f+g t
 |n+1,ht,h=>by
  by_cases e:t=n
  ·subst e;rw[Bz,Bz,Gr t (fun u hu=>h u (by omega))];omega
  ·have:=G7 n (by omega) h;rw[Bz,Bz,h n (fun e'=>e e'.symm)];omega
theorem E4{f:Nat→Nat}:∀ n:Nat,(∀ t,t<n→f t=0)→Bz n f=0
 |0,_=>rfl
 |n+1,h=>by rw[Bz,E4 n (fun t ht=>h t (by omega)),h n (by omega)]
theorem Nb{f g:Nat→Nat}:∀ n:Nat,(∀ t,t<n→f t≤g t)→Bz n f≤Bz n g
 |0,_=>Nl _
 |n+1,h=>by
  have:=Nb n (fun t ht=>h t (by omega));have:=h n (by omega);rw[Bz,Bz];omega
theorem Gs(c:Nat):∀ n:Nat,Bz n (fun _=>c)=n*c
 |0=>by simp[Bz]
 |n+1=>by rw[Bz,Gs c n,Nat.succ_mul]
structure Fair (n R:Nat) (pg:Pg) (cells:List (Nat×Nat)) {σ:Type} (I:σ→LS→Prop) (rank:σ→Nat) (stuck:σ→Nat→Prop):Prop where
 call:∀ (r:AH) (s:LS) (g:σ) (t:Nat) (late:Int),C8 n pg cells r s→I g s→t<n→s.act t=0→∃ s' g',C8 n pg cells (r.op 1 t late) s'∧I g' s'∧s'.act=Cb s.act t 1∧rank g'≤rank g+R
 unlock:∀ (r:AH) (s:LS) (g:σ) (t:Nat) (late:Int),C8 n pg cells r s→I g s→t<n→s.act t=2→∃ s' g',C8 n pg cells (r.op 2 t late) s'∧I g' s'∧s'.act=Cb s.act t 3∧rank g'<rank g
 step:∀ (r:AH) (s:LS) (g:σ) (t:Nat) (kind late:Int),C8 n pg cells r s→I g s→t<n→s.act t=1∨s.act t=3→kind≠1→kind≠2→∃ s' g',C8 n pg cells (r.op kind t late) s'∧I g' s' ∧
  ((∃ a,s'.act=Cb s.act t a∧(s.act t=1∧(a=1∨a=2)∨s.act t=3∧(a=3∨a=0))∧rank g'<rank g)∨(g'=g∧s'.act=s.act∧stuck g t))
 prog:∀ (s:LS) (g:σ),I g s→(∀ t,t<n→s.act t=0∨stuck g t)→∀ t,t<n→s.act t=0
 act:∀ (s:LS) (g:σ),I g s→∀ t,t<n→s.act t≤3
 ok:∀ (s:LS) (g:σ),I g s→s.tr.ok=true
section
variable {n R:Nat} {pg:Pg} {cells:List (Nat×Nat)} {σ:Type} {I:σ→LS→Prop} {rank:σ→Nat} {stuck:σ→Nat→Prop}
theorem Fair.op(F:Fair n R pg cells I rank stuck)(r:AH)(s:LS)(h:C8 n pg cells r s)(hi:∃ g,I g s)(kind t late:Int):∃ s',C8 n pg cells (r.op kind t late) s'∧∃ g,I g s' :=
 R4 (I:=fun s=>∃ g,I g s) (fun r s t late h ⟨g,hi⟩ ht ha=>by obtain⟨s',g',h1,h2,_⟩:=F.call r s g t late h hi ht ha;exact⟨s',h1,g',h2⟩)
  (fun r s t late h ⟨g,hi⟩ ht ha=>by obtain⟨s',g',h1,h2,_⟩:=F.unlock r s g t late h hi ht ha;exact⟨s',h1,g',h2⟩)
  (fun r s t kind late h ⟨g,hi⟩ ht ha k1 k2=>by obtain⟨s',g',h1,h2,_⟩:=F.step r s g t kind late h hi ht ha k1 k2;exact⟨s',h1,g',h2⟩) r s h hi kind t late
theorem Fair.ops(F:Fair n R pg cells I rank stuck)(l:List (Int×Int×Int))(r:AH)(s:LS)(g:σ)(h:C8 n pg cells r s)(hi:I g s):∃ s' g',C8 n pg cells (r.ops l) s'∧I g' s':=by
 obtain⟨s',h1,g',h2⟩:=OD (I:=fun s=>∃ g,I g s) F.op l r s h ⟨g,hi⟩;exact⟨s',g',h1,h2⟩
theorem Fair.Ic(F:Fair n R pg cells I rank stuck)(h1:1≤n)(h2:n≤64){r:AH}{s:LS}{g:σ}(h:C8 n pg cells r s)(hi:I g s):r.Ic n=true:=h.Ic h1 h2 (F.ok s g hi)
theorem Fair.trace(F:Fair n R pg cells I rank stuck)(h1:1≤n)(h2:n≤64)(l:List (Int×Int×Int)){r:AH}{s:LS}{g:σ}(h:C8 n pg cells r s)(hi:I g s):(r.ops l).Ic n=true:=by
 obtain⟨s',g',h3,h4⟩:=F.ops l r s g h hi;exact F.Ic h1 h2 h3 h4
theorem Fair.DV(F:Fair n R pg cells I rank stuck){r:AH}{s:LS}{g:σ}{t:Nat}(h:C8 n pg cells r s)(hi:I g s)(ht:t<n) :
  ∃ s' g',C8 n pg cells (if s.act t=2 then r.op 2 t 0 else r.op 3 t 0) s'∧I g' s' ∧
   ((∃ a,s'.act=Cb s.act t a∧(s.act t=1∧(a=1∨a=2)∨s.act t=2∧a=3∨s.act t=3∧(a=3∨a=0))∧rank g'<rank g)∨(g'=g∧s'.act=s.act∧(s.act t=0∨s.act t≠0∧s.act t≠2∧stuck g t))):=by
 have h3:=F.act s g hi t ht;by_cases e2:s.act t=2
 ·rw[if_pos e2];obtain⟨s',g',a1,a2,a3,a4⟩:=F.unlock r s g t 0 h hi ht e2;exact⟨s',g',a1,a2,.inl ⟨3,a3,.inr (.inl ⟨e2,rfl⟩),a4⟩⟩
 ·rw[if_neg e2];by_cases e0:s.act t=0
  ·refine⟨s,g,?_,hi,.inr ⟨rfl,rfl,.inl e0⟩⟩;have ea:=h.act t ht;unfold AH.op;rw[if_neg (by rw[h.la,h.bad];simp;omega),if_neg (fun x=>by cases x.1),if_neg (fun x=>by cases x.1),if_neg (fun x=>by rw[Int.toNat_natCast,ea]at x;omega)];exact h
  ·obtain⟨s',g',a1,a2,a3⟩:=F.step r s g t 3 0 h hi ht (by omega) (by decide) (by decide);refine⟨s',g',a1,a2,?_⟩;rcases a3 with ⟨a,b1,b2,b3⟩ |⟨b1,b2,b3⟩
   ·exact .inl ⟨a,b1,by rcases b2 with b |b;exact .inl b;exact .inr (.inr b),b3⟩
   ·exact .inr ⟨b1,b2,.inr ⟨e0,e2,b3⟩⟩
theorem Fair.KR(F:Fair n R pg cells I rank stuck){r:AH}{s:LS}{g:σ}(h:C8 n pg cells r s)(hi:I g s):∀ k:Nat,k≤n →
  ∃ s' g',C8 n pg cells ((List.range k).foldl CU (r,false)).1 s'∧I g' s'∧(((List.range k).foldl CU (r,false)).2=true↔∃ t,t<k∧s'.act t≠0) ∧
   (rank g'<rank g∨(g'=g∧s'.act=s.act∧∀ t,t<k→s.act t=0∨stuck g t))
 |0,_=>⟨s,g,h,hi,by simp,.inr ⟨rfl,rfl,fun t ht=>by omega⟩⟩
 |k+1,hk=>by
  obtain⟨s1,g1,a1,a2,a3,a4⟩:=F.KR h hi k (by omega);rw[List.range_succ,List.foldl_append,List.foldl_cons,List.foldl_nil];generalize (List.range k).foldl CU (r,false)=v at a1 a3;obtain⟨r1,b1⟩:=v;dsimp only at a1 a3;obtain⟨s2,g2,c1,c2,c3⟩:=F.DV (t:=k) a1 a2 (by omega);have e1:(CU (r1,b1) k).1=if s1.act k=2 then r1.op 2 k 0 else r1.op 3 k 0:=by
   unfold CU;dsimp only;rw[a1.act k (by omega)]
  have e2:(CU (r1,b1) k).2=(b1||decide (s2.act k≠0)):=by
   rw[←c1.act k (by omega),←e1];rfl
  have hk2:∀ t,t<k→s2.act t=s1.act t:=fun t ht=>by
   rcases c3 with ⟨a,d1,_⟩ |⟨_,d1,_⟩
   ·rw[d1];exact BR _ _ (by omega)
   ·rw[d1]
  refine⟨s2,g2,by rw[e1];exact c1,c2,?_,?_⟩
  ·rw[e2];simp only[Bool.or_eq_true,decide_eq_true_eq,a3];constructor
   ·rintro(⟨t,ht,hn⟩ |hn)
    ·exact⟨t,by omega,by rw[hk2 t ht];exact hn⟩
    ·exact⟨k,by omega,hn⟩
   ·rintro⟨t,ht,hn⟩;by_cases e:t=k
    ·exact .inr (e▸hn)
    ·exact .inl ⟨t,by omega,by rw[←hk2 t (by omega)];exact hn⟩
  ·rcases c3 with ⟨a,_,_,d3⟩ |⟨d1,d2,d3⟩
   ·rcases a4 with a4 |⟨rfl,_⟩
    ·exact .inl (by omega)
    ·exact .inl d3
   ·subst d1;rcases a4 with a4 |⟨rfl,a5,a6⟩
    ·exact .inl a4
    ·refine .inr ⟨rfl,by rw[d2,a5],fun t ht=>?_⟩;by_cases e:t=k
     ·subst e;rw[a5]at d3;rcases d3 with d3 |⟨_,_,d3⟩
      ·exact .inl d3
      ·exact .inr d3
     ·exact a6 t (by omega)
theorem Fair.fin(F:Fair n R pg cells I rank stuck):∀ (K:Nat) (r:AH) (s:LS) (g:σ),C8 n pg cells r s→I g s→rank g<K →
  ∃ r' s' g',H0 K r=(r',true)∧C8 n pg cells r' s'∧I g' s'∧∀ t,t<n→s'.act t=0
 |K+1,r,s,g,h,hi,hk=>by
  obtain⟨s1,g1,a1,a2,a3,a4⟩:=F.KR h hi n (Nl n);unfold H0 Fc;rw[h.la];dsimp only;by_cases hb:((List.range n).foldl CU (r,false)).2=false
  ·rw[if_pos hb];refine⟨_,s1,g1,rfl,a1,a2,fun t ht=>Classical.byContradiction fun hn=>?_⟩;rw[a3.2 ⟨t,ht,hn⟩]at hb;cases hb
  ·rw[if_neg hb];refine F.fin K _ s1 g1 a1 a2 ?_;rcases a4 with a4 |⟨rfl,a5,a6⟩
   ·omega
   ·exfalso;obtain⟨t,ht,hn⟩:=a3.1 (by simpa using hb);exact hn (by rw[a5];exact F.prog s g1 hi a6 t ht)
end
def Ea(a:Nat→Nat)(t:Nat):Nat:=if a t=1∨a t=2 then 1 else 0
def lf(l:List Nat)(t:Nat):Nat:=l.getD t 0
theorem RT{l:List Nat}{t u v:Nat}(h:u≠t):lf (l.set t v) u=lf l u:=by
 unfold lf;rw[List.getD_eq_getElem?_getD,List.getD_eq_getElem?_getD,List.getElem?_set,if_neg (fun e=>h e.symm)]
theorem Ua{l:List Nat}{t v:Nat}(h:t<l.length):lf (l.set t v) t=v:=by
 unfold lf;rw[List.getD_eq_getElem?_getD,List.getElem?_set,if_pos rfl,if_pos h];rfl
theorem JY{n t a:Nat}{A:Nat→Nat}(ht:t<n):Bz n (Ea (Cb A t a))+Ea A t=Bz n (Ea A)+(if a=1∨a=2 then 1 else 0):=by
 have:=G7 (f:=Ea A) (g:=Ea (Cb A t a)) n ht (fun u hu=>by unfold Ea;rw[BR _ _ hu]);rw[this];simp only[Ea,AT]
section
variable {n R:Nat} {pg:Pg} {cells:List (Nat×Nat)} {σ:Type} {I:σ→LS→Prop} {rank:σ→Nat} {stuck:σ→Nat→Prop}
structure UI (n R:Nat) (pg:Pg) (cells:List (Nat×Nat)) (I:σ→LS→Prop) (rank:σ→Nat) (stuck:σ→Nat→Prop) (v v':DU) (s s':LS) (g g':σ) (t:Nat):Prop where
 abs:C8 n pg cells v'.r s'
 i:I g' s'
 len:v'.left.length=n
 sum:v'.Fb+Bz n (lf v'.left)+Bz n (Ea s'.act)=v.Fb+Bz n (lf v.left)+Bz n (Ea s.act)
 busy:v'.busy=(v.busy||decide (s'.act t≠0)||decide (lf v'.left t > 0))
 WQ:∀ u,u≠t→s'.act u=s.act u∧lf v'.left u=lf v.left u
 dec:rank g'+(R+1)*Bz n (lf v'.left)<rank g+(R+1)*Bz n (lf v.left)∨(g'=g∧s'.act=s.act∧v'.left=v.left∧(s.act t=0∧lf v.left t=0∨s.act t≠0∧stuck g t))
theorem Fair.TD(F:Fair n R pg cells I rank stuck){v:DU}{s:LS}{g:σ}{t:Nat}(h:C8 n pg cells v.r s)(hi:I g s)(ht:t<n)(hl:v.left.length=n) :
  ∃ s' g',UI n R pg cells I rank stuck v (v.DV t) s s' g g' t:=by
 have ea:=h.act t ht;by_cases h0:s.act t=0∧lf v.left t > 0
 ·obtain⟨s',g',a1,a2,a3,a4⟩:=F.call v.r s g t 0 h hi ht h0.1;have e:v.DV t=⟨v.r.op 1 t 0,v.left.set t (lf v.left t-1),v.Fb,v.busy||decide (s'.act t≠0)||decide (lf (v.left.set t (lf v.left t-1)) t > 0)⟩:=by
   rw[←a1.act t ht];unfold DU.DV;rw[ea];simp only[if_pos (show s.act t=0∧v.left.getD t 0 > 0 from h0)];rfl
  have hs:=G7 (f:=lf v.left) (g:=lf (v.left.set t (lf v.left t-1))) n ht (fun u hu=>RT hu);rw[Ua (by omega)]at hs;have hp:=JY (a:=1) (A:=s.act) ht;have hp0:Ea s.act t=0:=by unfold Ea;rw[if_neg (by omega)]
  rw[hp0,if_pos (.inl rfl)]at hp;refine⟨s',g',by rw[e];exact a1,a2,by rw[e];simpa using hl,?_,by rw[e],?_,?_⟩
  ·rw[e,a3];show v.Fb+Bz n (lf (v.left.set t (lf v.left t-1)))+Bz n (Ea (Cb s.act t 1))=_;omega
  ·intro u hu;rw[e,a3];exact⟨BR _ _ hu,RT hu⟩
  ·left
   rw[e]
   show rank g'+(R+1)*Bz n (lf (v.left.set t (lf v.left t-1)))<_
   have h1:Bz n (lf v.left)=Bz n (lf (v.left.set t (lf v.left t-1)))+1:=by omega
   rw[h1,Nat.mul_add];omega
 ·by_cases h2:s.act t=2
  ·obtain⟨s',g',a1,a2,a3,a4⟩:=F.unlock v.r s g t 0 h hi ht h2;have e:v.DV t=⟨v.r.op 2 t 0,v.left,v.Fb+1,v.busy||decide (s'.act t≠0)||decide (lf v.left t > 0)⟩:=by
    rw[←a1.act t ht];unfold DU.DV;rw[ea];simp only[if_neg (show ¬(s.act t=0∧v.left.getD t 0 > 0) from h0),if_pos h2];rfl
   have hp:=JY (a:=3) (A:=s.act) ht;have hp0:Ea s.act t=1:=by unfold Ea;rw[if_pos (.inr h2)]
   rw[hp0,if_neg (by decide)]at hp;refine⟨s',g',by rw[e];exact a1,a2,by rw[e];exact hl,?_,by rw[e],?_,?_⟩
   ·rw[e,a3];show v.Fb+1+Bz n (lf v.left)+Bz n (Ea (Cb s.act t 3))=_;omega
   ·intro u hu;rw[e,a3];exact⟨BR _ _ hu,rfl⟩
   ·left
    rw[e]
    show rank g'+(R+1)*Bz n (lf v.left)<_
    omega
  ·obtain⟨s',g',a1,a2,a3⟩:=F.DV h hi ht;rw[if_neg h2]at a1;have e:v.DV t=⟨v.r.op 3 t 0,v.left,v.Fb,v.busy||decide (s'.act t≠0)||decide (lf v.left t > 0)⟩:=by
    rw[←a1.act t ht];unfold DU.DV;rw[ea];simp only[if_neg (show ¬(s.act t=0∧v.left.getD t 0 > 0) from h0),if_neg h2];rfl
   refine⟨s',g',by rw[e];exact a1,a2,by rw[e];exact hl,?_,by rw[e],?_,?_⟩
   ·rw[e]
    show v.Fb+Bz n (lf v.left)+Bz n (Ea s'.act)=_
    rcases a3 with ⟨a,b1,b2,_⟩ |⟨_,b2,_⟩
    ·have hp:=JY (a:=a) (A:=s.act) ht;rw[b1];have:Ea s.act t=(if a=1∨a=2 then 1 else 0):=by
      unfold Ea;rcases b2 with ⟨c1,c2⟩ |⟨c1,c2⟩ |⟨c1,c2⟩
      ·rw[if_pos (.inl c1),if_pos c2]
      ·exact absurd c1 h2
      ·rw[if_neg (by omega),if_neg (by omega)]
     omega
    ·rw[b2]
   ·intro u hu;rw[e];refine⟨?_,rfl⟩;rcases a3 with ⟨a,b1,_⟩ |⟨_,b2,_⟩
    ·rw[b1];exact BR _ _ hu
    ·rw[b2]
   ·rw[e];rcases a3 with ⟨a,b1,b2,b3⟩ |⟨b1,b2,b3⟩
    ·left
     show rank g'+(R+1)*Bz n (lf v.left)<_
     omega
    ·right
     refine⟨b1,b2,rfl,?_⟩;rcases b3 with b3 |⟨b3,_,b4⟩
     ·exact .inl ⟨b3,by have:¬lf v.left t > 0:=fun h=>h0 ⟨b3,h⟩;omega⟩
     ·exact .inr ⟨b3,b4⟩
theorem Fair.Nf(F:Fair n R pg cells I rank stuck){v:DU}{s:LS}{g:σ}(h:C8 n pg cells v.r s)(hi:I g s)(hl:v.left.length=n)(hb:v.busy=false):∀ k:Nat,k≤n →
  ∃ v' s' g',v'=(List.range k).foldl DU.DV v∧C8 n pg cells v'.r s'∧I g' s'∧v'.left.length=n ∧
   v'.Fb+Bz n (lf v'.left)+Bz n (Ea s'.act)=v.Fb+Bz n (lf v.left)+Bz n (Ea s.act) ∧
   (v'.busy=true↔∃ t,t<k∧(s'.act t≠0∨lf v'.left t > 0)) ∧
   (rank g'+(R+1)*Bz n (lf v'.left)<rank g+(R+1)*Bz n (lf v.left)∨(g'=g∧s'.act=s.act∧v'.left=v.left∧∀ t,t<k→s.act t=0∧lf v.left t=0∨s.act t≠0∧stuck g t))
 |0,_=>⟨v,s,g,rfl,h,hi,hl,rfl,by rw[hb];simp,.inr ⟨rfl,rfl,rfl,fun t ht=>by omega⟩⟩
 |k+1,hk=>by
  obtain⟨v1,s1,g1,e1,a1,a2,a3,a4,a5,a6⟩:=F.Nf h hi hl hb k (by omega);obtain⟨s2,g2,S⟩:=F.TD (t:=k) a1 a2 (by omega) a3;rw[List.range_succ,List.foldl_append,List.foldl_cons,List.foldl_nil,←e1];refine⟨_,s2,g2,rfl,S.abs,S.i,S.len,S.sum.trans a4,?_,?_⟩
  ·rw[S.busy];simp only[Bool.or_eq_true,decide_eq_true_eq,a5];constructor
   ·rintro((⟨t,ht,hn⟩ |hn) |hn)
    ·have:=S.WQ t (by omega);exact⟨t,by omega,by rw[this.1,this.2];exact hn⟩
    ·exact⟨k,by omega,.inl hn⟩
    ·exact⟨k,by omega,.inr hn⟩
   ·rintro⟨t,ht,hn⟩;by_cases e:t=k
    ·subst e;rcases hn with hn |hn
     ·exact .inl (.inr hn)
     ·exact .inr hn
    ·have:=S.WQ t e;rw[this.1,this.2]at hn;exact .inl (.inl ⟨t,by omega,hn⟩)
  ·rcases S.dec with d |⟨rfl,d2,d3,d4⟩
   ·rcases a6 with a6 |⟨rfl,_,a7,_⟩
    ·exact .inl (by omega)
    ·rw[a7]at d;exact .inl d
   ·rcases a6 with a6 |⟨rfl,a7,a8,a9⟩
    ·rw[d3];exact .inl a6
    ·refine .inr ⟨rfl,by rw[d2,a7],by rw[d3,a8],fun t ht=>?_⟩;by_cases e:t=k
     ·subst e;rw[a7,a8]at d4;exact d4
     ·exact a9 t (by omega)
theorem Fair.KV(F:Fair n R pg cells I rank stuck):∀ (K:Nat) (v:DU) (s:LS) (g:σ),C8 n pg cells v.r s→I g s→v.left.length=n→rank g+(R+1)*Bz n (lf v.left)<K →
  ∃ s' g',C8 n pg cells (v.rounds n K).r s'∧I g' s'∧(v.rounds n K).Fb=v.Fb+Bz n (lf v.left)+Bz n (Ea s.act)
 |K+1,v,s,g,h,hi,hl,hk=>by
  obtain⟨v1,s1,g1,e1,a1,a2,a3,a4,a5,a6⟩:=F.Nf (v:={v with busy:=false}) h hi hl rfl n (Nl n);have e:v.round n=v1:=e1.symm;unfold DU.rounds;rw[e];dsimp only;by_cases hb:v1.busy=false
  ·rw[if_pos (.inl hb)];refine⟨s1,g1,a1,a2,?_⟩;have hz:∀ t,t<n→s1.act t=0∧lf v1.left t=0:=fun t ht=>Classical.byContradiction fun hn=>by
    rw[a5.2 ⟨t,ht,by omega⟩]at hb;cases hb
   have z1:=E4 (f:=lf v1.left) n (fun t ht=>(hz t ht).2);have z2:=E4 (f:=Ea s1.act) n (fun t ht=>by unfold Ea;rw[if_neg (by have:=(hz t ht).1;omega)]);rw[z1,z2]at a4;exact a4
  ·rw[if_neg (fun x=>by rcases x with x |x;exact hb x;rw[a1.bad]at x;cases x)];rcases a6 with a6 |⟨rfl,a7,a8,a9⟩
   ·obtain⟨s2,g2,c1,c2,c3⟩:=F.KV K v1 s1 g1 a1 a2 a3 (by dsimp only at a6;omega);exact⟨s2,g2,c1,c2,c3.trans a4⟩
   ·exfalso;obtain⟨t,ht,hn⟩:=a5.1 (by simpa using hb);have hp:=F.prog s g1 hi (fun t ht=>by rcases a9 t ht with b |b;exact .inl b.1;exact .inr b.2) t ht;rw[a7,a8]at hn;rcases a9 t ht with b |b
    ·dsimp only at b hn;omega
    ·exact b.1 hp
theorem UJ(n c t:Nat)(ht:t<n):lf (List.replicate n c) t=c:=by simp[lf,ht]
theorem Fair.TE(F:Fair n R pg cells I rank stuck)(h1:1≤n)(h2:n≤64)(calls:Nat)(hm:(R+1)*(n*calls)<100*(n+1)*(calls+1)){x:AF}{s:LS}{g:σ}(h:C8 n pg cells (AH.new x n) s)(hi:I g s)(ha:∀ t,t<n→s.act t=0)(hg:rank g=0):Fo x n calls=true:=by
 have hs:Bz n (lf (List.replicate n calls))=n*calls:=by
  rw[Gr (g:=fun _=>calls) n (fun t ht=>UJ n calls t ht),Gs]
 have hz:=E4 (f:=Ea s.act) n (fun t ht=>by unfold Ea;rw[if_neg (by have:=ha t ht;omega)]);obtain⟨s1,g1,a1,a2,a3⟩:=F.KV (100*(n+1)*(calls+1)) ⟨AH.new x n,List.replicate n calls,0,true⟩ s g h hi (by simp) (by rw[hs,hg];omega);unfold Fo;dsimp only;rw[a1.bad,a3,decide_eq_true ((GZ n h1 h2 _).2 (by rw[a1.tr];exact F.ok s1 g1 a2))];simp[hs,hz]
theorem Fair.served(F:Fair n R pg cells I rank stuck)(h1:1≤n)(h2:n≤64)(hR:R+1≤100)(calls:Nat){x:AF}{s:LS}{g:σ}(h:C8 n pg cells (AH.new x n) s)(hi:I g s)(ha:∀ t,t<n→s.act t=0)(hg:rank g=0):Fo x n calls=true:=by
 have hm:(R+1)*(n*calls)<100*(n+1)*(calls+1):=by
  have m1:(R+1)*(n*calls)≤100*(n*calls):=Nat.mul_le_mul_right _ hR;have m2:100*(n+1)*(calls+1)=100*(n*calls)+100*n+100*calls+100:=by
   simp only[Nat.mul_add,Nat.add_mul,Nat.mul_one,Nat.mul_assoc];omega
  omega
 exact F.TE h1 h2 calls hm h hi ha hg
end
def DZ(m:Nat→Nat→Nat)(A p v:Nat):Nat→Nat→Nat:=Cb m A (Cb (m A) p v)
def Wd(sizes w:List Nat)(m:Nat→Nat→Nat):Prop:=w.length=sizes.sum∧∀ A p,p<sizes.getD A 0→w.getD ((sizes.take A).sum+p) 0=m A p
theorem Jc:∀ (l:List Nat) (A B:Nat),A<B→(l.take A).sum+l.getD A 0≤(l.take B).sum
 |[],A,B,_=>by simp
 |x::l,0,B+1,_=>by simp
 |x::l,A+1,B+1,h=>by have:=Jc l A B (by omega);simp at this ⊢;omega
theorem TK{l:List Nat}{A B p q:Nat}(hp:p<l.getD A 0)(hq:q<l.getD B 0)(e:(l.take A).sum+p=(l.take B).sum+q):A=B∧p=q:=by
 rcases Nat.lt_trichotomy A B with h |h |h
 ·have:=Jc l A B h;omega
 ·subst h;exact⟨rfl,by omega⟩
 ·have:=Jc l B A h;omega
theorem UM{l:List Nat}{A p:Nat}(hp:p<l.getD A 0):(l.take A).sum+p<l.sum:=by
 have hA:A<l.length:=Classical.byContradiction fun h=>by
  rw[List.getD_eq_getElem?_getD,List.getElem?_eq_none (by omega)]at hp;simp at hp
 have:=Jc l A l.length hA;rw[List.take_length]at this;omega
theorem Wd.set{sizes w:List Nat}{m:Nat→Nat→Nat}(h:Wd sizes w m){A p:Nat}(v:Nat)(hp:p<sizes.getD A 0):Wd sizes (w.set ((sizes.take A).sum+p) v) (DZ m A p v):=by
 refine⟨by rw[List.length_set];exact h.1,fun B q hq=>?_⟩;rw[R3 (by rw[h.1];exact UM hp)];by_cases e:(sizes.take A).sum+p=(sizes.take B).sum+q
 ·obtain⟨rfl,rfl⟩:=TK hp hq e;rw[if_pos rfl,DZ,AT,AT]
 ·rw[if_neg e,h.2 B q hq,DZ];by_cases eA:B=A
  ·subst eA;rw[AT,BR _ _ (fun e'=>e (by rw[e']))]
  ·rw[BR _ _ eA]
theorem KW:∀ (sizes:List Nat) (a k A p:Nat),p<sizes.getD A 0→Dc ((a+A:Nat):Int) p k (By a sizes)=some (k+(sizes.take A).sum+p)
 |[],a,k,A,p,h=>by simp at h
 |s::r,a,k,0,p,h=>by
  simp at h;unfold By;rw[Nat.add_zero,JD s _ h];simp
 |s::r,a,k,A+1,p,h=>by
  unfold By;rw[MK (by omega)];have:=KW r (a+1) (k+s) A p (by simpa using h);rw[show a+1+A=a+(A+1) by omega]at this;rw[this];simp;omega
theorem TL{sizes:List Nat}{A p:Nat}(h:p<sizes.getD A 0)(h4:p<4096):Dc (A:Int) (p%4096) 0 (Bt sizes)=some ((sizes.take A).sum+p):=by
 have:=KW sizes 0 0 A p h;rw[Nat.mod_eq_of_lt h4];unfold Bt
 simpa using this
def TM(pg:Pg)(t a:Nat)(r:Option Nat×CoreM×Bool):Option Nat×CoreM×DR :=
 if r.2.2=true then (r.1,r.2.1,⟨[],-1,a,(match r.1 with |none=>0 |some _=>1),1,0⟩)
 else (r.1,(runM pg.l t 257 r.2.1 []).1,⟨(runM pg.l t 257 r.2.1 []).2.1,(runM pg.l t 257 r.2.1 []).2.2.1,a,(match r.1 with |none=>0 |some _=>1),0,(runM pg.l t 257 r.2.1 []).2.2.2⟩)
def OQ(pg:Pg)(t:Nat)(c:CoreM)(late:Bool)(was:Nat)(b:Bool)(a:Nat):Option Nat×CoreM×DR:=TM pg t a (R0 (pg.l.getD c.pc.toNat In.zero) c was late b)
def Sh(pg:Pg)(c:CoreM):Bool:=decide (¬(c.pc<0∨c.pc≥pg.l.length))&&decide (¬(pg.l.getD c.pc.toNat In.zero).op<16)&&decide ((pg.l.getD c.pc.toNat In.zero).op≠22)&&decide ((pg.l.getD c.pc.toNat In.zero).op≠23)
def WM(words:List Nat)(a:Nat):Option Nat→List Nat
 |none=>words
 |some v=>words.set a v
theorem TN{pg:Pg}{cells:List (Nat×Nat)}{words:List Nat}{t:Nat}{c:CoreM}{late:Bool}{a was:Nat}{b:Bool}{wr:Option Nat}{c':CoreM}{o:DR}(hok:Sh pg c=true)
  (hf:Dc (pg.l.getD c.pc.toNat In.zero).a (c.get (pg.l.getD c.pc.toNat In.zero).s%4096) 0 cells=some a)(hw:words.getD a 0=was)(hb:decide (was=c.get (pg.l.getD c.pc.toNat In.zero).t)=b)
  (e:OQ pg t c late was b a=(wr,c',o)):JC pg cells words t c late=some (WM words a wr,c',o):=by
 unfold Sh at hok;simp only[Bool.and_eq_true,decide_eq_true_eq]at hok;obtain⟨⟨⟨h1,h2⟩,h3⟩,h4⟩:=hok;rw[Te a b hf (by rw[hw];exact hb)];unfold R1;rw[if_neg h1];dsimp only;rw[if_neg h2,if_neg h3,if_neg h4,hw];have key:∀ r:Option Nat×CoreM×Bool,(if r.2.2=true then some ((match r.1 with |none=>words |some v=>words.set a v),r.2.1,(⟨[],-1,a,(match r.1 with |none=>0 |some _=>1),1,0⟩:DR))
   else some (Sn pg (match r.1 with |none=>words |some v=>words.set a v) t r.2.1 a (match r.1 with |none=>0 |some _=>1))) =
   some ((match (TM pg t a r).1 with |none=>words |some v=>words.set a v),(TM pg t a r).2.1,(TM pg t a r).2.2):=by
  intro⟨r1,r2,r3⟩;cases r3<;>cases r1<;>rfl
 refine(key (R0 (pg.l.getD c.pc.toNat In.zero) c was late b)).trans ?_;unfold OQ at e;rw[e];cases wr<;>rfl
def VM(m:Nat→Nat→Nat)(A p:Nat):Option Nat→Nat→Nat→Nat
 |none=>m
 |some v=>DZ m A p v
section
variable {n:Nat} {pg:Pg} {sizes:List Nat} {r:AH} {s:LS} {t:Nat} {late kind:Int} {m:Nat→Nat→Nat}
theorem C8.acc(h:C8 n pg (Bt sizes) r s)(hW:Wd sizes s.words m)(ht:t<n)(ha:s.act t=1∨s.act t=3)(h1:kind≠1)(h2:kind≠2){c:CoreM}(hc:s.core t=c)(hok:Sh pg c=true)(A p was:Nat)(b:Bool)
  (hA:(pg.l.getD c.pc.toNat In.zero).a=(A:Int))(hp:c.get (pg.l.getD c.pc.toNat In.zero).s=p)(hlt:p<sizes.getD A 0)(h4:p<4096)(hw:m A p=was)
  (hb:decide (was=c.get (pg.l.getD c.pc.toNat In.zero).t)=b){wr:Option Nat}{c':CoreM}{ms:List Int}{done:Int}{wrote stay:Nat}
  (e:∀ (l:Bool) (a:Nat),OQ pg t c l was b a=(wr,c',⟨ms,done,a,wrote,stay,0⟩))(hbad:Kv (s.act t) ⟨ms,done,0,wrote,stay,0⟩=false) :
  ∃ s',C8 n pg (Bt sizes) (r.op kind t late) s'∧Wd sizes s'.words (VM m A p wr)∧s'.core=Cb s.core t c' ∧
   s'.act=(match J2 done with |none=>s.act |some q=>Cb s.act t q.2) ∧
   s'.tr=(match J2 done with |none=>ms.foldl (fun x k=>x.enter (FA k) t) s.tr |some q=>(ms.foldl (fun x k=>x.enter (FA k) t) s.tr).enter q.1 t):=by
 have hst:JC pg (Bt sizes) s.words t (s.core t) (decide (late≠0))=some (WM s.words ((sizes.take A).sum+p) wr,c',⟨ms,done,((sizes.take A).sum+p:Nat),wrote,stay,0⟩):=by
  rw[hc];exact TN (a:=(sizes.take A).sum+p) (was:=was) (b:=b) hok (by rw[hA,hp];exact TL hlt h4) ((hW.2 A p hlt).trans hw) hb (e _ _)
 have hs:=h.step (late:=late) ht ha h1 h2 hst hbad;refine⟨_,hs,?_,?_,?_,?_⟩
 ·have:Wd sizes (WM s.words ((sizes.take A).sum+p) wr) (VM m A p wr):=by
   cases wr with
   |none=>exact hW
   |some v=>exact hW.set v hlt
  unfold LS.Eh;dsimp only;generalize J2 done=x;cases x<;>exact this
 ·unfold LS.Eh;dsimp only;generalize J2 done=x;cases x<;>rfl
 ·unfold LS.Eh;dsimp only;generalize J2 done=x;cases x<;>rfl
 ·unfold LS.Eh;dsimp only;generalize J2 done=x;cases x<;>rfl
theorem C8.VJ(h:C8 n pg (Bt sizes) r s)(hW:Wd sizes s.words m)(ht:t<n)(ha:s.act t=0){c c':CoreM}(hc:s.core t=c)
  (e:Sn pg s.words t (c.at pg.lock) (-1) 0=(s.words,c',⟨[],-1,-1,0,0,0⟩)) :
  ∃ s',C8 n pg (Bt sizes) (r.op 1 t late) s'∧Wd sizes s'.words m∧s'.core=Cb s.core t c'∧s'.act=Cb s.act t 1∧s'.tr=s.tr.enter 1 t :=
 ⟨_,h.call ht ha (w:=s.words) (c:=c') (o:=⟨[],-1,-1,0,0,0⟩) (by rw[hc];exact e) rfl,hW,rfl,rfl,rfl⟩
theorem C8.T9(h:C8 n pg (Bt sizes) r s)(hW:Wd sizes s.words m)(ht:t<n)(ha:s.act t=2){c c':CoreM}(hc:s.core t=c)
  (e:Sn pg s.words t (c.at pg.unlock) (-1) 0=(s.words,c',⟨[],-1,-1,0,0,0⟩)) :
  ∃ s',C8 n pg (Bt sizes) (r.op 2 t late) s'∧Wd sizes s'.words m∧s'.core=Cb s.core t c'∧s'.act=Cb s.act t 3∧s'.tr=s.tr.enter 8 t :=
 ⟨_,h.unlock ht ha (w:=s.words) (c:=c') (o:=⟨[],-1,-1,0,0,0⟩) (by rw[hc];exact e) rfl,hW,rfl,rfl,rfl⟩
end
end
end Go.Proofs.YtjjpiefgdggghaaGreatDoor
