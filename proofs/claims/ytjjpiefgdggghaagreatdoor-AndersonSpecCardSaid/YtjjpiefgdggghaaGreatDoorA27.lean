/- Parts: RefTextC. -/
import Derived.Test.YtjjpiefgdggghaaGreatDoorA03
import Derived.Test.YtjjpiefgdggghaaGreatDoorA18
set_option linter.unusedVariables false
set_option linter.unusedSimpArgs false
set_option maxRecDepth 100000
set_option maxHeartbeats 40000000
namespace Go.Proofs.YtjjpiefgdggghaaGreatDoor
section
open Go.RowKit Go.Proofs.YtjjpiefgdggghaaGreatDoorW.PrintWords
theorem Vx(d s t u a k q:Int)(hf:In.fits ⟨11,d,s,t,u,a,k,q⟩)(w:World):Calls Tryz.prog 118 #[In.v ⟨11,d,s,t,u,a,k,q⟩] w fun e w'=>e=.returned (.string ⟨(Bh ⟨11,d,s,t,u,a,k,q⟩).toArray⟩)∧Below w.heap.size w w':=by
 have te:Bh ⟨11,d,s,t,u,a,k,q⟩=Aj 11++(32::114::dec d):=by
  show Go.Lib.join (Aj 11::List.flatten [[114::dec d]]) [32]=_
  simp[B2,Go.Lib.join_one]
 obtain⟨CK,CA,wk,lk,la,CQ,ld0,ls0,lt0,lu0,lk0,la0,lq0⟩:=BH hf;have CN:=Az (fun W=>Aw 11 W);have Cd:=Az (fun W=>AL hf.d.1 (Int.le_trans hf.d.2 (by decide)) W);dsimp only at Cd;have ln0:(Aj 11).length=4:=by decide
 have bn:¬9223372036854775807<(Aj 11).length+((dec d).length+1+1):=by omega
 clear lk0 lq0 ld0 ls0 lt0 lu0 la0 ln0;have hS:=Br w 11 d s t u a k q;replace hf:=Az hf;replace te:=Az te;unfold In.v;go_enter Tryz.func118,Tryz.ntmps118;go_wp2_with fail
 go_region_held3 (fun W=>RB w W 11 d s t u a k q) (first |exact hS |exact Ad hb (by assumption))
  (first
   |(go_at_call 49;(with_reducible refine(CK.out _).mono ?_);rintro e w' ⟨rfl,hb⟩)
   |(go_at_call 49;(with_reducible refine(CA.out _).mono ?_);rintro e w' ⟨rfl,hb⟩))
 obtain⟨HA,y0,y1,y2,y3,y4,y5,y6,y7⟩:=Ad (Below.refl _ _) (by assumption);by_cases hq:0≤q;obtain⟨CQ,lq⟩:=CQ.out hq;go_wp2_with fail
 refine(CQ.out _).mono ?_;rintro e w2 ⟨rfl,hb2⟩;obtain⟨HA,y0,y1,y2,y3,y4,y5,y6,y7⟩:=Ad hb2 ⟨HA,y0,y1,y2,y3,y4,y5,y6,y7⟩;go_wp2_with fail
 rotate_left;go_wp2_with fail
 rotate_left;all_goals (
  refine(CN.out _).mono ?_;rintro e w2 ⟨rfl,hb2⟩;obtain⟨HA,y0,y1,y2,y3,y4,y5,y6,y7⟩:=Ad hb2 ⟨HA,y0,y1,y2,y3,y4,y5,y6,y7⟩;go_wp2_with fail
  refine(Cd.out _).mono ?_;rintro e w2 ⟨rfl,hb2⟩;obtain⟨HA,y0,y1,y2,y3,y4,y5,y6,y7⟩:=Ad hb2 ⟨HA,y0,y1,y2,y3,y4,y5,y6,y7⟩;go_wp2_with fail
  go_wp2;go_ret;refine⟨B4 ?_,HA.out.2⟩;rw[te.out];simp[Dd,B9])
theorem Vy(d s t u a k q:Int)(hf:In.fits ⟨12,d,s,t,u,a,k,q⟩)(w:World):Calls Tryz.prog 118 #[In.v ⟨12,d,s,t,u,a,k,q⟩] w fun e w'=>e=.returned (.string ⟨(Bh ⟨12,d,s,t,u,a,k,q⟩).toArray⟩)∧Below w.heap.size w w':=by
 have te:Bh ⟨12,d,s,t,u,a,k,q⟩=Aj 12++(32::dec k):=by
  show Go.Lib.join (Aj 12::List.flatten [[dec k]]) [32]=_
  simp[B2,Go.Lib.join_one]
 obtain⟨CK,CA,wk,lk,la,CQ,ld0,ls0,lt0,lu0,lk0,la0,lq0⟩:=BH hf;have CN:=Az (fun W=>Aw 12 W);have ln0:(Aj 12).length=4:=by decide
 have bn:¬9223372036854775807<(Aj 12).length+(1+(dec k).length):=by omega
 clear lk0 lq0 ld0 ls0 lt0 lu0 la0 ln0;have hS:=Br w 12 d s t u a k q;replace hf:=Az hf;replace te:=Az te;unfold In.v;go_enter Tryz.func118,Tryz.ntmps118;go_wp2_with fail
 go_region_held3 (fun W=>RB w W 12 d s t u a k q) (first |exact hS |exact Ad hb (by assumption))
  (first
   |(go_at_call 49;(with_reducible refine(CK.out _).mono ?_);rintro e w' ⟨rfl,hb⟩)
   |(go_at_call 49;(with_reducible refine(CA.out _).mono ?_);rintro e w' ⟨rfl,hb⟩))
 obtain⟨HA,y0,y1,y2,y3,y4,y5,y6,y7⟩:=Ad (Below.refl _ _) (by assumption);by_cases hq:0≤q;obtain⟨CQ,lq⟩:=CQ.out hq;go_wp2_with fail
 refine(CQ.out _).mono ?_;rintro e w2 ⟨rfl,hb2⟩;obtain⟨HA,y0,y1,y2,y3,y4,y5,y6,y7⟩:=Ad hb2 ⟨HA,y0,y1,y2,y3,y4,y5,y6,y7⟩;go_wp2_with fail
 rotate_left;go_wp2_with fail
 rotate_left;all_goals (
  refine(CN.out _).mono ?_;rintro e w2 ⟨rfl,hb2⟩;obtain⟨HA,y0,y1,y2,y3,y4,y5,y6,y7⟩:=Ad hb2 ⟨HA,y0,y1,y2,y3,y4,y5,y6,y7⟩;go_wp2_with fail
  go_wp2;go_ret;refine⟨B4 ?_,HA.out.2⟩;rw[te.out];simp[Dd,B9])
theorem Vz(d s t u a k q:Int)(hf:In.fits ⟨13,d,s,t,u,a,k,q⟩)(w:World):Calls Tryz.prog 118 #[In.v ⟨13,d,s,t,u,a,k,q⟩] w fun e w'=>e=.returned (.string ⟨(Bh ⟨13,d,s,t,u,a,k,q⟩).toArray⟩)∧Below w.heap.size w w':=by
 have te:Bh ⟨13,d,s,t,u,a,k,q⟩=Aj 13++(32::dec k):=by
  show Go.Lib.join (Aj 13::List.flatten [[dec k]]) [32]=_
  simp[B2,Go.Lib.join_one]
 obtain⟨CK,CA,wk,lk,la,CQ,ld0,ls0,lt0,lu0,lk0,la0,lq0⟩:=BH hf;have CN:=Az (fun W=>Aw 13 W);have ln0:(Aj 13).length=4:=by decide
 have bn:¬9223372036854775807<(Aj 13).length+(1+(dec k).length):=by omega
 clear lk0 lq0 ld0 ls0 lt0 lu0 la0 ln0;have hS:=Br w 13 d s t u a k q;replace hf:=Az hf;replace te:=Az te;unfold In.v;go_enter Tryz.func118,Tryz.ntmps118;go_wp2_with fail
 go_region_held3 (fun W=>RB w W 13 d s t u a k q) (first |exact hS |exact Ad hb (by assumption))
  (first
   |(go_at_call 49;(with_reducible refine(CK.out _).mono ?_);rintro e w' ⟨rfl,hb⟩)
   |(go_at_call 49;(with_reducible refine(CA.out _).mono ?_);rintro e w' ⟨rfl,hb⟩))
 obtain⟨HA,y0,y1,y2,y3,y4,y5,y6,y7⟩:=Ad (Below.refl _ _) (by assumption);by_cases hq:0≤q;obtain⟨CQ,lq⟩:=CQ.out hq;go_wp2_with fail
 refine(CQ.out _).mono ?_;rintro e w2 ⟨rfl,hb2⟩;obtain⟨HA,y0,y1,y2,y3,y4,y5,y6,y7⟩:=Ad hb2 ⟨HA,y0,y1,y2,y3,y4,y5,y6,y7⟩;go_wp2_with fail
 rotate_left;go_wp2_with fail
 rotate_left;all_goals (
  refine(CN.out _).mono ?_;rintro e w2 ⟨rfl,hb2⟩;obtain⟨HA,y0,y1,y2,y3,y4,y5,y6,y7⟩:=Ad hb2 ⟨HA,y0,y1,y2,y3,y4,y5,y6,y7⟩;go_wp2_with fail
  go_wp2;go_ret;refine⟨B4 ?_,HA.out.2⟩;rw[te.out];simp[Dd,B9])
theorem V0(d s t u a k q:Int)(hf:In.fits ⟨16,d,s,t,u,a,k,q⟩)(w:World):Calls Tryz.prog 118 #[In.v ⟨16,d,s,t,u,a,k,q⟩] w fun e w'=>e=.returned (.string ⟨(Bh ⟨16,d,s,t,u,a,k,q⟩).toArray⟩)∧Below w.heap.size w w':=by
 have te:Bh ⟨16,d,s,t,u,a,k,q⟩=Aj 16++(((32::114::dec d)++(32::dec a))++(32::114::dec s)):=by
  show Go.Lib.join (Aj 16::List.flatten [[114::dec d],[dec a],[114::dec s]]) [32]=_
  simp[B2,Go.Lib.join_one]
 obtain⟨CK,CA,wk,lk,la,CQ,ld0,ls0,lt0,lu0,lk0,la0,lq0⟩:=BH hf;have CN:=Az (fun W=>Aw 16 W);have Cd:=Az (fun W=>AL hf.d.1 (Int.le_trans hf.d.2 (by decide)) W);have Cs:=Az (fun W=>AL hf.s.1 (Int.le_trans hf.s.2 (by decide)) W);dsimp only at Cd Cs;have ln0:(Aj 16).length=4:=by decide
 have b2:¬9223372036854775807<(((dec d).length+1+1)+(1+(dec a).length)):=by omega
 have b3:¬9223372036854775807<((((dec d).length+1+1)+(1+(dec a).length))+((dec s).length+1+1)):=by omega
 have bn:¬9223372036854775807<(Aj 16).length+((((dec d).length+1+1)+(1+(dec a).length))+((dec s).length+1+1)):=by omega
 clear lk0 lq0 ld0 ls0 lt0 lu0 la0 ln0;have hS:=Br w 16 d s t u a k q;replace hf:=Az hf;replace te:=Az te;unfold In.v;go_enter Tryz.func118,Tryz.ntmps118;go_wp2_with fail
 go_region_held3 (fun W=>RB w W 16 d s t u a k q) (first |exact hS |exact Ad hb (by assumption))
  (first
   |(go_at_call 49;(with_reducible refine(CK.out _).mono ?_);rintro e w' ⟨rfl,hb⟩)
   |(go_at_call 49;(with_reducible refine(CA.out _).mono ?_);rintro e w' ⟨rfl,hb⟩))
 obtain⟨HA,y0,y1,y2,y3,y4,y5,y6,y7⟩:=Ad (Below.refl _ _) (by assumption);by_cases hq:0≤q;obtain⟨CQ,lq⟩:=CQ.out hq;go_wp2_with fail
 refine(CQ.out _).mono ?_;rintro e w2 ⟨rfl,hb2⟩;obtain⟨HA,y0,y1,y2,y3,y4,y5,y6,y7⟩:=Ad hb2 ⟨HA,y0,y1,y2,y3,y4,y5,y6,y7⟩;go_wp2_with fail
 rotate_left;go_wp2_with fail
 rotate_left;all_goals (
  refine(CN.out _).mono ?_;rintro e w2 ⟨rfl,hb2⟩;obtain⟨HA,y0,y1,y2,y3,y4,y5,y6,y7⟩:=Ad hb2 ⟨HA,y0,y1,y2,y3,y4,y5,y6,y7⟩;go_wp2_with fail
  have hT:=Ad (Bd (Below.refl _ _)) ⟨HA,y0,y1,y2,y3,y4,y5,y6,y7⟩;go_region_held3 (fun W=>RB w W 16 d s t u a k q) (first |exact hT |exact Ad hb (by assumption))
   (first
    |(go_at_call 141;(with_reducible refine(Cd.out _).mono ?_);rintro e w' ⟨rfl,hb⟩)
    |(go_at_call 141;(with_reducible refine(Cs.out _).mono ?_);rintro e w' ⟨rfl,hb⟩))
  obtain⟨HA,y0,y1,y2,y3,y4,y5,y6,y7⟩:=Ad (Below.refl _ _) (by assumption);go_wp2;go_ret;refine⟨B4 ?_,HA.out.2⟩;rw[te.out];simp[Dd,B9])
theorem V1(d s t u a k q:Int)(hf:In.fits ⟨17,d,s,t,u,a,k,q⟩)(w:World):Calls Tryz.prog 118 #[In.v ⟨17,d,s,t,u,a,k,q⟩] w fun e w'=>e=.returned (.string ⟨(Bh ⟨17,d,s,t,u,a,k,q⟩).toArray⟩)∧Below w.heap.size w w':=by
 have te:Bh ⟨17,d,s,t,u,a,k,q⟩=Aj 17++(((32::dec a)++(32::114::dec s))++(32::114::dec t)):=by
  show Go.Lib.join (Aj 17::List.flatten [[dec a],[114::dec s],[114::dec t]]) [32]=_
  simp[B2,Go.Lib.join_one]
 obtain⟨CK,CA,wk,lk,la,CQ,ld0,ls0,lt0,lu0,lk0,la0,lq0⟩:=BH hf;have CN:=Az (fun W=>Aw 17 W);have Cs:=Az (fun W=>AL hf.s.1 (Int.le_trans hf.s.2 (by decide)) W);have Ct:=Az (fun W=>AL hf.t.1 (Int.le_trans hf.t.2 (by decide)) W);dsimp only at Cs Ct;have ln0:(Aj 17).length=5:=by decide
 have b2:¬9223372036854775807<((1+(dec a).length)+((dec s).length+1+1)):=by omega
 have b3:¬9223372036854775807<(((1+(dec a).length)+((dec s).length+1+1))+((dec t).length+1+1)):=by omega
 have bn:¬9223372036854775807<(Aj 17).length+(((1+(dec a).length)+((dec s).length+1+1))+((dec t).length+1+1)):=by omega
 clear lk0 lq0 ld0 ls0 lt0 lu0 la0 ln0;have hS:=Br w 17 d s t u a k q;replace hf:=Az hf;replace te:=Az te;unfold In.v;go_enter Tryz.func118,Tryz.ntmps118;go_wp2_with fail
 go_region_held3 (fun W=>RB w W 17 d s t u a k q) (first |exact hS |exact Ad hb (by assumption))
  (first
   |(go_at_call 49;(with_reducible refine(CK.out _).mono ?_);rintro e w' ⟨rfl,hb⟩)
   |(go_at_call 49;(with_reducible refine(CA.out _).mono ?_);rintro e w' ⟨rfl,hb⟩))
 obtain⟨HA,y0,y1,y2,y3,y4,y5,y6,y7⟩:=Ad (Below.refl _ _) (by assumption);by_cases hq:0≤q;obtain⟨CQ,lq⟩:=CQ.out hq;go_wp2_with fail
 refine(CQ.out _).mono ?_;rintro e w2 ⟨rfl,hb2⟩;obtain⟨HA,y0,y1,y2,y3,y4,y5,y6,y7⟩:=Ad hb2 ⟨HA,y0,y1,y2,y3,y4,y5,y6,y7⟩;go_wp2_with fail
 rotate_left;go_wp2_with fail
 rotate_left;all_goals (
  refine(CN.out _).mono ?_;rintro e w2 ⟨rfl,hb2⟩;obtain⟨HA,y0,y1,y2,y3,y4,y5,y6,y7⟩:=Ad hb2 ⟨HA,y0,y1,y2,y3,y4,y5,y6,y7⟩;go_wp2_with fail
  have hT:=Ad (Bd (Below.refl _ _)) ⟨HA,y0,y1,y2,y3,y4,y5,y6,y7⟩;go_region_held3 (fun W=>RB w W 17 d s t u a k q) (first |exact hT |exact Ad hb (by assumption))
   (first
    |(go_at_call 141;(with_reducible refine(Cs.out _).mono ?_);rintro e w' ⟨rfl,hb⟩)
    |(go_at_call 141;(with_reducible refine(Ct.out _).mono ?_);rintro e w' ⟨rfl,hb⟩))
  obtain⟨HA,y0,y1,y2,y3,y4,y5,y6,y7⟩:=Ad (Below.refl _ _) (by assumption);go_wp2;go_ret;refine⟨B4 ?_,HA.out.2⟩;rw[te.out];simp[Dd,B9])
end
end Go.Proofs.YtjjpiefgdggghaaGreatDoor
