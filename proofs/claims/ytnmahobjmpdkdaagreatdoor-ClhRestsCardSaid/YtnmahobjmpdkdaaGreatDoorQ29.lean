/- Parts: RefTextC, RefTextD, RefTextF, RefText. -/
import Derived.Test.YtnmahobjmpdkdaaGreatDoorQ02
import Derived.Test.YtnmahobjmpdkdaaGreatDoorQ28
import Derived.Test.YtnmahobjmpdkdaaGreatDoorQ03
import Derived.Test.YtnmahobjmpdkdaaGreatDoorQ20
import Derived.Deep.RegionHeld3
set_option linter.unusedVariables false
set_option linter.unusedSimpArgs false
set_option maxRecDepth 100000
set_option maxHeartbeats 40000000
namespace Go.Proofs.YtnmahobjmpdkdaaGreatDoor
section
open Go.RowKit Go.Proofs.YtnmahobjmpdkdaaGreatDoorW.PrintWords
theorem Ys(d s t u a k q:Int)(hf:In.fits ⟨11,d,s,t,u,a,k,q⟩)(w:World):Calls Tryz.prog 92 #[In.v ⟨11,d,s,t,u,a,k,q⟩] w fun e w'=>e=.returned (.string ⟨(Bx ⟨11,d,s,t,u,a,k,q⟩).toArray⟩)∧Below w.heap.size w w':=by
 have te:Bx ⟨11,d,s,t,u,a,k,q⟩=Aj 11++(32::114::dec d):=by
  show Go.Lib.join (Aj 11::List.flatten [[114::dec d]]) [32]=_
  simp[BG,Go.Lib.join_one]
 obtain⟨CK,CA,wk,lk,la,CQ,ld0,ls0,lt0,lu0,lk0,la0,lq0⟩:=BY hf;have CN:=Az (fun W=>AA 11 W);have Cd:=Az (fun W=>AV hf.d.1 (Int.le_trans hf.d.2 (by decide)) W);dsimp only at Cd;have ln0:(Aj 11).length=4:=by decide
 have bn:¬9223372036854775807<(Aj 11).length+((dec d).length+1+1):=by omega
 clear lk0 lq0 ld0 ls0 lt0 lu0 la0 ln0;have hS:=BB w 11 d s t u a k q;replace hf:=Az hf;replace te:=Az te;unfold In.v;go_enter Tryz.func92,Tryz.ntmps92;go_wp2_with fail
 go_region_held3 (fun W=>RB w W 11 d s t u a k q) (first |exact hS |exact Ad hb (by assumption))
  (first
   |(go_at_call 105;(with_reducible refine(CK.out _).mono ?_);rintro e w' ⟨rfl,hb⟩)
   |(go_at_call 105;(with_reducible refine(CA.out _).mono ?_);rintro e w' ⟨rfl,hb⟩))
 obtain⟨HA,y0,y1,y2,y3,y4,y5,y6,y7⟩:=Ad (Below.refl _ _) (by assumption);by_cases hq:0≤q;obtain⟨CQ,lq⟩:=CQ.out hq;go_wp2_with fail
 refine(CQ.out _).mono ?_;rintro e w2 ⟨rfl,hb2⟩;obtain⟨HA,y0,y1,y2,y3,y4,y5,y6,y7⟩:=Ad hb2 ⟨HA,y0,y1,y2,y3,y4,y5,y6,y7⟩;go_wp2_with fail
 rotate_left;go_wp2_with fail
 rotate_left;all_goals (
  refine(CN.out _).mono ?_;rintro e w2 ⟨rfl,hb2⟩;obtain⟨HA,y0,y1,y2,y3,y4,y5,y6,y7⟩:=Ad hb2 ⟨HA,y0,y1,y2,y3,y4,y5,y6,y7⟩;go_wp2_with fail
  refine(Cd.out _).mono ?_;rintro e w2 ⟨rfl,hb2⟩;obtain⟨HA,y0,y1,y2,y3,y4,y5,y6,y7⟩:=Ad hb2 ⟨HA,y0,y1,y2,y3,y4,y5,y6,y7⟩;go_wp2_with fail
  go_wp2;go_ret;refine⟨BH ?_,HA.out.2⟩;rw[te.out];simp[Dy,BU])
theorem Yt(d s t u a k q:Int)(hf:In.fits ⟨12,d,s,t,u,a,k,q⟩)(w:World):Calls Tryz.prog 92 #[In.v ⟨12,d,s,t,u,a,k,q⟩] w fun e w'=>e=.returned (.string ⟨(Bx ⟨12,d,s,t,u,a,k,q⟩).toArray⟩)∧Below w.heap.size w w':=by
 have te:Bx ⟨12,d,s,t,u,a,k,q⟩=Aj 12++(32::dec k):=by
  show Go.Lib.join (Aj 12::List.flatten [[dec k]]) [32]=_
  simp[BG,Go.Lib.join_one]
 obtain⟨CK,CA,wk,lk,la,CQ,ld0,ls0,lt0,lu0,lk0,la0,lq0⟩:=BY hf;have CN:=Az (fun W=>AA 12 W);have ln0:(Aj 12).length=4:=by decide
 have bn:¬9223372036854775807<(Aj 12).length+(1+(dec k).length):=by omega
 clear lk0 lq0 ld0 ls0 lt0 lu0 la0 ln0;have hS:=BB w 12 d s t u a k q;replace hf:=Az hf;replace te:=Az te;unfold In.v;go_enter Tryz.func92,Tryz.ntmps92;go_wp2_with fail
 go_region_held3 (fun W=>RB w W 12 d s t u a k q) (first |exact hS |exact Ad hb (by assumption))
  (first
   |(go_at_call 105;(with_reducible refine(CK.out _).mono ?_);rintro e w' ⟨rfl,hb⟩)
   |(go_at_call 105;(with_reducible refine(CA.out _).mono ?_);rintro e w' ⟨rfl,hb⟩))
 obtain⟨HA,y0,y1,y2,y3,y4,y5,y6,y7⟩:=Ad (Below.refl _ _) (by assumption);by_cases hq:0≤q;obtain⟨CQ,lq⟩:=CQ.out hq;go_wp2_with fail
 refine(CQ.out _).mono ?_;rintro e w2 ⟨rfl,hb2⟩;obtain⟨HA,y0,y1,y2,y3,y4,y5,y6,y7⟩:=Ad hb2 ⟨HA,y0,y1,y2,y3,y4,y5,y6,y7⟩;go_wp2_with fail
 rotate_left;go_wp2_with fail
 rotate_left;all_goals (
  refine(CN.out _).mono ?_;rintro e w2 ⟨rfl,hb2⟩;obtain⟨HA,y0,y1,y2,y3,y4,y5,y6,y7⟩:=Ad hb2 ⟨HA,y0,y1,y2,y3,y4,y5,y6,y7⟩;go_wp2_with fail
  go_wp2;go_ret;refine⟨BH ?_,HA.out.2⟩;rw[te.out];simp[Dy,BU])
theorem Yu(d s t u a k q:Int)(hf:In.fits ⟨13,d,s,t,u,a,k,q⟩)(w:World):Calls Tryz.prog 92 #[In.v ⟨13,d,s,t,u,a,k,q⟩] w fun e w'=>e=.returned (.string ⟨(Bx ⟨13,d,s,t,u,a,k,q⟩).toArray⟩)∧Below w.heap.size w w':=by
 have te:Bx ⟨13,d,s,t,u,a,k,q⟩=Aj 13++(32::dec k):=by
  show Go.Lib.join (Aj 13::List.flatten [[dec k]]) [32]=_
  simp[BG,Go.Lib.join_one]
 obtain⟨CK,CA,wk,lk,la,CQ,ld0,ls0,lt0,lu0,lk0,la0,lq0⟩:=BY hf;have CN:=Az (fun W=>AA 13 W);have ln0:(Aj 13).length=4:=by decide
 have bn:¬9223372036854775807<(Aj 13).length+(1+(dec k).length):=by omega
 clear lk0 lq0 ld0 ls0 lt0 lu0 la0 ln0;have hS:=BB w 13 d s t u a k q;replace hf:=Az hf;replace te:=Az te;unfold In.v;go_enter Tryz.func92,Tryz.ntmps92;go_wp2_with fail
 go_region_held3 (fun W=>RB w W 13 d s t u a k q) (first |exact hS |exact Ad hb (by assumption))
  (first
   |(go_at_call 105;(with_reducible refine(CK.out _).mono ?_);rintro e w' ⟨rfl,hb⟩)
   |(go_at_call 105;(with_reducible refine(CA.out _).mono ?_);rintro e w' ⟨rfl,hb⟩))
 obtain⟨HA,y0,y1,y2,y3,y4,y5,y6,y7⟩:=Ad (Below.refl _ _) (by assumption);by_cases hq:0≤q;obtain⟨CQ,lq⟩:=CQ.out hq;go_wp2_with fail
 refine(CQ.out _).mono ?_;rintro e w2 ⟨rfl,hb2⟩;obtain⟨HA,y0,y1,y2,y3,y4,y5,y6,y7⟩:=Ad hb2 ⟨HA,y0,y1,y2,y3,y4,y5,y6,y7⟩;go_wp2_with fail
 rotate_left;go_wp2_with fail
 rotate_left;all_goals (
  refine(CN.out _).mono ?_;rintro e w2 ⟨rfl,hb2⟩;obtain⟨HA,y0,y1,y2,y3,y4,y5,y6,y7⟩:=Ad hb2 ⟨HA,y0,y1,y2,y3,y4,y5,y6,y7⟩;go_wp2_with fail
  go_wp2;go_ret;refine⟨BH ?_,HA.out.2⟩;rw[te.out];simp[Dy,BU])
theorem Yv(d s t u a k q:Int)(hf:In.fits ⟨16,d,s,t,u,a,k,q⟩)(w:World):Calls Tryz.prog 92 #[In.v ⟨16,d,s,t,u,a,k,q⟩] w fun e w'=>e=.returned (.string ⟨(Bx ⟨16,d,s,t,u,a,k,q⟩).toArray⟩)∧Below w.heap.size w w':=by
 have te:Bx ⟨16,d,s,t,u,a,k,q⟩=Aj 16++(((32::114::dec d)++(32::dec a))++(32::114::dec s)):=by
  show Go.Lib.join (Aj 16::List.flatten [[114::dec d],[dec a],[114::dec s]]) [32]=_
  simp[BG,Go.Lib.join_one]
 obtain⟨CK,CA,wk,lk,la,CQ,ld0,ls0,lt0,lu0,lk0,la0,lq0⟩:=BY hf;have CN:=Az (fun W=>AA 16 W);have Cd:=Az (fun W=>AV hf.d.1 (Int.le_trans hf.d.2 (by decide)) W);have Cs:=Az (fun W=>AV hf.s.1 (Int.le_trans hf.s.2 (by decide)) W);dsimp only at Cd Cs;have ln0:(Aj 16).length=4:=by decide
 have b2:¬9223372036854775807<(((dec d).length+1+1)+(1+(dec a).length)):=by omega
 have b3:¬9223372036854775807<((((dec d).length+1+1)+(1+(dec a).length))+((dec s).length+1+1)):=by omega
 have bn:¬9223372036854775807<(Aj 16).length+((((dec d).length+1+1)+(1+(dec a).length))+((dec s).length+1+1)):=by omega
 clear lk0 lq0 ld0 ls0 lt0 lu0 la0 ln0;have hS:=BB w 16 d s t u a k q;replace hf:=Az hf;replace te:=Az te;unfold In.v;go_enter Tryz.func92,Tryz.ntmps92;go_wp2_with fail
 go_region_held3 (fun W=>RB w W 16 d s t u a k q) (first |exact hS |exact Ad hb (by assumption))
  (first
   |(go_at_call 105;(with_reducible refine(CK.out _).mono ?_);rintro e w' ⟨rfl,hb⟩)
   |(go_at_call 105;(with_reducible refine(CA.out _).mono ?_);rintro e w' ⟨rfl,hb⟩))
 obtain⟨HA,y0,y1,y2,y3,y4,y5,y6,y7⟩:=Ad (Below.refl _ _) (by assumption);by_cases hq:0≤q;obtain⟨CQ,lq⟩:=CQ.out hq;go_wp2_with fail
 refine(CQ.out _).mono ?_;rintro e w2 ⟨rfl,hb2⟩;obtain⟨HA,y0,y1,y2,y3,y4,y5,y6,y7⟩:=Ad hb2 ⟨HA,y0,y1,y2,y3,y4,y5,y6,y7⟩;go_wp2_with fail
 rotate_left;go_wp2_with fail
 rotate_left;all_goals (
  refine(CN.out _).mono ?_;rintro e w2 ⟨rfl,hb2⟩;obtain⟨HA,y0,y1,y2,y3,y4,y5,y6,y7⟩:=Ad hb2 ⟨HA,y0,y1,y2,y3,y4,y5,y6,y7⟩;go_wp2_with fail
  have hT:=Ad (Bd (Below.refl _ _)) ⟨HA,y0,y1,y2,y3,y4,y5,y6,y7⟩;go_region_held3 (fun W=>RB w W 16 d s t u a k q) (first |exact hT |exact Ad hb (by assumption))
   (first
    |(go_at_call 106;(with_reducible refine(Cd.out _).mono ?_);rintro e w' ⟨rfl,hb⟩)
    |(go_at_call 106;(with_reducible refine(Cs.out _).mono ?_);rintro e w' ⟨rfl,hb⟩))
  obtain⟨HA,y0,y1,y2,y3,y4,y5,y6,y7⟩:=Ad (Below.refl _ _) (by assumption);go_wp2;go_ret;refine⟨BH ?_,HA.out.2⟩;rw[te.out];simp[Dy,BU])
theorem Yw(d s t u a k q:Int)(hf:In.fits ⟨17,d,s,t,u,a,k,q⟩)(w:World):Calls Tryz.prog 92 #[In.v ⟨17,d,s,t,u,a,k,q⟩] w fun e w'=>e=.returned (.string ⟨(Bx ⟨17,d,s,t,u,a,k,q⟩).toArray⟩)∧Below w.heap.size w w':=by
 have te:Bx ⟨17,d,s,t,u,a,k,q⟩=Aj 17++(((32::dec a)++(32::114::dec s))++(32::114::dec t)):=by
  show Go.Lib.join (Aj 17::List.flatten [[dec a],[114::dec s],[114::dec t]]) [32]=_
  simp[BG,Go.Lib.join_one]
 obtain⟨CK,CA,wk,lk,la,CQ,ld0,ls0,lt0,lu0,lk0,la0,lq0⟩:=BY hf;have CN:=Az (fun W=>AA 17 W);have Cs:=Az (fun W=>AV hf.s.1 (Int.le_trans hf.s.2 (by decide)) W);have Ct:=Az (fun W=>AV hf.t.1 (Int.le_trans hf.t.2 (by decide)) W);dsimp only at Cs Ct;have ln0:(Aj 17).length=5:=by decide
 have b2:¬9223372036854775807<((1+(dec a).length)+((dec s).length+1+1)):=by omega
 have b3:¬9223372036854775807<(((1+(dec a).length)+((dec s).length+1+1))+((dec t).length+1+1)):=by omega
 have bn:¬9223372036854775807<(Aj 17).length+(((1+(dec a).length)+((dec s).length+1+1))+((dec t).length+1+1)):=by omega
 clear lk0 lq0 ld0 ls0 lt0 lu0 la0 ln0;have hS:=BB w 17 d s t u a k q;replace hf:=Az hf;replace te:=Az te;unfold In.v;go_enter Tryz.func92,Tryz.ntmps92;go_wp2_with fail
 go_region_held3 (fun W=>RB w W 17 d s t u a k q) (first |exact hS |exact Ad hb (by assumption))
  (first
   |(go_at_call 105;(with_reducible refine(CK.out _).mono ?_);rintro e w' ⟨rfl,hb⟩)
   |(go_at_call 105;(with_reducible refine(CA.out _).mono ?_);rintro e w' ⟨rfl,hb⟩))
 obtain⟨HA,y0,y1,y2,y3,y4,y5,y6,y7⟩:=Ad (Below.refl _ _) (by assumption);by_cases hq:0≤q;obtain⟨CQ,lq⟩:=CQ.out hq;go_wp2_with fail
 refine(CQ.out _).mono ?_;rintro e w2 ⟨rfl,hb2⟩;obtain⟨HA,y0,y1,y2,y3,y4,y5,y6,y7⟩:=Ad hb2 ⟨HA,y0,y1,y2,y3,y4,y5,y6,y7⟩;go_wp2_with fail
 rotate_left;go_wp2_with fail
 rotate_left;all_goals (
  refine(CN.out _).mono ?_;rintro e w2 ⟨rfl,hb2⟩;obtain⟨HA,y0,y1,y2,y3,y4,y5,y6,y7⟩:=Ad hb2 ⟨HA,y0,y1,y2,y3,y4,y5,y6,y7⟩;go_wp2_with fail
  have hT:=Ad (Bd (Below.refl _ _)) ⟨HA,y0,y1,y2,y3,y4,y5,y6,y7⟩;go_region_held3 (fun W=>RB w W 17 d s t u a k q) (first |exact hT |exact Ad hb (by assumption))
   (first
    |(go_at_call 106;(with_reducible refine(Cs.out _).mono ?_);rintro e w' ⟨rfl,hb⟩)
    |(go_at_call 106;(with_reducible refine(Ct.out _).mono ?_);rintro e w' ⟨rfl,hb⟩))
  obtain⟨HA,y0,y1,y2,y3,y4,y5,y6,y7⟩:=Ad (Below.refl _ _) (by assumption);go_wp2;go_ret;refine⟨BH ?_,HA.out.2⟩;rw[te.out];simp[Dy,BU])
theorem Ym(d s t u a k q:Int)(hf:In.fits ⟨18,d,s,t,u,a,k,q⟩)(w:World):Calls Tryz.prog 92 #[In.v ⟨18,d,s,t,u,a,k,q⟩] w fun e w'=>e=.returned (.string ⟨(Bx ⟨18,d,s,t,u,a,k,q⟩).toArray⟩)∧Below w.heap.size w w':=by
 have te:Bx ⟨18,d,s,t,u,a,k,q⟩=Aj 18++((((32::114::dec d)++(32::dec a))++(32::114::dec s))++(32::114::dec t)):=by
  show Go.Lib.join (Aj 18::List.flatten [[114::dec d],[dec a],[114::dec s],[114::dec t]]) [32]=_
  simp[BG,Go.Lib.join_one]
 obtain⟨CK,CA,wk,lk,la,CQ,ld0,ls0,lt0,lu0,lk0,la0,lq0⟩:=BY hf;have CN:=Az (fun W=>AA 18 W);have Cd:=Az (fun W=>AV hf.d.1 (Int.le_trans hf.d.2 (by decide)) W);have Cs:=Az (fun W=>AV hf.s.1 (Int.le_trans hf.s.2 (by decide)) W);have Ct:=Az (fun W=>AV hf.t.1 (Int.le_trans hf.t.2 (by decide)) W);dsimp only at Cd Cs Ct;have ln0:(Aj 18).length=4:=by decide
 have b2:¬9223372036854775807<(((dec d).length+1+1)+(1+(dec a).length)):=by omega
 have b3:¬9223372036854775807<((((dec d).length+1+1)+(1+(dec a).length))+((dec s).length+1+1)):=by omega
 have b4:¬9223372036854775807<(((((dec d).length+1+1)+(1+(dec a).length))+((dec s).length+1+1))+((dec t).length+1+1)):=by omega
 have bn:¬9223372036854775807<(Aj 18).length+(((((dec d).length+1+1)+(1+(dec a).length))+((dec s).length+1+1))+((dec t).length+1+1)):=by omega
 clear lk0 lq0 ld0 ls0 lt0 lu0 la0 ln0;have hS:=BB w 18 d s t u a k q;replace hf:=Az hf;replace te:=Az te;unfold In.v;go_enter Tryz.func92,Tryz.ntmps92;go_wp2_with fail
 go_region_held3 (fun W=>RB w W 18 d s t u a k q) (first |exact hS |exact Ad hb (by assumption))
  (first
   |(go_at_call 105;(with_reducible refine(CK.out _).mono ?_);rintro e w' ⟨rfl,hb⟩)
   |(go_at_call 105;(with_reducible refine(CA.out _).mono ?_);rintro e w' ⟨rfl,hb⟩))
 obtain⟨HA,y0,y1,y2,y3,y4,y5,y6,y7⟩:=Ad (Below.refl _ _) (by assumption);by_cases hq:0≤q;obtain⟨CQ,lq⟩:=CQ.out hq;go_wp2_with fail
 refine(CQ.out _).mono ?_;rintro e w2 ⟨rfl,hb2⟩;obtain⟨HA,y0,y1,y2,y3,y4,y5,y6,y7⟩:=Ad hb2 ⟨HA,y0,y1,y2,y3,y4,y5,y6,y7⟩;go_wp2_with fail
 rotate_left;go_wp2_with fail
 rotate_left;all_goals (
  refine(CN.out _).mono ?_;rintro e w2 ⟨rfl,hb2⟩;obtain⟨HA,y0,y1,y2,y3,y4,y5,y6,y7⟩:=Ad hb2 ⟨HA,y0,y1,y2,y3,y4,y5,y6,y7⟩;go_wp2_with fail
  have hT:=Ad (Bd (Below.refl _ _)) ⟨HA,y0,y1,y2,y3,y4,y5,y6,y7⟩;go_region_held3 (fun W=>RB w W 18 d s t u a k q) (first |exact hT |exact Ad hb (by assumption))
   (first
    |(go_at_call 106;(with_reducible refine(Cd.out _).mono ?_);rintro e w' ⟨rfl,hb⟩)
    |(go_at_call 106;(with_reducible refine(Cs.out _).mono ?_);rintro e w' ⟨rfl,hb⟩)
    |(go_at_call 106;(with_reducible refine(Ct.out _).mono ?_);rintro e w' ⟨rfl,hb⟩))
  obtain⟨HA,y0,y1,y2,y3,y4,y5,y6,y7⟩:=Ad (Below.refl _ _) (by assumption);go_wp2;go_ret;refine⟨BH ?_,HA.out.2⟩;rw[te.out];simp[Dy,BU])
theorem Yn(d s t u a k q:Int)(hf:In.fits ⟨19,d,s,t,u,a,k,q⟩)(w:World):Calls Tryz.prog 92 #[In.v ⟨19,d,s,t,u,a,k,q⟩] w fun e w'=>e=.returned (.string ⟨(Bx ⟨19,d,s,t,u,a,k,q⟩).toArray⟩)∧Below w.heap.size w w':=by
 have te:Bx ⟨19,d,s,t,u,a,k,q⟩=Aj 19++(((((32::114::dec d)++(32::dec a))++(32::114::dec s))++(32::114::dec t))++(32::114::dec u)):=by
  show Go.Lib.join (Aj 19::List.flatten [[114::dec d],[dec a],[114::dec s],[114::dec t],[114::dec u]]) [32]=_
  simp[BG,Go.Lib.join_one]
 obtain⟨CK,CA,wk,lk,la,CQ,ld0,ls0,lt0,lu0,lk0,la0,lq0⟩:=BY hf;have CN:=Az (fun W=>AA 19 W);have Cd:=Az (fun W=>AV hf.d.1 (Int.le_trans hf.d.2 (by decide)) W);have Cs:=Az (fun W=>AV hf.s.1 (Int.le_trans hf.s.2 (by decide)) W);have Ct:=Az (fun W=>AV hf.t.1 (Int.le_trans hf.t.2 (by decide)) W);have Cu:=Az (fun W=>AV hf.u.1 (Int.le_trans hf.u.2 (by decide)) W);dsimp only at Cd Cs Ct Cu;have ln0:(Aj 19).length=3:=by decide
 have b2:¬9223372036854775807<(((dec d).length+1+1)+(1+(dec a).length)):=by omega
 have b3:¬9223372036854775807<((((dec d).length+1+1)+(1+(dec a).length))+((dec s).length+1+1)):=by omega
 have b4:¬9223372036854775807<(((((dec d).length+1+1)+(1+(dec a).length))+((dec s).length+1+1))+((dec t).length+1+1)):=by omega
 have b5:¬9223372036854775807<((((((dec d).length+1+1)+(1+(dec a).length))+((dec s).length+1+1))+((dec t).length+1+1))+((dec u).length+1+1)):=by omega
 have bn:¬9223372036854775807<(Aj 19).length+((((((dec d).length+1+1)+(1+(dec a).length))+((dec s).length+1+1))+((dec t).length+1+1))+((dec u).length+1+1)):=by omega
 clear lk0 lq0 ld0 ls0 lt0 lu0 la0 ln0;have hS:=BB w 19 d s t u a k q;replace hf:=Az hf;replace te:=Az te;unfold In.v;go_enter Tryz.func92,Tryz.ntmps92;go_wp2_with fail
 go_region_held3 (fun W=>RB w W 19 d s t u a k q) (first |exact hS |exact Ad hb (by assumption))
  (first
   |(go_at_call 105;(with_reducible refine(CK.out _).mono ?_);rintro e w' ⟨rfl,hb⟩)
   |(go_at_call 105;(with_reducible refine(CA.out _).mono ?_);rintro e w' ⟨rfl,hb⟩))
 obtain⟨HA,y0,y1,y2,y3,y4,y5,y6,y7⟩:=Ad (Below.refl _ _) (by assumption);by_cases hq:0≤q;obtain⟨CQ,lq⟩:=CQ.out hq;go_wp2_with fail
 refine(CQ.out _).mono ?_;rintro e w2 ⟨rfl,hb2⟩;obtain⟨HA,y0,y1,y2,y3,y4,y5,y6,y7⟩:=Ad hb2 ⟨HA,y0,y1,y2,y3,y4,y5,y6,y7⟩;go_wp2_with fail
 rotate_left;go_wp2_with fail
 rotate_left;all_goals (
  refine(CN.out _).mono ?_;rintro e w2 ⟨rfl,hb2⟩;obtain⟨HA,y0,y1,y2,y3,y4,y5,y6,y7⟩:=Ad hb2 ⟨HA,y0,y1,y2,y3,y4,y5,y6,y7⟩;go_wp2_with fail
  have hT:=Ad (Bd (Below.refl _ _)) ⟨HA,y0,y1,y2,y3,y4,y5,y6,y7⟩;go_region_held3 (fun W=>RB w W 19 d s t u a k q) (first |exact hT |exact Ad hb (by assumption))
   (first
    |(go_at_call 106;(with_reducible refine(Cd.out _).mono ?_);rintro e w' ⟨rfl,hb⟩)
    |(go_at_call 106;(with_reducible refine(Cs.out _).mono ?_);rintro e w' ⟨rfl,hb⟩)
    |(go_at_call 106;(with_reducible refine(Ct.out _).mono ?_);rintro e w' ⟨rfl,hb⟩)
    |(go_at_call 106;(with_reducible refine(Cu.out _).mono ?_);rintro e w' ⟨rfl,hb⟩))
  obtain⟨HA,y0,y1,y2,y3,y4,y5,y6,y7⟩:=Ad (Below.refl _ _) (by assumption);go_wp2;go_ret;refine⟨BH ?_,HA.out.2⟩;rw[te.out];simp[Dy,BU])
theorem Yo(d s t u a k q:Int)(hf:In.fits ⟨20,d,s,t,u,a,k,q⟩)(w:World):Calls Tryz.prog 92 #[In.v ⟨20,d,s,t,u,a,k,q⟩] w fun e w'=>e=.returned (.string ⟨(Bx ⟨20,d,s,t,u,a,k,q⟩).toArray⟩)∧Below w.heap.size w w':=by
 have te:Bx ⟨20,d,s,t,u,a,k,q⟩=Aj 20++((((32::114::dec d)++(32::dec a))++(32::114::dec s))++(32::dec k)):=by
  show Go.Lib.join (Aj 20::List.flatten [[114::dec d],[dec a],[114::dec s],[dec k]]) [32]=_
  simp[BG,Go.Lib.join_one]
 obtain⟨CK,CA,wk,lk,la,CQ,ld0,ls0,lt0,lu0,lk0,la0,lq0⟩:=BY hf;have CN:=Az (fun W=>AA 20 W);have Cd:=Az (fun W=>AV hf.d.1 (Int.le_trans hf.d.2 (by decide)) W);have Cs:=Az (fun W=>AV hf.s.1 (Int.le_trans hf.s.2 (by decide)) W);dsimp only at Cd Cs;have ln0:(Aj 20).length=4:=by decide
 have b2:¬9223372036854775807<(((dec d).length+1+1)+(1+(dec a).length)):=by omega
 have b3:¬9223372036854775807<((((dec d).length+1+1)+(1+(dec a).length))+((dec s).length+1+1)):=by omega
 have b4:¬9223372036854775807<(((((dec d).length+1+1)+(1+(dec a).length))+((dec s).length+1+1))+(1+(dec k).length)):=by omega
 have bn:¬9223372036854775807<(Aj 20).length+(((((dec d).length+1+1)+(1+(dec a).length))+((dec s).length+1+1))+(1+(dec k).length)):=by omega
 clear lk0 lq0 ld0 ls0 lt0 lu0 la0 ln0;have hS:=BB w 20 d s t u a k q;replace hf:=Az hf;replace te:=Az te;unfold In.v;go_enter Tryz.func92,Tryz.ntmps92;go_wp2_with fail
 go_region_held3 (fun W=>RB w W 20 d s t u a k q) (first |exact hS |exact Ad hb (by assumption))
  (first
   |(go_at_call 105;(with_reducible refine(CK.out _).mono ?_);rintro e w' ⟨rfl,hb⟩)
   |(go_at_call 105;(with_reducible refine(CA.out _).mono ?_);rintro e w' ⟨rfl,hb⟩))
 obtain⟨HA,y0,y1,y2,y3,y4,y5,y6,y7⟩:=Ad (Below.refl _ _) (by assumption);by_cases hq:0≤q;obtain⟨CQ,lq⟩:=CQ.out hq;go_wp2_with fail
 refine(CQ.out _).mono ?_;rintro e w2 ⟨rfl,hb2⟩;obtain⟨HA,y0,y1,y2,y3,y4,y5,y6,y7⟩:=Ad hb2 ⟨HA,y0,y1,y2,y3,y4,y5,y6,y7⟩;go_wp2_with fail
 rotate_left;go_wp2_with fail
 rotate_left;all_goals (
  refine(CN.out _).mono ?_;rintro e w2 ⟨rfl,hb2⟩;obtain⟨HA,y0,y1,y2,y3,y4,y5,y6,y7⟩:=Ad hb2 ⟨HA,y0,y1,y2,y3,y4,y5,y6,y7⟩;go_wp2_with fail
  have hT:=Ad (Bd (Below.refl _ _)) ⟨HA,y0,y1,y2,y3,y4,y5,y6,y7⟩;go_region_held3 (fun W=>RB w W 20 d s t u a k q) (first |exact hT |exact Ad hb (by assumption))
   (first
    |(go_at_call 106;(with_reducible refine(Cd.out _).mono ?_);rintro e w' ⟨rfl,hb⟩)
    |(go_at_call 106;(with_reducible refine(Cs.out _).mono ?_);rintro e w' ⟨rfl,hb⟩))
  obtain⟨HA,y0,y1,y2,y3,y4,y5,y6,y7⟩:=Ad (Below.refl _ _) (by assumption);go_wp2;go_ret;refine⟨BH ?_,HA.out.2⟩;rw[te.out];simp[Dy,BU])
theorem Yp(d s t u a k q:Int)(hf:In.fits ⟨22,d,s,t,u,a,k,q⟩)(w:World):Calls Tryz.prog 92 #[In.v ⟨22,d,s,t,u,a,k,q⟩] w fun e w'=>e=.returned (.string ⟨(Bx ⟨22,d,s,t,u,a,k,q⟩).toArray⟩)∧Below w.heap.size w w':=by
 have te:Bx ⟨22,d,s,t,u,a,k,q⟩=Aj 22++(32::114::dec d):=by
  show Go.Lib.join (Aj 22::List.flatten [[114::dec d]]) [32]=_
  simp[BG,Go.Lib.join_one]
 obtain⟨CK,CA,wk,lk,la,CQ,ld0,ls0,lt0,lu0,lk0,la0,lq0⟩:=BY hf;have CN:=Az (fun W=>AA 22 W);have Cd:=Az (fun W=>AV hf.d.1 (Int.le_trans hf.d.2 (by decide)) W);dsimp only at Cd;have ln0:(Aj 22).length=4:=by decide
 have bn:¬9223372036854775807<(Aj 22).length+((dec d).length+1+1):=by omega
 clear lk0 lq0 ld0 ls0 lt0 lu0 la0 ln0;have hS:=BB w 22 d s t u a k q;replace hf:=Az hf;replace te:=Az te;unfold In.v;go_enter Tryz.func92,Tryz.ntmps92;go_wp2_with fail
 go_region_held3 (fun W=>RB w W 22 d s t u a k q) (first |exact hS |exact Ad hb (by assumption))
  (first
   |(go_at_call 105;(with_reducible refine(CK.out _).mono ?_);rintro e w' ⟨rfl,hb⟩)
   |(go_at_call 105;(with_reducible refine(CA.out _).mono ?_);rintro e w' ⟨rfl,hb⟩))
 obtain⟨HA,y0,y1,y2,y3,y4,y5,y6,y7⟩:=Ad (Below.refl _ _) (by assumption);by_cases hq:0≤q;obtain⟨CQ,lq⟩:=CQ.out hq;go_wp2_with fail
 refine(CQ.out _).mono ?_;rintro e w2 ⟨rfl,hb2⟩;obtain⟨HA,y0,y1,y2,y3,y4,y5,y6,y7⟩:=Ad hb2 ⟨HA,y0,y1,y2,y3,y4,y5,y6,y7⟩;go_wp2_with fail
 rotate_left;go_wp2_with fail
 rotate_left;all_goals (
  refine(CN.out _).mono ?_;rintro e w2 ⟨rfl,hb2⟩;obtain⟨HA,y0,y1,y2,y3,y4,y5,y6,y7⟩:=Ad hb2 ⟨HA,y0,y1,y2,y3,y4,y5,y6,y7⟩;go_wp2_with fail
  refine(Cd.out _).mono ?_;rintro e w2 ⟨rfl,hb2⟩;obtain⟨HA,y0,y1,y2,y3,y4,y5,y6,y7⟩:=Ad hb2 ⟨HA,y0,y1,y2,y3,y4,y5,y6,y7⟩;go_wp2_with fail
  go_wp2;go_ret;refine⟨BH ?_,HA.out.2⟩;rw[te.out];simp[Dy,BU])
theorem Yq(d s t u a k q:Int)(hf:In.fits ⟨23,d,s,t,u,a,k,q⟩)(w:World):Calls Tryz.prog 92 #[In.v ⟨23,d,s,t,u,a,k,q⟩] w fun e w'=>e=.returned (.string ⟨(Bx ⟨23,d,s,t,u,a,k,q⟩).toArray⟩)∧Below w.heap.size w w':=by
 have te:Bx ⟨23,d,s,t,u,a,k,q⟩=Aj 23++(32::114::dec s):=by
  show Go.Lib.join (Aj 23::List.flatten [[114::dec s]]) [32]=_
  simp[BG,Go.Lib.join_one]
 obtain⟨CK,CA,wk,lk,la,CQ,ld0,ls0,lt0,lu0,lk0,la0,lq0⟩:=BY hf;have CN:=Az (fun W=>AA 23 W);have Cs:=Az (fun W=>AV hf.s.1 (Int.le_trans hf.s.2 (by decide)) W);dsimp only at Cs;have ln0:(Aj 23).length=4:=by decide
 have bn:¬9223372036854775807<(Aj 23).length+((dec s).length+1+1):=by omega
 clear lk0 lq0 ld0 ls0 lt0 lu0 la0 ln0;have hS:=BB w 23 d s t u a k q;replace hf:=Az hf;replace te:=Az te;unfold In.v;go_enter Tryz.func92,Tryz.ntmps92;go_wp2_with fail
 go_region_held3 (fun W=>RB w W 23 d s t u a k q) (first |exact hS |exact Ad hb (by assumption))
  (first
   |(go_at_call 105;(with_reducible refine(CK.out _).mono ?_);rintro e w' ⟨rfl,hb⟩)
   |(go_at_call 105;(with_reducible refine(CA.out _).mono ?_);rintro e w' ⟨rfl,hb⟩))
 obtain⟨HA,y0,y1,y2,y3,y4,y5,y6,y7⟩:=Ad (Below.refl _ _) (by assumption);by_cases hq:0≤q;obtain⟨CQ,lq⟩:=CQ.out hq;go_wp2_with fail
 refine(CQ.out _).mono ?_;rintro e w2 ⟨rfl,hb2⟩;obtain⟨HA,y0,y1,y2,y3,y4,y5,y6,y7⟩:=Ad hb2 ⟨HA,y0,y1,y2,y3,y4,y5,y6,y7⟩;go_wp2_with fail
 rotate_left;go_wp2_with fail
 rotate_left;all_goals (
  refine(CN.out _).mono ?_;rintro e w2 ⟨rfl,hb2⟩;obtain⟨HA,y0,y1,y2,y3,y4,y5,y6,y7⟩:=Ad hb2 ⟨HA,y0,y1,y2,y3,y4,y5,y6,y7⟩;go_wp2_with fail
  refine(Cs.out _).mono ?_;rintro e w2 ⟨rfl,hb2⟩;obtain⟨HA,y0,y1,y2,y3,y4,y5,y6,y7⟩:=Ad hb2 ⟨HA,y0,y1,y2,y3,y4,y5,y6,y7⟩;go_wp2_with fail
  go_wp2;go_ret;refine⟨BH ?_,HA.out.2⟩;rw[te.out];simp[Dy,BU])
theorem Rk(a b c:UInt8):(⟨#[a,b,c]⟩:ByteArray)=⟨[a,b,c].toArray⟩:=rfl
theorem Rl(a b c d e:UInt8):(⟨#[a,b,c,d,e]⟩:ByteArray)=⟨[a,b,c,d,e].toArray⟩:=rfl
theorem VM(d s t u a q:Int)(hf:In.fits ⟨21,d,s,t,u,a,0,q⟩)(hq:0≤q)(w:World) :
  Calls Tryz.prog 92 #[.agg #[.int .i64 21,.int .i64 d,.int .i64 s,.int .i64 t,.int .i64 u,.int .i64 a,.int .u32 0,.int .i64 q]] w fun e w'=>e=.returned (.string ⟨(Bx ⟨21,d,s,t,u,a,0,q⟩).toArray⟩)∧Below w.heap.size w w':=by
 have ew:BW ⟨21,d,s,t,u,a,0,q⟩ 87=[101,113]::(114::dec t)::[[101,108,115,101],dec q]:=by
  unfold BW;rw[show AH 87=none from rfl];dsimp only;rw[if_neg (by omega),if_pos rfl,if_neg (show ¬q = -1 by omega)];rfl
 have te:Bx ⟨21,d,s,t,u,a,0,q⟩=(Aj 21++(((((32::114::dec d)++(32::dec a))++(32::114::dec s))++[32,101,113])++(32::114::dec t)))++([32,101,108,115,101]++(32::dec q)):=by
  show Go.Lib.join (Aj 21::List.flatten [[114::dec d],[dec a],[114::dec s],BW ⟨21,d,s,t,u,a,0,q⟩ 87]) [32]=_
  rw[ew];simp[BG,Go.Lib.join_one]
 clear ew;have CN:=Az (fun W=>AA 21 W);have CK:=Az (fun W=>Cb hf.k.1 hf.k.2 W);have CA:=Az (fun W=>Cb hf.a.1 (Int.le_trans hf.a.2 (by decide)) W);have CQ:=Az (fun W=>Cb hq (Int.le_trans hf.q.2 (by decide)) W);have Cd:=Az (fun W=>AV hf.d.1 (Int.le_trans hf.d.2 (by decide)) W);have Cs:=Az (fun W=>AV hf.s.1 (Int.le_trans hf.s.2 (by decide)) W);have Ct:=Az (fun W=>AV hf.t.1 (Int.le_trans hf.t.2 (by decide)) W);have lk0:=B5 hf.k.2;have lq0:=B5 (Int.le_trans hf.q.2 (show(1073741824:Int)≤4294967295 by decide));have ld0:=B5 (Int.le_trans hf.d.2 (show(7:Int)≤4294967295 by decide));have ls0:=B5 (Int.le_trans hf.s.2 (show(7:Int)≤4294967295 by decide));have lt0:=B5 (Int.le_trans hf.t.2 (show(7:Int)≤4294967295 by decide));have la0:=B5 (Int.le_trans hf.a.2 (show(7:Int)≤4294967295 by decide));dsimp only at lk0 lq0 ld0 ls0 lt0 la0 CN CK CA Cd Cs Ct CQ;have ln0:(Aj 21).length=5:=by decide
 have wk:IntKind.i64.wrap 0=0:=by decide
 have lk:¬9223372036854775807<1+(dec 0).length:=by omega
 have la:¬9223372036854775807<1+(dec a).length:=by omega
 have lq:¬9223372036854775807<1+(dec q).length:=by omega
 have b0:¬9223372036854775807<(((dec d).length+1+1)+(1+(dec a).length)):=by omega
 have b1:¬9223372036854775807<((((dec d).length+1+1)+(1+(dec a).length))+((dec s).length+1+1)):=by omega
 have b2:¬9223372036854775807<(((((dec d).length+1+1)+(1+(dec a).length))+((dec s).length+1+1))+3):=by omega
 have b3:¬9223372036854775807<((((((dec d).length+1+1)+(1+(dec a).length))+((dec s).length+1+1))+3)+((dec t).length+1+1)):=by omega
 have bn:¬9223372036854775807<(Aj 21).length+((((((dec d).length+1+1)+(1+(dec a).length))+((dec s).length+1+1))+3)+((dec t).length+1+1)):=by omega
 have be:¬9223372036854775807<5+(1+(dec q).length):=by omega
 have bz:¬9223372036854775807<(Aj 21).length+((((((dec d).length+1+1)+(1+(dec a).length))+((dec s).length+1+1))+3)+((dec t).length+1+1))+(5+(1+(dec q).length)):=by omega
 clear lk0 lq0 ld0 ls0 lt0 la0 ln0;have hS:=Ep (w:=w) (W:=(w.alloc (.cells (In.cs ⟨21,d,s,t,u,a,0,q⟩) 90)).drew) ⟨Be (Bv w (.cells (In.cs ⟨21,d,s,t,u,a,0,q⟩) 90)),Bd ((Below.refl w.heap.size w).alloc (Nl _) _)⟩;replace hf:=Az hf;replace te:=Az te;go_enter Tryz.func92,Tryz.ntmps92;go_wp2_with fail
 go_region_held3 (fun W=>RB w W 21 d s t u a 0 q)
  (first |exact hS |exact Ad hb (by assumption))
  (first
   |(go_at_call 105;(with_reducible refine(CK.out _).mono ?_);rintro e w' ⟨rfl,hb⟩)
   |(go_at_call 105;(with_reducible refine(CA.out _).mono ?_);rintro e w' ⟨rfl,hb⟩))
 obtain⟨HA,y0,y1,y2,y3,y4,y5,y6,y7⟩:=Ad (Below.refl _ _) (by assumption);go_wp2_with fail
 refine(CQ.out _).mono ?_;rintro e w2 ⟨rfl,hb2⟩;obtain⟨HA,y0,y1,y2,y3,y4,y5,y6,y7⟩:=Ad hb2 ⟨HA,y0,y1,y2,y3,y4,y5,y6,y7⟩;go_wp2_with fail
 refine(CN.out _).mono ?_;rintro e w3 ⟨rfl,hb3⟩;obtain⟨HA,y0,y1,y2,y3,y4,y5,y6,y7⟩:=Ad hb3 ⟨HA,y0,y1,y2,y3,y4,y5,y6,y7⟩;go_wp2_with fail
 have hT:=Ad (Bd (Below.refl w3.heap.size w3)) ⟨HA,y0,y1,y2,y3,y4,y5,y6,y7⟩;go_region_held3 (fun W=>RB w W 21 d s t u a 0 q)
  (first |exact hT |exact Ad hb (by assumption))
  (first
   |(go_at_call 106;(with_reducible refine(Cd.out _).mono ?_);rintro e w' ⟨rfl,hb⟩)
   |(go_at_call 106;(with_reducible refine(Cs.out _).mono ?_);rintro e w' ⟨rfl,hb⟩)
   |(go_at_call 106;(with_reducible refine(Ct.out _).mono ?_);rintro e w' ⟨rfl,hb⟩))
 obtain⟨HA,y0,y1,y2,y3,y4,y5,y6,y7⟩:=Ad (Below.refl _ _) (by assumption);go_wp2;go_ret;refine⟨BH ?_,HA.out.2⟩;rw[te.out];simp[Dy,Rk,Rl,BU]
theorem TS(d s t u a:Int)(hf:In.fits ⟨21,d,s,t,u,a,0,(-1)⟩)(w:World) :
  Calls Tryz.prog 92 #[.agg #[.int .i64 21,.int .i64 d,.int .i64 s,.int .i64 t,.int .i64 u,.int .i64 a,.int .u32 0,.int .i64 (-1)]] w fun e w'=>e=.returned (.string ⟨(Bx ⟨21,d,s,t,u,a,0,(-1)⟩).toArray⟩)∧Below w.heap.size w w':=by
 have ew:BW ⟨21,d,s,t,u,a,0,(-1)⟩ 87=[101,113]::(114::dec t)::[]:=by
  unfold BW;rw[show AH 87=none from rfl];dsimp only;rw[if_neg (by omega),if_pos rfl,if_pos rfl];rfl
 have te:Bx ⟨21,d,s,t,u,a,0,(-1)⟩=Aj 21++(((((32::114::dec d)++(32::dec a))++(32::114::dec s))++[32,101,113])++(32::114::dec t)):=by
  show Go.Lib.join (Aj 21::List.flatten [[114::dec d],[dec a],[114::dec s],BW ⟨21,d,s,t,u,a,0,(-1)⟩ 87]) [32]=_
  rw[ew];simp[BG,Go.Lib.join_one]
 clear ew;have CN:=Az (fun W=>AA 21 W);have CK:=Az (fun W=>Cb hf.k.1 hf.k.2 W);have CA:=Az (fun W=>Cb hf.a.1 (Int.le_trans hf.a.2 (by decide)) W);have Cd:=Az (fun W=>AV hf.d.1 (Int.le_trans hf.d.2 (by decide)) W);have Cs:=Az (fun W=>AV hf.s.1 (Int.le_trans hf.s.2 (by decide)) W);have Ct:=Az (fun W=>AV hf.t.1 (Int.le_trans hf.t.2 (by decide)) W);have lk0:=B5 hf.k.2;have lq0:=B5 (Int.le_trans hf.q.2 (show(1073741824:Int)≤4294967295 by decide));have ld0:=B5 (Int.le_trans hf.d.2 (show(7:Int)≤4294967295 by decide));have ls0:=B5 (Int.le_trans hf.s.2 (show(7:Int)≤4294967295 by decide));have lt0:=B5 (Int.le_trans hf.t.2 (show(7:Int)≤4294967295 by decide));have la0:=B5 (Int.le_trans hf.a.2 (show(7:Int)≤4294967295 by decide));dsimp only at lk0 lq0 ld0 ls0 lt0 la0 CN CK CA Cd Cs Ct;have ln0:(Aj 21).length=5:=by decide
 have wk:IntKind.i64.wrap 0=0:=by decide
 have lk:¬9223372036854775807<1+(dec 0).length:=by omega
 have la:¬9223372036854775807<1+(dec a).length:=by omega
 have b0:¬9223372036854775807<(((dec d).length+1+1)+(1+(dec a).length)):=by omega
 have b1:¬9223372036854775807<((((dec d).length+1+1)+(1+(dec a).length))+((dec s).length+1+1)):=by omega
 have b2:¬9223372036854775807<(((((dec d).length+1+1)+(1+(dec a).length))+((dec s).length+1+1))+3):=by omega
 have b3:¬9223372036854775807<((((((dec d).length+1+1)+(1+(dec a).length))+((dec s).length+1+1))+3)+((dec t).length+1+1)):=by omega
 have bn:¬9223372036854775807<(Aj 21).length+((((((dec d).length+1+1)+(1+(dec a).length))+((dec s).length+1+1))+3)+((dec t).length+1+1)):=by omega
 clear lk0 lq0 ld0 ls0 lt0 la0 ln0;have hS:=Ep (w:=w) (W:=(w.alloc (.cells (In.cs ⟨21,d,s,t,u,a,0,(-1)⟩) 90)).drew) ⟨Be (Bv w (.cells (In.cs ⟨21,d,s,t,u,a,0,(-1)⟩) 90)),Bd ((Below.refl w.heap.size w).alloc (Nl _) _)⟩;replace hf:=Az hf;replace te:=Az te;go_enter Tryz.func92,Tryz.ntmps92;go_wp2_with fail
 go_region_held3 (fun W=>RB w W 21 d s t u a 0 (-1))
  (first |exact hS |exact Ad hb (by assumption))
  (first
   |(go_at_call 105;(with_reducible refine(CK.out _).mono ?_);rintro e w' ⟨rfl,hb⟩)
   |(go_at_call 105;(with_reducible refine(CA.out _).mono ?_);rintro e w' ⟨rfl,hb⟩))
 obtain⟨HA,y0,y1,y2,y3,y4,y5,y6,y7⟩:=Ad (Below.refl _ _) (by assumption);go_wp2_with fail
 refine(CN.out _).mono ?_;rintro e w2 ⟨rfl,hb2⟩;obtain⟨HA,y0,y1,y2,y3,y4,y5,y6,y7⟩:=Ad hb2 ⟨HA,y0,y1,y2,y3,y4,y5,y6,y7⟩;go_wp2_with fail
 have hT:=Ad (Bd (Below.refl w2.heap.size w2)) ⟨HA,y0,y1,y2,y3,y4,y5,y6,y7⟩;go_region_held3 (fun W=>RB w W 21 d s t u a 0 (-1))
  (first |exact hT |exact Ad hb (by assumption))
  (first
   |(go_at_call 106;(with_reducible refine(Cd.out _).mono ?_);rintro e w' ⟨rfl,hb⟩)
   |(go_at_call 106;(with_reducible refine(Cs.out _).mono ?_);rintro e w' ⟨rfl,hb⟩)
   |(go_at_call 106;(with_reducible refine(Ct.out _).mono ?_);rintro e w' ⟨rfl,hb⟩))
 obtain⟨HA,y0,y1,y2,y3,y4,y5,y6,y7⟩:=Ad (Below.refl _ _) (by assumption);go_wp2;go_ret;refine⟨BH ?_,HA.out.2⟩;rw[te.out];simp[Dy,Rk,Rl,BU]
theorem VN(d s t u a q:Int)(hf:In.fits ⟨21,d,s,t,u,a,1,q⟩)(hq:0≤q)(w:World) :
  Calls Tryz.prog 92 #[.agg #[.int .i64 21,.int .i64 d,.int .i64 s,.int .i64 t,.int .i64 u,.int .i64 a,.int .u32 1,.int .i64 q]] w fun e w'=>e=.returned (.string ⟨(Bx ⟨21,d,s,t,u,a,1,q⟩).toArray⟩)∧Below w.heap.size w w':=by
 have ew:BW ⟨21,d,s,t,u,a,1,q⟩ 87=[110,101]::(114::dec t)::[[101,108,115,101],dec q]:=by
  unfold BW;rw[show AH 87=none from rfl];dsimp only;rw[if_neg (by omega),if_pos rfl,if_neg (show ¬q = -1 by omega)];rfl
 have te:Bx ⟨21,d,s,t,u,a,1,q⟩=(Aj 21++(((((32::114::dec d)++(32::dec a))++(32::114::dec s))++[32,110,101])++(32::114::dec t)))++([32,101,108,115,101]++(32::dec q)):=by
  show Go.Lib.join (Aj 21::List.flatten [[114::dec d],[dec a],[114::dec s],BW ⟨21,d,s,t,u,a,1,q⟩ 87]) [32]=_
  rw[ew];simp[BG,Go.Lib.join_one]
 clear ew;have CN:=Az (fun W=>AA 21 W);have CK:=Az (fun W=>Cb hf.k.1 hf.k.2 W);have CA:=Az (fun W=>Cb hf.a.1 (Int.le_trans hf.a.2 (by decide)) W);have CQ:=Az (fun W=>Cb hq (Int.le_trans hf.q.2 (by decide)) W);have Cd:=Az (fun W=>AV hf.d.1 (Int.le_trans hf.d.2 (by decide)) W);have Cs:=Az (fun W=>AV hf.s.1 (Int.le_trans hf.s.2 (by decide)) W);have Ct:=Az (fun W=>AV hf.t.1 (Int.le_trans hf.t.2 (by decide)) W);have lk0:=B5 hf.k.2;have lq0:=B5 (Int.le_trans hf.q.2 (show(1073741824:Int)≤4294967295 by decide));have ld0:=B5 (Int.le_trans hf.d.2 (show(7:Int)≤4294967295 by decide));have ls0:=B5 (Int.le_trans hf.s.2 (show(7:Int)≤4294967295 by decide));have lt0:=B5 (Int.le_trans hf.t.2 (show(7:Int)≤4294967295 by decide));have la0:=B5 (Int.le_trans hf.a.2 (show(7:Int)≤4294967295 by decide));dsimp only at lk0 lq0 ld0 ls0 lt0 la0 CN CK CA Cd Cs Ct CQ;have ln0:(Aj 21).length=5:=by decide
 have wk:IntKind.i64.wrap 1=1:=by decide
 have lk:¬9223372036854775807<1+(dec 1).length:=by omega
 have la:¬9223372036854775807<1+(dec a).length:=by omega
 have lq:¬9223372036854775807<1+(dec q).length:=by omega
 have b0:¬9223372036854775807<(((dec d).length+1+1)+(1+(dec a).length)):=by omega
 have b1:¬9223372036854775807<((((dec d).length+1+1)+(1+(dec a).length))+((dec s).length+1+1)):=by omega
 have b2:¬9223372036854775807<(((((dec d).length+1+1)+(1+(dec a).length))+((dec s).length+1+1))+3):=by omega
 have b3:¬9223372036854775807<((((((dec d).length+1+1)+(1+(dec a).length))+((dec s).length+1+1))+3)+((dec t).length+1+1)):=by omega
 have bn:¬9223372036854775807<(Aj 21).length+((((((dec d).length+1+1)+(1+(dec a).length))+((dec s).length+1+1))+3)+((dec t).length+1+1)):=by omega
 have be:¬9223372036854775807<5+(1+(dec q).length):=by omega
 have bz:¬9223372036854775807<(Aj 21).length+((((((dec d).length+1+1)+(1+(dec a).length))+((dec s).length+1+1))+3)+((dec t).length+1+1))+(5+(1+(dec q).length)):=by omega
 clear lk0 lq0 ld0 ls0 lt0 la0 ln0;have hS:=Ep (w:=w) (W:=(w.alloc (.cells (In.cs ⟨21,d,s,t,u,a,1,q⟩) 90)).drew) ⟨Be (Bv w (.cells (In.cs ⟨21,d,s,t,u,a,1,q⟩) 90)),Bd ((Below.refl w.heap.size w).alloc (Nl _) _)⟩;replace hf:=Az hf;replace te:=Az te;go_enter Tryz.func92,Tryz.ntmps92;go_wp2_with fail
 go_region_held3 (fun W=>RB w W 21 d s t u a 1 q)
  (first |exact hS |exact Ad hb (by assumption))
  (first
   |(go_at_call 105;(with_reducible refine(CK.out _).mono ?_);rintro e w' ⟨rfl,hb⟩)
   |(go_at_call 105;(with_reducible refine(CA.out _).mono ?_);rintro e w' ⟨rfl,hb⟩))
 obtain⟨HA,y0,y1,y2,y3,y4,y5,y6,y7⟩:=Ad (Below.refl _ _) (by assumption);go_wp2_with fail
 refine(CQ.out _).mono ?_;rintro e w2 ⟨rfl,hb2⟩;obtain⟨HA,y0,y1,y2,y3,y4,y5,y6,y7⟩:=Ad hb2 ⟨HA,y0,y1,y2,y3,y4,y5,y6,y7⟩;go_wp2_with fail
 refine(CN.out _).mono ?_;rintro e w3 ⟨rfl,hb3⟩;obtain⟨HA,y0,y1,y2,y3,y4,y5,y6,y7⟩:=Ad hb3 ⟨HA,y0,y1,y2,y3,y4,y5,y6,y7⟩;go_wp2_with fail
 have hT:=Ad (Bd (Below.refl w3.heap.size w3)) ⟨HA,y0,y1,y2,y3,y4,y5,y6,y7⟩;go_region_held3 (fun W=>RB w W 21 d s t u a 1 q)
  (first |exact hT |exact Ad hb (by assumption))
  (first
   |(go_at_call 106;(with_reducible refine(Cd.out _).mono ?_);rintro e w' ⟨rfl,hb⟩)
   |(go_at_call 106;(with_reducible refine(Cs.out _).mono ?_);rintro e w' ⟨rfl,hb⟩)
   |(go_at_call 106;(with_reducible refine(Ct.out _).mono ?_);rintro e w' ⟨rfl,hb⟩))
 obtain⟨HA,y0,y1,y2,y3,y4,y5,y6,y7⟩:=Ad (Below.refl _ _) (by assumption);go_wp2;go_ret;refine⟨BH ?_,HA.out.2⟩;rw[te.out];simp[Dy,Rk,Rl,BU]
theorem TT(d s t u a:Int)(hf:In.fits ⟨21,d,s,t,u,a,1,(-1)⟩)(w:World) :
  Calls Tryz.prog 92 #[.agg #[.int .i64 21,.int .i64 d,.int .i64 s,.int .i64 t,.int .i64 u,.int .i64 a,.int .u32 1,.int .i64 (-1)]] w fun e w'=>e=.returned (.string ⟨(Bx ⟨21,d,s,t,u,a,1,(-1)⟩).toArray⟩)∧Below w.heap.size w w':=by
 have ew:BW ⟨21,d,s,t,u,a,1,(-1)⟩ 87=[110,101]::(114::dec t)::[]:=by
  unfold BW;rw[show AH 87=none from rfl];dsimp only;rw[if_neg (by omega),if_pos rfl,if_pos rfl];rfl
 have te:Bx ⟨21,d,s,t,u,a,1,(-1)⟩=Aj 21++(((((32::114::dec d)++(32::dec a))++(32::114::dec s))++[32,110,101])++(32::114::dec t)):=by
  show Go.Lib.join (Aj 21::List.flatten [[114::dec d],[dec a],[114::dec s],BW ⟨21,d,s,t,u,a,1,(-1)⟩ 87]) [32]=_
  rw[ew];simp[BG,Go.Lib.join_one]
 clear ew;have CN:=Az (fun W=>AA 21 W);have CK:=Az (fun W=>Cb hf.k.1 hf.k.2 W);have CA:=Az (fun W=>Cb hf.a.1 (Int.le_trans hf.a.2 (by decide)) W);have Cd:=Az (fun W=>AV hf.d.1 (Int.le_trans hf.d.2 (by decide)) W);have Cs:=Az (fun W=>AV hf.s.1 (Int.le_trans hf.s.2 (by decide)) W);have Ct:=Az (fun W=>AV hf.t.1 (Int.le_trans hf.t.2 (by decide)) W);have lk0:=B5 hf.k.2;have lq0:=B5 (Int.le_trans hf.q.2 (show(1073741824:Int)≤4294967295 by decide));have ld0:=B5 (Int.le_trans hf.d.2 (show(7:Int)≤4294967295 by decide));have ls0:=B5 (Int.le_trans hf.s.2 (show(7:Int)≤4294967295 by decide));have lt0:=B5 (Int.le_trans hf.t.2 (show(7:Int)≤4294967295 by decide));have la0:=B5 (Int.le_trans hf.a.2 (show(7:Int)≤4294967295 by decide));dsimp only at lk0 lq0 ld0 ls0 lt0 la0 CN CK CA Cd Cs Ct;have ln0:(Aj 21).length=5:=by decide
 have wk:IntKind.i64.wrap 1=1:=by decide
 have lk:¬9223372036854775807<1+(dec 1).length:=by omega
 have la:¬9223372036854775807<1+(dec a).length:=by omega
 have b0:¬9223372036854775807<(((dec d).length+1+1)+(1+(dec a).length)):=by omega
 have b1:¬9223372036854775807<((((dec d).length+1+1)+(1+(dec a).length))+((dec s).length+1+1)):=by omega
 have b2:¬9223372036854775807<(((((dec d).length+1+1)+(1+(dec a).length))+((dec s).length+1+1))+3):=by omega
 have b3:¬9223372036854775807<((((((dec d).length+1+1)+(1+(dec a).length))+((dec s).length+1+1))+3)+((dec t).length+1+1)):=by omega
 have bn:¬9223372036854775807<(Aj 21).length+((((((dec d).length+1+1)+(1+(dec a).length))+((dec s).length+1+1))+3)+((dec t).length+1+1)):=by omega
 clear lk0 lq0 ld0 ls0 lt0 la0 ln0;have hS:=Ep (w:=w) (W:=(w.alloc (.cells (In.cs ⟨21,d,s,t,u,a,1,(-1)⟩) 90)).drew) ⟨Be (Bv w (.cells (In.cs ⟨21,d,s,t,u,a,1,(-1)⟩) 90)),Bd ((Below.refl w.heap.size w).alloc (Nl _) _)⟩;replace hf:=Az hf;replace te:=Az te;go_enter Tryz.func92,Tryz.ntmps92;go_wp2_with fail
 go_region_held3 (fun W=>RB w W 21 d s t u a 1 (-1))
  (first |exact hS |exact Ad hb (by assumption))
  (first
   |(go_at_call 105;(with_reducible refine(CK.out _).mono ?_);rintro e w' ⟨rfl,hb⟩)
   |(go_at_call 105;(with_reducible refine(CA.out _).mono ?_);rintro e w' ⟨rfl,hb⟩))
 obtain⟨HA,y0,y1,y2,y3,y4,y5,y6,y7⟩:=Ad (Below.refl _ _) (by assumption);go_wp2_with fail
 refine(CN.out _).mono ?_;rintro e w2 ⟨rfl,hb2⟩;obtain⟨HA,y0,y1,y2,y3,y4,y5,y6,y7⟩:=Ad hb2 ⟨HA,y0,y1,y2,y3,y4,y5,y6,y7⟩;go_wp2_with fail
 have hT:=Ad (Bd (Below.refl w2.heap.size w2)) ⟨HA,y0,y1,y2,y3,y4,y5,y6,y7⟩;go_region_held3 (fun W=>RB w W 21 d s t u a 1 (-1))
  (first |exact hT |exact Ad hb (by assumption))
  (first
   |(go_at_call 106;(with_reducible refine(Cd.out _).mono ?_);rintro e w' ⟨rfl,hb⟩)
   |(go_at_call 106;(with_reducible refine(Cs.out _).mono ?_);rintro e w' ⟨rfl,hb⟩)
   |(go_at_call 106;(with_reducible refine(Ct.out _).mono ?_);rintro e w' ⟨rfl,hb⟩))
 obtain⟨HA,y0,y1,y2,y3,y4,y5,y6,y7⟩:=Ad (Below.refl _ _) (by assumption);go_wp2;go_ret;refine⟨BH ?_,HA.out.2⟩;rw[te.out];simp[Dy,Rk,Rl,BU]
theorem VL{i:In}{places:Int}(h:Bb places [68,65,83,87] {i with op:=0}=some In.zero):i.k≤1:=by
 rw[Bb,show(((68:UInt8).toNat:Nat):Int)=68 from rfl,Ft (j:=1) rfl]at h;by_cases b:({i with op:=0}:In).get 1<0∨7<({i with op:=0}:In).get 1
 ·rw[if_pos b]at h;cases h
 rw[if_neg b]at h;clear b;dsimp only at h;rw[Bb,show(((65:UInt8).toNat:Nat):Int)=65 from rfl,Ft (j:=5) rfl]at h;by_cases b:(({i with op:=0}:In).put 0 1).get 5<0∨7<(({i with op:=0}:In).put 0 1).get 5
 ·rw[if_pos b]at h;cases h
 rw[if_neg b]at h;clear b;dsimp only at h;rw[Bb,show(((83:UInt8).toNat:Nat):Int)=83 from rfl,Ft (j:=2) rfl]at h;by_cases b:((({i with op:=0}:In).put 0 1).put 0 5).get 2<0∨7<((({i with op:=0}:In).put 0 1).put 0 5).get 2
 ·rw[if_pos b]at h;cases h
 rw[if_neg b]at h;clear b;dsimp only at h;rw[Bb,show(((87:UInt8).toNat:Nat):Int)=87 from rfl,QJ]at h
 change (match (if 1<i.k then none else if i.t<0∨7<i.t∨i.q < -1∨(i.q ≠ -1∧places≤i.q) then none else some ({op:=0,d:=0,s:=0,t:=0,u:=i.u,a:=0,k:=0,q:=0}:In)) with |some r'=>Bb places [] r' |none=>none)=some In.zero at h
 by_cases b:1<i.k
 ·rw[if_pos b]at h;cases h
 ·omega
theorem LU(i:In)(h:AO i 1073741824=true)(hwk:i.wk)(w:World) :
  Calls Tryz.prog 92 #[i.v] w fun e w'=>e=.returned (.string ⟨(Bx i).toArray⟩)∧Below w.heap.size w w':=by
 have hf:=J1 h hwk;have hn:=Mg (J0 h);have hp:=Ov h;have hr:=GO h;obtain⟨op,d,s,t,u,a,k,q⟩:=i;dsimp only at hn hp hr;unfold In.v;dsimp only;have hc:op=1∨op=2∨op=3∨op=4∨op=5∨op=6∨op=7∨op=8∨op=9∨op=10∨op=11∨op=12∨op=13∨op=16∨op=17∨op=18∨op=19∨op=20∨op=21∨op=22∨op=23:=by omega
 rcases hc with rfl |rfl |rfl |rfl |rfl |rfl |rfl |rfl |rfl |rfl |rfl |rfl |rfl |rfl |rfl |rfl |rfl |rfl |rfl |rfl |rfl
 ·exact YU d s t u a k q hf w
 ·exact YV d s t u a k q hf w
 ·exact YW d s t u a k q hf w
 ·exact YX d s t u a k q hf w
 ·exact YY d s t u a k q hf w
 ·exact Zq d s t u a k q hf w
 ·exact Zr d s t u a k q hf w
 ·exact Zs d s t u a k q hf (hp (by decide)) w
 ·exact Zt d s t u a k q hf (hp (by decide)) w
 ·exact Yr d s t u a k q hf (hp (by decide)) w
 ·exact Ys d s t u a k q hf w
 ·exact Yt d s t u a k q hf w
 ·exact Yu d s t u a k q hf w
 ·exact Yv d s t u a k q hf w
 ·exact Yw d s t u a k q hf w
 ·exact Ym d s t u a k q hf w
 ·exact Yn d s t u a k q hf w
 ·exact Yo d s t u a k q hf w
 ·have hk1:k≤1:=VL (i:=⟨21,d,s,t,u,a,k,q⟩) hr;have hk:k=0∨k=1:=by have:=hf.k.1;dsimp only at this;omega
  have hq:=hf.q.1;dsimp only at hq;by_cases h0:0≤q
  ·rcases hk with rfl |rfl
   ·exact VM d s t u a q hf h0 w
   ·exact VN d s t u a q hf h0 w
  ·have hq1:q = -1:=by omega
   subst hq1;rcases hk with rfl |rfl
   ·exact TS d s t u a hf w
   ·exact TT d s t u a hf w
 ·exact Yp d s t u a k q hf w
 ·exact Yq d s t u a k q hf w
end
end Go.Proofs.YtnmahobjmpdkdaaGreatDoor
