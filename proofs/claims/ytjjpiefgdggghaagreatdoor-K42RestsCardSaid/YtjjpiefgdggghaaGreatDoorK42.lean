/- Parts: RefTextF. -/
import Derived.Test.YtjjpiefgdggghaaGreatDoorK05
import Derived.Test.YtjjpiefgdggghaaGreatDoorK22
set_option linter.unusedVariables false
set_option linter.unusedSimpArgs false
set_option maxRecDepth 100000
set_option maxHeartbeats 40000000
namespace Go.Proofs.YtjjpiefgdggghaaGreatDoor
section
open Go.RowKit Go.Proofs.YtjjpiefgdggghaaGreatDoorW.PrintWords
theorem St(a b c:UInt8):(⟨#[a,b,c]⟩:ByteArray)=⟨[a,b,c].toArray⟩:=rfl
theorem Su(a b c d e:UInt8):(⟨#[a,b,c,d,e]⟩:ByteArray)=⟨[a,b,c,d,e].toArray⟩:=rfl
theorem Xq(d s t u a q:Int)(hf:In.fits ⟨21,d,s,t,u,a,0,q⟩)(hq:0≤q)(w:World) :
  Calls Tryz.prog 118 #[.agg #[.int .i64 21,.int .i64 d,.int .i64 s,.int .i64 t,.int .i64 u,.int .i64 a,.int .u32 0,.int .i64 q]] w fun e w'=>e=.returned (.string ⟨(Bz ⟨21,d,s,t,u,a,0,q⟩).toArray⟩)∧Below w.heap.size w w':=by
 have ew:BW ⟨21,d,s,t,u,a,0,q⟩ 87=[101,113]::(114::dec t)::[[101,108,115,101],dec q]:=by
  unfold BW;rw[show AE 87=none from rfl];dsimp only;rw[if_neg (by omega),if_pos rfl,if_neg (show ¬q = -1 by omega)];rfl
 have te:Bz ⟨21,d,s,t,u,a,0,q⟩=(Ak 21++(((((32::114::dec d)++(32::dec a))++(32::114::dec s))++[32,101,113])++(32::114::dec t)))++([32,101,108,115,101]++(32::dec q)):=by
  show Go.Lib.join (Ak 21::List.flatten [[114::dec d],[dec a],[114::dec s],BW ⟨21,d,s,t,u,a,0,q⟩ 87]) [32]=_
  rw[ew];simp[BH,Go.Lib.join_one]
 clear ew;have CN:=Az (fun W=>AA 21 W);have CK:=Az (fun W=>Ca hf.k.1 hf.k.2 W);have CA:=Az (fun W=>Ca hf.a.1 (Int.le_trans hf.a.2 (by decide)) W);have CQ:=Az (fun W=>Ca hq (Int.le_trans hf.q.2 (by decide)) W);have Cd:=Az (fun W=>AU hf.d.1 (Int.le_trans hf.d.2 (by decide)) W);have Cs:=Az (fun W=>AU hf.s.1 (Int.le_trans hf.s.2 (by decide)) W);have Ct:=Az (fun W=>AU hf.t.1 (Int.le_trans hf.t.2 (by decide)) W);have lk0:=BB hf.k.2;have lq0:=BB (Int.le_trans hf.q.2 (show(1073741824:Int)≤4294967295 by decide));have ld0:=BB (Int.le_trans hf.d.2 (show(7:Int)≤4294967295 by decide));have ls0:=BB (Int.le_trans hf.s.2 (show(7:Int)≤4294967295 by decide));have lt0:=BB (Int.le_trans hf.t.2 (show(7:Int)≤4294967295 by decide));have la0:=BB (Int.le_trans hf.a.2 (show(7:Int)≤4294967295 by decide));dsimp only at lk0 lq0 ld0 ls0 lt0 la0 CN CK CA Cd Cs Ct CQ;have ln0:(Ak 21).length=5:=by decide
 have wk:IntKind.i64.wrap 0=0:=by decide
 have lk:¬9223372036854775807<1+(dec 0).length:=by omega
 have la:¬9223372036854775807<1+(dec a).length:=by omega
 have lq:¬9223372036854775807<1+(dec q).length:=by omega
 have b0:¬9223372036854775807<(((dec d).length+1+1)+(1+(dec a).length)):=by omega
 have b1:¬9223372036854775807<((((dec d).length+1+1)+(1+(dec a).length))+((dec s).length+1+1)):=by omega
 have b2:¬9223372036854775807<(((((dec d).length+1+1)+(1+(dec a).length))+((dec s).length+1+1))+3):=by omega
 have b3:¬9223372036854775807<((((((dec d).length+1+1)+(1+(dec a).length))+((dec s).length+1+1))+3)+((dec t).length+1+1)):=by omega
 have bn:¬9223372036854775807<(Ak 21).length+((((((dec d).length+1+1)+(1+(dec a).length))+((dec s).length+1+1))+3)+((dec t).length+1+1)):=by omega
 have be:¬9223372036854775807<5+(1+(dec q).length):=by omega
 have bz:¬9223372036854775807<(Ak 21).length+((((((dec d).length+1+1)+(1+(dec a).length))+((dec s).length+1+1))+3)+((dec t).length+1+1))+(5+(1+(dec q).length)):=by omega
 clear lk0 lq0 ld0 ls0 lt0 la0 ln0;have hS:=E2 (w:=w) (W:=(w.alloc (.cells (In.cs ⟨21,d,s,t,u,a,0,q⟩) 114)).drew) ⟨Be (Bv w (.cells (In.cs ⟨21,d,s,t,u,a,0,q⟩) 114)),Bd ((Below.refl w.heap.size w).alloc (Nl _) _)⟩;replace hf:=Az hf;replace te:=Az te;go_enter Tryz.func118,Tryz.ntmps118;go_wp2_with fail
 go_region_held3 (fun W=>RB w W 21 d s t u a 0 q)
  (first |exact hS |exact Ad hb (by assumption))
  (first
   |(go_at_call 49;(with_reducible refine(CK.out _).mono ?_);rintro e w' ⟨rfl,hb⟩)
   |(go_at_call 49;(with_reducible refine(CA.out _).mono ?_);rintro e w' ⟨rfl,hb⟩))
 obtain⟨HA,y0,y1,y2,y3,y4,y5,y6,y7⟩:=Ad (Below.refl _ _) (by assumption);go_wp2_with fail
 refine(CQ.out _).mono ?_;rintro e w2 ⟨rfl,hb2⟩;obtain⟨HA,y0,y1,y2,y3,y4,y5,y6,y7⟩:=Ad hb2 ⟨HA,y0,y1,y2,y3,y4,y5,y6,y7⟩;go_wp2_with fail
 refine(CN.out _).mono ?_;rintro e w3 ⟨rfl,hb3⟩;obtain⟨HA,y0,y1,y2,y3,y4,y5,y6,y7⟩:=Ad hb3 ⟨HA,y0,y1,y2,y3,y4,y5,y6,y7⟩;go_wp2_with fail
 have hT:=Ad (Bd (Below.refl w3.heap.size w3)) ⟨HA,y0,y1,y2,y3,y4,y5,y6,y7⟩;go_region_held3 (fun W=>RB w W 21 d s t u a 0 q)
  (first |exact hT |exact Ad hb (by assumption))
  (first
   |(go_at_call 141;(with_reducible refine(Cd.out _).mono ?_);rintro e w' ⟨rfl,hb⟩)
   |(go_at_call 141;(with_reducible refine(Cs.out _).mono ?_);rintro e w' ⟨rfl,hb⟩)
   |(go_at_call 141;(with_reducible refine(Ct.out _).mono ?_);rintro e w' ⟨rfl,hb⟩))
 obtain⟨HA,y0,y1,y2,y3,y4,y5,y6,y7⟩:=Ad (Below.refl _ _) (by assumption);go_wp2;go_ret;refine⟨BJ ?_,HA.out.2⟩;rw[te.out];simp[D4,St,Su,BV]
theorem Vc(d s t u a:Int)(hf:In.fits ⟨21,d,s,t,u,a,0,(-1)⟩)(w:World) :
  Calls Tryz.prog 118 #[.agg #[.int .i64 21,.int .i64 d,.int .i64 s,.int .i64 t,.int .i64 u,.int .i64 a,.int .u32 0,.int .i64 (-1)]] w fun e w'=>e=.returned (.string ⟨(Bz ⟨21,d,s,t,u,a,0,(-1)⟩).toArray⟩)∧Below w.heap.size w w':=by
 have ew:BW ⟨21,d,s,t,u,a,0,(-1)⟩ 87=[101,113]::(114::dec t)::[]:=by
  unfold BW;rw[show AE 87=none from rfl];dsimp only;rw[if_neg (by omega),if_pos rfl,if_pos rfl];rfl
 have te:Bz ⟨21,d,s,t,u,a,0,(-1)⟩=Ak 21++(((((32::114::dec d)++(32::dec a))++(32::114::dec s))++[32,101,113])++(32::114::dec t)):=by
  show Go.Lib.join (Ak 21::List.flatten [[114::dec d],[dec a],[114::dec s],BW ⟨21,d,s,t,u,a,0,(-1)⟩ 87]) [32]=_
  rw[ew];simp[BH,Go.Lib.join_one]
 clear ew;have CN:=Az (fun W=>AA 21 W);have CK:=Az (fun W=>Ca hf.k.1 hf.k.2 W);have CA:=Az (fun W=>Ca hf.a.1 (Int.le_trans hf.a.2 (by decide)) W);have Cd:=Az (fun W=>AU hf.d.1 (Int.le_trans hf.d.2 (by decide)) W);have Cs:=Az (fun W=>AU hf.s.1 (Int.le_trans hf.s.2 (by decide)) W);have Ct:=Az (fun W=>AU hf.t.1 (Int.le_trans hf.t.2 (by decide)) W);have lk0:=BB hf.k.2;have lq0:=BB (Int.le_trans hf.q.2 (show(1073741824:Int)≤4294967295 by decide));have ld0:=BB (Int.le_trans hf.d.2 (show(7:Int)≤4294967295 by decide));have ls0:=BB (Int.le_trans hf.s.2 (show(7:Int)≤4294967295 by decide));have lt0:=BB (Int.le_trans hf.t.2 (show(7:Int)≤4294967295 by decide));have la0:=BB (Int.le_trans hf.a.2 (show(7:Int)≤4294967295 by decide));dsimp only at lk0 lq0 ld0 ls0 lt0 la0 CN CK CA Cd Cs Ct;have ln0:(Ak 21).length=5:=by decide
 have wk:IntKind.i64.wrap 0=0:=by decide
 have lk:¬9223372036854775807<1+(dec 0).length:=by omega
 have la:¬9223372036854775807<1+(dec a).length:=by omega
 have b0:¬9223372036854775807<(((dec d).length+1+1)+(1+(dec a).length)):=by omega
 have b1:¬9223372036854775807<((((dec d).length+1+1)+(1+(dec a).length))+((dec s).length+1+1)):=by omega
 have b2:¬9223372036854775807<(((((dec d).length+1+1)+(1+(dec a).length))+((dec s).length+1+1))+3):=by omega
 have b3:¬9223372036854775807<((((((dec d).length+1+1)+(1+(dec a).length))+((dec s).length+1+1))+3)+((dec t).length+1+1)):=by omega
 have bn:¬9223372036854775807<(Ak 21).length+((((((dec d).length+1+1)+(1+(dec a).length))+((dec s).length+1+1))+3)+((dec t).length+1+1)):=by omega
 clear lk0 lq0 ld0 ls0 lt0 la0 ln0;have hS:=E2 (w:=w) (W:=(w.alloc (.cells (In.cs ⟨21,d,s,t,u,a,0,(-1)⟩) 114)).drew) ⟨Be (Bv w (.cells (In.cs ⟨21,d,s,t,u,a,0,(-1)⟩) 114)),Bd ((Below.refl w.heap.size w).alloc (Nl _) _)⟩;replace hf:=Az hf;replace te:=Az te;go_enter Tryz.func118,Tryz.ntmps118;go_wp2_with fail
 go_region_held3 (fun W=>RB w W 21 d s t u a 0 (-1))
  (first |exact hS |exact Ad hb (by assumption))
  (first
   |(go_at_call 49;(with_reducible refine(CK.out _).mono ?_);rintro e w' ⟨rfl,hb⟩)
   |(go_at_call 49;(with_reducible refine(CA.out _).mono ?_);rintro e w' ⟨rfl,hb⟩))
 obtain⟨HA,y0,y1,y2,y3,y4,y5,y6,y7⟩:=Ad (Below.refl _ _) (by assumption);go_wp2_with fail
 refine(CN.out _).mono ?_;rintro e w2 ⟨rfl,hb2⟩;obtain⟨HA,y0,y1,y2,y3,y4,y5,y6,y7⟩:=Ad hb2 ⟨HA,y0,y1,y2,y3,y4,y5,y6,y7⟩;go_wp2_with fail
 have hT:=Ad (Bd (Below.refl w2.heap.size w2)) ⟨HA,y0,y1,y2,y3,y4,y5,y6,y7⟩;go_region_held3 (fun W=>RB w W 21 d s t u a 0 (-1))
  (first |exact hT |exact Ad hb (by assumption))
  (first
   |(go_at_call 141;(with_reducible refine(Cd.out _).mono ?_);rintro e w' ⟨rfl,hb⟩)
   |(go_at_call 141;(with_reducible refine(Cs.out _).mono ?_);rintro e w' ⟨rfl,hb⟩)
   |(go_at_call 141;(with_reducible refine(Ct.out _).mono ?_);rintro e w' ⟨rfl,hb⟩))
 obtain⟨HA,y0,y1,y2,y3,y4,y5,y6,y7⟩:=Ad (Below.refl _ _) (by assumption);go_wp2;go_ret;refine⟨BJ ?_,HA.out.2⟩;rw[te.out];simp[D4,St,Su,BV]
theorem Xr(d s t u a q:Int)(hf:In.fits ⟨21,d,s,t,u,a,1,q⟩)(hq:0≤q)(w:World) :
  Calls Tryz.prog 118 #[.agg #[.int .i64 21,.int .i64 d,.int .i64 s,.int .i64 t,.int .i64 u,.int .i64 a,.int .u32 1,.int .i64 q]] w fun e w'=>e=.returned (.string ⟨(Bz ⟨21,d,s,t,u,a,1,q⟩).toArray⟩)∧Below w.heap.size w w':=by
 have ew:BW ⟨21,d,s,t,u,a,1,q⟩ 87=[110,101]::(114::dec t)::[[101,108,115,101],dec q]:=by
  unfold BW;rw[show AE 87=none from rfl];dsimp only;rw[if_neg (by omega),if_pos rfl,if_neg (show ¬q = -1 by omega)];rfl
 have te:Bz ⟨21,d,s,t,u,a,1,q⟩=(Ak 21++(((((32::114::dec d)++(32::dec a))++(32::114::dec s))++[32,110,101])++(32::114::dec t)))++([32,101,108,115,101]++(32::dec q)):=by
  show Go.Lib.join (Ak 21::List.flatten [[114::dec d],[dec a],[114::dec s],BW ⟨21,d,s,t,u,a,1,q⟩ 87]) [32]=_
  rw[ew];simp[BH,Go.Lib.join_one]
 clear ew;have CN:=Az (fun W=>AA 21 W);have CK:=Az (fun W=>Ca hf.k.1 hf.k.2 W);have CA:=Az (fun W=>Ca hf.a.1 (Int.le_trans hf.a.2 (by decide)) W);have CQ:=Az (fun W=>Ca hq (Int.le_trans hf.q.2 (by decide)) W);have Cd:=Az (fun W=>AU hf.d.1 (Int.le_trans hf.d.2 (by decide)) W);have Cs:=Az (fun W=>AU hf.s.1 (Int.le_trans hf.s.2 (by decide)) W);have Ct:=Az (fun W=>AU hf.t.1 (Int.le_trans hf.t.2 (by decide)) W);have lk0:=BB hf.k.2;have lq0:=BB (Int.le_trans hf.q.2 (show(1073741824:Int)≤4294967295 by decide));have ld0:=BB (Int.le_trans hf.d.2 (show(7:Int)≤4294967295 by decide));have ls0:=BB (Int.le_trans hf.s.2 (show(7:Int)≤4294967295 by decide));have lt0:=BB (Int.le_trans hf.t.2 (show(7:Int)≤4294967295 by decide));have la0:=BB (Int.le_trans hf.a.2 (show(7:Int)≤4294967295 by decide));dsimp only at lk0 lq0 ld0 ls0 lt0 la0 CN CK CA Cd Cs Ct CQ;have ln0:(Ak 21).length=5:=by decide
 have wk:IntKind.i64.wrap 1=1:=by decide
 have lk:¬9223372036854775807<1+(dec 1).length:=by omega
 have la:¬9223372036854775807<1+(dec a).length:=by omega
 have lq:¬9223372036854775807<1+(dec q).length:=by omega
 have b0:¬9223372036854775807<(((dec d).length+1+1)+(1+(dec a).length)):=by omega
 have b1:¬9223372036854775807<((((dec d).length+1+1)+(1+(dec a).length))+((dec s).length+1+1)):=by omega
 have b2:¬9223372036854775807<(((((dec d).length+1+1)+(1+(dec a).length))+((dec s).length+1+1))+3):=by omega
 have b3:¬9223372036854775807<((((((dec d).length+1+1)+(1+(dec a).length))+((dec s).length+1+1))+3)+((dec t).length+1+1)):=by omega
 have bn:¬9223372036854775807<(Ak 21).length+((((((dec d).length+1+1)+(1+(dec a).length))+((dec s).length+1+1))+3)+((dec t).length+1+1)):=by omega
 have be:¬9223372036854775807<5+(1+(dec q).length):=by omega
 have bz:¬9223372036854775807<(Ak 21).length+((((((dec d).length+1+1)+(1+(dec a).length))+((dec s).length+1+1))+3)+((dec t).length+1+1))+(5+(1+(dec q).length)):=by omega
 clear lk0 lq0 ld0 ls0 lt0 la0 ln0;have hS:=E2 (w:=w) (W:=(w.alloc (.cells (In.cs ⟨21,d,s,t,u,a,1,q⟩) 114)).drew) ⟨Be (Bv w (.cells (In.cs ⟨21,d,s,t,u,a,1,q⟩) 114)),Bd ((Below.refl w.heap.size w).alloc (Nl _) _)⟩;replace hf:=Az hf;replace te:=Az te;go_enter Tryz.func118,Tryz.ntmps118;go_wp2_with fail
 go_region_held3 (fun W=>RB w W 21 d s t u a 1 q)
  (first |exact hS |exact Ad hb (by assumption))
  (first
   |(go_at_call 49;(with_reducible refine(CK.out _).mono ?_);rintro e w' ⟨rfl,hb⟩)
   |(go_at_call 49;(with_reducible refine(CA.out _).mono ?_);rintro e w' ⟨rfl,hb⟩))
 obtain⟨HA,y0,y1,y2,y3,y4,y5,y6,y7⟩:=Ad (Below.refl _ _) (by assumption);go_wp2_with fail
 refine(CQ.out _).mono ?_;rintro e w2 ⟨rfl,hb2⟩;obtain⟨HA,y0,y1,y2,y3,y4,y5,y6,y7⟩:=Ad hb2 ⟨HA,y0,y1,y2,y3,y4,y5,y6,y7⟩;go_wp2_with fail
 refine(CN.out _).mono ?_;rintro e w3 ⟨rfl,hb3⟩;obtain⟨HA,y0,y1,y2,y3,y4,y5,y6,y7⟩:=Ad hb3 ⟨HA,y0,y1,y2,y3,y4,y5,y6,y7⟩;go_wp2_with fail
 have hT:=Ad (Bd (Below.refl w3.heap.size w3)) ⟨HA,y0,y1,y2,y3,y4,y5,y6,y7⟩;go_region_held3 (fun W=>RB w W 21 d s t u a 1 q)
  (first |exact hT |exact Ad hb (by assumption))
  (first
   |(go_at_call 141;(with_reducible refine(Cd.out _).mono ?_);rintro e w' ⟨rfl,hb⟩)
   |(go_at_call 141;(with_reducible refine(Cs.out _).mono ?_);rintro e w' ⟨rfl,hb⟩)
   |(go_at_call 141;(with_reducible refine(Ct.out _).mono ?_);rintro e w' ⟨rfl,hb⟩))
 obtain⟨HA,y0,y1,y2,y3,y4,y5,y6,y7⟩:=Ad (Below.refl _ _) (by assumption);go_wp2;go_ret;refine⟨BJ ?_,HA.out.2⟩;rw[te.out];simp[D4,St,Su,BV]
theorem Vd(d s t u a:Int)(hf:In.fits ⟨21,d,s,t,u,a,1,(-1)⟩)(w:World) :
  Calls Tryz.prog 118 #[.agg #[.int .i64 21,.int .i64 d,.int .i64 s,.int .i64 t,.int .i64 u,.int .i64 a,.int .u32 1,.int .i64 (-1)]] w fun e w'=>e=.returned (.string ⟨(Bz ⟨21,d,s,t,u,a,1,(-1)⟩).toArray⟩)∧Below w.heap.size w w':=by
 have ew:BW ⟨21,d,s,t,u,a,1,(-1)⟩ 87=[110,101]::(114::dec t)::[]:=by
  unfold BW;rw[show AE 87=none from rfl];dsimp only;rw[if_neg (by omega),if_pos rfl,if_pos rfl];rfl
 have te:Bz ⟨21,d,s,t,u,a,1,(-1)⟩=Ak 21++(((((32::114::dec d)++(32::dec a))++(32::114::dec s))++[32,110,101])++(32::114::dec t)):=by
  show Go.Lib.join (Ak 21::List.flatten [[114::dec d],[dec a],[114::dec s],BW ⟨21,d,s,t,u,a,1,(-1)⟩ 87]) [32]=_
  rw[ew];simp[BH,Go.Lib.join_one]
 clear ew;have CN:=Az (fun W=>AA 21 W);have CK:=Az (fun W=>Ca hf.k.1 hf.k.2 W);have CA:=Az (fun W=>Ca hf.a.1 (Int.le_trans hf.a.2 (by decide)) W);have Cd:=Az (fun W=>AU hf.d.1 (Int.le_trans hf.d.2 (by decide)) W);have Cs:=Az (fun W=>AU hf.s.1 (Int.le_trans hf.s.2 (by decide)) W);have Ct:=Az (fun W=>AU hf.t.1 (Int.le_trans hf.t.2 (by decide)) W);have lk0:=BB hf.k.2;have lq0:=BB (Int.le_trans hf.q.2 (show(1073741824:Int)≤4294967295 by decide));have ld0:=BB (Int.le_trans hf.d.2 (show(7:Int)≤4294967295 by decide));have ls0:=BB (Int.le_trans hf.s.2 (show(7:Int)≤4294967295 by decide));have lt0:=BB (Int.le_trans hf.t.2 (show(7:Int)≤4294967295 by decide));have la0:=BB (Int.le_trans hf.a.2 (show(7:Int)≤4294967295 by decide));dsimp only at lk0 lq0 ld0 ls0 lt0 la0 CN CK CA Cd Cs Ct;have ln0:(Ak 21).length=5:=by decide
 have wk:IntKind.i64.wrap 1=1:=by decide
 have lk:¬9223372036854775807<1+(dec 1).length:=by omega
 have la:¬9223372036854775807<1+(dec a).length:=by omega
 have b0:¬9223372036854775807<(((dec d).length+1+1)+(1+(dec a).length)):=by omega
 have b1:¬9223372036854775807<((((dec d).length+1+1)+(1+(dec a).length))+((dec s).length+1+1)):=by omega
 have b2:¬9223372036854775807<(((((dec d).length+1+1)+(1+(dec a).length))+((dec s).length+1+1))+3):=by omega
 have b3:¬9223372036854775807<((((((dec d).length+1+1)+(1+(dec a).length))+((dec s).length+1+1))+3)+((dec t).length+1+1)):=by omega
 have bn:¬9223372036854775807<(Ak 21).length+((((((dec d).length+1+1)+(1+(dec a).length))+((dec s).length+1+1))+3)+((dec t).length+1+1)):=by omega
 clear lk0 lq0 ld0 ls0 lt0 la0 ln0;have hS:=E2 (w:=w) (W:=(w.alloc (.cells (In.cs ⟨21,d,s,t,u,a,1,(-1)⟩) 114)).drew) ⟨Be (Bv w (.cells (In.cs ⟨21,d,s,t,u,a,1,(-1)⟩) 114)),Bd ((Below.refl w.heap.size w).alloc (Nl _) _)⟩;replace hf:=Az hf;replace te:=Az te;go_enter Tryz.func118,Tryz.ntmps118;go_wp2_with fail
 go_region_held3 (fun W=>RB w W 21 d s t u a 1 (-1))
  (first |exact hS |exact Ad hb (by assumption))
  (first
   |(go_at_call 49;(with_reducible refine(CK.out _).mono ?_);rintro e w' ⟨rfl,hb⟩)
   |(go_at_call 49;(with_reducible refine(CA.out _).mono ?_);rintro e w' ⟨rfl,hb⟩))
 obtain⟨HA,y0,y1,y2,y3,y4,y5,y6,y7⟩:=Ad (Below.refl _ _) (by assumption);go_wp2_with fail
 refine(CN.out _).mono ?_;rintro e w2 ⟨rfl,hb2⟩;obtain⟨HA,y0,y1,y2,y3,y4,y5,y6,y7⟩:=Ad hb2 ⟨HA,y0,y1,y2,y3,y4,y5,y6,y7⟩;go_wp2_with fail
 have hT:=Ad (Bd (Below.refl w2.heap.size w2)) ⟨HA,y0,y1,y2,y3,y4,y5,y6,y7⟩;go_region_held3 (fun W=>RB w W 21 d s t u a 1 (-1))
  (first |exact hT |exact Ad hb (by assumption))
  (first
   |(go_at_call 141;(with_reducible refine(Cd.out _).mono ?_);rintro e w' ⟨rfl,hb⟩)
   |(go_at_call 141;(with_reducible refine(Cs.out _).mono ?_);rintro e w' ⟨rfl,hb⟩)
   |(go_at_call 141;(with_reducible refine(Ct.out _).mono ?_);rintro e w' ⟨rfl,hb⟩))
 obtain⟨HA,y0,y1,y2,y3,y4,y5,y6,y7⟩:=Ad (Below.refl _ _) (by assumption);go_wp2;go_ret;refine⟨BJ ?_,HA.out.2⟩;rw[te.out];simp[D4,St,Su,BV]
end
end Go.Proofs.YtjjpiefgdggghaaGreatDoor
