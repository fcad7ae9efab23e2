/- Parts: ExSw. -/
import Derived.Test.YtjjpiefgdggghaaGreatDoorA03
import Derived.Test.YtjjpiefgdggghaaGreatDoorA13
import Derived.Test.YtjjpiefgdggghaaGreatDoorA34
set_option linter.unusedVariables false
set_option linter.unusedSimpArgs false
set_option maxRecDepth 100000
set_option maxHeartbeats 40000000
namespace Go.Proofs.YtjjpiefgdggghaaGreatDoor
section
open Go.RowKit Go.Proofs.YtjjpiefgdggghaaGreatDoorW.PrintWords
def Hc:Code→Code
 |.seq _ b=>b
 |c=>c
def R7(f:Func):Code:=match f.body with
 |some c=>c
 |none=>.skip
def EU(x:AF)(t aa:Nat)(r:Option Nat×CoreM×Bool):AF×DR :=
 let x1:=match r.1 with
  |none=>x
  |some v=>{x with words:=x.words.set aa v}
 let wrote:=match r.1 with
  |none=>0
  |some _=>1
 if r.2.2=true then ({x1 with AG:=x1.AG.set t r.2.1},⟨[],-1,aa,wrote,1,0⟩)
 else x1.go t r.2.1 aa wrote
theorem set_set(c:CoreM)(d:Int)(u v:Nat):(c.set d u).set d v=c.set d v:=by simp[CoreM.set]
theorem Tg(w Wb W:World)(px N6 N7 N8 G9 G17 gw nw cw g n cap p t aa was S T U d s tt u k:Nat)(op a q late:Int)(vl vc:Value)(pl:Option Addr)(x:AF)(c:CoreM)(fin:AF×DR)(M:Nat→Prop)
  (hI:II w Wb W px vl vc (.slice (some ⟨gw,0,none⟩) nw cw) (.slice (some ⟨g,0,none⟩) n cap) pl x c N6 N7 N8)(hNW:w.heap.size≤Wb.heap.size)
  (b9:W.heap[G9]?=some (.cells #[.int .i64 op,.int .i64 d,.int .i64 s,.int .i64 tt,.int .i64 u,.int .i64 a,.int .u32 k,.int .i64 q] 114 (0,0)))
  (b17:W.heap[G17]?=some (.cells #[.slice none 0 0,.int .i64 0,.int .i64 aa,.int .i64 0,.int .i64 0,.int .i64 0] 135 (0,0)))
  (hG17:Wb.heap.size≤G17)(h617:N6≠G17)(h817:N8≠G17)(hop:op=16∨op=17∨op=18∨op=19∨op=20∨op=21)
  (hd:d<8)(hp:c.pc=(p:Int))(hT:c.get (tt:Int)=T)(hU:c.get (u:Int)=U)(hT1:T<4294967296)(hU1:U<4294967296)(hk1:k<4294967296)(hwas:x.words.getD aa 0=was)(hwas1:was<4294967296)(haa:aa<x.words.length)(hnw:x.words.length=nw)(ht:t<x.AG.length)(hn:x.AG.length=n)(ht2:x.AG.length≤64)(haa2:aa<100000)
  (hok:∀ i∈x.pg.l,GQ i)(hlen:x.pg.l.length≤64)
  (hfin:EU x t aa (GA ⟨op,d,s,tt,u,a,k,q⟩ c was (decide (late≠0)))=fin)
  {u3 u4 u5 u13 u14 u19 u20 u21 u22 u23 u24 u25 u26 u27 u28 u29 u30 u31 u32 u33 u34 u35 u36 u37 u38 u39 u40 u41 u42 u43 u44 u45 u46 u47 u48 u49 u50 u51 u52 u53 u54 u55 u56 u57 u58 u59 u60 u61 u62 u63 u64 u65 u66 u67 u68 u69 u70 u71 u72 u73 u74 u75 u76 u77 u78 u79 u80 u81 u82 u83 u84 u85 u86 u87 u88 u89 u90 u91 u92 u93 u94 u95 u96 u97 u98 u99 u100 u101 u102 u103 u104 u105 u106 u107 u108 u109 u110 u111 u112 u113 u114 u115 u116 u117 u118 u119 u120 u121 u122 u123 u124 u125 u126 u127 u128 u129 u130 u131 u132 u133 u134 u135 u136 u137 u138 u139 u140 u141 u142 u143 u144 u145 u146 u147 u148 u149 u150 u151 u152 u153 u154 u155 u156 u157 u158 u159 u160 u161 u162 u163 u164 u165 u166 u167 u168 u169 u170 u171 u172 u173 u174 u175 u176 u177 u178 u179 u180 u181 u182 u183 u184 u185 u186 u187 u188 u189 u190 u191 u192 u193 u194 u195 u196 u197 u198 u199 u200 u201 u202 u203 u204 u205 u206 u207 u208 u209 u210 u211 u212 u213 u214 u215 u216 u217 u218 u219 u220 u221 u222 u223 u224 u225 u226 u227 u228 u229 u230 u231 u232 u233 u234 u235 u236 u237 u238 u239 u240 u241 u242 u243 u244 u245 u246 u247 u248 u249 u250 u251 u252 u253 u254 u255 u256 u257 u258 u259 u260 u261 u262 u263 u264 u265 u266 u267 u268 u269 u270 u271 u272 u273 u274 u275 u276 u277 u278 u279 u280 u281 u282 u283:Value} :
  Code.wp Tryz.prog (Hc (Hc (Hc (Hc (Hc (Hc (Hc (Hc (Hc (Hc (Hc (Hc (Hc (Hc (R7 Tryz.f75))))))))))))))) (bodyPost Tryz.prog Tryz.f75 (FT w Wb px vl vc (.slice (some ⟨gw,0,none⟩) nw cw) (.slice (some ⟨g,0,none⟩) n cap) pl M fin)) {tmps:=#[.pointer (some ⟨px,0,none⟩),.int .i64 t,.int .i64 late,u3,u4,u5,.pointer (some ⟨N6,0,none⟩),.pointer (some ⟨N7,0,none⟩),.pointer (some ⟨N8,0,none⟩),.pointer (some ⟨G9,0,none⟩),.int .u32 S,.int .u32 T,.int .u32 U,u13,u14,.int .i64 aa,.int .u32 was,.pointer (some ⟨G17,0,none⟩),.int .i64 ((p:Int)+1),u19,u20,u21,u22,u23,u24,u25,u26,u27,u28,u29,u30,u31,u32,u33,u34,u35,u36,u37,u38,u39,u40,u41,u42,u43,u44,u45,u46,u47,u48,u49,u50,u51,u52,u53,u54,u55,u56,u57,u58,u59,u60,u61,u62,u63,u64,u65,u66,u67,u68,u69,u70,u71,u72,u73,u74,u75,u76,u77,u78,u79,u80,u81,u82,u83,u84,u85,u86,u87,u88,u89,u90,u91,u92,u93,u94,u95,u96,u97,u98,u99,u100,u101,u102,u103,u104,u105,u106,u107,u108,u109,u110,u111,u112,u113,u114,u115,u116,u117,u118,u119,u120,u121,u122,u123,u124,u125,u126,u127,u128,u129,u130,u131,u132,u133,u134,u135,u136,u137,u138,u139,u140,u141,u142,u143,u144,u145,u146,u147,u148,u149,u150,u151,u152,u153,u154,u155,u156,u157,u158,u159,u160,u161,u162,u163,u164,u165,u166,u167,u168,u169,u170,u171,u172,u173,u174,u175,u176,u177,u178,u179,u180,u181,u182,u183,u184,u185,u186,u187,u188,u189,u190,u191,u192,u193,u194,u195,u196,u197,u198,u199,u200,u201,u202,u203,u204,u205,u206,u207,u208,u209,u210,u211,u212,u213,u214,u215,u216,u217,u218,u219,u220,u221,u222,u223,u224,u225,u226,u227,u228,u229,u230,u231,u232,u233,u234,u235,u236,u237,u238,u239,u240,u241,u242,u243,u244,u245,u246,u247,u248,u249,u250,u251,u252,u253,u254,u255,u256,u257,u258,u259,u260,u261,u262,u263,u264,u265,u266,u267,u268,u269,u270,u271,u272,u273,u274,u275,u276,u277,u278,u279,u280,u281,u282,u283],defers:=[]} W:=by
 have e0:W.cell? ⟨G9,0,none⟩=some (.int .i64 op):=(Bc b9 0).trans rfl;have e1:W.cell? ⟨G9,1,none⟩=some (.int .i64 d):=(Bc b9 1).trans rfl;have e6:W.cell? ⟨G9,6,none⟩=some (.int .u32 k):=(Bc b9 6).trans rfl;have e7:W.cell? ⟨G9,7,none⟩=some (.int .i64 q):=(Bc b9 7).trans rfl;have cD:=(Bc hI.b7 d).trans (Hd hI.c.len d hd);have fD:=Bf hI.b7 d;have hw:=hI.e.words;unfold DP at hw;obtain⟨g',c',hv2,_,hg',⟨cs,hcs,_⟩,hwc⟩:=Cw hw (by omega);obtain⟨rfl,rfl⟩:gw=g'∧cw=c':=by cases hv2;exact⟨rfl,rfl⟩
 have cw0:W.cell? ⟨gw,aa,none⟩=some (.int .u32 (was:Int)):=hwc aa _ (by rw[←hwas];simp[List.getD_eq_getElem?_getD,List.getElem?_eq_getElem haa]);have fw:=Bf hcs aa;have c4:=hI.e.Ut.2.2.2.2.1;have o3:W.cell? ⟨G17,3,none⟩=some (.int .i64 0):=(Bc b17 3).trans rfl;have fo3:=Bf b17 3;have aa0:(0:Int)≤(aa:Int):=by omega
 have aa1:(aa:Int)<(nw:Int):=by omega
 have d0:(0:Int)≤(d:Int):=by omega
 have d1:(d:Int)<8:=by omega
 have n1:G9≠gw:=C0 b9 hcs (by decide);have n2:G9≠G17:=C0 b9 b17 (by decide);have n3:N7≠gw:=C0 hI.b7 hcs (by decide);have n4:N7≠G17:=C0 hI.b7 b17 (by decide);have n5:G17≠gw:=C0 b17 hcs (by decide);have n6:G9≠N7:=C0 b9 hI.b7 (by decide);have m1:=n1.symm;have m2:=n2.symm;have m3:=n3.symm;have m4:=n4.symm;have m5:=n5.symm;have m6:=n6.symm;have hw64:IntKind.i64.wrap (was:Int)=was:=by rw[IntKind.wrap_i64];omega
 have hEq:((was:Int)==(T:Int))=decide (was=T):=by
  by_cases h:was=T
  ·subst h;simp
  ·rw[decide_eq_false h];exact Bq (by omega)
 obtain⟨accx,hbx⟩:=hI.e.bx;have k1:px≠N7:=C0 hbx hI.b7 (by decide);have k2:px≠gw:=C0 hbx hcs (by decide);have k3:px≠G17:=C0 hbx b17 (by decide);have j1:=k1.symm;have j2:=k2.symm;have j3:=k3.symm;obtain⟨yk,hyk⟩:∃ y,(was+k)%B5=y:=⟨_,rfl⟩
 have wk:IntKind.u32.wrap ((was:Int)+(k:Int))=(yk:Int):=by rw[IntKind.wrap_u32,←hyk];simp[B5]
 have wk1:yk<4294967296:=by rw[←hyk];exact Nat.mod_lt _ (by decide)
 clear hw hv2 hwc hbx;replace hI:=Az hI;replace b9:=Az b9;replace b17:=Az b17;replace hfin:=Az hfin
 conv=>arg 2;dsimp only[Hc,R7,Tryz.f75]
 conv=>arg 4;dsimp only
 go_step
 go_cut [18] from 160 to 160 (fun v18 wx=>∃ (c':CoreM) (x':AF) (wr:Nat) (nx:Int),v18=.int .i64 nx∧Ag (x'.go t (c'.at nx) aa wr=fin)∧Ag (II w Wb wx px vl vc (.slice (some ⟨gw,0,none⟩) nw cw) (.slice (some ⟨g,0,none⟩) n cap) pl x' c' N6 N7 N8) ∧
  Ag (wx.heap[G17]?=some (.cells #[.slice none 0 0,.int .i64 0,.int .i64 aa,.int .i64 (wr:Int),.int .i64 0,.int .i64 0] 135 (0,0)))∧x'.pg=x.pg∧x'.AG.length=x.AG.length)
 case first =>
  rcases hop with rfl |rfl |rfl |rfl |rfl |rfl
  ·go_wp2_with fail
   go_meet
   obtain⟨s1,_,f1⟩:=hI.out.L1 hNW hd hwas1 _ rfl;exact⟨_,x,0,_,rfl,⟨by rw[←hfin.out];simp[GA,EU,hp]⟩,⟨s1⟩,⟨f1 _ _ _ b17.out (by decide)⟩,rfl,rfl⟩
  ·go_wp2_with fail
   go_meet
   obtain⟨s1,_,f1⟩:=hI.out.PS haa hT1 _ rfl;obtain⟨s2,_,_,f2⟩:=s1.Th (f1 _ _ _ b17.out (by decide)) hG17 hNW h617 h817 (.int .i64 1) _ rfl;exact⟨_,_,1,_,rfl,⟨by rw[←hfin.out];simp[GA,EU,hp,hT]⟩,⟨s2⟩,⟨f2⟩,rfl,rfl⟩
  ·go_wp2_with fail
   go_meet
   obtain⟨s1,_,f1⟩:=hI.out.PS haa hT1 _ rfl;obtain⟨s2,_,f2,g2⟩:=s1.Th (f1 _ _ _ b17.out (by decide)) hG17 hNW h617 h817 (.int .i64 1) _ rfl;obtain⟨s3,_,f3⟩:=s2.L1 hNW hd hwas1 _ rfl;exact⟨_,_,1,_,rfl,⟨by rw[←hfin.out];simp[GA,EU,hp,hT]⟩,⟨s3⟩,⟨f3 _ _ _ g2 (by decide)⟩,rfl,rfl⟩
  ·by_cases hq:was=T
   ·rw[decide_eq_true hq]at hEq;go_wp2_with fail
    go_meet
    obtain⟨s0,_,f0⟩:=hI.out.L1 hNW hd (show(0:Nat)<4294967296 by decide) _ rfl;obtain⟨s1,_,f1⟩:=s0.PS haa hU1 _ rfl;obtain⟨s2,_,f2,g2⟩:=s1.Th (f1 _ _ _ (f0 _ _ _ b17.out (by decide)) (by decide)) hG17 hNW h617 h817 (.int .i64 1) _ rfl;obtain⟨s3,_,f3⟩:=s2.L1 hNW hd (show(1:Nat)<4294967296 by decide) _ rfl;rw[set_set]at s3;exact⟨_,_,1,_,rfl,⟨by rw[←hfin.out];simp[GA,EU,hp,hT,hU,hq]⟩,⟨s3⟩,⟨f3 _ _ _ g2 (by decide)⟩,rfl,rfl⟩
   ·rw[decide_eq_false hq]at hEq;go_wp2_with fail
    go_meet
    obtain⟨s0,_,f0⟩:=hI.out.L1 hNW hd (show(0:Nat)<4294967296 by decide) _ rfl;exact⟨_,x,0,_,rfl,⟨by rw[←hfin.out];simp[GA,EU,hp,hT,hq]⟩,⟨s0⟩,⟨f0 _ _ _ b17.out (by decide)⟩,rfl,rfl⟩
  ·have hS38:W.drew.cell? ⟨px,4,none⟩=some (.slice (some ⟨gw,0,none⟩) nw cw)∧W.drew.cell? ⟨G9,6,none⟩=some (.int .u32 (k:Int)):=⟨c4,e6⟩
   go_upto_region 38 with fail
   refine Av [10,12] (S:=fun W=>W.cell? ⟨px,4,none⟩=some (.slice (some ⟨gw,0,none⟩) nw cw)∧W.cell? ⟨G9,6,none⟩=some (.int .u32 (k:Int))) (by kernel_rfl) hS38 (fun hS0=>?_);try simp only[Act.put,Sa,Sb,Sc]
   refine tY 0 (fun _=>hS0) ?_;refine tY 1 (fun _=>hS0) ?_;refine tY 2 (fun _=>hS0) ?_;refine tL 3 (hS0) ?_;refine tY 4 (fun _=>hS0) ?_;refine tY 5 (fun _=>hS0) ?_;refine tY 6 (fun _=>hS0) ?_;refine tL 7 (hS0) ?_;refine tY 8 (fun _=>hS0) ?_;refine tY 9 (fun _=>hS0) ?_;refine Ab (rs:=[10]) (by kernel_rfl) (by simp) ?_;refine Aa.cons (Au rfl) (fun K hK=>?_) Aa.nil;rw[if_pos (by rfl)];go_wp2_with fail
   refine hK.out _ _ (fun h=>by cases h) (fun _=>?_);try simp only[Act.put,Sa,Sb,Sc]
   refine tY 11 (fun h=>by cases h) ?_;refine Ab (rs:=[12]) (by kernel_rfl) (by simp) ?_;refine Aa.cons (Au rfl) (fun K hK=>?_) Aa.nil;rw[if_pos (by rfl)];go_wp2_with fail
   refine hK.out _ _ (fun h=>by cases h) (fun _=>?_);try simp only[Act.put,Sa,Sb,Sc]
   refine Ax (by kernel_rfl) ?_ _;clear hK;go_wp2_with fail
   go_meet
   obtain⟨s1,_,f1⟩:=hI.out.PS haa wk1 _ rfl;obtain⟨s2,_,f2,g2⟩:=s1.Th (f1 _ _ _ (b17.out) (by decide)) hG17 hNW h617 h817 (.int .i64 1) _ rfl;obtain⟨s3,_,f3⟩:=s2.L1 hNW hd hwas1 _ rfl;exact⟨_,_,1,_,rfl,⟨by rw[←hfin.out];simp[GA,EU,hp,hT,hyk]⟩,⟨s3.keep (Bd (Below.refl _ _))⟩,⟨f3 _ _ _ g2 (by decide)⟩,rfl,rfl⟩
  ·obtain⟨W2,hW2⟩:∃ X,W.setCell ⟨N7,d,none⟩ (.int .i64 (was:Int))=X:=⟨_,rfl⟩
   obtain⟨s2,_,f2⟩:=hI.out.L1 hNW hd hwas1 W2 hW2.symm;have b92:=f2 _ _ _ b9.out (by decide);have b172:=f2 _ _ _ b17.out (by decide);have e62:W2.cell? ⟨G9,6,none⟩=some (.int .u32 k):=(Bc b92 6).trans rfl;have e72:W2.cell? ⟨G9,7,none⟩=some (.int .i64 q):=(Bc b92 7).trans rfl;replace s2:=Az s2;replace b92:=Az b92;replace b172:=Az b172;obtain⟨E,hE⟩:∃ E,decide (was=T)=E:=⟨_,rfl⟩
   obtain⟨B,hB⟩:∃ B,(if k=1 then !E else E)=B:=⟨_,rfl⟩
   rw[hE]at hEq;have hacc:GA ⟨21,d,s,tt,u,a,k,q⟩ c was (decide (late≠0))=if B=true then (none,(c.set d was).at (p+1),false) else if decide (late≠0)=false∨q<0 then (none,c.set d was,true) else (none,(c.set d was).at q,false):=by
    have hBB:(if (k:Int)=1 then decide (was≠c.get (tt:Int)) else decide (was=c.get (tt:Int)))=B:=by
     rw[hT,←hB,←hE];by_cases h1:k=1
     ·subst h1;simp
     ·rw[if_neg (by omega),if_neg h1]
    simp only[GA,hBB,hp];rfl
   rw[hacc]at hfin;clear hacc;go_upto_region 42 with fail
   try rw[hW2]
   clear hW2 e0 e1 e6 e7 cD fD cw0 fw c4 o3 fo3;go_cut [19] from 244 to 244 (fun v19 wx=>v19=.bool E∧wx=W2)
   case first =>
    go_wp2_with fail
    go_meet
    exact⟨rfl,rfl⟩
   case rest =>
   obtain⟨rfl,rfl⟩:=hcut;go_step
   go_step
   go_cut [19] from 247 to 247 (fun v19 wx'=>v19=.bool B∧wx'=wc)
   case first =>
    by_cases h1:k=1
    ·subst h1;have hk2:(((1:Nat):Int)==1)=true:=rfl;rw[if_pos rfl]at hB;subst hB;go_wp2_with fail
     go_meet
     exact⟨rfl,rfl⟩
    ·have hk2:((k:Int)==1)=false:=Bq (by omega);rw[if_neg h1]at hB;subst hB;go_wp2_with fail
     go_meet
     exact⟨rfl,rfl⟩
   case rest =>
   obtain⟨rfl,rfl⟩:=hcut;cases B with
   |true =>
    go_wp2_with fail
    go_meet
    exact⟨_,x,0,_,rfl,⟨by rw[←hfin.out];simp[EU]⟩,s2,b172,rfl,rfl⟩
   |false =>
    obtain⟨V,hV⟩:∃ V,decide (late=0∨q<0)=V:=⟨_,rfl⟩
    go_upto_region 45 with fail
    go_cut [262] from 252 to 252 (fun v262 wx'=>v262=.bool V∧wx'=wc)
    case first =>
     by_cases h1:late=0
     ·have h2:(late==0)=true:=beq_iff_eq.2 h1;rw[decide_eq_true (.inl h1)]at hV;subst hV;go_wp2_with fail
      go_meet
      exact⟨rfl,rfl⟩
     ·have h2:(late==0)=false:=Bq h1;by_cases h3:q<0
      ·rw[decide_eq_true (.inr h3)]at hV;subst hV;go_wp2_with fail
       go_meet
       exact⟨rfl,rfl⟩
      ·rw[decide_eq_false (fun h=>h.elim h1 h3)]at hV;subst hV;go_wp2_with fail
       go_meet
       exact⟨rfl,rfl⟩
    case rest =>
    obtain⟨rfl,rfl⟩:=hcut;cases V with
    |false =>
     have hV2:¬(late=0∨q<0):=of_decide_eq_false hV;go_wp2_with fail
     go_meet
     exact⟨_,x,0,_,rfl,⟨by rw[←hfin.out];simp only[not_or]at hV2;simp[EU,hV2.1,hV2.2]⟩,s2,b172,rfl,rfl⟩
    |true =>
     have hV2:late=0∨q<0:=of_decide_eq_true hV;have hf2:fin=({x with AG:=x.AG.set t (c.set d was)},⟨[],-1,aa,0,1,0⟩):=by
      rw[←hfin.out,if_neg (by decide),if_pos (by rcases hV2 with h |h;exact .inl (by simp[h]);exact .inr h)];rfl
     replace hf2:=Az hf2;obtain⟨z0,z1,z2,z3,z4,z5,z6,z7,z8,hz⟩:=BU s2.out.c.len;have b7:=s2.out.b7;rw[hz]at b7;have c6:=s2.out.e.Ut.2.2.2.2.2.2;obtain⟨v0,v1,v2,v3,v4,v5,v6,v7,v8,hv8⟩:=BU (s2.out.e.core ht).len;have hrow:=s2.out.e.Uu ht hv8;obtain⟨csr,hcsr⟩:∃ cs,wc.heap[g]?=some (.cells cs 155 (0,0)):=by
      obtain⟨gg,cc2,hvr,_,⟨csr,hcsr⟩,_⟩:=s2.out.e.row ht;have hg9:g=gg:=by injection hvr with h1 h2 h3;injection h1 with h1;injection h1
      rw[hg9];exact⟨csr,hcsr⟩
     have t0:(0:Int)≤(t:Int):=by omega
     have t1:(t:Int)<(n:Int):=by omega
     have hS46:wc.drew.cell? ⟨px,6,none⟩=some (.slice (some ⟨g,0,none⟩) n cap)∧(wc.drew.cell? ⟨N7,0,none⟩=some (.int .i64 z0)∧wc.drew.cell? ⟨N7,1,none⟩=some (.int .i64 z1)∧wc.drew.cell? ⟨N7,2,none⟩=some (.int .i64 z2)∧wc.drew.cell? ⟨N7,3,none⟩=some (.int .i64 z3)∧wc.drew.cell? ⟨N7,4,none⟩=some (.int .i64 z4)∧wc.drew.cell? ⟨N7,5,none⟩=some (.int .i64 z5)∧wc.drew.cell? ⟨N7,6,none⟩=some (.int .i64 z6)∧wc.drew.cell? ⟨N7,7,none⟩=some (.int .i64 z7)∧wc.drew.cell? ⟨N7,8,none⟩=some (.int .i64 z8)):=⟨c6,Ig b7⟩
     clear hfin;go_upto_region 46 with fail
     refine Av [7] (S:=fun W=>W.cell? ⟨px,6,none⟩=some (.slice (some ⟨g,0,none⟩) n cap)∧(W.cell? ⟨N7,0,none⟩=some (.int .i64 z0)∧W.cell? ⟨N7,1,none⟩=some (.int .i64 z1)∧W.cell? ⟨N7,2,none⟩=some (.int .i64 z2)∧W.cell? ⟨N7,3,none⟩=some (.int .i64 z3)∧W.cell? ⟨N7,4,none⟩=some (.int .i64 z4)∧W.cell? ⟨N7,5,none⟩=some (.int .i64 z5)∧W.cell? ⟨N7,6,none⟩=some (.int .i64 z6)∧W.cell? ⟨N7,7,none⟩=some (.int .i64 z7)∧W.cell? ⟨N7,8,none⟩=some (.int .i64 z8))) (by kernel_rfl) hS46 (fun hS0=>?_);try simp only[Act.put,Sa,Sb,Sc]
     refine tY 0 (fun _=>hS0) ?_;refine tY 1 (fun _=>hS0) ?_;refine tY 2 (fun _=>hS0) ?_;refine tL 3 (hS0) ?_;refine tY 4 (fun _=>hS0) ?_;refine tL 5 (hS0) ?_;refine tY 6 (fun _=>hS0) ?_;refine Ab (rs:=[7]) (by kernel_rfl) (by simp) ?_;refine Aa.cons (Au rfl) (fun K hK=>?_) Aa.nil;rw[if_pos (by rfl)];obtain⟨r0,r1,r2,r3,r4,r5,r6,r7,r8⟩:=hrow;have q0:=Bf hcsr (t*9);have q1:=Bf hcsr (t*9+1);have q2:=Bf hcsr (t*9+2);have q3:=Bf hcsr (t*9+3);have q4:=Bf hcsr (t*9+4);have q5:=Bf hcsr (t*9+5);have q6:=Bf hcsr (t*9+6);have q7:=Bf hcsr (t*9+7);have q8:=Bf hcsr (t*9+8);go_wp2_with fail
     refine hK.out _ _ (fun h=>by cases h) (fun _=>?_);try simp only[Act.put,Sa,Sb,Sc]
     refine Ax (by kernel_rfl) ?_ _;clear r0 r1 r2 r3 r4 r5 r6 r7 r8 q0 q1 q2 q3 q4 q5 q6 q7 q8 hK hS0 hS46;obtain⟨hE8,F8⟩:=s2.out.e.put (M:=fun _=>False) (by rw[hn]) ht hz s2.out.c _ rfl;have b178:=F8.FP b172.out (by decide) (fun f=>f);have b68:=F8.FP s2.out.b6 (by decide) (fun f=>f);generalize (((((((((wc.setCell ⟨g,t*9,none⟩ (.int .i64 z0)).setCell ⟨g,t*9+1,none⟩ (.int .i64 z1)).setCell ⟨g,t*9+2,none⟩ (.int .i64 z2)).setCell ⟨g,t*9+3,none⟩ (.int .i64 z3)).setCell ⟨g,t*9+4,none⟩ (.int .i64 z4)).setCell ⟨g,t*9+5,none⟩ (.int .i64 z5)).setCell ⟨g,t*9+6,none⟩ (.int .i64 z6)).setCell ⟨g,t*9+7,none⟩ (.int .i64 z7)).setCell ⟨g,t*9+8,none⟩ (.int .i64 z8))=W8 at *;obtain⟨x0,x1,x2,x3,x4,x5⟩:=IU b178;obtain⟨y0,y1,y2,y3,y4,y5⟩:=Od b178;obtain⟨o0,o1,o2,o3,o4,o5⟩:=IU b68;obtain⟨l0,l1,l2,l3,l4,l5⟩:=Od b68;have m7:=h617.symm;have FW:=s2.out.f.trans F8;have h6b:=s2.out.h6;replace b178:=Az b178;replace b68:=Az b68;replace hE8:=Az hE8;replace FW:=Az FW;replace s2:=Az s2;go_wp2;obtain⟨W9,hW9⟩:∃ X,((((((((W8.setCell ⟨G17,4,none⟩ (.int .i64 1)).setCell ⟨G17,1,none⟩ (.int .i64 (-1))).setCell ⟨N6,0,none⟩ (.slice none 0 0)).setCell ⟨N6,1,none⟩ (.int .i64 (-1))).setCell ⟨N6,2,none⟩ (.int .i64 (aa:Int))).setCell ⟨N6,3,none⟩ (.int .i64 0)).setCell ⟨N6,4,none⟩ (.int .i64 1)).setCell ⟨N6,5,none⟩ (.int .i64 0))=X:=⟨_,rfl⟩
     try rw[hW9]
     obtain⟨c8,F5,F6⟩:=R8 (N:=w.heap.size) (Nat.le_trans hNW hG17) (Nat.le_trans hNW h6b) h617 b178.out b68.out (.int .i64 1) (.int .i64 (-1)) (.slice none 0 0) (.int .i64 (-1)) (.int .i64 (aa:Int)) (.int .i64 0) (.int .i64 1) (.int .i64 0) W9 hW9.symm;clear hW9;rw[hf2.out];refine bodyPost_ret (fn:=Tryz.f75) (results_cell_row rfl _ _ N6 135 #[.slice none 0 0,.int .i64 (-1),.int .i64 (aa:Int),.int .i64 0,.int .i64 1,.int .i64 0] (0,0) _ rfl (Be c8) Tryz.underlying135 rfl (by kernel_rfl)) rfl ⟨_,rfl,AS.nil _ _,(hE8.out.frame F5 (by decide) (by decide) (by decide) (by decide)).keep (Bd (Below.refl _ _)),?_⟩;exact(F6 _ _ _ _ (FW.out.K9 (fun _ f=>f.elim)) hG17 h6b).drew
 case rest =>
  obtain⟨c',x',wr,nx,rfl,hf,hs,b17',hpg,hcl⟩:=hcut;obtain⟨W5,rfl⟩:∃ X,X=wc:=⟨_,rfl⟩
  have p8:=(Bc hs.out.b7 8).trans (Ih hs.out.c.len);have fp:=Bf hs.out.b7 8;obtain⟨W6,hW6⟩:∃ X,W5.setCell ⟨N7,8,none⟩ (.int .i64 nx)=X:=⟨_,rfl⟩
  obtain⟨s6,_,f6⟩:=hs.out.V8 hNW nx W6 hW6.symm;have b176:=f6 _ _ _ b17'.out (by decide);obtain⟨z0,z1,z2,z3,z4,z5,z6,z7,z8,hz⟩:=BU s6.c.len;have b7:=s6.b7;rw[hz]at b7;have hrun:=Jo w W6 px vl vc (.slice (some ⟨gw,0,none⟩) nw cw) (.slice (some ⟨g,0,none⟩) n cap) pl (fun _=>False) x' t (c'.at nx) aa wr s6.e (by omega) (by omega) s6.c (by rw[hpg];exact hok) (by rw[hpg];exact hlen);rw[hf.out]at hrun;simp only[CoreM.v,hz]at hrun;obtain⟨g0,g1,g2,g3,g4,g5,g6,g7,g8⟩:=Ig b7;obtain⟨q0,q1,q2,q3,q4,q5⟩:=IU b176;have b66:=s6.b6;have FW:=s6.f;have h6b:=s6.h6;replace hrun:=Az hrun;replace s6:=Az s6;replace hs:=Az hs;replace FW:=Az FW;replace b66:=Az b66;clear e0 e1 e6 e7 cD fD cw0 fw c4 o3 fo3 hEq b7 b176;go_wp2_with fail
  refine hrun.out.mono ?_;rintro e w2 ⟨vm,rfl,hm,hE2,F2⟩;obtain⟨Am,cm,rfl⟩:=hm.slice;have b6':=F2.FP b66.out (by decide) (fun f=>f);obtain⟨x0,x1,x2,x3,x4,x5⟩:=IU b6';obtain⟨y0,y1,y2,y3,y4,y5⟩:=Od b6';replace b6':=Az b6';go_wp2;obtain⟨W7,hW7⟩:∃ X,((((((w2.setCell ⟨N6,0,none⟩ (.slice Am fin.2.marks.length cm)).setCell ⟨N6,1,none⟩ (.int .i64 fin.2.done)).setCell ⟨N6,2,none⟩ (.int .i64 fin.2.addr)).setCell ⟨N6,3,none⟩ (.int .i64 (fin.2.wrote:Int))).setCell ⟨N6,4,none⟩ (.int .i64 (fin.2.stay:Int))).setCell ⟨N6,5,none⟩ (.int .i64 fin.2.e))=X:=⟨_,rfl⟩
  rw[hW7];obtain⟨c8,F5,F6⟩:=H6 (N:=w.heap.size) (Nat.le_trans hNW h6b) b6'.out (.slice Am fin.2.marks.length cm) (.int .i64 fin.2.done) (.int .i64 fin.2.addr) (.int .i64 (fin.2.wrote:Int)) (.int .i64 (fin.2.stay:Int)) (.int .i64 fin.2.e) W7 hW7.symm;clear hW7;refine bodyPost_ret (fn:=Tryz.f75) (results_cell_row rfl _ _ N6 135 #[.slice Am fin.2.marks.length cm,.int .i64 fin.2.done,.int .i64 fin.2.addr,.int .i64 (fin.2.wrote:Int),.int .i64 (fin.2.stay:Int),.int .i64 fin.2.e] (0,0) _ rfl c8 Tryz.underlying135 rfl (by kernel_rfl)) rfl ⟨_,rfl,F5.own hm (by decide) (fun _ _ f=>f),hE2.frame F5 (by decide) (by decide) (by decide) (by decide),?_⟩;exact F6 _ _ _ _ ((FW.out.trans F2).K9 (fun _ f=>f.elim)) h6b
end
end Go.Proofs.YtjjpiefgdggghaaGreatDoor
