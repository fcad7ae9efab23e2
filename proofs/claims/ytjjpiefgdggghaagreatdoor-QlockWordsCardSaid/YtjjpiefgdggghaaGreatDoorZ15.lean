/- Parts: AsmOne. -/
import Derived.Test.YtjjpiefgdggghaaGreatDoorZ02
import Derived.Test.YtjjpiefgdggghaaGreatDoorZ11
import Derived.Test.YtjjpiefgdggghaaGreatDoorZ05
import Derived.Test.YtjjpiefgdggghaaGreatDoorZ14
import Derived.Deep.RegionHeld3
set_option linter.unusedVariables false
set_option linter.unusedSimpArgs false
set_option maxRecDepth 100000
set_option maxHeartbeats 40000000
namespace Go.Proofs.YtjjpiefgdggghaaGreatDoor
section
open Go.RowKit Go.Proofs.YtjjpiefgdggghaaGreatDoorW.PrintWords
theorem BX{P:Program}{fn:Func}{p u v:Tmp}{ty:TypeId}(h:fn.results=#[.cell p ty,.tmp u,.tmp v])(tmps:Array Value)(w:World)(g:Nat)(t:TypeId)(cs:Array Value)(fr:Nat×Nat)(d:TypeDesc)
  (hp:tmps.getD p undef=.pointer (some ⟨g,0,none⟩))(hg:w.heap[g]?=some (.cells cs t fr))
  (hu:P.underlying ty=some d)(hd:(match d with |.struct _ |.array _ _=>true |_=>false)=true)(hi:(P.info? ty).map (·.size)=some cs.size) :
  (results fn tmps).run P w=.ok (.tuple #[.agg cs,tmps.getD u undef,tmps.getD v undef]) w:=by
 have hp':tmps[p]?.getD undef=.pointer (some ⟨g,0,none⟩):=by simpa using hp
 have hl:=run_loadVar_row w g t ty cs fr d hg hu hd hi;simp only[results,h];simp[Sem.run_bind,Result.andThen,hp',asAddr,hl]
structure Ex (w W:World) (b6:Nat) (i:In):Prop where
 b:Below w.heap.size w W
 z:∃ cs,W.heap[w.heap.size]?=some (.cells cs 126 (0,0))∧cs.size=8
 e6:W.heap[b6]?=some (.cells i.cs 126 (0,0))
 n:w.heap.size<b6
theorem Ex.keep{w W W1:World}{b6:Nat}{i:In}(h:Ex w W b6 i)(hb:Below W.heap.size W W1):Ex w W1 b6 i :=
 ⟨h.b.trans (hb.mono h.b.size),by obtain⟨cs,hc,hs⟩:=h.z;exact⟨cs,Bk hb hc,hs⟩,Bk hb h.e6,h.n⟩
theorem Ex.set{w W:World}{b6:Nat}{i:In}(h:Ex w W b6 i)(j:Nat)(v:Value):Ex w (W.setCell ⟨w.heap.size,j,none⟩ v) b6 i :=
 ⟨h.b.setCell (Nl _) v,by obtain⟨cs,hc,hs⟩:=h.z;exact⟨_,Bs hc j v,by simpa using hs⟩,Ba h.e6 (show b6≠w.heap.size from Nat.ne_of_gt h.n) v,h.n⟩
def P0(W:World)(b6:Nat)(op d s t u a k q:Int):Prop :=
 W.cell? ⟨b6,0,none⟩=some (.int .i64 op)∧W.cell? ⟨b6,1,none⟩=some (.int .i64 d)∧W.cell? ⟨b6,2,none⟩=some (.int .i64 s)∧W.cell? ⟨b6,3,none⟩=some (.int .i64 t) ∧
 W.cell? ⟨b6,4,none⟩=some (.int .i64 u)∧W.cell? ⟨b6,5,none⟩=some (.int .i64 a)∧W.cell? ⟨b6,6,none⟩=some (.int .u32 k)∧W.cell? ⟨b6,7,none⟩=some (.int .i64 q)
theorem KY{w W:World}{b6:Nat}{op d s t u a k q:Int}(h:Ex w W b6 ⟨op,d,s,t,u,a,k,q⟩):P0 W b6 op d s t u a k q :=
 ⟨(Bc h.e6 0).trans rfl,(Bc h.e6 1).trans rfl,(Bc h.e6 2).trans rfl,(Bc h.e6 3).trans rfl,(Bc h.e6 4).trans rfl,(Bc h.e6 5).trans rfl,(Bc h.e6 6).trans rfl,(Bc h.e6 7).trans rfl⟩
theorem Ht{w W:World}{b6:Nat}{op d s t u a k q:Int}(h:Ex w W b6 ⟨op,d,s,t,u,a,k,q⟩):Ai (Ex w W b6 ⟨op,d,s,t,u,a,k,q⟩)∧W.cell? ⟨b6,0,none⟩=some (.int .i64 op)∧W.cell? ⟨b6,1,none⟩=some (.int .i64 d)∧W.cell? ⟨b6,2,none⟩=some (.int .i64 s)∧W.cell? ⟨b6,3,none⟩=some (.int .i64 t)∧W.cell? ⟨b6,4,none⟩=some (.int .i64 u)∧W.cell? ⟨b6,5,none⟩=some (.int .i64 a)∧W.cell? ⟨b6,6,none⟩=some (.int .u32 k)∧W.cell? ⟨b6,7,none⟩=some (.int .i64 q):=⟨⟨h⟩,KY h⟩
theorem Hu{w W W1:World}{b6:Nat}{op d s t u a k q:Int}(hb:Below W.heap.size W W1)(h:Ai (Ex w W b6 ⟨op,d,s,t,u,a,k,q⟩)∧W.cell? ⟨b6,0,none⟩=some (.int .i64 op)∧W.cell? ⟨b6,1,none⟩=some (.int .i64 d)∧W.cell? ⟨b6,2,none⟩=some (.int .i64 s)∧W.cell? ⟨b6,3,none⟩=some (.int .i64 t)∧W.cell? ⟨b6,4,none⟩=some (.int .i64 u)∧W.cell? ⟨b6,5,none⟩=some (.int .i64 a)∧W.cell? ⟨b6,6,none⟩=some (.int .u32 k)∧W.cell? ⟨b6,7,none⟩=some (.int .i64 q)):Ai (Ex w W1 b6 ⟨op,d,s,t,u,a,k,q⟩)∧W1.cell? ⟨b6,0,none⟩=some (.int .i64 op)∧W1.cell? ⟨b6,1,none⟩=some (.int .i64 d)∧W1.cell? ⟨b6,2,none⟩=some (.int .i64 s)∧W1.cell? ⟨b6,3,none⟩=some (.int .i64 t)∧W1.cell? ⟨b6,4,none⟩=some (.int .i64 u)∧W1.cell? ⟨b6,5,none⟩=some (.int .i64 a)∧W1.cell? ⟨b6,6,none⟩=some (.int .u32 k)∧W1.cell? ⟨b6,7,none⟩=some (.int .i64 q):=Ht (h.1.out.keep hb)
theorem Nt{w W:World}{b6:Nat}{op d s t u a k q:Int}{v0 v1 v2 v3 v4 v5 v6 v7:Value}(h:Ai (Ex w W b6 ⟨op,d,s,t,u,a,k,q⟩)∧W.cell? ⟨b6,0,none⟩=some (.int .i64 op)∧W.cell? ⟨b6,1,none⟩=some (.int .i64 d)∧W.cell? ⟨b6,2,none⟩=some (.int .i64 s)∧W.cell? ⟨b6,3,none⟩=some (.int .i64 t)∧W.cell? ⟨b6,4,none⟩=some (.int .i64 u)∧W.cell? ⟨b6,5,none⟩=some (.int .i64 a)∧W.cell? ⟨b6,6,none⟩=some (.int .u32 k)∧W.cell? ⟨b6,7,none⟩=some (.int .i64 q)) :
  Ai (Ex w ((((((((W.setCell ⟨w.heap.size,0,none⟩ v0).setCell ⟨w.heap.size,1,none⟩ v1).setCell ⟨w.heap.size,2,none⟩ v2).setCell ⟨w.heap.size,3,none⟩ v3).setCell ⟨w.heap.size,4,none⟩ v4).setCell ⟨w.heap.size,5,none⟩ v5).setCell ⟨w.heap.size,6,none⟩ v6).setCell ⟨w.heap.size,7,none⟩ v7) b6 ⟨op,d,s,t,u,a,k,q⟩)∧((((((((W.setCell ⟨w.heap.size,0,none⟩ v0).setCell ⟨w.heap.size,1,none⟩ v1).setCell ⟨w.heap.size,2,none⟩ v2).setCell ⟨w.heap.size,3,none⟩ v3).setCell ⟨w.heap.size,4,none⟩ v4).setCell ⟨w.heap.size,5,none⟩ v5).setCell ⟨w.heap.size,6,none⟩ v6).setCell ⟨w.heap.size,7,none⟩ v7).cell? ⟨b6,0,none⟩=some (.int .i64 op)∧((((((((W.setCell ⟨w.heap.size,0,none⟩ v0).setCell ⟨w.heap.size,1,none⟩ v1).setCell ⟨w.heap.size,2,none⟩ v2).setCell ⟨w.heap.size,3,none⟩ v3).setCell ⟨w.heap.size,4,none⟩ v4).setCell ⟨w.heap.size,5,none⟩ v5).setCell ⟨w.heap.size,6,none⟩ v6).setCell ⟨w.heap.size,7,none⟩ v7).cell? ⟨b6,1,none⟩=some (.int .i64 d)∧((((((((W.setCell ⟨w.heap.size,0,none⟩ v0).setCell ⟨w.heap.size,1,none⟩ v1).setCell ⟨w.heap.size,2,none⟩ v2).setCell ⟨w.heap.size,3,none⟩ v3).setCell ⟨w.heap.size,4,none⟩ v4).setCell ⟨w.heap.size,5,none⟩ v5).setCell ⟨w.heap.size,6,none⟩ v6).setCell ⟨w.heap.size,7,none⟩ v7).cell? ⟨b6,2,none⟩=some (.int .i64 s)∧((((((((W.setCell ⟨w.heap.size,0,none⟩ v0).setCell ⟨w.heap.size,1,none⟩ v1).setCell ⟨w.heap.size,2,none⟩ v2).setCell ⟨w.heap.size,3,none⟩ v3).setCell ⟨w.heap.size,4,none⟩ v4).setCell ⟨w.heap.size,5,none⟩ v5).setCell ⟨w.heap.size,6,none⟩ v6).setCell ⟨w.heap.size,7,none⟩ v7).cell? ⟨b6,3,none⟩=some (.int .i64 t)∧((((((((W.setCell ⟨w.heap.size,0,none⟩ v0).setCell ⟨w.heap.size,1,none⟩ v1).setCell ⟨w.heap.size,2,none⟩ v2).setCell ⟨w.heap.size,3,none⟩ v3).setCell ⟨w.heap.size,4,none⟩ v4).setCell ⟨w.heap.size,5,none⟩ v5).setCell ⟨w.heap.size,6,none⟩ v6).setCell ⟨w.heap.size,7,none⟩ v7).cell? ⟨b6,4,none⟩=some (.int .i64 u)∧((((((((W.setCell ⟨w.heap.size,0,none⟩ v0).setCell ⟨w.heap.size,1,none⟩ v1).setCell ⟨w.heap.size,2,none⟩ v2).setCell ⟨w.heap.size,3,none⟩ v3).setCell ⟨w.heap.size,4,none⟩ v4).setCell ⟨w.heap.size,5,none⟩ v5).setCell ⟨w.heap.size,6,none⟩ v6).setCell ⟨w.heap.size,7,none⟩ v7).cell? ⟨b6,5,none⟩=some (.int .i64 a)∧((((((((W.setCell ⟨w.heap.size,0,none⟩ v0).setCell ⟨w.heap.size,1,none⟩ v1).setCell ⟨w.heap.size,2,none⟩ v2).setCell ⟨w.heap.size,3,none⟩ v3).setCell ⟨w.heap.size,4,none⟩ v4).setCell ⟨w.heap.size,5,none⟩ v5).setCell ⟨w.heap.size,6,none⟩ v6).setCell ⟨w.heap.size,7,none⟩ v7).cell? ⟨b6,6,none⟩=some (.int .u32 k)∧((((((((W.setCell ⟨w.heap.size,0,none⟩ v0).setCell ⟨w.heap.size,1,none⟩ v1).setCell ⟨w.heap.size,2,none⟩ v2).setCell ⟨w.heap.size,3,none⟩ v3).setCell ⟨w.heap.size,4,none⟩ v4).setCell ⟨w.heap.size,5,none⟩ v5).setCell ⟨w.heap.size,6,none⟩ v6).setCell ⟨w.heap.size,7,none⟩ v7).cell? ⟨b6,7,none⟩=some (.int .i64 q) :=
 Ht ((((((((h.1.out.set 0 v0).set 1 v1).set 2 v2).set 3 v3).set 4 v4).set 5 v5).set 6 v6).set 7 v7)
theorem K8{a b s:List UInt8}(h:a++b=s):s.take a.length=a∧s.drop a.length=b:=by subst h;exact⟨List.take_left,List.drop_left⟩
theorem Co{α:Type}{l:List α}{i:Nat}{o:α}(h:l[i]?=some o):l.toArray[i]?=some o:=by simpa using h
theorem KV(s:List UInt8):Ek s=if (CJ (Br s++[48])).2=0∧CE (CJ (Br s++[48])).1=true then ((CJ (Br s++[48])).1,BL s,B8 (BL s)) else ((CJ s).1,[],decide ((CJ s).2=0)&&!CE (CJ s).1):=rfl
theorem HG(s:List UInt8)(w:World)(he:Env w)(hl:s.length≤90000) :
  Calls Tryz.prog 98 #[.string ⟨s.toArray⟩] w fun e w'=>e=.returned (.tuple #[(Ek s).1.v,.string ⟨(Ek s).2.1.toArray⟩,.bool (Ek s).2.2])∧Below w.heap.size w w':=by
 have hap:=HW s;have hF:=KV s;generalize Ek s=fin at hF ⊢;have CL:=Az (fun W=>KA s (by omega) W);have hln:(Br s).length+(BL s).length=s.length:=by rw[←List.length_append,hap]
 have eh:(⟨s.toArray⟩:ByteArray).extract 0 (Br s).length=⟨(Br s).toArray⟩:=by
  rw[C5,List.drop_zero,Nat.sub_zero,(K8 hap).1]
 have et:(⟨s.toArray⟩:ByteArray).extract (Br s).length s.length=⟨(BL s).toArray⟩:=by
  rw[C5,(K8 hap).2,List.take_of_length_le (by omega)]
 have e0:(⟨(Br s).toArray⟩:ByteArray)++⟨#[48]⟩=⟨(Br s++[48]).toArray⟩:=Bi (Br s) [48];have CN:=Az (fun W=>DK (BL s) W (by omega));have C1:=Az (fun(W:World) (heW:Env W)=>Gh (Br s++[48]) W heW (by simp;omega));have C2:=Az (fun(W:World) (heW:Env W)=>Gh s W heW (by omega));generalize Br s=hd at *;generalize BL s=tl at *;have hw:IntKind.i64.wrap ((hd.length:Int)-1+1)=(hd.length:Int):=by rw[IntKind.wrap_i64];omega
 have hb1:¬9223372036854775807<hd.length+1:=by omega
 have hle:hd.length≤s.length:=by omega
 have hle':(hd.length:Int)≤(s.length:Int):=by omega
 have hge':(0:Int)≤(hd.length:Int):=by omega
 have hw2:IntKind.i64.wrap (hd.length:Int)=(hd.length:Int):=by rw[IntKind.wrap_i64];omega
 have hZ0:=Az (Bv w (.cells In.zero.cs 126));have hB0:=Az ((Below.refl w.heap.size w).alloc (Nl _) (.cells In.zero.cs 126));have hsl:∀ W:World,(Instr.slice 9 (.string ⟨s.toArray⟩) (some (.int .i64 (hd.length:Int))) none none).run Tryz.prog W=.ok (.string ⟨tl.toArray⟩) W:=fun W=>by
  have hz:(⟨s.toArray⟩:ByteArray).size=s.length:=by simp[ByteArray.size]
  rw[run_slice_string_l W 9 ⟨s.toArray⟩ Tryz.underlying9 .i64 (hd.length:Int) hge' (by rw[hz];exact hle'),hz,Int.toNat_natCast,et]
 clear hap hln et;go_enter Tryz.func98,Tryz.ntmps98;go_wp2_with fail
 refine(CL.out _).mono ?_;rintro e w1 ⟨rfl,hb⟩;have hZ1:=Az (Bk hb hZ0.out);have hB1:=Az (hB0.out.trans (hb.mono hB0.out.size));clear hZ0 hB0 hb CL;go_wp2_with fail
 generalize CJ (hd++[48])=r1 at *;generalize hr2:CJ s=r2 at *;obtain⟨⟨op,d,s1,t,u,a,k,q⟩,e1⟩:=r1;obtain⟨⟨op2,d2,s2,t2,u2,a2,k2,q2⟩,e2⟩:=r2;dsimp only at hF C1 C2;replace C1:=C1.out;replace C2:=C2.out;dsimp only[In.v]at C1 C2;replace C1:=Az C1;replace C2:=Az C2;refine(C1.out _ (he.below hB1.out)).mono ?_;rintro e w2 ⟨rfl,hb⟩;have hZ2:=Az (Bk hb hZ1.out);have hB2:=Az (hB1.out.trans (hb.mono hB1.out.size));have hs2:=hb.size;have hs1:=Bl hZ1.out;have HI:=Az (show Ex w (w2.alloc (.cells (In.cs ⟨op,d,s1,t,u,a,k,q⟩) 126)) w2.heap.size ⟨op,d,s1,t,u,a,k,q⟩ from
  ⟨hB2.out.alloc hB2.out.size _,⟨_,As hZ2.out _,rfl⟩,Bv _ _,by omega⟩)
 have HZ:=Az (As hZ2.out (.cells (In.cs ⟨op,d,s1,t,u,a,k,q⟩) 126));clear hZ1 hB1 hZ2 hB2 hb C1 hs1 hs2;have D1:=fun W=>Ho ⟨op,d,s1,t,u,a,k,q⟩ W
 dsimp only[In.v]at D1;replace D1:=Az D1;obtain⟨b6,hb6⟩:∃ b,b=w2.heap.size:=⟨_,rfl⟩
 go_upto_region 3 with fail
 go_cut [26] (fun v wx=>v=.bool (decide (e1=0)&&CE ⟨op,d,s1,t,u,a,k,q⟩)∧Ai (Ex w wx b6 ⟨op,d,s1,t,u,a,k,q⟩)∧Ai (wx.heap[w.heap.size]?=some (.cells In.zero.cs 126 (0,0))))
 case first =>
  obtain⟨x0,x1,x2,x3,x4,x5,x6,x7⟩:=KY HI.out;by_cases h1:e1=0
  ·subst h1;generalize CE ⟨op,d,s1,t,u,a,k,q⟩=gg at *;go_wp2_with fail
   refine(D1.out _).mono ?_;rintro e w3 ⟨rfl,hb⟩;go_wp2;go_meet
   exact⟨by simp,⟨by rw[hb6];exact HI.out.keep hb⟩,⟨Bk hb HZ.out⟩⟩
  ·have h1b:(e1==0)=false:=Bq h1;go_wp2;go_meet
   exact⟨by simp[h1],by rw[hb6];exact HI,HZ⟩
 case rest =>
  obtain⟨rfl,HI,HZ⟩:=hcut;subst hb6;clear D1;by_cases hg:(decide (e1=0)&&CE ⟨op,d,s1,t,u,a,k,q⟩)=true
  ·rw[hg];have hfin:=Az (show fin=(⟨op,d,s1,t,u,a,k,q⟩,tl,B8 tl) by rw[hF,if_pos (by simpa using hg)]);clear hF hg C2;have hS:=Ht (HI.out.keep (Bd (Below.refl _ _)));have HZd:=Az (Be HZ.out);clear HI HZ;go_wp2_with fail
   refine wp_region_held_drew (S:=(fun W=>Ai (Ex w W w2.heap.size ⟨op,d,s1,t,u,a,k,q⟩)∧W.cell? ⟨w2.heap.size,0,none⟩=some (.int .i64 op)∧W.cell? ⟨w2.heap.size,1,none⟩=some (.int .i64 d)∧W.cell? ⟨w2.heap.size,2,none⟩=some (.int .i64 s1)∧W.cell? ⟨w2.heap.size,3,none⟩=some (.int .i64 t)∧W.cell? ⟨w2.heap.size,4,none⟩=some (.int .i64 u)∧W.cell? ⟨w2.heap.size,5,none⟩=some (.int .i64 a)∧W.cell? ⟨w2.heap.size,6,none⟩=some (.int .u32 k)∧W.cell? ⟨w2.heap.size,7,none⟩=some (.int .i64 q))) (by kernel_rfl) hS (fun hHeld0=>?_);refine wpAnyH_take (i:=0) (oi:=?oit0) (v:=?vt0) ?hit0 ?hst0 ?hft0 ?hrt0 ?hQt0 ?hyt0 ?hSt0 ?_;case hit0=>refine Co ?_;rfl
   case hst0=>kernel_rfl
   case hft0=>kernel_rfl
   case hrt0=>kernel_rfl
   case hQt0=>exact fun _ _ _ h=>h
   case hyt0=>(refine Or.inl ⟨by rfl,?_⟩;intro w hSw;go_simp;try with_reducible rfl)
   case hSt0=>assumption
   try simp only[Act.put,Sa,Sb,Sc]
   refine wpAnyH_take (i:=1) (oi:=?oit1) (v:=?vt1) ?hit1 ?hst1 ?hft1 ?hrt1 ?hQt1 ?hyt1 ?hSt1 ?_;case hit1=>refine Co ?_;rfl
   case hst1=>kernel_rfl
   case hft1=>kernel_rfl
   case hrt1=>kernel_rfl
   case hQt1=>exact fun _ _ _ h=>h
   case hyt1=>(refine Or.inl ⟨by rfl,?_⟩;intro w hSw;go_simp;try with_reducible rfl)
   case hSt1=>assumption
   try simp only[Act.put,Sa,Sb,Sc]
   refine wpAnyH_take (i:=2) (oi:=?oit2) (v:=?vt2) ?hit2 ?hst2 ?hft2 ?hrt2 ?hQt2 ?hyt2 ?hSt2 ?_;case hit2=>refine Co ?_;rfl
   case hst2=>kernel_rfl
   case hft2=>kernel_rfl
   case hrt2=>kernel_rfl
   case hQt2=>exact fun _ _ _ h=>h
   case hyt2=>(refine Or.inl ⟨by rfl,?_⟩;intro w hSw;go_simp;try with_reducible rfl)
   case hSt2=>assumption
   try simp only[Act.put,Sa,Sb,Sc]
   refine wpAnyH_take (i:=3) (oi:=?oit3) (v:=?vt3) ?hit3 ?hst3 ?hft3 ?hrt3 ?hQt3 ?hyt3 ?hSt3 ?_;case hit3=>refine Co ?_;rfl
   case hst3=>kernel_rfl
   case hft3=>kernel_rfl
   case hrt3=>kernel_rfl
   case hQt3=>exact fun _ _ _ h=>h
   case hyt3=>(refine Or.inl ⟨by rfl,?_⟩;intro w hSw;go_simp;try with_reducible rfl)
   case hSt3=>assumption
   try simp only[Act.put,Sa,Sb,Sc]
   refine wpAnyH_take (i:=4) (oi:=?oit4) (v:=?vt4) ?hit4 ?hst4 ?hft4 ?hrt4 ?hQt4 ?hyt4 ?hSt4 ?_;case hit4=>refine Co ?_;rfl
   case hst4=>kernel_rfl
   case hft4=>kernel_rfl
   case hrt4=>kernel_rfl
   case hQt4=>exact fun _ _ _ h=>h
   case hyt4=>(refine Or.inl ⟨by rfl,?_⟩;intro w hSw;go_simp;try with_reducible rfl)
   case hSt4=>assumption
   try simp only[Act.put,Sa,Sb,Sc]
   refine wpAnyH_take (i:=5) (oi:=?oit5) (v:=?vt5) ?hit5 ?hst5 ?hft5 ?hrt5 ?hQt5 ?hyt5 ?hSt5 ?_;case hit5=>refine Co ?_;rfl
   case hst5=>kernel_rfl
   case hft5=>kernel_rfl
   case hrt5=>kernel_rfl
   case hQt5=>exact fun _ _ _ h=>h
   case hyt5=>(refine Or.inl ⟨by rfl,?_⟩;intro w hSw;go_simp;try with_reducible rfl)
   case hSt5=>assumption
   try simp only[Act.put,Sa,Sb,Sc]
   refine wpAnyH_take (i:=6) (oi:=?oit6) (v:=?vt6) ?hit6 ?hst6 ?hft6 ?hrt6 ?hQt6 ?hyt6 ?hSt6 ?_;case hit6=>refine Co ?_;rfl
   case hst6=>kernel_rfl
   case hft6=>kernel_rfl
   case hrt6=>kernel_rfl
   case hQt6=>exact fun _ _ _ h=>h
   case hyt6=>(refine Or.inl ⟨by rfl,?_⟩;intro w hSw;go_simp;try with_reducible rfl)
   case hSt6=>assumption
   try simp only[Act.put,Sa,Sb,Sc]
   refine wpAnyH_take (i:=7) (oi:=?oit7) (v:=?vt7) ?hit7 ?hst7 ?hft7 ?hrt7 ?hQt7 ?hyt7 ?hSt7 ?_;case hit7=>refine Co ?_;rfl
   case hst7=>kernel_rfl
   case hft7=>kernel_rfl
   case hrt7=>kernel_rfl
   case hQt7=>exact fun _ _ _ h=>h
   case hyt7=>(refine Or.inl ⟨by rfl,?_⟩;intro w hSw;go_simp;try with_reducible rfl)
   case hSt7=>assumption
   try simp only[Act.put,Sa,Sb,Sc]
   refine wpAnyH_take (i:=8) (oi:=?oit8) (v:=?vt8) ?hit8 ?hst8 ?hft8 ?hrt8 ?hQt8 ?hyt8 ?hSt8 ?_;case hit8=>refine Co ?_;rfl
   case hst8=>kernel_rfl
   case hft8=>kernel_rfl
   case hrt8=>kernel_rfl
   case hQt8=>exact fun _ _ _ h=>h
   case hyt8=>(refine Or.inl ⟨by rfl,?_⟩;intro w hSw;go_simp;try with_reducible rfl)
   case hSt8=>assumption
   try simp only[Act.put,Sa,Sb,Sc]
   refine wpAnyH_ready (rs:=[9]) (by kernel_rfl) (by simp) ?_;refine AllReadyH.cons (o:=?oT9) ?hoT9 (fun K hK=>?_) AllReadyH.nil;case hoT9=>refine Co ?_;rfl
   go_simp
   go_at_call 97
   refine(CN.out _).mono ?_;rintro e w9 ⟨rfl,hb⟩;have hz:=Az (Bk hb HZd.out);go_wp2_with fail
   refine hK.out _ _ (Hu hb (by assumption)) (fun hHeld9=>?_);try simp only[Act.put,Sa,Sb,Sc]
   have z0:w.heap.size<w9.heap.size:=Bl hz.out;have zc0:w9.cell? ⟨w.heap.size,0,none⟩=some (.int .i64 0):=(Bc hz.out 0).trans rfl;have zf0:=Bf hz.out 0;have zc1:w9.cell? ⟨w.heap.size,1,none⟩=some (.int .i64 0):=(Bc hz.out 1).trans rfl;have zf1:=Bf hz.out 1;have zc2:w9.cell? ⟨w.heap.size,2,none⟩=some (.int .i64 0):=(Bc hz.out 2).trans rfl;have zf2:=Bf hz.out 2;have zc3:w9.cell? ⟨w.heap.size,3,none⟩=some (.int .i64 0):=(Bc hz.out 3).trans rfl;have zf3:=Bf hz.out 3;have zc4:w9.cell? ⟨w.heap.size,4,none⟩=some (.int .i64 0):=(Bc hz.out 4).trans rfl;have zf4:=Bf hz.out 4;have zc5:w9.cell? ⟨w.heap.size,5,none⟩=some (.int .i64 0):=(Bc hz.out 5).trans rfl;have zf5:=Bf hz.out 5;have zc6:w9.cell? ⟨w.heap.size,6,none⟩=some (.int .u32 0):=(Bc hz.out 6).trans rfl;have zf6:=Bf hz.out 6;have zc7:w9.cell? ⟨w.heap.size,7,none⟩=some (.int .i64 0):=(Bc hz.out 7).trans rfl;have zf7:=Bf hz.out 7;refine wpAnyH_ready (rs:=[10]) (by kernel_rfl) (by simp) ?_;refine AllReadyH.cons (o:=?oT10) ?hoT10 (fun K hK=>?_) AllReadyH.nil;case hoT10=>refine Co ?_;rfl
   go_simp
   go_wp2_with fail
   refine hK.out _ _ (Nt (by assumption)) (fun hHeldS=>?_);try simp only[Act.put,Sa,Sb,Sc]
   refine wpAnyH_take (i:=11) (oi:=?oit11) (v:=?vt11) ?hit11 ?hst11 ?hft11 ?hrt11 ?hQt11 ?hyt11 ?hSt11 ?_;case hit11=>refine Co ?_;rfl
   case hst11=>kernel_rfl
   case hft11=>kernel_rfl
   case hrt11=>kernel_rfl
   case hQt11=>exact fun _ _ _ h=>h
   case hyt11=>(refine Or.inl ⟨by rfl,?_⟩;intro w hSw;go_simp;try with_reducible rfl)
   case hSt11=>assumption
   try simp only[Act.put,Sa,Sb,Sc]
   refine wpAnyH_take (i:=12) (oi:=?oit12) (v:=?vt12) ?hit12 ?hst12 ?hft12 ?hrt12 ?hQt12 ?hyt12 ?hSt12 ?_;case hit12=>refine Co ?_;rfl
   case hst12=>kernel_rfl
   case hft12=>kernel_rfl
   case hrt12=>kernel_rfl
   case hQt12=>exact fun _ _ _ h=>h
   case hyt12=>(refine Or.inl ⟨by rfl,?_⟩;intro w hSw;go_simp;try with_reducible rfl)
   case hSt12=>assumption
   try simp only[Act.put,Sa,Sb,Sc]
   refine wpAnyH_done (by kernel_rfl) ?_ _;obtain⟨HA,_⟩:=Hu (Below.refl _ _) (by assumption);go_wp2;refine bodyPost_ret (BX rfl _ _ w.heap.size 126 (In.cs ⟨op,d,s1,t,u,a,k,q⟩) (0,0) _ rfl (BF hz.out (.int .i64 op) (.int .i64 d) (.int .i64 s1) (.int .i64 t) (.int .i64 u) (.int .i64 a) (.int .u32 k) (.int .i64 q)) Tryz.underlying126 rfl (by kernel_rfl)) rfl ⟨?_,HA.out.b⟩;rw[hfin.out];first |rfl |simp
  ·have hg':(decide (e1=0)&&CE ⟨op,d,s1,t,u,a,k,q⟩)=false:=by simpa using hg
   rw[hg'];have hfin:=Az (show fin=(⟨op2,d2,s2,t2,u2,a2,k2,q2⟩,[],decide (e2=0)&&!CE ⟨op2,d2,s2,t2,u2,a2,k2,q2⟩) by rw[hF,if_neg (by simpa using hg)]);clear hF hg hg' CN;go_wp2_with fail
   refine(C2.out _ (he.below HI.out.b)).mono ?_;rintro e w3 ⟨rfl,hb⟩;replace HI:=Az (HI.out.keep hb);replace HZ:=Az (Bk hb HZ.out);have HJ:=Az (show Ex w (w3.alloc (.cells (In.cs ⟨op2,d2,s2,t2,u2,a2,k2,q2⟩) 126)) w3.heap.size ⟨op2,d2,s2,t2,u2,a2,k2,q2⟩ from
    ⟨HI.out.b.alloc HI.out.b.size _,⟨_,As HZ.out _,rfl⟩,Bv _ _,Bl HZ.out⟩)
   have HZ5:=Az (As HZ.out (.cells (In.cs ⟨op2,d2,s2,t2,u2,a2,k2,q2⟩) 126));clear HI HZ hb C2;have D2:=fun W=>Ho ⟨op2,d2,s2,t2,u2,a2,k2,q2⟩ W
   dsimp only[In.v]at D2;replace D2:=Az D2;obtain⟨b8,hb8⟩:∃ b,w3.heap.size=b:=⟨_,rfl⟩
   obtain⟨w5,hw5⟩:∃ x,w3.alloc (.cells (In.cs ⟨op2,d2,s2,t2,u2,a2,k2,q2⟩) 126)=x:=⟨_,rfl⟩
   rw[hw5,hb8]at HJ;rw[hw5]at HZ5;simp only[In.cs]at hw5;go_wp2_with fail
   try rw[hw5]
   try rw[hb8]
   clear hw5 hb8;have hS:=Ht (HJ.out.keep (Bd (Below.refl _ _)));by_cases h2:e2=0
   ·subst h2;generalize CE ⟨op2,d2,s2,t2,u2,a2,k2,q2⟩=gg at *;refine wp_region_held_drew (S:=(fun W=>Ai (Ex w W b8 ⟨op2,d2,s2,t2,u2,a2,k2,q2⟩)∧W.cell? ⟨b8,0,none⟩=some (.int .i64 op2)∧W.cell? ⟨b8,1,none⟩=some (.int .i64 d2)∧W.cell? ⟨b8,2,none⟩=some (.int .i64 s2)∧W.cell? ⟨b8,3,none⟩=some (.int .i64 t2)∧W.cell? ⟨b8,4,none⟩=some (.int .i64 u2)∧W.cell? ⟨b8,5,none⟩=some (.int .i64 a2)∧W.cell? ⟨b8,6,none⟩=some (.int .u32 k2)∧W.cell? ⟨b8,7,none⟩=some (.int .i64 q2))) (by kernel_rfl) hS (fun hHeld0=>?_);refine wpAnyH_take (i:=0) (oi:=?oie0) (v:=?ve0) ?hie0 ?hse0 ?hfe0 ?hre0 ?hQe0 ?hye0 ?hSe0 ?_;case hie0=>refine Co ?_;rfl
    case hse0=>kernel_rfl
    case hfe0=>kernel_rfl
    case hre0=>kernel_rfl
    case hQe0=>exact fun _ _ _ h=>h
    case hye0=>(refine Or.inl ⟨by rfl,?_⟩;intro w hSw;go_simp;try with_reducible rfl)
    case hSe0=>assumption
    try simp only[Act.put,Sa,Sb,Sc]
    refine wpAnyH_take (i:=1) (oi:=?oie1) (v:=?ve1) ?hie1 ?hse1 ?hfe1 ?hre1 ?hQe1 ?hye1 ?hSe1 ?_;case hie1=>refine Co ?_;rfl
    case hse1=>kernel_rfl
    case hfe1=>kernel_rfl
    case hre1=>kernel_rfl
    case hQe1=>exact fun _ _ _ h=>h
    case hye1=>(refine Or.inl ⟨by rfl,?_⟩;intro w hSw;go_simp;try with_reducible rfl)
    case hSe1=>assumption
    try simp only[Act.put,Sa,Sb,Sc]
    refine wpAnyH_take (i:=2) (oi:=?oie2) (v:=?ve2) ?hie2 ?hse2 ?hfe2 ?hre2 ?hQe2 ?hye2 ?hSe2 ?_;case hie2=>refine Co ?_;rfl
    case hse2=>kernel_rfl
    case hfe2=>kernel_rfl
    case hre2=>kernel_rfl
    case hQe2=>exact fun _ _ _ h=>h
    case hye2=>(refine Or.inl ⟨by rfl,?_⟩;intro w hSw;go_simp;try with_reducible rfl)
    case hSe2=>assumption
    try simp only[Act.put,Sa,Sb,Sc]
    refine wpAnyH_take (i:=3) (oi:=?oie3) (v:=?ve3) ?hie3 ?hse3 ?hfe3 ?hre3 ?hQe3 ?hye3 ?hSe3 ?_;case hie3=>refine Co ?_;rfl
    case hse3=>kernel_rfl
    case hfe3=>kernel_rfl
    case hre3=>kernel_rfl
    case hQe3=>exact fun _ _ _ h=>h
    case hye3=>(refine Or.inl ⟨by rfl,?_⟩;intro w hSw;go_simp;try with_reducible rfl)
    case hSe3=>assumption
    try simp only[Act.put,Sa,Sb,Sc]
    refine wpAnyH_take (i:=4) (oi:=?oie4) (v:=?ve4) ?hie4 ?hse4 ?hfe4 ?hre4 ?hQe4 ?hye4 ?hSe4 ?_;case hie4=>refine Co ?_;rfl
    case hse4=>kernel_rfl
    case hfe4=>kernel_rfl
    case hre4=>kernel_rfl
    case hQe4=>exact fun _ _ _ h=>h
    case hye4=>(refine Or.inl ⟨by rfl,?_⟩;intro w hSw;go_simp;try with_reducible rfl)
    case hSe4=>assumption
    try simp only[Act.put,Sa,Sb,Sc]
    refine wpAnyH_ready (rs:=[5]) (by kernel_rfl) (by simp) ?_;refine AllReadyH.cons (o:=?oE5) ?hoE5 (fun K hK=>?_) AllReadyH.nil;case hoE5=>refine Co ?_;rfl
    go_simp
    go_at_call 123
    refine(D2.out _).mono ?_;rintro e w9 ⟨rfl,hb⟩;have hz:=Az (Bk hb (Be HZ5.out));go_wp2_with fail
    refine hK.out _ _ (Hu hb (by assumption)) (fun hHeld9=>?_);try simp only[Act.put,Sa,Sb,Sc]
    have z0:w.heap.size<w9.heap.size:=Bl hz.out;have zc0:w9.cell? ⟨w.heap.size,0,none⟩=some (.int .i64 0):=(Bc hz.out 0).trans rfl;have zf0:=Bf hz.out 0;have zc1:w9.cell? ⟨w.heap.size,1,none⟩=some (.int .i64 0):=(Bc hz.out 1).trans rfl;have zf1:=Bf hz.out 1;have zc2:w9.cell? ⟨w.heap.size,2,none⟩=some (.int .i64 0):=(Bc hz.out 2).trans rfl;have zf2:=Bf hz.out 2;have zc3:w9.cell? ⟨w.heap.size,3,none⟩=some (.int .i64 0):=(Bc hz.out 3).trans rfl;have zf3:=Bf hz.out 3;have zc4:w9.cell? ⟨w.heap.size,4,none⟩=some (.int .i64 0):=(Bc hz.out 4).trans rfl;have zf4:=Bf hz.out 4;have zc5:w9.cell? ⟨w.heap.size,5,none⟩=some (.int .i64 0):=(Bc hz.out 5).trans rfl;have zf5:=Bf hz.out 5;have zc6:w9.cell? ⟨w.heap.size,6,none⟩=some (.int .u32 0):=(Bc hz.out 6).trans rfl;have zf6:=Bf hz.out 6;have zc7:w9.cell? ⟨w.heap.size,7,none⟩=some (.int .i64 0):=(Bc hz.out 7).trans rfl;have zf7:=Bf hz.out 7;refine wpAnyH_take (i:=6) (oi:=?oie6) (v:=?ve6) ?hie6 ?hse6 ?hfe6 ?hre6 ?hQe6 ?hye6 ?hSe6 ?_;case hie6=>refine Co ?_;rfl
    case hse6=>kernel_rfl
    case hfe6=>kernel_rfl
    case hre6=>kernel_rfl
    case hQe6=>exact fun _ _ _ h=>h
    case hye6=>(refine Or.inl ⟨by rfl,?_⟩;intro w hSw;go_simp;try with_reducible rfl)
    case hSe6=>assumption
    try simp only[Act.put,Sa,Sb,Sc]
    refine wpAnyH_take (i:=7) (oi:=?oie7) (v:=?ve7) ?hie7 ?hse7 ?hfe7 ?hre7 ?hQe7 ?hye7 ?hSe7 ?_;case hie7=>refine Co ?_;rfl
    case hse7=>kernel_rfl
    case hfe7=>kernel_rfl
    case hre7=>kernel_rfl
    case hQe7=>exact fun _ _ _ h=>h
    case hye7=>(refine Or.inl ⟨by rfl,?_⟩;intro w hSw;go_simp;try with_reducible rfl)
    case hSe7=>assumption
    try simp only[Act.put,Sa,Sb,Sc]
    refine wpAnyH_ready (rs:=[8]) (by kernel_rfl) (by simp) ?_;refine AllReadyH.cons (o:=?oE8) ?hoE8 (fun K hK=>?_) AllReadyH.nil;case hoE8=>refine Co ?_;rfl
    go_simp
    go_wp2_with fail
    refine hK.out _ _ (Nt (by assumption)) (fun hHeldS=>?_);try simp only[Act.put,Sa,Sb,Sc]
    refine wpAnyH_take (i:=9) (oi:=?oie9) (v:=?ve9) ?hie9 ?hse9 ?hfe9 ?hre9 ?hQe9 ?hye9 ?hSe9 ?_;case hie9=>refine Co ?_;rfl
    case hse9=>kernel_rfl
    case hfe9=>kernel_rfl
    case hre9=>kernel_rfl
    case hQe9=>exact fun _ _ _ h=>h
    case hye9=>(refine Or.inl ⟨by rfl,?_⟩;intro w hSw;go_simp;try with_reducible rfl)
    case hSe9=>assumption
    try simp only[Act.put,Sa,Sb,Sc]
    refine wpAnyH_take (i:=10) (oi:=?oie10) (v:=?ve10) ?hie10 ?hse10 ?hfe10 ?hre10 ?hQe10 ?hye10 ?hSe10 ?_;case hie10=>refine Co ?_;rfl
    case hse10=>kernel_rfl
    case hfe10=>kernel_rfl
    case hre10=>kernel_rfl
    case hQe10=>exact fun _ _ _ h=>h
    case hye10=>(refine Or.inl ⟨by rfl,?_⟩;intro w hSw;go_simp;try with_reducible rfl)
    case hSe10=>assumption
    try simp only[Act.put,Sa,Sb,Sc]
    refine wpAnyH_done (by kernel_rfl) ?_ _;obtain⟨HA,_⟩:=Hu (Below.refl _ _) (by assumption);go_wp2;refine bodyPost_ret (BX rfl _ _ w.heap.size 126 (In.cs ⟨op2,d2,s2,t2,u2,a2,k2,q2⟩) (0,0) _ rfl (BF hz.out (.int .i64 op2) (.int .i64 d2) (.int .i64 s2) (.int .i64 t2) (.int .i64 u2) (.int .i64 a2) (.int .u32 k2) (.int .i64 q2)) Tryz.underlying126 rfl (by kernel_rfl)) rfl ⟨?_,HA.out.b⟩;rw[hfin.out];first |rfl |simp
   ·have h2b:(e2==0)=false:=Bq h2;refine wp_region_held_drew (S:=(fun W=>Ai (Ex w W b8 ⟨op2,d2,s2,t2,u2,a2,k2,q2⟩)∧W.cell? ⟨b8,0,none⟩=some (.int .i64 op2)∧W.cell? ⟨b8,1,none⟩=some (.int .i64 d2)∧W.cell? ⟨b8,2,none⟩=some (.int .i64 s2)∧W.cell? ⟨b8,3,none⟩=some (.int .i64 t2)∧W.cell? ⟨b8,4,none⟩=some (.int .i64 u2)∧W.cell? ⟨b8,5,none⟩=some (.int .i64 a2)∧W.cell? ⟨b8,6,none⟩=some (.int .u32 k2)∧W.cell? ⟨b8,7,none⟩=some (.int .i64 q2))) (by kernel_rfl) hS (fun hHeld0=>?_);refine wpAnyH_take (i:=0) (oi:=?oin0) (v:=?vn0) ?hin0 ?hsn0 ?hfn0 ?hrn0 ?hQn0 ?hyn0 ?hSn0 ?_;case hin0=>refine Co ?_;rfl
    case hsn0=>kernel_rfl
    case hfn0=>kernel_rfl
    case hrn0=>kernel_rfl
    case hQn0=>exact fun _ _ _ h=>h
    case hyn0=>(refine Or.inl ⟨by rfl,?_⟩;intro w hSw;go_simp;try with_reducible rfl)
    case hSn0=>assumption
    try simp only[Act.put,Sa,Sb,Sc]
    refine wpAnyH_take (i:=1) (oi:=?oin1) (v:=?vn1) ?hin1 ?hsn1 ?hfn1 ?hrn1 ?hQn1 ?hyn1 ?hSn1 ?_;case hin1=>refine Co ?_;rfl
    case hsn1=>kernel_rfl
    case hfn1=>kernel_rfl
    case hrn1=>kernel_rfl
    case hQn1=>exact fun _ _ _ h=>h
    case hyn1=>(refine Or.inl ⟨by rfl,?_⟩;intro w hSw;go_simp;try with_reducible rfl)
    case hSn1=>assumption
    try simp only[Act.put,Sa,Sb,Sc]
    refine wpAnyH_take (i:=2) (oi:=?oin2) (v:=?vn2) ?hin2 ?hsn2 ?hfn2 ?hrn2 ?hQn2 ?hyn2 ?hSn2 ?_;case hin2=>refine Co ?_;rfl
    case hsn2=>kernel_rfl
    case hfn2=>kernel_rfl
    case hrn2=>kernel_rfl
    case hQn2=>exact fun _ _ _ h=>h
    case hyn2=>(refine Or.inl ⟨by rfl,?_⟩;intro w hSw;go_simp;try with_reducible rfl)
    case hSn2=>assumption
    try simp only[Act.put,Sa,Sb,Sc]
    refine wpAnyH_take (i:=3) (oi:=?oin3) (v:=?vn3) ?hin3 ?hsn3 ?hfn3 ?hrn3 ?hQn3 ?hyn3 ?hSn3 ?_;case hin3=>refine Co ?_;rfl
    case hsn3=>kernel_rfl
    case hfn3=>kernel_rfl
    case hrn3=>kernel_rfl
    case hQn3=>exact fun _ _ _ h=>h
    case hyn3=>(refine Or.inl ⟨by rfl,?_⟩;intro w hSw;go_simp;try with_reducible rfl)
    case hSn3=>assumption
    try simp only[Act.put,Sa,Sb,Sc]
    refine wpAnyH_take (i:=4) (oi:=?oin4) (v:=undef) ?hin4 ?hsn4 ?hfn4 ?hrn4 ?hQn4 ?hyn4 ?hSn4 ?_;case hin4=>refine Co ?_;rfl
    case hsn4=>kernel_rfl
    case hfn4=>kernel_rfl
    case hrn4=>kernel_rfl
    case hQn4=>exact fun _ _ _ h=>h
    case hyn4=>(refine Or.inr ⟨by rfl,by rfl⟩)
    case hSn4=>assumption
    try simp only[Act.put,Sa,Sb,Sc]
    refine wpAnyH_take (i:=5) (oi:=?oin5) (v:=undef) ?hin5 ?hsn5 ?hfn5 ?hrn5 ?hQn5 ?hyn5 ?hSn5 ?_;case hin5=>refine Co ?_;rfl
    case hsn5=>kernel_rfl
    case hfn5=>kernel_rfl
    case hrn5=>kernel_rfl
    case hQn5=>exact fun _ _ _ h=>h
    case hyn5=>(refine Or.inr ⟨by rfl,by rfl⟩)
    case hSn5=>assumption
    try simp only[Act.put,Sa,Sb,Sc]
    refine wpAnyH_take (i:=6) (oi:=?oin6) (v:=undef) ?hin6 ?hsn6 ?hfn6 ?hrn6 ?hQn6 ?hyn6 ?hSn6 ?_;case hin6=>refine Co ?_;rfl
    case hsn6=>kernel_rfl
    case hfn6=>kernel_rfl
    case hrn6=>kernel_rfl
    case hQn6=>exact fun _ _ _ h=>h
    case hyn6=>(refine Or.inr ⟨by rfl,by rfl⟩)
    case hSn6=>assumption
    try simp only[Act.put,Sa,Sb,Sc]
    refine wpAnyH_take (i:=7) (oi:=?oin7) (v:=?vn7) ?hin7 ?hsn7 ?hfn7 ?hrn7 ?hQn7 ?hyn7 ?hSn7 ?_;case hin7=>refine Co ?_;rfl
    case hsn7=>kernel_rfl
    case hfn7=>kernel_rfl
    case hrn7=>kernel_rfl
    case hQn7=>exact fun _ _ _ h=>h
    case hyn7=>(refine Or.inl ⟨by rfl,?_⟩;intro w hSw;go_simp;try with_reducible rfl)
    case hSn7=>assumption
    try simp only[Act.put,Sa,Sb,Sc]
    have z0:w.heap.size<w5.heap.size:=Bl HZ5.out;have zc0:w5.cell? ⟨w.heap.size,0,none⟩=some (.int .i64 0):=(Bc HZ5.out 0).trans rfl;have zf0:=Bf HZ5.out 0;have zc1:w5.cell? ⟨w.heap.size,1,none⟩=some (.int .i64 0):=(Bc HZ5.out 1).trans rfl;have zf1:=Bf HZ5.out 1;have zc2:w5.cell? ⟨w.heap.size,2,none⟩=some (.int .i64 0):=(Bc HZ5.out 2).trans rfl;have zf2:=Bf HZ5.out 2;have zc3:w5.cell? ⟨w.heap.size,3,none⟩=some (.int .i64 0):=(Bc HZ5.out 3).trans rfl;have zf3:=Bf HZ5.out 3;have zc4:w5.cell? ⟨w.heap.size,4,none⟩=some (.int .i64 0):=(Bc HZ5.out 4).trans rfl;have zf4:=Bf HZ5.out 4;have zc5:w5.cell? ⟨w.heap.size,5,none⟩=some (.int .i64 0):=(Bc HZ5.out 5).trans rfl;have zf5:=Bf HZ5.out 5;have zc6:w5.cell? ⟨w.heap.size,6,none⟩=some (.int .u32 0):=(Bc HZ5.out 6).trans rfl;have zf6:=Bf HZ5.out 6;have zc7:w5.cell? ⟨w.heap.size,7,none⟩=some (.int .i64 0):=(Bc HZ5.out 7).trans rfl;have zf7:=Bf HZ5.out 7;have HZd:=Az (Be HZ5.out);refine wpAnyH_ready (rs:=[8]) (by kernel_rfl) (by simp) ?_;refine AllReadyH.cons (o:=?oN8) ?hoN8 (fun K hK=>?_) AllReadyH.nil;case hoN8=>refine Co ?_;rfl
    go_simp
    go_wp2_with fail
    refine hK.out _ _ (Ht (((((((((HJ.out.set 0 (.int .i64 op2)).set 1 (.int .i64 d2)).set 2 (.int .i64 s2)).set 3 (.int .i64 t2)).set 4 (.int .i64 u2)).set 5 (.int .i64 a2)).set 6 (.int .u32 k2)).set 7 (.int .i64 q2)).keep (Bd (Below.refl _ _)))) (fun hHeldS=>?_);try simp only[Act.put,Sa,Sb,Sc]
    refine wpAnyH_take (i:=9) (oi:=?oin9) (v:=?vn9) ?hin9 ?hsn9 ?hfn9 ?hrn9 ?hQn9 ?hyn9 ?hSn9 ?_;case hin9=>refine Co ?_;rfl
    case hsn9=>kernel_rfl
    case hfn9=>kernel_rfl
    case hrn9=>kernel_rfl
    case hQn9=>exact fun _ _ _ h=>h
    case hyn9=>(refine Or.inl ⟨by rfl,?_⟩;intro w hSw;go_simp;try with_reducible rfl)
    case hSn9=>assumption
    try simp only[Act.put,Sa,Sb,Sc]
    refine wpAnyH_take (i:=10) (oi:=?oin10) (v:=?vn10) ?hin10 ?hsn10 ?hfn10 ?hrn10 ?hQn10 ?hyn10 ?hSn10 ?_;case hin10=>refine Co ?_;rfl
    case hsn10=>kernel_rfl
    case hfn10=>kernel_rfl
    case hrn10=>kernel_rfl
    case hQn10=>exact fun _ _ _ h=>h
    case hyn10=>(refine Or.inl ⟨by rfl,?_⟩;intro w hSw;go_simp;try with_reducible rfl)
    case hSn10=>assumption
    try simp only[Act.put,Sa,Sb,Sc]
    refine wpAnyH_done (by kernel_rfl) ?_ _;obtain⟨HA,_⟩:=Hu (Below.refl _ _) (by assumption);go_wp2;refine bodyPost_ret (BX rfl _ _ w.heap.size 126 (In.cs ⟨op2,d2,s2,t2,u2,a2,k2,q2⟩) (0,0) _ rfl (Be (BF HZ5.out (.int .i64 op2) (.int .i64 d2) (.int .i64 s2) (.int .i64 t2) (.int .i64 u2) (.int .i64 a2) (.int .u32 k2) (.int .i64 q2))) Tryz.underlying126 rfl (by kernel_rfl)) rfl ⟨?_,HA.out.b⟩;rw[hfin.out,show decide (e2=0)=false from decide_eq_false h2];rfl
end
end Go.Proofs.YtjjpiefgdggghaaGreatDoor
