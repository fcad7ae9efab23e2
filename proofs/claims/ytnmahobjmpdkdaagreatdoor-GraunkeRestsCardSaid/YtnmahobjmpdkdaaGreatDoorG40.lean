/- Parts: Trace, ServP, LawKit. -/
import Derived.Test.YtnmahobjmpdkdaaGreatDoorG37
import Derived.Test.YtnmahobjmpdkdaaGreatDoorG31
import Derived.Test.YtnmahobjmpdkdaaGreatDoorG34
import Derived.Test.YtnmahobjmpdkdaaGreatDoorG35
import Derived.Test.YtnmahobjmpdkdaaGreatDoorG06
import Derived.Test.YtnmahobjmpdkdaaGreatDoorG39
import Derived.Test.YtnmahobjmpdkdaaGreatDoorG25
set_option linter.unusedVariables false
set_option linter.unusedSimpArgs false
set_option maxRecDepth 100000
set_option maxHeartbeats 40000000
namespace Go.Proofs.YtnmahobjmpdkdaaGreatDoor
section
open Go.RowKit Go.Proofs.YtnmahobjmpdkdaaGreatDoorW.PrintWords
theorem P4{r:AQ}{l:List (Int×Int×Int)}{k:Nat}(h:k<l.length):r.ops (l.take (k+1))=(r.ops (l.take k)).op (l.getD k (0,0,0)).1 (l.getD k (0,0,0)).2.1 (l.getD k (0,0,0)).2.2:=by
 rw[List.take_succ_eq_append_getElem h,List.getD_eq_getElem?_getD,List.getElem?_eq_getElem h];unfold AQ.ops;rw[List.foldl_append];rfl
structure Kq (pg:Pg) (ss is rs:List Nat) (n:Nat):Prop where
 h8:ss.length≤8
 hle:∀ s∈ss,s≤4096
 DD:ss.sum≤8192
 h1:1≤n
 h2:n≤64
 Jo:ss.sum=is.length
 OM:0<is.length
 Jg:rs.length=n
 R3:∀ v∈is,v<4294967296
 Uj:∀ v∈rs,v<4294967296
 pk:WA pg
 code:∀ i∈pg.l,Ib i
 no:∀ i∈pg.l,i.op≠22∧i.op≠23∧i.op≤23
 mks:Mo pg.l
theorem Kq.fit{pg:Pg}{ss is rs:List Nat}{n:Nat}(h:Kq pg ss is rs n):DJ (AQ.new (AG.new pg ss is n 0 rs) n):=DJ.new h.h1 h.h2 h.code h.pk.l1 h.DD h.Jo h.Jg h.no h.mks
structure De (W:World) (vl vs vi vr:Value) (pg:Pg) (ss is rs:List Nat):Prop where
 l:Cg W vl pg.l.length (By pg.l)
 s:Cg W vs ss.length (ss.map fun s:Nat=>Value.int .i64 (s:Int))
 i:Cg W vi is.length (is.map fun v:Nat=>Value.int .u32 v)
 r:Cg W vr rs.length (rs.map fun v:Nat=>Value.int .u32 v)
theorem De.keep{W W1:World}{vl vs vi vr:Value}{pg:Pg}{ss is rs:List Nat}(h:De W vl vs vi vr pg ss is rs)(hb:Below W.heap.size W W1):De W1 vl vs vi vr pg ss is rs:=⟨h.l.keep hb,h.s.keep hb,h.i.keep hb,h.r.keep hb⟩
theorem De.beg{W:World}{vl vs vi vr:Value}{pg:Pg}{ss is rs:List Nat}{n:Nat}(h:De W vl vs vi vr pg ss is rs)(k:Kq pg ss is rs n) :
  Calls Tryz.prog 45 #[.agg #[vl,.int .i64 pg.lock,.int .i64 pg.unlock,vs,vi,.int .i64 0,vr],.int .i64 (n:Int)] W fun e W'=>∃ pr px vc vw vo pl vd,e=.returned (.pointer (some ⟨pr,0,none⟩))∧CZ W W' pr px vl vc vw vo pl vd (.slice none 0 0) (AQ.new (AG.new pg ss is n 0 rs) n) :=
 M6 W vl vs vi vr pg ss is rs n h.l h.s h.i h.r k.h8 k.hle k.DD k.h1 k.h2 k.OM (by have:=k.DD;have:=k.Jo;omega) (by have:=k.Jg;have:=k.h2;omega) k.R3 k.Uj
def EC.TR(v:EC)(t:Nat):EC :=
 if v.r.act.getD t 0=0∧v.left.getD t 0 > 0 then {v with left:=v.left.set t (v.left.getD t 0-1),r:=v.r.op 1 t 0}
 else if v.r.act.getD t 0=2 then {v with EV:=v.EV+1,r:=v.r.op 2 t 0}
 else {v with r:=v.r.op 3 t 0}
theorem EC.VG(v:EC)(t:Nat):v.EH t={v.TR t with busy:=(v.TR t).busy||decide ((v.TR t).r.act.getD t 0≠0)||decide ((v.TR t).left.getD t 0 > 0)}:=rfl
structure HG (v:EC) (n m:Nat):Prop where
 fit:DJ v.r
 act:v.r.act.length=n
 left:v.left.length=n
 l:v.r.l.length≤302*m
 EV:v.EV≤m
 lb:∀ t,v.left.getD t 0≤1000
theorem YG(n c t:Nat):(List.replicate n c).getD t 0≤c:=by
 rw[List.getD_eq_getElem?_getD,List.getElem?_replicate];split<;>simp
theorem HG.TR{v:EC}{n m:Nat}(h:HG v n m)(t:Nat):HG (v.TR t) n (m+1):=by
 have hg:=h.EV;have hl:=h.l;unfold EC.TR;split
 ·have s:=Gs v.r 1 t 0 h.fit.marks;have:=s.l;exact⟨h.fit.same s,s.act.trans h.act,by simpa using h.left,by dsimp only;omega,by dsimp only;omega,fun u=>by
   have h1:=h.lb u;have h2:=h.lb t;by_cases e:u=t
   ·subst e;by_cases hu:u<v.left.length
    ·show lf (v.left.set u (v.left.getD u 0-1)) u≤1000
     rw[Yf hu];omega
    ·show(v.left.set u (v.left.getD u 0-1)).getD u 0≤1000
     rw[List.getD_eq_getElem?_getD,List.getElem?_eq_none (by simp;omega)];simp
   ·show lf (v.left.set t (v.left.getD t 0-1)) u≤1000
    rw[VH e];exact h1⟩
 ·split
  ·have s:=Gs v.r 2 t 0 h.fit.marks;have:=s.l;exact⟨h.fit.same s,s.act.trans h.act,h.left,by dsimp only;omega,by dsimp only;omega,h.lb⟩
  ·have s:=Gs v.r 3 t 0 h.fit.marks;have:=s.l;exact⟨h.fit.same s,s.act.trans h.act,h.left,by dsimp only;omega,by dsimp only;omega,h.lb⟩
theorem HG.EH{v:EC}{n m:Nat}(h:HG v n m)(t:Nat):HG (v.EH t) n (m+1):=by
 have:=h.TR t;rw[EC.VG];exact⟨this.fit,this.act,this.left,this.l,this.EV,this.lb⟩
theorem EC.fold_succ(v:EC)(j:Nat):(List.range (j+1)).foldl EC.EH v=((List.range j).foldl EC.EH v).EH j:=by
 rw[List.range_succ,List.foldl_append];rfl
theorem EC.rounds_succ(n k:Nat)(v:EC):v.rounds n (k+1)=if (v.round n).busy=false∨(v.round n).r.bad=true then v.round n else (v.round n).rounds n k:=rfl
section
variable {w W W1:World} {pr px:Nat} {vl vc vw vr vd ve:Value} {pl:Option Addr} {r:AQ}
theorem CZ.far(h:CZ w W pr px vl vc vw vr pl vd ve r){gl j:Nat}{cs:Array Value}(hl:W.heap[gl]?=some (.cells cs 3 (0,0)))(hw:w.heap.size≤gl)(hne:¬L8 vd gl)(v:Value):CZ w (W.setCell ⟨gl,j,none⟩ v) pr px vl vc vw vr pl vd ve r:=by
 obtain⟨acc,hbx⟩:=h.x.bx;have far:∀ k,k≠gl→(W.setCell ⟨gl,j,none⟩ v).heap[k]?=W.heap[k]?:=fun k hk=>Below.heap_setCell W ⟨gl,j,none⟩ v k hk
 refine⟨⟨h.x.b.setCell (p:=⟨gl,j,none⟩) hw v,h.x.Ms,⟨acc,(far _ (CU hbx hl (by decide))).trans hbx⟩,h.x.code,Rs h.x.cells hl (by decide) j v,Rs h.x.words hl (by decide) j v,Rs h.x.AP hl (by decide) j v,h.x.ok,h.x.Wg⟩,
  h.Jh,(far _ (CU h.br hl (by decide))).trans h.br,Om h.act (fun k hk=>far k (fun e=>hne (by rw[←e];exact hk))),Rs h.l hl (by decide) j v⟩
theorem RV{N g n c k v:Nat}{L:List Nat}(h:Cc W N (.slice (some ⟨g,0,none⟩) n c) L)(hL:L.length=n)(hk:k<n):Cc (W.setCell ⟨g,k,none⟩ (.int .i64 (v:Int))) N (.slice (some ⟨g,0,none⟩) n c) (L.set k v):=by
 subst hL;have:=DF h k (by omega) (.int .i64 (v:Int));unfold Cc;simp only[List.length_set,List.map_set];exact this
theorem Gc{N g n c k:Nat}{L:List Nat}(h:Cc W N (.slice (some ⟨g,0,none⟩) n c) L)(hL:L.length=n)(hk:k<n) :
  N≤g∧(∃ cs,W.heap[g]?=some (.cells cs 3 (0,0)))∧W.cell? ⟨g,k,none⟩=some (.int .i64 ((L.getD k 0:Nat):Int)):=by
 subst hL;obtain⟨g',c',hv,_,hg,⟨cs,hcs,_⟩,hc⟩:=CO h (by omega);have e:g=g':=by injection hv with h1 _ _;injection h1 with h1;injection h1
 subst e;exact⟨hg,⟨cs,hcs⟩,hc k _ (by simp[List.getD_eq_getElem?_getD,List.getElem?_eq_getElem hk])⟩
theorem Cc.keep{N:Nat}{v:Value}{L:List Nat}(h:Cc W N v L)(hb:Below W.heap.size W W1):Cc W1 N v L:=Om h (fun k hk=>hb.block k (Ol h k hk))
end
def YW(v:Int):Bool:=decide (0≤v)&&decide (v<8)
def inB(p:Nat)(i:In):Bool :=
 (decide (i.op=1)||decide (i.op=2)||decide (i.op=3)||decide (i.op=4)||decide (i.op=5)||decide (i.op=6)||decide (i.op=7)||decide (i.op=8)||decide (i.op=9)||decide (i.op=10)||decide (i.op=11)||decide (i.op=12)||decide (i.op=13)||decide (16≤i.op)) &&
 (YW i.d&&YW i.s&&YW i.t&&YW i.u)&&(decide (0≤i.k)&&decide (i.k<4294967296))&&(decide (i.op≠5∧i.op≠6)||decide (i.k<32))&&(decide (i.op≠22)&&decide (i.op≠23)&&decide (i.op≤23))&&(decide (i.op≠12)||(decide (0≤i.k)&&decide (i.k<5)))&&AN i p
def XL(pg:Pg):Bool :=
 decide (0<pg.l.length)&&decide (pg.l.length≤64)&&decide (0≤pg.lock)&&decide (pg.lock<pg.l.length)&&decide (0≤pg.unlock)&&decide (pg.unlock<pg.l.length)&&pg.l.all (inB pg.l.length)
theorem NA{v:Int}(h:YW v=true):0≤v∧v<8:=by simpa [YW]using h
theorem Lb{p:Nat}{i:In}(h:inB p i=true):Ib i∧(i.op≠22∧i.op≠23∧i.op≤23)∧(i.op=12→0≤i.k∧i.k<5)∧AN i p=true∧i.wk:=by
 unfold inB at h;simp only[Bool.and_eq_true,Bool.or_eq_true,decide_eq_true_eq]at h;obtain⟨⟨⟨⟨⟨⟨h1,⟨⟨h2,h3⟩,h4⟩,h5⟩,h6,h7⟩,hsh⟩,⟨h8,h9⟩,h10⟩,h11⟩,h12⟩:=h;refine⟨⟨by omega,NA h2,NA h3,NA h4,NA h5,⟨h6,h7⟩,fun e=>by omega⟩,⟨h8,h9,h10⟩,fun e=>?_,h12,h6,by omega⟩;rcases h11 with h11 |h11
 ·exact absurd e h11
 ·exact h11
theorem Zi{pg:Pg}(h:XL pg=true):WA pg∧(∀ i∈pg.l,Ib i)∧(∀ i∈pg.l,i.op≠22∧i.op≠23∧i.op≤23)∧Mo pg.l:=by
 unfold XL at h;simp only[Bool.and_eq_true,decide_eq_true_eq]at h;obtain⟨⟨⟨⟨⟨⟨h1,h2⟩,h3⟩,h4⟩,h5⟩,h6⟩,h7⟩:=h;have hi:∀ i∈pg.l,inB pg.l.length i=true:=fun i hi=>List.all_eq_true.1 h7 i hi
 exact⟨⟨h1,h2,h3,h4,h5,h6,fun i hm=>(Lb (hi i hm)).2.2.2.2,fun i hm=>(Lb (hi i hm)).2.2.2.1⟩,fun i hm=>(Lb (hi i hm)).1,fun i hm=>(Lb (hi i hm)).2.1,fun i hm=>(Lb (hi i hm)).2.2.1⟩
theorem OU{pg:Pg}{ss is rs:List Nat}{n:Nat}(h:XL pg=true)(h8:ss.length≤8)(hle:∀ s∈ss,s≤4096)(DD:ss.sum≤8192)(h1:1≤n)(h2:n≤64)(Jo:ss.sum=is.length)(OM:0<is.length)(Jg:rs.length=n)(R3:∀ v∈is,v<4294967296)(Uj:∀ v∈rs,v<4294967296):Kq pg ss is rs n:=by
 obtain⟨a,b,c,d⟩:=Zi h;exact⟨h8,hle,DD,h1,h2,Jo,OM,Jg,R3,Uj,a,b,c,d⟩
theorem WB(f:Int→Value)(l:List Nat):(l.map fun v:Nat=>(v:Int)).map f=l.map fun v:Nat=>f v:=by rw[List.map_map];rfl
theorem HRow.nat{W:World}{v:Value}{t:TypeId}{f:Int→Value}{l:List Nat}(h:HRow W v t ((l.map fun v:Nat=>(v:Int)).map f)):Cg W v l.length (l.map fun v:Nat=>f v):=by
 have:=h.rdn;rw[List.length_map,WB]at this;exact this
def E8(l:List Nat):List Int:=l.map fun v:Nat=>(v:Int)
def SG(w:World)(pg:Pg)(ss is rs:List Nat)(e:Ending)(W:World):Prop :=
 ∃ (A B C D:Option Addr) (c k1 k2 k3:Nat),e=.returned (.tuple #[.agg #[.slice A pg.l.length c,.int .i64 pg.lock,.int .i64 pg.unlock,.slice B ss.length k1,.slice C is.length k2,.int .i64 0,.slice D rs.length k3],.int .i64 0]) ∧
  De W (.slice A pg.l.length c) (.slice B ss.length k1) (.slice C is.length k2) (.slice D rs.length k3) pg ss is rs∧Below w.heap.size w W
theorem SpecHas.nat{w W:World}{T:List UInt8}{pg:Pg}{ss is rs:List Int}{ssN isN rsN:List Nat}{e:Ending}(hpg:(B2 T).1=pg)(e1:ss=E8 ssN)(e2:is=E8 isN)(e3:rs=E8 rsN)(h:SpecHas w T ss is rs 0 e W):SG w pg ssN isN rsN e W:=by
 subst e1 e2 e3 hpg;obtain⟨va,vs,vi,vr,rfl,h0,h1,h2,h3,hb⟩:=h;have g0:=Cw.rd h0;have g1:=HRow.nat h1;have g2:=HRow.nat h2;have g3:=HRow.nat h3;obtain⟨A,c,rfl⟩:=g0.slice;obtain⟨B,k1,rfl⟩:=g1.slice;obtain⟨C,k2,rfl⟩:=g2.slice;obtain⟨D,k3,rfl⟩:=g3.slice;exact⟨A,B,C,D,c,k1,k2,k3,rfl,⟨g0,g1,g2,g3⟩,hb⟩
def H0(w:World)(e:Ending)(W:World):Prop :=
 ∃ (A B C D:Option Addr) (m c n1 n2 n3 k1 k2 k3:Nat) (l u:Int),e=.returned (.tuple #[.agg #[.slice A m c,.int .i64 l,.int .i64 u,.slice B n1 k1,.slice C n2 k2,.int .i64 0,.slice D n3 k3],.bool true])∧Below w.heap.size w W
theorem Ig.some{w W:World}{T:List UInt8}{ss is rs:List Int}{e:Ending}(h:Ig w T ss is rs 0 e W):H0 w e W:=by
 obtain⟨va,vs,vi,vr,rfl,h0,h1,h2,h3,hb⟩:=h;obtain⟨A,c,rfl⟩:=(BM.rd h0).slice;obtain⟨B,k1,rfl⟩:=h1.rdn.slice;obtain⟨C,k2,rfl⟩:=h2.rdn.slice;obtain⟨D,k3,rfl⟩:=h3.rdn.slice;exact⟨A,B,C,D,_,c,_,_,_,k1,k2,k3,_,_,rfl,hb⟩
theorem De.ref{W W1:World}{v vl vs vi vr:Value}{pg:Pg}{ss is rs:List Nat}(h:De W vl vs vi vr pg ss is rs)(hb:Below W.heap.size W W1)(hr:BM W1 W.heap.size v pg.l):De W1 v vs vi vr pg ss is rs:=⟨BM.rd hr,h.s.keep hb,h.i.keep hb,h.r.keep hb⟩
theorem wf_u8{n:Int}(h:(Lit.int .u8 n).wf=true):0≤n∧n<256:=by
 simp only[Lit.wf,Bool.and_eq_true,decide_eq_true_eq]at h;have h1:IntKind.u8.min=0:=by decide
 have h2:IntKind.u8.max=255:=by decide
 omega
theorem wf_u32{n:Int}(h:(Lit.int .u32 n).wf=true):0≤n∧n<4294967296:=by
 simp only[Lit.wf,Bool.and_eq_true,decide_eq_true_eq]at h;have h1:IntKind.u32.min=0:=by decide
 have h2:IntKind.u32.max=4294967295:=by decide
 omega
end
end Go.Proofs.YtnmahobjmpdkdaaGreatDoor
