/- Parts: Src, EqInst, RefAsmPlain, Digits, RefTextBox. -/
import Derived.Test.YtjjpiefgdggghaaGreatDoorA06
import Derived.Test.YtjjpiefgdggghaaGreatDoorA07
import Derived.Test.YtjjpiefgdggghaaGreatDoorA10
import Derived.Test.YtjjpiefgdggghaaGreatDoorA12
import Derived.Test.YtjjpiefgdggghaaGreatDoorA03
import Derived.Test.YtjjpiefgdggghaaGreatDoorA04
import Derived.Test.YtjjpiefgdggghaaGreatDoorA17
import Derived.Deep.RegionHeld3
set_option linter.unusedVariables false
set_option linter.unusedSimpArgs false
set_option maxRecDepth 100000
set_option maxHeartbeats 40000000
namespace Go.Proofs.YtjjpiefgdggghaaGreatDoor
section
open Go.RowKit Go.Proofs.YtjjpiefgdggghaaGreatDoorW.PrintWords
theorem OF:(Tryz.prog.info? 126).map (fun i=>(i.zero,i.size,i.bytes))=some (some (.agg In.zero.cs),8,64):=by kernel_rfl
theorem L3:(Tryz.prog.info? 9).map (fun i=>(i.zero,i.size,i.bytes))=some (some (.string ⟨#[]⟩),1,16):=by kernel_rfl
def AQ(l:List In):List Value:=(l.map fun i=>i.cs.toList).flatten
theorem IA(l:List In):(AQ l).length=l.length*8:=by
 induction l with
 |nil=>rfl
 |cons i l ih =>
  unfold AQ at ih ⊢;rw[List.map_cons,List.flatten_cons,List.length_append,ih,List.length_cons];have:i.cs.toList.length=8:=rfl;omega
theorem Fg(l:List In)(i:In):AQ (l++[i])=AQ l++i.cs.toList:=by simp[AQ]
def Cy(W:World)(base:Nat)(v:Value)(xs:List In):Prop:=W.ownsRow base 126 8 v xs.length (AQ xs)
def DQ(W:World)(base:Nat)(v:Value)(xs:List (List UInt8)):Prop:=W.ownsRow base 9 1 v xs.length (xs.map fun s=>Value.string ⟨s.toArray⟩)
theorem Cy.nil(W:World)(base:Nat):Cy W base (.slice none 0 0) []:=⟨rfl,.inl ⟨rfl,rfl⟩⟩
theorem DQ.nil(W:World)(base:Nat):DQ W base (.slice none 0 0) []:=⟨rfl,.inl ⟨rfl,rfl⟩⟩
section
variable {ops:Array Oper} {rest:List Oper} {o:Oper} {a:Act} {Q:Exit→Act→World→Prop} {W:World}
theorem Uh(hgd:o.guard=none)(s x:Operand)(ho:o.op=.call {callee:=.builtin .append,args:=#[s,x],argTypes:=#[108,108]})
  (base g:Nat)(y:List UInt8)(v:Value)(xs:List (List UInt8))(hs:a.eval s=v)(hr:DQ W base v xs)(hx:a.eval x=.slice (some ⟨g,0,none⟩) 1 1)
  (hy:W.heap[g]?=some (.cells #[.string ⟨y.toArray⟩] 9 (0,0)))(hl:xs.length≤1000000)(hb:base≤W.heap.size)
  (h:∀ v' W1,DQ W1 base v' (xs++[y])→W.grownBy W1 v.ownBlock→(v'.ownBlock=v.ownBlock∨v'.ownBlock=some W.heap.size)→wpList Tryz.prog ops Q rest (a.put o.dst v') W1) :
  wpList Tryz.prog ops Q (o::rest) a W:=by
 obtain⟨i9,hi,hz0,hz1,hz2⟩:=info_parts L3;refine wpList_append_own_at _ hgd s x 108 ho base 9 i9 (.string ⟨#[]⟩) 1 16 Tryz.underlying108 hi hz0 hz1 hz2 rfl (by decide) v xs.length _ hs hr ⟨g,0,none⟩ 1 1 [.string ⟨y.toArray⟩] hx rfl ?_ ?_ ?_ ?_ hb ?_
 ·intro j u hj;rw[add_plain];exact(Bc hy j).trans (by simpa using hj)
 ·simp[Value.oneCell']
 ·simp[maxLen];omega
 ·omega
 ·intro v' W1 h1 h2 _ h4;refine h v' W1 ?_ h2 h4;unfold DQ;rw[List.map_append,List.length_append];exact h1
end
structure Ds (W:World) (base gx bm:Nat) (v0 v1 v2:Value) (x:Src):Prop where
 s:W.heap[gx]?=some (.cells #[v0,v1,v2,.map (some bm)] 121 (0,0))
 r0:Cy W base v0 x.l
 r1:DQ W base v1 x.names
 r2:AS W base v2 x.rows
 m:ES W bm x.labels
 gb:base≤gx
 bb:base≤bm
theorem TW(d:Nat)(w:World)(x0 x1 x2 x3 x4 x5 x6 x7 y0 y1 y2 y3 y4 y5 y6 y7:Int) :
  (Op.equalIn (d+2) 114 (.agg #[.int .i64 x0,.int .i64 x1,.int .i64 x2,.int .i64 x3,.int .i64 x4,.int .i64 x5,.int .u32 x6,.int .i64 x7]) (.agg #[.int .i64 y0,.int .i64 y1,.int .i64 y2,.int .i64 y3,.int .i64 y4,.int .i64 y5,.int .u32 y6,.int .i64 y7])).run Tryz.prog w=.ok (x0==y0&&(x1==y1&&(x2==y2&&(x3==y3&&(x4==y4&&(x5==y5&&(x6==y6&&(x7==y7)))))))) w:=by
 refine U0 Tryz.underlying114 (by kernel_rfl) ?_;refine Ey (by rfl) (by go_simp;rfl) (by go_simp;rfl) (by go_simp) ?_;refine Ey (by rfl) (by go_simp;rfl) (by go_simp;rfl) (by go_simp) ?_;refine Ey (by rfl) (by go_simp;rfl) (by go_simp;rfl) (by go_simp) ?_;refine Ey (by rfl) (by go_simp;rfl) (by go_simp;rfl) (by go_simp) ?_;refine Ey (by rfl) (by go_simp;rfl) (by go_simp;rfl) (by go_simp) ?_;refine Ey (by rfl) (by go_simp;rfl) (by go_simp;rfl) (by go_simp) ?_;refine Ey (by rfl) (by go_simp;rfl) (by go_simp;rfl) (by go_simp) ?_;exact Rq (by rfl) (by go_simp;rfl) (by go_simp;rfl) (by go_simp)
theorem D0(x y:In)(w:World):(binOp .eql 114 x.v y.v).run Tryz.prog w=.ok (.bool (decide (x=y))) w:=by
 have h:=TW 9998 w x.op x.d x.s x.t x.u x.a x.k x.q y.op y.d y.s y.t y.u y.a y.k y.q;have e:decide (x=y)=(x.op==y.op&&(x.d==y.d&&(x.s==y.s&&(x.t==y.t&&(x.u==y.u&&(x.a==y.a&&(x.k==y.k&&x.q==y.q))))))):=by
  cases x;cases y;rw[Bool.eq_iff_iff];simp
 rw[e];simp only[binOp,In.v];simp[Op.equal,Op.maxDepth,h]
end
section
open Go Go.Lib
def Dt(s:List UInt8):In×List UInt8×Bool :=
 let r:=Ht (BE s++[48])
 if r.2=true∧D8 r.1=true∧BY (Cq s)=true then (r.1,Cq s,true) else
 let r:=Ht s
 if r.2=false∨D8 r.1=true then (In.zero,[],false) else (r.1,[],true)
def Jl(L:List (List UInt8×Nat))(s:List UInt8):Bool:=L.any (fun p=>p.1==s)
def DA(x:Src)(s:List UInt8)(n:Int):Src×Int :=
 if s.getLast?=some 58∧BY s.dropLast=true then
  (if Jl x.labels s.dropLast=true then (x,2) else ({x with labels:=x.labels++[(s.dropLast,x.l.length)]},0))
 else if (Dt s).2.2=false then (x,8)
 else if 64≤x.l.length then (x,9)
 else ({x with l:=x.l++[(Dt s).1],names:=x.names++[(Dt s).2.1],rows:=x.rows++[n]},0)
def E8:List (List UInt8)→Int→Src→Src×Int×Int
 |[],n,x=>(x,n,0)
 |s::ls,n,x=>if s.getLast?≠some 10 then (x,n+1,8) else
  if (DA x s.dropLast (n+1)).2=0 then E8 ls (n+1) (DA x s.dropLast (n+1)).1 else (x,n+1,(DA x s.dropLast (n+1)).2)
def Cg(L:List (List UInt8×Nat))(s:List UInt8)(n:Nat):Int :=
 match L.find? (fun p=>p.1==s&&decide (p.2<n)) with
 |some p=>(p.2:Int)
 |none => -1
def Gb(L:List (List UInt8×Nat))(n:Nat):List In→List (List UInt8)→List Int→List In ⊕ Int
 |i::l,s::names,r::rows =>
  if s=[] then (match Gb L n l names rows with |.inl k=>.inl (i::k) |.inr e=>.inr e)
  else if Cg L s n<0 then .inr r
  else match Gb L n l names rows with |.inl k=>.inl ({i with q:=Cg L s n}::k) |.inr e=>.inr e
 |_,_,_=>.inl []
def Cx(t:List UInt8):Pg×Int×Int :=
 let r:=E8 (AP t) 0 Src.zero
 if r.2.2≠0 then (Pg.zero,r.2.1,r.2.2) else
 match Gb r.1.labels r.1.l.length r.1.l r.1.names r.1.rows with
 |.inr e=>(Pg.zero,e,10)
 |.inl k =>
  if Cg r.1.labels [108,111,99,107] r.1.l.length<0∨Cg r.1.labels [117,110,108,111,99,107] r.1.l.length<0 then (Pg.zero,0,10)
  else (⟨k,Cg r.1.labels [108,111,99,107] r.1.l.length,Cg r.1.labels [117,110,108,111,99,107] r.1.l.length⟩,0,0)
structure RL (x y:Src):Prop where
 l:y.l=x.l
 n:y.names=x.names
 r:y.rows=x.rows
 b:y.labels=x.labels.reverse
 u:(x.labels.map (·.1)).Nodup
end
section
open Go.RowKit Go.Proofs.YtjjpiefgdggghaaGreatDoorW.PrintWords
theorem L6{n:Nat}(h:n<10):strOfNums [(wrap64 (48+(n:Int)))%256]=⟨#[UInt8.ofNat (48+n)]⟩:=by
 have e:(wrap64 (48+(n:Int)))%256=((48+n:Nat):Int):=by unfold wrap64;omega
 rw[e];rfl
theorem MS:∀ (k n:Nat),n<10 ^ k→n≤4294967295→Aq.f (k+1) (n:Int)=some ⟨(Go.Lib.decDigits n).toArray⟩
 |0,n,h,_=>by
  have:n=0:=by omega
  subst this;rw[Go.Lib.decDigits_one (by omega)];unfold Aq.f;rw[if_pos (by omega)];exact congrArg some (L6 (n:=0) (by omega))
 |k+1,n,h,hn=>by
  unfold Aq.f;by_cases c:n<10
  ·rw[if_pos (by omega),Go.Lib.decDigits_one c];exact congrArg some (L6 c)
  ·rw[if_neg (by omega)];have e1:wrap64 (Int.tdiv (n:Int) 10)=((n/10:Nat):Int):=by
    rw[show Int.tdiv (n:Int) 10=((n/10:Nat):Int) from rfl];unfold wrap64;omega
   have e2:Int.tmod (n:Int) 10=((n%10:Nat):Int):=rfl;rw[e1,e2,MS k (n/10) (by rw[Nat.div_lt_iff_lt_mul (by omega)];rw[Nat.pow_succ]at h;exact h) (by omega)];simp only[Option.bind_some,L6 (Nat.mod_lt n (show 10 > 0 by omega))];have hl:=KA (n/10) (by omega);have ed:Go.Lib.decDigits n=Go.Lib.decDigits (n/10)++[UInt8.ofNat (48+n%10)]:=by
    rw[Go.Lib.decDigits,dif_neg c]
   rw[if_pos (by simp[ByteArray.size];omega),ed];exact congrArg some (B9 _ _)
theorem HH(n:Nat)(hn:n≤4294967295)(w:World):Calls Tryz.prog 49 #[.int .i64 n] w fun e w'=>e=.returned (.string ⟨(Go.Lib.decDigits n).toArray⟩)∧Below w.heap.size w w' :=
 Aq.calls 11 n _ w (MS 10 n (by omega) hn)
theorem BO{v:Int}(h0:0≤v)(h1:v≤4294967295)(w:World):Calls Tryz.prog 49 #[.int .i64 v] w fun e w'=>e=.returned (.string ⟨(dec v).toArray⟩)∧Below w.heap.size w w':=by
 have:=HH v.toNat (by omega) w;rw[show((v.toNat:Nat):Int)=v by omega]at this;exact this
theorem Bn{v:Int}(h1:v≤4294967295):(dec v).length≤10:=KA _ (by omega)
theorem AL{v:Int}(h0:0≤v)(h1:v≤4294967295)(w:World):Calls Tryz.prog 141 #[.int .i64 v] w fun e w'=>e=.returned (.string ⟨(32::114::dec v).toArray⟩)∧Below w.heap.size w w':=by
 have hl:=Bn h1;have hz:((⟨(dec v).toArray⟩:ByteArray)).size=(dec v).length:=by simp[ByteArray.size]
 have hb:¬9223372036854775807<2+(dec v).length:=by omega
 have C:=Az (fun W=>BO h0 h1 W);have ea:(⟨#[32,114]⟩:ByteArray)++⟨(dec v).toArray⟩=⟨(32::114::dec v).toArray⟩:=B9 [32,114] (dec v);go_enter Tryz.func141,Tryz.ntmps141;go_wp2_with fail
 refine(C.out _).mono ?_;rintro e w1 ⟨rfl,hb1⟩;go_wp2_with fail
 go_ret;exact⟨rfl,hb1⟩
abbrev RB(w W:World)(op d s t u a k q:Int):Prop:=Ag (W.heap[w.heap.size]?=some (.cells (In.cs ⟨op,d,s,t,u,a,k,q⟩) 114 (0,0))∧Below w.heap.size w W)∧W.cell? ⟨w.heap.size,0,none⟩=some (.int .i64 op)∧W.cell? ⟨w.heap.size,1,none⟩=some (.int .i64 d)∧W.cell? ⟨w.heap.size,2,none⟩=some (.int .i64 s)∧W.cell? ⟨w.heap.size,3,none⟩=some (.int .i64 t)∧W.cell? ⟨w.heap.size,4,none⟩=some (.int .i64 u)∧W.cell? ⟨w.heap.size,5,none⟩=some (.int .i64 a)∧W.cell? ⟨w.heap.size,6,none⟩=some (.int .u32 k)∧W.cell? ⟨w.heap.size,7,none⟩=some (.int .i64 q)
theorem DM{w W:World}{op d s t u a k q:Int}(h:W.heap[w.heap.size]?=some (.cells (In.cs ⟨op,d,s,t,u,a,k,q⟩) 114 (0,0))∧Below w.heap.size w W):RB w W op d s t u a k q :=
 ⟨⟨h⟩,(Bc h.1 0).trans rfl,(Bc h.1 1).trans rfl,(Bc h.1 2).trans rfl,(Bc h.1 3).trans rfl,(Bc h.1 4).trans rfl,(Bc h.1 5).trans rfl,(Bc h.1 6).trans rfl,(Bc h.1 7).trans rfl⟩
theorem Br(w:World)(op d s t u a k q:Int):RB w (w.alloc (.cells (In.cs ⟨op,d,s,t,u,a,k,q⟩) 114)).drew op d s t u a k q :=
 DM ⟨Be (Bv w (.cells (In.cs ⟨op,d,s,t,u,a,k,q⟩) 114)),Bd ((Below.refl w.heap.size w).alloc (Nl _) _)⟩
theorem Ad{w W W1:World}{op d s t u a k q:Int}(hb:Below W.heap.size W W1)(h:RB w W op d s t u a k q):RB w W1 op d s t u a k q:=DM ⟨Bk hb h.1.out.1,h.1.out.2.trans (hb.mono h.1.out.2.size)⟩
theorem Dd:(⟨#[32]⟩:ByteArray)=⟨[32].toArray⟩:=rfl
theorem BH{op d s t u a k q:Int}(hf:In.fits ⟨op,d,s,t,u,a,k,q⟩) :
  Ag (∀ W,Calls Tryz.prog 49 #[.int .i64 k] W fun e w'=>e=.returned (.string ⟨(dec k).toArray⟩)∧Below W.heap.size W w')∧Ag (∀ W,Calls Tryz.prog 49 #[.int .i64 a] W fun e w'=>e=.returned (.string ⟨(dec a).toArray⟩)∧Below W.heap.size W w') ∧
  IntKind.i64.wrap k=k∧(¬9223372036854775807<1+(dec k).length)∧(¬9223372036854775807<1+(dec a).length) ∧
  Ag (0≤q→Ag (∀ W,Calls Tryz.prog 49 #[.int .i64 q] W fun e w'=>e=.returned (.string ⟨(dec q).toArray⟩)∧Below W.heap.size W w')∧¬9223372036854775807<1+(dec q).length) ∧
  (dec d).length≤10∧(dec s).length≤10∧(dec t).length≤10∧(dec u).length≤10∧(dec k).length≤10∧(dec a).length≤10∧(dec q).length≤10:=by
 have hk:0≤k∧k≤4294967295:=hf.k;have l7:∀ {x:Int},x≤7→(dec x).length≤10:=fun h=>Bn (Int.le_trans h (by decide))
 have lk:=Bn hf.k.2;have la:=l7 hf.a.2;have lq:=Bn (Int.le_trans hf.q.2 (show(1073741824:Int)≤4294967295 by decide));dsimp only at lk la lq;exact⟨⟨fun W=>BO hf.k.1 hf.k.2 W⟩,⟨fun W=>BO hf.a.1 (Int.le_trans hf.a.2 (by decide)) W⟩,by rw[IntKind.wrap_i64];omega,by omega,by omega,
  ⟨fun hq=>⟨⟨fun W=>BO hq (Int.le_trans hf.q.2 (by decide)) W⟩,by omega⟩⟩,l7 hf.d.2,l7 hf.s.2,l7 hf.t.2,l7 hf.u.2,lk,la,lq⟩
end
end Go.Proofs.YtjjpiefgdggghaaGreatDoor
