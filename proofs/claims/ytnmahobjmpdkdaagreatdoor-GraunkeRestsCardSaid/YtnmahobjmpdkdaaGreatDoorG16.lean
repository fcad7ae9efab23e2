/- Parts: AsmWords, Src, RefAsmPlain, RefTextBox, RefTextA, RefTextC. -/
import Derived.Test.YtnmahobjmpdkdaaGreatDoorG02
import Derived.Test.YtnmahobjmpdkdaaGreatDoorG05
import Derived.Test.YtnmahobjmpdkdaaGreatDoorG03
import Derived.Test.YtnmahobjmpdkdaaGreatDoorG08
import Derived.Test.YtnmahobjmpdkdaaGreatDoorG07
import Derived.Test.YtnmahobjmpdkdaaGreatDoorG04
import Derived.Test.YtnmahobjmpdkdaaGreatDoorG15
import Derived.Deep.RegionHeld3
set_option linter.unusedVariables false
set_option linter.unusedSimpArgs false
set_option maxRecDepth 100000
set_option maxHeartbeats 40000000
namespace Go.Proofs.YtnmahobjmpdkdaaGreatDoor
section
open Go.RowKit Go.Proofs.YtnmahobjmpdkdaaGreatDoorW.PrintWords
theorem btm(l:List UInt8)(k:Nat):bt ⟨l.toArray⟩ (k:Int)=((l.getD k 0).toNat:Int):=by
 unfold bt;by_cases h:k<l.length
 ·rw[dif_pos (by simpa [ByteArray.size]using h)];simp[List.getD_eq_getElem?_getD,List.getElem?_eq_getElem h];rfl
 ·rw[dif_neg (by simpa [ByteArray.size]using h)];simp[List.getD_eq_getElem?_getD,List.getElem?_eq_none (Nat.le_of_not_lt h)]
theorem YX(l:List UInt8):((⟨l.toArray⟩:ByteArray).size:Int)=l.length:=by simp[ByteArray.size]
def Fy(l:List UInt8)(c:UInt8):List UInt8×Bool:=if l.getLast?=some c then (l.dropLast,true) else (l,false)
theorem wid{x:Int}(h0:-9223372036854775808≤x)(h1:x<9223372036854775808):wrap64 x=x:=by unfold wrap64;omega
theorem Zs(l:List UInt8)(c:UInt8)(hl:l.length≤1000000):Da.f ⟨l.toArray⟩ ⟨#[c]⟩=some (⟨(Fy l c).1.toArray⟩,(Fy l c).2):=by
 have h1:((⟨#[c]⟩:ByteArray).size:Int)=1:=rfl;unfold Da.f BP.f BG.f Fy;rw[YX,h1];by_cases hn:l=[]
 ·subst hn;rfl
 ·have hp:0<l.length:=List.length_pos_iff.2 hn;have e:wrap64 ((l.length:Int)-1)=(l.length:Int)-1:=wid (by omega) (by omega);have et:((l.length:Int)-1).toNat=l.length-1:=by omega
  rw[e,if_pos (by omega),if_pos (by omega),if_pos (by omega),et];have hs:(⟨l.toArray⟩:ByteArray).size=l.length:=by simp[ByteArray.size]
  have hx:((⟨l.toArray⟩:ByteArray).extract (l.length-1) (⟨l.toArray⟩:ByteArray).size).toList=[l.getLast hn]:=by
   rw[hs,Ea,toList_mk,List.drop_eq_getElem_cons (by omega),show l.length-1+1=l.length by omega,List.drop_length,List.getLast_eq_getElem];exact List.take_of_length_le (by simp;omega)
  have hy:(⟨#[c]⟩:ByteArray).toList=[c]:=toList_mk [c];rw[hx,hy,List.getLast?_eq_some_getLast hn];by_cases hc:l.getLast hn=c
  ·simp only[hc,Option.bind_some,beq_self_eq_true,if_true];rw[Ea,if_pos (show(0:Int)≤(l.length:Int)-1 by omega),if_pos (show(l.length:Int)-1≤(l.length:Int) by omega)];simp[List.dropLast_eq_take]
  ·have hc':¬some (l.getLast hn)=some c:=fun h=>hc (Option.some.inj h)
   have:([l.getLast hn]==[c])=false:=Bq (fun h=>hc (List.head_eq_of_cons_eq h));simp only[this,Option.bind_some,if_neg hc'];rfl
theorem E0(l:List UInt8)(c:UInt8)(hl:l.length≤1000000)(w:World):Calls Tryz.prog 77 #[.string ⟨l.toArray⟩,.string ⟨#[c]⟩] w fun e w' =>
  e=.returned (.tuple #[.string ⟨(Fy l c).1.toArray⟩,.bool (Fy l c).2])∧Below w.heap.size w w' :=
 (Da.calls _ _ _ _ w (Zs l c hl)).mono fun e w' h=>⟨h.1,h.2.below⟩
theorem Il:∀ (l:List UInt8),(32:UInt8)∈l→∃ a b,l=a++32::b∧(32:UInt8)∉b
 |c::l,h=>by
  by_cases h2:(32:UInt8)∈l
  ·obtain⟨a,b,e,hb⟩:=Il l h2;exact⟨c::a,b,by rw[e];rfl,hb⟩
  ·cases h with
   |head=>exact⟨[],l,rfl,h2⟩
   |tail _ h=>exact absurd h h2
theorem JS:∀ (a b:List UInt8),(32:UInt8)∉b→AR (a++32::b)=AR a++[b]
 |[],b,h=>by rw[List.nil_append,show AR (32::b)=[]::AR b by simp[AR],FC b h];rfl
 |c::a,b,h=>by
  have ih:=JS a b h;rw[List.cons_append,AR,AR];by_cases hc:c=32
  ·rw[if_pos hc,if_pos hc,ih];rfl
  ·rw[if_neg hc,if_neg hc,ih];cases hs:AR a with
   |nil=>exact absurd hs (EW a)
   |cons x xs=>rfl
theorem Hb{l:List UInt8}(h:(32:UInt8)∉l):CF l=l∧BR l=[]:=by
 have e:CF l=l:=by unfold CF;rw[FC l h];rfl
 exact⟨e,by unfold BR;rw[e,Nat.sub_self];rfl⟩
theorem Im{a b:List UInt8}(h:(32:UInt8)∉b):CF (a++32::b)=b∧BR (a++32::b)=a++[32]:=by
 have e:CF (a++32::b)=b:=by unfold CF;rw[JS a b h];simp[List.getLastD_eq_getLast?]
 refine⟨e,?_⟩;unfold BR;rw[e,show(a++32::b).length-b.length=(a++[32]).length by simp;omega,show a++32::b=(a++[32])++b by simp,List.take_left]
theorem MP(l:List UInt8):BR l++CF l=l:=by
 by_cases h:(32:UInt8)∈l
 ·obtain⟨a,b,rfl,hb⟩:=Il l h;rw[(Im hb).1,(Im hb).2];simp
 ·rw[(Hb h).1,(Hb h).2];rfl
theorem MU(l:List UInt8)(h:(32:UInt8)∉l)(hl:l.length≤1000000):∀ (j:Nat),j≤l.length→Aj.l0 (j+1) ⟨l.toArray⟩ 32 ((j:Int)-1)=some (-1)
 |0,_=>by rw[Aj.l0,if_neg (by omega)]
 |j+1,hj=>by
  have hne:¬((l.getD j 0).toNat:Int)=32:=fun e=>h (by
   have:l.getD j 0=32:=UInt8.toNat_inj.1 (by show(l.getD j 0).toNat=32;omega);rw[←this,List.getD_eq_getElem?_getD,List.getElem?_eq_getElem (by omega)];exact List.getElem_mem _)
  rw[Aj.l0,YX,show(((j+1:Nat):Int)-1)=(j:Int) by omega,btm,if_pos (by omega),if_pos (by omega),if_pos (by omega),if_neg hne,wid (by omega) (by omega)];exact MU l h hl j (by omega)
theorem MV(a b:List UInt8)(h:(32:UInt8)∉b)(hl:(a++32::b).length≤1000000):∀ (j:Nat),j≤b.length→Aj.l0 (j+1) ⟨(a++32::b).toArray⟩ 32 ((a.length+j:Nat):Int)=some (a.length:Int)
 |0,_=>by
  have e:(a++32::b).getD (a.length+0) 0=32:=by simp[List.getD_eq_getElem?_getD]
  have hz:(a++32::b).length=a.length+1+b.length:=by simp;omega
  rw[Aj.l0,YX,btm,e,if_pos (by omega),if_pos (by omega),if_pos (by omega)];rfl
 |j+1,hj=>by
  have hz:(a++32::b).length=a.length+1+b.length:=by simp;omega
  have e:(a++32::b).getD (a.length+(j+1)) 0=b.getD j 0:=by
   simp[List.getD_eq_getElem?_getD,List.getElem?_append_right (show a.length≤a.length+(j+1) by omega)]
  have hne:¬((b.getD j 0).toNat:Int)=32:=fun e=>h (by
   have:b.getD j 0=32:=UInt8.toNat_inj.1 (by show(b.getD j 0).toNat=32;omega);rw[←this,List.getD_eq_getElem?_getD,List.getElem?_eq_getElem (by omega)];exact List.getElem_mem _)
  rw[Aj.l0,YX,btm,e,if_pos (by omega),if_pos (by omega),if_pos (by omega),if_neg hne,wid (by omega) (by omega),show(((a.length+(j+1):Nat):Int)-1)=((a.length+j:Nat):Int) by omega];exact MV a b h hl j (by omega)
theorem Y0(l:List UInt8)(hl:l.length≤1000000):∃ k,Bn.f k ⟨l.toArray⟩ 32=some (((BR l).length:Int)-1):=by
 have e:wrap64 ((l.length:Int)-1)=(l.length:Int)-1:=wid (by omega) (by omega);by_cases h:(32:UInt8)∈l
 ·obtain⟨a,b,rfl,hb⟩:=Il l h;refine⟨b.length+1,?_⟩;have hk:=MV a b hb hl b.length (Nl _);have hz:((a++32::b).length:Int)-1=((a.length+b.length:Nat):Int):=by simp;omega
  unfold Bn.f Aj.f;rw[YX,e,hz,hk,(Im hb).2];simp
 ·refine⟨l.length+1,?_⟩;have hk:=MU l h hl l.length (Nl _);unfold Bn.f Aj.f;rw[YX,e,hk,(Hb h).2];rfl
theorem Qv(l:List UInt8)(hl:l.length≤1000000)(w:World):Calls Tryz.prog 95 #[.string ⟨l.toArray⟩,.int .u8 32] w fun e w' =>
  e=.returned (.int .i64 (((BR l).length:Int)-1))∧Below w.heap.size w w':=by
 obtain⟨k,hk⟩:=Y0 l hl;exact(Bn.calls k _ _ _ w hk).mono fun e w' h=>⟨h.1,h.2.below⟩
theorem R5:(Tryz.prog.info? 104).map (fun i=>(i.zero,i.size,i.bytes))=some (some (.agg In.zero.cs),8,64):=by kernel_rfl
theorem NI:(Tryz.prog.info? 9).map (fun i=>(i.zero,i.size,i.bytes))=some (some (.string ⟨#[]⟩),1,16):=by kernel_rfl
def By(l:List In):List Value:=(l.map fun i=>i.cs.toList).flatten
theorem JN(l:List In):(By l).length=l.length*8:=by
 induction l with
 |nil=>rfl
 |cons i l ih =>
  unfold By at ih ⊢;rw[List.map_cons,List.flatten_cons,List.length_append,ih,List.length_cons];have:i.cs.toList.length=8:=rfl;omega
theorem G7(l:List In)(i:In):By (l++[i])=By l++i.cs.toList:=by simp[By]
def Cw(W:World)(base:Nat)(v:Value)(xs:List In):Prop:=W.ownsRow base 104 8 v xs.length (By xs)
def E7(W:World)(base:Nat)(v:Value)(xs:List (List UInt8)):Prop:=W.ownsRow base 9 1 v xs.length (xs.map fun s=>Value.string ⟨s.toArray⟩)
theorem Cw.nil(W:World)(base:Nat):Cw W base (.slice none 0 0) []:=⟨rfl,.inl ⟨rfl,rfl⟩⟩
theorem E7.nil(W:World)(base:Nat):E7 W base (.slice none 0 0) []:=⟨rfl,.inl ⟨rfl,rfl⟩⟩
section
variable {ops:Array Oper} {rest:List Oper} {o:Oper} {a:Act} {Q:Exit→Act→World→Prop} {W:World}
theorem Yy(hgd:o.guard=none)(s x:Operand)(ho:o.op=.call {callee:=.builtin .append,args:=#[s,x],argTypes:=#[85,85]})
  (base g:Nat)(y:List UInt8)(v:Value)(xs:List (List UInt8))(hs:a.eval s=v)(hr:E7 W base v xs)(hx:a.eval x=.slice (some ⟨g,0,none⟩) 1 1)
  (hy:W.heap[g]?=some (.cells #[.string ⟨y.toArray⟩] 9 (0,0)))(hl:xs.length≤1000000)(hb:base≤W.heap.size)
  (h:∀ v' W1,E7 W1 base v' (xs++[y])→W.grownBy W1 v.ownBlock→(v'.ownBlock=v.ownBlock∨v'.ownBlock=some W.heap.size)→wpList Tryz.prog ops Q rest (a.put o.dst v') W1) :
  wpList Tryz.prog ops Q (o::rest) a W:=by
 obtain⟨i9,hi,hz0,hz1,hz2⟩:=info_parts NI;refine wpList_append_own_at _ hgd s x 85 ho base 9 i9 (.string ⟨#[]⟩) 1 16 Tryz.underlying85 hi hz0 hz1 hz2 rfl (by decide) v xs.length _ hs hr ⟨g,0,none⟩ 1 1 [.string ⟨y.toArray⟩] hx rfl ?_ ?_ ?_ ?_ hb ?_
 ·intro j u hj;rw[add_plain];exact(Bc hy j).trans (by simpa using hj)
 ·simp[Value.oneCell']
 ·simp[maxLen];omega
 ·omega
 ·intro v' W1 h1 h2 _ h4;refine h v' W1 ?_ h2 h4;unfold E7;rw[List.map_append,List.length_append];exact h1
end
structure DK (W:World) (base gx bm:Nat) (v0 v1 v2:Value) (x:Src):Prop where
 s:W.heap[gx]?=some (.cells #[v0,v1,v2,.map (some bm)] 97 (0,0))
 r0:Cw W base v0 x.l
 r1:E7 W base v1 x.names
 r2:Bo W base v2 x.rows
 m:FT W bm x.labels
 gb:base≤gx
 bb:base≤bm
end
section
open Go Go.Lib
def DL(s:List UInt8):In×List UInt8×Bool :=
 let r:=IF (BR s++[48])
 if r.2=true∧Ee r.1=true∧Cp (CF s)=true then (r.1,CF s,true) else
 let r:=IF s
 if r.2=false∨Ee r.1=true then (In.zero,[],false) else (r.1,[],true)
def Lq(L:List (List UInt8×Nat))(s:List UInt8):Bool:=L.any (fun p=>p.1==s)
def El(x:Src)(s:List UInt8)(n:Int):Src×Int :=
 if s.getLast?=some 58∧Cp s.dropLast=true then
  (if Lq x.labels s.dropLast=true then (x,2) else ({x with labels:=x.labels++[(s.dropLast,x.l.length)]},0))
 else if (DL s).2.2=false then (x,8)
 else if 64≤x.l.length then (x,9)
 else ({x with l:=x.l++[(DL s).1],names:=x.names++[(DL s).2.1],rows:=x.rows++[n]},0)
def FF:List (List UInt8)→Int→Src→Src×Int×Int
 |[],n,x=>(x,n,0)
 |s::ls,n,x=>if s.getLast?≠some 10 then (x,n+1,8) else
  if (El x s.dropLast (n+1)).2=0 then FF ls (n+1) (El x s.dropLast (n+1)).1 else (x,n+1,(El x s.dropLast (n+1)).2)
def Cy(L:List (List UInt8×Nat))(s:List UInt8)(n:Nat):Int :=
 match L.find? (fun p=>p.1==s&&decide (p.2<n)) with
 |some p=>(p.2:Int)
 |none => -1
def Hg(L:List (List UInt8×Nat))(n:Nat):List In→List (List UInt8)→List Int→List In ⊕ Int
 |i::l,s::names,r::rows =>
  if s=[] then (match Hg L n l names rows with |.inl k=>.inl (i::k) |.inr e=>.inr e)
  else if Cy L s n<0 then .inr r
  else match Hg L n l names rows with |.inl k=>.inl ({i with q:=Cy L s n}::k) |.inr e=>.inr e
 |_,_,_=>.inl []
def AH(t:List UInt8):Pg×Int×Int :=
 let r:=FF (Bm t) 0 Src.zero
 if r.2.2≠0 then (Pg.zero,r.2.1,r.2.2) else
 match Hg r.1.labels r.1.l.length r.1.l r.1.names r.1.rows with
 |.inr e=>(Pg.zero,e,10)
 |.inl k =>
  if Cy r.1.labels [108,111,99,107] r.1.l.length<0∨Cy r.1.labels [117,110,108,111,99,107] r.1.l.length<0 then (Pg.zero,0,10)
  else (⟨k,Cy r.1.labels [108,111,99,107] r.1.l.length,Cy r.1.labels [117,110,108,111,99,107] r.1.l.length⟩,0,0)
structure RL (x y:Src):Prop where
 l:y.l=x.l
 n:y.names=x.names
 r:y.rows=x.rows
 b:y.labels=x.labels.reverse
 u:(x.labels.map (·.1)).Nodup
end
section
open Go.RowKit Go.Proofs.YtnmahobjmpdkdaaGreatDoorW.PrintWords
abbrev RB(w W:World)(op d s t u a k q:Int):Prop:=Af (W.heap[w.heap.size]?=some (.cells (In.cs ⟨op,d,s,t,u,a,k,q⟩) 90 (0,0))∧Below w.heap.size w W)∧W.cell? ⟨w.heap.size,0,none⟩=some (.int .i64 op)∧W.cell? ⟨w.heap.size,1,none⟩=some (.int .i64 d)∧W.cell? ⟨w.heap.size,2,none⟩=some (.int .i64 s)∧W.cell? ⟨w.heap.size,3,none⟩=some (.int .i64 t)∧W.cell? ⟨w.heap.size,4,none⟩=some (.int .i64 u)∧W.cell? ⟨w.heap.size,5,none⟩=some (.int .i64 a)∧W.cell? ⟨w.heap.size,6,none⟩=some (.int .u32 k)∧W.cell? ⟨w.heap.size,7,none⟩=some (.int .i64 q)
theorem E2{w W:World}{op d s t u a k q:Int}(h:W.heap[w.heap.size]?=some (.cells (In.cs ⟨op,d,s,t,u,a,k,q⟩) 90 (0,0))∧Below w.heap.size w W):RB w W op d s t u a k q :=
 ⟨⟨h⟩,(Bc h.1 0).trans rfl,(Bc h.1 1).trans rfl,(Bc h.1 2).trans rfl,(Bc h.1 3).trans rfl,(Bc h.1 4).trans rfl,(Bc h.1 5).trans rfl,(Bc h.1 6).trans rfl,(Bc h.1 7).trans rfl⟩
theorem BD(w:World)(op d s t u a k q:Int):RB w (w.alloc (.cells (In.cs ⟨op,d,s,t,u,a,k,q⟩) 90)).drew op d s t u a k q :=
 E2 ⟨Be (Bv w (.cells (In.cs ⟨op,d,s,t,u,a,k,q⟩) 90)),Bd ((Below.refl w.heap.size w).alloc (Nl _) _)⟩
theorem Ad{w W W1:World}{op d s t u a k q:Int}(hb:Below W.heap.size W W1)(h:RB w W op d s t u a k q):RB w W1 op d s t u a k q:=E2 ⟨Bk hb h.1.out.1,h.1.out.2.trans (hb.mono h.1.out.2.size)⟩
theorem D4:(⟨#[32]⟩:ByteArray)=⟨[32].toArray⟩:=rfl
theorem BY{op d s t u a k q:Int}(hf:In.fits ⟨op,d,s,t,u,a,k,q⟩) :
  Af (∀ W,Calls Tryz.prog 105 #[.int .i64 k] W fun e w'=>e=.returned (.string ⟨(dec k).toArray⟩)∧Below W.heap.size W w')∧Af (∀ W,Calls Tryz.prog 105 #[.int .i64 a] W fun e w'=>e=.returned (.string ⟨(dec a).toArray⟩)∧Below W.heap.size W w') ∧
  IntKind.i64.wrap k=k∧(¬9223372036854775807<1+(dec k).length)∧(¬9223372036854775807<1+(dec a).length) ∧
  Af (0≤q→Af (∀ W,Calls Tryz.prog 105 #[.int .i64 q] W fun e w'=>e=.returned (.string ⟨(dec q).toArray⟩)∧Below W.heap.size W w')∧¬9223372036854775807<1+(dec q).length) ∧
  (dec d).length≤10∧(dec s).length≤10∧(dec t).length≤10∧(dec u).length≤10∧(dec k).length≤10∧(dec a).length≤10∧(dec q).length≤10:=by
 have hk:0≤k∧k≤4294967295:=hf.k;have l7:∀ {x:Int},x≤7→(dec x).length≤10:=fun h=>BB (Int.le_trans h (by decide))
 have lk:=BB hf.k.2;have la:=l7 hf.a.2;have lq:=BB (Int.le_trans hf.q.2 (show(1073741824:Int)≤4294967295 by decide));dsimp only at lk la lq;exact⟨⟨fun W=>Ca hf.k.1 hf.k.2 W⟩,⟨fun W=>Ca hf.a.1 (Int.le_trans hf.a.2 (by decide)) W⟩,by rw[IntKind.wrap_i64];omega,by omega,by omega,
  ⟨fun hq=>⟨⟨fun W=>Ca hq (Int.le_trans hf.q.2 (by decide)) W⟩,by omega⟩⟩,l7 hf.d.2,l7 hf.s.2,l7 hf.t.2,l7 hf.u.2,lk,la,lq⟩
theorem Aam(d s t u a k q:Int)(hf:In.fits ⟨1,d,s,t,u,a,k,q⟩)(w:World):Calls Tryz.prog 92 #[In.v ⟨1,d,s,t,u,a,k,q⟩] w fun e w'=>e=.returned (.string ⟨(Bz ⟨1,d,s,t,u,a,k,q⟩).toArray⟩)∧Below w.heap.size w w':=by
 have te:Bz ⟨1,d,s,t,u,a,k,q⟩=Ak 1++((32::114::dec d)++(32::dec k)):=by
  show Go.Lib.join (Ak 1::List.flatten [[114::dec d],[dec k]]) [32]=_
  simp[BH,Go.Lib.join_one]
 obtain⟨CK,CA,wk,lk,la,CQ,ld0,ls0,lt0,lu0,lk0,la0,lq0⟩:=BY hf;have CN:=Az (fun W=>AA 1 W);have Cd:=Az (fun W=>AU hf.d.1 (Int.le_trans hf.d.2 (by decide)) W);dsimp only at Cd;have ln0:(Ak 1).length=5:=by decide
 have b2:¬9223372036854775807<(((dec d).length+1+1)+(1+(dec k).length)):=by omega
 have bn:¬9223372036854775807<(Ak 1).length+(((dec d).length+1+1)+(1+(dec k).length)):=by omega
 clear lk0 lq0 ld0 ls0 lt0 lu0 la0 ln0;have hS:=BD w 1 d s t u a k q;replace hf:=Az hf;replace te:=Az te;unfold In.v;go_enter Tryz.func92,Tryz.ntmps92;go_wp2_with fail
 go_region_held3 (fun W=>RB w W 1 d s t u a k q) (first |exact hS |exact Ad hb (by assumption))
  (first
   |(go_at_call 105;(with_reducible refine(CK.out _).mono ?_);rintro e w' ⟨rfl,hb⟩)
   |(go_at_call 105;(with_reducible refine(CA.out _).mono ?_);rintro e w' ⟨rfl,hb⟩))
 obtain⟨HA,y0,y1,y2,y3,y4,y5,y6,y7⟩:=Ad (Below.refl _ _) (by assumption);by_cases hq:0≤q;obtain⟨CQ,lq⟩:=CQ.out hq;go_wp2_with fail
 refine(CQ.out _).mono ?_;rintro e w2 ⟨rfl,hb2⟩;obtain⟨HA,y0,y1,y2,y3,y4,y5,y6,y7⟩:=Ad hb2 ⟨HA,y0,y1,y2,y3,y4,y5,y6,y7⟩;go_wp2_with fail
 rotate_left;go_wp2_with fail
 rotate_left;all_goals (
  refine(CN.out _).mono ?_;rintro e w2 ⟨rfl,hb2⟩;obtain⟨HA,y0,y1,y2,y3,y4,y5,y6,y7⟩:=Ad hb2 ⟨HA,y0,y1,y2,y3,y4,y5,y6,y7⟩;go_wp2_with fail
  refine(Cd.out _).mono ?_;rintro e w2 ⟨rfl,hb2⟩;obtain⟨HA,y0,y1,y2,y3,y4,y5,y6,y7⟩:=Ad hb2 ⟨HA,y0,y1,y2,y3,y4,y5,y6,y7⟩;go_wp2_with fail
  go_wp2;go_ret;refine⟨BJ ?_,HA.out.2⟩;rw[te.out];simp[D4,BV])
theorem Aan(d s t u a k q:Int)(hf:In.fits ⟨2,d,s,t,u,a,k,q⟩)(w:World):Calls Tryz.prog 92 #[In.v ⟨2,d,s,t,u,a,k,q⟩] w fun e w'=>e=.returned (.string ⟨(Bz ⟨2,d,s,t,u,a,k,q⟩).toArray⟩)∧Below w.heap.size w w':=by
 have te:Bz ⟨2,d,s,t,u,a,k,q⟩=Ak 2++((32::114::dec d)++(32::114::dec s)):=by
  show Go.Lib.join (Ak 2::List.flatten [[114::dec d],[114::dec s]]) [32]=_
  simp[BH,Go.Lib.join_one]
 obtain⟨CK,CA,wk,lk,la,CQ,ld0,ls0,lt0,lu0,lk0,la0,lq0⟩:=BY hf;have CN:=Az (fun W=>AA 2 W);have Cd:=Az (fun W=>AU hf.d.1 (Int.le_trans hf.d.2 (by decide)) W);have Cs:=Az (fun W=>AU hf.s.1 (Int.le_trans hf.s.2 (by decide)) W);dsimp only at Cd Cs;have ln0:(Ak 2).length=4:=by decide
 have b2:¬9223372036854775807<(((dec d).length+1+1)+((dec s).length+1+1)):=by omega
 have bn:¬9223372036854775807<(Ak 2).length+(((dec d).length+1+1)+((dec s).length+1+1)):=by omega
 clear lk0 lq0 ld0 ls0 lt0 lu0 la0 ln0;have hS:=BD w 2 d s t u a k q;replace hf:=Az hf;replace te:=Az te;unfold In.v;go_enter Tryz.func92,Tryz.ntmps92;go_wp2_with fail
 go_region_held3 (fun W=>RB w W 2 d s t u a k q) (first |exact hS |exact Ad hb (by assumption))
  (first
   |(go_at_call 105;(with_reducible refine(CK.out _).mono ?_);rintro e w' ⟨rfl,hb⟩)
   |(go_at_call 105;(with_reducible refine(CA.out _).mono ?_);rintro e w' ⟨rfl,hb⟩))
 obtain⟨HA,y0,y1,y2,y3,y4,y5,y6,y7⟩:=Ad (Below.refl _ _) (by assumption);by_cases hq:0≤q;obtain⟨CQ,lq⟩:=CQ.out hq;go_wp2_with fail
 refine(CQ.out _).mono ?_;rintro e w2 ⟨rfl,hb2⟩;obtain⟨HA,y0,y1,y2,y3,y4,y5,y6,y7⟩:=Ad hb2 ⟨HA,y0,y1,y2,y3,y4,y5,y6,y7⟩;go_wp2_with fail
 rotate_left;go_wp2_with fail
 rotate_left;all_goals (
  refine(CN.out _).mono ?_;rintro e w2 ⟨rfl,hb2⟩;obtain⟨HA,y0,y1,y2,y3,y4,y5,y6,y7⟩:=Ad hb2 ⟨HA,y0,y1,y2,y3,y4,y5,y6,y7⟩;go_wp2_with fail
  have hT:=Ad (Bd (Below.refl _ _)) ⟨HA,y0,y1,y2,y3,y4,y5,y6,y7⟩;go_region_held3 (fun W=>RB w W 2 d s t u a k q) (first |exact hT |exact Ad hb (by assumption))
   (first
    |(go_at_call 106;(with_reducible refine(Cd.out _).mono ?_);rintro e w' ⟨rfl,hb⟩)
    |(go_at_call 106;(with_reducible refine(Cs.out _).mono ?_);rintro e w' ⟨rfl,hb⟩))
  obtain⟨HA,y0,y1,y2,y3,y4,y5,y6,y7⟩:=Ad (Below.refl _ _) (by assumption);go_wp2;go_ret;refine⟨BJ ?_,HA.out.2⟩;rw[te.out];simp[D4,BV])
theorem Aao(d s t u a k q:Int)(hf:In.fits ⟨3,d,s,t,u,a,k,q⟩)(w:World):Calls Tryz.prog 92 #[In.v ⟨3,d,s,t,u,a,k,q⟩] w fun e w'=>e=.returned (.string ⟨(Bz ⟨3,d,s,t,u,a,k,q⟩).toArray⟩)∧Below w.heap.size w w':=by
 have te:Bz ⟨3,d,s,t,u,a,k,q⟩=Ak 3++(((32::114::dec d)++(32::114::dec s))++(32::dec k)):=by
  show Go.Lib.join (Ak 3::List.flatten [[114::dec d],[114::dec s],[dec k]]) [32]=_
  simp[BH,Go.Lib.join_one]
 obtain⟨CK,CA,wk,lk,la,CQ,ld0,ls0,lt0,lu0,lk0,la0,lq0⟩:=BY hf;have CN:=Az (fun W=>AA 3 W);have Cd:=Az (fun W=>AU hf.d.1 (Int.le_trans hf.d.2 (by decide)) W);have Cs:=Az (fun W=>AU hf.s.1 (Int.le_trans hf.s.2 (by decide)) W);dsimp only at Cd Cs;have ln0:(Ak 3).length=4:=by decide
 have b2:¬9223372036854775807<(((dec d).length+1+1)+((dec s).length+1+1)):=by omega
 have b3:¬9223372036854775807<((((dec d).length+1+1)+((dec s).length+1+1))+(1+(dec k).length)):=by omega
 have bn:¬9223372036854775807<(Ak 3).length+((((dec d).length+1+1)+((dec s).length+1+1))+(1+(dec k).length)):=by omega
 clear lk0 lq0 ld0 ls0 lt0 lu0 la0 ln0;have hS:=BD w 3 d s t u a k q;replace hf:=Az hf;replace te:=Az te;unfold In.v;go_enter Tryz.func92,Tryz.ntmps92;go_wp2_with fail
 go_region_held3 (fun W=>RB w W 3 d s t u a k q) (first |exact hS |exact Ad hb (by assumption))
  (first
   |(go_at_call 105;(with_reducible refine(CK.out _).mono ?_);rintro e w' ⟨rfl,hb⟩)
   |(go_at_call 105;(with_reducible refine(CA.out _).mono ?_);rintro e w' ⟨rfl,hb⟩))
 obtain⟨HA,y0,y1,y2,y3,y4,y5,y6,y7⟩:=Ad (Below.refl _ _) (by assumption);by_cases hq:0≤q;obtain⟨CQ,lq⟩:=CQ.out hq;go_wp2_with fail
 refine(CQ.out _).mono ?_;rintro e w2 ⟨rfl,hb2⟩;obtain⟨HA,y0,y1,y2,y3,y4,y5,y6,y7⟩:=Ad hb2 ⟨HA,y0,y1,y2,y3,y4,y5,y6,y7⟩;go_wp2_with fail
 rotate_left;go_wp2_with fail
 rotate_left;all_goals (
  refine(CN.out _).mono ?_;rintro e w2 ⟨rfl,hb2⟩;obtain⟨HA,y0,y1,y2,y3,y4,y5,y6,y7⟩:=Ad hb2 ⟨HA,y0,y1,y2,y3,y4,y5,y6,y7⟩;go_wp2_with fail
  have hT:=Ad (Bd (Below.refl _ _)) ⟨HA,y0,y1,y2,y3,y4,y5,y6,y7⟩;go_region_held3 (fun W=>RB w W 3 d s t u a k q) (first |exact hT |exact Ad hb (by assumption))
   (first
    |(go_at_call 106;(with_reducible refine(Cd.out _).mono ?_);rintro e w' ⟨rfl,hb⟩)
    |(go_at_call 106;(with_reducible refine(Cs.out _).mono ?_);rintro e w' ⟨rfl,hb⟩))
  obtain⟨HA,y0,y1,y2,y3,y4,y5,y6,y7⟩:=Ad (Below.refl _ _) (by assumption);go_wp2;go_ret;refine⟨BJ ?_,HA.out.2⟩;rw[te.out];simp[D4,BV])
theorem Aap(d s t u a k q:Int)(hf:In.fits ⟨4,d,s,t,u,a,k,q⟩)(w:World):Calls Tryz.prog 92 #[In.v ⟨4,d,s,t,u,a,k,q⟩] w fun e w'=>e=.returned (.string ⟨(Bz ⟨4,d,s,t,u,a,k,q⟩).toArray⟩)∧Below w.heap.size w w':=by
 have te:Bz ⟨4,d,s,t,u,a,k,q⟩=Ak 4++(((32::114::dec d)++(32::114::dec s))++(32::dec k)):=by
  show Go.Lib.join (Ak 4::List.flatten [[114::dec d],[114::dec s],[dec k]]) [32]=_
  simp[BH,Go.Lib.join_one]
 obtain⟨CK,CA,wk,lk,la,CQ,ld0,ls0,lt0,lu0,lk0,la0,lq0⟩:=BY hf;have CN:=Az (fun W=>AA 4 W);have Cd:=Az (fun W=>AU hf.d.1 (Int.le_trans hf.d.2 (by decide)) W);have Cs:=Az (fun W=>AU hf.s.1 (Int.le_trans hf.s.2 (by decide)) W);dsimp only at Cd Cs;have ln0:(Ak 4).length=4:=by decide
 have b2:¬9223372036854775807<(((dec d).length+1+1)+((dec s).length+1+1)):=by omega
 have b3:¬9223372036854775807<((((dec d).length+1+1)+((dec s).length+1+1))+(1+(dec k).length)):=by omega
 have bn:¬9223372036854775807<(Ak 4).length+((((dec d).length+1+1)+((dec s).length+1+1))+(1+(dec k).length)):=by omega
 clear lk0 lq0 ld0 ls0 lt0 lu0 la0 ln0;have hS:=BD w 4 d s t u a k q;replace hf:=Az hf;replace te:=Az te;unfold In.v;go_enter Tryz.func92,Tryz.ntmps92;go_wp2_with fail
 go_region_held3 (fun W=>RB w W 4 d s t u a k q) (first |exact hS |exact Ad hb (by assumption))
  (first
   |(go_at_call 105;(with_reducible refine(CK.out _).mono ?_);rintro e w' ⟨rfl,hb⟩)
   |(go_at_call 105;(with_reducible refine(CA.out _).mono ?_);rintro e w' ⟨rfl,hb⟩))
 obtain⟨HA,y0,y1,y2,y3,y4,y5,y6,y7⟩:=Ad (Below.refl _ _) (by assumption);by_cases hq:0≤q;obtain⟨CQ,lq⟩:=CQ.out hq;go_wp2_with fail
 refine(CQ.out _).mono ?_;rintro e w2 ⟨rfl,hb2⟩;obtain⟨HA,y0,y1,y2,y3,y4,y5,y6,y7⟩:=Ad hb2 ⟨HA,y0,y1,y2,y3,y4,y5,y6,y7⟩;go_wp2_with fail
 rotate_left;go_wp2_with fail
 rotate_left;all_goals (
  refine(CN.out _).mono ?_;rintro e w2 ⟨rfl,hb2⟩;obtain⟨HA,y0,y1,y2,y3,y4,y5,y6,y7⟩:=Ad hb2 ⟨HA,y0,y1,y2,y3,y4,y5,y6,y7⟩;go_wp2_with fail
  have hT:=Ad (Bd (Below.refl _ _)) ⟨HA,y0,y1,y2,y3,y4,y5,y6,y7⟩;go_region_held3 (fun W=>RB w W 4 d s t u a k q) (first |exact hT |exact Ad hb (by assumption))
   (first
    |(go_at_call 106;(with_reducible refine(Cd.out _).mono ?_);rintro e w' ⟨rfl,hb⟩)
    |(go_at_call 106;(with_reducible refine(Cs.out _).mono ?_);rintro e w' ⟨rfl,hb⟩))
  obtain⟨HA,y0,y1,y2,y3,y4,y5,y6,y7⟩:=Ad (Below.refl _ _) (by assumption);go_wp2;go_ret;refine⟨BJ ?_,HA.out.2⟩;rw[te.out];simp[D4,BV])
theorem Aaq(d s t u a k q:Int)(hf:In.fits ⟨5,d,s,t,u,a,k,q⟩)(w:World):Calls Tryz.prog 92 #[In.v ⟨5,d,s,t,u,a,k,q⟩] w fun e w'=>e=.returned (.string ⟨(Bz ⟨5,d,s,t,u,a,k,q⟩).toArray⟩)∧Below w.heap.size w w':=by
 have te:Bz ⟨5,d,s,t,u,a,k,q⟩=Ak 5++(((32::114::dec d)++(32::114::dec s))++(32::dec k)):=by
  show Go.Lib.join (Ak 5::List.flatten [[114::dec d],[114::dec s],[dec k]]) [32]=_
  simp[BH,Go.Lib.join_one]
 obtain⟨CK,CA,wk,lk,la,CQ,ld0,ls0,lt0,lu0,lk0,la0,lq0⟩:=BY hf;have CN:=Az (fun W=>AA 5 W);have Cd:=Az (fun W=>AU hf.d.1 (Int.le_trans hf.d.2 (by decide)) W);have Cs:=Az (fun W=>AU hf.s.1 (Int.le_trans hf.s.2 (by decide)) W);dsimp only at Cd Cs;have ln0:(Ak 5).length=3:=by decide
 have b2:¬9223372036854775807<(((dec d).length+1+1)+((dec s).length+1+1)):=by omega
 have b3:¬9223372036854775807<((((dec d).length+1+1)+((dec s).length+1+1))+(1+(dec k).length)):=by omega
 have bn:¬9223372036854775807<(Ak 5).length+((((dec d).length+1+1)+((dec s).length+1+1))+(1+(dec k).length)):=by omega
 clear lk0 lq0 ld0 ls0 lt0 lu0 la0 ln0;have hS:=BD w 5 d s t u a k q;replace hf:=Az hf;replace te:=Az te;unfold In.v;go_enter Tryz.func92,Tryz.ntmps92;go_wp2_with fail
 go_region_held3 (fun W=>RB w W 5 d s t u a k q) (first |exact hS |exact Ad hb (by assumption))
  (first
   |(go_at_call 105;(with_reducible refine(CK.out _).mono ?_);rintro e w' ⟨rfl,hb⟩)
   |(go_at_call 105;(with_reducible refine(CA.out _).mono ?_);rintro e w' ⟨rfl,hb⟩))
 obtain⟨HA,y0,y1,y2,y3,y4,y5,y6,y7⟩:=Ad (Below.refl _ _) (by assumption);by_cases hq:0≤q;obtain⟨CQ,lq⟩:=CQ.out hq;go_wp2_with fail
 refine(CQ.out _).mono ?_;rintro e w2 ⟨rfl,hb2⟩;obtain⟨HA,y0,y1,y2,y3,y4,y5,y6,y7⟩:=Ad hb2 ⟨HA,y0,y1,y2,y3,y4,y5,y6,y7⟩;go_wp2_with fail
 rotate_left;go_wp2_with fail
 rotate_left;all_goals (
  refine(CN.out _).mono ?_;rintro e w2 ⟨rfl,hb2⟩;obtain⟨HA,y0,y1,y2,y3,y4,y5,y6,y7⟩:=Ad hb2 ⟨HA,y0,y1,y2,y3,y4,y5,y6,y7⟩;go_wp2_with fail
  have hT:=Ad (Bd (Below.refl _ _)) ⟨HA,y0,y1,y2,y3,y4,y5,y6,y7⟩;go_region_held3 (fun W=>RB w W 5 d s t u a k q) (first |exact hT |exact Ad hb (by assumption))
   (first
    |(go_at_call 106;(with_reducible refine(Cd.out _).mono ?_);rintro e w' ⟨rfl,hb⟩)
    |(go_at_call 106;(with_reducible refine(Cs.out _).mono ?_);rintro e w' ⟨rfl,hb⟩))
  obtain⟨HA,y0,y1,y2,y3,y4,y5,y6,y7⟩:=Ad (Below.refl _ _) (by assumption);go_wp2;go_ret;refine⟨BJ ?_,HA.out.2⟩;rw[te.out];simp[D4,BV])
theorem ZB(d s t u a k q:Int)(hf:In.fits ⟨11,d,s,t,u,a,k,q⟩)(w:World):Calls Tryz.prog 92 #[In.v ⟨11,d,s,t,u,a,k,q⟩] w fun e w'=>e=.returned (.string ⟨(Bz ⟨11,d,s,t,u,a,k,q⟩).toArray⟩)∧Below w.heap.size w w':=by
 have te:Bz ⟨11,d,s,t,u,a,k,q⟩=Ak 11++(32::114::dec d):=by
  show Go.Lib.join (Ak 11::List.flatten [[114::dec d]]) [32]=_
  simp[BH,Go.Lib.join_one]
 obtain⟨CK,CA,wk,lk,la,CQ,ld0,ls0,lt0,lu0,lk0,la0,lq0⟩:=BY hf;have CN:=Az (fun W=>AA 11 W);have Cd:=Az (fun W=>AU hf.d.1 (Int.le_trans hf.d.2 (by decide)) W);dsimp only at Cd;have ln0:(Ak 11).length=4:=by decide
 have bn:¬9223372036854775807<(Ak 11).length+((dec d).length+1+1):=by omega
 clear lk0 lq0 ld0 ls0 lt0 lu0 la0 ln0;have hS:=BD w 11 d s t u a k q;replace hf:=Az hf;replace te:=Az te;unfold In.v;go_enter Tryz.func92,Tryz.ntmps92;go_wp2_with fail
 go_region_held3 (fun W=>RB w W 11 d s t u a k q) (first |exact hS |exact Ad hb (by assumption))
  (first
   |(go_at_call 105;(with_reducible refine(CK.out _).mono ?_);rintro e w' ⟨rfl,hb⟩)
   |(go_at_call 105;(with_reducible refine(CA.out _).mono ?_);rintro e w' ⟨rfl,hb⟩))
 obtain⟨HA,y0,y1,y2,y3,y4,y5,y6,y7⟩:=Ad (Below.refl _ _) (by assumption);by_cases hq:0≤q;obtain⟨CQ,lq⟩:=CQ.out hq;go_wp2_with fail
 refine(CQ.out _).mono ?_;rintro e w2 ⟨rfl,hb2⟩;obtain⟨HA,y0,y1,y2,y3,y4,y5,y6,y7⟩:=Ad hb2 ⟨HA,y0,y1,y2,y3,y4,y5,y6,y7⟩;go_wp2_with fail
 rotate_left;go_wp2_with fail
 rotate_left;all_goals (
  refine(CN.out _).mono ?_;rintro e w2 ⟨rfl,hb2⟩;obtain⟨HA,y0,y1,y2,y3,y4,y5,y6,y7⟩:=Ad hb2 ⟨HA,y0,y1,y2,y3,y4,y5,y6,y7⟩;go_wp2_with fail
  refine(Cd.out _).mono ?_;rintro e w2 ⟨rfl,hb2⟩;obtain⟨HA,y0,y1,y2,y3,y4,y5,y6,y7⟩:=Ad hb2 ⟨HA,y0,y1,y2,y3,y4,y5,y6,y7⟩;go_wp2_with fail
  go_wp2;go_ret;refine⟨BJ ?_,HA.out.2⟩;rw[te.out];simp[D4,BV])
theorem ZC(d s t u a k q:Int)(hf:In.fits ⟨12,d,s,t,u,a,k,q⟩)(w:World):Calls Tryz.prog 92 #[In.v ⟨12,d,s,t,u,a,k,q⟩] w fun e w'=>e=.returned (.string ⟨(Bz ⟨12,d,s,t,u,a,k,q⟩).toArray⟩)∧Below w.heap.size w w':=by
 have te:Bz ⟨12,d,s,t,u,a,k,q⟩=Ak 12++(32::dec k):=by
  show Go.Lib.join (Ak 12::List.flatten [[dec k]]) [32]=_
  simp[BH,Go.Lib.join_one]
 obtain⟨CK,CA,wk,lk,la,CQ,ld0,ls0,lt0,lu0,lk0,la0,lq0⟩:=BY hf;have CN:=Az (fun W=>AA 12 W);have ln0:(Ak 12).length=4:=by decide
 have bn:¬9223372036854775807<(Ak 12).length+(1+(dec k).length):=by omega
 clear lk0 lq0 ld0 ls0 lt0 lu0 la0 ln0;have hS:=BD w 12 d s t u a k q;replace hf:=Az hf;replace te:=Az te;unfold In.v;go_enter Tryz.func92,Tryz.ntmps92;go_wp2_with fail
 go_region_held3 (fun W=>RB w W 12 d s t u a k q) (first |exact hS |exact Ad hb (by assumption))
  (first
   |(go_at_call 105;(with_reducible refine(CK.out _).mono ?_);rintro e w' ⟨rfl,hb⟩)
   |(go_at_call 105;(with_reducible refine(CA.out _).mono ?_);rintro e w' ⟨rfl,hb⟩))
 obtain⟨HA,y0,y1,y2,y3,y4,y5,y6,y7⟩:=Ad (Below.refl _ _) (by assumption);by_cases hq:0≤q;obtain⟨CQ,lq⟩:=CQ.out hq;go_wp2_with fail
 refine(CQ.out _).mono ?_;rintro e w2 ⟨rfl,hb2⟩;obtain⟨HA,y0,y1,y2,y3,y4,y5,y6,y7⟩:=Ad hb2 ⟨HA,y0,y1,y2,y3,y4,y5,y6,y7⟩;go_wp2_with fail
 rotate_left;go_wp2_with fail
 rotate_left;all_goals (
  refine(CN.out _).mono ?_;rintro e w2 ⟨rfl,hb2⟩;obtain⟨HA,y0,y1,y2,y3,y4,y5,y6,y7⟩:=Ad hb2 ⟨HA,y0,y1,y2,y3,y4,y5,y6,y7⟩;go_wp2_with fail
  go_wp2;go_ret;refine⟨BJ ?_,HA.out.2⟩;rw[te.out];simp[D4,BV])
theorem ZD(d s t u a k q:Int)(hf:In.fits ⟨13,d,s,t,u,a,k,q⟩)(w:World):Calls Tryz.prog 92 #[In.v ⟨13,d,s,t,u,a,k,q⟩] w fun e w'=>e=.returned (.string ⟨(Bz ⟨13,d,s,t,u,a,k,q⟩).toArray⟩)∧Below w.heap.size w w':=by
 have te:Bz ⟨13,d,s,t,u,a,k,q⟩=Ak 13++(32::dec k):=by
  show Go.Lib.join (Ak 13::List.flatten [[dec k]]) [32]=_
  simp[BH,Go.Lib.join_one]
 obtain⟨CK,CA,wk,lk,la,CQ,ld0,ls0,lt0,lu0,lk0,la0,lq0⟩:=BY hf;have CN:=Az (fun W=>AA 13 W);have ln0:(Ak 13).length=4:=by decide
 have bn:¬9223372036854775807<(Ak 13).length+(1+(dec k).length):=by omega
 clear lk0 lq0 ld0 ls0 lt0 lu0 la0 ln0;have hS:=BD w 13 d s t u a k q;replace hf:=Az hf;replace te:=Az te;unfold In.v;go_enter Tryz.func92,Tryz.ntmps92;go_wp2_with fail
 go_region_held3 (fun W=>RB w W 13 d s t u a k q) (first |exact hS |exact Ad hb (by assumption))
  (first
   |(go_at_call 105;(with_reducible refine(CK.out _).mono ?_);rintro e w' ⟨rfl,hb⟩)
   |(go_at_call 105;(with_reducible refine(CA.out _).mono ?_);rintro e w' ⟨rfl,hb⟩))
 obtain⟨HA,y0,y1,y2,y3,y4,y5,y6,y7⟩:=Ad (Below.refl _ _) (by assumption);by_cases hq:0≤q;obtain⟨CQ,lq⟩:=CQ.out hq;go_wp2_with fail
 refine(CQ.out _).mono ?_;rintro e w2 ⟨rfl,hb2⟩;obtain⟨HA,y0,y1,y2,y3,y4,y5,y6,y7⟩:=Ad hb2 ⟨HA,y0,y1,y2,y3,y4,y5,y6,y7⟩;go_wp2_with fail
 rotate_left;go_wp2_with fail
 rotate_left;all_goals (
  refine(CN.out _).mono ?_;rintro e w2 ⟨rfl,hb2⟩;obtain⟨HA,y0,y1,y2,y3,y4,y5,y6,y7⟩:=Ad hb2 ⟨HA,y0,y1,y2,y3,y4,y5,y6,y7⟩;go_wp2_with fail
  go_wp2;go_ret;refine⟨BJ ?_,HA.out.2⟩;rw[te.out];simp[D4,BV])
theorem ZE(d s t u a k q:Int)(hf:In.fits ⟨16,d,s,t,u,a,k,q⟩)(w:World):Calls Tryz.prog 92 #[In.v ⟨16,d,s,t,u,a,k,q⟩] w fun e w'=>e=.returned (.string ⟨(Bz ⟨16,d,s,t,u,a,k,q⟩).toArray⟩)∧Below w.heap.size w w':=by
 have te:Bz ⟨16,d,s,t,u,a,k,q⟩=Ak 16++(((32::114::dec d)++(32::dec a))++(32::114::dec s)):=by
  show Go.Lib.join (Ak 16::List.flatten [[114::dec d],[dec a],[114::dec s]]) [32]=_
  simp[BH,Go.Lib.join_one]
 obtain⟨CK,CA,wk,lk,la,CQ,ld0,ls0,lt0,lu0,lk0,la0,lq0⟩:=BY hf;have CN:=Az (fun W=>AA 16 W);have Cd:=Az (fun W=>AU hf.d.1 (Int.le_trans hf.d.2 (by decide)) W);have Cs:=Az (fun W=>AU hf.s.1 (Int.le_trans hf.s.2 (by decide)) W);dsimp only at Cd Cs;have ln0:(Ak 16).length=4:=by decide
 have b2:¬9223372036854775807<(((dec d).length+1+1)+(1+(dec a).length)):=by omega
 have b3:¬9223372036854775807<((((dec d).length+1+1)+(1+(dec a).length))+((dec s).length+1+1)):=by omega
 have bn:¬9223372036854775807<(Ak 16).length+((((dec d).length+1+1)+(1+(dec a).length))+((dec s).length+1+1)):=by omega
 clear lk0 lq0 ld0 ls0 lt0 lu0 la0 ln0;have hS:=BD w 16 d s t u a k q;replace hf:=Az hf;replace te:=Az te;unfold In.v;go_enter Tryz.func92,Tryz.ntmps92;go_wp2_with fail
 go_region_held3 (fun W=>RB w W 16 d s t u a k q) (first |exact hS |exact Ad hb (by assumption))
  (first
   |(go_at_call 105;(with_reducible refine(CK.out _).mono ?_);rintro e w' ⟨rfl,hb⟩)
   |(go_at_call 105;(with_reducible refine(CA.out _).mono ?_);rintro e w' ⟨rfl,hb⟩))
 obtain⟨HA,y0,y1,y2,y3,y4,y5,y6,y7⟩:=Ad (Below.refl _ _) (by assumption);by_cases hq:0≤q;obtain⟨CQ,lq⟩:=CQ.out hq;go_wp2_with fail
 refine(CQ.out _).mono ?_;rintro e w2 ⟨rfl,hb2⟩;obtain⟨HA,y0,y1,y2,y3,y4,y5,y6,y7⟩:=Ad hb2 ⟨HA,y0,y1,y2,y3,y4,y5,y6,y7⟩;go_wp2_with fail
 rotate_left;go_wp2_with fail
 rotate_left;all_goals (
  refine(CN.out _).mono ?_;rintro e w2 ⟨rfl,hb2⟩;obtain⟨HA,y0,y1,y2,y3,y4,y5,y6,y7⟩:=Ad hb2 ⟨HA,y0,y1,y2,y3,y4,y5,y6,y7⟩;go_wp2_with fail
  have hT:=Ad (Bd (Below.refl _ _)) ⟨HA,y0,y1,y2,y3,y4,y5,y6,y7⟩;go_region_held3 (fun W=>RB w W 16 d s t u a k q) (first |exact hT |exact Ad hb (by assumption))
   (first
    |(go_at_call 106;(with_reducible refine(Cd.out _).mono ?_);rintro e w' ⟨rfl,hb⟩)
    |(go_at_call 106;(with_reducible refine(Cs.out _).mono ?_);rintro e w' ⟨rfl,hb⟩))
  obtain⟨HA,y0,y1,y2,y3,y4,y5,y6,y7⟩:=Ad (Below.refl _ _) (by assumption);go_wp2;go_ret;refine⟨BJ ?_,HA.out.2⟩;rw[te.out];simp[D4,BV])
theorem ZF(d s t u a k q:Int)(hf:In.fits ⟨17,d,s,t,u,a,k,q⟩)(w:World):Calls Tryz.prog 92 #[In.v ⟨17,d,s,t,u,a,k,q⟩] w fun e w'=>e=.returned (.string ⟨(Bz ⟨17,d,s,t,u,a,k,q⟩).toArray⟩)∧Below w.heap.size w w':=by
 have te:Bz ⟨17,d,s,t,u,a,k,q⟩=Ak 17++(((32::dec a)++(32::114::dec s))++(32::114::dec t)):=by
  show Go.Lib.join (Ak 17::List.flatten [[dec a],[114::dec s],[114::dec t]]) [32]=_
  simp[BH,Go.Lib.join_one]
 obtain⟨CK,CA,wk,lk,la,CQ,ld0,ls0,lt0,lu0,lk0,la0,lq0⟩:=BY hf;have CN:=Az (fun W=>AA 17 W);have Cs:=Az (fun W=>AU hf.s.1 (Int.le_trans hf.s.2 (by decide)) W);have Ct:=Az (fun W=>AU hf.t.1 (Int.le_trans hf.t.2 (by decide)) W);dsimp only at Cs Ct;have ln0:(Ak 17).length=5:=by decide
 have b2:¬9223372036854775807<((1+(dec a).length)+((dec s).length+1+1)):=by omega
 have b3:¬9223372036854775807<(((1+(dec a).length)+((dec s).length+1+1))+((dec t).length+1+1)):=by omega
 have bn:¬9223372036854775807<(Ak 17).length+(((1+(dec a).length)+((dec s).length+1+1))+((dec t).length+1+1)):=by omega
 clear lk0 lq0 ld0 ls0 lt0 lu0 la0 ln0;have hS:=BD w 17 d s t u a k q;replace hf:=Az hf;replace te:=Az te;unfold In.v;go_enter Tryz.func92,Tryz.ntmps92;go_wp2_with fail
 go_region_held3 (fun W=>RB w W 17 d s t u a k q) (first |exact hS |exact Ad hb (by assumption))
  (first
   |(go_at_call 105;(with_reducible refine(CK.out _).mono ?_);rintro e w' ⟨rfl,hb⟩)
   |(go_at_call 105;(with_reducible refine(CA.out _).mono ?_);rintro e w' ⟨rfl,hb⟩))
 obtain⟨HA,y0,y1,y2,y3,y4,y5,y6,y7⟩:=Ad (Below.refl _ _) (by assumption);by_cases hq:0≤q;obtain⟨CQ,lq⟩:=CQ.out hq;go_wp2_with fail
 refine(CQ.out _).mono ?_;rintro e w2 ⟨rfl,hb2⟩;obtain⟨HA,y0,y1,y2,y3,y4,y5,y6,y7⟩:=Ad hb2 ⟨HA,y0,y1,y2,y3,y4,y5,y6,y7⟩;go_wp2_with fail
 rotate_left;go_wp2_with fail
 rotate_left;all_goals (
  refine(CN.out _).mono ?_;rintro e w2 ⟨rfl,hb2⟩;obtain⟨HA,y0,y1,y2,y3,y4,y5,y6,y7⟩:=Ad hb2 ⟨HA,y0,y1,y2,y3,y4,y5,y6,y7⟩;go_wp2_with fail
  have hT:=Ad (Bd (Below.refl _ _)) ⟨HA,y0,y1,y2,y3,y4,y5,y6,y7⟩;go_region_held3 (fun W=>RB w W 17 d s t u a k q) (first |exact hT |exact Ad hb (by assumption))
   (first
    |(go_at_call 106;(with_reducible refine(Cs.out _).mono ?_);rintro e w' ⟨rfl,hb⟩)
    |(go_at_call 106;(with_reducible refine(Ct.out _).mono ?_);rintro e w' ⟨rfl,hb⟩))
  obtain⟨HA,y0,y1,y2,y3,y4,y5,y6,y7⟩:=Ad (Below.refl _ _) (by assumption);go_wp2;go_ret;refine⟨BJ ?_,HA.out.2⟩;rw[te.out];simp[D4,BV])
end
end Go.Proofs.YtnmahobjmpdkdaaGreatDoor
