/- Parts: AsmWords, Named, RefAsmPlain, RefRightD. -/
import Derived.Test.YtjjpiefgdggghaaGreatDoorK05
import Derived.Test.YtjjpiefgdggghaaGreatDoorK10
import Derived.Test.YtjjpiefgdggghaaGreatDoorK04
import Derived.Test.YtjjpiefgdggghaaGreatDoorK06
import Derived.Test.YtjjpiefgdggghaaGreatDoorK11
import Derived.Test.YtjjpiefgdggghaaGreatDoorK07
import Derived.Test.YtjjpiefgdggghaaGreatDoorK12
import Derived.Test.YtjjpiefgdggghaaGreatDoorK14
import Derived.RegionTactic
import Derived.BigRegion
import Derived.Deep.RegionHeld3
set_option linter.unusedVariables false
set_option linter.unusedSimpArgs false
set_option maxRecDepth 100000
set_option maxHeartbeats 40000000
namespace Go.Proofs.YtjjpiefgdggghaaGreatDoor
section
open Go.RowKit Go.Proofs.YtjjpiefgdggghaaGreatDoorW.PrintWords
theorem btm(l:List UInt8)(k:Nat):bt ⟨l.toArray⟩ (k:Int)=((l.getD k 0).toNat:Int):=by
 unfold bt;by_cases h:k<l.length
 ·rw[dif_pos (by simpa [ByteArray.size]using h)];simp[List.getD_eq_getElem?_getD,List.getElem?_eq_getElem h];rfl
 ·rw[dif_neg (by simpa [ByteArray.size]using h)];simp[List.getD_eq_getElem?_getD,List.getElem?_eq_none (Nat.le_of_not_lt h)]
theorem YX(l:List UInt8):((⟨l.toArray⟩:ByteArray).size:Int)=l.length:=by simp[ByteArray.size]
def Fy(l:List UInt8)(c:UInt8):List UInt8×Bool:=if l.getLast?=some c then (l.dropLast,true) else (l,false)
theorem wid{x:Int}(h0:-9223372036854775808≤x)(h1:x<9223372036854775808):wrap64 x=x:=by unfold wrap64;omega
theorem Zs(l:List UInt8)(c:UInt8)(hl:l.length≤1000000):Da.f ⟨l.toArray⟩ ⟨#[c]⟩=some (⟨(Fy l c).1.toArray⟩,(Fy l c).2):=by
 have h1:((⟨#[c]⟩:ByteArray).size:Int)=1:=rfl;unfold Da.f BP.f BG.f Fy;rw[YX,h1];by_cases hn:l=[]
 ·subst hn;rfl
 ·have hp:0<l.length:=List.length_pos_iff.2 hn;have e:wrap64 ((l.length:Int)-1)=(l.length:Int)-1:=wid (by omega) (by omega);have et:((l.length:Int)-1).toNat=l.length-1:=by omega
  rw[e,if_pos (by omega),if_pos (by omega),if_pos (by omega),et];have hs:(⟨l.toArray⟩:ByteArray).size=l.length:=by simp[ByteArray.size]
  have hx:((⟨l.toArray⟩:ByteArray).extract (l.length-1) (⟨l.toArray⟩:ByteArray).size).toList=[l.getLast hn]:=by
   rw[hs,Ea,toList_mk,List.drop_eq_getElem_cons (by omega),show l.length-1+1=l.length by omega,List.drop_length,List.getLast_eq_getElem];exact List.take_of_length_le (by simp;omega)
  have hy:(⟨#[c]⟩:ByteArray).toList=[c]:=toList_mk [c];rw[hx,hy,List.getLast?_eq_some_getLast hn];by_cases hc:l.getLast hn=c
  ·simp only[hc,Option.bind_some,beq_self_eq_true,if_true];rw[Ea,if_pos (show(0:Int)≤(l.length:Int)-1 by omega),if_pos (show(l.length:Int)-1≤(l.length:Int) by omega)];simp[List.dropLast_eq_take]
  ·have hc':¬some (l.getLast hn)=some c:=fun h=>hc (Option.some.inj h)
   have:([l.getLast hn]==[c])=false:=Bq (fun h=>hc (List.head_eq_of_cons_eq h));simp only[this,Option.bind_some,if_neg hc'];rfl
theorem E0(l:List UInt8)(c:UInt8)(hl:l.length≤1000000)(w:World):Calls Tryz.prog 96 #[.string ⟨l.toArray⟩,.string ⟨#[c]⟩] w fun e w' =>
  e=.returned (.tuple #[.string ⟨(Fy l c).1.toArray⟩,.bool (Fy l c).2])∧Below w.heap.size w w' :=
 (Da.calls _ _ _ _ w (Zs l c hl)).mono fun e w' h=>⟨h.1,h.2.below⟩
theorem Il:∀ (l:List UInt8),(32:UInt8)∈l→∃ a b,l=a++32::b∧(32:UInt8)∉b
 |c::l,h=>by
  by_cases h2:(32:UInt8)∈l
  ·obtain⟨a,b,e,hb⟩:=Il l h2;exact⟨c::a,b,by rw[e];rfl,hb⟩
  ·cases h with
   |head=>exact⟨[],l,rfl,h2⟩
   |tail _ h=>exact absurd h h2
theorem JS:∀ (a b:List UInt8),(32:UInt8)∉b→AR (a++32::b)=AR a++[b]
 |[],b,h=>by rw[List.nil_append,show AR (32::b)=[]::AR b by simp[AR],FC b h];rfl
 |c::a,b,h=>by
  have ih:=JS a b h;rw[List.cons_append,AR,AR];by_cases hc:c=32
  ·rw[if_pos hc,if_pos hc,ih];rfl
  ·rw[if_neg hc,if_neg hc,ih];cases hs:AR a with
   |nil=>exact absurd hs (EW a)
   |cons x xs=>rfl
theorem Hb{l:List UInt8}(h:(32:UInt8)∉l):CF l=l∧BR l=[]:=by
 have e:CF l=l:=by unfold CF;rw[FC l h];rfl
 exact⟨e,by unfold BR;rw[e,Nat.sub_self];rfl⟩
theorem Im{a b:List UInt8}(h:(32:UInt8)∉b):CF (a++32::b)=b∧BR (a++32::b)=a++[32]:=by
 have e:CF (a++32::b)=b:=by unfold CF;rw[JS a b h];simp[List.getLastD_eq_getLast?]
 refine⟨e,?_⟩;unfold BR;rw[e,show(a++32::b).length-b.length=(a++[32]).length by simp;omega,show a++32::b=(a++[32])++b by simp,List.take_left]
theorem MP(l:List UInt8):BR l++CF l=l:=by
 by_cases h:(32:UInt8)∈l
 ·obtain⟨a,b,rfl,hb⟩:=Il l h;rw[(Im hb).1,(Im hb).2];simp
 ·rw[(Hb h).1,(Hb h).2];rfl
theorem MU(l:List UInt8)(h:(32:UInt8)∉l)(hl:l.length≤1000000):∀ (j:Nat),j≤l.length→Aj.l0 (j+1) ⟨l.toArray⟩ 32 ((j:Int)-1)=some (-1)
 |0,_=>by rw[Aj.l0,if_neg (by omega)]
 |j+1,hj=>by
  have hne:¬((l.getD j 0).toNat:Int)=32:=fun e=>h (by
   have:l.getD j 0=32:=UInt8.toNat_inj.1 (by show(l.getD j 0).toNat=32;omega);rw[←this,List.getD_eq_getElem?_getD,List.getElem?_eq_getElem (by omega)];exact List.getElem_mem _)
  rw[Aj.l0,YX,show(((j+1:Nat):Int)-1)=(j:Int) by omega,btm,if_pos (by omega),if_pos (by omega),if_pos (by omega),if_neg hne,wid (by omega) (by omega)];exact MU l h hl j (by omega)
theorem MV(a b:List UInt8)(h:(32:UInt8)∉b)(hl:(a++32::b).length≤1000000):∀ (j:Nat),j≤b.length→Aj.l0 (j+1) ⟨(a++32::b).toArray⟩ 32 ((a.length+j:Nat):Int)=some (a.length:Int)
 |0,_=>by
  have e:(a++32::b).getD (a.length+0) 0=32:=by simp[List.getD_eq_getElem?_getD]
  have hz:(a++32::b).length=a.length+1+b.length:=by simp;omega
  rw[Aj.l0,YX,btm,e,if_pos (by omega),if_pos (by omega),if_pos (by omega)];rfl
 |j+1,hj=>by
  have hz:(a++32::b).length=a.length+1+b.length:=by simp;omega
  have e:(a++32::b).getD (a.length+(j+1)) 0=b.getD j 0:=by
   simp[List.getD_eq_getElem?_getD,List.getElem?_append_right (show a.length≤a.length+(j+1) by omega)]
  have hne:¬((b.getD j 0).toNat:Int)=32:=fun e=>h (by
   have:b.getD j 0=32:=UInt8.toNat_inj.1 (by show(b.getD j 0).toNat=32;omega);rw[←this,List.getD_eq_getElem?_getD,List.getElem?_eq_getElem (by omega)];exact List.getElem_mem _)
  rw[Aj.l0,YX,btm,e,if_pos (by omega),if_pos (by omega),if_pos (by omega),if_neg hne,wid (by omega) (by omega),show(((a.length+(j+1):Nat):Int)-1)=((a.length+j:Nat):Int) by omega];exact MV a b h hl j (by omega)
theorem Y0(l:List UInt8)(hl:l.length≤1000000):∃ k,Bn.f k ⟨l.toArray⟩ 32=some (((BR l).length:Int)-1):=by
 have e:wrap64 ((l.length:Int)-1)=(l.length:Int)-1:=wid (by omega) (by omega);by_cases h:(32:UInt8)∈l
 ·obtain⟨a,b,rfl,hb⟩:=Il l h;refine⟨b.length+1,?_⟩;have hk:=MV a b hb hl b.length (Nl _);have hz:((a++32::b).length:Int)-1=((a.length+b.length:Nat):Int):=by simp;omega
  unfold Bn.f Aj.f;rw[YX,e,hz,hk,(Im hb).2];simp
 ·refine⟨l.length+1,?_⟩;have hk:=MU l h hl l.length (Nl _);unfold Bn.f Aj.f;rw[YX,e,hk,(Hb h).2];rfl
theorem Qv(l:List UInt8)(hl:l.length≤1000000)(w:World):Calls Tryz.prog 121 #[.string ⟨l.toArray⟩,.int .u8 32] w fun e w' =>
  e=.returned (.int .i64 (((BR l).length:Int)-1))∧Below w.heap.size w w':=by
 obtain⟨k,hk⟩:=Y0 l hl;exact(Bn.calls k _ _ _ w hk).mono fun e w' h=>⟨h.1,h.2.below⟩
theorem PF(l:List UInt8)(w:World) :
  Calls Tryz.prog 146 #[.string ⟨l.toArray⟩] w fun e w'=>e=.returned (.int .i64 (Ju l))∧Below w.heap.size w w':=by
 generalize hf:Ju l=fin;have HF:=Az (show ID l 23 1=fin from hf);clear hf;go_enter Tryz.func146,Tryz.ntmps146;go_wp2;go_loopw [3] (fun v wr=>∃ n:Nat,v=.int .i64 (24-n)∧n≤23∧Af (ID l n (24-n)=fin)∧Af (Below w.heap.size w wr)) (fun v wr=>(24-(intOf v)).toNat)
 case atStart=>exact⟨23,rfl,Nl _,HF,⟨Below.refl _ _⟩⟩
 case round =>
  obtain⟨n,rfl,hn,hG,hB⟩:=hrel;cases n with
  |zero =>
   have hfin:(0:Int)=fin:=hG.out;replace hfin:=Az hfin;go_wp2;go_ret;exact⟨Sk hfin.out,hB.out⟩
  |succ n =>
   have hle:(24-((n+1:Nat):Int))≤23:=by omega
   have hz:=hB.out.size;have hst:fin=if Ak (24-((n+1:Nat):Int))=l∧l≠[] then (24-((n+1:Nat):Int)) else ID l n (24-((n+1:Nat):Int)+1):=hG.out.symm
   have hnx:(24-((n+1:Nat):Int)+1)=24-(n:Int):=by omega
   generalize hop:(24-((n+1:Nat):Int))=op at hle hst hnx ⊢;have hop':op≤23∧0≤op:=by omega
   replace hop:=Az hop;replace hnx:=Az hnx;obtain⟨ho1,ho2⟩:=hop';clear hG;replace hst:=Az hst;go_wp2_with fail
   refine(Hi _ _).mono ?_;rintro e w1 ⟨rfl,hb⟩;go_wp2_with fail
   ·have h1:Ak op=l:=by assumption
    have h2:(!l.isEmpty)=true:=by assumption
    go_ret;exact⟨Sk (hst.out.trans (if_pos ⟨h1,by intro e;rw[e]at h2;simp at h2⟩)).symm,((hB.out.trans (hb.mono hz)).alloc (Nat.le_trans hz hb.size) _)⟩
   ·have h1:Ak op=l:=by assumption
    have h2:(!l.isEmpty)=false:=by assumption
    exact⟨⟨n,by rw[hnx.out],by omega,⟨by rw[←hnx.out];exact(hst.out.trans (if_neg (fun h=>by rw[Bool.not_eq_false']at h2;exact h.2 (List.isEmpty_iff.1 h2)))).symm⟩,⟨((hB.out.trans (hb.mono hz)).alloc (Nat.le_trans hz hb.size) _)⟩⟩,by simp[intOf];omega⟩
   ·have h1:¬Ak op=l:=by assumption
    exact⟨⟨n,by rw[hnx.out],by omega,⟨by rw[←hnx.out];exact(hst.out.trans (if_neg (fun h=>h1 h.1))).symm⟩,⟨((hB.out.trans (hb.mono hz)).alloc (Nat.le_trans hz hb.size) _)⟩⟩,by simp[intOf];omega⟩
end
section
open Go Go.Lib
def DL(s:List UInt8):In×List UInt8×Bool :=
 let r:=IF (BR s++[48])
 if r.2=true∧Ee r.1=true∧Cp (CF s)=true then (r.1,CF s,true) else
 let r:=IF s
 if r.2=false∨Ee r.1=true then (In.zero,[],false) else (r.1,[],true)
def Lq(L:List (List UInt8×Nat))(s:List UInt8):Bool:=L.any (fun p=>p.1==s)
def El(x:Src)(s:List UInt8)(n:Int):Src×Int :=
 if s.getLast?=some 58∧Cp s.dropLast=true then
  (if Lq x.labels s.dropLast=true then (x,2) else ({x with labels:=x.labels++[(s.dropLast,x.l.length)]},0))
 else if (DL s).2.2=false then (x,8)
 else if 64≤x.l.length then (x,9)
 else ({x with l:=x.l++[(DL s).1],names:=x.names++[(DL s).2.1],rows:=x.rows++[n]},0)
def FF:List (List UInt8)→Int→Src→Src×Int×Int
 |[],n,x=>(x,n,0)
 |s::ls,n,x=>if s.getLast?≠some 10 then (x,n+1,8) else
  if (El x s.dropLast (n+1)).2=0 then FF ls (n+1) (El x s.dropLast (n+1)).1 else (x,n+1,(El x s.dropLast (n+1)).2)
def Cy(L:List (List UInt8×Nat))(s:List UInt8)(n:Nat):Int :=
 match L.find? (fun p=>p.1==s&&decide (p.2<n)) with
 |some p=>(p.2:Int)
 |none => -1
def Hg(L:List (List UInt8×Nat))(n:Nat):List In→List (List UInt8)→List Int→List In ⊕ Int
 |i::l,s::names,r::rows =>
  if s=[] then (match Hg L n l names rows with |.inl k=>.inl (i::k) |.inr e=>.inr e)
  else if Cy L s n<0 then .inr r
  else match Hg L n l names rows with |.inl k=>.inl ({i with q:=Cy L s n}::k) |.inr e=>.inr e
 |_,_,_=>.inl []
def AH(t:List UInt8):Pg×Int×Int :=
 let r:=FF (Bm t) 0 Src.zero
 if r.2.2≠0 then (Pg.zero,r.2.1,r.2.2) else
 match Hg r.1.labels r.1.l.length r.1.l r.1.names r.1.rows with
 |.inr e=>(Pg.zero,e,10)
 |.inl k =>
  if Cy r.1.labels [108,111,99,107] r.1.l.length<0∨Cy r.1.labels [117,110,108,111,99,107] r.1.l.length<0 then (Pg.zero,0,10)
  else (⟨k,Cy r.1.labels [108,111,99,107] r.1.l.length,Cy r.1.labels [117,110,108,111,99,107] r.1.l.length⟩,0,0)
structure RL (x y:Src):Prop where
 l:y.l=x.l
 n:y.names=x.names
 r:y.rows=x.rows
 b:y.labels=x.labels.reverse
 u:(x.labels.map (·.1)).Nodup
end
section
open Go.RowKit Go.Proofs.YtjjpiefgdggghaaGreatDoorW.PrintWords
theorem PD(d s t u a k q places:Int)(w:World)(hd:0≤d∧d≤7)(hs:0≤s∧s≤7)(ht:0≤t∧t≤7)(hu:0≤u∧u≤7)(ha:0≤a∧a≤7)(hk:0≤k∧k≤4294967295) :
  Calls Tryz.prog 69 #[.agg #[.int .i64 19,.int .i64 d,.int .i64 s,.int .i64 t,.int .i64 u,.int .i64 a,.int .u32 k,.int .i64 q],.int .i64 places] w fun e w'=>e=.returned (.bool (AN ⟨19,d,s,t,u,a,k,q⟩ places))∧Below w.heap.size w w':=by
 rw[Tc d s t u a k q places hd hs ht hu ha hk];have keq:∀ W,(binOp .eql 114 (.agg #[.int .i64 19,.int .i64 d,.int .i64 s,.int .i64 t,.int .i64 u,.int .i64 a,.int .u32 0,.int .i64 0]) (.agg #[.int .i64 19,.int .i64 d,.int .i64 s,.int .i64 t,.int .i64 u,.int .i64 a,.int .u32 k,.int .i64 q])).run Tryz.prog W=.ok (.bool (decide ((⟨19,d,s,t,u,a,0,0⟩:In)=⟨19,d,s,t,u,a,k,q⟩))) W:=fun W=>DQ ⟨19,d,s,t,u,a,0,0⟩ ⟨19,d,s,t,u,a,k,q⟩ W
 generalize decide ((⟨19,d,s,t,u,a,0,0⟩:In)=⟨19,d,s,t,u,a,k,q⟩)=cmp at keq ⊢;generalize hfin:(cmp)=fin;replace hfin:=Az hfin;go_enter Tryz.func69,Tryz.ntmps69;go_wp2_with fail
 refine(AA 19 _).mono ?_;rintro e w1 ⟨rfl,hb⟩;have BK:=Az (Bk hb (Bv w _));have z:w.heap.size<w1.heap.size:=Bl BK.out;have hbe:Below w.heap.size w w1:=((Below.refl w.heap.size w).alloc (Nl _) _).trans (hb.mono (by simp));replace hbe:=Az hbe;have c0:w1.cell? ⟨w.heap.size,0,none⟩=some (.int .i64 19):=(Bc BK.out 0).trans rfl;have c1:w1.cell? ⟨w.heap.size,1,none⟩=some (.int .i64 d):=(Bc BK.out 1).trans rfl;have c2:w1.cell? ⟨w.heap.size,2,none⟩=some (.int .i64 s):=(Bc BK.out 2).trans rfl;have c3:w1.cell? ⟨w.heap.size,3,none⟩=some (.int .i64 t):=(Bc BK.out 3).trans rfl;have c4:w1.cell? ⟨w.heap.size,4,none⟩=some (.int .i64 u):=(Bc BK.out 4).trans rfl;have c5:w1.cell? ⟨w.heap.size,5,none⟩=some (.int .i64 a):=(Bc BK.out 5).trans rfl;have c6:w1.cell? ⟨w.heap.size,6,none⟩=some (.int .u32 k):=(Bc BK.out 6).trans rfl;have c7:w1.cell? ⟨w.heap.size,7,none⟩=some (.int .i64 q):=(Bc BK.out 7).trans rfl;rw[show Ak 19=[99,97,115] from rfl];go_wp2_with fail
 refine(At d hd _).mono ?_;rintro e w' ⟨rfl,rfl⟩;go_wp2_with fail
 refine(At s hs _).mono ?_;rintro e w' ⟨rfl,rfl⟩;go_wp2_with fail
 refine(At t ht _).mono ?_;rintro e w' ⟨rfl,rfl⟩;go_wp2_with fail
 refine(At u hu _).mono ?_;rintro e w' ⟨rfl,rfl⟩;go_wp2_with fail
 refine(At a ha _).mono ?_;rintro e w' ⟨rfl,rfl⟩;go_wp2_with fail
 go_region_held3 (fun W=>W.cell? ⟨w.heap.size,1,none⟩=some (.int .i64 d)∧W.cell? ⟨w.heap.size,5,none⟩=some (.int .i64 a)∧W.cell? ⟨w.heap.size,2,none⟩=some (.int .i64 s)∧W.cell? ⟨w.heap.size,3,none⟩=some (.int .i64 t)∧W.cell? ⟨w.heap.size,4,none⟩=some (.int .i64 u)) (go_keep) (fail)
 cases cmp with
 |false =>
  go_wp2;go_ret;refine⟨congrArg (fun b=>Ending.returned (.bool b)) (show false=fin from ?_),?_⟩
  ·first |(rw[←hfin.out];done) |(rw[←hfin.out];simp)
  ·apply_rules [Bd,Below.setCell,Below.alloc,hbe.out]<;>first |omega |(simp;omega)
 |true =>
  go_wp2;go_ret;refine⟨congrArg (fun b=>Ending.returned (.bool b)) (show true=fin from ?_),?_⟩
  ·first |(rw[←hfin.out];done) |(rw[←hfin.out];simp)
  ·apply_rules [Bd,Below.setCell,Below.alloc,hbe.out]<;>first |omega |(simp;omega)
theorem PE(d s t u a k q places:Int)(w:World)(hd:0≤d∧d≤7)(hs:0≤s∧s≤7)(ht:0≤t∧t≤7)(hu:0≤u∧u≤7)(ha:0≤a∧a≤7)(hk:0≤k∧k≤4294967295) :
  Calls Tryz.prog 69 #[.agg #[.int .i64 21,.int .i64 d,.int .i64 s,.int .i64 t,.int .i64 u,.int .i64 a,.int .u32 k,.int .i64 q],.int .i64 places] w fun e w'=>e=.returned (.bool (AN ⟨21,d,s,t,u,a,k,q⟩ places))∧Below w.heap.size w w':=by
 rw[Te d s t u a k q places hd hs ht hu ha hk];have keq:∀ W,(binOp .eql 114 (.agg #[.int .i64 21,.int .i64 d,.int .i64 s,.int .i64 t,.int .i64 0,.int .i64 a,.int .u32 k,.int .i64 q]) (.agg #[.int .i64 21,.int .i64 d,.int .i64 s,.int .i64 t,.int .i64 u,.int .i64 a,.int .u32 k,.int .i64 q])).run Tryz.prog W=.ok (.bool (decide ((⟨21,d,s,t,0,a,k,q⟩:In)=⟨21,d,s,t,u,a,k,q⟩))) W:=fun W=>DQ ⟨21,d,s,t,0,a,k,q⟩ ⟨21,d,s,t,u,a,k,q⟩ W
 generalize decide ((⟨21,d,s,t,0,a,k,q⟩:In)=⟨21,d,s,t,u,a,k,q⟩)=cmp at keq ⊢;generalize hfin:(!decide (1<k)&&!decide (q < -1)&&cmp&&(decide (q = -1)||decide (q<places)))=fin;replace hfin:=Az hfin;go_enter Tryz.func69,Tryz.ntmps69;go_wp2_with fail
 refine(AA 21 _).mono ?_;rintro e w1 ⟨rfl,hb⟩;have BK:=Az (Bk hb (Bv w _));have z:w.heap.size<w1.heap.size:=Bl BK.out;have hbe:Below w.heap.size w w1:=((Below.refl w.heap.size w).alloc (Nl _) _).trans (hb.mono (by simp));replace hbe:=Az hbe;have c0:w1.cell? ⟨w.heap.size,0,none⟩=some (.int .i64 21):=(Bc BK.out 0).trans rfl;have c1:w1.cell? ⟨w.heap.size,1,none⟩=some (.int .i64 d):=(Bc BK.out 1).trans rfl;have c2:w1.cell? ⟨w.heap.size,2,none⟩=some (.int .i64 s):=(Bc BK.out 2).trans rfl;have c3:w1.cell? ⟨w.heap.size,3,none⟩=some (.int .i64 t):=(Bc BK.out 3).trans rfl;have c4:w1.cell? ⟨w.heap.size,4,none⟩=some (.int .i64 u):=(Bc BK.out 4).trans rfl;have c5:w1.cell? ⟨w.heap.size,5,none⟩=some (.int .i64 a):=(Bc BK.out 5).trans rfl;have c6:w1.cell? ⟨w.heap.size,6,none⟩=some (.int .u32 k):=(Bc BK.out 6).trans rfl;have c7:w1.cell? ⟨w.heap.size,7,none⟩=some (.int .i64 q):=(Bc BK.out 7).trans rfl;rw[show Ak 21=[97,119,97,105,116] from rfl];go_wp2_with fail
 refine(At d hd _).mono ?_;rintro e w' ⟨rfl,rfl⟩;go_wp2_with fail
 refine(At s hs _).mono ?_;rintro e w' ⟨rfl,rfl⟩;go_wp2_with fail
 refine(At t ht _).mono ?_;rintro e w' ⟨rfl,rfl⟩;go_wp2_with fail
 refine(At u hu _).mono ?_;rintro e w' ⟨rfl,rfl⟩;go_wp2_with fail
 refine(At a ha _).mono ?_;rintro e w' ⟨rfl,rfl⟩;go_wp2_with fail
 go_region_held3 (fun W=>W.cell? ⟨w.heap.size,1,none⟩=some (.int .i64 d)∧W.cell? ⟨w.heap.size,5,none⟩=some (.int .i64 a)∧W.cell? ⟨w.heap.size,2,none⟩=some (.int .i64 s)∧W.cell? ⟨w.heap.size,3,none⟩=some (.int .i64 t)∧W.cell? ⟨w.heap.size,6,none⟩=some (.int .u32 k)∧W.cell? ⟨w.heap.size,7,none⟩=some (.int .i64 q)) (go_keep) (fail)
 by_cases h0:1<k
 ·skip
  go_wp2;go_ret;refine⟨congrArg (fun b=>Ending.returned (.bool b)) (show false=fin from ?_),?_⟩
  ·first |(rw[←hfin.out];done) |(rw[←hfin.out];simp[h0])
  ·apply_rules [Bd,Below.setCell,Below.alloc,hbe.out]<;>first |omega |(simp;omega)
 by_cases h1:q < -1
 ·skip
  go_wp2;go_ret;refine⟨congrArg (fun b=>Ending.returned (.bool b)) (show false=fin from ?_),?_⟩
  ·first |(rw[←hfin.out];done) |(rw[←hfin.out];simp[h1])
  ·apply_rules [Bd,Below.setCell,Below.alloc,hbe.out]<;>first |omega |(simp;omega)
 cases cmp with
 |false =>
  go_wp2;go_ret;refine⟨congrArg (fun b=>Ending.returned (.bool b)) (show false=fin from ?_),?_⟩
  ·first |(rw[←hfin.out];done) |(rw[←hfin.out];simp)
  ·apply_rules [Bd,Below.setCell,Below.alloc,hbe.out]<;>first |omega |(simp;omega)
 |true =>
  by_cases h7:q = -1
  ·have h7b:(q == -1)=true:=beq_iff_eq.2 h7;replace h7:=Az h7;go_wp2;go_ret;refine⟨congrArg (fun b=>Ending.returned (.bool b)) (show true=fin from ?_),?_⟩
   ·first |(rw[←hfin.out];done) |(rw[←hfin.out];simp[h0,h7.out])
   ·apply_rules [Bd,Below.setCell,Below.alloc,hbe.out]<;>first |omega |(simp;omega)
  have h7b:(q == -1)=false:=Bq h7;by_cases h8:q<places
  ·skip
   go_wp2;go_ret;refine⟨congrArg (fun b=>Ending.returned (.bool b)) (show true=fin from ?_),?_⟩
   ·first |(rw[←hfin.out];done) |(rw[←hfin.out];simp[h0,h1,h8])
   ·apply_rules [Bd,Below.setCell,Below.alloc,hbe.out]<;>first |omega |(simp;omega)
  ·have h8b:decide (q<places)=false:=decide_eq_false h8;go_wp2;go_ret;refine⟨congrArg (fun b=>Ending.returned (.bool b)) (show false=fin from ?_),?_⟩
   ·first |(rw[←hfin.out];done) |(rw[←hfin.out];simp[h7,h8])
   ·apply_rules [Bd,Below.setCell,Below.alloc,hbe.out]<;>first |omega |(simp;omega)
end
end Go.Proofs.YtjjpiefgdggghaaGreatDoor
