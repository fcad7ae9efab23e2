/- Parts: AsmWords, RefAsmPlain. -/
import Derived.Test.YtjjpiefgdggghaaGreatDoorZ02
import Derived.Test.YtjjpiefgdggghaaGreatDoorZ05
import Derived.Test.YtjjpiefgdggghaaGreatDoorZ04
import Derived.Test.YtjjpiefgdggghaaGreatDoorZ10
import Derived.Test.YtjjpiefgdggghaaGreatDoorZ07
set_option linter.unusedVariables false
set_option linter.unusedSimpArgs false
set_option maxRecDepth 100000
set_option maxHeartbeats 40000000
namespace Go.Proofs.YtjjpiefgdggghaaGreatDoor
section
open Go.RowKit Go.Proofs.YtjjpiefgdggghaaGreatDoorW.PrintWords
theorem Ra(l:List UInt8)(k:Nat):bt ⟨l.toArray⟩ (k:Int)=((l.getD k 0).toNat:Int):=by
 unfold bt;by_cases h:k<l.length
 ·rw[dif_pos (by simpa [ByteArray.size]using h)];simp[List.getD_eq_getElem?_getD,List.getElem?_eq_getElem h];rfl
 ·rw[dif_neg (by simpa [ByteArray.size]using h)];simp[List.getD_eq_getElem?_getD,List.getElem?_eq_none (Nat.le_of_not_lt h)]
theorem P8(l:List UInt8):((⟨l.toArray⟩:ByteArray).size:Int)=l.length:=by simp[ByteArray.size]
def DE(l:List UInt8)(c:UInt8):List UInt8×Bool:=if l.getLast?=some c then (l.dropLast,true) else (l,false)
theorem wid{x:Int}(h0:-9223372036854775808≤x)(h1:x<9223372036854775808):wrap64 x=x:=by unfold wrap64;omega
theorem Qq(l:List UInt8)(c:UInt8)(hl:l.length≤1000000):BQ.f ⟨l.toArray⟩ ⟨#[c]⟩=some (⟨(DE l c).1.toArray⟩,(DE l c).2):=by
 have h1:((⟨#[c]⟩:ByteArray).size:Int)=1:=rfl;unfold BQ.f Bp.f AZ.f DE;rw[P8,h1];by_cases hn:l=[]
 ·subst hn;rfl
 ·have hp:0<l.length:=List.length_pos_iff.2 hn;have e:wrap64 ((l.length:Int)-1)=(l.length:Int)-1:=wid (by omega) (by omega);have et:((l.length:Int)-1).toNat=l.length-1:=by omega
  rw[e,if_pos (by omega),if_pos (by omega),if_pos (by omega),et];have hs:(⟨l.toArray⟩:ByteArray).size=l.length:=by simp[ByteArray.size]
  have hx:((⟨l.toArray⟩:ByteArray).extract (l.length-1) (⟨l.toArray⟩:ByteArray).size).toList=[l.getLast hn]:=by
   rw[hs,C5,toList_mk,List.drop_eq_getElem_cons (by omega),show l.length-1+1=l.length by omega,List.drop_length,List.getLast_eq_getElem];exact List.take_of_length_le (by simp;omega)
  have hy:(⟨#[c]⟩:ByteArray).toList=[c]:=toList_mk [c];rw[hx,hy,List.getLast?_eq_some_getLast hn];by_cases hc:l.getLast hn=c
  ·simp only[hc,Option.bind_some,beq_self_eq_true,if_true];rw[C5,if_pos (show(0:Int)≤(l.length:Int)-1 by omega),if_pos (show(l.length:Int)-1≤(l.length:Int) by omega)];simp[List.dropLast_eq_take]
  ·have hc':¬some (l.getLast hn)=some c:=fun h=>hc (Option.some.inj h)
   have:([l.getLast hn]==[c])=false:=Bq (fun h=>hc (List.head_eq_of_cons_eq h));simp only[this,Option.bind_some,if_neg hc'];rfl
theorem De(l:List UInt8)(c:UInt8)(hl:l.length≤1000000)(w:World):Calls Tryz.prog 96 #[.string ⟨l.toArray⟩,.string ⟨#[c]⟩] w fun e w' =>
  e=.returned (.tuple #[.string ⟨(DE l c).1.toArray⟩,.bool (DE l c).2])∧Below w.heap.size w w' :=
 (BQ.calls _ _ _ _ w (Qq l c hl)).mono fun e w' h=>⟨h.1,h.2.below⟩
theorem Fu:∀ (l:List UInt8),(32:UInt8)∈l→∃ a b,l=a++32::b∧(32:UInt8)∉b
 |c::l,h=>by
  by_cases h2:(32:UInt8)∈l
  ·obtain⟨a,b,e,hb⟩:=Fu l h2;exact⟨c::a,b,by rw[e];rfl,hb⟩
  ·cases h with
   |head=>exact⟨[],l,rfl,h2⟩
   |tail _ h=>exact absurd h h2
theorem Gn:∀ (a b:List UInt8),(32:UInt8)∉b→Ay (a++32::b)=Ay a++[b]
 |[],b,h=>by rw[List.nil_append,show Ay (32::b)=[]::Ay b by simp[Ay],DJ b h];rfl
 |c::a,b,h=>by
  have ih:=Gn a b h;rw[List.cons_append,Ay,Ay];by_cases hc:c=32
  ·rw[if_pos hc,if_pos hc,ih];rfl
  ·rw[if_neg hc,if_neg hc,ih];cases hs:Ay a with
   |nil=>exact absurd hs (Dw a)
   |cons x xs=>rfl
theorem ET{l:List UInt8}(h:(32:UInt8)∉l):BL l=l∧Br l=[]:=by
 have e:BL l=l:=by unfold BL;rw[DJ l h];rfl
 exact⟨e,by unfold Br;rw[e,Nat.sub_self];rfl⟩
theorem Fv{a b:List UInt8}(h:(32:UInt8)∉b):BL (a++32::b)=b∧Br (a++32::b)=a++[32]:=by
 have e:BL (a++32::b)=b:=by unfold BL;rw[Gn a b h];simp[List.getLastD_eq_getLast?]
 refine⟨e,?_⟩;unfold Br;rw[e,show(a++32::b).length-b.length=(a++[32]).length by simp;omega,show a++32::b=(a++[32])++b by simp,List.take_left]
theorem HW(l:List UInt8):Br l++BL l=l:=by
 by_cases h:(32:UInt8)∈l
 ·obtain⟨a,b,rfl,hb⟩:=Fu l h;rw[(Fv hb).1,(Fv hb).2];simp
 ·rw[(ET h).1,(ET h).2];rfl
theorem Ia(l:List UInt8)(h:(32:UInt8)∉l)(hl:l.length≤1000000):∀ (j:Nat),j≤l.length→Af.l0 (j+1) ⟨l.toArray⟩ 32 ((j:Int)-1)=some (-1)
 |0,_=>by rw[Af.l0,if_neg (by omega)]
 |j+1,hj=>by
  have hne:¬((l.getD j 0).toNat:Int)=32:=fun e=>h (by
   have:l.getD j 0=32:=UInt8.toNat_inj.1 (by show(l.getD j 0).toNat=32;omega);rw[←this,List.getD_eq_getElem?_getD,List.getElem?_eq_getElem (by omega)];exact List.getElem_mem _)
  rw[Af.l0,P8,show(((j+1:Nat):Int)-1)=(j:Int) by omega,Ra,if_pos (by omega),if_pos (by omega),if_pos (by omega),if_neg hne,wid (by omega) (by omega)];exact Ia l h hl j (by omega)
theorem Ib(a b:List UInt8)(h:(32:UInt8)∉b)(hl:(a++32::b).length≤1000000):∀ (j:Nat),j≤b.length→Af.l0 (j+1) ⟨(a++32::b).toArray⟩ 32 ((a.length+j:Nat):Int)=some (a.length:Int)
 |0,_=>by
  have e:(a++32::b).getD (a.length+0) 0=32:=by simp[List.getD_eq_getElem?_getD]
  have hz:(a++32::b).length=a.length+1+b.length:=by simp;omega
  rw[Af.l0,P8,Ra,e,if_pos (by omega),if_pos (by omega),if_pos (by omega)];rfl
 |j+1,hj=>by
  have hz:(a++32::b).length=a.length+1+b.length:=by simp;omega
  have e:(a++32::b).getD (a.length+(j+1)) 0=b.getD j 0:=by
   simp[List.getD_eq_getElem?_getD,List.getElem?_append_right (show a.length≤a.length+(j+1) by omega)]
  have hne:¬((b.getD j 0).toNat:Int)=32:=fun e=>h (by
   have:b.getD j 0=32:=UInt8.toNat_inj.1 (by show(b.getD j 0).toNat=32;omega);rw[←this,List.getD_eq_getElem?_getD,List.getElem?_eq_getElem (by omega)];exact List.getElem_mem _)
  rw[Af.l0,P8,Ra,e,if_pos (by omega),if_pos (by omega),if_pos (by omega),if_neg hne,wid (by omega) (by omega),show(((a.length+(j+1):Nat):Int)-1)=((a.length+j:Nat):Int) by omega];exact Ib a b h hl j (by omega)
theorem Pt(l:List UInt8)(hl:l.length≤1000000):∃ k,AJ.f k ⟨l.toArray⟩ 32=some (((Br l).length:Int)-1):=by
 have e:wrap64 ((l.length:Int)-1)=(l.length:Int)-1:=wid (by omega) (by omega);by_cases h:(32:UInt8)∈l
 ·obtain⟨a,b,rfl,hb⟩:=Fu l h;refine⟨b.length+1,?_⟩;have hk:=Ib a b hb hl b.length (Nl _);have hz:((a++32::b).length:Int)-1=((a.length+b.length:Nat):Int):=by simp;omega
  unfold AJ.f Af.f;rw[P8,e,hz,hk,(Fv hb).2];simp
 ·refine⟨l.length+1,?_⟩;have hk:=Ia l h hl l.length (Nl _);unfold AJ.f Af.f;rw[P8,e,hk,(ET h).2];rfl
theorem KA(l:List UInt8)(hl:l.length≤1000000)(w:World):Calls Tryz.prog 121 #[.string ⟨l.toArray⟩,.int .u8 32] w fun e w' =>
  e=.returned (.int .i64 (((Br l).length:Int)-1))∧Below w.heap.size w w':=by
 obtain⟨k,hk⟩:=Pt l hl;exact(AJ.calls k _ _ _ w hk).mono fun e w' h=>⟨h.1,h.2.below⟩
end
section
open Go Go.Lib
def Cv(s:List UInt8):In×List UInt8×Bool :=
 let r:=F0 (Br s++[48])
 if r.2=true∧CE r.1=true∧B8 (BL s)=true then (r.1,BL s,true) else
 let r:=F0 s
 if r.2=false∨CE r.1=true then (In.zero,[],false) else (r.1,[],true)
def GC(L:List (List UInt8×Nat))(s:List UInt8):Bool:=L.any (fun p=>p.1==s)
def CH(x:Src)(s:List UInt8)(n:Int):Src×Int :=
 if s.getLast?=some 58∧B8 s.dropLast=true then
  (if GC x.labels s.dropLast=true then (x,2) else ({x with labels:=x.labels++[(s.dropLast,x.l.length)]},0))
 else if (Cv s).2.2=false then (x,8)
 else if 64≤x.l.length then (x,9)
 else ({x with l:=x.l++[(Cv s).1],names:=x.names++[(Cv s).2.1],rows:=x.rows++[n]},0)
def DG:List (List UInt8)→Int→Src→Src×Int×Int
 |[],n,x=>(x,n,0)
 |s::ls,n,x=>if s.getLast?≠some 10 then (x,n+1,8) else
  if (CH x s.dropLast (n+1)).2=0 then DG ls (n+1) (CH x s.dropLast (n+1)).1 else (x,n+1,(CH x s.dropLast (n+1)).2)
def BD(L:List (List UInt8×Nat))(s:List UInt8)(n:Nat):Int :=
 match L.find? (fun p=>p.1==s&&decide (p.2<n)) with
 |some p=>(p.2:Int)
 |none => -1
def ED(L:List (List UInt8×Nat))(n:Nat):List In→List (List UInt8)→List Int→List In ⊕ Int
 |i::l,s::names,r::rows =>
  if s=[] then (match ED L n l names rows with |.inl k=>.inl (i::k) |.inr e=>.inr e)
  else if BD L s n<0 then .inr r
  else match ED L n l names rows with |.inl k=>.inl ({i with q:=BD L s n}::k) |.inr e=>.inr e
 |_,_,_=>.inl []
def An(t:List UInt8):Pg×Int×Int :=
 let r:=DG (AH t) 0 Src.zero
 if r.2.2≠0 then (Pg.zero,r.2.1,r.2.2) else
 match ED r.1.labels r.1.l.length r.1.l r.1.names r.1.rows with
 |.inr e=>(Pg.zero,e,10)
 |.inl k =>
  if BD r.1.labels [108,111,99,107] r.1.l.length<0∨BD r.1.labels [117,110,108,111,99,107] r.1.l.length<0 then (Pg.zero,0,10)
  else (⟨k,BD r.1.labels [108,111,99,107] r.1.l.length,BD r.1.labels [117,110,108,111,99,107] r.1.l.length⟩,0,0)
structure RL (x y:Src):Prop where
 l:y.l=x.l
 n:y.names=x.names
 r:y.rows=x.rows
 b:y.labels=x.labels.reverse
 u:(x.labels.map (·.1)).Nodup
end
end Go.Proofs.YtjjpiefgdggghaaGreatDoor
