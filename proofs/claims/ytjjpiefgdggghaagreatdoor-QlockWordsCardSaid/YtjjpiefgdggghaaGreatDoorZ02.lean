/- Parts: Q0, Plain, WEqStruct. -/
import Derived.Test.YtjjpiefgdggghaaGreatDoorZ01
import Derived.Lib.AtoiAll
import Derived.Lib.Split
import Derived.Lib.IndexBytes
import Derived.Lib.ItoaNum
import Derived.Lib.Join
import Derived.Lib.AtoiTie
import Derived.Laws.StructEq
set_option linter.unusedVariables false
set_option linter.unusedSimpArgs false
set_option maxRecDepth 100000
set_option maxHeartbeats 40000000
namespace Go.Proofs.YtjjpiefgdggghaaGreatDoor
section
open Go Go.RowKit Go.Proofs.YtjjpiefgdggghaaGreatDoorW.PrintWords
theorem Az{p:Prop}(h:p):Ai p:=⟨h⟩
theorem Bq{α:Type}[BEq α][LawfulBEq α]{a b:α}(h:a≠b):(a==b)=false:=beq_eq_false_iff_ne.2 h
theorem Sa{α:Type}(l:List α)(i:Nat)(a:α):l.toArray.setIfInBounds i a=(l.set i a).toArray:=List.setIfInBounds_toArray ..
theorem Sb{α:Type}(x:α)(l:List α)(a:α):(x::l).set 0 a=a::l:=List.set_cons_zero ..
theorem Sc{α:Type}(x:α)(l:List α)(i:Nat)(a:α):(x::l).set (i+1) a=x::l.set i a:=List.set_cons_succ ..
theorem Nl(n:Nat):n≤n:=Nat.le_refl n
end
section
def Ag(op:Int):List UInt8 :=
 if op=1 then [99,111,110,115,116] else
 if op=2 then [109,111,118,101] else
 if op=3 then [97,100,100,107] else
 if op=4 then [97,110,100,107] else
 if op=5 then [115,104,108] else
 if op=6 then [115,104,114] else
 if op=7 then [111,114] else
 if op=8 then [98,101,113] else
 if op=9 then [98,110,101] else
 if op=10 then [106,117,109,112] else
 if op=11 then [115,101,108,102] else
 if op=12 then [109,97,114,107] else
 if op=13 then [100,111,110,101] else
 if op=16 then [108,111,97,100] else
 if op=17 then [115,116,111,114,101] else
 if op=18 then [115,119,97,112] else
 if op=19 then [99,97,115] else
 if op=20 then [102,97,100,100] else
 if op=21 then [97,119,97,105,116] else
 if op=22 then [116,97,107,101] else
 if op=23 then [102,114,101,101] else
 []
def AK(op:Int):List UInt8 :=
 if op=1 then [68,75] else
 if op=2 then [68,83] else
 if op=3 then [68,83,75] else
 if op=4 then [68,83,75] else
 if op=5 then [68,83,66] else
 if op=6 then [68,83,66] else
 if op=7 then [68,83,84] else
 if op=8 then [83,84,80] else
 if op=9 then [83,84,80] else
 if op=10 then [80] else
 if op=11 then [68] else
 if op=12 then [77] else
 if op=13 then [79] else
 if op=16 then [68,65,83] else
 if op=17 then [65,83,84] else
 if op=18 then [68,65,83,84] else
 if op=19 then [68,65,83,84,85] else
 if op=20 then [68,65,83,75] else
 if op=21 then [68,65,83,87] else
 if op=22 then [68] else
 if op=23 then [83] else
 []
def Ap(s:Int):Option Nat:=if s=68 then some 1 else if s=83 then some 2 else if s=84 then some 3 else if s=85 then some 4 else if s=65 then some 5 else none
structure In where
 op:Int
 d:Int
 s:Int
 t:Int
 u:Int
 a:Int
 k:Int
 q:Int
deriving DecidableEq
def In.zero:In:=⟨0,0,0,0,0,0,0,0⟩
def In.get(i:In):Nat→Int
 |1=>i.d
 |2=>i.s
 |3=>i.t
 |4=>i.u
 |5=>i.a
 |_=>0
def In.put(i:In)(v:Int):Nat→In
 |1=>{i with d:=v}
 |2=>{i with s:=v}
 |3=>{i with t:=v}
 |4=>{i with u:=v}
 |5=>{i with a:=v}
 |_=>i
def Bn(places s:Int)(r:In):Option In :=
 match Ap s with
 |some j=>if r.get j<0∨7<r.get j then none else some (r.put 0 j)
 |none =>
  if s=75 then some {r with k:=0}
  else if s=66 then (if 31<r.k then none else some {r with k:=0})
  else if s=77 then (if r.k<1∨4<r.k then none else some {r with k:=0})
  else if s=79 then (if 3<r.k then none else some {r with k:=0})
  else if s=87 then (if 1<r.k then none else if r.t<0∨7<r.t∨r.q < -1∨(r.q ≠ -1∧places≤r.q) then none else some {r with k:=0,t:=0,q:=0})
  else if s=80 then (if r.q<0∨places≤r.q then none else some {r with q:=0})
  else some r
def AF(places:Int):List UInt8→In→Option In
 |[],r=>some r
 |c::l,r=>match Bn places (c.toNat:Int) r with
  |some r'=>AF places l r'
  |none=>none
def Av(i:In)(places:Int):Bool :=
 if Ag i.op=[] then false else
 match AF places (AK i.op) {i with op:=0} with
 |some r=>decide (r=In.zero)
 |none=>false
def B0:Option In→Bool
 |some r=>decide (r=In.zero)
 |none=>false
theorem AR(i:In)(places:Int)(h:Ag i.op≠[]):Av i places=B0 (AF places (AK i.op) {i with op:=0}):=by
 unfold Av;rw[if_neg h];rfl
def within(s:Int):Int×Int×Bool :=
 if s=75 then (0,4294967295,true) else if s=66 then (0,31,true) else if s=77 then (1,4,true) else if s=79 then (0,3,true) else if s=87 then (0,1,true) else (0,0,false)
theorem Mc(places:Int)(l:List UInt8)(k:Nat)(r:In)(h:k<l.length) :
  AF places (l.drop k) r=(Bn places ((l.getD k 0).toNat:Int) r).bind (AF places (l.drop (k+1))):=by
 rw[List.drop_eq_getElem_cons h];simp only[AF,List.getD_eq_getElem?_getD,List.getElem?_eq_getElem h,Option.getD_some];cases Bn places (l[k].toNat:Int) r<;>rfl
theorem BM{s:Int}{j:Nat}(h:Ap s=some j):(s=68∧j=1)∨(s=83∧j=2)∨(s=84∧j=3)∨(s=85∧j=4)∨(s=65∧j=5):=by
 unfold Ap at h;repeat' (split at h<;>try (simp_all;done))
theorem E2{s:Int}{j:Nat}(h:Ap s=some j):1≤j∧j≤5:=by
 have:=BM h;omega
theorem Gs{s:Int}{j:Nat}(h:Ap s=some j):within s=(0,0,false):=by
 rcases BM h with ⟨rfl,_⟩ |⟨rfl,_⟩ |⟨rfl,_⟩ |⟨rfl,_⟩ |⟨rfl,_⟩<;>rfl
theorem Jc{s:Int}{j:Nat}(h:Ap s=some j):(s==87)=false∧(s==80)=false:=by
 rcases BM h with ⟨rfl,_⟩ |⟨rfl,_⟩ |⟨rfl,_⟩ |⟨rfl,_⟩ |⟨rfl,_⟩<;>exact⟨rfl,rfl⟩
theorem DI{places s:Int}{r:In}{j:Nat}(h:Ap s=some j):Bn places s r=if r.get j<0∨7<r.get j then none else some (r.put 0 j):=by
 unfold Bn;rw[h]
theorem Nz{places s lo hi:Int}{r:In}(h:within s=(lo,hi,true))(hk:0≤r.k∧r.k≤4294967295)(h87:s≠87) :
  Ap s=none∧(s==87)=false∧(s==80)=false∧Bn places s r=if r.k<lo∨hi<r.k then none else some {r with k:=0}:=by
 unfold within at h;by_cases h1:s=75
 ·subst h1;rw[if_pos rfl]at h;cases h;refine⟨rfl,rfl,rfl,?_⟩;rw[if_neg (by omega)];rfl
 rw[if_neg h1]at h;by_cases h2:s=66
 ·subst h2;rw[if_pos rfl]at h;cases h;refine⟨rfl,rfl,rfl,?_⟩;have e:(r.k<0∨31<r.k)↔31<r.k:=by omega
  simp only[e];rfl
 rw[if_neg h2]at h;by_cases h3:s=77
 ·subst h3;rw[if_pos rfl]at h;cases h;exact⟨rfl,rfl,rfl,rfl⟩
 rw[if_neg h3]at h;by_cases h4:s=79
 ·subst h4;rw[if_pos rfl]at h;cases h;refine⟨rfl,rfl,rfl,?_⟩;have e:(r.k<0∨3<r.k)↔3<r.k:=by omega
  simp only[e];rfl
 rw[if_neg h4,if_neg h87]at h;cases h
theorem Jd{places s lo hi:Int}{r:In}(hf:Ap s=none)(hw:within s=(lo,hi,false))(h80:s≠80):Bn places s r=some r∧lo=0∧hi=0∧s≠87:=by
 unfold within at hw;by_cases h1:s=75
 ·rw[if_pos h1]at hw;cases hw
 by_cases h2:s=66
 ·rw[if_neg h1,if_pos h2]at hw;cases hw
 by_cases h3:s=77
 ·rw[if_neg h1,if_neg h2,if_pos h3]at hw;cases hw
 by_cases h4:s=79
 ·rw[if_neg h1,if_neg h2,if_neg h3,if_pos h4]at hw;cases hw
 by_cases h5:s=87
 ·rw[if_neg h1,if_neg h2,if_neg h3,if_neg h4,if_pos h5]at hw;cases hw
 rw[if_neg h1,if_neg h2,if_neg h3,if_neg h4,if_neg h5]at hw;cases hw;refine⟨?_,rfl,rfl,h5⟩;unfold Bn;rw[hf];simp only[h1,h2,h3,h4,h5,h80,if_false]
theorem KG{places:Int}{r:In}:Bn places 80 r=if r.q<0∨places≤r.q then none else some {r with q:=0}:=rfl
theorem KF{places:Int}{r:In}:Bn places 87 r=if 1<r.k then none else if r.t<0∨7<r.t∨r.q < -1∨(r.q ≠ -1∧places≤r.q) then none else some {r with k:=0,t:=0,q:=0}:=rfl
def In.wk(r:In):Prop:=0≤r.k∧r.k≤4294967295
theorem In.Md{r:In}(h:r.wk)(v:Int)(j:Nat):(r.put v j).wk:=by
 unfold In.put;split<;>exact h
theorem KH{c:Prop}[Decidable c]{a b:List UInt8}(ha:a.length≤5)(hb:b.length≤5):(if c then a else b).length≤5:=by
 split<;>assumption
theorem EU(op:Int):(AK op).length≤5:=by
 unfold AK;repeat (refine KH (by decide) ?_)
 decide
end
section
open Go
def DZ:List UInt8→List UInt8
 |114::l=>l
 |l=>l
theorem Lg(l:List UInt8):(DZ l).length≤l.length:=by
 unfold DZ;split<;>simp
def B7(l:List UInt8):Int :=
 match Lib.atoiAll (DZ l) with
 |.ok v=>v
 |.range=>Lib.atoiSat (DZ l)
 |_=>0
def Fy(l:List UInt8):Nat→Int→Int
 |0,_=>0
 |n+1,op=>if Ag op=l∧l≠[] then op else Fy l n (op+1)
def FJ(l:List UInt8):Int:=Fy l 23 1
def AM(r:In)(ss:List (List UInt8)):In×List (List UInt8) :=
 let r1:In:=if ss.getD 0 []=[110,101] then {r with q := -1,k:=1} else {r with q := -1}
 let r2:In:=if 2≤ss.length then {r1 with t:=B7 (ss.getD 1 [])} else r1
 if ss.length=4∧ss.getD 2 []=[101,108,115,101] then ({r2 with q:=B7 (ss.getD 3 [])},[]) else (r2,ss.drop 2)
end
section
open Go Go.Lib
def Ay:List UInt8→List (List UInt8)
 |[]=>[[]]
 |c::l=>if c=32 then []::Ay l else
  match Ay l with
  |[]=>[[c]]
  |w::ws=>(c::w)::ws
theorem Dw(l:List UInt8):Ay l≠[]:=by
 cases l with
 |nil=>simp[Ay]
 |cons c l =>
  unfold Ay;split
  ·simp
  ·split<;>simp
theorem E9(k:Nat)(s:List UInt8)(h:indexByte s 32 = -1):splitK [32] 0 k s=[s]:=by
 cases k with
 |zero=>rfl
 |succ k=>unfold splitK;rw[index_one,h];rfl
theorem Fk(k i:Nat)(s:List UInt8)(h:indexByte s 32=i):splitK [32] 0 (k+1) s=s.take i::splitK [32] 0 k (s.drop (i+1)):=by
 rw[splitK,index_one,h];rw[if_neg (by rw[beq_iff_eq];omega)];rfl
theorem indexByte_none:∀ (l:List UInt8) (c:UInt8),c∉l→indexByte l c = -1
 |[],_,_=>rfl
 |b::l,c,h=>by
  have h1:(b==c)=false:=Bq (fun e=>h (by rw[e];exact List.mem_cons_self ..));have h2:=indexByte_none l c (fun x=>h (List.mem_cons_of_mem _ x));unfold indexByte;simp[h1,h2]
theorem FK:∀ (l:List UInt8) (k:Nat),l.count 32≤k→splitK [32] 0 k l=Ay l
 |[],k,_=>by rw[E9 k [] rfl];rfl
 |c::l,k,hk=>by
  by_cases hc:c=32
  ·subst hc;have hk':l.count 32+1≤k:=by simpa using hk
   obtain⟨k,rfl⟩:∃ m,k=m+1:=⟨k-1,by omega⟩
   rw[Fk k 0 (32::l) (by simp[indexByte])];simp only[List.take_zero,Nat.zero_add,List.drop_succ_cons,List.drop_zero];rw[FK l k (by omega)];simp[Ay]
  ·have hk':l.count 32≤k:=by
    rw[List.count_cons_of_ne (by simpa using hc)]at hk;exact hk
   have ih:=FK l k hk';have hb:(c==32)=false:=Bq hc;have hsF:Ay (c::l)=match Ay l with |[]=>[[c]] |w::ws=>(c::w)::ws:=by rw[Ay,if_neg hc]
   by_cases hm:indexByte l 32 = -1
   ·rw[E9 k l hm]at ih;rw[E9 k (c::l) (by unfold indexByte;simp[hb,hm]),hsF,←ih]
   ·have hge:=indexByte_ge l 32;obtain⟨i,hi⟩:∃ i:Nat,indexByte l 32=i:=⟨(indexByte l 32).toNat,by omega⟩
    cases k with
    |zero =>
     exfalso;have h0:l.count 32=0:=by omega
     rw[List.count_eq_zero]at h0;exact hm (indexByte_none l 32 h0)
    |succ k =>
     rw[Fk k i l hi]at ih;rw[Fk k (i+1) (c::l) (by unfold indexByte;simp[hb,hi]),hsF,←ih];simp
theorem Fa:∀ (l:List UInt8) (i:Nat),indexByte l 32=i→l.count 32=1+(l.drop (i+1)).count 32
 |[],i,h=>by simp[indexByte]at h
 |c::l,i,h=>by
  unfold indexByte at h;by_cases hc:c=32
  ·subst hc;simp at h;have:i=0:=by omega
   subst this;simp[Nat.add_comm]
  ·have hb:(c==32)=false:=Bq hc;rw[hb]at h;by_cases hm:indexByte l 32 = -1
   ·rw[hm]at h;simp at h
   ·have hge:=indexByte_ge l 32;simp only[Bool.false_eq_true,if_false]at h;rw[if_neg (by rw[beq_iff_eq];exact hm)]at h;obtain⟨j,rfl⟩:∃ j,i=j+1:=⟨i-1,by omega⟩
    have:=Fa l j (by omega);rw[List.count_cons_of_ne (by simpa using hc),this];rfl
theorem EA:∀ (l:List UInt8),indexByte l 32 = -1→l.count 32=0
 |[],_=>rfl
 |c::l,h=>by
  unfold indexByte at h;by_cases hc:c=32
  ·subst hc;simp at h
  ·have hb:(c==32)=false:=Bq hc;rw[hb]at h;simp only[Bool.false_eq_true,if_false]at h;have hge:=indexByte_ge l 32;by_cases hm:indexByte l 32 = -1
   ·rw[List.count_cons_of_ne (by simpa using hc)];exact EA l hm
   ·rw[if_neg (by rw[beq_iff_eq];exact hm)]at h;omega
theorem count_eq:∀ (n:Nat) (l:List UInt8),l.length≤n→Lib.count l [32]=l.count 32
 |0,l,h=>by
  have:l=[]:=List.eq_nil_of_length_eq_zero (by omega);subst this;rfl
 |n+1,l,h=>by
  by_cases hm:indexByte l 32 = -1
  ·rw[count_miss (by rw[index_one];exact hm),EA l hm]
  ·have hge:=indexByte_ge l 32;obtain⟨i,hi⟩:∃ i:Nat,indexByte l 32=i:=⟨(indexByte l 32).toNat,by omega⟩
   have hp:=Fa l i hi;have hl0:0<l.length:=by
    cases l with
    |nil=>simp at hp
    |cons c l=>simp
   rw[count_hit (by simp) (by rw[index_one];exact hi),hp];have e:[(32:UInt8)].length=1:=rfl;rw[e,count_eq n (l.drop (i+1)) (by rw[List.length_drop];omega)]
theorem Cy:∀ l:List UInt8,(Ay l).length=l.count 32+1
 |[]=>rfl
 |c::l=>by
  have ih:=Cy l;by_cases hc:c=32
  ·subst hc;simp[Ay,ih]
  ·rw[List.count_cons_of_ne (by simpa using hc)];unfold Ay;rw[if_neg hc];cases h:Ay l with
   |nil=>rw[h]at ih;simp at ih
   |cons w ws=>rw[h]at ih;simpa using ih
theorem Lh(l:List UInt8):splitB ⟨#[32]⟩ 0 (countB ⟨l.toArray⟩ ⟨#[32]⟩) ⟨l.toArray⟩=(Ay l).map fun x=>⟨x.toArray⟩:=by
 have hc:countB ⟨l.toArray⟩ ⟨#[32]⟩=l.count 32:=count_eq l.length l (Nl _);have h:=splitB_data ⟨#[32]⟩ 0 (countB ⟨l.toArray⟩ ⟨#[32]⟩) ⟨l.toArray⟩;rw[hc]at h ⊢;have h2:splitK (⟨#[32]⟩:ByteArray).data.toList 0 (l.count 32) (⟨l.toArray⟩:ByteArray).data.toList=Ay l:=FK l _ (Nl _);rw[h2]at h;rw[←h,List.map_map]
 conv=>lhs;rw[←List.map_id (splitB _ _ _ _)]
 apply List.map_congr_left;intro x _;cases x;simp
theorem Li(l:List UInt8):countB ⟨l.toArray⟩ ⟨#[32]⟩+1=(Ay l).length:=by
 rw[Cy,show countB ⟨l.toArray⟩ ⟨#[32]⟩=l.count 32 from count_eq l.length l (Nl _)]
theorem Fz:∀ (l:List UInt8),∀ w∈Ay l,w.length≤l.length
 |[],w,h=>by simp[Ay]at h;subst h;simp
 |c::l,w,h=>by
  have ih:=Fz l;unfold Ay at h;by_cases hc:c=32
  ·rw[if_pos hc]at h;cases h with
   |head=>simp
   |tail _ h=>have:=ih w h;simp;omega
  ·rw[if_neg hc]at h;cases hs:Ay l with
   |nil=>exact absurd hs (Dw l)
   |cons v vs =>
    rw[hs]at h ih;cases h with
    |head=>have:=ih v (List.mem_cons_self ..);simp;omega
    |tail _ h=>have:=ih w (List.mem_cons_of_mem _ h);simp;omega
end
section
def dec(v:Int):List UInt8:=Go.Lib.decDigits v.toNat
def Bt(i:In)(s:Int):List (List UInt8) :=
 match Ap s with
 |some j=>if j=5 then [dec i.a] else [114::dec (i.get j)]
 |none =>
  if s=80 then [dec i.q]
  else if s=87 then (if i.k=0 then [101,113] else [110,101])::(114::dec i.t)::(if i.q = -1 then [] else [[101,108,115,101],dec i.q])
  else [dec i.k]
structure In.fits (i:In):Prop where
 d:0≤i.d∧i.d≤7
 s:0≤i.s∧i.s≤7
 t:0≤i.t∧i.t≤7
 u:0≤i.u∧i.u≤7
 a:0≤i.a∧i.a≤7
 k:0≤i.k∧i.k≤4294967295
 q:-1≤i.q∧i.q≤1073741824
theorem In.fits.get{i:In}(h:i.fits)(j:Nat):0≤i.get j∧i.get j≤7:=by
 unfold In.get;split
 ·exact h.d
 ·exact h.s
 ·exact h.t
 ·exact h.u
 ·exact h.a
 ·omega
structure In.N0 (i:In):Prop where
 d:0≤i.d∧i.d≤7
 s:0≤i.s∧i.s≤7
 t:0≤i.t∧i.t≤7
 u:0≤i.u∧i.u≤7
 a:0≤i.a∧i.a≤7
 q:-1≤i.q∧i.q≤1073741824
theorem Kh{places s:Int}{r r':In}(h:Bn places s r=some r')(hp:places≤1073741824)(hr:r'.N0):r.N0:=by
 unfold Bn at h;obtain⟨h1,h2,h3,h4,h5,h6⟩:=hr;cases hf:Ap s with
 |some j =>
  rw[hf]at h;dsimp only at h;by_cases hb:r.get j<0∨7<r.get j
  ·rw[if_pos hb]at h;cases h
  rw[if_neg hb]at h;cases h;have hb':0≤r.get j∧r.get j≤7:=by omega
  clear hb;rcases BM hf with ⟨_,rfl⟩ |⟨_,rfl⟩ |⟨_,rfl⟩ |⟨_,rfl⟩ |⟨_,rfl⟩
  all_goals (simp only[In.put,In.get]at *;constructor<;>assumption)
 |none =>
  rw[hf]at h;dsimp only at h;by_cases c1:s=75
  ·rw[if_pos c1]at h;cases h;constructor<;>assumption
  rw[if_neg c1]at h;by_cases c2:s=66
  ·rw[if_pos c2]at h;by_cases b:31<r.k
   ·rw[if_pos b]at h;cases h
   rw[if_neg b]at h;cases h;constructor<;>assumption
  rw[if_neg c2]at h;by_cases c3:s=77
  ·rw[if_pos c3]at h;by_cases b:r.k<1∨4<r.k
   ·rw[if_pos b]at h;cases h
   rw[if_neg b]at h;cases h;constructor<;>assumption
  rw[if_neg c3]at h;by_cases c4:s=79
  ·rw[if_pos c4]at h;by_cases b:3<r.k
   ·rw[if_pos b]at h;cases h
   rw[if_neg b]at h;cases h;constructor<;>assumption
  rw[if_neg c4]at h;by_cases c5:s=87
  ·rw[if_pos c5]at h;by_cases b:1<r.k
   ·rw[if_pos b]at h;cases h
   rw[if_neg b]at h;by_cases b2:r.t<0∨7<r.t∨r.q < -1∨(r.q ≠ -1∧places≤r.q)
   ·rw[if_pos b2]at h;cases h
   rw[if_neg b2]at h;cases h;exact⟨h1,h2,by omega,h4,h5,by omega⟩
  rw[if_neg c5]at h;by_cases c6:s=80
  ·rw[if_pos c6]at h;by_cases b:r.q<0∨places≤r.q
   ·rw[if_pos b]at h;cases h
   rw[if_neg b]at h;cases h;exact⟨h1,h2,h3,h4,h5,by omega⟩
  rw[if_neg c6]at h;cases h;constructor<;>assumption
theorem GF{places:Int}(hp:places≤1073741824):∀ (l:List UInt8) (r r':In),AF places l r=some r'→r'.N0→r.N0
 |[],r,r',h,hr=>by cases h;exact hr
 |c::l,r,r',h,hr=>by
  unfold AF at h;cases hs:Bn places (c.toNat:Int) r with
  |none=>rw[hs]at h;cases h
  |some r1 =>
   rw[hs]at h;exact Kh hs hp (GF hp l r1 r' h hr)
theorem FZ{i:In}{places:Int}(h:Av i places=true):Ag i.op≠[]:=by
 intro e;unfold Av at h;rw[if_pos e]at h;cases h
theorem EB{i:In}{places:Int}(h:Av i places=true):AF places (AK i.op) {i with op:=0}=some In.zero:=by
 have hn:=FZ h;rw[AR _ _ hn]at h;cases hf:AF places (AK i.op) {i with op:=0} with
 |none=>rw[hf]at h;cases h
 |some r=>rw[hf]at h;rw[of_decide_eq_true h]
theorem Ga{i:In}(h:Av i 1073741824=true)(hk:i.wk):i.fits:=by
 have hr:=GF (Int.le_refl _) _ _ _ (EB h) ⟨by decide,by decide,by decide,by decide,by decide,by decide⟩;exact⟨hr.d,hr.s,hr.t,hr.u,hr.a,hk,hr.q⟩
def GG(i:In):List (List UInt8):=Ag i.op::((AK i.op).map fun c=>Bt i (c.toNat:Int)).flatten
def AO(i:In):List UInt8:=Go.Lib.join (GG i) [32]
theorem GH(i:In)(s:Int):(Bt i s).length≤4:=by
 unfold Bt;cases Ap s with
 |some j =>
  dsimp only;by_cases h:j=5
  ·rw[if_pos h];simp
  ·rw[if_neg h];simp
 |none =>
  dsimp only;by_cases h:s=80
  ·rw[if_pos h];simp
  by_cases h':s=87
  ·rw[if_neg h,if_pos h'];by_cases hq:i.q = -1
   ·rw[if_pos hq];simp
   ·rw[if_neg hq];simp
  rw[if_neg h,if_neg h'];simp
theorem N1{places s:Int}{r r':In}(h:Bn places s r=some r')(h80:s≠80)(h87:s≠87):r'.q=r.q:=by
 unfold Bn at h;cases hf:Ap s with
 |some j =>
  rw[hf]at h;dsimp only at h;by_cases hb:r.get j<0∨7<r.get j
  ·rw[if_pos hb]at h;cases h
  rw[if_neg hb]at h;cases h;unfold In.put;split<;>rfl
 |none =>
  rw[hf]at h;dsimp only at h;by_cases c1:s=75
  ·rw[if_pos c1]at h;cases h;rfl
  rw[if_neg c1]at h;by_cases c2:s=66
  ·rw[if_pos c2]at h;by_cases b:31<r.k
   ·rw[if_pos b]at h;cases h
   rw[if_neg b]at h;cases h;rfl
  rw[if_neg c2]at h;by_cases c3:s=77
  ·rw[if_pos c3]at h;by_cases b:r.k<1∨4<r.k
   ·rw[if_pos b]at h;cases h
   rw[if_neg b]at h;cases h;rfl
  rw[if_neg c3]at h;by_cases c4:s=79
  ·rw[if_pos c4]at h;by_cases b:3<r.k
   ·rw[if_pos b]at h;cases h
   rw[if_neg b]at h;cases h;rfl
  rw[if_neg c4,if_neg h87,if_neg h80]at h;cases h;rfl
theorem KI{places:Int}:∀ (l:List UInt8) (r r':In),AF places l r=some r'→(80:UInt8)∈l→(87:UInt8)∉l→0≤r.q
 |[],_,_,_,h80,_=>by cases h80
 |c::l,r,r',h,h80,h87=>by
  unfold AF at h;cases hs:Bn places (c.toNat:Int) r with
  |none=>rw[hs]at h;cases h
  |some r1 =>
   rw[hs]at h;by_cases hc:c=80
   ·subst hc;rw[show((80:UInt8).toNat:Int)=80 from rfl,KG]at hs;by_cases b:r.q<0∨places≤r.q
    ·rw[if_pos b]at hs;cases hs
    ·omega
   ·have h80':(80:UInt8)∈l:=by
     cases h80 with
     |head=>exact absurd rfl hc
     |tail _ h=>exact h
    have h87':(87:UInt8)∉l:=fun x=>h87 (List.mem_cons_of_mem _ x)
    have hc87:c≠87:=fun e=>h87 (by rw[e];exact List.mem_cons_self ..)
    have:=KI l r1 r' h h80' h87';have e:=N1 hs (fun e=>hc (UInt8.toNat_inj.1 (Int.ofNat_inj.1 e))) (fun e=>hc87 (UInt8.toNat_inj.1 (Int.ofNat_inj.1 e)));omega
theorem N2{P:List UInt8→Prop}{c:Prop}[Decidable c]{a b:List UInt8}(ha:P a)(hb:P b):P (if c then a else b):=by split<;>assumption
theorem GI(op:Int):¬((80:UInt8)∈AK op∧(87:UInt8)∈AK op):=by
 unfold AK;repeat (refine N2 (P:=fun l=>¬((80:UInt8)∈l∧(87:UInt8)∈l)) (by decide) ?_)
 decide
theorem Je{i:In}(h:Av i 1073741824=true)(h80:(80:UInt8)∈AK i.op):0≤i.q :=
 KI (AK i.op) {i with op:=0} In.zero (EB h) h80 (fun h87=>GI i.op ⟨h80,h87⟩)
def CY(i:In):List UInt8×Int:=if Av i 1073741824=true then (AO i,0) else ([],1)
end
section
open Go
def BO:List UInt8→In→List (List UInt8)→Option (In×List (List UInt8))
 |[],i,ls=>some (i,ls)
 |_::_,_,[]=>none
 |c::sg,i,w::ls =>
  match Ap (c.toNat:Int) with
  |some j=>BO sg (i.put (B7 w) j) ls
  |none =>
   if (c.toNat:Int)=80 then BO sg {i with q:=B7 w} ls
   else if (c.toNat:Int)=87 then BO sg (AM i (w::ls)).1 (AM i (w::ls)).2
   else BO sg {i with k:=B7 w%4294967296} ls
def CJ(s:List UInt8):In×Int :=
 let op:=FJ ((Ay s).headD [])
 match BO (AK op) {In.zero with op:=op} ((Ay s).drop 1) with
 |none=>(In.zero,8)
 |some (i,rest)=>if rest≠[]∨(CY i).2≠0∨(CY i).1≠s then (In.zero,8) else (i,0)
def Jf(s:List UInt8):Option (In×List (List UInt8))→In×Int
 |none=>(In.zero,8)
 |some (i,rest)=>if rest≠[]∨(CY i).2≠0∨(CY i).1≠s then (In.zero,8) else (i,0)
theorem Jg(l:List UInt8)(k:Nat)(i:In)(h:k<l.length):BO (l.drop k) i []=none:=by
 rw[List.drop_eq_getElem_cons h];rfl
theorem Ki(l:List UInt8)(k:Nat)(i:In)(w:List UInt8)(ls:List (List UInt8))(h:k<l.length)(sg:Int)(hs:((l.getD k 0).toNat:Int)=sg) :
  BO (l.drop k) i (w::ls)=match Ap sg with
   |some j=>BO (l.drop (k+1)) (i.put (B7 w) j) ls
   |none =>
    if sg=80 then BO (l.drop (k+1)) {i with q:=B7 w} ls
    else if sg=87 then BO (l.drop (k+1)) (AM i (w::ls)).1 (AM i (w::ls)).2
    else BO (l.drop (k+1)) {i with k:=B7 w%4294967296} ls:=by
 subst hs;rw[List.drop_eq_getElem_cons h,List.getD_eq_getElem?_getD,List.getElem?_eq_getElem h];rfl
theorem Mj{r:In}(h:r.wk)(ss:List (List UInt8)):(AM r ss).1.wk:=by
 have h1:(if ss.getD 0 []=[110,101] then {r with q := -1,k:=1} else {r with q := -1}:In).wk:=by
  split
  ·exact⟨by simp,by simp⟩
  ·exact h
 have h2:(if 2≤ss.length then {(if ss.getD 0 []=[110,101] then {r with q := -1,k:=1} else {r with q := -1}:In) with t:=B7 (ss.getD 1 [])} else (if ss.getD 0 []=[110,101] then {r with q := -1,k:=1} else {r with q := -1}:In)).wk:=by
  split
  ·exact h1
  ·exact h1
 unfold AM;dsimp only;split
 ·exact h2
 ·exact h2
theorem Lj(r:In)(ss:List (List UInt8)):∃ n,(AM r ss).2=ss.drop n:=by
 unfold AM;dsimp only;split
 ·exact⟨ss.length,by simp⟩
 ·exact⟨2,rfl⟩
end
section
open Go Go.Lib
theorem HD(u:Nat)(h:u≤4294967295):(decDigits u).length≤10:=by
 have step:∀ (k u:Nat),u<10 ^ (k+1)→(decDigits u).length≤k+1:=by
  intro k;induction k with
  |zero=>intro u hu;rw[decDigits,dif_pos (by omega)];simp
  |succ k ih =>
   intro u hu;rw[decDigits];by_cases h:u<10
   ·rw[dif_pos h];simp
   ·rw[dif_neg h,List.length_append,List.length_singleton];have:=ih (u/10) (by rw[Nat.div_lt_iff_lt_mul (by omega)];rw[Nat.pow_succ]at hu;exact hu);omega
 exact step 9 u (by omega)
theorem DJ:∀ (w:List UInt8),(32:UInt8)∉w→Ay w=[w]
 |[],_=>rfl
 |c::l,h=>by
  have hc:c≠32:=fun e=>h (by rw[e];exact List.mem_cons_self ..)
  rw[Ay,if_neg hc,DJ l (fun x=>h (List.mem_cons_of_mem _ x))]
theorem GJ:∀ (w r:List UInt8),(32:UInt8)∉w→Ay (w++32::r)=w::Ay r
 |[],r,_=>by rw[List.nil_append,Ay,if_pos rfl]
 |c::l,r,h=>by
  have hc:c≠32:=fun e=>h (by rw[e];exact List.mem_cons_self ..)
  rw[List.cons_append,Ay,if_neg hc,GJ l r (fun x=>h (List.mem_cons_of_mem _ x))]
theorem Bb(x y:List UInt8)(r:List (List UInt8)):join (x::y::r) [32]=x++32::join (y::r) [32]:=by
 rw[join_cons,join_cons];simp[joinTail]
structure Inv (i r r0:In):Prop where
 d:r0.d+r.d=i.d
 s:r0.s+r.s=i.s
 t:r0.t+r.t=i.t
 u:r0.u+r.u=i.u
 a:r0.a+r.a=i.a
 k:r0.k+r.k=i.k
 q:r0.q+r.q=i.q
def known(c:UInt8):Prop:=c=68∨c=83∨c=84∨c=85∨c=65∨c=75∨c=66∨c=77∨c=79∨c=80
theorem HE{op:Int}(h:Ag op≠[]):(1≤op∧op≤13)∨(16≤op∧op≤23):=by
 refine Decidable.byContradiction (fun hc=>h ?_);unfold Ag;repeat rw[if_neg (by omega)]
def Lk(w:List UInt8):Int :=
 if w.length=2∧(w.getD 0 0).toNat=114∧48≤(w.getD 1 0).toNat∧(w.getD 1 0).toNat≤55 then ((w.getD 1 0).toNat:Int)-48 else -1
def Ll(w:List UInt8):Int :=
 if w=[]∨10<w.length∨(1<w.length∧(w.getD 0 0).toNat=48) then -1 else
 match decFrom 0 w with
 |some n=>if 4294967295<n then -1 else n
 |none => -1
def Gb:List (List UInt8)→List Int→List Int→Int→Option (List Int×List Int×Int)
 |[],rs,ns,k=>some (rs,ns,k)
 |w::ls,rs,ns,k =>
  if 0≤Lk w then Gb ls (rs++[Lk w]) ns k
  else if 0≤Ll w then Gb ls rs (ns++[Ll w]) k
  else if w=[110,101] then Gb ls rs ns 1
  else if w≠[101,113]∧w≠[101,108,115,101] then none
  else Gb ls rs ns k
def D3(n:Nat)(v:Int)(l:List Int):List Int:=l++List.replicate (n-l.length) v
def Ej(w:List UInt8):Nat→Int→Int→Int
 |0,_,acc=>acc
 |n+1,op,acc=>Ej w n (op+1) (if Ag op≠[]∧Ag op=w then op else acc)
def Fb(w:List UInt8):Int:=Ej w 23 1 0
def BG(op k r0 r1 r2 r3 n0 n1:Int):In :=
 if op=1∨op=2∨op=3∨op=4∨op=5∨op=6∨op=7∨op=11∨op=22 then
  ⟨op,r0,r1,r2,0,0,if op≠2∧op≠7∧op≠11∧op≠22 then n0%4294967296 else k,0⟩
 else if op=8∨op=9∨op=10 then ⟨op,0,r0,r1,0,0,k,n0⟩
 else if op=12∨op=13 then ⟨op,0,0,0,0,0,n0%4294967296,0⟩
 else if op=16∨op=18∨op=19∨op=20∨op=21 then ⟨op,r0,r1,r2,r3,n0,if op=20 then n1%4294967296 else k,if op=21 then n1 else 0⟩
 else if op=17 then ⟨op,0,r0,r1,0,n0,k,0⟩
 else if op=23 then ⟨op,0,r0,0,0,0,k,0⟩
 else ⟨op,0,0,0,0,0,k,0⟩
def PM(op k:Int)(r n:List Int):In:=BG op k (r.getD 0 0) (r.getD 1 0) (r.getD 2 0) (r.getD 3 0) (n.getD 0 0) (n.getD 1 0)
def Lm(s:List UInt8)(i:In):In×Bool:=if Av i 1073741824=true∧AO i=s then (i,true) else (In.zero,false)
def Kj(s:List UInt8)(op:Int):Option (List Int×List Int×Int)→In×Bool
 |none=>(In.zero,false)
 |some (r,n,k)=>Lm s (PM op k (D3 4 0 r) (D3 2 (-1) n))
def F0(s:List UInt8):In×Bool:=Kj s (Fb ((Ay s).headD [])) (Gb ((Ay s).drop 1) [] [] 0)
end
section
open Go

end
section
theorem Mk(d s t u a k q places:Int)(hd:0≤d∧d≤7)(hs:0≤s∧s≤7)(ht:0≤t∧t≤7)(hu:0≤u∧u≤7)(ha:0≤a∧a≤7)(hk:0≤k∧k≤4294967295) :
  Av ⟨1,d,s,t,u,a,k,q⟩ places=(decide ((⟨1,d,0,0,0,0,k,0⟩:In)=⟨1,d,s,t,u,a,k,q⟩)):=by
 rw[Bool.eq_iff_iff,AR _ _ (by show Ag 1≠[];decide)]
 show B0 (AF places [68,75] ⟨0,d,s,t,u,a,k,q⟩)=true↔_
 have n_d:¬(d<0∨7<d):=by omega
 simp only[AF,Bn,Ap,In.get,In.put,UInt8.reduceToNat];simp[n_d,B0,In.zero];try omega
theorem Ml(d s t u a k q places:Int)(hd:0≤d∧d≤7)(hs:0≤s∧s≤7)(ht:0≤t∧t≤7)(hu:0≤u∧u≤7)(ha:0≤a∧a≤7)(hk:0≤k∧k≤4294967295) :
  Av ⟨2,d,s,t,u,a,k,q⟩ places=(decide ((⟨2,d,s,0,0,0,0,0⟩:In)=⟨2,d,s,t,u,a,k,q⟩)):=by
 rw[Bool.eq_iff_iff,AR _ _ (by show Ag 2≠[];decide)]
 show B0 (AF places [68,83] ⟨0,d,s,t,u,a,k,q⟩)=true↔_
 have n_d:¬(d<0∨7<d):=by omega
 have n_s:¬(s<0∨7<s):=by omega
 simp only[AF,Bn,Ap,In.get,In.put,UInt8.reduceToNat];simp[n_d,n_s,B0,In.zero];try omega
theorem Mm(d s t u a k q places:Int)(hd:0≤d∧d≤7)(hs:0≤s∧s≤7)(ht:0≤t∧t≤7)(hu:0≤u∧u≤7)(ha:0≤a∧a≤7)(hk:0≤k∧k≤4294967295) :
  Av ⟨3,d,s,t,u,a,k,q⟩ places=(decide ((⟨3,d,s,0,0,0,k,0⟩:In)=⟨3,d,s,t,u,a,k,q⟩)):=by
 rw[Bool.eq_iff_iff,AR _ _ (by show Ag 3≠[];decide)]
 show B0 (AF places [68,83,75] ⟨0,d,s,t,u,a,k,q⟩)=true↔_
 have n_d:¬(d<0∨7<d):=by omega
 have n_s:¬(s<0∨7<s):=by omega
 simp only[AF,Bn,Ap,In.get,In.put,UInt8.reduceToNat];simp[n_d,n_s,B0,In.zero];try omega
theorem Mn(d s t u a k q places:Int)(hd:0≤d∧d≤7)(hs:0≤s∧s≤7)(ht:0≤t∧t≤7)(hu:0≤u∧u≤7)(ha:0≤a∧a≤7)(hk:0≤k∧k≤4294967295) :
  Av ⟨4,d,s,t,u,a,k,q⟩ places=(decide ((⟨4,d,s,0,0,0,k,0⟩:In)=⟨4,d,s,t,u,a,k,q⟩)):=by
 rw[Bool.eq_iff_iff,AR _ _ (by show Ag 4≠[];decide)]
 show B0 (AF places [68,83,75] ⟨0,d,s,t,u,a,k,q⟩)=true↔_
 have n_d:¬(d<0∨7<d):=by omega
 have n_s:¬(s<0∨7<s):=by omega
 simp only[AF,Bn,Ap,In.get,In.put,UInt8.reduceToNat];simp[n_d,n_s,B0,In.zero];try omega
theorem Mo(d s t u a k q places:Int)(hd:0≤d∧d≤7)(hs:0≤s∧s≤7)(ht:0≤t∧t≤7)(hu:0≤u∧u≤7)(ha:0≤a∧a≤7)(hk:0≤k∧k≤4294967295) :
  Av ⟨5,d,s,t,u,a,k,q⟩ places=(!decide (31<k)&&decide ((⟨5,d,s,0,0,0,k,0⟩:In)=⟨5,d,s,t,u,a,k,q⟩)):=by
 rw[Bool.eq_iff_iff,AR _ _ (by show Ag 5≠[];decide)]
 show B0 (AF places [68,83,66] ⟨0,d,s,t,u,a,k,q⟩)=true↔_
 have n_d:¬(d<0∨7<d):=by omega
 have n_s:¬(s<0∨7<s):=by omega
 simp only[AF,Bn,Ap,In.get,In.put,UInt8.reduceToNat];by_cases hc:31<k
 ·simp[n_d,n_s,hc,B0,In.zero];try omega
 ·simp[n_d,n_s,hc,B0,In.zero];try omega
theorem Mp(d s t u a k q places:Int)(hd:0≤d∧d≤7)(hs:0≤s∧s≤7)(ht:0≤t∧t≤7)(hu:0≤u∧u≤7)(ha:0≤a∧a≤7)(hk:0≤k∧k≤4294967295) :
  Av ⟨6,d,s,t,u,a,k,q⟩ places=(!decide (31<k)&&decide ((⟨6,d,s,0,0,0,k,0⟩:In)=⟨6,d,s,t,u,a,k,q⟩)):=by
 rw[Bool.eq_iff_iff,AR _ _ (by show Ag 6≠[];decide)]
 show B0 (AF places [68,83,66] ⟨0,d,s,t,u,a,k,q⟩)=true↔_
 have n_d:¬(d<0∨7<d):=by omega
 have n_s:¬(s<0∨7<s):=by omega
 simp only[AF,Bn,Ap,In.get,In.put,UInt8.reduceToNat];by_cases hc:31<k
 ·simp[n_d,n_s,hc,B0,In.zero];try omega
 ·simp[n_d,n_s,hc,B0,In.zero];try omega
theorem Mq(d s t u a k q places:Int)(hd:0≤d∧d≤7)(hs:0≤s∧s≤7)(ht:0≤t∧t≤7)(hu:0≤u∧u≤7)(ha:0≤a∧a≤7)(hk:0≤k∧k≤4294967295) :
  Av ⟨7,d,s,t,u,a,k,q⟩ places=(decide ((⟨7,d,s,t,0,0,0,0⟩:In)=⟨7,d,s,t,u,a,k,q⟩)):=by
 rw[Bool.eq_iff_iff,AR _ _ (by show Ag 7≠[];decide)]
 show B0 (AF places [68,83,84] ⟨0,d,s,t,u,a,k,q⟩)=true↔_
 have n_d:¬(d<0∨7<d):=by omega
 have n_s:¬(s<0∨7<s):=by omega
 have n_t:¬(t<0∨7<t):=by omega
 simp only[AF,Bn,Ap,In.get,In.put,UInt8.reduceToNat];simp[n_d,n_s,n_t,B0,In.zero];try omega
theorem Mr(d s t u a k q places:Int)(hd:0≤d∧d≤7)(hs:0≤s∧s≤7)(ht:0≤t∧t≤7)(hu:0≤u∧u≤7)(ha:0≤a∧a≤7)(hk:0≤k∧k≤4294967295) :
  Av ⟨8,d,s,t,u,a,k,q⟩ places=(!decide (q<0)&&decide ((⟨8,0,s,t,0,0,0,q⟩:In)=⟨8,d,s,t,u,a,k,q⟩)&&decide (q<places)):=by
 rw[Bool.eq_iff_iff,AR _ _ (by show Ag 8≠[];decide)]
 show B0 (AF places [83,84,80] ⟨0,d,s,t,u,a,k,q⟩)=true↔_
 have n_s:¬(s<0∨7<s):=by omega
 have n_t:¬(t<0∨7<t):=by omega
 simp only[AF,Bn,Ap,In.get,In.put,UInt8.reduceToNat];by_cases hc:q<0∨places≤q
 ·simp[n_s,n_t,hc,B0,In.zero];try omega
 ·simp[n_s,n_t,hc,B0,In.zero];try omega
theorem Ms(d s t u a k q places:Int)(hd:0≤d∧d≤7)(hs:0≤s∧s≤7)(ht:0≤t∧t≤7)(hu:0≤u∧u≤7)(ha:0≤a∧a≤7)(hk:0≤k∧k≤4294967295) :
  Av ⟨9,d,s,t,u,a,k,q⟩ places=(!decide (q<0)&&decide ((⟨9,0,s,t,0,0,0,q⟩:In)=⟨9,d,s,t,u,a,k,q⟩)&&decide (q<places)):=by
 rw[Bool.eq_iff_iff,AR _ _ (by show Ag 9≠[];decide)]
 show B0 (AF places [83,84,80] ⟨0,d,s,t,u,a,k,q⟩)=true↔_
 have n_s:¬(s<0∨7<s):=by omega
 have n_t:¬(t<0∨7<t):=by omega
 simp only[AF,Bn,Ap,In.get,In.put,UInt8.reduceToNat];by_cases hc:q<0∨places≤q
 ·simp[n_s,n_t,hc,B0,In.zero];try omega
 ·simp[n_s,n_t,hc,B0,In.zero];try omega
theorem Ln(d s t u a k q places:Int)(hd:0≤d∧d≤7)(hs:0≤s∧s≤7)(ht:0≤t∧t≤7)(hu:0≤u∧u≤7)(ha:0≤a∧a≤7)(hk:0≤k∧k≤4294967295) :
  Av ⟨10,d,s,t,u,a,k,q⟩ places=(!decide (q<0)&&decide ((⟨10,0,0,0,0,0,0,q⟩:In)=⟨10,d,s,t,u,a,k,q⟩)&&decide (q<places)):=by
 rw[Bool.eq_iff_iff,AR _ _ (by show Ag 10≠[];decide)]
 show B0 (AF places [80] ⟨0,d,s,t,u,a,k,q⟩)=true↔_
 simp only[AF,Bn,Ap,In.get,In.put,UInt8.reduceToNat];by_cases hc:q<0∨places≤q
 ·simp[hc,B0,In.zero];try omega
 ·simp[hc,B0,In.zero];try omega
theorem Lo(d s t u a k q places:Int)(hd:0≤d∧d≤7)(hs:0≤s∧s≤7)(ht:0≤t∧t≤7)(hu:0≤u∧u≤7)(ha:0≤a∧a≤7)(hk:0≤k∧k≤4294967295) :
  Av ⟨11,d,s,t,u,a,k,q⟩ places=(decide ((⟨11,d,0,0,0,0,0,0⟩:In)=⟨11,d,s,t,u,a,k,q⟩)):=by
 rw[Bool.eq_iff_iff,AR _ _ (by show Ag 11≠[];decide)]
 show B0 (AF places [68] ⟨0,d,s,t,u,a,k,q⟩)=true↔_
 have n_d:¬(d<0∨7<d):=by omega
 simp only[AF,Bn,Ap,In.get,In.put,UInt8.reduceToNat];simp[n_d,B0,In.zero];try omega
theorem Lp(d s t u a k q places:Int)(hd:0≤d∧d≤7)(hs:0≤s∧s≤7)(ht:0≤t∧t≤7)(hu:0≤u∧u≤7)(ha:0≤a∧a≤7)(hk:0≤k∧k≤4294967295) :
  Av ⟨12,d,s,t,u,a,k,q⟩ places=(!decide (k<1)&&!decide (4<k)&&decide ((⟨12,0,0,0,0,0,k,0⟩:In)=⟨12,d,s,t,u,a,k,q⟩)):=by
 rw[Bool.eq_iff_iff,AR _ _ (by show Ag 12≠[];decide)]
 show B0 (AF places [77] ⟨0,d,s,t,u,a,k,q⟩)=true↔_
 simp only[AF,Bn,Ap,In.get,In.put,UInt8.reduceToNat];by_cases hc:k<1∨4<k
 ·simp[hc,B0,In.zero];try omega
 ·simp[hc,B0,In.zero];try omega
theorem Lq(d s t u a k q places:Int)(hd:0≤d∧d≤7)(hs:0≤s∧s≤7)(ht:0≤t∧t≤7)(hu:0≤u∧u≤7)(ha:0≤a∧a≤7)(hk:0≤k∧k≤4294967295) :
  Av ⟨13,d,s,t,u,a,k,q⟩ places=(!decide (3<k)&&decide ((⟨13,0,0,0,0,0,k,0⟩:In)=⟨13,d,s,t,u,a,k,q⟩)):=by
 rw[Bool.eq_iff_iff,AR _ _ (by show Ag 13≠[];decide)]
 show B0 (AF places [79] ⟨0,d,s,t,u,a,k,q⟩)=true↔_
 simp only[AF,Bn,Ap,In.get,In.put,UInt8.reduceToNat];by_cases hc:3<k
 ·simp[hc,B0,In.zero];try omega
 ·simp[hc,B0,In.zero];try omega
theorem Lr(d s t u a k q places:Int)(hd:0≤d∧d≤7)(hs:0≤s∧s≤7)(ht:0≤t∧t≤7)(hu:0≤u∧u≤7)(ha:0≤a∧a≤7)(hk:0≤k∧k≤4294967295) :
  Av ⟨16,d,s,t,u,a,k,q⟩ places=(decide ((⟨16,d,s,0,0,a,0,0⟩:In)=⟨16,d,s,t,u,a,k,q⟩)):=by
 rw[Bool.eq_iff_iff,AR _ _ (by show Ag 16≠[];decide)]
 show B0 (AF places [68,65,83] ⟨0,d,s,t,u,a,k,q⟩)=true↔_
 have n_d:¬(d<0∨7<d):=by omega
 have n_a:¬(a<0∨7<a):=by omega
 have n_s:¬(s<0∨7<s):=by omega
 simp only[AF,Bn,Ap,In.get,In.put,UInt8.reduceToNat];simp[n_d,n_a,n_s,B0,In.zero];try omega
theorem Ls(d s t u a k q places:Int)(hd:0≤d∧d≤7)(hs:0≤s∧s≤7)(ht:0≤t∧t≤7)(hu:0≤u∧u≤7)(ha:0≤a∧a≤7)(hk:0≤k∧k≤4294967295) :
  Av ⟨17,d,s,t,u,a,k,q⟩ places=(decide ((⟨17,0,s,t,0,a,0,0⟩:In)=⟨17,d,s,t,u,a,k,q⟩)):=by
 rw[Bool.eq_iff_iff,AR _ _ (by show Ag 17≠[];decide)]
 show B0 (AF places [65,83,84] ⟨0,d,s,t,u,a,k,q⟩)=true↔_
 have n_a:¬(a<0∨7<a):=by omega
 have n_s:¬(s<0∨7<s):=by omega
 have n_t:¬(t<0∨7<t):=by omega
 simp only[AF,Bn,Ap,In.get,In.put,UInt8.reduceToNat];simp[n_a,n_s,n_t,B0,In.zero];try omega
theorem Lt(d s t u a k q places:Int)(hd:0≤d∧d≤7)(hs:0≤s∧s≤7)(ht:0≤t∧t≤7)(hu:0≤u∧u≤7)(ha:0≤a∧a≤7)(hk:0≤k∧k≤4294967295) :
  Av ⟨18,d,s,t,u,a,k,q⟩ places=(decide ((⟨18,d,s,t,0,a,0,0⟩:In)=⟨18,d,s,t,u,a,k,q⟩)):=by
 rw[Bool.eq_iff_iff,AR _ _ (by show Ag 18≠[];decide)]
 show B0 (AF places [68,65,83,84] ⟨0,d,s,t,u,a,k,q⟩)=true↔_
 have n_d:¬(d<0∨7<d):=by omega
 have n_a:¬(a<0∨7<a):=by omega
 have n_s:¬(s<0∨7<s):=by omega
 have n_t:¬(t<0∨7<t):=by omega
 simp only[AF,Bn,Ap,In.get,In.put,UInt8.reduceToNat];simp[n_d,n_a,n_s,n_t,B0,In.zero];try omega
theorem Lu(d s t u a k q places:Int)(hd:0≤d∧d≤7)(hs:0≤s∧s≤7)(ht:0≤t∧t≤7)(hu:0≤u∧u≤7)(ha:0≤a∧a≤7)(hk:0≤k∧k≤4294967295) :
  Av ⟨19,d,s,t,u,a,k,q⟩ places=(decide ((⟨19,d,s,t,u,a,0,0⟩:In)=⟨19,d,s,t,u,a,k,q⟩)):=by
 rw[Bool.eq_iff_iff,AR _ _ (by show Ag 19≠[];decide)]
 show B0 (AF places [68,65,83,84,85] ⟨0,d,s,t,u,a,k,q⟩)=true↔_
 have n_d:¬(d<0∨7<d):=by omega
 have n_a:¬(a<0∨7<a):=by omega
 have n_s:¬(s<0∨7<s):=by omega
 have n_t:¬(t<0∨7<t):=by omega
 have n_u:¬(u<0∨7<u):=by omega
 simp only[AF,Bn,Ap,In.get,In.put,UInt8.reduceToNat];simp[n_d,n_a,n_s,n_t,n_u,B0,In.zero];try omega
theorem Lv(d s t u a k q places:Int)(hd:0≤d∧d≤7)(hs:0≤s∧s≤7)(ht:0≤t∧t≤7)(hu:0≤u∧u≤7)(ha:0≤a∧a≤7)(hk:0≤k∧k≤4294967295) :
  Av ⟨20,d,s,t,u,a,k,q⟩ places=(decide ((⟨20,d,s,0,0,a,k,0⟩:In)=⟨20,d,s,t,u,a,k,q⟩)):=by
 rw[Bool.eq_iff_iff,AR _ _ (by show Ag 20≠[];decide)]
 show B0 (AF places [68,65,83,75] ⟨0,d,s,t,u,a,k,q⟩)=true↔_
 have n_d:¬(d<0∨7<d):=by omega
 have n_a:¬(a<0∨7<a):=by omega
 have n_s:¬(s<0∨7<s):=by omega
 simp only[AF,Bn,Ap,In.get,In.put,UInt8.reduceToNat];simp[n_d,n_a,n_s,B0,In.zero];try omega
theorem Lw(d s t u a k q places:Int)(hd:0≤d∧d≤7)(hs:0≤s∧s≤7)(ht:0≤t∧t≤7)(hu:0≤u∧u≤7)(ha:0≤a∧a≤7)(hk:0≤k∧k≤4294967295) :
  Av ⟨21,d,s,t,u,a,k,q⟩ places=(!decide (1<k)&&!decide (q < -1)&&decide ((⟨21,d,s,t,0,a,k,q⟩:In)=⟨21,d,s,t,u,a,k,q⟩)&&(decide (q = -1)||decide (q<places))):=by
 rw[Bool.eq_iff_iff,AR _ _ (by show Ag 21≠[];decide)]
 show B0 (AF places [68,65,83,87] ⟨0,d,s,t,u,a,k,q⟩)=true↔_
 have n_d:¬(d<0∨7<d):=by omega
 have n_a:¬(a<0∨7<a):=by omega
 have n_s:¬(s<0∨7<s):=by omega
 simp only[AF,Bn,Ap,In.get,In.put,UInt8.reduceToNat];by_cases hc:1<k
 ·simp[n_d,n_a,n_s,hc,B0,In.zero];try omega
 ·by_cases hd2:t<0∨7<t∨q < -1∨(¬q = -1∧places≤q)
  ·simp[n_d,n_a,n_s,hc,hd2,B0,In.zero];try omega
  ·simp[n_d,n_a,n_s,hc,hd2,B0,In.zero];try omega
theorem Lx(d s t u a k q places:Int)(hd:0≤d∧d≤7)(hs:0≤s∧s≤7)(ht:0≤t∧t≤7)(hu:0≤u∧u≤7)(ha:0≤a∧a≤7)(hk:0≤k∧k≤4294967295) :
  Av ⟨22,d,s,t,u,a,k,q⟩ places=(decide ((⟨22,d,0,0,0,0,0,0⟩:In)=⟨22,d,s,t,u,a,k,q⟩)):=by
 rw[Bool.eq_iff_iff,AR _ _ (by show Ag 22≠[];decide)]
 show B0 (AF places [68] ⟨0,d,s,t,u,a,k,q⟩)=true↔_
 have n_d:¬(d<0∨7<d):=by omega
 simp only[AF,Bn,Ap,In.get,In.put,UInt8.reduceToNat];simp[n_d,B0,In.zero];try omega
theorem Ly(d s t u a k q places:Int)(hd:0≤d∧d≤7)(hs:0≤s∧s≤7)(ht:0≤t∧t≤7)(hu:0≤u∧u≤7)(ha:0≤a∧a≤7)(hk:0≤k∧k≤4294967295) :
  Av ⟨23,d,s,t,u,a,k,q⟩ places=(decide ((⟨23,0,s,0,0,0,0,0⟩:In)=⟨23,d,s,t,u,a,k,q⟩)):=by
 rw[Bool.eq_iff_iff,AR _ _ (by show Ag 23≠[];decide)]
 show B0 (AF places [83] ⟨0,d,s,t,u,a,k,q⟩)=true↔_
 have n_s:¬(s<0∨7<s):=by omega
 simp only[AF,Bn,Ap,In.get,In.put,UInt8.reduceToNat];simp[n_s,B0,In.zero];try omega
end
end Go.Proofs.YtjjpiefgdggghaaGreatDoor
namespace Go.Proofs.YtjjpiefgdggghaaGreatDoorW.PrintWords
section
open Go.RowKit
section
variable {P:Program} {d:Nat} {xs ys:Array Value} {f:Field} {fs:List Field} {a b:Value} {r s:Bool} {w:World}
theorem MH(hn:(f.name == "_")=false)(ha:(part f.type xs f.offset).run P w=.ok a w)(hb:(part f.type ys f.offset).run P w=.ok b w)(he:(Op.equalIn d f.type a b).run P w=.ok r w):(Op.eqFields d xs ys [f]).run P w=.ok r w:=by
 have hn':f.name ≠ "_" :=by simpa using hn
 simp only[Op.eqFields,if_pos hn',Sem.run_bind,ha,hb,he,Result.andThen_ok];cases r<;>simp
theorem DB(hn:(f.name == "_")=false)(ha:(part f.type xs f.offset).run P w=.ok a w)(hb:(part f.type ys f.offset).run P w=.ok b w)(he:(Op.equalIn d f.type a b).run P w=.ok r w)(hr:(Op.eqFields d xs ys fs).run P w=.ok s w):(Op.eqFields d xs ys (f::fs)).run P w=.ok (r&&s) w:=by
 have hn':f.name ≠ "_" :=by simpa using hn
 rw[Op.eqFields];simp only[if_pos hn',Sem.run_bind,ha,hb,he,Result.andThen_ok];cases r
 ·simp
 ·simpa using hr
theorem Pf{t:TypeId}{fs:Array Field}(hu:P.underlying t=some (.struct fs))(hp:P.stoodInHeld t=false)(h:(Op.eqFields d xs ys fs.toList).run P w=.ok r w):(Op.equalIn (d+1) t (.agg xs) (.agg ys)).run P w=.ok r w:=by
 have hf:P.fieldsOf t=fs:=by simp[Program.fieldsOf,hu]
 rw[run_equalIn_struct (P:=P) w d t xs ys (by rw[hf];exact hu) hp,hf];exact h
end
end
end Go.Proofs.YtjjpiefgdggghaaGreatDoorW.PrintWords
