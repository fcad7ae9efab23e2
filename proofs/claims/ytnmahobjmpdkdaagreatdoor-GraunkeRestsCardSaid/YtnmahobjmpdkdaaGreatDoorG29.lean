/- Parts: RefRightD, RefSort, RefTextB, RefTextD. -/
import Derived.Test.YtnmahobjmpdkdaaGreatDoorG02
import Derived.Test.YtnmahobjmpdkdaaGreatDoorG05
import Derived.Test.YtnmahobjmpdkdaaGreatDoorG12
import Derived.Test.YtnmahobjmpdkdaaGreatDoorG04
import Derived.RegionTactic
import Derived.BigRegion
import Derived.Deep.RegionHeld3
import Derived.Test.YtnmahobjmpdkdaaGreatDoorG03
import Derived.Test.YtnmahobjmpdkdaaGreatDoorG14
import Derived.Test.YtnmahobjmpdkdaaGreatDoorG16
set_option linter.unusedVariables false
set_option linter.unusedSimpArgs false
set_option maxRecDepth 100000
set_option maxHeartbeats 40000000
namespace Go.Proofs.YtnmahobjmpdkdaaGreatDoor
section
open Go.RowKit Go.Proofs.YtnmahobjmpdkdaaGreatDoorW.PrintWords
theorem PD(d s t u a k q places:Int)(w:World)(hd:0≤d∧d≤7)(hs:0≤s∧s≤7)(ht:0≤t∧t≤7)(hu:0≤u∧u≤7)(ha:0≤a∧a≤7)(hk:0≤k∧k≤4294967295) :
  Calls Tryz.prog 64 #[.agg #[.int .i64 19,.int .i64 d,.int .i64 s,.int .i64 t,.int .i64 u,.int .i64 a,.int .u32 k,.int .i64 q],.int .i64 places] w fun e w'=>e=.returned (.bool (AN ⟨19,d,s,t,u,a,k,q⟩ places))∧Below w.heap.size w w':=by
 rw[Tc d s t u a k q places hd hs ht hu ha hk];have keq:∀ W,(binOp .eql 90 (.agg #[.int .i64 19,.int .i64 d,.int .i64 s,.int .i64 t,.int .i64 u,.int .i64 a,.int .u32 0,.int .i64 0]) (.agg #[.int .i64 19,.int .i64 d,.int .i64 s,.int .i64 t,.int .i64 u,.int .i64 a,.int .u32 k,.int .i64 q])).run Tryz.prog W=.ok (.bool (decide ((⟨19,d,s,t,u,a,0,0⟩:In)=⟨19,d,s,t,u,a,k,q⟩))) W:=fun W=>DQ ⟨19,d,s,t,u,a,0,0⟩ ⟨19,d,s,t,u,a,k,q⟩ W
 generalize decide ((⟨19,d,s,t,u,a,0,0⟩:In)=⟨19,d,s,t,u,a,k,q⟩)=cmp at keq ⊢;generalize hfin:(cmp)=fin;replace hfin:=Az hfin;go_enter Tryz.func64,Tryz.ntmps64;go_wp2_with fail
 refine(AA 19 _).mono ?_;rintro e w1 ⟨rfl,hb⟩;have BK:=Az (Bk hb (Bv w _));have z:w.heap.size<w1.heap.size:=Bl BK.out;have hbe:Below w.heap.size w w1:=((Below.refl w.heap.size w).alloc (Nl _) _).trans (hb.mono (by simp));replace hbe:=Az hbe;have c0:w1.cell? ⟨w.heap.size,0,none⟩=some (.int .i64 19):=(Bc BK.out 0).trans rfl;have c1:w1.cell? ⟨w.heap.size,1,none⟩=some (.int .i64 d):=(Bc BK.out 1).trans rfl;have c2:w1.cell? ⟨w.heap.size,2,none⟩=some (.int .i64 s):=(Bc BK.out 2).trans rfl;have c3:w1.cell? ⟨w.heap.size,3,none⟩=some (.int .i64 t):=(Bc BK.out 3).trans rfl;have c4:w1.cell? ⟨w.heap.size,4,none⟩=some (.int .i64 u):=(Bc BK.out 4).trans rfl;have c5:w1.cell? ⟨w.heap.size,5,none⟩=some (.int .i64 a):=(Bc BK.out 5).trans rfl;have c6:w1.cell? ⟨w.heap.size,6,none⟩=some (.int .u32 k):=(Bc BK.out 6).trans rfl;have c7:w1.cell? ⟨w.heap.size,7,none⟩=some (.int .i64 q):=(Bc BK.out 7).trans rfl;rw[show Ak 19=[99,97,115] from rfl];go_wp2_with fail
 refine(At d hd _).mono ?_;rintro e w' ⟨rfl,rfl⟩;go_wp2_with fail
 refine(At s hs _).mono ?_;rintro e w' ⟨rfl,rfl⟩;go_wp2_with fail
 refine(At t ht _).mono ?_;rintro e w' ⟨rfl,rfl⟩;go_wp2_with fail
 refine(At u hu _).mono ?_;rintro e w' ⟨rfl,rfl⟩;go_wp2_with fail
 refine(At a ha _).mono ?_;rintro e w' ⟨rfl,rfl⟩;go_wp2_with fail
 go_region_held3 (fun W=>W.cell? ⟨w.heap.size,1,none⟩=some (.int .i64 d)∧W.cell? ⟨w.heap.size,5,none⟩=some (.int .i64 a)∧W.cell? ⟨w.heap.size,2,none⟩=some (.int .i64 s)∧W.cell? ⟨w.heap.size,3,none⟩=some (.int .i64 t)∧W.cell? ⟨w.heap.size,4,none⟩=some (.int .i64 u)) (go_keep) (fail)
 cases cmp with
 |false =>
  go_wp2;go_ret;refine⟨congrArg (fun b=>Ending.returned (.bool b)) (show false=fin from ?_),?_⟩
  ·first |(rw[←hfin.out];done) |(rw[←hfin.out];simp)
  ·apply_rules [Bd,Below.setCell,Below.alloc,hbe.out]<;>first |omega |(simp;omega)
 |true =>
  go_wp2;go_ret;refine⟨congrArg (fun b=>Ending.returned (.bool b)) (show true=fin from ?_),?_⟩
  ·first |(rw[←hfin.out];done) |(rw[←hfin.out];simp)
  ·apply_rules [Bd,Below.setCell,Below.alloc,hbe.out]<;>first |omega |(simp;omega)
theorem PE(d s t u a k q places:Int)(w:World)(hd:0≤d∧d≤7)(hs:0≤s∧s≤7)(ht:0≤t∧t≤7)(hu:0≤u∧u≤7)(ha:0≤a∧a≤7)(hk:0≤k∧k≤4294967295) :
  Calls Tryz.prog 64 #[.agg #[.int .i64 21,.int .i64 d,.int .i64 s,.int .i64 t,.int .i64 u,.int .i64 a,.int .u32 k,.int .i64 q],.int .i64 places] w fun e w'=>e=.returned (.bool (AN ⟨21,d,s,t,u,a,k,q⟩ places))∧Below w.heap.size w w':=by
 rw[Te d s t u a k q places hd hs ht hu ha hk];have keq:∀ W,(binOp .eql 90 (.agg #[.int .i64 21,.int .i64 d,.int .i64 s,.int .i64 t,.int .i64 0,.int .i64 a,.int .u32 k,.int .i64 q]) (.agg #[.int .i64 21,.int .i64 d,.int .i64 s,.int .i64 t,.int .i64 u,.int .i64 a,.int .u32 k,.int .i64 q])).run Tryz.prog W=.ok (.bool (decide ((⟨21,d,s,t,0,a,k,q⟩:In)=⟨21,d,s,t,u,a,k,q⟩))) W:=fun W=>DQ ⟨21,d,s,t,0,a,k,q⟩ ⟨21,d,s,t,u,a,k,q⟩ W
 generalize decide ((⟨21,d,s,t,0,a,k,q⟩:In)=⟨21,d,s,t,u,a,k,q⟩)=cmp at keq ⊢;generalize hfin:(!decide (1<k)&&!decide (q < -1)&&cmp&&(decide (q = -1)||decide (q<places)))=fin;replace hfin:=Az hfin;go_enter Tryz.func64,Tryz.ntmps64;go_wp2_with fail
 refine(AA 21 _).mono ?_;rintro e w1 ⟨rfl,hb⟩;have BK:=Az (Bk hb (Bv w _));have z:w.heap.size<w1.heap.size:=Bl BK.out;have hbe:Below w.heap.size w w1:=((Below.refl w.heap.size w).alloc (Nl _) _).trans (hb.mono (by simp));replace hbe:=Az hbe;have c0:w1.cell? ⟨w.heap.size,0,none⟩=some (.int .i64 21):=(Bc BK.out 0).trans rfl;have c1:w1.cell? ⟨w.heap.size,1,none⟩=some (.int .i64 d):=(Bc BK.out 1).trans rfl;have c2:w1.cell? ⟨w.heap.size,2,none⟩=some (.int .i64 s):=(Bc BK.out 2).trans rfl;have c3:w1.cell? ⟨w.heap.size,3,none⟩=some (.int .i64 t):=(Bc BK.out 3).trans rfl;have c4:w1.cell? ⟨w.heap.size,4,none⟩=some (.int .i64 u):=(Bc BK.out 4).trans rfl;have c5:w1.cell? ⟨w.heap.size,5,none⟩=some (.int .i64 a):=(Bc BK.out 5).trans rfl;have c6:w1.cell? ⟨w.heap.size,6,none⟩=some (.int .u32 k):=(Bc BK.out 6).trans rfl;have c7:w1.cell? ⟨w.heap.size,7,none⟩=some (.int .i64 q):=(Bc BK.out 7).trans rfl;rw[show Ak 21=[97,119,97,105,116] from rfl];go_wp2_with fail
 refine(At d hd _).mono ?_;rintro e w' ⟨rfl,rfl⟩;go_wp2_with fail
 refine(At s hs _).mono ?_;rintro e w' ⟨rfl,rfl⟩;go_wp2_with fail
 refine(At t ht _).mono ?_;rintro e w' ⟨rfl,rfl⟩;go_wp2_with fail
 refine(At u hu _).mono ?_;rintro e w' ⟨rfl,rfl⟩;go_wp2_with fail
 refine(At a ha _).mono ?_;rintro e w' ⟨rfl,rfl⟩;go_wp2_with fail
 go_region_held3 (fun W=>W.cell? ⟨w.heap.size,1,none⟩=some (.int .i64 d)∧W.cell? ⟨w.heap.size,5,none⟩=some (.int .i64 a)∧W.cell? ⟨w.heap.size,2,none⟩=some (.int .i64 s)∧W.cell? ⟨w.heap.size,3,none⟩=some (.int .i64 t)∧W.cell? ⟨w.heap.size,6,none⟩=some (.int .u32 k)∧W.cell? ⟨w.heap.size,7,none⟩=some (.int .i64 q)) (go_keep) (fail)
 by_cases h0:1<k
 ·skip
  go_wp2;go_ret;refine⟨congrArg (fun b=>Ending.returned (.bool b)) (show false=fin from ?_),?_⟩
  ·first |(rw[←hfin.out];done) |(rw[←hfin.out];simp[h0])
  ·apply_rules [Bd,Below.setCell,Below.alloc,hbe.out]<;>first |omega |(simp;omega)
 by_cases h1:q < -1
 ·skip
  go_wp2;go_ret;refine⟨congrArg (fun b=>Ending.returned (.bool b)) (show false=fin from ?_),?_⟩
  ·first |(rw[←hfin.out];done) |(rw[←hfin.out];simp[h1])
  ·apply_rules [Bd,Below.setCell,Below.alloc,hbe.out]<;>first |omega |(simp;omega)
 cases cmp with
 |false =>
  go_wp2;go_ret;refine⟨congrArg (fun b=>Ending.returned (.bool b)) (show false=fin from ?_),?_⟩
  ·first |(rw[←hfin.out];done) |(rw[←hfin.out];simp)
  ·apply_rules [Bd,Below.setCell,Below.alloc,hbe.out]<;>first |omega |(simp;omega)
 |true =>
  by_cases h7:q = -1
  ·have h7b:(q == -1)=true:=beq_iff_eq.2 h7;replace h7:=Az h7;go_wp2;go_ret;refine⟨congrArg (fun b=>Ending.returned (.bool b)) (show true=fin from ?_),?_⟩
   ·first |(rw[←hfin.out];done) |(rw[←hfin.out];simp[h0,h7.out])
   ·apply_rules [Bd,Below.setCell,Below.alloc,hbe.out]<;>first |omega |(simp;omega)
  have h7b:(q == -1)=false:=Bq h7;by_cases h8:q<places
  ·skip
   go_wp2;go_ret;refine⟨congrArg (fun b=>Ending.returned (.bool b)) (show true=fin from ?_),?_⟩
   ·first |(rw[←hfin.out];done) |(rw[←hfin.out];simp[h0,h1,h8])
   ·apply_rules [Bd,Below.setCell,Below.alloc,hbe.out]<;>first |omega |(simp;omega)
  ·have h8b:decide (q<places)=false:=decide_eq_false h8;go_wp2;go_ret;refine⟨congrArg (fun b=>Ending.returned (.bool b)) (show false=fin from ?_),?_⟩
   ·first |(rw[←hfin.out];done) |(rw[←hfin.out];simp[h7,h8])
   ·apply_rules [Bd,Below.setCell,Below.alloc,hbe.out]<;>first |omega |(simp;omega)
end
section
open Go.RowKit Go.Proofs.YtnmahobjmpdkdaaGreatDoorW.PrintWords Go.Lib
theorem PB(l:List UInt8)(k:Nat):bt ⟨l.toArray⟩ (k:Int)=((l.getD k 0).toNat:Int):=by
 unfold bt;by_cases h:k<l.length
 ·rw[dif_pos (by simpa [ByteArray.size]using h)];simp[List.getD_eq_getElem?_getD,List.getElem?_eq_getElem h];rfl
 ·rw[dif_neg (by simpa [ByteArray.size]using h)];simp[List.getD_eq_getElem?_getD,List.getElem?_eq_none (Nat.le_of_not_lt h)]
theorem size_mk(l:List UInt8):((⟨l.toArray⟩:ByteArray).size:Int)=l.length:=by simp[ByteArray.size]
theorem Ra(l:List UInt8):Cb.f ⟨l.toArray⟩=some (SW l):=by
 have e0:bt ⟨l.toArray⟩ 0=((l.getD 0 0).toNat:Int):=PB l 0;have e1:bt ⟨l.toArray⟩ 1=((l.getD 1 0).toNat:Int):=PB l 1;have b0:=(l.getD 0 0).toNat_lt;have b1:=(l.getD 1 0).toNat_lt;unfold Cb.f SW;rw[size_mk,e0,e1];by_cases c1:l.length=2
 ·rw[if_pos (by omega),if_pos (by omega)];by_cases c2:(l.getD 0 0).toNat=114
  ·rw[if_pos (by omega),if_pos (by omega)];by_cases c3:((l.getD 1 0).toNat:Int)<48
   ·rw[if_pos c3,if_neg (by omega)]
   ·rw[if_neg c3];by_cases c4:((l.getD 1 0).toNat:Int) > 55
    ·rw[if_pos c4,if_neg (by omega)]
    ·rw[if_neg c4,if_pos (by omega)]
     congr 1
     omega
  ·rw[if_neg (by omega),if_neg (by omega)]
 ·rw[if_neg (by omega),if_neg (by omega)]
theorem L9(l:List UInt8)(w:World):Calls Tryz.prog 90 #[.string ⟨l.toArray⟩] w fun e w'=>e=.returned (.int .i64 (SW l))∧Below w.heap.size w w' :=
 (Cb.calls ⟨l.toArray⟩ _ w (Ra l)).mono (fun e w' h=>⟨h.1,h.2.below⟩)
def IW:List UInt8→Nat→Int
 |[],n=>if 4294967295<n then -1 else n
 |c::l,n=>if c.toNat<48∨57<c.toNat then -1 else IW l (n*10+(c.toNat-48))
theorem Nc{x:Int}(h0:0≤x)(h1:x<9223372036854775808):wrap64 x=x:=by unfold wrap64;omega
theorem LA:∀ (l:List UInt8) (n:Nat),IW l n=match decFrom n l with |some n=>if 4294967295<n then -1 else n |none => -1
 |[],n=>rfl
 |c::l,n=>by
  unfold IW;by_cases h:c.toNat<48∨57<c.toNat
  ·rw[if_pos h];have:digitVal c=none:=by unfold digitVal;rw[if_neg (by omega)]
   simp only[decFrom,this]
  ·rw[if_neg h,LA l];have:digitVal c=some (c.toNat-48):=by unfold digitVal;rw[if_pos (by omega)]
   simp only[decFrom,this]
theorem PC(l:List UInt8)(hl:l.length≤10):∀ (m i n:Nat),i+m=l.length→n<10 ^ i→Ah.l0 (m+1) ⟨l.toArray⟩ (n:Int) (i:Int)=some (IW (l.drop i) n)
 |0,i,n,hi,hn=>by
  rw[List.drop_eq_nil_of_le (by omega)];unfold Ah.l0 IW;rw[size_mk,if_neg (by omega)];by_cases h:4294967295<n
  ·rw[if_pos (by omega),if_pos h]
  ·rw[if_neg (by omega),if_neg h]
 |m+1,i,n,hi,hn=>by
  have hlt:i<l.length:=by omega
  have hb:=PB l i;have hp:10 ^ (i+1)≤10 ^ 10:=Nat.pow_le_pow_right (by omega) (by omega);have hn1:n*10+9<10 ^ (i+1):=by rw[Nat.pow_succ];omega
  have b1:=(l.getD i 0).toNat_lt;have hn2:n*10+9<10000000000:=Nat.lt_of_lt_of_le hn1 hp;rw[List.drop_eq_getElem_cons hlt];have hg:l[i]=l.getD i 0:=by simp[List.getD_eq_getElem?_getD,List.getElem?_eq_getElem hlt]
  rw[hg];unfold IW;rw[Ah.l0,size_mk,if_pos (by omega),if_pos (by omega),hb];by_cases c1:((l.getD i 0).toNat:Int)<48
  ·rw[if_pos c1,if_pos (by omega)]
  ·rw[if_neg c1];by_cases c2:((l.getD i 0).toNat:Int) > 57
   ·rw[if_pos c2,if_pos (by omega)]
   ·rw[if_neg c2,if_neg (by omega)];have e1:wrap64 ((wrap64 ((n:Int)*10))+((((l.getD i 0).toNat:Int)-48)%256))=((n*10+((l.getD i 0).toNat-48):Nat):Int):=by
     rw[Nc (show 0≤(n:Int)*10 by omega) (by omega),Nc (by omega) (by omega)];omega
    have e2:wrap64 ((i:Int)+1)=((i+1:Nat):Int):=by unfold wrap64;omega
    rw[e1,e2];exact PC l hl m (i+1) _ (by omega) (Nat.lt_of_le_of_lt (by omega) hn1)
theorem Va(l:List UInt8):Ah.f 13 ⟨l.toArray⟩=some (SX l):=by
 unfold Ah.f SX;rw[size_mk,toList_mk];have e0:bt ⟨l.toArray⟩ 0=((l.getD 0 0).toNat:Int):=PB l 0;rw[e0];by_cases c1:l=[]
 ·rw[if_pos c1,if_pos (.inl c1)];unfold Ah.j0;rfl
 ·rw[if_neg c1];by_cases c2:10<l.length
  ·rw[if_pos (by omega),if_pos (.inr (.inl c2))];unfold Ah.j0;rfl
  ·rw[if_neg (by omega)];have key:Ah.j0 13 ⟨l.toArray⟩ false=some (IW l 0):=by
    have h:=PC l (by omega) l.length 0 0 (by omega) (by decide);have hm:=(Ah.EE)
    have mono:∀ k,Ah.l0 (l.length+1) ⟨l.toArray⟩ 0 0=some (IW l 0)→Ah.l0 (l.length+1+k) ⟨l.toArray⟩ 0 0=some (IW l 0):=by
     intro k;induction k with
     |zero=>exact id
     |succ k ih=>intro h;exact(hm _).2 _ _ _ _ (ih h)
    have:=mono (12-(l.length+1)) h;rw[show l.length+1+(12-(l.length+1))=12 by omega]at this;unfold Ah.j0;exact this
   by_cases c3:1<l.length
   ·rw[if_pos (by omega),if_pos (by omega)];by_cases c4:(l.getD 0 0).toNat=48
    ·rw[if_pos (.inr (.inr ⟨c3,c4⟩)),show((((l.getD 0 0).toNat:Int))==48)=true from beq_iff_eq.2 (by omega)];unfold Ah.j0;rfl
    ·rw[if_neg (by rintro(h |h |h);exact c1 h;exact c2 h;exact c4 h.2),show((((l.getD 0 0).toNat:Int))==48)=false from Bq (by omega),key,LA];rfl
   ·rw[if_neg (by omega),if_neg (by rintro(h |h |h);exact c1 h;exact c2 h;exact c3 h.1),key,LA];rfl
theorem M8(l:List UInt8)(w:World):Calls Tryz.prog 91 #[.string ⟨l.toArray⟩] w fun e w'=>e=.returned (.int .i64 (SX l))∧Below w.heap.size w w' :=
 (Ah.calls 13 ⟨l.toArray⟩ _ w (Va l)).mono (fun e w' h=>⟨h.1,h.2.below⟩)
theorem Oj(l:List UInt8)(hl:l.length≤100000):∀ (m i f:Nat) (out:List (List UInt8)),i+m=l.length→f≤i→out.length≤f→(32:UInt8)∉(l.drop f).take (i-f) →
  Ax.l0 (m+2) ⟨l.toArray⟩ (out.map fun x=>⟨x.toArray⟩) (f:Int) (i:Int)=some ((out++AR (l.drop f)).map fun x=>⟨x.toArray⟩)
 |0,i,f,out,hi,hf,ho,hn=>by
  have e:wrap64 ((i:Int)+1)=((i+1:Nat):Int):=by unfold wrap64;omega
  rw[Ax.l0,size_mk,if_pos (by omega),if_pos (by omega),if_pos (by omega),if_pos (by omega),if_pos (by simp;omega),e,Ax.l0,size_mk,if_neg (by omega)];rw[List.take_of_length_le (by rw[List.length_drop];omega)]at hn;rw[FC _ hn];simp only[Int.toNat_natCast,Ea,List.map_append,List.map_cons,List.map_nil];rw[List.take_of_length_le (by rw[List.length_drop];omega)]
 |m+1,i,f,out,hi,hf,ho,hn=>by
  have hlt:i<l.length:=by omega
  have e:wrap64 ((i:Int)+1)=((i+1:Nat):Int):=by unfold wrap64;omega
  have hg:l[i]?=some (l.getD i 0):=by simp[List.getD_eq_getElem?_getD,List.getElem?_eq_getElem hlt]
  have hd:(l.drop f)[i-f]?=some (l.getD i 0):=by rw[List.getElem?_drop,show f+(i-f)=i by omega,hg]
  rw[Ax.l0,size_mk,if_pos (by omega),if_neg (by omega),if_pos (by omega),if_pos (by omega),PB,e];by_cases c:l.getD i 0=32
  ·have c':((l.getD i 0).toNat:Int)=32:=by rw[c];rfl
   rw[if_pos c',if_pos (by omega),if_pos (by omega),if_pos (by simp;omega)];have hx:(out.map fun x=>(⟨x.toArray⟩:ByteArray))++[(⟨l.toArray⟩:ByteArray).extract (f:Int).toNat (i:Int).toNat]=(out++[(l.drop f).take (i-f)]).map fun x=>⟨x.toArray⟩:=by
    simp only[Int.toNat_natCast,Ea,List.map_append,List.map_cons,List.map_nil]
   rw[hx,Oj l hl m (i+1) (i+1) _ (by omega) (by omega) (by simp;omega) (by simp)];have hs:l.drop f=(l.drop f).take (i-f)++32::l.drop (i+1):=by
    conv=>lhs;rw[←List.take_append_drop (i-f) (l.drop f)]
    rw[List.drop_drop,show f+(i-f)=i by omega,List.drop_eq_getElem_cons hlt];rw[show l[i]=32 by rw[←c];simp[List.getD_eq_getElem?_getD,List.getElem?_eq_getElem hlt]]
   conv=>rhs;rw[hs,Lp _ _ hn]
   simp
  ·have c':¬((l.getD i 0).toNat:Int)=32:=fun h=>c (UInt8.toNat_inj.1 (by show(l.getD i 0).toNat=32;omega))
   rw[if_neg c'];refine Oj l hl m (i+1) f out (by omega) (by omega) ho ?_;rw[show i+1-f=(i-f)+1 by omega,List.take_add_one,hd];intro h;rcases List.mem_append.1 h with h |h
   ·exact hn h
   ·have h':(32:UInt8)=l.getD i 0:=by simpa using h
    exact c h'.symm
theorem Xo(l:List UInt8)(hl:l.length≤100000):Ax.f (l.length+2) ⟨l.toArray⟩=some ((AR l).map fun x=>⟨x.toArray⟩):=by
 have h:=Oj l hl l.length 0 0 [] (by omega) (by omega) (by simp) (by simp);exact h
theorem IX(l:List UInt8)(hl:l.length≤100000)(w:World):Calls Tryz.prog 72 #[.string ⟨l.toArray⟩] w fun e w' =>
  ∃ g c cur,e=.returned (.slice (some ⟨g,0,none⟩) (AR l).length c)∧(AR l).length≤c∧w'.heap[g]?=some (.cells cur 9 (0,0))∧w.heap.size≤g∧(∀ j,j<(AR l).length→cur[j]?=some (.string ⟨((AR l).getD j []).toArray⟩))∧Below w.heap.size w w':=by
 refine(Ax.calls (l.length+2) ⟨l.toArray⟩ _ w (Xo l hl)).mono ?_;rintro e w' ⟨v,rfl,hR,hb⟩;have ho:=Kd.GW hR;obtain⟨h1,h2⟩:=ho;have hne:=EW l;have hp:0<(AR l).length:=List.length_pos_iff.2 hne;rw[List.length_map]at h2;rcases h2 with ⟨rfl,h0⟩ |⟨g,cap,cur,rfl,hg,hh,hc,hm,hs,ht⟩
 ·omega
 ·refine⟨g,cap,cur,rfl,hc,hh,hg,fun j hj=>?_,hb⟩;have e:(cur.toList.take ((AR l).length*1))[j]?=(QI Value.string ((AR l).map fun x=>(⟨x.toArray⟩:ByteArray)))[j]?:=by rw[ht]
  rw[List.getElem?_take_of_lt (by omega),Array.getElem?_toList]at e;rw[e];simp[QI,hj]
end
section
open Go.RowKit Go.Proofs.YtnmahobjmpdkdaaGreatDoorW.PrintWords
theorem Aa8(d s t u a k q:Int)(hf:In.fits ⟨6,d,s,t,u,a,k,q⟩)(w:World):Calls Tryz.prog 92 #[In.v ⟨6,d,s,t,u,a,k,q⟩] w fun e w'=>e=.returned (.string ⟨(Bz ⟨6,d,s,t,u,a,k,q⟩).toArray⟩)∧Below w.heap.size w w':=by
 have te:Bz ⟨6,d,s,t,u,a,k,q⟩=Ak 6++(((32::114::dec d)++(32::114::dec s))++(32::dec k)):=by
  show Go.Lib.join (Ak 6::List.flatten [[114::dec d],[114::dec s],[dec k]]) [32]=_
  simp[BH,Go.Lib.join_one]
 obtain⟨CK,CA,wk,lk,la,CQ,ld0,ls0,lt0,lu0,lk0,la0,lq0⟩:=BY hf;have CN:=Az (fun W=>AA 6 W);have Cd:=Az (fun W=>AU hf.d.1 (Int.le_trans hf.d.2 (by decide)) W);have Cs:=Az (fun W=>AU hf.s.1 (Int.le_trans hf.s.2 (by decide)) W);dsimp only at Cd Cs;have ln0:(Ak 6).length=3:=by decide
 have b2:¬9223372036854775807<(((dec d).length+1+1)+((dec s).length+1+1)):=by omega
 have b3:¬9223372036854775807<((((dec d).length+1+1)+((dec s).length+1+1))+(1+(dec k).length)):=by omega
 have bn:¬9223372036854775807<(Ak 6).length+((((dec d).length+1+1)+((dec s).length+1+1))+(1+(dec k).length)):=by omega
 clear lk0 lq0 ld0 ls0 lt0 lu0 la0 ln0;have hS:=BD w 6 d s t u a k q;replace hf:=Az hf;replace te:=Az te;unfold In.v;go_enter Tryz.func92,Tryz.ntmps92;go_wp2_with fail
 go_region_held3 (fun W=>RB w W 6 d s t u a k q) (first |exact hS |exact Ad hb (by assumption))
  (first
   |(go_at_call 105;(with_reducible refine(CK.out _).mono ?_);rintro e w' ⟨rfl,hb⟩)
   |(go_at_call 105;(with_reducible refine(CA.out _).mono ?_);rintro e w' ⟨rfl,hb⟩))
 obtain⟨HA,y0,y1,y2,y3,y4,y5,y6,y7⟩:=Ad (Below.refl _ _) (by assumption);by_cases hq:0≤q;obtain⟨CQ,lq⟩:=CQ.out hq;go_wp2_with fail
 refine(CQ.out _).mono ?_;rintro e w2 ⟨rfl,hb2⟩;obtain⟨HA,y0,y1,y2,y3,y4,y5,y6,y7⟩:=Ad hb2 ⟨HA,y0,y1,y2,y3,y4,y5,y6,y7⟩;go_wp2_with fail
 rotate_left;go_wp2_with fail
 rotate_left;all_goals (
  refine(CN.out _).mono ?_;rintro e w2 ⟨rfl,hb2⟩;obtain⟨HA,y0,y1,y2,y3,y4,y5,y6,y7⟩:=Ad hb2 ⟨HA,y0,y1,y2,y3,y4,y5,y6,y7⟩;go_wp2_with fail
  have hT:=Ad (Bd (Below.refl _ _)) ⟨HA,y0,y1,y2,y3,y4,y5,y6,y7⟩;go_region_held3 (fun W=>RB w W 6 d s t u a k q) (first |exact hT |exact Ad hb (by assumption))
   (first
    |(go_at_call 106;(with_reducible refine(Cd.out _).mono ?_);rintro e w' ⟨rfl,hb⟩)
    |(go_at_call 106;(with_reducible refine(Cs.out _).mono ?_);rintro e w' ⟨rfl,hb⟩))
  obtain⟨HA,y0,y1,y2,y3,y4,y5,y6,y7⟩:=Ad (Below.refl _ _) (by assumption);go_wp2;go_ret;refine⟨BJ ?_,HA.out.2⟩;rw[te.out];simp[D4,BV])
theorem Aa9(d s t u a k q:Int)(hf:In.fits ⟨7,d,s,t,u,a,k,q⟩)(w:World):Calls Tryz.prog 92 #[In.v ⟨7,d,s,t,u,a,k,q⟩] w fun e w'=>e=.returned (.string ⟨(Bz ⟨7,d,s,t,u,a,k,q⟩).toArray⟩)∧Below w.heap.size w w':=by
 have te:Bz ⟨7,d,s,t,u,a,k,q⟩=Ak 7++(((32::114::dec d)++(32::114::dec s))++(32::114::dec t)):=by
  show Go.Lib.join (Ak 7::List.flatten [[114::dec d],[114::dec s],[114::dec t]]) [32]=_
  simp[BH,Go.Lib.join_one]
 obtain⟨CK,CA,wk,lk,la,CQ,ld0,ls0,lt0,lu0,lk0,la0,lq0⟩:=BY hf;have CN:=Az (fun W=>AA 7 W);have Cd:=Az (fun W=>AU hf.d.1 (Int.le_trans hf.d.2 (by decide)) W);have Cs:=Az (fun W=>AU hf.s.1 (Int.le_trans hf.s.2 (by decide)) W);have Ct:=Az (fun W=>AU hf.t.1 (Int.le_trans hf.t.2 (by decide)) W);dsimp only at Cd Cs Ct;have ln0:(Ak 7).length=2:=by decide
 have b2:¬9223372036854775807<(((dec d).length+1+1)+((dec s).length+1+1)):=by omega
 have b3:¬9223372036854775807<((((dec d).length+1+1)+((dec s).length+1+1))+((dec t).length+1+1)):=by omega
 have bn:¬9223372036854775807<(Ak 7).length+((((dec d).length+1+1)+((dec s).length+1+1))+((dec t).length+1+1)):=by omega
 clear lk0 lq0 ld0 ls0 lt0 lu0 la0 ln0;have hS:=BD w 7 d s t u a k q;replace hf:=Az hf;replace te:=Az te;unfold In.v;go_enter Tryz.func92,Tryz.ntmps92;go_wp2_with fail
 go_region_held3 (fun W=>RB w W 7 d s t u a k q) (first |exact hS |exact Ad hb (by assumption))
  (first
   |(go_at_call 105;(with_reducible refine(CK.out _).mono ?_);rintro e w' ⟨rfl,hb⟩)
   |(go_at_call 105;(with_reducible refine(CA.out _).mono ?_);rintro e w' ⟨rfl,hb⟩))
 obtain⟨HA,y0,y1,y2,y3,y4,y5,y6,y7⟩:=Ad (Below.refl _ _) (by assumption);by_cases hq:0≤q;obtain⟨CQ,lq⟩:=CQ.out hq;go_wp2_with fail
 refine(CQ.out _).mono ?_;rintro e w2 ⟨rfl,hb2⟩;obtain⟨HA,y0,y1,y2,y3,y4,y5,y6,y7⟩:=Ad hb2 ⟨HA,y0,y1,y2,y3,y4,y5,y6,y7⟩;go_wp2_with fail
 rotate_left;go_wp2_with fail
 rotate_left;all_goals (
  refine(CN.out _).mono ?_;rintro e w2 ⟨rfl,hb2⟩;obtain⟨HA,y0,y1,y2,y3,y4,y5,y6,y7⟩:=Ad hb2 ⟨HA,y0,y1,y2,y3,y4,y5,y6,y7⟩;go_wp2_with fail
  have hT:=Ad (Bd (Below.refl _ _)) ⟨HA,y0,y1,y2,y3,y4,y5,y6,y7⟩;go_region_held3 (fun W=>RB w W 7 d s t u a k q) (first |exact hT |exact Ad hb (by assumption))
   (first
    |(go_at_call 106;(with_reducible refine(Cd.out _).mono ?_);rintro e w' ⟨rfl,hb⟩)
    |(go_at_call 106;(with_reducible refine(Cs.out _).mono ?_);rintro e w' ⟨rfl,hb⟩)
    |(go_at_call 106;(with_reducible refine(Ct.out _).mono ?_);rintro e w' ⟨rfl,hb⟩))
  obtain⟨HA,y0,y1,y2,y3,y4,y5,y6,y7⟩:=Ad (Below.refl _ _) (by assumption);go_wp2;go_ret;refine⟨BJ ?_,HA.out.2⟩;rw[te.out];simp[D4,BV])
theorem AaA(d s t u a k q:Int)(hf:In.fits ⟨8,d,s,t,u,a,k,q⟩)(hq:0≤q)(w:World):Calls Tryz.prog 92 #[In.v ⟨8,d,s,t,u,a,k,q⟩] w fun e w'=>e=.returned (.string ⟨(Bz ⟨8,d,s,t,u,a,k,q⟩).toArray⟩)∧Below w.heap.size w w':=by
 have te:Bz ⟨8,d,s,t,u,a,k,q⟩=Ak 8++(((32::114::dec s)++(32::114::dec t))++(32::dec q)):=by
  show Go.Lib.join (Ak 8::List.flatten [[114::dec s],[114::dec t],[dec q]]) [32]=_
  simp[BH,Go.Lib.join_one]
 obtain⟨CK,CA,wk,lk,la,CQ,ld0,ls0,lt0,lu0,lk0,la0,lq0⟩:=BY hf;have CN:=Az (fun W=>AA 8 W);have Cs:=Az (fun W=>AU hf.s.1 (Int.le_trans hf.s.2 (by decide)) W);have Ct:=Az (fun W=>AU hf.t.1 (Int.le_trans hf.t.2 (by decide)) W);dsimp only at Cs Ct;have ln0:(Ak 8).length=3:=by decide
 have b2:¬9223372036854775807<(((dec s).length+1+1)+((dec t).length+1+1)):=by omega
 have b3:¬9223372036854775807<((((dec s).length+1+1)+((dec t).length+1+1))+(1+(dec q).length)):=by omega
 have bn:¬9223372036854775807<(Ak 8).length+((((dec s).length+1+1)+((dec t).length+1+1))+(1+(dec q).length)):=by omega
 clear lk0 lq0 ld0 ls0 lt0 lu0 la0 ln0;have hS:=BD w 8 d s t u a k q;replace hf:=Az hf;replace te:=Az te;unfold In.v;go_enter Tryz.func92,Tryz.ntmps92;go_wp2_with fail
 go_region_held3 (fun W=>RB w W 8 d s t u a k q) (first |exact hS |exact Ad hb (by assumption))
  (first
   |(go_at_call 105;(with_reducible refine(CK.out _).mono ?_);rintro e w' ⟨rfl,hb⟩)
   |(go_at_call 105;(with_reducible refine(CA.out _).mono ?_);rintro e w' ⟨rfl,hb⟩))
 obtain⟨HA,y0,y1,y2,y3,y4,y5,y6,y7⟩:=Ad (Below.refl _ _) (by assumption);obtain⟨CQ,lq⟩:=CQ.out hq;go_wp2_with fail
 refine(CQ.out _).mono ?_;rintro e w2 ⟨rfl,hb2⟩;obtain⟨HA,y0,y1,y2,y3,y4,y5,y6,y7⟩:=Ad hb2 ⟨HA,y0,y1,y2,y3,y4,y5,y6,y7⟩;go_wp2_with fail
 refine(CN.out _).mono ?_;rintro e w2 ⟨rfl,hb2⟩;obtain⟨HA,y0,y1,y2,y3,y4,y5,y6,y7⟩:=Ad hb2 ⟨HA,y0,y1,y2,y3,y4,y5,y6,y7⟩;go_wp2_with fail
 have hT:=Ad (Bd (Below.refl _ _)) ⟨HA,y0,y1,y2,y3,y4,y5,y6,y7⟩;go_region_held3 (fun W=>RB w W 8 d s t u a k q) (first |exact hT |exact Ad hb (by assumption))
  (first
   |(go_at_call 106;(with_reducible refine(Cs.out _).mono ?_);rintro e w' ⟨rfl,hb⟩)
   |(go_at_call 106;(with_reducible refine(Ct.out _).mono ?_);rintro e w' ⟨rfl,hb⟩))
 obtain⟨HA,y0,y1,y2,y3,y4,y5,y6,y7⟩:=Ad (Below.refl _ _) (by assumption);go_wp2;go_ret;refine⟨BJ ?_,HA.out.2⟩;rw[te.out];simp[D4,BV]
theorem AaB(d s t u a k q:Int)(hf:In.fits ⟨9,d,s,t,u,a,k,q⟩)(hq:0≤q)(w:World):Calls Tryz.prog 92 #[In.v ⟨9,d,s,t,u,a,k,q⟩] w fun e w'=>e=.returned (.string ⟨(Bz ⟨9,d,s,t,u,a,k,q⟩).toArray⟩)∧Below w.heap.size w w':=by
 have te:Bz ⟨9,d,s,t,u,a,k,q⟩=Ak 9++(((32::114::dec s)++(32::114::dec t))++(32::dec q)):=by
  show Go.Lib.join (Ak 9::List.flatten [[114::dec s],[114::dec t],[dec q]]) [32]=_
  simp[BH,Go.Lib.join_one]
 obtain⟨CK,CA,wk,lk,la,CQ,ld0,ls0,lt0,lu0,lk0,la0,lq0⟩:=BY hf;have CN:=Az (fun W=>AA 9 W);have Cs:=Az (fun W=>AU hf.s.1 (Int.le_trans hf.s.2 (by decide)) W);have Ct:=Az (fun W=>AU hf.t.1 (Int.le_trans hf.t.2 (by decide)) W);dsimp only at Cs Ct;have ln0:(Ak 9).length=3:=by decide
 have b2:¬9223372036854775807<(((dec s).length+1+1)+((dec t).length+1+1)):=by omega
 have b3:¬9223372036854775807<((((dec s).length+1+1)+((dec t).length+1+1))+(1+(dec q).length)):=by omega
 have bn:¬9223372036854775807<(Ak 9).length+((((dec s).length+1+1)+((dec t).length+1+1))+(1+(dec q).length)):=by omega
 clear lk0 lq0 ld0 ls0 lt0 lu0 la0 ln0;have hS:=BD w 9 d s t u a k q;replace hf:=Az hf;replace te:=Az te;unfold In.v;go_enter Tryz.func92,Tryz.ntmps92;go_wp2_with fail
 go_region_held3 (fun W=>RB w W 9 d s t u a k q) (first |exact hS |exact Ad hb (by assumption))
  (first
   |(go_at_call 105;(with_reducible refine(CK.out _).mono ?_);rintro e w' ⟨rfl,hb⟩)
   |(go_at_call 105;(with_reducible refine(CA.out _).mono ?_);rintro e w' ⟨rfl,hb⟩))
 obtain⟨HA,y0,y1,y2,y3,y4,y5,y6,y7⟩:=Ad (Below.refl _ _) (by assumption);obtain⟨CQ,lq⟩:=CQ.out hq;go_wp2_with fail
 refine(CQ.out _).mono ?_;rintro e w2 ⟨rfl,hb2⟩;obtain⟨HA,y0,y1,y2,y3,y4,y5,y6,y7⟩:=Ad hb2 ⟨HA,y0,y1,y2,y3,y4,y5,y6,y7⟩;go_wp2_with fail
 refine(CN.out _).mono ?_;rintro e w2 ⟨rfl,hb2⟩;obtain⟨HA,y0,y1,y2,y3,y4,y5,y6,y7⟩:=Ad hb2 ⟨HA,y0,y1,y2,y3,y4,y5,y6,y7⟩;go_wp2_with fail
 have hT:=Ad (Bd (Below.refl _ _)) ⟨HA,y0,y1,y2,y3,y4,y5,y6,y7⟩;go_region_held3 (fun W=>RB w W 9 d s t u a k q) (first |exact hT |exact Ad hb (by assumption))
  (first
   |(go_at_call 106;(with_reducible refine(Cs.out _).mono ?_);rintro e w' ⟨rfl,hb⟩)
   |(go_at_call 106;(with_reducible refine(Ct.out _).mono ?_);rintro e w' ⟨rfl,hb⟩))
 obtain⟨HA,y0,y1,y2,y3,y4,y5,y6,y7⟩:=Ad (Below.refl _ _) (by assumption);go_wp2;go_ret;refine⟨BJ ?_,HA.out.2⟩;rw[te.out];simp[D4,BV]
theorem ZA(d s t u a k q:Int)(hf:In.fits ⟨10,d,s,t,u,a,k,q⟩)(hq:0≤q)(w:World):Calls Tryz.prog 92 #[In.v ⟨10,d,s,t,u,a,k,q⟩] w fun e w'=>e=.returned (.string ⟨(Bz ⟨10,d,s,t,u,a,k,q⟩).toArray⟩)∧Below w.heap.size w w':=by
 have te:Bz ⟨10,d,s,t,u,a,k,q⟩=Ak 10++(32::dec q):=by
  show Go.Lib.join (Ak 10::List.flatten [[dec q]]) [32]=_
  simp[BH,Go.Lib.join_one]
 obtain⟨CK,CA,wk,lk,la,CQ,ld0,ls0,lt0,lu0,lk0,la0,lq0⟩:=BY hf;have CN:=Az (fun W=>AA 10 W);have ln0:(Ak 10).length=4:=by decide
 have bn:¬9223372036854775807<(Ak 10).length+(1+(dec q).length):=by omega
 clear lk0 lq0 ld0 ls0 lt0 lu0 la0 ln0;have hS:=BD w 10 d s t u a k q;replace hf:=Az hf;replace te:=Az te;unfold In.v;go_enter Tryz.func92,Tryz.ntmps92;go_wp2_with fail
 go_region_held3 (fun W=>RB w W 10 d s t u a k q) (first |exact hS |exact Ad hb (by assumption))
  (first
   |(go_at_call 105;(with_reducible refine(CK.out _).mono ?_);rintro e w' ⟨rfl,hb⟩)
   |(go_at_call 105;(with_reducible refine(CA.out _).mono ?_);rintro e w' ⟨rfl,hb⟩))
 obtain⟨HA,y0,y1,y2,y3,y4,y5,y6,y7⟩:=Ad (Below.refl _ _) (by assumption);obtain⟨CQ,lq⟩:=CQ.out hq;go_wp2_with fail
 refine(CQ.out _).mono ?_;rintro e w2 ⟨rfl,hb2⟩;obtain⟨HA,y0,y1,y2,y3,y4,y5,y6,y7⟩:=Ad hb2 ⟨HA,y0,y1,y2,y3,y4,y5,y6,y7⟩;go_wp2_with fail
 refine(CN.out _).mono ?_;rintro e w2 ⟨rfl,hb2⟩;obtain⟨HA,y0,y1,y2,y3,y4,y5,y6,y7⟩:=Ad hb2 ⟨HA,y0,y1,y2,y3,y4,y5,y6,y7⟩;go_wp2_with fail
 go_wp2;go_ret;refine⟨BJ ?_,HA.out.2⟩;rw[te.out];simp[D4,BV]
theorem Z4(d s t u a k q:Int)(hf:In.fits ⟨18,d,s,t,u,a,k,q⟩)(w:World):Calls Tryz.prog 92 #[In.v ⟨18,d,s,t,u,a,k,q⟩] w fun e w'=>e=.returned (.string ⟨(Bz ⟨18,d,s,t,u,a,k,q⟩).toArray⟩)∧Below w.heap.size w w':=by
 have te:Bz ⟨18,d,s,t,u,a,k,q⟩=Ak 18++((((32::114::dec d)++(32::dec a))++(32::114::dec s))++(32::114::dec t)):=by
  show Go.Lib.join (Ak 18::List.flatten [[114::dec d],[dec a],[114::dec s],[114::dec t]]) [32]=_
  simp[BH,Go.Lib.join_one]
 obtain⟨CK,CA,wk,lk,la,CQ,ld0,ls0,lt0,lu0,lk0,la0,lq0⟩:=BY hf;have CN:=Az (fun W=>AA 18 W);have Cd:=Az (fun W=>AU hf.d.1 (Int.le_trans hf.d.2 (by decide)) W);have Cs:=Az (fun W=>AU hf.s.1 (Int.le_trans hf.s.2 (by decide)) W);have Ct:=Az (fun W=>AU hf.t.1 (Int.le_trans hf.t.2 (by decide)) W);dsimp only at Cd Cs Ct;have ln0:(Ak 18).length=4:=by decide
 have b2:¬9223372036854775807<(((dec d).length+1+1)+(1+(dec a).length)):=by omega
 have b3:¬9223372036854775807<((((dec d).length+1+1)+(1+(dec a).length))+((dec s).length+1+1)):=by omega
 have b4:¬9223372036854775807<(((((dec d).length+1+1)+(1+(dec a).length))+((dec s).length+1+1))+((dec t).length+1+1)):=by omega
 have bn:¬9223372036854775807<(Ak 18).length+(((((dec d).length+1+1)+(1+(dec a).length))+((dec s).length+1+1))+((dec t).length+1+1)):=by omega
 clear lk0 lq0 ld0 ls0 lt0 lu0 la0 ln0;have hS:=BD w 18 d s t u a k q;replace hf:=Az hf;replace te:=Az te;unfold In.v;go_enter Tryz.func92,Tryz.ntmps92;go_wp2_with fail
 go_region_held3 (fun W=>RB w W 18 d s t u a k q) (first |exact hS |exact Ad hb (by assumption))
  (first
   |(go_at_call 105;(with_reducible refine(CK.out _).mono ?_);rintro e w' ⟨rfl,hb⟩)
   |(go_at_call 105;(with_reducible refine(CA.out _).mono ?_);rintro e w' ⟨rfl,hb⟩))
 obtain⟨HA,y0,y1,y2,y3,y4,y5,y6,y7⟩:=Ad (Below.refl _ _) (by assumption);by_cases hq:0≤q;obtain⟨CQ,lq⟩:=CQ.out hq;go_wp2_with fail
 refine(CQ.out _).mono ?_;rintro e w2 ⟨rfl,hb2⟩;obtain⟨HA,y0,y1,y2,y3,y4,y5,y6,y7⟩:=Ad hb2 ⟨HA,y0,y1,y2,y3,y4,y5,y6,y7⟩;go_wp2_with fail
 rotate_left;go_wp2_with fail
 rotate_left;all_goals (
  refine(CN.out _).mono ?_;rintro e w2 ⟨rfl,hb2⟩;obtain⟨HA,y0,y1,y2,y3,y4,y5,y6,y7⟩:=Ad hb2 ⟨HA,y0,y1,y2,y3,y4,y5,y6,y7⟩;go_wp2_with fail
  have hT:=Ad (Bd (Below.refl _ _)) ⟨HA,y0,y1,y2,y3,y4,y5,y6,y7⟩;go_region_held3 (fun W=>RB w W 18 d s t u a k q) (first |exact hT |exact Ad hb (by assumption))
   (first
    |(go_at_call 106;(with_reducible refine(Cd.out _).mono ?_);rintro e w' ⟨rfl,hb⟩)
    |(go_at_call 106;(with_reducible refine(Cs.out _).mono ?_);rintro e w' ⟨rfl,hb⟩)
    |(go_at_call 106;(with_reducible refine(Ct.out _).mono ?_);rintro e w' ⟨rfl,hb⟩))
  obtain⟨HA,y0,y1,y2,y3,y4,y5,y6,y7⟩:=Ad (Below.refl _ _) (by assumption);go_wp2;go_ret;refine⟨BJ ?_,HA.out.2⟩;rw[te.out];simp[D4,BV])
theorem Z5(d s t u a k q:Int)(hf:In.fits ⟨19,d,s,t,u,a,k,q⟩)(w:World):Calls Tryz.prog 92 #[In.v ⟨19,d,s,t,u,a,k,q⟩] w fun e w'=>e=.returned (.string ⟨(Bz ⟨19,d,s,t,u,a,k,q⟩).toArray⟩)∧Below w.heap.size w w':=by
 have te:Bz ⟨19,d,s,t,u,a,k,q⟩=Ak 19++(((((32::114::dec d)++(32::dec a))++(32::114::dec s))++(32::114::dec t))++(32::114::dec u)):=by
  show Go.Lib.join (Ak 19::List.flatten [[114::dec d],[dec a],[114::dec s],[114::dec t],[114::dec u]]) [32]=_
  simp[BH,Go.Lib.join_one]
 obtain⟨CK,CA,wk,lk,la,CQ,ld0,ls0,lt0,lu0,lk0,la0,lq0⟩:=BY hf;have CN:=Az (fun W=>AA 19 W);have Cd:=Az (fun W=>AU hf.d.1 (Int.le_trans hf.d.2 (by decide)) W);have Cs:=Az (fun W=>AU hf.s.1 (Int.le_trans hf.s.2 (by decide)) W);have Ct:=Az (fun W=>AU hf.t.1 (Int.le_trans hf.t.2 (by decide)) W);have Cu:=Az (fun W=>AU hf.u.1 (Int.le_trans hf.u.2 (by decide)) W);dsimp only at Cd Cs Ct Cu;have ln0:(Ak 19).length=3:=by decide
 have b2:¬9223372036854775807<(((dec d).length+1+1)+(1+(dec a).length)):=by omega
 have b3:¬9223372036854775807<((((dec d).length+1+1)+(1+(dec a).length))+((dec s).length+1+1)):=by omega
 have b4:¬9223372036854775807<(((((dec d).length+1+1)+(1+(dec a).length))+((dec s).length+1+1))+((dec t).length+1+1)):=by omega
 have b5:¬9223372036854775807<((((((dec d).length+1+1)+(1+(dec a).length))+((dec s).length+1+1))+((dec t).length+1+1))+((dec u).length+1+1)):=by omega
 have bn:¬9223372036854775807<(Ak 19).length+((((((dec d).length+1+1)+(1+(dec a).length))+((dec s).length+1+1))+((dec t).length+1+1))+((dec u).length+1+1)):=by omega
 clear lk0 lq0 ld0 ls0 lt0 lu0 la0 ln0;have hS:=BD w 19 d s t u a k q;replace hf:=Az hf;replace te:=Az te;unfold In.v;go_enter Tryz.func92,Tryz.ntmps92;go_wp2_with fail
 go_region_held3 (fun W=>RB w W 19 d s t u a k q) (first |exact hS |exact Ad hb (by assumption))
  (first
   |(go_at_call 105;(with_reducible refine(CK.out _).mono ?_);rintro e w' ⟨rfl,hb⟩)
   |(go_at_call 105;(with_reducible refine(CA.out _).mono ?_);rintro e w' ⟨rfl,hb⟩))
 obtain⟨HA,y0,y1,y2,y3,y4,y5,y6,y7⟩:=Ad (Below.refl _ _) (by assumption);by_cases hq:0≤q;obtain⟨CQ,lq⟩:=CQ.out hq;go_wp2_with fail
 refine(CQ.out _).mono ?_;rintro e w2 ⟨rfl,hb2⟩;obtain⟨HA,y0,y1,y2,y3,y4,y5,y6,y7⟩:=Ad hb2 ⟨HA,y0,y1,y2,y3,y4,y5,y6,y7⟩;go_wp2_with fail
 rotate_left;go_wp2_with fail
 rotate_left;all_goals (
  refine(CN.out _).mono ?_;rintro e w2 ⟨rfl,hb2⟩;obtain⟨HA,y0,y1,y2,y3,y4,y5,y6,y7⟩:=Ad hb2 ⟨HA,y0,y1,y2,y3,y4,y5,y6,y7⟩;go_wp2_with fail
  have hT:=Ad (Bd (Below.refl _ _)) ⟨HA,y0,y1,y2,y3,y4,y5,y6,y7⟩;go_region_held3 (fun W=>RB w W 19 d s t u a k q) (first |exact hT |exact Ad hb (by assumption))
   (first
    |(go_at_call 106;(with_reducible refine(Cd.out _).mono ?_);rintro e w' ⟨rfl,hb⟩)
    |(go_at_call 106;(with_reducible refine(Cs.out _).mono ?_);rintro e w' ⟨rfl,hb⟩)
    |(go_at_call 106;(with_reducible refine(Ct.out _).mono ?_);rintro e w' ⟨rfl,hb⟩)
    |(go_at_call 106;(with_reducible refine(Cu.out _).mono ?_);rintro e w' ⟨rfl,hb⟩))
  obtain⟨HA,y0,y1,y2,y3,y4,y5,y6,y7⟩:=Ad (Below.refl _ _) (by assumption);go_wp2;go_ret;refine⟨BJ ?_,HA.out.2⟩;rw[te.out];simp[D4,BV])
theorem Z6(d s t u a k q:Int)(hf:In.fits ⟨20,d,s,t,u,a,k,q⟩)(w:World):Calls Tryz.prog 92 #[In.v ⟨20,d,s,t,u,a,k,q⟩] w fun e w'=>e=.returned (.string ⟨(Bz ⟨20,d,s,t,u,a,k,q⟩).toArray⟩)∧Below w.heap.size w w':=by
 have te:Bz ⟨20,d,s,t,u,a,k,q⟩=Ak 20++((((32::114::dec d)++(32::dec a))++(32::114::dec s))++(32::dec k)):=by
  show Go.Lib.join (Ak 20::List.flatten [[114::dec d],[dec a],[114::dec s],[dec k]]) [32]=_
  simp[BH,Go.Lib.join_one]
 obtain⟨CK,CA,wk,lk,la,CQ,ld0,ls0,lt0,lu0,lk0,la0,lq0⟩:=BY hf;have CN:=Az (fun W=>AA 20 W);have Cd:=Az (fun W=>AU hf.d.1 (Int.le_trans hf.d.2 (by decide)) W);have Cs:=Az (fun W=>AU hf.s.1 (Int.le_trans hf.s.2 (by decide)) W);dsimp only at Cd Cs;have ln0:(Ak 20).length=4:=by decide
 have b2:¬9223372036854775807<(((dec d).length+1+1)+(1+(dec a).length)):=by omega
 have b3:¬9223372036854775807<((((dec d).length+1+1)+(1+(dec a).length))+((dec s).length+1+1)):=by omega
 have b4:¬9223372036854775807<(((((dec d).length+1+1)+(1+(dec a).length))+((dec s).length+1+1))+(1+(dec k).length)):=by omega
 have bn:¬9223372036854775807<(Ak 20).length+(((((dec d).length+1+1)+(1+(dec a).length))+((dec s).length+1+1))+(1+(dec k).length)):=by omega
 clear lk0 lq0 ld0 ls0 lt0 lu0 la0 ln0;have hS:=BD w 20 d s t u a k q;replace hf:=Az hf;replace te:=Az te;unfold In.v;go_enter Tryz.func92,Tryz.ntmps92;go_wp2_with fail
 go_region_held3 (fun W=>RB w W 20 d s t u a k q) (first |exact hS |exact Ad hb (by assumption))
  (first
   |(go_at_call 105;(with_reducible refine(CK.out _).mono ?_);rintro e w' ⟨rfl,hb⟩)
   |(go_at_call 105;(with_reducible refine(CA.out _).mono ?_);rintro e w' ⟨rfl,hb⟩))
 obtain⟨HA,y0,y1,y2,y3,y4,y5,y6,y7⟩:=Ad (Below.refl _ _) (by assumption);by_cases hq:0≤q;obtain⟨CQ,lq⟩:=CQ.out hq;go_wp2_with fail
 refine(CQ.out _).mono ?_;rintro e w2 ⟨rfl,hb2⟩;obtain⟨HA,y0,y1,y2,y3,y4,y5,y6,y7⟩:=Ad hb2 ⟨HA,y0,y1,y2,y3,y4,y5,y6,y7⟩;go_wp2_with fail
 rotate_left;go_wp2_with fail
 rotate_left;all_goals (
  refine(CN.out _).mono ?_;rintro e w2 ⟨rfl,hb2⟩;obtain⟨HA,y0,y1,y2,y3,y4,y5,y6,y7⟩:=Ad hb2 ⟨HA,y0,y1,y2,y3,y4,y5,y6,y7⟩;go_wp2_with fail
  have hT:=Ad (Bd (Below.refl _ _)) ⟨HA,y0,y1,y2,y3,y4,y5,y6,y7⟩;go_region_held3 (fun W=>RB w W 20 d s t u a k q) (first |exact hT |exact Ad hb (by assumption))
   (first
    |(go_at_call 106;(with_reducible refine(Cd.out _).mono ?_);rintro e w' ⟨rfl,hb⟩)
    |(go_at_call 106;(with_reducible refine(Cs.out _).mono ?_);rintro e w' ⟨rfl,hb⟩))
  obtain⟨HA,y0,y1,y2,y3,y4,y5,y6,y7⟩:=Ad (Below.refl _ _) (by assumption);go_wp2;go_ret;refine⟨BJ ?_,HA.out.2⟩;rw[te.out];simp[D4,BV])
theorem Z7(d s t u a k q:Int)(hf:In.fits ⟨22,d,s,t,u,a,k,q⟩)(w:World):Calls Tryz.prog 92 #[In.v ⟨22,d,s,t,u,a,k,q⟩] w fun e w'=>e=.returned (.string ⟨(Bz ⟨22,d,s,t,u,a,k,q⟩).toArray⟩)∧Below w.heap.size w w':=by
 have te:Bz ⟨22,d,s,t,u,a,k,q⟩=Ak 22++(32::114::dec d):=by
  show Go.Lib.join (Ak 22::List.flatten [[114::dec d]]) [32]=_
  simp[BH,Go.Lib.join_one]
 obtain⟨CK,CA,wk,lk,la,CQ,ld0,ls0,lt0,lu0,lk0,la0,lq0⟩:=BY hf;have CN:=Az (fun W=>AA 22 W);have Cd:=Az (fun W=>AU hf.d.1 (Int.le_trans hf.d.2 (by decide)) W);dsimp only at Cd;have ln0:(Ak 22).length=4:=by decide
 have bn:¬9223372036854775807<(Ak 22).length+((dec d).length+1+1):=by omega
 clear lk0 lq0 ld0 ls0 lt0 lu0 la0 ln0;have hS:=BD w 22 d s t u a k q;replace hf:=Az hf;replace te:=Az te;unfold In.v;go_enter Tryz.func92,Tryz.ntmps92;go_wp2_with fail
 go_region_held3 (fun W=>RB w W 22 d s t u a k q) (first |exact hS |exact Ad hb (by assumption))
  (first
   |(go_at_call 105;(with_reducible refine(CK.out _).mono ?_);rintro e w' ⟨rfl,hb⟩)
   |(go_at_call 105;(with_reducible refine(CA.out _).mono ?_);rintro e w' ⟨rfl,hb⟩))
 obtain⟨HA,y0,y1,y2,y3,y4,y5,y6,y7⟩:=Ad (Below.refl _ _) (by assumption);by_cases hq:0≤q;obtain⟨CQ,lq⟩:=CQ.out hq;go_wp2_with fail
 refine(CQ.out _).mono ?_;rintro e w2 ⟨rfl,hb2⟩;obtain⟨HA,y0,y1,y2,y3,y4,y5,y6,y7⟩:=Ad hb2 ⟨HA,y0,y1,y2,y3,y4,y5,y6,y7⟩;go_wp2_with fail
 rotate_left;go_wp2_with fail
 rotate_left;all_goals (
  refine(CN.out _).mono ?_;rintro e w2 ⟨rfl,hb2⟩;obtain⟨HA,y0,y1,y2,y3,y4,y5,y6,y7⟩:=Ad hb2 ⟨HA,y0,y1,y2,y3,y4,y5,y6,y7⟩;go_wp2_with fail
  refine(Cd.out _).mono ?_;rintro e w2 ⟨rfl,hb2⟩;obtain⟨HA,y0,y1,y2,y3,y4,y5,y6,y7⟩:=Ad hb2 ⟨HA,y0,y1,y2,y3,y4,y5,y6,y7⟩;go_wp2_with fail
  go_wp2;go_ret;refine⟨BJ ?_,HA.out.2⟩;rw[te.out];simp[D4,BV])
theorem Z8(d s t u a k q:Int)(hf:In.fits ⟨23,d,s,t,u,a,k,q⟩)(w:World):Calls Tryz.prog 92 #[In.v ⟨23,d,s,t,u,a,k,q⟩] w fun e w'=>e=.returned (.string ⟨(Bz ⟨23,d,s,t,u,a,k,q⟩).toArray⟩)∧Below w.heap.size w w':=by
 have te:Bz ⟨23,d,s,t,u,a,k,q⟩=Ak 23++(32::114::dec s):=by
  show Go.Lib.join (Ak 23::List.flatten [[114::dec s]]) [32]=_
  simp[BH,Go.Lib.join_one]
 obtain⟨CK,CA,wk,lk,la,CQ,ld0,ls0,lt0,lu0,lk0,la0,lq0⟩:=BY hf;have CN:=Az (fun W=>AA 23 W);have Cs:=Az (fun W=>AU hf.s.1 (Int.le_trans hf.s.2 (by decide)) W);dsimp only at Cs;have ln0:(Ak 23).length=4:=by decide
 have bn:¬9223372036854775807<(Ak 23).length+((dec s).length+1+1):=by omega
 clear lk0 lq0 ld0 ls0 lt0 lu0 la0 ln0;have hS:=BD w 23 d s t u a k q;replace hf:=Az hf;replace te:=Az te;unfold In.v;go_enter Tryz.func92,Tryz.ntmps92;go_wp2_with fail
 go_region_held3 (fun W=>RB w W 23 d s t u a k q) (first |exact hS |exact Ad hb (by assumption))
  (first
   |(go_at_call 105;(with_reducible refine(CK.out _).mono ?_);rintro e w' ⟨rfl,hb⟩)
   |(go_at_call 105;(with_reducible refine(CA.out _).mono ?_);rintro e w' ⟨rfl,hb⟩))
 obtain⟨HA,y0,y1,y2,y3,y4,y5,y6,y7⟩:=Ad (Below.refl _ _) (by assumption);by_cases hq:0≤q;obtain⟨CQ,lq⟩:=CQ.out hq;go_wp2_with fail
 refine(CQ.out _).mono ?_;rintro e w2 ⟨rfl,hb2⟩;obtain⟨HA,y0,y1,y2,y3,y4,y5,y6,y7⟩:=Ad hb2 ⟨HA,y0,y1,y2,y3,y4,y5,y6,y7⟩;go_wp2_with fail
 rotate_left;go_wp2_with fail
 rotate_left;all_goals (
  refine(CN.out _).mono ?_;rintro e w2 ⟨rfl,hb2⟩;obtain⟨HA,y0,y1,y2,y3,y4,y5,y6,y7⟩:=Ad hb2 ⟨HA,y0,y1,y2,y3,y4,y5,y6,y7⟩;go_wp2_with fail
  refine(Cs.out _).mono ?_;rintro e w2 ⟨rfl,hb2⟩;obtain⟨HA,y0,y1,y2,y3,y4,y5,y6,y7⟩:=Ad hb2 ⟨HA,y0,y1,y2,y3,y4,y5,y6,y7⟩;go_wp2_with fail
  go_wp2;go_ret;refine⟨BJ ?_,HA.out.2⟩;rw[te.out];simp[D4,BV])
end
end Go.Proofs.YtnmahobjmpdkdaaGreatDoor
