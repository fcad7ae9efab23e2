/- Parts: RefSort. -/
import Derived.Test.YtjjpiefgdggghaaGreatDoorK05
import Derived.Test.YtjjpiefgdggghaaGreatDoorK04
import Derived.Test.YtjjpiefgdggghaaGreatDoorK19
set_option linter.unusedVariables false
set_option linter.unusedSimpArgs false
set_option maxRecDepth 100000
set_option maxHeartbeats 40000000
namespace Go.Proofs.YtjjpiefgdggghaaGreatDoor
section
open Go.RowKit Go.Proofs.YtjjpiefgdggghaaGreatDoorW.PrintWords Go.Lib
theorem PB(l:List UInt8)(k:Nat):bt ⟨l.toArray⟩ (k:Int)=((l.getD k 0).toNat:Int):=by
 unfold bt;by_cases h:k<l.length
 ·rw[dif_pos (by simpa [ByteArray.size]using h)];simp[List.getD_eq_getElem?_getD,List.getElem?_eq_getElem h];rfl
 ·rw[dif_neg (by simpa [ByteArray.size]using h)];simp[List.getD_eq_getElem?_getD,List.getElem?_eq_none (Nat.le_of_not_lt h)]
theorem size_mk(l:List UInt8):((⟨l.toArray⟩:ByteArray).size:Int)=l.length:=by simp[ByteArray.size]
theorem Ra(l:List UInt8):Cb.f ⟨l.toArray⟩=some (SW l):=by
 have e0:bt ⟨l.toArray⟩ 0=((l.getD 0 0).toNat:Int):=PB l 0;have e1:bt ⟨l.toArray⟩ 1=((l.getD 1 0).toNat:Int):=PB l 1;have b0:=(l.getD 0 0).toNat_lt;have b1:=(l.getD 1 0).toNat_lt;unfold Cb.f SW;rw[size_mk,e0,e1];by_cases c1:l.length=2
 ·rw[if_pos (by omega),if_pos (by omega)];by_cases c2:(l.getD 0 0).toNat=114
  ·rw[if_pos (by omega),if_pos (by omega)];by_cases c3:((l.getD 1 0).toNat:Int)<48
   ·rw[if_pos c3,if_neg (by omega)]
   ·rw[if_neg c3];by_cases c4:((l.getD 1 0).toNat:Int) > 55
    ·rw[if_pos c4,if_neg (by omega)]
    ·rw[if_neg c4,if_pos (by omega)]
     congr 1
     omega
  ·rw[if_neg (by omega),if_neg (by omega)]
 ·rw[if_neg (by omega),if_neg (by omega)]
theorem L9(l:List UInt8)(w:World):Calls Tryz.prog 116 #[.string ⟨l.toArray⟩] w fun e w'=>e=.returned (.int .i64 (SW l))∧Below w.heap.size w w' :=
 (Cb.calls ⟨l.toArray⟩ _ w (Ra l)).mono (fun e w' h=>⟨h.1,h.2.below⟩)
def IW:List UInt8→Nat→Int
 |[],n=>if 4294967295<n then -1 else n
 |c::l,n=>if c.toNat<48∨57<c.toNat then -1 else IW l (n*10+(c.toNat-48))
theorem Nc{x:Int}(h0:0≤x)(h1:x<9223372036854775808):wrap64 x=x:=by unfold wrap64;omega
theorem LA:∀ (l:List UInt8) (n:Nat),IW l n=match decFrom n l with |some n=>if 4294967295<n then -1 else n |none => -1
 |[],n=>rfl
 |c::l,n=>by
  unfold IW;by_cases h:c.toNat<48∨57<c.toNat
  ·rw[if_pos h];have:digitVal c=none:=by unfold digitVal;rw[if_neg (by omega)]
   simp only[decFrom,this]
  ·rw[if_neg h,LA l];have:digitVal c=some (c.toNat-48):=by unfold digitVal;rw[if_pos (by omega)]
   simp only[decFrom,this]
theorem PC(l:List UInt8)(hl:l.length≤10):∀ (m i n:Nat),i+m=l.length→n<10 ^ i→Ah.l0 (m+1) ⟨l.toArray⟩ (n:Int) (i:Int)=some (IW (l.drop i) n)
 |0,i,n,hi,hn=>by
  rw[List.drop_eq_nil_of_le (by omega)];unfold Ah.l0 IW;rw[size_mk,if_neg (by omega)];by_cases h:4294967295<n
  ·rw[if_pos (by omega),if_pos h]
  ·rw[if_neg (by omega),if_neg h]
 |m+1,i,n,hi,hn=>by
  have hlt:i<l.length:=by omega
  have hb:=PB l i;have hp:10 ^ (i+1)≤10 ^ 10:=Nat.pow_le_pow_right (by omega) (by omega);have hn1:n*10+9<10 ^ (i+1):=by rw[Nat.pow_succ];omega
  have b1:=(l.getD i 0).toNat_lt;have hn2:n*10+9<10000000000:=Nat.lt_of_lt_of_le hn1 hp;rw[List.drop_eq_getElem_cons hlt];have hg:l[i]=l.getD i 0:=by simp[List.getD_eq_getElem?_getD,List.getElem?_eq_getElem hlt]
  rw[hg];unfold IW;rw[Ah.l0,size_mk,if_pos (by omega),if_pos (by omega),hb];by_cases c1:((l.getD i 0).toNat:Int)<48
  ·rw[if_pos c1,if_pos (by omega)]
  ·rw[if_neg c1];by_cases c2:((l.getD i 0).toNat:Int) > 57
   ·rw[if_pos c2,if_pos (by omega)]
   ·rw[if_neg c2,if_neg (by omega)];have e1:wrap64 ((wrap64 ((n:Int)*10))+((((l.getD i 0).toNat:Int)-48)%256))=((n*10+((l.getD i 0).toNat-48):Nat):Int):=by
     rw[Nc (show 0≤(n:Int)*10 by omega) (by omega),Nc (by omega) (by omega)];omega
    have e2:wrap64 ((i:Int)+1)=((i+1:Nat):Int):=by unfold wrap64;omega
    rw[e1,e2];exact PC l hl m (i+1) _ (by omega) (Nat.lt_of_le_of_lt (by omega) hn1)
theorem Va(l:List UInt8):Ah.f 13 ⟨l.toArray⟩=some (SX l):=by
 unfold Ah.f SX;rw[size_mk,toList_mk];have e0:bt ⟨l.toArray⟩ 0=((l.getD 0 0).toNat:Int):=PB l 0;rw[e0];by_cases c1:l=[]
 ·rw[if_pos c1,if_pos (.inl c1)];unfold Ah.j0;rfl
 ·rw[if_neg c1];by_cases c2:10<l.length
  ·rw[if_pos (by omega),if_pos (.inr (.inl c2))];unfold Ah.j0;rfl
  ·rw[if_neg (by omega)];have key:Ah.j0 13 ⟨l.toArray⟩ false=some (IW l 0):=by
    have h:=PC l (by omega) l.length 0 0 (by omega) (by decide);have hm:=(Ah.EE)
    have mono:∀ k,Ah.l0 (l.length+1) ⟨l.toArray⟩ 0 0=some (IW l 0)→Ah.l0 (l.length+1+k) ⟨l.toArray⟩ 0 0=some (IW l 0):=by
     intro k;induction k with
     |zero=>exact id
     |succ k ih=>intro h;exact(hm _).2 _ _ _ _ (ih h)
    have:=mono (12-(l.length+1)) h;rw[show l.length+1+(12-(l.length+1))=12 by omega]at this;unfold Ah.j0;exact this
   by_cases c3:1<l.length
   ·rw[if_pos (by omega),if_pos (by omega)];by_cases c4:(l.getD 0 0).toNat=48
    ·rw[if_pos (.inr (.inr ⟨c3,c4⟩)),show((((l.getD 0 0).toNat:Int))==48)=true from beq_iff_eq.2 (by omega)];unfold Ah.j0;rfl
    ·rw[if_neg (by rintro(h |h |h);exact c1 h;exact c2 h;exact c4 h.2),show((((l.getD 0 0).toNat:Int))==48)=false from Bq (by omega),key,LA];rfl
   ·rw[if_neg (by omega),if_neg (by rintro(h |h |h);exact c1 h;exact c2 h;exact c3 h.1),key,LA];rfl
theorem M8(l:List UInt8)(w:World):Calls Tryz.prog 117 #[.string ⟨l.toArray⟩] w fun e w'=>e=.returned (.int .i64 (SX l))∧Below w.heap.size w w' :=
 (Ah.calls 13 ⟨l.toArray⟩ _ w (Va l)).mono (fun e w' h=>⟨h.1,h.2.below⟩)
theorem Oj(l:List UInt8)(hl:l.length≤100000):∀ (m i f:Nat) (out:List (List UInt8)),i+m=l.length→f≤i→out.length≤f→(32:UInt8)∉(l.drop f).take (i-f) →
  Ax.l0 (m+2) ⟨l.toArray⟩ (out.map fun x=>⟨x.toArray⟩) (f:Int) (i:Int)=some ((out++AR (l.drop f)).map fun x=>⟨x.toArray⟩)
 |0,i,f,out,hi,hf,ho,hn=>by
  have e:wrap64 ((i:Int)+1)=((i+1:Nat):Int):=by unfold wrap64;omega
  rw[Ax.l0,size_mk,if_pos (by omega),if_pos (by omega),if_pos (by omega),if_pos (by omega),if_pos (by simp;omega),e,Ax.l0,size_mk,if_neg (by omega)];rw[List.take_of_length_le (by rw[List.length_drop];omega)]at hn;rw[FC _ hn];simp only[Int.toNat_natCast,Ea,List.map_append,List.map_cons,List.map_nil];rw[List.take_of_length_le (by rw[List.length_drop];omega)]
 |m+1,i,f,out,hi,hf,ho,hn=>by
  have hlt:i<l.length:=by omega
  have e:wrap64 ((i:Int)+1)=((i+1:Nat):Int):=by unfold wrap64;omega
  have hg:l[i]?=some (l.getD i 0):=by simp[List.getD_eq_getElem?_getD,List.getElem?_eq_getElem hlt]
  have hd:(l.drop f)[i-f]?=some (l.getD i 0):=by rw[List.getElem?_drop,show f+(i-f)=i by omega,hg]
  rw[Ax.l0,size_mk,if_pos (by omega),if_neg (by omega),if_pos (by omega),if_pos (by omega),PB,e];by_cases c:l.getD i 0=32
  ·have c':((l.getD i 0).toNat:Int)=32:=by rw[c];rfl
   rw[if_pos c',if_pos (by omega),if_pos (by omega),if_pos (by simp;omega)];have hx:(out.map fun x=>(⟨x.toArray⟩:ByteArray))++[(⟨l.toArray⟩:ByteArray).extract (f:Int).toNat (i:Int).toNat]=(out++[(l.drop f).take (i-f)]).map fun x=>⟨x.toArray⟩:=by
    simp only[Int.toNat_natCast,Ea,List.map_append,List.map_cons,List.map_nil]
   rw[hx,Oj l hl m (i+1) (i+1) _ (by omega) (by omega) (by simp;omega) (by simp)];have hs:l.drop f=(l.drop f).take (i-f)++32::l.drop (i+1):=by
    conv=>lhs;rw[←List.take_append_drop (i-f) (l.drop f)]
    rw[List.drop_drop,show f+(i-f)=i by omega,List.drop_eq_getElem_cons hlt];rw[show l[i]=32 by rw[←c];simp[List.getD_eq_getElem?_getD,List.getElem?_eq_getElem hlt]]
   conv=>rhs;rw[hs,Lp _ _ hn]
   simp
  ·have c':¬((l.getD i 0).toNat:Int)=32:=fun h=>c (UInt8.toNat_inj.1 (by show(l.getD i 0).toNat=32;omega))
   rw[if_neg c'];refine Oj l hl m (i+1) f out (by omega) (by omega) ho ?_;rw[show i+1-f=(i-f)+1 by omega,List.take_add_one,hd];intro h;rcases List.mem_append.1 h with h |h
   ·exact hn h
   ·have h':(32:UInt8)=l.getD i 0:=by simpa using h
    exact c h'.symm
theorem Xo(l:List UInt8)(hl:l.length≤100000):Ax.f (l.length+2) ⟨l.toArray⟩=some ((AR l).map fun x=>⟨x.toArray⟩):=by
 have h:=Oj l hl l.length 0 0 [] (by omega) (by omega) (by simp) (by simp);exact h
theorem IX(l:List UInt8)(hl:l.length≤100000)(w:World):Calls Tryz.prog 91 #[.string ⟨l.toArray⟩] w fun e w' =>
  ∃ g c cur,e=.returned (.slice (some ⟨g,0,none⟩) (AR l).length c)∧(AR l).length≤c∧w'.heap[g]?=some (.cells cur 9 (0,0))∧w.heap.size≤g∧(∀ j,j<(AR l).length→cur[j]?=some (.string ⟨((AR l).getD j []).toArray⟩))∧Below w.heap.size w w':=by
 refine(Ax.calls (l.length+2) ⟨l.toArray⟩ _ w (Xo l hl)).mono ?_;rintro e w' ⟨v,rfl,hR,hb⟩;have ho:=Kd.GW hR;obtain⟨h1,h2⟩:=ho;have hne:=EW l;have hp:0<(AR l).length:=List.length_pos_iff.2 hne;rw[List.length_map]at h2;rcases h2 with ⟨rfl,h0⟩ |⟨g,cap,cur,rfl,hg,hh,hc,hm,hs,ht⟩
 ·omega
 ·refine⟨g,cap,cur,rfl,hc,hh,hg,fun j hj=>?_,hb⟩;have e:(cur.toList.take ((AR l).length*1))[j]?=(QI Value.string ((AR l).map fun x=>(⟨x.toArray⟩:ByteArray)))[j]?:=by rw[ht]
  rw[List.getElem?_take_of_lt (by omega),Array.getElem?_toList]at e;rw[e];simp[QI,hj]
end
end Go.Proofs.YtjjpiefgdggghaaGreatDoor
