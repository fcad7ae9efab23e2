/- Parts: RefSort, Digits, RefTextBox, RefTextA, RefTextB. -/
import Derived.Test.YtnmahobjmpdkdaaGreatDoorQ02
import Derived.Test.YtnmahobjmpdkdaaGreatDoorQ03
import Derived.Test.YtnmahobjmpdkdaaGreatDoorQ27
import Derived.Test.YtnmahobjmpdkdaaGreatDoorQ18
import Derived.Test.YtnmahobjmpdkdaaGreatDoorQ04
import Derived.Deep.RegionHeld3
set_option linter.unusedVariables false
set_option linter.unusedSimpArgs false
set_option maxRecDepth 100000
set_option maxHeartbeats 40000000
namespace Go.Proofs.YtnmahobjmpdkdaaGreatDoor
section
open Go.RowKit Go.Proofs.YtnmahobjmpdkdaaGreatDoorW.PrintWords Go.Lib
theorem OI(l:List UInt8)(k:Nat):bt ⟨l.toArray⟩ (k:Int)=((l.getD k 0).toNat:Int):=by
 unfold bt;by_cases h:k<l.length
 ·rw[dif_pos (by simpa [ByteArray.size]using h)];simp[List.getD_eq_getElem?_getD,List.getElem?_eq_getElem h];rfl
 ·rw[dif_neg (by simpa [ByteArray.size]using h)];simp[List.getD_eq_getElem?_getD,List.getElem?_eq_none (Nat.le_of_not_lt h)]
theorem size_mk(l:List UInt8):((⟨l.toArray⟩:ByteArray).size:Int)=l.length:=by simp[ByteArray.size]
theorem Qd(l:List UInt8):Cc.f ⟨l.toArray⟩=some (RN l):=by
 have e0:bt ⟨l.toArray⟩ 0=((l.getD 0 0).toNat:Int):=OI l 0;have e1:bt ⟨l.toArray⟩ 1=((l.getD 1 0).toNat:Int):=OI l 1;have b0:=(l.getD 0 0).toNat_lt;have b1:=(l.getD 1 0).toNat_lt;unfold Cc.f RN;rw[size_mk,e0,e1];by_cases c1:l.length=2
 ·rw[if_pos (by omega),if_pos (by omega)];by_cases c2:(l.getD 0 0).toNat=114
  ·rw[if_pos (by omega),if_pos (by omega)];by_cases c3:((l.getD 1 0).toNat:Int)<48
   ·rw[if_pos c3,if_neg (by omega)]
   ·rw[if_neg c3];by_cases c4:((l.getD 1 0).toNat:Int) > 55
    ·rw[if_pos c4,if_neg (by omega)]
    ·rw[if_neg c4,if_pos (by omega)]
     congr 1
     omega
  ·rw[if_neg (by omega),if_neg (by omega)]
 ·rw[if_neg (by omega),if_neg (by omega)]
theorem KT(l:List UInt8)(w:World):Calls Tryz.prog 90 #[.string ⟨l.toArray⟩] w fun e w'=>e=.returned (.int .i64 (RN l))∧Below w.heap.size w w' :=
 (Cc.calls ⟨l.toArray⟩ _ w (Qd l)).mono (fun e w' h=>⟨h.1,h.2.below⟩)
def I9:List UInt8→Nat→Int
 |[],n=>if 4294967295<n then -1 else n
 |c::l,n=>if c.toNat<48∨57<c.toNat then -1 else I9 l (n*10+(c.toNat-48))
theorem Mw{x:Int}(h0:0≤x)(h1:x<9223372036854775808):wrap64 x=x:=by unfold wrap64;omega
theorem KU:∀ (l:List UInt8) (n:Nat),I9 l n=match decFrom n l with |some n=>if 4294967295<n then -1 else n |none => -1
 |[],n=>rfl
 |c::l,n=>by
  unfold I9;by_cases h:c.toNat<48∨57<c.toNat
  ·rw[if_pos h];have:digitVal c=none:=by unfold digitVal;rw[if_neg (by omega)]
   simp only[decFrom,this]
  ·rw[if_neg h,KU l];have:digitVal c=some (c.toNat-48):=by unfold digitVal;rw[if_pos (by omega)]
   simp only[decFrom,this]
theorem OJ(l:List UInt8)(hl:l.length≤10):∀ (m i n:Nat),i+m=l.length→n<10 ^ i→Ag.l0 (m+1) ⟨l.toArray⟩ (n:Int) (i:Int)=some (I9 (l.drop i) n)
 |0,i,n,hi,hn=>by
  rw[List.drop_eq_nil_of_le (by omega)];unfold Ag.l0 I9;rw[size_mk,if_neg (by omega)];by_cases h:4294967295<n
  ·rw[if_pos (by omega),if_pos h]
  ·rw[if_neg (by omega),if_neg h]
 |m+1,i,n,hi,hn=>by
  have hlt:i<l.length:=by omega
  have hb:=OI l i;have hp:10 ^ (i+1)≤10 ^ 10:=Nat.pow_le_pow_right (by omega) (by omega);have hn1:n*10+9<10 ^ (i+1):=by rw[Nat.pow_succ];omega
  have b1:=(l.getD i 0).toNat_lt;have hn2:n*10+9<10000000000:=Nat.lt_of_lt_of_le hn1 hp;rw[List.drop_eq_getElem_cons hlt];have hg:l[i]=l.getD i 0:=by simp[List.getD_eq_getElem?_getD,List.getElem?_eq_getElem hlt]
  rw[hg];unfold I9;rw[Ag.l0,size_mk,if_pos (by omega),if_pos (by omega),hb];by_cases c1:((l.getD i 0).toNat:Int)<48
  ·rw[if_pos c1,if_pos (by omega)]
  ·rw[if_neg c1];by_cases c2:((l.getD i 0).toNat:Int) > 57
   ·rw[if_pos c2,if_pos (by omega)]
   ·rw[if_neg c2,if_neg (by omega)];have e1:wrap64 ((wrap64 ((n:Int)*10))+((((l.getD i 0).toNat:Int)-48)%256))=((n*10+((l.getD i 0).toNat-48):Nat):Int):=by
     rw[Mw (show 0≤(n:Int)*10 by omega) (by omega),Mw (by omega) (by omega)];omega
    have e2:wrap64 ((i:Int)+1)=((i+1:Nat):Int):=by unfold wrap64;omega
    rw[e1,e2];exact OJ l hl m (i+1) _ (by omega) (Nat.lt_of_le_of_lt (by omega) hn1)
theorem TQ(l:List UInt8):Ag.f 13 ⟨l.toArray⟩=some (RO l):=by
 unfold Ag.f RO;rw[size_mk,toList_mk];have e0:bt ⟨l.toArray⟩ 0=((l.getD 0 0).toNat:Int):=OI l 0;rw[e0];by_cases c1:l=[]
 ·rw[if_pos c1,if_pos (.inl c1)];unfold Ag.j0;rfl
 ·rw[if_neg c1];by_cases c2:10<l.length
  ·rw[if_pos (by omega),if_pos (.inr (.inl c2))];unfold Ag.j0;rfl
  ·rw[if_neg (by omega)];have key:Ag.j0 13 ⟨l.toArray⟩ false=some (I9 l 0):=by
    have h:=OJ l (by omega) l.length 0 0 (by omega) (by decide);have hm:=(Ag.DS)
    have mono:∀ k,Ag.l0 (l.length+1) ⟨l.toArray⟩ 0 0=some (I9 l 0)→Ag.l0 (l.length+1+k) ⟨l.toArray⟩ 0 0=some (I9 l 0):=by
     intro k;induction k with
     |zero=>exact id
     |succ k ih=>intro h;exact(hm _).2 _ _ _ _ (ih h)
    have:=mono (12-(l.length+1)) h;rw[show l.length+1+(12-(l.length+1))=12 by omega]at this;unfold Ag.j0;exact this
   by_cases c3:1<l.length
   ·rw[if_pos (by omega),if_pos (by omega)];by_cases c4:(l.getD 0 0).toNat=48
    ·rw[if_pos (.inr (.inr ⟨c3,c4⟩)),show((((l.getD 0 0).toNat:Int))==48)=true from beq_iff_eq.2 (by omega)];unfold Ag.j0;rfl
    ·rw[if_neg (by rintro(h |h |h);exact c1 h;exact c2 h;exact c4 h.2),show((((l.getD 0 0).toNat:Int))==48)=false from Bq (by omega),key,KU];rfl
   ·rw[if_neg (by omega),if_neg (by rintro(h |h |h);exact c1 h;exact c2 h;exact c3 h.1),key,KU];rfl
theorem LQ(l:List UInt8)(w:World):Calls Tryz.prog 91 #[.string ⟨l.toArray⟩] w fun e w'=>e=.returned (.int .i64 (RO l))∧Below w.heap.size w w' :=
 (Ag.calls 13 ⟨l.toArray⟩ _ w (TQ l)).mono (fun e w' h=>⟨h.1,h.2.below⟩)
theorem Nu(l:List UInt8)(hl:l.length≤100000):∀ (m i f:Nat) (out:List (List UInt8)),i+m=l.length→f≤i→out.length≤f→(32:UInt8)∉(l.drop f).take (i-f) →
  Aw.l0 (m+2) ⟨l.toArray⟩ (out.map fun x=>⟨x.toArray⟩) (f:Int) (i:Int)=some ((out++AT (l.drop f)).map fun x=>⟨x.toArray⟩)
 |0,i,f,out,hi,hf,ho,hn=>by
  have e:wrap64 ((i:Int)+1)=((i+1:Nat):Int):=by unfold wrap64;omega
  rw[Aw.l0,size_mk,if_pos (by omega),if_pos (by omega),if_pos (by omega),if_pos (by omega),if_pos (by simp;omega),e,Aw.l0,size_mk,if_neg (by omega)];rw[List.take_of_length_le (by rw[List.length_drop];omega)]at hn;rw[Fq _ hn];simp only[Int.toNat_natCast,DR,List.map_append,List.map_cons,List.map_nil];rw[List.take_of_length_le (by rw[List.length_drop];omega)]
 |m+1,i,f,out,hi,hf,ho,hn=>by
  have hlt:i<l.length:=by omega
  have e:wrap64 ((i:Int)+1)=((i+1:Nat):Int):=by unfold wrap64;omega
  have hg:l[i]?=some (l.getD i 0):=by simp[List.getD_eq_getElem?_getD,List.getElem?_eq_getElem hlt]
  have hd:(l.drop f)[i-f]?=some (l.getD i 0):=by rw[List.getElem?_drop,show f+(i-f)=i by omega,hg]
  rw[Aw.l0,size_mk,if_pos (by omega),if_neg (by omega),if_pos (by omega),if_pos (by omega),OI,e];by_cases c:l.getD i 0=32
  ·have c':((l.getD i 0).toNat:Int)=32:=by rw[c];rfl
   rw[if_pos c',if_pos (by omega),if_pos (by omega),if_pos (by simp;omega)];have hx:(out.map fun x=>(⟨x.toArray⟩:ByteArray))++[(⟨l.toArray⟩:ByteArray).extract (f:Int).toNat (i:Int).toNat]=(out++[(l.drop f).take (i-f)]).map fun x=>⟨x.toArray⟩:=by
    simp only[Int.toNat_natCast,DR,List.map_append,List.map_cons,List.map_nil]
   rw[hx,Nu l hl m (i+1) (i+1) _ (by omega) (by omega) (by simp;omega) (by simp)];have hs:l.drop f=(l.drop f).take (i-f)++32::l.drop (i+1):=by
    conv=>lhs;rw[←List.take_append_drop (i-f) (l.drop f)]
    rw[List.drop_drop,show f+(i-f)=i by omega,List.drop_eq_getElem_cons hlt];rw[show l[i]=32 by rw[←c];simp[List.getD_eq_getElem?_getD,List.getElem?_eq_getElem hlt]]
   conv=>rhs;rw[hs,KB _ _ hn]
   simp
  ·have c':¬((l.getD i 0).toNat:Int)=32:=fun h=>c (UInt8.toNat_inj.1 (by show(l.getD i 0).toNat=32;omega))
   rw[if_neg c'];refine Nu l hl m (i+1) f out (by omega) (by omega) ho ?_;rw[show i+1-f=(i-f)+1 by omega,List.take_add_one,hd];intro h;rcases List.mem_append.1 h with h |h
   ·exact hn h
   ·have h':(32:UInt8)=l.getD i 0:=by simpa using h
    exact c h'.symm
theorem VJ(l:List UInt8)(hl:l.length≤100000):Aw.f (l.length+2) ⟨l.toArray⟩=some ((AT l).map fun x=>⟨x.toArray⟩):=by
 have h:=Nu l hl l.length 0 0 [] (by omega) (by omega) (by simp) (by simp);exact h
theorem IA(l:List UInt8)(hl:l.length≤100000)(w:World):Calls Tryz.prog 72 #[.string ⟨l.toArray⟩] w fun e w' =>
  ∃ g c cur,e=.returned (.slice (some ⟨g,0,none⟩) (AT l).length c)∧(AT l).length≤c∧w'.heap[g]?=some (.cells cur 9 (0,0))∧w.heap.size≤g∧(∀ j,j<(AT l).length→cur[j]?=some (.string ⟨((AT l).getD j []).toArray⟩))∧Below w.heap.size w w':=by
 refine(Aw.calls (l.length+2) ⟨l.toArray⟩ _ w (VJ l hl)).mono ?_;rintro e w' ⟨v,rfl,hR,hb⟩;have ho:=Kd.GD hR;obtain⟨h1,h2⟩:=ho;have hne:=EM l;have hp:0<(AT l).length:=List.length_pos_iff.2 hne;rw[List.length_map]at h2;rcases h2 with ⟨rfl,h0⟩ |⟨g,cap,cur,rfl,hg,hh,hc,hm,hs,ht⟩
 ·omega
 ·refine⟨g,cap,cur,rfl,hc,hh,hg,fun j hj=>?_,hb⟩;have e:(cur.toList.take ((AT l).length*1))[j]?=(PL Value.string ((AT l).map fun x=>(⟨x.toArray⟩:ByteArray)))[j]?:=by rw[ht]
  rw[List.getElem?_take_of_lt (by omega),Array.getElem?_toList]at e;rw[e];simp[PL,hj]
end
section
open Go.RowKit Go.Proofs.YtnmahobjmpdkdaaGreatDoorW.PrintWords
theorem MB{n:Nat}(h:n<10):strOfNums [(wrap64 (48+(n:Int)))%256]=⟨#[UInt8.ofNat (48+n)]⟩:=by
 have e:(wrap64 (48+(n:Int)))%256=((48+n:Nat):Int):=by unfold wrap64;omega
 rw[e];rfl
theorem NQ:∀ (k n:Nat),n<10 ^ k→n≤4294967295→Av.f (k+1) (n:Int)=some ⟨(Go.Lib.decDigits n).toArray⟩
 |0,n,h,_=>by
  have:n=0:=by omega
  subst this;rw[Go.Lib.decDigits_one (by omega)];unfold Av.f;rw[if_pos (by omega)];exact congrArg some (MB (n:=0) (by omega))
 |k+1,n,h,hn=>by
  unfold Av.f;by_cases c:n<10
  ·rw[if_pos (by omega),Go.Lib.decDigits_one c];exact congrArg some (MB c)
  ·rw[if_neg (by omega)];have e1:wrap64 (Int.tdiv (n:Int) 10)=((n/10:Nat):Int):=by
    rw[show Int.tdiv (n:Int) 10=((n/10:Nat):Int) from rfl];unfold wrap64;omega
   have e2:Int.tmod (n:Int) 10=((n%10:Nat):Int):=rfl;rw[e1,e2,NQ k (n/10) (by rw[Nat.div_lt_iff_lt_mul (by omega)];rw[Nat.pow_succ]at h;exact h) (by omega)];simp only[Option.bind_some,MB (Nat.mod_lt n (show 10 > 0 by omega))];have hl:=Mc (n/10) (by omega);have ed:Go.Lib.decDigits n=Go.Lib.decDigits (n/10)++[UInt8.ofNat (48+n%10)]:=by
    rw[Go.Lib.decDigits,dif_neg c]
   rw[if_pos (by simp[ByteArray.size];omega),ed];exact congrArg some (BU _ _)
theorem MC(n:Nat)(hn:n≤4294967295)(w:World):Calls Tryz.prog 105 #[.int .i64 n] w fun e w'=>e=.returned (.string ⟨(Go.Lib.decDigits n).toArray⟩)∧Below w.heap.size w w' :=
 Av.calls 11 n _ w (NQ 10 n (by omega) hn)
theorem Cb{v:Int}(h0:0≤v)(h1:v≤4294967295)(w:World):Calls Tryz.prog 105 #[.int .i64 v] w fun e w'=>e=.returned (.string ⟨(dec v).toArray⟩)∧Below w.heap.size w w':=by
 have:=MC v.toNat (by omega) w;rw[show((v.toNat:Nat):Int)=v by omega]at this;exact this
theorem B5{v:Int}(h1:v≤4294967295):(dec v).length≤10:=Mc _ (by omega)
theorem AV{v:Int}(h0:0≤v)(h1:v≤4294967295)(w:World):Calls Tryz.prog 106 #[.int .i64 v] w fun e w'=>e=.returned (.string ⟨(32::114::dec v).toArray⟩)∧Below w.heap.size w w':=by
 have hl:=B5 h1;have hz:((⟨(dec v).toArray⟩:ByteArray)).size=(dec v).length:=by simp[ByteArray.size]
 have hb:¬9223372036854775807<2+(dec v).length:=by omega
 have C:=Az (fun W=>Cb h0 h1 W);have ea:(⟨#[32,114]⟩:ByteArray)++⟨(dec v).toArray⟩=⟨(32::114::dec v).toArray⟩:=BU [32,114] (dec v);go_enter Tryz.func106,Tryz.ntmps106;go_wp2_with fail
 refine(C.out _).mono ?_;rintro e w1 ⟨rfl,hb1⟩;go_wp2_with fail
 go_ret;exact⟨rfl,hb1⟩
abbrev RB(w W:World)(op d s t u a k q:Int):Prop:=Af (W.heap[w.heap.size]?=some (.cells (In.cs ⟨op,d,s,t,u,a,k,q⟩) 90 (0,0))∧Below w.heap.size w W)∧W.cell? ⟨w.heap.size,0,none⟩=some (.int .i64 op)∧W.cell? ⟨w.heap.size,1,none⟩=some (.int .i64 d)∧W.cell? ⟨w.heap.size,2,none⟩=some (.int .i64 s)∧W.cell? ⟨w.heap.size,3,none⟩=some (.int .i64 t)∧W.cell? ⟨w.heap.size,4,none⟩=some (.int .i64 u)∧W.cell? ⟨w.heap.size,5,none⟩=some (.int .i64 a)∧W.cell? ⟨w.heap.size,6,none⟩=some (.int .u32 k)∧W.cell? ⟨w.heap.size,7,none⟩=some (.int .i64 q)
theorem Ep{w W:World}{op d s t u a k q:Int}(h:W.heap[w.heap.size]?=some (.cells (In.cs ⟨op,d,s,t,u,a,k,q⟩) 90 (0,0))∧Below w.heap.size w W):RB w W op d s t u a k q :=
 ⟨⟨h⟩,(Bc h.1 0).trans rfl,(Bc h.1 1).trans rfl,(Bc h.1 2).trans rfl,(Bc h.1 3).trans rfl,(Bc h.1 4).trans rfl,(Bc h.1 5).trans rfl,(Bc h.1 6).trans rfl,(Bc h.1 7).trans rfl⟩
theorem BB(w:World)(op d s t u a k q:Int):RB w (w.alloc (.cells (In.cs ⟨op,d,s,t,u,a,k,q⟩) 90)).drew op d s t u a k q :=
 Ep ⟨Be (Bv w (.cells (In.cs ⟨op,d,s,t,u,a,k,q⟩) 90)),Bd ((Below.refl w.heap.size w).alloc (Nl _) _)⟩
theorem Ad{w W W1:World}{op d s t u a k q:Int}(hb:Below W.heap.size W W1)(h:RB w W op d s t u a k q):RB w W1 op d s t u a k q:=Ep ⟨Bk hb h.1.out.1,h.1.out.2.trans (hb.mono h.1.out.2.size)⟩
theorem Dy:(⟨#[32]⟩:ByteArray)=⟨[32].toArray⟩:=rfl
theorem BY{op d s t u a k q:Int}(hf:In.fits ⟨op,d,s,t,u,a,k,q⟩) :
  Af (∀ W,Calls Tryz.prog 105 #[.int .i64 k] W fun e w'=>e=.returned (.string ⟨(dec k).toArray⟩)∧Below W.heap.size W w')∧Af (∀ W,Calls Tryz.prog 105 #[.int .i64 a] W fun e w'=>e=.returned (.string ⟨(dec a).toArray⟩)∧Below W.heap.size W w') ∧
  IntKind.i64.wrap k=k∧(¬9223372036854775807<1+(dec k).length)∧(¬9223372036854775807<1+(dec a).length) ∧
  Af (0≤q→Af (∀ W,Calls Tryz.prog 105 #[.int .i64 q] W fun e w'=>e=.returned (.string ⟨(dec q).toArray⟩)∧Below W.heap.size W w')∧¬9223372036854775807<1+(dec q).length) ∧
  (dec d).length≤10∧(dec s).length≤10∧(dec t).length≤10∧(dec u).length≤10∧(dec k).length≤10∧(dec a).length≤10∧(dec q).length≤10:=by
 have hk:0≤k∧k≤4294967295:=hf.k;have l7:∀ {x:Int},x≤7→(dec x).length≤10:=fun h=>B5 (Int.le_trans h (by decide))
 have lk:=B5 hf.k.2;have la:=l7 hf.a.2;have lq:=B5 (Int.le_trans hf.q.2 (show(1073741824:Int)≤4294967295 by decide));dsimp only at lk la lq;exact⟨⟨fun W=>Cb hf.k.1 hf.k.2 W⟩,⟨fun W=>Cb hf.a.1 (Int.le_trans hf.a.2 (by decide)) W⟩,by rw[IntKind.wrap_i64];omega,by omega,by omega,
  ⟨fun hq=>⟨⟨fun W=>Cb hq (Int.le_trans hf.q.2 (by decide)) W⟩,by omega⟩⟩,l7 hf.d.2,l7 hf.s.2,l7 hf.t.2,l7 hf.u.2,lk,la,lq⟩
theorem YU(d s t u a k q:Int)(hf:In.fits ⟨1,d,s,t,u,a,k,q⟩)(w:World):Calls Tryz.prog 92 #[In.v ⟨1,d,s,t,u,a,k,q⟩] w fun e w'=>e=.returned (.string ⟨(Bx ⟨1,d,s,t,u,a,k,q⟩).toArray⟩)∧Below w.heap.size w w':=by
 have te:Bx ⟨1,d,s,t,u,a,k,q⟩=Aj 1++((32::114::dec d)++(32::dec k)):=by
  show Go.Lib.join (Aj 1::List.flatten [[114::dec d],[dec k]]) [32]=_
  simp[BG,Go.Lib.join_one]
 obtain⟨CK,CA,wk,lk,la,CQ,ld0,ls0,lt0,lu0,lk0,la0,lq0⟩:=BY hf;have CN:=Az (fun W=>AA 1 W);have Cd:=Az (fun W=>AV hf.d.1 (Int.le_trans hf.d.2 (by decide)) W);dsimp only at Cd;have ln0:(Aj 1).length=5:=by decide
 have b2:¬9223372036854775807<(((dec d).length+1+1)+(1+(dec k).length)):=by omega
 have bn:¬9223372036854775807<(Aj 1).length+(((dec d).length+1+1)+(1+(dec k).length)):=by omega
 clear lk0 lq0 ld0 ls0 lt0 lu0 la0 ln0;have hS:=BB w 1 d s t u a k q;replace hf:=Az hf;replace te:=Az te;unfold In.v;go_enter Tryz.func92,Tryz.ntmps92;go_wp2_with fail
 go_region_held3 (fun W=>RB w W 1 d s t u a k q) (first |exact hS |exact Ad hb (by assumption))
  (first
   |(go_at_call 105;(with_reducible refine(CK.out _).mono ?_);rintro e w' ⟨rfl,hb⟩)
   |(go_at_call 105;(with_reducible refine(CA.out _).mono ?_);rintro e w' ⟨rfl,hb⟩))
 obtain⟨HA,y0,y1,y2,y3,y4,y5,y6,y7⟩:=Ad (Below.refl _ _) (by assumption);by_cases hq:0≤q;obtain⟨CQ,lq⟩:=CQ.out hq;go_wp2_with fail
 refine(CQ.out _).mono ?_;rintro e w2 ⟨rfl,hb2⟩;obtain⟨HA,y0,y1,y2,y3,y4,y5,y6,y7⟩:=Ad hb2 ⟨HA,y0,y1,y2,y3,y4,y5,y6,y7⟩;go_wp2_with fail
 rotate_left;go_wp2_with fail
 rotate_left;all_goals (
  refine(CN.out _).mono ?_;rintro e w2 ⟨rfl,hb2⟩;obtain⟨HA,y0,y1,y2,y3,y4,y5,y6,y7⟩:=Ad hb2 ⟨HA,y0,y1,y2,y3,y4,y5,y6,y7⟩;go_wp2_with fail
  refine(Cd.out _).mono ?_;rintro e w2 ⟨rfl,hb2⟩;obtain⟨HA,y0,y1,y2,y3,y4,y5,y6,y7⟩:=Ad hb2 ⟨HA,y0,y1,y2,y3,y4,y5,y6,y7⟩;go_wp2_with fail
  go_wp2;go_ret;refine⟨BH ?_,HA.out.2⟩;rw[te.out];simp[Dy,BU])
theorem YV(d s t u a k q:Int)(hf:In.fits ⟨2,d,s,t,u,a,k,q⟩)(w:World):Calls Tryz.prog 92 #[In.v ⟨2,d,s,t,u,a,k,q⟩] w fun e w'=>e=.returned (.string ⟨(Bx ⟨2,d,s,t,u,a,k,q⟩).toArray⟩)∧Below w.heap.size w w':=by
 have te:Bx ⟨2,d,s,t,u,a,k,q⟩=Aj 2++((32::114::dec d)++(32::114::dec s)):=by
  show Go.Lib.join (Aj 2::List.flatten [[114::dec d],[114::dec s]]) [32]=_
  simp[BG,Go.Lib.join_one]
 obtain⟨CK,CA,wk,lk,la,CQ,ld0,ls0,lt0,lu0,lk0,la0,lq0⟩:=BY hf;have CN:=Az (fun W=>AA 2 W);have Cd:=Az (fun W=>AV hf.d.1 (Int.le_trans hf.d.2 (by decide)) W);have Cs:=Az (fun W=>AV hf.s.1 (Int.le_trans hf.s.2 (by decide)) W);dsimp only at Cd Cs;have ln0:(Aj 2).length=4:=by decide
 have b2:¬9223372036854775807<(((dec d).length+1+1)+((dec s).length+1+1)):=by omega
 have bn:¬9223372036854775807<(Aj 2).length+(((dec d).length+1+1)+((dec s).length+1+1)):=by omega
 clear lk0 lq0 ld0 ls0 lt0 lu0 la0 ln0;have hS:=BB w 2 d s t u a k q;replace hf:=Az hf;replace te:=Az te;unfold In.v;go_enter Tryz.func92,Tryz.ntmps92;go_wp2_with fail
 go_region_held3 (fun W=>RB w W 2 d s t u a k q) (first |exact hS |exact Ad hb (by assumption))
  (first
   |(go_at_call 105;(with_reducible refine(CK.out _).mono ?_);rintro e w' ⟨rfl,hb⟩)
   |(go_at_call 105;(with_reducible refine(CA.out _).mono ?_);rintro e w' ⟨rfl,hb⟩))
 obtain⟨HA,y0,y1,y2,y3,y4,y5,y6,y7⟩:=Ad (Below.refl _ _) (by assumption);by_cases hq:0≤q;obtain⟨CQ,lq⟩:=CQ.out hq;go_wp2_with fail
 refine(CQ.out _).mono ?_;rintro e w2 ⟨rfl,hb2⟩;obtain⟨HA,y0,y1,y2,y3,y4,y5,y6,y7⟩:=Ad hb2 ⟨HA,y0,y1,y2,y3,y4,y5,y6,y7⟩;go_wp2_with fail
 rotate_left;go_wp2_with fail
 rotate_left;all_goals (
  refine(CN.out _).mono ?_;rintro e w2 ⟨rfl,hb2⟩;obtain⟨HA,y0,y1,y2,y3,y4,y5,y6,y7⟩:=Ad hb2 ⟨HA,y0,y1,y2,y3,y4,y5,y6,y7⟩;go_wp2_with fail
  have hT:=Ad (Bd (Below.refl _ _)) ⟨HA,y0,y1,y2,y3,y4,y5,y6,y7⟩;go_region_held3 (fun W=>RB w W 2 d s t u a k q) (first |exact hT |exact Ad hb (by assumption))
   (first
    |(go_at_call 106;(with_reducible refine(Cd.out _).mono ?_);rintro e w' ⟨rfl,hb⟩)
    |(go_at_call 106;(with_reducible refine(Cs.out _).mono ?_);rintro e w' ⟨rfl,hb⟩))
  obtain⟨HA,y0,y1,y2,y3,y4,y5,y6,y7⟩:=Ad (Below.refl _ _) (by assumption);go_wp2;go_ret;refine⟨BH ?_,HA.out.2⟩;rw[te.out];simp[Dy,BU])
theorem YW(d s t u a k q:Int)(hf:In.fits ⟨3,d,s,t,u,a,k,q⟩)(w:World):Calls Tryz.prog 92 #[In.v ⟨3,d,s,t,u,a,k,q⟩] w fun e w'=>e=.returned (.string ⟨(Bx ⟨3,d,s,t,u,a,k,q⟩).toArray⟩)∧Below w.heap.size w w':=by
 have te:Bx ⟨3,d,s,t,u,a,k,q⟩=Aj 3++(((32::114::dec d)++(32::114::dec s))++(32::dec k)):=by
  show Go.Lib.join (Aj 3::List.flatten [[114::dec d],[114::dec s],[dec k]]) [32]=_
  simp[BG,Go.Lib.join_one]
 obtain⟨CK,CA,wk,lk,la,CQ,ld0,ls0,lt0,lu0,lk0,la0,lq0⟩:=BY hf;have CN:=Az (fun W=>AA 3 W);have Cd:=Az (fun W=>AV hf.d.1 (Int.le_trans hf.d.2 (by decide)) W);have Cs:=Az (fun W=>AV hf.s.1 (Int.le_trans hf.s.2 (by decide)) W);dsimp only at Cd Cs;have ln0:(Aj 3).length=4:=by decide
 have b2:¬9223372036854775807<(((dec d).length+1+1)+((dec s).length+1+1)):=by omega
 have b3:¬9223372036854775807<((((dec d).length+1+1)+((dec s).length+1+1))+(1+(dec k).length)):=by omega
 have bn:¬9223372036854775807<(Aj 3).length+((((dec d).length+1+1)+((dec s).length+1+1))+(1+(dec k).length)):=by omega
 clear lk0 lq0 ld0 ls0 lt0 lu0 la0 ln0;have hS:=BB w 3 d s t u a k q;replace hf:=Az hf;replace te:=Az te;unfold In.v;go_enter Tryz.func92,Tryz.ntmps92;go_wp2_with fail
 go_region_held3 (fun W=>RB w W 3 d s t u a k q) (first |exact hS |exact Ad hb (by assumption))
  (first
   |(go_at_call 105;(with_reducible refine(CK.out _).mono ?_);rintro e w' ⟨rfl,hb⟩)
   |(go_at_call 105;(with_reducible refine(CA.out _).mono ?_);rintro e w' ⟨rfl,hb⟩))
 obtain⟨HA,y0,y1,y2,y3,y4,y5,y6,y7⟩:=Ad (Below.refl _ _) (by assumption);by_cases hq:0≤q;obtain⟨CQ,lq⟩:=CQ.out hq;go_wp2_with fail
 refine(CQ.out _).mono ?_;rintro e w2 ⟨rfl,hb2⟩;obtain⟨HA,y0,y1,y2,y3,y4,y5,y6,y7⟩:=Ad hb2 ⟨HA,y0,y1,y2,y3,y4,y5,y6,y7⟩;go_wp2_with fail
 rotate_left;go_wp2_with fail
 rotate_left;all_goals (
  refine(CN.out _).mono ?_;rintro e w2 ⟨rfl,hb2⟩;obtain⟨HA,y0,y1,y2,y3,y4,y5,y6,y7⟩:=Ad hb2 ⟨HA,y0,y1,y2,y3,y4,y5,y6,y7⟩;go_wp2_with fail
  have hT:=Ad (Bd (Below.refl _ _)) ⟨HA,y0,y1,y2,y3,y4,y5,y6,y7⟩;go_region_held3 (fun W=>RB w W 3 d s t u a k q) (first |exact hT |exact Ad hb (by assumption))
   (first
    |(go_at_call 106;(with_reducible refine(Cd.out _).mono ?_);rintro e w' ⟨rfl,hb⟩)
    |(go_at_call 106;(with_reducible refine(Cs.out _).mono ?_);rintro e w' ⟨rfl,hb⟩))
  obtain⟨HA,y0,y1,y2,y3,y4,y5,y6,y7⟩:=Ad (Below.refl _ _) (by assumption);go_wp2;go_ret;refine⟨BH ?_,HA.out.2⟩;rw[te.out];simp[Dy,BU])
theorem YX(d s t u a k q:Int)(hf:In.fits ⟨4,d,s,t,u,a,k,q⟩)(w:World):Calls Tryz.prog 92 #[In.v ⟨4,d,s,t,u,a,k,q⟩] w fun e w'=>e=.returned (.string ⟨(Bx ⟨4,d,s,t,u,a,k,q⟩).toArray⟩)∧Below w.heap.size w w':=by
 have te:Bx ⟨4,d,s,t,u,a,k,q⟩=Aj 4++(((32::114::dec d)++(32::114::dec s))++(32::dec k)):=by
  show Go.Lib.join (Aj 4::List.flatten [[114::dec d],[114::dec s],[dec k]]) [32]=_
  simp[BG,Go.Lib.join_one]
 obtain⟨CK,CA,wk,lk,la,CQ,ld0,ls0,lt0,lu0,lk0,la0,lq0⟩:=BY hf;have CN:=Az (fun W=>AA 4 W);have Cd:=Az (fun W=>AV hf.d.1 (Int.le_trans hf.d.2 (by decide)) W);have Cs:=Az (fun W=>AV hf.s.1 (Int.le_trans hf.s.2 (by decide)) W);dsimp only at Cd Cs;have ln0:(Aj 4).length=4:=by decide
 have b2:¬9223372036854775807<(((dec d).length+1+1)+((dec s).length+1+1)):=by omega
 have b3:¬9223372036854775807<((((dec d).length+1+1)+((dec s).length+1+1))+(1+(dec k).length)):=by omega
 have bn:¬9223372036854775807<(Aj 4).length+((((dec d).length+1+1)+((dec s).length+1+1))+(1+(dec k).length)):=by omega
 clear lk0 lq0 ld0 ls0 lt0 lu0 la0 ln0;have hS:=BB w 4 d s t u a k q;replace hf:=Az hf;replace te:=Az te;unfold In.v;go_enter Tryz.func92,Tryz.ntmps92;go_wp2_with fail
 go_region_held3 (fun W=>RB w W 4 d s t u a k q) (first |exact hS |exact Ad hb (by assumption))
  (first
   |(go_at_call 105;(with_reducible refine(CK.out _).mono ?_);rintro e w' ⟨rfl,hb⟩)
   |(go_at_call 105;(with_reducible refine(CA.out _).mono ?_);rintro e w' ⟨rfl,hb⟩))
 obtain⟨HA,y0,y1,y2,y3,y4,y5,y6,y7⟩:=Ad (Below.refl _ _) (by assumption);by_cases hq:0≤q;obtain⟨CQ,lq⟩:=CQ.out hq;go_wp2_with fail
 refine(CQ.out _).mono ?_;rintro e w2 ⟨rfl,hb2⟩;obtain⟨HA,y0,y1,y2,y3,y4,y5,y6,y7⟩:=Ad hb2 ⟨HA,y0,y1,y2,y3,y4,y5,y6,y7⟩;go_wp2_with fail
 rotate_left;go_wp2_with fail
 rotate_left;all_goals (
  refine(CN.out _).mono ?_;rintro e w2 ⟨rfl,hb2⟩;obtain⟨HA,y0,y1,y2,y3,y4,y5,y6,y7⟩:=Ad hb2 ⟨HA,y0,y1,y2,y3,y4,y5,y6,y7⟩;go_wp2_with fail
  have hT:=Ad (Bd (Below.refl _ _)) ⟨HA,y0,y1,y2,y3,y4,y5,y6,y7⟩;go_region_held3 (fun W=>RB w W 4 d s t u a k q) (first |exact hT |exact Ad hb (by assumption))
   (first
    |(go_at_call 106;(with_reducible refine(Cd.out _).mono ?_);rintro e w' ⟨rfl,hb⟩)
    |(go_at_call 106;(with_reducible refine(Cs.out _).mono ?_);rintro e w' ⟨rfl,hb⟩))
  obtain⟨HA,y0,y1,y2,y3,y4,y5,y6,y7⟩:=Ad (Below.refl _ _) (by assumption);go_wp2;go_ret;refine⟨BH ?_,HA.out.2⟩;rw[te.out];simp[Dy,BU])
theorem YY(d s t u a k q:Int)(hf:In.fits ⟨5,d,s,t,u,a,k,q⟩)(w:World):Calls Tryz.prog 92 #[In.v ⟨5,d,s,t,u,a,k,q⟩] w fun e w'=>e=.returned (.string ⟨(Bx ⟨5,d,s,t,u,a,k,q⟩).toArray⟩)∧Below w.heap.size w w':=by
 have te:Bx ⟨5,d,s,t,u,a,k,q⟩=Aj 5++(((32::114::dec d)++(32::114::dec s))++(32::dec k)):=by
  show Go.Lib.join (Aj 5::List.flatten [[114::dec d],[114::dec s],[dec k]]) [32]=_
  simp[BG,Go.Lib.join_one]
 obtain⟨CK,CA,wk,lk,la,CQ,ld0,ls0,lt0,lu0,lk0,la0,lq0⟩:=BY hf;have CN:=Az (fun W=>AA 5 W);have Cd:=Az (fun W=>AV hf.d.1 (Int.le_trans hf.d.2 (by decide)) W);have Cs:=Az (fun W=>AV hf.s.1 (Int.le_trans hf.s.2 (by decide)) W);dsimp only at Cd Cs;have ln0:(Aj 5).length=3:=by decide
 have b2:¬9223372036854775807<(((dec d).length+1+1)+((dec s).length+1+1)):=by omega
 have b3:¬9223372036854775807<((((dec d).length+1+1)+((dec s).length+1+1))+(1+(dec k).length)):=by omega
 have bn:¬9223372036854775807<(Aj 5).length+((((dec d).length+1+1)+((dec s).length+1+1))+(1+(dec k).length)):=by omega
 clear lk0 lq0 ld0 ls0 lt0 lu0 la0 ln0;have hS:=BB w 5 d s t u a k q;replace hf:=Az hf;replace te:=Az te;unfold In.v;go_enter Tryz.func92,Tryz.ntmps92;go_wp2_with fail
 go_region_held3 (fun W=>RB w W 5 d s t u a k q) (first |exact hS |exact Ad hb (by assumption))
  (first
   |(go_at_call 105;(with_reducible refine(CK.out _).mono ?_);rintro e w' ⟨rfl,hb⟩)
   |(go_at_call 105;(with_reducible refine(CA.out _).mono ?_);rintro e w' ⟨rfl,hb⟩))
 obtain⟨HA,y0,y1,y2,y3,y4,y5,y6,y7⟩:=Ad (Below.refl _ _) (by assumption);by_cases hq:0≤q;obtain⟨CQ,lq⟩:=CQ.out hq;go_wp2_with fail
 refine(CQ.out _).mono ?_;rintro e w2 ⟨rfl,hb2⟩;obtain⟨HA,y0,y1,y2,y3,y4,y5,y6,y7⟩:=Ad hb2 ⟨HA,y0,y1,y2,y3,y4,y5,y6,y7⟩;go_wp2_with fail
 rotate_left;go_wp2_with fail
 rotate_left;all_goals (
  refine(CN.out _).mono ?_;rintro e w2 ⟨rfl,hb2⟩;obtain⟨HA,y0,y1,y2,y3,y4,y5,y6,y7⟩:=Ad hb2 ⟨HA,y0,y1,y2,y3,y4,y5,y6,y7⟩;go_wp2_with fail
  have hT:=Ad (Bd (Below.refl _ _)) ⟨HA,y0,y1,y2,y3,y4,y5,y6,y7⟩;go_region_held3 (fun W=>RB w W 5 d s t u a k q) (first |exact hT |exact Ad hb (by assumption))
   (first
    |(go_at_call 106;(with_reducible refine(Cd.out _).mono ?_);rintro e w' ⟨rfl,hb⟩)
    |(go_at_call 106;(with_reducible refine(Cs.out _).mono ?_);rintro e w' ⟨rfl,hb⟩))
  obtain⟨HA,y0,y1,y2,y3,y4,y5,y6,y7⟩:=Ad (Below.refl _ _) (by assumption);go_wp2;go_ret;refine⟨BH ?_,HA.out.2⟩;rw[te.out];simp[Dy,BU])
theorem Zq(d s t u a k q:Int)(hf:In.fits ⟨6,d,s,t,u,a,k,q⟩)(w:World):Calls Tryz.prog 92 #[In.v ⟨6,d,s,t,u,a,k,q⟩] w fun e w'=>e=.returned (.string ⟨(Bx ⟨6,d,s,t,u,a,k,q⟩).toArray⟩)∧Below w.heap.size w w':=by
 have te:Bx ⟨6,d,s,t,u,a,k,q⟩=Aj 6++(((32::114::dec d)++(32::114::dec s))++(32::dec k)):=by
  show Go.Lib.join (Aj 6::List.flatten [[114::dec d],[114::dec s],[dec k]]) [32]=_
  simp[BG,Go.Lib.join_one]
 obtain⟨CK,CA,wk,lk,la,CQ,ld0,ls0,lt0,lu0,lk0,la0,lq0⟩:=BY hf;have CN:=Az (fun W=>AA 6 W);have Cd:=Az (fun W=>AV hf.d.1 (Int.le_trans hf.d.2 (by decide)) W);have Cs:=Az (fun W=>AV hf.s.1 (Int.le_trans hf.s.2 (by decide)) W);dsimp only at Cd Cs;have ln0:(Aj 6).length=3:=by decide
 have b2:¬9223372036854775807<(((dec d).length+1+1)+((dec s).length+1+1)):=by omega
 have b3:¬9223372036854775807<((((dec d).length+1+1)+((dec s).length+1+1))+(1+(dec k).length)):=by omega
 have bn:¬9223372036854775807<(Aj 6).length+((((dec d).length+1+1)+((dec s).length+1+1))+(1+(dec k).length)):=by omega
 clear lk0 lq0 ld0 ls0 lt0 lu0 la0 ln0;have hS:=BB w 6 d s t u a k q;replace hf:=Az hf;replace te:=Az te;unfold In.v;go_enter Tryz.func92,Tryz.ntmps92;go_wp2_with fail
 go_region_held3 (fun W=>RB w W 6 d s t u a k q) (first |exact hS |exact Ad hb (by assumption))
  (first
   |(go_at_call 105;(with_reducible refine(CK.out _).mono ?_);rintro e w' ⟨rfl,hb⟩)
   |(go_at_call 105;(with_reducible refine(CA.out _).mono ?_);rintro e w' ⟨rfl,hb⟩))
 obtain⟨HA,y0,y1,y2,y3,y4,y5,y6,y7⟩:=Ad (Below.refl _ _) (by assumption);by_cases hq:0≤q;obtain⟨CQ,lq⟩:=CQ.out hq;go_wp2_with fail
 refine(CQ.out _).mono ?_;rintro e w2 ⟨rfl,hb2⟩;obtain⟨HA,y0,y1,y2,y3,y4,y5,y6,y7⟩:=Ad hb2 ⟨HA,y0,y1,y2,y3,y4,y5,y6,y7⟩;go_wp2_with fail
 rotate_left;go_wp2_with fail
 rotate_left;all_goals (
  refine(CN.out _).mono ?_;rintro e w2 ⟨rfl,hb2⟩;obtain⟨HA,y0,y1,y2,y3,y4,y5,y6,y7⟩:=Ad hb2 ⟨HA,y0,y1,y2,y3,y4,y5,y6,y7⟩;go_wp2_with fail
  have hT:=Ad (Bd (Below.refl _ _)) ⟨HA,y0,y1,y2,y3,y4,y5,y6,y7⟩;go_region_held3 (fun W=>RB w W 6 d s t u a k q) (first |exact hT |exact Ad hb (by assumption))
   (first
    |(go_at_call 106;(with_reducible refine(Cd.out _).mono ?_);rintro e w' ⟨rfl,hb⟩)
    |(go_at_call 106;(with_reducible refine(Cs.out _).mono ?_);rintro e w' ⟨rfl,hb⟩))
  obtain⟨HA,y0,y1,y2,y3,y4,y5,y6,y7⟩:=Ad (Below.refl _ _) (by assumption);go_wp2;go_ret;refine⟨BH ?_,HA.out.2⟩;rw[te.out];simp[Dy,BU])
theorem Zr(d s t u a k q:Int)(hf:In.fits ⟨7,d,s,t,u,a,k,q⟩)(w:World):Calls Tryz.prog 92 #[In.v ⟨7,d,s,t,u,a,k,q⟩] w fun e w'=>e=.returned (.string ⟨(Bx ⟨7,d,s,t,u,a,k,q⟩).toArray⟩)∧Below w.heap.size w w':=by
 have te:Bx ⟨7,d,s,t,u,a,k,q⟩=Aj 7++(((32::114::dec d)++(32::114::dec s))++(32::114::dec t)):=by
  show Go.Lib.join (Aj 7::List.flatten [[114::dec d],[114::dec s],[114::dec t]]) [32]=_
  simp[BG,Go.Lib.join_one]
 obtain⟨CK,CA,wk,lk,la,CQ,ld0,ls0,lt0,lu0,lk0,la0,lq0⟩:=BY hf;have CN:=Az (fun W=>AA 7 W);have Cd:=Az (fun W=>AV hf.d.1 (Int.le_trans hf.d.2 (by decide)) W);have Cs:=Az (fun W=>AV hf.s.1 (Int.le_trans hf.s.2 (by decide)) W);have Ct:=Az (fun W=>AV hf.t.1 (Int.le_trans hf.t.2 (by decide)) W);dsimp only at Cd Cs Ct;have ln0:(Aj 7).length=2:=by decide
 have b2:¬9223372036854775807<(((dec d).length+1+1)+((dec s).length+1+1)):=by omega
 have b3:¬9223372036854775807<((((dec d).length+1+1)+((dec s).length+1+1))+((dec t).length+1+1)):=by omega
 have bn:¬9223372036854775807<(Aj 7).length+((((dec d).length+1+1)+((dec s).length+1+1))+((dec t).length+1+1)):=by omega
 clear lk0 lq0 ld0 ls0 lt0 lu0 la0 ln0;have hS:=BB w 7 d s t u a k q;replace hf:=Az hf;replace te:=Az te;unfold In.v;go_enter Tryz.func92,Tryz.ntmps92;go_wp2_with fail
 go_region_held3 (fun W=>RB w W 7 d s t u a k q) (first |exact hS |exact Ad hb (by assumption))
  (first
   |(go_at_call 105;(with_reducible refine(CK.out _).mono ?_);rintro e w' ⟨rfl,hb⟩)
   |(go_at_call 105;(with_reducible refine(CA.out _).mono ?_);rintro e w' ⟨rfl,hb⟩))
 obtain⟨HA,y0,y1,y2,y3,y4,y5,y6,y7⟩:=Ad (Below.refl _ _) (by assumption);by_cases hq:0≤q;obtain⟨CQ,lq⟩:=CQ.out hq;go_wp2_with fail
 refine(CQ.out _).mono ?_;rintro e w2 ⟨rfl,hb2⟩;obtain⟨HA,y0,y1,y2,y3,y4,y5,y6,y7⟩:=Ad hb2 ⟨HA,y0,y1,y2,y3,y4,y5,y6,y7⟩;go_wp2_with fail
 rotate_left;go_wp2_with fail
 rotate_left;all_goals (
  refine(CN.out _).mono ?_;rintro e w2 ⟨rfl,hb2⟩;obtain⟨HA,y0,y1,y2,y3,y4,y5,y6,y7⟩:=Ad hb2 ⟨HA,y0,y1,y2,y3,y4,y5,y6,y7⟩;go_wp2_with fail
  have hT:=Ad (Bd (Below.refl _ _)) ⟨HA,y0,y1,y2,y3,y4,y5,y6,y7⟩;go_region_held3 (fun W=>RB w W 7 d s t u a k q) (first |exact hT |exact Ad hb (by assumption))
   (first
    |(go_at_call 106;(with_reducible refine(Cd.out _).mono ?_);rintro e w' ⟨rfl,hb⟩)
    |(go_at_call 106;(with_reducible refine(Cs.out _).mono ?_);rintro e w' ⟨rfl,hb⟩)
    |(go_at_call 106;(with_reducible refine(Ct.out _).mono ?_);rintro e w' ⟨rfl,hb⟩))
  obtain⟨HA,y0,y1,y2,y3,y4,y5,y6,y7⟩:=Ad (Below.refl _ _) (by assumption);go_wp2;go_ret;refine⟨BH ?_,HA.out.2⟩;rw[te.out];simp[Dy,BU])
theorem Zs(d s t u a k q:Int)(hf:In.fits ⟨8,d,s,t,u,a,k,q⟩)(hq:0≤q)(w:World):Calls Tryz.prog 92 #[In.v ⟨8,d,s,t,u,a,k,q⟩] w fun e w'=>e=.returned (.string ⟨(Bx ⟨8,d,s,t,u,a,k,q⟩).toArray⟩)∧Below w.heap.size w w':=by
 have te:Bx ⟨8,d,s,t,u,a,k,q⟩=Aj 8++(((32::114::dec s)++(32::114::dec t))++(32::dec q)):=by
  show Go.Lib.join (Aj 8::List.flatten [[114::dec s],[114::dec t],[dec q]]) [32]=_
  simp[BG,Go.Lib.join_one]
 obtain⟨CK,CA,wk,lk,la,CQ,ld0,ls0,lt0,lu0,lk0,la0,lq0⟩:=BY hf;have CN:=Az (fun W=>AA 8 W);have Cs:=Az (fun W=>AV hf.s.1 (Int.le_trans hf.s.2 (by decide)) W);have Ct:=Az (fun W=>AV hf.t.1 (Int.le_trans hf.t.2 (by decide)) W);dsimp only at Cs Ct;have ln0:(Aj 8).length=3:=by decide
 have b2:¬9223372036854775807<(((dec s).length+1+1)+((dec t).length+1+1)):=by omega
 have b3:¬9223372036854775807<((((dec s).length+1+1)+((dec t).length+1+1))+(1+(dec q).length)):=by omega
 have bn:¬9223372036854775807<(Aj 8).length+((((dec s).length+1+1)+((dec t).length+1+1))+(1+(dec q).length)):=by omega
 clear lk0 lq0 ld0 ls0 lt0 lu0 la0 ln0;have hS:=BB w 8 d s t u a k q;replace hf:=Az hf;replace te:=Az te;unfold In.v;go_enter Tryz.func92,Tryz.ntmps92;go_wp2_with fail
 go_region_held3 (fun W=>RB w W 8 d s t u a k q) (first |exact hS |exact Ad hb (by assumption))
  (first
   |(go_at_call 105;(with_reducible refine(CK.out _).mono ?_);rintro e w' ⟨rfl,hb⟩)
   |(go_at_call 105;(with_reducible refine(CA.out _).mono ?_);rintro e w' ⟨rfl,hb⟩))
 obtain⟨HA,y0,y1,y2,y3,y4,y5,y6,y7⟩:=Ad (Below.refl _ _) (by assumption);obtain⟨CQ,lq⟩:=CQ.out hq;go_wp2_with fail
 refine(CQ.out _).mono ?_;rintro e w2 ⟨rfl,hb2⟩;obtain⟨HA,y0,y1,y2,y3,y4,y5,y6,y7⟩:=Ad hb2 ⟨HA,y0,y1,y2,y3,y4,y5,y6,y7⟩;go_wp2_with fail
 refine(CN.out _).mono ?_;rintro e w2 ⟨rfl,hb2⟩;obtain⟨HA,y0,y1,y2,y3,y4,y5,y6,y7⟩:=Ad hb2 ⟨HA,y0,y1,y2,y3,y4,y5,y6,y7⟩;go_wp2_with fail
 have hT:=Ad (Bd (Below.refl _ _)) ⟨HA,y0,y1,y2,y3,y4,y5,y6,y7⟩;go_region_held3 (fun W=>RB w W 8 d s t u a k q) (first |exact hT |exact Ad hb (by assumption))
  (first
   |(go_at_call 106;(with_reducible refine(Cs.out _).mono ?_);rintro e w' ⟨rfl,hb⟩)
   |(go_at_call 106;(with_reducible refine(Ct.out _).mono ?_);rintro e w' ⟨rfl,hb⟩))
 obtain⟨HA,y0,y1,y2,y3,y4,y5,y6,y7⟩:=Ad (Below.refl _ _) (by assumption);go_wp2;go_ret;refine⟨BH ?_,HA.out.2⟩;rw[te.out];simp[Dy,BU]
theorem Zt(d s t u a k q:Int)(hf:In.fits ⟨9,d,s,t,u,a,k,q⟩)(hq:0≤q)(w:World):Calls Tryz.prog 92 #[In.v ⟨9,d,s,t,u,a,k,q⟩] w fun e w'=>e=.returned (.string ⟨(Bx ⟨9,d,s,t,u,a,k,q⟩).toArray⟩)∧Below w.heap.size w w':=by
 have te:Bx ⟨9,d,s,t,u,a,k,q⟩=Aj 9++(((32::114::dec s)++(32::114::dec t))++(32::dec q)):=by
  show Go.Lib.join (Aj 9::List.flatten [[114::dec s],[114::dec t],[dec q]]) [32]=_
  simp[BG,Go.Lib.join_one]
 obtain⟨CK,CA,wk,lk,la,CQ,ld0,ls0,lt0,lu0,lk0,la0,lq0⟩:=BY hf;have CN:=Az (fun W=>AA 9 W);have Cs:=Az (fun W=>AV hf.s.1 (Int.le_trans hf.s.2 (by decide)) W);have Ct:=Az (fun W=>AV hf.t.1 (Int.le_trans hf.t.2 (by decide)) W);dsimp only at Cs Ct;have ln0:(Aj 9).length=3:=by decide
 have b2:¬9223372036854775807<(((dec s).length+1+1)+((dec t).length+1+1)):=by omega
 have b3:¬9223372036854775807<((((dec s).length+1+1)+((dec t).length+1+1))+(1+(dec q).length)):=by omega
 have bn:¬9223372036854775807<(Aj 9).length+((((dec s).length+1+1)+((dec t).length+1+1))+(1+(dec q).length)):=by omega
 clear lk0 lq0 ld0 ls0 lt0 lu0 la0 ln0;have hS:=BB w 9 d s t u a k q;replace hf:=Az hf;replace te:=Az te;unfold In.v;go_enter Tryz.func92,Tryz.ntmps92;go_wp2_with fail
 go_region_held3 (fun W=>RB w W 9 d s t u a k q) (first |exact hS |exact Ad hb (by assumption))
  (first
   |(go_at_call 105;(with_reducible refine(CK.out _).mono ?_);rintro e w' ⟨rfl,hb⟩)
   |(go_at_call 105;(with_reducible refine(CA.out _).mono ?_);rintro e w' ⟨rfl,hb⟩))
 obtain⟨HA,y0,y1,y2,y3,y4,y5,y6,y7⟩:=Ad (Below.refl _ _) (by assumption);obtain⟨CQ,lq⟩:=CQ.out hq;go_wp2_with fail
 refine(CQ.out _).mono ?_;rintro e w2 ⟨rfl,hb2⟩;obtain⟨HA,y0,y1,y2,y3,y4,y5,y6,y7⟩:=Ad hb2 ⟨HA,y0,y1,y2,y3,y4,y5,y6,y7⟩;go_wp2_with fail
 refine(CN.out _).mono ?_;rintro e w2 ⟨rfl,hb2⟩;obtain⟨HA,y0,y1,y2,y3,y4,y5,y6,y7⟩:=Ad hb2 ⟨HA,y0,y1,y2,y3,y4,y5,y6,y7⟩;go_wp2_with fail
 have hT:=Ad (Bd (Below.refl _ _)) ⟨HA,y0,y1,y2,y3,y4,y5,y6,y7⟩;go_region_held3 (fun W=>RB w W 9 d s t u a k q) (first |exact hT |exact Ad hb (by assumption))
  (first
   |(go_at_call 106;(with_reducible refine(Cs.out _).mono ?_);rintro e w' ⟨rfl,hb⟩)
   |(go_at_call 106;(with_reducible refine(Ct.out _).mono ?_);rintro e w' ⟨rfl,hb⟩))
 obtain⟨HA,y0,y1,y2,y3,y4,y5,y6,y7⟩:=Ad (Below.refl _ _) (by assumption);go_wp2;go_ret;refine⟨BH ?_,HA.out.2⟩;rw[te.out];simp[Dy,BU]
theorem Yr(d s t u a k q:Int)(hf:In.fits ⟨10,d,s,t,u,a,k,q⟩)(hq:0≤q)(w:World):Calls Tryz.prog 92 #[In.v ⟨10,d,s,t,u,a,k,q⟩] w fun e w'=>e=.returned (.string ⟨(Bx ⟨10,d,s,t,u,a,k,q⟩).toArray⟩)∧Below w.heap.size w w':=by
 have te:Bx ⟨10,d,s,t,u,a,k,q⟩=Aj 10++(32::dec q):=by
  show Go.Lib.join (Aj 10::List.flatten [[dec q]]) [32]=_
  simp[BG,Go.Lib.join_one]
 obtain⟨CK,CA,wk,lk,la,CQ,ld0,ls0,lt0,lu0,lk0,la0,lq0⟩:=BY hf;have CN:=Az (fun W=>AA 10 W);have ln0:(Aj 10).length=4:=by decide
 have bn:¬9223372036854775807<(Aj 10).length+(1+(dec q).length):=by omega
 clear lk0 lq0 ld0 ls0 lt0 lu0 la0 ln0;have hS:=BB w 10 d s t u a k q;replace hf:=Az hf;replace te:=Az te;unfold In.v;go_enter Tryz.func92,Tryz.ntmps92;go_wp2_with fail
 go_region_held3 (fun W=>RB w W 10 d s t u a k q) (first |exact hS |exact Ad hb (by assumption))
  (first
   |(go_at_call 105;(with_reducible refine(CK.out _).mono ?_);rintro e w' ⟨rfl,hb⟩)
   |(go_at_call 105;(with_reducible refine(CA.out _).mono ?_);rintro e w' ⟨rfl,hb⟩))
 obtain⟨HA,y0,y1,y2,y3,y4,y5,y6,y7⟩:=Ad (Below.refl _ _) (by assumption);obtain⟨CQ,lq⟩:=CQ.out hq;go_wp2_with fail
 refine(CQ.out _).mono ?_;rintro e w2 ⟨rfl,hb2⟩;obtain⟨HA,y0,y1,y2,y3,y4,y5,y6,y7⟩:=Ad hb2 ⟨HA,y0,y1,y2,y3,y4,y5,y6,y7⟩;go_wp2_with fail
 refine(CN.out _).mono ?_;rintro e w2 ⟨rfl,hb2⟩;obtain⟨HA,y0,y1,y2,y3,y4,y5,y6,y7⟩:=Ad hb2 ⟨HA,y0,y1,y2,y3,y4,y5,y6,y7⟩;go_wp2_with fail
 go_wp2;go_ret;refine⟨BH ?_,HA.out.2⟩;rw[te.out];simp[Dy,BU]
end
end Go.Proofs.YtnmahobjmpdkdaaGreatDoor
