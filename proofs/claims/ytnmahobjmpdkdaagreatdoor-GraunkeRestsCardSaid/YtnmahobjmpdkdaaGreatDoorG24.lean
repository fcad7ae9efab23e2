/- Parts: RefFind. -/
import Derived.Test.YtnmahobjmpdkdaaGreatDoorG02
import Derived.Test.YtnmahobjmpdkdaaGreatDoorG16
import Derived.Test.YtnmahobjmpdkdaaGreatDoorG20
set_option linter.unusedVariables false
set_option linter.unusedSimpArgs false
set_option maxRecDepth 100000
set_option maxHeartbeats 40000000
namespace Go.Proofs.YtnmahobjmpdkdaaGreatDoor
section
open Go.RowKit Go.Proofs.YtnmahobjmpdkdaaGreatDoorW.PrintWords
theorem CO{W:World}{base n size:Nat}{e:TypeId}{v:Value}{xs:List Value}(h:W.ownsRow base e size v n xs)(hn:0<n) :
  ∃ g c,v=.slice (some ⟨g,0,none⟩) n c∧n≤c∧base≤g∧(∃ cs,W.heap[g]?=some (.cells cs e (0,0))∧n*size≤cs.size)∧∀ j u,xs[j]?=some u→W.cell? ⟨g,j,none⟩=some u:=by
 obtain⟨h1,h2⟩:=h;rcases h2 with ⟨rfl,h0⟩ |⟨g,cap,cur,rfl,hg,hh,hc,hm,hs,ht⟩
 ·omega
 ·refine⟨g,cap,rfl,hc,hg,⟨cur,hh,by rw[hs];exact Nat.mul_le_mul_right _ hc⟩,fun j u hj=>(Bc hh j).trans ?_⟩;have hlt:j<n*size:=by rw[←h1];exact(List.getElem?_eq_some_iff.1 hj).1
  rw[←ht,List.getElem?_take_of_lt hlt,Array.getElem?_toList]at hj;exact hj
theorem RU:(Tryz.prog.info? 88).map (fun i=>(i.zero,i.size,i.bytes))=some (some (.agg #[.string ⟨#[]⟩,.int .i64 0]),2,24):=by kernel_rfl
def ER:List (List UInt8×Nat)→List Value
 |[]=>[]
 |p::L=>.string ⟨p.1.toArray⟩::.int .i64 (p.2:Int)::ER L
theorem IT:∀ (L:List (List UInt8×Nat)) (p:List UInt8×Nat),ER (L++[p])=ER L++[.string ⟨p.1.toArray⟩,.int .i64 (p.2:Int)]
 |[],p=>rfl
 |q::L,p=>by simp[ER,IT L p]
theorem Ir:∀ (L:List (List UInt8×Nat)) (k:Nat) (hk:k<L.length),(ER L)[k*2]?=some (.string ⟨(L[k]).1.toArray⟩)∧(ER L)[k*2+1]?=some (.int .i64 ((L[k]).2:Int))
 |p::L,0,_=>⟨rfl,rfl⟩
 |p::L,k+1,hk=>by
  have:=Ir L k (by simpa using hk);rw[show(k+1)*2=k*2+1+1 by omega]
  simpa [ER]using this
def GO(W:World)(base:Nat)(v:Value)(L:List (List UInt8×Nat)):Prop:=W.ownsRow base 88 2 v L.length (ER L)
theorem GO.nil(W:World)(base:Nat):GO W base (.slice none 0 0) []:=⟨rfl,.inl ⟨rfl,rfl⟩⟩
theorem GO.keep{W W1:World}{base:Nat}{v:Value}{L:List (List UInt8×Nat)}(h:GO W base v L)(hb:Below W.heap.size W W1):GO W1 base v L:=Om h fun k hk=>hb.block k (Ol h k hk)
theorem QS{L:List (List UInt8×Nat)}{s:List UInt8}{n:Nat}:∀ (k:Nat),k<L.length→(∀ h:k<L.length,¬(L[k].1=s∧L[k].2<n))→Cy (L.drop k) s n=Cy (L.drop (k+1)) s n:=by
 intro k hk h;unfold Cy;rw[List.drop_eq_getElem_cons hk,List.find?_cons_of_neg]
 simpa using h hk
theorem Ho(v:Value)(L:List (List UInt8×Nat))(s:List UInt8)(n:Nat)(base:Nat)(W:World)(h:GO W base v L)(hl:L.length≤1000000) :
  Calls Tryz.prog 60 #[v,.string ⟨s.toArray⟩,.int .i64 (n:Int)] W fun e W'=>e=.returned (.int .i64 (Cy L s n))∧Below W.heap.size W W':=by
 obtain⟨fin,hf⟩:∃ r,Cy L s n=r:=⟨_,rfl⟩
 rw[hf];obtain⟨A,m,c,rfl⟩:=AB h;obtain⟨k0,hk0⟩:∃ k,L.length=k:=⟨_,rfl⟩
 have hm:m=k0:=by
  rcases h.2 with ⟨e,h0⟩ |⟨g,cap,cur,e,_⟩
  ·injection e with e1 e2 e3;omega
  ·injection e with e1 e2 e3;omega
 subst hm;replace hf:=Az hf;replace h:=Az h;replace hk0:=Az hk0;have hl':m≤1000000:=by rw[←hk0.out];exact hl
 clear hl;go_enter Tryz.func60,Tryz.ntmps60;go_wp2_with fail
 go_loopw [11] (fun v11 wr=>∃ k:Nat,v11=.int .i64 k∧k≤m∧Af (Cy (L.drop k) s n=fin)∧Af (Below W.heap.size W wr)) (fun v11 _=>m-(intOf v11).toNat)
 case atStart=>exact⟨0,rfl,Nat.zero_le _,⟨by simpa using hf.out⟩,⟨Below.refl _ _⟩⟩
 case round =>
  obtain⟨k,rfl,hk,hF,hB⟩:=hrel;by_cases hlt:k<m
  ·have hkx:k<L.length:=by rw[hk0.out];exact hlt
   obtain⟨g,c',hv,hc,hg,_,hcell⟩:=CO (h.out.keep hB.out) (by omega);obtain⟨rfl,rfl⟩:A=some ⟨g,0,none⟩∧c=c':=by injection hv with h1 h2 h3;exact⟨h1,h3⟩
   obtain⟨e1,e2⟩:=Ir L k hkx;have c1:=hcell _ _ e1;have c2:=hcell _ _ e2;have hstep:=QS (L:=L) (s:=s) (n:=n) k hkx;have hit:(L[k]'hkx).1=s→(L[k]'hkx).2<n→Cy (L.drop k) s n=((L[k]'hkx).2:Int):=fun h1 h2=>by
    unfold Cy;rw[List.drop_eq_getElem_cons hkx,List.find?_cons_of_pos (by simp[h1,h2])]
   have hstep':¬((L[k]'hkx).1=s∧(L[k]'hkx).2<n)→Cy (L.drop (k+1)) s n=fin:=fun hn=>by rw[←hstep (fun _=>hn)];exact hF.out
   rw[hF.out]at hit;generalize L[k].1=nm at c1 hit hstep';generalize L[k].2=pl at c2 hit hstep';have hk0':(0:Int)≤(k:Int):=by omega
   have hk1:(k:Int)<(m:Int):=by omega
   have hkw:IntKind.i64.wrap ((k:Int)+1)=(k:Int)+1:=by rw[IntKind.wrap_i64];omega
   have hb2:=Az (hB.out.alloc hB.out.size (.cells #[.string ⟨nm.toArray⟩,.int .i64 (pl:Int)] 88));replace hstep':=Az hstep';replace hit:=Az hit;clear hcell hv e1 e2 hF hstep;by_cases hn:nm=s
   ·subst hn;have hq:(nm==nm)=true:=beq_self_eq_true nm;by_cases hp:pl<n
    ·have hp':(pl:Int)<(n:Int):=by omega
     have hfin:fin=(pl:Int):=hit.out rfl hp;subst hfin;clear hit hstep';go_wp2;go_ret;exact⟨rfl,hb2.out⟩
    ·have hp':¬(pl:Int)<(n:Int):=by omega
     replace hstep':=Az (hstep'.out (fun h=>hp h.2));clear hit;go_wp2;go_roundw
     case rel=>exact⟨k+1,by go_num,hlt,hstep',hb2⟩
     case measure=>simp[intOf];omega
   ·have hq:(nm==s)=false:=Bq hn;replace hstep':=Az (hstep'.out (fun h=>hn h.1));clear hit;go_wp2;go_roundw
    case rel=>exact⟨k+1,by go_num,hlt,hstep',hb2⟩
    case measure=>simp[intOf];omega
  ·obtain rfl:k=m:=by omega
   have hge:¬(k:Int)<(k:Int):=by omega
   have hfin:fin = -1:=by rw[←hF.out,List.drop_eq_nil_of_le (by rw[hk0.out];exact Nl _)];rfl
   subst hfin;go_wp2;go_ret;exact⟨rfl,hB.out⟩
end
end Go.Proofs.YtnmahobjmpdkdaaGreatDoor
