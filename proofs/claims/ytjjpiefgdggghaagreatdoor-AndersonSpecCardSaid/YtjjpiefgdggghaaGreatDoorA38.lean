/- Parts: Log, LogQ. -/
import Derived.Test.YtjjpiefgdggghaaGreatDoorA03
import Derived.Test.YtjjpiefgdggghaaGreatDoorA34
import Derived.Test.YtjjpiefgdggghaaGreatDoorA13
set_option linter.unusedVariables false
set_option linter.unusedSimpArgs false
set_option maxRecDepth 100000
set_option maxHeartbeats 40000000
namespace Go.Proofs.YtjjpiefgdggghaaGreatDoor
section
open Go.RowKit Go.Proofs.YtjjpiefgdggghaaGreatDoorW.PrintWords
def E2(W:World)(A:Option Addr)(l:List D5):Prop :=
 0<l.length→∃ ad:Addr,A=some ad∧∀ j,j<l.length→W.cell? (ad.add (j*3))=some (.int .i64 ((l.getD j (0,0)).1:Int))∧W.cell? ⟨(ad.add (j*3)).block,(ad.add (j*3)).off+1,none⟩=some (.int .i64 ((l.getD j (0,0)).2:Int))∧W.cell? ⟨(ad.add (j*3)).block,(ad.add (j*3)).off+2,none⟩=some (.int .i64 0)
theorem E2.keep{W W1:World}{A:Option Addr}{l:List D5}(h:E2 W A l)(hb:Below W.heap.size W W1):E2 W1 A l:=fun hp=>by
 obtain⟨ad,rfl,hc⟩:=h hp;exact⟨ad,rfl,fun j hj=>⟨Ck hb (hc j hj).1,Ck hb (hc j hj).2.1,Ck hb (hc j hj).2.2⟩⟩
theorem IL:∀ (L:List D5) (k:Nat) (hk:k<L.length),(Dy L)[k*3]?=some (.int .i64 ((L.getD k (0,0)).1:Int))∧(Dy L)[k*3+1]?=some (.int .i64 ((L.getD k (0,0)).2:Int))∧(Dy L)[k*3+2]?=some (.int .i64 0)
 |p::L,0,_=>⟨rfl,rfl,rfl⟩
 |p::L,k+1,hk=>by
  have:=IL L k (by simpa using hk);rw[show(k+1)*3=k*3+1+1+1 by omega]
  simpa [Dy]using this
theorem Eo.c{W:World}{N:Nat}{v:Value}{l:List D5}(h:Eo W N v l):∃ A c,v=.slice A l.length c∧l.length≤c∧E2 W A l:=by
 by_cases hp:0<l.length
 ·obtain⟨g,c,hv,hc,hg,_,hcell⟩:=Cw h hp;refine⟨_,c,hv,hc,fun _=>⟨_,rfl,fun j hj=>?_⟩⟩;obtain⟨e1,e2,e3⟩:=IL l j hj;have c1:=hcell _ _ e1;have c2:=hcell _ _ e2;have c3:=hcell _ _ e3;rw[add_plain];exact⟨c1,c2,c3⟩
 ·obtain⟨A,n,c,rfl⟩:=AV h;have hn:n=l.length:=by
   rcases h.2 with ⟨e,h0⟩ |⟨g,cap,cur,e,_⟩
   ·injection e with e1 e2 e3;omega
   ·injection e with e1 e2 e3
  subst hn;exact⟨A,c,rfl,by omega,fun h=>absurd h hp⟩
theorem E2.take{W:World}{A:Option Addr}{l:List D5}(h:E2 W A l)(m:Nat):E2 W A (l.take m):=fun hp=>by
 have hl:=List.length_take_le m l;rw[List.length_take]at hp;obtain⟨ad,rfl,hc⟩:=h (by omega);refine⟨ad,rfl,fun j hj=>?_⟩;rw[List.length_take]at hj;have:=hc j (by omega)
 simpa [List.getD_eq_getElem?_getD,List.getElem?_take,show j<m by omega]using this
theorem E2.drop{W:World}{A:Option Addr}{l:List D5}{c:Nat}(h:E2 W A l)(m:Nat)(hm:m≤l.length)(hc:l.length≤c):E2 W (if c=m then A else A.map (·.add (m*3))) (l.drop m):=fun hp=>by
 rw[List.length_drop]at hp;obtain⟨ad,rfl,hcc⟩:=h (by omega);rw[if_neg (by omega)];refine⟨ad.add (m*3),rfl,fun j hj=>?_⟩;rw[List.length_drop]at hj;have:=hcc (m+j) (by omega);rw[show(m+j)*3=m*3+j*3 by omega,←add_add]at this
 simpa [List.getD_eq_getElem?_getD]using this
theorem Og{l:List D5}{n:Nat}(h:n<l.length)(t:Nat):Cm (l.take (n+1)) t=if (l.getD n (0,0)).2=t then (l.getD n (0,0)).1 else Cm (l.take n) t:=by
 rw[List.take_succ_eq_append_getElem h,E0,List.getD_eq_getElem?_getD,List.getElem?_eq_getElem h];rfl
theorem EL(W:World)(A:Option Addr)(c:Nat)(l:List D5)(t:Nat)(h:E2 W A l)(hl:l.length≤100000000) :
  Calls Tryz.prog 106 #[.slice A l.length c,.int .i64 (t:Int)] W fun e W'=>e=.returned (.int .i64 (Cm l t:Int))∧Below W.heap.size W W':=by
 obtain⟨m,hm⟩:∃ m,l.length=m:=⟨_,rfl⟩
 obtain⟨fin,hfin⟩:∃ m,Cm l t=m:=⟨_,rfl⟩
 rw[hm]at hl ⊢;rw[hfin];replace hm:=Az hm;replace h:=Az h;replace hfin:=Az hfin;go_enter Tryz.func106,Tryz.ntmps106;go_wp2_with fail
 go_loopw [5,10] (fun v5 v10 wr=>∃ (n k:Nat),v5=.int .i64 (k:Int)∧v10=.int .i64 (n:Int)∧n≤m∧Ag (Cm (l.take n) t=k)∧Ag (Below W.heap.size W wr)) (fun _ v10 _=>m-(intOf v10).toNat)
 case atStart=>exact⟨0,0,rfl,rfl,Nat.zero_le _,⟨rfl⟩,⟨Below.refl _ _⟩⟩
 case round =>
  obtain⟨n,k,rfl,rfl,hn,hF,hB⟩:=hrel;by_cases hlt:n<m
  ·have hnl:n<l.length:=by rw[hm.out];exact hlt
   obtain⟨ad,rfl,hcell⟩:=h.out.keep hB.out (by omega);obtain⟨c1,c2,c3⟩:=hcell n hnl;have hst:=Og hnl t;rw[hF.out]at hst;generalize l.getD n (0,0)=e at c1 c2 hst;obtain⟨ek,et⟩:=e;dsimp only at c1 c2 hst;have n0:(0:Int)≤(n:Int):=by omega
   have n1:(n:Int)<(m:Int):=by omega
   have nw:IntKind.i64.wrap ((n:Int)+1)=(n:Int)+1:=by rw[IntKind.wrap_i64];omega
   clear hcell hF;have hb3:=hB.out.size;replace hB:=Az (fun o=>hB.out.alloc hb3 o);clear hb3;by_cases ht:et=t
   ·rw[if_pos ht]at hst;replace hst:=Az hst;have x1:((et:Int)==(t:Int))=true:=by rw[ht];exact beq_self_eq_true _
    clear ht;go_wp2;go_roundw
    case rel=>exact⟨n+1,ek,rfl,by go_num,hlt,hst,⟨hB.out _⟩⟩
    case measure=>simp[intOf];omega
   ·rw[if_neg ht]at hst;replace hst:=Az hst;have x1:((et:Int)==(t:Int))=false:=Bq (by omega);clear ht;go_wp2;go_roundw
    case rel=>exact⟨n+1,k,rfl,by go_num,hlt,hst,⟨hB.out _⟩⟩
    case measure=>simp[intOf];omega
  ·obtain rfl:n=m:=by omega
   have n1:¬(n:Int)<(n:Int):=by omega
   have hf:=hF.out;rw[←hm.out,List.take_length,hfin.out]at hf;subst hf;go_wp2;go_ret;exact⟨rfl,hB.out⟩
theorem LF(W:World)(A:Option Addr)(c:Nat)(l:List D5)(t:Nat)(h:E2 W A l)(hl:l.length≤100000000) :
  Calls Tryz.prog 130 #[.slice A l.length c,.int .i64 (t:Int)] W fun e W'=>e=.returned (.int .i64 (DX l t:Int))∧Below W.heap.size W W':=by
 have hL:=EL W A c l t h hl;obtain⟨fin,hfin⟩:∃ m,DX l t=m:=⟨_,rfl⟩
 rw[hfin];unfold DX at hfin;generalize Cm l t=k at *;generalize l.length=m at *;replace hL:=Az hL;replace hfin:=Az hfin;go_enter Tryz.func130,Tryz.ntmps130;go_wp2_with fail
 refine hL.out.mono ?_;rintro e w1 ⟨rfl,hB⟩;replace hB:=Az hB;by_cases h1:k=1
 ·subst h1;have:=hfin.out;subst this;go_wp2;go_ret;exact⟨rfl,hB.out⟩
 have x1:((k:Int)==1)=false:=Bq (by omega);by_cases h2:k=2
 ·subst h2;have:=hfin.out;subst this;go_wp2;go_ret;exact⟨rfl,hB.out⟩
 have x2:((k:Int)==2)=false:=Bq (by omega);by_cases h3:k=3
 ·subst h3;have:=hfin.out;subst this;go_wp2;go_ret;exact⟨rfl,hB.out⟩
 have x3:((k:Int)==3)=false:=Bq (by omega);by_cases h4:k=4
 ·subst h4;have:=hfin.out;subst this;go_wp2;go_ret;exact⟨rfl,hB.out⟩
 have x4:((k:Int)==4)=false:=Bq (by omega);by_cases h5:k=5
 ·subst h5;have:=hfin.out;subst this;go_wp2;go_ret;exact⟨rfl,hB.out⟩
 have x5:((k:Int)==5)=false:=Bq (by omega);by_cases h8:k=8
 ·subst h8;have:=hfin.out;subst this;go_wp2;go_ret;exact⟨rfl,hB.out⟩
 have x8:((k:Int)==8)=false:=Bq (by omega);by_cases h9:k=9
 ·subst h9;have:=hfin.out;subst this;go_wp2;go_ret;exact⟨rfl,hB.out⟩
 have x9:((k:Int)==9)=false:=Bq (by omega);have hk:fin=0:=by rw[←hfin.out];unfold Lx;simp[h1,h2,h3,h4,h5,h8,h9]
 subst hk;clear h1 h2 h3 h4 h5 h8 h9;go_wp2;go_ret;exact⟨rfl,hB.out⟩
theorem JO{l:List D5}{j:Nat}(h:j<l.length):Dp l (l.take (j+1)).reverse=if NU (DX l (l.getD j (0,0)).2)=true then ((l.getD j (0,0)).2:Int) else Dp l (l.take j).reverse:=by
 rw[List.take_succ_eq_append_getElem h,List.reverse_append,List.getD_eq_getElem?_getD,List.getElem?_eq_getElem h];rfl
theorem LG(W:World)(A:Option Addr)(c:Nat)(l:List D5)(h:E2 W A l)(hl:l.length≤100000000) :
  Calls Tryz.prog 108 #[.slice A l.length c] W fun e W'=>e=.returned (.int .i64 (Ft l))∧Below W.heap.size W W':=by
 have hS:∀ W1:World,E2 W1 A l→∀ t:Nat,Calls Tryz.prog 130 #[.slice A l.length c,.int .i64 (t:Int)] W1 fun e W'=>e=.returned (.int .i64 (DX l t:Int))∧Below W1.heap.size W1 W':=fun W1 h1 t=>LF W1 A c l t h1 hl
 obtain⟨m,hm⟩:∃ m,l.length=m:=⟨_,rfl⟩
 obtain⟨fin,hfin⟩:∃ z,Ft l=z:=⟨_,rfl⟩
 rw[hm]at hl hS ⊢;rw[hfin];replace hm:=Az hm;replace h:=Az h;replace hfin:=Az hfin;replace hS:=Az hS;have mw:IntKind.i64.wrap ((m:Int)-1)=(m:Int)-1:=by rw[IntKind.wrap_i64];omega
 go_enter Tryz.func108,Tryz.ntmps108;go_wp2_with fail
 go_loopw [3] (fun v3 wr=>∃ (i:Int) (n:Nat),v3=.int .i64 i∧i=(n:Int)-1∧n≤m∧Ag (Dp l (l.take n).reverse=fin)∧Ag (Below W.heap.size W wr)) (fun v3 _=>(intOf v3+1).toNat)
 case atStart=>exact⟨_,m,rfl,by first |rfl |exact mw,Nl _,⟨by rw[←hm.out,List.take_length];exact hfin.out⟩,⟨Below.refl _ _⟩⟩
 case round =>
  obtain⟨i,n,rfl,hi,hn,hF,hB⟩:=hrel;clear mw;cases n with
  |zero =>
   obtain rfl:i = -1:=by omega
   have hf:fin = -1:=by rw[←hF.out];rfl
   subst hf;have n1:¬(-1:Int)≥0:=by decide
   clear hi;go_wp2;go_ret;exact⟨rfl,hB.out⟩
  |succ j =>
   obtain rfl:i=(j:Int):=by omega
   clear hi;have hnl:j<l.length:=by rw[hm.out];omega
   have hEc:=h.out.keep hB.out;obtain⟨ad,rfl,hcell⟩:=hEc (by omega);obtain⟨c1,c2,c3⟩:=hcell j hnl;have hst:=JO hnl;rw[hF.out]at hst;generalize l.getD j (0,0)=e at c1 c2 hst;obtain⟨ek,et⟩:=e;dsimp only at c1 c2 hst;have n0:(0:Int)≤(j:Int):=by omega
   have n1:(j:Int)<(m:Int):=by omega
   have nw:IntKind.i64.wrap ((j:Int)-1)=(j:Int)-1:=by rw[IntKind.wrap_i64];omega
   have hC:=hS.out wr hEc et;clear hcell hF hEc;obtain⟨k,hk⟩:∃ k,DX l et=k:=⟨_,rfl⟩
   rw[hk]at hC hst;replace hC:=Az hC;replace hst:=Az hst;clear hk;go_wp2_with fail
   refine hC.out.mono ?_;rintro e w1 ⟨rfl,hB1⟩;replace c2:=Ck hB1 c2;have hB2:=Az (hB.out.trans (hB1.mono hB.out.size));clear hB1 hB hC c1 c3;by_cases k3:k=3
   ·subst k3;have hf:fin=(et:Int):=hst.out;subst hf;go_wp2;go_ret;exact⟨rfl,hB2.out⟩
   by_cases k4:k=4
   ·subst k4;have hf:fin=(et:Int):=hst.out;subst hf;go_wp2;go_ret;exact⟨rfl,hB2.out⟩
   by_cases k6:k=6
   ·subst k6;have hf:fin=(et:Int):=hst.out;subst hf;go_wp2;go_ret;exact⟨rfl,hB2.out⟩
   have y3:((k:Int)==3)=false:=Bq (by omega);have y4:((k:Int)==4)=false:=Bq (by omega);have y6:((k:Int)==6)=false:=Bq (by omega);have hf:fin=Dp l (l.take j).reverse:=by
    rw[hst.out,if_neg];simp[NU,k3,k4,k6]
   replace hf:=Az hf.symm;clear k3 k4 k6 hst;go_wp2;go_roundw
   case rel=>exact⟨_,j,rfl,by first |rfl |exact nw,by omega,hf,hB2⟩
   case measure=>simp[intOf]
section
variable {ops:Array Oper} {rest:List Oper} {o:Oper} {a:Act} {Q:Exit→Act→World→Prop} {W:World}
theorem RE(hgd:o.guard=none)(s x:Operand)(ho:o.op=.call {callee:=.builtin .append,args:=#[s,x],argTypes:=#[26,26]})
  (base g:Nat)(y:Int)(v:Value)(xs:List Int)(hs:a.eval s=v)(hr:AS W base v xs)(hx:a.eval x=.slice (some ⟨g,0,none⟩) 1 1)
  (hy:W.heap[g]?=some (.cells #[.int .i64 y] 3 (0,0)))(hl:xs.length≤100000000)(hb:base≤W.heap.size)
  (h:∀ v' W1,AS W1 base v' (xs++[y])→W.grownBy W1 v.ownBlock→(v'.ownBlock=v.ownBlock∨v'.ownBlock=some W.heap.size)→wpList Tryz.prog ops Q rest (a.put o.dst v') W1) :
  wpList Tryz.prog ops Q (o::rest) a W:=by
 obtain⟨i9,hi,hz0,hz1,hz2⟩:=info_parts EX;refine wpList_append_own_at _ hgd s x 26 ho base 3 i9 (.int .i64 0) 1 8 Tryz.underlying26 hi hz0 hz1 hz2 rfl (by decide) v xs.length (xs.map (Value.int .i64)) hs hr ⟨g,0,none⟩ 1 1 [.int .i64 y] hx rfl ?_ ?_ ?_ ?_ hb ?_
 ·intro j u hj;rw[add_plain];exact(Bc hy j).trans (by simpa using hj)
 ·simp[Value.oneCell']
 ·simp[maxLen];omega
 ·omega
 ·intro v' w' h1 h2 _ h4;refine h v' w' ?_ h2 h4;unfold AS;rw[List.map_append,List.length_append];exact h1
end
theorem JI{l l2:List D5}{n:Nat}(h:n<l2.length):BP l (l2.drop n)=if (l2.getD n (0,0)).1=2∧Cm l (l2.getD n (0,0)).2=2∧Cm (l2.drop (n+1)) (l2.getD n (0,0)).2=0 then (l2.getD n (0,0)).2::BP l (l2.drop (n+1)) else BP l (l2.drop (n+1)):=by
 rw[List.drop_eq_getElem_cons h,List.getD_eq_getElem?_getD,List.getElem?_eq_getElem h];rfl
theorem L4(W:World)(A:Option Addr)(c:Nat)(l:List D5)(h:E2 W A l)(hl:l.length≤100000000)(hlc:l.length≤c) :
  Calls Tryz.prog 107 #[.slice A l.length c] W fun e W'=>∃ vq,e=.returned vq∧AS W' W.heap.size vq ((Fs l).map fun t:Nat=>(t:Int))∧Below W.heap.size W W':=by
 have hS:∀ W1:World,E2 W1 A l→∀ t:Nat,Calls Tryz.prog 106 #[.slice A l.length c,.int .i64 (t:Int)] W1 fun e W'=>e=.returned (.int .i64 (Cm l t:Int))∧Below W1.heap.size W1 W':=fun W1 h1 t=>EL W1 A c l t h1 hl
 have hD:∀ W1:World,E2 W1 A l→∀ n:Nat,n≤l.length→∀ t:Nat,Calls Tryz.prog 106 #[.slice (if c=n then A else A.map (·.add (n*3))) (l.length-n) (c-n),.int .i64 (t:Int)] W1 fun e W'=>e=.returned (.int .i64 (Cm (l.drop n) t:Int))∧Below W1.heap.size W1 W':=fun W1 h1 n hn t=>by
  have:=EL W1 (if c=n then A else A.map (·.add (n*3))) (c-n) (l.drop n) t (h1.drop n hn hlc) (by rw[List.length_drop];omega)
  rwa [List.length_drop]at this
 obtain⟨m,hm⟩:∃ m,l.length=m:=⟨_,rfl⟩
 obtain⟨fin,hfin⟩:∃ z,Fs l=z:=⟨_,rfl⟩
 rw[hm]at hl hS hD hlc ⊢;rw[hfin];replace hm:=Az hm;replace h:=Az h;replace hfin:=Az hfin;replace hS:=Az hS;replace hD:=Az hD;go_enter Tryz.func107,Tryz.ntmps107;go_wp2_with fail
 go_loopw [3,8] (fun v3 v8 wr=>∃ (n:Nat) (qs:List Nat),v8=.int .i64 (n:Int)∧n≤m∧qs.length≤n∧Ag (AS wr W.heap.size v3 (qs.map fun t:Nat=>(t:Int)))∧Ag (fin=qs++BP l (l.drop n))∧Ag (Below W.heap.size W wr)) (fun _ v8 _=>m-(intOf v8).toNat)
 case atStart=>exact⟨0,[],rfl,Nat.zero_le _,Nl _,⟨AS.nil _ _⟩,⟨by rw[←hfin.out];rfl⟩,⟨Below.refl _ _⟩⟩
 case round =>
  obtain⟨n,qs,rfl,hn,hql,hR,hF,hB⟩:=hrel;by_cases hlt:n<m
  ·have hnl:n<l.length:=by rw[hm.out];exact hlt
   have hEc:=h.out.keep hB.out;obtain⟨ad,rfl,hcell⟩:=hEc (by omega);obtain⟨c1,c2,c3⟩:=hcell n hnl;have hst:=JI (l:=l) hnl;generalize l.getD n (0,0)=e at c1 c2 hst;obtain⟨ek,et⟩:=e;dsimp only at c1 c2 hst;have n0:(0:Int)≤(n:Int):=by omega
   have n1:(n:Int)<(m:Int):=by omega
   have nw:IntKind.i64.wrap ((n:Int)+1)=(n:Int)+1:=by rw[IntKind.wrap_i64];omega
   have hszW:=hB.out.size;have hbn:=Bw wr (.cells #[.int .i64 (ek:Int),.int .i64 (et:Int),.int .i64 0] 97);have hEn:=hEc.keep hbn;replace hR:=Az (hR.out.keep hbn);have hbx:=Bv wr (.cells #[.int .i64 (ek:Int),.int .i64 (et:Int),.int .i64 0] 97);replace hbn:=Az (hB.out.trans (hbn.mono hszW));replace hEn:=Az hEn;replace hst:=Az hst;clear hcell hEc hB;go_upto_region 5 with fail
   by_cases hk:ek=2;case neg =>
    have x1:((ek:Int)==2)=false:=Bq (by omega);have hF2:fin=qs++BP l (l.drop (n+1)):=by rw[hF.out,hst.out,if_neg (fun x=>hk x.1)]
    have hx0:=(Bc hbx 0).trans rfl;have hx1:=(Bc hbx 1).trans rfl;replace hF2:=Az hF2;clear hst hF hk hbx c1 c2 c3 hEn;go_region
    go_wp2;go_roundw
    case rel=>exact⟨n+1,qs,by go_num,hlt,by omega,⟨hR.out.keep (Bd (Below.refl _ _))⟩,hF2,⟨hbn.out.trans (Bd (Below.refl _ _))⟩⟩
    case measure=>simp[intOf];omega
   subst hk;obtain⟨k1,hk1⟩:∃ k,Cm l et=k:=⟨_,rfl⟩
   obtain⟨k2,hk2⟩:∃ k,Cm (l.drop (n+1)) et=k:=⟨_,rfl⟩
   have hC1:=hS.out _ (hEn.out.keep (Bd (Below.refl _ _))) et;rw[hk1]at hC1;have hst2:=hst.out;rw[hk1,hk2]at hst2;have hS5:(fun W'=>W'.cell? ⟨wr.heap.size,0,none⟩=some (.int .i64 ((2:Nat):Int))∧W'.cell? ⟨wr.heap.size,1,none⟩=some (.int .i64 (et:Int))) (wr.alloc (.cells #[.int .i64 ((2:Nat):Int),.int .i64 (et:Int),.int .i64 0] 97)).drew:=⟨(Bc (Be hbx) 0).trans rfl,(Bc (Be hbx) 1).trans rfl⟩
   have hbnd:=hbn.out.trans (Bd (Below.refl _ (wr.alloc (.cells #[.int .i64 ((2:Nat):Int),.int .i64 (et:Int),.int .i64 0] 97))));replace hR:=Az (hR.out.keep (Bd (Below.refl _ _)));replace hEn:=Az (hEn.out.keep (Bd (Below.refl _ _)));replace hst2:=Az hst2;replace hbnd:=Az hbnd;replace hC1:=Az hC1;replace hk2:=Az hk2;clear hst hk1 c1 c2 c3 hbn hbx;refine Av [] (S:=fun W'=>W'.cell? ⟨wr.heap.size,0,none⟩=some (.int .i64 ((2:Nat):Int))∧W'.cell? ⟨wr.heap.size,1,none⟩=some (.int .i64 (et:Int))) (by kernel_rfl) hS5 (fun hS0=>?_);clear hS5;try simp only[Act.put,Sa,Sb,Sc]
   refine tY 0 (fun _=>hS0) ?_;refine tL 1 (hS0) ?_;refine tY 2 (fun _=>hS0) ?_;refine tY 3 (fun _=>hS0) ?_;refine tY 4 (fun _=>hS0) ?_;refine tY 5 (fun _=>hS0) ?_;refine tL 6 (hS0) ?_;refine Ab (rs:=[7]) (by kernel_rfl) (by simp) ?_;refine Aa.cons (Au rfl) (fun K hK=>?_) Aa.nil;rw[if_pos (by rfl)];go_wp2_with fail
   refine hC1.out.mono ?_;rintro e w1 ⟨rfl,hB1⟩;replace hR:=Az (hR.out.keep hB1);replace hEn:=Az (hEn.out.keep hB1);have hbn1:=Az (hbnd.out.trans (hB1.mono hbnd.out.size));replace hS0:(fun W'=>W'.cell? ⟨wr.heap.size,0,none⟩=some (.int .i64 ((2:Nat):Int))∧W'.cell? ⟨wr.heap.size,1,none⟩=some (.int .i64 (et:Int))) w1:=⟨Ck hB1 hS0.1,Ck hB1 hS0.2⟩
   refine hK.out _ _ (fun _=>hS0) (fun _=>?_);clear hK hC1 hB1 hbnd;try simp only[Act.put,Sa,Sb,Sc]
   by_cases hk:k1=2;case neg =>
    have y1:((k1:Int)==2)=false:=Bq (by omega);have hF2:fin=qs++BP l (l.drop (n+1)):=by rw[hF.out,hst2.out,if_neg (fun x=>hk x.2.1)]
    replace hF2:=Az hF2;clear hst2 hF hk;refine tY 8 (fun _=>hS0) ?_;refine tY 9 (fun _=>hS0) ?_;refine tY 10 (fun _=>hS0) ?_;refine Bo (i:=11) (v:=undef) (Au rfl) (by kernel_rfl) (fun _ _ _ h=>h) (.inr ⟨by rfl,by rfl⟩) (fun _=>hS0) ?_;try simp only[Act.put,Sa,Sb,Sc]
    refine Bo (i:=12) (v:=undef) (Au rfl) (by kernel_rfl) (fun _ _ _ h=>h) (.inr ⟨by rfl,by rfl⟩) (fun _=>hS0) ?_;try simp only[Act.put,Sa,Sb,Sc]
    refine Bo (i:=13) (v:=undef) (Au rfl) (by kernel_rfl) (fun _ _ _ h=>h) (.inr ⟨by rfl,by rfl⟩) (fun _=>hS0) ?_;try simp only[Act.put,Sa,Sb,Sc]
    refine Bo (i:=14) (v:=undef) (Au rfl) (by kernel_rfl) (fun _ _ _ h=>h) (.inr ⟨by rfl,by rfl⟩) (fun _=>hS0) ?_;try simp only[Act.put,Sa,Sb,Sc]
    refine Bo (i:=15) (v:=undef) (Au rfl) (by kernel_rfl) (fun _ _ _ h=>h) (.inr ⟨by rfl,by rfl⟩) (fun _=>hS0) ?_;try simp only[Act.put,Sa,Sb,Sc]
    refine Bo (i:=16) (v:=undef) (Au rfl) (by kernel_rfl) (fun _ _ _ h=>h) (.inr ⟨by rfl,by rfl⟩) (fun _=>hS0) ?_;try simp only[Act.put,Sa,Sb,Sc]
    refine Bo (i:=17) (v:=undef) (Au rfl) (by kernel_rfl) (fun _ _ _ h=>h) (.inr ⟨by rfl,by rfl⟩) (fun _=>hS0) ?_;try simp only[Act.put,Sa,Sb,Sc]
    refine Bo (i:=18) (v:=undef) (Au rfl) (by kernel_rfl) (fun _ _ _ h=>h) (.inr ⟨by rfl,by rfl⟩) (fun _=>hS0) ?_;try simp only[Act.put,Sa,Sb,Sc]
    refine tY 19 (fun _=>hS0) ?_;refine Ax (by kernel_rfl) ?_ _;go_wp2;go_roundw
    case rel=>exact⟨n+1,qs,by go_num,hlt,by omega,hR,hF2,hbn1⟩
    case measure=>simp[intOf];omega
   subst hk;obtain⟨VS,hVS⟩:∃ v,v=Value.slice (if c=n+1 then some ad else Option.map (fun x=>x.add ((n+1)*3)) (some ad)) (m-(n+1)) (c-(n+1)):=⟨_,rfl⟩
   have hC2:=hD.out w1 hEn.out (n+1) hlt et;rw[hk2.out]at hC2;rw[←hVS]at hC2;replace hC2:=Az hC2;replace hVS:=Az hVS;refine tY 8 (fun _=>hS0) ?_;refine tY 9 (fun _=>hS0) ?_;refine tY 10 (fun _=>hS0) ?_;refine tY 11 (fun _=>hS0) ?_;refine tY 12 (fun _=>hS0) ?_;refine tY 13 (fun _=>hS0) ?_;refine Bo (i:=14) (v:=VS) (Au rfl) (by kernel_rfl) (fun _ _ _ h=>h) (.inl ⟨by rfl,?_⟩) (fun _=>hS0) ?_
   ·intro w;go_simp;rw[if_pos (by omega),hVS.out];rfl
   try simp only[Act.put,Sa,Sb,Sc]
   refine tY 15 (fun _=>hS0) ?_;refine tL 16 (hS0) ?_;refine Ab (rs:=[17]) (by kernel_rfl) (by simp) ?_;refine Aa.cons (Au rfl) (fun K hK=>?_) Aa.nil;rw[if_pos (by rfl)];go_wp2_with fail
   refine hC2.out.mono ?_;rintro e w2 ⟨rfl,hB2⟩;replace hR:=Az (hR.out.keep hB2);have hbn2:=Az (hbn1.out.trans (hB2.mono hbn1.out.size));replace hS0:(fun W'=>W'.cell? ⟨wr.heap.size,0,none⟩=some (.int .i64 ((2:Nat):Int))∧W'.cell? ⟨wr.heap.size,1,none⟩=some (.int .i64 (et:Int))) w2:=⟨Ck hB2 hS0.1,Ck hB2 hS0.2⟩
   refine hK.out _ _ (fun _=>hS0) (fun _=>?_);clear hK hC2 hB2 hbn1 hEn hVS;try simp only[Act.put,Sa,Sb,Sc]
   by_cases hk:k2=0;case neg =>
    have y1:((k2:Int)==0)=false:=Bq (by omega);have hF2:fin=qs++BP l (l.drop (n+1)):=by rw[hF.out,hst2.out,if_neg (fun x=>hk x.2.2)]
    replace hF2:=Az hF2;clear hst2 hF hk;refine tY 18 (fun _=>hS0) ?_;refine tY 19 (fun _=>hS0) ?_;refine Ax (by kernel_rfl) ?_ _;go_wp2;go_roundw
    case rel=>exact⟨n+1,qs,by go_num,hlt,by omega,hR,hF2,hbn2⟩
    case measure=>simp[intOf];omega
   subst hk;have hF2:fin=(qs++[et])++BP l (l.drop (n+1)):=by rw[hF.out,hst2.out,if_pos (by simp),List.append_assoc];rfl
   replace hF2:=Az hF2;clear hst2 hF hk2;refine tY 18 (fun _=>hS0) ?_;refine tY 19 (fun _=>hS0) ?_;refine Ax (by kernel_rfl) ?_ _;obtain⟨s0,s1⟩:=hS0;clear s0;have hbz:=hbn2.out.size;have hbl:=Bw w2 (.cells #[.int .i64 (et:Int)] 3);have hR2:=hR.out.keep hbl;replace hbl:=Az (hbn2.out.trans (hbl.mono hbz));replace hR2:=Az hR2;go_wp2_with (at_builtin;refine RE rfl (.tmp 33) (.tmp 36) rfl W.heap.size w2.heap.size (et:Int) u3 _ rfl hR2.out rfl (Bv _ _) ?hl3 ?hb3 ?_)
   case hl3=>rw[List.length_map];omega
   case hb3=>simp;omega
   rintro v3 W3 hr3 hg3 _;have hb3:=hbl.out.grown hg3 (by simp;omega) (fun k hk=>Ob hR2.out k hk);replace hr3:AS W3 W.heap.size v3 ((qs++[et]).map fun t:Nat=>(t:Int)):=by rw[List.map_append];exact hr3
   replace hr3:=Az hr3;replace hb3:=Az hb3;clear hR2 hg3 hbl hR;go_wp2;go_roundw
   case rel=>exact⟨n+1,qs++[et],by go_num,hlt,by simp;omega,hr3,hF2,hb3⟩
   case measure=>simp[intOf];omega
  ·obtain rfl:n=m:=by omega
   have n1:¬(n:Int)<(n:Int):=by omega
   have hf:=hF.out;rw[List.drop_eq_nil_of_le (by rw[hm.out];exact Nl _),show BP l []=[] from rfl,List.append_nil]at hf;subst hf;go_wp2;go_ret;exact⟨_,rfl,hR.out,hB.out⟩
end
end Go.Proofs.YtjjpiefgdggghaaGreatDoor
