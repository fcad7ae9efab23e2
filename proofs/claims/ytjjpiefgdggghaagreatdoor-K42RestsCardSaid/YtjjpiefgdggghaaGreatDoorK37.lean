/- Parts: Log. -/
import Derived.Test.YtjjpiefgdggghaaGreatDoorK05
import Derived.Test.YtjjpiefgdggghaaGreatDoorK35
set_option linter.unusedVariables false
set_option linter.unusedSimpArgs false
set_option maxRecDepth 100000
set_option maxHeartbeats 40000000
namespace Go.Proofs.YtjjpiefgdggghaaGreatDoor
section
open Go.RowKit Go.Proofs.YtjjpiefgdggghaaGreatDoorW.PrintWords
def Fj(W:World)(A:Option Addr)(l:List DZ):Prop :=
 0<l.length→∃ ad:Addr,A=some ad∧∀ j,j<l.length→W.cell? (ad.add (j*3))=some (.int .i64 ((l.getD j (0,0)).1:Int))∧W.cell? ⟨(ad.add (j*3)).block,(ad.add (j*3)).off+1,none⟩=some (.int .i64 ((l.getD j (0,0)).2:Int))∧W.cell? ⟨(ad.add (j*3)).block,(ad.add (j*3)).off+2,none⟩=some (.int .i64 0)
theorem Fj.keep{W W1:World}{A:Option Addr}{l:List DZ}(h:Fj W A l)(hb:Below W.heap.size W W1):Fj W1 A l:=fun hp=>by
 obtain⟨ad,rfl,hc⟩:=h hp;exact⟨ad,rfl,fun j hj=>⟨Ck hb (hc j hj).1,Ck hb (hc j hj).2.1,Ck hb (hc j hj).2.2⟩⟩
theorem JO:∀ (L:List DZ) (k:Nat) (hk:k<L.length),(DP L)[k*3]?=some (.int .i64 ((L.getD k (0,0)).1:Int))∧(DP L)[k*3+1]?=some (.int .i64 ((L.getD k (0,0)).2:Int))∧(DP L)[k*3+2]?=some (.int .i64 0)
 |p::L,0,_=>⟨rfl,rfl,rfl⟩
 |p::L,k+1,hk=>by
  have:=JO L k (by simpa using hk);rw[show(k+1)*3=k*3+1+1+1 by omega]
  simpa [DP]using this
theorem Fk.c{W:World}{N:Nat}{v:Value}{l:List DZ}(h:Fk W N v l):∃ A c,v=.slice A l.length c∧l.length≤c∧Fj W A l:=by
 by_cases hp:0<l.length
 ·obtain⟨g,c,hv,hc,hg,_,hcell⟩:=CO h hp;refine⟨_,c,hv,hc,fun _=>⟨_,rfl,fun j hj=>?_⟩⟩;obtain⟨e1,e2,e3⟩:=JO l j hj;have c1:=hcell _ _ e1;have c2:=hcell _ _ e2;have c3:=hcell _ _ e3;rw[add_plain];exact⟨c1,c2,c3⟩
 ·obtain⟨A,n,c,rfl⟩:=AB h;have hn:n=l.length:=by
   rcases h.2 with ⟨e,h0⟩ |⟨g,cap,cur,e,_⟩
   ·injection e with e1 e2 e3;omega
   ·injection e with e1 e2 e3
  subst hn;exact⟨A,c,rfl,by omega,fun h=>absurd h hp⟩
theorem Fj.take{W:World}{A:Option Addr}{l:List DZ}(h:Fj W A l)(m:Nat):Fj W A (l.take m):=fun hp=>by
 have hl:=List.length_take_le m l;rw[List.length_take]at hp;obtain⟨ad,rfl,hc⟩:=h (by omega);refine⟨ad,rfl,fun j hj=>?_⟩;rw[List.length_take]at hj;have:=hc j (by omega)
 simpa [List.getD_eq_getElem?_getD,List.getElem?_take,show j<m by omega]using this
theorem Fj.drop{W:World}{A:Option Addr}{l:List DZ}{c:Nat}(h:Fj W A l)(m:Nat)(hm:m≤l.length)(hc:l.length≤c):Fj W (if c=m then A else A.map (·.add (m*3))) (l.drop m):=fun hp=>by
 rw[List.length_drop]at hp;obtain⟨ad,rfl,hcc⟩:=h (by omega);rw[if_neg (by omega)];refine⟨ad.add (m*3),rfl,fun j hj=>?_⟩;rw[List.length_drop]at hj;have:=hcc (m+j) (by omega);rw[show(m+j)*3=m*3+j*3 by omega,←add_add]at this
 simpa [List.getD_eq_getElem?_getD]using this
theorem Qq{l:List DZ}{n:Nat}(h:n<l.length)(t:Nat):C8 (l.take (n+1)) t=if (l.getD n (0,0)).2=t then (l.getD n (0,0)).1 else C8 (l.take n) t:=by
 rw[List.take_succ_eq_append_getElem h,Fl,List.getD_eq_getElem?_getD,List.getElem?_eq_getElem h];rfl
theorem F9(W:World)(A:Option Addr)(c:Nat)(l:List DZ)(t:Nat)(h:Fj W A l)(hl:l.length≤100000000) :
  Calls Tryz.prog 106 #[.slice A l.length c,.int .i64 (t:Int)] W fun e W'=>e=.returned (.int .i64 (C8 l t:Int))∧Below W.heap.size W W':=by
 obtain⟨m,hm⟩:∃ m,l.length=m:=⟨_,rfl⟩
 obtain⟨fin,hfin⟩:∃ m,C8 l t=m:=⟨_,rfl⟩
 rw[hm]at hl ⊢;rw[hfin];replace hm:=Az hm;replace h:=Az h;replace hfin:=Az hfin;go_enter Tryz.func106,Tryz.ntmps106;go_wp2_with fail
 go_loopw [5,10] (fun v5 v10 wr=>∃ (n k:Nat),v5=.int .i64 (k:Int)∧v10=.int .i64 (n:Int)∧n≤m∧Af (C8 (l.take n) t=k)∧Af (Below W.heap.size W wr)) (fun _ v10 _=>m-(intOf v10).toNat)
 case atStart=>exact⟨0,0,rfl,rfl,Nat.zero_le _,⟨rfl⟩,⟨Below.refl _ _⟩⟩
 case round =>
  obtain⟨n,k,rfl,rfl,hn,hF,hB⟩:=hrel;by_cases hlt:n<m
  ·have hnl:n<l.length:=by rw[hm.out];exact hlt
   obtain⟨ad,rfl,hcell⟩:=h.out.keep hB.out (by omega);obtain⟨c1,c2,c3⟩:=hcell n hnl;have hst:=Qq hnl t;rw[hF.out]at hst;generalize l.getD n (0,0)=e at c1 c2 hst;obtain⟨ek,et⟩:=e;dsimp only at c1 c2 hst;have n0:(0:Int)≤(n:Int):=by omega
   have n1:(n:Int)<(m:Int):=by omega
   have nw:IntKind.i64.wrap ((n:Int)+1)=(n:Int)+1:=by rw[IntKind.wrap_i64];omega
   clear hcell hF;have hb3:=hB.out.size;replace hB:=Az (fun o=>hB.out.alloc hb3 o);clear hb3;by_cases ht:et=t
   ·rw[if_pos ht]at hst;replace hst:=Az hst;have x1:((et:Int)==(t:Int))=true:=by rw[ht];exact beq_self_eq_true _
    clear ht;go_wp2;go_roundw
    case rel=>exact⟨n+1,ek,rfl,by go_num,hlt,hst,⟨hB.out _⟩⟩
    case measure=>simp[intOf];omega
   ·rw[if_neg ht]at hst;replace hst:=Az hst;have x1:((et:Int)==(t:Int))=false:=Bq (by omega);clear ht;go_wp2;go_roundw
    case rel=>exact⟨n+1,k,rfl,by go_num,hlt,hst,⟨hB.out _⟩⟩
    case measure=>simp[intOf];omega
  ·obtain rfl:n=m:=by omega
   have n1:¬(n:Int)<(n:Int):=by omega
   have hf:=hF.out;rw[←hm.out,List.take_length,hfin.out]at hf;subst hf;go_wp2;go_ret;exact⟨rfl,hB.out⟩
theorem N4(W:World)(A:Option Addr)(c:Nat)(l:List DZ)(t:Nat)(h:Fj W A l)(hl:l.length≤100000000) :
  Calls Tryz.prog 130 #[.slice A l.length c,.int .i64 (t:Int)] W fun e W'=>e=.returned (.int .i64 (ED l t:Int))∧Below W.heap.size W W':=by
 have hL:=F9 W A c l t h hl;obtain⟨fin,hfin⟩:∃ m,ED l t=m:=⟨_,rfl⟩
 rw[hfin];unfold ED at hfin;generalize C8 l t=k at *;generalize l.length=m at *;replace hL:=Az hL;replace hfin:=Az hfin;go_enter Tryz.func130,Tryz.ntmps130;go_wp2_with fail
 refine hL.out.mono ?_;rintro e w1 ⟨rfl,hB⟩;replace hB:=Az hB;by_cases h1:k=1
 ·subst h1;have:=hfin.out;subst this;go_wp2;go_ret;exact⟨rfl,hB.out⟩
 have x1:((k:Int)==1)=false:=Bq (by omega);by_cases h2:k=2
 ·subst h2;have:=hfin.out;subst this;go_wp2;go_ret;exact⟨rfl,hB.out⟩
 have x2:((k:Int)==2)=false:=Bq (by omega);by_cases h3:k=3
 ·subst h3;have:=hfin.out;subst this;go_wp2;go_ret;exact⟨rfl,hB.out⟩
 have x3:((k:Int)==3)=false:=Bq (by omega);by_cases h4:k=4
 ·subst h4;have:=hfin.out;subst this;go_wp2;go_ret;exact⟨rfl,hB.out⟩
 have x4:((k:Int)==4)=false:=Bq (by omega);by_cases h5:k=5
 ·subst h5;have:=hfin.out;subst this;go_wp2;go_ret;exact⟨rfl,hB.out⟩
 have x5:((k:Int)==5)=false:=Bq (by omega);by_cases h8:k=8
 ·subst h8;have:=hfin.out;subst this;go_wp2;go_ret;exact⟨rfl,hB.out⟩
 have x8:((k:Int)==8)=false:=Bq (by omega);by_cases h9:k=9
 ·subst h9;have:=hfin.out;subst this;go_wp2;go_ret;exact⟨rfl,hB.out⟩
 have x9:((k:Int)==9)=false:=Bq (by omega);have hk:fin=0:=by rw[←hfin.out];unfold N5;simp[h1,h2,h3,h4,h5,h8,h9]
 subst hk;clear h1 h2 h3 h4 h5 h8 h9;go_wp2;go_ret;exact⟨rfl,hB.out⟩
theorem KX{l:List DZ}{j:Nat}(h:j<l.length):DE l (l.take (j+1)).reverse=if Qr (ED l (l.getD j (0,0)).2)=true then ((l.getD j (0,0)).2:Int) else DE l (l.take j).reverse:=by
 rw[List.take_succ_eq_append_getElem h,List.reverse_append,List.getD_eq_getElem?_getD,List.getElem?_eq_getElem h];rfl
theorem N9(W:World)(A:Option Addr)(c:Nat)(l:List DZ)(h:Fj W A l)(hl:l.length≤100000000) :
  Calls Tryz.prog 108 #[.slice A l.length c] W fun e W'=>e=.returned (.int .i64 (Gw l))∧Below W.heap.size W W':=by
 have hS:∀ W1:World,Fj W1 A l→∀ t:Nat,Calls Tryz.prog 130 #[.slice A l.length c,.int .i64 (t:Int)] W1 fun e W'=>e=.returned (.int .i64 (ED l t:Int))∧Below W1.heap.size W1 W':=fun W1 h1 t=>N4 W1 A c l t h1 hl
 obtain⟨m,hm⟩:∃ m,l.length=m:=⟨_,rfl⟩
 obtain⟨fin,hfin⟩:∃ z,Gw l=z:=⟨_,rfl⟩
 rw[hm]at hl hS ⊢;rw[hfin];replace hm:=Az hm;replace h:=Az h;replace hfin:=Az hfin;replace hS:=Az hS;have mw:IntKind.i64.wrap ((m:Int)-1)=(m:Int)-1:=by rw[IntKind.wrap_i64];omega
 go_enter Tryz.func108,Tryz.ntmps108;go_wp2_with fail
 go_loopw [3] (fun v3 wr=>∃ (i:Int) (n:Nat),v3=.int .i64 i∧i=(n:Int)-1∧n≤m∧Af (DE l (l.take n).reverse=fin)∧Af (Below W.heap.size W wr)) (fun v3 _=>(intOf v3+1).toNat)
 case atStart=>exact⟨_,m,rfl,by first |rfl |exact mw,Nl _,⟨by rw[←hm.out,List.take_length];exact hfin.out⟩,⟨Below.refl _ _⟩⟩
 case round =>
  obtain⟨i,n,rfl,hi,hn,hF,hB⟩:=hrel;clear mw;cases n with
  |zero =>
   obtain rfl:i = -1:=by omega
   have hf:fin = -1:=by rw[←hF.out];rfl
   subst hf;have n1:¬(-1:Int)≥0:=by decide
   clear hi;go_wp2;go_ret;exact⟨rfl,hB.out⟩
  |succ j =>
   obtain rfl:i=(j:Int):=by omega
   clear hi;have hnl:j<l.length:=by rw[hm.out];omega
   have hEc:=h.out.keep hB.out;obtain⟨ad,rfl,hcell⟩:=hEc (by omega);obtain⟨c1,c2,c3⟩:=hcell j hnl;have hst:=KX hnl;rw[hF.out]at hst;generalize l.getD j (0,0)=e at c1 c2 hst;obtain⟨ek,et⟩:=e;dsimp only at c1 c2 hst;have n0:(0:Int)≤(j:Int):=by omega
   have n1:(j:Int)<(m:Int):=by omega
   have nw:IntKind.i64.wrap ((j:Int)-1)=(j:Int)-1:=by rw[IntKind.wrap_i64];omega
   have hC:=hS.out wr hEc et;clear hcell hF hEc;obtain⟨k,hk⟩:∃ k,ED l et=k:=⟨_,rfl⟩
   rw[hk]at hC hst;replace hC:=Az hC;replace hst:=Az hst;clear hk;go_wp2_with fail
   refine hC.out.mono ?_;rintro e w1 ⟨rfl,hB1⟩;replace c2:=Ck hB1 c2;have hB2:=Az (hB.out.trans (hB1.mono hB.out.size));clear hB1 hB hC c1 c3;by_cases k3:k=3
   ·subst k3;have hf:fin=(et:Int):=hst.out;subst hf;go_wp2;go_ret;exact⟨rfl,hB2.out⟩
   by_cases k4:k=4
   ·subst k4;have hf:fin=(et:Int):=hst.out;subst hf;go_wp2;go_ret;exact⟨rfl,hB2.out⟩
   by_cases k6:k=6
   ·subst k6;have hf:fin=(et:Int):=hst.out;subst hf;go_wp2;go_ret;exact⟨rfl,hB2.out⟩
   have y3:((k:Int)==3)=false:=Bq (by omega);have y4:((k:Int)==4)=false:=Bq (by omega);have y6:((k:Int)==6)=false:=Bq (by omega);have hf:fin=DE l (l.take j).reverse:=by
    rw[hst.out,if_neg];simp[Qr,k3,k4,k6]
   replace hf:=Az hf.symm;clear k3 k4 k6 hst;go_wp2;go_roundw
   case rel=>exact⟨_,j,rfl,by first |rfl |exact nw,by omega,hf,hB2⟩
   case measure=>simp[intOf]
end
end Go.Proofs.YtjjpiefgdggghaaGreatDoor
