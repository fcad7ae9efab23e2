/- Parts: CellFind. -/
import Derived.Test.YtjjpiefgdggghaaGreatDoorK05
import Derived.Test.YtjjpiefgdggghaaGreatDoorK29
set_option linter.unusedVariables false
set_option linter.unusedSimpArgs false
set_option maxRecDepth 100000
set_option maxHeartbeats 40000000
namespace Go.Proofs.YtjjpiefgdggghaaGreatDoor
section
open Go.RowKit Go.Proofs.YtjjpiefgdggghaaGreatDoorW.PrintWords
theorem I8:∀ (L:List (Nat×Nat)) (k:Nat) (hk:k<L.length),(Ef L)[k*2]?=some (.int .i64 ((L[k]).1:Int))∧(Ef L)[k*2+1]?=some (.int .i64 ((L[k]).2:Int))
 |p::L,0,_=>⟨rfl,rfl⟩
 |p::L,k+1,hk=>by
  have:=I8 L k (by simpa using hk);rw[show(k+1)*2=k*2+1+1 by omega]
  simpa [Ef]using this
def MQ(o:Option Nat):Int:=match o with
 |none => -1
 |some k=>k
theorem OT(v:Value)(L:List (Nat×Nat))(a:Int)(z:Nat)(base:Nat)(W:World)(h:Dn W base v L)(hl:L.length≤1000000)(hz:z<4294967296) :
  Calls Tryz.prog 105 #[v,.int .i64 a,.int .u32 (z:Int)] W fun e W'=>e=.returned (.int .i64 (MQ (CY a (z%4096) 0 L)))∧Below W.heap.size W W':=by
 obtain⟨fin,hf⟩:∃ r,MQ (CY a (z%4096) 0 L)=r:=⟨_,rfl⟩
 rw[hf];obtain⟨A,m,c,rfl⟩:=AB h;obtain⟨k0,hk0⟩:∃ k,L.length=k:=⟨_,rfl⟩
 have hm:m=k0:=by
  rcases h.2 with ⟨e,h0⟩ |⟨g,cap,cur,e,_⟩
  ·injection e with e1 e2 e3;omega
  ·injection e with e1 e2 e3;omega
 subst hm;have hw:IntKind.i64.wrap (z:Int)=(z:Int):=by rw[IntKind.wrap_i64];omega
 replace hf:=Az hf;replace h:=Az h;replace hk0:=Az hk0;have hl':m≤1000000:=by rw[←hk0.out];exact hl
 clear hl;go_enter Tryz.func105,Tryz.ntmps105;go_wp2_with fail
 go_loopw [11] (fun v11 wr=>∃ k:Nat,v11=.int .i64 k∧k≤m∧Af (MQ (CY a (z%4096) k (L.drop k))=fin)∧Af (Below W.heap.size W wr)) (fun v11 _=>m-(intOf v11).toNat)
 case atStart=>exact⟨0,rfl,Nat.zero_le _,⟨by simpa using hf.out⟩,⟨Below.refl _ _⟩⟩
 case round =>
  obtain⟨k,rfl,hk,hF,hB⟩:=hrel;by_cases hlt:k<m
  ·have hkx:k<L.length:=by rw[hk0.out];exact hlt
   obtain⟨g,c',hv,hc,hg,_,hcell⟩:=CO (Om h.out (fun k hk=>hB.out.block k (Ol h.out k hk))) (by omega);obtain⟨rfl,rfl⟩:A=some ⟨g,0,none⟩∧c=c':=by injection hv with h1 h2 h3;exact⟨h1,h3⟩
   obtain⟨e1,e2⟩:=I8 L k hkx;have c1:=hcell _ _ e1;have c2:=hcell _ _ e2;have hstep:=hF.out;rw[List.drop_eq_getElem_cons hkx,CY]at hstep;generalize L[k].1=ar at c1 hstep;generalize L[k].2=pl at c2 hstep;have hk0':(0:Int)≤(k:Int):=by omega
   have hk1:(k:Int)<(m:Int):=by omega
   have hkw:IntKind.i64.wrap ((k:Int)+1)=(k:Int)+1:=by rw[IntKind.wrap_i64];omega
   clear hcell hv e1 e2 hF;have hb3:=hB.out.size;replace hB:=Az (fun o=>hB.out.alloc hb3 o);clear hb3;by_cases ha:(ar:Int)=a
   ·have hq:((ar:Int)==a)=true:=beq_iff_eq.2 ha;by_cases hp:pl=z%4096
    ·have hp':((pl:Int)==(z:Int)%4096)=true:=beq_iff_eq.2 (by omega);rw[if_pos ⟨ha,hp⟩]at hstep;have hfin:fin=(k:Int):=hstep.symm;subst hfin;clear hstep;go_wp2;go_ret;exact⟨rfl,hB.out _⟩
    ·have hp':((pl:Int)==(z:Int)%4096)=false:=Bq (by omega);rw[if_neg (fun h=>hp h.2)]at hstep;replace hstep:=Az hstep;go_wp2;go_roundw
     case rel=>exact⟨k+1,by go_num,hlt,hstep,⟨hB.out _⟩⟩
     case measure=>simp[intOf];omega
   ·have hq:((ar:Int)==a)=false:=Bq ha;rw[if_neg (fun h=>ha h.1)]at hstep;replace hstep:=Az hstep;go_wp2;go_roundw
    case rel=>exact⟨k+1,by go_num,hlt,hstep,⟨hB.out _⟩⟩
    case measure=>simp[intOf];omega
  ·obtain rfl:k=m:=by omega
   have hge:¬(k:Int)<(k:Int):=by omega
   have hfin:fin = -1:=by rw[←hF.out,List.drop_eq_nil_of_le (by rw[hk0.out];exact Nl _)];rfl
   subst hfin;go_wp2;go_ret;exact⟨rfl,hB.out⟩
end
end Go.Proofs.YtjjpiefgdggghaaGreatDoor
