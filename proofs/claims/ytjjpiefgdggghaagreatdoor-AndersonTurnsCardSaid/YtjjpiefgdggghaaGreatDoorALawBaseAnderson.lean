/- Anderson: what the laws on its runs share. Written by gen_lawanderson.py. -/
import Derived.Test.YtjjpiefgdggghaaGreatDoorA42
import Derived.Test.YtjjpiefgdggghaaGreatDoorA40
import Derived.Test.YtjjpiefgdggghaaGreatDoorA39
set_option linter.unusedVariables false
set_option linter.unusedSimpArgs false
set_option maxRecDepth 100000
set_option maxHeartbeats 40000000
namespace Go.Proofs.YtjjpiefgdggghaaGreatDoor
section
open Go.RowKit Go.Proofs.YtjjpiefgdggghaaGreatDoorW.PrintWords
theorem K5{M:Nat}(h:FB M):VP (Du M)=true:=by rcases h with rfl |rfl |rfl |rfl |rfl |rfl |rfl<;>decide +kernel
theorem Ng(M st:Nat):(G8 M st).length=M+2:=by simp[G8]
theorem TF{M st:Nat}(hst:st<4294967296):∀ v∈G8 M st,v<4294967296:=by
 intro v hv;unfold G8 at hv;rcases List.mem_or_eq_of_mem_set hv with hv |rfl
 ·rcases List.mem_or_eq_of_mem_set hv with hv |rfl
  ·have:=(List.mem_replicate.1 hv).2;omega
  ·exact hst
 ·omega
theorem Qc(M st:Nat):JV (G8 M st)=((List.replicate (M+2) (0:Int)).set 0 (st:Int)).set (1+st%(M+1)) 1:=by
 unfold JV G8;rw[List.map_set,List.map_set,List.map_replicate];rfl
theorem EN(n M st:Nat)(hM:FB M)(hst:st<4294967296)(h1:1≤n)(hn:n≤M+1):Mm (Du M) ([1,M+1]) (G8 M st) (List.replicate n 0) n:=by
 have hm:=CF hM;exact VG (K5 hM) (by simp) (by simp<;>omega) (by simp<;>omega) h1 (by omega) (by rw[Ng];simp<;>omega) (by rw[Ng];omega) (by simp) (TF hst) (by intro v hv;simp at hv;omega)
theorem Fj(n sl:Int)(st:Nat)(hst:st<4294967296)(w:World)(he:Env w):Calls Tryz.prog 17 #[.int .i64 n,.int .i64 sl,.int .u32 (st:Int)] w fun e W=>(∃ k M:Nat,n=(k:Int)∧sl=(M:Int)+1∧FB M∧1≤k∧k≤M+1∧VH w (Du M) ([1,M+1]) (G8 M st) (List.replicate k 0) e W)∨(¬Lt n sl∧QU w e W):=by
 by_cases h:Lt n sl
 ·obtain⟨k,M,rfl,rfl,hM,h1,h2⟩:=h;exact(DN k M st hM hst h1 h2 w he).mono fun e W h3=>.inl ⟨k,M,rfl,rfl,hM,h1,h2,SpecHas.nat (Rk hM) (by simp[JV]) (Qc M st).symm (by simp[JV]) h3⟩
 ·exact(FD n sl (st:Int) h w).mono fun e W h1=>.inr ⟨h,h1⟩
theorem Ii(n sl:Int)(st:Nat)(hst:st<4294967296)(w:World):Calls Tryz.prog 18 #[.int .i64 n,.int .i64 sl,.int .u32 (st:Int)] w fun e W=>(∃ k M:Nat,n=(k:Int)∧sl=(M:Int)+1∧FB M∧1≤k∧k≤M+1∧OM w e W)∨(¬Lt n sl∧TY w e W):=by
 by_cases h:Lt n sl
 ·obtain⟨k,M,rfl,rfl,hM,h1,h2⟩:=h;exact(KO k M st hM hst h1 h2 w).mono fun e W h3=>.inl ⟨k,M,rfl,rfl,hM,h1,h2,h3.some⟩
 ·exact(MO n sl (st:Int) h w).mono fun e W h1=>.inr ⟨h,h1⟩
end
end Go.Proofs.YtjjpiefgdggghaaGreatDoor
