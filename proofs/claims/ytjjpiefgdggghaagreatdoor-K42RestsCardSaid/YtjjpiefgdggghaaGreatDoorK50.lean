/- Parts: LawBaseK42. -/
import Derived.Test.YtjjpiefgdggghaaGreatDoorK49
import Derived.Test.YtjjpiefgdggghaaGreatDoorK39
import Derived.Test.YtjjpiefgdggghaaGreatDoorK48
import Derived.Test.YtjjpiefgdggghaaGreatDoorKMa
set_option linter.unusedVariables false
set_option linter.unusedSimpArgs false
set_option maxRecDepth 100000
set_option maxHeartbeats 40000000
namespace Go.Proofs.YtjjpiefgdggghaaGreatDoor
section
open Go.RowKit Go.Proofs.YtjjpiefgdggghaaGreatDoorW.PrintWords
theorem YJ:(B2 Du).1=CE:=by decide +kernel
theorem Vm:XL CE=true:=by decide +kernel
theorem LB(n:Nat)(h1:1≤n)(h2:n≤64):Kq CE ([1,1,n,n]) (List.replicate (2*n+2) 0) (List.replicate n 0) n :=
 OU Vm (by simp) (by simp<;>omega) (by simp<;>omega) h1 h2 (by simp<;>omega) (by simp) (by simp) (by intro v hv;simp at hv;omega) (by intro v hv;simp at hv;omega)
theorem Ok(n:Int)(w:World)(he:Env w):Calls Tryz.prog 13 #[.int .i64 n] w fun e W=>(∃ k:Nat,n=(k:Int)∧1≤k∧k≤64∧SG w CE ([1,1,k,k]) (List.replicate (2*k+2) 0) (List.replicate k 0) e W)∨((n<1∨64<n)∧FX w e W):=by
 by_cases h:n<1∨64<n
 ·exact(Rk n h w).mono fun e W h1=>.inr ⟨h,h1⟩
 ·obtain⟨k,rfl⟩:∃ k:Nat,n=(k:Int):=⟨n.toNat,by omega⟩
  exact(Ki k (by omega) (by omega) w he).mono fun e W h3=>.inl ⟨k,rfl,by omega,by omega,SpecHas.nat YJ (by simp[E8]) (by simp[E8]) (by simp[E8]) h3⟩
theorem J8(n:Int)(w:World):Calls Tryz.prog 11 #[.int .i64 n] w fun e W=>(∃ k:Nat,n=(k:Int)∧1≤k∧k≤64∧H0 w e W)∨((n<1∨64<n)∧HP w e W):=by
 by_cases h:n<1∨64<n
 ·exact(Vn n h w).mono fun e W h1=>.inr ⟨h,h1⟩
 ·obtain⟨k,rfl⟩:∃ k:Nat,n=(k:Int):=⟨n.toNat,by omega⟩
  exact(T8 k (by omega) (by omega) w).mono fun e W h3=>.inl ⟨k,rfl,by omega,by omega,h3.some⟩
end
end Go.Proofs.YtjjpiefgdggghaaGreatDoor
