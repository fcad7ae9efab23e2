/- K42: what the laws on its runs share. Written by gen_lawturns.py. -/
import Derived.Test.YtnmahobjmpdkdaaGreatDoorQ32
import Derived.Test.YtnmahobjmpdkdaaGreatDoorQHasK42
import Derived.Test.YtnmahobjmpdkdaaGreatDoorQRefK42
import Derived.Test.YtnmahobjmpdkdaaGreatDoorQK42M
set_option linter.unusedVariables false
set_option linter.unusedSimpArgs false
set_option maxRecDepth 100000
set_option maxHeartbeats 40000000
namespace Go.Proofs.YtnmahobjmpdkdaaGreatDoor
section
open Go.RowKit Go.Proofs.YtnmahobjmpdkdaaGreatDoorW.PrintWords
theorem X4:(BE Dp).1=Bt:=by decide +kernel
theorem Uc:Xg Bt=true:=by decide +kernel
theorem KV(n:Nat)(h1:1≤n)(h2:n≤64):Kz Bt ([1,1,n,n]) (List.replicate (2*n+2) 0) (List.replicate n 0) n :=
 Q7 Uc (by simp) (by simp<;>omega) (by simp<;>omega) h1 h2 (by simp<;>omega) (by simp) (by simp) (by intro v hv;simp at hv;omega) (by intro v hv;simp at hv;omega)
theorem Nv(n:Int)(w:World)(he:Env w):Calls Tryz.prog 31 #[.int .i64 n] w fun e W=>(∃ k:Nat,n=(k:Int)∧1≤k∧k≤64∧Tc w Bt ([1,1,k,k]) (List.replicate (2*k+2) 0) (List.replicate k 0) e W)∨((n<1∨64<n)∧GH w e W):=by
 by_cases h:n<1∨64<n
 ·exact(Qm n h w).mono fun e W h1=>.inr ⟨h,h1⟩
 ·obtain⟨k,rfl⟩:∃ k:Nat,n=(k:Int):=⟨n.toNat,by omega⟩
  exact(JB k (by omega) (by omega) w he).mono fun e W h3=>.inl ⟨k,rfl,by omega,by omega,SpecHas.nat X4 (by simp[EW]) (by simp[EW]) (by simp[EW]) h3⟩
theorem Jf(n:Int)(w:World):Calls Tryz.prog 29 #[.int .i64 n] w fun e W=>(∃ k:Nat,n=(k:Int)∧1≤k∧k≤64∧Io w e W)∨((n<1∨64<n)∧Jy w e W):=by
 by_cases h:n<1∨64<n
 ·exact(Ud n h w).mono fun e W h1=>.inr ⟨h,h1⟩
 ·obtain⟨k,rfl⟩:∃ k:Nat,n=(k:Int):=⟨n.toNat,by omega⟩
  exact(Sy k (by omega) (by omega) w).mono fun e W h3=>.inl ⟨k,rfl,by omega,by omega,h3.some⟩
end
end Go.Proofs.YtnmahobjmpdkdaaGreatDoor
