/- Mcs: what the laws on its runs share. Written by gen_lawturns.py. -/
import Derived.Test.YtnmahobjmpdkdaaGreatDoorQ32
import Derived.Test.YtnmahobjmpdkdaaGreatDoorQHasMcs
import Derived.Test.YtnmahobjmpdkdaaGreatDoorQRefMcs
import Derived.Test.YtnmahobjmpdkdaaGreatDoorQMcsM
set_option linter.unusedVariables false
set_option linter.unusedSimpArgs false
set_option maxRecDepth 100000
set_option maxHeartbeats 40000000
namespace Go.Proofs.YtnmahobjmpdkdaaGreatDoor
section
open Go.RowKit Go.Proofs.YtnmahobjmpdkdaaGreatDoorW.PrintWords
theorem Xo:(BE Dn).1=BQ:=by decide +kernel
theorem T8:Xg BQ=true:=by decide +kernel
theorem Kt(n:Nat)(h1:1≤n)(h2:n≤64):Kz BQ ([1,n,n]) (List.replicate (2*n+1) 0) (List.replicate n 0) n :=
 Q7 T8 (by simp) (by simp<;>omega) (by simp<;>omega) h1 h2 (by simp<;>omega) (by simp) (by simp) (by intro v hv;simp at hv;omega) (by intro v hv;simp at hv;omega)
theorem MH(n:Int)(w:World)(he:Env w):Calls Tryz.prog 28 #[.int .i64 n] w fun e W=>(∃ k:Nat,n=(k:Int)∧1≤k∧k≤64∧Tc w BQ ([1,k,k]) (List.replicate (2*k+1) 0) (List.replicate k 0) e W)∨((n<1∨64<n)∧GH w e W):=by
 by_cases h:n<1∨64<n
 ·exact(PI n h w).mono fun e W h1=>.inr ⟨h,h1⟩
 ·obtain⟨k,rfl⟩:∃ k:Nat,n=(k:Int):=⟨n.toNat,by omega⟩
  exact(J5 k (by omega) (by omega) w he).mono fun e W h3=>.inl ⟨k,rfl,by omega,by omega,SpecHas.nat Xo (by simp[EW]) (by simp[EW]) (by simp[EW]) h3⟩
theorem IN(n:Int)(w:World):Calls Tryz.prog 26 #[.int .i64 n] w fun e W=>(∃ k:Nat,n=(k:Int)∧1≤k∧k≤64∧Io w e W)∨((n<1∨64<n)∧Jy w e W):=by
 by_cases h:n<1∨64<n
 ·exact(Tk n h w).mono fun e W h1=>.inr ⟨h,h1⟩
 ·obtain⟨k,rfl⟩:∃ k:Nat,n=(k:Int):=⟨n.toNat,by omega⟩
  exact(RD k (by omega) (by omega) w).mono fun e W h3=>.inl ⟨k,rfl,by omega,by omega,h3.some⟩
end
end Go.Proofs.YtnmahobjmpdkdaaGreatDoor
