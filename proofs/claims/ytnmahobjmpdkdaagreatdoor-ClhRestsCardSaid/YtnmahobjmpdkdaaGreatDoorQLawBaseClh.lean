/- Clh: what the laws on its runs share. Written by gen_lawturns.py. -/
import Derived.Test.YtnmahobjmpdkdaaGreatDoorQ32
import Derived.Test.YtnmahobjmpdkdaaGreatDoorQHasClh
import Derived.Test.YtnmahobjmpdkdaaGreatDoorQRefClh
import Derived.Test.YtnmahobjmpdkdaaGreatDoorQClhM
set_option linter.unusedVariables false
set_option linter.unusedSimpArgs false
set_option maxRecDepth 100000
set_option maxHeartbeats 40000000
namespace Go.Proofs.YtnmahobjmpdkdaaGreatDoor
section
open Go.RowKit Go.Proofs.YtnmahobjmpdkdaaGreatDoorW.PrintWords
theorem X7:(BE CX).1=CI:=by decide +kernel
theorem Um:Xg CI=true:=by decide +kernel
theorem KW(n:Nat)(h1:1≤n)(h2:n≤64):Kz CI ([1,n+1]) (List.replicate (n+2) 0) ((List.range n).map (·+1)) n :=
 Q7 Um (by simp) (by simp<;>omega) (by simp<;>omega) h1 h2 (by simp<;>omega) (by simp) (by simp) (by intro v hv;simp at hv;omega) (by intro v hv;simp at hv;omega)
theorem N2(n:Int)(w:World)(he:Env w):Calls Tryz.prog 37 #[.int .i64 n] w fun e W=>(∃ k:Nat,n=(k:Int)∧1≤k∧k≤64∧Tc w CI ([1,k+1]) (List.replicate (k+2) 0) ((List.range k).map (·+1)) e W)∨((n<1∨64<n)∧GH w e W):=by
 by_cases h:n<1∨64<n
 ·exact(Qh n h w).mono fun e W h1=>.inr ⟨h,h1⟩
 ·obtain⟨k,rfl⟩:∃ k:Nat,n=(k:Int):=⟨n.toNat,by omega⟩
  exact(OS k (by omega) (by omega) w he).mono fun e W h3=>.inl ⟨k,rfl,by omega,by omega,SpecHas.nat X7 (by simp[EW]) (by simp[EW]) (by simp[EW]) h3⟩
theorem Jh(n:Int)(w:World):Calls Tryz.prog 35 #[.int .i64 n] w fun e W=>(∃ k:Nat,n=(k:Int)∧1≤k∧k≤64∧Io w e W)∨((n<1∨64<n)∧Jy w e W):=by
 by_cases h:n<1∨64<n
 ·exact(Un n h w).mono fun e W h1=>.inr ⟨h,h1⟩
 ·obtain⟨k,rfl⟩:∃ k:Nat,n=(k:Int):=⟨n.toNat,by omega⟩
  exact(S5 k (by omega) (by omega) w).mono fun e W h3=>.inl ⟨k,rfl,by omega,by omega,h3.some⟩
end
end Go.Proofs.YtnmahobjmpdkdaaGreatDoor
