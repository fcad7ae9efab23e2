/- Graunke: what the laws on its runs share. Written by gen_lawturns.py. -/
import Derived.Test.YtnmahobjmpdkdaaGreatDoorG40
import Derived.Test.YtnmahobjmpdkdaaGreatDoorGHasGraunke
import Derived.Test.YtnmahobjmpdkdaaGreatDoorGRefGraunke
import Derived.Test.YtnmahobjmpdkdaaGreatDoorGGraunkeM
set_option linter.unusedVariables false
set_option linter.unusedSimpArgs false
set_option maxRecDepth 100000
set_option maxHeartbeats 40000000
namespace Go.Proofs.YtnmahobjmpdkdaaGreatDoor
section
open Go.RowKit Go.Proofs.YtnmahobjmpdkdaaGreatDoorW.PrintWords
theorem Rv:(B2 AT).1=DS:=by decide +kernel
theorem OB:XL DS=true:=by decide +kernel
theorem GC(n:Nat)(h1:1≤n)(h2:n≤64):Kq DS ([1,n+1]) (Ik n) (List.replicate n 0) n :=
 OU OB (by simp) (by simp<;>omega) (by simp<;>omega) h1 h2 (by rw[Pc];simp<;>omega) (by rw[Pc];omega) (by simp) (WN n h2) (by intro v hv;simp at hv;omega)
theorem Hn(n:Int)(w:World)(he:Env w):Calls Tryz.prog 34 #[.int .i64 n] w fun e W=>(∃ k:Nat,n=(k:Int)∧1≤k∧k≤64∧SG w DS ([1,k+1]) (Ik k) (List.replicate k 0) e W)∨((n<1∨64<n)∧FX w e W):=by
 by_cases h:n<1∨64<n
 ·exact(L6 n h w).mono fun e W h1=>.inr ⟨h,h1⟩
 ·obtain⟨k,rfl⟩:∃ k:Nat,n=(k:Int):=⟨n.toNat,by omega⟩
  exact(GP k (by omega) (by omega) w he).mono fun e W h3=>.inl ⟨k,rfl,by omega,by omega,SpecHas.nat Rv (by simp[E8]) (SK k).symm (by simp[E8]) h3⟩
theorem J5(n:Int)(w:World):Calls Tryz.prog 32 #[.int .i64 n] w fun e W=>(∃ k:Nat,n=(k:Int)∧1≤k∧k≤64∧H0 w e W)∨((n<1∨64<n)∧HP w e W):=by
 by_cases h:n<1∨64<n
 ·exact(VL n h w).mono fun e W h1=>.inr ⟨h,h1⟩
 ·obtain⟨k,rfl⟩:∃ k:Nat,n=(k:Int):=⟨n.toNat,by omega⟩
  exact(TL k (by omega) (by omega) w).mono fun e W h3=>.inl ⟨k,rfl,by omega,by omega,h3.some⟩
end
end Go.Proofs.YtnmahobjmpdkdaaGreatDoor
