/- Ticket: what the laws on its runs share. Written by gen_lawturns.py. -/
import Derived.Test.YtnmahobjmpdkdaaGreatDoorQ32
import Derived.Test.YtnmahobjmpdkdaaGreatDoorQHasTicket
import Derived.Test.YtnmahobjmpdkdaaGreatDoorQRefTicket
import Derived.Test.YtnmahobjmpdkdaaGreatDoorQTicketM
set_option linter.unusedVariables false
set_option linter.unusedSimpArgs false
set_option maxRecDepth 100000
set_option maxHeartbeats 40000000
namespace Go.Proofs.YtnmahobjmpdkdaaGreatDoor
section
open Go.RowKit Go.Proofs.YtnmahobjmpdkdaaGreatDoorW.PrintWords
theorem RE:(BE AZ).1=Ef:=by decide +kernel
theorem Ok:Xg Ef=true:=by decide +kernel
theorem GI(n:Nat)(st:Nat)(hst:st<4294967296)(h1:1≤n)(h2:n≤64):Kz Ef ([1,1]) ([st,st]) (List.replicate n 0) n :=
 Q7 Ok (by simp) (by simp<;>omega) (by simp<;>omega) h1 h2 (by simp<;>omega) (by simp) (by simp) (by intro v hv;simp at hv;omega) (by intro v hv;simp at hv;omega)
theorem HH(n:Int)(st:Nat)(w:World)(he:Env w):Calls Tryz.prog 20 #[.int .i64 n,.int .u32 (st:Int)] w fun e W=>(∃ k:Nat,n=(k:Int)∧1≤k∧k≤64∧Tc w Ef ([1,1]) ([st,st]) (List.replicate k 0) e W)∨((n<1∨64<n)∧GH w e W):=by
 by_cases h:n<1∨64<n
 ·exact(LG n (st:Int) h w).mono fun e W h1=>.inr ⟨h,h1⟩
 ·obtain⟨k,rfl⟩:∃ k:Nat,n=(k:Int):=⟨n.toNat,by omega⟩
  exact(K4 k (st:Int) (by omega) (by omega) w he).mono fun e W h3=>.inl ⟨k,rfl,by omega,by omega,SpecHas.nat RE (by simp[EW]) (by simp[EW]) (by simp[EW]) h3⟩
theorem IS(n:Int)(st:Nat)(w:World):Calls Tryz.prog 18 #[.int .i64 n,.int .u32 (st:Int)] w fun e W=>(∃ k:Nat,n=(k:Int)∧1≤k∧k≤64∧Io w e W)∨((n<1∨64<n)∧Jy w e W):=by
 by_cases h:n<1∨64<n
 ·exact(Tl n (st:Int) h w).mono fun e W h1=>.inr ⟨h,h1⟩
 ·obtain⟨k,rfl⟩:∃ k:Nat,n=(k:Int):=⟨n.toNat,by omega⟩
  exact(RF k (st:Int) (by omega) (by omega) w).mono fun e W h3=>.inl ⟨k,rfl,by omega,by omega,h3.some⟩
end
end Go.Proofs.YtnmahobjmpdkdaaGreatDoor
