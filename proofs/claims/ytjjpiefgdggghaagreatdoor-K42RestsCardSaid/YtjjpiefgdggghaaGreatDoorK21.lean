/- Parts: Digits. -/
import Derived.Test.YtjjpiefgdggghaaGreatDoorK05
import Derived.Test.YtjjpiefgdggghaaGreatDoorK02
import Derived.Test.YtjjpiefgdggghaaGreatDoorK04
import Derived.Test.YtjjpiefgdggghaaGreatDoorK19
set_option linter.unusedVariables false
set_option linter.unusedSimpArgs false
set_option maxRecDepth 100000
set_option maxHeartbeats 40000000
namespace Go.Proofs.YtjjpiefgdggghaaGreatDoor
section
open Go.RowKit Go.Proofs.YtjjpiefgdggghaaGreatDoorW.PrintWords
theorem Nw{n:Nat}(h:n<10):strOfNums [(wrap64 (48+(n:Int)))%256]=⟨#[UInt8.ofNat (48+n)]⟩:=by
 have e:(wrap64 (48+(n:Int)))%256=((48+n:Nat):Int):=by unfold wrap64;omega
 rw[e];rfl
theorem OG:∀ (k n:Nat),n<10 ^ k→n≤4294967295→Av.f (k+1) (n:Int)=some ⟨(Go.Lib.decDigits n).toArray⟩
 |0,n,h,_=>by
  have:n=0:=by omega
  subst this;rw[Go.Lib.decDigits_one (by omega)];unfold Av.f;rw[if_pos (by omega)];exact congrArg some (Nw (n:=0) (by omega))
 |k+1,n,h,hn=>by
  unfold Av.f;by_cases c:n<10
  ·rw[if_pos (by omega),Go.Lib.decDigits_one c];exact congrArg some (Nw c)
  ·rw[if_neg (by omega)];have e1:wrap64 (Int.tdiv (n:Int) 10)=((n/10:Nat):Int):=by
    rw[show Int.tdiv (n:Int) 10=((n/10:Nat):Int) from rfl];unfold wrap64;omega
   have e2:Int.tmod (n:Int) 10=((n%10:Nat):Int):=rfl;rw[e1,e2,OG k (n/10) (by rw[Nat.div_lt_iff_lt_mul (by omega)];rw[Nat.pow_succ]at h;exact h) (by omega)];simp only[Option.bind_some,Nw (Nat.mod_lt n (show 10 > 0 by omega))];have hl:=MH (n/10) (by omega);have ed:Go.Lib.decDigits n=Go.Lib.decDigits (n/10)++[UInt8.ofNat (48+n%10)]:=by
    rw[Go.Lib.decDigits,dif_neg c]
   rw[if_pos (by simp[ByteArray.size];omega),ed];exact congrArg some (BV _ _)
theorem Nx(n:Nat)(hn:n≤4294967295)(w:World):Calls Tryz.prog 49 #[.int .i64 n] w fun e w'=>e=.returned (.string ⟨(Go.Lib.decDigits n).toArray⟩)∧Below w.heap.size w w' :=
 Av.calls 11 n _ w (OG 10 n (by omega) hn)
theorem Ca{v:Int}(h0:0≤v)(h1:v≤4294967295)(w:World):Calls Tryz.prog 49 #[.int .i64 v] w fun e w'=>e=.returned (.string ⟨(dec v).toArray⟩)∧Below w.heap.size w w':=by
 have:=Nx v.toNat (by omega) w;rw[show((v.toNat:Nat):Int)=v by omega]at this;exact this
theorem BB{v:Int}(h1:v≤4294967295):(dec v).length≤10:=MH _ (by omega)
theorem AU{v:Int}(h0:0≤v)(h1:v≤4294967295)(w:World):Calls Tryz.prog 141 #[.int .i64 v] w fun e w'=>e=.returned (.string ⟨(32::114::dec v).toArray⟩)∧Below w.heap.size w w':=by
 have hl:=BB h1;have hz:((⟨(dec v).toArray⟩:ByteArray)).size=(dec v).length:=by simp[ByteArray.size]
 have hb:¬9223372036854775807<2+(dec v).length:=by omega
 have C:=Az (fun W=>Ca h0 h1 W);have ea:(⟨#[32,114]⟩:ByteArray)++⟨(dec v).toArray⟩=⟨(32::114::dec v).toArray⟩:=BV [32,114] (dec v);go_enter Tryz.func141,Tryz.ntmps141;go_wp2_with fail
 refine(C.out _).mono ?_;rintro e w1 ⟨rfl,hb1⟩;go_wp2_with fail
 go_ret;exact⟨rfl,hb1⟩
end
end Go.Proofs.YtjjpiefgdggghaaGreatDoor
