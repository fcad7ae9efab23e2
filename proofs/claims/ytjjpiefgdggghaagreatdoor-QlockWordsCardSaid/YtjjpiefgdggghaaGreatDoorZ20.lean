/- Parts: Digits. -/
import Derived.Test.YtjjpiefgdggghaaGreatDoorZ02
import Derived.Test.YtjjpiefgdggghaaGreatDoorZ04
import Derived.Test.YtjjpiefgdggghaaGreatDoorZ17
set_option linter.unusedVariables false
set_option linter.unusedSimpArgs false
set_option maxRecDepth 100000
set_option maxHeartbeats 40000000
namespace Go.Proofs.YtjjpiefgdggghaaGreatDoor
section
open Go.RowKit Go.Proofs.YtjjpiefgdggghaaGreatDoorW.PrintWords
theorem I6{n:Nat}(h:n<10):strOfNums [(wrap64 (48+(n:Int)))%256]=⟨#[UInt8.ofNat (48+n)]⟩:=by
 have e:(wrap64 (48+(n:Int)))%256=((48+n:Nat):Int):=by unfold wrap64;omega
 rw[e];rfl
theorem J8:∀ (k n:Nat),n<10 ^ k→n≤4294967295→Al.f (k+1) (n:Int)=some ⟨(Go.Lib.decDigits n).toArray⟩
 |0,n,h,_=>by
  have:n=0:=by omega
  subst this;rw[Go.Lib.decDigits_one (by omega)];unfold Al.f;rw[if_pos (by omega)];exact congrArg some (I6 (n:=0) (by omega))
 |k+1,n,h,hn=>by
  unfold Al.f;by_cases c:n<10
  ·rw[if_pos (by omega),Go.Lib.decDigits_one c];exact congrArg some (I6 c)
  ·rw[if_neg (by omega)];have e1:wrap64 (Int.tdiv (n:Int) 10)=((n/10:Nat):Int):=by
    rw[show Int.tdiv (n:Int) 10=((n/10:Nat):Int) from rfl];unfold wrap64;omega
   have e2:Int.tmod (n:Int) 10=((n%10:Nat):Int):=rfl;rw[e1,e2,J8 k (n/10) (by rw[Nat.div_lt_iff_lt_mul (by omega)];rw[Nat.pow_succ]at h;exact h) (by omega)];simp only[Option.bind_some,I6 (Nat.mod_lt n (show 10 > 0 by omega))];have hl:=HD (n/10) (by omega);have ed:Go.Lib.decDigits n=Go.Lib.decDigits (n/10)++[UInt8.ofNat (48+n%10)]:=by
    rw[Go.Lib.decDigits,dif_neg c]
   rw[if_pos (by simp[ByteArray.size];omega),ed];exact congrArg some (Bi _ _)
theorem FD(n:Nat)(hn:n≤4294967295)(w:World):Calls Tryz.prog 49 #[.int .i64 n] w fun e w'=>e=.returned (.string ⟨(Go.Lib.decDigits n).toArray⟩)∧Below w.heap.size w w' :=
 Al.calls 11 n _ w (J8 10 n (by omega) hn)
theorem B4{v:Int}(h0:0≤v)(h1:v≤4294967295)(w:World):Calls Tryz.prog 49 #[.int .i64 v] w fun e w'=>e=.returned (.string ⟨(dec v).toArray⟩)∧Below w.heap.size w w':=by
 have:=FD v.toNat (by omega) w;rw[show((v.toNat:Nat):Int)=v by omega]at this;exact this
theorem AS{v:Int}(h1:v≤4294967295):(dec v).length≤10:=HD _ (by omega)
theorem AD{v:Int}(h0:0≤v)(h1:v≤4294967295)(w:World):Calls Tryz.prog 141 #[.int .i64 v] w fun e w'=>e=.returned (.string ⟨(32::114::dec v).toArray⟩)∧Below w.heap.size w w':=by
 have hl:=AS h1;have hz:((⟨(dec v).toArray⟩:ByteArray)).size=(dec v).length:=by simp[ByteArray.size]
 have hb:¬9223372036854775807<2+(dec v).length:=by omega
 have C:=Az (fun W=>B4 h0 h1 W);have ea:(⟨#[32,114]⟩:ByteArray)++⟨(dec v).toArray⟩=⟨(32::114::dec v).toArray⟩:=Bi [32,114] (dec v);go_enter Tryz.func141,Tryz.ntmps141;go_wp2_with fail
 refine(C.out _).mono ?_;rintro e w1 ⟨rfl,hb1⟩;go_wp2_with fail
 go_ret;exact⟨rfl,hb1⟩
end
end Go.Proofs.YtjjpiefgdggghaaGreatDoor
