/- Parts: Named, AsmEval, Digits. -/
import Derived.Test.YtnmahobjmpdkdaaGreatDoorG02
import Derived.Test.YtnmahobjmpdkdaaGreatDoorG05
import Derived.Test.YtnmahobjmpdkdaaGreatDoorG03
import Derived.Test.YtnmahobjmpdkdaaGreatDoorG04
import Derived.Test.YtnmahobjmpdkdaaGreatDoorG14
set_option linter.unusedVariables false
set_option linter.unusedSimpArgs false
set_option maxRecDepth 100000
set_option maxHeartbeats 40000000
namespace Go.Proofs.YtnmahobjmpdkdaaGreatDoor
section
open Go.RowKit Go.Proofs.YtnmahobjmpdkdaaGreatDoorW.PrintWords
theorem PF(l:List UInt8)(w:World) :
  Calls Tryz.prog 111 #[.string ⟨l.toArray⟩] w fun e w'=>e=.returned (.int .i64 (Ju l))∧Below w.heap.size w w':=by
 generalize hf:Ju l=fin;have HF:=Az (show ID l 23 1=fin from hf);clear hf;go_enter Tryz.func111,Tryz.ntmps111;go_wp2;go_loopw [3] (fun v wr=>∃ n:Nat,v=.int .i64 (24-n)∧n≤23∧Af (ID l n (24-n)=fin)∧Af (Below w.heap.size w wr)) (fun v wr=>(24-(intOf v)).toNat)
 case atStart=>exact⟨23,rfl,Nl _,HF,⟨Below.refl _ _⟩⟩
 case round =>
  obtain⟨n,rfl,hn,hG,hB⟩:=hrel;cases n with
  |zero =>
   have hfin:(0:Int)=fin:=hG.out;replace hfin:=Az hfin;go_wp2;go_ret;exact⟨Sk hfin.out,hB.out⟩
  |succ n =>
   have hle:(24-((n+1:Nat):Int))≤23:=by omega
   have hz:=hB.out.size;have hst:fin=if Ak (24-((n+1:Nat):Int))=l∧l≠[] then (24-((n+1:Nat):Int)) else ID l n (24-((n+1:Nat):Int)+1):=hG.out.symm
   have hnx:(24-((n+1:Nat):Int)+1)=24-(n:Int):=by omega
   generalize hop:(24-((n+1:Nat):Int))=op at hle hst hnx ⊢;have hop':op≤23∧0≤op:=by omega
   replace hop:=Az hop;replace hnx:=Az hnx;obtain⟨ho1,ho2⟩:=hop';clear hG;replace hst:=Az hst;go_wp2_with fail
   refine(Hi _ _).mono ?_;rintro e w1 ⟨rfl,hb⟩;go_wp2_with fail
   ·have h1:Ak op=l:=by assumption
    have h2:(!l.isEmpty)=true:=by assumption
    go_ret;exact⟨Sk (hst.out.trans (if_pos ⟨h1,by intro e;rw[e]at h2;simp at h2⟩)).symm,((hB.out.trans (hb.mono hz)).alloc (Nat.le_trans hz hb.size) _)⟩
   ·have h1:Ak op=l:=by assumption
    have h2:(!l.isEmpty)=false:=by assumption
    exact⟨⟨n,by rw[hnx.out],by omega,⟨by rw[←hnx.out];exact(hst.out.trans (if_neg (fun h=>by rw[Bool.not_eq_false']at h2;exact h.2 (List.isEmpty_iff.1 h2)))).symm⟩,⟨((hB.out.trans (hb.mono hz)).alloc (Nat.le_trans hz hb.size) _)⟩⟩,by simp[intOf];omega⟩
   ·have h1:¬Ak op=l:=by assumption
    exact⟨⟨n,by rw[hnx.out],by omega,⟨by rw[←hnx.out];exact(hst.out.trans (if_neg (fun h=>h1 h.1))).symm⟩,⟨((hB.out.trans (hb.mono hz)).alloc (Nat.le_trans hz hb.size) _)⟩⟩,by simp[intOf];omega⟩
end
section
open Go Go.Lib

end
section
open Go.RowKit Go.Proofs.YtnmahobjmpdkdaaGreatDoorW.PrintWords
theorem Nw{n:Nat}(h:n<10):strOfNums [(wrap64 (48+(n:Int)))%256]=⟨#[UInt8.ofNat (48+n)]⟩:=by
 have e:(wrap64 (48+(n:Int)))%256=((48+n:Nat):Int):=by unfold wrap64;omega
 rw[e];rfl
theorem OG:∀ (k n:Nat),n<10 ^ k→n≤4294967295→Av.f (k+1) (n:Int)=some ⟨(Go.Lib.decDigits n).toArray⟩
 |0,n,h,_=>by
  have:n=0:=by omega
  subst this;rw[Go.Lib.decDigits_one (by omega)];unfold Av.f;rw[if_pos (by omega)];exact congrArg some (Nw (n:=0) (by omega))
 |k+1,n,h,hn=>by
  unfold Av.f;by_cases c:n<10
  ·rw[if_pos (by omega),Go.Lib.decDigits_one c];exact congrArg some (Nw c)
  ·rw[if_neg (by omega)];have e1:wrap64 (Int.tdiv (n:Int) 10)=((n/10:Nat):Int):=by
    rw[show Int.tdiv (n:Int) 10=((n/10:Nat):Int) from rfl];unfold wrap64;omega
   have e2:Int.tmod (n:Int) 10=((n%10:Nat):Int):=rfl;rw[e1,e2,OG k (n/10) (by rw[Nat.div_lt_iff_lt_mul (by omega)];rw[Nat.pow_succ]at h;exact h) (by omega)];simp only[Option.bind_some,Nw (Nat.mod_lt n (show 10 > 0 by omega))];have hl:=MH (n/10) (by omega);have ed:Go.Lib.decDigits n=Go.Lib.decDigits (n/10)++[UInt8.ofNat (48+n%10)]:=by
    rw[Go.Lib.decDigits,dif_neg c]
   rw[if_pos (by simp[ByteArray.size];omega),ed];exact congrArg some (BV _ _)
theorem Nx(n:Nat)(hn:n≤4294967295)(w:World):Calls Tryz.prog 105 #[.int .i64 n] w fun e w'=>e=.returned (.string ⟨(Go.Lib.decDigits n).toArray⟩)∧Below w.heap.size w w' :=
 Av.calls 11 n _ w (OG 10 n (by omega) hn)
theorem Ca{v:Int}(h0:0≤v)(h1:v≤4294967295)(w:World):Calls Tryz.prog 105 #[.int .i64 v] w fun e w'=>e=.returned (.string ⟨(dec v).toArray⟩)∧Below w.heap.size w w':=by
 have:=Nx v.toNat (by omega) w;rw[show((v.toNat:Nat):Int)=v by omega]at this;exact this
theorem BB{v:Int}(h1:v≤4294967295):(dec v).length≤10:=MH _ (by omega)
theorem AU{v:Int}(h0:0≤v)(h1:v≤4294967295)(w:World):Calls Tryz.prog 106 #[.int .i64 v] w fun e w'=>e=.returned (.string ⟨(32::114::dec v).toArray⟩)∧Below w.heap.size w w':=by
 have hl:=BB h1;have hz:((⟨(dec v).toArray⟩:ByteArray)).size=(dec v).length:=by simp[ByteArray.size]
 have hb:¬9223372036854775807<2+(dec v).length:=by omega
 have C:=Az (fun W=>Ca h0 h1 W);have ea:(⟨#[32,114]⟩:ByteArray)++⟨(dec v).toArray⟩=⟨(32::114::dec v).toArray⟩:=BV [32,114] (dec v);go_enter Tryz.func106,Tryz.ntmps106;go_wp2_with fail
 refine(C.out _).mono ?_;rintro e w1 ⟨rfl,hb1⟩;go_wp2_with fail
 go_ret;exact⟨rfl,hb1⟩
end
end Go.Proofs.YtnmahobjmpdkdaaGreatDoor
