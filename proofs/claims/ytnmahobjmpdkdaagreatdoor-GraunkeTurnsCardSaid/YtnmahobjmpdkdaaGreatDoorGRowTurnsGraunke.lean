/- GraunkeTurns: for every input the law returns true, and the arguments read as they did. Conditions: the listed package-level variables hold what the program's text lays (the card ties them). -/
import Derived.Test.YtnmahobjmpdkdaaGreatDoorG31
import Derived.Test.YtnmahobjmpdkdaaGreatDoorGCloTurnsGraunke
import Derived.Test.YtnmahobjmpdkdaaGreatDoorGLawTurnsGraunke
set_option linter.unusedVariables false
set_option linter.unusedSimpArgs false
set_option maxRecDepth 100000
set_option maxHeartbeats 40000000
namespace Go.Proofs.YtnmahobjmpdkdaaGreatDoor.graunkeTurns
section
open Go Go.ChangeShapes Go.WideShapes Go.ChangeAt Go.RowKit
theorem contract(H:Type)(enc:TypeId×Value→H)(W:World)(base:Nat)(args:Array Value)(ds gs:List (DataW H))(before:List MemPlace)
  (hval:∀ (j:Nat) t v,Tryz.f13.params[j]?=some t→args[j]?=some v→Value.okWide Tryz.prog W .any base t v)
  (hW:DataW.Whole enc Tryz.prog Tryz.f13.params.toList Rows.graunkeTurnsSpec.vars false W args.toList ds gs before)(hL:laidMetH Tryz.prog Rows.graunkeTurnsRow.laid W)(hsh:W.ShapedOpen Tryz.prog) :
  Calls Tryz.prog 13 args W fun e W'=>∃ v,e=.returned v∧Rows.graunkeTurnsSpec.post enc Tryz.prog Tryz.f13 false true false false W args v W':=by
 have hW':=hW;obtain⟨p,q,hA0,hV,rfl,hfz,hnd⟩:=hW;have hA:DataW.TrodAll enc Tryz.prog W 0 (fun _=>true) true Tryz.f13.params.toList args.toList ds p:=hA0;rw[Tryz.params13]at hA hval;obtain⟨v0,vs0,d0,ds0,p0,q0,hargs0,rfl,rfl,h0,r0⟩:=trodAll_cons hA;obtain⟨v1,vs1,d1,ds1,p1,q1,hargs1,rfl,rfl,h1,r1⟩:=trodAll_cons r0;obtain⟨rfl,rfl,rfl⟩:=trodAll_nil r1;obtain rfl:args=#[v0,v1]:=by cases args;simp_all
 obtain⟨rfl,rfl⟩:=trodVars_none hV;obtain⟨x0,rfl,rfl,rfl,wx0⟩:=open_int Tryz.underlying3 (hval 0 3 v0 rfl rfl) h0;obtain⟨x1,rfl,rfl,rfl,wx1⟩:=open_int Tryz.underlying5 (hval 1 5 v1 rfl rfl) h1;clear hA0;simp only[List.append_nil]at hW';refine(Jc x0 x1 wx1 W (DU hL hsh)).mono fun e W' ⟨he,hb⟩=>?_
 subst he;exact⟨_,rfl,CJ hW' hb (fun _ _ _=>trodAll_cons_mk (shut_bool Tryz.underlying4 _) trodAll_mk0) (trodAll_cons_mk (shut_int Tryz.underlying3 wx0) (trodAll_cons_mk (shut_int Tryz.underlying5 wx1) trodAll_mk0)) (fun _=>rfl)⟩
def wArgs:Array Value:=#[.int .i64 0,.int .u8 0]
theorem reads(os:Os){H:Type}(enc:TypeId×Value→H):∃ places,DataW.whole enc Tryz.prog ((Bi os).forCall (fun _ _=>0) ⟨#[],wArgs,[]⟩).memory Tryz.f13.params.toList Rows.graunkeTurnsSpec.vars false wArgs.toList 8 =
  some ([.lit (.int .i64 0),.lit (.int .u8 0)],[],places) :=
 ⟨[],by kernel_rfl⟩
theorem lifted(os:Os)(started:os.Started)(H:Type)(enc:TypeId×Value→H)(F:Stop.Interp) :
  ReturnsInHanded {} Tryz.checked os 13 .any ((OpenSpec.ofChange Rows.graunkeTurnsSpec).preRow enc Tryz.prog Tryz.f13 Rows.graunkeTurnsRow.domain false Rows.graunkeTurnsRow.laid) (((OpenSpec.ofChange Rows.graunkeTurnsSpec).at F).post enc Tryz.prog Tryz.f13 false true false false):=by
 obtain⟨places,hx⟩:=reads os enc;refine returnsInHanded_of_row (C:=Tryz.checked) (s:=OpenSpec.ofChange Rows.graunkeTurnsSpec) own started (by kernel_rfl) Tryz.func13
  (witness_row_atRef (enc:=enc) (C:=Tryz.checked) false (Bi os) wArgs rfl (by kernel_rfl) (by kernel_rfl) (by kernel_rfl)
   (OpenSpec.preRow_of_cond 8 hx (by kernel_rfl) (fun k hk=>by cases hk) (by kernel_rfl) (CM os _))) ?_
 intro W base args ds gs before hval hW _ _ _ hL hsh _;exact contract H enc W base args ds gs before hval hW hL hsh
theorem said:Rows.GraunkeTurnsSaid :=
 OpenClaim.holds_of_cond 13 Tryz.f13 rfl rfl rfl rfl rfl rfl rfl ⟨rfl,rfl,rfl,rfl,rfl⟩ rfl rfl rfl rfl rfl (by kernel_rfl) Tryz.func13 closed
  (of_decide_eq_true (by kernel_rfl)) (by unfold Func.isWrapper;first |(rw[if_pos (by decide +kernel)];kernel_rfl) |(rw[if_neg (by decide +kernel)];exact⟨rfl,rfl⟩))
  (fun os started H enc _ F=>by rw[OpenClaim.pre_eq_preRow];exact lifted os started H enc F)
theorem plain(f:FuncId)(fn:Func)(hf:Tryz.pinned.checked.prog.funcNamed "ropeline/ropelinelaw16.GraunkeTurns" = some f)(hfn:Tryz.pinned.checked.prog.funcs[f]?=some fn) :
  true=Tryz.pinned.checked.prog.looks []∧∀ (j:Nat) t,fn.params[j]?=some t→Tryz.pinned.checked.prog.wantsStandIn t=false:=by
 obtain rfl:f=13:=Option.some.inj ((show Tryz.prog.funcNamed "ropeline/ropelinelaw16.GraunkeTurns" = some 13 by kernel_rfl).symm.trans hf) |>.symm
 obtain rfl:fn=Tryz.f13:=(Option.some.inj (Tryz.func13.symm.trans hfn)).symm;refine⟨by kernel_rfl,fun j t ht=>?_⟩;rw[Tryz.params13]at ht;have hm:=Array.mem_of_getElem? ht;have:t=3∨t=5:=by simpa using hm
 rcases this with rfl |rfl
 ·exact(show Tryz.prog.wantsStandIn 3=false by kernel_rfl)
 ·exact(show Tryz.prog.wantsStandIn 5=false by kernel_rfl)
theorem card:Rows.GraunkeTurnsCardSaid :=
 Claim7.holds_tied_plain_at .later [] _ _ _ _ said (fun _ h=>by cases h) (by kernel_rfl) (fun _ h=>by cases h) graunkeTurns_row_tie rfl ⟨rfl,rfl⟩ (by kernel_rfl) rfl plain (by kernel_rfl)
end
end Go.Proofs.YtnmahobjmpdkdaaGreatDoor.graunkeTurns
