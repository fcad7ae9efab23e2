/- GraunkePlays: for every input the law returns true, and the arguments read as they did. Conditions: the listed package-level variables hold what the program's text lays (the card ties them). -/
import Derived.Test.YtnmahobjmpdkdaaGreatDoorG31
import Derived.Test.YtnmahobjmpdkdaaGreatDoorGCloPlaysGraunke
import Derived.Test.YtnmahobjmpdkdaaGreatDoorGOpsArg
import Derived.Test.YtnmahobjmpdkdaaGreatDoorGLawPlaysGraunke
set_option linter.unusedVariables false
set_option linter.unusedSimpArgs false
set_option maxRecDepth 100000
set_option maxHeartbeats 40000000
namespace Go.Proofs.YtnmahobjmpdkdaaGreatDoor.graunkePlays
section
open Go Go.ChangeShapes Go.WideShapes Go.ChangeAt Go.RowKit
theorem contract(H:Type)(enc:TypeId×Value→H)(W:World)(base:Nat)(args:Array Value)(ds gs:List (DataW H))(before:List MemPlace)
  (hval:∀ (j:Nat) t v,Tryz.f12.params[j]?=some t→args[j]?=some v→Value.okWide Tryz.prog W .any base t v)
  (hW:DataW.Whole enc Tryz.prog Tryz.f12.params.toList Rows.graunkePlaysSpec.vars false W args.toList ds gs before)(hL:laidMetH Tryz.prog Rows.graunkePlaysRow.laid W)(hsh:W.ShapedOpen Tryz.prog) :
  Calls Tryz.prog 12 args W fun e W'=>∃ v,e=.returned v∧Rows.graunkePlaysSpec.post enc Tryz.prog Tryz.f12 false true false false W args v W':=by
 have hW':=hW;obtain⟨p,q,hA0,hV,rfl,hfz,hnd⟩:=hW;have hA:DataW.TrodAll enc Tryz.prog W 0 (fun _=>true) true Tryz.f12.params.toList args.toList ds p:=hA0;rw[Tryz.params12]at hA hval;obtain⟨v0,vs0,d0,ds0,p0,q0,hargs0,rfl,rfl,h0,r0⟩:=trodAll_cons hA;obtain⟨v1,vs1,d1,ds1,p1,q1,hargs1,rfl,rfl,h1,r1⟩:=trodAll_cons r0;obtain⟨rfl,rfl,rfl⟩:=trodAll_nil r1;obtain rfl:args=#[v0,v1]:=by cases args;simp_all
 obtain⟨rfl,rfl⟩:=trodVars_none hV;obtain⟨x0,rfl,rfl,rfl,wx0⟩:=open_int Tryz.underlying3 (hval 0 3 v0 rfl rfl) h0;obtain⟨Ao,mo,co,lo,rfl,hmo,hlo⟩:=En (hval 1 23 v1 rfl rfl) h1;clear hA0;simp only[List.append_nil]at hW';refine(J4 x0 Ao co mo lo hmo W (DU hL hsh) hlo).mono fun e W' ⟨he,hb⟩=>?_
 subst he;exact⟨_,rfl,CJ hW' hb (fun _ _ _=>trodAll_cons_mk (shut_bool Tryz.underlying4 _) trodAll_mk0) (trodAll_cons_mk (shut_int Tryz.underlying3 wx0) (trodAll_cons_mk (DH h1 hb (fun x hx=>hW'.lt x (by simpa using hx))) trodAll_mk0)) (fun _=>rfl)⟩
def wArgs:Array Value:=#[.int .i64 0,.slice none 0 0]
theorem reads(os:Os){H:Type}(enc:TypeId×Value→H):∃ places,DataW.whole enc Tryz.prog ((Bi os).forCall (fun _ _=>0) ⟨#[],wArgs,[]⟩).memory Tryz.f12.params.toList Rows.graunkePlaysSpec.vars false wArgs.toList 8 =
  some ([.lit (.int .i64 0),.nil],[],places) :=
 ⟨[],by kernel_rfl⟩
theorem lifted(os:Os)(started:os.Started)(H:Type)(enc:TypeId×Value→H)(F:Stop.Interp) :
  ReturnsInHanded {} Tryz.checked os 12 .any ((OpenSpec.ofChange Rows.graunkePlaysSpec).preRow enc Tryz.prog Tryz.f12 Rows.graunkePlaysRow.domain false Rows.graunkePlaysRow.laid) (((OpenSpec.ofChange Rows.graunkePlaysSpec).at F).post enc Tryz.prog Tryz.f12 false true false false):=by
 obtain⟨places,hx⟩:=reads os enc;refine returnsInHanded_of_row (C:=Tryz.checked) (s:=OpenSpec.ofChange Rows.graunkePlaysSpec) own started (by kernel_rfl) Tryz.func12
  (witness_row_atRef (enc:=enc) (C:=Tryz.checked) false (Bi os) wArgs rfl (by kernel_rfl) (by kernel_rfl) (by kernel_rfl)
   (OpenSpec.preRow_of_cond 8 hx (by kernel_rfl) (fun k hk=>by cases hk) (by kernel_rfl) (CM os _))) ?_
 intro W base args ds gs before hval hW _ _ _ hL hsh _;exact contract H enc W base args ds gs before hval hW hL hsh
theorem said:Rows.GraunkePlaysSaid :=
 OpenClaim.holds_of_cond 12 Tryz.f12 rfl rfl rfl rfl rfl rfl rfl ⟨rfl,rfl,rfl,rfl,rfl⟩ rfl rfl rfl rfl rfl (by kernel_rfl) Tryz.func12 closed
  (of_decide_eq_true (by kernel_rfl)) (by unfold Func.isWrapper;first |(rw[if_pos (by decide +kernel)];kernel_rfl) |(rw[if_neg (by decide +kernel)];exact⟨rfl,rfl⟩))
  (fun os started H enc _ F=>by rw[OpenClaim.pre_eq_preRow];exact lifted os started H enc F)
theorem plain(f:FuncId)(fn:Func)(hf:Tryz.pinned.checked.prog.funcNamed "ropeline/ropelinelaw16.GraunkePlays" = some f)(hfn:Tryz.pinned.checked.prog.funcs[f]?=some fn) :
  true=Tryz.pinned.checked.prog.looks []∧∀ (j:Nat) t,fn.params[j]?=some t→Tryz.pinned.checked.prog.wantsStandIn t=false:=by
 obtain rfl:f=12:=Option.some.inj ((show Tryz.prog.funcNamed "ropeline/ropelinelaw16.GraunkePlays" = some 12 by kernel_rfl).symm.trans hf) |>.symm
 obtain rfl:fn=Tryz.f12:=(Option.some.inj (Tryz.func12.symm.trans hfn)).symm;refine⟨by kernel_rfl,fun j t ht=>?_⟩;rw[Tryz.params12]at ht;have hm:=Array.mem_of_getElem? ht;have:t=3∨t=23:=by simpa using hm
 rcases this with rfl |rfl
 ·exact(show Tryz.prog.wantsStandIn 3=false by kernel_rfl)
 ·exact(show Tryz.prog.wantsStandIn 23=false by kernel_rfl)
theorem card:Rows.GraunkePlaysCardSaid :=
 Claim7.holds_tied_plain_at .later [] _ _ _ _ said (fun _ h=>by cases h) (by kernel_rfl) (fun _ h=>by cases h) graunkePlays_row_tie rfl ⟨rfl,rfl⟩ (by kernel_rfl) rfl plain (by kernel_rfl)
end
end Go.Proofs.YtnmahobjmpdkdaaGreatDoor.graunkePlays
