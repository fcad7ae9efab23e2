/- Parts: Laid, Facts, Laid22, QName. -/
import Derived.Test.YtjjpiefgdggghaaGreatDoorCards
import Derived.Test.YtjjpiefgdggghaaGreatDoorTie
import Derived.Test.YtjjpiefgdggghaaGreatDoorZ04
import Derived.ProofKit
import Derived.LaidMore
import Derived.OpenShut
import Derived.Deep.DeepHandedRow
import Derived.Lib.LaidTab
import Derived.Lib.LaidU8
import Derived.Stop.LaidErr
import Derived.JoinedCond
import Derived.Deep.DeepWitnessRowRef
import Derived.Test.YtjjpiefgdggghaaGreatDoorZ07
import Derived.FnData
import Derived.Test.YtjjpiefgdggghaaGreatDoorZ02
import Derived.Lib.SlicesS
set_option linter.unusedVariables false
set_option linter.unusedSimpArgs false
set_option maxRecDepth 100000
set_option maxHeartbeats 40000000
namespace Go.Proofs.YtjjpiefgdggghaaGreatDoor
section
open Go Go.ChangeShapes Go.WideShapes Go.ChangeAt Go.RowKit
theorem own:ownKnob Tryz.prog.godebug=none:=by kernel_rfl
theorem QC:Tryz.prog.globalNamed "internal/strconv.uint64pow10" = some 4:=by kernel_rfl
theorem QD:Tryz.prog.globalNamed "strconv.ErrSyntax" = some 7:=by kernel_rfl
theorem QE:Tryz.prog.globalNamed "strconv.ErrRange" = some 8:=by kernel_rfl
theorem QF:(Tryz.prog.globals[4]?).map (·.type)=some 219:=by kernel_rfl
theorem QG:(Tryz.prog.globals[7]?).map (·.type)=some 171:=by kernel_rfl
theorem QH:(Tryz.prog.globals[8]?).map (·.type)=some 171:=by kernel_rfl
theorem Rk:Tryz.prog.cellsOf 190=1:=by kernel_rfl
theorem c20:Tryz.prog.cellsOf 219=20:=by kernel_rfl
theorem KN : "*" ++ "errors.errorString" = "*errors.errorString" :=by decide +kernel
theorem M9(u:TypeId)(h:Tryz.prog.typeName? 3 u=some "*errors.errorString"):u=251 :=
 typeName_ptr_named (nm := "errors.errorString") (by rw[KN];kernel_rfl) (by kernel_rfl) (by decide) u (by rw[KN];exact h)
noncomputable def Dc (os:Os):World :=
 {World.doorLaid Tryz.prog 72 os with heap:=(World.doorLaid Tryz.prog 72 os).heap.modify 2 fun
  |.cells _ t frozen=>.cells (Lib.firstTab.map (Value.int .u8)).toArray t frozen
  |o=>o}
theorem G3{H:Type}{enc:TypeId×Value→H}{P:Program}{f:Func}{s:ChangeSpec}{W W':World}{args:Array Value}{ds gs:List (DataW H)}{before pa:List MemPlace}{v:Value}
  (hW:DataW.Whole enc P f.params.toList s.vars false W args.toList ds gs before)(hb:Below W.heap.size W W')
  (hres:∀ (b:Nat) (sp:Nat→Bool) (hd:Bool),DataW.TrodAll enc P W' b sp hd f.resultTypes.toList (v.resultList f.resultTypes.size) (s.fn H (ds++gs)).results [])
  (hargs:DataW.TrodAll enc P W' 0 (fun b=>decide (b<W.heap.size)) true f.params.toList args.toList (s.fn H (ds++gs)).args pa)
  (hvars:∀ sp:Nat→Bool,DataW.TrodVars enc P W' sp s.vars (s.fn H (ds++gs)).vars []) :
  s.post enc P f false true false false W args v W' :=
 ⟨ds,gs,before,[],pa,[],hW,hres _ _ _,hargs,hvars _,hb.frame _,fun h=>by cases h⟩
theorem Me:laidOutB Tryz.pinned.checked.prog=true:=by kernel_rfl
theorem Mf:mapsRowed Tryz.pinned.checked.prog=true:=by kernel_rfl
theorem Kb:(Tryz.pinned.checked.prog.stops==[])=true:=by kernel_rfl
theorem Ke:(Tryz.pinned.checked.prog.stopKnobs==[])=true:=by kernel_rfl
theorem Kf:Tryz.pinned.checked.prog.stopsHeard=true:=by kernel_rfl
theorem Kg:Tryz.pinned.checked.prog.mayEnter=true:=by kernel_rfl
theorem Mh:(Rows.k42RestsRow.lifted==Tryz.pinned.checked.prog.liftsFinal)=true:=by kernel_rfl
theorem Mi:(Tryz.pinned.checked.prog.make==some Rows.k42RestsRow.make)=true:=by kernel_rfl
theorem Mg:(Rows.k42RestsRow.plainKeys==Tryz.pinned.checked.prog.plainKeys)=true:=by kernel_rfl
def wordsQ:List (List UInt8):=[[],[116,105,99,107,101,116],[97,110,100,101,114,115,111,110],[103,114,97,117,110,107,101],[99,108,104],[109,99,115],[107,52,50],[99,108,104,45,116,114,121],[109,99,115,45,116,114,121]]
structure Env22 (w:World):Prop where
 env:Env w
 cell:∀ j,j<9→w.cell? ⟨0,j,none⟩=some (.string ⟨(wordsQ.getD j []).toArray⟩)
theorem Env22.below{w w':World}(h:Env22 w)(hb:Below w.heap.size w w'):Env22 w' :=
 ⟨h.env.below hb,fun j hj=>(World.cell?_of_block (hb.block _ (World.block_lt_of_cell? w ⟨0,j,none⟩ (h.cell j hj)))).trans (h.cell j hj)⟩
def laidList22:List (String×DataW Unit):=Rows.qlockSpecsRow.laid
theorem gWords:Tryz.prog.globalNamed "ropeline/qlock.words" = some 0:=by kernel_rfl
theorem tWords:(Tryz.prog.globals[(0:Nat)]?).map (·.type)=some 106:=by kernel_rfl
theorem cStr:Tryz.prog.cellsOf 9=1:=by kernel_rfl
theorem words_of{W:World}(h:laidMet Tryz.prog laidList22 W):∀ j,j<9→W.cell? ⟨0,j,none⟩=some (.string ⟨(wordsQ.getD j []).toArray⟩):=by
 obtain⟨g,t,cs,fuel,p,hg,hty,hvar,hd⟩:=Lib.laidMet.reads h (n := "ropeline/qlock.words") (d:=.agg (wordsQ.map fun l=>.lit (.string l))) (.tail _ (.tail _ (.tail _ (.tail _ (.tail _ (.tail _ (.head _)))))));obtain rfl:=Option.some.inj (gWords.symm.trans hg);obtain rfl:=Option.some.inj (tWords.symm.trans hty);intro j hj;obtain⟨fuel',d,q,h1,h2⟩:=Lib.array_elem Tryz.underlying106 hd j hj;rw[cStr,Nat.mul_one]at h2;obtain⟨s,h3,h4,_⟩:=DataW.trod_string Tryz.underlying9 h2;cases h4;have hl:j<wordsQ.length:=hj;have e1:s.data.toList=wordsQ.getD j []:=by
  rw[List.getElem?_map,List.getElem?_eq_getElem hl]at h1;simp only[Option.map_some,Option.some.injEq,DataW.lit.injEq,Lit.string.injEq]at h1;rw[List.getD_eq_getElem?_getD,List.getElem?_eq_getElem hl];exact h1.symm
 have e2:s=⟨(wordsQ.getD j []).toArray⟩:=by rw[←e1]
 have e3:cs[j]?=some (.string s):=by
  have:=congrArg (·[0]?) h3
  simpa [List.getElem?_take,List.getElem?_drop]using this
 rw[World.var?_cell gWords hvar j,e3,e2]
theorem env22_of{W:World}(h:laidMetH Tryz.prog laidList22 W)(hs:W.ShapedOpen Tryz.prog):Env22 W:=by
 rw[MakeChecks.laidMetH_plain _ _ _ (by kernel_rfl)]at h;have h2:=h.tail.tail;have h4:=h2.tail.tail;have h5:=h4.tail;obtain⟨a1,s1,hv1,_⟩:=laid_sentinel h4 QE QH Tryz.underlying171 M9 Tryz.underlying251 Tryz.underlying253 rfl rfl Tryz.underlying9 (by kernel_rfl) (by kernel_rfl);obtain⟨a2,s2,hv2,_⟩:=laid_sentinel h5 QD QG Tryz.underlying171 M9 Tryz.underlying251 Tryz.underlying253 rfl rfl Tryz.underlying9 (by kernel_rfl) (by kernel_rfl);exact⟨⟨hs,Lib.tabIs_of_head (zs:=Lib.pow10Tab) QC QF Tryz.underlying219 Tryz.underlying190 Rk c20 h2,⟨_,_,hv2⟩,⟨_,_,hv1⟩⟩,words_of h⟩
theorem laid_met22(os:Os)(args:Array Value):laidMetH Tryz.prog laidList22 ((Dc os).forCall (fun _ _=>0) ⟨#[],args,[]⟩).memory :=
 laidMetH_of_parts3 (fuel:=8) (laidMet_of_run' 8 (by kernel_rfl) (by kernel_rfl)) (by kernel_rfl) (by kernel_rfl)
end
section
open Go.RowKit Go.Proofs.YtjjpiefgdggghaaGreatDoorW.PrintWords
def nameF(k:Int):List UInt8:=if k<1∨8<k then [] else wordsQ.getD k.toNat []
theorem nameF_nat{j:Nat}(h:j<9):nameF (j:Int)=wordsQ.getD j []:=by
 unfold nameF;by_cases h0:j=0
 ·subst h0;rfl
 ·rw[if_neg (by omega)];rfl
theorem qname_calls(k:Int)(w:World)(he:Env22 w):Calls Tryz.prog 29 #[.int .i64 k] w fun e w'=>e=.returned (.string ⟨(nameF k).toArray⟩)∧w'=w:=by
 by_cases c1:k<0
 ·have hd1:decide (k<0)=true:=decide_eq_true c1;have hn:nameF k=[]:=by unfold nameF;rw[if_pos (by omega)]
  rw[hn];go_enter Tryz.func29,Tryz.ntmps29;go_wp2;go_ret;exact⟨rfl,rfl⟩
 have hd1:decide (k<0)=false:=decide_eq_false c1;by_cases c2:9≤k
 ·have hd2:decide (9≤k)=true:=decide_eq_true c2;have hn:nameF k=[]:=by unfold nameF;rw[if_pos (by omega)]
  rw[hn];go_enter Tryz.func29,Tryz.ntmps29;go_wp2;go_ret;exact⟨rfl,rfl⟩
 have hd2:decide (9≤k)=false:=decide_eq_false c2;obtain⟨j,rfl⟩:∃ j:Nat,k=(j:Int):=⟨k.toNat,by omega⟩
 have hj:j<9:=by omega
 have hc:=he.cell j hj;rw[nameF_nat hj];generalize wordsQ.getD j []=x at *;have h9:(j:Int)<9:=by omega
 clear he c1 c2;go_enter Tryz.func29,Tryz.ntmps29;go_wp2;go_ret;exact⟨rfl,rfl⟩
theorem words_ix:∀ (j:Nat),j<9→∀ W,(Instr.index 106 (.agg #[.string ⟨#[]⟩,.string ⟨#[116,105,99,107,101,116]⟩,.string ⟨#[97,110,100,101,114,115,111,110]⟩,.string ⟨#[103,114,97,117,110,107,101]⟩,.string ⟨#[99,108,104]⟩,.string ⟨#[109,99,115]⟩,.string ⟨#[107,52,50]⟩,.string ⟨#[99,108,104,45,116,114,121]⟩,.string ⟨#[109,99,115,45,116,114,121]⟩]) (.int .i64 (j:Int))).run Tryz.prog W=.ok (.string ⟨(wordsQ.getD j []).toArray⟩) W
 |0,_,_ |1,_,_ |2,_,_ |3,_,_ |4,_,_ |5,_,_ |6,_,_ |7,_,_ |8,_,_=>by kernel_rfl
 |_+9,h,_=>by omega
theorem rname22_calls(k:Int)(w:World):Calls Tryz.prog 30 #[.int .i64 k] w fun e w'=>e=.returned (.string ⟨(nameF k).toArray⟩)∧w'=w:=by
 by_cases c1:k<1
 ·have hd1:decide (k<1)=true:=decide_eq_true c1;have hn:nameF k=[]:=by unfold nameF;rw[if_pos (by omega)]
  rw[hn];go_enter Tryz.func30,Tryz.ntmps30;go_wp2;go_ret;exact⟨rfl,rfl⟩
 by_cases c2:8<k
 ·have hd1:decide (k<1)=false:=decide_eq_false c1;have hd2:decide (8<k)=true:=decide_eq_true c2;have hn:nameF k=[]:=by unfold nameF;rw[if_pos (by omega)]
  rw[hn];go_enter Tryz.func30,Tryz.ntmps30;go_wp2;go_ret;exact⟨rfl,rfl⟩
 obtain⟨j,rfl⟩:∃ j:Nat,k=(j:Int):=⟨k.toNat,by omega⟩
 have hj:j<9:=by omega
 rw[nameF_nat hj];have hix:=words_ix j hj;have hd1:decide ((j:Int)<1)=false:=decide_eq_false c1;have hd2:decide (8<(j:Int))=false:=decide_eq_false c2;generalize wordsQ.getD j []=x at *;clear c1 c2 hj;go_enter Tryz.func30,Tryz.ntmps30;go_wp2;go_ret;exact⟨rfl,rfl⟩
theorem qtry_calls(k:Int)(w:World):Calls Tryz.prog 31 #[.int .i64 k] w fun e w'=>e=.returned (.bool (k==7||k==8))∧w'=w:=by
 by_cases c1:k=7
 ·subst c1;go_enter Tryz.func31,Tryz.ntmps31;go_wp2;go_ret;exact⟨rfl,rfl⟩
 have hd1:(k==7)=false:=Bq c1;by_cases c2:k=8
 ·subst c2;go_enter Tryz.func31,Tryz.ntmps31;go_wp2;go_ret;exact⟨rfl,rfl⟩
 have hd2:(k==8)=false:=Bq c2;rw[hd1,hd2];go_enter Tryz.func31,Tryz.ntmps31;go_wp2;go_ret;exact⟨rfl,rfl⟩
def wordsB:List ByteArray:=[⟨#[116,105,99,107,101,116]⟩,⟨#[97,110,100,101,114,115,111,110]⟩,⟨#[103,114,97,117,110,107,101]⟩,⟨#[99,108,104]⟩,⟨#[109,99,115]⟩,⟨#[107,52,50]⟩,⟨#[99,108,104,45,116,114,121]⟩,⟨#[109,99,115,45,116,114,121]⟩]
theorem wordsB_at:∀ j,j<8→wordsB.getD j ByteArray.empty=⟨(wordsQ.getD (j+1) []).toArray⟩
 |0,_ |1,_ |2,_ |3,_ |4,_ |5,_ |6,_ |7,_=>rfl
 |_+8,h=>by omega
def kindF(s:ByteArray):Int:=Lib.idxOfS wordsB s+1
theorem idx_rng:∀ (l:List ByteArray) (x:ByteArray),-1≤Lib.idxOfS l x∧Lib.idxOfS l x<l.length:=by
 have gen:∀ (l:List ByteArray) (x:ByteArray) (i:Nat),-1≤Lib.idxFromS l x i∧Lib.idxFromS l x i<(l.length+i:Nat):=by
  intro l x;induction l with
  |nil=>intro i;simp only[Lib.idxFromS,List.length_nil];omega
  |cons z zs ih =>
   intro i;have:=ih (i+1);simp only[Lib.idxFromS,List.length_cons];split<;>omega
 intro l x;exact gen l x 0
theorem kind_calls(s:ByteArray)(w:World)(he:Env22 w):Calls Tryz.prog 32 #[.string s] w fun e w'=>e=.returned (.tuple #[.int .i64 (kindF s),.bool (decide (0<kindF s))])∧w'=w:=by
 have C:=Az (Tryz.slices_Index_string 0 1 8 8 wordsB s w (by decide) (by decide) (fun j hj=>by
  have hj8:j<8:=hj;rw[wordsB_at j hj8,show 1+j=j+1 by omega];exact he.cell (j+1) (by omega)))
 have e8:wordsB.take 8=wordsB:=rfl;rw[e8]at C;have hr:=idx_rng wordsB s;have hl:wordsB.length=8:=rfl;unfold kindF;generalize Lib.idxOfS wordsB s=r at *;have hw:IntKind.i64.wrap (r+1)=r+1:=by rw[IntKind.wrap_i64];omega
 clear hr hl;go_enter Tryz.func32,Tryz.ntmps32;go_wp2_with fail
 refine C.out.mono ?_;rintro e w1 ⟨rfl,rfl⟩;go_wp2;go_ret2
 exact⟨rfl,rfl⟩
end
end Go.Proofs.YtjjpiefgdggghaaGreatDoor
