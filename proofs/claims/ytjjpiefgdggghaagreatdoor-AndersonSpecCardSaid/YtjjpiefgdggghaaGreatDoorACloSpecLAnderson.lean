/- AndersonSpec: the closed facts of its row. -/
import Derived.Test.YtjjpiefgdggghaaGreatDoorA09
set_option linter.unusedVariables false
set_option linter.unusedSimpArgs false
set_option maxRecDepth 100000
set_option maxHeartbeats 40000000
namespace Go.Proofs.YtjjpiefgdggghaaGreatDoor.andersonSpec
section
open Go Go.ChangeShapes Go.WideShapes Go.ChangeAt Go.RowKit
theorem closed:joinedFacts Tryz.pinned.checked.prog 4 Tryz.f4 (OpenSpec.ofChange Rows.andersonSpecSpec).bare Rows.andersonSpecRow=true:=by
 unfold joinedFacts;simp only[Bool.and_eq_true];refine⟨⟨⟨⟨⟨⟨⟨⟨⟨⟨⟨⟨⟨⟨⟨⟨⟨⟨⟨⟨⟨⟨⟨⟨⟨⟨⟨⟨⟨⟨⟨?k1,?k2⟩,?k3⟩,?k4⟩,?k5⟩,?k6⟩,?k7⟩,?k8⟩,?k9⟩,?k10⟩,?k11⟩,?k12⟩,?k13⟩,?k14⟩,?k15⟩,?k16⟩,?k17⟩,?k17b⟩,?k18⟩,?k19⟩,?k20⟩,?k21⟩,?k22⟩,?k23⟩,?k23b⟩,?k24⟩,?k24b⟩,?k24c⟩,?k25⟩,?k26⟩,?k27⟩,?k28⟩;case k2=>exact Ow
 case k3=>exact Ox
 case k7=>exact Lf
 case k9=>exact Lg
 case k22=>exact Oy
 case k23b=>exact Lh
 case k24=>exact Li
 case k24b=>exact Oz
 case k24c=>exact O0
 all_goals (as_aux_lemma=>kernel_rfl)
end
end Go.Proofs.YtjjpiefgdggghaaGreatDoor.andersonSpec
