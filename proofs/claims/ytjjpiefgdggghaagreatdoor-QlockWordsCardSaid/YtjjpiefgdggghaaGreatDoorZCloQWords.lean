/- QlockWords: the closed facts of its row. -/
import Derived.Test.YtjjpiefgdggghaaGreatDoorZ08
set_option linter.unusedVariables false
set_option linter.unusedSimpArgs false
set_option maxRecDepth 100000
set_option maxHeartbeats 40000000
namespace Go.Proofs.YtjjpiefgdggghaaGreatDoor.qlockWords
section
open Go Go.ChangeShapes Go.WideShapes Go.ChangeAt Go.RowKit
theorem closed:joinedFacts Tryz.pinned.checked.prog 10 Tryz.f10 (OpenSpec.ofChange Rows.qlockWordsSpec).bare Rows.qlockWordsRow=true:=by
 unfold joinedFacts;simp only[Bool.and_eq_true];refine⟨⟨⟨⟨⟨⟨⟨⟨⟨⟨⟨⟨⟨⟨⟨⟨⟨⟨⟨⟨⟨⟨⟨⟨⟨⟨⟨⟨⟨⟨⟨?k1,?k2⟩,?k3⟩,?k4⟩,?k5⟩,?k6⟩,?k7⟩,?k8⟩,?k9⟩,?k10⟩,?k11⟩,?k12⟩,?k13⟩,?k14⟩,?k15⟩,?k16⟩,?k17⟩,?k17b⟩,?k18⟩,?k19⟩,?k20⟩,?k21⟩,?k22⟩,?k23⟩,?k23b⟩,?k24⟩,?k24b⟩,?k24c⟩,?k25⟩,?k26⟩,?k27⟩,?k28⟩;case k2=>exact Me
 case k3=>exact Mf
 case k7=>exact Kb
 case k9=>exact Ke
 case k22=>exact Mg
 case k23b=>exact Kf
 case k24=>exact Kg
 case k24b=>exact Mh
 case k24c=>exact Mi
 all_goals (as_aux_lemma=>kernel_rfl)
end
end Go.Proofs.YtjjpiefgdggghaaGreatDoor.qlockWords
