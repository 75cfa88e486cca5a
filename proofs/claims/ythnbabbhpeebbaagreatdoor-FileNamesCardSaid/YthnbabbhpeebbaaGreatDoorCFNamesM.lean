/- FileNames: for every input the law returns true. Conditions: the package-level variables of Go's library that the row lists hold at the start what the program's text lays (the card ties them). -/
import Derived.Test.YthnbabbhpeebbaaGreatDoorCards
import Derived.Test.YthnbabbhpeebbaaGreatDoorTie
import Derived.Test.YthnbabbhpeebbaaGreatDoorCFNamesL
set_option maxRecDepth 100000
set_option linter.unusedVariables false
namespace Go.Proofs.YthnbabbhpeebbaaGreatDoor.fileNames
open Go Go.Av Go.RowKit Go.ChangeShapes Go.WideShapes Go.ChangeAt Go.ChangeMaps Go.Proofs Go.Pl
set_option maxHeartbeats 4000000 in
theorem closed : joinedFacts Tryz.pinned.checked.prog 4 Tryz.f4 (OpenSpec.ofChange Rows.fileNamesSpec).bare Rows.fileNamesRow = true := by
  unfold joinedFacts
  simp only [Bool.and_eq_true]
  repeat' apply And.intro
  all_goals (as_aux_lemma => kernel_rfl)
theorem said : Rows.FileNamesSaid :=
  OpenClaim.holds_of_cond 4 Tryz.f4 rfl rfl rfl rfl rfl rfl rfl ⟨rfl, rfl, rfl, rfl, rfl⟩ rfl rfl rfl rfl rfl (by as_aux_lemma => kernel_rfl) Tryz.func4 closed
    (of_decide_eq_true (by as_aux_lemma => kernel_rfl)) (by unfold Func.isWrapper; first | (rw [if_pos (by decide +kernel)]; kernel_rfl) | (rw [if_neg (by decide +kernel)]; exact ⟨rfl, rfl⟩))
    (fun os started H enc _ F => by rw [OpenClaim.pre_eq_preRow]; exact lifted os started H enc F)
end Go.Proofs.YthnbabbhpeebbaaGreatDoor.fileNames
