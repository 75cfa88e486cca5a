/- FileNames: for every input the law returns true. Conditions: the package-level variables of Go's library that the row lists hold at the start what the program's text lays (the card ties them). -/
import Derived.Test.YthnbabbhpeebbaaGreatDoorCards
import Derived.Test.YthnbabbhpeebbaaGreatDoorTie
import Derived.Test.YthnbabbhpeebbaaGreatDoorCFNamesM
set_option maxRecDepth 100000
set_option linter.unusedVariables false
namespace Go.Proofs.YthnbabbhpeebbaaGreatDoor.fileNames
open Go Go.Av Go.RowKit Go.ChangeShapes Go.WideShapes Go.ChangeAt Go.ChangeMaps Go.Proofs Go.Pl
theorem plain (f : FuncId) (fn : Func) (hf : Tryz.pinned.checked.prog.funcNamed Rows.fileNamesRow.func = some f) (hfn : Tryz.pinned.checked.prog.funcs[f]? = some fn) :
    true = Tryz.pinned.checked.prog.looks [] ∧ ∀ (j : Nat) t, fn.params[j]? = some t → Tryz.pinned.checked.prog.wantsStandIn t = false := by
  obtain rfl : f = 4 := Option.some.inj ((show Tryz.prog.funcNamed Rows.fileNamesRow.func = some 4 by kernel_rfl).symm.trans hf) |>.symm
  obtain rfl : fn = Tryz.f4 := (Option.some.inj (Tryz.func4.symm.trans hfn)).symm
  refine ⟨by kernel_rfl, fun j t ht => ?_⟩
  rw [params] at ht
  have hm : t ∈ [9, 9] := by simpa using Array.mem_of_getElem? ht
  have i6 : ([9, 9].all fun u => !Tryz.prog.wantsStandIn u) = true := by kernel_rfl
  exact (show Tryz.prog.wantsStandIn t = false by simpa using List.all_eq_true.1 i6 t hm)
/-- The card. -/
theorem card : Rows.FileNamesCardSaid :=
  Claim7.holds_tied_plain_at .later [] _ _ _ _ said (fun _ h => by cases h) (by as_aux_lemma => kernel_rfl) (fun _ h => by cases h) fileNames_row_tie rfl ⟨rfl, rfl⟩ (by as_aux_lemma => kernel_rfl) rfl plain (by as_aux_lemma => kernel_rfl)
end Go.Proofs.YthnbabbhpeebbaaGreatDoor.fileNames
