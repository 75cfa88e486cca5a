/- HistoryLogs: for every input the law returns true. Conditions: the package-level variables of Go's library that the row lists i5 at the start what the program's text lays (the card ties them). -/
import Derived.Test.YtihlchbgjdkmpaaGreatDoorCards
import Derived.Test.YtihlchbgjdkmpaaGreatDoorTie
import Derived.Test.YtihlchbgjdkmpaaGreatDoorK11
set_option maxRecDepth 100000
set_option linter.unusedVariables false
namespace Go.Proofs.YtihlchbgjdkmpaaGreatDoor.historyLogs
open Go Go.Av Go.RowKit Go.ChangeShapes Go.WideShapes Go.ChangeAt Go.ChangeMaps Go.Proofs Go.Pl
theorem own : ownKnob Tryz.prog.godebug = none := by kernel_rfl
theorem params : Tryz.f6.params = #[9] := by kernel_rfl
theorem ub : Tryz.prog.underlying 4 = some .bool := by kernel_rfl
theorem us : Tryz.prog.underlying 9 = some .string := by kernel_rfl
theorem contract (H : Type) (enc : TypeId × Value → H) (W : World) (base : Nat) (args : Array Value) (ds gs : List (DataW H)) (before : List MemPlace)
    (tw : ∀ (j : Nat) t v, Tryz.f6.params[j]? = some t → args[j]? = some v → Value.okWide Tryz.prog W .any base t v)
    (hW : DataW.Whole enc Tryz.prog Tryz.f6.params.toList Rows.historyLogsSpec.vars false W args.toList ds gs before) (hL : laidMetH Tryz.prog Rows.historyLogsRow.laid W) (hs : W.ShapedOpen Tryz.prog) :
    Calls Tryz.prog 6 args W fun e W' => ∃ v, e = .returned v ∧ Rows.historyLogsSpec.post enc Tryz.prog Tryz.f6 false true false false W args v W' := by
  have hW' := hW
  obtain ⟨p, q, hA0, hV, rfl, hfz, dp⟩ := hW
  have hA : DataW.TrodAll enc Tryz.prog W 0 (fun _ => true) true Tryz.f6.params.toList args.toList ds p := hA0
  rw [params] at hA tw
  obtain ⟨v0, vs0, d0, ds0, p0, q0, rk, rfl, rfl, h0, r0⟩ := trodAll_cons hA
  obtain ⟨rfl, rfl, rfl⟩ := trodAll_nil r0
  obtain rfl : args = #[v0] := by cases args; simp_all
  obtain ⟨rfl, rfl⟩ := trodVars_none hV
  obtain ⟨s0, rfl, rfl, rfl, w0⟩ := open_string us (tw 0 _ _ rfl rfl) h0
  clear hA0
  simp only [List.append_nil] at hW'
  refine (qyp (vals := #[.string s0]) (W := W) (zn8 s0.data.toList []) (zma (by first | rfl | exact ⟨rfl, rfl⟩) hL hs (by simp [Rows.historyLogsRow]) (by simp [Rows.historyLogsRow]) (by simp [Rows.historyLogsRow])) rfl).mono fun e W' ⟨he, hb⟩ => ?_
  subst he
  exact ⟨_, rfl, q2h (pa := []) (pv := []) hW' (fun _ _ _ => trodAll_cons_mk (shut_bool ub _) trodAll_mk0)
    (fun _ _ => trodAll_cons_mk (shut_string us w0) trodAll_mk0) (fun _ _ => rfl) rfl
    hb (ok_one (by as_aux_lemma => kernel_rfl) rfl (okWide_bool_mk ub _))⟩

/- A start for the witness: the listed variables laid. -/
noncomputable def start (os : Os) : World := (zo4 os).layVars Tryz.prog (Rows.historyLogsRow.laid.filter fun x => x.2.handleName?.isNone)
theorem start_os (os : Os) : (start os).os = os := World.layVars_os _ _ _
def arg0 : Array Value := #[.string ⟨#[]⟩]
theorem laid_met (os : Os) : laidMetH Tryz.prog Rows.historyLogsRow.laid ((start os).forCall (fun _ _ => 0) ⟨#[], arg0, []⟩).memory := laidMetH_of_parts (q49 _ (by as_aux_lemma => kernel_rfl) (by as_aux_lemma => kernel_rfl)) (by as_aux_lemma => kernel_rfl)
theorem reads (os : Os) {H : Type} (enc : TypeId × Value → H) : ∃ places, DataW.whole enc Tryz.prog ((start os).forCall (fun _ _ => 0) ⟨#[], arg0, []⟩).memory Tryz.f6.params.toList Rows.historyLogsSpec.vars false arg0.toList 8 = some ([.lit (.string [])], [], places) :=
  ⟨[], by kernel_rfl⟩
theorem lifted (os : Os) (started : os.Started) (H : Type) (enc : TypeId × Value → H) (F : Stop.Interp) :
    ReturnsInHanded {} Tryz.checked os 6 .any ((OpenSpec.ofChange Rows.historyLogsSpec).preRow enc Tryz.prog Tryz.f6 Rows.historyLogsRow.domain false Rows.historyLogsRow.laid) (((OpenSpec.ofChange Rows.historyLogsSpec).at F).post enc Tryz.prog Tryz.f6 false true false false) := by
  obtain ⟨places, hx⟩ := reads os enc
  refine returnsInHanded_of_row (C := Tryz.checked) (s := OpenSpec.ofChange Rows.historyLogsSpec) own started (by as_aux_lemma => kernel_rfl) Tryz.func6
    (witness_row_atRef (enc := enc) (C := Tryz.checked) false (start os) arg0 (start_os _) (by as_aux_lemma => kernel_rfl) (by as_aux_lemma => kernel_rfl) (by as_aux_lemma => kernel_rfl)
      (OpenSpec.preRow_of_cond 8 hx (by as_aux_lemma => kernel_rfl) (fun k hk => by cases hk) (by as_aux_lemma => kernel_rfl) (laid_met os))) ?_
  intro W base args ds gs before tw hW _ _ _ hL hs _
  exact contract H enc W base args ds gs before tw hW hL hs
end Go.Proofs.YtihlchbgjdkmpaaGreatDoor.historyLogs
