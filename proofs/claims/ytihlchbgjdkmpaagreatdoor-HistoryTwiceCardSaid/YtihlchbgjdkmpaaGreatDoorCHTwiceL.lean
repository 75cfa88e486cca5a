/- HistoryTwice: for every input the law returns true. Conditions: the package-level variables of Go's library that the row lists e8 at the start what the program's text lays (the card ties them). -/
import Derived.Test.YtihlchbgjdkmpaaGreatDoorCards
import Derived.Test.YtihlchbgjdkmpaaGreatDoorTie
import Derived.Test.YtihlchbgjdkmpaaGreatDoorK9
set_option maxRecDepth 100000
set_option linter.unusedVariables false
namespace Go.Proofs.YtihlchbgjdkmpaaGreatDoor.historyTwice
open Go Go.Av Go.RowKit Go.ChangeShapes Go.WideShapes Go.ChangeAt Go.ChangeMaps Go.Proofs Go.Pl
theorem own : ownKnob Tryz.prog.godebug = none := by kernel_rfl
theorem params : Tryz.f3.params = #[9] := by kernel_rfl
theorem ub : Tryz.prog.underlying 4 = some .bool := by kernel_rfl
theorem us : Tryz.prog.underlying 9 = some .string := by kernel_rfl
theorem contract (H : Type) (enc : TypeId × Value → H) (W : World) (base : Nat) (args : Array Value) (ds gs : List (DataW H)) (before : List MemPlace)
    (pz : ∀ (j : Nat) t v, Tryz.f3.params[j]? = some t → args[j]? = some v → Value.okWide Tryz.prog W .any base t v)
    (hW : DataW.Whole enc Tryz.prog Tryz.f3.params.toList Rows.historyTwiceSpec.vars false W args.toList ds gs before) (hL : laidMetH Tryz.prog Rows.historyTwiceRow.laid W) (hs : W.ShapedOpen Tryz.prog) :
    Calls Tryz.prog 3 args W fun e W' => ∃ v, e = .returned v ∧ Rows.historyTwiceSpec.post enc Tryz.prog Tryz.f3 false true false false W args v W' := by
  have hW' := hW
  obtain ⟨p, q, hA0, hV, rfl, hfz, br⟩ := hW
  have hA : DataW.TrodAll enc Tryz.prog W 0 (fun _ => true) true Tryz.f3.params.toList args.toList ds p := hA0
  rw [params] at hA pz
  obtain ⟨v0, vs0, d0, ds0, p0, q0, lx, rfl, rfl, h0, r0⟩ := trodAll_cons hA
  obtain ⟨rfl, rfl, rfl⟩ := trodAll_nil r0
  obtain rfl : args = #[v0] := by cases args; simp_all
  obtain ⟨rfl, rfl⟩ := trodVars_none hV
  obtain ⟨s0, rfl, rfl, rfl, w0⟩ := open_string us (pz 0 _ _ rfl rfl) h0
  clear hA0
  simp only [List.append_nil] at hW'
  refine (qtj (vals := #[.string s0]) (W := W) (ze5 s0.data.toList []) (zd7 (by first | rfl | exact ⟨rfl, rfl⟩) hL hs (by simp [Rows.historyTwiceRow]) (by simp [Rows.historyTwiceRow]) (by simp [Rows.historyTwiceRow])) rfl).mono fun e W' ⟨he, hb⟩ => ?_
  subst he
  exact ⟨_, rfl, qwl (pa := []) (pv := []) hW' (fun _ _ _ => trodAll_cons_mk (shut_bool ub _) trodAll_mk0)
    (fun _ _ => trodAll_cons_mk (shut_string us w0) trodAll_mk0) (fun _ _ => rfl) rfl
    hb (ok_one (by as_aux_lemma => kernel_rfl) rfl (okWide_bool_mk ub _))⟩

/- A start for the witness: the listed variables laid. -/
noncomputable def start (os : Os) : World := (zgv os).layVars Tryz.prog (Rows.historyTwiceRow.laid.filter fun x => x.2.handleName?.isNone)
theorem start_os (os : Os) : (start os).os = os := World.layVars_os _ _ _
def arg0 : Array Value := #[.string ⟨#[]⟩]
theorem laid_met (os : Os) : laidMetH Tryz.prog Rows.historyTwiceRow.laid ((start os).forCall (fun _ _ => 0) ⟨#[], arg0, []⟩).memory := laidMetH_of_parts (qyv _ (by as_aux_lemma => kernel_rfl) (by as_aux_lemma => kernel_rfl)) (by as_aux_lemma => kernel_rfl)
theorem reads (os : Os) {H : Type} (enc : TypeId × Value → H) : ∃ places, DataW.whole enc Tryz.prog ((start os).forCall (fun _ _ => 0) ⟨#[], arg0, []⟩).memory Tryz.f3.params.toList Rows.historyTwiceSpec.vars false arg0.toList 8 = some ([.lit (.string [])], [], places) :=
  ⟨[], by kernel_rfl⟩
theorem lifted (os : Os) (started : os.Started) (H : Type) (enc : TypeId × Value → H) (F : Stop.Interp) :
    ReturnsInHanded {} Tryz.checked os 3 .any ((OpenSpec.ofChange Rows.historyTwiceSpec).preRow enc Tryz.prog Tryz.f3 Rows.historyTwiceRow.domain false Rows.historyTwiceRow.laid) (((OpenSpec.ofChange Rows.historyTwiceSpec).at F).post enc Tryz.prog Tryz.f3 false true false false) := by
  obtain ⟨places, hx⟩ := reads os enc
  refine returnsInHanded_of_row (C := Tryz.checked) (s := OpenSpec.ofChange Rows.historyTwiceSpec) own started (by as_aux_lemma => kernel_rfl) Tryz.func3
    (witness_row_atRef (enc := enc) (C := Tryz.checked) false (start os) arg0 (start_os _) (by as_aux_lemma => kernel_rfl) (by as_aux_lemma => kernel_rfl) (by as_aux_lemma => kernel_rfl)
      (OpenSpec.preRow_of_cond 8 hx (by as_aux_lemma => kernel_rfl) (fun k hk => by cases hk) (by as_aux_lemma => kernel_rfl) (laid_met os))) ?_
  intro W base args ds gs before pz hW _ _ _ hL hs _
  exact contract H enc W base args ds gs before pz hW hL hs
end Go.Proofs.YtihlchbgjdkmpaaGreatDoor.historyTwice
