/- FileNames: for every input the law returns true. Conditions: the package-level variables of Go's library that the row lists hold at the start what the program's text lays (the card ties them). -/
import Derived.Test.YthnbabbhpeebbaaGreatDoorCards
import Derived.Test.YthnbabbhpeebbaaGreatDoorTie
import Derived.Test.YthnbabbhpeebbaaGreatDoorK11
set_option maxRecDepth 100000
set_option linter.unusedVariables false
namespace Go.Proofs.YthnbabbhpeebbaaGreatDoor.fileNames
open Go Go.Av Go.RowKit Go.ChangeShapes Go.WideShapes Go.ChangeAt Go.ChangeMaps Go.Proofs Go.Pl
theorem own : ownKnob Tryz.prog.godebug = none := by kernel_rfl
theorem params : Tryz.f4.params = #[9, 9] := by kernel_rfl
theorem ub : Tryz.prog.underlying 4 = some .bool := by kernel_rfl
theorem us : Tryz.prog.underlying 9 = some .string := by kernel_rfl
theorem contract (H : Type) (enc : TypeId × Value → H) (W : World) (base : Nat) (args : Array Value) (ds gs : List (DataW H)) (before : List MemPlace)
    (nt : ∀ (j : Nat) t v, Tryz.f4.params[j]? = some t → args[j]? = some v → Value.okWide Tryz.prog W .any base t v)
    (hW : DataW.Whole enc Tryz.prog Tryz.f4.params.toList Rows.fileNamesSpec.vars false W args.toList ds gs before) (hL : laidMetH Tryz.prog Rows.fileNamesRow.laid W) (hs : W.ShapedOpen Tryz.prog) :
    Calls Tryz.prog 4 args W fun e W' => ∃ v, e = .returned v ∧ Rows.fileNamesSpec.post enc Tryz.prog Tryz.f4 false true false false W args v W' := by
  have hW' := hW
  obtain ⟨p, q, hA0, hV, rfl, hfz, bv⟩ := hW
  have hA : DataW.TrodAll enc Tryz.prog W 0 (fun _ => true) true Tryz.f4.params.toList args.toList ds p := hA0
  rw [params] at hA nt
  obtain ⟨v0, vs0, d0, ds0, p0, q0, rz, rfl, rfl, h0, r0⟩ := trodAll_cons hA
  obtain ⟨v1, vs1, d1, ds1, p1, q1, rfl, rfl, rfl, h1, r1⟩ := trodAll_cons r0
  obtain ⟨rfl, rfl, rfl⟩ := trodAll_nil r1
  obtain rfl : args = #[v0, v1] := by cases args; simp_all
  obtain ⟨rfl, rfl⟩ := trodVars_none hV
  obtain ⟨s0, rfl, rfl, rfl, w0⟩ := open_string us (nt 0 _ _ rfl rfl) h0
  obtain ⟨s1, rfl, rfl, rfl, w1⟩ := open_string us (nt 1 _ _ rfl rfl) h1
  clear hA0
  simp only [List.append_nil] at hW'
  refine (calls_of_acall (vals := #[.string s0, .string s1]) (W := W) (names_a s0.data.toList s1.data.toList []) (zfo (by first | rfl | exact ⟨rfl, rfl⟩) hL hs (by simp [Rows.fileNamesRow]) (by simp [Rows.fileNamesRow]) (by simp [Rows.fileNamesRow])) rfl).mono fun e W' ⟨he, hb⟩ => ?_
  subst he
  exact ⟨_, rfl, qxs (pa := []) (pv := []) hW' (fun _ _ _ => trodAll_cons_mk (shut_bool ub _) trodAll_mk0)
    (fun _ _ => trodAll_cons_mk (shut_string us w0) (trodAll_cons_mk (shut_string us w1) trodAll_mk0)) (fun _ _ => rfl) rfl
    hb (ok_one (by as_aux_lemma => kernel_rfl) rfl (okWide_bool_mk ub _))⟩

/- A start for the witness: the listed variables laid. -/
noncomputable def start (os : Os) : World := (zi0 os).layVars Tryz.prog (Rows.fileNamesRow.laid.filter fun x => x.2.handleName?.isNone)
theorem start_os (os : Os) : (start os).os = os := World.layVars_os _ _ _
def arg0 : Array Value := #[.string ⟨#[]⟩, .string ⟨#[]⟩]
theorem laid_met (os : Os) : laidMetH Tryz.prog Rows.fileNamesRow.laid ((start os).forCall (fun _ _ => 0) ⟨#[], arg0, []⟩).memory := laidMetH_of_parts (qz2 _ (by as_aux_lemma => kernel_rfl) (by as_aux_lemma => kernel_rfl)) (by as_aux_lemma => kernel_rfl)
theorem reads (os : Os) {H : Type} (enc : TypeId × Value → H) : ∃ places, DataW.whole enc Tryz.prog ((start os).forCall (fun _ _ => 0) ⟨#[], arg0, []⟩).memory Tryz.f4.params.toList Rows.fileNamesSpec.vars false arg0.toList 8 = some ([.lit (.string []), .lit (.string [])], [], places) :=
  ⟨[], by kernel_rfl⟩
theorem lifted (os : Os) (started : os.Started) (H : Type) (enc : TypeId × Value → H) (F : Stop.Interp) :
    ReturnsInHanded {} Tryz.checked os 4 .any ((OpenSpec.ofChange Rows.fileNamesSpec).preRow enc Tryz.prog Tryz.f4 Rows.fileNamesRow.domain false Rows.fileNamesRow.laid) (((OpenSpec.ofChange Rows.fileNamesSpec).at F).post enc Tryz.prog Tryz.f4 false true false false) := by
  obtain ⟨places, hx⟩ := reads os enc
  refine returnsInHanded_of_row (C := Tryz.checked) (s := OpenSpec.ofChange Rows.fileNamesSpec) own started (by as_aux_lemma => kernel_rfl) Tryz.func4
    (witness_row_atRef (enc := enc) (C := Tryz.checked) false (start os) arg0 (start_os _) (by as_aux_lemma => kernel_rfl) (by as_aux_lemma => kernel_rfl) (by as_aux_lemma => kernel_rfl)
      (OpenSpec.preRow_of_cond 8 hx (by as_aux_lemma => kernel_rfl) (fun k hk => by cases hk) (by as_aux_lemma => kernel_rfl) (laid_met os))) ?_
  intro W base args ds gs before nt hW _ _ _ hL hs _
  exact contract H enc W base args ds gs before nt hW hL hs
end Go.Proofs.YthnbabbhpeebbaaGreatDoor.fileNames
