/- PatchPrints: for every input the law returns true. Conditions: the package-level variables of Go's library that the row lists d8 at the start what the program's text lays (the card ties them). -/
import Derived.Test.YtapblfabkbdgcaaGreatDoorCards
import Derived.Test.YtapblfabkbdgcaaGreatDoorTie
import Derived.Test.YtapblfabkbdgcaaGreatDoorK9
set_option maxRecDepth 100000
set_option linter.unusedVariables false
namespace Go.Proofs.YtapblfabkbdgcaaGreatDoor.patchPrints
open Go Go.Av Go.RowKit Go.ChangeShapes Go.WideShapes Go.ChangeAt Go.ChangeMaps Go.Proofs Go.Pl
theorem own : ownKnob Tryz.prog.godebug = none := by kernel_rfl
theorem params : Tryz.f4.params = #[25] := by kernel_rfl
theorem ub : Tryz.prog.underlying 4 = some .bool := by kernel_rfl
theorem ust0 : Tryz.prog.underlying 25 = some (.struct (fieldsOf Tryz.prog 25)) := by kernel_rfl
theorem lo : laidOutB Tryz.prog = true := by kernel_rfl
theorem rr0 : Tryz.prog.readableRec 25 = true := by kernel_rfl
theorem row0 : 25 < Tryz.prog.types.size := Nat.le_of_ble_eq_true (by as_aux_lemma => kernel_rfl)
theorem contract (H : Type) (enc : TypeId × Value → H) (W : World) (base : Nat) (args : Array Value) (ds gs : List (DataW H)) (before : List MemPlace)
    (dw : ∀ (j : Nat) t v, Tryz.f4.params[j]? = some t → args[j]? = some v → Value.okWide Tryz.prog W .any base t v)
    (hW : DataW.Whole enc Tryz.prog Tryz.f4.params.toList Rows.patchPrintsSpec.vars false W args.toList ds gs before) (hL : laidMetH Tryz.prog Rows.patchPrintsRow.laid W) (hs : W.ShapedOpen Tryz.prog) :
    Calls Tryz.prog 4 args W fun e W' => ∃ v, e = .returned v ∧ Rows.patchPrintsSpec.post enc Tryz.prog Tryz.f4 false true false false W args v W' := by
  have hW' := hW
  obtain ⟨p, q, hA0, hV, rfl, hfz, s9⟩ := hW
  have hA : DataW.TrodAll enc Tryz.prog W 0 (fun _ => true) true Tryz.f4.params.toList args.toList ds p := hA0
  rw [params] at hA dw
  obtain ⟨v0, vs0, d0, ds0, p0, q0, fx, rfl, rfl, h0, r0⟩ := trodAll_cons hA
  obtain ⟨rfl, rfl, rfl⟩ := trodAll_nil r0
  obtain rfl : args = #[v0] := by cases args; simp_all
  obtain ⟨rfl, rfl⟩ := trodVars_none hV
  obtain ⟨_, ⟨xs0, rfl, m0⟩, e0⟩ := zgv ust0 zft zh4 (dw 0 _ _ rfl rfl) h0
  clear hA0
  refine (qqu (vals := #[v0]) (W := W) (qv9 xs0 m0 []) (ze4 (by first | rfl | exact ⟨rfl, rfl⟩) hL hs (by simp [Rows.patchPrintsRow]) (by simp [Rows.patchPrintsRow]) (by simp [Rows.patchPrintsRow])) (q86 e0 zcf)).mono fun e W' ⟨he, hb⟩ => ?_
  subst he
  exact ⟨_, rfl, qwb (pv := []) hW' (fun _ _ _ => trodAll_cons_mk (shut_bool ub _) trodAll_mk0)
    (fun sp fm => trodAll_cons_mk (zaf lo rr0 row0 h0 hb (fun p hp => hW'.lt p (by simp [hp])) (fun p hp => fm p (by simp [hp]))) trodAll_mk0) (fun _ _ => rfl) rfl
    hb (ok_one (by as_aux_lemma => kernel_rfl) rfl (okWide_bool_mk ub _))⟩

/- A start for the witness: the listed variables laid. -/
noncomputable def start (os : Os) : World := (zio os).layVars Tryz.prog (Rows.patchPrintsRow.laid.filter fun x => x.2.handleName?.isNone)
theorem start_os (os : Os) : (start os).os = os := World.layVars_os _ _ _
def arg0 : Array Value := #[.agg #[.int .u32 0, .int .u32 0, .slice none 0 0]]
theorem laid_met (os : Os) : laidMetH Tryz.prog Rows.patchPrintsRow.laid ((start os).forCall (fun _ _ => 0) ⟨#[], arg0, []⟩).memory := laidMetH_of_parts (qyr _ (by as_aux_lemma => kernel_rfl) (by as_aux_lemma => kernel_rfl)) (by as_aux_lemma => kernel_rfl)
theorem reads (os : Os) {H : Type} (enc : TypeId × Value → H) : ∃ places, DataW.whole enc Tryz.prog ((start os).forCall (fun _ _ => 0) ⟨#[], arg0, []⟩).memory Tryz.f4.params.toList Rows.patchPrintsSpec.vars false arg0.toList 8 = some ([.agg [.lit (.int .u32 0), .lit (.int .u32 0), .nil]], [], places) :=
  ⟨[], by kernel_rfl⟩
theorem lifted (os : Os) (started : os.Started) (H : Type) (enc : TypeId × Value → H) (F : Stop.Interp) :
    ReturnsInHanded {} Tryz.checked os 4 .any ((OpenSpec.ofChange Rows.patchPrintsSpec).preRow enc Tryz.prog Tryz.f4 Rows.patchPrintsRow.domain false Rows.patchPrintsRow.laid) (((OpenSpec.ofChange Rows.patchPrintsSpec).at F).post enc Tryz.prog Tryz.f4 false true false false) := by
  obtain ⟨places, hx⟩ := reads os enc
  refine returnsInHanded_of_row (C := Tryz.checked) (s := OpenSpec.ofChange Rows.patchPrintsSpec) own started (by as_aux_lemma => kernel_rfl) Tryz.func4
    (witness_row_atRef (enc := enc) (C := Tryz.checked) false (start os) arg0 (start_os _) (by as_aux_lemma => kernel_rfl) (by as_aux_lemma => kernel_rfl) (by as_aux_lemma => kernel_rfl)
      (OpenSpec.preRow_of_cond 8 hx (by as_aux_lemma => kernel_rfl) (fun k hk => by cases hk) (by as_aux_lemma => kernel_rfl) (laid_met os))) ?_
  intro W base args ds gs before dw hW _ _ _ hL hs _
  exact contract H enc W base args ds gs before dw hW hL hs
end Go.Proofs.YtapblfabkbdgcaaGreatDoor.patchPrints
