/- FileAgain: for every input the law returns true. Conditions: the package-level variables of Go's library that the row lists hold at the start what the program's text lays (the card ties them). -/
import Derived.Test.YthnbabbhpeebbaaGreatDoorCards
import Derived.Test.YthnbabbhpeebbaaGreatDoorTie
import Derived.Test.YthnbabbhpeebbaaGreatDoorK10
set_option maxRecDepth 100000
set_option linter.unusedVariables false
namespace Go.Proofs.YthnbabbhpeebbaaGreatDoor.fileAgain
open Go Go.Av Go.RowKit Go.ChangeShapes Go.WideShapes Go.ChangeAt Go.ChangeMaps Go.Proofs Go.Pl
theorem own : ownKnob Tryz.prog.godebug = none := by kernel_rfl
theorem params : Tryz.f3.params = #[9, 24] := by kernel_rfl
theorem ub : Tryz.prog.underlying 4 = some .bool := by kernel_rfl
theorem ust1 : Tryz.prog.underlying 24 = some (.struct (qe5 Tryz.prog 24)) := by kernel_rfl
theorem us : Tryz.prog.underlying 9 = some .string := by kernel_rfl
theorem lo : laidOutB Tryz.prog = true := by kernel_rfl
theorem rr1 : Tryz.prog.readableRec 24 = true := by kernel_rfl
theorem row1 : 24 < Tryz.prog.types.size := Nat.le_of_ble_eq_true (by as_aux_lemma => kernel_rfl)
theorem contract (H : Type) (enc : TypeId × Value → H) (W : World) (base : Nat) (args : Array Value) (ds gs : List (DataW H)) (before : List MemPlace)
    (nt : ∀ (j : Nat) t v, Tryz.f3.params[j]? = some t → args[j]? = some v → Value.okWide Tryz.prog W .any base t v)
    (hW : DataW.Whole enc Tryz.prog Tryz.f3.params.toList Rows.fileAgainSpec.vars false W args.toList ds gs before) (hL : laidMetH Tryz.prog Rows.fileAgainRow.laid W) (hs : W.ShapedOpen Tryz.prog) :
    Calls Tryz.prog 3 args W fun e W' => ∃ v, e = .returned v ∧ Rows.fileAgainSpec.post enc Tryz.prog Tryz.f3 false true false false W args v W' := by
  have hW' := hW
  obtain ⟨p, q, hA0, hV, rfl, hfz, bv⟩ := hW
  have hA : DataW.TrodAll enc Tryz.prog W 0 (fun _ => true) true Tryz.f3.params.toList args.toList ds p := hA0
  rw [params] at hA nt
  obtain ⟨v0, vs0, d0, ds0, p0, q0, rz, rfl, rfl, h0, r0⟩ := trodAll_cons hA
  obtain ⟨v1, vs1, d1, ds1, p1, q1, rfl, rfl, rfl, h1, r1⟩ := trodAll_cons r0
  obtain ⟨rfl, rfl, rfl⟩ := trodAll_nil r1
  obtain rfl : args = #[v0, v1] := by cases args; simp_all
  obtain ⟨rfl, rfl⟩ := trodVars_none hV
  obtain ⟨s0, rfl, rfl, rfl, w0⟩ := open_string us (nt 0 _ _ rfl rfl) h0
  obtain ⟨_, ⟨xs1, rfl, m1⟩, e1⟩ := zg4 ust1 zf5 zgz (nt 1 _ _ rfl rfl) h1
  clear hA0
  refine (qst (vals := #[.string s0, v1]) (W := W) (zee s0.data.toList xs1 m1 []) (zfo (by first | rfl | exact ⟨rfl, rfl⟩) hL hs (by simp [Rows.fileAgainRow]) (by simp [Rows.fileAgainRow]) (by simp [Rows.fileAgainRow])) (qw0 (zi5 s0) (qw0 e1 zc7))).mono fun e W' ⟨he, hb⟩ => ?_
  subst he
  exact ⟨_, rfl, qxs (pv := []) hW' (fun _ _ _ => trodAll_cons_mk (shut_bool ub _) trodAll_mk0)
    (fun sp s6 => trodAll_cons_mk (shut_string us w0) (trodAll_cons_mk (za3 lo rr1 row1 h1 hb (fun p hp => hW'.lt p (by simp [hp])) (fun p hp => s6 p (by simp [hp]))) trodAll_mk0)) (fun _ _ => rfl) rfl
    hb (ok_one (by as_aux_lemma => kernel_rfl) rfl (okWide_bool_mk ub _))⟩

/- A start for the witness: the listed variables laid. -/
noncomputable def start (os : Os) : World := (zi0 os).layVars Tryz.prog (Rows.fileAgainRow.laid.filter fun x => x.2.handleName?.isNone)
theorem start_os (os : Os) : (start os).os = os := World.layVars_os _ _ _
def arg0 : Array Value := #[.string ⟨#[]⟩, .agg #[.int .i64 0, .int .i64 0, .slice none 0 0]]
theorem laid_met (os : Os) : laidMetH Tryz.prog Rows.fileAgainRow.laid ((start os).forCall (fun _ _ => 0) ⟨#[], arg0, []⟩).memory := laidMetH_of_parts (qz2 _ (by as_aux_lemma => kernel_rfl) (by as_aux_lemma => kernel_rfl)) (by as_aux_lemma => kernel_rfl)
theorem reads (os : Os) {H : Type} (enc : TypeId × Value → H) : ∃ places, DataW.whole enc Tryz.prog ((start os).forCall (fun _ _ => 0) ⟨#[], arg0, []⟩).memory Tryz.f3.params.toList Rows.fileAgainSpec.vars false arg0.toList 8 = some ([.lit (.string []), .agg [.lit (.int .i64 0), .lit (.int .i64 0), .nil]], [], places) :=
  ⟨[], by kernel_rfl⟩
theorem lifted (os : Os) (started : os.Started) (H : Type) (enc : TypeId × Value → H) (F : Stop.Interp) :
    ReturnsInHanded {} Tryz.checked os 3 .any ((OpenSpec.ofChange Rows.fileAgainSpec).preRow enc Tryz.prog Tryz.f3 Rows.fileAgainRow.domain false Rows.fileAgainRow.laid) (((OpenSpec.ofChange Rows.fileAgainSpec).at F).post enc Tryz.prog Tryz.f3 false true false false) := by
  obtain ⟨places, hx⟩ := reads os enc
  refine returnsInHanded_of_row (C := Tryz.checked) (s := OpenSpec.ofChange Rows.fileAgainSpec) own started (by as_aux_lemma => kernel_rfl) Tryz.func3
    (witness_row_atRef (enc := enc) (C := Tryz.checked) false (start os) arg0 (start_os _) (by as_aux_lemma => kernel_rfl) (by as_aux_lemma => kernel_rfl) (by as_aux_lemma => kernel_rfl)
      (OpenSpec.preRow_of_cond 8 hx (by as_aux_lemma => kernel_rfl) (fun k hk => by cases hk) (by as_aux_lemma => kernel_rfl) (laid_met os))) ?_
  intro W base args ds gs before nt hW _ _ _ hL hs _
  exact contract H enc W base args ds gs before nt hW hL hs
end Go.Proofs.YthnbabbhpeebbaaGreatDoor.fileAgain
