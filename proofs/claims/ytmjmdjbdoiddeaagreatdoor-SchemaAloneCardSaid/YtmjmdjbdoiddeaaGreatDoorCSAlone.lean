/- SchemaAlone: for every input the law returns true. Conditions: the package-level variables of Go's library that the row lists hold at the start what the program's text lays (the card ties them). -/
import Derived.Test.YtmjmdjbdoiddeaaGreatDoorCards
import Derived.Test.YtmjmdjbdoiddeaaGreatDoorTie
import Derived.Test.YtmjmdjbdoiddeaaGreatDoorK8
set_option maxRecDepth 100000
set_option linter.unusedVariables false
namespace Go.Proofs.YtmjmdjbdoiddeaaGreatDoor.schemaAlone
open Go Go.Av Go.RowKit Go.ChangeShapes Go.WideShapes Go.ChangeAt Go.ChangeMaps Go.Proofs Go.Pl

theorem own : ownKnob Tryz.prog.godebug = none := by kernel_rfl
theorem params : Tryz.f4.params = #[9, 22] := by kernel_rfl
theorem ub : Tryz.prog.underlying 4 = some .bool := by kernel_rfl
theorem usl1 : Tryz.prog.underlying 22 = some (.slice 55) := by kernel_rfl
theorem us : Tryz.prog.underlying 9 = some .string := by kernel_rfl
theorem lo : laidOutB Tryz.prog = true := by kernel_rfl
theorem rr1 : Tryz.prog.readableRec 22 = true := by kernel_rfl
theorem row1 : 22 < Tryz.prog.types.size := Nat.le_of_ble_eq_true (by kernel_rfl)
theorem contract (H : Type) (enc : TypeId × Value → H) (W : World) (base : Nat) (args : Array Value) (ds gs : List (DataW H)) (before : List MemPlace)
    (hval : ∀ (j : Nat) t v, Tryz.f4.params[j]? = some t → args[j]? = some v → Value.okWide Tryz.prog W .any base t v)
    (hW : DataW.Whole enc Tryz.prog Tryz.f4.params.toList Rows.schemaAloneSpec.vars false W args.toList ds gs before) (hL : laidMetH Tryz.prog Rows.schemaAloneRow.laid W) (hs : W.ShapedOpen Tryz.prog) :
    Calls Tryz.prog 4 args W fun e W' => ∃ v, e = .returned v ∧ Rows.schemaAloneSpec.post enc Tryz.prog Tryz.f4 false true false false W args v W' := by
  have hW' := hW
  obtain ⟨p, q, hA0, hV, rfl, hfz, hnd⟩ := hW
  have hA : DataW.TrodAll enc Tryz.prog W 0 (fun _ => true) true Tryz.f4.params.toList args.toList ds p := hA0
  rw [params] at hA hval
  obtain ⟨v0, vs0, d0, ds0, p0, q0, hargs, rfl, rfl, h0, r0⟩ := trodAll_cons hA
  obtain ⟨v1, vs1, d1, ds1, p1, q1, rfl, rfl, rfl, h1, r1⟩ := trodAll_cons r0
  obtain ⟨rfl, rfl, rfl⟩ := trodAll_nil r1
  obtain rfl : args = #[v0, v1] := by cases args; simp_all
  obtain ⟨rfl, rfl⟩ := trodVars_none hV
  obtain ⟨s0, rfl, rfl, rfl, w0⟩ := open_string us (hval 0 _ _ rfl rfl) h0
  obtain ⟨_, ⟨xs1, rfl, m1⟩, e1⟩ := q19 usl1 (qxh usl1) qxe (hval 1 _ _ rfl rfl) h1
  clear hA0
  refine (qk3 (vals := #[.string s0, v1]) (W := W) (schemaAlone_a s0.data.toList xs1 m1 []) (q07 (by first | rfl | exact ⟨rfl, rfl⟩) hL hs (by simp [Rows.schemaAloneRow]) (by simp [Rows.schemaAloneRow]) (by simp [Rows.schemaAloneRow])) (qnz (q3p s0) (qnz e1 qzr))).mono fun e W' ⟨he, hb⟩ => ?_
  subst he
  exact ⟨_, rfl, qn8 (pv := []) hW' (fun _ _ _ => trodAll_cons_mk (shut_bool ub _) trodAll_mk0)
    (fun sp hsp => trodAll_cons_mk (shut_string us w0) (trodAll_cons_mk (qyl lo rr1 row1 h1 hb (fun p hp => hW'.lt p (by simp [hp])) (fun p hp => hsp p (by simp [hp]))) trodAll_mk0)) (fun _ _ => rfl) rfl
    hb (ok_one (by kernel_rfl) rfl (okWide_bool_mk ub _))⟩

/- A start for the witness: the listed variables laid. -/
noncomputable def start (os : Os) : World := World.laidAll Tryz.prog os Rows.schemaAloneRow.laid
theorem start_os (os : Os) : (start os).os = os := World.laidAll_os _ _ _
def arg0 : Array Value := #[.string ⟨#[]⟩, .slice none 0 0]
theorem laid_met (os : Os) : laidMetH Tryz.prog Rows.schemaAloneRow.laid ((start os).forCall (fun _ _ => 0) ⟨#[], arg0, []⟩).memory := laidMet_laidAll _ (by kernel_rfl) (by kernel_rfl)
theorem reads (os : Os) {H : Type} (enc : TypeId × Value → H) : ∃ places, DataW.whole enc Tryz.prog ((start os).forCall (fun _ _ => 0) ⟨#[], arg0, []⟩).memory Tryz.f4.params.toList Rows.schemaAloneSpec.vars false arg0.toList 8 = some ([.lit (.string []), .nil], [], places) :=
  ⟨[], by kernel_rfl⟩
theorem lifted (os : Os) (started : os.Started) (H : Type) (enc : TypeId × Value → H) (F : Stop.Interp) :
    ReturnsInHanded {} Tryz.checked os 4 .any ((OpenSpec.ofChange Rows.schemaAloneSpec).preRow enc Tryz.prog Tryz.f4 Rows.schemaAloneRow.domain false Rows.schemaAloneRow.laid) (((OpenSpec.ofChange Rows.schemaAloneSpec).at F).post enc Tryz.prog Tryz.f4 false true false false) := by
  obtain ⟨places, hx⟩ := reads os enc
  refine returnsInHanded_of_row (C := Tryz.checked) (s := OpenSpec.ofChange Rows.schemaAloneSpec) own started (by kernel_rfl) Tryz.func4
    (witness_row_atRef (enc := enc) (C := Tryz.checked) false (start os) arg0 (start_os _) (by kernel_rfl) (by kernel_rfl) (by kernel_rfl)
      (OpenSpec.preRow_of_cond 8 hx (by kernel_rfl) (fun k hk => by cases hk) (by kernel_rfl) (laid_met os))) ?_
  intro W base args ds gs before hval hW _ _ _ hL hs _
  exact contract H enc W base args ds gs before hval hW hL hs
set_option maxHeartbeats 4000000 in
theorem closed : joinedFacts Tryz.pinned.checked.prog 4 Tryz.f4 (OpenSpec.ofChange Rows.schemaAloneSpec).bare Rows.schemaAloneRow = true := by
  unfold joinedFacts
  simp only [Bool.and_eq_true]
  repeat' apply And.intro
  all_goals (as_aux_lemma => kernel_rfl)
theorem said : Rows.SchemaAloneSaid :=
  OpenClaim.holds_of_cond 4 Tryz.f4 rfl rfl rfl rfl rfl rfl rfl ⟨rfl, rfl, rfl, rfl, rfl⟩ rfl rfl rfl rfl rfl (by kernel_rfl) Tryz.func4 closed
    (of_decide_eq_true (by kernel_rfl)) (by unfold Func.isWrapper; first | (rw [if_pos (by decide +kernel)]; kernel_rfl) | (rw [if_neg (by decide +kernel)]; exact ⟨rfl, rfl⟩))
    (fun os started H enc _ F => by rw [OpenClaim.pre_eq_preRow]; exact lifted os started H enc F)
theorem plain (f : FuncId) (fn : Func) (hf : Tryz.pinned.checked.prog.funcNamed Rows.schemaAloneRow.func = some f) (hfn : Tryz.pinned.checked.prog.funcs[f]? = some fn) :
    true = Tryz.pinned.checked.prog.looks [] ∧ ∀ (j : Nat) t, fn.params[j]? = some t → Tryz.pinned.checked.prog.wantsStandIn t = false := by
  obtain rfl : f = 4 := Option.some.inj ((show Tryz.prog.funcNamed Rows.schemaAloneRow.func = some 4 by kernel_rfl).symm.trans hf) |>.symm
  obtain rfl : fn = Tryz.f4 := (Option.some.inj (Tryz.func4.symm.trans hfn)).symm
  refine ⟨by kernel_rfl, fun j t ht => ?_⟩
  rw [params] at ht
  have hm : t ∈ [9, 22] := by simpa using Array.mem_of_getElem? ht
  have hall : ([9, 22].all fun u => !Tryz.prog.wantsStandIn u) = true := by kernel_rfl
  exact (show Tryz.prog.wantsStandIn t = false by simpa using List.all_eq_true.1 hall t hm)
/-- The card. -/
theorem card : Rows.SchemaAloneCardSaid :=
  Claim7.holds_tied_plain_at .later [] _ _ _ _ said (fun _ h => by cases h) (by kernel_rfl) (fun _ h => by cases h) schemaAlone_row_tie rfl ⟨rfl, rfl⟩ (by kernel_rfl) rfl plain (by kernel_rfl)
end Go.Proofs.YtmjmdjbdoiddeaaGreatDoor.schemaAlone
