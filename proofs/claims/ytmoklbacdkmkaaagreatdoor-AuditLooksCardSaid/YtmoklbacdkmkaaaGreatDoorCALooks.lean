/- AuditLooks: for every input the law returns true. Conditions: the package-level variables of Go's library that the row lists hold at the start what the program's text lays (the card ties them). -/
import Derived.Test.YtmoklbacdkmkaaaGreatDoorCards
import Derived.Test.YtmoklbacdkmkaaaGreatDoorTie
import Derived.Test.YtmoklbacdkmkaaaGreatDoorK10
set_option maxRecDepth 100000
set_option linter.unusedVariables false
namespace Go.Proofs.YtmoklbacdkmkaaaGreatDoor.auditLooks
open Go Go.Av Go.RowKit Go.ChangeShapes Go.WideShapes Go.ChangeAt Go.ChangeMaps Go.Proofs Go.Pl

theorem own : ownKnob Tryz.prog.godebug = none := by kernel_rfl
theorem params : Tryz.f10.params = #[9] := by kernel_rfl
theorem ub : Tryz.prog.underlying 4 = some .bool := by kernel_rfl
theorem us : Tryz.prog.underlying 9 = some .string := by kernel_rfl
theorem contract (H : Type) (enc : TypeId × Value → H) (W : World) (base : Nat) (args : Array Value) (ds gs : List (DataW H)) (before : List MemPlace)
    (hval : ∀ (j : Nat) t v, Tryz.f10.params[j]? = some t → args[j]? = some v → Value.okWide Tryz.prog W .any base t v)
    (hW : DataW.Whole enc Tryz.prog Tryz.f10.params.toList Rows.auditLooksSpec.vars false W args.toList ds gs before) (hL : laidMetH Tryz.prog Rows.auditLooksRow.laid W) (hs : W.ShapedOpen Tryz.prog) :
    Calls Tryz.prog 10 args W fun e W' => ∃ v, e = .returned v ∧ Rows.auditLooksSpec.post enc Tryz.prog Tryz.f10 false true false false W args v W' := by
  have hW' := hW
  obtain ⟨p, q, hA0, hV, rfl, hfz, hnd⟩ := hW
  have hA : DataW.TrodAll enc Tryz.prog W 0 (fun _ => true) true Tryz.f10.params.toList args.toList ds p := hA0
  rw [params] at hA hval
  obtain ⟨v0, vs0, d0, ds0, p0, q0, hargs, rfl, rfl, h0, r0⟩ := trodAll_cons hA
  obtain ⟨rfl, rfl, rfl⟩ := trodAll_nil r0
  obtain rfl : args = #[v0] := by cases args; simp_all
  obtain ⟨rfl, rfl⟩ := trodVars_none hV
  obtain ⟨s0, rfl, rfl, rfl, w0⟩ := open_string us (hval 0 _ _ rfl rfl) h0
  clear hA0
  simp only [List.append_nil] at hW'
  refine (qu2 (vals := #[.string s0]) (W := W) (qzj s0.data.toList []) (zfz (by first | rfl | exact ⟨rfl, rfl⟩) hL hs (by simp [Rows.auditLooksRow]) (by simp [Rows.auditLooksRow]) (by simp [Rows.auditLooksRow])) rfl).mono fun e W' ⟨he, hb⟩ => ?_
  subst he
  exact ⟨_, rfl, qx7 (pa := []) (pv := []) hW' (fun _ _ _ => trodAll_cons_mk (shut_bool ub _) trodAll_mk0)
    (fun _ _ => trodAll_cons_mk (shut_string us w0) trodAll_mk0) (fun _ _ => rfl) rfl
    hb (ok_one (by kernel_rfl) rfl (okWide_bool_mk ub _))⟩

/- A start for the witness: the listed variables laid. -/
noncomputable def start (os : Os) : World := (zio os).layVars Tryz.prog (Rows.auditLooksRow.laid.filter fun x => x.2.handleName?.isNone)
theorem start_os (os : Os) : (start os).os = os := World.layVars_os _ _ _
def arg0 : Array Value := #[.string ⟨#[]⟩]
theorem laid_met (os : Os) : laidMetH Tryz.prog Rows.auditLooksRow.laid ((start os).forCall (fun _ _ => 0) ⟨#[], arg0, []⟩).memory := laidMetH_of_parts (q0u _ (by kernel_rfl) (by kernel_rfl)) (by kernel_rfl)
theorem reads (os : Os) {H : Type} (enc : TypeId × Value → H) : ∃ places, DataW.whole enc Tryz.prog ((start os).forCall (fun _ _ => 0) ⟨#[], arg0, []⟩).memory Tryz.f10.params.toList Rows.auditLooksSpec.vars false arg0.toList 8 = some ([.lit (.string [])], [], places) :=
  ⟨[], by kernel_rfl⟩
theorem lifted (os : Os) (started : os.Started) (H : Type) (enc : TypeId × Value → H) (F : Stop.Interp) :
    ReturnsInHanded {} Tryz.checked os 10 .any ((OpenSpec.ofChange Rows.auditLooksSpec).preRow enc Tryz.prog Tryz.f10 Rows.auditLooksRow.domain false Rows.auditLooksRow.laid) (((OpenSpec.ofChange Rows.auditLooksSpec).at F).post enc Tryz.prog Tryz.f10 false true false false) := by
  obtain ⟨places, hx⟩ := reads os enc
  refine returnsInHanded_of_row (C := Tryz.checked) (s := OpenSpec.ofChange Rows.auditLooksSpec) own started (by kernel_rfl) Tryz.func10
    (witness_row_atRef (enc := enc) (C := Tryz.checked) false (start os) arg0 (start_os _) (by kernel_rfl) (by kernel_rfl) (by kernel_rfl)
      (OpenSpec.preRow_of_cond 8 hx (by kernel_rfl) (fun k hk => by cases hk) (by kernel_rfl) (laid_met os))) ?_
  intro W base args ds gs before hval hW _ _ _ hL hs _
  exact contract H enc W base args ds gs before hval hW hL hs
set_option maxHeartbeats 4000000 in
theorem closed : joinedFacts Tryz.pinned.checked.prog 10 Tryz.f10 (OpenSpec.ofChange Rows.auditLooksSpec).bare Rows.auditLooksRow = true := by
  unfold joinedFacts
  simp only [Bool.and_eq_true]
  repeat' apply And.intro
  all_goals (as_aux_lemma => kernel_rfl)
theorem said : Rows.AuditLooksSaid :=
  OpenClaim.holds_of_cond 10 Tryz.f10 rfl rfl rfl rfl rfl rfl rfl ⟨rfl, rfl, rfl, rfl, rfl⟩ rfl rfl rfl rfl rfl (by kernel_rfl) Tryz.func10 closed
    (of_decide_eq_true (by kernel_rfl)) (by unfold Func.isWrapper; first | (rw [if_pos (by decide +kernel)]; kernel_rfl) | (rw [if_neg (by decide +kernel)]; exact ⟨rfl, rfl⟩))
    (fun os started H enc _ F => by rw [OpenClaim.pre_eq_preRow]; exact lifted os started H enc F)
theorem plain (f : FuncId) (fn : Func) (hf : Tryz.pinned.checked.prog.funcNamed Rows.auditLooksRow.func = some f) (hfn : Tryz.pinned.checked.prog.funcs[f]? = some fn) :
    true = Tryz.pinned.checked.prog.looks [] ∧ ∀ (j : Nat) t, fn.params[j]? = some t → Tryz.pinned.checked.prog.wantsStandIn t = false := by
  obtain rfl : f = 10 := Option.some.inj ((show Tryz.prog.funcNamed Rows.auditLooksRow.func = some 10 by kernel_rfl).symm.trans hf) |>.symm
  obtain rfl : fn = Tryz.f10 := (Option.some.inj (Tryz.func10.symm.trans hfn)).symm
  refine ⟨by kernel_rfl, fun j t ht => ?_⟩
  rw [params] at ht
  have hm : t ∈ [9] := by simpa using Array.mem_of_getElem? ht
  have hall : ([9].all fun u => !Tryz.prog.wantsStandIn u) = true := by kernel_rfl
  exact (show Tryz.prog.wantsStandIn t = false by simpa using List.all_eq_true.1 hall t hm)
/-- The card. -/
theorem card : Rows.AuditLooksCardSaid :=
  Claim7.holds_tied_plain_at .later [] _ _ _ _ said (fun _ h => by cases h) (by kernel_rfl) (fun _ h => by cases h) auditLooks_row_tie rfl ⟨rfl, rfl⟩ (by kernel_rfl) rfl plain (by kernel_rfl)
end Go.Proofs.YtmoklbacdkmkaaaGreatDoor.auditLooks
