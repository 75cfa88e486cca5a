/- Rules: the law's parts. -/
import Derived.Test.YtopmpdoigmenmaaDoorSg
set_option maxRecDepth 100000
set_option linter.unusedVariables false
namespace Go.Proofs.YtopmpdoigmenmaaDoor
open Go Go.Av Go.RowKit Go.Proofs Go.Pl

theorem cnt_one {r : RuleV} {xs : List FldV} (h : r.kind ≠ 6) : cntR r xs = (valsOf r.key xs).length := if_neg h
theorem breaks24 {r : RuleV} {xs : List FldV} (h7 : r.kind ≠ 7) : breaksR r xs ↔ goodR r ∧ (xs.any (badR r) = true ∨ (r.kind = 1 ∧ cntR r xs = 0) ∨ (r.kind = 2 ∧ 1 < cntR r xs)) := by
  have h12 : (r.kind = 1 ∨ r.kind = 2) → xs.any (badR r) = false := by
    intro h
    rw [List.any_eq_false]
    intro f _
    have : takesR r f := ⟨fun _ => by omega, fun _ => by omega, fun _ => by omega, fun _ => by omega⟩
    simp [badR, this]
  unfold breaksR
  constructor
  · rintro ⟨hg, h | h | h⟩
    · exact ⟨hg, .inr (.inl ⟨h.1, by rw [cnt_one (by omega)]; exact h.2⟩)⟩
    · exact ⟨hg, .inr (.inr ⟨h.1, by rw [cnt_one (by omega)]; exact h.2⟩)⟩
    · exact ⟨hg, .inl h.2.2⟩
  · rintro ⟨hg, h | h | h⟩
    · by_cases h1 : r.kind = 1 ∨ r.kind = 2
      · rw [h12 h1] at h; cases h
      · exact ⟨hg, .inr (.inr ⟨fun e => h1 (.inl e), fun e => h1 (.inr e), h⟩)⟩
    · exact ⟨hg, .inl ⟨h.1, by rw [← cnt_one (by omega)]; exact h.2⟩⟩
    · exact ⟨hg, .inr (.inl ⟨h.1, by rw [← cnt_one (by omega)]; exact h.2⟩)⟩
theorem breaks7 {r : RuleV} {xs : List FldV} (h7 : r.kind = 7) : ¬ breaksR r xs := by
  rintro ⟨hg, h | h | h⟩
  · omega
  · omega
  · have : xs.any (fun f => !decide (takesR r f)) = false := by
      rw [List.any_eq_false]
      intro f _
      have : takesR r f := ⟨fun _ => by omega, fun _ => by omega, fun _ => by omega, fun _ => by omega⟩
      simp [this]
    rw [this] at h
    exact absurd h.2.2 (by decide)
theorem refBreaks24_c (r : RuleV) (xs : List FldV) (st : List AObj) (hr : RuleB r) (hx : FldsB xs) : ACall E 10 [ruleA r, fldsA xs] st fun x st' => x = Bv (decide (breaksR r xs)) ∧ st' = st := by
  refine acall_pure (pure_v _) (acall_of_awp Tryd.func10 rfl (Nat.le_of_ble_eq_true rfl) ?_)
  repeat' (first
    | apply awp_seq
    | apply awp_block
    | apply awp_region
    | apply aops_nil
    | apply aops_move
    | apply aops_assign
    | (apply aops_extract; exact rfl; exact rfl)
    | (apply aops_cmpI; exact rfl; exact rfl; exact rfl)
    | (apply aops_cmpS; exact rfl; exact rfl; exact rfl)
    | (apply aops_not_d; exact rfl)
    | (apply aops_not; exact rfl)
    | (apply aops_guard_any; exact rfl; exact rfl; exact rfl; exact rfl)
    | (apply gd_run_d; (first | assumption | omega))
    | (apply gd_run_n; (first | assumption | omega))
    | (apply gd_skip_d; (first | assumption | omega))
    | (apply gd_skip_n; (first | assumption | omega))
    | (apply aops_guard_undef; exact rfl; exact rfl; exact rfl; exact rfl)
    | (apply gd_run_nt; (first | exact rfl | assumption))
    | (apply gd_run_nf; (first | exact rfl | assumption))
    | (apply gd_skip_nt; (first | exact rfl | assumption))
    | (apply gd_skip_nf; (first | exact rfl | assumption))
    | (apply gd_split_n <;> intro h)
    | (apply gd_run_t; (first | exact rfl | assumption))
    | (apply gd_run_f; (first | exact rfl | assumption))
    | (apply gd_skip_t; (first | exact rfl | assumption))
    | (apply gd_skip_f; (first | exact rfl | assumption))
    | (apply gd_split_d <;> intro h)
    | (apply gd_split <;> intro h)
    | (apply aops_pick_any; exact rfl; first | (apply pk_dt; (first | assumption | omega)) | (apply pk_df; (first | assumption | omega)) | (apply pk_nt; (first | exact rfl | assumption)) | (apply pk_nf; (first | exact rfl | assumption)) | (apply pk_t; (first | exact rfl | assumption)) | (apply pk_f; (first | exact rfl | assumption)))
    | (apply awp_cond_any; exact rfl; first | (apply cd_dt; (first | assumption | omega)) | (apply cd_df; (first | assumption | omega)) | (apply cd_nt; (first | exact rfl | assumption)) | (apply cd_nf; (first | exact rfl | assumption)) | (apply cd_n <;> intro h) | (apply cd_t; (first | exact rfl | assumption)) | (apply cd_f; (first | exact rfl | assumption)) | (apply cd_d <;> intro h) | (apply cd_s <;> intro h))
    | (apply aops_lenS; exact rfl; exact rfl; exact rfl)
    | (apply aops_lenL; exact rfl; exact rfl; exact rfl; exact rfl)
    | (apply aops_concat; exact rfl; exact rfl; (first | omega | (simp only [List.length_append, List.length_cons, List.length_nil]; omega) | (simp; omega)))
    | (apply aops_add; exact rfl; exact rfl; exact wrap_i64 (by omega) (by omega))
    | (apply aops_sub; exact rfl; exact rfl; exact wrap_i64 (by omega) (by omega))
    | (apply aops_errNeNil; exact rfl; exact rfl)
    | (apply aops_nilNeNil; exact rfl; exact rfl)
    | (apply aops_errEqNil; exact rfl; exact rfl)
    | (apply aops_nilEqNil; exact rfl; exact rfl)
    | (apply aops_makeInterface; exact rfl; exact rfl)
    | apply aops_makeFunc
    | (apply aops_alloc; exact rfl; exact rfl)
    | (apply aops_box; exact rfl; exact rfl; exact rfl; exact rfl)
    | (apply aops_field; exact rfl; exact rfl; exact rfl)
    | (apply aops_fieldAddr_bx; exact rfl; exact rfl; exact rfl)
    | (apply aops_fieldAddr_pp; exact rfl; exact rfl; exact rfl; exact rfl)
    | (apply aops_load_pp; exact rfl; exact rfl; exact rfl)
    | (apply aops_load_loc; exact rfl; exact rfl; exact rfl; exact rfl; exact rfl)
    | (apply aops_store_loc; exact rfl; exact rfl; exact rfl; exact rfl; exact rfl; exact rfl; exact rfl; exact rfl; exact rfl; exact rfl; exact rfl)
    | (apply aops_idx; exact rfl; exact rfl; exact rfl; first | assumption | omega | (simp; omega))
    | (apply aops_upto; exact rfl; exact rfl; exact rfl; first | assumption | omega | (simp; omega))
    | (apply aops_from; exact rfl; exact rfl; exact rfl; first | assumption | omega | (simp; omega))
    | (apply aops_span; exact rfl; exact rfl; exact rfl; exact rfl; (first | assumption | omega | (simp; omega)); first | assumption | omega | (simp; omega))
    | (apply aops_build; exact rfl; exact rfl; exact rfl)
    | (apply aops_buildSlice; exact rfl; exact rfl; exact rfl; exact rfl; exact rfl; exact rfl; exact rfl; exact rfl; exact rfl)
    | (apply aops_nilCheck; exact rfl; exact rfl)
    | (apply aops_ptrEqNil; exact rfl; exact rfl; exact rfl)
    | (apply aops_ptrNeNil; exact rfl; exact rfl; exact rfl)
    | (apply aops_xor32; exact rfl; exact rfl; (first | exact ofInt_toNat _ | exact rfl); first | exact ofInt_toNat _ | exact rfl)
    | (apply aops_and32; exact rfl; exact rfl; (first | exact ofInt_toNat _ | exact rfl); first | exact ofInt_toNat _ | exact rfl)
    | (apply aops_or32; exact rfl; exact rfl; (first | exact ofInt_toNat _ | exact rfl); first | exact ofInt_toNat _ | exact rfl)
    | (apply aops_compl32; exact rfl)
    | (apply aops_shl32; exact rfl; exact rfl; exact rfl)
    | (apply aops_shr32; exact rfl; exact rfl; exact rfl)
    | (apply aops_indexA; exact rfl; exact rfl; exact rfl; exact rfl; (first | assumption | omega | decide); exact rfl)
    | (apply aops_indexAddrA; exact rfl; exact rfl; exact rfl; exact rfl; first | assumption | omega | decide)
    | (apply awp_draw; exact rfl; kernel_rfl)
    | apply aq_nil
    | (apply aq_idx; exact rfl; exact rfl; exact rfl; first | assumption | omega | (simp; omega))
    | (apply aq_shr4; exact rfl; exact rfl)
    | (apply aq_and15; exact rfl; exact rfl)
    | (apply aq_convW; exact rfl; exact rfl; exact rfl; omega)
    | (apply aq_buildA; exact rfl; exact rfl; exact rfl)
    | apply aq_move
    | apply aq_assign
    | (apply aq_add; exact rfl; exact rfl; exact wrap_i64 (by omega) (by omega))
    | (apply aq_lenS; exact rfl; exact rfl; exact rfl)
    | (apply aq_upto; exact rfl; exact rfl; exact rfl; first | assumption | omega | (simp; omega))
    | (apply aq_from; exact rfl; exact rfl; exact rfl; first | assumption | omega | (simp; omega))
    | (apply aq_extract; exact rfl; exact rfl)
    | apply awp_skip
    | apply awp_exit
    | apply awp_ret
    | (apply aops_call1; exact Tryd.call8; exact refGood24_c r _ hr.key)
    | (apply aops_call1; exact Tryd.call17; exact ref24breaks_c r xs 0 _ hr hx))
  all_goals refine aret_plain rfl (ares_one rfl) ⟨congrArg Bv (?_ : (_ : Bool) = decide (breaksR r xs)), _, rfl⟩
  · have h7 : r.kind ≠ 7 := by assumption
    have hg : goodR r := by assumption
    have e : breaksR r xs ↔ (xs.any (badR r) = true ∨ (r.kind = 1 ∧ cntR r xs = 0) ∨ (r.kind = 2 ∧ 1 < cntR r xs)) := by rw [breaks24 h7]; exact ⟨fun h => h.2, fun h => ⟨hg, h⟩⟩
    exact decide_eq_decide.2 e.symm
  · exact (decide_eq_false (breaks7 (Classical.not_not.1 (by assumption)))).symm
  · exact (decide_eq_false (fun h => absurd h.1 (by assumption))).symm
end Go.Proofs.YtopmpdoigmenmaaDoor
