/- The document's answer for records: bodies, lengths, first lines. -/
import Derived.Test.YtopmpdoigmenmaaGreatDoorRe
import Derived.Test.YtopmpdoigmenmaaGreatDoorRg
import Derived.Test.YtopmpdoigmenmaaGreatDoorSr
import Derived.Test.YtopmpdoigmenmaaGreatDoorPp
set_option maxRecDepth 100000
set_option linter.unusedVariables false
namespace Go.Proofs.YtopmpdoigmenmaaGreatDoor
open Go Go.Av Go.RowKit Go.Proofs Go.Pl

theorem u8_val {c : UInt8} {n : Nat} (hn : n < 256) : (c.toNat : Int) = (n : Int) ↔ c = UInt8.ofNat n := by
  constructor
  · intro h
    apply UInt8.toNat_inj.1
    rw [UInt8.toNat_ofNat']
    omega
  · rintro rfl
    rw [UInt8.toNat_ofNat']
    omega
theorem ends_take {l : Bytes} {k : Nat} (hk : k < l.length) : endsF true (l.take k) = decide (k = 0 ∨ l.getD (k - 1) 0 = 10) := by
  cases k with
  | zero => simp [endsF]
  | succ k =>
    rw [take_next (by omega)]
    simp [endsF, List.getLast?_append]
theorem sp_next {l : Bytes} {k : Nat} (hk : k < l.length) : sp true (l.take (k + 1)) = (sp true (l.take k) && (!decide (k = 0 ∨ l.getD (k - 1) 0 = 10) || decide (l.getD k 0 = 32))) := by
  rw [take_next hk, sp_app, ends_take hk]
  simp [sp]
theorem sp_bad {l : Bytes} {k : Nat} (hk : k < l.length) (h1 : k = 0 ∨ l.getD (k - 1) 0 = 10) (h2 : l.getD k 0 ≠ 32) : sp true l = false := by
  cases h : sp true l with
  | false => rfl
  | true =>
    have e := sp_pre true (l.take (k + 1)) (l.drop (k + 1)) (by rw [List.take_append_drop]; exact h)
    rw [sp_next hk, decide_eq_true h1, decide_eq_false h2] at e
    simp at e
theorem sp_ok {l : Bytes} {k : Nat} (hk : k < l.length) (h1 : sp true (l.take k) = true) (h2 : (k = 0 ∨ l.getD (k - 1) 0 = 10) → l.getD k 0 = 32) : sp true (l.take (k + 1)) = true := by
  rw [sp_next hk, h1]
  by_cases h : k = 0 ∨ l.getD (k - 1) 0 = 10
  · rw [decide_eq_true h, decide_eq_true (h2 h)]; rfl
  · rw [decide_eq_false h]; rfl
theorem refLines_c (l : List UInt8) (st : List AObj) (hl : l.length < 4294967281) : ACall E 26 [Sv l] st fun r st' => r = Bv (sp true l) ∧ st' = st := by
  refine acall_pure (pure_v _) (acall_of_awp Tryz.func26 rfl (Nat.le_of_ble_eq_true rfl) ?_)
  repeat' (first
    | apply awp_seq
    | apply awp_block
    | apply awp_region
    | apply aops_nil
    | apply aops_move
    | apply aops_assign
    | (apply aops_extract; exact rfl; exact rfl)
    | (apply aops_cmpI; exact rfl; exact rfl; exact rfl)
    | (apply aops_cmpS; exact rfl; exact rfl; exact rfl)
    | (apply aops_not_d; exact rfl)
    | (apply aops_not; exact rfl)
    | (apply aops_guard_any; exact rfl; exact rfl; exact rfl; exact rfl)
    | (apply gd_run_d; (first | assumption | omega))
    | (apply gd_run_n; (first | assumption | omega))
    | (apply gd_skip_d; (first | assumption | omega))
    | (apply gd_skip_n; (first | assumption | omega))
    | (apply aops_guard_undef; exact rfl; exact rfl; exact rfl; exact rfl)
    | (apply gd_run_nt; (first | exact rfl | assumption))
    | (apply gd_run_nf; (first | exact rfl | assumption))
    | (apply gd_skip_nt; (first | exact rfl | assumption))
    | (apply gd_skip_nf; (first | exact rfl | assumption))
    | (apply gd_split_n <;> intro h)
    | (apply gd_run_t; (first | exact rfl | assumption))
    | (apply gd_run_f; (first | exact rfl | assumption))
    | (apply gd_skip_t; (first | exact rfl | assumption))
    | (apply gd_skip_f; (first | exact rfl | assumption))
    | (apply gd_split_d <;> intro h)
    | (apply gd_split <;> intro h)
    | (apply aops_pick_any; exact rfl; first | (apply pk_dt; (first | assumption | omega)) | (apply pk_df; (first | assumption | omega)) | (apply pk_nt; (first | exact rfl | assumption)) | (apply pk_nf; (first | exact rfl | assumption)) | (apply pk_t; (first | exact rfl | assumption)) | (apply pk_f; (first | exact rfl | assumption)))
    | (apply awp_cond_any; exact rfl; first | (apply cd_dt; (first | assumption | omega)) | (apply cd_df; (first | assumption | omega)) | (apply cd_nt; (first | exact rfl | assumption)) | (apply cd_nf; (first | exact rfl | assumption)) | (apply cd_n <;> intro h) | (apply cd_t; (first | exact rfl | assumption)) | (apply cd_f; (first | exact rfl | assumption)) | (apply cd_d <;> intro h) | (apply cd_s <;> intro h))
    | (apply aops_lenS; exact rfl; exact rfl; exact rfl)
    | (apply aops_lenL; exact rfl; exact rfl; exact rfl; exact rfl)
    | (apply aops_concat; exact rfl; exact rfl; (first | omega | (simp only [List.length_append, List.length_cons, List.length_nil]; omega) | (simp; omega)))
    | (apply aops_add; exact rfl; exact rfl; exact wrap_i64 (by omega) (by omega))
    | (apply aops_sub; exact rfl; exact rfl; exact wrap_i64 (by omega) (by omega))
    | (apply aops_errNeNil; exact rfl; exact rfl)
    | (apply aops_nilNeNil; exact rfl; exact rfl)
    | (apply aops_errEqNil; exact rfl; exact rfl)
    | (apply aops_nilEqNil; exact rfl; exact rfl)
    | (apply aops_makeInterface; exact rfl; exact rfl)
    | apply aops_makeFunc
    | (apply aops_alloc; exact rfl; exact rfl)
    | (apply aops_box; exact rfl; exact rfl; exact rfl; exact rfl)
    | (apply aops_field; exact rfl; exact rfl; exact rfl)
    | (apply aops_fieldAddr_bx; exact rfl; exact rfl; exact rfl)
    | (apply aops_fieldAddr_pp; exact rfl; exact rfl; exact rfl; exact rfl)
    | (apply aops_load_pp; exact rfl; exact rfl; exact rfl)
    | (apply aops_load_loc; exact rfl; exact rfl; exact rfl; exact rfl; exact rfl)
    | (apply aops_store_loc; exact rfl; exact rfl; exact rfl; exact rfl; exact rfl; exact rfl; exact rfl; exact rfl; exact rfl; exact rfl; exact rfl)
    | (apply aops_idx; exact rfl; exact rfl; exact rfl; first | assumption | omega | (simp; omega))
    | (apply aops_upto; exact rfl; exact rfl; exact rfl; first | assumption | omega | (simp; omega))
    | (apply aops_from; exact rfl; exact rfl; exact rfl; first | assumption | omega | (simp; omega))
    | (apply aops_span; exact rfl; exact rfl; exact rfl; exact rfl; (first | assumption | omega | (simp; omega)); first | assumption | omega | (simp; omega))
    | (apply aops_build; exact rfl; exact rfl; exact rfl)
    | (apply aops_buildSlice; exact rfl; exact rfl; exact rfl; exact rfl; exact rfl; exact rfl; exact rfl; exact rfl; exact rfl)
    | (apply aops_nilCheck; exact rfl; exact rfl)
    | (apply aops_ptrEqNil; exact rfl; exact rfl; exact rfl)
    | (apply aops_ptrNeNil; exact rfl; exact rfl; exact rfl)
    | (apply aops_xor32; exact rfl; exact rfl; (first | exact ofInt_toNat _ | exact rfl); first | exact ofInt_toNat _ | exact rfl)
    | (apply aops_and32; exact rfl; exact rfl; (first | exact ofInt_toNat _ | exact rfl); first | exact ofInt_toNat _ | exact rfl)
    | (apply aops_or32; exact rfl; exact rfl; (first | exact ofInt_toNat _ | exact rfl); first | exact ofInt_toNat _ | exact rfl)
    | (apply aops_compl32; exact rfl)
    | (apply aops_shl32; exact rfl; exact rfl; exact rfl)
    | (apply aops_shr32; exact rfl; exact rfl; exact rfl)
    | (apply aops_indexA; exact rfl; exact rfl; exact rfl; exact rfl; (first | assumption | omega | decide); exact rfl)
    | (apply aops_indexAddrA; exact rfl; exact rfl; exact rfl; exact rfl; first | assumption | omega | decide)
    | (apply awp_draw; exact rfl; kernel_rfl)
    | apply aq_nil
    | (apply aq_idx; exact rfl; exact rfl; exact rfl; first | assumption | omega | (simp; omega))
    | (apply aq_shr4; exact rfl; exact rfl)
    | (apply aq_and15; exact rfl; exact rfl)
    | (apply aq_convW; exact rfl; exact rfl; exact rfl; omega)
    | (apply aq_buildA; exact rfl; exact rfl; exact rfl)
    | apply aq_move
    | apply aq_assign
    | (apply aq_add; exact rfl; exact rfl; exact wrap_i64 (by omega) (by omega))
    | (apply aq_lenS; exact rfl; exact rfl; exact rfl)
    | (apply aq_upto; exact rfl; exact rfl; exact rfl; first | assumption | omega | (simp; omega))
    | (apply aq_from; exact rfl; exact rfl; exact rfl; first | assumption | omega | (simp; omega))
    | (apply aq_extract; exact rfl; exact rfl)
    | apply awp_skip
    | apply awp_exit
    | apply awp_ret)
  refine awp_loopG (fun (k : Nat) s => k ≤ l.length ∧ sp true (l.take k) = true ∧ StA [(0, Sv l), (3, Iv k)] (st ++ []) [] s) (fun k => l.length - k) 0 ⟨by omega, by simp [sp], stA_mk ⟨rfl, rfl, trivial⟩⟩ ?_
  rintro k _ ⟨hk, h1, t, rfl⟩
  repeat' (first
    | apply awp_seq
    | apply awp_block
    | apply awp_region
    | apply aops_nil
    | apply aops_move
    | apply aops_assign
    | (apply aops_extract; exact rfl; exact rfl)
    | (apply aops_cmpI; exact rfl; exact rfl; exact rfl)
    | (apply aops_cmpS; exact rfl; exact rfl; exact rfl)
    | (apply aops_not_d; exact rfl)
    | (apply aops_not; exact rfl)
    | (apply aops_guard_any; exact rfl; exact rfl; exact rfl; exact rfl)
    | (apply gd_run_d; (first | assumption | omega))
    | (apply gd_run_n; (first | assumption | omega))
    | (apply gd_skip_d; (first | assumption | omega))
    | (apply gd_skip_n; (first | assumption | omega))
    | (apply aops_guard_undef; exact rfl; exact rfl; exact rfl; exact rfl)
    | (apply gd_run_nt; (first | exact rfl | assumption))
    | (apply gd_run_nf; (first | exact rfl | assumption))
    | (apply gd_skip_nt; (first | exact rfl | assumption))
    | (apply gd_skip_nf; (first | exact rfl | assumption))
    | (apply gd_split_n <;> intro h)
    | (apply gd_run_t; (first | exact rfl | assumption))
    | (apply gd_run_f; (first | exact rfl | assumption))
    | (apply gd_skip_t; (first | exact rfl | assumption))
    | (apply gd_skip_f; (first | exact rfl | assumption))
    | (apply gd_split_d <;> intro h)
    | (apply gd_split <;> intro h)
    | (apply aops_pick_any; exact rfl; first | (apply pk_dt; (first | assumption | omega)) | (apply pk_df; (first | assumption | omega)) | (apply pk_nt; (first | exact rfl | assumption)) | (apply pk_nf; (first | exact rfl | assumption)) | (apply pk_t; (first | exact rfl | assumption)) | (apply pk_f; (first | exact rfl | assumption)))
    | (apply awp_cond_any; exact rfl; first | (apply cd_dt; (first | assumption | omega)) | (apply cd_df; (first | assumption | omega)) | (apply cd_nt; (first | exact rfl | assumption)) | (apply cd_nf; (first | exact rfl | assumption)) | (apply cd_n <;> intro h) | (apply cd_t; (first | exact rfl | assumption)) | (apply cd_f; (first | exact rfl | assumption)) | (apply cd_d <;> intro h) | (apply cd_s <;> intro h))
    | (apply aops_lenS; exact rfl; exact rfl; exact rfl)
    | (apply aops_lenL; exact rfl; exact rfl; exact rfl; exact rfl)
    | (apply aops_concat; exact rfl; exact rfl; (first | omega | (simp only [List.length_append, List.length_cons, List.length_nil]; omega) | (simp; omega)))
    | (apply aops_add; exact rfl; exact rfl; exact wrap_i64 (by omega) (by omega))
    | (apply aops_sub; exact rfl; exact rfl; exact wrap_i64 (by omega) (by omega))
    | (apply aops_errNeNil; exact rfl; exact rfl)
    | (apply aops_nilNeNil; exact rfl; exact rfl)
    | (apply aops_errEqNil; exact rfl; exact rfl)
    | (apply aops_nilEqNil; exact rfl; exact rfl)
    | (apply aops_makeInterface; exact rfl; exact rfl)
    | apply aops_makeFunc
    | (apply aops_alloc; exact rfl; exact rfl)
    | (apply aops_box; exact rfl; exact rfl; exact rfl; exact rfl)
    | (apply aops_field; exact rfl; exact rfl; exact rfl)
    | (apply aops_fieldAddr_bx; exact rfl; exact rfl; exact rfl)
    | (apply aops_fieldAddr_pp; exact rfl; exact rfl; exact rfl; exact rfl)
    | (apply aops_load_pp; exact rfl; exact rfl; exact rfl)
    | (apply aops_load_loc; exact rfl; exact rfl; exact rfl; exact rfl; exact rfl)
    | (apply aops_store_loc; exact rfl; exact rfl; exact rfl; exact rfl; exact rfl; exact rfl; exact rfl; exact rfl; exact rfl; exact rfl; exact rfl)
    | (apply aops_idx; exact rfl; exact rfl; exact rfl; first | assumption | omega | (simp; omega))
    | (apply aops_upto; exact rfl; exact rfl; exact rfl; first | assumption | omega | (simp; omega))
    | (apply aops_from; exact rfl; exact rfl; exact rfl; first | assumption | omega | (simp; omega))
    | (apply aops_span; exact rfl; exact rfl; exact rfl; exact rfl; (first | assumption | omega | (simp; omega)); first | assumption | omega | (simp; omega))
    | (apply aops_build; exact rfl; exact rfl; exact rfl)
    | (apply aops_buildSlice; exact rfl; exact rfl; exact rfl; exact rfl; exact rfl; exact rfl; exact rfl; exact rfl; exact rfl)
    | (apply aops_nilCheck; exact rfl; exact rfl)
    | (apply aops_ptrEqNil; exact rfl; exact rfl; exact rfl)
    | (apply aops_ptrNeNil; exact rfl; exact rfl; exact rfl)
    | (apply aops_xor32; exact rfl; exact rfl; (first | exact ofInt_toNat _ | exact rfl); first | exact ofInt_toNat _ | exact rfl)
    | (apply aops_and32; exact rfl; exact rfl; (first | exact ofInt_toNat _ | exact rfl); first | exact ofInt_toNat _ | exact rfl)
    | (apply aops_or32; exact rfl; exact rfl; (first | exact ofInt_toNat _ | exact rfl); first | exact ofInt_toNat _ | exact rfl)
    | (apply aops_compl32; exact rfl)
    | (apply aops_shl32; exact rfl; exact rfl; exact rfl)
    | (apply aops_shr32; exact rfl; exact rfl; exact rfl)
    | (apply aops_indexA; exact rfl; exact rfl; exact rfl; exact rfl; (first | assumption | omega | decide); exact rfl)
    | (apply aops_indexAddrA; exact rfl; exact rfl; exact rfl; exact rfl; first | assumption | omega | decide)
    | (apply awp_draw; exact rfl; kernel_rfl)
    | apply aq_nil
    | (apply aq_idx; exact rfl; exact rfl; exact rfl; first | assumption | omega | (simp; omega))
    | (apply aq_shr4; exact rfl; exact rfl)
    | (apply aq_and15; exact rfl; exact rfl)
    | (apply aq_convW; exact rfl; exact rfl; exact rfl; omega)
    | (apply aq_buildA; exact rfl; exact rfl; exact rfl)
    | apply aq_move
    | apply aq_assign
    | (apply aq_add; exact rfl; exact rfl; exact wrap_i64 (by omega) (by omega))
    | (apply aq_lenS; exact rfl; exact rfl; exact rfl)
    | (apply aq_upto; exact rfl; exact rfl; exact rfl; first | assumption | omega | (simp; omega))
    | (apply aq_from; exact rfl; exact rfl; exact rfl; first | assumption | omega | (simp; omega))
    | (apply aq_extract; exact rfl; exact rfl)
    | apply awp_skip
    | apply awp_exit
    | apply awp_ret
    | (apply aops_indexS; exact rfl; exact rfl; exact rfl; omega; omega))
  all_goals
    have e1 : ((k : Int) - 1).toNat = k - 1 := by omega
    simp only [e1, u8_32, u8_10, Classical.not_not] at *
  all_goals first
    | exact aret_plain rfl (ares_one rfl) ⟨congrArg Bv (sp_bad (k := k) (by omega) (by first | (left; omega) | (right; assumption)) (by assumption)).symm, _, rfl⟩
    | exact ⟨k + 1, ⟨by omega, sp_ok (by omega) h1 (by first | (intro _; assumption) | (rintro (h | h); omega; contradiction)), stA_mk ⟨rfl, rfl, trivial⟩⟩, by omega⟩
    | skip
  have e : k = l.length := by omega
  subst e
  rw [List.take_length] at h1
  exact aret_plain rfl (ares_one rfl) ⟨congrArg Bv h1.symm, _, rfl⟩

theorem refGood_c (l : List UInt8) (st : List AObj) (hl : l.length < 4294967281) : ACall E 10 [Sv l] st fun r st' => r = Bv (decide (goodF l)) ∧ st' = st := by
  refine acall_pure (pure_v _) (acall_of_awp Tryz.func10 rfl (Nat.le_of_ble_eq_true rfl) ?_)
  repeat' (first
    | apply awp_seq
    | apply awp_block
    | apply awp_region
    | apply aops_nil
    | apply aops_move
    | apply aops_assign
    | (apply aops_extract; exact rfl; exact rfl)
    | (apply aops_cmpI; exact rfl; exact rfl; exact rfl)
    | (apply aops_cmpS; exact rfl; exact rfl; exact rfl)
    | (apply aops_not_d; exact rfl)
    | (apply aops_not; exact rfl)
    | (apply aops_guard_any; exact rfl; exact rfl; exact rfl; exact rfl)
    | (apply gd_run_d; (first | assumption | omega))
    | (apply gd_run_n; (first | assumption | omega))
    | (apply gd_skip_d; (first | assumption | omega))
    | (apply gd_skip_n; (first | assumption | omega))
    | (apply aops_guard_undef; exact rfl; exact rfl; exact rfl; exact rfl)
    | (apply gd_run_nt; (first | exact rfl | assumption))
    | (apply gd_run_nf; (first | exact rfl | assumption))
    | (apply gd_skip_nt; (first | exact rfl | assumption))
    | (apply gd_skip_nf; (first | exact rfl | assumption))
    | (apply gd_split_n <;> intro h)
    | (apply gd_run_t; (first | exact rfl | assumption))
    | (apply gd_run_f; (first | exact rfl | assumption))
    | (apply gd_skip_t; (first | exact rfl | assumption))
    | (apply gd_skip_f; (first | exact rfl | assumption))
    | (apply gd_split_d <;> intro h)
    | (apply gd_split <;> intro h)
    | (apply aops_pick_any; exact rfl; first | (apply pk_dt; (first | assumption | omega)) | (apply pk_df; (first | assumption | omega)) | (apply pk_nt; (first | exact rfl | assumption)) | (apply pk_nf; (first | exact rfl | assumption)) | (apply pk_t; (first | exact rfl | assumption)) | (apply pk_f; (first | exact rfl | assumption)))
    | (apply awp_cond_any; exact rfl; first | (apply cd_dt; (first | assumption | omega)) | (apply cd_df; (first | assumption | omega)) | (apply cd_nt; (first | exact rfl | assumption)) | (apply cd_nf; (first | exact rfl | assumption)) | (apply cd_n <;> intro h) | (apply cd_t; (first | exact rfl | assumption)) | (apply cd_f; (first | exact rfl | assumption)) | (apply cd_d <;> intro h) | (apply cd_s <;> intro h))
    | (apply aops_lenS; exact rfl; exact rfl; exact rfl)
    | (apply aops_lenL; exact rfl; exact rfl; exact rfl; exact rfl)
    | (apply aops_concat; exact rfl; exact rfl; (first | omega | (simp only [List.length_append, List.length_cons, List.length_nil]; omega) | (simp; omega)))
    | (apply aops_add; exact rfl; exact rfl; exact wrap_i64 (by omega) (by omega))
    | (apply aops_sub; exact rfl; exact rfl; exact wrap_i64 (by omega) (by omega))
    | (apply aops_errNeNil; exact rfl; exact rfl)
    | (apply aops_nilNeNil; exact rfl; exact rfl)
    | (apply aops_errEqNil; exact rfl; exact rfl)
    | (apply aops_nilEqNil; exact rfl; exact rfl)
    | (apply aops_makeInterface; exact rfl; exact rfl)
    | apply aops_makeFunc
    | (apply aops_alloc; exact rfl; exact rfl)
    | (apply aops_box; exact rfl; exact rfl; exact rfl; exact rfl)
    | (apply aops_field; exact rfl; exact rfl; exact rfl)
    | (apply aops_fieldAddr_bx; exact rfl; exact rfl; exact rfl)
    | (apply aops_fieldAddr_pp; exact rfl; exact rfl; exact rfl; exact rfl)
    | (apply aops_load_pp; exact rfl; exact rfl; exact rfl)
    | (apply aops_load_loc; exact rfl; exact rfl; exact rfl; exact rfl; exact rfl)
    | (apply aops_store_loc; exact rfl; exact rfl; exact rfl; exact rfl; exact rfl; exact rfl; exact rfl; exact rfl; exact rfl; exact rfl; exact rfl)
    | (apply aops_idx; exact rfl; exact rfl; exact rfl; first | assumption | omega | (simp; omega))
    | (apply aops_upto; exact rfl; exact rfl; exact rfl; first | assumption | omega | (simp; omega))
    | (apply aops_from; exact rfl; exact rfl; exact rfl; first | assumption | omega | (simp; omega))
    | (apply aops_span; exact rfl; exact rfl; exact rfl; exact rfl; (first | assumption | omega | (simp; omega)); first | assumption | omega | (simp; omega))
    | (apply aops_build; exact rfl; exact rfl; exact rfl)
    | (apply aops_buildSlice; exact rfl; exact rfl; exact rfl; exact rfl; exact rfl; exact rfl; exact rfl; exact rfl; exact rfl)
    | (apply aops_nilCheck; exact rfl; exact rfl)
    | (apply aops_ptrEqNil; exact rfl; exact rfl; exact rfl)
    | (apply aops_ptrNeNil; exact rfl; exact rfl; exact rfl)
    | (apply aops_xor32; exact rfl; exact rfl; (first | exact ofInt_toNat _ | exact rfl); first | exact ofInt_toNat _ | exact rfl)
    | (apply aops_and32; exact rfl; exact rfl; (first | exact ofInt_toNat _ | exact rfl); first | exact ofInt_toNat _ | exact rfl)
    | (apply aops_or32; exact rfl; exact rfl; (first | exact ofInt_toNat _ | exact rfl); first | exact ofInt_toNat _ | exact rfl)
    | (apply aops_compl32; exact rfl)
    | (apply aops_shl32; exact rfl; exact rfl; exact rfl)
    | (apply aops_shr32; exact rfl; exact rfl; exact rfl)
    | (apply aops_indexA; exact rfl; exact rfl; exact rfl; exact rfl; (first | assumption | omega | decide); exact rfl)
    | (apply aops_indexAddrA; exact rfl; exact rfl; exact rfl; exact rfl; first | assumption | omega | decide)
    | (apply awp_draw; exact rfl; kernel_rfl)
    | apply aq_nil
    | (apply aq_idx; exact rfl; exact rfl; exact rfl; first | assumption | omega | (simp; omega))
    | (apply aq_shr4; exact rfl; exact rfl)
    | (apply aq_and15; exact rfl; exact rfl)
    | (apply aq_convW; exact rfl; exact rfl; exact rfl; omega)
    | (apply aq_buildA; exact rfl; exact rfl; exact rfl)
    | apply aq_move
    | apply aq_assign
    | (apply aq_add; exact rfl; exact rfl; exact wrap_i64 (by omega) (by omega))
    | (apply aq_lenS; exact rfl; exact rfl; exact rfl)
    | (apply aq_upto; exact rfl; exact rfl; exact rfl; first | assumption | omega | (simp; omega))
    | (apply aq_from; exact rfl; exact rfl; exact rfl; first | assumption | omega | (simp; omega))
    | (apply aq_extract; exact rfl; exact rfl)
    | apply awp_skip
    | apply awp_exit
    | apply awp_ret
    | (apply aops_indexS; exact rfl; exact rfl; exact rfl; omega; omega)
    | (apply aops_call1; exact Tryz.call26; exact refLines_c _ _ hl))
  all_goals
    have g := goodF_iff l
    have g2 : 1 ≤ l.length → (l.getLast? = some 10 ↔ ((l.getD ((l.length : Int) - 1).toNat 0).toNat : Int) = 10) := fun h => by
      have e : ((l.length : Int) - 1).toNat = l.length - 1 := by omega
      rw [e, u8_10, List.getLast?_eq_getElem?]
      simp [List.getD, show l.length - 1 < l.length by omega]
    refine aret_plain rfl (ares_one rfl) ⟨congrArg Bv (?_ : _ = decide (goodF l)), _, rfl⟩
  · have e : goodF l ↔ sp true l = true := by rw [g]; exact ⟨fun h => h.2.2.2, fun h => ⟨by omega, by omega, (g2 (by omega)).2 (by assumption), h⟩⟩
    simp [e]
  · exact (decide_eq_false fun h => by rw [g] at h; exact absurd ((g2 (by omega)).1 h.2.2.1) (by assumption)).symm
  · exact (decide_eq_false fun h => by rw [g] at h; omega).symm
  · exact (decide_eq_false fun h => by rw [g] at h; omega).symm
theorem refAround_c (n : Nat) (f : List UInt8) (st : List AObj) (hn : n ≤ 9223372036854775807) (hf : f.length < 4294967281) : ACall E 35 [Iv n, Sv f] st fun r st' => r = .tu [Sv (headF n f), Sv (tailF n)] ∧ st' = st := by
  refine acall_pure (pure_tu2v _ _) (acall_of_awp Tryz.func35 rfl (Nat.le_of_ble_eq_true rfl) ?_)
  have h1 := itoa_len n hn
  repeat' (first
    | apply awp_seq
    | apply awp_block
    | apply awp_region
    | apply aops_nil
    | apply aops_move
    | apply aops_assign
    | (apply aops_extract; exact rfl; exact rfl)
    | (apply aops_cmpI; exact rfl; exact rfl; exact rfl)
    | (apply aops_cmpS; exact rfl; exact rfl; exact rfl)
    | (apply aops_not_d; exact rfl)
    | (apply aops_not; exact rfl)
    | (apply aops_guard_any; exact rfl; exact rfl; exact rfl; exact rfl)
    | (apply gd_run_d; (first | assumption | omega))
    | (apply gd_run_n; (first | assumption | omega))
    | (apply gd_skip_d; (first | assumption | omega))
    | (apply gd_skip_n; (first | assumption | omega))
    | (apply aops_guard_undef; exact rfl; exact rfl; exact rfl; exact rfl)
    | (apply gd_run_nt; (first | exact rfl | assumption))
    | (apply gd_run_nf; (first | exact rfl | assumption))
    | (apply gd_skip_nt; (first | exact rfl | assumption))
    | (apply gd_skip_nf; (first | exact rfl | assumption))
    | (apply gd_split_n <;> intro h)
    | (apply gd_run_t; (first | exact rfl | assumption))
    | (apply gd_run_f; (first | exact rfl | assumption))
    | (apply gd_skip_t; (first | exact rfl | assumption))
    | (apply gd_skip_f; (first | exact rfl | assumption))
    | (apply gd_split_d <;> intro h)
    | (apply gd_split <;> intro h)
    | (apply aops_pick_any; exact rfl; first | (apply pk_dt; (first | assumption | omega)) | (apply pk_df; (first | assumption | omega)) | (apply pk_nt; (first | exact rfl | assumption)) | (apply pk_nf; (first | exact rfl | assumption)) | (apply pk_t; (first | exact rfl | assumption)) | (apply pk_f; (first | exact rfl | assumption)))
    | (apply awp_cond_any; exact rfl; first | (apply cd_dt; (first | assumption | omega)) | (apply cd_df; (first | assumption | omega)) | (apply cd_nt; (first | exact rfl | assumption)) | (apply cd_nf; (first | exact rfl | assumption)) | (apply cd_n <;> intro h) | (apply cd_t; (first | exact rfl | assumption)) | (apply cd_f; (first | exact rfl | assumption)) | (apply cd_d <;> intro h) | (apply cd_s <;> intro h))
    | (apply aops_lenS; exact rfl; exact rfl; exact rfl)
    | (apply aops_lenL; exact rfl; exact rfl; exact rfl; exact rfl)
    | (apply aops_concat; exact rfl; exact rfl; (first | omega | (simp only [List.length_append, List.length_cons, List.length_nil]; omega) | (simp; omega)))
    | (apply aops_add; exact rfl; exact rfl; exact wrap_i64 (by omega) (by omega))
    | (apply aops_sub; exact rfl; exact rfl; exact wrap_i64 (by omega) (by omega))
    | (apply aops_errNeNil; exact rfl; exact rfl)
    | (apply aops_nilNeNil; exact rfl; exact rfl)
    | (apply aops_errEqNil; exact rfl; exact rfl)
    | (apply aops_nilEqNil; exact rfl; exact rfl)
    | (apply aops_makeInterface; exact rfl; exact rfl)
    | apply aops_makeFunc
    | (apply aops_alloc; exact rfl; exact rfl)
    | (apply aops_box; exact rfl; exact rfl; exact rfl; exact rfl)
    | (apply aops_field; exact rfl; exact rfl; exact rfl)
    | (apply aops_fieldAddr_bx; exact rfl; exact rfl; exact rfl)
    | (apply aops_fieldAddr_pp; exact rfl; exact rfl; exact rfl; exact rfl)
    | (apply aops_load_pp; exact rfl; exact rfl; exact rfl)
    | (apply aops_load_loc; exact rfl; exact rfl; exact rfl; exact rfl; exact rfl)
    | (apply aops_store_loc; exact rfl; exact rfl; exact rfl; exact rfl; exact rfl; exact rfl; exact rfl; exact rfl; exact rfl; exact rfl; exact rfl)
    | (apply aops_idx; exact rfl; exact rfl; exact rfl; first | assumption | omega | (simp; omega))
    | (apply aops_upto; exact rfl; exact rfl; exact rfl; first | assumption | omega | (simp; omega))
    | (apply aops_from; exact rfl; exact rfl; exact rfl; first | assumption | omega | (simp; omega))
    | (apply aops_span; exact rfl; exact rfl; exact rfl; exact rfl; (first | assumption | omega | (simp; omega)); first | assumption | omega | (simp; omega))
    | (apply aops_build; exact rfl; exact rfl; exact rfl)
    | (apply aops_buildSlice; exact rfl; exact rfl; exact rfl; exact rfl; exact rfl; exact rfl; exact rfl; exact rfl; exact rfl)
    | (apply aops_nilCheck; exact rfl; exact rfl)
    | (apply aops_ptrEqNil; exact rfl; exact rfl; exact rfl)
    | (apply aops_ptrNeNil; exact rfl; exact rfl; exact rfl)
    | (apply aops_xor32; exact rfl; exact rfl; (first | exact ofInt_toNat _ | exact rfl); first | exact ofInt_toNat _ | exact rfl)
    | (apply aops_and32; exact rfl; exact rfl; (first | exact ofInt_toNat _ | exact rfl); first | exact ofInt_toNat _ | exact rfl)
    | (apply aops_or32; exact rfl; exact rfl; (first | exact ofInt_toNat _ | exact rfl); first | exact ofInt_toNat _ | exact rfl)
    | (apply aops_compl32; exact rfl)
    | (apply aops_shl32; exact rfl; exact rfl; exact rfl)
    | (apply aops_shr32; exact rfl; exact rfl; exact rfl)
    | (apply aops_indexA; exact rfl; exact rfl; exact rfl; exact rfl; (first | assumption | omega | decide); exact rfl)
    | (apply aops_indexAddrA; exact rfl; exact rfl; exact rfl; exact rfl; first | assumption | omega | decide)
    | (apply awp_draw; exact rfl; kernel_rfl)
    | apply aq_nil
    | (apply aq_idx; exact rfl; exact rfl; exact rfl; first | assumption | omega | (simp; omega))
    | (apply aq_shr4; exact rfl; exact rfl)
    | (apply aq_and15; exact rfl; exact rfl)
    | (apply aq_convW; exact rfl; exact rfl; exact rfl; omega)
    | (apply aq_buildA; exact rfl; exact rfl; exact rfl)
    | apply aq_move
    | apply aq_assign
    | (apply aq_add; exact rfl; exact rfl; exact wrap_i64 (by omega) (by omega))
    | (apply aq_lenS; exact rfl; exact rfl; exact rfl)
    | (apply aq_upto; exact rfl; exact rfl; exact rfl; first | assumption | omega | (simp; omega))
    | (apply aq_from; exact rfl; exact rfl; exact rfl; first | assumption | omega | (simp; omega))
    | (apply aq_extract; exact rfl; exact rfl)
    | apply awp_skip
    | apply awp_exit
    | apply awp_ret
    | (apply aops_call1; exact Tryz.call57; exact refFiguresZ_c _ _ (by omega) (by omega)))
  exact aret_plain rfl (ares_two rfl) ⟨tu_ss (by simp [headF, tailF]), _, rfl⟩
theorem refRecord_c (l : List UInt8) (st : List AObj) (hl : l.length ≤ 50000) : ACall E 14 [Sv l] st fun r st' => r = Sv (recF l) ∧ st' = st := by
  refine acall_pure (pure_v _) (acall_of_awp Tryz.func14 rfl (Nat.le_of_ble_eq_true rfl) ?_)
  have h1 := itoa_len l.length (by omega)
  have h2 := headF_length l.length (figsP (addP 0 l) 8)
  have h3 := tailF_length l.length
  have h4 : (figsP (addP 0 l) 8).length = 8 := by simp [figsP]
  repeat' (first
    | apply awp_seq
    | apply awp_block
    | apply awp_region
    | apply aops_nil
    | apply aops_move
    | apply aops_assign
    | (apply aops_extract; exact rfl; exact rfl)
    | (apply aops_cmpI; exact rfl; exact rfl; exact rfl)
    | (apply aops_cmpS; exact rfl; exact rfl; exact rfl)
    | (apply aops_not_d; exact rfl)
    | (apply aops_not; exact rfl)
    | (apply aops_guard_any; exact rfl; exact rfl; exact rfl; exact rfl)
    | (apply gd_run_d; (first | assumption | omega))
    | (apply gd_run_n; (first | assumption | omega))
    | (apply gd_skip_d; (first | assumption | omega))
    | (apply gd_skip_n; (first | assumption | omega))
    | (apply aops_guard_undef; exact rfl; exact rfl; exact rfl; exact rfl)
    | (apply gd_run_nt; (first | exact rfl | assumption))
    | (apply gd_run_nf; (first | exact rfl | assumption))
    | (apply gd_skip_nt; (first | exact rfl | assumption))
    | (apply gd_skip_nf; (first | exact rfl | assumption))
    | (apply gd_split_n <;> intro h)
    | (apply gd_run_t; (first | exact rfl | assumption))
    | (apply gd_run_f; (first | exact rfl | assumption))
    | (apply gd_skip_t; (first | exact rfl | assumption))
    | (apply gd_skip_f; (first | exact rfl | assumption))
    | (apply gd_split_d <;> intro h)
    | (apply gd_split <;> intro h)
    | (apply aops_pick_any; exact rfl; first | (apply pk_dt; (first | assumption | omega)) | (apply pk_df; (first | assumption | omega)) | (apply pk_nt; (first | exact rfl | assumption)) | (apply pk_nf; (first | exact rfl | assumption)) | (apply pk_t; (first | exact rfl | assumption)) | (apply pk_f; (first | exact rfl | assumption)))
    | (apply awp_cond_any; exact rfl; first | (apply cd_dt; (first | assumption | omega)) | (apply cd_df; (first | assumption | omega)) | (apply cd_nt; (first | exact rfl | assumption)) | (apply cd_nf; (first | exact rfl | assumption)) | (apply cd_n <;> intro h) | (apply cd_t; (first | exact rfl | assumption)) | (apply cd_f; (first | exact rfl | assumption)) | (apply cd_d <;> intro h) | (apply cd_s <;> intro h))
    | (apply aops_lenS; exact rfl; exact rfl; exact rfl)
    | (apply aops_lenL; exact rfl; exact rfl; exact rfl; exact rfl)
    | (apply aops_concat; exact rfl; exact rfl; (first | omega | (simp only [List.length_append, List.length_cons, List.length_nil]; omega) | (simp; omega)))
    | (apply aops_add; exact rfl; exact rfl; exact wrap_i64 (by omega) (by omega))
    | (apply aops_sub; exact rfl; exact rfl; exact wrap_i64 (by omega) (by omega))
    | (apply aops_errNeNil; exact rfl; exact rfl)
    | (apply aops_nilNeNil; exact rfl; exact rfl)
    | (apply aops_errEqNil; exact rfl; exact rfl)
    | (apply aops_nilEqNil; exact rfl; exact rfl)
    | (apply aops_makeInterface; exact rfl; exact rfl)
    | apply aops_makeFunc
    | (apply aops_alloc; exact rfl; exact rfl)
    | (apply aops_box; exact rfl; exact rfl; exact rfl; exact rfl)
    | (apply aops_field; exact rfl; exact rfl; exact rfl)
    | (apply aops_fieldAddr_bx; exact rfl; exact rfl; exact rfl)
    | (apply aops_fieldAddr_pp; exact rfl; exact rfl; exact rfl; exact rfl)
    | (apply aops_load_pp; exact rfl; exact rfl; exact rfl)
    | (apply aops_load_loc; exact rfl; exact rfl; exact rfl; exact rfl; exact rfl)
    | (apply aops_store_loc; exact rfl; exact rfl; exact rfl; exact rfl; exact rfl; exact rfl; exact rfl; exact rfl; exact rfl; exact rfl; exact rfl)
    | (apply aops_idx; exact rfl; exact rfl; exact rfl; first | assumption | omega | (simp; omega))
    | (apply aops_upto; exact rfl; exact rfl; exact rfl; first | assumption | omega | (simp; omega))
    | (apply aops_from; exact rfl; exact rfl; exact rfl; first | assumption | omega | (simp; omega))
    | (apply aops_span; exact rfl; exact rfl; exact rfl; exact rfl; (first | assumption | omega | (simp; omega)); first | assumption | omega | (simp; omega))
    | (apply aops_build; exact rfl; exact rfl; exact rfl)
    | (apply aops_buildSlice; exact rfl; exact rfl; exact rfl; exact rfl; exact rfl; exact rfl; exact rfl; exact rfl; exact rfl)
    | (apply aops_nilCheck; exact rfl; exact rfl)
    | (apply aops_ptrEqNil; exact rfl; exact rfl; exact rfl)
    | (apply aops_ptrNeNil; exact rfl; exact rfl; exact rfl)
    | (apply aops_xor32; exact rfl; exact rfl; (first | exact ofInt_toNat _ | exact rfl); first | exact ofInt_toNat _ | exact rfl)
    | (apply aops_and32; exact rfl; exact rfl; (first | exact ofInt_toNat _ | exact rfl); first | exact ofInt_toNat _ | exact rfl)
    | (apply aops_or32; exact rfl; exact rfl; (first | exact ofInt_toNat _ | exact rfl); first | exact ofInt_toNat _ | exact rfl)
    | (apply aops_compl32; exact rfl)
    | (apply aops_shl32; exact rfl; exact rfl; exact rfl)
    | (apply aops_shr32; exact rfl; exact rfl; exact rfl)
    | (apply aops_indexA; exact rfl; exact rfl; exact rfl; exact rfl; (first | assumption | omega | decide); exact rfl)
    | (apply aops_indexAddrA; exact rfl; exact rfl; exact rfl; exact rfl; first | assumption | omega | decide)
    | (apply awp_draw; exact rfl; kernel_rfl)
    | apply aq_nil
    | (apply aq_idx; exact rfl; exact rfl; exact rfl; first | assumption | omega | (simp; omega))
    | (apply aq_shr4; exact rfl; exact rfl)
    | (apply aq_and15; exact rfl; exact rfl)
    | (apply aq_convW; exact rfl; exact rfl; exact rfl; omega)
    | (apply aq_buildA; exact rfl; exact rfl; exact rfl)
    | apply aq_move
    | apply aq_assign
    | (apply aq_add; exact rfl; exact rfl; exact wrap_i64 (by omega) (by omega))
    | (apply aq_lenS; exact rfl; exact rfl; exact rfl)
    | (apply aq_upto; exact rfl; exact rfl; exact rfl; first | assumption | omega | (simp; omega))
    | (apply aq_from; exact rfl; exact rfl; exact rfl; first | assumption | omega | (simp; omega))
    | (apply aq_extract; exact rfl; exact rfl)
    | apply awp_skip
    | apply awp_exit
    | apply awp_ret
    | (apply aops_call1; exact Tryz.call21; exact refSum_c _ _ (by omega))
    | (apply aops_call1; exact Tryz.call20; exact refFigs_c _ _)
    | (apply aops_call1; exact Tryz.call35; exact refAround_c l.length (figsP (addP 0 l) 8) _ (by omega) (by omega)))
  exact aret_plain rfl (ares_one rfl) ⟨rfl, _, rfl⟩
theorem refLength_c (n : Int) (st : List AObj) : ACall E 17 [Iv n] st fun r st' => r = Iv (lengthF n) ∧ st' = st := by
  refine acall_pure (pure_v _) (acall_of_awp Tryz.func17 rfl (Nat.le_of_ble_eq_true rfl) ?_)
  by_cases hr : n < 2 ∨ 50000 < n
  · skip
    repeat' (first
      | apply awp_seq
      | apply awp_block
      | apply awp_region
      | apply aops_nil
      | apply aops_move
      | apply aops_assign
      | (apply aops_extract; exact rfl; exact rfl)
      | (apply aops_cmpI; exact rfl; exact rfl; exact rfl)
      | (apply aops_cmpS; exact rfl; exact rfl; exact rfl)
      | (apply aops_not_d; exact rfl)
      | (apply aops_not; exact rfl)
      | (apply aops_guard_any; exact rfl; exact rfl; exact rfl; exact rfl)
      | (apply gd_run_d; (first | assumption | omega))
      | (apply gd_run_n; (first | assumption | omega))
      | (apply gd_skip_d; (first | assumption | omega))
      | (apply gd_skip_n; (first | assumption | omega))
      | (apply aops_guard_undef; exact rfl; exact rfl; exact rfl; exact rfl)
      | (apply gd_run_nt; (first | exact rfl | assumption))
      | (apply gd_run_nf; (first | exact rfl | assumption))
      | (apply gd_skip_nt; (first | exact rfl | assumption))
      | (apply gd_skip_nf; (first | exact rfl | assumption))
      | (apply gd_split_n <;> intro h)
      | (apply gd_run_t; (first | exact rfl | assumption))
      | (apply gd_run_f; (first | exact rfl | assumption))
      | (apply gd_skip_t; (first | exact rfl | assumption))
      | (apply gd_skip_f; (first | exact rfl | assumption))
      | (apply gd_split_d <;> intro h)
      | (apply gd_split <;> intro h)
      | (apply aops_pick_any; exact rfl; first | (apply pk_dt; (first | assumption | omega)) | (apply pk_df; (first | assumption | omega)) | (apply pk_nt; (first | exact rfl | assumption)) | (apply pk_nf; (first | exact rfl | assumption)) | (apply pk_t; (first | exact rfl | assumption)) | (apply pk_f; (first | exact rfl | assumption)))
      | (apply awp_cond_any; exact rfl; first | (apply cd_dt; (first | assumption | omega)) | (apply cd_df; (first | assumption | omega)) | (apply cd_nt; (first | exact rfl | assumption)) | (apply cd_nf; (first | exact rfl | assumption)) | (apply cd_n <;> intro h) | (apply cd_t; (first | exact rfl | assumption)) | (apply cd_f; (first | exact rfl | assumption)) | (apply cd_d <;> intro h) | (apply cd_s <;> intro h))
      | (apply aops_lenS; exact rfl; exact rfl; exact rfl)
      | (apply aops_lenL; exact rfl; exact rfl; exact rfl; exact rfl)
      | (apply aops_concat; exact rfl; exact rfl; (first | omega | (simp only [List.length_append, List.length_cons, List.length_nil]; omega) | (simp; omega)))
      | (apply aops_add; exact rfl; exact rfl; exact wrap_i64 (by omega) (by omega))
      | (apply aops_sub; exact rfl; exact rfl; exact wrap_i64 (by omega) (by omega))
      | (apply aops_errNeNil; exact rfl; exact rfl)
      | (apply aops_nilNeNil; exact rfl; exact rfl)
      | (apply aops_errEqNil; exact rfl; exact rfl)
      | (apply aops_nilEqNil; exact rfl; exact rfl)
      | (apply aops_makeInterface; exact rfl; exact rfl)
      | apply aops_makeFunc
      | (apply aops_alloc; exact rfl; exact rfl)
      | (apply aops_box; exact rfl; exact rfl; exact rfl; exact rfl)
      | (apply aops_field; exact rfl; exact rfl; exact rfl)
      | (apply aops_fieldAddr_bx; exact rfl; exact rfl; exact rfl)
      | (apply aops_fieldAddr_pp; exact rfl; exact rfl; exact rfl; exact rfl)
      | (apply aops_load_pp; exact rfl; exact rfl; exact rfl)
      | (apply aops_load_loc; exact rfl; exact rfl; exact rfl; exact rfl; exact rfl)
      | (apply aops_store_loc; exact rfl; exact rfl; exact rfl; exact rfl; exact rfl; exact rfl; exact rfl; exact rfl; exact rfl; exact rfl; exact rfl)
      | (apply aops_idx; exact rfl; exact rfl; exact rfl; first | assumption | omega | (simp; omega))
      | (apply aops_upto; exact rfl; exact rfl; exact rfl; first | assumption | omega | (simp; omega))
      | (apply aops_from; exact rfl; exact rfl; exact rfl; first | assumption | omega | (simp; omega))
      | (apply aops_span; exact rfl; exact rfl; exact rfl; exact rfl; (first | assumption | omega | (simp; omega)); first | assumption | omega | (simp; omega))
      | (apply aops_build; exact rfl; exact rfl; exact rfl)
      | (apply aops_buildSlice; exact rfl; exact rfl; exact rfl; exact rfl; exact rfl; exact rfl; exact rfl; exact rfl; exact rfl)
      | (apply aops_nilCheck; exact rfl; exact rfl)
      | (apply aops_ptrEqNil; exact rfl; exact rfl; exact rfl)
      | (apply aops_ptrNeNil; exact rfl; exact rfl; exact rfl)
      | (apply aops_xor32; exact rfl; exact rfl; (first | exact ofInt_toNat _ | exact rfl); first | exact ofInt_toNat _ | exact rfl)
      | (apply aops_and32; exact rfl; exact rfl; (first | exact ofInt_toNat _ | exact rfl); first | exact ofInt_toNat _ | exact rfl)
      | (apply aops_or32; exact rfl; exact rfl; (first | exact ofInt_toNat _ | exact rfl); first | exact ofInt_toNat _ | exact rfl)
      | (apply aops_compl32; exact rfl)
      | (apply aops_shl32; exact rfl; exact rfl; exact rfl)
      | (apply aops_shr32; exact rfl; exact rfl; exact rfl)
      | (apply aops_indexA; exact rfl; exact rfl; exact rfl; exact rfl; (first | assumption | omega | decide); exact rfl)
      | (apply aops_indexAddrA; exact rfl; exact rfl; exact rfl; exact rfl; first | assumption | omega | decide)
      | (apply awp_draw; exact rfl; kernel_rfl)
      | apply aq_nil
      | (apply aq_idx; exact rfl; exact rfl; exact rfl; first | assumption | omega | (simp; omega))
      | (apply aq_shr4; exact rfl; exact rfl)
      | (apply aq_and15; exact rfl; exact rfl)
      | (apply aq_convW; exact rfl; exact rfl; exact rfl; omega)
      | (apply aq_buildA; exact rfl; exact rfl; exact rfl)
      | apply aq_move
      | apply aq_assign
      | (apply aq_add; exact rfl; exact rfl; exact wrap_i64 (by omega) (by omega))
      | (apply aq_lenS; exact rfl; exact rfl; exact rfl)
      | (apply aq_upto; exact rfl; exact rfl; exact rfl; first | assumption | omega | (simp; omega))
      | (apply aq_from; exact rfl; exact rfl; exact rfl; first | assumption | omega | (simp; omega))
      | (apply aq_extract; exact rfl; exact rfl)
      | apply awp_skip
      | apply awp_exit
      | apply awp_ret)
    all_goals refine aret_plain rfl (ares_one rfl) ⟨congrArg Iv (?_ : _ = _), _, rfl⟩
    all_goals first | exact (if_pos hr).symm | omega
  · obtain ⟨k, rfl⟩ := Int.eq_ofNat_of_zero_le (by omega : 0 ≤ n)
    have h1 := itoa_len k (by omega)
    have h2 := headF_length k [48, 48, 48, 48, 48, 48, 48, 48]
    have h3 := tailF_length k
    have h4 : ([48, 48, 48, 48, 48, 48, 48, 48] : List UInt8).length = 8 := rfl
    repeat' (first
      | apply awp_seq
      | apply awp_block
      | apply awp_region
      | apply aops_nil
      | apply aops_move
      | apply aops_assign
      | (apply aops_extract; exact rfl; exact rfl)
      | (apply aops_cmpI; exact rfl; exact rfl; exact rfl)
      | (apply aops_cmpS; exact rfl; exact rfl; exact rfl)
      | (apply aops_not_d; exact rfl)
      | (apply aops_not; exact rfl)
      | (apply aops_guard_any; exact rfl; exact rfl; exact rfl; exact rfl)
      | (apply gd_run_d; (first | assumption | omega))
      | (apply gd_run_n; (first | assumption | omega))
      | (apply gd_skip_d; (first | assumption | omega))
      | (apply gd_skip_n; (first | assumption | omega))
      | (apply aops_guard_undef; exact rfl; exact rfl; exact rfl; exact rfl)
      | (apply gd_run_nt; (first | exact rfl | assumption))
      | (apply gd_run_nf; (first | exact rfl | assumption))
      | (apply gd_skip_nt; (first | exact rfl | assumption))
      | (apply gd_skip_nf; (first | exact rfl | assumption))
      | (apply gd_split_n <;> intro h)
      | (apply gd_run_t; (first | exact rfl | assumption))
      | (apply gd_run_f; (first | exact rfl | assumption))
      | (apply gd_skip_t; (first | exact rfl | assumption))
      | (apply gd_skip_f; (first | exact rfl | assumption))
      | (apply gd_split_d <;> intro h)
      | (apply gd_split <;> intro h)
      | (apply aops_pick_any; exact rfl; first | (apply pk_dt; (first | assumption | omega)) | (apply pk_df; (first | assumption | omega)) | (apply pk_nt; (first | exact rfl | assumption)) | (apply pk_nf; (first | exact rfl | assumption)) | (apply pk_t; (first | exact rfl | assumption)) | (apply pk_f; (first | exact rfl | assumption)))
      | (apply awp_cond_any; exact rfl; first | (apply cd_dt; (first | assumption | omega)) | (apply cd_df; (first | assumption | omega)) | (apply cd_nt; (first | exact rfl | assumption)) | (apply cd_nf; (first | exact rfl | assumption)) | (apply cd_n <;> intro h) | (apply cd_t; (first | exact rfl | assumption)) | (apply cd_f; (first | exact rfl | assumption)) | (apply cd_d <;> intro h) | (apply cd_s <;> intro h))
      | (apply aops_lenS; exact rfl; exact rfl; exact rfl)
      | (apply aops_lenL; exact rfl; exact rfl; exact rfl; exact rfl)
      | (apply aops_concat; exact rfl; exact rfl; (first | omega | (simp only [List.length_append, List.length_cons, List.length_nil]; omega) | (simp; omega)))
      | (apply aops_add; exact rfl; exact rfl; exact wrap_i64 (by omega) (by omega))
      | (apply aops_sub; exact rfl; exact rfl; exact wrap_i64 (by omega) (by omega))
      | (apply aops_errNeNil; exact rfl; exact rfl)
      | (apply aops_nilNeNil; exact rfl; exact rfl)
      | (apply aops_errEqNil; exact rfl; exact rfl)
      | (apply aops_nilEqNil; exact rfl; exact rfl)
      | (apply aops_makeInterface; exact rfl; exact rfl)
      | apply aops_makeFunc
      | (apply aops_alloc; exact rfl; exact rfl)
      | (apply aops_box; exact rfl; exact rfl; exact rfl; exact rfl)
      | (apply aops_field; exact rfl; exact rfl; exact rfl)
      | (apply aops_fieldAddr_bx; exact rfl; exact rfl; exact rfl)
      | (apply aops_fieldAddr_pp; exact rfl; exact rfl; exact rfl; exact rfl)
      | (apply aops_load_pp; exact rfl; exact rfl; exact rfl)
      | (apply aops_load_loc; exact rfl; exact rfl; exact rfl; exact rfl; exact rfl)
      | (apply aops_store_loc; exact rfl; exact rfl; exact rfl; exact rfl; exact rfl; exact rfl; exact rfl; exact rfl; exact rfl; exact rfl; exact rfl)
      | (apply aops_idx; exact rfl; exact rfl; exact rfl; first | assumption | omega | (simp; omega))
      | (apply aops_upto; exact rfl; exact rfl; exact rfl; first | assumption | omega | (simp; omega))
      | (apply aops_from; exact rfl; exact rfl; exact rfl; first | assumption | omega | (simp; omega))
      | (apply aops_span; exact rfl; exact rfl; exact rfl; exact rfl; (first | assumption | omega | (simp; omega)); first | assumption | omega | (simp; omega))
      | (apply aops_build; exact rfl; exact rfl; exact rfl)
      | (apply aops_buildSlice; exact rfl; exact rfl; exact rfl; exact rfl; exact rfl; exact rfl; exact rfl; exact rfl; exact rfl)
      | (apply aops_nilCheck; exact rfl; exact rfl)
      | (apply aops_ptrEqNil; exact rfl; exact rfl; exact rfl)
      | (apply aops_ptrNeNil; exact rfl; exact rfl; exact rfl)
      | (apply aops_xor32; exact rfl; exact rfl; (first | exact ofInt_toNat _ | exact rfl); first | exact ofInt_toNat _ | exact rfl)
      | (apply aops_and32; exact rfl; exact rfl; (first | exact ofInt_toNat _ | exact rfl); first | exact ofInt_toNat _ | exact rfl)
      | (apply aops_or32; exact rfl; exact rfl; (first | exact ofInt_toNat _ | exact rfl); first | exact ofInt_toNat _ | exact rfl)
      | (apply aops_compl32; exact rfl)
      | (apply aops_shl32; exact rfl; exact rfl; exact rfl)
      | (apply aops_shr32; exact rfl; exact rfl; exact rfl)
      | (apply aops_indexA; exact rfl; exact rfl; exact rfl; exact rfl; (first | assumption | omega | decide); exact rfl)
      | (apply aops_indexAddrA; exact rfl; exact rfl; exact rfl; exact rfl; first | assumption | omega | decide)
      | (apply awp_draw; exact rfl; kernel_rfl)
      | apply aq_nil
      | (apply aq_idx; exact rfl; exact rfl; exact rfl; first | assumption | omega | (simp; omega))
      | (apply aq_shr4; exact rfl; exact rfl)
      | (apply aq_and15; exact rfl; exact rfl)
      | (apply aq_convW; exact rfl; exact rfl; exact rfl; omega)
      | (apply aq_buildA; exact rfl; exact rfl; exact rfl)
      | apply aq_move
      | apply aq_assign
      | (apply aq_add; exact rfl; exact rfl; exact wrap_i64 (by omega) (by omega))
      | (apply aq_lenS; exact rfl; exact rfl; exact rfl)
      | (apply aq_upto; exact rfl; exact rfl; exact rfl; first | assumption | omega | (simp; omega))
      | (apply aq_from; exact rfl; exact rfl; exact rfl; first | assumption | omega | (simp; omega))
      | (apply aq_extract; exact rfl; exact rfl)
      | apply awp_skip
      | apply awp_exit
      | apply awp_ret
      | (apply aops_call1; exact Tryz.call35; exact refAround_c k [48, 48, 48, 48, 48, 48, 48, 48] _ (by omega) (by decide)))
    refine aret_plain rfl (ares_one rfl) ⟨congrArg Iv (?_ : _ = _), _, rfl⟩
    unfold lengthF
    rw [if_neg hr]
    rfl
theorem head_37 {l : Bytes} (h : 0 < l.length) : l.head? = some 37 ↔ ((l.getD 0 0).toNat : Int) = 37 := by
  cases l with
  | nil => simp at h
  | cons c l =>
    simp only [List.head?_cons, Option.some.injEq, List.getD_cons_zero]
    exact (u8_37 _).symm
theorem refBeginsL_c (l : List UInt8) (st : List AObj) (hl : l.length < 4294967281) : ACall E 19 [Sv l] st fun r st' => r = Bv (decide (l.head? = some 37 ∧ kindOf l = 5)) ∧ st' = st := by
  refine acall_pure (pure_v _) (acall_of_awp Tryz.func19 rfl (Nat.le_of_ble_eq_true rfl) ?_)
  repeat' (first
    | apply awp_seq
    | apply awp_block
    | apply awp_region
    | apply aops_nil
    | apply aops_move
    | apply aops_assign
    | (apply aops_extract; exact rfl; exact rfl)
    | (apply aops_cmpI; exact rfl; exact rfl; exact rfl)
    | (apply aops_cmpS; exact rfl; exact rfl; exact rfl)
    | (apply aops_not_d; exact rfl)
    | (apply aops_not; exact rfl)
    | (apply aops_guard_any; exact rfl; exact rfl; exact rfl; exact rfl)
    | (apply gd_run_d; (first | assumption | omega))
    | (apply gd_run_n; (first | assumption | omega))
    | (apply gd_skip_d; (first | assumption | omega))
    | (apply gd_skip_n; (first | assumption | omega))
    | (apply aops_guard_undef; exact rfl; exact rfl; exact rfl; exact rfl)
    | (apply gd_run_nt; (first | exact rfl | assumption))
    | (apply gd_run_nf; (first | exact rfl | assumption))
    | (apply gd_skip_nt; (first | exact rfl | assumption))
    | (apply gd_skip_nf; (first | exact rfl | assumption))
    | (apply gd_split_n <;> intro h)
    | (apply gd_run_t; (first | exact rfl | assumption))
    | (apply gd_run_f; (first | exact rfl | assumption))
    | (apply gd_skip_t; (first | exact rfl | assumption))
    | (apply gd_skip_f; (first | exact rfl | assumption))
    | (apply gd_split_d <;> intro h)
    | (apply gd_split <;> intro h)
    | (apply aops_pick_any; exact rfl; first | (apply pk_dt; (first | assumption | omega)) | (apply pk_df; (first | assumption | omega)) | (apply pk_nt; (first | exact rfl | assumption)) | (apply pk_nf; (first | exact rfl | assumption)) | (apply pk_t; (first | exact rfl | assumption)) | (apply pk_f; (first | exact rfl | assumption)))
    | (apply awp_cond_any; exact rfl; first | (apply cd_dt; (first | assumption | omega)) | (apply cd_df; (first | assumption | omega)) | (apply cd_nt; (first | exact rfl | assumption)) | (apply cd_nf; (first | exact rfl | assumption)) | (apply cd_n <;> intro h) | (apply cd_t; (first | exact rfl | assumption)) | (apply cd_f; (first | exact rfl | assumption)) | (apply cd_d <;> intro h) | (apply cd_s <;> intro h))
    | (apply aops_lenS; exact rfl; exact rfl; exact rfl)
    | (apply aops_lenL; exact rfl; exact rfl; exact rfl; exact rfl)
    | (apply aops_concat; exact rfl; exact rfl; (first | omega | (simp only [List.length_append, List.length_cons, List.length_nil]; omega) | (simp; omega)))
    | (apply aops_add; exact rfl; exact rfl; exact wrap_i64 (by omega) (by omega))
    | (apply aops_sub; exact rfl; exact rfl; exact wrap_i64 (by omega) (by omega))
    | (apply aops_errNeNil; exact rfl; exact rfl)
    | (apply aops_nilNeNil; exact rfl; exact rfl)
    | (apply aops_errEqNil; exact rfl; exact rfl)
    | (apply aops_nilEqNil; exact rfl; exact rfl)
    | (apply aops_makeInterface; exact rfl; exact rfl)
    | apply aops_makeFunc
    | (apply aops_alloc; exact rfl; exact rfl)
    | (apply aops_box; exact rfl; exact rfl; exact rfl; exact rfl)
    | (apply aops_field; exact rfl; exact rfl; exact rfl)
    | (apply aops_fieldAddr_bx; exact rfl; exact rfl; exact rfl)
    | (apply aops_fieldAddr_pp; exact rfl; exact rfl; exact rfl; exact rfl)
    | (apply aops_load_pp; exact rfl; exact rfl; exact rfl)
    | (apply aops_load_loc; exact rfl; exact rfl; exact rfl; exact rfl; exact rfl)
    | (apply aops_store_loc; exact rfl; exact rfl; exact rfl; exact rfl; exact rfl; exact rfl; exact rfl; exact rfl; exact rfl; exact rfl; exact rfl)
    | (apply aops_idx; exact rfl; exact rfl; exact rfl; first | assumption | omega | (simp; omega))
    | (apply aops_upto; exact rfl; exact rfl; exact rfl; first | assumption | omega | (simp; omega))
    | (apply aops_from; exact rfl; exact rfl; exact rfl; first | assumption | omega | (simp; omega))
    | (apply aops_span; exact rfl; exact rfl; exact rfl; exact rfl; (first | assumption | omega | (simp; omega)); first | assumption | omega | (simp; omega))
    | (apply aops_build; exact rfl; exact rfl; exact rfl)
    | (apply aops_buildSlice; exact rfl; exact rfl; exact rfl; exact rfl; exact rfl; exact rfl; exact rfl; exact rfl; exact rfl)
    | (apply aops_nilCheck; exact rfl; exact rfl)
    | (apply aops_ptrEqNil; exact rfl; exact rfl; exact rfl)
    | (apply aops_ptrNeNil; exact rfl; exact rfl; exact rfl)
    | (apply aops_xor32; exact rfl; exact rfl; (first | exact ofInt_toNat _ | exact rfl); first | exact ofInt_toNat _ | exact rfl)
    | (apply aops_and32; exact rfl; exact rfl; (first | exact ofInt_toNat _ | exact rfl); first | exact ofInt_toNat _ | exact rfl)
    | (apply aops_or32; exact rfl; exact rfl; (first | exact ofInt_toNat _ | exact rfl); first | exact ofInt_toNat _ | exact rfl)
    | (apply aops_compl32; exact rfl)
    | (apply aops_shl32; exact rfl; exact rfl; exact rfl)
    | (apply aops_shr32; exact rfl; exact rfl; exact rfl)
    | (apply aops_indexA; exact rfl; exact rfl; exact rfl; exact rfl; (first | assumption | omega | decide); exact rfl)
    | (apply aops_indexAddrA; exact rfl; exact rfl; exact rfl; exact rfl; first | assumption | omega | decide)
    | (apply awp_draw; exact rfl; kernel_rfl)
    | apply aq_nil
    | (apply aq_idx; exact rfl; exact rfl; exact rfl; first | assumption | omega | (simp; omega))
    | (apply aq_shr4; exact rfl; exact rfl)
    | (apply aq_and15; exact rfl; exact rfl)
    | (apply aq_convW; exact rfl; exact rfl; exact rfl; omega)
    | (apply aq_buildA; exact rfl; exact rfl; exact rfl)
    | apply aq_move
    | apply aq_assign
    | (apply aq_add; exact rfl; exact rfl; exact wrap_i64 (by omega) (by omega))
    | (apply aq_lenS; exact rfl; exact rfl; exact rfl)
    | (apply aq_upto; exact rfl; exact rfl; exact rfl; first | assumption | omega | (simp; omega))
    | (apply aq_from; exact rfl; exact rfl; exact rfl; first | assumption | omega | (simp; omega))
    | (apply aq_extract; exact rfl; exact rfl)
    | apply awp_skip
    | apply awp_exit
    | apply awp_ret
    | (apply aops_call1; exact Tryz.call44; exact refKind_c _ _ hl))
  all_goals refine aret_plain rfl (ares_one rfl) ⟨congrArg Bv (?_ : _ = decide (l.head? = some 37 ∧ kindOf l = 5)), _, rfl⟩
  · have e : l.head? = some 37 := (head_37 (by omega)).2 (by assumption)
    simp [e]
  · exact (decide_eq_false fun h => absurd ((head_37 (by omega)).1 h.1) (by assumption)).symm
  · have e : l = [] := List.length_eq_zero_iff.1 (by omega)
    subst e
    rfl
end Go.Proofs.YtopmpdoigmenmaaGreatDoor
