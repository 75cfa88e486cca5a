/- Check sums: the program's layer 1 and the document's answer. -/
import Derived.Test.YtopmpdoigmenmaaGreatDoorLn
import Derived.Test.YtopmpdoigmenmaaGreatDoorBd
import Derived.Test.YtopmpdoigmenmaaGreatDoorDd
set_option linter.unusedVariables false
set_option maxRecDepth 100000
namespace Go.Proofs.YtopmpdoigmenmaaGreatDoor
open Go Go.Av Go.RowKit Go.Proofs Go.Pl

/-- One bit of the register goes. -/
def crcBit (x : BitVec 32) : BitVec 32 := if x &&& 2147483648#32 ≠ 0#32 then (x <<< 1) ^^^ 79764919#32 else x <<< 1
def crcBits : Nat → BitVec 32 → BitVec 32
  | 0, x => x
  | n + 1, x => crcBit (crcBits n x)

theorem row_c (x : BitVec 32) (st : List AObj) : ACall E 90 [Wv x] st fun r st' => r = Wv (crcBits 4 (x <<< 28)) ∧ st' = st := by
  refine acall_pure (pure_v _) (acall_of_awp Tryz.func90 rfl (Nat.le_of_ble_eq_true rfl) ?_)
  repeat' (first
    | apply awp_seq
    | apply awp_block
    | apply awp_region
    | apply aops_nil
    | apply aops_move
    | apply aops_assign
    | (apply aops_extract; exact rfl; exact rfl)
    | (apply aops_cmpI; exact rfl; exact rfl; exact rfl)
    | (apply aops_cmpS; exact rfl; exact rfl; exact rfl)
    | (apply aops_not_d; exact rfl)
    | (apply aops_not; exact rfl)
    | (apply aops_guard_any; exact rfl; exact rfl; exact rfl; exact rfl)
    | (apply gd_run_d; (first | assumption | omega))
    | (apply gd_run_n; (first | assumption | omega))
    | (apply gd_skip_d; (first | assumption | omega))
    | (apply gd_skip_n; (first | assumption | omega))
    | (apply aops_guard_undef; exact rfl; exact rfl; exact rfl; exact rfl)
    | (apply gd_run_nt; (first | exact rfl | assumption))
    | (apply gd_run_nf; (first | exact rfl | assumption))
    | (apply gd_skip_nt; (first | exact rfl | assumption))
    | (apply gd_skip_nf; (first | exact rfl | assumption))
    | (apply gd_split_n <;> intro h)
    | (apply gd_run_t; (first | exact rfl | assumption))
    | (apply gd_run_f; (first | exact rfl | assumption))
    | (apply gd_skip_t; (first | exact rfl | assumption))
    | (apply gd_skip_f; (first | exact rfl | assumption))
    | (apply gd_split_d <;> intro h)
    | (apply gd_split <;> intro h)
    | (apply aops_pick_any; exact rfl; first | (apply pk_dt; (first | assumption | omega)) | (apply pk_df; (first | assumption | omega)) | (apply pk_nt; (first | exact rfl | assumption)) | (apply pk_nf; (first | exact rfl | assumption)) | (apply pk_t; (first | exact rfl | assumption)) | (apply pk_f; (first | exact rfl | assumption)))
    | (apply awp_cond_any; exact rfl; first | (apply cd_dt; (first | assumption | omega)) | (apply cd_df; (first | assumption | omega)) | (apply cd_nt; (first | exact rfl | assumption)) | (apply cd_nf; (first | exact rfl | assumption)) | (apply cd_n <;> intro h) | (apply cd_t; (first | exact rfl | assumption)) | (apply cd_f; (first | exact rfl | assumption)) | (apply cd_d <;> intro h) | (apply cd_s <;> intro h))
    | (apply aops_lenS; exact rfl; exact rfl; exact rfl)
    | (apply aops_lenL; exact rfl; exact rfl; exact rfl; exact rfl)
    | (apply aops_concat; exact rfl; exact rfl; (first | omega | (simp only [List.length_append, List.length_cons, List.length_nil]; omega) | (simp; omega)))
    | (apply aops_add; exact rfl; exact rfl; exact wrap_i64 (by omega) (by omega))
    | (apply aops_sub; exact rfl; exact rfl; exact wrap_i64 (by omega) (by omega))
    | (apply aops_errNeNil; exact rfl; exact rfl)
    | (apply aops_nilNeNil; exact rfl; exact rfl)
    | (apply aops_errEqNil; exact rfl; exact rfl)
    | (apply aops_nilEqNil; exact rfl; exact rfl)
    | (apply aops_makeInterface; exact rfl; exact rfl)
    | apply aops_makeFunc
    | (apply aops_alloc; exact rfl; exact rfl)
    | (apply aops_box; exact rfl; exact rfl; exact rfl; exact rfl)
    | (apply aops_field; exact rfl; exact rfl; exact rfl)
    | (apply aops_fieldAddr_bx; exact rfl; exact rfl; exact rfl)
    | (apply aops_fieldAddr_pp; exact rfl; exact rfl; exact rfl; exact rfl)
    | (apply aops_load_pp; exact rfl; exact rfl; exact rfl)
    | (apply aops_load_loc; exact rfl; exact rfl; exact rfl; exact rfl; exact rfl)
    | (apply aops_store_loc; exact rfl; exact rfl; exact rfl; exact rfl; exact rfl; exact rfl; exact rfl; exact rfl; exact rfl; exact rfl; exact rfl)
    | (apply aops_idx; exact rfl; exact rfl; exact rfl; first | assumption | omega | (simp; omega))
    | (apply aops_upto; exact rfl; exact rfl; exact rfl; first | assumption | omega | (simp; omega))
    | (apply aops_from; exact rfl; exact rfl; exact rfl; first | assumption | omega | (simp; omega))
    | (apply aops_span; exact rfl; exact rfl; exact rfl; exact rfl; (first | assumption | omega | (simp; omega)); first | assumption | omega | (simp; omega))
    | (apply aops_build; exact rfl; exact rfl; exact rfl)
    | (apply aops_buildSlice; exact rfl; exact rfl; exact rfl; exact rfl; exact rfl; exact rfl; exact rfl; exact rfl; exact rfl)
    | (apply aops_nilCheck; exact rfl; exact rfl)
    | (apply aops_ptrEqNil; exact rfl; exact rfl; exact rfl)
    | (apply aops_ptrNeNil; exact rfl; exact rfl; exact rfl)
    | (apply aops_xor32; exact rfl; exact rfl; (first | exact ofInt_toNat _ | exact rfl); first | exact ofInt_toNat _ | exact rfl)
    | (apply aops_and32; exact rfl; exact rfl; (first | exact ofInt_toNat _ | exact rfl); first | exact ofInt_toNat _ | exact rfl)
    | (apply aops_or32; exact rfl; exact rfl; (first | exact ofInt_toNat _ | exact rfl); first | exact ofInt_toNat _ | exact rfl)
    | (apply aops_compl32; exact rfl)
    | (apply aops_shl32; exact rfl; exact rfl; exact rfl)
    | (apply aops_shr32; exact rfl; exact rfl; exact rfl)
    | (apply aops_indexA; exact rfl; exact rfl; exact rfl; exact rfl; (first | assumption | omega | decide); exact rfl)
    | (apply aops_indexAddrA; exact rfl; exact rfl; exact rfl; exact rfl; first | assumption | omega | decide)
    | (apply awp_draw; exact rfl; kernel_rfl)
    | apply aq_nil
    | (apply aq_idx; exact rfl; exact rfl; exact rfl; first | assumption | omega | (simp; omega))
    | (apply aq_shr4; exact rfl; exact rfl)
    | (apply aq_and15; exact rfl; exact rfl)
    | (apply aq_convW; exact rfl; exact rfl; exact rfl; omega)
    | (apply aq_buildA; exact rfl; exact rfl; exact rfl)
    | apply aq_move
    | apply aq_assign
    | (apply aq_add; exact rfl; exact rfl; exact wrap_i64 (by omega) (by omega))
    | (apply aq_lenS; exact rfl; exact rfl; exact rfl)
    | (apply aq_upto; exact rfl; exact rfl; exact rfl; first | assumption | omega | (simp; omega))
    | (apply aq_from; exact rfl; exact rfl; exact rfl; first | assumption | omega | (simp; omega))
    | (apply aq_extract; exact rfl; exact rfl)
    | apply awp_skip
    | apply awp_exit
    | apply awp_ret)
  refine awp_loopG (fun (k : Nat) s => k ≤ 4 ∧ StA [(3, Wv (crcBits k (x <<< 28))), (6, Iv k)] (st ++ []) [] s) (fun k => 4 - k) 0 ⟨by omega, stA_mk ⟨rfl, rfl, trivial⟩⟩ ?_
  rintro k _ ⟨hk, t, rfl⟩
  repeat' (first
    | apply awp_seq
    | apply awp_block
    | apply awp_region
    | apply aops_nil
    | apply aops_move
    | apply aops_assign
    | (apply aops_extract; exact rfl; exact rfl)
    | (apply aops_cmpI; exact rfl; exact rfl; exact rfl)
    | (apply aops_cmpS; exact rfl; exact rfl; exact rfl)
    | (apply aops_not_d; exact rfl)
    | (apply aops_not; exact rfl)
    | (apply aops_guard_any; exact rfl; exact rfl; exact rfl; exact rfl)
    | (apply gd_run_d; (first | assumption | omega))
    | (apply gd_run_n; (first | assumption | omega))
    | (apply gd_skip_d; (first | assumption | omega))
    | (apply gd_skip_n; (first | assumption | omega))
    | (apply aops_guard_undef; exact rfl; exact rfl; exact rfl; exact rfl)
    | (apply gd_run_nt; (first | exact rfl | assumption))
    | (apply gd_run_nf; (first | exact rfl | assumption))
    | (apply gd_skip_nt; (first | exact rfl | assumption))
    | (apply gd_skip_nf; (first | exact rfl | assumption))
    | (apply gd_split_n <;> intro h)
    | (apply gd_run_t; (first | exact rfl | assumption))
    | (apply gd_run_f; (first | exact rfl | assumption))
    | (apply gd_skip_t; (first | exact rfl | assumption))
    | (apply gd_skip_f; (first | exact rfl | assumption))
    | (apply gd_split_d <;> intro h)
    | (apply gd_split <;> intro h)
    | (apply aops_pick_any; exact rfl; first | (apply pk_dt; (first | assumption | omega)) | (apply pk_df; (first | assumption | omega)) | (apply pk_nt; (first | exact rfl | assumption)) | (apply pk_nf; (first | exact rfl | assumption)) | (apply pk_t; (first | exact rfl | assumption)) | (apply pk_f; (first | exact rfl | assumption)))
    | (apply awp_cond_any; exact rfl; first | (apply cd_dt; (first | assumption | omega)) | (apply cd_df; (first | assumption | omega)) | (apply cd_nt; (first | exact rfl | assumption)) | (apply cd_nf; (first | exact rfl | assumption)) | (apply cd_n <;> intro h) | (apply cd_t; (first | exact rfl | assumption)) | (apply cd_f; (first | exact rfl | assumption)) | (apply cd_d <;> intro h) | (apply cd_s <;> intro h))
    | (apply aops_lenS; exact rfl; exact rfl; exact rfl)
    | (apply aops_lenL; exact rfl; exact rfl; exact rfl; exact rfl)
    | (apply aops_concat; exact rfl; exact rfl; (first | omega | (simp only [List.length_append, List.length_cons, List.length_nil]; omega) | (simp; omega)))
    | (apply aops_add; exact rfl; exact rfl; exact wrap_i64 (by omega) (by omega))
    | (apply aops_sub; exact rfl; exact rfl; exact wrap_i64 (by omega) (by omega))
    | (apply aops_errNeNil; exact rfl; exact rfl)
    | (apply aops_nilNeNil; exact rfl; exact rfl)
    | (apply aops_errEqNil; exact rfl; exact rfl)
    | (apply aops_nilEqNil; exact rfl; exact rfl)
    | (apply aops_makeInterface; exact rfl; exact rfl)
    | apply aops_makeFunc
    | (apply aops_alloc; exact rfl; exact rfl)
    | (apply aops_box; exact rfl; exact rfl; exact rfl; exact rfl)
    | (apply aops_field; exact rfl; exact rfl; exact rfl)
    | (apply aops_fieldAddr_bx; exact rfl; exact rfl; exact rfl)
    | (apply aops_fieldAddr_pp; exact rfl; exact rfl; exact rfl; exact rfl)
    | (apply aops_load_pp; exact rfl; exact rfl; exact rfl)
    | (apply aops_load_loc; exact rfl; exact rfl; exact rfl; exact rfl; exact rfl)
    | (apply aops_store_loc; exact rfl; exact rfl; exact rfl; exact rfl; exact rfl; exact rfl; exact rfl; exact rfl; exact rfl; exact rfl; exact rfl)
    | (apply aops_idx; exact rfl; exact rfl; exact rfl; first | assumption | omega | (simp; omega))
    | (apply aops_upto; exact rfl; exact rfl; exact rfl; first | assumption | omega | (simp; omega))
    | (apply aops_from; exact rfl; exact rfl; exact rfl; first | assumption | omega | (simp; omega))
    | (apply aops_span; exact rfl; exact rfl; exact rfl; exact rfl; (first | assumption | omega | (simp; omega)); first | assumption | omega | (simp; omega))
    | (apply aops_build; exact rfl; exact rfl; exact rfl)
    | (apply aops_buildSlice; exact rfl; exact rfl; exact rfl; exact rfl; exact rfl; exact rfl; exact rfl; exact rfl; exact rfl)
    | (apply aops_nilCheck; exact rfl; exact rfl)
    | (apply aops_ptrEqNil; exact rfl; exact rfl; exact rfl)
    | (apply aops_ptrNeNil; exact rfl; exact rfl; exact rfl)
    | (apply aops_xor32; exact rfl; exact rfl; (first | exact ofInt_toNat _ | exact rfl); first | exact ofInt_toNat _ | exact rfl)
    | (apply aops_and32; exact rfl; exact rfl; (first | exact ofInt_toNat _ | exact rfl); first | exact ofInt_toNat _ | exact rfl)
    | (apply aops_or32; exact rfl; exact rfl; (first | exact ofInt_toNat _ | exact rfl); first | exact ofInt_toNat _ | exact rfl)
    | (apply aops_compl32; exact rfl)
    | (apply aops_shl32; exact rfl; exact rfl; exact rfl)
    | (apply aops_shr32; exact rfl; exact rfl; exact rfl)
    | (apply aops_indexA; exact rfl; exact rfl; exact rfl; exact rfl; (first | assumption | omega | decide); exact rfl)
    | (apply aops_indexAddrA; exact rfl; exact rfl; exact rfl; exact rfl; first | assumption | omega | decide)
    | (apply awp_draw; exact rfl; kernel_rfl)
    | apply aq_nil
    | (apply aq_idx; exact rfl; exact rfl; exact rfl; first | assumption | omega | (simp; omega))
    | (apply aq_shr4; exact rfl; exact rfl)
    | (apply aq_and15; exact rfl; exact rfl)
    | (apply aq_convW; exact rfl; exact rfl; exact rfl; omega)
    | (apply aq_buildA; exact rfl; exact rfl; exact rfl)
    | apply aq_move
    | apply aq_assign
    | (apply aq_add; exact rfl; exact rfl; exact wrap_i64 (by omega) (by omega))
    | (apply aq_lenS; exact rfl; exact rfl; exact rfl)
    | (apply aq_upto; exact rfl; exact rfl; exact rfl; first | assumption | omega | (simp; omega))
    | (apply aq_from; exact rfl; exact rfl; exact rfl; first | assumption | omega | (simp; omega))
    | (apply aq_extract; exact rfl; exact rfl)
    | apply awp_skip
    | apply awp_exit
    | apply awp_ret)
  · refine ⟨k + 1, ⟨by omega, stA_mk ⟨?_, rfl, trivial⟩⟩, by omega⟩
    refine congrArg Wv (?_ : _ = crcBit _)
    unfold crcBit
    rw [if_pos (fun e => by rename_i h; exact h ((toNat_zero _).2 e))]
    rfl
  · refine ⟨k + 1, ⟨by omega, stA_mk ⟨?_, rfl, trivial⟩⟩, by omega⟩
    refine congrArg Wv (?_ : _ = crcBit _)
    unfold crcBit
    rw [if_neg (fun e => by rename_i h; exact h (fun h' => e ((toNat_zero _).1 h')))]
  · have e : k = 4 := by omega
    subst e
    exact aret_plain rfl (ares_one rfl) ⟨rfl, _, rfl⟩
/-- What becomes of the highest half byte. -/
def rowT (i : Nat) : BitVec 32 := crcBits 4 (BitVec.ofNat 32 i <<< 28)
/-- The table, its first k rows laid. -/
def tabA (k : Nat) : List AV := (List.range 16).map fun i => if i < k then Wv (rowT i) else .v (.int .u32 0)
theorem tabA_length (k : Nat) : (tabA k).length = 16 := by simp [tabA]
theorem tabA_next {k : Nat} (h : k < 16) : (tabA k).set k (Wv (rowT k)) = tabA (k + 1) := by
  apply List.ext_getElem
  · simp [tabA]
  · intro i h1 h2
    simp only [tabA, List.length_map, List.length_range] at h2
    rw [List.getElem_set]
    by_cases e : k = i
    · subst e
      simp [tabA]
    · rw [if_neg e]
      simp only [tabA, List.getElem_map, List.getElem_range]
      by_cases hi : i < k
      · rw [if_pos hi, if_pos (by omega)]
      · rw [if_neg hi, if_neg (by omega)]
theorem tabA_get {i : Nat} (h : i < 16) : (tabA 16)[i]? = some (Wv (rowT i)) := by
  simp [tabA, h]

theorem rows_c (st : List AObj) : ACall E 70 [] st fun r st' => r = .ag (tabA 16) ∧ st' = st := by
  refine acall_pure (pure_ag (fun x hx => ?_)) (acall_of_awp Tryz.func70 rfl (Nat.le_of_ble_eq_true rfl) ?_)
  · simp only [tabA, List.mem_map] at hx
    obtain ⟨i, _, rfl⟩ := hx
    split <;> exact pure_v _
  repeat' (first
    | apply awp_seq
    | apply awp_block
    | apply awp_region
    | apply aops_nil
    | apply aops_move
    | apply aops_assign
    | (apply aops_extract; exact rfl; exact rfl)
    | (apply aops_cmpI; exact rfl; exact rfl; exact rfl)
    | (apply aops_cmpS; exact rfl; exact rfl; exact rfl)
    | (apply aops_not_d; exact rfl)
    | (apply aops_not; exact rfl)
    | (apply aops_guard_any; exact rfl; exact rfl; exact rfl; exact rfl)
    | (apply gd_run_d; (first | assumption | omega))
    | (apply gd_run_n; (first | assumption | omega))
    | (apply gd_skip_d; (first | assumption | omega))
    | (apply gd_skip_n; (first | assumption | omega))
    | (apply aops_guard_undef; exact rfl; exact rfl; exact rfl; exact rfl)
    | (apply gd_run_nt; (first | exact rfl | assumption))
    | (apply gd_run_nf; (first | exact rfl | assumption))
    | (apply gd_skip_nt; (first | exact rfl | assumption))
    | (apply gd_skip_nf; (first | exact rfl | assumption))
    | (apply gd_split_n <;> intro h)
    | (apply gd_run_t; (first | exact rfl | assumption))
    | (apply gd_run_f; (first | exact rfl | assumption))
    | (apply gd_skip_t; (first | exact rfl | assumption))
    | (apply gd_skip_f; (first | exact rfl | assumption))
    | (apply gd_split_d <;> intro h)
    | (apply gd_split <;> intro h)
    | (apply aops_pick_any; exact rfl; first | (apply pk_dt; (first | assumption | omega)) | (apply pk_df; (first | assumption | omega)) | (apply pk_nt; (first | exact rfl | assumption)) | (apply pk_nf; (first | exact rfl | assumption)) | (apply pk_t; (first | exact rfl | assumption)) | (apply pk_f; (first | exact rfl | assumption)))
    | (apply awp_cond_any; exact rfl; first | (apply cd_dt; (first | assumption | omega)) | (apply cd_df; (first | assumption | omega)) | (apply cd_nt; (first | exact rfl | assumption)) | (apply cd_nf; (first | exact rfl | assumption)) | (apply cd_n <;> intro h) | (apply cd_t; (first | exact rfl | assumption)) | (apply cd_f; (first | exact rfl | assumption)) | (apply cd_d <;> intro h) | (apply cd_s <;> intro h))
    | (apply aops_lenS; exact rfl; exact rfl; exact rfl)
    | (apply aops_lenL; exact rfl; exact rfl; exact rfl; exact rfl)
    | (apply aops_concat; exact rfl; exact rfl; (first | omega | (simp only [List.length_append, List.length_cons, List.length_nil]; omega) | (simp; omega)))
    | (apply aops_add; exact rfl; exact rfl; exact wrap_i64 (by omega) (by omega))
    | (apply aops_sub; exact rfl; exact rfl; exact wrap_i64 (by omega) (by omega))
    | (apply aops_errNeNil; exact rfl; exact rfl)
    | (apply aops_nilNeNil; exact rfl; exact rfl)
    | (apply aops_errEqNil; exact rfl; exact rfl)
    | (apply aops_nilEqNil; exact rfl; exact rfl)
    | (apply aops_makeInterface; exact rfl; exact rfl)
    | apply aops_makeFunc
    | (apply aops_alloc; exact rfl; exact rfl)
    | (apply aops_box; exact rfl; exact rfl; exact rfl; exact rfl)
    | (apply aops_field; exact rfl; exact rfl; exact rfl)
    | (apply aops_fieldAddr_bx; exact rfl; exact rfl; exact rfl)
    | (apply aops_fieldAddr_pp; exact rfl; exact rfl; exact rfl; exact rfl)
    | (apply aops_load_pp; exact rfl; exact rfl; exact rfl)
    | (apply aops_load_loc; exact rfl; exact rfl; exact rfl; exact rfl; exact rfl)
    | (apply aops_store_loc; exact rfl; exact rfl; exact rfl; exact rfl; exact rfl; exact rfl; exact rfl; exact rfl; exact rfl; exact rfl; exact rfl)
    | (apply aops_idx; exact rfl; exact rfl; exact rfl; first | assumption | omega | (simp; omega))
    | (apply aops_upto; exact rfl; exact rfl; exact rfl; first | assumption | omega | (simp; omega))
    | (apply aops_from; exact rfl; exact rfl; exact rfl; first | assumption | omega | (simp; omega))
    | (apply aops_span; exact rfl; exact rfl; exact rfl; exact rfl; (first | assumption | omega | (simp; omega)); first | assumption | omega | (simp; omega))
    | (apply aops_build; exact rfl; exact rfl; exact rfl)
    | (apply aops_buildSlice; exact rfl; exact rfl; exact rfl; exact rfl; exact rfl; exact rfl; exact rfl; exact rfl; exact rfl)
    | (apply aops_nilCheck; exact rfl; exact rfl)
    | (apply aops_ptrEqNil; exact rfl; exact rfl; exact rfl)
    | (apply aops_ptrNeNil; exact rfl; exact rfl; exact rfl)
    | (apply aops_xor32; exact rfl; exact rfl; (first | exact ofInt_toNat _ | exact rfl); first | exact ofInt_toNat _ | exact rfl)
    | (apply aops_and32; exact rfl; exact rfl; (first | exact ofInt_toNat _ | exact rfl); first | exact ofInt_toNat _ | exact rfl)
    | (apply aops_or32; exact rfl; exact rfl; (first | exact ofInt_toNat _ | exact rfl); first | exact ofInt_toNat _ | exact rfl)
    | (apply aops_compl32; exact rfl)
    | (apply aops_shl32; exact rfl; exact rfl; exact rfl)
    | (apply aops_shr32; exact rfl; exact rfl; exact rfl)
    | (apply aops_indexA; exact rfl; exact rfl; exact rfl; exact rfl; (first | assumption | omega | decide); exact rfl)
    | (apply aops_indexAddrA; exact rfl; exact rfl; exact rfl; exact rfl; first | assumption | omega | decide)
    | (apply awp_draw; exact rfl; kernel_rfl)
    | apply aq_nil
    | (apply aq_idx; exact rfl; exact rfl; exact rfl; first | assumption | omega | (simp; omega))
    | (apply aq_shr4; exact rfl; exact rfl)
    | (apply aq_and15; exact rfl; exact rfl)
    | (apply aq_convW; exact rfl; exact rfl; exact rfl; omega)
    | (apply aq_buildA; exact rfl; exact rfl; exact rfl)
    | apply aq_move
    | apply aq_assign
    | (apply aq_add; exact rfl; exact rfl; exact wrap_i64 (by omega) (by omega))
    | (apply aq_lenS; exact rfl; exact rfl; exact rfl)
    | (apply aq_upto; exact rfl; exact rfl; exact rfl; first | assumption | omega | (simp; omega))
    | (apply aq_from; exact rfl; exact rfl; exact rfl; first | assumption | omega | (simp; omega))
    | (apply aq_extract; exact rfl; exact rfl)
    | apply awp_skip
    | apply awp_exit
    | apply awp_ret)
  refine awp_loopG (fun (k : Nat) s => k ≤ 16 ∧ StA [(0, .bx (st.length + 0) 0 0), (2, Iv k)] (st ++ [.cells 0 84 (tabA k)]) [] s) (fun k => 16 - k) 0 ⟨by omega, stA_mk' ⟨rfl, rfl, trivial⟩ (by show st ++ [AObj.cells 0 _ _] = _; rfl)⟩ ?_
  rintro k _ ⟨hk, t, rfl⟩
  have hlen := tabA_length k
  repeat' (first
    | apply awp_seq
    | apply awp_block
    | apply awp_region
    | apply aops_nil
    | apply aops_move
    | apply aops_assign
    | (apply aops_extract; exact rfl; exact rfl)
    | (apply aops_cmpI; exact rfl; exact rfl; exact rfl)
    | (apply aops_cmpS; exact rfl; exact rfl; exact rfl)
    | (apply aops_not_d; exact rfl)
    | (apply aops_not; exact rfl)
    | (apply aops_guard_any; exact rfl; exact rfl; exact rfl; exact rfl)
    | (apply gd_run_d; (first | assumption | omega))
    | (apply gd_run_n; (first | assumption | omega))
    | (apply gd_skip_d; (first | assumption | omega))
    | (apply gd_skip_n; (first | assumption | omega))
    | (apply aops_guard_undef; exact rfl; exact rfl; exact rfl; exact rfl)
    | (apply gd_run_nt; (first | exact rfl | assumption))
    | (apply gd_run_nf; (first | exact rfl | assumption))
    | (apply gd_skip_nt; (first | exact rfl | assumption))
    | (apply gd_skip_nf; (first | exact rfl | assumption))
    | (apply gd_split_n <;> intro h)
    | (apply gd_run_t; (first | exact rfl | assumption))
    | (apply gd_run_f; (first | exact rfl | assumption))
    | (apply gd_skip_t; (first | exact rfl | assumption))
    | (apply gd_skip_f; (first | exact rfl | assumption))
    | (apply gd_split_d <;> intro h)
    | (apply gd_split <;> intro h)
    | (apply aops_pick_any; exact rfl; first | (apply pk_dt; (first | assumption | omega)) | (apply pk_df; (first | assumption | omega)) | (apply pk_nt; (first | exact rfl | assumption)) | (apply pk_nf; (first | exact rfl | assumption)) | (apply pk_t; (first | exact rfl | assumption)) | (apply pk_f; (first | exact rfl | assumption)))
    | (apply awp_cond_any; exact rfl; first | (apply cd_dt; (first | assumption | omega)) | (apply cd_df; (first | assumption | omega)) | (apply cd_nt; (first | exact rfl | assumption)) | (apply cd_nf; (first | exact rfl | assumption)) | (apply cd_n <;> intro h) | (apply cd_t; (first | exact rfl | assumption)) | (apply cd_f; (first | exact rfl | assumption)) | (apply cd_d <;> intro h) | (apply cd_s <;> intro h))
    | (apply aops_lenS; exact rfl; exact rfl; exact rfl)
    | (apply aops_lenL; exact rfl; exact rfl; exact rfl; exact rfl)
    | (apply aops_concat; exact rfl; exact rfl; (first | omega | (simp only [List.length_append, List.length_cons, List.length_nil]; omega) | (simp; omega)))
    | (apply aops_add; exact rfl; exact rfl; exact wrap_i64 (by omega) (by omega))
    | (apply aops_sub; exact rfl; exact rfl; exact wrap_i64 (by omega) (by omega))
    | (apply aops_errNeNil; exact rfl; exact rfl)
    | (apply aops_nilNeNil; exact rfl; exact rfl)
    | (apply aops_errEqNil; exact rfl; exact rfl)
    | (apply aops_nilEqNil; exact rfl; exact rfl)
    | (apply aops_makeInterface; exact rfl; exact rfl)
    | apply aops_makeFunc
    | (apply aops_alloc; exact rfl; exact rfl)
    | (apply aops_box; exact rfl; exact rfl; exact rfl; exact rfl)
    | (apply aops_field; exact rfl; exact rfl; exact rfl)
    | (apply aops_fieldAddr_bx; exact rfl; exact rfl; exact rfl)
    | (apply aops_fieldAddr_pp; exact rfl; exact rfl; exact rfl; exact rfl)
    | (apply aops_load_pp; exact rfl; exact rfl; exact rfl)
    | (apply aops_load_loc; exact rfl; exact rfl; exact rfl; exact rfl; exact rfl)
    | (apply aops_store_loc; exact rfl; exact rfl; exact rfl; exact rfl; exact rfl; exact rfl; exact rfl; exact rfl; exact rfl; exact rfl; exact rfl)
    | (apply aops_idx; exact rfl; exact rfl; exact rfl; first | assumption | omega | (simp; omega))
    | (apply aops_upto; exact rfl; exact rfl; exact rfl; first | assumption | omega | (simp; omega))
    | (apply aops_from; exact rfl; exact rfl; exact rfl; first | assumption | omega | (simp; omega))
    | (apply aops_span; exact rfl; exact rfl; exact rfl; exact rfl; (first | assumption | omega | (simp; omega)); first | assumption | omega | (simp; omega))
    | (apply aops_build; exact rfl; exact rfl; exact rfl)
    | (apply aops_buildSlice; exact rfl; exact rfl; exact rfl; exact rfl; exact rfl; exact rfl; exact rfl; exact rfl; exact rfl)
    | (apply aops_nilCheck; exact rfl; exact rfl)
    | (apply aops_ptrEqNil; exact rfl; exact rfl; exact rfl)
    | (apply aops_ptrNeNil; exact rfl; exact rfl; exact rfl)
    | (apply aops_xor32; exact rfl; exact rfl; (first | exact ofInt_toNat _ | exact rfl); first | exact ofInt_toNat _ | exact rfl)
    | (apply aops_and32; exact rfl; exact rfl; (first | exact ofInt_toNat _ | exact rfl); first | exact ofInt_toNat _ | exact rfl)
    | (apply aops_or32; exact rfl; exact rfl; (first | exact ofInt_toNat _ | exact rfl); first | exact ofInt_toNat _ | exact rfl)
    | (apply aops_compl32; exact rfl)
    | (apply aops_shl32; exact rfl; exact rfl; exact rfl)
    | (apply aops_shr32; exact rfl; exact rfl; exact rfl)
    | (apply aops_indexA; exact rfl; exact rfl; exact rfl; exact rfl; (first | assumption | omega | decide); exact rfl)
    | (apply aops_indexAddrA; exact rfl; exact rfl; exact rfl; exact rfl; first | assumption | omega | decide)
    | (apply awp_draw; exact rfl; kernel_rfl)
    | apply aq_nil
    | (apply aq_idx; exact rfl; exact rfl; exact rfl; first | assumption | omega | (simp; omega))
    | (apply aq_shr4; exact rfl; exact rfl)
    | (apply aq_and15; exact rfl; exact rfl)
    | (apply aq_convW; exact rfl; exact rfl; exact rfl; omega)
    | (apply aq_buildA; exact rfl; exact rfl; exact rfl)
    | apply aq_move
    | apply aq_assign
    | (apply aq_add; exact rfl; exact rfl; exact wrap_i64 (by omega) (by omega))
    | (apply aq_lenS; exact rfl; exact rfl; exact rfl)
    | (apply aq_upto; exact rfl; exact rfl; exact rfl; first | assumption | omega | (simp; omega))
    | (apply aq_from; exact rfl; exact rfl; exact rfl; first | assumption | omega | (simp; omega))
    | (apply aq_extract; exact rfl; exact rfl)
    | apply awp_skip
    | apply awp_exit
    | apply awp_ret
    | (apply aops_call1; exact Tryz.call90; exact row_c _ _)
    | (apply aops_convW; exact rfl; exact rfl; exact rfl; omega)
    | (apply aops_store_var; exact rfl; exact rfl; exact rfl; exact rfl; exact rfl; exact rfl; exact rfl; exact rfl; exact rfl; (show 0 + k * 1 + 1 ≤ _; omega); exact rfl))
  · refine ⟨k + 1, ⟨by omega, stA_mk' ⟨rfl, rfl, trivial⟩ ?_⟩, by omega⟩
    show st ++ [AObj.cells 0 _ (splice (tabA k) (0 + k * 1) [Wv (rowT k)])] = _
    rw [Nat.zero_add, Nat.mul_one, splice_one (by omega), tabA_next (by omega)]
  · have e : k = 16 := by omega
    subst e
    repeat' (first
      | apply awp_seq
      | apply awp_block
      | apply awp_region
      | apply aops_nil
      | apply aops_move
      | apply aops_assign
      | (apply aops_extract; exact rfl; exact rfl)
      | (apply aops_cmpI; exact rfl; exact rfl; exact rfl)
      | (apply aops_cmpS; exact rfl; exact rfl; exact rfl)
      | (apply aops_not_d; exact rfl)
      | (apply aops_not; exact rfl)
      | (apply aops_guard_any; exact rfl; exact rfl; exact rfl; exact rfl)
      | (apply gd_run_d; (first | assumption | omega))
      | (apply gd_run_n; (first | assumption | omega))
      | (apply gd_skip_d; (first | assumption | omega))
      | (apply gd_skip_n; (first | assumption | omega))
      | (apply aops_guard_undef; exact rfl; exact rfl; exact rfl; exact rfl)
      | (apply gd_run_nt; (first | exact rfl | assumption))
      | (apply gd_run_nf; (first | exact rfl | assumption))
      | (apply gd_skip_nt; (first | exact rfl | assumption))
      | (apply gd_skip_nf; (first | exact rfl | assumption))
      | (apply gd_split_n <;> intro h)
      | (apply gd_run_t; (first | exact rfl | assumption))
      | (apply gd_run_f; (first | exact rfl | assumption))
      | (apply gd_skip_t; (first | exact rfl | assumption))
      | (apply gd_skip_f; (first | exact rfl | assumption))
      | (apply gd_split_d <;> intro h)
      | (apply gd_split <;> intro h)
      | (apply aops_pick_any; exact rfl; first | (apply pk_dt; (first | assumption | omega)) | (apply pk_df; (first | assumption | omega)) | (apply pk_nt; (first | exact rfl | assumption)) | (apply pk_nf; (first | exact rfl | assumption)) | (apply pk_t; (first | exact rfl | assumption)) | (apply pk_f; (first | exact rfl | assumption)))
      | (apply awp_cond_any; exact rfl; first | (apply cd_dt; (first | assumption | omega)) | (apply cd_df; (first | assumption | omega)) | (apply cd_nt; (first | exact rfl | assumption)) | (apply cd_nf; (first | exact rfl | assumption)) | (apply cd_n <;> intro h) | (apply cd_t; (first | exact rfl | assumption)) | (apply cd_f; (first | exact rfl | assumption)) | (apply cd_d <;> intro h) | (apply cd_s <;> intro h))
      | (apply aops_lenS; exact rfl; exact rfl; exact rfl)
      | (apply aops_lenL; exact rfl; exact rfl; exact rfl; exact rfl)
      | (apply aops_concat; exact rfl; exact rfl; (first | omega | (simp only [List.length_append, List.length_cons, List.length_nil]; omega) | (simp; omega)))
      | (apply aops_add; exact rfl; exact rfl; exact wrap_i64 (by omega) (by omega))
      | (apply aops_sub; exact rfl; exact rfl; exact wrap_i64 (by omega) (by omega))
      | (apply aops_errNeNil; exact rfl; exact rfl)
      | (apply aops_nilNeNil; exact rfl; exact rfl)
      | (apply aops_errEqNil; exact rfl; exact rfl)
      | (apply aops_nilEqNil; exact rfl; exact rfl)
      | (apply aops_makeInterface; exact rfl; exact rfl)
      | apply aops_makeFunc
      | (apply aops_alloc; exact rfl; exact rfl)
      | (apply aops_box; exact rfl; exact rfl; exact rfl; exact rfl)
      | (apply aops_field; exact rfl; exact rfl; exact rfl)
      | (apply aops_fieldAddr_bx; exact rfl; exact rfl; exact rfl)
      | (apply aops_fieldAddr_pp; exact rfl; exact rfl; exact rfl; exact rfl)
      | (apply aops_load_pp; exact rfl; exact rfl; exact rfl)
      | (apply aops_load_loc; exact rfl; exact rfl; exact rfl; exact rfl; exact rfl)
      | (apply aops_store_loc; exact rfl; exact rfl; exact rfl; exact rfl; exact rfl; exact rfl; exact rfl; exact rfl; exact rfl; exact rfl; exact rfl)
      | (apply aops_idx; exact rfl; exact rfl; exact rfl; first | assumption | omega | (simp; omega))
      | (apply aops_upto; exact rfl; exact rfl; exact rfl; first | assumption | omega | (simp; omega))
      | (apply aops_from; exact rfl; exact rfl; exact rfl; first | assumption | omega | (simp; omega))
      | (apply aops_span; exact rfl; exact rfl; exact rfl; exact rfl; (first | assumption | omega | (simp; omega)); first | assumption | omega | (simp; omega))
      | (apply aops_build; exact rfl; exact rfl; exact rfl)
      | (apply aops_buildSlice; exact rfl; exact rfl; exact rfl; exact rfl; exact rfl; exact rfl; exact rfl; exact rfl; exact rfl)
      | (apply aops_nilCheck; exact rfl; exact rfl)
      | (apply aops_ptrEqNil; exact rfl; exact rfl; exact rfl)
      | (apply aops_ptrNeNil; exact rfl; exact rfl; exact rfl)
      | (apply aops_xor32; exact rfl; exact rfl; (first | exact ofInt_toNat _ | exact rfl); first | exact ofInt_toNat _ | exact rfl)
      | (apply aops_and32; exact rfl; exact rfl; (first | exact ofInt_toNat _ | exact rfl); first | exact ofInt_toNat _ | exact rfl)
      | (apply aops_or32; exact rfl; exact rfl; (first | exact ofInt_toNat _ | exact rfl); first | exact ofInt_toNat _ | exact rfl)
      | (apply aops_compl32; exact rfl)
      | (apply aops_shl32; exact rfl; exact rfl; exact rfl)
      | (apply aops_shr32; exact rfl; exact rfl; exact rfl)
      | (apply aops_indexA; exact rfl; exact rfl; exact rfl; exact rfl; (first | assumption | omega | decide); exact rfl)
      | (apply aops_indexAddrA; exact rfl; exact rfl; exact rfl; exact rfl; first | assumption | omega | decide)
      | (apply awp_draw; exact rfl; kernel_rfl)
      | apply aq_nil
      | (apply aq_idx; exact rfl; exact rfl; exact rfl; first | assumption | omega | (simp; omega))
      | (apply aq_shr4; exact rfl; exact rfl)
      | (apply aq_and15; exact rfl; exact rfl)
      | (apply aq_convW; exact rfl; exact rfl; exact rfl; omega)
      | (apply aq_buildA; exact rfl; exact rfl; exact rfl)
      | apply aq_move
      | apply aq_assign
      | (apply aq_add; exact rfl; exact rfl; exact wrap_i64 (by omega) (by omega))
      | (apply aq_lenS; exact rfl; exact rfl; exact rfl)
      | (apply aq_upto; exact rfl; exact rfl; exact rfl; first | assumption | omega | (simp; omega))
      | (apply aq_from; exact rfl; exact rfl; exact rfl; first | assumption | omega | (simp; omega))
      | (apply aq_extract; exact rfl; exact rfl)
      | apply awp_skip
      | apply awp_exit
      | apply awp_ret)
    exact aret_plain rfl (ares_cell1_loc rfl rfl rfl rfl rfl rfl) ⟨rfl, _, rfl⟩
/-- A half byte goes in, by the table. -/
def crcN (x : BitVec 32) (n : Nat) : BitVec 32 := (x <<< 4) ^^^ rowT ((x >>> 28) ^^^ BitVec.ofNat 32 n).toNat
def crcP (x : BitVec 32) (c : UInt8) : BitVec 32 := crcN (crcN x (c.toNat / 16)) (c.toNat % 16)
def addP (s : BitVec 32) (l : List UInt8) : BitVec 32 := ~~~ (l.foldl crcP (~~~ s))
def stepP (y : BitVec 32) (c : UInt8) : Nat → BitVec 32
  | 0 => y
  | 1 => crcN y (c.toNat / 16)
  | _ => crcP y c
theorem nib_lt (x : BitVec 32) {n : Nat} (h : n < 16) : ((x >>> 28) ^^^ BitVec.ofNat 32 n).toNat < 16 := by
  rw [BitVec.toNat_xor]
  refine Nat.xor_lt_two_pow (n := 4) ?_ ?_
  · rw [BitVec.toNat_ushiftRight, Nat.shiftRight_eq_div_pow]
    have := x.isLt
    omega
  · rw [BitVec.toNat_ofNat]
    omega
theorem tab_load {n : Nat} (h : n < 16) : aloadC 1 false (0 + n * 1) (tabA 16) = some (Wv (rowT n)) := by
  rw [Nat.zero_add, Nat.mul_one]
  exact tabA_get h

theorem add_c (x : BitVec 32) (l : List UInt8) (st : List AObj) (hl : l.length < 4294967281) : ACall E 49 [Wv x, Sv l] st fun r st' => r = Wv (addP x l) ∧ st' = st := by
  refine acall_pure (pure_v _) (acall_of_awp Tryz.func49 rfl (Nat.le_of_ble_eq_true rfl) ?_)
  repeat' (first
    | apply awp_seq
    | apply awp_block
    | apply awp_region
    | apply aops_nil
    | apply aops_move
    | apply aops_assign
    | (apply aops_extract; exact rfl; exact rfl)
    | (apply aops_cmpI; exact rfl; exact rfl; exact rfl)
    | (apply aops_cmpS; exact rfl; exact rfl; exact rfl)
    | (apply aops_not_d; exact rfl)
    | (apply aops_not; exact rfl)
    | (apply aops_guard_any; exact rfl; exact rfl; exact rfl; exact rfl)
    | (apply gd_run_d; (first | assumption | omega))
    | (apply gd_run_n; (first | assumption | omega))
    | (apply gd_skip_d; (first | assumption | omega))
    | (apply gd_skip_n; (first | assumption | omega))
    | (apply aops_guard_undef; exact rfl; exact rfl; exact rfl; exact rfl)
    | (apply gd_run_nt; (first | exact rfl | assumption))
    | (apply gd_run_nf; (first | exact rfl | assumption))
    | (apply gd_skip_nt; (first | exact rfl | assumption))
    | (apply gd_skip_nf; (first | exact rfl | assumption))
    | (apply gd_split_n <;> intro h)
    | (apply gd_run_t; (first | exact rfl | assumption))
    | (apply gd_run_f; (first | exact rfl | assumption))
    | (apply gd_skip_t; (first | exact rfl | assumption))
    | (apply gd_skip_f; (first | exact rfl | assumption))
    | (apply gd_split_d <;> intro h)
    | (apply gd_split <;> intro h)
    | (apply aops_pick_any; exact rfl; first | (apply pk_dt; (first | assumption | omega)) | (apply pk_df; (first | assumption | omega)) | (apply pk_nt; (first | exact rfl | assumption)) | (apply pk_nf; (first | exact rfl | assumption)) | (apply pk_t; (first | exact rfl | assumption)) | (apply pk_f; (first | exact rfl | assumption)))
    | (apply awp_cond_any; exact rfl; first | (apply cd_dt; (first | assumption | omega)) | (apply cd_df; (first | assumption | omega)) | (apply cd_nt; (first | exact rfl | assumption)) | (apply cd_nf; (first | exact rfl | assumption)) | (apply cd_n <;> intro h) | (apply cd_t; (first | exact rfl | assumption)) | (apply cd_f; (first | exact rfl | assumption)) | (apply cd_d <;> intro h) | (apply cd_s <;> intro h))
    | (apply aops_lenS; exact rfl; exact rfl; exact rfl)
    | (apply aops_lenL; exact rfl; exact rfl; exact rfl; exact rfl)
    | (apply aops_concat; exact rfl; exact rfl; (first | omega | (simp only [List.length_append, List.length_cons, List.length_nil]; omega) | (simp; omega)))
    | (apply aops_add; exact rfl; exact rfl; exact wrap_i64 (by omega) (by omega))
    | (apply aops_sub; exact rfl; exact rfl; exact wrap_i64 (by omega) (by omega))
    | (apply aops_errNeNil; exact rfl; exact rfl)
    | (apply aops_nilNeNil; exact rfl; exact rfl)
    | (apply aops_errEqNil; exact rfl; exact rfl)
    | (apply aops_nilEqNil; exact rfl; exact rfl)
    | (apply aops_makeInterface; exact rfl; exact rfl)
    | apply aops_makeFunc
    | (apply aops_alloc; exact rfl; exact rfl)
    | (apply aops_box; exact rfl; exact rfl; exact rfl; exact rfl)
    | (apply aops_field; exact rfl; exact rfl; exact rfl)
    | (apply aops_fieldAddr_bx; exact rfl; exact rfl; exact rfl)
    | (apply aops_fieldAddr_pp; exact rfl; exact rfl; exact rfl; exact rfl)
    | (apply aops_load_pp; exact rfl; exact rfl; exact rfl)
    | (apply aops_load_loc; exact rfl; exact rfl; exact rfl; exact rfl; exact rfl)
    | (apply aops_store_loc; exact rfl; exact rfl; exact rfl; exact rfl; exact rfl; exact rfl; exact rfl; exact rfl; exact rfl; exact rfl; exact rfl)
    | (apply aops_idx; exact rfl; exact rfl; exact rfl; first | assumption | omega | (simp; omega))
    | (apply aops_upto; exact rfl; exact rfl; exact rfl; first | assumption | omega | (simp; omega))
    | (apply aops_from; exact rfl; exact rfl; exact rfl; first | assumption | omega | (simp; omega))
    | (apply aops_span; exact rfl; exact rfl; exact rfl; exact rfl; (first | assumption | omega | (simp; omega)); first | assumption | omega | (simp; omega))
    | (apply aops_build; exact rfl; exact rfl; exact rfl)
    | (apply aops_buildSlice; exact rfl; exact rfl; exact rfl; exact rfl; exact rfl; exact rfl; exact rfl; exact rfl; exact rfl)
    | (apply aops_nilCheck; exact rfl; exact rfl)
    | (apply aops_ptrEqNil; exact rfl; exact rfl; exact rfl)
    | (apply aops_ptrNeNil; exact rfl; exact rfl; exact rfl)
    | (apply aops_xor32; exact rfl; exact rfl; (first | exact ofInt_toNat _ | exact rfl); first | exact ofInt_toNat _ | exact rfl)
    | (apply aops_and32; exact rfl; exact rfl; (first | exact ofInt_toNat _ | exact rfl); first | exact ofInt_toNat _ | exact rfl)
    | (apply aops_or32; exact rfl; exact rfl; (first | exact ofInt_toNat _ | exact rfl); first | exact ofInt_toNat _ | exact rfl)
    | (apply aops_compl32; exact rfl)
    | (apply aops_shl32; exact rfl; exact rfl; exact rfl)
    | (apply aops_shr32; exact rfl; exact rfl; exact rfl)
    | (apply aops_indexA; exact rfl; exact rfl; exact rfl; exact rfl; (first | assumption | omega | decide); exact rfl)
    | (apply aops_indexAddrA; exact rfl; exact rfl; exact rfl; exact rfl; first | assumption | omega | decide)
    | (apply awp_draw; exact rfl; kernel_rfl)
    | apply aq_nil
    | (apply aq_idx; exact rfl; exact rfl; exact rfl; first | assumption | omega | (simp; omega))
    | (apply aq_shr4; exact rfl; exact rfl)
    | (apply aq_and15; exact rfl; exact rfl)
    | (apply aq_convW; exact rfl; exact rfl; exact rfl; omega)
    | (apply aq_buildA; exact rfl; exact rfl; exact rfl)
    | apply aq_move
    | apply aq_assign
    | (apply aq_add; exact rfl; exact rfl; exact wrap_i64 (by omega) (by omega))
    | (apply aq_lenS; exact rfl; exact rfl; exact rfl)
    | (apply aq_upto; exact rfl; exact rfl; exact rfl; first | assumption | omega | (simp; omega))
    | (apply aq_from; exact rfl; exact rfl; exact rfl; first | assumption | omega | (simp; omega))
    | (apply aq_extract; exact rfl; exact rfl)
    | apply awp_skip
    | apply awp_exit
    | apply awp_ret
    | (apply aops_call1; exact Tryz.call70; exact rows_c _))
  refine awp_loopG (fun (k : Nat) s => k ≤ l.length ∧ StA [(1, Sv l), (5, .bx (st.length + 0) 0 0), (6, Wv ((l.take k).foldl crcP (~~~ x))), (14, Iv l.length), (15, Iv k)] (st ++ [.cells 0 84 (tabA 16)]) [] s) (fun k => l.length - k) 0 ⟨by omega, stA_mk' ⟨rfl, rfl, rfl, rfl, rfl, trivial⟩ (by show st ++ [AObj.cells 0 _ _] = _; rfl)⟩ ?_
  rintro k _ ⟨hk, t, rfl⟩
  generalize hx : (l.take k).foldl crcP (~~~ x) = y
  have hc := UInt8.toNat_lt (l.getD k 0)
  repeat' (first
    | apply awp_seq
    | apply awp_block
    | apply awp_region
    | apply aops_nil
    | apply aops_move
    | apply aops_assign
    | (apply aops_extract; exact rfl; exact rfl)
    | (apply aops_cmpI; exact rfl; exact rfl; exact rfl)
    | (apply aops_cmpS; exact rfl; exact rfl; exact rfl)
    | (apply aops_not_d; exact rfl)
    | (apply aops_not; exact rfl)
    | (apply aops_guard_any; exact rfl; exact rfl; exact rfl; exact rfl)
    | (apply gd_run_d; (first | assumption | omega))
    | (apply gd_run_n; (first | assumption | omega))
    | (apply gd_skip_d; (first | assumption | omega))
    | (apply gd_skip_n; (first | assumption | omega))
    | (apply aops_guard_undef; exact rfl; exact rfl; exact rfl; exact rfl)
    | (apply gd_run_nt; (first | exact rfl | assumption))
    | (apply gd_run_nf; (first | exact rfl | assumption))
    | (apply gd_skip_nt; (first | exact rfl | assumption))
    | (apply gd_skip_nf; (first | exact rfl | assumption))
    | (apply gd_split_n <;> intro h)
    | (apply gd_run_t; (first | exact rfl | assumption))
    | (apply gd_run_f; (first | exact rfl | assumption))
    | (apply gd_skip_t; (first | exact rfl | assumption))
    | (apply gd_skip_f; (first | exact rfl | assumption))
    | (apply gd_split_d <;> intro h)
    | (apply gd_split <;> intro h)
    | (apply aops_pick_any; exact rfl; first | (apply pk_dt; (first | assumption | omega)) | (apply pk_df; (first | assumption | omega)) | (apply pk_nt; (first | exact rfl | assumption)) | (apply pk_nf; (first | exact rfl | assumption)) | (apply pk_t; (first | exact rfl | assumption)) | (apply pk_f; (first | exact rfl | assumption)))
    | (apply awp_cond_any; exact rfl; first | (apply cd_dt; (first | assumption | omega)) | (apply cd_df; (first | assumption | omega)) | (apply cd_nt; (first | exact rfl | assumption)) | (apply cd_nf; (first | exact rfl | assumption)) | (apply cd_n <;> intro h) | (apply cd_t; (first | exact rfl | assumption)) | (apply cd_f; (first | exact rfl | assumption)) | (apply cd_d <;> intro h) | (apply cd_s <;> intro h))
    | (apply aops_lenS; exact rfl; exact rfl; exact rfl)
    | (apply aops_lenL; exact rfl; exact rfl; exact rfl; exact rfl)
    | (apply aops_concat; exact rfl; exact rfl; (first | omega | (simp only [List.length_append, List.length_cons, List.length_nil]; omega) | (simp; omega)))
    | (apply aops_add; exact rfl; exact rfl; exact wrap_i64 (by omega) (by omega))
    | (apply aops_sub; exact rfl; exact rfl; exact wrap_i64 (by omega) (by omega))
    | (apply aops_errNeNil; exact rfl; exact rfl)
    | (apply aops_nilNeNil; exact rfl; exact rfl)
    | (apply aops_errEqNil; exact rfl; exact rfl)
    | (apply aops_nilEqNil; exact rfl; exact rfl)
    | (apply aops_makeInterface; exact rfl; exact rfl)
    | apply aops_makeFunc
    | (apply aops_alloc; exact rfl; exact rfl)
    | (apply aops_box; exact rfl; exact rfl; exact rfl; exact rfl)
    | (apply aops_field; exact rfl; exact rfl; exact rfl)
    | (apply aops_fieldAddr_bx; exact rfl; exact rfl; exact rfl)
    | (apply aops_fieldAddr_pp; exact rfl; exact rfl; exact rfl; exact rfl)
    | (apply aops_load_pp; exact rfl; exact rfl; exact rfl)
    | (apply aops_load_loc; exact rfl; exact rfl; exact rfl; exact rfl; exact rfl)
    | (apply aops_store_loc; exact rfl; exact rfl; exact rfl; exact rfl; exact rfl; exact rfl; exact rfl; exact rfl; exact rfl; exact rfl; exact rfl)
    | (apply aops_idx; exact rfl; exact rfl; exact rfl; first | assumption | omega | (simp; omega))
    | (apply aops_upto; exact rfl; exact rfl; exact rfl; first | assumption | omega | (simp; omega))
    | (apply aops_from; exact rfl; exact rfl; exact rfl; first | assumption | omega | (simp; omega))
    | (apply aops_span; exact rfl; exact rfl; exact rfl; exact rfl; (first | assumption | omega | (simp; omega)); first | assumption | omega | (simp; omega))
    | (apply aops_build; exact rfl; exact rfl; exact rfl)
    | (apply aops_buildSlice; exact rfl; exact rfl; exact rfl; exact rfl; exact rfl; exact rfl; exact rfl; exact rfl; exact rfl)
    | (apply aops_nilCheck; exact rfl; exact rfl)
    | (apply aops_ptrEqNil; exact rfl; exact rfl; exact rfl)
    | (apply aops_ptrNeNil; exact rfl; exact rfl; exact rfl)
    | (apply aops_xor32; exact rfl; exact rfl; (first | exact ofInt_toNat _ | exact rfl); first | exact ofInt_toNat _ | exact rfl)
    | (apply aops_and32; exact rfl; exact rfl; (first | exact ofInt_toNat _ | exact rfl); first | exact ofInt_toNat _ | exact rfl)
    | (apply aops_or32; exact rfl; exact rfl; (first | exact ofInt_toNat _ | exact rfl); first | exact ofInt_toNat _ | exact rfl)
    | (apply aops_compl32; exact rfl)
    | (apply aops_shl32; exact rfl; exact rfl; exact rfl)
    | (apply aops_shr32; exact rfl; exact rfl; exact rfl)
    | (apply aops_indexA; exact rfl; exact rfl; exact rfl; exact rfl; (first | assumption | omega | decide); exact rfl)
    | (apply aops_indexAddrA; exact rfl; exact rfl; exact rfl; exact rfl; first | assumption | omega | decide)
    | (apply awp_draw; exact rfl; kernel_rfl)
    | apply aq_nil
    | (apply aq_idx; exact rfl; exact rfl; exact rfl; first | assumption | omega | (simp; omega))
    | (apply aq_shr4; exact rfl; exact rfl)
    | (apply aq_and15; exact rfl; exact rfl)
    | (apply aq_convW; exact rfl; exact rfl; exact rfl; omega)
    | (apply aq_buildA; exact rfl; exact rfl; exact rfl)
    | apply aq_move
    | apply aq_assign
    | (apply aq_add; exact rfl; exact rfl; exact wrap_i64 (by omega) (by omega))
    | (apply aq_lenS; exact rfl; exact rfl; exact rfl)
    | (apply aq_upto; exact rfl; exact rfl; exact rfl; first | assumption | omega | (simp; omega))
    | (apply aq_from; exact rfl; exact rfl; exact rfl; first | assumption | omega | (simp; omega))
    | (apply aq_extract; exact rfl; exact rfl)
    | apply awp_skip
    | apply awp_exit
    | apply awp_ret)
  · generalize hcc : l.getD k 0 = c at *
    refine awp_loopG (fun (j : Nat) s => j ≤ 2 ∧ StA [(1, Sv l), (5, .bx (st.length + 0) 0 0), (6, Wv (stepP y c j)), (14, Iv l.length), (15, Iv k), (28, .ag [Wv (BitVec.ofNat 32 (c.toNat / 16)), Wv (BitVec.ofNat 32 (c.toNat % 16))]), (29, Iv j)] (st ++ [.cells 0 84 (tabA 16)]) [] s) (fun j => 2 - j) 0 ⟨by omega, stA_mk' ⟨rfl, rfl, rfl, rfl, rfl, rfl, rfl, trivial⟩ rfl⟩ ?_
    rintro j _ ⟨hj, t2, rfl⟩
    have hj3 : j = 0 ∨ j = 1 ∨ j = 2 := by omega
    have hn1 := nib_lt (stepP y c j) (n := c.toNat / 16) (by omega)
    have hn2 := nib_lt (stepP y c j) (n := c.toNat % 16) (by omega)
    generalize hz : stepP y c j = z at hn1 hn2 ⊢
    rcases hj3 with rfl | rfl | rfl
    · skip
      repeat' (first
        | apply awp_seq
        | apply awp_block
        | apply awp_region
        | apply aops_nil
        | apply aops_move
        | apply aops_assign
        | (apply aops_extract; exact rfl; exact rfl)
        | (apply aops_cmpI; exact rfl; exact rfl; exact rfl)
        | (apply aops_cmpS; exact rfl; exact rfl; exact rfl)
        | (apply aops_not_d; exact rfl)
        | (apply aops_not; exact rfl)
        | (apply aops_guard_any; exact rfl; exact rfl; exact rfl; exact rfl)
        | (apply gd_run_d; (first | assumption | omega))
        | (apply gd_run_n; (first | assumption | omega))
        | (apply gd_skip_d; (first | assumption | omega))
        | (apply gd_skip_n; (first | assumption | omega))
        | (apply aops_guard_undef; exact rfl; exact rfl; exact rfl; exact rfl)
        | (apply gd_run_nt; (first | exact rfl | assumption))
        | (apply gd_run_nf; (first | exact rfl | assumption))
        | (apply gd_skip_nt; (first | exact rfl | assumption))
        | (apply gd_skip_nf; (first | exact rfl | assumption))
        | (apply gd_split_n <;> intro h)
        | (apply gd_run_t; (first | exact rfl | assumption))
        | (apply gd_run_f; (first | exact rfl | assumption))
        | (apply gd_skip_t; (first | exact rfl | assumption))
        | (apply gd_skip_f; (first | exact rfl | assumption))
        | (apply gd_split_d <;> intro h)
        | (apply gd_split <;> intro h)
        | (apply aops_pick_any; exact rfl; first | (apply pk_dt; (first | assumption | omega)) | (apply pk_df; (first | assumption | omega)) | (apply pk_nt; (first | exact rfl | assumption)) | (apply pk_nf; (first | exact rfl | assumption)) | (apply pk_t; (first | exact rfl | assumption)) | (apply pk_f; (first | exact rfl | assumption)))
        | (apply awp_cond_any; exact rfl; first | (apply cd_dt; (first | assumption | omega)) | (apply cd_df; (first | assumption | omega)) | (apply cd_nt; (first | exact rfl | assumption)) | (apply cd_nf; (first | exact rfl | assumption)) | (apply cd_n <;> intro h) | (apply cd_t; (first | exact rfl | assumption)) | (apply cd_f; (first | exact rfl | assumption)) | (apply cd_d <;> intro h) | (apply cd_s <;> intro h))
        | (apply aops_lenS; exact rfl; exact rfl; exact rfl)
        | (apply aops_lenL; exact rfl; exact rfl; exact rfl; exact rfl)
        | (apply aops_concat; exact rfl; exact rfl; (first | omega | (simp only [List.length_append, List.length_cons, List.length_nil]; omega) | (simp; omega)))
        | (apply aops_add; exact rfl; exact rfl; exact wrap_i64 (by omega) (by omega))
        | (apply aops_sub; exact rfl; exact rfl; exact wrap_i64 (by omega) (by omega))
        | (apply aops_errNeNil; exact rfl; exact rfl)
        | (apply aops_nilNeNil; exact rfl; exact rfl)
        | (apply aops_errEqNil; exact rfl; exact rfl)
        | (apply aops_nilEqNil; exact rfl; exact rfl)
        | (apply aops_makeInterface; exact rfl; exact rfl)
        | apply aops_makeFunc
        | (apply aops_alloc; exact rfl; exact rfl)
        | (apply aops_box; exact rfl; exact rfl; exact rfl; exact rfl)
        | (apply aops_field; exact rfl; exact rfl; exact rfl)
        | (apply aops_fieldAddr_bx; exact rfl; exact rfl; exact rfl)
        | (apply aops_fieldAddr_pp; exact rfl; exact rfl; exact rfl; exact rfl)
        | (apply aops_load_pp; exact rfl; exact rfl; exact rfl)
        | (apply aops_load_loc; exact rfl; exact rfl; exact rfl; exact rfl; exact rfl)
        | (apply aops_store_loc; exact rfl; exact rfl; exact rfl; exact rfl; exact rfl; exact rfl; exact rfl; exact rfl; exact rfl; exact rfl; exact rfl)
        | (apply aops_idx; exact rfl; exact rfl; exact rfl; first | assumption | omega | (simp; omega))
        | (apply aops_upto; exact rfl; exact rfl; exact rfl; first | assumption | omega | (simp; omega))
        | (apply aops_from; exact rfl; exact rfl; exact rfl; first | assumption | omega | (simp; omega))
        | (apply aops_span; exact rfl; exact rfl; exact rfl; exact rfl; (first | assumption | omega | (simp; omega)); first | assumption | omega | (simp; omega))
        | (apply aops_build; exact rfl; exact rfl; exact rfl)
        | (apply aops_buildSlice; exact rfl; exact rfl; exact rfl; exact rfl; exact rfl; exact rfl; exact rfl; exact rfl; exact rfl)
        | (apply aops_nilCheck; exact rfl; exact rfl)
        | (apply aops_ptrEqNil; exact rfl; exact rfl; exact rfl)
        | (apply aops_ptrNeNil; exact rfl; exact rfl; exact rfl)
        | (apply aops_xor32; exact rfl; exact rfl; (first | exact ofInt_toNat _ | exact rfl); first | exact ofInt_toNat _ | exact rfl)
        | (apply aops_and32; exact rfl; exact rfl; (first | exact ofInt_toNat _ | exact rfl); first | exact ofInt_toNat _ | exact rfl)
        | (apply aops_or32; exact rfl; exact rfl; (first | exact ofInt_toNat _ | exact rfl); first | exact ofInt_toNat _ | exact rfl)
        | (apply aops_compl32; exact rfl)
        | (apply aops_shl32; exact rfl; exact rfl; exact rfl)
        | (apply aops_shr32; exact rfl; exact rfl; exact rfl)
        | (apply aops_indexA; exact rfl; exact rfl; exact rfl; exact rfl; (first | assumption | omega | decide); exact rfl)
        | (apply aops_indexAddrA; exact rfl; exact rfl; exact rfl; exact rfl; first | assumption | omega | decide)
        | (apply awp_draw; exact rfl; kernel_rfl)
        | apply aq_nil
        | (apply aq_idx; exact rfl; exact rfl; exact rfl; first | assumption | omega | (simp; omega))
        | (apply aq_shr4; exact rfl; exact rfl)
        | (apply aq_and15; exact rfl; exact rfl)
        | (apply aq_convW; exact rfl; exact rfl; exact rfl; omega)
        | (apply aq_buildA; exact rfl; exact rfl; exact rfl)
        | apply aq_move
        | apply aq_assign
        | (apply aq_add; exact rfl; exact rfl; exact wrap_i64 (by omega) (by omega))
        | (apply aq_lenS; exact rfl; exact rfl; exact rfl)
        | (apply aq_upto; exact rfl; exact rfl; exact rfl; first | assumption | omega | (simp; omega))
        | (apply aq_from; exact rfl; exact rfl; exact rfl; first | assumption | omega | (simp; omega))
        | (apply aq_extract; exact rfl; exact rfl)
        | apply awp_skip
        | apply awp_exit
        | apply awp_ret
        | (apply aops_load_loc; exact rfl; exact rfl; exact rfl; exact rfl; exact tab_load hn1))
      subst hz
      exact ⟨1, ⟨by omega, stA_mk' ⟨rfl, rfl, rfl, rfl, rfl, rfl, rfl, trivial⟩ rfl⟩, by omega⟩
    · skip
      repeat' (first
        | apply awp_seq
        | apply awp_block
        | apply awp_region
        | apply aops_nil
        | apply aops_move
        | apply aops_assign
        | (apply aops_extract; exact rfl; exact rfl)
        | (apply aops_cmpI; exact rfl; exact rfl; exact rfl)
        | (apply aops_cmpS; exact rfl; exact rfl; exact rfl)
        | (apply aops_not_d; exact rfl)
        | (apply aops_not; exact rfl)
        | (apply aops_guard_any; exact rfl; exact rfl; exact rfl; exact rfl)
        | (apply gd_run_d; (first | assumption | omega))
        | (apply gd_run_n; (first | assumption | omega))
        | (apply gd_skip_d; (first | assumption | omega))
        | (apply gd_skip_n; (first | assumption | omega))
        | (apply aops_guard_undef; exact rfl; exact rfl; exact rfl; exact rfl)
        | (apply gd_run_nt; (first | exact rfl | assumption))
        | (apply gd_run_nf; (first | exact rfl | assumption))
        | (apply gd_skip_nt; (first | exact rfl | assumption))
        | (apply gd_skip_nf; (first | exact rfl | assumption))
        | (apply gd_split_n <;> intro h)
        | (apply gd_run_t; (first | exact rfl | assumption))
        | (apply gd_run_f; (first | exact rfl | assumption))
        | (apply gd_skip_t; (first | exact rfl | assumption))
        | (apply gd_skip_f; (first | exact rfl | assumption))
        | (apply gd_split_d <;> intro h)
        | (apply gd_split <;> intro h)
        | (apply aops_pick_any; exact rfl; first | (apply pk_dt; (first | assumption | omega)) | (apply pk_df; (first | assumption | omega)) | (apply pk_nt; (first | exact rfl | assumption)) | (apply pk_nf; (first | exact rfl | assumption)) | (apply pk_t; (first | exact rfl | assumption)) | (apply pk_f; (first | exact rfl | assumption)))
        | (apply awp_cond_any; exact rfl; first | (apply cd_dt; (first | assumption | omega)) | (apply cd_df; (first | assumption | omega)) | (apply cd_nt; (first | exact rfl | assumption)) | (apply cd_nf; (first | exact rfl | assumption)) | (apply cd_n <;> intro h) | (apply cd_t; (first | exact rfl | assumption)) | (apply cd_f; (first | exact rfl | assumption)) | (apply cd_d <;> intro h) | (apply cd_s <;> intro h))
        | (apply aops_lenS; exact rfl; exact rfl; exact rfl)
        | (apply aops_lenL; exact rfl; exact rfl; exact rfl; exact rfl)
        | (apply aops_concat; exact rfl; exact rfl; (first | omega | (simp only [List.length_append, List.length_cons, List.length_nil]; omega) | (simp; omega)))
        | (apply aops_add; exact rfl; exact rfl; exact wrap_i64 (by omega) (by omega))
        | (apply aops_sub; exact rfl; exact rfl; exact wrap_i64 (by omega) (by omega))
        | (apply aops_errNeNil; exact rfl; exact rfl)
        | (apply aops_nilNeNil; exact rfl; exact rfl)
        | (apply aops_errEqNil; exact rfl; exact rfl)
        | (apply aops_nilEqNil; exact rfl; exact rfl)
        | (apply aops_makeInterface; exact rfl; exact rfl)
        | apply aops_makeFunc
        | (apply aops_alloc; exact rfl; exact rfl)
        | (apply aops_box; exact rfl; exact rfl; exact rfl; exact rfl)
        | (apply aops_field; exact rfl; exact rfl; exact rfl)
        | (apply aops_fieldAddr_bx; exact rfl; exact rfl; exact rfl)
        | (apply aops_fieldAddr_pp; exact rfl; exact rfl; exact rfl; exact rfl)
        | (apply aops_load_pp; exact rfl; exact rfl; exact rfl)
        | (apply aops_load_loc; exact rfl; exact rfl; exact rfl; exact rfl; exact rfl)
        | (apply aops_store_loc; exact rfl; exact rfl; exact rfl; exact rfl; exact rfl; exact rfl; exact rfl; exact rfl; exact rfl; exact rfl; exact rfl)
        | (apply aops_idx; exact rfl; exact rfl; exact rfl; first | assumption | omega | (simp; omega))
        | (apply aops_upto; exact rfl; exact rfl; exact rfl; first | assumption | omega | (simp; omega))
        | (apply aops_from; exact rfl; exact rfl; exact rfl; first | assumption | omega | (simp; omega))
        | (apply aops_span; exact rfl; exact rfl; exact rfl; exact rfl; (first | assumption | omega | (simp; omega)); first | assumption | omega | (simp; omega))
        | (apply aops_build; exact rfl; exact rfl; exact rfl)
        | (apply aops_buildSlice; exact rfl; exact rfl; exact rfl; exact rfl; exact rfl; exact rfl; exact rfl; exact rfl; exact rfl)
        | (apply aops_nilCheck; exact rfl; exact rfl)
        | (apply aops_ptrEqNil; exact rfl; exact rfl; exact rfl)
        | (apply aops_ptrNeNil; exact rfl; exact rfl; exact rfl)
        | (apply aops_xor32; exact rfl; exact rfl; (first | exact ofInt_toNat _ | exact rfl); first | exact ofInt_toNat _ | exact rfl)
        | (apply aops_and32; exact rfl; exact rfl; (first | exact ofInt_toNat _ | exact rfl); first | exact ofInt_toNat _ | exact rfl)
        | (apply aops_or32; exact rfl; exact rfl; (first | exact ofInt_toNat _ | exact rfl); first | exact ofInt_toNat _ | exact rfl)
        | (apply aops_compl32; exact rfl)
        | (apply aops_shl32; exact rfl; exact rfl; exact rfl)
        | (apply aops_shr32; exact rfl; exact rfl; exact rfl)
        | (apply aops_indexA; exact rfl; exact rfl; exact rfl; exact rfl; (first | assumption | omega | decide); exact rfl)
        | (apply aops_indexAddrA; exact rfl; exact rfl; exact rfl; exact rfl; first | assumption | omega | decide)
        | (apply awp_draw; exact rfl; kernel_rfl)
        | apply aq_nil
        | (apply aq_idx; exact rfl; exact rfl; exact rfl; first | assumption | omega | (simp; omega))
        | (apply aq_shr4; exact rfl; exact rfl)
        | (apply aq_and15; exact rfl; exact rfl)
        | (apply aq_convW; exact rfl; exact rfl; exact rfl; omega)
        | (apply aq_buildA; exact rfl; exact rfl; exact rfl)
        | apply aq_move
        | apply aq_assign
        | (apply aq_add; exact rfl; exact rfl; exact wrap_i64 (by omega) (by omega))
        | (apply aq_lenS; exact rfl; exact rfl; exact rfl)
        | (apply aq_upto; exact rfl; exact rfl; exact rfl; first | assumption | omega | (simp; omega))
        | (apply aq_from; exact rfl; exact rfl; exact rfl; first | assumption | omega | (simp; omega))
        | (apply aq_extract; exact rfl; exact rfl)
        | apply awp_skip
        | apply awp_exit
        | apply awp_ret
        | (apply aops_load_loc; exact rfl; exact rfl; exact rfl; exact rfl; exact tab_load hn2))
      subst hz
      exact ⟨2, ⟨by omega, stA_mk' ⟨rfl, rfl, rfl, rfl, rfl, rfl, rfl, trivial⟩ rfl⟩, by omega⟩
    · skip
      repeat' (first
        | apply awp_seq
        | apply awp_block
        | apply awp_region
        | apply aops_nil
        | apply aops_move
        | apply aops_assign
        | (apply aops_extract; exact rfl; exact rfl)
        | (apply aops_cmpI; exact rfl; exact rfl; exact rfl)
        | (apply aops_cmpS; exact rfl; exact rfl; exact rfl)
        | (apply aops_not_d; exact rfl)
        | (apply aops_not; exact rfl)
        | (apply aops_guard_any; exact rfl; exact rfl; exact rfl; exact rfl)
        | (apply gd_run_d; (first | assumption | omega))
        | (apply gd_run_n; (first | assumption | omega))
        | (apply gd_skip_d; (first | assumption | omega))
        | (apply gd_skip_n; (first | assumption | omega))
        | (apply aops_guard_undef; exact rfl; exact rfl; exact rfl; exact rfl)
        | (apply gd_run_nt; (first | exact rfl | assumption))
        | (apply gd_run_nf; (first | exact rfl | assumption))
        | (apply gd_skip_nt; (first | exact rfl | assumption))
        | (apply gd_skip_nf; (first | exact rfl | assumption))
        | (apply gd_split_n <;> intro h)
        | (apply gd_run_t; (first | exact rfl | assumption))
        | (apply gd_run_f; (first | exact rfl | assumption))
        | (apply gd_skip_t; (first | exact rfl | assumption))
        | (apply gd_skip_f; (first | exact rfl | assumption))
        | (apply gd_split_d <;> intro h)
        | (apply gd_split <;> intro h)
        | (apply aops_pick_any; exact rfl; first | (apply pk_dt; (first | assumption | omega)) | (apply pk_df; (first | assumption | omega)) | (apply pk_nt; (first | exact rfl | assumption)) | (apply pk_nf; (first | exact rfl | assumption)) | (apply pk_t; (first | exact rfl | assumption)) | (apply pk_f; (first | exact rfl | assumption)))
        | (apply awp_cond_any; exact rfl; first | (apply cd_dt; (first | assumption | omega)) | (apply cd_df; (first | assumption | omega)) | (apply cd_nt; (first | exact rfl | assumption)) | (apply cd_nf; (first | exact rfl | assumption)) | (apply cd_n <;> intro h) | (apply cd_t; (first | exact rfl | assumption)) | (apply cd_f; (first | exact rfl | assumption)) | (apply cd_d <;> intro h) | (apply cd_s <;> intro h))
        | (apply aops_lenS; exact rfl; exact rfl; exact rfl)
        | (apply aops_lenL; exact rfl; exact rfl; exact rfl; exact rfl)
        | (apply aops_concat; exact rfl; exact rfl; (first | omega | (simp only [List.length_append, List.length_cons, List.length_nil]; omega) | (simp; omega)))
        | (apply aops_add; exact rfl; exact rfl; exact wrap_i64 (by omega) (by omega))
        | (apply aops_sub; exact rfl; exact rfl; exact wrap_i64 (by omega) (by omega))
        | (apply aops_errNeNil; exact rfl; exact rfl)
        | (apply aops_nilNeNil; exact rfl; exact rfl)
        | (apply aops_errEqNil; exact rfl; exact rfl)
        | (apply aops_nilEqNil; exact rfl; exact rfl)
        | (apply aops_makeInterface; exact rfl; exact rfl)
        | apply aops_makeFunc
        | (apply aops_alloc; exact rfl; exact rfl)
        | (apply aops_box; exact rfl; exact rfl; exact rfl; exact rfl)
        | (apply aops_field; exact rfl; exact rfl; exact rfl)
        | (apply aops_fieldAddr_bx; exact rfl; exact rfl; exact rfl)
        | (apply aops_fieldAddr_pp; exact rfl; exact rfl; exact rfl; exact rfl)
        | (apply aops_load_pp; exact rfl; exact rfl; exact rfl)
        | (apply aops_load_loc; exact rfl; exact rfl; exact rfl; exact rfl; exact rfl)
        | (apply aops_store_loc; exact rfl; exact rfl; exact rfl; exact rfl; exact rfl; exact rfl; exact rfl; exact rfl; exact rfl; exact rfl; exact rfl)
        | (apply aops_idx; exact rfl; exact rfl; exact rfl; first | assumption | omega | (simp; omega))
        | (apply aops_upto; exact rfl; exact rfl; exact rfl; first | assumption | omega | (simp; omega))
        | (apply aops_from; exact rfl; exact rfl; exact rfl; first | assumption | omega | (simp; omega))
        | (apply aops_span; exact rfl; exact rfl; exact rfl; exact rfl; (first | assumption | omega | (simp; omega)); first | assumption | omega | (simp; omega))
        | (apply aops_build; exact rfl; exact rfl; exact rfl)
        | (apply aops_buildSlice; exact rfl; exact rfl; exact rfl; exact rfl; exact rfl; exact rfl; exact rfl; exact rfl; exact rfl)
        | (apply aops_nilCheck; exact rfl; exact rfl)
        | (apply aops_ptrEqNil; exact rfl; exact rfl; exact rfl)
        | (apply aops_ptrNeNil; exact rfl; exact rfl; exact rfl)
        | (apply aops_xor32; exact rfl; exact rfl; (first | exact ofInt_toNat _ | exact rfl); first | exact ofInt_toNat _ | exact rfl)
        | (apply aops_and32; exact rfl; exact rfl; (first | exact ofInt_toNat _ | exact rfl); first | exact ofInt_toNat _ | exact rfl)
        | (apply aops_or32; exact rfl; exact rfl; (first | exact ofInt_toNat _ | exact rfl); first | exact ofInt_toNat _ | exact rfl)
        | (apply aops_compl32; exact rfl)
        | (apply aops_shl32; exact rfl; exact rfl; exact rfl)
        | (apply aops_shr32; exact rfl; exact rfl; exact rfl)
        | (apply aops_indexA; exact rfl; exact rfl; exact rfl; exact rfl; (first | assumption | omega | decide); exact rfl)
        | (apply aops_indexAddrA; exact rfl; exact rfl; exact rfl; exact rfl; first | assumption | omega | decide)
        | (apply awp_draw; exact rfl; kernel_rfl)
        | apply aq_nil
        | (apply aq_idx; exact rfl; exact rfl; exact rfl; first | assumption | omega | (simp; omega))
        | (apply aq_shr4; exact rfl; exact rfl)
        | (apply aq_and15; exact rfl; exact rfl)
        | (apply aq_convW; exact rfl; exact rfl; exact rfl; omega)
        | (apply aq_buildA; exact rfl; exact rfl; exact rfl)
        | apply aq_move
        | apply aq_assign
        | (apply aq_add; exact rfl; exact rfl; exact wrap_i64 (by omega) (by omega))
        | (apply aq_lenS; exact rfl; exact rfl; exact rfl)
        | (apply aq_upto; exact rfl; exact rfl; exact rfl; first | assumption | omega | (simp; omega))
        | (apply aq_from; exact rfl; exact rfl; exact rfl; first | assumption | omega | (simp; omega))
        | (apply aq_extract; exact rfl; exact rfl)
        | apply awp_skip
        | apply awp_exit
        | apply awp_ret)
      subst hz
      refine ⟨k + 1, ⟨by omega, stA_mk' ⟨rfl, rfl, ?_, rfl, rfl, trivial⟩ rfl⟩, by omega⟩
      refine congrArg Wv (?_ : crcP y c = _)
      rw [take_next (by omega), List.foldl_append, hx, hcc]
      rfl
  · have e : k = l.length := by omega
    subst e
    refine aret_plain rfl (ares_one rfl) ⟨congrArg Wv (?_ : _ = _), _, rfl⟩
    unfold addP
    rw [← hx, List.take_length]
theorem sum1_c (l : List UInt8) (st : List AObj) (hl : l.length < 4294967281) : ACall E 24 [.sl 1 [Sv l] none] st fun r st' => r = Wv (addP 0 l) ∧ st' = st := by
  refine acall_pure (pure_v _) (acall_of_awp Tryz.func24 rfl (Nat.le_of_ble_eq_true rfl) ?_)
  repeat' (first
    | apply awp_seq
    | apply awp_block
    | apply awp_region
    | apply aops_nil
    | apply aops_move
    | apply aops_assign
    | (apply aops_extract; exact rfl; exact rfl)
    | (apply aops_cmpI; exact rfl; exact rfl; exact rfl)
    | (apply aops_cmpS; exact rfl; exact rfl; exact rfl)
    | (apply aops_not_d; exact rfl)
    | (apply aops_not; exact rfl)
    | (apply aops_guard_any; exact rfl; exact rfl; exact rfl; exact rfl)
    | (apply gd_run_d; (first | assumption | omega))
    | (apply gd_run_n; (first | assumption | omega))
    | (apply gd_skip_d; (first | assumption | omega))
    | (apply gd_skip_n; (first | assumption | omega))
    | (apply aops_guard_undef; exact rfl; exact rfl; exact rfl; exact rfl)
    | (apply gd_run_nt; (first | exact rfl | assumption))
    | (apply gd_run_nf; (first | exact rfl | assumption))
    | (apply gd_skip_nt; (first | exact rfl | assumption))
    | (apply gd_skip_nf; (first | exact rfl | assumption))
    | (apply gd_split_n <;> intro h)
    | (apply gd_run_t; (first | exact rfl | assumption))
    | (apply gd_run_f; (first | exact rfl | assumption))
    | (apply gd_skip_t; (first | exact rfl | assumption))
    | (apply gd_skip_f; (first | exact rfl | assumption))
    | (apply gd_split_d <;> intro h)
    | (apply gd_split <;> intro h)
    | (apply aops_pick_any; exact rfl; first | (apply pk_dt; (first | assumption | omega)) | (apply pk_df; (first | assumption | omega)) | (apply pk_nt; (first | exact rfl | assumption)) | (apply pk_nf; (first | exact rfl | assumption)) | (apply pk_t; (first | exact rfl | assumption)) | (apply pk_f; (first | exact rfl | assumption)))
    | (apply awp_cond_any; exact rfl; first | (apply cd_dt; (first | assumption | omega)) | (apply cd_df; (first | assumption | omega)) | (apply cd_nt; (first | exact rfl | assumption)) | (apply cd_nf; (first | exact rfl | assumption)) | (apply cd_n <;> intro h) | (apply cd_t; (first | exact rfl | assumption)) | (apply cd_f; (first | exact rfl | assumption)) | (apply cd_d <;> intro h) | (apply cd_s <;> intro h))
    | (apply aops_lenS; exact rfl; exact rfl; exact rfl)
    | (apply aops_lenL; exact rfl; exact rfl; exact rfl; exact rfl)
    | (apply aops_concat; exact rfl; exact rfl; (first | omega | (simp only [List.length_append, List.length_cons, List.length_nil]; omega) | (simp; omega)))
    | (apply aops_add; exact rfl; exact rfl; exact wrap_i64 (by omega) (by omega))
    | (apply aops_sub; exact rfl; exact rfl; exact wrap_i64 (by omega) (by omega))
    | (apply aops_errNeNil; exact rfl; exact rfl)
    | (apply aops_nilNeNil; exact rfl; exact rfl)
    | (apply aops_errEqNil; exact rfl; exact rfl)
    | (apply aops_nilEqNil; exact rfl; exact rfl)
    | (apply aops_makeInterface; exact rfl; exact rfl)
    | apply aops_makeFunc
    | (apply aops_alloc; exact rfl; exact rfl)
    | (apply aops_box; exact rfl; exact rfl; exact rfl; exact rfl)
    | (apply aops_field; exact rfl; exact rfl; exact rfl)
    | (apply aops_fieldAddr_bx; exact rfl; exact rfl; exact rfl)
    | (apply aops_fieldAddr_pp; exact rfl; exact rfl; exact rfl; exact rfl)
    | (apply aops_load_pp; exact rfl; exact rfl; exact rfl)
    | (apply aops_load_loc; exact rfl; exact rfl; exact rfl; exact rfl; exact rfl)
    | (apply aops_store_loc; exact rfl; exact rfl; exact rfl; exact rfl; exact rfl; exact rfl; exact rfl; exact rfl; exact rfl; exact rfl; exact rfl)
    | (apply aops_idx; exact rfl; exact rfl; exact rfl; first | assumption | omega | (simp; omega))
    | (apply aops_upto; exact rfl; exact rfl; exact rfl; first | assumption | omega | (simp; omega))
    | (apply aops_from; exact rfl; exact rfl; exact rfl; first | assumption | omega | (simp; omega))
    | (apply aops_span; exact rfl; exact rfl; exact rfl; exact rfl; (first | assumption | omega | (simp; omega)); first | assumption | omega | (simp; omega))
    | (apply aops_build; exact rfl; exact rfl; exact rfl)
    | (apply aops_buildSlice; exact rfl; exact rfl; exact rfl; exact rfl; exact rfl; exact rfl; exact rfl; exact rfl; exact rfl)
    | (apply aops_nilCheck; exact rfl; exact rfl)
    | (apply aops_ptrEqNil; exact rfl; exact rfl; exact rfl)
    | (apply aops_ptrNeNil; exact rfl; exact rfl; exact rfl)
    | (apply aops_xor32; exact rfl; exact rfl; (first | exact ofInt_toNat _ | exact rfl); first | exact ofInt_toNat _ | exact rfl)
    | (apply aops_and32; exact rfl; exact rfl; (first | exact ofInt_toNat _ | exact rfl); first | exact ofInt_toNat _ | exact rfl)
    | (apply aops_or32; exact rfl; exact rfl; (first | exact ofInt_toNat _ | exact rfl); first | exact ofInt_toNat _ | exact rfl)
    | (apply aops_compl32; exact rfl)
    | (apply aops_shl32; exact rfl; exact rfl; exact rfl)
    | (apply aops_shr32; exact rfl; exact rfl; exact rfl)
    | (apply aops_indexA; exact rfl; exact rfl; exact rfl; exact rfl; (first | assumption | omega | decide); exact rfl)
    | (apply aops_indexAddrA; exact rfl; exact rfl; exact rfl; exact rfl; first | assumption | omega | decide)
    | (apply awp_draw; exact rfl; kernel_rfl)
    | apply aq_nil
    | (apply aq_idx; exact rfl; exact rfl; exact rfl; first | assumption | omega | (simp; omega))
    | (apply aq_shr4; exact rfl; exact rfl)
    | (apply aq_and15; exact rfl; exact rfl)
    | (apply aq_convW; exact rfl; exact rfl; exact rfl; omega)
    | (apply aq_buildA; exact rfl; exact rfl; exact rfl)
    | apply aq_move
    | apply aq_assign
    | (apply aq_add; exact rfl; exact rfl; exact wrap_i64 (by omega) (by omega))
    | (apply aq_lenS; exact rfl; exact rfl; exact rfl)
    | (apply aq_upto; exact rfl; exact rfl; exact rfl; first | assumption | omega | (simp; omega))
    | (apply aq_from; exact rfl; exact rfl; exact rfl; first | assumption | omega | (simp; omega))
    | (apply aq_extract; exact rfl; exact rfl)
    | apply awp_skip
    | apply awp_exit
    | apply awp_ret)
  refine awp_loopG (fun (k : Nat) s => k ≤ 1 ∧ StA [(3, Wv (if k = 0 then 0 else addP 0 l)), (6, .sl 1 [Sv l] none), (7, Iv 1), (8, Iv k)] (st ++ []) [] s) (fun k => 1 - k) 0 ⟨by omega, stA_mk' ⟨rfl, rfl, rfl, rfl, trivial⟩ rfl⟩ ?_
  rintro k _ ⟨hk, t, rfl⟩
  have hk2 : k = 0 ∨ k = 1 := by omega
  rcases hk2 with rfl | rfl
  · skip
    repeat' (first
      | apply awp_seq
      | apply awp_block
      | apply awp_region
      | apply aops_nil
      | apply aops_move
      | apply aops_assign
      | (apply aops_extract; exact rfl; exact rfl)
      | (apply aops_cmpI; exact rfl; exact rfl; exact rfl)
      | (apply aops_cmpS; exact rfl; exact rfl; exact rfl)
      | (apply aops_not_d; exact rfl)
      | (apply aops_not; exact rfl)
      | (apply aops_guard_any; exact rfl; exact rfl; exact rfl; exact rfl)
      | (apply gd_run_d; (first | assumption | omega))
      | (apply gd_run_n; (first | assumption | omega))
      | (apply gd_skip_d; (first | assumption | omega))
      | (apply gd_skip_n; (first | assumption | omega))
      | (apply aops_guard_undef; exact rfl; exact rfl; exact rfl; exact rfl)
      | (apply gd_run_nt; (first | exact rfl | assumption))
      | (apply gd_run_nf; (first | exact rfl | assumption))
      | (apply gd_skip_nt; (first | exact rfl | assumption))
      | (apply gd_skip_nf; (first | exact rfl | assumption))
      | (apply gd_split_n <;> intro h)
      | (apply gd_run_t; (first | exact rfl | assumption))
      | (apply gd_run_f; (first | exact rfl | assumption))
      | (apply gd_skip_t; (first | exact rfl | assumption))
      | (apply gd_skip_f; (first | exact rfl | assumption))
      | (apply gd_split_d <;> intro h)
      | (apply gd_split <;> intro h)
      | (apply aops_pick_any; exact rfl; first | (apply pk_dt; (first | assumption | omega)) | (apply pk_df; (first | assumption | omega)) | (apply pk_nt; (first | exact rfl | assumption)) | (apply pk_nf; (first | exact rfl | assumption)) | (apply pk_t; (first | exact rfl | assumption)) | (apply pk_f; (first | exact rfl | assumption)))
      | (apply awp_cond_any; exact rfl; first | (apply cd_dt; (first | assumption | omega)) | (apply cd_df; (first | assumption | omega)) | (apply cd_nt; (first | exact rfl | assumption)) | (apply cd_nf; (first | exact rfl | assumption)) | (apply cd_n <;> intro h) | (apply cd_t; (first | exact rfl | assumption)) | (apply cd_f; (first | exact rfl | assumption)) | (apply cd_d <;> intro h) | (apply cd_s <;> intro h))
      | (apply aops_lenS; exact rfl; exact rfl; exact rfl)
      | (apply aops_lenL; exact rfl; exact rfl; exact rfl; exact rfl)
      | (apply aops_concat; exact rfl; exact rfl; (first | omega | (simp only [List.length_append, List.length_cons, List.length_nil]; omega) | (simp; omega)))
      | (apply aops_add; exact rfl; exact rfl; exact wrap_i64 (by omega) (by omega))
      | (apply aops_sub; exact rfl; exact rfl; exact wrap_i64 (by omega) (by omega))
      | (apply aops_errNeNil; exact rfl; exact rfl)
      | (apply aops_nilNeNil; exact rfl; exact rfl)
      | (apply aops_errEqNil; exact rfl; exact rfl)
      | (apply aops_nilEqNil; exact rfl; exact rfl)
      | (apply aops_makeInterface; exact rfl; exact rfl)
      | apply aops_makeFunc
      | (apply aops_alloc; exact rfl; exact rfl)
      | (apply aops_box; exact rfl; exact rfl; exact rfl; exact rfl)
      | (apply aops_field; exact rfl; exact rfl; exact rfl)
      | (apply aops_fieldAddr_bx; exact rfl; exact rfl; exact rfl)
      | (apply aops_fieldAddr_pp; exact rfl; exact rfl; exact rfl; exact rfl)
      | (apply aops_load_pp; exact rfl; exact rfl; exact rfl)
      | (apply aops_load_loc; exact rfl; exact rfl; exact rfl; exact rfl; exact rfl)
      | (apply aops_store_loc; exact rfl; exact rfl; exact rfl; exact rfl; exact rfl; exact rfl; exact rfl; exact rfl; exact rfl; exact rfl; exact rfl)
      | (apply aops_idx; exact rfl; exact rfl; exact rfl; first | assumption | omega | (simp; omega))
      | (apply aops_upto; exact rfl; exact rfl; exact rfl; first | assumption | omega | (simp; omega))
      | (apply aops_from; exact rfl; exact rfl; exact rfl; first | assumption | omega | (simp; omega))
      | (apply aops_span; exact rfl; exact rfl; exact rfl; exact rfl; (first | assumption | omega | (simp; omega)); first | assumption | omega | (simp; omega))
      | (apply aops_build; exact rfl; exact rfl; exact rfl)
      | (apply aops_buildSlice; exact rfl; exact rfl; exact rfl; exact rfl; exact rfl; exact rfl; exact rfl; exact rfl; exact rfl)
      | (apply aops_nilCheck; exact rfl; exact rfl)
      | (apply aops_ptrEqNil; exact rfl; exact rfl; exact rfl)
      | (apply aops_ptrNeNil; exact rfl; exact rfl; exact rfl)
      | (apply aops_xor32; exact rfl; exact rfl; (first | exact ofInt_toNat _ | exact rfl); first | exact ofInt_toNat _ | exact rfl)
      | (apply aops_and32; exact rfl; exact rfl; (first | exact ofInt_toNat _ | exact rfl); first | exact ofInt_toNat _ | exact rfl)
      | (apply aops_or32; exact rfl; exact rfl; (first | exact ofInt_toNat _ | exact rfl); first | exact ofInt_toNat _ | exact rfl)
      | (apply aops_compl32; exact rfl)
      | (apply aops_shl32; exact rfl; exact rfl; exact rfl)
      | (apply aops_shr32; exact rfl; exact rfl; exact rfl)
      | (apply aops_indexA; exact rfl; exact rfl; exact rfl; exact rfl; (first | assumption | omega | decide); exact rfl)
      | (apply aops_indexAddrA; exact rfl; exact rfl; exact rfl; exact rfl; first | assumption | omega | decide)
      | (apply awp_draw; exact rfl; kernel_rfl)
      | apply aq_nil
      | (apply aq_idx; exact rfl; exact rfl; exact rfl; first | assumption | omega | (simp; omega))
      | (apply aq_shr4; exact rfl; exact rfl)
      | (apply aq_and15; exact rfl; exact rfl)
      | (apply aq_convW; exact rfl; exact rfl; exact rfl; omega)
      | (apply aq_buildA; exact rfl; exact rfl; exact rfl)
      | apply aq_move
      | apply aq_assign
      | (apply aq_add; exact rfl; exact rfl; exact wrap_i64 (by omega) (by omega))
      | (apply aq_lenS; exact rfl; exact rfl; exact rfl)
      | (apply aq_upto; exact rfl; exact rfl; exact rfl; first | assumption | omega | (simp; omega))
      | (apply aq_from; exact rfl; exact rfl; exact rfl; first | assumption | omega | (simp; omega))
      | (apply aq_extract; exact rfl; exact rfl)
      | apply awp_skip
      | apply awp_exit
      | apply awp_ret
      | (apply aops_indexAddr; exact rfl; exact rfl; exact rfl; exact rfl; exact (rfl : (0 : Int) = ((0 : Nat) : Int)); exact rfl)
      | (apply aops_call1; exact Tryz.call49; exact add_c 0 _ _ hl))
    exact ⟨1, ⟨by omega, stA_mk' ⟨rfl, rfl, rfl, rfl, trivial⟩ rfl⟩, by omega⟩
  · skip
    repeat' (first
      | apply awp_seq
      | apply awp_block
      | apply awp_region
      | apply aops_nil
      | apply aops_move
      | apply aops_assign
      | (apply aops_extract; exact rfl; exact rfl)
      | (apply aops_cmpI; exact rfl; exact rfl; exact rfl)
      | (apply aops_cmpS; exact rfl; exact rfl; exact rfl)
      | (apply aops_not_d; exact rfl)
      | (apply aops_not; exact rfl)
      | (apply aops_guard_any; exact rfl; exact rfl; exact rfl; exact rfl)
      | (apply gd_run_d; (first | assumption | omega))
      | (apply gd_run_n; (first | assumption | omega))
      | (apply gd_skip_d; (first | assumption | omega))
      | (apply gd_skip_n; (first | assumption | omega))
      | (apply aops_guard_undef; exact rfl; exact rfl; exact rfl; exact rfl)
      | (apply gd_run_nt; (first | exact rfl | assumption))
      | (apply gd_run_nf; (first | exact rfl | assumption))
      | (apply gd_skip_nt; (first | exact rfl | assumption))
      | (apply gd_skip_nf; (first | exact rfl | assumption))
      | (apply gd_split_n <;> intro h)
      | (apply gd_run_t; (first | exact rfl | assumption))
      | (apply gd_run_f; (first | exact rfl | assumption))
      | (apply gd_skip_t; (first | exact rfl | assumption))
      | (apply gd_skip_f; (first | exact rfl | assumption))
      | (apply gd_split_d <;> intro h)
      | (apply gd_split <;> intro h)
      | (apply aops_pick_any; exact rfl; first | (apply pk_dt; (first | assumption | omega)) | (apply pk_df; (first | assumption | omega)) | (apply pk_nt; (first | exact rfl | assumption)) | (apply pk_nf; (first | exact rfl | assumption)) | (apply pk_t; (first | exact rfl | assumption)) | (apply pk_f; (first | exact rfl | assumption)))
      | (apply awp_cond_any; exact rfl; first | (apply cd_dt; (first | assumption | omega)) | (apply cd_df; (first | assumption | omega)) | (apply cd_nt; (first | exact rfl | assumption)) | (apply cd_nf; (first | exact rfl | assumption)) | (apply cd_n <;> intro h) | (apply cd_t; (first | exact rfl | assumption)) | (apply cd_f; (first | exact rfl | assumption)) | (apply cd_d <;> intro h) | (apply cd_s <;> intro h))
      | (apply aops_lenS; exact rfl; exact rfl; exact rfl)
      | (apply aops_lenL; exact rfl; exact rfl; exact rfl; exact rfl)
      | (apply aops_concat; exact rfl; exact rfl; (first | omega | (simp only [List.length_append, List.length_cons, List.length_nil]; omega) | (simp; omega)))
      | (apply aops_add; exact rfl; exact rfl; exact wrap_i64 (by omega) (by omega))
      | (apply aops_sub; exact rfl; exact rfl; exact wrap_i64 (by omega) (by omega))
      | (apply aops_errNeNil; exact rfl; exact rfl)
      | (apply aops_nilNeNil; exact rfl; exact rfl)
      | (apply aops_errEqNil; exact rfl; exact rfl)
      | (apply aops_nilEqNil; exact rfl; exact rfl)
      | (apply aops_makeInterface; exact rfl; exact rfl)
      | apply aops_makeFunc
      | (apply aops_alloc; exact rfl; exact rfl)
      | (apply aops_box; exact rfl; exact rfl; exact rfl; exact rfl)
      | (apply aops_field; exact rfl; exact rfl; exact rfl)
      | (apply aops_fieldAddr_bx; exact rfl; exact rfl; exact rfl)
      | (apply aops_fieldAddr_pp; exact rfl; exact rfl; exact rfl; exact rfl)
      | (apply aops_load_pp; exact rfl; exact rfl; exact rfl)
      | (apply aops_load_loc; exact rfl; exact rfl; exact rfl; exact rfl; exact rfl)
      | (apply aops_store_loc; exact rfl; exact rfl; exact rfl; exact rfl; exact rfl; exact rfl; exact rfl; exact rfl; exact rfl; exact rfl; exact rfl)
      | (apply aops_idx; exact rfl; exact rfl; exact rfl; first | assumption | omega | (simp; omega))
      | (apply aops_upto; exact rfl; exact rfl; exact rfl; first | assumption | omega | (simp; omega))
      | (apply aops_from; exact rfl; exact rfl; exact rfl; first | assumption | omega | (simp; omega))
      | (apply aops_span; exact rfl; exact rfl; exact rfl; exact rfl; (first | assumption | omega | (simp; omega)); first | assumption | omega | (simp; omega))
      | (apply aops_build; exact rfl; exact rfl; exact rfl)
      | (apply aops_buildSlice; exact rfl; exact rfl; exact rfl; exact rfl; exact rfl; exact rfl; exact rfl; exact rfl; exact rfl)
      | (apply aops_nilCheck; exact rfl; exact rfl)
      | (apply aops_ptrEqNil; exact rfl; exact rfl; exact rfl)
      | (apply aops_ptrNeNil; exact rfl; exact rfl; exact rfl)
      | (apply aops_xor32; exact rfl; exact rfl; (first | exact ofInt_toNat _ | exact rfl); first | exact ofInt_toNat _ | exact rfl)
      | (apply aops_and32; exact rfl; exact rfl; (first | exact ofInt_toNat _ | exact rfl); first | exact ofInt_toNat _ | exact rfl)
      | (apply aops_or32; exact rfl; exact rfl; (first | exact ofInt_toNat _ | exact rfl); first | exact ofInt_toNat _ | exact rfl)
      | (apply aops_compl32; exact rfl)
      | (apply aops_shl32; exact rfl; exact rfl; exact rfl)
      | (apply aops_shr32; exact rfl; exact rfl; exact rfl)
      | (apply aops_indexA; exact rfl; exact rfl; exact rfl; exact rfl; (first | assumption | omega | decide); exact rfl)
      | (apply aops_indexAddrA; exact rfl; exact rfl; exact rfl; exact rfl; first | assumption | omega | decide)
      | (apply awp_draw; exact rfl; kernel_rfl)
      | apply aq_nil
      | (apply aq_idx; exact rfl; exact rfl; exact rfl; first | assumption | omega | (simp; omega))
      | (apply aq_shr4; exact rfl; exact rfl)
      | (apply aq_and15; exact rfl; exact rfl)
      | (apply aq_convW; exact rfl; exact rfl; exact rfl; omega)
      | (apply aq_buildA; exact rfl; exact rfl; exact rfl)
      | apply aq_move
      | apply aq_assign
      | (apply aq_add; exact rfl; exact rfl; exact wrap_i64 (by omega) (by omega))
      | (apply aq_lenS; exact rfl; exact rfl; exact rfl)
      | (apply aq_upto; exact rfl; exact rfl; exact rfl; first | assumption | omega | (simp; omega))
      | (apply aq_from; exact rfl; exact rfl; exact rfl; first | assumption | omega | (simp; omega))
      | (apply aq_extract; exact rfl; exact rfl)
      | apply awp_skip
      | apply awp_exit
      | apply awp_ret)
    exact aret_plain rfl (ares_one rfl) ⟨rfl, _, rfl⟩
def figP (s : BitVec 32) (j : Nat) : UInt8 := [48, 49, 50, 51, 52, 53, 54, 55, 56, 57, 97, 98, 99, 100, 101, 102].getD ((s >>> (4 * (7 - j))) &&& BitVec.ofInt 32 15).toNat 0
def figsP (s : BitVec 32) (n : Nat) : List UInt8 := (List.range n).map (figP s)
theorem figures_c (x : BitVec 32) (st : List AObj) : ACall E 23 [Wv x] st fun r st' => r = Sv (figsP x 8) ∧ st' = st := by
  refine acall_pure (pure_v _) (acall_of_awp Tryz.func23 rfl (Nat.le_of_ble_eq_true rfl) ?_)
  repeat' (first
    | apply awp_seq
    | apply awp_block
    | apply awp_region
    | apply aops_nil
    | apply aops_move
    | apply aops_assign
    | (apply aops_extract; exact rfl; exact rfl)
    | (apply aops_cmpI; exact rfl; exact rfl; exact rfl)
    | (apply aops_cmpS; exact rfl; exact rfl; exact rfl)
    | (apply aops_not_d; exact rfl)
    | (apply aops_not; exact rfl)
    | (apply aops_guard_any; exact rfl; exact rfl; exact rfl; exact rfl)
    | (apply gd_run_d; (first | assumption | omega))
    | (apply gd_run_n; (first | assumption | omega))
    | (apply gd_skip_d; (first | assumption | omega))
    | (apply gd_skip_n; (first | assumption | omega))
    | (apply aops_guard_undef; exact rfl; exact rfl; exact rfl; exact rfl)
    | (apply gd_run_nt; (first | exact rfl | assumption))
    | (apply gd_run_nf; (first | exact rfl | assumption))
    | (apply gd_skip_nt; (first | exact rfl | assumption))
    | (apply gd_skip_nf; (first | exact rfl | assumption))
    | (apply gd_split_n <;> intro h)
    | (apply gd_run_t; (first | exact rfl | assumption))
    | (apply gd_run_f; (first | exact rfl | assumption))
    | (apply gd_skip_t; (first | exact rfl | assumption))
    | (apply gd_skip_f; (first | exact rfl | assumption))
    | (apply gd_split_d <;> intro h)
    | (apply gd_split <;> intro h)
    | (apply aops_pick_any; exact rfl; first | (apply pk_dt; (first | assumption | omega)) | (apply pk_df; (first | assumption | omega)) | (apply pk_nt; (first | exact rfl | assumption)) | (apply pk_nf; (first | exact rfl | assumption)) | (apply pk_t; (first | exact rfl | assumption)) | (apply pk_f; (first | exact rfl | assumption)))
    | (apply awp_cond_any; exact rfl; first | (apply cd_dt; (first | assumption | omega)) | (apply cd_df; (first | assumption | omega)) | (apply cd_nt; (first | exact rfl | assumption)) | (apply cd_nf; (first | exact rfl | assumption)) | (apply cd_n <;> intro h) | (apply cd_t; (first | exact rfl | assumption)) | (apply cd_f; (first | exact rfl | assumption)) | (apply cd_d <;> intro h) | (apply cd_s <;> intro h))
    | (apply aops_lenS; exact rfl; exact rfl; exact rfl)
    | (apply aops_lenL; exact rfl; exact rfl; exact rfl; exact rfl)
    | (apply aops_concat; exact rfl; exact rfl; (first | omega | (simp only [List.length_append, List.length_cons, List.length_nil]; omega) | (simp; omega)))
    | (apply aops_add; exact rfl; exact rfl; exact wrap_i64 (by omega) (by omega))
    | (apply aops_sub; exact rfl; exact rfl; exact wrap_i64 (by omega) (by omega))
    | (apply aops_errNeNil; exact rfl; exact rfl)
    | (apply aops_nilNeNil; exact rfl; exact rfl)
    | (apply aops_errEqNil; exact rfl; exact rfl)
    | (apply aops_nilEqNil; exact rfl; exact rfl)
    | (apply aops_makeInterface; exact rfl; exact rfl)
    | apply aops_makeFunc
    | (apply aops_alloc; exact rfl; exact rfl)
    | (apply aops_box; exact rfl; exact rfl; exact rfl; exact rfl)
    | (apply aops_field; exact rfl; exact rfl; exact rfl)
    | (apply aops_fieldAddr_bx; exact rfl; exact rfl; exact rfl)
    | (apply aops_fieldAddr_pp; exact rfl; exact rfl; exact rfl; exact rfl)
    | (apply aops_load_pp; exact rfl; exact rfl; exact rfl)
    | (apply aops_load_loc; exact rfl; exact rfl; exact rfl; exact rfl; exact rfl)
    | (apply aops_store_loc; exact rfl; exact rfl; exact rfl; exact rfl; exact rfl; exact rfl; exact rfl; exact rfl; exact rfl; exact rfl; exact rfl)
    | (apply aops_idx; exact rfl; exact rfl; exact rfl; first | assumption | omega | (simp; omega))
    | (apply aops_upto; exact rfl; exact rfl; exact rfl; first | assumption | omega | (simp; omega))
    | (apply aops_from; exact rfl; exact rfl; exact rfl; first | assumption | omega | (simp; omega))
    | (apply aops_span; exact rfl; exact rfl; exact rfl; exact rfl; (first | assumption | omega | (simp; omega)); first | assumption | omega | (simp; omega))
    | (apply aops_build; exact rfl; exact rfl; exact rfl)
    | (apply aops_buildSlice; exact rfl; exact rfl; exact rfl; exact rfl; exact rfl; exact rfl; exact rfl; exact rfl; exact rfl)
    | (apply aops_nilCheck; exact rfl; exact rfl)
    | (apply aops_ptrEqNil; exact rfl; exact rfl; exact rfl)
    | (apply aops_ptrNeNil; exact rfl; exact rfl; exact rfl)
    | (apply aops_xor32; exact rfl; exact rfl; (first | exact ofInt_toNat _ | exact rfl); first | exact ofInt_toNat _ | exact rfl)
    | (apply aops_and32; exact rfl; exact rfl; (first | exact ofInt_toNat _ | exact rfl); first | exact ofInt_toNat _ | exact rfl)
    | (apply aops_or32; exact rfl; exact rfl; (first | exact ofInt_toNat _ | exact rfl); first | exact ofInt_toNat _ | exact rfl)
    | (apply aops_compl32; exact rfl)
    | (apply aops_shl32; exact rfl; exact rfl; exact rfl)
    | (apply aops_shr32; exact rfl; exact rfl; exact rfl)
    | (apply aops_indexA; exact rfl; exact rfl; exact rfl; exact rfl; (first | assumption | omega | decide); exact rfl)
    | (apply aops_indexAddrA; exact rfl; exact rfl; exact rfl; exact rfl; first | assumption | omega | decide)
    | (apply awp_draw; exact rfl; kernel_rfl)
    | apply aq_nil
    | (apply aq_idx; exact rfl; exact rfl; exact rfl; first | assumption | omega | (simp; omega))
    | (apply aq_shr4; exact rfl; exact rfl)
    | (apply aq_and15; exact rfl; exact rfl)
    | (apply aq_convW; exact rfl; exact rfl; exact rfl; omega)
    | (apply aq_buildA; exact rfl; exact rfl; exact rfl)
    | apply aq_move
    | apply aq_assign
    | (apply aq_add; exact rfl; exact rfl; exact wrap_i64 (by omega) (by omega))
    | (apply aq_lenS; exact rfl; exact rfl; exact rfl)
    | (apply aq_upto; exact rfl; exact rfl; exact rfl; first | assumption | omega | (simp; omega))
    | (apply aq_from; exact rfl; exact rfl; exact rfl; first | assumption | omega | (simp; omega))
    | (apply aq_extract; exact rfl; exact rfl)
    | apply awp_skip
    | apply awp_exit
    | apply awp_ret)
  refine awp_tipCell (o := st.length + 0) (j := 1) (sz := 1) (T' := 5) (get_loc rfl) rfl ?_
  refine awp_loopG (fun (j : Nat) s => j ≤ 8 ∧ ∃ q, (q = .v (.pointer none) ∨ q = .bx (st.length + 0) 0 0) ∧ StA [(0, Wv x), (3, .bx (st.length + 0) 0 0), (4, Iv (7 - (j : Int)))] (st ++ [bldO 0 q (figsP x j) (st.length + 1), .tip (figsP x j).length 1 5]) [] s) (fun j => 8 - j) 0
    ⟨by omega, _, .inl rfl, stA_mk' ⟨rfl, rfl, rfl, trivial⟩ ?_⟩ ?_
  · show (st ++ [_]).set (st.length + 0) (.cells 0 62 [_, .sl 1 [] (some (st ++ [_]).length)]) ++ [_] = _
    rw [set_loc, List.append_assoc]
    simp [figsP]
  rintro j _ ⟨hj, q, hq, t, rfl⟩
  have hf : (figsP x j).length = j := by simp [figsP]
  repeat' (first
    | apply awp_seq
    | apply awp_block
    | apply awp_region
    | apply aops_nil
    | apply aops_move
    | apply aops_assign
    | (apply aops_extract; exact rfl; exact rfl)
    | (apply aops_cmpI; exact rfl; exact rfl; exact rfl)
    | (apply aops_cmpS; exact rfl; exact rfl; exact rfl)
    | (apply aops_not_d; exact rfl)
    | (apply aops_not; exact rfl)
    | (apply aops_guard_any; exact rfl; exact rfl; exact rfl; exact rfl)
    | (apply gd_run_d; (first | assumption | omega))
    | (apply gd_run_n; (first | assumption | omega))
    | (apply gd_skip_d; (first | assumption | omega))
    | (apply gd_skip_n; (first | assumption | omega))
    | (apply aops_guard_undef; exact rfl; exact rfl; exact rfl; exact rfl)
    | (apply gd_run_nt; (first | exact rfl | assumption))
    | (apply gd_run_nf; (first | exact rfl | assumption))
    | (apply gd_skip_nt; (first | exact rfl | assumption))
    | (apply gd_skip_nf; (first | exact rfl | assumption))
    | (apply gd_split_n <;> intro h)
    | (apply gd_run_t; (first | exact rfl | assumption))
    | (apply gd_run_f; (first | exact rfl | assumption))
    | (apply gd_skip_t; (first | exact rfl | assumption))
    | (apply gd_skip_f; (first | exact rfl | assumption))
    | (apply gd_split_d <;> intro h)
    | (apply gd_split <;> intro h)
    | (apply aops_pick_any; exact rfl; first | (apply pk_dt; (first | assumption | omega)) | (apply pk_df; (first | assumption | omega)) | (apply pk_nt; (first | exact rfl | assumption)) | (apply pk_nf; (first | exact rfl | assumption)) | (apply pk_t; (first | exact rfl | assumption)) | (apply pk_f; (first | exact rfl | assumption)))
    | (apply awp_cond_any; exact rfl; first | (apply cd_dt; (first | assumption | omega)) | (apply cd_df; (first | assumption | omega)) | (apply cd_nt; (first | exact rfl | assumption)) | (apply cd_nf; (first | exact rfl | assumption)) | (apply cd_n <;> intro h) | (apply cd_t; (first | exact rfl | assumption)) | (apply cd_f; (first | exact rfl | assumption)) | (apply cd_d <;> intro h) | (apply cd_s <;> intro h))
    | (apply aops_lenS; exact rfl; exact rfl; exact rfl)
    | (apply aops_lenL; exact rfl; exact rfl; exact rfl; exact rfl)
    | (apply aops_concat; exact rfl; exact rfl; (first | omega | (simp only [List.length_append, List.length_cons, List.length_nil]; omega) | (simp; omega)))
    | (apply aops_add; exact rfl; exact rfl; exact wrap_i64 (by omega) (by omega))
    | (apply aops_sub; exact rfl; exact rfl; exact wrap_i64 (by omega) (by omega))
    | (apply aops_errNeNil; exact rfl; exact rfl)
    | (apply aops_nilNeNil; exact rfl; exact rfl)
    | (apply aops_errEqNil; exact rfl; exact rfl)
    | (apply aops_nilEqNil; exact rfl; exact rfl)
    | (apply aops_makeInterface; exact rfl; exact rfl)
    | apply aops_makeFunc
    | (apply aops_alloc; exact rfl; exact rfl)
    | (apply aops_box; exact rfl; exact rfl; exact rfl; exact rfl)
    | (apply aops_field; exact rfl; exact rfl; exact rfl)
    | (apply aops_fieldAddr_bx; exact rfl; exact rfl; exact rfl)
    | (apply aops_fieldAddr_pp; exact rfl; exact rfl; exact rfl; exact rfl)
    | (apply aops_load_pp; exact rfl; exact rfl; exact rfl)
    | (apply aops_load_loc; exact rfl; exact rfl; exact rfl; exact rfl; exact rfl)
    | (apply aops_store_loc; exact rfl; exact rfl; exact rfl; exact rfl; exact rfl; exact rfl; exact rfl; exact rfl; exact rfl; exact rfl; exact rfl)
    | (apply aops_idx; exact rfl; exact rfl; exact rfl; first | assumption | omega | (simp; omega))
    | (apply aops_upto; exact rfl; exact rfl; exact rfl; first | assumption | omega | (simp; omega))
    | (apply aops_from; exact rfl; exact rfl; exact rfl; first | assumption | omega | (simp; omega))
    | (apply aops_span; exact rfl; exact rfl; exact rfl; exact rfl; (first | assumption | omega | (simp; omega)); first | assumption | omega | (simp; omega))
    | (apply aops_build; exact rfl; exact rfl; exact rfl)
    | (apply aops_buildSlice; exact rfl; exact rfl; exact rfl; exact rfl; exact rfl; exact rfl; exact rfl; exact rfl; exact rfl)
    | (apply aops_nilCheck; exact rfl; exact rfl)
    | (apply aops_ptrEqNil; exact rfl; exact rfl; exact rfl)
    | (apply aops_ptrNeNil; exact rfl; exact rfl; exact rfl)
    | (apply aops_xor32; exact rfl; exact rfl; (first | exact ofInt_toNat _ | exact rfl); first | exact ofInt_toNat _ | exact rfl)
    | (apply aops_and32; exact rfl; exact rfl; (first | exact ofInt_toNat _ | exact rfl); first | exact ofInt_toNat _ | exact rfl)
    | (apply aops_or32; exact rfl; exact rfl; (first | exact ofInt_toNat _ | exact rfl); first | exact ofInt_toNat _ | exact rfl)
    | (apply aops_compl32; exact rfl)
    | (apply aops_shl32; exact rfl; exact rfl; exact rfl)
    | (apply aops_shr32; exact rfl; exact rfl; exact rfl)
    | (apply aops_indexA; exact rfl; exact rfl; exact rfl; exact rfl; (first | assumption | omega | decide); exact rfl)
    | (apply aops_indexAddrA; exact rfl; exact rfl; exact rfl; exact rfl; first | assumption | omega | decide)
    | (apply awp_draw; exact rfl; kernel_rfl)
    | apply aq_nil
    | (apply aq_idx; exact rfl; exact rfl; exact rfl; first | assumption | omega | (simp; omega))
    | (apply aq_shr4; exact rfl; exact rfl)
    | (apply aq_and15; exact rfl; exact rfl)
    | (apply aq_convW; exact rfl; exact rfl; exact rfl; omega)
    | (apply aq_buildA; exact rfl; exact rfl; exact rfl)
    | apply aq_move
    | apply aq_assign
    | (apply aq_add; exact rfl; exact rfl; exact wrap_i64 (by omega) (by omega))
    | (apply aq_lenS; exact rfl; exact rfl; exact rfl)
    | (apply aq_upto; exact rfl; exact rfl; exact rfl; first | assumption | omega | (simp; omega))
    | (apply aq_from; exact rfl; exact rfl; exact rfl; first | assumption | omega | (simp; omega))
    | (apply aq_extract; exact rfl; exact rfl)
    | apply awp_skip
    | apply awp_exit
    | apply awp_ret
    | (apply aops_mul; exact rfl; exact rfl; exact wrap_i64 (by omega) (by omega))
    | (apply aops_shr32z (n := 4 * (7 - j)); exact rfl; exact rfl; omega; omega)
    | (apply aops_idx; exact rfl; exact rfl; exact rfl; exact and15_lt _)
    | (refine aops_call1 Tryz.call47 (bByte_loc st _ _ 0 1 0 _ _ _ rfl rfl ?_ ?_ rfl) ?_; exact hq; omega)
    | (refine aops_call1 Tryz.call48 (bString_loc st _ _ 0 1 0 _ _ rfl rfl rfl) ?_))
  · have e1 : figsP x j ++ [figP x j] = figsP x (j + 1) := by simp [figsP, List.range_succ]
    refine ⟨j + 1, ⟨by omega, _, .inr rfl, stA_mk' ⟨rfl, rfl, congrArg Iv (by omega : (7 - (j : Int)) - 1 = 7 - ((j + 1 : Nat) : Int)), trivial⟩ ?_⟩, by omega⟩
    show st ++ [bldO 0 _ (figsP x j ++ [figP x j]) (st.length + 1), .tip (figsP x j ++ [figP x j]).length 1 5] = _
    rw [e1]
  · have e : j = 8 := by omega
    subst e
    exact aret_plain rfl (ares_one rfl) ⟨rfl, _, rfl⟩
end Go.Proofs.YtopmpdoigmenmaaGreatDoor
