/- lines.Dedent: which texts have another one ahead of each line. -/
import Derived.Test.YtopmpdoigmenmaaGreatDoorSp
set_option linter.unusedVariables false
set_option maxRecDepth 100000
namespace Go.Proofs.YtopmpdoigmenmaaGreatDoor
open Go Go.Av Go.RowKit Go.Proofs Go.Pl

theorem split_c (text : List UInt8) (st st' : List AObj) (n : Nat) (hn : st.length = n) (hst : st ++ [.cells 0 9 [Sv text]] = st') : ACall E 71 [Sv text] st fun r st1 => r = .fn (.func 91) [] [.bx n 0 0] ∧ st1 = st' := by
  subst hn
  subst hst
  refine acall_of_awp Tryz.func71 rfl (Nat.le_of_ble_eq_true rfl) ?_
  repeat' (first
    | apply awp_seq
    | apply awp_block
    | apply awp_region
    | apply aops_nil
    | apply aops_move
    | apply aops_assign
    | (apply aops_extract; exact rfl; exact rfl)
    | (apply aops_cmpI; exact rfl; exact rfl; exact rfl)
    | (apply aops_cmpS; exact rfl; exact rfl; exact rfl)
    | (apply aops_not_d; exact rfl)
    | (apply aops_not; exact rfl)
    | (apply aops_guard_any; exact rfl; exact rfl; exact rfl; exact rfl)
    | (apply gd_run_d; (first | assumption | omega))
    | (apply gd_run_n; (first | assumption | omega))
    | (apply gd_skip_d; (first | assumption | omega))
    | (apply gd_skip_n; (first | assumption | omega))
    | (apply aops_guard_undef; exact rfl; exact rfl; exact rfl; exact rfl)
    | (apply gd_run_nt; (first | exact rfl | assumption))
    | (apply gd_run_nf; (first | exact rfl | assumption))
    | (apply gd_skip_nt; (first | exact rfl | assumption))
    | (apply gd_skip_nf; (first | exact rfl | assumption))
    | (apply gd_split_n <;> intro h)
    | (apply gd_run_t; (first | exact rfl | assumption))
    | (apply gd_run_f; (first | exact rfl | assumption))
    | (apply gd_skip_t; (first | exact rfl | assumption))
    | (apply gd_skip_f; (first | exact rfl | assumption))
    | (apply gd_split_d <;> intro h)
    | (apply gd_split <;> intro h)
    | (apply aops_pick_any; exact rfl; first | (apply pk_dt; (first | assumption | omega)) | (apply pk_df; (first | assumption | omega)) | (apply pk_nt; (first | exact rfl | assumption)) | (apply pk_nf; (first | exact rfl | assumption)) | (apply pk_t; (first | exact rfl | assumption)) | (apply pk_f; (first | exact rfl | assumption)))
    | (apply awp_cond_any; exact rfl; first | (apply cd_dt; (first | assumption | omega)) | (apply cd_df; (first | assumption | omega)) | (apply cd_nt; (first | exact rfl | assumption)) | (apply cd_nf; (first | exact rfl | assumption)) | (apply cd_n <;> intro h) | (apply cd_t; (first | exact rfl | assumption)) | (apply cd_f; (first | exact rfl | assumption)) | (apply cd_d <;> intro h) | (apply cd_s <;> intro h))
    | (apply aops_lenS; exact rfl; exact rfl; exact rfl)
    | (apply aops_lenL; exact rfl; exact rfl; exact rfl; exact rfl)
    | (apply aops_concat; exact rfl; exact rfl; (first | omega | (simp only [List.length_append, List.length_cons, List.length_nil]; omega) | (simp; omega)))
    | (apply aops_add; exact rfl; exact rfl; exact wrap_i64 (by omega) (by omega))
    | (apply aops_sub; exact rfl; exact rfl; exact wrap_i64 (by omega) (by omega))
    | (apply aops_errNeNil; exact rfl; exact rfl)
    | (apply aops_nilNeNil; exact rfl; exact rfl)
    | (apply aops_errEqNil; exact rfl; exact rfl)
    | (apply aops_nilEqNil; exact rfl; exact rfl)
    | (apply aops_makeInterface; exact rfl; exact rfl)
    | apply aops_makeFunc
    | (apply aops_alloc; exact rfl; exact rfl)
    | (apply aops_box; exact rfl; exact rfl; exact rfl; exact rfl)
    | (apply aops_field; exact rfl; exact rfl; exact rfl)
    | (apply aops_fieldAddr_bx; exact rfl; exact rfl; exact rfl)
    | (apply aops_fieldAddr_pp; exact rfl; exact rfl; exact rfl; exact rfl)
    | (apply aops_load_pp; exact rfl; exact rfl; exact rfl)
    | (apply aops_load_loc; exact rfl; exact rfl; exact rfl; exact rfl; exact rfl)
    | (apply aops_store_loc; exact rfl; exact rfl; exact rfl; exact rfl; exact rfl; exact rfl; exact rfl; exact rfl; exact rfl; exact rfl; exact rfl)
    | (apply aops_idx; exact rfl; exact rfl; exact rfl; first | assumption | omega | (simp; omega))
    | (apply aops_upto; exact rfl; exact rfl; exact rfl; first | assumption | omega | (simp; omega))
    | (apply aops_from; exact rfl; exact rfl; exact rfl; first | assumption | omega | (simp; omega))
    | (apply aops_span; exact rfl; exact rfl; exact rfl; exact rfl; (first | assumption | omega | (simp; omega)); first | assumption | omega | (simp; omega))
    | (apply aops_build; exact rfl; exact rfl; exact rfl)
    | (apply aops_buildSlice; exact rfl; exact rfl; exact rfl; exact rfl; exact rfl; exact rfl; exact rfl; exact rfl; exact rfl)
    | (apply aops_nilCheck; exact rfl; exact rfl)
    | (apply aops_ptrEqNil; exact rfl; exact rfl; exact rfl)
    | (apply aops_ptrNeNil; exact rfl; exact rfl; exact rfl)
    | (apply aops_xor32; exact rfl; exact rfl; (first | exact ofInt_toNat _ | exact rfl); first | exact ofInt_toNat _ | exact rfl)
    | (apply aops_and32; exact rfl; exact rfl; (first | exact ofInt_toNat _ | exact rfl); first | exact ofInt_toNat _ | exact rfl)
    | (apply aops_or32; exact rfl; exact rfl; (first | exact ofInt_toNat _ | exact rfl); first | exact ofInt_toNat _ | exact rfl)
    | (apply aops_compl32; exact rfl)
    | (apply aops_shl32; exact rfl; exact rfl; exact rfl)
    | (apply aops_shr32; exact rfl; exact rfl; exact rfl)
    | (apply aops_indexA; exact rfl; exact rfl; exact rfl; exact rfl; (first | assumption | omega | decide); exact rfl)
    | (apply aops_indexAddrA; exact rfl; exact rfl; exact rfl; exact rfl; first | assumption | omega | decide)
    | (apply awp_draw; exact rfl; kernel_rfl)
    | apply aq_nil
    | (apply aq_idx; exact rfl; exact rfl; exact rfl; first | assumption | omega | (simp; omega))
    | (apply aq_shr4; exact rfl; exact rfl)
    | (apply aq_and15; exact rfl; exact rfl)
    | (apply aq_convW; exact rfl; exact rfl; exact rfl; omega)
    | (apply aq_buildA; exact rfl; exact rfl; exact rfl)
    | apply aq_move
    | apply aq_assign
    | (apply aq_add; exact rfl; exact rfl; exact wrap_i64 (by omega) (by omega))
    | (apply aq_lenS; exact rfl; exact rfl; exact rfl)
    | (apply aq_upto; exact rfl; exact rfl; exact rfl; first | assumption | omega | (simp; omega))
    | (apply aq_from; exact rfl; exact rfl; exact rfl; first | assumption | omega | (simp; omega))
    | (apply aq_extract; exact rfl; exact rfl)
    | apply awp_skip
    | apply awp_exit
    | apply awp_ret)
  exact aret_plain rfl (ares_one rfl) ⟨rfl, rfl⟩

theorem bWrite_loc (st loc loc' : List AObj) (k kt ver : Nat) (q : AV) (l m : List UInt8) (hk : loc[k]? = some (bldO ver q l (st.length + kt))) (hkt : loc[kt]? = some (.tip l.length 1 5)) (hq : q = .v (.pointer none) ∨ q = .bx (st.length + k) ver 0)
    (hlen : l.length + m.length ≤ 140737488355328) (hl : loc' = (loc.set k (bldO ver (.bx (st.length + k) ver 0) (l ++ m) (st.length + kt))).set kt (.tip (l ++ m).length 1 5)) :
    ACall E 60 [.bx (st.length + k) ver 0, Sv m] (st ++ loc) fun r st' => r = .tu [Iv m.length, .v .nilIface] ∧ st' = st ++ loc' := by
  refine (bWrite_c (st.length + k) ver (st.length + kt) q l m (st ++ loc) (get_loc hk) (get_loc hkt) hq hlen).mono fun r st' ⟨h1, h2⟩ => ⟨h1, ?_⟩
  rw [h2, set_loc, set_loc, hl, List.length_append]
theorem bString_loc (st loc loc' : List AObj) (k kt ver : Nat) (q : AV) (l : List UInt8) (hk : loc[k]? = some (bldO ver q l (st.length + kt))) (hkt : loc[kt]? = some (.tip l.length 1 5)) (hl : loc' = loc.set kt .dead) :
    ACall E 48 [.bx (st.length + k) ver 0] (st ++ loc) fun r st' => r = Sv l ∧ st' = st ++ loc' := by
  refine (bString_c (st.length + k) ver (st.length + kt) q l (st ++ loc) (get_loc hk) (get_loc hkt)).mono fun r st' ⟨h1, h2⟩ => ⟨h1, ?_⟩
  rw [h2, set_loc, hl]

/-- The store while Dedent goes through the lines. -/
@[reducible] def dedL (st : List AObj) (by' text : List UInt8) (q : AV) (acc : List UInt8) (lp : AObj) : List AObj :=
  [.cells 0 9 [Sv by'], .cells 0 9 [Sv []], .cells 0 4 [Bv false], bldO 0 q acc (st.length + 5), .cells 0 9 [Sv text], .tip acc.length 1 5, .dfr, lp]

theorem dedent_c (text by' : List UInt8) (st : List AObj) (hl : text.length < 4294967281) : ACall E 51 [Sv text, Sv by'] st fun r st' => r = .tu [Sv (dedentOf by' text).1, Bv (dedentOf by' text).2] ∧ st' = st := by
  refine acall_pure (pure_tu2v _ _) (acall_of_awp Tryz.func51 rfl (Nat.le_of_ble_eq_true rfl) ?_)
  repeat' (first
    | apply awp_seq
    | apply awp_block
    | apply awp_region
    | apply aops_nil
    | apply aops_move
    | apply aops_assign
    | (apply aops_extract; exact rfl; exact rfl)
    | (apply aops_cmpI; exact rfl; exact rfl; exact rfl)
    | (apply aops_cmpS; exact rfl; exact rfl; exact rfl)
    | (apply aops_not_d; exact rfl)
    | (apply aops_not; exact rfl)
    | (apply aops_guard_any; exact rfl; exact rfl; exact rfl; exact rfl)
    | (apply gd_run_d; (first | assumption | omega))
    | (apply gd_run_n; (first | assumption | omega))
    | (apply gd_skip_d; (first | assumption | omega))
    | (apply gd_skip_n; (first | assumption | omega))
    | (apply aops_guard_undef; exact rfl; exact rfl; exact rfl; exact rfl)
    | (apply gd_run_nt; (first | exact rfl | assumption))
    | (apply gd_run_nf; (first | exact rfl | assumption))
    | (apply gd_skip_nt; (first | exact rfl | assumption))
    | (apply gd_skip_nf; (first | exact rfl | assumption))
    | (apply gd_split_n <;> intro h)
    | (apply gd_run_t; (first | exact rfl | assumption))
    | (apply gd_run_f; (first | exact rfl | assumption))
    | (apply gd_skip_t; (first | exact rfl | assumption))
    | (apply gd_skip_f; (first | exact rfl | assumption))
    | (apply gd_split_d <;> intro h)
    | (apply gd_split <;> intro h)
    | (apply aops_pick_any; exact rfl; first | (apply pk_dt; (first | assumption | omega)) | (apply pk_df; (first | assumption | omega)) | (apply pk_nt; (first | exact rfl | assumption)) | (apply pk_nf; (first | exact rfl | assumption)) | (apply pk_t; (first | exact rfl | assumption)) | (apply pk_f; (first | exact rfl | assumption)))
    | (apply awp_cond_any; exact rfl; first | (apply cd_dt; (first | assumption | omega)) | (apply cd_df; (first | assumption | omega)) | (apply cd_nt; (first | exact rfl | assumption)) | (apply cd_nf; (first | exact rfl | assumption)) | (apply cd_n <;> intro h) | (apply cd_t; (first | exact rfl | assumption)) | (apply cd_f; (first | exact rfl | assumption)) | (apply cd_d <;> intro h) | (apply cd_s <;> intro h))
    | (apply aops_lenS; exact rfl; exact rfl; exact rfl)
    | (apply aops_lenL; exact rfl; exact rfl; exact rfl; exact rfl)
    | (apply aops_concat; exact rfl; exact rfl; (first | omega | (simp only [List.length_append, List.length_cons, List.length_nil]; omega) | (simp; omega)))
    | (apply aops_add; exact rfl; exact rfl; exact wrap_i64 (by omega) (by omega))
    | (apply aops_sub; exact rfl; exact rfl; exact wrap_i64 (by omega) (by omega))
    | (apply aops_errNeNil; exact rfl; exact rfl)
    | (apply aops_nilNeNil; exact rfl; exact rfl)
    | (apply aops_errEqNil; exact rfl; exact rfl)
    | (apply aops_nilEqNil; exact rfl; exact rfl)
    | (apply aops_makeInterface; exact rfl; exact rfl)
    | apply aops_makeFunc
    | (apply aops_alloc; exact rfl; exact rfl)
    | (apply aops_box; exact rfl; exact rfl; exact rfl; exact rfl)
    | (apply aops_field; exact rfl; exact rfl; exact rfl)
    | (apply aops_fieldAddr_bx; exact rfl; exact rfl; exact rfl)
    | (apply aops_fieldAddr_pp; exact rfl; exact rfl; exact rfl; exact rfl)
    | (apply aops_load_pp; exact rfl; exact rfl; exact rfl)
    | (apply aops_load_loc; exact rfl; exact rfl; exact rfl; exact rfl; exact rfl)
    | (apply aops_store_loc; exact rfl; exact rfl; exact rfl; exact rfl; exact rfl; exact rfl; exact rfl; exact rfl; exact rfl; exact rfl; exact rfl)
    | (apply aops_idx; exact rfl; exact rfl; exact rfl; first | assumption | omega | (simp; omega))
    | (apply aops_upto; exact rfl; exact rfl; exact rfl; first | assumption | omega | (simp; omega))
    | (apply aops_from; exact rfl; exact rfl; exact rfl; first | assumption | omega | (simp; omega))
    | (apply aops_span; exact rfl; exact rfl; exact rfl; exact rfl; (first | assumption | omega | (simp; omega)); first | assumption | omega | (simp; omega))
    | (apply aops_build; exact rfl; exact rfl; exact rfl)
    | (apply aops_buildSlice; exact rfl; exact rfl; exact rfl; exact rfl; exact rfl; exact rfl; exact rfl; exact rfl; exact rfl)
    | (apply aops_nilCheck; exact rfl; exact rfl)
    | (apply aops_ptrEqNil; exact rfl; exact rfl; exact rfl)
    | (apply aops_ptrNeNil; exact rfl; exact rfl; exact rfl)
    | (apply aops_xor32; exact rfl; exact rfl; (first | exact ofInt_toNat _ | exact rfl); first | exact ofInt_toNat _ | exact rfl)
    | (apply aops_and32; exact rfl; exact rfl; (first | exact ofInt_toNat _ | exact rfl); first | exact ofInt_toNat _ | exact rfl)
    | (apply aops_or32; exact rfl; exact rfl; (first | exact ofInt_toNat _ | exact rfl); first | exact ofInt_toNat _ | exact rfl)
    | (apply aops_compl32; exact rfl)
    | (apply aops_shl32; exact rfl; exact rfl; exact rfl)
    | (apply aops_shr32; exact rfl; exact rfl; exact rfl)
    | (apply aops_indexA; exact rfl; exact rfl; exact rfl; exact rfl; (first | assumption | omega | decide); exact rfl)
    | (apply aops_indexAddrA; exact rfl; exact rfl; exact rfl; exact rfl; first | assumption | omega | decide)
    | (apply awp_draw; exact rfl; kernel_rfl)
    | apply aq_nil
    | (apply aq_idx; exact rfl; exact rfl; exact rfl; first | assumption | omega | (simp; omega))
    | (apply aq_shr4; exact rfl; exact rfl)
    | (apply aq_and15; exact rfl; exact rfl)
    | (apply aq_convW; exact rfl; exact rfl; exact rfl; omega)
    | (apply aq_buildA; exact rfl; exact rfl; exact rfl)
    | apply aq_move
    | apply aq_assign
    | (apply aq_add; exact rfl; exact rfl; exact wrap_i64 (by omega) (by omega))
    | (apply aq_lenS; exact rfl; exact rfl; exact rfl)
    | (apply aq_upto; exact rfl; exact rfl; exact rfl; first | assumption | omega | (simp; omega))
    | (apply aq_from; exact rfl; exact rfl; exact rfl; first | assumption | omega | (simp; omega))
    | (apply aq_extract; exact rfl; exact rfl)
    | apply awp_skip
    | apply awp_exit
    | apply awp_ret)
  refine aops_call1 Tryz.call71 (split_c text _ (st ++ [.cells 0 9 [Sv by'], .cells 0 9 [Sv []], .cells 0 4 [Bv false], .cells 0 62 [.v (.pointer none), nilSl], .cells 0 9 [Sv text]]) (st.length + 4) ?_ ?_) ?_
  · show (st ++ [_, _, _, _]).length = _
    simp
  · show (st ++ [_, _, _, _]) ++ [_] = _
    rw [List.append_assoc]
    rfl
  repeat' (first
    | apply awp_seq
    | apply awp_block
    | apply awp_region
    | apply aops_nil
    | apply aops_move
    | apply aops_assign
    | (apply aops_extract; exact rfl; exact rfl)
    | (apply aops_cmpI; exact rfl; exact rfl; exact rfl)
    | (apply aops_cmpS; exact rfl; exact rfl; exact rfl)
    | (apply aops_not_d; exact rfl)
    | (apply aops_not; exact rfl)
    | (apply aops_guard_any; exact rfl; exact rfl; exact rfl; exact rfl)
    | (apply gd_run_d; (first | assumption | omega))
    | (apply gd_run_n; (first | assumption | omega))
    | (apply gd_skip_d; (first | assumption | omega))
    | (apply gd_skip_n; (first | assumption | omega))
    | (apply aops_guard_undef; exact rfl; exact rfl; exact rfl; exact rfl)
    | (apply gd_run_nt; (first | exact rfl | assumption))
    | (apply gd_run_nf; (first | exact rfl | assumption))
    | (apply gd_skip_nt; (first | exact rfl | assumption))
    | (apply gd_skip_nf; (first | exact rfl | assumption))
    | (apply gd_split_n <;> intro h)
    | (apply gd_run_t; (first | exact rfl | assumption))
    | (apply gd_run_f; (first | exact rfl | assumption))
    | (apply gd_skip_t; (first | exact rfl | assumption))
    | (apply gd_skip_f; (first | exact rfl | assumption))
    | (apply gd_split_d <;> intro h)
    | (apply gd_split <;> intro h)
    | (apply aops_pick_any; exact rfl; first | (apply pk_dt; (first | assumption | omega)) | (apply pk_df; (first | assumption | omega)) | (apply pk_nt; (first | exact rfl | assumption)) | (apply pk_nf; (first | exact rfl | assumption)) | (apply pk_t; (first | exact rfl | assumption)) | (apply pk_f; (first | exact rfl | assumption)))
    | (apply awp_cond_any; exact rfl; first | (apply cd_dt; (first | assumption | omega)) | (apply cd_df; (first | assumption | omega)) | (apply cd_nt; (first | exact rfl | assumption)) | (apply cd_nf; (first | exact rfl | assumption)) | (apply cd_n <;> intro h) | (apply cd_t; (first | exact rfl | assumption)) | (apply cd_f; (first | exact rfl | assumption)) | (apply cd_d <;> intro h) | (apply cd_s <;> intro h))
    | (apply aops_lenS; exact rfl; exact rfl; exact rfl)
    | (apply aops_lenL; exact rfl; exact rfl; exact rfl; exact rfl)
    | (apply aops_concat; exact rfl; exact rfl; (first | omega | (simp only [List.length_append, List.length_cons, List.length_nil]; omega) | (simp; omega)))
    | (apply aops_add; exact rfl; exact rfl; exact wrap_i64 (by omega) (by omega))
    | (apply aops_sub; exact rfl; exact rfl; exact wrap_i64 (by omega) (by omega))
    | (apply aops_errNeNil; exact rfl; exact rfl)
    | (apply aops_nilNeNil; exact rfl; exact rfl)
    | (apply aops_errEqNil; exact rfl; exact rfl)
    | (apply aops_nilEqNil; exact rfl; exact rfl)
    | (apply aops_makeInterface; exact rfl; exact rfl)
    | apply aops_makeFunc
    | (apply aops_alloc; exact rfl; exact rfl)
    | (apply aops_box; exact rfl; exact rfl; exact rfl; exact rfl)
    | (apply aops_field; exact rfl; exact rfl; exact rfl)
    | (apply aops_fieldAddr_bx; exact rfl; exact rfl; exact rfl)
    | (apply aops_fieldAddr_pp; exact rfl; exact rfl; exact rfl; exact rfl)
    | (apply aops_load_pp; exact rfl; exact rfl; exact rfl)
    | (apply aops_load_loc; exact rfl; exact rfl; exact rfl; exact rfl; exact rfl)
    | (apply aops_store_loc; exact rfl; exact rfl; exact rfl; exact rfl; exact rfl; exact rfl; exact rfl; exact rfl; exact rfl; exact rfl; exact rfl)
    | (apply aops_idx; exact rfl; exact rfl; exact rfl; first | assumption | omega | (simp; omega))
    | (apply aops_upto; exact rfl; exact rfl; exact rfl; first | assumption | omega | (simp; omega))
    | (apply aops_from; exact rfl; exact rfl; exact rfl; first | assumption | omega | (simp; omega))
    | (apply aops_span; exact rfl; exact rfl; exact rfl; exact rfl; (first | assumption | omega | (simp; omega)); first | assumption | omega | (simp; omega))
    | (apply aops_build; exact rfl; exact rfl; exact rfl)
    | (apply aops_buildSlice; exact rfl; exact rfl; exact rfl; exact rfl; exact rfl; exact rfl; exact rfl; exact rfl; exact rfl)
    | (apply aops_nilCheck; exact rfl; exact rfl)
    | (apply aops_ptrEqNil; exact rfl; exact rfl; exact rfl)
    | (apply aops_ptrNeNil; exact rfl; exact rfl; exact rfl)
    | (apply aops_xor32; exact rfl; exact rfl; (first | exact ofInt_toNat _ | exact rfl); first | exact ofInt_toNat _ | exact rfl)
    | (apply aops_and32; exact rfl; exact rfl; (first | exact ofInt_toNat _ | exact rfl); first | exact ofInt_toNat _ | exact rfl)
    | (apply aops_or32; exact rfl; exact rfl; (first | exact ofInt_toNat _ | exact rfl); first | exact ofInt_toNat _ | exact rfl)
    | (apply aops_compl32; exact rfl)
    | (apply aops_shl32; exact rfl; exact rfl; exact rfl)
    | (apply aops_shr32; exact rfl; exact rfl; exact rfl)
    | (apply aops_indexA; exact rfl; exact rfl; exact rfl; exact rfl; (first | assumption | omega | decide); exact rfl)
    | (apply aops_indexAddrA; exact rfl; exact rfl; exact rfl; exact rfl; first | assumption | omega | decide)
    | (apply awp_draw; exact rfl; kernel_rfl)
    | apply aq_nil
    | (apply aq_idx; exact rfl; exact rfl; exact rfl; first | assumption | omega | (simp; omega))
    | (apply aq_shr4; exact rfl; exact rfl)
    | (apply aq_and15; exact rfl; exact rfl)
    | (apply aq_convW; exact rfl; exact rfl; exact rfl; omega)
    | (apply aq_buildA; exact rfl; exact rfl; exact rfl)
    | apply aq_move
    | apply aq_assign
    | (apply aq_add; exact rfl; exact rfl; exact wrap_i64 (by omega) (by omega))
    | (apply aq_lenS; exact rfl; exact rfl; exact rfl)
    | (apply aq_upto; exact rfl; exact rfl; exact rfl; first | assumption | omega | (simp; omega))
    | (apply aq_from; exact rfl; exact rfl; exact rfl; first | assumption | omega | (simp; omega))
    | (apply aq_extract; exact rfl; exact rfl)
    | apply awp_skip
    | apply awp_exit
    | apply awp_ret)
  refine awp_tipCell (o := st.length + 3) (j := 1) (sz := 1) (T' := 5) (get_loc rfl) rfl ?_
  refine awp_state [(3, .bx (st.length + 0) 0 0), (4, .bx (st.length + 1) 0 0), (5, .bx (st.length + 2) 0 0), (6, .bx (st.length + 3) 0 0), (11, .fn (.func 91) [] [.bx (st.length + 4) 0 0])]
    (st ++ [.cells 0 9 [Sv by'], .cells 0 9 [Sv []], .cells 0 4 [Bv false], bldO 0 (.v (.pointer none)) [] (st.length + 5), .cells 0 9 [Sv text], .tip 0 1 5]) [] ⟨rfl, rfl, rfl, rfl, rfl, trivial⟩ ?_ rfl (fun t => ?_)
  · show (st ++ [_, _, _, _, _]).set (st.length + 3) (.cells 0 62 [_, .sl 1 [] (some (st ++ [_, _, _, _, _]).length)]) ++ [_] = _
    rw [set_loc, List.append_assoc]
    simp
  refine awp_rangeF (st := st) (loc := [.cells 0 9 [Sv by'], .cells 0 9 [Sv []], .cells 0 4 [Bv false], bldO 0 (.v (.pointer none)) [] (st.length + 5), .cells 0 9 [Sv text], .tip 0 1 5]) rfl rfl Tryz.call91 fun F hF => ?_
  refine ACall.mono (split1_c text (st.length + 7) (st.length + 4) 0 (st.length + 8)
    (fun _ rest st' => ∃ q acc don, (q = .v (.pointer none) ∨ q = .bx (st.length + 3) 0 0) ∧ linesOf text = don ++ linesOf rest ∧ (∀ x ∈ don, by' <+: x.1) ∧ acc = don.flatMap (fun x => x.1.drop by'.length ++ lineEnd x.2) ∧ acc.length + rest.length ≤ text.length ∧ st' = st ++ dedL st by' text q acc (F .ready none))
    (fun st' => (¬ ∀ x ∈ linesOf text, by' <+: x.1) ∧ ∃ q acc, st' = st ++ dedL st by' text q acc (F .done (some .ret)))
    (st ++ dedL st by' text (.v (.pointer none)) [] (F .ready none)) hl ⟨_, [], [], .inl rfl, rfl, by simp, rfl, by simp, rfl⟩ ?_ ?_) ?_
  · rintro k rest _ ⟨q, acc, don, hq, h1, h2, h3, h4, rfl⟩
    exact ⟨by simp, get_loc rfl⟩
  · rintro k rest _ own ⟨q, acc, don, hq, h1, h2, h3, h4, rfl⟩ hne hle
    refine ayield_retL ?_
    rw [List.append_assoc]
    refine ayield_F hF (get_loc rfl) rfl fun l => ?_
    repeat' (first
      | apply awp_seq
      | apply awp_block
      | apply awp_region
      | apply aops_nil
      | apply aops_move
      | apply aops_assign
      | (apply aops_extract; exact rfl; exact rfl)
      | (apply aops_cmpI; exact rfl; exact rfl; exact rfl)
      | (apply aops_cmpS; exact rfl; exact rfl; exact rfl)
      | (apply aops_not_d; exact rfl)
      | (apply aops_not; exact rfl)
      | (apply aops_guard_any; exact rfl; exact rfl; exact rfl; exact rfl)
      | (apply gd_run_d; (first | assumption | omega))
      | (apply gd_run_n; (first | assumption | omega))
      | (apply gd_skip_d; (first | assumption | omega))
      | (apply gd_skip_n; (first | assumption | omega))
      | (apply aops_guard_undef; exact rfl; exact rfl; exact rfl; exact rfl)
      | (apply gd_run_nt; (first | exact rfl | assumption))
      | (apply gd_run_nf; (first | exact rfl | assumption))
      | (apply gd_skip_nt; (first | exact rfl | assumption))
      | (apply gd_skip_nf; (first | exact rfl | assumption))
      | (apply gd_split_n <;> intro h)
      | (apply gd_run_t; (first | exact rfl | assumption))
      | (apply gd_run_f; (first | exact rfl | assumption))
      | (apply gd_skip_t; (first | exact rfl | assumption))
      | (apply gd_skip_f; (first | exact rfl | assumption))
      | (apply gd_split_d <;> intro h)
      | (apply gd_split <;> intro h)
      | (apply aops_pick_any; exact rfl; first | (apply pk_dt; (first | assumption | omega)) | (apply pk_df; (first | assumption | omega)) | (apply pk_nt; (first | exact rfl | assumption)) | (apply pk_nf; (first | exact rfl | assumption)) | (apply pk_t; (first | exact rfl | assumption)) | (apply pk_f; (first | exact rfl | assumption)))
      | (apply awp_cond_any; exact rfl; first | (apply cd_dt; (first | assumption | omega)) | (apply cd_df; (first | assumption | omega)) | (apply cd_nt; (first | exact rfl | assumption)) | (apply cd_nf; (first | exact rfl | assumption)) | (apply cd_n <;> intro h) | (apply cd_t; (first | exact rfl | assumption)) | (apply cd_f; (first | exact rfl | assumption)) | (apply cd_d <;> intro h) | (apply cd_s <;> intro h))
      | (apply aops_lenS; exact rfl; exact rfl; exact rfl)
      | (apply aops_lenL; exact rfl; exact rfl; exact rfl; exact rfl)
      | (apply aops_concat; exact rfl; exact rfl; (first | omega | (simp only [List.length_append, List.length_cons, List.length_nil]; omega) | (simp; omega)))
      | (apply aops_add; exact rfl; exact rfl; exact wrap_i64 (by omega) (by omega))
      | (apply aops_sub; exact rfl; exact rfl; exact wrap_i64 (by omega) (by omega))
      | (apply aops_errNeNil; exact rfl; exact rfl)
      | (apply aops_nilNeNil; exact rfl; exact rfl)
      | (apply aops_errEqNil; exact rfl; exact rfl)
      | (apply aops_nilEqNil; exact rfl; exact rfl)
      | (apply aops_makeInterface; exact rfl; exact rfl)
      | apply aops_makeFunc
      | (apply aops_alloc; exact rfl; exact rfl)
      | (apply aops_box; exact rfl; exact rfl; exact rfl; exact rfl)
      | (apply aops_field; exact rfl; exact rfl; exact rfl)
      | (apply aops_fieldAddr_bx; exact rfl; exact rfl; exact rfl)
      | (apply aops_fieldAddr_pp; exact rfl; exact rfl; exact rfl; exact rfl)
      | (apply aops_load_pp; exact rfl; exact rfl; exact rfl)
      | (apply aops_load_loc; exact rfl; exact rfl; exact rfl; exact rfl; exact rfl)
      | (apply aops_store_loc; exact rfl; exact rfl; exact rfl; exact rfl; exact rfl; exact rfl; exact rfl; exact rfl; exact rfl; exact rfl; exact rfl)
      | (apply aops_idx; exact rfl; exact rfl; exact rfl; first | assumption | omega | (simp; omega))
      | (apply aops_upto; exact rfl; exact rfl; exact rfl; first | assumption | omega | (simp; omega))
      | (apply aops_from; exact rfl; exact rfl; exact rfl; first | assumption | omega | (simp; omega))
      | (apply aops_span; exact rfl; exact rfl; exact rfl; exact rfl; (first | assumption | omega | (simp; omega)); first | assumption | omega | (simp; omega))
      | (apply aops_build; exact rfl; exact rfl; exact rfl)
      | (apply aops_buildSlice; exact rfl; exact rfl; exact rfl; exact rfl; exact rfl; exact rfl; exact rfl; exact rfl; exact rfl)
      | (apply aops_nilCheck; exact rfl; exact rfl)
      | (apply aops_ptrEqNil; exact rfl; exact rfl; exact rfl)
      | (apply aops_ptrNeNil; exact rfl; exact rfl; exact rfl)
      | (apply aops_xor32; exact rfl; exact rfl; (first | exact ofInt_toNat _ | exact rfl); first | exact ofInt_toNat _ | exact rfl)
      | (apply aops_and32; exact rfl; exact rfl; (first | exact ofInt_toNat _ | exact rfl); first | exact ofInt_toNat _ | exact rfl)
      | (apply aops_or32; exact rfl; exact rfl; (first | exact ofInt_toNat _ | exact rfl); first | exact ofInt_toNat _ | exact rfl)
      | (apply aops_compl32; exact rfl)
      | (apply aops_shl32; exact rfl; exact rfl; exact rfl)
      | (apply aops_shr32; exact rfl; exact rfl; exact rfl)
      | (apply aops_indexA; exact rfl; exact rfl; exact rfl; exact rfl; (first | assumption | omega | decide); exact rfl)
      | (apply aops_indexAddrA; exact rfl; exact rfl; exact rfl; exact rfl; first | assumption | omega | decide)
      | (apply awp_draw; exact rfl; kernel_rfl)
      | apply aq_nil
      | (apply aq_idx; exact rfl; exact rfl; exact rfl; first | assumption | omega | (simp; omega))
      | (apply aq_shr4; exact rfl; exact rfl)
      | (apply aq_and15; exact rfl; exact rfl)
      | (apply aq_convW; exact rfl; exact rfl; exact rfl; omega)
      | (apply aq_buildA; exact rfl; exact rfl; exact rfl)
      | apply aq_move
      | apply aq_assign
      | (apply aq_add; exact rfl; exact rfl; exact wrap_i64 (by omega) (by omega))
      | (apply aq_lenS; exact rfl; exact rfl; exact rfl)
      | (apply aq_upto; exact rfl; exact rfl; exact rfl; first | assumption | omega | (simp; omega))
      | (apply aq_from; exact rfl; exact rfl; exact rfl; first | assumption | omega | (simp; omega))
      | (apply aq_extract; exact rfl; exact rfl)
      | apply awp_skip
      | apply awp_exit
      | apply awp_ret)
    refine ⟨get_loc rfl, rfl, ?_⟩
    refine awp_state [(3, .bx (st.length + 0) 0 0), (4, .bx (st.length + 1) 0 0), (5, .bx (st.length + 2) 0 0), (6, .bx (st.length + 3) 0 0), (7, .bx (st.length + 9) 0 0)]
      (st ++ (dedL st by' text q acc (F .busy none) ++ [own, .cells 0 91 (lineA k text rest).cells])) [] ⟨rfl, rfl, rfl, rfl, rfl, trivial⟩ ?_ rfl (fun t => ?_)
    · show (st ++ (dedL st by' text q acc (F .ready none) ++ [own, _])).set (st.length + 7) _ = _
      rw [set_loc]
      rfl
    have hb1 := trimPrefix_le (upto 10 rest) by'
    have hb2 := upto_length_le 10 rest
    have hmem : (upto 10 rest, decide (10 ∈ rest)) ∈ linesOf text := by rw [h1, linesOf_cons hne]; simp
    have hcons := linesOf_cons hne
    have hpl := past_length 10 rest
    have hlt : 10 ∈ rest → (upto 10 rest).length < rest.length := upto_length_lt
    repeat' (first
      | apply awp_seq
      | apply awp_block
      | apply awp_region
      | apply aops_nil
      | apply aops_move
      | apply aops_assign
      | (apply aops_extract; exact rfl; exact rfl)
      | (apply aops_cmpI; exact rfl; exact rfl; exact rfl)
      | (apply aops_cmpS; exact rfl; exact rfl; exact rfl)
      | (apply aops_not_d; exact rfl)
      | (apply aops_not; exact rfl)
      | (apply aops_guard_any; exact rfl; exact rfl; exact rfl; exact rfl)
      | (apply gd_run_d; (first | assumption | omega))
      | (apply gd_run_n; (first | assumption | omega))
      | (apply gd_skip_d; (first | assumption | omega))
      | (apply gd_skip_n; (first | assumption | omega))
      | (apply aops_guard_undef; exact rfl; exact rfl; exact rfl; exact rfl)
      | (apply gd_run_nt; (first | exact rfl | assumption))
      | (apply gd_run_nf; (first | exact rfl | assumption))
      | (apply gd_skip_nt; (first | exact rfl | assumption))
      | (apply gd_skip_nf; (first | exact rfl | assumption))
      | (apply gd_split_n <;> intro h)
      | (apply gd_run_t; (first | exact rfl | assumption))
      | (apply gd_run_f; (first | exact rfl | assumption))
      | (apply gd_skip_t; (first | exact rfl | assumption))
      | (apply gd_skip_f; (first | exact rfl | assumption))
      | (apply gd_split_d <;> intro h)
      | (apply gd_split <;> intro h)
      | (apply aops_pick_any; exact rfl; first | (apply pk_dt; (first | assumption | omega)) | (apply pk_df; (first | assumption | omega)) | (apply pk_nt; (first | exact rfl | assumption)) | (apply pk_nf; (first | exact rfl | assumption)) | (apply pk_t; (first | exact rfl | assumption)) | (apply pk_f; (first | exact rfl | assumption)))
      | (apply awp_cond_any; exact rfl; first | (apply cd_dt; (first | assumption | omega)) | (apply cd_df; (first | assumption | omega)) | (apply cd_nt; (first | exact rfl | assumption)) | (apply cd_nf; (first | exact rfl | assumption)) | (apply cd_n <;> intro h) | (apply cd_t; (first | exact rfl | assumption)) | (apply cd_f; (first | exact rfl | assumption)) | (apply cd_d <;> intro h) | (apply cd_s <;> intro h))
      | (apply aops_lenS; exact rfl; exact rfl; exact rfl)
      | (apply aops_lenL; exact rfl; exact rfl; exact rfl; exact rfl)
      | (apply aops_concat; exact rfl; exact rfl; (first | omega | (simp only [List.length_append, List.length_cons, List.length_nil]; omega) | (simp; omega)))
      | (apply aops_add; exact rfl; exact rfl; exact wrap_i64 (by omega) (by omega))
      | (apply aops_sub; exact rfl; exact rfl; exact wrap_i64 (by omega) (by omega))
      | (apply aops_errNeNil; exact rfl; exact rfl)
      | (apply aops_nilNeNil; exact rfl; exact rfl)
      | (apply aops_errEqNil; exact rfl; exact rfl)
      | (apply aops_nilEqNil; exact rfl; exact rfl)
      | (apply aops_makeInterface; exact rfl; exact rfl)
      | apply aops_makeFunc
      | (apply aops_alloc; exact rfl; exact rfl)
      | (apply aops_box; exact rfl; exact rfl; exact rfl; exact rfl)
      | (apply aops_field; exact rfl; exact rfl; exact rfl)
      | (apply aops_fieldAddr_bx; exact rfl; exact rfl; exact rfl)
      | (apply aops_fieldAddr_pp; exact rfl; exact rfl; exact rfl; exact rfl)
      | (apply aops_load_pp; exact rfl; exact rfl; exact rfl)
      | (apply aops_load_loc; exact rfl; exact rfl; exact rfl; exact rfl; exact rfl)
      | (apply aops_store_loc; exact rfl; exact rfl; exact rfl; exact rfl; exact rfl; exact rfl; exact rfl; exact rfl; exact rfl; exact rfl; exact rfl)
      | (apply aops_idx; exact rfl; exact rfl; exact rfl; first | assumption | omega | (simp; omega))
      | (apply aops_upto; exact rfl; exact rfl; exact rfl; first | assumption | omega | (simp; omega))
      | (apply aops_from; exact rfl; exact rfl; exact rfl; first | assumption | omega | (simp; omega))
      | (apply aops_span; exact rfl; exact rfl; exact rfl; exact rfl; (first | assumption | omega | (simp; omega)); first | assumption | omega | (simp; omega))
      | (apply aops_build; exact rfl; exact rfl; exact rfl)
      | (apply aops_buildSlice; exact rfl; exact rfl; exact rfl; exact rfl; exact rfl; exact rfl; exact rfl; exact rfl; exact rfl)
      | (apply aops_nilCheck; exact rfl; exact rfl)
      | (apply aops_ptrEqNil; exact rfl; exact rfl; exact rfl)
      | (apply aops_ptrNeNil; exact rfl; exact rfl; exact rfl)
      | (apply aops_xor32; exact rfl; exact rfl; (first | exact ofInt_toNat _ | exact rfl); first | exact ofInt_toNat _ | exact rfl)
      | (apply aops_and32; exact rfl; exact rfl; (first | exact ofInt_toNat _ | exact rfl); first | exact ofInt_toNat _ | exact rfl)
      | (apply aops_or32; exact rfl; exact rfl; (first | exact ofInt_toNat _ | exact rfl); first | exact ofInt_toNat _ | exact rfl)
      | (apply aops_compl32; exact rfl)
      | (apply aops_shl32; exact rfl; exact rfl; exact rfl)
      | (apply aops_shr32; exact rfl; exact rfl; exact rfl)
      | (apply aops_indexA; exact rfl; exact rfl; exact rfl; exact rfl; (first | assumption | omega | decide); exact rfl)
      | (apply aops_indexAddrA; exact rfl; exact rfl; exact rfl; exact rfl; first | assumption | omega | decide)
      | (apply awp_draw; exact rfl; kernel_rfl)
      | apply aq_nil
      | (apply aq_idx; exact rfl; exact rfl; exact rfl; first | assumption | omega | (simp; omega))
      | (apply aq_shr4; exact rfl; exact rfl)
      | (apply aq_and15; exact rfl; exact rfl)
      | (apply aq_convW; exact rfl; exact rfl; exact rfl; omega)
      | (apply aq_buildA; exact rfl; exact rfl; exact rfl)
      | apply aq_move
      | apply aq_assign
      | (apply aq_add; exact rfl; exact rfl; exact wrap_i64 (by omega) (by omega))
      | (apply aq_lenS; exact rfl; exact rfl; exact rfl)
      | (apply aq_upto; exact rfl; exact rfl; exact rfl; first | assumption | omega | (simp; omega))
      | (apply aq_from; exact rfl; exact rfl; exact rfl; first | assumption | omega | (simp; omega))
      | (apply aq_extract; exact rfl; exact rfl)
      | apply awp_skip
      | apply awp_exit
      | apply awp_ret
      | (apply aops_call1; exact Tryz.call53; exact cutPrefix_c _ _ _)
      | (refine aops_call1 Tryz.call60 (bWrite_loc st _ _ 3 5 0 _ _ _ rfl rfl ?_ ?_ rfl) ?_; (first | exact hq | exact .inr rfl); (first | omega | (simp; omega))))
    · have hno : ¬ ∀ x ∈ linesOf text, by' <+: x.1 := fun hall => by
        have := (hasPrefix_iff _ _).2 (hall _ hmem)
        simp_all
      refine ⟨get_loc rfl, st ++ (dedL st by' text q acc (F .done (some .ret)) ++ [own]), [.cells 0 91 (lineA k text rest).cells], ?_, ?_, st ++ dedL st by' text q acc (F .done (some .ret)), (List.append_assoc _ _ _).symm, nofun, fun _ => ⟨hno, q, acc, rfl⟩⟩
      · show (st ++ _).set (st.length + 7) _ = _
        rw [set_loc, List.append_assoc st]
        rfl
      · exact keptL_pre (.same _ (.same _ (.same _ (.same _ (.same _ (.same _ (.same _ (keptF hF (keptL_refl _ _))))))))) st
    all_goals
      have hpre : by' <+: upto 10 rest := (hasPrefix_iff _ _).1 (by simp_all)
      have htp := trimPrefix_of hpre
    · refine ⟨get_loc rfl, st ++ (dedL st by' text (.bx (st.length + 3) 0 0) (acc ++ Lib.trimPrefix (upto 10 rest) by' ++ [10]) (F .ready none) ++ [own]), [.cells 0 91 (lineA k text rest).cells], ?_, ?_,
        st ++ dedL st by' text (.bx (st.length + 3) 0 0) (acc ++ Lib.trimPrefix (upto 10 rest) by' ++ [10]) (F .ready none), (List.append_assoc _ _ _).symm, fun _ => ⟨_, _, don ++ [(upto 10 rest, true)], .inr rfl, ?_, ?_, ?_, ?_, rfl⟩, nofun⟩
      · show (st ++ _).set (st.length + 7) _ = _
        rw [set_loc, List.append_assoc st]
        rfl
      · refine keptL_pre (.same _ (.same _ (.same _ (.cut (cutOb_cells ?_) (.same _ (.cut cutOb_tip (.same _ (keptF hF (keptL_refl _ _))))))))) st
        intro x hx
        simp only [List.mem_cons, List.not_mem_nil, or_false] at hx
        rcases hx with rfl | rfl
        · exact cut_bx (by simp)
        · exact cut_bytes (by simp)
      · rw [h1, hcons]; simp_all
      · intro x hx
        rcases List.mem_append.1 hx with hx | hx
        · exact h2 x hx
        · simp at hx; subst hx; exact hpre
      · rw [h3, htp]; simp [lineEnd]
      · have := hlt (by assumption)
        simp
        omega
    · refine ⟨get_loc rfl, st ++ (dedL st by' text (.bx (st.length + 3) 0 0) (acc ++ Lib.trimPrefix (upto 10 rest) by') (F .ready none) ++ [own]), [.cells 0 91 (lineA k text rest).cells], ?_, ?_,
        st ++ dedL st by' text (.bx (st.length + 3) 0 0) (acc ++ Lib.trimPrefix (upto 10 rest) by') (F .ready none), (List.append_assoc _ _ _).symm, fun _ => ⟨_, _, don ++ [(upto 10 rest, false)], .inr rfl, ?_, ?_, ?_, ?_, rfl⟩, nofun⟩
      · show (st ++ _).set (st.length + 7) _ = _
        rw [set_loc, List.append_assoc st]
        rfl
      · refine keptL_pre (.same _ (.same _ (.same _ (.cut (cutOb_cells ?_) (.same _ (.cut cutOb_tip (.same _ (keptF hF (keptL_refl _ _))))))))) st
        intro x hx
        simp only [List.mem_cons, List.not_mem_nil, or_false] at hx
        rcases hx with rfl | rfl
        · exact cut_bx (by simp)
        · exact cut_bytes (by simp)
      · rw [h1, hcons]; simp_all
      · intro x hx
        rcases List.mem_append.1 hx with hx | hx
        · exact h2 x hx
        · simp at hx; subst hx; exact hpre
      · rw [h3, htp]; simp [lineEnd]
      · simp
        omega
  · rintro r st' ⟨st3, ext, rfl, ⟨k, q, acc, don, hq, h1, h2, h3, h4, rfl⟩ | ⟨hno, q, acc, rfl⟩⟩
    · refine ⟨.ready, none, nofun, by rw [List.append_assoc]; exact get_loc rfl, ?_⟩
      refine awp_state [(4, .bx (st.length + 1) 0 0), (5, .bx (st.length + 2) 0 0), (6, .bx (st.length + 3) 0 0)] (st ++ (dedL st by' text q acc .dead ++ ext)) [st.length + 6] ⟨rfl, rfl, rfl, trivial⟩ ?_ rfl (fun t => ?_)
      · show ((st ++ _) ++ ext).set (st.length + 7) _ = _
        rw [List.append_assoc, set_loc]
        rfl
      repeat' (first
        | apply awp_seq
        | apply awp_block
        | apply awp_region
        | apply aops_nil
        | apply aops_move
        | apply aops_assign
        | (apply aops_extract; exact rfl; exact rfl)
        | (apply aops_cmpI; exact rfl; exact rfl; exact rfl)
        | (apply aops_cmpS; exact rfl; exact rfl; exact rfl)
        | (apply aops_not_d; exact rfl)
        | (apply aops_not; exact rfl)
        | (apply aops_guard_any; exact rfl; exact rfl; exact rfl; exact rfl)
        | (apply gd_run_d; (first | assumption | omega))
        | (apply gd_run_n; (first | assumption | omega))
        | (apply gd_skip_d; (first | assumption | omega))
        | (apply gd_skip_n; (first | assumption | omega))
        | (apply aops_guard_undef; exact rfl; exact rfl; exact rfl; exact rfl)
        | (apply gd_run_nt; (first | exact rfl | assumption))
        | (apply gd_run_nf; (first | exact rfl | assumption))
        | (apply gd_skip_nt; (first | exact rfl | assumption))
        | (apply gd_skip_nf; (first | exact rfl | assumption))
        | (apply gd_split_n <;> intro h)
        | (apply gd_run_t; (first | exact rfl | assumption))
        | (apply gd_run_f; (first | exact rfl | assumption))
        | (apply gd_skip_t; (first | exact rfl | assumption))
        | (apply gd_skip_f; (first | exact rfl | assumption))
        | (apply gd_split_d <;> intro h)
        | (apply gd_split <;> intro h)
        | (apply aops_pick_any; exact rfl; first | (apply pk_dt; (first | assumption | omega)) | (apply pk_df; (first | assumption | omega)) | (apply pk_nt; (first | exact rfl | assumption)) | (apply pk_nf; (first | exact rfl | assumption)) | (apply pk_t; (first | exact rfl | assumption)) | (apply pk_f; (first | exact rfl | assumption)))
        | (apply awp_cond_any; exact rfl; first | (apply cd_dt; (first | assumption | omega)) | (apply cd_df; (first | assumption | omega)) | (apply cd_nt; (first | exact rfl | assumption)) | (apply cd_nf; (first | exact rfl | assumption)) | (apply cd_n <;> intro h) | (apply cd_t; (first | exact rfl | assumption)) | (apply cd_f; (first | exact rfl | assumption)) | (apply cd_d <;> intro h) | (apply cd_s <;> intro h))
        | (apply aops_lenS; exact rfl; exact rfl; exact rfl)
        | (apply aops_lenL; exact rfl; exact rfl; exact rfl; exact rfl)
        | (apply aops_concat; exact rfl; exact rfl; (first | omega | (simp only [List.length_append, List.length_cons, List.length_nil]; omega) | (simp; omega)))
        | (apply aops_add; exact rfl; exact rfl; exact wrap_i64 (by omega) (by omega))
        | (apply aops_sub; exact rfl; exact rfl; exact wrap_i64 (by omega) (by omega))
        | (apply aops_errNeNil; exact rfl; exact rfl)
        | (apply aops_nilNeNil; exact rfl; exact rfl)
        | (apply aops_errEqNil; exact rfl; exact rfl)
        | (apply aops_nilEqNil; exact rfl; exact rfl)
        | (apply aops_makeInterface; exact rfl; exact rfl)
        | apply aops_makeFunc
        | (apply aops_alloc; exact rfl; exact rfl)
        | (apply aops_box; exact rfl; exact rfl; exact rfl; exact rfl)
        | (apply aops_field; exact rfl; exact rfl; exact rfl)
        | (apply aops_fieldAddr_bx; exact rfl; exact rfl; exact rfl)
        | (apply aops_fieldAddr_pp; exact rfl; exact rfl; exact rfl; exact rfl)
        | (apply aops_load_pp; exact rfl; exact rfl; exact rfl)
        | (apply aops_load_loc; exact rfl; exact rfl; exact rfl; exact rfl; exact rfl)
        | (apply aops_store_loc; exact rfl; exact rfl; exact rfl; exact rfl; exact rfl; exact rfl; exact rfl; exact rfl; exact rfl; exact rfl; exact rfl)
        | (apply aops_idx; exact rfl; exact rfl; exact rfl; first | assumption | omega | (simp; omega))
        | (apply aops_upto; exact rfl; exact rfl; exact rfl; first | assumption | omega | (simp; omega))
        | (apply aops_from; exact rfl; exact rfl; exact rfl; first | assumption | omega | (simp; omega))
        | (apply aops_span; exact rfl; exact rfl; exact rfl; exact rfl; (first | assumption | omega | (simp; omega)); first | assumption | omega | (simp; omega))
        | (apply aops_build; exact rfl; exact rfl; exact rfl)
        | (apply aops_buildSlice; exact rfl; exact rfl; exact rfl; exact rfl; exact rfl; exact rfl; exact rfl; exact rfl; exact rfl)
        | (apply aops_nilCheck; exact rfl; exact rfl)
        | (apply aops_ptrEqNil; exact rfl; exact rfl; exact rfl)
        | (apply aops_ptrNeNil; exact rfl; exact rfl; exact rfl)
        | (apply aops_xor32; exact rfl; exact rfl; (first | exact ofInt_toNat _ | exact rfl); first | exact ofInt_toNat _ | exact rfl)
        | (apply aops_and32; exact rfl; exact rfl; (first | exact ofInt_toNat _ | exact rfl); first | exact ofInt_toNat _ | exact rfl)
        | (apply aops_or32; exact rfl; exact rfl; (first | exact ofInt_toNat _ | exact rfl); first | exact ofInt_toNat _ | exact rfl)
        | (apply aops_compl32; exact rfl)
        | (apply aops_shl32; exact rfl; exact rfl; exact rfl)
        | (apply aops_shr32; exact rfl; exact rfl; exact rfl)
        | (apply aops_indexA; exact rfl; exact rfl; exact rfl; exact rfl; (first | assumption | omega | decide); exact rfl)
        | (apply aops_indexAddrA; exact rfl; exact rfl; exact rfl; exact rfl; first | assumption | omega | decide)
        | (apply awp_draw; exact rfl; kernel_rfl)
        | apply aq_nil
        | (apply aq_idx; exact rfl; exact rfl; exact rfl; first | assumption | omega | (simp; omega))
        | (apply aq_shr4; exact rfl; exact rfl)
        | (apply aq_and15; exact rfl; exact rfl)
        | (apply aq_convW; exact rfl; exact rfl; exact rfl; omega)
        | (apply aq_buildA; exact rfl; exact rfl; exact rfl)
        | apply aq_move
        | apply aq_assign
        | (apply aq_add; exact rfl; exact rfl; exact wrap_i64 (by omega) (by omega))
        | (apply aq_lenS; exact rfl; exact rfl; exact rfl)
        | (apply aq_upto; exact rfl; exact rfl; exact rfl; first | assumption | omega | (simp; omega))
        | (apply aq_from; exact rfl; exact rfl; exact rfl; first | assumption | omega | (simp; omega))
        | (apply aq_extract; exact rfl; exact rfl)
        | apply awp_skip
        | apply awp_exit
        | apply awp_ret
        | (refine aops_call1 Tryz.call48 (bString_loc st _ _ 3 5 0 _ _ rfl rfl rfl) ?_))
      refine aret_mark_loc rfl rfl rfl (aret_plain rfl (ares_cell2_loc rfl rfl rfl rfl rfl rfl rfl rfl rfl rfl) ⟨tu_sb (?_ : _ = _), _, rfl⟩)
      rw [linesOf_nil, List.append_nil] at h1
      unfold dedentOf
      rw [h1, if_pos h2, h3]
    · refine ⟨.done, some .ret, nofun, by rw [List.append_assoc]; exact get_loc rfl, ?_⟩
      refine awp_state [(4, .bx (st.length + 1) 0 0), (5, .bx (st.length + 2) 0 0), (6, .bx (st.length + 3) 0 0)] (st ++ (dedL st by' text q acc .dead ++ ext)) [st.length + 6] ⟨rfl, rfl, rfl, trivial⟩ ?_ rfl (fun t => ?_)
      · show ((st ++ _) ++ ext).set (st.length + 7) _ = _
        rw [List.append_assoc, set_loc]
        rfl
      repeat' (first
        | apply awp_seq
        | apply awp_block
        | apply awp_region
        | apply aops_nil
        | apply aops_move
        | apply aops_assign
        | (apply aops_extract; exact rfl; exact rfl)
        | (apply aops_cmpI; exact rfl; exact rfl; exact rfl)
        | (apply aops_cmpS; exact rfl; exact rfl; exact rfl)
        | (apply aops_not_d; exact rfl)
        | (apply aops_not; exact rfl)
        | (apply aops_guard_any; exact rfl; exact rfl; exact rfl; exact rfl)
        | (apply gd_run_d; (first | assumption | omega))
        | (apply gd_run_n; (first | assumption | omega))
        | (apply gd_skip_d; (first | assumption | omega))
        | (apply gd_skip_n; (first | assumption | omega))
        | (apply aops_guard_undef; exact rfl; exact rfl; exact rfl; exact rfl)
        | (apply gd_run_nt; (first | exact rfl | assumption))
        | (apply gd_run_nf; (first | exact rfl | assumption))
        | (apply gd_skip_nt; (first | exact rfl | assumption))
        | (apply gd_skip_nf; (first | exact rfl | assumption))
        | (apply gd_split_n <;> intro h)
        | (apply gd_run_t; (first | exact rfl | assumption))
        | (apply gd_run_f; (first | exact rfl | assumption))
        | (apply gd_skip_t; (first | exact rfl | assumption))
        | (apply gd_skip_f; (first | exact rfl | assumption))
        | (apply gd_split_d <;> intro h)
        | (apply gd_split <;> intro h)
        | (apply aops_pick_any; exact rfl; first | (apply pk_dt; (first | assumption | omega)) | (apply pk_df; (first | assumption | omega)) | (apply pk_nt; (first | exact rfl | assumption)) | (apply pk_nf; (first | exact rfl | assumption)) | (apply pk_t; (first | exact rfl | assumption)) | (apply pk_f; (first | exact rfl | assumption)))
        | (apply awp_cond_any; exact rfl; first | (apply cd_dt; (first | assumption | omega)) | (apply cd_df; (first | assumption | omega)) | (apply cd_nt; (first | exact rfl | assumption)) | (apply cd_nf; (first | exact rfl | assumption)) | (apply cd_n <;> intro h) | (apply cd_t; (first | exact rfl | assumption)) | (apply cd_f; (first | exact rfl | assumption)) | (apply cd_d <;> intro h) | (apply cd_s <;> intro h))
        | (apply aops_lenS; exact rfl; exact rfl; exact rfl)
        | (apply aops_lenL; exact rfl; exact rfl; exact rfl; exact rfl)
        | (apply aops_concat; exact rfl; exact rfl; (first | omega | (simp only [List.length_append, List.length_cons, List.length_nil]; omega) | (simp; omega)))
        | (apply aops_add; exact rfl; exact rfl; exact wrap_i64 (by omega) (by omega))
        | (apply aops_sub; exact rfl; exact rfl; exact wrap_i64 (by omega) (by omega))
        | (apply aops_errNeNil; exact rfl; exact rfl)
        | (apply aops_nilNeNil; exact rfl; exact rfl)
        | (apply aops_errEqNil; exact rfl; exact rfl)
        | (apply aops_nilEqNil; exact rfl; exact rfl)
        | (apply aops_makeInterface; exact rfl; exact rfl)
        | apply aops_makeFunc
        | (apply aops_alloc; exact rfl; exact rfl)
        | (apply aops_box; exact rfl; exact rfl; exact rfl; exact rfl)
        | (apply aops_field; exact rfl; exact rfl; exact rfl)
        | (apply aops_fieldAddr_bx; exact rfl; exact rfl; exact rfl)
        | (apply aops_fieldAddr_pp; exact rfl; exact rfl; exact rfl; exact rfl)
        | (apply aops_load_pp; exact rfl; exact rfl; exact rfl)
        | (apply aops_load_loc; exact rfl; exact rfl; exact rfl; exact rfl; exact rfl)
        | (apply aops_store_loc; exact rfl; exact rfl; exact rfl; exact rfl; exact rfl; exact rfl; exact rfl; exact rfl; exact rfl; exact rfl; exact rfl)
        | (apply aops_idx; exact rfl; exact rfl; exact rfl; first | assumption | omega | (simp; omega))
        | (apply aops_upto; exact rfl; exact rfl; exact rfl; first | assumption | omega | (simp; omega))
        | (apply aops_from; exact rfl; exact rfl; exact rfl; first | assumption | omega | (simp; omega))
        | (apply aops_span; exact rfl; exact rfl; exact rfl; exact rfl; (first | assumption | omega | (simp; omega)); first | assumption | omega | (simp; omega))
        | (apply aops_build; exact rfl; exact rfl; exact rfl)
        | (apply aops_buildSlice; exact rfl; exact rfl; exact rfl; exact rfl; exact rfl; exact rfl; exact rfl; exact rfl; exact rfl)
        | (apply aops_nilCheck; exact rfl; exact rfl)
        | (apply aops_ptrEqNil; exact rfl; exact rfl; exact rfl)
        | (apply aops_ptrNeNil; exact rfl; exact rfl; exact rfl)
        | (apply aops_xor32; exact rfl; exact rfl; (first | exact ofInt_toNat _ | exact rfl); first | exact ofInt_toNat _ | exact rfl)
        | (apply aops_and32; exact rfl; exact rfl; (first | exact ofInt_toNat _ | exact rfl); first | exact ofInt_toNat _ | exact rfl)
        | (apply aops_or32; exact rfl; exact rfl; (first | exact ofInt_toNat _ | exact rfl); first | exact ofInt_toNat _ | exact rfl)
        | (apply aops_compl32; exact rfl)
        | (apply aops_shl32; exact rfl; exact rfl; exact rfl)
        | (apply aops_shr32; exact rfl; exact rfl; exact rfl)
        | (apply aops_indexA; exact rfl; exact rfl; exact rfl; exact rfl; (first | assumption | omega | decide); exact rfl)
        | (apply aops_indexAddrA; exact rfl; exact rfl; exact rfl; exact rfl; first | assumption | omega | decide)
        | (apply awp_draw; exact rfl; kernel_rfl)
        | apply aq_nil
        | (apply aq_idx; exact rfl; exact rfl; exact rfl; first | assumption | omega | (simp; omega))
        | (apply aq_shr4; exact rfl; exact rfl)
        | (apply aq_and15; exact rfl; exact rfl)
        | (apply aq_convW; exact rfl; exact rfl; exact rfl; omega)
        | (apply aq_buildA; exact rfl; exact rfl; exact rfl)
        | apply aq_move
        | apply aq_assign
        | (apply aq_add; exact rfl; exact rfl; exact wrap_i64 (by omega) (by omega))
        | (apply aq_lenS; exact rfl; exact rfl; exact rfl)
        | (apply aq_upto; exact rfl; exact rfl; exact rfl; first | assumption | omega | (simp; omega))
        | (apply aq_from; exact rfl; exact rfl; exact rfl; first | assumption | omega | (simp; omega))
        | (apply aq_extract; exact rfl; exact rfl)
        | apply awp_skip
        | apply awp_exit
        | apply awp_ret)
      refine aret_mark_loc rfl rfl rfl (aret_plain rfl (ares_cell2_loc rfl rfl rfl rfl rfl rfl rfl rfl rfl rfl) ⟨tu_sb (?_ : _ = _), _, rfl⟩)
      unfold dedentOf
      rw [if_neg hno]
end Go.Proofs.YtopmpdoigmenmaaGreatDoor
