/- Rules: the law SchemaBreaks. -/
import Derived.Test.YtopmpdoigmenmaaDoorSi
set_option maxRecDepth 100000
set_option linter.unusedVariables false
namespace Go.Proofs.YtopmpdoigmenmaaDoor
open Go Go.Av Go.RowKit Go.Proofs Go.Pl

theorem env_ok : EnvOk E := fun _ _ _ h hb hB _ h2 => h _ (hb.trans (h2.mono hB))
def sizeK : Bytes := [83, 105, 122, 101]
def ruleX : RuleV := ⟨3, sizeK, [], 0, 9⟩
theorem good_x : goodR ruleX := by decide +kernel
theorem brx1 : breaksR ruleX [(sizeK, [49, 48])] := by decide +kernel
theorem brx2 : breaksR ruleX [(sizeK, [48, 55])] := by decide +kernel
theorem brx3 : ¬ breaksR ruleX [(sizeK, [55])] := by decide +kernel
theorem rb_x : RuleB ruleX := ⟨by decide, by decide⟩
theorem fb_x (l : Bytes) (h : l.length ≤ 9) : FldsB [(sizeK, l)] := ⟨by simp, fun f hf => by
  simp at hf
  subst hf
  exact ⟨by simp [sizeK], by simp only; omega⟩⟩
theorem brx1_c (st : List AObj) : ACall E 9 [ruleA ruleX, fldsA [(sizeK, [49, 48])]] st fun x st' => x = Bv true ∧ st' = st := by
  have := breaks_c ruleX [(sizeK, [49, 48])] st rb_x (fb_x _ (by decide))
  rwa [decide_eq_true brx1] at this
theorem brx2_c (st : List AObj) : ACall E 9 [ruleA ruleX, fldsA [(sizeK, [48, 55])]] st fun x st' => x = Bv true ∧ st' = st := by
  have := breaks_c ruleX [(sizeK, [48, 55])] st rb_x (fb_x _ (by decide))
  rwa [decide_eq_true brx2] at this
theorem brx3_c (st : List AObj) : ACall E 9 [ruleA ruleX, fldsA [(sizeK, [55])]] st fun x st' => x = Bv false ∧ st' = st := by
  have := breaks_c ruleX [(sizeK, [55])] st rb_x (fb_x _ (by decide))
  rwa [decide_eq_false brx3] at this
theorem goodx_c (st : List AObj) : ACall E 7 [ruleA ruleX] st fun x st' => x = Bv true ∧ st' = st := by
  have := goodR_c ruleX st (by decide)
  rwa [decide_eq_true good_x] at this
theorem alive24_c (st : List AObj) : ACall E 4 [] st fun x st' => x = Bv true ∧ st' = st := by
  refine acall_pure (pure_v _) (acall_of_awp Tryd.func4 rfl (Nat.le_of_ble_eq_true rfl) ?_)
  repeat' (first
    | apply awp_seq
    | apply awp_block
    | apply awp_region
    | apply aops_nil
    | apply aops_move
    | apply aops_assign
    | (apply aops_extract; exact rfl; exact rfl)
    | (apply aops_cmpI; exact rfl; exact rfl; exact rfl)
    | (apply aops_cmpS; exact rfl; exact rfl; exact rfl)
    | (apply aops_not_d; exact rfl)
    | (apply aops_not; exact rfl)
    | (apply aops_guard_any; exact rfl; exact rfl; exact rfl; exact rfl)
    | (apply gd_run_d; (first | assumption | omega))
    | (apply gd_run_n; (first | assumption | omega))
    | (apply gd_skip_d; (first | assumption | omega))
    | (apply gd_skip_n; (first | assumption | omega))
    | (apply aops_guard_undef; exact rfl; exact rfl; exact rfl; exact rfl)
    | (apply gd_run_nt; (first | exact rfl | assumption))
    | (apply gd_run_nf; (first | exact rfl | assumption))
    | (apply gd_skip_nt; (first | exact rfl | assumption))
    | (apply gd_skip_nf; (first | exact rfl | assumption))
    | (apply gd_split_n <;> intro h)
    | (apply gd_run_t; (first | exact rfl | assumption))
    | (apply gd_run_f; (first | exact rfl | assumption))
    | (apply gd_skip_t; (first | exact rfl | assumption))
    | (apply gd_skip_f; (first | exact rfl | assumption))
    | (apply gd_split_d <;> intro h)
    | (apply gd_split <;> intro h)
    | (apply aops_pick_any; exact rfl; first | (apply pk_dt; (first | assumption | omega)) | (apply pk_df; (first | assumption | omega)) | (apply pk_nt; (first | exact rfl | assumption)) | (apply pk_nf; (first | exact rfl | assumption)) | (apply pk_t; (first | exact rfl | assumption)) | (apply pk_f; (first | exact rfl | assumption)))
    | (apply awp_cond_any; exact rfl; first | (apply cd_dt; (first | assumption | omega)) | (apply cd_df; (first | assumption | omega)) | (apply cd_nt; (first | exact rfl | assumption)) | (apply cd_nf; (first | exact rfl | assumption)) | (apply cd_n <;> intro h) | (apply cd_t; (first | exact rfl | assumption)) | (apply cd_f; (first | exact rfl | assumption)) | (apply cd_d <;> intro h) | (apply cd_s <;> intro h))
    | (apply aops_lenS; exact rfl; exact rfl; exact rfl)
    | (apply aops_lenL; exact rfl; exact rfl; exact rfl; exact rfl)
    | (apply aops_concat; exact rfl; exact rfl; (first | omega | (simp only [List.length_append, List.length_cons, List.length_nil]; omega) | (simp; omega)))
    | (apply aops_add; exact rfl; exact rfl; exact wrap_i64 (by omega) (by omega))
    | (apply aops_sub; exact rfl; exact rfl; exact wrap_i64 (by omega) (by omega))
    | (apply aops_errNeNil; exact rfl; exact rfl)
    | (apply aops_nilNeNil; exact rfl; exact rfl)
    | (apply aops_errEqNil; exact rfl; exact rfl)
    | (apply aops_nilEqNil; exact rfl; exact rfl)
    | (apply aops_makeInterface; exact rfl; exact rfl)
    | apply aops_makeFunc
    | (apply aops_alloc; exact rfl; exact rfl)
    | (apply aops_box; exact rfl; exact rfl; exact rfl; exact rfl)
    | (apply aops_field; exact rfl; exact rfl; exact rfl)
    | (apply aops_fieldAddr_bx; exact rfl; exact rfl; exact rfl)
    | (apply aops_fieldAddr_pp; exact rfl; exact rfl; exact rfl; exact rfl)
    | (apply aops_load_pp; exact rfl; exact rfl; exact rfl)
    | (apply aops_load_loc; exact rfl; exact rfl; exact rfl; exact rfl; exact rfl)
    | (apply aops_store_loc; exact rfl; exact rfl; exact rfl; exact rfl; exact rfl; exact rfl; exact rfl; exact rfl; exact rfl; exact rfl; exact rfl)
    | (apply aops_idx; exact rfl; exact rfl; exact rfl; first | assumption | omega | (simp; omega))
    | (apply aops_upto; exact rfl; exact rfl; exact rfl; first | assumption | omega | (simp; omega))
    | (apply aops_from; exact rfl; exact rfl; exact rfl; first | assumption | omega | (simp; omega))
    | (apply aops_span; exact rfl; exact rfl; exact rfl; exact rfl; (first | assumption | omega | (simp; omega)); first | assumption | omega | (simp; omega))
    | (apply aops_build; exact rfl; exact rfl; exact rfl)
    | (apply aops_buildSlice; exact rfl; exact rfl; exact rfl; exact rfl; exact rfl; exact rfl; exact rfl; exact rfl; exact rfl)
    | (apply aops_nilCheck; exact rfl; exact rfl)
    | (apply aops_ptrEqNil; exact rfl; exact rfl; exact rfl)
    | (apply aops_ptrNeNil; exact rfl; exact rfl; exact rfl)
    | (apply aops_xor32; exact rfl; exact rfl; (first | exact ofInt_toNat _ | exact rfl); first | exact ofInt_toNat _ | exact rfl)
    | (apply aops_and32; exact rfl; exact rfl; (first | exact ofInt_toNat _ | exact rfl); first | exact ofInt_toNat _ | exact rfl)
    | (apply aops_or32; exact rfl; exact rfl; (first | exact ofInt_toNat _ | exact rfl); first | exact ofInt_toNat _ | exact rfl)
    | (apply aops_compl32; exact rfl)
    | (apply aops_shl32; exact rfl; exact rfl; exact rfl)
    | (apply aops_shr32; exact rfl; exact rfl; exact rfl)
    | (apply aops_indexA; exact rfl; exact rfl; exact rfl; exact rfl; (first | assumption | omega | decide); exact rfl)
    | (apply aops_indexAddrA; exact rfl; exact rfl; exact rfl; exact rfl; first | assumption | omega | decide)
    | (apply awp_draw; exact rfl; kernel_rfl)
    | apply aq_nil
    | (apply aq_idx; exact rfl; exact rfl; exact rfl; first | assumption | omega | (simp; omega))
    | (apply aq_shr4; exact rfl; exact rfl)
    | (apply aq_and15; exact rfl; exact rfl)
    | (apply aq_convW; exact rfl; exact rfl; exact rfl; omega)
    | (apply aq_buildA; exact rfl; exact rfl; exact rfl)
    | apply aq_move
    | apply aq_assign
    | (apply aq_add; exact rfl; exact rfl; exact wrap_i64 (by omega) (by omega))
    | (apply aq_lenS; exact rfl; exact rfl; exact rfl)
    | (apply aq_upto; exact rfl; exact rfl; exact rfl; first | assumption | omega | (simp; omega))
    | (apply aq_from; exact rfl; exact rfl; exact rfl; first | assumption | omega | (simp; omega))
    | (apply aq_extract; exact rfl; exact rfl)
    | apply awp_skip
    | apply awp_exit
    | apply awp_ret
    | (apply aops_call1; exact Tryd.call9; exact brx1_c _)
    | (apply aops_call1; exact Tryd.call9; exact brx2_c _)
    | (apply aops_call1; exact Tryd.call9; exact brx3_c _)
    | (apply aops_call1; exact Tryd.call7; exact goodx_c _))
  exact aret_plain rfl (ares_one rfl) ⟨rfl, _, rfl⟩
theorem pureC_rule (r : RuleV) : PureC (ruleA r) := by
  intro y hy
  simp [AV.cells] at hy
  rcases hy with rfl | rfl | rfl | rfl | rfl <;> exact pure_v _
theorem pureC_fld (f : FldV) : PureC (fldA f) := by
  intro y hy
  simp [AV.cells] at hy
  rcases hy with rfl | rfl <;> exact pure_v _
theorem pure_flds (xs : List FldV) : Pure (fldsA xs) := pure_sl fun x hx => by
  simp only [List.mem_map] at hx
  obtain ⟨f, _, rfl⟩ := hx
  exact pureC_fld f
theorem pure_rule (r : RuleV) : Pure (ruleA r) := pure_of_pureC (pureC_rule r)
theorem pure_rf {r : RuleV} {xs : List FldV} : ∀ x ∈ [ruleA r, fldsA xs], Pure x := by
  intro x hx
  simp only [List.mem_cons, List.not_mem_nil, or_false] at hx
  rcases hx with rfl | rfl
  · exact pure_rule r
  · exact pure_flds xs
theorem pure_r {r : RuleV} : ∀ x ∈ [ruleA r], Pure x := by
  intro x hx
  simp only [List.mem_cons, List.not_mem_nil, or_false] at hx
  subst hx
  exact pure_rule r
theorem schemaBreaks_c (rs : List RuleV) (xs : List FldV) (st : List AObj) (hr : rs.length < 9223372036854775808) (hx : xs.length < 9223372036854775808) : ACall E 3 [.sl 5 (rs.map ruleA) none, fldsA xs] st fun x st' => x = Bv true ∧ st' = st := by
  refine acall_pure (pure_v _) (acall_of_awp Tryd.func3 rfl (Nat.le_of_ble_eq_true rfl) ?_)
  repeat' (first
    | apply awp_seq
    | apply awp_block
    | apply awp_region
    | apply aops_nil
    | apply aops_move
    | apply aops_assign
    | (apply aops_extract; exact rfl; exact rfl)
    | (apply aops_cmpI; exact rfl; exact rfl; exact rfl)
    | (apply aops_cmpS; exact rfl; exact rfl; exact rfl)
    | (apply aops_not_d; exact rfl)
    | (apply aops_not; exact rfl)
    | (apply aops_guard_any; exact rfl; exact rfl; exact rfl; exact rfl)
    | (apply gd_run_d; (first | assumption | omega))
    | (apply gd_run_n; (first | assumption | omega))
    | (apply gd_skip_d; (first | assumption | omega))
    | (apply gd_skip_n; (first | assumption | omega))
    | (apply aops_guard_undef; exact rfl; exact rfl; exact rfl; exact rfl)
    | (apply gd_run_nt; (first | exact rfl | assumption))
    | (apply gd_run_nf; (first | exact rfl | assumption))
    | (apply gd_skip_nt; (first | exact rfl | assumption))
    | (apply gd_skip_nf; (first | exact rfl | assumption))
    | (apply gd_split_n <;> intro h)
    | (apply gd_run_t; (first | exact rfl | assumption))
    | (apply gd_run_f; (first | exact rfl | assumption))
    | (apply gd_skip_t; (first | exact rfl | assumption))
    | (apply gd_skip_f; (first | exact rfl | assumption))
    | (apply gd_split_d <;> intro h)
    | (apply gd_split <;> intro h)
    | (apply aops_pick_any; exact rfl; first | (apply pk_dt; (first | assumption | omega)) | (apply pk_df; (first | assumption | omega)) | (apply pk_nt; (first | exact rfl | assumption)) | (apply pk_nf; (first | exact rfl | assumption)) | (apply pk_t; (first | exact rfl | assumption)) | (apply pk_f; (first | exact rfl | assumption)))
    | (apply awp_cond_any; exact rfl; first | (apply cd_dt; (first | assumption | omega)) | (apply cd_df; (first | assumption | omega)) | (apply cd_nt; (first | exact rfl | assumption)) | (apply cd_nf; (first | exact rfl | assumption)) | (apply cd_n <;> intro h) | (apply cd_t; (first | exact rfl | assumption)) | (apply cd_f; (first | exact rfl | assumption)) | (apply cd_d <;> intro h) | (apply cd_s <;> intro h))
    | (apply aops_lenS; exact rfl; exact rfl; exact rfl)
    | (apply aops_lenL; exact rfl; exact rfl; exact rfl; exact rfl)
    | (apply aops_concat; exact rfl; exact rfl; (first | omega | (simp only [List.length_append, List.length_cons, List.length_nil]; omega) | (simp; omega)))
    | (apply aops_add; exact rfl; exact rfl; exact wrap_i64 (by omega) (by omega))
    | (apply aops_sub; exact rfl; exact rfl; exact wrap_i64 (by omega) (by omega))
    | (apply aops_errNeNil; exact rfl; exact rfl)
    | (apply aops_nilNeNil; exact rfl; exact rfl)
    | (apply aops_errEqNil; exact rfl; exact rfl)
    | (apply aops_nilEqNil; exact rfl; exact rfl)
    | (apply aops_makeInterface; exact rfl; exact rfl)
    | apply aops_makeFunc
    | (apply aops_alloc; exact rfl; exact rfl)
    | (apply aops_box; exact rfl; exact rfl; exact rfl; exact rfl)
    | (apply aops_field; exact rfl; exact rfl; exact rfl)
    | (apply aops_fieldAddr_bx; exact rfl; exact rfl; exact rfl)
    | (apply aops_fieldAddr_pp; exact rfl; exact rfl; exact rfl; exact rfl)
    | (apply aops_load_pp; exact rfl; exact rfl; exact rfl)
    | (apply aops_load_loc; exact rfl; exact rfl; exact rfl; exact rfl; exact rfl)
    | (apply aops_store_loc; exact rfl; exact rfl; exact rfl; exact rfl; exact rfl; exact rfl; exact rfl; exact rfl; exact rfl; exact rfl; exact rfl)
    | (apply aops_idx; exact rfl; exact rfl; exact rfl; first | assumption | omega | (simp; omega))
    | (apply aops_upto; exact rfl; exact rfl; exact rfl; first | assumption | omega | (simp; omega))
    | (apply aops_from; exact rfl; exact rfl; exact rfl; first | assumption | omega | (simp; omega))
    | (apply aops_span; exact rfl; exact rfl; exact rfl; exact rfl; (first | assumption | omega | (simp; omega)); first | assumption | omega | (simp; omega))
    | (apply aops_build; exact rfl; exact rfl; exact rfl)
    | (apply aops_buildSlice; exact rfl; exact rfl; exact rfl; exact rfl; exact rfl; exact rfl; exact rfl; exact rfl; exact rfl)
    | (apply aops_nilCheck; exact rfl; exact rfl)
    | (apply aops_ptrEqNil; exact rfl; exact rfl; exact rfl)
    | (apply aops_ptrNeNil; exact rfl; exact rfl; exact rfl)
    | (apply aops_xor32; exact rfl; exact rfl; (first | exact ofInt_toNat _ | exact rfl); first | exact ofInt_toNat _ | exact rfl)
    | (apply aops_and32; exact rfl; exact rfl; (first | exact ofInt_toNat _ | exact rfl); first | exact ofInt_toNat _ | exact rfl)
    | (apply aops_or32; exact rfl; exact rfl; (first | exact ofInt_toNat _ | exact rfl); first | exact ofInt_toNat _ | exact rfl)
    | (apply aops_compl32; exact rfl)
    | (apply aops_shl32; exact rfl; exact rfl; exact rfl)
    | (apply aops_shr32; exact rfl; exact rfl; exact rfl)
    | (apply aops_indexA; exact rfl; exact rfl; exact rfl; exact rfl; (first | assumption | omega | decide); exact rfl)
    | (apply aops_indexAddrA; exact rfl; exact rfl; exact rfl; exact rfl; first | assumption | omega | decide)
    | (apply awp_draw; exact rfl; kernel_rfl)
    | apply aq_nil
    | (apply aq_idx; exact rfl; exact rfl; exact rfl; first | assumption | omega | (simp; omega))
    | (apply aq_shr4; exact rfl; exact rfl)
    | (apply aq_and15; exact rfl; exact rfl)
    | (apply aq_convW; exact rfl; exact rfl; exact rfl; omega)
    | (apply aq_buildA; exact rfl; exact rfl; exact rfl)
    | apply aq_move
    | apply aq_assign
    | (apply aq_add; exact rfl; exact rfl; exact wrap_i64 (by omega) (by omega))
    | (apply aq_lenS; exact rfl; exact rfl; exact rfl)
    | (apply aq_upto; exact rfl; exact rfl; exact rfl; first | assumption | omega | (simp; omega))
    | (apply aq_from; exact rfl; exact rfl; exact rfl; first | assumption | omega | (simp; omega))
    | (apply aq_extract; exact rfl; exact rfl)
    | apply awp_skip
    | apply awp_exit
    | apply awp_ret
    | (apply aops_call1; exact Tryd.call4; exact alive24_c _))
  refine aops_call Tryd.call5 ((large_c [] rs _ hr).mono ?_)
  rintro _ _ ⟨⟨b, rfl, hb⟩, rfl⟩
  cases b
  · obtain ⟨_, hl, hR⟩ := hb rfl
    repeat' (first
      | apply awp_seq
      | apply awp_block
      | apply awp_region
      | apply aops_nil
      | apply aops_move
      | apply aops_assign
      | (apply aops_extract; exact rfl; exact rfl)
      | (apply aops_cmpI; exact rfl; exact rfl; exact rfl)
      | (apply aops_cmpS; exact rfl; exact rfl; exact rfl)
      | (apply aops_not_d; exact rfl)
      | (apply aops_not; exact rfl)
      | (apply aops_guard_any; exact rfl; exact rfl; exact rfl; exact rfl)
      | (apply gd_run_d; (first | assumption | omega))
      | (apply gd_run_n; (first | assumption | omega))
      | (apply gd_skip_d; (first | assumption | omega))
      | (apply gd_skip_n; (first | assumption | omega))
      | (apply aops_guard_undef; exact rfl; exact rfl; exact rfl; exact rfl)
      | (apply gd_run_nt; (first | exact rfl | assumption))
      | (apply gd_run_nf; (first | exact rfl | assumption))
      | (apply gd_skip_nt; (first | exact rfl | assumption))
      | (apply gd_skip_nf; (first | exact rfl | assumption))
      | (apply gd_split_n <;> intro h)
      | (apply gd_run_t; (first | exact rfl | assumption))
      | (apply gd_run_f; (first | exact rfl | assumption))
      | (apply gd_skip_t; (first | exact rfl | assumption))
      | (apply gd_skip_f; (first | exact rfl | assumption))
      | (apply gd_split_d <;> intro h)
      | (apply gd_split <;> intro h)
      | (apply aops_pick_any; exact rfl; first | (apply pk_dt; (first | assumption | omega)) | (apply pk_df; (first | assumption | omega)) | (apply pk_nt; (first | exact rfl | assumption)) | (apply pk_nf; (first | exact rfl | assumption)) | (apply pk_t; (first | exact rfl | assumption)) | (apply pk_f; (first | exact rfl | assumption)))
      | (apply awp_cond_any; exact rfl; first | (apply cd_dt; (first | assumption | omega)) | (apply cd_df; (first | assumption | omega)) | (apply cd_nt; (first | exact rfl | assumption)) | (apply cd_nf; (first | exact rfl | assumption)) | (apply cd_n <;> intro h) | (apply cd_t; (first | exact rfl | assumption)) | (apply cd_f; (first | exact rfl | assumption)) | (apply cd_d <;> intro h) | (apply cd_s <;> intro h))
      | (apply aops_lenS; exact rfl; exact rfl; exact rfl)
      | (apply aops_lenL; exact rfl; exact rfl; exact rfl; exact rfl)
      | (apply aops_concat; exact rfl; exact rfl; (first | omega | (simp only [List.length_append, List.length_cons, List.length_nil]; omega) | (simp; omega)))
      | (apply aops_add; exact rfl; exact rfl; exact wrap_i64 (by omega) (by omega))
      | (apply aops_sub; exact rfl; exact rfl; exact wrap_i64 (by omega) (by omega))
      | (apply aops_errNeNil; exact rfl; exact rfl)
      | (apply aops_nilNeNil; exact rfl; exact rfl)
      | (apply aops_errEqNil; exact rfl; exact rfl)
      | (apply aops_nilEqNil; exact rfl; exact rfl)
      | (apply aops_makeInterface; exact rfl; exact rfl)
      | apply aops_makeFunc
      | (apply aops_alloc; exact rfl; exact rfl)
      | (apply aops_box; exact rfl; exact rfl; exact rfl; exact rfl)
      | (apply aops_field; exact rfl; exact rfl; exact rfl)
      | (apply aops_fieldAddr_bx; exact rfl; exact rfl; exact rfl)
      | (apply aops_fieldAddr_pp; exact rfl; exact rfl; exact rfl; exact rfl)
      | (apply aops_load_pp; exact rfl; exact rfl; exact rfl)
      | (apply aops_load_loc; exact rfl; exact rfl; exact rfl; exact rfl; exact rfl)
      | (apply aops_store_loc; exact rfl; exact rfl; exact rfl; exact rfl; exact rfl; exact rfl; exact rfl; exact rfl; exact rfl; exact rfl; exact rfl)
      | (apply aops_idx; exact rfl; exact rfl; exact rfl; first | assumption | omega | (simp; omega))
      | (apply aops_upto; exact rfl; exact rfl; exact rfl; first | assumption | omega | (simp; omega))
      | (apply aops_from; exact rfl; exact rfl; exact rfl; first | assumption | omega | (simp; omega))
      | (apply aops_span; exact rfl; exact rfl; exact rfl; exact rfl; (first | assumption | omega | (simp; omega)); first | assumption | omega | (simp; omega))
      | (apply aops_build; exact rfl; exact rfl; exact rfl)
      | (apply aops_buildSlice; exact rfl; exact rfl; exact rfl; exact rfl; exact rfl; exact rfl; exact rfl; exact rfl; exact rfl)
      | (apply aops_nilCheck; exact rfl; exact rfl)
      | (apply aops_ptrEqNil; exact rfl; exact rfl; exact rfl)
      | (apply aops_ptrNeNil; exact rfl; exact rfl; exact rfl)
      | (apply aops_xor32; exact rfl; exact rfl; (first | exact ofInt_toNat _ | exact rfl); first | exact ofInt_toNat _ | exact rfl)
      | (apply aops_and32; exact rfl; exact rfl; (first | exact ofInt_toNat _ | exact rfl); first | exact ofInt_toNat _ | exact rfl)
      | (apply aops_or32; exact rfl; exact rfl; (first | exact ofInt_toNat _ | exact rfl); first | exact ofInt_toNat _ | exact rfl)
      | (apply aops_compl32; exact rfl)
      | (apply aops_shl32; exact rfl; exact rfl; exact rfl)
      | (apply aops_shr32; exact rfl; exact rfl; exact rfl)
      | (apply aops_indexA; exact rfl; exact rfl; exact rfl; exact rfl; (first | assumption | omega | decide); exact rfl)
      | (apply aops_indexAddrA; exact rfl; exact rfl; exact rfl; exact rfl; first | assumption | omega | decide)
      | (apply awp_draw; exact rfl; kernel_rfl)
      | apply aq_nil
      | (apply aq_idx; exact rfl; exact rfl; exact rfl; first | assumption | omega | (simp; omega))
      | (apply aq_shr4; exact rfl; exact rfl)
      | (apply aq_and15; exact rfl; exact rfl)
      | (apply aq_convW; exact rfl; exact rfl; exact rfl; omega)
      | (apply aq_buildA; exact rfl; exact rfl; exact rfl)
      | apply aq_move
      | apply aq_assign
      | (apply aq_add; exact rfl; exact rfl; exact wrap_i64 (by omega) (by omega))
      | (apply aq_lenS; exact rfl; exact rfl; exact rfl)
      | (apply aq_upto; exact rfl; exact rfl; exact rfl; first | assumption | omega | (simp; omega))
      | (apply aq_from; exact rfl; exact rfl; exact rfl; first | assumption | omega | (simp; omega))
      | (apply aq_extract; exact rfl; exact rfl)
      | apply awp_skip
      | apply awp_exit
      | apply awp_ret)
    refine aops_call Tryd.call6 ((much_c xs _ hx).mono ?_)
    rintro _ _ ⟨⟨b, rfl, hb⟩, rfl⟩
    cases b
    · have hF := hb rfl
      have hlen : (rs.map ruleA).length = rs.length := by simp
      repeat' (first
        | apply awp_seq
        | apply awp_block
        | apply awp_region
        | apply aops_nil
        | apply aops_move
        | apply aops_assign
        | (apply aops_extract; exact rfl; exact rfl)
        | (apply aops_cmpI; exact rfl; exact rfl; exact rfl)
        | (apply aops_cmpS; exact rfl; exact rfl; exact rfl)
        | (apply aops_not_d; exact rfl)
        | (apply aops_not; exact rfl)
        | (apply aops_guard_any; exact rfl; exact rfl; exact rfl; exact rfl)
        | (apply gd_run_d; (first | assumption | omega))
        | (apply gd_run_n; (first | assumption | omega))
        | (apply gd_skip_d; (first | assumption | omega))
        | (apply gd_skip_n; (first | assumption | omega))
        | (apply aops_guard_undef; exact rfl; exact rfl; exact rfl; exact rfl)
        | (apply gd_run_nt; (first | exact rfl | assumption))
        | (apply gd_run_nf; (first | exact rfl | assumption))
        | (apply gd_skip_nt; (first | exact rfl | assumption))
        | (apply gd_skip_nf; (first | exact rfl | assumption))
        | (apply gd_split_n <;> intro h)
        | (apply gd_run_t; (first | exact rfl | assumption))
        | (apply gd_run_f; (first | exact rfl | assumption))
        | (apply gd_skip_t; (first | exact rfl | assumption))
        | (apply gd_skip_f; (first | exact rfl | assumption))
        | (apply gd_split_d <;> intro h)
        | (apply gd_split <;> intro h)
        | (apply aops_pick_any; exact rfl; first | (apply pk_dt; (first | assumption | omega)) | (apply pk_df; (first | assumption | omega)) | (apply pk_nt; (first | exact rfl | assumption)) | (apply pk_nf; (first | exact rfl | assumption)) | (apply pk_t; (first | exact rfl | assumption)) | (apply pk_f; (first | exact rfl | assumption)))
        | (apply awp_cond_any; exact rfl; first | (apply cd_dt; (first | assumption | omega)) | (apply cd_df; (first | assumption | omega)) | (apply cd_nt; (first | exact rfl | assumption)) | (apply cd_nf; (first | exact rfl | assumption)) | (apply cd_n <;> intro h) | (apply cd_t; (first | exact rfl | assumption)) | (apply cd_f; (first | exact rfl | assumption)) | (apply cd_d <;> intro h) | (apply cd_s <;> intro h))
        | (apply aops_lenS; exact rfl; exact rfl; exact rfl)
        | (apply aops_lenL; exact rfl; exact rfl; exact rfl; exact rfl)
        | (apply aops_concat; exact rfl; exact rfl; (first | omega | (simp only [List.length_append, List.length_cons, List.length_nil]; omega) | (simp; omega)))
        | (apply aops_add; exact rfl; exact rfl; exact wrap_i64 (by omega) (by omega))
        | (apply aops_sub; exact rfl; exact rfl; exact wrap_i64 (by omega) (by omega))
        | (apply aops_errNeNil; exact rfl; exact rfl)
        | (apply aops_nilNeNil; exact rfl; exact rfl)
        | (apply aops_errEqNil; exact rfl; exact rfl)
        | (apply aops_nilEqNil; exact rfl; exact rfl)
        | (apply aops_makeInterface; exact rfl; exact rfl)
        | apply aops_makeFunc
        | (apply aops_alloc; exact rfl; exact rfl)
        | (apply aops_box; exact rfl; exact rfl; exact rfl; exact rfl)
        | (apply aops_field; exact rfl; exact rfl; exact rfl)
        | (apply aops_fieldAddr_bx; exact rfl; exact rfl; exact rfl)
        | (apply aops_fieldAddr_pp; exact rfl; exact rfl; exact rfl; exact rfl)
        | (apply aops_load_pp; exact rfl; exact rfl; exact rfl)
        | (apply aops_load_loc; exact rfl; exact rfl; exact rfl; exact rfl; exact rfl)
        | (apply aops_store_loc; exact rfl; exact rfl; exact rfl; exact rfl; exact rfl; exact rfl; exact rfl; exact rfl; exact rfl; exact rfl; exact rfl)
        | (apply aops_idx; exact rfl; exact rfl; exact rfl; first | assumption | omega | (simp; omega))
        | (apply aops_upto; exact rfl; exact rfl; exact rfl; first | assumption | omega | (simp; omega))
        | (apply aops_from; exact rfl; exact rfl; exact rfl; first | assumption | omega | (simp; omega))
        | (apply aops_span; exact rfl; exact rfl; exact rfl; exact rfl; (first | assumption | omega | (simp; omega)); first | assumption | omega | (simp; omega))
        | (apply aops_build; exact rfl; exact rfl; exact rfl)
        | (apply aops_buildSlice; exact rfl; exact rfl; exact rfl; exact rfl; exact rfl; exact rfl; exact rfl; exact rfl; exact rfl)
        | (apply aops_nilCheck; exact rfl; exact rfl)
        | (apply aops_ptrEqNil; exact rfl; exact rfl; exact rfl)
        | (apply aops_ptrNeNil; exact rfl; exact rfl; exact rfl)
        | (apply aops_xor32; exact rfl; exact rfl; (first | exact ofInt_toNat _ | exact rfl); first | exact ofInt_toNat _ | exact rfl)
        | (apply aops_and32; exact rfl; exact rfl; (first | exact ofInt_toNat _ | exact rfl); first | exact ofInt_toNat _ | exact rfl)
        | (apply aops_or32; exact rfl; exact rfl; (first | exact ofInt_toNat _ | exact rfl); first | exact ofInt_toNat _ | exact rfl)
        | (apply aops_compl32; exact rfl)
        | (apply aops_shl32; exact rfl; exact rfl; exact rfl)
        | (apply aops_shr32; exact rfl; exact rfl; exact rfl)
        | (apply aops_indexA; exact rfl; exact rfl; exact rfl; exact rfl; (first | assumption | omega | decide); exact rfl)
        | (apply aops_indexAddrA; exact rfl; exact rfl; exact rfl; exact rfl; first | assumption | omega | decide)
        | (apply awp_draw; exact rfl; kernel_rfl)
        | apply aq_nil
        | (apply aq_idx; exact rfl; exact rfl; exact rfl; first | assumption | omega | (simp; omega))
        | (apply aq_shr4; exact rfl; exact rfl)
        | (apply aq_and15; exact rfl; exact rfl)
        | (apply aq_convW; exact rfl; exact rfl; exact rfl; omega)
        | (apply aq_buildA; exact rfl; exact rfl; exact rfl)
        | apply aq_move
        | apply aq_assign
        | (apply aq_add; exact rfl; exact rfl; exact wrap_i64 (by omega) (by omega))
        | (apply aq_lenS; exact rfl; exact rfl; exact rfl)
        | (apply aq_upto; exact rfl; exact rfl; exact rfl; first | assumption | omega | (simp; omega))
        | (apply aq_from; exact rfl; exact rfl; exact rfl; first | assumption | omega | (simp; omega))
        | (apply aq_extract; exact rfl; exact rfl)
        | apply awp_skip
        | apply awp_exit
        | apply awp_ret)
      refine awp_loopG (fun (k : Nat) s => k ≤ rs.length ∧ StE [(1, fldsA xs), (15, .sl 5 (rs.map ruleA) none), (16, Iv rs.length), (17, Iv k)] st [] s) (fun k => rs.length - k) 0 ⟨by simp, stE_mk0 ⟨rfl, rfl, congrArg (fun n : Nat => Iv (n : Int)) hlen, rfl, trivial⟩ rfl⟩ ?_
      rintro k _ ⟨hk, t, ext, rfl⟩
      rcases Nat.lt_or_ge k rs.length with hc | hc
      · have hB := hR (rs.getD k ⟨0, [], [], 0, 0⟩) (by simp [List.getD, hc])
        repeat' (first
          | apply awp_seq
          | apply awp_block
          | apply awp_region
          | apply aops_nil
          | apply aops_move
          | apply aops_assign
          | (apply aops_extract; exact rfl; exact rfl)
          | (apply aops_cmpI; exact rfl; exact rfl; exact rfl)
          | (apply aops_cmpS; exact rfl; exact rfl; exact rfl)
          | (apply aops_not_d; exact rfl)
          | (apply aops_not; exact rfl)
          | (apply aops_guard_any; exact rfl; exact rfl; exact rfl; exact rfl)
          | (apply gd_run_d; (first | assumption | omega))
          | (apply gd_run_n; (first | assumption | omega))
          | (apply gd_skip_d; (first | assumption | omega))
          | (apply gd_skip_n; (first | assumption | omega))
          | (apply aops_guard_undef; exact rfl; exact rfl; exact rfl; exact rfl)
          | (apply gd_run_nt; (first | exact rfl | assumption))
          | (apply gd_run_nf; (first | exact rfl | assumption))
          | (apply gd_skip_nt; (first | exact rfl | assumption))
          | (apply gd_skip_nf; (first | exact rfl | assumption))
          | (apply gd_split_n <;> intro h)
          | (apply gd_run_t; (first | exact rfl | assumption))
          | (apply gd_run_f; (first | exact rfl | assumption))
          | (apply gd_skip_t; (first | exact rfl | assumption))
          | (apply gd_skip_f; (first | exact rfl | assumption))
          | (apply gd_split_d <;> intro h)
          | (apply gd_split <;> intro h)
          | (apply aops_pick_any; exact rfl; first | (apply pk_dt; (first | assumption | omega)) | (apply pk_df; (first | assumption | omega)) | (apply pk_nt; (first | exact rfl | assumption)) | (apply pk_nf; (first | exact rfl | assumption)) | (apply pk_t; (first | exact rfl | assumption)) | (apply pk_f; (first | exact rfl | assumption)))
          | (apply awp_cond_any; exact rfl; first | (apply cd_dt; (first | assumption | omega)) | (apply cd_df; (first | assumption | omega)) | (apply cd_nt; (first | exact rfl | assumption)) | (apply cd_nf; (first | exact rfl | assumption)) | (apply cd_n <;> intro h) | (apply cd_t; (first | exact rfl | assumption)) | (apply cd_f; (first | exact rfl | assumption)) | (apply cd_d <;> intro h) | (apply cd_s <;> intro h))
          | (apply aops_lenS; exact rfl; exact rfl; exact rfl)
          | (apply aops_lenL; exact rfl; exact rfl; exact rfl; exact rfl)
          | (apply aops_concat; exact rfl; exact rfl; (first | omega | (simp only [List.length_append, List.length_cons, List.length_nil]; omega) | (simp; omega)))
          | (apply aops_add; exact rfl; exact rfl; exact wrap_i64 (by omega) (by omega))
          | (apply aops_sub; exact rfl; exact rfl; exact wrap_i64 (by omega) (by omega))
          | (apply aops_errNeNil; exact rfl; exact rfl)
          | (apply aops_nilNeNil; exact rfl; exact rfl)
          | (apply aops_errEqNil; exact rfl; exact rfl)
          | (apply aops_nilEqNil; exact rfl; exact rfl)
          | (apply aops_makeInterface; exact rfl; exact rfl)
          | apply aops_makeFunc
          | (apply aops_alloc; exact rfl; exact rfl)
          | (apply aops_box; exact rfl; exact rfl; exact rfl; exact rfl)
          | (apply aops_field; exact rfl; exact rfl; exact rfl)
          | (apply aops_fieldAddr_bx; exact rfl; exact rfl; exact rfl)
          | (apply aops_fieldAddr_pp; exact rfl; exact rfl; exact rfl; exact rfl)
          | (apply aops_load_pp; exact rfl; exact rfl; exact rfl)
          | (apply aops_load_loc; exact rfl; exact rfl; exact rfl; exact rfl; exact rfl)
          | (apply aops_store_loc; exact rfl; exact rfl; exact rfl; exact rfl; exact rfl; exact rfl; exact rfl; exact rfl; exact rfl; exact rfl; exact rfl)
          | (apply aops_idx; exact rfl; exact rfl; exact rfl; first | assumption | omega | (simp; omega))
          | (apply aops_upto; exact rfl; exact rfl; exact rfl; first | assumption | omega | (simp; omega))
          | (apply aops_from; exact rfl; exact rfl; exact rfl; first | assumption | omega | (simp; omega))
          | (apply aops_span; exact rfl; exact rfl; exact rfl; exact rfl; (first | assumption | omega | (simp; omega)); first | assumption | omega | (simp; omega))
          | (apply aops_build; exact rfl; exact rfl; exact rfl)
          | (apply aops_buildSlice; exact rfl; exact rfl; exact rfl; exact rfl; exact rfl; exact rfl; exact rfl; exact rfl; exact rfl)
          | (apply aops_nilCheck; exact rfl; exact rfl)
          | (apply aops_ptrEqNil; exact rfl; exact rfl; exact rfl)
          | (apply aops_ptrNeNil; exact rfl; exact rfl; exact rfl)
          | (apply aops_xor32; exact rfl; exact rfl; (first | exact ofInt_toNat _ | exact rfl); first | exact ofInt_toNat _ | exact rfl)
          | (apply aops_and32; exact rfl; exact rfl; (first | exact ofInt_toNat _ | exact rfl); first | exact ofInt_toNat _ | exact rfl)
          | (apply aops_or32; exact rfl; exact rfl; (first | exact ofInt_toNat _ | exact rfl); first | exact ofInt_toNat _ | exact rfl)
          | (apply aops_compl32; exact rfl)
          | (apply aops_shl32; exact rfl; exact rfl; exact rfl)
          | (apply aops_shr32; exact rfl; exact rfl; exact rfl)
          | (apply aops_indexA; exact rfl; exact rfl; exact rfl; exact rfl; (first | assumption | omega | decide); exact rfl)
          | (apply aops_indexAddrA; exact rfl; exact rfl; exact rfl; exact rfl; first | assumption | omega | decide)
          | (apply awp_draw; exact rfl; kernel_rfl)
          | apply aq_nil
          | (apply aq_idx; exact rfl; exact rfl; exact rfl; first | assumption | omega | (simp; omega))
          | (apply aq_shr4; exact rfl; exact rfl)
          | (apply aq_and15; exact rfl; exact rfl)
          | (apply aq_convW; exact rfl; exact rfl; exact rfl; omega)
          | (apply aq_buildA; exact rfl; exact rfl; exact rfl)
          | apply aq_move
          | apply aq_assign
          | (apply aq_add; exact rfl; exact rfl; exact wrap_i64 (by omega) (by omega))
          | (apply aq_lenS; exact rfl; exact rfl; exact rfl)
          | (apply aq_upto; exact rfl; exact rfl; exact rfl; first | assumption | omega | (simp; omega))
          | (apply aq_from; exact rfl; exact rfl; exact rfl; first | assumption | omega | (simp; omega))
          | (apply aq_extract; exact rfl; exact rfl)
          | apply awp_skip
          | apply awp_exit
          | apply awp_ret
          | (apply aops_indexAddr (n := k); exact rfl; exact rfl; exact rfl; exact rfl; exact rfl; exact rules_get (by omega))
          | (apply aq_load_loc; exact rfl; exact rfl; exact rfl; exact rfl; exact rfl)
          | (refine aq_callP (args := [ruleA (rs.getD k ⟨0, [], [], 0, 0⟩)]) env_ok Tryd.call7 rfl pure_r (sure_v _) (fun _ => .v _) (goodR_c _ _ hB.key) ?_)
          | (refine aq_callP (args := [ruleA (rs.getD k ⟨0, [], [], 0, 0⟩)]) env_ok Tryd.call8 rfl pure_r (sure_v _) (fun _ => .v _) (refGood24_c _ _ hB.key) ?_)
          | (refine aq_callP (args := [ruleA (rs.getD k ⟨0, [], [], 0, 0⟩), fldsA xs]) env_ok Tryd.call9 rfl pure_rf (sure_v _) (fun _ => .v _) (breaks_c _ _ _ hB hF) ?_)
          | (refine aq_callP (args := [ruleA (rs.getD k ⟨0, [], [], 0, 0⟩), fldsA xs]) env_ok Tryd.call10 rfl pure_rf (sure_v _) (fun _ => .v _) (refBreaks24_c _ _ _ hB hF) ?_)
          | (apply aq_neBS; exact rfl; exact rfl; exact rfl)
          | (apply aq_guard_run; exact rfl; exact rfl; exact rfl; exact rfl; exact rfl)
          | (apply aq_pick_f; exact rfl; exact rfl))
        exact ⟨k + 1, ⟨by omega, stE_mk ⟨rfl, rfl, rfl, rfl, trivial⟩ rfl⟩, by omega⟩
      · skip
        repeat' (first
          | apply awp_seq
          | apply awp_block
          | apply awp_region
          | apply aops_nil
          | apply aops_move
          | apply aops_assign
          | (apply aops_extract; exact rfl; exact rfl)
          | (apply aops_cmpI; exact rfl; exact rfl; exact rfl)
          | (apply aops_cmpS; exact rfl; exact rfl; exact rfl)
          | (apply aops_not_d; exact rfl)
          | (apply aops_not; exact rfl)
          | (apply aops_guard_any; exact rfl; exact rfl; exact rfl; exact rfl)
          | (apply gd_run_d; (first | assumption | omega))
          | (apply gd_run_n; (first | assumption | omega))
          | (apply gd_skip_d; (first | assumption | omega))
          | (apply gd_skip_n; (first | assumption | omega))
          | (apply aops_guard_undef; exact rfl; exact rfl; exact rfl; exact rfl)
          | (apply gd_run_nt; (first | exact rfl | assumption))
          | (apply gd_run_nf; (first | exact rfl | assumption))
          | (apply gd_skip_nt; (first | exact rfl | assumption))
          | (apply gd_skip_nf; (first | exact rfl | assumption))
          | (apply gd_split_n <;> intro h)
          | (apply gd_run_t; (first | exact rfl | assumption))
          | (apply gd_run_f; (first | exact rfl | assumption))
          | (apply gd_skip_t; (first | exact rfl | assumption))
          | (apply gd_skip_f; (first | exact rfl | assumption))
          | (apply gd_split_d <;> intro h)
          | (apply gd_split <;> intro h)
          | (apply aops_pick_any; exact rfl; first | (apply pk_dt; (first | assumption | omega)) | (apply pk_df; (first | assumption | omega)) | (apply pk_nt; (first | exact rfl | assumption)) | (apply pk_nf; (first | exact rfl | assumption)) | (apply pk_t; (first | exact rfl | assumption)) | (apply pk_f; (first | exact rfl | assumption)))
          | (apply awp_cond_any; exact rfl; first | (apply cd_dt; (first | assumption | omega)) | (apply cd_df; (first | assumption | omega)) | (apply cd_nt; (first | exact rfl | assumption)) | (apply cd_nf; (first | exact rfl | assumption)) | (apply cd_n <;> intro h) | (apply cd_t; (first | exact rfl | assumption)) | (apply cd_f; (first | exact rfl | assumption)) | (apply cd_d <;> intro h) | (apply cd_s <;> intro h))
          | (apply aops_lenS; exact rfl; exact rfl; exact rfl)
          | (apply aops_lenL; exact rfl; exact rfl; exact rfl; exact rfl)
          | (apply aops_concat; exact rfl; exact rfl; (first | omega | (simp only [List.length_append, List.length_cons, List.length_nil]; omega) | (simp; omega)))
          | (apply aops_add; exact rfl; exact rfl; exact wrap_i64 (by omega) (by omega))
          | (apply aops_sub; exact rfl; exact rfl; exact wrap_i64 (by omega) (by omega))
          | (apply aops_errNeNil; exact rfl; exact rfl)
          | (apply aops_nilNeNil; exact rfl; exact rfl)
          | (apply aops_errEqNil; exact rfl; exact rfl)
          | (apply aops_nilEqNil; exact rfl; exact rfl)
          | (apply aops_makeInterface; exact rfl; exact rfl)
          | apply aops_makeFunc
          | (apply aops_alloc; exact rfl; exact rfl)
          | (apply aops_box; exact rfl; exact rfl; exact rfl; exact rfl)
          | (apply aops_field; exact rfl; exact rfl; exact rfl)
          | (apply aops_fieldAddr_bx; exact rfl; exact rfl; exact rfl)
          | (apply aops_fieldAddr_pp; exact rfl; exact rfl; exact rfl; exact rfl)
          | (apply aops_load_pp; exact rfl; exact rfl; exact rfl)
          | (apply aops_load_loc; exact rfl; exact rfl; exact rfl; exact rfl; exact rfl)
          | (apply aops_store_loc; exact rfl; exact rfl; exact rfl; exact rfl; exact rfl; exact rfl; exact rfl; exact rfl; exact rfl; exact rfl; exact rfl)
          | (apply aops_idx; exact rfl; exact rfl; exact rfl; first | assumption | omega | (simp; omega))
          | (apply aops_upto; exact rfl; exact rfl; exact rfl; first | assumption | omega | (simp; omega))
          | (apply aops_from; exact rfl; exact rfl; exact rfl; first | assumption | omega | (simp; omega))
          | (apply aops_span; exact rfl; exact rfl; exact rfl; exact rfl; (first | assumption | omega | (simp; omega)); first | assumption | omega | (simp; omega))
          | (apply aops_build; exact rfl; exact rfl; exact rfl)
          | (apply aops_buildSlice; exact rfl; exact rfl; exact rfl; exact rfl; exact rfl; exact rfl; exact rfl; exact rfl; exact rfl)
          | (apply aops_nilCheck; exact rfl; exact rfl)
          | (apply aops_ptrEqNil; exact rfl; exact rfl; exact rfl)
          | (apply aops_ptrNeNil; exact rfl; exact rfl; exact rfl)
          | (apply aops_xor32; exact rfl; exact rfl; (first | exact ofInt_toNat _ | exact rfl); first | exact ofInt_toNat _ | exact rfl)
          | (apply aops_and32; exact rfl; exact rfl; (first | exact ofInt_toNat _ | exact rfl); first | exact ofInt_toNat _ | exact rfl)
          | (apply aops_or32; exact rfl; exact rfl; (first | exact ofInt_toNat _ | exact rfl); first | exact ofInt_toNat _ | exact rfl)
          | (apply aops_compl32; exact rfl)
          | (apply aops_shl32; exact rfl; exact rfl; exact rfl)
          | (apply aops_shr32; exact rfl; exact rfl; exact rfl)
          | (apply aops_indexA; exact rfl; exact rfl; exact rfl; exact rfl; (first | assumption | omega | decide); exact rfl)
          | (apply aops_indexAddrA; exact rfl; exact rfl; exact rfl; exact rfl; first | assumption | omega | decide)
          | (apply awp_draw; exact rfl; kernel_rfl)
          | apply aq_nil
          | (apply aq_idx; exact rfl; exact rfl; exact rfl; first | assumption | omega | (simp; omega))
          | (apply aq_shr4; exact rfl; exact rfl)
          | (apply aq_and15; exact rfl; exact rfl)
          | (apply aq_convW; exact rfl; exact rfl; exact rfl; omega)
          | (apply aq_buildA; exact rfl; exact rfl; exact rfl)
          | apply aq_move
          | apply aq_assign
          | (apply aq_add; exact rfl; exact rfl; exact wrap_i64 (by omega) (by omega))
          | (apply aq_lenS; exact rfl; exact rfl; exact rfl)
          | (apply aq_upto; exact rfl; exact rfl; exact rfl; first | assumption | omega | (simp; omega))
          | (apply aq_from; exact rfl; exact rfl; exact rfl; first | assumption | omega | (simp; omega))
          | (apply aq_extract; exact rfl; exact rfl)
          | apply awp_skip
          | apply awp_exit
          | apply awp_ret)
        exact aret_plain rfl (ares_one rfl) ⟨rfl, ext_end _ _ _ _⟩
    · skip
      repeat' (first
        | apply awp_seq
        | apply awp_block
        | apply awp_region
        | apply aops_nil
        | apply aops_move
        | apply aops_assign
        | (apply aops_extract; exact rfl; exact rfl)
        | (apply aops_cmpI; exact rfl; exact rfl; exact rfl)
        | (apply aops_cmpS; exact rfl; exact rfl; exact rfl)
        | (apply aops_not_d; exact rfl)
        | (apply aops_not; exact rfl)
        | (apply aops_guard_any; exact rfl; exact rfl; exact rfl; exact rfl)
        | (apply gd_run_d; (first | assumption | omega))
        | (apply gd_run_n; (first | assumption | omega))
        | (apply gd_skip_d; (first | assumption | omega))
        | (apply gd_skip_n; (first | assumption | omega))
        | (apply aops_guard_undef; exact rfl; exact rfl; exact rfl; exact rfl)
        | (apply gd_run_nt; (first | exact rfl | assumption))
        | (apply gd_run_nf; (first | exact rfl | assumption))
        | (apply gd_skip_nt; (first | exact rfl | assumption))
        | (apply gd_skip_nf; (first | exact rfl | assumption))
        | (apply gd_split_n <;> intro h)
        | (apply gd_run_t; (first | exact rfl | assumption))
        | (apply gd_run_f; (first | exact rfl | assumption))
        | (apply gd_skip_t; (first | exact rfl | assumption))
        | (apply gd_skip_f; (first | exact rfl | assumption))
        | (apply gd_split_d <;> intro h)
        | (apply gd_split <;> intro h)
        | (apply aops_pick_any; exact rfl; first | (apply pk_dt; (first | assumption | omega)) | (apply pk_df; (first | assumption | omega)) | (apply pk_nt; (first | exact rfl | assumption)) | (apply pk_nf; (first | exact rfl | assumption)) | (apply pk_t; (first | exact rfl | assumption)) | (apply pk_f; (first | exact rfl | assumption)))
        | (apply awp_cond_any; exact rfl; first | (apply cd_dt; (first | assumption | omega)) | (apply cd_df; (first | assumption | omega)) | (apply cd_nt; (first | exact rfl | assumption)) | (apply cd_nf; (first | exact rfl | assumption)) | (apply cd_n <;> intro h) | (apply cd_t; (first | exact rfl | assumption)) | (apply cd_f; (first | exact rfl | assumption)) | (apply cd_d <;> intro h) | (apply cd_s <;> intro h))
        | (apply aops_lenS; exact rfl; exact rfl; exact rfl)
        | (apply aops_lenL; exact rfl; exact rfl; exact rfl; exact rfl)
        | (apply aops_concat; exact rfl; exact rfl; (first | omega | (simp only [List.length_append, List.length_cons, List.length_nil]; omega) | (simp; omega)))
        | (apply aops_add; exact rfl; exact rfl; exact wrap_i64 (by omega) (by omega))
        | (apply aops_sub; exact rfl; exact rfl; exact wrap_i64 (by omega) (by omega))
        | (apply aops_errNeNil; exact rfl; exact rfl)
        | (apply aops_nilNeNil; exact rfl; exact rfl)
        | (apply aops_errEqNil; exact rfl; exact rfl)
        | (apply aops_nilEqNil; exact rfl; exact rfl)
        | (apply aops_makeInterface; exact rfl; exact rfl)
        | apply aops_makeFunc
        | (apply aops_alloc; exact rfl; exact rfl)
        | (apply aops_box; exact rfl; exact rfl; exact rfl; exact rfl)
        | (apply aops_field; exact rfl; exact rfl; exact rfl)
        | (apply aops_fieldAddr_bx; exact rfl; exact rfl; exact rfl)
        | (apply aops_fieldAddr_pp; exact rfl; exact rfl; exact rfl; exact rfl)
        | (apply aops_load_pp; exact rfl; exact rfl; exact rfl)
        | (apply aops_load_loc; exact rfl; exact rfl; exact rfl; exact rfl; exact rfl)
        | (apply aops_store_loc; exact rfl; exact rfl; exact rfl; exact rfl; exact rfl; exact rfl; exact rfl; exact rfl; exact rfl; exact rfl; exact rfl)
        | (apply aops_idx; exact rfl; exact rfl; exact rfl; first | assumption | omega | (simp; omega))
        | (apply aops_upto; exact rfl; exact rfl; exact rfl; first | assumption | omega | (simp; omega))
        | (apply aops_from; exact rfl; exact rfl; exact rfl; first | assumption | omega | (simp; omega))
        | (apply aops_span; exact rfl; exact rfl; exact rfl; exact rfl; (first | assumption | omega | (simp; omega)); first | assumption | omega | (simp; omega))
        | (apply aops_build; exact rfl; exact rfl; exact rfl)
        | (apply aops_buildSlice; exact rfl; exact rfl; exact rfl; exact rfl; exact rfl; exact rfl; exact rfl; exact rfl; exact rfl)
        | (apply aops_nilCheck; exact rfl; exact rfl)
        | (apply aops_ptrEqNil; exact rfl; exact rfl; exact rfl)
        | (apply aops_ptrNeNil; exact rfl; exact rfl; exact rfl)
        | (apply aops_xor32; exact rfl; exact rfl; (first | exact ofInt_toNat _ | exact rfl); first | exact ofInt_toNat _ | exact rfl)
        | (apply aops_and32; exact rfl; exact rfl; (first | exact ofInt_toNat _ | exact rfl); first | exact ofInt_toNat _ | exact rfl)
        | (apply aops_or32; exact rfl; exact rfl; (first | exact ofInt_toNat _ | exact rfl); first | exact ofInt_toNat _ | exact rfl)
        | (apply aops_compl32; exact rfl)
        | (apply aops_shl32; exact rfl; exact rfl; exact rfl)
        | (apply aops_shr32; exact rfl; exact rfl; exact rfl)
        | (apply aops_indexA; exact rfl; exact rfl; exact rfl; exact rfl; (first | assumption | omega | decide); exact rfl)
        | (apply aops_indexAddrA; exact rfl; exact rfl; exact rfl; exact rfl; first | assumption | omega | decide)
        | (apply awp_draw; exact rfl; kernel_rfl)
        | apply aq_nil
        | (apply aq_idx; exact rfl; exact rfl; exact rfl; first | assumption | omega | (simp; omega))
        | (apply aq_shr4; exact rfl; exact rfl)
        | (apply aq_and15; exact rfl; exact rfl)
        | (apply aq_convW; exact rfl; exact rfl; exact rfl; omega)
        | (apply aq_buildA; exact rfl; exact rfl; exact rfl)
        | apply aq_move
        | apply aq_assign
        | (apply aq_add; exact rfl; exact rfl; exact wrap_i64 (by omega) (by omega))
        | (apply aq_lenS; exact rfl; exact rfl; exact rfl)
        | (apply aq_upto; exact rfl; exact rfl; exact rfl; first | assumption | omega | (simp; omega))
        | (apply aq_from; exact rfl; exact rfl; exact rfl; first | assumption | omega | (simp; omega))
        | (apply aq_extract; exact rfl; exact rfl)
        | apply awp_skip
        | apply awp_exit
        | apply awp_ret)
      exact aret_plain rfl (ares_one rfl) ⟨rfl, _, rfl⟩
  · skip
    repeat' (first
      | apply awp_seq
      | apply awp_block
      | apply awp_region
      | apply aops_nil
      | apply aops_move
      | apply aops_assign
      | (apply aops_extract; exact rfl; exact rfl)
      | (apply aops_cmpI; exact rfl; exact rfl; exact rfl)
      | (apply aops_cmpS; exact rfl; exact rfl; exact rfl)
      | (apply aops_not_d; exact rfl)
      | (apply aops_not; exact rfl)
      | (apply aops_guard_any; exact rfl; exact rfl; exact rfl; exact rfl)
      | (apply gd_run_d; (first | assumption | omega))
      | (apply gd_run_n; (first | assumption | omega))
      | (apply gd_skip_d; (first | assumption | omega))
      | (apply gd_skip_n; (first | assumption | omega))
      | (apply aops_guard_undef; exact rfl; exact rfl; exact rfl; exact rfl)
      | (apply gd_run_nt; (first | exact rfl | assumption))
      | (apply gd_run_nf; (first | exact rfl | assumption))
      | (apply gd_skip_nt; (first | exact rfl | assumption))
      | (apply gd_skip_nf; (first | exact rfl | assumption))
      | (apply gd_split_n <;> intro h)
      | (apply gd_run_t; (first | exact rfl | assumption))
      | (apply gd_run_f; (first | exact rfl | assumption))
      | (apply gd_skip_t; (first | exact rfl | assumption))
      | (apply gd_skip_f; (first | exact rfl | assumption))
      | (apply gd_split_d <;> intro h)
      | (apply gd_split <;> intro h)
      | (apply aops_pick_any; exact rfl; first | (apply pk_dt; (first | assumption | omega)) | (apply pk_df; (first | assumption | omega)) | (apply pk_nt; (first | exact rfl | assumption)) | (apply pk_nf; (first | exact rfl | assumption)) | (apply pk_t; (first | exact rfl | assumption)) | (apply pk_f; (first | exact rfl | assumption)))
      | (apply awp_cond_any; exact rfl; first | (apply cd_dt; (first | assumption | omega)) | (apply cd_df; (first | assumption | omega)) | (apply cd_nt; (first | exact rfl | assumption)) | (apply cd_nf; (first | exact rfl | assumption)) | (apply cd_n <;> intro h) | (apply cd_t; (first | exact rfl | assumption)) | (apply cd_f; (first | exact rfl | assumption)) | (apply cd_d <;> intro h) | (apply cd_s <;> intro h))
      | (apply aops_lenS; exact rfl; exact rfl; exact rfl)
      | (apply aops_lenL; exact rfl; exact rfl; exact rfl; exact rfl)
      | (apply aops_concat; exact rfl; exact rfl; (first | omega | (simp only [List.length_append, List.length_cons, List.length_nil]; omega) | (simp; omega)))
      | (apply aops_add; exact rfl; exact rfl; exact wrap_i64 (by omega) (by omega))
      | (apply aops_sub; exact rfl; exact rfl; exact wrap_i64 (by omega) (by omega))
      | (apply aops_errNeNil; exact rfl; exact rfl)
      | (apply aops_nilNeNil; exact rfl; exact rfl)
      | (apply aops_errEqNil; exact rfl; exact rfl)
      | (apply aops_nilEqNil; exact rfl; exact rfl)
      | (apply aops_makeInterface; exact rfl; exact rfl)
      | apply aops_makeFunc
      | (apply aops_alloc; exact rfl; exact rfl)
      | (apply aops_box; exact rfl; exact rfl; exact rfl; exact rfl)
      | (apply aops_field; exact rfl; exact rfl; exact rfl)
      | (apply aops_fieldAddr_bx; exact rfl; exact rfl; exact rfl)
      | (apply aops_fieldAddr_pp; exact rfl; exact rfl; exact rfl; exact rfl)
      | (apply aops_load_pp; exact rfl; exact rfl; exact rfl)
      | (apply aops_load_loc; exact rfl; exact rfl; exact rfl; exact rfl; exact rfl)
      | (apply aops_store_loc; exact rfl; exact rfl; exact rfl; exact rfl; exact rfl; exact rfl; exact rfl; exact rfl; exact rfl; exact rfl; exact rfl)
      | (apply aops_idx; exact rfl; exact rfl; exact rfl; first | assumption | omega | (simp; omega))
      | (apply aops_upto; exact rfl; exact rfl; exact rfl; first | assumption | omega | (simp; omega))
      | (apply aops_from; exact rfl; exact rfl; exact rfl; first | assumption | omega | (simp; omega))
      | (apply aops_span; exact rfl; exact rfl; exact rfl; exact rfl; (first | assumption | omega | (simp; omega)); first | assumption | omega | (simp; omega))
      | (apply aops_build; exact rfl; exact rfl; exact rfl)
      | (apply aops_buildSlice; exact rfl; exact rfl; exact rfl; exact rfl; exact rfl; exact rfl; exact rfl; exact rfl; exact rfl)
      | (apply aops_nilCheck; exact rfl; exact rfl)
      | (apply aops_ptrEqNil; exact rfl; exact rfl; exact rfl)
      | (apply aops_ptrNeNil; exact rfl; exact rfl; exact rfl)
      | (apply aops_xor32; exact rfl; exact rfl; (first | exact ofInt_toNat _ | exact rfl); first | exact ofInt_toNat _ | exact rfl)
      | (apply aops_and32; exact rfl; exact rfl; (first | exact ofInt_toNat _ | exact rfl); first | exact ofInt_toNat _ | exact rfl)
      | (apply aops_or32; exact rfl; exact rfl; (first | exact ofInt_toNat _ | exact rfl); first | exact ofInt_toNat _ | exact rfl)
      | (apply aops_compl32; exact rfl)
      | (apply aops_shl32; exact rfl; exact rfl; exact rfl)
      | (apply aops_shr32; exact rfl; exact rfl; exact rfl)
      | (apply aops_indexA; exact rfl; exact rfl; exact rfl; exact rfl; (first | assumption | omega | decide); exact rfl)
      | (apply aops_indexAddrA; exact rfl; exact rfl; exact rfl; exact rfl; first | assumption | omega | decide)
      | (apply awp_draw; exact rfl; kernel_rfl)
      | apply aq_nil
      | (apply aq_idx; exact rfl; exact rfl; exact rfl; first | assumption | omega | (simp; omega))
      | (apply aq_shr4; exact rfl; exact rfl)
      | (apply aq_and15; exact rfl; exact rfl)
      | (apply aq_convW; exact rfl; exact rfl; exact rfl; omega)
      | (apply aq_buildA; exact rfl; exact rfl; exact rfl)
      | apply aq_move
      | apply aq_assign
      | (apply aq_add; exact rfl; exact rfl; exact wrap_i64 (by omega) (by omega))
      | (apply aq_lenS; exact rfl; exact rfl; exact rfl)
      | (apply aq_upto; exact rfl; exact rfl; exact rfl; first | assumption | omega | (simp; omega))
      | (apply aq_from; exact rfl; exact rfl; exact rfl; first | assumption | omega | (simp; omega))
      | (apply aq_extract; exact rfl; exact rfl)
      | apply awp_skip
      | apply awp_exit
      | apply awp_ret)
    exact aret_plain rfl (ares_one rfl) ⟨rfl, _, rfl⟩
end Go.Proofs.YtopmpdoigmenmaaDoor
