/- Rules: which stanzas break them; the document's answer. -/
import Derived.Test.YtopmpdoigmenmaaDoorSd
set_option maxRecDepth 100000
set_option linter.unusedVariables false
namespace Go.Proofs.YtopmpdoigmenmaaDoor
open Go Go.Av Go.RowKit Go.Proofs Go.Pl

theorem containsFld_c (xs : List FldV) (p : FldV → Bool) (F : FuncId) (cs : List AV) (st : List AObj) (hx : xs.length < 9223372036854775807) (hF : ∀ vs w, (callFunc F vs).run E.P w = .ok (.enter F vs) w)
    (hp : ∀ x ∈ xs, ACall E F (fldA x :: cs) ((st ++ []) ++ []) fun r st' => r = Bv (p x) ∧ st' = (st ++ []) ++ []) : ACall E 14 [fldsA xs, .fn (.func F) [] cs] st fun r st' => r = Bv (xs.any p) ∧ st' = st := by
  refine acall_pure (pure_v _) (acall_of_awp Tryd.func14 rfl (Nat.le_of_ble_eq_true rfl) ?_)
  repeat' (first
    | apply awp_seq
    | apply awp_block
    | apply awp_region
    | apply aops_nil
    | apply aops_move
    | apply aops_assign
    | (apply aops_extract; exact rfl; exact rfl)
    | (apply aops_cmpI; exact rfl; exact rfl; exact rfl)
    | (apply aops_cmpS; exact rfl; exact rfl; exact rfl)
    | (apply aops_not_d; exact rfl)
    | (apply aops_not; exact rfl)
    | (apply aops_guard_any; exact rfl; exact rfl; exact rfl; exact rfl)
    | (apply gd_run_d; (first | assumption | omega))
    | (apply gd_run_n; (first | assumption | omega))
    | (apply gd_skip_d; (first | assumption | omega))
    | (apply gd_skip_n; (first | assumption | omega))
    | (apply aops_guard_undef; exact rfl; exact rfl; exact rfl; exact rfl)
    | (apply gd_run_nt; (first | exact rfl | assumption))
    | (apply gd_run_nf; (first | exact rfl | assumption))
    | (apply gd_skip_nt; (first | exact rfl | assumption))
    | (apply gd_skip_nf; (first | exact rfl | assumption))
    | (apply gd_split_n <;> intro h)
    | (apply gd_run_t; (first | exact rfl | assumption))
    | (apply gd_run_f; (first | exact rfl | assumption))
    | (apply gd_skip_t; (first | exact rfl | assumption))
    | (apply gd_skip_f; (first | exact rfl | assumption))
    | (apply gd_split_d <;> intro h)
    | (apply gd_split <;> intro h)
    | (apply aops_pick_any; exact rfl; first | (apply pk_dt; (first | assumption | omega)) | (apply pk_df; (first | assumption | omega)) | (apply pk_nt; (first | exact rfl | assumption)) | (apply pk_nf; (first | exact rfl | assumption)) | (apply pk_t; (first | exact rfl | assumption)) | (apply pk_f; (first | exact rfl | assumption)))
    | (apply awp_cond_any; exact rfl; first | (apply cd_dt; (first | assumption | omega)) | (apply cd_df; (first | assumption | omega)) | (apply cd_nt; (first | exact rfl | assumption)) | (apply cd_nf; (first | exact rfl | assumption)) | (apply cd_n <;> intro h) | (apply cd_t; (first | exact rfl | assumption)) | (apply cd_f; (first | exact rfl | assumption)) | (apply cd_d <;> intro h) | (apply cd_s <;> intro h))
    | (apply aops_lenS; exact rfl; exact rfl; exact rfl)
    | (apply aops_lenL; exact rfl; exact rfl; exact rfl; exact rfl)
    | (apply aops_concat; exact rfl; exact rfl; (first | omega | (simp only [List.length_append, List.length_cons, List.length_nil]; omega) | (simp; omega)))
    | (apply aops_add; exact rfl; exact rfl; exact wrap_i64 (by omega) (by omega))
    | (apply aops_sub; exact rfl; exact rfl; exact wrap_i64 (by omega) (by omega))
    | (apply aops_errNeNil; exact rfl; exact rfl)
    | (apply aops_nilNeNil; exact rfl; exact rfl)
    | (apply aops_errEqNil; exact rfl; exact rfl)
    | (apply aops_nilEqNil; exact rfl; exact rfl)
    | (apply aops_makeInterface; exact rfl; exact rfl)
    | apply aops_makeFunc
    | (apply aops_alloc; exact rfl; exact rfl)
    | (apply aops_box; exact rfl; exact rfl; exact rfl; exact rfl)
    | (apply aops_field; exact rfl; exact rfl; exact rfl)
    | (apply aops_fieldAddr_bx; exact rfl; exact rfl; exact rfl)
    | (apply aops_fieldAddr_pp; exact rfl; exact rfl; exact rfl; exact rfl)
    | (apply aops_load_pp; exact rfl; exact rfl; exact rfl)
    | (apply aops_load_loc; exact rfl; exact rfl; exact rfl; exact rfl; exact rfl)
    | (apply aops_store_loc; exact rfl; exact rfl; exact rfl; exact rfl; exact rfl; exact rfl; exact rfl; exact rfl; exact rfl; exact rfl; exact rfl)
    | (apply aops_idx; exact rfl; exact rfl; exact rfl; first | assumption | omega | (simp; omega))
    | (apply aops_upto; exact rfl; exact rfl; exact rfl; first | assumption | omega | (simp; omega))
    | (apply aops_from; exact rfl; exact rfl; exact rfl; first | assumption | omega | (simp; omega))
    | (apply aops_span; exact rfl; exact rfl; exact rfl; exact rfl; (first | assumption | omega | (simp; omega)); first | assumption | omega | (simp; omega))
    | (apply aops_build; exact rfl; exact rfl; exact rfl)
    | (apply aops_buildSlice; exact rfl; exact rfl; exact rfl; exact rfl; exact rfl; exact rfl; exact rfl; exact rfl; exact rfl)
    | (apply aops_nilCheck; exact rfl; exact rfl)
    | (apply aops_ptrEqNil; exact rfl; exact rfl; exact rfl)
    | (apply aops_ptrNeNil; exact rfl; exact rfl; exact rfl)
    | (apply aops_xor32; exact rfl; exact rfl; (first | exact ofInt_toNat _ | exact rfl); first | exact ofInt_toNat _ | exact rfl)
    | (apply aops_and32; exact rfl; exact rfl; (first | exact ofInt_toNat _ | exact rfl); first | exact ofInt_toNat _ | exact rfl)
    | (apply aops_or32; exact rfl; exact rfl; (first | exact ofInt_toNat _ | exact rfl); first | exact ofInt_toNat _ | exact rfl)
    | (apply aops_compl32; exact rfl)
    | (apply aops_shl32; exact rfl; exact rfl; exact rfl)
    | (apply aops_shr32; exact rfl; exact rfl; exact rfl)
    | (apply aops_indexA; exact rfl; exact rfl; exact rfl; exact rfl; (first | assumption | omega | decide); exact rfl)
    | (apply aops_indexAddrA; exact rfl; exact rfl; exact rfl; exact rfl; first | assumption | omega | decide)
    | (apply awp_draw; exact rfl; kernel_rfl)
    | apply aq_nil
    | (apply aq_idx; exact rfl; exact rfl; exact rfl; first | assumption | omega | (simp; omega))
    | (apply aq_shr4; exact rfl; exact rfl)
    | (apply aq_and15; exact rfl; exact rfl)
    | (apply aq_convW; exact rfl; exact rfl; exact rfl; omega)
    | (apply aq_buildA; exact rfl; exact rfl; exact rfl)
    | apply aq_move
    | apply aq_assign
    | (apply aq_add; exact rfl; exact rfl; exact wrap_i64 (by omega) (by omega))
    | (apply aq_lenS; exact rfl; exact rfl; exact rfl)
    | (apply aq_upto; exact rfl; exact rfl; exact rfl; first | assumption | omega | (simp; omega))
    | (apply aq_from; exact rfl; exact rfl; exact rfl; first | assumption | omega | (simp; omega))
    | (apply aq_extract; exact rfl; exact rfl)
    | apply awp_skip
    | apply awp_exit
    | apply awp_ret
    | (apply aops_call1; exact Tryd.call22; exact indexFld_c xs p F cs _ hx hF hp))
  refine aret_plain rfl (ares_one rfl) ⟨congrArg Bv (?_ : _ = _), _, rfl⟩
  have := findF_any xs p
  cases h : xs.any p <;> simp_all
theorem get_pre {st l : List AObj} {o : Nat} {x : AObj} (h : st[o]? = some x) : (st ++ l)[o]? = some x := by
  rw [List.getElem?_append_left (lt_of_getElem? h)]
  exact h
theorem brk1_c (r : RuleV) (f : FldV) (st : List AObj) (o : Nat) (ho : st[o]? = some (.cells 0 30 (ruleC r))) (h1 : r.text.length < 4294967281) (h2 : f.2.length < 4294967281) : ACall E 15 [fldA f, .bx o 0 0] st fun x st' => x = Bv (!decide (takesR r f)) ∧ st' = st := by
  refine acall_pure (pure_v _) (acall_of_awp Tryd.func15 rfl (Nat.le_of_ble_eq_true rfl) ?_)
  repeat' (first
    | apply awp_seq
    | apply awp_block
    | apply awp_region
    | apply aops_nil
    | apply aops_move
    | apply aops_assign
    | (apply aops_extract; exact rfl; exact rfl)
    | (apply aops_cmpI; exact rfl; exact rfl; exact rfl)
    | (apply aops_cmpS; exact rfl; exact rfl; exact rfl)
    | (apply aops_not_d; exact rfl)
    | (apply aops_not; exact rfl)
    | (apply aops_guard_any; exact rfl; exact rfl; exact rfl; exact rfl)
    | (apply gd_run_d; (first | assumption | omega))
    | (apply gd_run_n; (first | assumption | omega))
    | (apply gd_skip_d; (first | assumption | omega))
    | (apply gd_skip_n; (first | assumption | omega))
    | (apply aops_guard_undef; exact rfl; exact rfl; exact rfl; exact rfl)
    | (apply gd_run_nt; (first | exact rfl | assumption))
    | (apply gd_run_nf; (first | exact rfl | assumption))
    | (apply gd_skip_nt; (first | exact rfl | assumption))
    | (apply gd_skip_nf; (first | exact rfl | assumption))
    | (apply gd_split_n <;> intro h)
    | (apply gd_run_t; (first | exact rfl | assumption))
    | (apply gd_run_f; (first | exact rfl | assumption))
    | (apply gd_skip_t; (first | exact rfl | assumption))
    | (apply gd_skip_f; (first | exact rfl | assumption))
    | (apply gd_split_d <;> intro h)
    | (apply gd_split <;> intro h)
    | (apply aops_pick_any; exact rfl; first | (apply pk_dt; (first | assumption | omega)) | (apply pk_df; (first | assumption | omega)) | (apply pk_nt; (first | exact rfl | assumption)) | (apply pk_nf; (first | exact rfl | assumption)) | (apply pk_t; (first | exact rfl | assumption)) | (apply pk_f; (first | exact rfl | assumption)))
    | (apply awp_cond_any; exact rfl; first | (apply cd_dt; (first | assumption | omega)) | (apply cd_df; (first | assumption | omega)) | (apply cd_nt; (first | exact rfl | assumption)) | (apply cd_nf; (first | exact rfl | assumption)) | (apply cd_n <;> intro h) | (apply cd_t; (first | exact rfl | assumption)) | (apply cd_f; (first | exact rfl | assumption)) | (apply cd_d <;> intro h) | (apply cd_s <;> intro h))
    | (apply aops_lenS; exact rfl; exact rfl; exact rfl)
    | (apply aops_lenL; exact rfl; exact rfl; exact rfl; exact rfl)
    | (apply aops_concat; exact rfl; exact rfl; (first | omega | (simp only [List.length_append, List.length_cons, List.length_nil]; omega) | (simp; omega)))
    | (apply aops_add; exact rfl; exact rfl; exact wrap_i64 (by omega) (by omega))
    | (apply aops_sub; exact rfl; exact rfl; exact wrap_i64 (by omega) (by omega))
    | (apply aops_errNeNil; exact rfl; exact rfl)
    | (apply aops_nilNeNil; exact rfl; exact rfl)
    | (apply aops_errEqNil; exact rfl; exact rfl)
    | (apply aops_nilEqNil; exact rfl; exact rfl)
    | (apply aops_makeInterface; exact rfl; exact rfl)
    | apply aops_makeFunc
    | (apply aops_alloc; exact rfl; exact rfl)
    | (apply aops_box; exact rfl; exact rfl; exact rfl; exact rfl)
    | (apply aops_field; exact rfl; exact rfl; exact rfl)
    | (apply aops_fieldAddr_bx; exact rfl; exact rfl; exact rfl)
    | (apply aops_fieldAddr_pp; exact rfl; exact rfl; exact rfl; exact rfl)
    | (apply aops_load_pp; exact rfl; exact rfl; exact rfl)
    | (apply aops_load_loc; exact rfl; exact rfl; exact rfl; exact rfl; exact rfl)
    | (apply aops_store_loc; exact rfl; exact rfl; exact rfl; exact rfl; exact rfl; exact rfl; exact rfl; exact rfl; exact rfl; exact rfl; exact rfl)
    | (apply aops_idx; exact rfl; exact rfl; exact rfl; first | assumption | omega | (simp; omega))
    | (apply aops_upto; exact rfl; exact rfl; exact rfl; first | assumption | omega | (simp; omega))
    | (apply aops_from; exact rfl; exact rfl; exact rfl; first | assumption | omega | (simp; omega))
    | (apply aops_span; exact rfl; exact rfl; exact rfl; exact rfl; (first | assumption | omega | (simp; omega)); first | assumption | omega | (simp; omega))
    | (apply aops_build; exact rfl; exact rfl; exact rfl)
    | (apply aops_buildSlice; exact rfl; exact rfl; exact rfl; exact rfl; exact rfl; exact rfl; exact rfl; exact rfl; exact rfl)
    | (apply aops_nilCheck; exact rfl; exact rfl)
    | (apply aops_ptrEqNil; exact rfl; exact rfl; exact rfl)
    | (apply aops_ptrNeNil; exact rfl; exact rfl; exact rfl)
    | (apply aops_xor32; exact rfl; exact rfl; (first | exact ofInt_toNat _ | exact rfl); first | exact ofInt_toNat _ | exact rfl)
    | (apply aops_and32; exact rfl; exact rfl; (first | exact ofInt_toNat _ | exact rfl); first | exact ofInt_toNat _ | exact rfl)
    | (apply aops_or32; exact rfl; exact rfl; (first | exact ofInt_toNat _ | exact rfl); first | exact ofInt_toNat _ | exact rfl)
    | (apply aops_compl32; exact rfl)
    | (apply aops_shl32; exact rfl; exact rfl; exact rfl)
    | (apply aops_shr32; exact rfl; exact rfl; exact rfl)
    | (apply aops_indexA; exact rfl; exact rfl; exact rfl; exact rfl; (first | assumption | omega | decide); exact rfl)
    | (apply aops_indexAddrA; exact rfl; exact rfl; exact rfl; exact rfl; first | assumption | omega | decide)
    | (apply awp_draw; exact rfl; kernel_rfl)
    | apply aq_nil
    | (apply aq_idx; exact rfl; exact rfl; exact rfl; first | assumption | omega | (simp; omega))
    | (apply aq_shr4; exact rfl; exact rfl)
    | (apply aq_and15; exact rfl; exact rfl)
    | (apply aq_convW; exact rfl; exact rfl; exact rfl; omega)
    | (apply aq_buildA; exact rfl; exact rfl; exact rfl)
    | apply aq_move
    | apply aq_assign
    | (apply aq_add; exact rfl; exact rfl; exact wrap_i64 (by omega) (by omega))
    | (apply aq_lenS; exact rfl; exact rfl; exact rfl)
    | (apply aq_upto; exact rfl; exact rfl; exact rfl; first | assumption | omega | (simp; omega))
    | (apply aq_from; exact rfl; exact rfl; exact rfl; first | assumption | omega | (simp; omega))
    | (apply aq_extract; exact rfl; exact rfl)
    | apply awp_skip
    | apply awp_exit
    | apply awp_ret
    | (apply aops_load_bx; exact rfl; exact get_pre ho; exact rfl; exact rfl)
    | (apply aops_call1; exact Tryd.call16; exact takes_c r f _ h1 h2))
  exact aret_plain rfl (ares_one rfl) ⟨rfl, _, rfl⟩
/-- Whether a stanza breaks a rule. -/
def breaksR (r : RuleV) (xs : List FldV) : Prop := goodR r ∧ ((r.kind = 1 ∧ (valsOf r.key xs).length = 0) ∨ (r.kind = 2 ∧ 1 < (valsOf r.key xs).length) ∨ (r.kind ≠ 1 ∧ r.kind ≠ 2 ∧ xs.any (fun f => !decide (takesR r f)) = true))
instance (r : RuleV) (xs : List FldV) : Decidable (breaksR r xs) := inferInstanceAs (Decidable (_ ∧ (_ ∨ _ ∨ _)))
structure RuleB (r : RuleV) : Prop where
  key : r.key.length < 4294967281
  text : r.text.length < 4294967281
structure FldsB (xs : List FldV) : Prop where
  len : xs.length < 1000000
  val : ∀ f ∈ xs, f.1.length < 4294967281 ∧ f.2.length < 4294967281
theorem breaks_c (r : RuleV) (xs : List FldV) (st : List AObj) (hr : RuleB r) (hx : FldsB xs) : ACall E 9 [ruleA r, fldsA xs] st fun x st' => x = Bv (decide (breaksR r xs)) ∧ st' = st := by
  refine acall_pure (pure_v _) (acall_of_awp Tryd.func9 rfl (Nat.le_of_ble_eq_true rfl) ?_)
  have hl := hx.len
  have hv := valsOf_len r.key xs
  repeat' (first
    | apply awp_seq
    | apply awp_block
    | apply awp_region
    | apply aops_nil
    | apply aops_move
    | apply aops_assign
    | (apply aops_extract; exact rfl; exact rfl)
    | (apply aops_cmpI; exact rfl; exact rfl; exact rfl)
    | (apply aops_cmpS; exact rfl; exact rfl; exact rfl)
    | (apply aops_not_d; exact rfl)
    | (apply aops_not; exact rfl)
    | (apply aops_guard_any; exact rfl; exact rfl; exact rfl; exact rfl)
    | (apply gd_run_d; (first | assumption | omega))
    | (apply gd_run_n; (first | assumption | omega))
    | (apply gd_skip_d; (first | assumption | omega))
    | (apply gd_skip_n; (first | assumption | omega))
    | (apply aops_guard_undef; exact rfl; exact rfl; exact rfl; exact rfl)
    | (apply gd_run_nt; (first | exact rfl | assumption))
    | (apply gd_run_nf; (first | exact rfl | assumption))
    | (apply gd_skip_nt; (first | exact rfl | assumption))
    | (apply gd_skip_nf; (first | exact rfl | assumption))
    | (apply gd_split_n <;> intro h)
    | (apply gd_run_t; (first | exact rfl | assumption))
    | (apply gd_run_f; (first | exact rfl | assumption))
    | (apply gd_skip_t; (first | exact rfl | assumption))
    | (apply gd_skip_f; (first | exact rfl | assumption))
    | (apply gd_split_d <;> intro h)
    | (apply gd_split <;> intro h)
    | (apply aops_pick_any; exact rfl; first | (apply pk_dt; (first | assumption | omega)) | (apply pk_df; (first | assumption | omega)) | (apply pk_nt; (first | exact rfl | assumption)) | (apply pk_nf; (first | exact rfl | assumption)) | (apply pk_t; (first | exact rfl | assumption)) | (apply pk_f; (first | exact rfl | assumption)))
    | (apply awp_cond_any; exact rfl; first | (apply cd_dt; (first | assumption | omega)) | (apply cd_df; (first | assumption | omega)) | (apply cd_nt; (first | exact rfl | assumption)) | (apply cd_nf; (first | exact rfl | assumption)) | (apply cd_n <;> intro h) | (apply cd_t; (first | exact rfl | assumption)) | (apply cd_f; (first | exact rfl | assumption)) | (apply cd_d <;> intro h) | (apply cd_s <;> intro h))
    | (apply aops_lenS; exact rfl; exact rfl; exact rfl)
    | (apply aops_lenL; exact rfl; exact rfl; exact rfl; exact rfl)
    | (apply aops_concat; exact rfl; exact rfl; (first | omega | (simp only [List.length_append, List.length_cons, List.length_nil]; omega) | (simp; omega)))
    | (apply aops_add; exact rfl; exact rfl; exact wrap_i64 (by omega) (by omega))
    | (apply aops_sub; exact rfl; exact rfl; exact wrap_i64 (by omega) (by omega))
    | (apply aops_errNeNil; exact rfl; exact rfl)
    | (apply aops_nilNeNil; exact rfl; exact rfl)
    | (apply aops_errEqNil; exact rfl; exact rfl)
    | (apply aops_nilEqNil; exact rfl; exact rfl)
    | (apply aops_makeInterface; exact rfl; exact rfl)
    | apply aops_makeFunc
    | (apply aops_alloc; exact rfl; exact rfl)
    | (apply aops_box; exact rfl; exact rfl; exact rfl; exact rfl)
    | (apply aops_field; exact rfl; exact rfl; exact rfl)
    | (apply aops_fieldAddr_bx; exact rfl; exact rfl; exact rfl)
    | (apply aops_fieldAddr_pp; exact rfl; exact rfl; exact rfl; exact rfl)
    | (apply aops_load_pp; exact rfl; exact rfl; exact rfl)
    | (apply aops_load_loc; exact rfl; exact rfl; exact rfl; exact rfl; exact rfl)
    | (apply aops_store_loc; exact rfl; exact rfl; exact rfl; exact rfl; exact rfl; exact rfl; exact rfl; exact rfl; exact rfl; exact rfl; exact rfl)
    | (apply aops_idx; exact rfl; exact rfl; exact rfl; first | assumption | omega | (simp; omega))
    | (apply aops_upto; exact rfl; exact rfl; exact rfl; first | assumption | omega | (simp; omega))
    | (apply aops_from; exact rfl; exact rfl; exact rfl; first | assumption | omega | (simp; omega))
    | (apply aops_span; exact rfl; exact rfl; exact rfl; exact rfl; (first | assumption | omega | (simp; omega)); first | assumption | omega | (simp; omega))
    | (apply aops_build; exact rfl; exact rfl; exact rfl)
    | (apply aops_buildSlice; exact rfl; exact rfl; exact rfl; exact rfl; exact rfl; exact rfl; exact rfl; exact rfl; exact rfl)
    | (apply aops_nilCheck; exact rfl; exact rfl)
    | (apply aops_ptrEqNil; exact rfl; exact rfl; exact rfl)
    | (apply aops_ptrNeNil; exact rfl; exact rfl; exact rfl)
    | (apply aops_xor32; exact rfl; exact rfl; (first | exact ofInt_toNat _ | exact rfl); first | exact ofInt_toNat _ | exact rfl)
    | (apply aops_and32; exact rfl; exact rfl; (first | exact ofInt_toNat _ | exact rfl); first | exact ofInt_toNat _ | exact rfl)
    | (apply aops_or32; exact rfl; exact rfl; (first | exact ofInt_toNat _ | exact rfl); first | exact ofInt_toNat _ | exact rfl)
    | (apply aops_compl32; exact rfl)
    | (apply aops_shl32; exact rfl; exact rfl; exact rfl)
    | (apply aops_shr32; exact rfl; exact rfl; exact rfl)
    | (apply aops_indexA; exact rfl; exact rfl; exact rfl; exact rfl; (first | assumption | omega | decide); exact rfl)
    | (apply aops_indexAddrA; exact rfl; exact rfl; exact rfl; exact rfl; first | assumption | omega | decide)
    | (apply awp_draw; exact rfl; kernel_rfl)
    | apply aq_nil
    | (apply aq_idx; exact rfl; exact rfl; exact rfl; first | assumption | omega | (simp; omega))
    | (apply aq_shr4; exact rfl; exact rfl)
    | (apply aq_and15; exact rfl; exact rfl)
    | (apply aq_convW; exact rfl; exact rfl; exact rfl; omega)
    | (apply aq_buildA; exact rfl; exact rfl; exact rfl)
    | apply aq_move
    | apply aq_assign
    | (apply aq_add; exact rfl; exact rfl; exact wrap_i64 (by omega) (by omega))
    | (apply aq_lenS; exact rfl; exact rfl; exact rfl)
    | (apply aq_upto; exact rfl; exact rfl; exact rfl; first | assumption | omega | (simp; omega))
    | (apply aq_from; exact rfl; exact rfl; exact rfl; first | assumption | omega | (simp; omega))
    | (apply aq_extract; exact rfl; exact rfl)
    | apply awp_skip
    | apply awp_exit
    | apply awp_ret
    | (apply aops_call1; exact Tryd.call7; exact goodR_c r _ hr.key)
    | (apply aops_call1; exact Tryd.call13; exact values_c r.key xs _ (by omega))
    | (apply aops_lenL; exact rfl; exact congrArg some List.length_map; exact rfl; exact rfl)
    | (apply aops_call1; exact Tryd.call14; exact containsFld_c xs (fun f => !decide (takesR r f)) _ _ _ (by omega) Tryd.call15 (fun f hf => brk1_c r f _ _ (by exact get_pre (get_pre (get_loc rfl))) hr.text (hx.val f hf).2)))
  all_goals refine aret_plain rfl (ares_one rfl) ⟨congrArg Bv (?_ : _ = _), _, rfl⟩
  · simp_all [breaksR]
  · simp_all [breaksR]
  · simp_all [breaksR]
    omega
  · have e : breaksR r xs ↔ (xs.any fun f => !decide (takesR r f)) = true := by
      constructor
      · rintro ⟨_, h | h | h⟩
        · omega
        · omega
        · exact h.2.2
      · intro h
        exact ⟨of_decide_eq_true (by assumption), .inr (.inr ⟨by assumption, by assumption, h⟩)⟩
    cases he : (xs.any fun f => !decide (takesR r f))
    · exact (decide_eq_false fun h => by rw [e, he] at h; cases h).symm
    · exact (decide_eq_true (e.2 he)).symm
end Go.Proofs.YtopmpdoigmenmaaDoor
