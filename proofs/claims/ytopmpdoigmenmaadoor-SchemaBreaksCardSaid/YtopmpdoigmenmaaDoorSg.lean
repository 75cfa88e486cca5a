/- Rules: the document's answer of layer 24 for one stanza. -/
import Derived.Test.YtopmpdoigmenmaaDoorSf
set_option maxRecDepth 100000
set_option linter.unusedVariables false
namespace Go.Proofs.YtopmpdoigmenmaaDoor
open Go Go.Av Go.RowKit Go.Proofs Go.Pl

def badR (r : RuleV) (f : FldV) : Bool := !decide (takesR r f)
@[reducible] def oneA (id : Int) (xs : List FldV) : AV := .sl 2 [.ag [Iv id, fldsA xs]] none
def cntR (r : RuleV) (xs : List FldV) : Nat := if r.kind = 6 then 0 else (valsOf r.key xs).length
theorem bad_next {r : RuleV} {xs : List FldV} {k : Nat} (hk : k < xs.length) : (xs.take (k + 1)).any (badR r) = ((xs.take k).any (badR r) || badR r (xs.getD k ([], []))) := by
  rw [List.take_succ_eq_append_getElem hk, List.any_append]
  simp [List.getD, hk]
theorem cnt_next {r : RuleV} {xs : List FldV} {k : Nat} (hk : k < xs.length) : cntR r (xs.take (k + 1)) = cntR r (xs.take k) + if r.kind ≠ 6 ∧ (xs.getD k ([], [])).1 = r.key then 1 else 0 := by
  unfold cntR
  by_cases h6 : r.kind = 6
  · simp [h6]
  · rw [if_neg h6, if_neg h6, valsOf_next hk, List.length_append]
    by_cases h : (xs.getD k ([], [])).1 = r.key
    · rw [if_pos h, if_pos ⟨h6, h⟩]; rfl
    · rw [if_neg h, if_neg (fun e => h e.2)]; rfl
theorem bad6 {r : RuleV} {f : FldV} (h : r.kind = 6) : badR r f = !decide (f.1 ∈ wordsOf r.text) := by
  have e : takesR r f ↔ f.1 ∈ wordsOf r.text := by simp [takesR, h]
  unfold badR
  simp only [e]
theorem bad4 {r : RuleV} {f : FldV} (h : r.kind = 4) (h2 : f.1 = r.key) : badR r f = !decide (f.2 ∈ wordsOf r.text) := by
  have e : takesR r f ↔ f.2 ∈ wordsOf r.text := by simp [takesR, h, h2]
  unfold badR
  simp only [e]
theorem bad5 {r : RuleV} {f : FldV} (h : r.kind = 5) (h2 : f.1 = r.key) (h3 : ¬ (f.2.length : Int) < r.lo) : badR r f = decide (r.hi < (f.2.length : Int)) := by
  have e : takesR r f ↔ (f.2.length : Int) ≤ r.hi := by
    simp only [takesR, h, h2, withinR]
    constructor
    · intro h'; exact (h'.2.2.1 trivial trivial).2
    · intro h'; exact ⟨fun h => by omega, fun h => by omega, fun _ _ => ⟨by omega, h'⟩, fun h => by omega⟩
  unfold badR
  rw [← decide_not]
  have e2 : (¬ takesR r f) ↔ r.hi < (f.2.length : Int) := by rw [e]; omega
  simp only [e2]
theorem bad3 {r : RuleV} {f : FldV} {v : Int} (h : r.kind = 3) (h2 : f.1 = r.key) (hz : numZ f.2 = some v) (h3 : ¬ v < r.lo) : badR r f = decide (r.hi < v) := by
  have e : takesR r f ↔ v ≤ r.hi := by
    simp only [takesR, h, h2, withinR, numberR, hz]
    constructor
    · intro h'
      obtain ⟨n, e1, e2, e3⟩ := h'.1 trivial trivial
      cases e1
      exact e3
    · intro h'; exact ⟨fun _ _ => ⟨v, rfl, by omega, h'⟩, fun h => by omega, fun h => by omega, fun h => by omega⟩
  unfold badR
  rw [← decide_not]
  have e2 : (¬ takesR r f) ↔ r.hi < v := by rw [e]; omega
  simp only [e2]
theorem any_out {xs : List FldV} {p : FldV → Bool} {k : Nat} (h : (xs.take k).any p = false) (b : Bool) : ((xs.take k).any p || b) = b := by rw [h]; rfl
set_option maxHeartbeats 4000000 in
theorem ref24breaks_c (r : RuleV) (xs : List FldV) (id : Int) (st : List AObj) (hr : RuleB r) (hx : FldsB xs) : ACall E 17 [ruleA r, oneA id xs, Iv 0] st fun x st' => x = Bv (decide (xs.any (badR r) = true ∨ (r.kind = 1 ∧ cntR r xs = 0) ∨ (r.kind = 2 ∧ 1 < cntR r xs))) ∧ st' = st := by
  refine acall_pure (pure_v _) (acall_of_awp Tryd.func17 rfl (Nat.le_of_ble_eq_true rfl) ?_)
  have hl := hx.len
  repeat' (first
    | apply awp_seq
    | apply awp_block
    | apply awp_region
    | apply aops_nil
    | apply aops_move
    | apply aops_assign
    | (apply aops_extract; exact rfl; exact rfl)
    | (apply aops_cmpI; exact rfl; exact rfl; exact rfl)
    | (apply aops_cmpS; exact rfl; exact rfl; exact rfl)
    | (apply aops_not_d; exact rfl)
    | (apply aops_not; exact rfl)
    | (apply aops_guard_any; exact rfl; exact rfl; exact rfl; exact rfl)
    | (apply gd_run_d; (first | assumption | omega))
    | (apply gd_run_n; (first | assumption | omega))
    | (apply gd_skip_d; (first | assumption | omega))
    | (apply gd_skip_n; (first | assumption | omega))
    | (apply aops_guard_undef; exact rfl; exact rfl; exact rfl; exact rfl)
    | (apply gd_run_nt; (first | exact rfl | assumption))
    | (apply gd_run_nf; (first | exact rfl | assumption))
    | (apply gd_skip_nt; (first | exact rfl | assumption))
    | (apply gd_skip_nf; (first | exact rfl | assumption))
    | (apply gd_split_n <;> intro h)
    | (apply gd_run_t; (first | exact rfl | assumption))
    | (apply gd_run_f; (first | exact rfl | assumption))
    | (apply gd_skip_t; (first | exact rfl | assumption))
    | (apply gd_skip_f; (first | exact rfl | assumption))
    | (apply gd_split_d <;> intro h)
    | (apply gd_split <;> intro h)
    | (apply aops_pick_any; exact rfl; first | (apply pk_dt; (first | assumption | omega)) | (apply pk_df; (first | assumption | omega)) | (apply pk_nt; (first | exact rfl | assumption)) | (apply pk_nf; (first | exact rfl | assumption)) | (apply pk_t; (first | exact rfl | assumption)) | (apply pk_f; (first | exact rfl | assumption)))
    | (apply awp_cond_any; exact rfl; first | (apply cd_dt; (first | assumption | omega)) | (apply cd_df; (first | assumption | omega)) | (apply cd_nt; (first | exact rfl | assumption)) | (apply cd_nf; (first | exact rfl | assumption)) | (apply cd_n <;> intro h) | (apply cd_t; (first | exact rfl | assumption)) | (apply cd_f; (first | exact rfl | assumption)) | (apply cd_d <;> intro h) | (apply cd_s <;> intro h))
    | (apply aops_lenS; exact rfl; exact rfl; exact rfl)
    | (apply aops_lenL; exact rfl; exact rfl; exact rfl; exact rfl)
    | (apply aops_concat; exact rfl; exact rfl; (first | omega | (simp only [List.length_append, List.length_cons, List.length_nil]; omega) | (simp; omega)))
    | (apply aops_add; exact rfl; exact rfl; exact wrap_i64 (by omega) (by omega))
    | (apply aops_sub; exact rfl; exact rfl; exact wrap_i64 (by omega) (by omega))
    | (apply aops_errNeNil; exact rfl; exact rfl)
    | (apply aops_nilNeNil; exact rfl; exact rfl)
    | (apply aops_errEqNil; exact rfl; exact rfl)
    | (apply aops_nilEqNil; exact rfl; exact rfl)
    | (apply aops_makeInterface; exact rfl; exact rfl)
    | apply aops_makeFunc
    | (apply aops_alloc; exact rfl; exact rfl)
    | (apply aops_box; exact rfl; exact rfl; exact rfl; exact rfl)
    | (apply aops_field; exact rfl; exact rfl; exact rfl)
    | (apply aops_fieldAddr_bx; exact rfl; exact rfl; exact rfl)
    | (apply aops_fieldAddr_pp; exact rfl; exact rfl; exact rfl; exact rfl)
    | (apply aops_load_pp; exact rfl; exact rfl; exact rfl)
    | (apply aops_load_loc; exact rfl; exact rfl; exact rfl; exact rfl; exact rfl)
    | (apply aops_store_loc; exact rfl; exact rfl; exact rfl; exact rfl; exact rfl; exact rfl; exact rfl; exact rfl; exact rfl; exact rfl; exact rfl)
    | (apply aops_idx; exact rfl; exact rfl; exact rfl; first | assumption | omega | (simp; omega))
    | (apply aops_upto; exact rfl; exact rfl; exact rfl; first | assumption | omega | (simp; omega))
    | (apply aops_from; exact rfl; exact rfl; exact rfl; first | assumption | omega | (simp; omega))
    | (apply aops_span; exact rfl; exact rfl; exact rfl; exact rfl; (first | assumption | omega | (simp; omega)); first | assumption | omega | (simp; omega))
    | (apply aops_build; exact rfl; exact rfl; exact rfl)
    | (apply aops_buildSlice; exact rfl; exact rfl; exact rfl; exact rfl; exact rfl; exact rfl; exact rfl; exact rfl; exact rfl)
    | (apply aops_nilCheck; exact rfl; exact rfl)
    | (apply aops_ptrEqNil; exact rfl; exact rfl; exact rfl)
    | (apply aops_ptrNeNil; exact rfl; exact rfl; exact rfl)
    | (apply aops_xor32; exact rfl; exact rfl; (first | exact ofInt_toNat _ | exact rfl); first | exact ofInt_toNat _ | exact rfl)
    | (apply aops_and32; exact rfl; exact rfl; (first | exact ofInt_toNat _ | exact rfl); first | exact ofInt_toNat _ | exact rfl)
    | (apply aops_or32; exact rfl; exact rfl; (first | exact ofInt_toNat _ | exact rfl); first | exact ofInt_toNat _ | exact rfl)
    | (apply aops_compl32; exact rfl)
    | (apply aops_shl32; exact rfl; exact rfl; exact rfl)
    | (apply aops_shr32; exact rfl; exact rfl; exact rfl)
    | (apply aops_indexA; exact rfl; exact rfl; exact rfl; exact rfl; (first | assumption | omega | decide); exact rfl)
    | (apply aops_indexAddrA; exact rfl; exact rfl; exact rfl; exact rfl; first | assumption | omega | decide)
    | (apply awp_draw; exact rfl; kernel_rfl)
    | apply aq_nil
    | (apply aq_idx; exact rfl; exact rfl; exact rfl; first | assumption | omega | (simp; omega))
    | (apply aq_shr4; exact rfl; exact rfl)
    | (apply aq_and15; exact rfl; exact rfl)
    | (apply aq_convW; exact rfl; exact rfl; exact rfl; omega)
    | (apply aq_buildA; exact rfl; exact rfl; exact rfl)
    | apply aq_move
    | apply aq_assign
    | (apply aq_add; exact rfl; exact rfl; exact wrap_i64 (by omega) (by omega))
    | (apply aq_lenS; exact rfl; exact rfl; exact rfl)
    | (apply aq_upto; exact rfl; exact rfl; exact rfl; first | assumption | omega | (simp; omega))
    | (apply aq_from; exact rfl; exact rfl; exact rfl; first | assumption | omega | (simp; omega))
    | (apply aq_extract; exact rfl; exact rfl)
    | apply awp_skip
    | apply awp_exit
    | apply awp_ret)
  refine awp_loopG (fun (k : Nat) s => k ≤ xs.length ∧ StE [(1, oneA id xs), (2, Iv 0), (3, .bx (st.length + 0) 0 0), (7, Iv (cntR r (xs.take k))), (8, Bv ((xs.take k).any (badR r))), (9, Iv k)] st [.cells 0 28 (ruleC r)] s) (fun k => xs.length - k) 0 ⟨by omega, stE_mk0 ⟨rfl, rfl, rfl, ?_, rfl, rfl, trivial⟩ rfl⟩ ?_
  · unfold cntR
    split <;> rfl
  rintro k _ ⟨hk, t, ext, rfl⟩
  have hlen : (xs.map fldA).length = xs.length := by simp
  have hcl : cntR r (xs.take k) ≤ xs.length := by
    unfold cntR
    split
    · omega
    · exact valsOf_take_len _ _ _
  rcases Nat.lt_or_ge k xs.length with hc | hc
  · have hf := hx.val (xs.getD k ([], [])) (by simp [List.getD, hc])
    rcases hz : numZ (xs.getD k ([], [])).2 with _ | v
    · skip
      repeat' (first
        | apply awp_seq
        | apply awp_block
        | apply awp_region
        | apply aops_nil
        | apply aops_move
        | apply aops_assign
        | (apply aops_extract; exact rfl; exact rfl)
        | (apply aops_cmpI; exact rfl; exact rfl; exact rfl)
        | (apply aops_cmpS; exact rfl; exact rfl; exact rfl)
        | (apply aops_not_d; exact rfl)
        | (apply aops_not; exact rfl)
        | (apply aops_guard_any; exact rfl; exact rfl; exact rfl; exact rfl)
        | (apply gd_run_d; (first | assumption | omega))
        | (apply gd_run_n; (first | assumption | omega))
        | (apply gd_skip_d; (first | assumption | omega))
        | (apply gd_skip_n; (first | assumption | omega))
        | (apply aops_guard_undef; exact rfl; exact rfl; exact rfl; exact rfl)
        | (apply gd_run_nt; (first | exact rfl | assumption))
        | (apply gd_run_nf; (first | exact rfl | assumption))
        | (apply gd_skip_nt; (first | exact rfl | assumption))
        | (apply gd_skip_nf; (first | exact rfl | assumption))
        | (apply gd_split_n <;> intro h)
        | (apply gd_run_t; (first | exact rfl | assumption))
        | (apply gd_run_f; (first | exact rfl | assumption))
        | (apply gd_skip_t; (first | exact rfl | assumption))
        | (apply gd_skip_f; (first | exact rfl | assumption))
        | (apply gd_split_d <;> intro h)
        | (apply gd_split <;> intro h)
        | (apply aops_pick_any; exact rfl; first | (apply pk_dt; (first | assumption | omega)) | (apply pk_df; (first | assumption | omega)) | (apply pk_nt; (first | exact rfl | assumption)) | (apply pk_nf; (first | exact rfl | assumption)) | (apply pk_t; (first | exact rfl | assumption)) | (apply pk_f; (first | exact rfl | assumption)))
        | (apply awp_cond_any; exact rfl; first | (apply cd_dt; (first | assumption | omega)) | (apply cd_df; (first | assumption | omega)) | (apply cd_nt; (first | exact rfl | assumption)) | (apply cd_nf; (first | exact rfl | assumption)) | (apply cd_n <;> intro h) | (apply cd_t; (first | exact rfl | assumption)) | (apply cd_f; (first | exact rfl | assumption)) | (apply cd_d <;> intro h) | (apply cd_s <;> intro h))
        | (apply aops_lenS; exact rfl; exact rfl; exact rfl)
        | (apply aops_lenL; exact rfl; exact rfl; exact rfl; exact rfl)
        | (apply aops_concat; exact rfl; exact rfl; (first | omega | (simp only [List.length_append, List.length_cons, List.length_nil]; omega) | (simp; omega)))
        | (apply aops_add; exact rfl; exact rfl; exact wrap_i64 (by omega) (by omega))
        | (apply aops_sub; exact rfl; exact rfl; exact wrap_i64 (by omega) (by omega))
        | (apply aops_errNeNil; exact rfl; exact rfl)
        | (apply aops_nilNeNil; exact rfl; exact rfl)
        | (apply aops_errEqNil; exact rfl; exact rfl)
        | (apply aops_nilEqNil; exact rfl; exact rfl)
        | (apply aops_makeInterface; exact rfl; exact rfl)
        | apply aops_makeFunc
        | (apply aops_alloc; exact rfl; exact rfl)
        | (apply aops_box; exact rfl; exact rfl; exact rfl; exact rfl)
        | (apply aops_field; exact rfl; exact rfl; exact rfl)
        | (apply aops_fieldAddr_bx; exact rfl; exact rfl; exact rfl)
        | (apply aops_fieldAddr_pp; exact rfl; exact rfl; exact rfl; exact rfl)
        | (apply aops_load_pp; exact rfl; exact rfl; exact rfl)
        | (apply aops_load_loc; exact rfl; exact rfl; exact rfl; exact rfl; exact rfl)
        | (apply aops_store_loc; exact rfl; exact rfl; exact rfl; exact rfl; exact rfl; exact rfl; exact rfl; exact rfl; exact rfl; exact rfl; exact rfl)
        | (apply aops_idx; exact rfl; exact rfl; exact rfl; first | assumption | omega | (simp; omega))
        | (apply aops_upto; exact rfl; exact rfl; exact rfl; first | assumption | omega | (simp; omega))
        | (apply aops_from; exact rfl; exact rfl; exact rfl; first | assumption | omega | (simp; omega))
        | (apply aops_span; exact rfl; exact rfl; exact rfl; exact rfl; (first | assumption | omega | (simp; omega)); first | assumption | omega | (simp; omega))
        | (apply aops_build; exact rfl; exact rfl; exact rfl)
        | (apply aops_buildSlice; exact rfl; exact rfl; exact rfl; exact rfl; exact rfl; exact rfl; exact rfl; exact rfl; exact rfl)
        | (apply aops_nilCheck; exact rfl; exact rfl)
        | (apply aops_ptrEqNil; exact rfl; exact rfl; exact rfl)
        | (apply aops_ptrNeNil; exact rfl; exact rfl; exact rfl)
        | (apply aops_xor32; exact rfl; exact rfl; (first | exact ofInt_toNat _ | exact rfl); first | exact ofInt_toNat _ | exact rfl)
        | (apply aops_and32; exact rfl; exact rfl; (first | exact ofInt_toNat _ | exact rfl); first | exact ofInt_toNat _ | exact rfl)
        | (apply aops_or32; exact rfl; exact rfl; (first | exact ofInt_toNat _ | exact rfl); first | exact ofInt_toNat _ | exact rfl)
        | (apply aops_compl32; exact rfl)
        | (apply aops_shl32; exact rfl; exact rfl; exact rfl)
        | (apply aops_shr32; exact rfl; exact rfl; exact rfl)
        | (apply aops_indexA; exact rfl; exact rfl; exact rfl; exact rfl; (first | assumption | omega | decide); exact rfl)
        | (apply aops_indexAddrA; exact rfl; exact rfl; exact rfl; exact rfl; first | assumption | omega | decide)
        | (apply awp_draw; exact rfl; kernel_rfl)
        | apply aq_nil
        | (apply aq_idx; exact rfl; exact rfl; exact rfl; first | assumption | omega | (simp; omega))
        | (apply aq_shr4; exact rfl; exact rfl)
        | (apply aq_and15; exact rfl; exact rfl)
        | (apply aq_convW; exact rfl; exact rfl; exact rfl; omega)
        | (apply aq_buildA; exact rfl; exact rfl; exact rfl)
        | apply aq_move
        | apply aq_assign
        | (apply aq_add; exact rfl; exact rfl; exact wrap_i64 (by omega) (by omega))
        | (apply aq_lenS; exact rfl; exact rfl; exact rfl)
        | (apply aq_upto; exact rfl; exact rfl; exact rfl; first | assumption | omega | (simp; omega))
        | (apply aq_from; exact rfl; exact rfl; exact rfl; first | assumption | omega | (simp; omega))
        | (apply aq_extract; exact rfl; exact rfl)
        | apply awp_skip
        | apply awp_exit
        | apply awp_ret
        | (apply aops_load_mid; exact rfl; exact rfl; exact rfl; exact rfl; exact rfl)
        | (apply aops_indexAddr (n := 0); exact rfl; exact rfl; exact rfl; exact rfl; exact rfl; exact rfl)
        | (apply aops_indexAddr (n := k); exact rfl; exact rfl; exact rfl; exact rfl; exact rfl; exact flds_get (by omega))
        | (apply aops_lenL; exact rfl; exact congrArg some List.length_map; exact rfl; exact rfl)
        | (refine awp_loopG (fun (_ : Unit) s => s = _) (fun _ => 0) () rfl ?_; rintro _ _ rfl)
        | (apply aops_call1; exact Tryd.call26; exact refWord24_c _ _ _ hr.text)
        | (apply aops_call1; exact Tryd.call27; exact refNumberN_c _ _ hf.2 hz))
      all_goals refine ⟨k + 1, ⟨by omega, stE_mk ⟨rfl, rfl, rfl, ?_, ?_, rfl, trivial⟩ rfl⟩, by omega⟩
      all_goals first
        | (refine congrArg Iv (?_ : (_ : Int) = _); rw [cnt_next hc]; simp_all; done)
        | (refine congrArg Bv (?_ : (_ : Bool) = _); rw [bad_next hc]; simp_all [badR, takesR, numberR, withinR]; done)
        | (refine congrArg Bv (?_ : (_ : Bool) = _); rw [bad_next hc, any_out (by assumption), bad6 (by assumption)]; done)
        | (refine congrArg Bv (?_ : (_ : Bool) = _); rw [bad_next hc, any_out (by assumption), bad4 (by assumption) (Classical.not_not.1 (by assumption))]; done)
        | (refine congrArg Bv (?_ : (_ : Bool) = _); rw [bad_next hc, any_out (by assumption), bad5 (by assumption) (Classical.not_not.1 (by assumption)) (by assumption)]; done)
        | (refine congrArg Bv (?_ : (_ : Bool) = _); rw [bad_next hc, any_out (by assumption), bad3 (by assumption) (Classical.not_not.1 (by assumption)) hz (by assumption)]; done)
        | skip
    · skip
      repeat' (first
        | apply awp_seq
        | apply awp_block
        | apply awp_region
        | apply aops_nil
        | apply aops_move
        | apply aops_assign
        | (apply aops_extract; exact rfl; exact rfl)
        | (apply aops_cmpI; exact rfl; exact rfl; exact rfl)
        | (apply aops_cmpS; exact rfl; exact rfl; exact rfl)
        | (apply aops_not_d; exact rfl)
        | (apply aops_not; exact rfl)
        | (apply aops_guard_any; exact rfl; exact rfl; exact rfl; exact rfl)
        | (apply gd_run_d; (first | assumption | omega))
        | (apply gd_run_n; (first | assumption | omega))
        | (apply gd_skip_d; (first | assumption | omega))
        | (apply gd_skip_n; (first | assumption | omega))
        | (apply aops_guard_undef; exact rfl; exact rfl; exact rfl; exact rfl)
        | (apply gd_run_nt; (first | exact rfl | assumption))
        | (apply gd_run_nf; (first | exact rfl | assumption))
        | (apply gd_skip_nt; (first | exact rfl | assumption))
        | (apply gd_skip_nf; (first | exact rfl | assumption))
        | (apply gd_split_n <;> intro h)
        | (apply gd_run_t; (first | exact rfl | assumption))
        | (apply gd_run_f; (first | exact rfl | assumption))
        | (apply gd_skip_t; (first | exact rfl | assumption))
        | (apply gd_skip_f; (first | exact rfl | assumption))
        | (apply gd_split_d <;> intro h)
        | (apply gd_split <;> intro h)
        | (apply aops_pick_any; exact rfl; first | (apply pk_dt; (first | assumption | omega)) | (apply pk_df; (first | assumption | omega)) | (apply pk_nt; (first | exact rfl | assumption)) | (apply pk_nf; (first | exact rfl | assumption)) | (apply pk_t; (first | exact rfl | assumption)) | (apply pk_f; (first | exact rfl | assumption)))
        | (apply awp_cond_any; exact rfl; first | (apply cd_dt; (first | assumption | omega)) | (apply cd_df; (first | assumption | omega)) | (apply cd_nt; (first | exact rfl | assumption)) | (apply cd_nf; (first | exact rfl | assumption)) | (apply cd_n <;> intro h) | (apply cd_t; (first | exact rfl | assumption)) | (apply cd_f; (first | exact rfl | assumption)) | (apply cd_d <;> intro h) | (apply cd_s <;> intro h))
        | (apply aops_lenS; exact rfl; exact rfl; exact rfl)
        | (apply aops_lenL; exact rfl; exact rfl; exact rfl; exact rfl)
        | (apply aops_concat; exact rfl; exact rfl; (first | omega | (simp only [List.length_append, List.length_cons, List.length_nil]; omega) | (simp; omega)))
        | (apply aops_add; exact rfl; exact rfl; exact wrap_i64 (by omega) (by omega))
        | (apply aops_sub; exact rfl; exact rfl; exact wrap_i64 (by omega) (by omega))
        | (apply aops_errNeNil; exact rfl; exact rfl)
        | (apply aops_nilNeNil; exact rfl; exact rfl)
        | (apply aops_errEqNil; exact rfl; exact rfl)
        | (apply aops_nilEqNil; exact rfl; exact rfl)
        | (apply aops_makeInterface; exact rfl; exact rfl)
        | apply aops_makeFunc
        | (apply aops_alloc; exact rfl; exact rfl)
        | (apply aops_box; exact rfl; exact rfl; exact rfl; exact rfl)
        | (apply aops_field; exact rfl; exact rfl; exact rfl)
        | (apply aops_fieldAddr_bx; exact rfl; exact rfl; exact rfl)
        | (apply aops_fieldAddr_pp; exact rfl; exact rfl; exact rfl; exact rfl)
        | (apply aops_load_pp; exact rfl; exact rfl; exact rfl)
        | (apply aops_load_loc; exact rfl; exact rfl; exact rfl; exact rfl; exact rfl)
        | (apply aops_store_loc; exact rfl; exact rfl; exact rfl; exact rfl; exact rfl; exact rfl; exact rfl; exact rfl; exact rfl; exact rfl; exact rfl)
        | (apply aops_idx; exact rfl; exact rfl; exact rfl; first | assumption | omega | (simp; omega))
        | (apply aops_upto; exact rfl; exact rfl; exact rfl; first | assumption | omega | (simp; omega))
        | (apply aops_from; exact rfl; exact rfl; exact rfl; first | assumption | omega | (simp; omega))
        | (apply aops_span; exact rfl; exact rfl; exact rfl; exact rfl; (first | assumption | omega | (simp; omega)); first | assumption | omega | (simp; omega))
        | (apply aops_build; exact rfl; exact rfl; exact rfl)
        | (apply aops_buildSlice; exact rfl; exact rfl; exact rfl; exact rfl; exact rfl; exact rfl; exact rfl; exact rfl; exact rfl)
        | (apply aops_nilCheck; exact rfl; exact rfl)
        | (apply aops_ptrEqNil; exact rfl; exact rfl; exact rfl)
        | (apply aops_ptrNeNil; exact rfl; exact rfl; exact rfl)
        | (apply aops_xor32; exact rfl; exact rfl; (first | exact ofInt_toNat _ | exact rfl); first | exact ofInt_toNat _ | exact rfl)
        | (apply aops_and32; exact rfl; exact rfl; (first | exact ofInt_toNat _ | exact rfl); first | exact ofInt_toNat _ | exact rfl)
        | (apply aops_or32; exact rfl; exact rfl; (first | exact ofInt_toNat _ | exact rfl); first | exact ofInt_toNat _ | exact rfl)
        | (apply aops_compl32; exact rfl)
        | (apply aops_shl32; exact rfl; exact rfl; exact rfl)
        | (apply aops_shr32; exact rfl; exact rfl; exact rfl)
        | (apply aops_indexA; exact rfl; exact rfl; exact rfl; exact rfl; (first | assumption | omega | decide); exact rfl)
        | (apply aops_indexAddrA; exact rfl; exact rfl; exact rfl; exact rfl; first | assumption | omega | decide)
        | (apply awp_draw; exact rfl; kernel_rfl)
        | apply aq_nil
        | (apply aq_idx; exact rfl; exact rfl; exact rfl; first | assumption | omega | (simp; omega))
        | (apply aq_shr4; exact rfl; exact rfl)
        | (apply aq_and15; exact rfl; exact rfl)
        | (apply aq_convW; exact rfl; exact rfl; exact rfl; omega)
        | (apply aq_buildA; exact rfl; exact rfl; exact rfl)
        | apply aq_move
        | apply aq_assign
        | (apply aq_add; exact rfl; exact rfl; exact wrap_i64 (by omega) (by omega))
        | (apply aq_lenS; exact rfl; exact rfl; exact rfl)
        | (apply aq_upto; exact rfl; exact rfl; exact rfl; first | assumption | omega | (simp; omega))
        | (apply aq_from; exact rfl; exact rfl; exact rfl; first | assumption | omega | (simp; omega))
        | (apply aq_extract; exact rfl; exact rfl)
        | apply awp_skip
        | apply awp_exit
        | apply awp_ret
        | (apply aops_load_mid; exact rfl; exact rfl; exact rfl; exact rfl; exact rfl)
        | (apply aops_indexAddr (n := 0); exact rfl; exact rfl; exact rfl; exact rfl; exact rfl; exact rfl)
        | (apply aops_indexAddr (n := k); exact rfl; exact rfl; exact rfl; exact rfl; exact rfl; exact flds_get (by omega))
        | (apply aops_lenL; exact rfl; exact congrArg some List.length_map; exact rfl; exact rfl)
        | (refine awp_loopG (fun (_ : Unit) s => s = _) (fun _ => 0) () rfl ?_; rintro _ _ rfl)
        | (apply aops_call1; exact Tryd.call26; exact refWord24_c _ _ _ hr.text)
        | (apply aops_call1; exact Tryd.call27; exact refNumberS_c _ v _ hf.2 hz))
      all_goals refine ⟨k + 1, ⟨by omega, stE_mk ⟨rfl, rfl, rfl, ?_, ?_, rfl, trivial⟩ rfl⟩, by omega⟩
      all_goals first
        | (refine congrArg Iv (?_ : (_ : Int) = _); rw [cnt_next hc]; simp_all; done)
        | (refine congrArg Bv (?_ : (_ : Bool) = _); rw [bad_next hc]; simp_all [badR, takesR, numberR, withinR]; done)
        | (refine congrArg Bv (?_ : (_ : Bool) = _); rw [bad_next hc, any_out (by assumption), bad6 (by assumption)]; done)
        | (refine congrArg Bv (?_ : (_ : Bool) = _); rw [bad_next hc, any_out (by assumption), bad4 (by assumption) (Classical.not_not.1 (by assumption))]; done)
        | (refine congrArg Bv (?_ : (_ : Bool) = _); rw [bad_next hc, any_out (by assumption), bad5 (by assumption) (Classical.not_not.1 (by assumption)) (by assumption)]; done)
        | (refine congrArg Bv (?_ : (_ : Bool) = _); rw [bad_next hc, any_out (by assumption), bad3 (by assumption) (Classical.not_not.1 (by assumption)) hz (by assumption)]; done)
        | skip
  · skip
    repeat' (first
      | apply awp_seq
      | apply awp_block
      | apply awp_region
      | apply aops_nil
      | apply aops_move
      | apply aops_assign
      | (apply aops_extract; exact rfl; exact rfl)
      | (apply aops_cmpI; exact rfl; exact rfl; exact rfl)
      | (apply aops_cmpS; exact rfl; exact rfl; exact rfl)
      | (apply aops_not_d; exact rfl)
      | (apply aops_not; exact rfl)
      | (apply aops_guard_any; exact rfl; exact rfl; exact rfl; exact rfl)
      | (apply gd_run_d; (first | assumption | omega))
      | (apply gd_run_n; (first | assumption | omega))
      | (apply gd_skip_d; (first | assumption | omega))
      | (apply gd_skip_n; (first | assumption | omega))
      | (apply aops_guard_undef; exact rfl; exact rfl; exact rfl; exact rfl)
      | (apply gd_run_nt; (first | exact rfl | assumption))
      | (apply gd_run_nf; (first | exact rfl | assumption))
      | (apply gd_skip_nt; (first | exact rfl | assumption))
      | (apply gd_skip_nf; (first | exact rfl | assumption))
      | (apply gd_split_n <;> intro h)
      | (apply gd_run_t; (first | exact rfl | assumption))
      | (apply gd_run_f; (first | exact rfl | assumption))
      | (apply gd_skip_t; (first | exact rfl | assumption))
      | (apply gd_skip_f; (first | exact rfl | assumption))
      | (apply gd_split_d <;> intro h)
      | (apply gd_split <;> intro h)
      | (apply aops_pick_any; exact rfl; first | (apply pk_dt; (first | assumption | omega)) | (apply pk_df; (first | assumption | omega)) | (apply pk_nt; (first | exact rfl | assumption)) | (apply pk_nf; (first | exact rfl | assumption)) | (apply pk_t; (first | exact rfl | assumption)) | (apply pk_f; (first | exact rfl | assumption)))
      | (apply awp_cond_any; exact rfl; first | (apply cd_dt; (first | assumption | omega)) | (apply cd_df; (first | assumption | omega)) | (apply cd_nt; (first | exact rfl | assumption)) | (apply cd_nf; (first | exact rfl | assumption)) | (apply cd_n <;> intro h) | (apply cd_t; (first | exact rfl | assumption)) | (apply cd_f; (first | exact rfl | assumption)) | (apply cd_d <;> intro h) | (apply cd_s <;> intro h))
      | (apply aops_lenS; exact rfl; exact rfl; exact rfl)
      | (apply aops_lenL; exact rfl; exact rfl; exact rfl; exact rfl)
      | (apply aops_concat; exact rfl; exact rfl; (first | omega | (simp only [List.length_append, List.length_cons, List.length_nil]; omega) | (simp; omega)))
      | (apply aops_add; exact rfl; exact rfl; exact wrap_i64 (by omega) (by omega))
      | (apply aops_sub; exact rfl; exact rfl; exact wrap_i64 (by omega) (by omega))
      | (apply aops_errNeNil; exact rfl; exact rfl)
      | (apply aops_nilNeNil; exact rfl; exact rfl)
      | (apply aops_errEqNil; exact rfl; exact rfl)
      | (apply aops_nilEqNil; exact rfl; exact rfl)
      | (apply aops_makeInterface; exact rfl; exact rfl)
      | apply aops_makeFunc
      | (apply aops_alloc; exact rfl; exact rfl)
      | (apply aops_box; exact rfl; exact rfl; exact rfl; exact rfl)
      | (apply aops_field; exact rfl; exact rfl; exact rfl)
      | (apply aops_fieldAddr_bx; exact rfl; exact rfl; exact rfl)
      | (apply aops_fieldAddr_pp; exact rfl; exact rfl; exact rfl; exact rfl)
      | (apply aops_load_pp; exact rfl; exact rfl; exact rfl)
      | (apply aops_load_loc; exact rfl; exact rfl; exact rfl; exact rfl; exact rfl)
      | (apply aops_store_loc; exact rfl; exact rfl; exact rfl; exact rfl; exact rfl; exact rfl; exact rfl; exact rfl; exact rfl; exact rfl; exact rfl)
      | (apply aops_idx; exact rfl; exact rfl; exact rfl; first | assumption | omega | (simp; omega))
      | (apply aops_upto; exact rfl; exact rfl; exact rfl; first | assumption | omega | (simp; omega))
      | (apply aops_from; exact rfl; exact rfl; exact rfl; first | assumption | omega | (simp; omega))
      | (apply aops_span; exact rfl; exact rfl; exact rfl; exact rfl; (first | assumption | omega | (simp; omega)); first | assumption | omega | (simp; omega))
      | (apply aops_build; exact rfl; exact rfl; exact rfl)
      | (apply aops_buildSlice; exact rfl; exact rfl; exact rfl; exact rfl; exact rfl; exact rfl; exact rfl; exact rfl; exact rfl)
      | (apply aops_nilCheck; exact rfl; exact rfl)
      | (apply aops_ptrEqNil; exact rfl; exact rfl; exact rfl)
      | (apply aops_ptrNeNil; exact rfl; exact rfl; exact rfl)
      | (apply aops_xor32; exact rfl; exact rfl; (first | exact ofInt_toNat _ | exact rfl); first | exact ofInt_toNat _ | exact rfl)
      | (apply aops_and32; exact rfl; exact rfl; (first | exact ofInt_toNat _ | exact rfl); first | exact ofInt_toNat _ | exact rfl)
      | (apply aops_or32; exact rfl; exact rfl; (first | exact ofInt_toNat _ | exact rfl); first | exact ofInt_toNat _ | exact rfl)
      | (apply aops_compl32; exact rfl)
      | (apply aops_shl32; exact rfl; exact rfl; exact rfl)
      | (apply aops_shr32; exact rfl; exact rfl; exact rfl)
      | (apply aops_indexA; exact rfl; exact rfl; exact rfl; exact rfl; (first | assumption | omega | decide); exact rfl)
      | (apply aops_indexAddrA; exact rfl; exact rfl; exact rfl; exact rfl; first | assumption | omega | decide)
      | (apply awp_draw; exact rfl; kernel_rfl)
      | apply aq_nil
      | (apply aq_idx; exact rfl; exact rfl; exact rfl; first | assumption | omega | (simp; omega))
      | (apply aq_shr4; exact rfl; exact rfl)
      | (apply aq_and15; exact rfl; exact rfl)
      | (apply aq_convW; exact rfl; exact rfl; exact rfl; omega)
      | (apply aq_buildA; exact rfl; exact rfl; exact rfl)
      | apply aq_move
      | apply aq_assign
      | (apply aq_add; exact rfl; exact rfl; exact wrap_i64 (by omega) (by omega))
      | (apply aq_lenS; exact rfl; exact rfl; exact rfl)
      | (apply aq_upto; exact rfl; exact rfl; exact rfl; first | assumption | omega | (simp; omega))
      | (apply aq_from; exact rfl; exact rfl; exact rfl; first | assumption | omega | (simp; omega))
      | (apply aq_extract; exact rfl; exact rfl)
      | apply awp_skip
      | apply awp_exit
      | apply awp_ret
      | (apply aops_load_mid; exact rfl; exact rfl; exact rfl; exact rfl; exact rfl)
      | (apply aops_indexAddr (n := 0); exact rfl; exact rfl; exact rfl; exact rfl; exact rfl; exact rfl)
      | (apply aops_lenL; exact rfl; exact congrArg some List.length_map; exact rfl; exact rfl))
    all_goals have e : k = xs.length := by omega
    all_goals subst e
    all_goals rw [List.take_length] at *
    all_goals refine aret_plain rfl (ares_one rfl) ⟨congrArg Bv (?_ : (_ : Bool) = decide _), ext_end _ _ _ _⟩
    · exact (decide_eq_true (.inl (by assumption))).symm
    · exact (decide_eq_true (.inr (.inl ⟨by assumption, by omega⟩))).symm
    · exact (decide_eq_false (by rintro (h | h | h) <;> first | omega | simp_all)).symm
    · have e : (xs.any (badR r) = true ∨ (r.kind = 1 ∧ cntR r xs = 0) ∨ (r.kind = 2 ∧ 1 < cntR r xs)) ↔ (1 : Int) < (cntR r xs : Int) := by
        constructor
        · rintro (h | h | h)
          · simp_all
          · omega
          · omega
        · intro h; exact .inr (.inr ⟨by assumption, by omega⟩)
      simp only [e]
    · exact (decide_eq_false (by rintro (h | h | h) <;> first | omega | simp_all)).symm
end Go.Proofs.YtopmpdoigmenmaaDoor
