/- The document's answer for records: what a text begins with, behind its number. -/
import Derived.Test.YtopmpdoigmenmaaGreatDoorRr
set_option maxRecDepth 100000
set_option linter.unusedVariables false
namespace Go.Proofs.YtopmpdoigmenmaaGreatDoor
open Go Go.Av Go.RowKit Go.Proofs Go.Pl

theorem partly2 {T : Bytes} {lack : Int} (h1 : sp true T = true) (h2 : T.length = 0 → 2 ≤ lack) (h3 : T.getLast? = some 10 → 2 ≤ lack) : partlyF T lack = 2 := by
  unfold partlyF
  rw [dedent_sp]
  refine if_pos ⟨h1, ?_⟩
  rintro ⟨h | h, h'⟩
  · have := h2 (by rw [h]; rfl)
    omega
  · have := h3 h
    omega
theorem partly3a {T : Bytes} {lack : Int} (h : sp true T = false) : partlyF T lack = 3 := by
  unfold partlyF
  rw [dedent_sp]
  exact if_neg fun h' => by rw [h] at h'; simp at h'
theorem partly3b {T : Bytes} {lack : Int} (h1 : T.getLast? = some 10) (h2 : lack < 2) : partlyF T lack = 3 := by
  unfold partlyF
  exact if_neg fun h' => h'.2 ⟨.inr h1, h2⟩
theorem last_at {T : Bytes} (h : T.length ≠ 0) : T.getLast? = some 10 ↔ T.getD ((T.length : Int) - 1).toNat 0 = 10 := by
  have e : ((T.length : Int) - 1).toNat = T.length - 1 := by omega
  rw [e, List.getLast?_eq_getElem?]
  simp [List.getD, show T.length - 1 < T.length by omega]
theorem closed1 {U B f : Bytes} {z : Int} (h1 : ¬ U.length < (tailF B.length).length) (h2 : tailF B.length <+: U) (h3 : f = sumF B) : closedF U B f z = (1, B, z) := by
  unfold closedF
  rw [if_neg (fun h => h1 h.1), if_pos ⟨h2, h3⟩]
theorem closed2 {U B f : Bytes} {z : Int} (h1 : U.length < (tailF B.length).length) (h2 : U <+: tailF B.length) : closedF U B f z = (2, [], 0) := by
  unfold closedF
  rw [if_pos ⟨h1, h2⟩]
theorem closed3 {U B f : Bytes} {z : Int} (h1 : ¬ (U.length < (tailF B.length).length ∧ U <+: tailF B.length)) (h2 : ¬ (tailF B.length <+: U ∧ f = sumF B)) : closedF U B f z = (3, [], 0) := by
  unfold closedF
  rw [if_neg h1, if_neg h2]
set_option maxHeartbeats 16000000 in
theorem refRead3_c (l S R T : List UInt8) (K H n : Nat) (st : List AObj) (hl : l.length < 4294967281) (h7 : 7 < l.length) (A : AtNum l S K n) (hR : S.drop (K + 1) = R) (hH : ((R.take 8).takeWhile isHex).length = H) (hT : R.drop 9 = T) : ACall E 16 [Sv l] st fun r st' => r = .tu [Iv (readF l).1, Sv (readF l).2.1, Iv (readF l).2.2] ∧ st' = st := by
  have hb := A.hl
  have hK := A.hK
  have hn1 := A.h1
  have hn2 := A.h2
  have hS : l.drop 7 = S := by rw [hb, show (7 : Nat) = beginL.length by rfl, List.drop_left]
  have hSl : S.length = l.length - 7 := by rw [← hS]; simp
  have hbp : beginL <+: l := ⟨S, hb.symm⟩
  have hKle : K ≤ S.length := hK ▸ (List.takeWhile_prefix isDig).length_le
  have hz : numZ (S.take K) = some (n : Int) := by rw [A.hD]; exact numZ_itoa (by omega) (by omega)
  have hK5 : K ≤ 5 := by
    have h1 := itoa_short hn2
    have h2 := congrArg List.length A.hD
    simp at h2
    omega
  have hRl : R.length = S.length - (K + 1) := by rw [← hR]; simp
  have hH8 : H ≤ 8 := by
    have := (List.takeWhile_prefix isHex (l := R.take 8)).length_le
    rw [hH] at this
    simp at this
    omega
  have hHR : H ≤ R.length := by
    have := (List.takeWhile_prefix isHex (l := R.take 8)).length_le
    rw [hH] at this
    simp at this
    omega
  have hTl : T.length = R.length - 9 := by rw [← hT]; simp
  have hfl : (R.take 8).length ≤ 8 := by simp; omega
  have hBl : (T.take n).length ≤ T.length := by simp; omega
  have ht := tailF_length n
  have hi := itoa_len n (by omega)
  refine acall_pure (pure_tu3v _ _ _) (acall_of_awp Tryz.func16 rfl (Nat.le_of_ble_eq_true rfl) ?_)
  repeat' (first
    | (apply aops_fromE (n := 7) hS; exact rfl; exact rfl; exact rfl; omega)
    | (apply aops_fromE (n := K + 1) hR; exact rfl; exact rfl; exact rfl; omega)
    | (apply aops_fromE (n := 9) hT; exact rfl; exact rfl; exact rfl; omega)
    | apply awp_seq
    | apply awp_block
    | apply awp_region
    | apply aops_nil
    | apply aops_move
    | apply aops_assign
    | (apply aops_extract; exact rfl; exact rfl)
    | (apply aops_cmpI; exact rfl; exact rfl; exact rfl)
    | (apply aops_cmpS; exact rfl; exact rfl; exact rfl)
    | (apply aops_not_d; exact rfl)
    | (apply aops_not; exact rfl)
    | (apply aops_guard_any; exact rfl; exact rfl; exact rfl; exact rfl)
    | (apply gd_run_d; (first | assumption | omega))
    | (apply gd_run_n; (first | assumption | omega))
    | (apply gd_skip_d; (first | assumption | omega))
    | (apply gd_skip_n; (first | assumption | omega))
    | (apply aops_guard_undef; exact rfl; exact rfl; exact rfl; exact rfl)
    | (apply gd_run_nt; (first | exact rfl | assumption))
    | (apply gd_run_nf; (first | exact rfl | assumption))
    | (apply gd_skip_nt; (first | exact rfl | assumption))
    | (apply gd_skip_nf; (first | exact rfl | assumption))
    | (apply gd_split_n <;> intro h)
    | (apply gd_run_t; (first | exact rfl | assumption))
    | (apply gd_run_f; (first | exact rfl | assumption))
    | (apply gd_skip_t; (first | exact rfl | assumption))
    | (apply gd_skip_f; (first | exact rfl | assumption))
    | (apply gd_split_d <;> intro h)
    | (apply gd_split <;> intro h)
    | (apply aops_pick_any; exact rfl; first | (apply pk_dt; (first | assumption | omega)) | (apply pk_df; (first | assumption | omega)) | (apply pk_nt; (first | exact rfl | assumption)) | (apply pk_nf; (first | exact rfl | assumption)) | (apply pk_t; (first | exact rfl | assumption)) | (apply pk_f; (first | exact rfl | assumption)))
    | (apply awp_cond_any; exact rfl; first | (apply cd_dt; (first | assumption | omega)) | (apply cd_df; (first | assumption | omega)) | (apply cd_nt; (first | exact rfl | assumption)) | (apply cd_nf; (first | exact rfl | assumption)) | (apply cd_n <;> intro h) | (apply cd_t; (first | exact rfl | assumption)) | (apply cd_f; (first | exact rfl | assumption)) | (apply cd_d <;> intro h) | (apply cd_s <;> intro h))
    | (apply aops_lenS; exact rfl; exact rfl; exact rfl)
    | (apply aops_lenL; exact rfl; exact rfl; exact rfl; exact rfl)
    | (apply aops_concat; exact rfl; exact rfl; (first | omega | (simp only [List.length_append, List.length_cons, List.length_nil]; omega) | (simp; omega)))
    | (apply aops_add; exact rfl; exact rfl; exact wrap_i64 (by omega) (by omega))
    | (apply aops_sub; exact rfl; exact rfl; exact wrap_i64 (by omega) (by omega))
    | (apply aops_errNeNil; exact rfl; exact rfl)
    | (apply aops_nilNeNil; exact rfl; exact rfl)
    | (apply aops_errEqNil; exact rfl; exact rfl)
    | (apply aops_nilEqNil; exact rfl; exact rfl)
    | (apply aops_makeInterface; exact rfl; exact rfl)
    | apply aops_makeFunc
    | (apply aops_alloc; exact rfl; exact rfl)
    | (apply aops_box; exact rfl; exact rfl; exact rfl; exact rfl)
    | (apply aops_field; exact rfl; exact rfl; exact rfl)
    | (apply aops_fieldAddr_bx; exact rfl; exact rfl; exact rfl)
    | (apply aops_fieldAddr_pp; exact rfl; exact rfl; exact rfl; exact rfl)
    | (apply aops_load_pp; exact rfl; exact rfl; exact rfl)
    | (apply aops_load_loc; exact rfl; exact rfl; exact rfl; exact rfl; exact rfl)
    | (apply aops_store_loc; exact rfl; exact rfl; exact rfl; exact rfl; exact rfl; exact rfl; exact rfl; exact rfl; exact rfl; exact rfl; exact rfl)
    | (apply aops_idx; exact rfl; exact rfl; exact rfl; first | assumption | omega | (simp; omega))
    | (apply aops_upto; exact rfl; exact rfl; exact rfl; first | assumption | omega | (simp; omega))
    | (apply aops_from; exact rfl; exact rfl; exact rfl; first | assumption | omega | (simp; omega))
    | (apply aops_span; exact rfl; exact rfl; exact rfl; exact rfl; (first | assumption | omega | (simp; omega)); first | assumption | omega | (simp; omega))
    | (apply aops_build; exact rfl; exact rfl; exact rfl)
    | (apply aops_buildSlice; exact rfl; exact rfl; exact rfl; exact rfl; exact rfl; exact rfl; exact rfl; exact rfl; exact rfl)
    | (apply aops_nilCheck; exact rfl; exact rfl)
    | (apply aops_ptrEqNil; exact rfl; exact rfl; exact rfl)
    | (apply aops_ptrNeNil; exact rfl; exact rfl; exact rfl)
    | (apply aops_xor32; exact rfl; exact rfl; (first | exact ofInt_toNat _ | exact rfl); first | exact ofInt_toNat _ | exact rfl)
    | (apply aops_and32; exact rfl; exact rfl; (first | exact ofInt_toNat _ | exact rfl); first | exact ofInt_toNat _ | exact rfl)
    | (apply aops_or32; exact rfl; exact rfl; (first | exact ofInt_toNat _ | exact rfl); first | exact ofInt_toNat _ | exact rfl)
    | (apply aops_compl32; exact rfl)
    | (apply aops_shl32; exact rfl; exact rfl; exact rfl)
    | (apply aops_shr32; exact rfl; exact rfl; exact rfl)
    | (apply aops_indexA; exact rfl; exact rfl; exact rfl; exact rfl; (first | assumption | omega | decide); exact rfl)
    | (apply aops_indexAddrA; exact rfl; exact rfl; exact rfl; exact rfl; first | assumption | omega | decide)
    | (apply awp_draw; exact rfl; kernel_rfl)
    | apply aq_nil
    | (apply aq_idx; exact rfl; exact rfl; exact rfl; first | assumption | omega | (simp; omega))
    | (apply aq_shr4; exact rfl; exact rfl)
    | (apply aq_and15; exact rfl; exact rfl)
    | (apply aq_convW; exact rfl; exact rfl; exact rfl; omega)
    | (apply aq_buildA; exact rfl; exact rfl; exact rfl)
    | apply aq_move
    | apply aq_assign
    | (apply aq_add; exact rfl; exact rfl; exact wrap_i64 (by omega) (by omega))
    | (apply aq_lenS; exact rfl; exact rfl; exact rfl)
    | (apply aq_upto; exact rfl; exact rfl; exact rfl; first | assumption | omega | (simp; omega))
    | (apply aq_from; exact rfl; exact rfl; exact rfl; first | assumption | omega | (simp; omega))
    | (apply aq_extract; exact rfl; exact rfl)
    | apply awp_skip
    | apply awp_exit
    | apply awp_ret
    | (apply aops_indexS; exact rfl; exact rfl; exact rfl; omega; omega)
    | (apply aops_call1; exact Tryz.call38; exact refBeginsT_c (l := l) (m := beginL) _ hl hbp)
    | (apply aops_call1; exact Tryz.call38; exact refBegins2_c _ (tailF n) _ (by simp; omega))
    | (apply aops_call1; exact Tryz.call37; exact refBeginning_c _ (tailF n) _ (by omega))
    | (apply aops_call1; exact Tryz.call39; exact refDecimalE_c _ (by omega) hK)
    | (apply aops_call1; exact Tryz.call41; exact refHexE_c _ (by omega) hH)
    | (apply aops_call1; exact Tryz.call40; exact refNumberS_c _ n _ (by simp; omega) hz)
    | (apply aops_call1; exact Tryz.call26; exact refLines_c _ _ (by omega))
    | (apply aops_call1; exact Tryz.call10; exact refGood_c _ _ (by omega))
    | (apply aops_call1; exact Tryz.call35; exact refAround_c n (R.take 8) _ (by omega) (by omega))
    | (apply aops_call1; exact Tryz.call21; exact refSum_c _ _ (by omega))
    | (apply aops_call1; exact Tryz.call20; exact refFigs_c _ _)
    | (apply aops_call1; exact Tryz.call17; exact refLength_c _ _))
  all_goals
    refine aret_plain rfl (ares_three rfl) ⟨tu_read (?_ : readF l = _), _, rfl⟩
    try simp only [Classical.not_not, u8_32, u8_10, decide_eq_true_eq, decide_eq_false_iff_not] at *
  · exact A.l6 (by omega)
  · exact A.l7 (by omega) (.inl (by assumption))
  · exact A.l7 (by omega) (.inr (by omega))
  · rw [A.at32 (by omega) (by assumption) hR]
    exact R8 (by omega) hn2 (by omega)
  · rw [A.at32 (by omega) (by assumption) hR]
    exact R9 (by omega) hn2 (by omega) (by omega)
  · rw [A.at32 (by omega) (by assumption) hR]
    exact R10 (by omega) hn2 (by omega) (by assumption)
  · rw [A.l11 (by omega) (by assumption) hR (by omega) (by omega) (by assumption) (by omega) hT, if_pos (by omega), partly2 (by assumption) (by omega) (fun _ => by omega)]
  · rw [A.l11 (by omega) (by assumption) hR (by omega) (by omega) (by assumption) (by omega) hT, if_pos (by omega), partly3a (by assumption)]
  · rw [A.l11 (by omega) (by assumption) hR (by omega) (by omega) (by assumption) (by omega) hT, if_pos (by omega), partly3b ((last_at (by omega)).2 (by assumption)) (by omega)]
  · rw [A.l11 (by omega) (by assumption) hR (by omega) (by omega) (by assumption) (by omega) hT, if_pos (by omega), partly2 (by assumption) (by omega) (fun _ => by omega)]
  · rw [A.l11 (by omega) (by assumption) hR (by omega) (by omega) (by assumption) (by omega) hT, if_pos (by omega), partly2 (by assumption) (by omega) (fun h => absurd ((last_at (by omega)).1 h) (by assumption))]
  · rw [A.l11 (by omega) (by assumption) hR (by omega) (by omega) (by assumption) (by omega) hT, if_pos (by omega), partly3a (by assumption)]
  all_goals have hBn : (T.take n).length = n := by simp; omega
  · rw [A.l11 (by omega) (by assumption) hR (by omega) (by omega) (by assumption) (by omega) hT, if_neg (by omega), if_neg (by assumption)]
  · rw [A.l11 (by omega) (by assumption) hR (by omega) (by omega) (by assumption) (by omega) hT, if_neg (by omega), if_pos (by assumption)]
    exact closed2 (by rw [hBn]; omega) (by rw [hBn]; assumption)
  · rw [A.l11 (by omega) (by assumption) hR (by omega) (by omega) (by assumption) (by omega) hT, if_neg (by omega), if_pos (by assumption)]
    exact closed3 (by rw [hBn]; exact fun h => absurd h.2 (by assumption)) (by rw [hBn]; intro h; have := h.1.length_le; omega)
  · rw [A.l11 (by omega) (by assumption) hR (by omega) (by omega) (by assumption) (by omega) hT, if_neg (by omega), if_pos (by assumption)]
    exact closed3 (by rw [hBn]; intro h; omega) (by rw [hBn]; exact fun h => absurd h.2.symm (by assumption))
  · rw [A.l11 (by omega) (by assumption) hR (by omega) (by omega) (by assumption) (by omega) hT, if_neg (by omega), if_pos (by assumption)]
    exact closed1 (by rw [hBn]; omega) (by rw [hBn]; assumption) (by symm; assumption)
  · rw [A.l11 (by omega) (by assumption) hR (by omega) (by omega) (by assumption) (by omega) hT, if_neg (by omega), if_pos (by assumption)]
    exact closed3 (by rw [hBn]; intro h; omega) (by rw [hBn]; exact fun h => absurd h.1 (by assumption))

theorem refRead_c (l : List UInt8) (st : List AObj) (hl : l.length < 4294967281) : ACall E 16 [Sv l] st fun r st' => r = .tu [Iv (readF l).1, Sv (readF l).2.1, Iv (readF l).2.2] ∧ st' = st := by
  by_cases hb : l.length ≤ 7 ∨ ¬ beginL <+: l
  · exact refRead1_c l st hl hb
  have h7 : 7 < l.length := by omega
  have hbp : beginL <+: l := Classical.not_not.1 fun h => hb (.inr h)
  obtain ⟨S, hS⟩ := hbp
  by_cases hn : ∃ n : Nat, 1 ≤ n ∧ n ≤ 50000 ∧ S.takeWhile isDig = Lib.itoa (n : Int)
  · obtain ⟨n, h1, h2, h3⟩ := hn
    exact refRead3_c l S _ _ _ _ n st hl h7 ⟨hS.symm, rfl, by rw [take_tw]; exact h3, h1, h2⟩ rfl rfl rfl
  · exact refRead2_c l S _ st hl h7 hS.symm rfl (fun n h1 h2 h3 => hn ⟨n, h1, h2, h3⟩)
end Go.Proofs.YtopmpdoigmenmaaGreatDoor
