/- Contracts and plain facts that the closing text leans on (part 6). No condition of their own beyond those that each states. -/
import Derived.Test.YtplagcbifecagaaGreatDoorK5
import Derived.Laws.StructEq
set_option maxRecDepth 100000
set_option linter.unusedVariables false
set_option linter.unusedSimpArgs false
set_option maxRecDepth 100000
set_option linter.unusedVariables false
namespace Go.Proofs.YtplagcbifecagaaGreatDoor
open Go Go.Av Go.RowKit Go.Proofs Go.Pl
def decP : List Bytes → List EditV → Option (List EditV)
  | [], acc => some acc
  | p :: r, acc => match begE (upto 10 p) with
    | none => none
    | some (k, n) => if (fldsOf (past 10 p)).2 = true ∧ acc.length ≠ 40 then decP r (acc ++ [⟨k, n, (fldsOf (past 10 p)).1⟩]) else none
def decF (text : Bytes) : Option (List EditV) := if 50000 < text.length then none else match decP (partsE text) [] with
  | none => none
  | some b => if eErr b = .no ∧ encF b = text then some b else none
def decA : Option (List EditV) → AV
  | none => .tu [editsA [], .ifc 31 (Iv 2)]
  | some b => .tu [editsA b, .v .nilIface]
theorem decA_pure (x : Option (List EditV)) : Pure (decA x) := by
  rcases x with _ | b
  · exact pure_tu2 (editsA_pure _) (pure_ifc (pure_v _))
  · exact pure_tu2 (editsA_pure _) (pure_v _)
theorem partsL_le (text : Bytes) : ∀ (ls : List LnV) (f : Nat), (∀ p ∈ partsL text ls f, p.length ≤ text.length) ∧ (partsL text ls f).length ≤ ls.length + 1
  | [], f => by simp [partsL]
  | l :: r, f => by
    unfold partsL
    split
    · obtain ⟨h1, h2⟩ := partsL_le text r l.at'
      refine ⟨fun p hp => ?_, by simp; omega⟩
      rcases List.mem_cons.1 hp with rfl | hp
      · simp; omega
      · exact h1 p hp
    · obtain ⟨h1, h2⟩ := partsL_le text r f
      exact ⟨h1, by simp; omega⟩
theorem begE_id {l : Bytes} {k n : Int} (h : begE l = some (k, n)) : -9223372036854775808 ≤ n ∧ n ≤ 9223372036854775807 := by
  have key : ∀ {j : Int} {n : Int}, tryB j l = some n → -9223372036854775808 ≤ n ∧ n ≤ 9223372036854775807 := fun {j n} h => by
    unfold tryB at h
    split at h
    · split at h
      · rename_i v hv
        cases h
        exact Lib.atoiAll_bounds hv
      · simp at h
    · simp at h
  unfold begE at h
  split at h
  · rename_i v hv; simp at h; rw [← h.2]; exact key hv
  · split at h
    · rename_i v hv; simp at h; rw [← h.2]; exact key hv
    · split at h
      · rename_i v hv; simp at h; rw [← h.2]; exact key hv
      · simp at h
theorem fldsOf_good (text : Bytes) : GF (fldsOf text).1 := by
  unfold fldsOf
  split
  · exact ⟨by simp, by simp⟩
  · split
    · exact ⟨by simp, by simp⟩
    · rename_i f r hr
      exact (recsF_good (parse_items _) f (by rw [hr]; simp)).1
theorem edB_of {k n : Int} {fs : List Fld} (h1 : -9223372036854775808 ≤ n) (h2 : n ≤ 9223372036854775807) (hg : GF fs) : EdB ⟨k, n, fs⟩ :=
  ⟨fun f hf => by have := (hg.2 f hf).1.2.1; omega, by have := hg.1; simp only; omega, h1, h2⟩
set_option maxHeartbeats 4000000 in
theorem decode_c (text : Bytes) (st : List AObj) (hl : text.length < 1000000) : ACall E 9 [Sv text] st fun r st' => r = decA (decF text) ∧ st' = st := by
  refine acall_pure (decA_pure _) (acall_of_awp Tryz.func9 rfl (Nat.le_of_ble_eq_true rfl) ?_)
  by_cases hbig : 50000 < text.length
  · have hd : decF text = none := if_pos hbig
    rw [hd]
    repeat' (first
      | apply awp_seq
      | apply awp_region
      | apply aops_nil
      | apply aops_move
      | apply aops_assign
      | (apply aops_cmpI; exact rfl; exact rfl; exact rfl)
      | (apply awp_cond_any; exact rfl; first | (apply cd_dt; (first | assumption | omega)) | (apply cd_df; (first | assumption | omega)) | (apply cd_nt; (first | exact rfl | assumption)) | (apply cd_nf; (first | exact rfl | assumption)) | (apply cd_n <;> intro h) | (apply cd_t; (first | exact rfl | assumption)) | (apply cd_f; (first | exact rfl | assumption)) | (apply cd_d <;> intro h) | (apply cd_s <;> intro h))
      | (apply aops_lenS; exact rfl; exact rfl; exact rfl)
      | (apply aops_makeInterface; exact rfl; exact rfl)
      | apply awp_ret)
    exact aret_plain rfl (ares_weak (ares_two rfl) (weak_tu2 (weak_nilSl 3) (weak_refl (.ifc 31 (Iv 2))))) ⟨rfl, _, rfl⟩
  have hdf : decF text = match decP (partsE text) [] with
    | none => none
    | some b => if eErr b = .no ∧ encF b = text then some b else none := if_neg hbig
  rw [List.append_nil]
  have hpl := (partsL_le text (lns text) 0).1
  have hpn := (partsL_le text (lns text) 0).2
  have hln := lns_count _ text 0 0 (Nat.le_refl _)
  have hpe : partsL text (lns text) 0 = partsE text := rfl
  have hle : (lns text).length ≤ text.length := hln
  rw [hpe] at hpl hpn
  have hml : ((partsE text).map fun x => Sv x).length = (partsE text).length := by simp
  repeat' (first
    | apply awp_seq
    | apply awp_block
    | apply awp_region
    | apply aops_nil
    | apply aops_move
    | apply aops_assign
    | (apply aops_cmpI; exact rfl; exact rfl; exact rfl)
    | (apply awp_cond_any; exact rfl; first | (apply cd_dt; (first | assumption | omega)) | (apply cd_df; (first | assumption | omega)) | (apply cd_nt; (first | exact rfl | assumption)) | (apply cd_nf; (first | exact rfl | assumption)) | (apply cd_n <;> intro h) | (apply cd_t; (first | exact rfl | assumption)) | (apply cd_f; (first | exact rfl | assumption)) | (apply cd_d <;> intro h) | (apply cd_s <;> intro h))
    | (apply aops_lenS; exact rfl; exact rfl; exact rfl)
    | (apply aops_lenL; exact rfl; exact rfl; exact rfl; exact rfl)
    | apply awp_skip
    | (apply aops_call1; exact Tryz.call30; exact parts_c _ _ hl))
  refine awp_loopL (partsE text) (fun pre s => ∃ acc c S, OutI st S ∧ TipO st.length S 3 45 (acc.map editA) c ∧ acc.length ≤ pre.length ∧ (∀ x ∈ acc, EdB x) ∧ (∀ rest, partsE text = pre ++ rest → decP (partsE text) [] = decP rest acc) ∧ StA [(0, Sv text), (4, c), (21, Ss (partsE text)), (22, Iv (partsE text).length), (23, Iv pre.length)] S [] s) ⟨[], _, st, ⟨fun _ _ => rfl, Nat.le_refl _⟩, tipO_nil .., by simp, by simp, fun rest h => by rw [h]; rfl, stA_mk ⟨rfl, rfl, rfl, congrArg (fun n : Nat => Iv (n : Int)) hml, rfl, trivial⟩⟩ ?_ ?_
  · rintro _ ⟨acc, c, S, hO, hT, hal, hB, hrun, t, rfl⟩
    have hrun := hrun [] (by simp)
    have hrun2 : decP (partsE text) [] = some acc := hrun
    rw [hrun2] at hdf
    simp only at hdf
    cases he : eErr acc with
    | no =>
      by_cases ht : encF acc = text
      · rw [if_pos ⟨he, ht⟩] at hdf
        rw [hdf]
        have hnn : ¬ encF acc ≠ text := fun h => h ht
        repeat' (first
          | apply awp_seq
          | apply awp_region
          | apply aops_nil
          | apply aops_move
          | apply aops_assign
          | (apply aops_extract; exact rfl; exact rfl)
          | (apply aops_cmpI; exact rfl; exact rfl; exact rfl)
          | (apply aops_cmpS; exact rfl; exact rfl; exact rfl)
          | (apply aops_guard_any; exact rfl; exact rfl; exact rfl; exact rfl)
          | (apply gd_run_f; (first | exact rfl | assumption))
          | (apply aops_pick_any; exact rfl; first | (apply pk_dt; (first | assumption | omega)) | (apply pk_df; (first | assumption | omega)) | (apply pk_nt; (first | exact rfl | assumption)) | (apply pk_nf; (first | exact rfl | assumption)) | (apply pk_t; (first | exact rfl | assumption)) | (apply pk_f; (first | exact rfl | assumption)))
          | (apply awp_cond_any; exact rfl; first | (apply cd_dt; (first | assumption | omega)) | (apply cd_df; (first | assumption | omega)) | (apply cd_nt; (first | exact rfl | assumption)) | (apply cd_nf; (first | exact rfl | assumption)) | (apply cd_n <;> intro h) | (apply cd_t; (first | exact rfl | assumption)) | (apply cd_f; (first | exact rfl | assumption)) | (apply cd_d <;> intro h) | (apply cd_s <;> intro h))
          | (apply aops_nilNeNil; exact rfl; exact rfl)
          | apply awp_skip
          | apply awp_exit
          | apply awp_ret
          | (apply aops_weak 63 rfl (rel_tipO hT); apply aops_call1; exact Tryz.call13; exact encode0_c _ _ hB he))
        exact aret_plain rfl (ares_weak (ares_two rfl) (weak_tu2 (rel_tipO hT) (weak_refl (.v .nilIface)))) ⟨rfl, hO.ext⟩
      · rw [if_neg fun h => ht h.2] at hdf
        rw [hdf]
        repeat' (first
          | apply awp_seq
          | apply awp_region
          | apply aops_nil
          | apply aops_move
          | apply aops_assign
          | (apply aops_extract; exact rfl; exact rfl)
          | (apply aops_cmpI; exact rfl; exact rfl; exact rfl)
          | (apply aops_cmpS; exact rfl; exact rfl; exact rfl)
          | (apply aops_guard_any; exact rfl; exact rfl; exact rfl; exact rfl)
          | (apply gd_run_f; (first | exact rfl | assumption))
          | (apply aops_pick_any; exact rfl; first | (apply pk_dt; (first | assumption | omega)) | (apply pk_df; (first | assumption | omega)) | (apply pk_nt; (first | exact rfl | assumption)) | (apply pk_nf; (first | exact rfl | assumption)) | (apply pk_t; (first | exact rfl | assumption)) | (apply pk_f; (first | exact rfl | assumption)))
          | (apply awp_cond_any; exact rfl; first | (apply cd_dt; (first | assumption | omega)) | (apply cd_df; (first | assumption | omega)) | (apply cd_nt; (first | exact rfl | assumption)) | (apply cd_nf; (first | exact rfl | assumption)) | (apply cd_n <;> intro h) | (apply cd_t; (first | exact rfl | assumption)) | (apply cd_f; (first | exact rfl | assumption)) | (apply cd_d <;> intro h) | (apply cd_s <;> intro h))
          | (apply aops_nilNeNil; exact rfl; exact rfl)
          | (apply aops_makeInterface; exact rfl; exact rfl)
          | apply awp_exit
          | apply awp_ret
          | (apply aops_weak 63 rfl (rel_tipO hT); apply aops_call1; exact Tryz.call13; exact encode0_c _ _ hB he))
        exact aret_plain rfl (ares_weak (ares_two rfl) (weak_tu2 (weak_nilSl 3) (weak_refl (.ifc 31 (Iv 2))))) ⟨rfl, hO.ext⟩
    | num n =>
      have h0 : (ErrV.num n).code ≠ 0 := fun h => by
        have := (eErr_code acc).1 (by rw [he]; exact h)
        rw [he] at this
        simp at this
      rw [if_neg fun h => by rw [he] at h; simp at h] at hdf
      rw [hdf]
      repeat' (first
        | apply awp_seq
        | apply awp_region
        | apply aops_nil
        | apply aops_move
        | apply aops_assign
        | (apply aops_extract; exact rfl; exact rfl)
        | (apply aops_cmpI; exact rfl; exact rfl; exact rfl)
        | (apply aops_guard_any; exact rfl; exact rfl; exact rfl; exact rfl)
        | (apply gd_skip_t; (first | exact rfl | assumption))
        | (apply aops_pick_any; exact rfl; first | (apply pk_dt; (first | assumption | omega)) | (apply pk_df; (first | assumption | omega)) | (apply pk_nt; (first | exact rfl | assumption)) | (apply pk_nf; (first | exact rfl | assumption)) | (apply pk_t; (first | exact rfl | assumption)) | (apply pk_f; (first | exact rfl | assumption)))
        | (apply awp_cond_any; exact rfl; first | (apply cd_dt; (first | assumption | omega)) | (apply cd_df; (first | assumption | omega)) | (apply cd_nt; (first | exact rfl | assumption)) | (apply cd_nf; (first | exact rfl | assumption)) | (apply cd_n <;> intro h) | (apply cd_t; (first | exact rfl | assumption)) | (apply cd_f; (first | exact rfl | assumption)) | (apply cd_d <;> intro h) | (apply cd_s <;> intro h))
        | (apply aops_errNeNil; exact rfl; exact rfl)
        | (apply aops_makeInterface; exact rfl; exact rfl)
        | apply awp_exit
        | apply awp_ret
        | (apply aops_weak 63 rfl (rel_tipO hT); apply aops_call1; exact Tryz.call13; exact encode1_c _ _ (.num n) hB (by omega) he h0))
      exact aret_plain rfl (ares_weak (ares_two rfl) (weak_tu2 (weak_nilSl 3) (weak_refl (.ifc 31 (Iv 2))))) ⟨rfl, hO.ext⟩
    | at' a n =>
      have h0 : (ErrV.at' a n).code ≠ 0 := fun h => by
        have := (eErr_code acc).1 (by rw [he]; exact h)
        rw [he] at this
        simp at this
      rw [if_neg fun h => by rw [he] at h; simp at h] at hdf
      rw [hdf]
      repeat' (first
        | apply awp_seq
        | apply awp_region
        | apply aops_nil
        | apply aops_move
        | apply aops_assign
        | (apply aops_extract; exact rfl; exact rfl)
        | (apply aops_cmpI; exact rfl; exact rfl; exact rfl)
        | (apply aops_guard_any; exact rfl; exact rfl; exact rfl; exact rfl)
        | (apply gd_skip_t; (first | exact rfl | assumption))
        | (apply aops_pick_any; exact rfl; first | (apply pk_dt; (first | assumption | omega)) | (apply pk_df; (first | assumption | omega)) | (apply pk_nt; (first | exact rfl | assumption)) | (apply pk_nf; (first | exact rfl | assumption)) | (apply pk_t; (first | exact rfl | assumption)) | (apply pk_f; (first | exact rfl | assumption)))
        | (apply awp_cond_any; exact rfl; first | (apply cd_dt; (first | assumption | omega)) | (apply cd_df; (first | assumption | omega)) | (apply cd_nt; (first | exact rfl | assumption)) | (apply cd_nf; (first | exact rfl | assumption)) | (apply cd_n <;> intro h) | (apply cd_t; (first | exact rfl | assumption)) | (apply cd_f; (first | exact rfl | assumption)) | (apply cd_d <;> intro h) | (apply cd_s <;> intro h))
        | (apply aops_errNeNil; exact rfl; exact rfl)
        | (apply aops_makeInterface; exact rfl; exact rfl)
        | apply awp_exit
        | apply awp_ret
        | (apply aops_weak 63 rfl (rel_tipO hT); apply aops_call1; exact Tryz.call13; exact encode1_c _ _ (.at' a n) hB (by omega) he h0))
      exact aret_plain rfl (ares_weak (ares_two rfl) (weak_tu2 (weak_nilSl 3) (weak_refl (.ifc 31 (Iv 2))))) ⟨rfl, hO.ext⟩
  · rintro pre p rest _ hr ⟨acc, c, S, hO, hT, hal, hB, hrun, t, rfl⟩
    have hlen : (partsE text).length = pre.length + (rest.length + 1) := by rw [hr]; simp
    have hget : ((partsE text).map fun x => Sv x)[pre.length]? = some (Sv p) := by rw [hr]; simp
    have hpp := hpl p (by rw [hr]; simp)
    have hul := upto_length_le 10 p
    have hpal := past_length 10 p
    have hrun1 := hrun (p :: rest) hr
    have hSl := hO.len
    have hma : (acc.map editA).length = acc.length := by simp
    have hgf := fldsOf_good (past 10 p)
    cases hbe : begE (upto 10 p) with
    | none =>
      have hno : decP (partsE text) [] = none := by rw [hrun1]; simp only [decP, hbe]
      rw [hno] at hdf
      simp only at hdf
      rw [hdf]
      have hbc := fun st => begun_c (upto 10 p) st (by omega)
      rw [hbe] at hbc
      repeat' (first
        | apply awp_seq
        | apply awp_block
        | apply awp_region
        | apply aops_nil
        | apply aops_move
        | apply aops_assign
        | (apply aops_extract; exact rfl; exact rfl)
        | (apply aops_cmpI; exact rfl; exact rfl; exact rfl)
        | (apply aops_not; exact rfl)
        | (apply aops_guard_any; exact rfl; exact rfl; exact rfl; exact rfl)
        | (apply gd_skip_nt; (first | exact rfl | assumption))
        | (apply gd_skip_t; (first | exact rfl | assumption))
        | (apply aops_pick_any; exact rfl; first | (apply pk_dt; (first | assumption | omega)) | (apply pk_df; (first | assumption | omega)) | (apply pk_nt; (first | exact rfl | assumption)) | (apply pk_nf; (first | exact rfl | assumption)) | (apply pk_t; (first | exact rfl | assumption)) | (apply pk_f; (first | exact rfl | assumption)))
        | (apply awp_cond_any; exact rfl; first | (apply cd_dt; (first | assumption | omega)) | (apply cd_df; (first | assumption | omega)) | (apply cd_nt; (first | exact rfl | assumption)) | (apply cd_nf; (first | exact rfl | assumption)) | (apply cd_n <;> intro h) | (apply cd_t; (first | exact rfl | assumption)) | (apply cd_f; (first | exact rfl | assumption)) | (apply cd_d <;> intro h) | (apply cd_s <;> intro h))
        | (apply aops_makeInterface; exact rfl; exact rfl)
        | (apply aops_load_pp; exact rfl; exact rfl; exact rfl)
        | apply awp_skip
        | apply awp_ret
        | (apply aops_call1; exact Tryz.call31; exact cut1_c _ _ _ (by omega))
        | (apply aops_call1; exact Tryz.call32; exact hbc _)
        | (apply aops_call1; exact Tryz.call33; exact fields_c _ _ (by omega))
        | (apply aops_allocW (st := S); exact rfl; exact rfl)
        | (apply aops_store_at; exact rfl; exact rfl; (focus first | assumption | (repeat' (first | assumption | exact get_end | exact get_loc rfl | apply get_set | apply get_set_ne | omega | apply get_pre'))); exact rfl; exact rfl; exact rfl; exact rfl; exact rfl; exact rfl)
        | (apply aops_indexAddr (n := pre.length); exact rfl; exact rfl; exact rfl; exact rfl; exact rfl; exact hget))
      exact aret_plain rfl (ares_weak (ares_two rfl) (weak_tu2 (weak_nilSl 3) (weak_refl (.ifc 31 (Iv 2))))) ⟨rfl, (hO.pre.set hSl).ext⟩
    | some kn =>
      obtain ⟨k, n⟩ := kn
      have hid := begE_id hbe
      have hbc := fun st => begun_c (upto 10 p) st (by omega)
      rw [hbe] at hbc
      have hfc := fun st => fields_c (past 10 p) st (by omega)
      obtain ⟨fs, hfs⟩ : ∃ x, x = (fldsOf (past 10 p)).1 := ⟨_, rfl⟩
      rw [← hfs] at hfc hgf
      have hstep : decP (p :: rest) acc = if (fldsOf (past 10 p)).2 = true ∧ acc.length ≠ 40 then decP rest (acc ++ [⟨k, n, fs⟩]) else none := by simp only [decP, hbe, hfs]
      cases hok : (fldsOf (past 10 p)).2 with
      | false =>
        rw [hok] at hfc hstep
        rw [hstep, if_neg (by simp)] at hrun1
        rw [hrun1] at hdf
        simp only at hdf
        rw [hdf]
        repeat' (first
          | apply awp_seq
          | apply awp_block
          | apply awp_region
          | apply aops_nil
          | apply aops_move
          | apply aops_assign
          | (apply aops_extract; exact rfl; exact rfl)
          | (apply aops_cmpI; exact rfl; exact rfl; exact rfl)
          | (apply aops_not; exact rfl)
          | (apply aops_guard_any; exact rfl; exact rfl; exact rfl; exact rfl)
          | (apply gd_run_nf; (first | exact rfl | assumption))
          | (apply gd_skip_nt; (first | exact rfl | assumption))
          | (apply aops_pick_any; exact rfl; first | (apply pk_dt; (first | assumption | omega)) | (apply pk_df; (first | assumption | omega)) | (apply pk_nt; (first | exact rfl | assumption)) | (apply pk_nf; (first | exact rfl | assumption)) | (apply pk_t; (first | exact rfl | assumption)) | (apply pk_f; (first | exact rfl | assumption)))
          | (apply awp_cond_any; exact rfl; first | (apply cd_dt; (first | assumption | omega)) | (apply cd_df; (first | assumption | omega)) | (apply cd_nt; (first | exact rfl | assumption)) | (apply cd_nf; (first | exact rfl | assumption)) | (apply cd_n <;> intro h) | (apply cd_t; (first | exact rfl | assumption)) | (apply cd_f; (first | exact rfl | assumption)) | (apply cd_d <;> intro h) | (apply cd_s <;> intro h))
          | (apply aops_makeInterface; exact rfl; exact rfl)
          | (apply aops_load_pp; exact rfl; exact rfl; exact rfl)
          | apply awp_skip
          | apply awp_ret
          | (apply aops_call1; exact Tryz.call31; exact cut1_c _ _ _ (by omega))
          | (apply aops_call1; exact Tryz.call32; exact hbc _)
          | (apply aops_call1; exact Tryz.call33; exact hfc _)
          | (apply aops_allocW (st := S); exact rfl; exact rfl)
          | (apply aops_store_at; exact rfl; exact rfl; (focus first | assumption | (repeat' (first | assumption | exact get_end | exact get_loc rfl | apply get_set | apply get_set_ne | omega | apply get_pre'))); exact rfl; exact rfl; exact rfl; exact rfl; exact rfl; exact rfl)
          | (apply aops_indexAddr (n := pre.length); exact rfl; exact rfl; exact rfl; exact rfl; exact rfl; exact hget))
        exact aret_plain rfl (ares_weak (ares_two rfl) (weak_tu2 (weak_nilSl 3) (weak_refl (.ifc 31 (Iv 2))))) ⟨rfl, (hO.pre.set hSl).ext⟩
      | true =>
        rw [hok] at hfc hstep
        by_cases h40 : acc.length = 40
        · rw [hstep, if_neg (by simp [h40])] at hrun1
          rw [hrun1] at hdf
          simp only at hdf
          rw [hdf]
          repeat' (first
            | apply awp_seq
            | apply awp_block
            | apply awp_region
            | apply aops_nil
            | apply aops_move
            | apply aops_assign
            | (apply aops_extract; exact rfl; exact rfl)
            | (apply aops_cmpI; exact rfl; exact rfl; exact rfl)
            | (apply aops_not; exact rfl)
            | (apply aops_guard_any; exact rfl; exact rfl; exact rfl; exact rfl)
            | (apply gd_run_nf; (first | exact rfl | assumption))
            | (apply aops_pick_any; exact rfl; first | (apply pk_dt; (first | assumption | omega)) | (apply pk_df; (first | assumption | omega)) | (apply pk_nt; (first | exact rfl | assumption)) | (apply pk_nf; (first | exact rfl | assumption)) | (apply pk_t; (first | exact rfl | assumption)) | (apply pk_f; (first | exact rfl | assumption)))
            | (apply awp_cond_any; exact rfl; first | (apply cd_dt; (first | assumption | omega)) | (apply cd_df; (first | assumption | omega)) | (apply cd_nt; (first | exact rfl | assumption)) | (apply cd_nf; (first | exact rfl | assumption)) | (apply cd_n <;> intro h) | (apply cd_t; (first | exact rfl | assumption)) | (apply cd_f; (first | exact rfl | assumption)) | (apply cd_d <;> intro h) | (apply cd_s <;> intro h))
            | (apply aops_makeInterface; exact rfl; exact rfl)
            | (apply aops_load_pp; exact rfl; exact rfl; exact rfl)
            | apply awp_skip
            | apply awp_ret
            | (apply aops_call1; exact Tryz.call31; exact cut1_c _ _ _ (by omega))
            | (apply aops_call1; exact Tryz.call32; exact hbc _)
            | (apply aops_call1; exact Tryz.call33; exact hfc _)
            | (apply aops_allocW (st := S); exact rfl; exact rfl)
            | (apply aops_store_at; exact rfl; exact rfl; (focus first | assumption | (repeat' (first | assumption | exact get_end | exact get_loc rfl | apply get_set | apply get_set_ne | omega | apply get_pre'))); exact rfl; exact rfl; exact rfl; exact rfl; exact rfl; exact rfl)
            | (apply aops_indexAddr (n := pre.length); exact rfl; exact rfl; exact rfl; exact rfl; exact rfl; exact hget)
            | (apply aops_lenL; exact rfl; exact tipO_len hT; exact rfl; exact rfl))
          exact aret_plain rfl (ares_weak (ares_two rfl) (weak_tu2 (weak_nilSl 3) (weak_refl (.ifc 31 (Iv 2))))) ⟨rfl, (hO.pre.set hSl).ext⟩
        · rw [hstep, if_pos ⟨rfl, h40⟩] at hrun1
          have hO1 : OutI st (((S ++ [AObj.cells 0 45 [Iv 0, Iv 0, nilSl]]).set S.length (.cells 0 45 [Iv k, Iv n, fldsA []])).set S.length (.cells 0 45 [Iv k, Iv n, fldsA fs])) := (hO.pre.set hSl).set hSl
          have hT1 : TipO st.length (((S ++ [AObj.cells 0 45 [Iv 0, Iv 0, nilSl]]).set S.length (.cells 0 45 [Iv k, Iv n, fldsA []])).set S.length (.cells 0 45 [Iv k, Iv n, fldsA fs])) 3 45 (acc.map editA) c := tipO_setc (tipO_setc (tipO_pre hT) (notTip_cells get_end)) (notTip_cells (get_set get_end))
          repeat' (first
            | apply awp_seq
            | apply awp_block
            | apply awp_region
            | apply aops_nil
            | apply aops_move
            | apply aops_assign
            | (apply aops_extract; exact rfl; exact rfl)
            | (apply aops_cmpI; exact rfl; exact rfl; exact rfl)
            | (apply aops_not; exact rfl)
            | (apply aops_guard_any; exact rfl; exact rfl; exact rfl; exact rfl)
            | (apply gd_run_nf; (first | exact rfl | assumption))
            | (apply aops_pick_any; exact rfl; first | (apply pk_dt; (first | assumption | omega)) | (apply pk_df; (first | assumption | omega)) | (apply pk_nt; (first | exact rfl | assumption)) | (apply pk_nf; (first | exact rfl | assumption)) | (apply pk_t; (first | exact rfl | assumption)) | (apply pk_f; (first | exact rfl | assumption)))
            | (apply awp_cond_any; exact rfl; first | (apply cd_dt; (first | assumption | omega)) | (apply cd_df; (first | assumption | omega)) | (apply cd_nt; (first | exact rfl | assumption)) | (apply cd_nf; (first | exact rfl | assumption)) | (apply cd_n <;> intro h) | (apply cd_t; (first | exact rfl | assumption)) | (apply cd_f; (first | exact rfl | assumption)) | (apply cd_d <;> intro h) | (apply cd_s <;> intro h))
            | (apply aops_add; exact rfl; exact rfl; exact wrap_i64 (by omega) (by omega))
            | (apply aops_fieldAddr_bx; exact rfl; exact rfl; exact rfl)
            | (apply aops_load_pp; exact rfl; exact rfl; exact rfl)
            | (apply aops_buildSlice; exact rfl; exact rfl; exact rfl; exact rfl; exact rfl; exact rfl; exact rfl; exact rfl; exact rfl)
            | apply awp_skip
            | (apply aops_call1; exact Tryz.call31; exact cut1_c _ _ _ (by omega))
            | (apply aops_call1; exact Tryz.call32; exact hbc _)
            | (apply aops_call1; exact Tryz.call33; exact hfc _)
            | (apply aops_allocW (st := S); exact rfl; exact rfl)
            | (apply aops_load_bx; exact rfl; (focus first | assumption | (repeat' (first | assumption | exact get_end | exact get_loc rfl | apply get_set | apply get_set_ne | omega | apply get_pre'))); exact rfl; exact rfl)
            | (apply aops_store_at; exact rfl; exact rfl; (focus first | assumption | (repeat' (first | assumption | exact get_end | exact get_loc rfl | apply get_set | apply get_set_ne | omega | apply get_pre'))); exact rfl; exact rfl; exact rfl; exact rfl; exact rfl; exact rfl)
            | (apply aops_indexAddr (n := pre.length); exact rfl; exact rfl; exact rfl; exact rfl; exact rfl; exact hget)
            | (apply aops_lenL; exact rfl; exact tipO_len hT; exact rfl; exact rfl)
            | (apply aops_appendO (b := st.length) (xs := acc.map editA) (ys := [editA ⟨k, n, fs⟩]) (bytes := 40);  exact rfl; exact rfl; exact rfl; exact rfl; exact rfl; exact ⟨⟨_, _, rfl, rfl, rfl, rfl, rfl⟩⟩; exact hT1; (exact hO1.len); (first | exact rfl | exact allOne_map fun _ => rfl); ((simp [maxLen]; omega)); ((simp; omega)); intro c' S2 t1 g1 g2 g3 g4))
          refine ⟨acc ++ [⟨k, n, fs⟩], c', S2, hO1.fr g2 g3, by rw [map_snoc]; exact g1, by simp; omega, fun x hx => ?_, fun rest2 hr2 => ?_, stA_mk ⟨rfl, rfl, rfl, rfl, iv_snoc pre p, trivial⟩⟩
          · rcases List.mem_append.1 hx with hx | hx
            · exact hB x hx
            · simp at hx; subst hx; exact edB_of hid.1 hid.2 hgf
          · have : rest2 = rest := by
              rw [hr, List.append_assoc] at hr2
              simpa using (List.append_cancel_left hr2).symm
            rw [this, hrun1]
end Go.Proofs.YtplagcbifecagaaGreatDoor
set_option maxRecDepth 100000
set_option linter.unusedVariables false
namespace Go.Proofs.YtplagcbifecagaaGreatDoor
open Go Go.Av Go.RowKit Go.Proofs Go.Pl
theorem env_okB : EnvOk E := fun _ _ _ h hb hB _ h2 => h _ (hb.trans (h2.mono hB))
theorem take_next {α : Type} [DecidableEq α] {a b : List α} {k : Nat} {d : α} (hl : a.length = b.length) (hk : k < a.length) (h : a.take k = b.take k) (h2 : a.getD k d = b.getD k d) : a.take (k + 1) = b.take (k + 1) := by
  rw [List.take_succ_eq_append_getElem hk, List.take_succ_eq_append_getElem (by omega), h]
  congr 2
  simpa [List.getD, hk, show k < b.length by omega] using h2
end Go.Proofs.YtplagcbifecagaaGreatDoor
set_option maxRecDepth 100000
set_option linter.unusedVariables false
namespace Go.Pl
open Go Go.Proofs Go.Proofs.YtplagcbifecagaaGreatDoor
theorem textF_cons (s : Bytes) (r : List Bytes) : textF (s :: r) = s ++ 10 :: textF r := by simp [textF]
theorem linesOf_text : ∀ (ls : List Bytes), (∀ s ∈ ls, 10 ∉ s) → linesOf (textF ls) = ls.map fun s => (s, true)
  | [], _ => by simp [textF, linesOf_nil]
  | s :: r, h => by
    have hs := h s (by simp)
    rw [textF_cons, linesOf_cons (by simp), upto_app _ hs, past_app _ hs, linesOf_text r fun x hx => h x (by simp [hx])]
    simp
theorem linesF_no10 {f : Fld} (h : goodFld f) : ∀ s ∈ linesF f, 10 ∉ s := fun s hs => by
  unfold linesF at hs
  rcases List.mem_cons.1 hs with rfl | hs
  · have h1 := parts_no10 f.2 _ (head_mem f.2)
    have h2 := h.1.2.2.2.2.2
    unfold headLine
    split <;> simp_all
  · obtain ⟨x, hx, rfl⟩ := List.mem_map.1 hs
    have h1 := parts_no10 f.2 x (List.mem_of_mem_tail hx)
    have := stuff_no10 h1
    simp [this]
theorem linesF_kinds {f : Fld} (h : goodFld f) : ∃ hd mr, linesF f = hd :: mr ∧ kindOf hd = 4 ∧ ∀ s ∈ mr, kindOf s = 3 := by
  refine ⟨_, _, rfl, kind_head h.1 (parts_no10 f.2 _ (head_mem f.2)), fun s hs => ?_⟩
  obtain ⟨x, hx, rfl⟩ := List.mem_map.1 hs
  exact kind_more x (parts_no10 f.2 x (List.mem_of_mem_tail hx))
theorem take_more {p : PSt} {k : Int} {t : Bytes} (ht : kindOf t = 3) (hl : p.lines ≠ []) : takeP p k t true = (none, { p with lines := p.lines ++ [t], block := p.block ++ [t] }) := by
  have ha : aheadP p k t true (kindOf t) = (none, { p with lines := p.lines ++ [t] }) := by
    unfold aheadP
    rw [if_pos ht, if_neg hl, if_pos rfl]
  unfold takeP
  rw [ha, ht]
  simp
theorem take_head {p q : PSt} {k : Int} {t : Bytes} (ht : kindOf t = 4) (hf : flushP p = (none, q)) : takeP p k t true = (none, { beginP q k t with block := q.block ++ [t] }) := by
  have ha : aheadP p k t true (kindOf t) = (none, q) := by
    unfold aheadP
    rw [if_neg (by omega), if_neg (by omega)]
    exact hf
  unfold takeP
  rw [ha, ht]
  simp
theorem run_more : ∀ (m : List Bytes) (k : Nat) (p : PSt) (ls : List (Bytes × Bool)), (∀ s ∈ m, kindOf s = 3) → p.lines ≠ [] →
    runL k (m.map (fun s => (s, true)) ++ ls) p = runL (k + m.length) ls { p with lines := p.lines ++ m, block := p.block ++ m }
  | [], k, p, ls, _, _ => by simp
  | s :: m, k, p, ls, h, hl => by
    have hs := h s (by simp)
    rw [List.map_cons, List.cons_append, runL, take_more hs hl]
    simp only
    rw [run_more m (k + 1) _ ls (fun x hx => h x (by simp [hx])) (by simp)]
    simp only [List.append_assoc, List.cons_append, List.nil_append, List.length_cons]
    congr 1
    omega
theorem flush_good {g : Fld} (hg : goodFld g) (frm : Int) (its : List ItemV) (blk : List Bytes) (done : List Fld) (rc : Int) : flushP ⟨linesF g, frm, false, its, blk, done, rc⟩ = (none, ⟨[], frm, false, its, blk, done ++ [g], rc⟩) := by
  have hu := linesF_unfold hg
  unfold flushP
  rw [if_neg (by simp [linesF]), hu]
  simp
theorem run_flds : ∀ (r : List Fld) (done : List Fld) (g : Fld) (k : Nat) (frm : Int) (blk : List Bytes), goodFld g → (∀ f ∈ r, goodFld f) → done.length + 1 + r.length ≤ 40 → blk ≠ [] →
    (runL k ((r.flatMap linesF).map fun s => (s, true)) ⟨linesF g, frm, false, [], blk, done, 0⟩).1 = none ∧ (runL k ((r.flatMap linesF).map fun s => (s, true)) ⟨linesF g, frm, false, [], blk, done, 0⟩).2.items = [⟨3, textF (blk ++ r.flatMap linesF), done ++ g :: r⟩]
  | [], done, g, k, frm, blk, hg, _, _, hb => by
    have he : endP ⟨linesF g, frm, false, [], blk, done, 0⟩ = (none, closeP ⟨[], frm, false, [], blk, done ++ [g], 0⟩) := by
      unfold endP
      rw [flush_good hg]
    simp only [List.flatMap_nil, List.map_nil, runL, he, List.append_nil]
    refine ⟨trivial, ?_⟩
    unfold closeP
    rw [if_neg hb]
    simp
  | f :: r, done, g, k, frm, blk, hg, hr, hl, hb => by
    have hf := hr f (by simp)
    obtain ⟨hd, mr, hlf, hk4, hk3⟩ := linesF_kinds hf
    simp only [List.length_cons] at hl
    have hrun : runL k (((f :: r).flatMap linesF).map fun s => (s, true)) ⟨linesF g, frm, false, [], blk, done, 0⟩ = runL (k + 1 + mr.length) ((r.flatMap linesF).map fun s => (s, true)) ⟨linesF f, k, false, [], blk ++ linesF f, done ++ [g], 0⟩ := by
      rw [List.flatMap_cons, List.map_append, hlf, List.map_cons, List.cons_append, runL, take_head hk4 (flush_good hg frm [] blk done 0)]
      simp only
      rw [run_more mr (k + 1) _ _ hk3 (by simp [beginP])]
      have hfu : decide ((done ++ [g]).length = 40 ∨ ((done ++ [g]).length = 0 ∧ (0 : Int) = 400)) = false := by
        simp
        omega
      simp only [beginP, hfu, List.append_assoc, List.cons_append, List.nil_append]
    rw [hrun]
    have ih := run_flds r (done ++ [g]) f (k + 1 + mr.length) k (blk ++ linesF f) hf (fun x hx => hr x (by simp [hx])) (by simp; omega) (by simp [hb])
    rw [ih.1, ih.2]
    simp [List.flatMap_cons]
theorem foldF_text (fs : List Fld) : foldF fs = textF (fs.flatMap linesF) := by
  induction fs with
  | nil => rfl
  | cons f r ih =>
    rw [List.flatMap_cons, textF_app, ← ih]
    simp [foldF]
theorem flds_no10 {fs : List Fld} (h : ∀ f ∈ fs, goodFld f) : ∀ s ∈ fs.flatMap linesF, 10 ∉ s := fun s hs => by
  obtain ⟨f, hf, hs⟩ := List.mem_flatMap.1 hs
  exact linesF_no10 (h f hf) s hs
theorem parse_fold {fs : List Fld} (hg : GF fs) (hne : fs ≠ []) : parseF (foldF fs) = (none, [⟨3, foldF fs, fs⟩]) := by
  have hl := linesOf_text _ (flds_no10 hg.2)
  rw [← foldF_text] at hl
  cases fs with
  | nil => exact absurd rfl hne
  | cons f r =>
    have hf := hg.2 f (by simp)
    obtain ⟨hd, mr, hlf, hk4, hk3⟩ := linesF_kinds hf
    have hlen := hg.1
    simp only [List.length_cons] at hlen
    have hrun : runL 0 (((f :: r).flatMap linesF).map fun s => (s, true)) p0 = runL (0 + 1 + mr.length) ((r.flatMap linesF).map fun s => (s, true)) ⟨linesF f, (0 : Nat), false, [], linesF f, [], 0⟩ := by
      have hfl : flushP p0 = (none, p0) := rfl
      rw [List.flatMap_cons, List.map_append, hlf, List.map_cons, List.cons_append, runL, take_head hk4 hfl]
      simp only
      rw [run_more mr (0 + 1) _ _ hk3 (by simp [beginP])]
      simp [beginP, p0]
    have ih := run_flds r [] f (0 + 1 + mr.length) (0 : Nat) (linesF f) hf (fun x hx => hg.2 x (by simp [hx])) (by simp; omega) (by simp [linesF])
    unfold parseF
    rw [hl, hrun, ih.1]
    simp only
    rw [ih.2]
    rw [foldF_text, List.flatMap_cons, List.nil_append]
theorem parse_nil : parseF [] = (none, []) := by
  unfold parseF
  rw [linesOf_nil]
  rfl
theorem indent_text {ls : List Bytes} (h : ∀ s ∈ ls, 10 ∉ s) : indentF [32, 32] (textF ls) = textF (ls.map fun s => [32, 32] ++ s) := by
  unfold indentF indF
  rw [linesOf_text ls h]
  simp only [textF, List.flatMap_map, lineEnd, if_pos]
theorem ind_no10 {ls : List Bytes} (h : ∀ s ∈ ls, 10 ∉ s) : ∀ s ∈ ls.map (fun s => [32, 32] ++ s), 10 ∉ s := fun s hs => by
  obtain ⟨x, hx, rfl⟩ := List.mem_map.1 hs
  have := h x hx
  simp [this]
theorem dedent_indent {ls : List Bytes} (h : ∀ s ∈ ls, 10 ∉ s) : dedentOf [32, 32] (indentF [32, 32] (textF ls)) = (textF ls, true) := by
  rw [indent_text h]
  unfold dedentOf
  rw [linesOf_text _ (ind_no10 h), if_pos]
  · simp [textF, List.flatMap_map, lineEnd]
  · intro x hx
    obtain ⟨s, hs, rfl⟩ := List.mem_map.1 hx
    obtain ⟨y, _, rfl⟩ := List.mem_map.1 hs
    exact List.prefix_append _ _
theorem fldsOf_indent {fs : List Fld} (hl : fs.length ≤ 40) (hg : ∀ f ∈ fs, goodFld f) : fldsOf (indentF [32, 32] (foldF fs)) = (fs, true) := by
  have hd : dedentOf [32, 32] (indentF [32, 32] (foldF fs)) = (foldF fs, true) := by
    rw [foldF_text]
    exact dedent_indent (flds_no10 hg)
  unfold fldsOf
  rw [hd]
  simp only
  by_cases h0 : fs = []
  · subst h0
    have hp : parseF (foldF []) = (none, []) := parse_nil
    rw [hp]
    simp [recsF, foldF]
  · rw [parse_fold ⟨hl, hg⟩ h0]
    simp [recsF]
theorem head_apart {j k : Int} {s : Bytes} (hj : j = 1 ∨ j = 2 ∨ j = 3) (hk : k = 1 ∨ k = 2 ∨ k = 3) (hne : j ≠ k) : ¬ headOf j <+: headOf k ++ s := by
  rintro ⟨t, ht⟩
  have h2 := congrArg (List.take 2) ht
  rcases hj with rfl | rfl | rfl <;> rcases hk with rfl | rfl | rfl <;> first | exact absurd rfl hne | (revert h2; simp [headOf])
theorem begE_line {x : EditV} (hk : x.kind = 1 ∨ x.kind = 2 ∨ x.kind = 3) (h1 : -9223372036854775808 ≤ x.id) (h2 : x.id ≤ 9223372036854775807) : begE (lineE x) = some (x.kind, x.id) := by
  have hl : lineE x = headOf x.kind ++ Lib.itoa x.id := by
    unfold lineE
    rw [if_pos (by omega)]
  have hself : tryB x.kind (lineE x) = some x.id := by
    unfold tryB
    rw [hl, if_pos (List.prefix_append _ _), List.drop_left, atoi_itoaZ h1 h2]
  have hoth : ∀ j : Int, (j = 1 ∨ j = 2 ∨ j = 3) → j ≠ x.kind → tryB j (lineE x) = none := fun j hj hne => by
    unfold tryB
    rw [hl, if_neg (head_apart hj hk hne)]
  unfold begE
  rcases hk with h | h | h
  · rw [h] at hself hoth ⊢
    rw [hself]
  · rw [h] at hself hoth ⊢
    rw [hoth 1 (by simp) (by decide), hself]
  · rw [h] at hself hoth ⊢
    rw [hoth 1 (by simp) (by decide), hoth 2 (by simp) (by decide), hself]
def bodyL (x : EditV) : List Bytes := (x.fields.flatMap linesF).map fun s => [32, 32] ++ s
theorem itoa_digits (v : Int) : ∀ c ∈ Lib.itoa v, c ≠ 10 ∧ c ≠ 32 := fun c hc => by
  by_cases hv : v < 0
  · rw [itoa_neg hv] at hc
    rcases List.mem_cons.1 hc with rfl | hc
    · decide
    · have := decDigits_isdig _ _ (Nat.le_refl _) c hc
      constructor <;> rintro rfl <;> simp at this
  · rw [itoa_pos (by omega)] at hc
    have := decDigits_isdig _ _ (Nat.le_refl _) c hc
    constructor <;> rintro rfl <;> simp at this
theorem line_no10 (x : EditV) : 10 ∉ lineE x := by
  unfold lineE
  split
  · rename_i hk
    have h1 := itoa_digits x.id
    intro hc
    rcases List.mem_append.1 hc with hc | hc
    · have : x.kind = 1 ∨ x.kind = 2 ∨ x.kind = 3 := by omega
      rcases this with h | h | h <;> rw [h] at hc <;> revert hc <;> decide
    · exact (h1 10 hc).1 rfl
  · simp
theorem line_notInd {x : EditV} (hk : x.kind = 1 ∨ x.kind = 2 ∨ x.kind = 3) : ¬ [32, 32] <+: lineE x := by
  unfold lineE
  rw [if_pos (by omega)]
  rintro ⟨t, ht⟩
  have h2 := congrArg (List.take 2) ht
  rcases hk with h | h | h <;> rw [h] at h2 <;> revert h2 <;> simp [headOf]
theorem encOne_text {x : EditV} (hg : ∀ f ∈ x.fields, goodFld f) : encOne x = textF (lineE x :: bodyL x) := by
  unfold encOne bodyL
  rw [textF_cons, foldF_text, indent_text (flds_no10 hg)]
  simp
theorem body_no10 {x : EditV} (hg : ∀ f ∈ x.fields, goodFld f) : ∀ s ∈ bodyL x, 10 ∉ s := ind_no10 (flds_no10 hg)
theorem parts_more (text : Bytes) : ∀ (m : List Bytes) (k a f : Nat) (R : Bytes), (∀ s ∈ m, 10 ∉ s ∧ [32, 32] <+: s) → ∃ k', partsL text (lnsFrom k a (textF m ++ R)) f = partsL text (lnsFrom k' (a + (textF m).length) R) f
  | [], k, a, f, R, _ => ⟨k, by simp [textF]⟩
  | s :: m, k, a, f, R, h => by
    obtain ⟨h10, hp⟩ := h s (by simp)
    have e : textF (s :: m) ++ R = s ++ 10 :: (textF m ++ R) := by rw [textF_cons]; simp
    obtain ⟨k', ih⟩ := parts_more text m (k + 1) (a + s.length + 1) f R fun x hx => h x (by simp [hx])
    refine ⟨k', ?_⟩
    rw [e, lns_cons (by simp), upto_app _ h10, past_app _ h10, partsL, if_neg (fun h => h.2 hp), ih, textF_cons]
    congr 2
    simp
    omega
theorem bodyL_ind {x : EditV} (hg : ∀ f ∈ x.fields, goodFld f) : ∀ s ∈ bodyL x, 10 ∉ s ∧ [32, 32] <+: s := fun s hs => ⟨body_no10 hg s hs, by
  obtain ⟨y, _, rfl⟩ := List.mem_map.1 hs
  exact List.prefix_append _ _⟩
structure EncG (x : EditV) : Prop where
  kind : x.kind = 1 ∨ x.kind = 2 ∨ x.kind = 3
  len : x.fields.length ≤ 40
  good : ∀ f ∈ x.fields, goodFld f
  id1 : -9223372036854775808 ≤ x.id
  id2 : x.id ≤ 9223372036854775807
theorem parts_rest : ∀ (r : List EditV) (D : Bytes) (x : EditV) (k : Nat), EncG x → (∀ y ∈ r, EncG y) →
    partsL (D ++ (encOne x ++ encF r)) (lnsFrom k (D.length + ((lineE x).length + 1)) (textF (bodyL x) ++ encF r)) D.length = encOne x :: r.map encOne
  | [], D, x, k, hx, _ => by
    obtain ⟨k', h⟩ := parts_more (D ++ (encOne x ++ encF [])) (bodyL x) k (D.length + ((lineE x).length + 1)) D.length (encF []) (bodyL_ind hx.good)
    rw [h]
    have e : encF [] = [] := rfl
    rw [e, lns_nil, partsL]
    simp
  | y :: r, D, x, k, hx, hr => by
    have hy := hr y (by simp)
    obtain ⟨k', h⟩ := parts_more (D ++ (encOne x ++ encF (y :: r))) (bodyL x) k (D.length + ((lineE x).length + 1)) D.length (encF (y :: r)) (bodyL_ind hx.good)
    rw [h]
    have e : encF (y :: r) = lineE y ++ 10 :: (textF (bodyL y) ++ encF r) := by
      have : encF (y :: r) = encOne y ++ encF r := by simp [encF]
      rw [this, encOne_text hy.good, textF_cons]
      simp
    have hlx : (encOne x).length = (lineE x).length + 1 + (textF (bodyL x)).length := by
      rw [encOne_text hx.good, textF_cons]
      simp
      omega
    have e2 : encF (y :: r) = encOne y ++ encF r := by simp [encF]
    have hpos : D.length + ((lineE x).length + 1) + (textF (bodyL x)).length = (D ++ encOne x).length := by
      rw [List.length_append, hlx]
      omega
    rw [hpos]
    have hc : lnsFrom k' (D ++ encOne x).length (encF (y :: r)) = ⟨k', (D ++ encOne x).length, lineE y, true⟩ :: lnsFrom (k' + 1) ((D ++ encOne x).length + (lineE y).length + 1) (textF (bodyL y) ++ encF r) := by
      rw [e, lns_cons (by simp), upto_app _ (line_no10 y), past_app _ (line_no10 y)]
      simp
    have hlt : D.length < (D ++ encOne x).length := by rw [List.length_append, hlx]; omega
    rw [hc, partsL, if_pos ⟨hlt, line_notInd hy.kind⟩]
    have ih := parts_rest r (D ++ encOne x) y (k' + 1) hy fun z hz => hr z (by simp [hz])
    have et : D ++ (encOne x ++ encF (y :: r)) = (D ++ encOne x) ++ (encOne y ++ encF r) := by rw [e2]; simp
    rw [et]
    have ed : ((D ++ encOne x ++ (encOne y ++ encF r)).take (D ++ encOne x).length).drop D.length = encOne x := by
      rw [List.take_left, List.drop_left]
    rw [ed, List.map_cons]
    simp only
    rw [show (D ++ encOne x).length + (lineE y).length + 1 = (D ++ encOne x).length + ((lineE y).length + 1) by omega, ih]
theorem parts_enc {x : EditV} {r : List EditV} (hx : EncG x) (hr : ∀ y ∈ r, EncG y) : partsE (encF (x :: r)) = (x :: r).map encOne := by
  have e2 : encF (x :: r) = encOne x ++ encF r := by simp [encF]
  have e : encF (x :: r) = lineE x ++ 10 :: (textF (bodyL x) ++ encF r) := by
    rw [e2, encOne_text hx.good, textF_cons]
    simp
  have h := parts_rest r [] x 1 hx hr
  simp only [List.nil_append, List.length_nil, Nat.zero_add] at h
  have hc : lns (encF (x :: r)) = ⟨0, 0, lineE x, true⟩ :: lnsFrom 1 ((lineE x).length + 1) (textF (bodyL x) ++ encF r) := by
    unfold lns
    rw [e, lns_cons (by simp), upto_app _ (line_no10 x), past_app _ (line_no10 x)]
    simp
  unfold partsE
  rw [hc, partsL, if_neg (by simp), e2, h]
  rfl
theorem decP_enc : ∀ (r acc : List EditV), (∀ y ∈ r, EncG y) → acc.length + r.length ≤ 40 → decP (r.map encOne) acc = some (acc ++ r)
  | [], acc, _, _ => by simp [decP]
  | x :: r, acc, h, hl => by
    have hx := h x (by simp)
    simp only [List.length_cons] at hl
    have hu : upto 10 (encOne x) = lineE x := by
      unfold encOne
      rw [List.append_assoc]
      exact upto_app _ (line_no10 x)
    have hp : past 10 (encOne x) = indentF [32, 32] (foldF x.fields) := by
      unfold encOne
      rw [List.append_assoc]
      exact past_app _ (line_no10 x)
    have hfl := fldsOf_indent hx.len hx.good
    rw [List.map_cons, decP, hu, begE_line hx.kind hx.id1 hx.id2]
    simp only [hp, hfl]
    rw [if_pos ⟨trivial, by omega⟩]
    have ih := decP_enc r (acc ++ [⟨x.kind, x.id, x.fields⟩]) (fun y hy => h y (by simp [hy])) (by simp; omega)
    rw [ih]
    simp
theorem encG_of {x : EditV} (h : gErr x = .no) (hB : EdB x) : EncG x := by
  obtain ⟨h1, h2⟩ := gErr_no h
  refine ⟨?_, h1, h2, hB.id1, hB.id2⟩
  unfold gErr at h
  split at h
  · exact .inr (.inl (by assumption))
  · split at h
    · rename_i hk; omega
    · simp at h
theorem dec_enc {b : List EditV} (he : eErr b = .no) (hB : ∀ x ∈ b, EdB x) (hl : (encF b).length ≤ 50000) : decF (encF b) = some b := by
  obtain ⟨h1, h40, hg⟩ := eErr_no he
  have hG : ∀ y ∈ b, EncG y := fun y hy => encG_of (hg y hy) (hB y hy)
  unfold decF
  rw [if_neg (by omega)]
  cases b with
  | nil => simp at h1
  | cons x r =>
    rw [parts_enc (hG x (by simp)) (fun y hy => hG y (by simp [hy])), decP_enc (x :: r) [] hG (by simp at h40 ⊢; omega)]
    simp only [List.nil_append]
    rw [if_pos ⟨he, trivial⟩]
end Go.Pl
set_option maxRecDepth 100000
set_option linter.unusedVariables false
namespace Go.Pl
open Go Go.Proofs Go.Proofs.YtplagcbifecagaaGreatDoor
def SpL (L : List Bytes) : Prop := L ≠ [] ∧ ∀ s ∈ L, 10 ∉ s ∧ [32] <+: s
def encL (b : List EditV) : List Bytes := b.flatMap fun x => lineE x :: bodyL x
theorem encF_text {b : List EditV} (hg : ∀ x ∈ b, EncG x) : encF b = textF (encL b) := by
  induction b with
  | nil => rfl
  | cons x r ih =>
    have e : encL (x :: r) = (lineE x :: bodyL x) ++ encL r := by simp [encL]
    have e2 : encF (x :: r) = encOne x ++ encF r := by simp [encF]
    rw [e, textF_app, e2, encOne_text (hg x (by simp)).good, ih fun y hy => hg y (by simp [hy])]
theorem line_sp {x : EditV} (hk : x.kind = 1 ∨ x.kind = 2 ∨ x.kind = 3) : [32] <+: lineE x := by
  unfold lineE
  rw [if_pos (by omega)]
  rcases hk with h | h | h <;> rw [h] <;> exact ⟨_, rfl⟩
theorem encL_sp {b : List EditV} (hne : b ≠ []) (hg : ∀ x ∈ b, EncG x) : SpL (encL b) := by
  refine ⟨?_, fun s hs => ?_⟩
  · cases b with
    | nil => exact absurd rfl hne
    | cons x r => simp [encL]
  · obtain ⟨x, hx, hs⟩ := List.mem_flatMap.1 hs
    have hG := hg x hx
    rcases List.mem_cons.1 hs with rfl | hs
    · exact ⟨line_no10 x, line_sp hG.kind⟩
    · obtain ⟨h1, t, ht⟩ := bodyL_ind hG.good s hs
      exact ⟨h1, [32] ++ t, by rw [← ht]; rfl⟩
theorem text_head {L : List Bytes} (h : SpL L) : (textF L)[0]? = some 32 := by
  obtain ⟨hne, hs⟩ := h
  cases L with
  | nil => exact absurd rfl hne
  | cons s r =>
    obtain ⟨t, ht⟩ := (hs s (by simp)).2
    rw [textF_cons, ← ht]
    rfl
theorem text_last : ∀ (L : List Bytes), L ≠ [] → (textF L).getLast? = some 10
  | [], h => absurd rfl h
  | [s], _ => by rw [textF_cons]; simp [textF]
  | s :: t :: r, _ => by
    have ih := text_last (t :: r) (by simp)
    have hne : textF (t :: r) ≠ [] := fun e => by rw [e] at ih; simp at ih
    rw [textF_cons, List.getLast?_append, List.getLast?_cons, ih]
    simp
theorem text_next : ∀ (L : List Bytes), (∀ s ∈ L, 10 ∉ s ∧ [32] <+: s) → ∀ i, (textF L)[i]? = some 10 → i + 1 < (textF L).length → (textF L)[i + 1]? = some 32
  | [], _, i, h, _ => by simp [textF] at h
  | s :: r, hs, i, h, hl => by
    obtain ⟨h10, _⟩ := hs s (by simp)
    rw [textF_cons] at h hl ⊢
    by_cases hi : i < s.length
    · rw [List.getElem?_append_left hi] at h
      exact absurd (List.mem_of_getElem? h) h10
    · by_cases he : i = s.length
      · subst he
        rw [List.getElem?_append_right (by omega)]
        have hne : r ≠ [] := fun e => by subst e; simp [textF] at hl
        have := text_head ⟨hne, fun x hx => hs x (by simp [hx])⟩
        simpa using this
      · rw [List.getElem?_append_right (by omega)] at h ⊢
        have e1 : i - s.length = (i - s.length - 1) + 1 := by omega
        rw [e1, List.getElem?_cons_succ] at h
        have e2 : i + 1 - s.length = ((i - s.length - 1) + 1) + 1 := by omega
        rw [e2, List.getElem?_cons_succ]
        refine text_next r (fun x hx => hs x (by simp [hx])) _ h ?_
        simp at hl
        omega
theorem dedent_sp1 {L : List Bytes} (h : SpL L) : dedentOf [32] (textF L) = (textF (L.map (List.drop 1)), true) := by
  unfold dedentOf
  rw [linesOf_text L fun s hs => (h.2 s hs).1, if_pos]
  · simp [textF, List.flatMap_map, lineEnd]
  · intro x hx
    obtain ⟨s, hs, rfl⟩ := List.mem_map.1 hx
    exact (h.2 s hs).2
theorem drop_lines {L : List Bytes} (h : SpL L) : (linesOf (textF (L.map (List.drop 1)))).length = (linesOf (textF L)).length := by
  rw [linesOf_text L fun s hs => (h.2 s hs).1, linesOf_text _ fun s hs => ?_]
  · simp
  · obtain ⟨x, hx, rfl⟩ := List.mem_map.1 hs
    exact fun hc => (h.2 x hx).1 (List.mem_of_mem_drop hc)
end Go.Pl
namespace Go.Proofs.YtplagcbifecagaaGreatDoor
open Go Go.Av Go.RowKit Go.Proofs Go.Pl
theorem edits_get {xs : List EditV} {k : Nat} (hk : k < xs.length) : (xs.map editA)[k]? = some (editA (xs.getD k ⟨0, 0, []⟩)) := by
  simp [List.getD, hk]
theorem edits_next {xs : List EditV} {k : Nat} {P : EditV → Prop} (hk : k < xs.length) (h : ∀ f ∈ xs.take k, P f) (h2 : P (xs.getD k ⟨0, 0, []⟩)) : ∀ f ∈ xs.take (k + 1), P f := by
  intro f hf
  rw [List.take_succ_eq_append_getElem hk, List.mem_append, List.mem_singleton] at hf
  rcases hf with hf | rfl
  · exact h f hf
  · simpa [List.getD, hk] using h2
def LightE (b : List EditV) : Prop := b.length ≤ 51 ∧ ∀ x ∈ b, FldsB x.fields
theorem heavy_c (b : List EditV) (st : List AObj) (hx : b.length < 9223372036854775808) (hf : ∀ x ∈ b, x.fields.length < 9223372036854775808) : ACall E 14 [editsA b] st fun x st' => (∃ r, x = Bv r ∧ (r = false → LightE b)) ∧ st' = st := by
  refine acall_pureP (by rintro _ ⟨b, rfl, _⟩; exact pure_v _) (acall_of_awp Tryz.func14 rfl (Nat.le_of_ble_eq_true rfl) ?_)
  have hlen : (b.map editA).length = b.length := by simp
  repeat' (first
    | apply awp_seq
    | apply awp_block
    | apply awp_region
    | apply aops_nil
    | apply aops_move
    | apply aops_assign
    | (apply aops_lenL; exact rfl; exact rfl; exact rfl; exact rfl))
  refine awp_loopG (fun (k : Nat) s => k ≤ b.length ∧ k ≤ 51 ∧ (∀ x ∈ b.take k, FldsB x.fields) ∧ StE [(5, editsA b), (6, Iv b.length), (7, Iv k)] st [] s) (fun k => b.length - k) 0 ⟨by simp, by simp, by simp, stE_mk0 ⟨rfl, congrArg (fun n : Nat => Iv (n : Int)) hlen, rfl, trivial⟩ rfl⟩ ?_
  rintro k _ ⟨hk, hk2, hg, t, ext, rfl⟩
  rcases Nat.lt_or_ge k b.length with hc | hc
  · by_cases h50 : 50 < k
    · skip
      repeat' (first
        | apply awp_seq
        | apply awp_block
        | apply awp_region
        | apply aops_nil
        | apply aops_move
        | apply aops_assign
        | (apply aops_cmpI; exact rfl; exact rfl; exact rfl)
        | (apply aops_guard_any; exact rfl; exact rfl; exact rfl; exact rfl)
        | (apply gd_skip_d; (first | assumption | omega))
        | (apply aops_pick_any; exact rfl; first | (apply pk_dt; (first | assumption | omega)) | (apply pk_df; (first | assumption | omega)) | (apply pk_nt; (first | exact rfl | assumption)) | (apply pk_nf; (first | exact rfl | assumption)) | (apply pk_t; (first | exact rfl | assumption)) | (apply pk_f; (first | exact rfl | assumption)))
        | (apply awp_cond_any; exact rfl; first | (apply cd_dt; (first | assumption | omega)) | (apply cd_df; (first | assumption | omega)) | (apply cd_nt; (first | exact rfl | assumption)) | (apply cd_nf; (first | exact rfl | assumption)) | (apply cd_n <;> intro h) | (apply cd_t; (first | exact rfl | assumption)) | (apply cd_f; (first | exact rfl | assumption)) | (apply cd_d <;> intro h) | (apply cd_s <;> intro h))
        | (apply aops_alloc; exact rfl; exact rfl)
        | (apply aops_load_pp; exact rfl; exact rfl; exact rfl)
        | (apply aops_store_loc; exact rfl; exact rfl; exact rfl; exact rfl; exact rfl; exact rfl; exact rfl; exact rfl; exact rfl; exact rfl; exact rfl)
        | apply awp_skip
        | apply awp_ret
        | (apply aops_indexAddr (n := k); exact rfl; exact rfl; exact rfl; exact rfl; exact rfl; exact edits_get (by omega)))
      exact aret_plain rfl (ares_one rfl) ⟨⟨_, rfl, nofun⟩, ext_end _ _ _ _⟩
    · have hfl := hf (b.getD k ⟨0, 0, []⟩) (by simp [List.getD, hc])
      repeat' (first
        | apply awp_seq
        | apply awp_block
        | apply awp_region
        | apply aops_nil
        | apply aops_move
        | apply aops_assign
        | (apply aops_cmpI; exact rfl; exact rfl; exact rfl)
        | (apply aops_guard_any; exact rfl; exact rfl; exact rfl; exact rfl)
        | (apply gd_run_n; (first | assumption | omega))
        | (apply awp_cond_any; exact rfl; first | (apply cd_dt; (first | assumption | omega)) | (apply cd_df; (first | assumption | omega)) | (apply cd_nt; (first | exact rfl | assumption)) | (apply cd_nf; (first | exact rfl | assumption)) | (apply cd_n <;> intro h) | (apply cd_t; (first | exact rfl | assumption)) | (apply cd_f; (first | exact rfl | assumption)) | (apply cd_d <;> intro h) | (apply cd_s <;> intro h))
        | (apply aops_alloc; exact rfl; exact rfl)
        | (apply aops_fieldAddr_bx; exact rfl; exact rfl; exact rfl)
        | (apply aops_load_pp; exact rfl; exact rfl; exact rfl)
        | (apply aops_load_loc; exact rfl; exact rfl; exact rfl; exact rfl; exact rfl)
        | (apply aops_store_loc; exact rfl; exact rfl; exact rfl; exact rfl; exact rfl; exact rfl; exact rfl; exact rfl; exact rfl; exact rfl; exact rfl)
        | apply awp_skip
        | (apply aops_indexAddr (n := k); exact rfl; exact rfl; exact rfl; exact rfl; exact rfl; exact edits_get (by omega)))
      refine aops_call Tryz.call44 ((much_c (b.getD k ⟨0, 0, []⟩).fields _ hfl).mono ?_)
      rintro _ _ ⟨⟨r, rfl, hr⟩, rfl⟩
      show AOps _ _ _ _ _ _ _
      cases r
      · have hr := hr rfl
        repeat' (first
          | apply awp_region
          | apply aops_nil
          | apply aops_move
          | (apply aops_pick_any; exact rfl; first | (apply pk_dt; (first | assumption | omega)) | (apply pk_df; (first | assumption | omega)) | (apply pk_nt; (first | exact rfl | assumption)) | (apply pk_nf; (first | exact rfl | assumption)) | (apply pk_t; (first | exact rfl | assumption)) | (apply pk_f; (first | exact rfl | assumption)))
          | (apply awp_cond_any; exact rfl; first | (apply cd_dt; (first | assumption | omega)) | (apply cd_df; (first | assumption | omega)) | (apply cd_nt; (first | exact rfl | assumption)) | (apply cd_nf; (first | exact rfl | assumption)) | (apply cd_n <;> intro h) | (apply cd_t; (first | exact rfl | assumption)) | (apply cd_f; (first | exact rfl | assumption)) | (apply cd_d <;> intro h) | (apply cd_s <;> intro h))
          | (apply aops_add; exact rfl; exact rfl; exact wrap_i64 (by omega) (by omega))
          | apply awp_skip)
        exact ⟨k + 1, ⟨by omega, by omega, edits_next hc hg hr, stE_mk ⟨rfl, rfl, rfl, trivial⟩ rfl⟩, by omega⟩
      · skip
        repeat' (first
          | apply awp_seq
          | apply awp_region
          | apply aops_nil
          | apply aops_assign
          | (apply aops_pick_any; exact rfl; first | (apply pk_dt; (first | assumption | omega)) | (apply pk_df; (first | assumption | omega)) | (apply pk_nt; (first | exact rfl | assumption)) | (apply pk_nf; (first | exact rfl | assumption)) | (apply pk_t; (first | exact rfl | assumption)) | (apply pk_f; (first | exact rfl | assumption)))
          | (apply awp_cond_any; exact rfl; first | (apply cd_dt; (first | assumption | omega)) | (apply cd_df; (first | assumption | omega)) | (apply cd_nt; (first | exact rfl | assumption)) | (apply cd_nf; (first | exact rfl | assumption)) | (apply cd_n <;> intro h) | (apply cd_t; (first | exact rfl | assumption)) | (apply cd_f; (first | exact rfl | assumption)) | (apply cd_d <;> intro h) | (apply cd_s <;> intro h))
          | apply awp_ret)
        exact aret_plain rfl (ares_one rfl) ⟨⟨_, rfl, nofun⟩, ext_end _ _ _ _⟩
  · skip
    repeat' (first
      | apply awp_seq
      | apply awp_region
      | apply aops_nil
      | apply aops_assign
      | (apply aops_cmpI; exact rfl; exact rfl; exact rfl)
      | (apply awp_cond_any; exact rfl; first | (apply cd_dt; (first | assumption | omega)) | (apply cd_df; (first | assumption | omega)) | (apply cd_nt; (first | exact rfl | assumption)) | (apply cd_nf; (first | exact rfl | assumption)) | (apply cd_n <;> intro h) | (apply cd_t; (first | exact rfl | assumption)) | (apply cd_f; (first | exact rfl | assumption)) | (apply cd_d <;> intro h) | (apply cd_s <;> intro h))
      | apply awp_exit
      | apply awp_ret)
    have e : k = b.length := by omega
    subst e
    rw [List.take_length] at hg
    exact aret_plain rfl (ares_one rfl) ⟨⟨_, rfl, fun _ => ⟨by omega, hg⟩⟩, ext_end _ _ _ _⟩
def ArgE (b : List EditV) : Prop := b.length < 9223372036854775808 ∧ ∀ x ∈ b, x.fields.length < 9223372036854775808 ∧ -9223372036854775808 ≤ x.id ∧ x.id ≤ 9223372036854775807
theorem light_B {b : List EditV} (hA : ArgE b) (h : LightE b) : ∀ x ∈ b, EdB x := fun x hx => ⟨fun f hf => ((h.2 x hx).val f hf).1, (hA.2 x hx).1, (hA.2 x hx).2.1, (hA.2 x hx).2.2⟩
end Go.Proofs.YtplagcbifecagaaGreatDoor
set_option maxRecDepth 100000
set_option linter.unusedVariables false
namespace Go.Proofs.YtplagcbifecagaaGreatDoor
open Go Go.Av Go.RowKit Go.Proofs Go.Pl
def aliveB0 : List EditV := [⟨3, 0, [([65], [49, 10, 50])]⟩]
def aliveB1 : List EditV := [⟨2, 7, []⟩]
def aliveT : Bytes := [32, 105, 110, 115, 101, 114, 116, 32, 48, 10, 32, 32, 65, 58, 32, 49, 10, 32, 32, 32, 50, 10]
theorem alive_fold : foldF [([65], [49, 10, 50])] = [65, 58, 32, 49, 10, 32, 50, 10] := by
  have hu : upto 10 ([49, 10, 50] : Bytes) = [49] := by decide
  have hp : past 10 ([49, 10, 50] : Bytes) = [50] := by decide
  have h1 : partsOf [49, 10, 50] = [[49], [50]] := by rw [partsOf_mem (by decide), hu, hp, partsOf_not (by decide)]
  rw [foldF_one]
  unfold linesF
  simp only [h1]
  decide
theorem alive_ind : indentF [32, 32] (foldF [([65], [49, 10, 50])]) = [32, 32, 65, 58, 32, 49, 10, 32, 32, 32, 50, 10] := by
  have h : foldF [([65], [49, 10, 50])] = textF [[65, 58, 32, 49], [32, 50]] := by rw [alive_fold]; rfl
  rw [h, indent_text (by decide)]
  rfl
theorem alive_enc0 : encF aliveB0 = aliveT := by
  have hl : lineE ⟨3, 0, [([65], [49, 10, 50])]⟩ = [32, 105, 110, 115, 101, 114, 116, 32, 48] := by
    have e : Lib.itoa 0 = [48] := by show Lib.itoa ((0 : Nat) : Int) = [48]; rw [itoa_nat, Lib.decDigits_one (by decide)]; rfl
    show headOf 3 ++ Lib.itoa 0 = _
    rw [e]
    rfl
  unfold aliveB0
  rw [encF_one]
  unfold encOne
  rw [hl, alive_ind]
  rfl
theorem alive_enc1 : encF aliveB1 = [32, 100, 101, 108, 101, 116, 101, 32, 55, 10] := by
  have hl : lineE ⟨2, 7, []⟩ = [32, 100, 101, 108, 101, 116, 101, 32, 55] := by
    have e : Lib.itoa 7 = [55] := by show Lib.itoa ((7 : Nat) : Int) = [55]; rw [itoa_nat, Lib.decDigits_one (by decide)]; rfl
    show headOf 2 ++ Lib.itoa 7 = _
    rw [e]
    rfl
  unfold aliveB1
  rw [encF_one]
  unfold encOne
  have hi : indentF [32, 32] (foldF []) = [] := by
    unfold indentF indF foldF
    rw [List.flatMap_nil, linesOf_nil]
    rfl
  rw [hl]
  simp only [hi]
  rfl
theorem alive_B0 : ∀ x ∈ aliveB0, EdB x := fun x hx => by
  unfold aliveB0 at hx
  simp only [List.mem_cons, List.not_mem_nil, or_false] at hx
  subst hx
  exact ⟨fun f hf => by simp at hf; subst hf; decide, by decide, by decide, by decide⟩
theorem alive_B1 : ∀ x ∈ aliveB1, EdB x := fun x hx => by
  unfold aliveB1 at hx
  simp only [List.mem_cons, List.not_mem_nil, or_false] at hx
  subst hx
  exact ⟨fun f hf => by simp at hf, by decide, by decide, by decide⟩
theorem alive_dec : decF aliveT = some aliveB0 := by
  rw [← alive_enc0]
  exact dec_enc (by decide) alive_B0 (by rw [alive_enc0]; decide)
theorem aliveDec_c (st : List AObj) : ACall E 9 [Sv aliveT] st fun r st' => r = .tu [editsA aliveB0, .v .nilIface] ∧ st' = st := by
  have := decode_c aliveT st (by decide)
  rw [alive_dec] at this
  exact this
theorem aliveEnc_c (st : List AObj) : ACall E 13 [editsA aliveB1] st fun r st' => r = .tu [Sv [32, 100, 101, 108, 101, 116, 101, 32, 55, 10], .v .nilIface] ∧ st' = st := by
  have := encode0_c aliveB1 st alive_B1 (by decide)
  rw [alive_enc1] at this
  exact this
theorem alive10_c (st : List AObj) : ACall E 8 [] st fun r st' => r = Bv true ∧ st' = st := by
  refine acall_pure (pure_v _) (acall_of_awp Tryz.func8 rfl (Nat.le_of_ble_eq_true rfl) ?_)
  repeat' (first
    | (refine aops_weak 6 (x := .ag [Iv 2, Iv 7, nilSl]) (r := editA ⟨2, 7, []⟩) rfl (weak_edit 2 7) ?_; apply aops_buildSlice; exact rfl; exact rfl; exact rfl; exact rfl; exact rfl; exact rfl; exact rfl; exact rfl; exact rfl)
    | (apply door_awp; first | apply awp_seq | apply awp_block | apply awp_region | (apply awp_cond_any; exact rfl; first | (apply cd_dt; (first | assumption | omega)) | (apply cd_df; (first | assumption | omega)) | (apply cd_nt; (first | exact rfl | assumption)) | (apply cd_nf; (first | exact rfl | assumption)) | (apply cd_n <;> intro h) | (apply cd_t; (first | exact rfl | assumption)) | (apply cd_f; (first | exact rfl | assumption)) | (apply cd_d <;> intro h) | (apply cd_s <;> intro h)) | (apply awp_draw; exact rfl; kernel_rfl) | apply awp_skip | apply awp_exit | apply awp_ret)
    | (apply door_guard; first | (apply aops_guard_any; exact rfl; exact rfl; exact rfl; exact rfl) | (apply aops_guard_undef; exact rfl; exact rfl; exact rfl; exact rfl))
    | (apply door_gd; first | (apply gd_run_d; (first | assumption | omega)) | (apply gd_run_n; (first | assumption | omega)) | (apply gd_skip_d; (first | assumption | omega)) | (apply gd_skip_n; (first | assumption | omega)) | (apply gd_run_nt; (first | exact rfl | assumption)) | (apply gd_run_nf; (first | exact rfl | assumption)) | (apply gd_skip_nt; (first | exact rfl | assumption)) | (apply gd_skip_nf; (first | exact rfl | assumption)) | (apply gd_split_n <;> intro h) | (apply gd_run_t; (first | exact rfl | assumption)) | (apply gd_run_f; (first | exact rfl | assumption)) | (apply gd_skip_t; (first | exact rfl | assumption)) | (apply gd_skip_f; (first | exact rfl | assumption)) | (apply gd_split_d <;> intro h) | (apply gd_split <;> intro h))
    | (apply door_aq; first | apply aq_nil | (apply aq_lenL; exact rfl; exact rfl; exact rfl; exact rfl) | (apply aq_sub; exact rfl; exact rfl; exact wrap_i64 (by omega) (by omega)) | (apply aq_span; exact rfl; exact rfl; exact rfl; exact rfl; (first | assumption | omega | (simp; omega)); first | assumption | omega | (simp; omega)) | (apply aq_load_mid; exact rfl; exact rfl; exact rfl; exact rfl; exact rfl) | (apply aq_concat; exact rfl; exact rfl; (first | omega | (simp only [List.length_append, List.length_cons, List.length_nil]; omega) | (simp; omega))) | (apply aq_load_pp; exact rfl; exact rfl; exact rfl) | (apply aq_load_loc; exact rfl; exact rfl; exact rfl; exact rfl; exact rfl) | (apply aq_fieldAddr_pp; exact rfl; exact rfl; exact rfl; exact rfl) | (apply aq_fieldAddr_bx; exact rfl; exact rfl; exact rfl) | (apply aq_idx; exact rfl; exact rfl; exact rfl; first | assumption | omega | (simp; omega)) | (apply aq_shr4; exact rfl; exact rfl) | (apply aq_and15; exact rfl; exact rfl) | (apply aq_convW; exact rfl; exact rfl; exact rfl; omega) | (apply aq_buildA; exact rfl; exact rfl; exact rfl) | apply aq_move | apply aq_assign | (apply aq_add; exact rfl; exact rfl; exact wrap_i64 (by omega) (by omega)) | (apply aq_lenS; exact rfl; exact rfl; exact rfl) | (apply aq_upto; exact rfl; exact rfl; exact rfl; first | assumption | omega | (simp; omega)) | (apply aq_from; exact rfl; exact rfl; exact rfl; first | assumption | omega | (simp; omega)) | (apply aq_extract; exact rfl; exact rfl))
    | (apply door_binOp; first | (apply aops_cmpI; exact rfl; exact rfl; exact rfl) | (apply aops_cmpS; exact rfl; exact rfl; exact rfl) | (apply aops_concat; exact rfl; exact rfl; (first | omega | (simp only [List.length_append, List.length_cons, List.length_nil]; omega) | (simp; omega))) | (apply aops_add; exact rfl; exact rfl; exact wrap_i64 (by omega) (by omega)) | (apply aops_sub; exact rfl; exact rfl; exact wrap_i64 (by omega) (by omega)) | (apply aops_errNeNil; exact rfl; exact rfl) | (apply aops_nilNeNil; exact rfl; exact rfl) | (apply aops_errEqNil; exact rfl; exact rfl) | (apply aops_nilEqNil; exact rfl; exact rfl) | (apply aops_ptrEqNil; exact rfl; exact rfl; exact rfl) | (apply aops_ptrNeNil; exact rfl; exact rfl; exact rfl) | (apply aops_xor32; exact rfl; exact rfl; (first | exact ofInt_toNat _ | exact rfl); first | exact ofInt_toNat _ | exact rfl) | (apply aops_and32; exact rfl; exact rfl; (first | exact ofInt_toNat _ | exact rfl); first | exact ofInt_toNat _ | exact rfl) | (apply aops_or32; exact rfl; exact rfl; (first | exact ofInt_toNat _ | exact rfl); first | exact ofInt_toNat _ | exact rfl) | (apply aops_shl32; exact rfl; exact rfl; exact rfl) | (apply aops_shr32; exact rfl; exact rfl; exact rfl))
    | (apply door_load; first | (apply aops_load_pp; exact rfl; exact rfl; exact rfl) | (apply aops_load_mid; exact rfl; exact rfl; exact rfl; exact rfl; exact rfl) | (apply aops_load_loc; exact rfl; exact rfl; exact rfl; exact rfl; exact rfl))
    | (apply door_unOp; first | (apply aops_not_d; exact rfl) | (apply aops_not; exact rfl) | (apply aops_compl32; exact rfl))
    | (apply door_slice; first | (apply aops_upto; exact rfl; exact rfl; exact rfl; first | assumption | omega | (simp; omega)) | (apply aops_from; exact rfl; exact rfl; exact rfl; first | assumption | omega | (simp; omega)) | (apply aops_span; exact rfl; exact rfl; exact rfl; exact rfl; (first | assumption | omega | (simp; omega)); first | assumption | omega | (simp; omega)) | (apply aops_sliceFrom; exact rfl; exact rfl; exact rfl; exact rfl; (first | assumption | omega | exact Nat.succ_le_succ (Nat.zero_le _) | (simp; omega)); exact rfl))
    | (apply door_call; first | (apply aops_lenS; exact rfl; exact rfl; exact rfl) | (apply aops_lenL; exact rfl; exact rfl; exact rfl; exact rfl))
    | (apply door_fieldAddr; first | (apply aops_fieldAddr_bx; exact rfl; exact rfl; exact rfl) | (apply aops_fieldAddr_pp; exact rfl; exact rfl; exact rfl; exact rfl))
    | (apply door_store; first | (apply aops_store_mid; exact rfl; exact rfl; exact rfl; exact rfl; exact rfl; exact rfl; exact rfl; exact rfl; exact rfl; exact rfl; exact rfl) | (apply aops_store_loc; exact rfl; exact rfl; exact rfl; exact rfl; exact rfl; exact rfl; exact rfl; exact rfl; exact rfl; exact rfl; exact rfl))
    | (apply door_ops; first | apply aops_nil | apply aops_move | apply aops_assign | (apply aops_extract; exact rfl; exact rfl) | (apply aops_pick_any; exact rfl; first | (apply pk_dt; (first | assumption | omega)) | (apply pk_df; (first | assumption | omega)) | (apply pk_nt; (first | exact rfl | assumption)) | (apply pk_nf; (first | exact rfl | assumption)) | (apply pk_t; (first | exact rfl | assumption)) | (apply pk_f; (first | exact rfl | assumption))) | (apply aops_makeInterface; exact rfl; exact rfl) | apply aops_makeFunc | (apply aops_alloc; exact rfl; exact rfl) | (apply aops_box; exact rfl; exact rfl; exact rfl; exact rfl) | (apply aops_field; exact rfl; exact rfl; exact rfl) | (apply aops_idx; exact rfl; exact rfl; exact rfl; first | assumption | omega | (simp; omega)) | (apply aops_build; exact rfl; exact rfl; exact rfl) | (apply aops_buildSlice; exact rfl; exact rfl; exact rfl; exact rfl; exact rfl; exact rfl; exact rfl; exact rfl; exact rfl) | (apply aops_nilCheck; exact rfl; exact rfl) | (apply aops_indexA; exact rfl; exact rfl; exact rfl; exact rfl; (first | assumption | omega | decide); exact rfl) | (apply aops_indexAddrA; exact rfl; exact rfl; exact rfl; exact rfl; first | assumption | omega | decide))
    | (apply aops_call1; exact Tryz.call13; exact aliveEnc_c _)
    | (apply aops_call1; exact Tryz.call9; exact aliveDec_c _)
    | (apply aops_indexAddr (n := 0); exact rfl; exact rfl; exact rfl; exact rfl; exact rfl; exact rfl))
  exact aret_plain rfl (ares_one rfl) ⟨rfl, _, rfl⟩
theorem pure_e {x : EditV} : ∀ y ∈ [editA x], Pure y := by
  intro y hy
  simp only [List.mem_cons, List.not_mem_nil, or_false] at hy
  subst hy
  exact pure_of_pureC (editA_pureC x)
theorem getD_of {l : Bytes} {i : Nat} {c : UInt8} (h : l[i]? = some c) : l.getD i 0 = c := by simp [List.getD, h]
theorem get_of_D {l : Bytes} {i : Nat} {c : UInt8} (hi : i < l.length) (h : ((l.getD i 0).toNat : Int) = c.toNat) : l[i]? = some c := by
  have e : l[i]? = some (l[i]'hi) := List.getElem?_eq_getElem hi
  rw [e]
  congr 1
  have : l.getD i 0 = l[i]'hi := getD_of e
  rw [this] at h
  exact UInt8.toNat.inj (by omega)
set_option maxHeartbeats 4000000 in
theorem amendLines_c (b : List EditV) (x : EditV) (st : List AObj) (hA : ArgE b) (h1 : -9223372036854775808 ≤ x.id) (h2 : x.id ≤ 9223372036854775807) : ACall E 5 [editsA b, editA x] st fun r st' => r = Bv true ∧ st' = st := by
  refine acall_pure (pure_v _) (acall_of_awp Tryz.func5 rfl (Nat.le_of_ble_eq_true rfl) ?_)
  repeat' (first
    | (apply door_awp; first | apply awp_seq | apply awp_block | apply awp_region | (apply awp_cond_any; exact rfl; first | (apply cd_dt; (first | assumption | omega)) | (apply cd_df; (first | assumption | omega)) | (apply cd_nt; (first | exact rfl | assumption)) | (apply cd_nf; (first | exact rfl | assumption)) | (apply cd_n <;> intro h) | (apply cd_t; (first | exact rfl | assumption)) | (apply cd_f; (first | exact rfl | assumption)) | (apply cd_d <;> intro h) | (apply cd_s <;> intro h)) | (apply awp_draw; exact rfl; kernel_rfl) | apply awp_skip | apply awp_exit | apply awp_ret)
    | (apply door_guard; first | (apply aops_guard_any; exact rfl; exact rfl; exact rfl; exact rfl) | (apply aops_guard_undef; exact rfl; exact rfl; exact rfl; exact rfl))
    | (apply door_gd; first | (apply gd_run_d; (first | assumption | omega)) | (apply gd_run_n; (first | assumption | omega)) | (apply gd_skip_d; (first | assumption | omega)) | (apply gd_skip_n; (first | assumption | omega)) | (apply gd_run_nt; (first | exact rfl | assumption)) | (apply gd_run_nf; (first | exact rfl | assumption)) | (apply gd_skip_nt; (first | exact rfl | assumption)) | (apply gd_skip_nf; (first | exact rfl | assumption)) | (apply gd_split_n <;> intro h) | (apply gd_run_t; (first | exact rfl | assumption)) | (apply gd_run_f; (first | exact rfl | assumption)) | (apply gd_skip_t; (first | exact rfl | assumption)) | (apply gd_skip_f; (first | exact rfl | assumption)) | (apply gd_split_d <;> intro h) | (apply gd_split <;> intro h))
    | (apply door_aq; first | apply aq_nil | (apply aq_lenL; exact rfl; exact rfl; exact rfl; exact rfl) | (apply aq_sub; exact rfl; exact rfl; exact wrap_i64 (by omega) (by omega)) | (apply aq_span; exact rfl; exact rfl; exact rfl; exact rfl; (first | assumption | omega | (simp; omega)); first | assumption | omega | (simp; omega)) | (apply aq_load_mid; exact rfl; exact rfl; exact rfl; exact rfl; exact rfl) | (apply aq_concat; exact rfl; exact rfl; (first | omega | (simp only [List.length_append, List.length_cons, List.length_nil]; omega) | (simp; omega))) | (apply aq_load_pp; exact rfl; exact rfl; exact rfl) | (apply aq_load_loc; exact rfl; exact rfl; exact rfl; exact rfl; exact rfl) | (apply aq_fieldAddr_pp; exact rfl; exact rfl; exact rfl; exact rfl) | (apply aq_fieldAddr_bx; exact rfl; exact rfl; exact rfl) | (apply aq_idx; exact rfl; exact rfl; exact rfl; first | assumption | omega | (simp; omega)) | (apply aq_shr4; exact rfl; exact rfl) | (apply aq_and15; exact rfl; exact rfl) | (apply aq_convW; exact rfl; exact rfl; exact rfl; omega) | (apply aq_buildA; exact rfl; exact rfl; exact rfl) | apply aq_move | apply aq_assign | (apply aq_add; exact rfl; exact rfl; exact wrap_i64 (by omega) (by omega)) | (apply aq_lenS; exact rfl; exact rfl; exact rfl) | (apply aq_upto; exact rfl; exact rfl; exact rfl; first | assumption | omega | (simp; omega)) | (apply aq_from; exact rfl; exact rfl; exact rfl; first | assumption | omega | (simp; omega)) | (apply aq_extract; exact rfl; exact rfl))
    | (apply door_binOp; first | (apply aops_cmpI; exact rfl; exact rfl; exact rfl) | (apply aops_cmpS; exact rfl; exact rfl; exact rfl) | (apply aops_concat; exact rfl; exact rfl; (first | omega | (simp only [List.length_append, List.length_cons, List.length_nil]; omega) | (simp; omega))) | (apply aops_add; exact rfl; exact rfl; exact wrap_i64 (by omega) (by omega)) | (apply aops_sub; exact rfl; exact rfl; exact wrap_i64 (by omega) (by omega)) | (apply aops_errNeNil; exact rfl; exact rfl) | (apply aops_nilNeNil; exact rfl; exact rfl) | (apply aops_errEqNil; exact rfl; exact rfl) | (apply aops_nilEqNil; exact rfl; exact rfl) | (apply aops_ptrEqNil; exact rfl; exact rfl; exact rfl) | (apply aops_ptrNeNil; exact rfl; exact rfl; exact rfl) | (apply aops_xor32; exact rfl; exact rfl; (first | exact ofInt_toNat _ | exact rfl); first | exact ofInt_toNat _ | exact rfl) | (apply aops_and32; exact rfl; exact rfl; (first | exact ofInt_toNat _ | exact rfl); first | exact ofInt_toNat _ | exact rfl) | (apply aops_or32; exact rfl; exact rfl; (first | exact ofInt_toNat _ | exact rfl); first | exact ofInt_toNat _ | exact rfl) | (apply aops_shl32; exact rfl; exact rfl; exact rfl) | (apply aops_shr32; exact rfl; exact rfl; exact rfl))
    | (apply door_load; first | (apply aops_load_pp; exact rfl; exact rfl; exact rfl) | (apply aops_load_mid; exact rfl; exact rfl; exact rfl; exact rfl; exact rfl) | (apply aops_load_loc; exact rfl; exact rfl; exact rfl; exact rfl; exact rfl))
    | (apply door_unOp; first | (apply aops_not_d; exact rfl) | (apply aops_not; exact rfl) | (apply aops_compl32; exact rfl))
    | (apply door_slice; first | (apply aops_upto; exact rfl; exact rfl; exact rfl; first | assumption | omega | (simp; omega)) | (apply aops_from; exact rfl; exact rfl; exact rfl; first | assumption | omega | (simp; omega)) | (apply aops_span; exact rfl; exact rfl; exact rfl; exact rfl; (first | assumption | omega | (simp; omega)); first | assumption | omega | (simp; omega)) | (apply aops_sliceFrom; exact rfl; exact rfl; exact rfl; exact rfl; (first | assumption | omega | exact Nat.succ_le_succ (Nat.zero_le _) | (simp; omega)); exact rfl))
    | (apply door_call; first | (apply aops_lenS; exact rfl; exact rfl; exact rfl) | (apply aops_lenL; exact rfl; exact rfl; exact rfl; exact rfl))
    | (apply door_fieldAddr; first | (apply aops_fieldAddr_bx; exact rfl; exact rfl; exact rfl) | (apply aops_fieldAddr_pp; exact rfl; exact rfl; exact rfl; exact rfl))
    | (apply door_store; first | (apply aops_store_mid; exact rfl; exact rfl; exact rfl; exact rfl; exact rfl; exact rfl; exact rfl; exact rfl; exact rfl; exact rfl; exact rfl) | (apply aops_store_loc; exact rfl; exact rfl; exact rfl; exact rfl; exact rfl; exact rfl; exact rfl; exact rfl; exact rfl; exact rfl; exact rfl))
    | (apply door_ops; first | apply aops_nil | apply aops_move | apply aops_assign | (apply aops_extract; exact rfl; exact rfl) | (apply aops_pick_any; exact rfl; first | (apply pk_dt; (first | assumption | omega)) | (apply pk_df; (first | assumption | omega)) | (apply pk_nt; (first | exact rfl | assumption)) | (apply pk_nf; (first | exact rfl | assumption)) | (apply pk_t; (first | exact rfl | assumption)) | (apply pk_f; (first | exact rfl | assumption))) | (apply aops_makeInterface; exact rfl; exact rfl) | apply aops_makeFunc | (apply aops_alloc; exact rfl; exact rfl) | (apply aops_box; exact rfl; exact rfl; exact rfl; exact rfl) | (apply aops_field; exact rfl; exact rfl; exact rfl) | (apply aops_idx; exact rfl; exact rfl; exact rfl; first | assumption | omega | (simp; omega)) | (apply aops_build; exact rfl; exact rfl; exact rfl) | (apply aops_buildSlice; exact rfl; exact rfl; exact rfl; exact rfl; exact rfl; exact rfl; exact rfl; exact rfl; exact rfl) | (apply aops_nilCheck; exact rfl; exact rfl) | (apply aops_indexA; exact rfl; exact rfl; exact rfl; exact rfl; (first | assumption | omega | decide); exact rfl) | (apply aops_indexAddrA; exact rfl; exact rfl; exact rfl; exact rfl; first | assumption | omega | decide))
    | (apply aops_call1; exact Tryz.call8; exact alive10_c _))
  refine aops_call Tryz.call14 ((heavy_c b _ hA.1 fun x hx => (hA.2 x hx).1).mono ?_)
  rintro _ _ ⟨⟨r, rfl, hr⟩, rfl⟩
  show AOps _ _ _ _ _ _ _
  cases r
  rotate_left
  · skip
    repeat' (first
      | (apply door_awp; first | apply awp_seq | apply awp_block | apply awp_region | (apply awp_cond_any; exact rfl; first | (apply cd_dt; (first | assumption | omega)) | (apply cd_df; (first | assumption | omega)) | (apply cd_nt; (first | exact rfl | assumption)) | (apply cd_nf; (first | exact rfl | assumption)) | (apply cd_n <;> intro h) | (apply cd_t; (first | exact rfl | assumption)) | (apply cd_f; (first | exact rfl | assumption)) | (apply cd_d <;> intro h) | (apply cd_s <;> intro h)) | (apply awp_draw; exact rfl; kernel_rfl) | apply awp_skip | apply awp_exit | apply awp_ret)
      | (apply door_guard; first | (apply aops_guard_any; exact rfl; exact rfl; exact rfl; exact rfl) | (apply aops_guard_undef; exact rfl; exact rfl; exact rfl; exact rfl))
      | (apply door_gd; first | (apply gd_run_d; (first | assumption | omega)) | (apply gd_run_n; (first | assumption | omega)) | (apply gd_skip_d; (first | assumption | omega)) | (apply gd_skip_n; (first | assumption | omega)) | (apply gd_run_nt; (first | exact rfl | assumption)) | (apply gd_run_nf; (first | exact rfl | assumption)) | (apply gd_skip_nt; (first | exact rfl | assumption)) | (apply gd_skip_nf; (first | exact rfl | assumption)) | (apply gd_split_n <;> intro h) | (apply gd_run_t; (first | exact rfl | assumption)) | (apply gd_run_f; (first | exact rfl | assumption)) | (apply gd_skip_t; (first | exact rfl | assumption)) | (apply gd_skip_f; (first | exact rfl | assumption)) | (apply gd_split_d <;> intro h) | (apply gd_split <;> intro h))
      | (apply door_aq; first | apply aq_nil | (apply aq_lenL; exact rfl; exact rfl; exact rfl; exact rfl) | (apply aq_sub; exact rfl; exact rfl; exact wrap_i64 (by omega) (by omega)) | (apply aq_span; exact rfl; exact rfl; exact rfl; exact rfl; (first | assumption | omega | (simp; omega)); first | assumption | omega | (simp; omega)) | (apply aq_load_mid; exact rfl; exact rfl; exact rfl; exact rfl; exact rfl) | (apply aq_concat; exact rfl; exact rfl; (first | omega | (simp only [List.length_append, List.length_cons, List.length_nil]; omega) | (simp; omega))) | (apply aq_load_pp; exact rfl; exact rfl; exact rfl) | (apply aq_load_loc; exact rfl; exact rfl; exact rfl; exact rfl; exact rfl) | (apply aq_fieldAddr_pp; exact rfl; exact rfl; exact rfl; exact rfl) | (apply aq_fieldAddr_bx; exact rfl; exact rfl; exact rfl) | (apply aq_idx; exact rfl; exact rfl; exact rfl; first | assumption | omega | (simp; omega)) | (apply aq_shr4; exact rfl; exact rfl) | (apply aq_and15; exact rfl; exact rfl) | (apply aq_convW; exact rfl; exact rfl; exact rfl; omega) | (apply aq_buildA; exact rfl; exact rfl; exact rfl) | apply aq_move | apply aq_assign | (apply aq_add; exact rfl; exact rfl; exact wrap_i64 (by omega) (by omega)) | (apply aq_lenS; exact rfl; exact rfl; exact rfl) | (apply aq_upto; exact rfl; exact rfl; exact rfl; first | assumption | omega | (simp; omega)) | (apply aq_from; exact rfl; exact rfl; exact rfl; first | assumption | omega | (simp; omega)) | (apply aq_extract; exact rfl; exact rfl))
      | (apply door_binOp; first | (apply aops_cmpI; exact rfl; exact rfl; exact rfl) | (apply aops_cmpS; exact rfl; exact rfl; exact rfl) | (apply aops_concat; exact rfl; exact rfl; (first | omega | (simp only [List.length_append, List.length_cons, List.length_nil]; omega) | (simp; omega))) | (apply aops_add; exact rfl; exact rfl; exact wrap_i64 (by omega) (by omega)) | (apply aops_sub; exact rfl; exact rfl; exact wrap_i64 (by omega) (by omega)) | (apply aops_errNeNil; exact rfl; exact rfl) | (apply aops_nilNeNil; exact rfl; exact rfl) | (apply aops_errEqNil; exact rfl; exact rfl) | (apply aops_nilEqNil; exact rfl; exact rfl) | (apply aops_ptrEqNil; exact rfl; exact rfl; exact rfl) | (apply aops_ptrNeNil; exact rfl; exact rfl; exact rfl) | (apply aops_xor32; exact rfl; exact rfl; (first | exact ofInt_toNat _ | exact rfl); first | exact ofInt_toNat _ | exact rfl) | (apply aops_and32; exact rfl; exact rfl; (first | exact ofInt_toNat _ | exact rfl); first | exact ofInt_toNat _ | exact rfl) | (apply aops_or32; exact rfl; exact rfl; (first | exact ofInt_toNat _ | exact rfl); first | exact ofInt_toNat _ | exact rfl) | (apply aops_shl32; exact rfl; exact rfl; exact rfl) | (apply aops_shr32; exact rfl; exact rfl; exact rfl))
      | (apply door_load; first | (apply aops_load_pp; exact rfl; exact rfl; exact rfl) | (apply aops_load_mid; exact rfl; exact rfl; exact rfl; exact rfl; exact rfl) | (apply aops_load_loc; exact rfl; exact rfl; exact rfl; exact rfl; exact rfl))
      | (apply door_unOp; first | (apply aops_not_d; exact rfl) | (apply aops_not; exact rfl) | (apply aops_compl32; exact rfl))
      | (apply door_slice; first | (apply aops_upto; exact rfl; exact rfl; exact rfl; first | assumption | omega | (simp; omega)) | (apply aops_from; exact rfl; exact rfl; exact rfl; first | assumption | omega | (simp; omega)) | (apply aops_span; exact rfl; exact rfl; exact rfl; exact rfl; (first | assumption | omega | (simp; omega)); first | assumption | omega | (simp; omega)) | (apply aops_sliceFrom; exact rfl; exact rfl; exact rfl; exact rfl; (first | assumption | omega | exact Nat.succ_le_succ (Nat.zero_le _) | (simp; omega)); exact rfl))
      | (apply door_call; first | (apply aops_lenS; exact rfl; exact rfl; exact rfl) | (apply aops_lenL; exact rfl; exact rfl; exact rfl; exact rfl))
      | (apply door_fieldAddr; first | (apply aops_fieldAddr_bx; exact rfl; exact rfl; exact rfl) | (apply aops_fieldAddr_pp; exact rfl; exact rfl; exact rfl; exact rfl))
      | (apply door_store; first | (apply aops_store_mid; exact rfl; exact rfl; exact rfl; exact rfl; exact rfl; exact rfl; exact rfl; exact rfl; exact rfl; exact rfl; exact rfl) | (apply aops_store_loc; exact rfl; exact rfl; exact rfl; exact rfl; exact rfl; exact rfl; exact rfl; exact rfl; exact rfl; exact rfl; exact rfl))
      | (apply door_ops; first | apply aops_nil | apply aops_move | apply aops_assign | (apply aops_extract; exact rfl; exact rfl) | (apply aops_pick_any; exact rfl; first | (apply pk_dt; (first | assumption | omega)) | (apply pk_df; (first | assumption | omega)) | (apply pk_nt; (first | exact rfl | assumption)) | (apply pk_nf; (first | exact rfl | assumption)) | (apply pk_t; (first | exact rfl | assumption)) | (apply pk_f; (first | exact rfl | assumption))) | (apply aops_makeInterface; exact rfl; exact rfl) | apply aops_makeFunc | (apply aops_alloc; exact rfl; exact rfl) | (apply aops_box; exact rfl; exact rfl; exact rfl; exact rfl) | (apply aops_field; exact rfl; exact rfl; exact rfl) | (apply aops_idx; exact rfl; exact rfl; exact rfl; first | assumption | omega | (simp; omega)) | (apply aops_build; exact rfl; exact rfl; exact rfl) | (apply aops_buildSlice; exact rfl; exact rfl; exact rfl; exact rfl; exact rfl; exact rfl; exact rfl; exact rfl; exact rfl) | (apply aops_nilCheck; exact rfl; exact rfl) | (apply aops_indexA; exact rfl; exact rfl; exact rfl; exact rfl; (first | assumption | omega | decide); exact rfl) | (apply aops_indexAddrA; exact rfl; exact rfl; exact rfl; exact rfl; first | assumption | omega | decide)))
    exact aret_plain rfl (ares_one rfl) ⟨rfl, _, rfl⟩
  have hLb := hr rfl
  clear hr
  have hB := light_B hA hLb
  by_cases he : eErr b = .no
  · obtain ⟨hb1, hb40, hg⟩ := eErr_no he
    have hG : ∀ y ∈ b, EncG y := fun y hy => encG_of (hg y hy) (hB y hy)
    have hS := encL_sp (b := b) (fun e => by subst e; simp at hb1) hG
    have ht := encF_text hG
    have hlen := encF_len b hB hg
    have hh := text_head hS
    have hla := text_last _ hS.1
    have hnx := text_next _ hS.2
    have hde := dedent_sp1 hS
    have hdl := drop_lines hS
    have hen := fun st => encode0_c b st hB he
    rw [← ht] at hh hla hnx hde hdl
    have hdn := dedent_len [32] (encF b)
    rw [hde] at hdn
    generalize encF b = s at hh hla hnx hde hdl hlen ht hen hdn
    generalize textF _ = u at hde hdl hdn
    have hded : ∀ st, ACall E 24 [Sv s, Sv [32]] st fun r st' => r = .tu [Sv u, Bv true] ∧ st' = st := fun st => by
      have := dedent_c s [32] st (by omega)
      rw [hde] at this
      exact this
    have hcu : ∀ st, ACall E 25 [Sv u] st fun r st' => r = Iv (linesOf s).length ∧ st' = st := fun st => by
      have := count_c u st (by simp at hdn; omega)
      rw [hdl] at this
      exact this
    have hpos : 0 < s.length := lt_of_getElem? hh
    have hs0 : ((s.getD 0 0).toNat : Int) = 32 := by rw [getD_of hh]; rfl
    have hsl : ((s.getD (s.length - 1) 0).toNat : Int) = 10 := by
      rw [List.getLast?_eq_getElem?] at hla
      rw [getD_of hla]; rfl
    repeat' (first
      | (apply door_awp; first | apply awp_seq | apply awp_block | apply awp_region | (apply awp_cond_any; exact rfl; first | (apply cd_dt; (first | assumption | omega)) | (apply cd_df; (first | assumption | omega)) | (apply cd_nt; (first | exact rfl | assumption)) | (apply cd_nf; (first | exact rfl | assumption)) | (apply cd_n <;> intro h) | (apply cd_t; (first | exact rfl | assumption)) | (apply cd_f; (first | exact rfl | assumption)) | (apply cd_d <;> intro h) | (apply cd_s <;> intro h)) | (apply awp_draw; exact rfl; kernel_rfl) | apply awp_skip | apply awp_exit | apply awp_ret)
      | (apply door_guard; first | (apply aops_guard_any; exact rfl; exact rfl; exact rfl; exact rfl) | (apply aops_guard_undef; exact rfl; exact rfl; exact rfl; exact rfl))
      | (apply door_gd; first | (apply gd_run_d; (first | assumption | omega)) | (apply gd_run_n; (first | assumption | omega)) | (apply gd_skip_d; (first | assumption | omega)) | (apply gd_skip_n; (first | assumption | omega)) | (apply gd_run_nt; (first | exact rfl | assumption)) | (apply gd_run_nf; (first | exact rfl | assumption)) | (apply gd_skip_nt; (first | exact rfl | assumption)) | (apply gd_skip_nf; (first | exact rfl | assumption)) | (apply gd_split_n <;> intro h) | (apply gd_run_t; (first | exact rfl | assumption)) | (apply gd_run_f; (first | exact rfl | assumption)) | (apply gd_skip_t; (first | exact rfl | assumption)) | (apply gd_skip_f; (first | exact rfl | assumption)) | (apply gd_split_d <;> intro h) | (apply gd_split <;> intro h))
      | (apply door_aq; first | apply aq_nil | (apply aq_lenL; exact rfl; exact rfl; exact rfl; exact rfl) | (apply aq_sub; exact rfl; exact rfl; exact wrap_i64 (by omega) (by omega)) | (apply aq_span; exact rfl; exact rfl; exact rfl; exact rfl; (first | assumption | omega | (simp; omega)); first | assumption | omega | (simp; omega)) | (apply aq_load_mid; exact rfl; exact rfl; exact rfl; exact rfl; exact rfl) | (apply aq_concat; exact rfl; exact rfl; (first | omega | (simp only [List.length_append, List.length_cons, List.length_nil]; omega) | (simp; omega))) | (apply aq_load_pp; exact rfl; exact rfl; exact rfl) | (apply aq_load_loc; exact rfl; exact rfl; exact rfl; exact rfl; exact rfl) | (apply aq_fieldAddr_pp; exact rfl; exact rfl; exact rfl; exact rfl) | (apply aq_fieldAddr_bx; exact rfl; exact rfl; exact rfl) | (apply aq_idx; exact rfl; exact rfl; exact rfl; first | assumption | omega | (simp; omega)) | (apply aq_shr4; exact rfl; exact rfl) | (apply aq_and15; exact rfl; exact rfl) | (apply aq_convW; exact rfl; exact rfl; exact rfl; omega) | (apply aq_buildA; exact rfl; exact rfl; exact rfl) | apply aq_move | apply aq_assign | (apply aq_add; exact rfl; exact rfl; exact wrap_i64 (by omega) (by omega)) | (apply aq_lenS; exact rfl; exact rfl; exact rfl) | (apply aq_upto; exact rfl; exact rfl; exact rfl; first | assumption | omega | (simp; omega)) | (apply aq_from; exact rfl; exact rfl; exact rfl; first | assumption | omega | (simp; omega)) | (apply aq_extract; exact rfl; exact rfl))
      | (apply door_binOp; first | (apply aops_cmpI; exact rfl; exact rfl; exact rfl) | (apply aops_cmpS; exact rfl; exact rfl; exact rfl) | (apply aops_concat; exact rfl; exact rfl; (first | omega | (simp only [List.length_append, List.length_cons, List.length_nil]; omega) | (simp; omega))) | (apply aops_add; exact rfl; exact rfl; exact wrap_i64 (by omega) (by omega)) | (apply aops_sub; exact rfl; exact rfl; exact wrap_i64 (by omega) (by omega)) | (apply aops_errNeNil; exact rfl; exact rfl) | (apply aops_nilNeNil; exact rfl; exact rfl) | (apply aops_errEqNil; exact rfl; exact rfl) | (apply aops_nilEqNil; exact rfl; exact rfl) | (apply aops_ptrEqNil; exact rfl; exact rfl; exact rfl) | (apply aops_ptrNeNil; exact rfl; exact rfl; exact rfl) | (apply aops_xor32; exact rfl; exact rfl; (first | exact ofInt_toNat _ | exact rfl); first | exact ofInt_toNat _ | exact rfl) | (apply aops_and32; exact rfl; exact rfl; (first | exact ofInt_toNat _ | exact rfl); first | exact ofInt_toNat _ | exact rfl) | (apply aops_or32; exact rfl; exact rfl; (first | exact ofInt_toNat _ | exact rfl); first | exact ofInt_toNat _ | exact rfl) | (apply aops_shl32; exact rfl; exact rfl; exact rfl) | (apply aops_shr32; exact rfl; exact rfl; exact rfl))
      | (apply door_load; first | (apply aops_load_pp; exact rfl; exact rfl; exact rfl) | (apply aops_load_mid; exact rfl; exact rfl; exact rfl; exact rfl; exact rfl) | (apply aops_load_loc; exact rfl; exact rfl; exact rfl; exact rfl; exact rfl))
      | (apply door_unOp; first | (apply aops_not_d; exact rfl) | (apply aops_not; exact rfl) | (apply aops_compl32; exact rfl))
      | (apply door_slice; first | (apply aops_upto; exact rfl; exact rfl; exact rfl; first | assumption | omega | (simp; omega)) | (apply aops_from; exact rfl; exact rfl; exact rfl; first | assumption | omega | (simp; omega)) | (apply aops_span; exact rfl; exact rfl; exact rfl; exact rfl; (first | assumption | omega | (simp; omega)); first | assumption | omega | (simp; omega)) | (apply aops_sliceFrom; exact rfl; exact rfl; exact rfl; exact rfl; (first | assumption | omega | exact Nat.succ_le_succ (Nat.zero_le _) | (simp; omega)); exact rfl))
      | (apply door_call; first | (apply aops_lenS; exact rfl; exact rfl; exact rfl) | (apply aops_lenL; exact rfl; exact rfl; exact rfl; exact rfl))
      | (apply door_fieldAddr; first | (apply aops_fieldAddr_bx; exact rfl; exact rfl; exact rfl) | (apply aops_fieldAddr_pp; exact rfl; exact rfl; exact rfl; exact rfl))
      | (apply door_store; first | (apply aops_store_mid; exact rfl; exact rfl; exact rfl; exact rfl; exact rfl; exact rfl; exact rfl; exact rfl; exact rfl; exact rfl; exact rfl) | (apply aops_store_loc; exact rfl; exact rfl; exact rfl; exact rfl; exact rfl; exact rfl; exact rfl; exact rfl; exact rfl; exact rfl; exact rfl))
      | (apply door_ops; first | apply aops_nil | apply aops_move | apply aops_assign | (apply aops_extract; exact rfl; exact rfl) | (apply aops_pick_any; exact rfl; first | (apply pk_dt; (first | assumption | omega)) | (apply pk_df; (first | assumption | omega)) | (apply pk_nt; (first | exact rfl | assumption)) | (apply pk_nf; (first | exact rfl | assumption)) | (apply pk_t; (first | exact rfl | assumption)) | (apply pk_f; (first | exact rfl | assumption))) | (apply aops_makeInterface; exact rfl; exact rfl) | apply aops_makeFunc | (apply aops_alloc; exact rfl; exact rfl) | (apply aops_box; exact rfl; exact rfl; exact rfl; exact rfl) | (apply aops_field; exact rfl; exact rfl; exact rfl) | (apply aops_idx; exact rfl; exact rfl; exact rfl; first | assumption | omega | (simp; omega)) | (apply aops_build; exact rfl; exact rfl; exact rfl) | (apply aops_buildSlice; exact rfl; exact rfl; exact rfl; exact rfl; exact rfl; exact rfl; exact rfl; exact rfl; exact rfl) | (apply aops_nilCheck; exact rfl; exact rfl) | (apply aops_indexA; exact rfl; exact rfl; exact rfl; exact rfl; (first | assumption | omega | decide); exact rfl) | (apply aops_indexAddrA; exact rfl; exact rfl; exact rfl; exact rfl; first | assumption | omega | decide))
      | (apply aq_load_loc; exact rfl; exact rfl; exact rfl; exact rfl; exact rfl)
      | (refine aq_callP (args := [editA x]) env_okB Tryz.call22 rfl pure_e (sure_v _) (fun _ => .v _) (line_c _ _ h1 h2) ?_)
      | (refine aq_callP (args := [editA x]) env_okB Tryz.call23 rfl pure_e (sure_v _) (fun _ => .v _) (refLine_c _ _ h1 h2) ?_)
      | (apply aq_cmpS (b := false); exact rfl; exact rfl; (simp [cmpS]))
      | (apply aops_call1; exact Tryz.call13; exact hen _)
      | (apply aops_idx (n := 0); exact rfl; exact rfl; exact rfl; exact hpos)
      | (apply aops_idx (n := s.length - 1); exact rfl; exact (congrArg Iv (by omega)); exact rfl; omega))
    · first | (exfalso; omega) | exact absurd hsl (by assumption) | (exfalso; simp_all)
    refine awp_loopG (fun (k : Nat) q => k ≤ s.length - 1 ∧ StE [(5, Sv s), (44, Iv (s.length - 1 : Nat)), (45, Iv k)] st [.cells 0 45 [Iv x.kind, Iv x.id, fldsA x.fields]] q) (fun k => s.length - 1 - k) 0 ⟨by omega, stE_mk0 ⟨rfl, congrArg Iv (by omega), rfl, trivial⟩ rfl⟩ ?_
    rintro k _ ⟨hk, t, ext, rfl⟩
    rcases Nat.lt_or_ge k (s.length - 1) with hc | hc
    · by_cases h10 : ((s.getD k 0).toNat : Int) = 10
      · have hn := hnx k (get_of_D (c := 10) (by omega) h10) (by omega)
        have hn2 : ((s.getD (k + 1) 0).toNat : Int) = 32 := by rw [getD_of hn]; rfl
        repeat' (first
          | (apply door_awp; first | apply awp_seq | apply awp_block | apply awp_region | (apply awp_cond_any; exact rfl; first | (apply cd_dt; (first | assumption | omega)) | (apply cd_df; (first | assumption | omega)) | (apply cd_nt; (first | exact rfl | assumption)) | (apply cd_nf; (first | exact rfl | assumption)) | (apply cd_n <;> intro h) | (apply cd_t; (first | exact rfl | assumption)) | (apply cd_f; (first | exact rfl | assumption)) | (apply cd_d <;> intro h) | (apply cd_s <;> intro h)) | (apply awp_draw; exact rfl; kernel_rfl) | apply awp_skip | apply awp_exit | apply awp_ret)
          | (apply door_guard; first | (apply aops_guard_any; exact rfl; exact rfl; exact rfl; exact rfl) | (apply aops_guard_undef; exact rfl; exact rfl; exact rfl; exact rfl))
          | (apply door_gd; first | (apply gd_run_d; (first | assumption | omega)) | (apply gd_run_n; (first | assumption | omega)) | (apply gd_skip_d; (first | assumption | omega)) | (apply gd_skip_n; (first | assumption | omega)) | (apply gd_run_nt; (first | exact rfl | assumption)) | (apply gd_run_nf; (first | exact rfl | assumption)) | (apply gd_skip_nt; (first | exact rfl | assumption)) | (apply gd_skip_nf; (first | exact rfl | assumption)) | (apply gd_split_n <;> intro h) | (apply gd_run_t; (first | exact rfl | assumption)) | (apply gd_run_f; (first | exact rfl | assumption)) | (apply gd_skip_t; (first | exact rfl | assumption)) | (apply gd_skip_f; (first | exact rfl | assumption)) | (apply gd_split_d <;> intro h) | (apply gd_split <;> intro h))
          | (apply door_aq; first | apply aq_nil | (apply aq_lenL; exact rfl; exact rfl; exact rfl; exact rfl) | (apply aq_sub; exact rfl; exact rfl; exact wrap_i64 (by omega) (by omega)) | (apply aq_span; exact rfl; exact rfl; exact rfl; exact rfl; (first | assumption | omega | (simp; omega)); first | assumption | omega | (simp; omega)) | (apply aq_load_mid; exact rfl; exact rfl; exact rfl; exact rfl; exact rfl) | (apply aq_concat; exact rfl; exact rfl; (first | omega | (simp only [List.length_append, List.length_cons, List.length_nil]; omega) | (simp; omega))) | (apply aq_load_pp; exact rfl; exact rfl; exact rfl) | (apply aq_load_loc; exact rfl; exact rfl; exact rfl; exact rfl; exact rfl) | (apply aq_fieldAddr_pp; exact rfl; exact rfl; exact rfl; exact rfl) | (apply aq_fieldAddr_bx; exact rfl; exact rfl; exact rfl) | (apply aq_idx; exact rfl; exact rfl; exact rfl; first | assumption | omega | (simp; omega)) | (apply aq_shr4; exact rfl; exact rfl) | (apply aq_and15; exact rfl; exact rfl) | (apply aq_convW; exact rfl; exact rfl; exact rfl; omega) | (apply aq_buildA; exact rfl; exact rfl; exact rfl) | apply aq_move | apply aq_assign | (apply aq_add; exact rfl; exact rfl; exact wrap_i64 (by omega) (by omega)) | (apply aq_lenS; exact rfl; exact rfl; exact rfl) | (apply aq_upto; exact rfl; exact rfl; exact rfl; first | assumption | omega | (simp; omega)) | (apply aq_from; exact rfl; exact rfl; exact rfl; first | assumption | omega | (simp; omega)) | (apply aq_extract; exact rfl; exact rfl))
          | (apply door_binOp; first | (apply aops_cmpI; exact rfl; exact rfl; exact rfl) | (apply aops_cmpS; exact rfl; exact rfl; exact rfl) | (apply aops_concat; exact rfl; exact rfl; (first | omega | (simp only [List.length_append, List.length_cons, List.length_nil]; omega) | (simp; omega))) | (apply aops_add; exact rfl; exact rfl; exact wrap_i64 (by omega) (by omega)) | (apply aops_sub; exact rfl; exact rfl; exact wrap_i64 (by omega) (by omega)) | (apply aops_errNeNil; exact rfl; exact rfl) | (apply aops_nilNeNil; exact rfl; exact rfl) | (apply aops_errEqNil; exact rfl; exact rfl) | (apply aops_nilEqNil; exact rfl; exact rfl) | (apply aops_ptrEqNil; exact rfl; exact rfl; exact rfl) | (apply aops_ptrNeNil; exact rfl; exact rfl; exact rfl) | (apply aops_xor32; exact rfl; exact rfl; (first | exact ofInt_toNat _ | exact rfl); first | exact ofInt_toNat _ | exact rfl) | (apply aops_and32; exact rfl; exact rfl; (first | exact ofInt_toNat _ | exact rfl); first | exact ofInt_toNat _ | exact rfl) | (apply aops_or32; exact rfl; exact rfl; (first | exact ofInt_toNat _ | exact rfl); first | exact ofInt_toNat _ | exact rfl) | (apply aops_shl32; exact rfl; exact rfl; exact rfl) | (apply aops_shr32; exact rfl; exact rfl; exact rfl))
          | (apply door_load; first | (apply aops_load_pp; exact rfl; exact rfl; exact rfl) | (apply aops_load_mid; exact rfl; exact rfl; exact rfl; exact rfl; exact rfl) | (apply aops_load_loc; exact rfl; exact rfl; exact rfl; exact rfl; exact rfl))
          | (apply door_unOp; first | (apply aops_not_d; exact rfl) | (apply aops_not; exact rfl) | (apply aops_compl32; exact rfl))
          | (apply door_slice; first | (apply aops_upto; exact rfl; exact rfl; exact rfl; first | assumption | omega | (simp; omega)) | (apply aops_from; exact rfl; exact rfl; exact rfl; first | assumption | omega | (simp; omega)) | (apply aops_span; exact rfl; exact rfl; exact rfl; exact rfl; (first | assumption | omega | (simp; omega)); first | assumption | omega | (simp; omega)) | (apply aops_sliceFrom; exact rfl; exact rfl; exact rfl; exact rfl; (first | assumption | omega | exact Nat.succ_le_succ (Nat.zero_le _) | (simp; omega)); exact rfl))
          | (apply door_call; first | (apply aops_lenS; exact rfl; exact rfl; exact rfl) | (apply aops_lenL; exact rfl; exact rfl; exact rfl; exact rfl))
          | (apply door_fieldAddr; first | (apply aops_fieldAddr_bx; exact rfl; exact rfl; exact rfl) | (apply aops_fieldAddr_pp; exact rfl; exact rfl; exact rfl; exact rfl))
          | (apply door_store; first | (apply aops_store_mid; exact rfl; exact rfl; exact rfl; exact rfl; exact rfl; exact rfl; exact rfl; exact rfl; exact rfl; exact rfl; exact rfl) | (apply aops_store_loc; exact rfl; exact rfl; exact rfl; exact rfl; exact rfl; exact rfl; exact rfl; exact rfl; exact rfl; exact rfl; exact rfl))
          | (apply door_ops; first | apply aops_nil | apply aops_move | apply aops_assign | (apply aops_extract; exact rfl; exact rfl) | (apply aops_pick_any; exact rfl; first | (apply pk_dt; (first | assumption | omega)) | (apply pk_df; (first | assumption | omega)) | (apply pk_nt; (first | exact rfl | assumption)) | (apply pk_nf; (first | exact rfl | assumption)) | (apply pk_t; (first | exact rfl | assumption)) | (apply pk_f; (first | exact rfl | assumption))) | (apply aops_makeInterface; exact rfl; exact rfl) | apply aops_makeFunc | (apply aops_alloc; exact rfl; exact rfl) | (apply aops_box; exact rfl; exact rfl; exact rfl; exact rfl) | (apply aops_field; exact rfl; exact rfl; exact rfl) | (apply aops_idx; exact rfl; exact rfl; exact rfl; first | assumption | omega | (simp; omega)) | (apply aops_build; exact rfl; exact rfl; exact rfl) | (apply aops_buildSlice; exact rfl; exact rfl; exact rfl; exact rfl; exact rfl; exact rfl; exact rfl; exact rfl; exact rfl) | (apply aops_nilCheck; exact rfl; exact rfl) | (apply aops_indexA; exact rfl; exact rfl; exact rfl; exact rfl; (first | assumption | omega | decide); exact rfl) | (apply aops_indexAddrA; exact rfl; exact rfl; exact rfl; exact rfl; first | assumption | omega | decide))
          | (apply aops_idx (n := k); exact rfl; exact rfl; exact rfl; omega)
          | (apply aops_idx (n := k + 1); exact rfl; exact rfl; exact rfl; omega))
        · exact absurd hn2 (by assumption)
        exact ⟨k + 1, ⟨by omega, stE_mk ⟨rfl, rfl, rfl, trivial⟩ rfl⟩, by omega⟩
      · skip
        repeat' (first
          | (apply door_awp; first | apply awp_seq | apply awp_block | apply awp_region | (apply awp_cond_any; exact rfl; first | (apply cd_dt; (first | assumption | omega)) | (apply cd_df; (first | assumption | omega)) | (apply cd_nt; (first | exact rfl | assumption)) | (apply cd_nf; (first | exact rfl | assumption)) | (apply cd_n <;> intro h) | (apply cd_t; (first | exact rfl | assumption)) | (apply cd_f; (first | exact rfl | assumption)) | (apply cd_d <;> intro h) | (apply cd_s <;> intro h)) | (apply awp_draw; exact rfl; kernel_rfl) | apply awp_skip | apply awp_exit | apply awp_ret)
          | (apply door_guard; first | (apply aops_guard_any; exact rfl; exact rfl; exact rfl; exact rfl) | (apply aops_guard_undef; exact rfl; exact rfl; exact rfl; exact rfl))
          | (apply door_gd; first | (apply gd_run_d; (first | assumption | omega)) | (apply gd_run_n; (first | assumption | omega)) | (apply gd_skip_d; (first | assumption | omega)) | (apply gd_skip_n; (first | assumption | omega)) | (apply gd_run_nt; (first | exact rfl | assumption)) | (apply gd_run_nf; (first | exact rfl | assumption)) | (apply gd_skip_nt; (first | exact rfl | assumption)) | (apply gd_skip_nf; (first | exact rfl | assumption)) | (apply gd_split_n <;> intro h) | (apply gd_run_t; (first | exact rfl | assumption)) | (apply gd_run_f; (first | exact rfl | assumption)) | (apply gd_skip_t; (first | exact rfl | assumption)) | (apply gd_skip_f; (first | exact rfl | assumption)) | (apply gd_split_d <;> intro h) | (apply gd_split <;> intro h))
          | (apply door_aq; first | apply aq_nil | (apply aq_lenL; exact rfl; exact rfl; exact rfl; exact rfl) | (apply aq_sub; exact rfl; exact rfl; exact wrap_i64 (by omega) (by omega)) | (apply aq_span; exact rfl; exact rfl; exact rfl; exact rfl; (first | assumption | omega | (simp; omega)); first | assumption | omega | (simp; omega)) | (apply aq_load_mid; exact rfl; exact rfl; exact rfl; exact rfl; exact rfl) | (apply aq_concat; exact rfl; exact rfl; (first | omega | (simp only [List.length_append, List.length_cons, List.length_nil]; omega) | (simp; omega))) | (apply aq_load_pp; exact rfl; exact rfl; exact rfl) | (apply aq_load_loc; exact rfl; exact rfl; exact rfl; exact rfl; exact rfl) | (apply aq_fieldAddr_pp; exact rfl; exact rfl; exact rfl; exact rfl) | (apply aq_fieldAddr_bx; exact rfl; exact rfl; exact rfl) | (apply aq_idx; exact rfl; exact rfl; exact rfl; first | assumption | omega | (simp; omega)) | (apply aq_shr4; exact rfl; exact rfl) | (apply aq_and15; exact rfl; exact rfl) | (apply aq_convW; exact rfl; exact rfl; exact rfl; omega) | (apply aq_buildA; exact rfl; exact rfl; exact rfl) | apply aq_move | apply aq_assign | (apply aq_add; exact rfl; exact rfl; exact wrap_i64 (by omega) (by omega)) | (apply aq_lenS; exact rfl; exact rfl; exact rfl) | (apply aq_upto; exact rfl; exact rfl; exact rfl; first | assumption | omega | (simp; omega)) | (apply aq_from; exact rfl; exact rfl; exact rfl; first | assumption | omega | (simp; omega)) | (apply aq_extract; exact rfl; exact rfl))
          | (apply door_binOp; first | (apply aops_cmpI; exact rfl; exact rfl; exact rfl) | (apply aops_cmpS; exact rfl; exact rfl; exact rfl) | (apply aops_concat; exact rfl; exact rfl; (first | omega | (simp only [List.length_append, List.length_cons, List.length_nil]; omega) | (simp; omega))) | (apply aops_add; exact rfl; exact rfl; exact wrap_i64 (by omega) (by omega)) | (apply aops_sub; exact rfl; exact rfl; exact wrap_i64 (by omega) (by omega)) | (apply aops_errNeNil; exact rfl; exact rfl) | (apply aops_nilNeNil; exact rfl; exact rfl) | (apply aops_errEqNil; exact rfl; exact rfl) | (apply aops_nilEqNil; exact rfl; exact rfl) | (apply aops_ptrEqNil; exact rfl; exact rfl; exact rfl) | (apply aops_ptrNeNil; exact rfl; exact rfl; exact rfl) | (apply aops_xor32; exact rfl; exact rfl; (first | exact ofInt_toNat _ | exact rfl); first | exact ofInt_toNat _ | exact rfl) | (apply aops_and32; exact rfl; exact rfl; (first | exact ofInt_toNat _ | exact rfl); first | exact ofInt_toNat _ | exact rfl) | (apply aops_or32; exact rfl; exact rfl; (first | exact ofInt_toNat _ | exact rfl); first | exact ofInt_toNat _ | exact rfl) | (apply aops_shl32; exact rfl; exact rfl; exact rfl) | (apply aops_shr32; exact rfl; exact rfl; exact rfl))
          | (apply door_load; first | (apply aops_load_pp; exact rfl; exact rfl; exact rfl) | (apply aops_load_mid; exact rfl; exact rfl; exact rfl; exact rfl; exact rfl) | (apply aops_load_loc; exact rfl; exact rfl; exact rfl; exact rfl; exact rfl))
          | (apply door_unOp; first | (apply aops_not_d; exact rfl) | (apply aops_not; exact rfl) | (apply aops_compl32; exact rfl))
          | (apply door_slice; first | (apply aops_upto; exact rfl; exact rfl; exact rfl; first | assumption | omega | (simp; omega)) | (apply aops_from; exact rfl; exact rfl; exact rfl; first | assumption | omega | (simp; omega)) | (apply aops_span; exact rfl; exact rfl; exact rfl; exact rfl; (first | assumption | omega | (simp; omega)); first | assumption | omega | (simp; omega)) | (apply aops_sliceFrom; exact rfl; exact rfl; exact rfl; exact rfl; (first | assumption | omega | exact Nat.succ_le_succ (Nat.zero_le _) | (simp; omega)); exact rfl))
          | (apply door_call; first | (apply aops_lenS; exact rfl; exact rfl; exact rfl) | (apply aops_lenL; exact rfl; exact rfl; exact rfl; exact rfl))
          | (apply door_fieldAddr; first | (apply aops_fieldAddr_bx; exact rfl; exact rfl; exact rfl) | (apply aops_fieldAddr_pp; exact rfl; exact rfl; exact rfl; exact rfl))
          | (apply door_store; first | (apply aops_store_mid; exact rfl; exact rfl; exact rfl; exact rfl; exact rfl; exact rfl; exact rfl; exact rfl; exact rfl; exact rfl; exact rfl) | (apply aops_store_loc; exact rfl; exact rfl; exact rfl; exact rfl; exact rfl; exact rfl; exact rfl; exact rfl; exact rfl; exact rfl; exact rfl))
          | (apply door_ops; first | apply aops_nil | apply aops_move | apply aops_assign | (apply aops_extract; exact rfl; exact rfl) | (apply aops_pick_any; exact rfl; first | (apply pk_dt; (first | assumption | omega)) | (apply pk_df; (first | assumption | omega)) | (apply pk_nt; (first | exact rfl | assumption)) | (apply pk_nf; (first | exact rfl | assumption)) | (apply pk_t; (first | exact rfl | assumption)) | (apply pk_f; (first | exact rfl | assumption))) | (apply aops_makeInterface; exact rfl; exact rfl) | apply aops_makeFunc | (apply aops_alloc; exact rfl; exact rfl) | (apply aops_box; exact rfl; exact rfl; exact rfl; exact rfl) | (apply aops_field; exact rfl; exact rfl; exact rfl) | (apply aops_idx; exact rfl; exact rfl; exact rfl; first | assumption | omega | (simp; omega)) | (apply aops_build; exact rfl; exact rfl; exact rfl) | (apply aops_buildSlice; exact rfl; exact rfl; exact rfl; exact rfl; exact rfl; exact rfl; exact rfl; exact rfl; exact rfl) | (apply aops_nilCheck; exact rfl; exact rfl) | (apply aops_indexA; exact rfl; exact rfl; exact rfl; exact rfl; (first | assumption | omega | decide); exact rfl) | (apply aops_indexAddrA; exact rfl; exact rfl; exact rfl; exact rfl; first | assumption | omega | decide))
          | (apply aops_idx (n := k); exact rfl; exact rfl; exact rfl; omega))
        exact ⟨k + 1, ⟨by omega, stE_mk ⟨rfl, rfl, rfl, trivial⟩ rfl⟩, by omega⟩
    · skip
      repeat' (first
        | (apply door_awp; first | apply awp_seq | apply awp_block | apply awp_region | (apply awp_cond_any; exact rfl; first | (apply cd_dt; (first | assumption | omega)) | (apply cd_df; (first | assumption | omega)) | (apply cd_nt; (first | exact rfl | assumption)) | (apply cd_nf; (first | exact rfl | assumption)) | (apply cd_n <;> intro h) | (apply cd_t; (first | exact rfl | assumption)) | (apply cd_f; (first | exact rfl | assumption)) | (apply cd_d <;> intro h) | (apply cd_s <;> intro h)) | (apply awp_draw; exact rfl; kernel_rfl) | apply awp_skip | apply awp_exit | apply awp_ret)
        | (apply door_guard; first | (apply aops_guard_any; exact rfl; exact rfl; exact rfl; exact rfl) | (apply aops_guard_undef; exact rfl; exact rfl; exact rfl; exact rfl))
        | (apply door_gd; first | (apply gd_run_d; (first | assumption | omega)) | (apply gd_run_n; (first | assumption | omega)) | (apply gd_skip_d; (first | assumption | omega)) | (apply gd_skip_n; (first | assumption | omega)) | (apply gd_run_nt; (first | exact rfl | assumption)) | (apply gd_run_nf; (first | exact rfl | assumption)) | (apply gd_skip_nt; (first | exact rfl | assumption)) | (apply gd_skip_nf; (first | exact rfl | assumption)) | (apply gd_split_n <;> intro h) | (apply gd_run_t; (first | exact rfl | assumption)) | (apply gd_run_f; (first | exact rfl | assumption)) | (apply gd_skip_t; (first | exact rfl | assumption)) | (apply gd_skip_f; (first | exact rfl | assumption)) | (apply gd_split_d <;> intro h) | (apply gd_split <;> intro h))
        | (apply door_aq; first | apply aq_nil | (apply aq_lenL; exact rfl; exact rfl; exact rfl; exact rfl) | (apply aq_sub; exact rfl; exact rfl; exact wrap_i64 (by omega) (by omega)) | (apply aq_span; exact rfl; exact rfl; exact rfl; exact rfl; (first | assumption | omega | (simp; omega)); first | assumption | omega | (simp; omega)) | (apply aq_load_mid; exact rfl; exact rfl; exact rfl; exact rfl; exact rfl) | (apply aq_concat; exact rfl; exact rfl; (first | omega | (simp only [List.length_append, List.length_cons, List.length_nil]; omega) | (simp; omega))) | (apply aq_load_pp; exact rfl; exact rfl; exact rfl) | (apply aq_load_loc; exact rfl; exact rfl; exact rfl; exact rfl; exact rfl) | (apply aq_fieldAddr_pp; exact rfl; exact rfl; exact rfl; exact rfl) | (apply aq_fieldAddr_bx; exact rfl; exact rfl; exact rfl) | (apply aq_idx; exact rfl; exact rfl; exact rfl; first | assumption | omega | (simp; omega)) | (apply aq_shr4; exact rfl; exact rfl) | (apply aq_and15; exact rfl; exact rfl) | (apply aq_convW; exact rfl; exact rfl; exact rfl; omega) | (apply aq_buildA; exact rfl; exact rfl; exact rfl) | apply aq_move | apply aq_assign | (apply aq_add; exact rfl; exact rfl; exact wrap_i64 (by omega) (by omega)) | (apply aq_lenS; exact rfl; exact rfl; exact rfl) | (apply aq_upto; exact rfl; exact rfl; exact rfl; first | assumption | omega | (simp; omega)) | (apply aq_from; exact rfl; exact rfl; exact rfl; first | assumption | omega | (simp; omega)) | (apply aq_extract; exact rfl; exact rfl))
        | (apply door_binOp; first | (apply aops_cmpI; exact rfl; exact rfl; exact rfl) | (apply aops_cmpS; exact rfl; exact rfl; exact rfl) | (apply aops_concat; exact rfl; exact rfl; (first | omega | (simp only [List.length_append, List.length_cons, List.length_nil]; omega) | (simp; omega))) | (apply aops_add; exact rfl; exact rfl; exact wrap_i64 (by omega) (by omega)) | (apply aops_sub; exact rfl; exact rfl; exact wrap_i64 (by omega) (by omega)) | (apply aops_errNeNil; exact rfl; exact rfl) | (apply aops_nilNeNil; exact rfl; exact rfl) | (apply aops_errEqNil; exact rfl; exact rfl) | (apply aops_nilEqNil; exact rfl; exact rfl) | (apply aops_ptrEqNil; exact rfl; exact rfl; exact rfl) | (apply aops_ptrNeNil; exact rfl; exact rfl; exact rfl) | (apply aops_xor32; exact rfl; exact rfl; (first | exact ofInt_toNat _ | exact rfl); first | exact ofInt_toNat _ | exact rfl) | (apply aops_and32; exact rfl; exact rfl; (first | exact ofInt_toNat _ | exact rfl); first | exact ofInt_toNat _ | exact rfl) | (apply aops_or32; exact rfl; exact rfl; (first | exact ofInt_toNat _ | exact rfl); first | exact ofInt_toNat _ | exact rfl) | (apply aops_shl32; exact rfl; exact rfl; exact rfl) | (apply aops_shr32; exact rfl; exact rfl; exact rfl))
        | (apply door_load; first | (apply aops_load_pp; exact rfl; exact rfl; exact rfl) | (apply aops_load_mid; exact rfl; exact rfl; exact rfl; exact rfl; exact rfl) | (apply aops_load_loc; exact rfl; exact rfl; exact rfl; exact rfl; exact rfl))
        | (apply door_unOp; first | (apply aops_not_d; exact rfl) | (apply aops_not; exact rfl) | (apply aops_compl32; exact rfl))
        | (apply door_slice; first | (apply aops_upto; exact rfl; exact rfl; exact rfl; first | assumption | omega | (simp; omega)) | (apply aops_from; exact rfl; exact rfl; exact rfl; first | assumption | omega | (simp; omega)) | (apply aops_span; exact rfl; exact rfl; exact rfl; exact rfl; (first | assumption | omega | (simp; omega)); first | assumption | omega | (simp; omega)) | (apply aops_sliceFrom; exact rfl; exact rfl; exact rfl; exact rfl; (first | assumption | omega | exact Nat.succ_le_succ (Nat.zero_le _) | (simp; omega)); exact rfl))
        | (apply door_call; first | (apply aops_lenS; exact rfl; exact rfl; exact rfl) | (apply aops_lenL; exact rfl; exact rfl; exact rfl; exact rfl))
        | (apply door_fieldAddr; first | (apply aops_fieldAddr_bx; exact rfl; exact rfl; exact rfl) | (apply aops_fieldAddr_pp; exact rfl; exact rfl; exact rfl; exact rfl))
        | (apply door_store; first | (apply aops_store_mid; exact rfl; exact rfl; exact rfl; exact rfl; exact rfl; exact rfl; exact rfl; exact rfl; exact rfl; exact rfl; exact rfl) | (apply aops_store_loc; exact rfl; exact rfl; exact rfl; exact rfl; exact rfl; exact rfl; exact rfl; exact rfl; exact rfl; exact rfl; exact rfl))
        | (apply door_ops; first | apply aops_nil | apply aops_move | apply aops_assign | (apply aops_extract; exact rfl; exact rfl) | (apply aops_pick_any; exact rfl; first | (apply pk_dt; (first | assumption | omega)) | (apply pk_df; (first | assumption | omega)) | (apply pk_nt; (first | exact rfl | assumption)) | (apply pk_nf; (first | exact rfl | assumption)) | (apply pk_t; (first | exact rfl | assumption)) | (apply pk_f; (first | exact rfl | assumption))) | (apply aops_makeInterface; exact rfl; exact rfl) | apply aops_makeFunc | (apply aops_alloc; exact rfl; exact rfl) | (apply aops_box; exact rfl; exact rfl; exact rfl; exact rfl) | (apply aops_field; exact rfl; exact rfl; exact rfl) | (apply aops_idx; exact rfl; exact rfl; exact rfl; first | assumption | omega | (simp; omega)) | (apply aops_build; exact rfl; exact rfl; exact rfl) | (apply aops_buildSlice; exact rfl; exact rfl; exact rfl; exact rfl; exact rfl; exact rfl; exact rfl; exact rfl; exact rfl) | (apply aops_nilCheck; exact rfl; exact rfl) | (apply aops_indexA; exact rfl; exact rfl; exact rfl; exact rfl; (first | assumption | omega | decide); exact rfl) | (apply aops_indexAddrA; exact rfl; exact rfl; exact rfl; exact rfl; first | assumption | omega | decide))
        | (apply aops_call1; exact Tryz.call24; exact hded _)
        | (apply aops_call1; exact Tryz.call25; exact hcu _)
        | (apply aops_call1; exact Tryz.call25; exact count_c s _ (by omega)))
      refine aret_plain rfl (ares_one rfl) ⟨congrArg Bv ?_, ext_end _ _ _ _⟩
      simp
  · have h0 : (eErr b).code ≠ 0 := fun h => he ((eErr_code b).1 h)
    cases hg : eErr b with
    | no => exact absurd hg he
    | num n =>
      repeat' (first
        | (apply door_awp; first | apply awp_seq | apply awp_block | apply awp_region | (apply awp_cond_any; exact rfl; first | (apply cd_dt; (first | assumption | omega)) | (apply cd_df; (first | assumption | omega)) | (apply cd_nt; (first | exact rfl | assumption)) | (apply cd_nf; (first | exact rfl | assumption)) | (apply cd_n <;> intro h) | (apply cd_t; (first | exact rfl | assumption)) | (apply cd_f; (first | exact rfl | assumption)) | (apply cd_d <;> intro h) | (apply cd_s <;> intro h)) | (apply awp_draw; exact rfl; kernel_rfl) | apply awp_skip | apply awp_exit | apply awp_ret)
        | (apply door_guard; first | (apply aops_guard_any; exact rfl; exact rfl; exact rfl; exact rfl) | (apply aops_guard_undef; exact rfl; exact rfl; exact rfl; exact rfl))
        | (apply door_gd; first | (apply gd_run_d; (first | assumption | omega)) | (apply gd_run_n; (first | assumption | omega)) | (apply gd_skip_d; (first | assumption | omega)) | (apply gd_skip_n; (first | assumption | omega)) | (apply gd_run_nt; (first | exact rfl | assumption)) | (apply gd_run_nf; (first | exact rfl | assumption)) | (apply gd_skip_nt; (first | exact rfl | assumption)) | (apply gd_skip_nf; (first | exact rfl | assumption)) | (apply gd_split_n <;> intro h) | (apply gd_run_t; (first | exact rfl | assumption)) | (apply gd_run_f; (first | exact rfl | assumption)) | (apply gd_skip_t; (first | exact rfl | assumption)) | (apply gd_skip_f; (first | exact rfl | assumption)) | (apply gd_split_d <;> intro h) | (apply gd_split <;> intro h))
        | (apply door_aq; first | apply aq_nil | (apply aq_lenL; exact rfl; exact rfl; exact rfl; exact rfl) | (apply aq_sub; exact rfl; exact rfl; exact wrap_i64 (by omega) (by omega)) | (apply aq_span; exact rfl; exact rfl; exact rfl; exact rfl; (first | assumption | omega | (simp; omega)); first | assumption | omega | (simp; omega)) | (apply aq_load_mid; exact rfl; exact rfl; exact rfl; exact rfl; exact rfl) | (apply aq_concat; exact rfl; exact rfl; (first | omega | (simp only [List.length_append, List.length_cons, List.length_nil]; omega) | (simp; omega))) | (apply aq_load_pp; exact rfl; exact rfl; exact rfl) | (apply aq_load_loc; exact rfl; exact rfl; exact rfl; exact rfl; exact rfl) | (apply aq_fieldAddr_pp; exact rfl; exact rfl; exact rfl; exact rfl) | (apply aq_fieldAddr_bx; exact rfl; exact rfl; exact rfl) | (apply aq_idx; exact rfl; exact rfl; exact rfl; first | assumption | omega | (simp; omega)) | (apply aq_shr4; exact rfl; exact rfl) | (apply aq_and15; exact rfl; exact rfl) | (apply aq_convW; exact rfl; exact rfl; exact rfl; omega) | (apply aq_buildA; exact rfl; exact rfl; exact rfl) | apply aq_move | apply aq_assign | (apply aq_add; exact rfl; exact rfl; exact wrap_i64 (by omega) (by omega)) | (apply aq_lenS; exact rfl; exact rfl; exact rfl) | (apply aq_upto; exact rfl; exact rfl; exact rfl; first | assumption | omega | (simp; omega)) | (apply aq_from; exact rfl; exact rfl; exact rfl; first | assumption | omega | (simp; omega)) | (apply aq_extract; exact rfl; exact rfl))
        | (apply door_binOp; first | (apply aops_cmpI; exact rfl; exact rfl; exact rfl) | (apply aops_cmpS; exact rfl; exact rfl; exact rfl) | (apply aops_concat; exact rfl; exact rfl; (first | omega | (simp only [List.length_append, List.length_cons, List.length_nil]; omega) | (simp; omega))) | (apply aops_add; exact rfl; exact rfl; exact wrap_i64 (by omega) (by omega)) | (apply aops_sub; exact rfl; exact rfl; exact wrap_i64 (by omega) (by omega)) | (apply aops_errNeNil; exact rfl; exact rfl) | (apply aops_nilNeNil; exact rfl; exact rfl) | (apply aops_errEqNil; exact rfl; exact rfl) | (apply aops_nilEqNil; exact rfl; exact rfl) | (apply aops_ptrEqNil; exact rfl; exact rfl; exact rfl) | (apply aops_ptrNeNil; exact rfl; exact rfl; exact rfl) | (apply aops_xor32; exact rfl; exact rfl; (first | exact ofInt_toNat _ | exact rfl); first | exact ofInt_toNat _ | exact rfl) | (apply aops_and32; exact rfl; exact rfl; (first | exact ofInt_toNat _ | exact rfl); first | exact ofInt_toNat _ | exact rfl) | (apply aops_or32; exact rfl; exact rfl; (first | exact ofInt_toNat _ | exact rfl); first | exact ofInt_toNat _ | exact rfl) | (apply aops_shl32; exact rfl; exact rfl; exact rfl) | (apply aops_shr32; exact rfl; exact rfl; exact rfl))
        | (apply door_load; first | (apply aops_load_pp; exact rfl; exact rfl; exact rfl) | (apply aops_load_mid; exact rfl; exact rfl; exact rfl; exact rfl; exact rfl) | (apply aops_load_loc; exact rfl; exact rfl; exact rfl; exact rfl; exact rfl))
        | (apply door_unOp; first | (apply aops_not_d; exact rfl) | (apply aops_not; exact rfl) | (apply aops_compl32; exact rfl))
        | (apply door_slice; first | (apply aops_upto; exact rfl; exact rfl; exact rfl; first | assumption | omega | (simp; omega)) | (apply aops_from; exact rfl; exact rfl; exact rfl; first | assumption | omega | (simp; omega)) | (apply aops_span; exact rfl; exact rfl; exact rfl; exact rfl; (first | assumption | omega | (simp; omega)); first | assumption | omega | (simp; omega)) | (apply aops_sliceFrom; exact rfl; exact rfl; exact rfl; exact rfl; (first | assumption | omega | exact Nat.succ_le_succ (Nat.zero_le _) | (simp; omega)); exact rfl))
        | (apply door_call; first | (apply aops_lenS; exact rfl; exact rfl; exact rfl) | (apply aops_lenL; exact rfl; exact rfl; exact rfl; exact rfl))
        | (apply door_fieldAddr; first | (apply aops_fieldAddr_bx; exact rfl; exact rfl; exact rfl) | (apply aops_fieldAddr_pp; exact rfl; exact rfl; exact rfl; exact rfl))
        | (apply door_store; first | (apply aops_store_mid; exact rfl; exact rfl; exact rfl; exact rfl; exact rfl; exact rfl; exact rfl; exact rfl; exact rfl; exact rfl; exact rfl) | (apply aops_store_loc; exact rfl; exact rfl; exact rfl; exact rfl; exact rfl; exact rfl; exact rfl; exact rfl; exact rfl; exact rfl; exact rfl))
        | (apply door_ops; first | apply aops_nil | apply aops_move | apply aops_assign | (apply aops_extract; exact rfl; exact rfl) | (apply aops_pick_any; exact rfl; first | (apply pk_dt; (first | assumption | omega)) | (apply pk_df; (first | assumption | omega)) | (apply pk_nt; (first | exact rfl | assumption)) | (apply pk_nf; (first | exact rfl | assumption)) | (apply pk_t; (first | exact rfl | assumption)) | (apply pk_f; (first | exact rfl | assumption))) | (apply aops_makeInterface; exact rfl; exact rfl) | apply aops_makeFunc | (apply aops_alloc; exact rfl; exact rfl) | (apply aops_box; exact rfl; exact rfl; exact rfl; exact rfl) | (apply aops_field; exact rfl; exact rfl; exact rfl) | (apply aops_idx; exact rfl; exact rfl; exact rfl; first | assumption | omega | (simp; omega)) | (apply aops_build; exact rfl; exact rfl; exact rfl) | (apply aops_buildSlice; exact rfl; exact rfl; exact rfl; exact rfl; exact rfl; exact rfl; exact rfl; exact rfl; exact rfl) | (apply aops_nilCheck; exact rfl; exact rfl) | (apply aops_indexA; exact rfl; exact rfl; exact rfl; exact rfl; (first | assumption | omega | decide); exact rfl) | (apply aops_indexAddrA; exact rfl; exact rfl; exact rfl; exact rfl; first | assumption | omega | decide))
        | (apply aq_load_loc; exact rfl; exact rfl; exact rfl; exact rfl; exact rfl)
        | (refine aq_callP (args := [editA x]) env_okB Tryz.call22 rfl pure_e (sure_v _) (fun _ => .v _) (line_c _ _ h1 h2) ?_)
        | (refine aq_callP (args := [editA x]) env_okB Tryz.call23 rfl pure_e (sure_v _) (fun _ => .v _) (refLine_c _ _ h1 h2) ?_)
        | (apply aq_cmpS (b := false); exact rfl; exact rfl; (simp [cmpS]))
        | (apply aops_call1; exact Tryz.call13; exact encode1_c b _ (.num n) hB hA.1 hg (by rw [← hg]; exact h0)))
      exact aret_plain rfl (ares_one rfl) ⟨rfl, _, rfl⟩
    | at' i n =>
      repeat' (first
        | (apply door_awp; first | apply awp_seq | apply awp_block | apply awp_region | (apply awp_cond_any; exact rfl; first | (apply cd_dt; (first | assumption | omega)) | (apply cd_df; (first | assumption | omega)) | (apply cd_nt; (first | exact rfl | assumption)) | (apply cd_nf; (first | exact rfl | assumption)) | (apply cd_n <;> intro h) | (apply cd_t; (first | exact rfl | assumption)) | (apply cd_f; (first | exact rfl | assumption)) | (apply cd_d <;> intro h) | (apply cd_s <;> intro h)) | (apply awp_draw; exact rfl; kernel_rfl) | apply awp_skip | apply awp_exit | apply awp_ret)
        | (apply door_guard; first | (apply aops_guard_any; exact rfl; exact rfl; exact rfl; exact rfl) | (apply aops_guard_undef; exact rfl; exact rfl; exact rfl; exact rfl))
        | (apply door_gd; first | (apply gd_run_d; (first | assumption | omega)) | (apply gd_run_n; (first | assumption | omega)) | (apply gd_skip_d; (first | assumption | omega)) | (apply gd_skip_n; (first | assumption | omega)) | (apply gd_run_nt; (first | exact rfl | assumption)) | (apply gd_run_nf; (first | exact rfl | assumption)) | (apply gd_skip_nt; (first | exact rfl | assumption)) | (apply gd_skip_nf; (first | exact rfl | assumption)) | (apply gd_split_n <;> intro h) | (apply gd_run_t; (first | exact rfl | assumption)) | (apply gd_run_f; (first | exact rfl | assumption)) | (apply gd_skip_t; (first | exact rfl | assumption)) | (apply gd_skip_f; (first | exact rfl | assumption)) | (apply gd_split_d <;> intro h) | (apply gd_split <;> intro h))
        | (apply door_aq; first | apply aq_nil | (apply aq_lenL; exact rfl; exact rfl; exact rfl; exact rfl) | (apply aq_sub; exact rfl; exact rfl; exact wrap_i64 (by omega) (by omega)) | (apply aq_span; exact rfl; exact rfl; exact rfl; exact rfl; (first | assumption | omega | (simp; omega)); first | assumption | omega | (simp; omega)) | (apply aq_load_mid; exact rfl; exact rfl; exact rfl; exact rfl; exact rfl) | (apply aq_concat; exact rfl; exact rfl; (first | omega | (simp only [List.length_append, List.length_cons, List.length_nil]; omega) | (simp; omega))) | (apply aq_load_pp; exact rfl; exact rfl; exact rfl) | (apply aq_load_loc; exact rfl; exact rfl; exact rfl; exact rfl; exact rfl) | (apply aq_fieldAddr_pp; exact rfl; exact rfl; exact rfl; exact rfl) | (apply aq_fieldAddr_bx; exact rfl; exact rfl; exact rfl) | (apply aq_idx; exact rfl; exact rfl; exact rfl; first | assumption | omega | (simp; omega)) | (apply aq_shr4; exact rfl; exact rfl) | (apply aq_and15; exact rfl; exact rfl) | (apply aq_convW; exact rfl; exact rfl; exact rfl; omega) | (apply aq_buildA; exact rfl; exact rfl; exact rfl) | apply aq_move | apply aq_assign | (apply aq_add; exact rfl; exact rfl; exact wrap_i64 (by omega) (by omega)) | (apply aq_lenS; exact rfl; exact rfl; exact rfl) | (apply aq_upto; exact rfl; exact rfl; exact rfl; first | assumption | omega | (simp; omega)) | (apply aq_from; exact rfl; exact rfl; exact rfl; first | assumption | omega | (simp; omega)) | (apply aq_extract; exact rfl; exact rfl))
        | (apply door_binOp; first | (apply aops_cmpI; exact rfl; exact rfl; exact rfl) | (apply aops_cmpS; exact rfl; exact rfl; exact rfl) | (apply aops_concat; exact rfl; exact rfl; (first | omega | (simp only [List.length_append, List.length_cons, List.length_nil]; omega) | (simp; omega))) | (apply aops_add; exact rfl; exact rfl; exact wrap_i64 (by omega) (by omega)) | (apply aops_sub; exact rfl; exact rfl; exact wrap_i64 (by omega) (by omega)) | (apply aops_errNeNil; exact rfl; exact rfl) | (apply aops_nilNeNil; exact rfl; exact rfl) | (apply aops_errEqNil; exact rfl; exact rfl) | (apply aops_nilEqNil; exact rfl; exact rfl) | (apply aops_ptrEqNil; exact rfl; exact rfl; exact rfl) | (apply aops_ptrNeNil; exact rfl; exact rfl; exact rfl) | (apply aops_xor32; exact rfl; exact rfl; (first | exact ofInt_toNat _ | exact rfl); first | exact ofInt_toNat _ | exact rfl) | (apply aops_and32; exact rfl; exact rfl; (first | exact ofInt_toNat _ | exact rfl); first | exact ofInt_toNat _ | exact rfl) | (apply aops_or32; exact rfl; exact rfl; (first | exact ofInt_toNat _ | exact rfl); first | exact ofInt_toNat _ | exact rfl) | (apply aops_shl32; exact rfl; exact rfl; exact rfl) | (apply aops_shr32; exact rfl; exact rfl; exact rfl))
        | (apply door_load; first | (apply aops_load_pp; exact rfl; exact rfl; exact rfl) | (apply aops_load_mid; exact rfl; exact rfl; exact rfl; exact rfl; exact rfl) | (apply aops_load_loc; exact rfl; exact rfl; exact rfl; exact rfl; exact rfl))
        | (apply door_unOp; first | (apply aops_not_d; exact rfl) | (apply aops_not; exact rfl) | (apply aops_compl32; exact rfl))
        | (apply door_slice; first | (apply aops_upto; exact rfl; exact rfl; exact rfl; first | assumption | omega | (simp; omega)) | (apply aops_from; exact rfl; exact rfl; exact rfl; first | assumption | omega | (simp; omega)) | (apply aops_span; exact rfl; exact rfl; exact rfl; exact rfl; (first | assumption | omega | (simp; omega)); first | assumption | omega | (simp; omega)) | (apply aops_sliceFrom; exact rfl; exact rfl; exact rfl; exact rfl; (first | assumption | omega | exact Nat.succ_le_succ (Nat.zero_le _) | (simp; omega)); exact rfl))
        | (apply door_call; first | (apply aops_lenS; exact rfl; exact rfl; exact rfl) | (apply aops_lenL; exact rfl; exact rfl; exact rfl; exact rfl))
        | (apply door_fieldAddr; first | (apply aops_fieldAddr_bx; exact rfl; exact rfl; exact rfl) | (apply aops_fieldAddr_pp; exact rfl; exact rfl; exact rfl; exact rfl))
        | (apply door_store; first | (apply aops_store_mid; exact rfl; exact rfl; exact rfl; exact rfl; exact rfl; exact rfl; exact rfl; exact rfl; exact rfl; exact rfl; exact rfl) | (apply aops_store_loc; exact rfl; exact rfl; exact rfl; exact rfl; exact rfl; exact rfl; exact rfl; exact rfl; exact rfl; exact rfl; exact rfl))
        | (apply door_ops; first | apply aops_nil | apply aops_move | apply aops_assign | (apply aops_extract; exact rfl; exact rfl) | (apply aops_pick_any; exact rfl; first | (apply pk_dt; (first | assumption | omega)) | (apply pk_df; (first | assumption | omega)) | (apply pk_nt; (first | exact rfl | assumption)) | (apply pk_nf; (first | exact rfl | assumption)) | (apply pk_t; (first | exact rfl | assumption)) | (apply pk_f; (first | exact rfl | assumption))) | (apply aops_makeInterface; exact rfl; exact rfl) | apply aops_makeFunc | (apply aops_alloc; exact rfl; exact rfl) | (apply aops_box; exact rfl; exact rfl; exact rfl; exact rfl) | (apply aops_field; exact rfl; exact rfl; exact rfl) | (apply aops_idx; exact rfl; exact rfl; exact rfl; first | assumption | omega | (simp; omega)) | (apply aops_build; exact rfl; exact rfl; exact rfl) | (apply aops_buildSlice; exact rfl; exact rfl; exact rfl; exact rfl; exact rfl; exact rfl; exact rfl; exact rfl; exact rfl) | (apply aops_nilCheck; exact rfl; exact rfl) | (apply aops_indexA; exact rfl; exact rfl; exact rfl; exact rfl; (first | assumption | omega | decide); exact rfl) | (apply aops_indexAddrA; exact rfl; exact rfl; exact rfl; exact rfl; first | assumption | omega | decide))
        | (apply aq_load_loc; exact rfl; exact rfl; exact rfl; exact rfl; exact rfl)
        | (refine aq_callP (args := [editA x]) env_okB Tryz.call22 rfl pure_e (sure_v _) (fun _ => .v _) (line_c _ _ h1 h2) ?_)
        | (refine aq_callP (args := [editA x]) env_okB Tryz.call23 rfl pure_e (sure_v _) (fun _ => .v _) (refLine_c _ _ h1 h2) ?_)
        | (apply aq_cmpS (b := false); exact rfl; exact rfl; (simp [cmpS]))
        | (apply aops_call1; exact Tryz.call13; exact encode1_c b _ (.at' i n) hB hA.1 hg (by rw [← hg]; exact h0)))
      exact aret_plain rfl (ares_one rfl) ⟨rfl, _, rfl⟩
end Go.Proofs.YtplagcbifecagaaGreatDoor
set_option maxRecDepth 100000
set_option linter.unusedVariables false
namespace Go.Proofs.YtplagcbifecagaaGreatDoor
open Go Go.Av Go.RowKit Go.Proofs Go.Pl
def ArgX (x : EditV) : Prop := x.fields.length < 9223372036854775808 ∧ -9223372036854775808 ≤ x.id ∧ x.id ≤ 9223372036854775807
theorem opn_edit : Opn Tryz.prog 45 fun a => ∃ x : EditV, a = editA x ∧ ArgX x := by
  intro H enc W fuel cs x h
  obtain ⟨a, ⟨vs, rfl, hl, hv⟩, hr⟩ := opn_fields (As := [(some (.int .i64), IsI .i64), (some (.int .i64), IsI .i64), (some (.slice 58), fun a => ∃ xs : List FldV, a = fldsA xs ∧ xs.length ≤ maxLen)]) (by kernel_rfl) (by kernel_rfl) (by kernel_rfl) (by kernel_rfl)
    (List.forall_mem_cons.2 ⟨⟨fun _ h => opn_i h, one_i _⟩, List.forall_mem_cons.2 ⟨⟨fun _ h => opn_i h, one_i _⟩, List.forall_mem_cons.2 ⟨⟨fun _ h => opn_flds h, one_flds⟩, nofun⟩⟩⟩) H enc W fuel cs x h
  match vs, hl with
  | [v0, v1, v2], _ =>
    obtain ⟨n0, rfl, w0⟩ := hv 0 _ _ rfl rfl
    obtain ⟨n1, rfl, w1⟩ := hv 1 _ _ rfl rfl
    obtain ⟨xs, rfl, m⟩ := hv 2 _ _ rfl rfl
    exact ⟨_, ⟨⟨n0, n1, xs⟩, rfl, lt_max m, lit_i64 w1⟩, hr⟩
theorem all_mapP {α : Type} {g : α → AV} {P : α → Prop} : ∀ {xs : List AV}, (∀ x ∈ xs, ∃ a, x = g a ∧ P a) → ∃ ys : List α, xs = ys.map g ∧ ∀ a ∈ ys, P a
  | [], _ => ⟨[], rfl, by simp⟩
  | x :: r, h => by
    obtain ⟨ys, hys, has⟩ := all_mapP (xs := r) fun y hy => h y (List.mem_cons_of_mem _ hy)
    obtain ⟨a, rfl, ha⟩ := h x (by simp)
    subst hys
    refine ⟨a :: ys, rfl, fun b hb => ?_⟩
    rcases List.mem_cons.1 hb with rfl | hb
    · exact ha
    · exact has b hb
theorem opn_edits {t : TypeId} (hu : Tryz.prog.underlying t = some (.slice 45)) : Opn Tryz.prog t fun a => ∃ xs : List EditV, a = editsA xs ∧ ArgE xs := by
  intro H enc W fuel cs x h
  obtain ⟨a, ⟨xs, rfl, hl, hx⟩, hr⟩ := opn_sl (sz := 3) hu (by kernel_rfl) (by decide) opn_edit H enc W fuel cs x h
  obtain ⟨rs, rfl, hrs⟩ := all_mapP hx
  exact ⟨_, ⟨rs, rfl, lt_max (by simpa using hl), hrs⟩, hr⟩
theorem one_edits : One fun a => ∃ xs : List EditV, a = editsA xs ∧ ArgE xs := by rintro _ ⟨xs, rfl, _⟩; rfl
end Go.Proofs.YtplagcbifecagaaGreatDoor
set_option maxRecDepth 100000
set_option linter.unusedVariables false
namespace Go.Proofs.YtplagcbifecagaaGreatDoor
open Go Go.Av Go.RowKit Go.WideShapes Go.ChangeShapes Go.Deep Go.Proofs Go.Pl
theorem arg_st {H : Type} {enc : TypeId × Value → H} {P : Program} {W : World} {r : Reach} {b0 : Nat} {t : TypeId} {fs : Array Field} {S : AV → Prop} {v : Value} {d : DataW H} {ps : List MemPlace} (hu : P.underlying t = some (.struct fs)) (hO : Opn P t S) (hS : ∀ a, S a → ∃ us, a = .ag us) (hval : Value.okWide P W r b0 t v) (hd : DataW.Trod enc P W 0 (fun _ => true) true t v d ps) :
    ∃ a, S a ∧ Rel (gW W) a v := by
  obtain ⟨cs, rfl, _⟩ := okWide_struct hu hval
  obtain ⟨fuel, hf⟩ := hd
  obtain ⟨y, hy, hr⟩ := hO H enc W fuel _ _ hf
  obtain ⟨us, rfl⟩ := hS y hy
  exact ⟨_, hy, .ag us cs (by simpa [AV.cells, Value.cells] using hr.1) fun i x z hx hz => hr.2 i x z hx (by simpa [Value.cells] using hz)⟩
theorem ag_edit : ∀ a, (∃ x : EditV, a = editA x ∧ ArgX x) → ∃ us, a = .ag us := by
  rintro _ ⟨x, rfl, _⟩
  exact ⟨_, rfl⟩
theorem amendLines_a (b : List EditV) (hb : ArgE b) (x : EditV) (hx : ArgX x) (st : List AObj) : ACall E 5 [editsA b, editA x] st fun r st' => r = Bv true ∧ st' = st :=
  amendLines_c b x st hb hx.2.1 hx.2.2
end Go.Proofs.YtplagcbifecagaaGreatDoor
