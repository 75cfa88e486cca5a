/- Contracts and plain facts that the closing text leans on (part 4). No condition of their own beyond those that each states. -/
import Derived.Test.YtplagcbifecagaaGreatDoorK3
import Derived.Laws.StructEq
set_option maxRecDepth 100000
set_option linter.unusedVariables false
set_option linter.unusedSimpArgs false
set_option maxRecDepth 100000
set_option linter.unusedVariables false
namespace Go.Pl
open Go Go.Proofs
inductive ErrV where
  | no
  | num (n : Int)
  | at' (a n : Int)
  deriving DecidableEq
def ErrV.code : ErrV → Int
  | .no => 0
  | .num n => n
  | .at' _ n => n
def chkFrom : Nat → List Fld → ErrV
  | _, [] => .no
  | k, f :: r => if checkF f = 0 then chkFrom (k + 1) r else .at' k (checkF f)
def checkFs (fs : List Fld) : ErrV := if fs = [] then .num 2 else if 40 < fs.length then .num 11 else chkFrom 0 fs
theorem chkFrom_app : ∀ (k : Nat) (p r : List Fld), (∀ x ∈ p, checkF x = 0) → chkFrom k (p ++ r) = chkFrom (k + p.length) r
  | k, [], r, _ => by simp
  | k, f :: p, r, h => by
    have h1 := h f (by simp)
    rw [List.cons_append, chkFrom, if_pos h1, chkFrom_app (k + 1) p r fun x hx => h x (by simp [hx])]
    congr 1
    simp
    omega
theorem chkFrom_code : ∀ (k : Nat) (r : List Fld), (chkFrom k r).code = 0 ↔ chkFrom k r = .no
  | k, [] => by simp [chkFrom, ErrV.code]
  | k, f :: r => by
    unfold chkFrom
    split
    · exact chkFrom_code _ r
    · rename_i h
      simp [ErrV.code, h]
theorem checkFs_code (fs : List Fld) : (checkFs fs).code = 0 ↔ checkFs fs = .no := by
  unfold checkFs
  split
  · simp [ErrV.code]
  · split
    · simp [ErrV.code]
    · exact chkFrom_code _ _
end Go.Pl
namespace Go.Proofs.YtplagcbifecagaaGreatDoor
open Go Go.Av Go.RowKit Go.Proofs Go.Pl
theorem ext_low {st st' : List AObj} (h : ∀ k, k < st.length → st'[k]? = st[k]?) : ∃ ext, st' = st ++ ext := by
  refine ext_of_low ?_ h
  rcases Nat.eq_zero_or_pos st.length with h0 | h0
  · omega
  · have h1 := h (st.length - 1) (by omega)
    have h2 : st[st.length - 1]? = some (st[st.length - 1]'(by omega)) := List.getElem?_eq_getElem (by omega)
    have := lt_of_getElem? (h1.trans h2)
    omega
def gErr (x : EditV) : ErrV := if x.kind = 2 then (if x.fields = [] then .no else .num 2) else if x.kind = 1 ∨ x.kind = 3 then checkFs x.fields else .num 2
def eFrom : Nat → List EditV → ErrV
  | _, [] => .no
  | k, x :: r => if (gErr x).code = 0 then eFrom (k + 1) r else .at' k (gErr x).code
def eErr (b : List EditV) : ErrV := if b.length < 1 ∨ 40 < b.length then .num 1 else eFrom 0 b
theorem eFrom_app : ∀ (k : Nat) (p r : List EditV), (∀ x ∈ p, (gErr x).code = 0) → eFrom k (p ++ r) = eFrom (k + p.length) r
  | k, [], r, _ => by simp
  | k, f :: p, r, h => by
    have h1 := h f (by simp)
    rw [List.cons_append, eFrom, if_pos h1, eFrom_app (k + 1) p r fun x hx => h x (by simp [hx])]
    congr 1
    simp
    omega
theorem gErr_code (x : EditV) : (gErr x).code = 0 ↔ gErr x = .no := by
  unfold gErr
  split
  · split <;> simp [ErrV.code]
  · split
    · exact checkFs_code _
    · simp [ErrV.code]
theorem eFrom_code : ∀ (k : Nat) (r : List EditV), (eFrom k r).code = 0 ↔ eFrom k r = .no
  | k, [] => by simp [eFrom, ErrV.code]
  | k, f :: r => by
    unfold eFrom
    split
    · exact eFrom_code _ r
    · rename_i h
      simp [ErrV.code] at h ⊢
      exact h
theorem eErr_code (b : List EditV) : (eErr b).code = 0 ↔ eErr b = .no := by
  unfold eErr
  split
  · simp [ErrV.code]
  · exact eFrom_code _ _
def errA : ErrV → AV
  | .no => .v .nilIface
  | .num n => .ifc 31 (Iv n)
  | .at' a n => .ifc 92 (.pp [Iv a, .ifc 31 (Iv n)])
theorem errA_pure (e : ErrV) : Pure (errA e) := by
  cases e with
  | no => exact pure_v _
  | num n => exact pure_ifc (pure_v _)
  | at' a n => exact faultA_pure a n
def KeyB (fs : List Fld) : Prop := ∀ f ∈ fs, f.1.length < 4294967281
theorem pcheck_c (fs : List Fld) (st : List AObj) (e : ErrV) (h : checkFs fs = e) (hK : KeyB fs) (hl : fs.length < 9223372036854775808) : ACall E 109 [fldsA fs] st fun r st' => r = errA e ∧ st' = st := by
  subst h
  refine acall_pure (errA_pure _) (acall_of_awp Tryz.func109 rfl (Nat.le_of_ble_eq_true rfl) ?_)
  have hml : (fs.map fldA).length = fs.length := by simp
  by_cases h0 : fs = []
  · subst h0
    repeat' (first
      | apply awp_seq
      | apply awp_block
      | apply awp_region
      | apply aops_nil
      | apply aops_move
      | apply aops_assign
      | (apply aops_cmpI; exact rfl; exact rfl; exact rfl)
      | (apply awp_cond_any; exact rfl; first | (apply cd_dt; (first | assumption | omega)) | (apply cd_df; (first | assumption | omega)) | (apply cd_nt; (first | exact rfl | assumption)) | (apply cd_nf; (first | exact rfl | assumption)) | (apply cd_n <;> intro h) | (apply cd_t; (first | exact rfl | assumption)) | (apply cd_f; (first | exact rfl | assumption)) | (apply cd_d <;> intro h) | (apply cd_s <;> intro h))
      | (apply aops_lenL; exact rfl; exact rfl; exact rfl; exact rfl)
      | (apply aops_makeInterface; exact rfl; exact rfl)
      | apply awp_ret)
    exact aret_plain rfl (ares_one rfl) ⟨rfl, _, rfl⟩
  have hp : 0 < fs.length := List.length_pos_iff.2 h0
  by_cases h40 : 40 < fs.length
  · have hc : checkFs fs = .num 11 := by unfold checkFs; rw [if_neg h0, if_pos h40]
    rw [hc]
    repeat' (first
      | apply awp_seq
      | apply awp_block
      | apply awp_region
      | apply aops_nil
      | apply aops_move
      | apply aops_assign
      | (apply aops_cmpI; exact rfl; exact rfl; exact rfl)
      | (apply awp_cond_any; exact rfl; first | (apply cd_dt; (first | assumption | omega)) | (apply cd_df; (first | assumption | omega)) | (apply cd_nt; (first | exact rfl | assumption)) | (apply cd_nf; (first | exact rfl | assumption)) | (apply cd_n <;> intro h) | (apply cd_t; (first | exact rfl | assumption)) | (apply cd_f; (first | exact rfl | assumption)) | (apply cd_d <;> intro h) | (apply cd_s <;> intro h))
      | (apply aops_lenL; exact rfl; exact rfl; exact rfl; exact rfl)
      | (apply aops_makeInterface; exact rfl; exact rfl)
      | apply awp_ret)
    exact aret_plain rfl (ares_one rfl) ⟨rfl, _, rfl⟩
  have hc : checkFs fs = chkFrom 0 fs := by unfold checkFs; rw [if_neg h0, if_neg h40]
  rw [hc]
  repeat' (first
    | apply awp_seq
    | apply awp_block
    | apply awp_region
    | apply aops_nil
    | apply aops_move
    | apply aops_assign
    | (apply aops_cmpI; exact rfl; exact rfl; exact rfl)
    | (apply awp_cond_any; exact rfl; first | (apply cd_dt; (first | assumption | omega)) | (apply cd_df; (first | assumption | omega)) | (apply cd_nt; (first | exact rfl | assumption)) | (apply cd_nf; (first | exact rfl | assumption)) | (apply cd_n <;> intro h) | (apply cd_t; (first | exact rfl | assumption)) | (apply cd_f; (first | exact rfl | assumption)) | (apply cd_d <;> intro h) | (apply cd_s <;> intro h))
    | (apply aops_lenL; exact rfl; exact rfl; exact rfl; exact rfl)
    | apply awp_skip)
  refine awp_loopL fs (fun pre s => (∀ x ∈ pre, checkF x = 0) ∧ StE [(16, fldsA fs), (17, Iv fs.length), (18, Iv pre.length)] st [] s) ⟨by simp, stE_mk0 ⟨rfl, congrArg (fun n : Nat => Iv (n : Int)) hml, rfl, trivial⟩ rfl⟩ ?_ ?_
  · rintro _ ⟨h3, t, ext, rfl⟩
    have he := chkFrom_app 0 fs [] h3
    rw [List.append_nil] at he
    rw [he]
    repeat' (first
      | apply awp_seq
      | apply awp_region
      | apply aops_nil
      | apply aops_assign
      | (apply aops_cmpI; exact rfl; exact rfl; exact rfl)
      | (apply awp_cond_any; exact rfl; first | (apply cd_dt; (first | assumption | omega)) | (apply cd_df; (first | assumption | omega)) | (apply cd_nt; (first | exact rfl | assumption)) | (apply cd_nf; (first | exact rfl | assumption)) | (apply cd_n <;> intro h) | (apply cd_t; (first | exact rfl | assumption)) | (apply cd_f; (first | exact rfl | assumption)) | (apply cd_d <;> intro h) | (apply cd_s <;> intro h))
      | apply awp_exit
      | apply awp_ret)
    exact aret_plain rfl (ares_one rfl) ⟨rfl, ext_end _ _ _ _⟩
  · rintro pre a rest _ hr ⟨h3, t, ext, rfl⟩
    have hrlen : fs.length = pre.length + (rest.length + 1) := by rw [hr]; simp
    have hget : (fs.map fldA)[pre.length]? = some (fldA a) := by rw [hr]; simp
    have hka := hK a (by rw [hr]; simp)
    by_cases ha : checkF a = 0
    · skip
      repeat' (first
        | apply awp_seq
        | apply awp_block
        | apply awp_region
        | apply aops_nil
        | apply aops_move
        | apply aops_assign
        | (apply aops_cmpI; exact rfl; exact rfl; exact rfl)
        | (apply awp_cond_any; exact rfl; first | (apply cd_dt; (first | assumption | omega)) | (apply cd_df; (first | assumption | omega)) | (apply cd_nt; (first | exact rfl | assumption)) | (apply cd_nf; (first | exact rfl | assumption)) | (apply cd_n <;> intro h) | (apply cd_t; (first | exact rfl | assumption)) | (apply cd_f; (first | exact rfl | assumption)) | (apply cd_d <;> intro h) | (apply cd_s <;> intro h))
        | (apply aops_add; exact rfl; exact rfl; exact wrap_i64 (by omega) (by omega))
        | (apply aops_nilNeNil; exact rfl; exact rfl)
        | (apply aops_alloc; exact rfl; exact rfl)
        | (apply aops_load_pp; exact rfl; exact rfl; exact rfl)
        | (apply aops_load_loc; exact rfl; exact rfl; exact rfl; exact rfl; exact rfl)
        | (apply aops_store_loc; exact rfl; exact rfl; exact rfl; exact rfl; exact rfl; exact rfl; exact rfl; exact rfl; exact rfl; exact rfl; exact rfl)
        | apply awp_skip
        | (apply aops_call1; exact Tryz.call111; exact foldCheck0_c _ _ hka ha)
        | (apply aops_indexAddr (n := pre.length); exact rfl; exact rfl; exact rfl; exact rfl; exact rfl; exact hget))
      refine ⟨fun x hx => ?_, stE_mk ⟨rfl, rfl, iv_snoc pre a, trivial⟩ rfl⟩
      rcases List.mem_append.1 hx with hx | hx
      · exact h3 x hx
      · simp at hx; subst hx; exact ha
    · have he := chkFrom_app 0 pre (a :: rest) h3
      rw [← hr, chkFrom, if_neg ha] at he
      rw [he]
      repeat' (first
        | (apply aops_boxP; exact rfl; exact rfl; exact rfl)
        | apply awp_seq
        | apply awp_block
        | apply awp_region
        | apply aops_nil
        | apply aops_move
        | apply aops_assign
        | (apply aops_cmpI; exact rfl; exact rfl; exact rfl)
        | (apply awp_cond_any; exact rfl; first | (apply cd_dt; (first | assumption | omega)) | (apply cd_df; (first | assumption | omega)) | (apply cd_nt; (first | exact rfl | assumption)) | (apply cd_nf; (first | exact rfl | assumption)) | (apply cd_n <;> intro h) | (apply cd_t; (first | exact rfl | assumption)) | (apply cd_f; (first | exact rfl | assumption)) | (apply cd_d <;> intro h) | (apply cd_s <;> intro h))
        | (apply aops_errNeNil; exact rfl; exact rfl)
        | (apply aops_makeInterface; exact rfl; exact rfl)
        | (apply aops_alloc; exact rfl; exact rfl)
        | (apply aops_load_pp; exact rfl; exact rfl; exact rfl)
        | (apply aops_load_loc; exact rfl; exact rfl; exact rfl; exact rfl; exact rfl)
        | (apply aops_store_loc; exact rfl; exact rfl; exact rfl; exact rfl; exact rfl; exact rfl; exact rfl; exact rfl; exact rfl; exact rfl; exact rfl)
        | (apply aops_build; exact rfl; exact rfl; exact rfl)
        | apply awp_skip
        | apply awp_ret
        | (apply aops_call1; exact Tryz.call111; exact foldCheck1_c _ _ hka ha)
        | (apply aops_indexAddr (n := pre.length); exact rfl; exact rfl; exact rfl; exact rfl; exact rfl; exact hget))
      refine aret_plain rfl (ares_one rfl) ⟨?_, ext_end _ _ _ _⟩
      rw [Nat.zero_add]
      rfl
theorem egood_c (x : EditV) (st : List AObj) (e : ErrV) (h : gErr x = e) (hK : KeyB x.fields) (hl : x.fields.length < 9223372036854775808) : ACall E 76 [editA x] st fun r st' => r = errA e ∧ st' = st := by
  subst h
  refine acall_pure (errA_pure _) (acall_of_awp Tryz.func76 rfl (Nat.le_of_ble_eq_true rfl) ?_)
  have hml : (x.fields.map fldA).length = x.fields.length := by simp
  have hpos : x.fields = [] ↔ x.fields.length = 0 := by simp
  unfold gErr
  by_cases h2 : x.kind = 2
  · rw [if_pos h2]
    by_cases h0 : x.fields = []
    · rw [if_pos h0]
      have hz := hpos.1 h0
      repeat' (first
        | apply awp_seq
        | apply awp_block
        | apply awp_region
        | apply aops_nil
        | apply aops_assign
        | (apply aops_cmpI; exact rfl; exact rfl; exact rfl)
        | (apply awp_cond_any; exact rfl; first | (apply cd_dt; (first | assumption | omega)) | (apply cd_df; (first | assumption | omega)) | (apply cd_nt; (first | exact rfl | assumption)) | (apply cd_nf; (first | exact rfl | assumption)) | (apply cd_n <;> intro h) | (apply cd_t; (first | exact rfl | assumption)) | (apply cd_f; (first | exact rfl | assumption)) | (apply cd_d <;> intro h) | (apply cd_s <;> intro h))
        | (apply aops_lenL; exact rfl; exact rfl; exact rfl; exact rfl)
        | (apply aops_box; exact rfl; exact rfl; exact rfl; exact rfl)
        | (apply aops_fieldAddr_bx; exact rfl; exact rfl; exact rfl)
        | (apply aops_load_loc; exact rfl; exact rfl; exact rfl; exact rfl; exact rfl)
        | apply awp_skip
        | apply awp_ret)
      exact aret_plain rfl (ares_one rfl) ⟨rfl, _, rfl⟩
    · rw [if_neg h0]
      have hz : 0 < x.fields.length := List.length_pos_iff.2 h0
      repeat' (first
        | apply awp_seq
        | apply awp_block
        | apply awp_region
        | apply aops_nil
        | apply aops_assign
        | (apply aops_cmpI; exact rfl; exact rfl; exact rfl)
        | (apply awp_cond_any; exact rfl; first | (apply cd_dt; (first | assumption | omega)) | (apply cd_df; (first | assumption | omega)) | (apply cd_nt; (first | exact rfl | assumption)) | (apply cd_nf; (first | exact rfl | assumption)) | (apply cd_n <;> intro h) | (apply cd_t; (first | exact rfl | assumption)) | (apply cd_f; (first | exact rfl | assumption)) | (apply cd_d <;> intro h) | (apply cd_s <;> intro h))
        | (apply aops_lenL; exact rfl; exact rfl; exact rfl; exact rfl)
        | (apply aops_makeInterface; exact rfl; exact rfl)
        | (apply aops_box; exact rfl; exact rfl; exact rfl; exact rfl)
        | (apply aops_fieldAddr_bx; exact rfl; exact rfl; exact rfl)
        | (apply aops_load_loc; exact rfl; exact rfl; exact rfl; exact rfl; exact rfl)
        | apply awp_ret)
      exact aret_plain rfl (ares_one rfl) ⟨rfl, _, rfl⟩
  · rw [if_neg h2]
    by_cases h1 : x.kind = 1
    · rw [if_pos (.inl h1)]
      repeat' (first
        | apply awp_seq
        | apply awp_block
        | apply awp_region
        | apply aops_nil
        | apply aops_assign
        | (apply aops_cmpI; exact rfl; exact rfl; exact rfl)
        | (apply awp_cond_any; exact rfl; first | (apply cd_dt; (first | assumption | omega)) | (apply cd_df; (first | assumption | omega)) | (apply cd_nt; (first | exact rfl | assumption)) | (apply cd_nf; (first | exact rfl | assumption)) | (apply cd_n <;> intro h) | (apply cd_t; (first | exact rfl | assumption)) | (apply cd_f; (first | exact rfl | assumption)) | (apply cd_d <;> intro h) | (apply cd_s <;> intro h))
        | (apply aops_box; exact rfl; exact rfl; exact rfl; exact rfl)
        | (apply aops_fieldAddr_bx; exact rfl; exact rfl; exact rfl)
        | (apply aops_load_loc; exact rfl; exact rfl; exact rfl; exact rfl; exact rfl)
        | apply awp_skip
        | apply awp_ret
        | (apply aops_call1; exact Tryz.call109; exact pcheck_c _ _ _ rfl hK hl))
      exact aret_plain rfl (ares_one rfl) ⟨rfl, _, rfl⟩
    · by_cases h3 : x.kind = 3
      · rw [if_pos (.inr h3)]
        repeat' (first
          | apply awp_seq
          | apply awp_block
          | apply awp_region
          | apply aops_nil
          | apply aops_assign
          | (apply aops_cmpI; exact rfl; exact rfl; exact rfl)
          | (apply awp_cond_any; exact rfl; first | (apply cd_dt; (first | assumption | omega)) | (apply cd_df; (first | assumption | omega)) | (apply cd_nt; (first | exact rfl | assumption)) | (apply cd_nf; (first | exact rfl | assumption)) | (apply cd_n <;> intro h) | (apply cd_t; (first | exact rfl | assumption)) | (apply cd_f; (first | exact rfl | assumption)) | (apply cd_d <;> intro h) | (apply cd_s <;> intro h))
          | (apply aops_box; exact rfl; exact rfl; exact rfl; exact rfl)
          | (apply aops_fieldAddr_bx; exact rfl; exact rfl; exact rfl)
          | (apply aops_load_loc; exact rfl; exact rfl; exact rfl; exact rfl; exact rfl)
          | apply awp_ret
          | (apply aops_call1; exact Tryz.call109; exact pcheck_c _ _ _ rfl hK hl))
        exact aret_plain rfl (ares_one rfl) ⟨rfl, _, rfl⟩
      · rw [if_neg (by rintro (h | h) <;> contradiction)]
        repeat' (first
          | apply awp_seq
          | apply awp_block
          | apply awp_region
          | apply aops_nil
          | apply aops_assign
          | (apply aops_cmpI; exact rfl; exact rfl; exact rfl)
          | (apply awp_cond_any; exact rfl; first | (apply cd_dt; (first | assumption | omega)) | (apply cd_df; (first | assumption | omega)) | (apply cd_nt; (first | exact rfl | assumption)) | (apply cd_nf; (first | exact rfl | assumption)) | (apply cd_n <;> intro h) | (apply cd_t; (first | exact rfl | assumption)) | (apply cd_f; (first | exact rfl | assumption)) | (apply cd_d <;> intro h) | (apply cd_s <;> intro h))
          | (apply aops_makeInterface; exact rfl; exact rfl)
          | (apply aops_box; exact rfl; exact rfl; exact rfl; exact rfl)
          | (apply aops_fieldAddr_bx; exact rfl; exact rfl; exact rfl)
          | (apply aops_load_loc; exact rfl; exact rfl; exact rfl; exact rfl; exact rfl)
          | apply awp_skip
          | apply awp_ret)
        exact aret_plain rfl (ares_one rfl) ⟨rfl, _, rfl⟩
theorem ebareN_c (n : Int) (st : List AObj) : ACall E 110 [.ifc 31 (Iv n)] st fun r st' => r = .ifc 31 (Iv n) ∧ st' = st := by
  refine acall_pure (pure_ifc (pure_v _)) (acall_of_awp Tryz.func110 rfl (Nat.le_of_ble_eq_true rfl) ?_)
  repeat' (first
    | apply awp_seq
    | apply awp_region
    | apply aops_nil
    | apply aops_move
    | apply aops_assign
    | (apply awp_cond_any; exact rfl; first | (apply cd_dt; (first | assumption | omega)) | (apply cd_df; (first | assumption | omega)) | (apply cd_nt; (first | exact rfl | assumption)) | (apply cd_nf; (first | exact rfl | assumption)) | (apply cd_n <;> intro h) | (apply cd_t; (first | exact rfl | assumption)) | (apply cd_f; (first | exact rfl | assumption)) | (apply cd_d <;> intro h) | (apply cd_s <;> intro h))
    | (apply aops_makeInterface; exact rfl; exact rfl)
    | (apply aops_alloc; exact rfl; exact rfl)
    | apply awp_skip
    | apply awp_ret
    | (apply aops_call1; exact Tryz.call144; exact asMiss_c _ (st.length + 0) _ (get_loc rfl)))
  exact aret_plain rfl (ares_one rfl) ⟨rfl, _, rfl⟩
theorem ebareF_c (a n : Int) (st : List AObj) : ACall E 110 [faultA a n] st fun r st' => r = .ifc 31 (Iv n) ∧ st' = st := by
  refine acall_pure (pure_ifc (pure_v _)) (acall_of_awp Tryz.func110 rfl (Nat.le_of_ble_eq_true rfl) ?_)
  repeat' (first
    | apply awp_seq
    | apply awp_region
    | apply aops_nil
    | apply aops_move
    | apply aops_assign
    | (apply awp_cond_any; exact rfl; first | (apply cd_dt; (first | assumption | omega)) | (apply cd_df; (first | assumption | omega)) | (apply cd_nt; (first | exact rfl | assumption)) | (apply cd_nf; (first | exact rfl | assumption)) | (apply cd_n <;> intro h) | (apply cd_t; (first | exact rfl | assumption)) | (apply cd_f; (first | exact rfl | assumption)) | (apply cd_d <;> intro h) | (apply cd_s <;> intro h))
    | (apply aops_makeInterface; exact rfl; exact rfl)
    | (apply aops_alloc; exact rfl; exact rfl)
    | (apply aops_fieldAddr_pp; exact rfl; exact rfl; exact rfl; exact rfl)
    | (apply aops_load_pp; exact rfl; exact rfl; exact rfl)
    | (apply aops_nilCheck; exact rfl; exact rfl)
    | apply awp_ret
    | (apply aops_call1; exact Tryz.call144; exact asHit_c a n (st.length + 0) _ (get_loc rfl))
    | (apply aops_load_bx; exact rfl; (focus first | assumption | (repeat' (first | assumption | exact get_end | exact get_loc rfl | apply get_set | apply get_set_ne | omega | apply get_pre'))); exact rfl; exact rfl))
  exact aret_plain rfl (ares_one rfl) ⟨rfl, ext_low fun j hj => (get_set_low (by omega)).trans (List.getElem?_append_left hj)⟩
theorem efault_c (k : Int) (e : ErrV) (st : List AObj) (he : e.code ≠ 0) : ACall E 77 [Iv k, errA e] st fun r st' => r = errA (.at' k e.code) ∧ st' = st := by
  refine acall_pure (errA_pure _) (acall_of_awp Tryz.func77 rfl (Nat.le_of_ble_eq_true rfl) ?_)
  cases e with
  | no => exact absurd rfl he
  | num n =>
    repeat' (first
      | (apply aops_boxP; exact rfl; exact rfl; exact rfl)
      | apply awp_seq
      | apply awp_region
      | apply aops_nil
      | apply aops_move
      | apply aops_assign
      | (apply aops_makeInterface; exact rfl; exact rfl)
      | (apply aops_build; exact rfl; exact rfl; exact rfl)
      | apply awp_ret
      | (apply aops_call1; exact Tryz.call110; exact ebareN_c _ _))
    exact aret_plain rfl (ares_one rfl) ⟨rfl, _, rfl⟩
  | at' a n =>
    repeat' (first
      | (apply aops_boxP; exact rfl; exact rfl; exact rfl)
      | apply awp_seq
      | apply awp_region
      | apply aops_nil
      | apply aops_move
      | apply aops_assign
      | (apply aops_makeInterface; exact rfl; exact rfl)
      | (apply aops_build; exact rfl; exact rfl; exact rfl)
      | apply awp_ret
      | (apply aops_call1; exact Tryz.call110; exact ebareF_c a n _))
    exact aret_plain rfl (ares_one rfl) ⟨rfl, _, rfl⟩
structure EdB (x : EditV) : Prop where
  keys : KeyB x.fields
  len : x.fields.length < 9223372036854775808
  id1 : -9223372036854775808 ≤ x.id
  id2 : x.id ≤ 9223372036854775807
@[reducible] def editsA (b : List EditV) : AV := .sl 3 (b.map editA) none
theorem echeck_c (b : List EditV) (st : List AObj) (e : ErrV) (h : eErr b = e) (hB : ∀ x ∈ b, EdB x) (hl : b.length < 9223372036854775808) : ACall E 39 [editsA b] st fun r st' => r = errA e ∧ st' = st := by
  subst h
  refine acall_pure (errA_pure _) (acall_of_awp Tryz.func39 rfl (Nat.le_of_ble_eq_true rfl) ?_)
  have hml : (b.map editA).length = b.length := by simp
  by_cases h1 : b.length < 1 ∨ 40 < b.length
  · have hc : eErr b = .num 1 := if_pos h1
    rw [hc]
    rcases h1 with h1 | h1
    · skip
      repeat' (first
        | apply awp_seq
        | apply awp_region
        | apply aops_nil
        | apply aops_move
        | apply aops_assign
        | (apply aops_cmpI; exact rfl; exact rfl; exact rfl)
        | (apply aops_guard_any; exact rfl; exact rfl; exact rfl; exact rfl)
        | (apply gd_skip_d; (first | assumption | omega))
        | (apply aops_pick_any; exact rfl; first | (apply pk_dt; (first | assumption | omega)) | (apply pk_df; (first | assumption | omega)) | (apply pk_nt; (first | exact rfl | assumption)) | (apply pk_nf; (first | exact rfl | assumption)) | (apply pk_t; (first | exact rfl | assumption)) | (apply pk_f; (first | exact rfl | assumption)))
        | (apply awp_cond_any; exact rfl; first | (apply cd_dt; (first | assumption | omega)) | (apply cd_df; (first | assumption | omega)) | (apply cd_nt; (first | exact rfl | assumption)) | (apply cd_nf; (first | exact rfl | assumption)) | (apply cd_n <;> intro h) | (apply cd_t; (first | exact rfl | assumption)) | (apply cd_f; (first | exact rfl | assumption)) | (apply cd_d <;> intro h) | (apply cd_s <;> intro h))
        | (apply aops_lenL; exact rfl; exact rfl; exact rfl; exact rfl)
        | (apply aops_makeInterface; exact rfl; exact rfl)
        | apply awp_ret)
      exact aret_plain rfl (ares_one rfl) ⟨rfl, _, rfl⟩
    · skip
      repeat' (first
        | apply awp_seq
        | apply awp_region
        | apply aops_nil
        | apply aops_move
        | apply aops_assign
        | (apply aops_cmpI; exact rfl; exact rfl; exact rfl)
        | (apply aops_guard_any; exact rfl; exact rfl; exact rfl; exact rfl)
        | (apply gd_run_n; (first | assumption | omega))
        | (apply aops_pick_any; exact rfl; first | (apply pk_dt; (first | assumption | omega)) | (apply pk_df; (first | assumption | omega)) | (apply pk_nt; (first | exact rfl | assumption)) | (apply pk_nf; (first | exact rfl | assumption)) | (apply pk_t; (first | exact rfl | assumption)) | (apply pk_f; (first | exact rfl | assumption)))
        | (apply awp_cond_any; exact rfl; first | (apply cd_dt; (first | assumption | omega)) | (apply cd_df; (first | assumption | omega)) | (apply cd_nt; (first | exact rfl | assumption)) | (apply cd_nf; (first | exact rfl | assumption)) | (apply cd_n <;> intro h) | (apply cd_t; (first | exact rfl | assumption)) | (apply cd_f; (first | exact rfl | assumption)) | (apply cd_d <;> intro h) | (apply cd_s <;> intro h))
        | (apply aops_lenL; exact rfl; exact rfl; exact rfl; exact rfl)
        | (apply aops_makeInterface; exact rfl; exact rfl)
        | apply awp_ret)
      exact aret_plain rfl (ares_one rfl) ⟨rfl, _, rfl⟩
  have hc : eErr b = eFrom 0 b := if_neg h1
  rw [hc]
  repeat' (first
    | apply awp_seq
    | apply awp_block
    | apply awp_region
    | apply aops_nil
    | apply aops_move
    | apply aops_assign
    | (apply aops_cmpI; exact rfl; exact rfl; exact rfl)
    | (apply aops_guard_any; exact rfl; exact rfl; exact rfl; exact rfl)
    | (apply gd_run_n; (first | assumption | omega))
    | (apply aops_pick_any; exact rfl; first | (apply pk_dt; (first | assumption | omega)) | (apply pk_df; (first | assumption | omega)) | (apply pk_nt; (first | exact rfl | assumption)) | (apply pk_nf; (first | exact rfl | assumption)) | (apply pk_t; (first | exact rfl | assumption)) | (apply pk_f; (first | exact rfl | assumption)))
    | (apply awp_cond_any; exact rfl; first | (apply cd_dt; (first | assumption | omega)) | (apply cd_df; (first | assumption | omega)) | (apply cd_nt; (first | exact rfl | assumption)) | (apply cd_nf; (first | exact rfl | assumption)) | (apply cd_n <;> intro h) | (apply cd_t; (first | exact rfl | assumption)) | (apply cd_f; (first | exact rfl | assumption)) | (apply cd_d <;> intro h) | (apply cd_s <;> intro h))
    | (apply aops_lenL; exact rfl; exact rfl; exact rfl; exact rfl)
    | apply awp_skip)
  refine awp_loopL b (fun pre s => (∀ x ∈ pre, (gErr x).code = 0) ∧ StE [(15, editsA b), (16, Iv b.length), (17, Iv pre.length)] st [] s) ⟨by simp, stE_mk0 ⟨rfl, congrArg (fun n : Nat => Iv (n : Int)) hml, rfl, trivial⟩ rfl⟩ ?_ ?_
  · rintro _ ⟨h3, t, ext, rfl⟩
    have he := eFrom_app 0 b [] h3
    rw [List.append_nil] at he
    rw [he]
    repeat' (first
      | apply awp_seq
      | apply awp_region
      | apply aops_nil
      | apply aops_assign
      | (apply aops_cmpI; exact rfl; exact rfl; exact rfl)
      | (apply awp_cond_any; exact rfl; first | (apply cd_dt; (first | assumption | omega)) | (apply cd_df; (first | assumption | omega)) | (apply cd_nt; (first | exact rfl | assumption)) | (apply cd_nf; (first | exact rfl | assumption)) | (apply cd_n <;> intro h) | (apply cd_t; (first | exact rfl | assumption)) | (apply cd_f; (first | exact rfl | assumption)) | (apply cd_d <;> intro h) | (apply cd_s <;> intro h))
      | apply awp_exit
      | apply awp_ret)
    exact aret_plain rfl (ares_one rfl) ⟨rfl, ext_end _ _ _ _⟩
  · rintro pre a rest _ hr ⟨h3, t, ext, rfl⟩
    have hrlen : b.length = pre.length + (rest.length + 1) := by rw [hr]; simp
    have hget : (b.map editA)[pre.length]? = some (editA a) := by rw [hr]; simp
    have hka := hB a (by rw [hr]; simp)
    by_cases ha : (gErr a).code = 0
    · have hn := (gErr_code a).1 ha
      repeat' (first
        | apply awp_seq
        | apply awp_block
        | apply awp_region
        | apply aops_nil
        | apply aops_move
        | apply aops_assign
        | (apply aops_cmpI; exact rfl; exact rfl; exact rfl)
        | (apply awp_cond_any; exact rfl; first | (apply cd_dt; (first | assumption | omega)) | (apply cd_df; (first | assumption | omega)) | (apply cd_nt; (first | exact rfl | assumption)) | (apply cd_nf; (first | exact rfl | assumption)) | (apply cd_n <;> intro h) | (apply cd_t; (first | exact rfl | assumption)) | (apply cd_f; (first | exact rfl | assumption)) | (apply cd_d <;> intro h) | (apply cd_s <;> intro h))
        | (apply aops_add; exact rfl; exact rfl; exact wrap_i64 (by omega) (by omega))
        | (apply aops_nilNeNil; exact rfl; exact rfl)
        | (apply aops_alloc; exact rfl; exact rfl)
        | (apply aops_load_pp; exact rfl; exact rfl; exact rfl)
        | (apply aops_load_loc; exact rfl; exact rfl; exact rfl; exact rfl; exact rfl)
        | (apply aops_store_loc; exact rfl; exact rfl; exact rfl; exact rfl; exact rfl; exact rfl; exact rfl; exact rfl; exact rfl; exact rfl; exact rfl)
        | apply awp_skip
        | (apply aops_call1; exact Tryz.call76; exact egood_c _ _ _ hn hka.keys hka.len)
        | (apply aops_indexAddr (n := pre.length); exact rfl; exact rfl; exact rfl; exact rfl; exact rfl; exact hget))
      refine ⟨fun x hx => ?_, stE_mk ⟨rfl, rfl, iv_snoc pre a, trivial⟩ rfl⟩
      rcases List.mem_append.1 hx with hx | hx
      · exact h3 x hx
      · simp at hx; subst hx; exact ha
    · have he := eFrom_app 0 pre (a :: rest) h3
      rw [← hr, eFrom, if_neg ha, Nat.zero_add] at he
      rw [he]
      cases hg : gErr a with
      | no => rw [hg] at ha; exact absurd rfl ha
      | num n =>
        have ha2 : (ErrV.num n).code ≠ 0 := by rw [← hg]; exact ha
        repeat' (first
          | apply awp_seq
          | apply awp_block
          | apply awp_region
          | apply aops_nil
          | apply aops_move
          | apply aops_assign
          | (apply aops_cmpI; exact rfl; exact rfl; exact rfl)
          | (apply awp_cond_any; exact rfl; first | (apply cd_dt; (first | assumption | omega)) | (apply cd_df; (first | assumption | omega)) | (apply cd_nt; (first | exact rfl | assumption)) | (apply cd_nf; (first | exact rfl | assumption)) | (apply cd_n <;> intro h) | (apply cd_t; (first | exact rfl | assumption)) | (apply cd_f; (first | exact rfl | assumption)) | (apply cd_d <;> intro h) | (apply cd_s <;> intro h))
          | (apply aops_errNeNil; exact rfl; exact rfl)
          | (apply aops_alloc; exact rfl; exact rfl)
          | (apply aops_load_pp; exact rfl; exact rfl; exact rfl)
          | (apply aops_load_loc; exact rfl; exact rfl; exact rfl; exact rfl; exact rfl)
          | (apply aops_store_loc; exact rfl; exact rfl; exact rfl; exact rfl; exact rfl; exact rfl; exact rfl; exact rfl; exact rfl; exact rfl; exact rfl)
          | apply awp_skip
          | apply awp_ret
          | (apply aops_call1; exact Tryz.call76; exact egood_c _ _ _ hg hka.keys hka.len)
          | (apply aops_call1; exact Tryz.call77; exact efault_c _ (.num n) _ ha2)
          | (apply aops_indexAddr (n := pre.length); exact rfl; exact rfl; exact rfl; exact rfl; exact rfl; exact hget))
        exact aret_plain rfl (ares_one rfl) ⟨rfl, ext_end _ _ _ _⟩
      | at' p n =>
        have ha2 : (ErrV.at' p n).code ≠ 0 := by rw [← hg]; exact ha
        repeat' (first
          | apply awp_seq
          | apply awp_block
          | apply awp_region
          | apply aops_nil
          | apply aops_move
          | apply aops_assign
          | (apply aops_cmpI; exact rfl; exact rfl; exact rfl)
          | (apply awp_cond_any; exact rfl; first | (apply cd_dt; (first | assumption | omega)) | (apply cd_df; (first | assumption | omega)) | (apply cd_nt; (first | exact rfl | assumption)) | (apply cd_nf; (first | exact rfl | assumption)) | (apply cd_n <;> intro h) | (apply cd_t; (first | exact rfl | assumption)) | (apply cd_f; (first | exact rfl | assumption)) | (apply cd_d <;> intro h) | (apply cd_s <;> intro h))
          | (apply aops_errNeNil; exact rfl; exact rfl)
          | (apply aops_alloc; exact rfl; exact rfl)
          | (apply aops_load_pp; exact rfl; exact rfl; exact rfl)
          | (apply aops_load_loc; exact rfl; exact rfl; exact rfl; exact rfl; exact rfl)
          | (apply aops_store_loc; exact rfl; exact rfl; exact rfl; exact rfl; exact rfl; exact rfl; exact rfl; exact rfl; exact rfl; exact rfl; exact rfl)
          | apply awp_skip
          | apply awp_ret
          | (apply aops_call1; exact Tryz.call76; exact egood_c _ _ _ hg hka.keys hka.len)
          | (apply aops_call1; exact Tryz.call77; exact efault_c _ (.at' p n) _ ha2)
          | (apply aops_indexAddr (n := pre.length); exact rfl; exact rfl; exact rfl; exact rfl; exact rfl; exact hget))
        exact aret_plain rfl (ares_one rfl) ⟨rfl, ext_end _ _ _ _⟩
end Go.Proofs.YtplagcbifecagaaGreatDoor
set_option maxRecDepth 100000
set_option linter.unusedVariables false
namespace Go.Proofs.YtplagcbifecagaaGreatDoor
open Go Go.Av Go.RowKit Go.Proofs Go.Pl
def encOne (x : EditV) : Bytes := lineE x ++ [10] ++ indentF [32, 32] (foldF x.fields)
def encF (b : List EditV) : Bytes := b.flatMap encOne
theorem encF_app (a b : List EditV) : encF (a ++ b) = encF a ++ encF b := by simp [encF]
theorem encF_one (x : EditV) : encF [x] = encOne x := by simp [encF]
theorem chkFrom_no : ∀ (k : Nat) (r : List Fld), chkFrom k r = .no ↔ ∀ f ∈ r, goodFld f
  | k, [] => by simp [chkFrom]
  | k, f :: r => by
    unfold chkFrom
    split
    · rename_i h
      rw [chkFrom_no (k + 1) r]
      have := (checkF_good f).1 h
      simp [this]
    · rename_i h
      have h2 : ¬ goodFld f := fun g => h ((checkF_good f).2 g)
      simp [h2]
theorem checkFs_no {fs : List Fld} (h : checkFs fs = .no) : fs ≠ [] ∧ fs.length ≤ 40 ∧ ∀ f ∈ fs, goodFld f := by
  unfold checkFs at h
  split at h
  · exact absurd h (by simp)
  · split at h
    · exact absurd h (by simp)
    · exact ⟨by assumption, by omega, (chkFrom_no _ _).1 h⟩
theorem gErr_no {x : EditV} (h : gErr x = .no) : x.fields.length ≤ 40 ∧ ∀ f ∈ x.fields, goodFld f := by
  unfold gErr at h
  split at h
  · split at h
    · rename_i h0; rw [h0]; simp
    · exact absurd h (by simp)
  · split at h
    · exact (checkFs_no h).2
    · exact absurd h (by simp)
theorem eFrom_no : ∀ (k : Nat) (b : List EditV), eFrom k b = .no ↔ ∀ x ∈ b, gErr x = .no
  | k, [] => by simp [eFrom]
  | k, x :: b => by
    unfold eFrom
    split
    · rename_i h
      rw [eFrom_no (k + 1) b]
      have := (gErr_code x).1 h
      simp [this]
    · rename_i h
      have h2 : ¬ gErr x = .no := fun g => h ((gErr_code x).2 g)
      simp [h2]
theorem eErr_no {b : List EditV} (h : eErr b = .no) : 1 ≤ b.length ∧ b.length ≤ 40 ∧ ∀ x ∈ b, gErr x = .no := by
  unfold eErr at h
  split at h
  · exact absurd h (by simp)
  · exact ⟨by omega, by omega, (eFrom_no _ _).1 h⟩
theorem good_W {fs : List Fld} (hl : fs.length ≤ 40) (h : ∀ f ∈ fs, goodFld f) : FldsW fs := ⟨by omega, fun f hf => by
  have := h f hf
  have h1 := this.1.2.1
  have h2 := this.2
  omega⟩
theorem foldGood_c (xs : List FldV) (st : List AObj) (hl : xs.length ≤ 40) (h : ∀ f ∈ xs, goodFld f) : ACall E 40 [fldsA xs] st fun r st' => r = .tu [Sv (foldF xs), .v .nilIface] ∧ st' = st := by
  have := fold_c xs st (good_W hl h)
  unfold foldA at this
  have h0 := (errF_zero xs).2 h
  rw [if_pos h0, h0] at this
  exact this
theorem indentF_len (l : Bytes) : (indentF [32, 32] l).length ≤ 3 * l.length := by
  unfold indentF
  obtain ⟨h1, h2⟩ := lines_sum _ l (Nat.le_refl _)
  have := indF_len [32, 32] (linesOf l)
  simp only [List.length_cons, List.length_nil] at this
  omega
theorem lineE_len (x : EditV) (h1 : -9223372036854775808 ≤ x.id) (h2 : x.id ≤ 9223372036854775807) : (lineE x).length ≤ 100 := by
  have hn := Lib.itoa_length_le x.id h1 h2
  unfold lineE headOf
  split
  · split
    · simp; omega
    · split
      · simp; omega
      · split <;> simp <;> omega
  · simp
theorem encOne_len {x : EditV} (hB : EdB x) (h : gErr x = .no) : (encOne x).length ≤ 700000 := by
  obtain ⟨hl, hg⟩ := gErr_no h
  have h1 := foldF_len x.fields hg
  have h2 := indentF_len (foldF x.fields)
  have h3 := lineE_len x hB.id1 hB.id2
  unfold encOne
  simp only [List.length_append, List.length_cons, List.length_nil]
  omega
theorem encF_len : ∀ (b : List EditV), (∀ x ∈ b, EdB x) → (∀ x ∈ b, gErr x = .no) → (encF b).length ≤ 700000 * b.length
  | [], _, _ => by simp [encF]
  | x :: r, hB, h => by
    have ih := encF_len r (fun y hy => hB y (by simp [hy])) (fun y hy => h y (by simp [hy]))
    have h1 := encOne_len (hB x (by simp)) (h x (by simp))
    have e : encF (x :: r) = encOne x ++ encF r := by simp [encF]
    rw [e, List.length_append, List.length_cons]
    omega
set_option maxHeartbeats 2000000 in
theorem encode0_c (b : List EditV) (st : List AObj) (hB : ∀ x ∈ b, EdB x) (he : eErr b = .no) : ACall E 13 [editsA b] st fun r st' => r = .tu [Sv (encF b), .v .nilIface] ∧ st' = st := by
  refine acall_pure (pure_tu2 (pure_v _) (pure_v _)) (acall_of_awp Tryz.func13 rfl (Nat.le_of_ble_eq_true rfl) ?_)
  have hml : (b.map editA).length = b.length := by simp
  obtain ⟨hb1, hb40, hg⟩ := eErr_no he
  have hel := encF_len b hB hg
  repeat' (first
    | (apply aops_allocB; exact rfl)
    | apply awp_seq
    | apply awp_block
    | apply awp_region
    | apply aops_nil
    | apply aops_move
    | apply aops_assign
    | (apply awp_cond_any; exact rfl; first | (apply cd_dt; (first | assumption | omega)) | (apply cd_df; (first | assumption | omega)) | (apply cd_nt; (first | exact rfl | assumption)) | (apply cd_nf; (first | exact rfl | assumption)) | (apply cd_n <;> intro h) | (apply cd_t; (first | exact rfl | assumption)) | (apply cd_f; (first | exact rfl | assumption)) | (apply cd_d <;> intro h) | (apply cd_s <;> intro h))
    | (apply aops_lenL; exact rfl; exact rfl; exact rfl; exact rfl)
    | (apply aops_nilNeNil; exact rfl; exact rfl)
    | apply awp_skip
    | (apply aops_call1; exact Tryz.call39; exact echeck_c _ _ _ he hB (by omega)))
  refine awp_loopL b (fun pre s => ∃ q, (q = .v (.pointer none) ∨ q = .bx (st.length + 0) 0 0) ∧ StE [(5, .bx (st.length + 0) 0 0), (15, editsA b), (16, Iv b.length), (17, Iv pre.length)] st [bldO 0 q (encF pre) (st.length + 1), .tip (encF pre).length 1 5] s) ⟨_, .inl rfl, stE_mk0 ⟨rfl, rfl, congrArg (fun n : Nat => Iv (n : Int)) hml, rfl, trivial⟩ rfl⟩ ?_ ?_
  · rintro _ ⟨q, hq, t, ext, rfl⟩
    repeat' (first
      | apply awp_seq
      | apply awp_region
      | apply aops_nil
      | apply aops_assign
      | (apply aops_cmpI; exact rfl; exact rfl; exact rfl)
      | (apply awp_cond_any; exact rfl; first | (apply cd_dt; (first | assumption | omega)) | (apply cd_df; (first | assumption | omega)) | (apply cd_nt; (first | exact rfl | assumption)) | (apply cd_nf; (first | exact rfl | assumption)) | (apply cd_n <;> intro h) | (apply cd_t; (first | exact rfl | assumption)) | (apply cd_f; (first | exact rfl | assumption)) | (apply cd_d <;> intro h) | (apply cd_s <;> intro h))
      | apply awp_exit
      | apply awp_ret
      | (refine aops_call1 Tryz.call43 (bString_mid st _ _ _ _ 0 1 0 _ _ rfl rfl rfl) ?_))
    exact aret_plain rfl (ares_two rfl) ⟨rfl, ext_end _ _ _ _⟩
  · rintro pre x rest _ hr ⟨q, hq, t, ext, rfl⟩
    have hlen : b.length = pre.length + (rest.length + 1) := by rw [hr]; simp
    have hget : (b.map editA)[pre.length]? = some (editA x) := by rw [hr]; simp
    have hxb := hB x (by rw [hr]; simp)
    have hxg := hg x (by rw [hr]; simp)
    obtain ⟨hfl, hfg⟩ := gErr_no hxg
    have hpl := encF_len pre (fun y hy => hB y (by rw [hr]; simp [hy])) (fun y hy => hg y (by rw [hr]; simp [hy]))
    have hll := lineE_len x hxb.id1 hxb.id2
    have hfo := foldF_len x.fields hfg
    have hin := indentF_len (foldF x.fields)
    repeat' (first
      | apply awp_seq
      | apply awp_block
      | apply awp_region
      | apply aops_nil
      | apply aops_move
      | apply aops_assign
      | (apply aops_extract; exact rfl; exact rfl)
      | (apply aops_cmpI; exact rfl; exact rfl; exact rfl)
      | (apply awp_cond_any; exact rfl; first | (apply cd_dt; (first | assumption | omega)) | (apply cd_df; (first | assumption | omega)) | (apply cd_nt; (first | exact rfl | assumption)) | (apply cd_nf; (first | exact rfl | assumption)) | (apply cd_n <;> intro h) | (apply cd_t; (first | exact rfl | assumption)) | (apply cd_f; (first | exact rfl | assumption)) | (apply cd_d <;> intro h) | (apply cd_s <;> intro h))
      | (apply aops_concat; exact rfl; exact rfl; (first | omega | (simp only [List.length_append, List.length_cons, List.length_nil]; omega) | (simp; omega)))
      | (apply aops_nilNeNil; exact rfl; exact rfl)
      | (apply aops_alloc; exact rfl; exact rfl)
      | (apply aops_fieldAddr_bx; exact rfl; exact rfl; exact rfl)
      | (apply aops_load_pp; exact rfl; exact rfl; exact rfl)
      | (apply aops_load_loc; exact rfl; exact rfl; exact rfl; exact rfl; exact rfl)
      | (apply aops_store_loc; exact rfl; exact rfl; exact rfl; exact rfl; exact rfl; exact rfl; exact rfl; exact rfl; exact rfl; exact rfl; exact rfl)
      | (apply aops_buildSlice; exact rfl; exact rfl; exact rfl; exact rfl; exact rfl; exact rfl; exact rfl; exact rfl; exact rfl)
      | apply awp_skip
      | (apply aops_call1; exact Tryz.call40; exact foldGood_c _ _ hfl hfg)
      | (apply aops_call1; exact Tryz.call22; exact line_c _ _ hxb.id1 hxb.id2)
      | (apply aops_call1; exact Tryz.call42; exact indent_c _ _ _ (by omega) (by decide))
      | (apply aops_indexAddr (n := pre.length); exact rfl; exact rfl; exact rfl; exact rfl; exact rfl; exact hget))
    refine aops_call1 Tryz.call41 (bWrite_mid st _ _ _ _ 0 1 0 _ _ _ rfl rfl ?_ ?_ rfl) ?_; (exact hq); (simp only [List.length_append, List.length_cons, List.length_nil]; omega)
    repeat' (first
      | apply awp_region
      | apply aops_nil
      | apply aops_move
      | (apply aops_add; exact rfl; exact rfl; exact wrap_i64 (by omega) (by omega)))
    refine ⟨_, .inr rfl, stE_mk ⟨rfl, rfl, rfl, ?_, trivial⟩ ?_⟩
    · rw [snoc_len pre x]; rfl
    · have e : encF (pre ++ [x]) = encF pre ++ ((lineE x ++ [10]) ++ indentF [32, 32] (foldF x.fields)) := by rw [encF_app, encF_one]; rfl
      rw [e]; rfl
theorem encode1_c (b : List EditV) (st : List AObj) (e : ErrV) (hB : ∀ x ∈ b, EdB x) (hl : b.length < 9223372036854775808) (he : eErr b = e) (h0 : e.code ≠ 0) : ACall E 13 [editsA b] st fun r st' => r = .tu [Sv [], errA e] ∧ st' = st := by
  refine acall_pure (pure_tu2 (pure_v _) (errA_pure _)) (acall_of_awp Tryz.func13 rfl (Nat.le_of_ble_eq_true rfl) ?_)
  cases e with
  | no => exact absurd rfl h0
  | num n =>
    repeat' (first
      | apply awp_seq
      | apply awp_region
      | apply aops_nil
      | apply aops_move
      | apply aops_assign
      | (apply awp_cond_any; exact rfl; first | (apply cd_dt; (first | assumption | omega)) | (apply cd_df; (first | assumption | omega)) | (apply cd_nt; (first | exact rfl | assumption)) | (apply cd_nf; (first | exact rfl | assumption)) | (apply cd_n <;> intro h) | (apply cd_t; (first | exact rfl | assumption)) | (apply cd_f; (first | exact rfl | assumption)) | (apply cd_d <;> intro h) | (apply cd_s <;> intro h))
      | (apply aops_errNeNil; exact rfl; exact rfl)
      | apply awp_ret
      | (apply aops_call1; exact Tryz.call39; exact echeck_c _ _ _ he hB hl))
    exact aret_plain rfl (ares_two rfl) ⟨rfl, _, rfl⟩
  | at' a n =>
    repeat' (first
      | apply awp_seq
      | apply awp_region
      | apply aops_nil
      | apply aops_move
      | apply aops_assign
      | (apply awp_cond_any; exact rfl; first | (apply cd_dt; (first | assumption | omega)) | (apply cd_df; (first | assumption | omega)) | (apply cd_nt; (first | exact rfl | assumption)) | (apply cd_nf; (first | exact rfl | assumption)) | (apply cd_n <;> intro h) | (apply cd_t; (first | exact rfl | assumption)) | (apply cd_f; (first | exact rfl | assumption)) | (apply cd_d <;> intro h) | (apply cd_s <;> intro h))
      | (apply aops_errNeNil; exact rfl; exact rfl)
      | apply awp_ret
      | (apply aops_call1; exact Tryz.call39; exact echeck_c _ _ _ he hB hl))
    exact aret_plain rfl (ares_two rfl) ⟨rfl, _, rfl⟩
end Go.Proofs.YtplagcbifecagaaGreatDoor
set_option linter.unusedVariables false
namespace Go.Av
open Go Go.RowKit
def TipO (b : Nat) (st : List AObj) (sz : Nat) (T : TypeId) (xs : List AV) (c : AV) : Prop := TipC b st sz T xs c ∨ (xs = [] ∧ ∃ o v f, c = .os o v f 0 0)
end Go.Av
set_option maxRecDepth 100000
set_option linter.unusedVariables false
namespace Go.Av
open Go Go.RowKit
theorem tipO_of {b : Nat} {st st' : List AObj} {sz : Nat} {T : TypeId} {xs : List AV} {c : AV} (hs : ∀ (t m sz : Nat) (T : TypeId), st[t]? = some (AObj.tip m sz T) → st'[t]? = st[t]?) (h : TipO b st sz T xs c) : TipO b st' sz T xs c := by
  rcases h with (h | ⟨t, h1, h2, h3⟩) | h
  · exact .inl (.inl h)
  · exact .inl (.inr ⟨t, h1, (hs t _ _ _ h2).trans h2, h3⟩)
  · exact .inr h
end Go.Av
namespace Go.Proofs.YtplagcbifecagaaGreatDoor
open Go Go.Av Go.RowKit Go.Proofs Go.Pl
structure OutI (st : List AObj) (S : List AObj) : Prop where
  low : ∀ j, j < st.length → S[j]? = st[j]?
  len : st.length ≤ S.length
theorem OutI.pre {st S l : List AObj} (h : OutI st S) : OutI st (S ++ l) := ⟨fun j hj => (List.getElem?_append_left (by have := h.len; omega)).trans (h.low j hj), by have := h.len; simp; omega⟩
theorem OutI.set {st S : List AObj} {o : Nat} {x : AObj} (h : OutI st S) (ho : st.length ≤ o) : OutI st (S.set o x) := ⟨fun j hj => (get_set_low (by omega)).trans (h.low j hj), by have := h.len; simp; omega⟩
theorem OutI.ext {st S : List AObj} (h : OutI st S) : ∃ ext, S = st ++ ext := ext_low h.low
end Go.Proofs.YtplagcbifecagaaGreatDoor
set_option maxRecDepth 100000
set_option linter.unusedVariables false
namespace Go.Pl
open Go Go.Proofs Go.Proofs.YtplagcbifecagaaGreatDoor
def GF (fs : List Fld) : Prop := fs.length ≤ 40 ∧ ∀ f ∈ fs, goodFld f
structure PI (p : PSt) : Prop where
  items : ∀ x ∈ p.items, GF x.fields ∧ (x.kind = 3 ↔ x.fields ≠ [])
  fields : GF p.fields
  full : p.lines ≠ [] → p.full = false → p.fields.length < 40
theorem unfold_good {ls : List Bytes} (h : (unfoldF ls).2 = 0) : goodFld (unfoldF ls).1 := by
  unfold unfoldF at h ⊢
  split at h
  · split at h
    · simp at h
    · rename_i h1 h2
      rw [if_pos h1, if_neg h2]
      exact ⟨(kind_four.1 h1.2.1).2.2, Nat.le_of_not_lt h2⟩
  · simp at h
theorem PI.flush {p : PSt} (h : PI p) : PI (flushP p).2 := by
  unfold flushP
  split
  · exact h
  · rename_i hl
    split
    · exact h
    · rename_i hu
      split
      · exact h
      · rename_i hf
        have hlt := h.full hl (by simpa using hf)
        refine ⟨h.items, ⟨by simp; omega, fun f hm => ?_⟩, by simp⟩
        rcases List.mem_append.1 hm with hm | hm
        · exact h.fields.2 f hm
        · simp at hm; subst hm; exact unfold_good (by simpa using hu)
theorem PI.close {p : PSt} (h : PI p) : PI (closeP p) := by
  unfold closeP
  split
  · exact ⟨h.items, ⟨by simp, by simp⟩, fun h1 h2 => by simp⟩
  · refine ⟨fun x hx => ?_, ⟨by simp, by simp⟩, fun h1 h2 => by simp⟩
    rcases List.mem_append.1 hx with hx | hx
    · exact h.items x hx
    · simp at hx
      subst hx
      refine ⟨h.fields, ?_⟩
      simp only
      split
      · rename_i h0; simp [h0]
      · rename_i h0; simp [h0]
theorem PI.end' {p : PSt} (h : PI p) : PI (endP p).2 := by
  unfold endP
  split
  · exact h
  · exact h.flush.close
theorem PI.lines' {p : PSt} (h : PI p) (hl : p.lines ≠ []) (text : Bytes) : PI { p with lines := p.lines ++ [text] } := ⟨h.items, h.fields, fun _ hf => h.full hl hf⟩
theorem PI.begin' {p : PSt} (h : PI p) (no : Int) (text : Bytes) : PI (beginP p no text) := by
  refine ⟨h.items, h.fields, fun _ hf => ?_⟩
  have := h.fields.1
  simp only [beginP, decide_eq_false_iff_not, not_or] at hf ⊢
  omega
theorem PI.ahead {p : PSt} (h : PI p) (no : Int) (text : Bytes) (ended : Bool) (kind : Int) : PI (aheadP p no text ended kind).2 := by
  unfold aheadP
  split
  · split
    · exact h
    · rename_i hl
      split
      · exact h.lines' hl text
      · exact (h.lines' hl text).flush
  · split
    · exact h.end'
    · exact h.flush
theorem PI.take {p : PSt} (h : PI p) (no : Int) (text : Bytes) (ended : Bool) : PI (takeP p no text ended).2 := by
  have ha := h.ahead no text ended (kindOf text)
  unfold takeP
  split
  · exact h
  · split
    · exact h
    · split
      · refine ⟨fun x hx => ?_, ha.fields, ha.full⟩
        rcases List.mem_append.1 hx with hx | hx
        · exact ha.items x hx
        · simp at hx; subst hx; exact ⟨⟨by simp, by simp⟩, by simp⟩
      · split
        · have hb := ha.begin' no text
          exact ⟨hb.items, hb.fields, hb.full⟩
        · exact ⟨ha.items, ha.fields, ha.full⟩
theorem PI.run : ∀ (ls : List (Bytes × Bool)) (k : Nat) (p : PSt), PI p → PI (runL k ls p).2
  | [], k, p, h => h.end'
  | (t, e) :: r, k, p, h => by
    unfold runL
    split
    · exact h
    · exact PI.run r (k + 1) _ (h.take k t e)
end Go.Pl
set_option maxRecDepth 100000
set_option linter.unusedVariables false
namespace Go.Proofs.YtplagcbifecagaaGreatDoor
open Go Go.Av Go.RowKit Go.Proofs Go.Pl
structure PartsI (st : List AObj) (text : Bytes) (out : List Bytes) (frm : Nat) (c : AV) (S : List AObj) : Prop where
  low : ∀ j, j < st.length → S[j]? = st[j]?
  c0 : S[st.length + 0]? = some (.cells 0 9 [Sv text])
  c1 : S[st.length + 1]? = some (.cells 0 60 [c])
  c2 : S[st.length + 2]? = some (.cells 0 3 [Iv frm])
  c3 : S[st.length + 3]? = some (.cells 0 9 [Sv text])
  tip : TipO (st.length + 4) S 1 9 (out.map fun x => Sv x) c
theorem PartsI.ext {st : List AObj} {text : Bytes} {out : List Bytes} {frm : Nat} {c : AV} {S S' : List AObj} (h : PartsI st text out frm c S) (hE : Ext (st.length + 4) S S') : PartsI st text out frm c S' :=
  ⟨fun j hj => (hE.low j (by omega)).trans (h.low j hj), (hE.low _ (by omega)).trans h.c0, (hE.low _ (by omega)).trans h.c1, (hE.low _ (by omega)).trans h.c2, (hE.low _ (by omega)).trans h.c3, tipO_of hE.tips h.tip⟩
end Go.Proofs.YtplagcbifecagaaGreatDoor
set_option maxRecDepth 100000
set_option linter.unusedVariables false
namespace Go.Proofs.YtplagcbifecagaaGreatDoor
open Go Go.Av Go.RowKit Go.Proofs Go.Pl
theorem take_next {α : Type} [DecidableEq α] {a b : List α} {k : Nat} {d : α} (hl : a.length = b.length) (hk : k < a.length) (h : a.take k = b.take k) (h2 : a.getD k d = b.getD k d) : a.take (k + 1) = b.take (k + 1) := by
  rw [List.take_succ_eq_append_getElem hk, List.take_succ_eq_append_getElem (by omega), h]
  congr 2
  simpa [List.getD, hk, show k < b.length by omega] using h2
end Go.Proofs.YtplagcbifecagaaGreatDoor
set_option maxRecDepth 100000
set_option linter.unusedVariables false
namespace Go.Pl
open Go Go.Proofs Go.Proofs.YtplagcbifecagaaGreatDoor
theorem textF_cons (s : Bytes) (r : List Bytes) : textF (s :: r) = s ++ 10 :: textF r := by simp [textF]
theorem linesOf_text : ∀ (ls : List Bytes), (∀ s ∈ ls, 10 ∉ s) → linesOf (textF ls) = ls.map fun s => (s, true)
  | [], _ => by simp [textF, linesOf_nil]
  | s :: r, h => by
    have hs := h s (by simp)
    rw [textF_cons, linesOf_cons (by simp), upto_app _ hs, past_app _ hs, linesOf_text r fun x hx => h x (by simp [hx])]
    simp
theorem linesF_no10 {f : Fld} (h : goodFld f) : ∀ s ∈ linesF f, 10 ∉ s := fun s hs => by
  unfold linesF at hs
  rcases List.mem_cons.1 hs with rfl | hs
  · have h1 := parts_no10 f.2 _ (head_mem f.2)
    have h2 := h.1.2.2.2.2.2
    unfold headLine
    split <;> simp_all
  · obtain ⟨x, hx, rfl⟩ := List.mem_map.1 hs
    have h1 := parts_no10 f.2 x (List.mem_of_mem_tail hx)
    have := stuff_no10 h1
    simp [this]
theorem foldF_text (fs : List Fld) : foldF fs = textF (fs.flatMap linesF) := by
  induction fs with
  | nil => rfl
  | cons f r ih =>
    rw [List.flatMap_cons, textF_app, ← ih]
    simp [foldF]
theorem flds_no10 {fs : List Fld} (h : ∀ f ∈ fs, goodFld f) : ∀ s ∈ fs.flatMap linesF, 10 ∉ s := fun s hs => by
  obtain ⟨f, hf, hs⟩ := List.mem_flatMap.1 hs
  exact linesF_no10 (h f hf) s hs
theorem indent_text {ls : List Bytes} (h : ∀ s ∈ ls, 10 ∉ s) : indentF [32, 32] (textF ls) = textF (ls.map fun s => [32, 32] ++ s) := by
  unfold indentF indF
  rw [linesOf_text ls h]
  simp only [textF, List.flatMap_map, lineEnd, if_pos]
theorem ind_no10 {ls : List Bytes} (h : ∀ s ∈ ls, 10 ∉ s) : ∀ s ∈ ls.map (fun s => [32, 32] ++ s), 10 ∉ s := fun s hs => by
  obtain ⟨x, hx, rfl⟩ := List.mem_map.1 hs
  have := h x hx
  simp [this]
def bodyL (x : EditV) : List Bytes := (x.fields.flatMap linesF).map fun s => [32, 32] ++ s
theorem itoa_digits (v : Int) : ∀ c ∈ Lib.itoa v, c ≠ 10 ∧ c ≠ 32 := fun c hc => by
  by_cases hv : v < 0
  · rw [itoa_neg hv] at hc
    rcases List.mem_cons.1 hc with rfl | hc
    · decide
    · have := decDigits_isdig _ _ (Nat.le_refl _) c hc
      constructor <;> rintro rfl <;> simp at this
  · rw [itoa_pos (by omega)] at hc
    have := decDigits_isdig _ _ (Nat.le_refl _) c hc
    constructor <;> rintro rfl <;> simp at this
theorem line_no10 (x : EditV) : 10 ∉ lineE x := by
  unfold lineE
  split
  · rename_i hk
    have h1 := itoa_digits x.id
    intro hc
    rcases List.mem_append.1 hc with hc | hc
    · have : x.kind = 1 ∨ x.kind = 2 ∨ x.kind = 3 := by omega
      rcases this with h | h | h <;> rw [h] at hc <;> revert hc <;> decide
    · exact (h1 10 hc).1 rfl
  · simp
theorem encOne_text {x : EditV} (hg : ∀ f ∈ x.fields, goodFld f) : encOne x = textF (lineE x :: bodyL x) := by
  unfold encOne bodyL
  rw [textF_cons, foldF_text, indent_text (flds_no10 hg)]
  simp
theorem body_no10 {x : EditV} (hg : ∀ f ∈ x.fields, goodFld f) : ∀ s ∈ bodyL x, 10 ∉ s := ind_no10 (flds_no10 hg)
theorem bodyL_ind {x : EditV} (hg : ∀ f ∈ x.fields, goodFld f) : ∀ s ∈ bodyL x, 10 ∉ s ∧ [32, 32] <+: s := fun s hs => ⟨body_no10 hg s hs, by
  obtain ⟨y, _, rfl⟩ := List.mem_map.1 hs
  exact List.prefix_append _ _⟩
structure EncG (x : EditV) : Prop where
  kind : x.kind = 1 ∨ x.kind = 2 ∨ x.kind = 3
  len : x.fields.length ≤ 40
  good : ∀ f ∈ x.fields, goodFld f
  id1 : -9223372036854775808 ≤ x.id
  id2 : x.id ≤ 9223372036854775807
theorem encG_of {x : EditV} (h : gErr x = .no) (hB : EdB x) : EncG x := by
  obtain ⟨h1, h2⟩ := gErr_no h
  refine ⟨?_, h1, h2, hB.id1, hB.id2⟩
  unfold gErr at h
  split at h
  · exact .inr (.inl (by assumption))
  · split at h
    · rename_i hk; omega
    · simp at h
end Go.Pl
set_option maxRecDepth 100000
set_option linter.unusedVariables false
namespace Go.Pl
open Go Go.Proofs Go.Proofs.YtplagcbifecagaaGreatDoor
def SpL (L : List Bytes) : Prop := L ≠ [] ∧ ∀ s ∈ L, 10 ∉ s ∧ [32] <+: s
def encL (b : List EditV) : List Bytes := b.flatMap fun x => lineE x :: bodyL x
theorem encF_text {b : List EditV} (hg : ∀ x ∈ b, EncG x) : encF b = textF (encL b) := by
  induction b with
  | nil => rfl
  | cons x r ih =>
    have e : encL (x :: r) = (lineE x :: bodyL x) ++ encL r := by simp [encL]
    have e2 : encF (x :: r) = encOne x ++ encF r := by simp [encF]
    rw [e, textF_app, e2, encOne_text (hg x (by simp)).good, ih fun y hy => hg y (by simp [hy])]
theorem line_sp {x : EditV} (hk : x.kind = 1 ∨ x.kind = 2 ∨ x.kind = 3) : [32] <+: lineE x := by
  unfold lineE
  rw [if_pos (by omega)]
  rcases hk with h | h | h <;> rw [h] <;> exact ⟨_, rfl⟩
theorem encL_sp {b : List EditV} (hne : b ≠ []) (hg : ∀ x ∈ b, EncG x) : SpL (encL b) := by
  refine ⟨?_, fun s hs => ?_⟩
  · cases b with
    | nil => exact absurd rfl hne
    | cons x r => simp [encL]
  · obtain ⟨x, hx, hs⟩ := List.mem_flatMap.1 hs
    have hG := hg x hx
    rcases List.mem_cons.1 hs with rfl | hs
    · exact ⟨line_no10 x, line_sp hG.kind⟩
    · obtain ⟨h1, t, ht⟩ := bodyL_ind hG.good s hs
      exact ⟨h1, [32] ++ t, by rw [← ht]; rfl⟩
theorem sp_text {L : List Bytes} (h : SpL L) : sp true (textF L) = true := by
  rw [← lines_sp _ (textF L) (Nat.le_refl _), linesOf_text L fun s hs => (h.2 s hs).1]
  intro x hx
  obtain ⟨s, hs, rfl⟩ := List.mem_map.1 hx
  exact (h.2 s hs).2
theorem text_head {L : List Bytes} (h : SpL L) : (textF L)[0]? = some 32 := by
  obtain ⟨hne, hs⟩ := h
  cases L with
  | nil => exact absurd rfl hne
  | cons s r =>
    obtain ⟨t, ht⟩ := (hs s (by simp)).2
    rw [textF_cons, ← ht]
    rfl
theorem text_last : ∀ (L : List Bytes), L ≠ [] → (textF L).getLast? = some 10
  | [], h => absurd rfl h
  | [s], _ => by rw [textF_cons]; simp [textF]
  | s :: t :: r, _ => by
    have ih := text_last (t :: r) (by simp)
    have hne : textF (t :: r) ≠ [] := fun e => by rw [e] at ih; simp at ih
    rw [textF_cons, List.getLast?_append, List.getLast?_cons, ih]
    simp
theorem enc_goodF {b : List EditV} (he : eErr b = .no) (hB : ∀ x ∈ b, EdB x) (hl : (encF b).length ≤ 50000) : goodF (encF b) := by
  obtain ⟨h1, h40, hg⟩ := eErr_no he
  have hG : ∀ y ∈ b, EncG y := fun y hy => encG_of (hg y hy) (hB y hy)
  have hne : b ≠ [] := fun e => by subst e; simp at h1
  have hS := encL_sp hne hG
  have ht := encF_text hG
  have hh := text_head hS
  have hlast := text_last _ hS.1
  rw [← ht] at hh hlast
  have hsp := sp_text hS
  rw [← ht] at hsp
  refine ⟨?_, hl, hlast, by rw [dedent_sp]; exact hsp⟩
  rcases hc : encF b with _ | ⟨c, _ | ⟨d, r⟩⟩
  · rw [hc] at hh; simp at hh
  · rw [hc] at hh hlast
    simp at hh hlast
    rw [hh] at hlast
    simp at hlast
  · simp
end Go.Pl
namespace Go.Proofs.YtplagcbifecagaaGreatDoor
open Go Go.Av Go.RowKit Go.Proofs Go.Pl
theorem edits_get {xs : List EditV} {k : Nat} (hk : k < xs.length) : (xs.map editA)[k]? = some (editA (xs.getD k ⟨0, 0, []⟩)) := by
  simp [List.getD, hk]
theorem edits_next {xs : List EditV} {k : Nat} {P : EditV → Prop} (hk : k < xs.length) (h : ∀ f ∈ xs.take k, P f) (h2 : P (xs.getD k ⟨0, 0, []⟩)) : ∀ f ∈ xs.take (k + 1), P f := by
  intro f hf
  rw [List.take_succ_eq_append_getElem hk, List.mem_append, List.mem_singleton] at hf
  rcases hf with hf | rfl
  · exact h f hf
  · simpa [List.getD, hk] using h2
def LightE (b : List EditV) : Prop := b.length ≤ 51 ∧ ∀ x ∈ b, FldsB x.fields
theorem heavy_c (b : List EditV) (st : List AObj) (hx : b.length < 9223372036854775808) (hf : ∀ x ∈ b, x.fields.length < 9223372036854775808) : ACall E 14 [editsA b] st fun x st' => (∃ r, x = Bv r ∧ (r = false → LightE b)) ∧ st' = st := by
  refine acall_pureP (by rintro _ ⟨b, rfl, _⟩; exact pure_v _) (acall_of_awp Tryz.func14 rfl (Nat.le_of_ble_eq_true rfl) ?_)
  have hlen : (b.map editA).length = b.length := by simp
  repeat' (first
    | apply awp_seq
    | apply awp_block
    | apply awp_region
    | apply aops_nil
    | apply aops_move
    | apply aops_assign
    | (apply aops_lenL; exact rfl; exact rfl; exact rfl; exact rfl))
  refine awp_loopG (fun (k : Nat) s => k ≤ b.length ∧ k ≤ 51 ∧ (∀ x ∈ b.take k, FldsB x.fields) ∧ StE [(5, editsA b), (6, Iv b.length), (7, Iv k)] st [] s) (fun k => b.length - k) 0 ⟨by simp, by simp, by simp, stE_mk0 ⟨rfl, congrArg (fun n : Nat => Iv (n : Int)) hlen, rfl, trivial⟩ rfl⟩ ?_
  rintro k _ ⟨hk, hk2, hg, t, ext, rfl⟩
  rcases Nat.lt_or_ge k b.length with hc | hc
  · by_cases h50 : 50 < k
    · skip
      repeat' (first
        | apply awp_seq
        | apply awp_block
        | apply awp_region
        | apply aops_nil
        | apply aops_move
        | apply aops_assign
        | (apply aops_cmpI; exact rfl; exact rfl; exact rfl)
        | (apply aops_guard_any; exact rfl; exact rfl; exact rfl; exact rfl)
        | (apply gd_skip_d; (first | assumption | omega))
        | (apply aops_pick_any; exact rfl; first | (apply pk_dt; (first | assumption | omega)) | (apply pk_df; (first | assumption | omega)) | (apply pk_nt; (first | exact rfl | assumption)) | (apply pk_nf; (first | exact rfl | assumption)) | (apply pk_t; (first | exact rfl | assumption)) | (apply pk_f; (first | exact rfl | assumption)))
        | (apply awp_cond_any; exact rfl; first | (apply cd_dt; (first | assumption | omega)) | (apply cd_df; (first | assumption | omega)) | (apply cd_nt; (first | exact rfl | assumption)) | (apply cd_nf; (first | exact rfl | assumption)) | (apply cd_n <;> intro h) | (apply cd_t; (first | exact rfl | assumption)) | (apply cd_f; (first | exact rfl | assumption)) | (apply cd_d <;> intro h) | (apply cd_s <;> intro h))
        | (apply aops_alloc; exact rfl; exact rfl)
        | (apply aops_load_pp; exact rfl; exact rfl; exact rfl)
        | (apply aops_store_loc; exact rfl; exact rfl; exact rfl; exact rfl; exact rfl; exact rfl; exact rfl; exact rfl; exact rfl; exact rfl; exact rfl)
        | apply awp_skip
        | apply awp_ret
        | (apply aops_indexAddr (n := k); exact rfl; exact rfl; exact rfl; exact rfl; exact rfl; exact edits_get (by omega)))
      exact aret_plain rfl (ares_one rfl) ⟨⟨_, rfl, nofun⟩, ext_end _ _ _ _⟩
    · have hfl := hf (b.getD k ⟨0, 0, []⟩) (by simp [List.getD, hc])
      repeat' (first
        | apply awp_seq
        | apply awp_block
        | apply awp_region
        | apply aops_nil
        | apply aops_move
        | apply aops_assign
        | (apply aops_cmpI; exact rfl; exact rfl; exact rfl)
        | (apply aops_guard_any; exact rfl; exact rfl; exact rfl; exact rfl)
        | (apply gd_run_n; (first | assumption | omega))
        | (apply awp_cond_any; exact rfl; first | (apply cd_dt; (first | assumption | omega)) | (apply cd_df; (first | assumption | omega)) | (apply cd_nt; (first | exact rfl | assumption)) | (apply cd_nf; (first | exact rfl | assumption)) | (apply cd_n <;> intro h) | (apply cd_t; (first | exact rfl | assumption)) | (apply cd_f; (first | exact rfl | assumption)) | (apply cd_d <;> intro h) | (apply cd_s <;> intro h))
        | (apply aops_alloc; exact rfl; exact rfl)
        | (apply aops_fieldAddr_bx; exact rfl; exact rfl; exact rfl)
        | (apply aops_load_pp; exact rfl; exact rfl; exact rfl)
        | (apply aops_load_loc; exact rfl; exact rfl; exact rfl; exact rfl; exact rfl)
        | (apply aops_store_loc; exact rfl; exact rfl; exact rfl; exact rfl; exact rfl; exact rfl; exact rfl; exact rfl; exact rfl; exact rfl; exact rfl)
        | apply awp_skip
        | (apply aops_indexAddr (n := k); exact rfl; exact rfl; exact rfl; exact rfl; exact rfl; exact edits_get (by omega)))
      refine aops_call Tryz.call44 ((much_c (b.getD k ⟨0, 0, []⟩).fields _ hfl).mono ?_)
      rintro _ _ ⟨⟨r, rfl, hr⟩, rfl⟩
      show AOps _ _ _ _ _ _ _
      cases r
      · have hr := hr rfl
        repeat' (first
          | apply awp_region
          | apply aops_nil
          | apply aops_move
          | (apply aops_pick_any; exact rfl; first | (apply pk_dt; (first | assumption | omega)) | (apply pk_df; (first | assumption | omega)) | (apply pk_nt; (first | exact rfl | assumption)) | (apply pk_nf; (first | exact rfl | assumption)) | (apply pk_t; (first | exact rfl | assumption)) | (apply pk_f; (first | exact rfl | assumption)))
          | (apply awp_cond_any; exact rfl; first | (apply cd_dt; (first | assumption | omega)) | (apply cd_df; (first | assumption | omega)) | (apply cd_nt; (first | exact rfl | assumption)) | (apply cd_nf; (first | exact rfl | assumption)) | (apply cd_n <;> intro h) | (apply cd_t; (first | exact rfl | assumption)) | (apply cd_f; (first | exact rfl | assumption)) | (apply cd_d <;> intro h) | (apply cd_s <;> intro h))
          | (apply aops_add; exact rfl; exact rfl; exact wrap_i64 (by omega) (by omega))
          | apply awp_skip)
        exact ⟨k + 1, ⟨by omega, by omega, edits_next hc hg hr, stE_mk ⟨rfl, rfl, rfl, trivial⟩ rfl⟩, by omega⟩
      · skip
        repeat' (first
          | apply awp_seq
          | apply awp_region
          | apply aops_nil
          | apply aops_assign
          | (apply aops_pick_any; exact rfl; first | (apply pk_dt; (first | assumption | omega)) | (apply pk_df; (first | assumption | omega)) | (apply pk_nt; (first | exact rfl | assumption)) | (apply pk_nf; (first | exact rfl | assumption)) | (apply pk_t; (first | exact rfl | assumption)) | (apply pk_f; (first | exact rfl | assumption)))
          | (apply awp_cond_any; exact rfl; first | (apply cd_dt; (first | assumption | omega)) | (apply cd_df; (first | assumption | omega)) | (apply cd_nt; (first | exact rfl | assumption)) | (apply cd_nf; (first | exact rfl | assumption)) | (apply cd_n <;> intro h) | (apply cd_t; (first | exact rfl | assumption)) | (apply cd_f; (first | exact rfl | assumption)) | (apply cd_d <;> intro h) | (apply cd_s <;> intro h))
          | apply awp_ret)
        exact aret_plain rfl (ares_one rfl) ⟨⟨_, rfl, nofun⟩, ext_end _ _ _ _⟩
  · skip
    repeat' (first
      | apply awp_seq
      | apply awp_region
      | apply aops_nil
      | apply aops_assign
      | (apply aops_cmpI; exact rfl; exact rfl; exact rfl)
      | (apply awp_cond_any; exact rfl; first | (apply cd_dt; (first | assumption | omega)) | (apply cd_df; (first | assumption | omega)) | (apply cd_nt; (first | exact rfl | assumption)) | (apply cd_nf; (first | exact rfl | assumption)) | (apply cd_n <;> intro h) | (apply cd_t; (first | exact rfl | assumption)) | (apply cd_f; (first | exact rfl | assumption)) | (apply cd_d <;> intro h) | (apply cd_s <;> intro h))
      | apply awp_exit
      | apply awp_ret)
    have e : k = b.length := by omega
    subst e
    rw [List.take_length] at hg
    exact aret_plain rfl (ares_one rfl) ⟨⟨_, rfl, fun _ => ⟨by omega, hg⟩⟩, ext_end _ _ _ _⟩
def ArgE (b : List EditV) : Prop := b.length < 9223372036854775808 ∧ ∀ x ∈ b, x.fields.length < 9223372036854775808 ∧ -9223372036854775808 ≤ x.id ∧ x.id ≤ 9223372036854775807
theorem light_B {b : List EditV} (hA : ArgE b) (h : LightE b) : ∀ x ∈ b, EdB x := fun x hx => ⟨fun f hf => ((h.2 x hx).val f hf).1, (hA.2 x hx).1, (hA.2 x hx).2.1, (hA.2 x hx).2.2⟩
set_option maxHeartbeats 4000000 in
theorem frameAmends_c (a b : List EditV) (st : List AObj) (hA : ArgE a) (hB : ArgE b) : ACall E 6 [editsA a, editsA b] st fun r st' => r = Bv true ∧ st' = st := by
  refine acall_pure (pure_v _) (acall_of_awp Tryz.func6 rfl (Nat.le_of_ble_eq_true rfl) ?_)
  repeat' (first
    | apply awp_seq
    | apply awp_region
    | apply aops_nil
    | apply aops_move
    | apply aops_assign
    | (apply aops_not; exact rfl)
    | (apply awp_cond_any; exact rfl; first | (apply cd_dt; (first | assumption | omega)) | (apply cd_df; (first | assumption | omega)) | (apply cd_nt; (first | exact rfl | assumption)) | (apply cd_nf; (first | exact rfl | assumption)) | (apply cd_n <;> intro h) | (apply cd_t; (first | exact rfl | assumption)) | (apply cd_f; (first | exact rfl | assumption)) | (apply cd_d <;> intro h) | (apply cd_s <;> intro h))
    | apply awp_skip
    | (apply aops_call1; exact Tryz.call26; exact alive11_c _))
  refine aops_call Tryz.call14 ((heavy_c a _ hA.1 fun x hx => (hA.2 x hx).1).mono ?_)
  rintro _ _ ⟨⟨r, rfl, hr⟩, rfl⟩
  show AOps _ _ _ _ _ _ _
  cases r
  rotate_left
  · skip
    repeat' (first
      | apply awp_seq
      | apply awp_region
      | apply aops_nil
      | apply aops_move
      | apply aops_assign
      | (apply aops_guard_any; exact rfl; exact rfl; exact rfl; exact rfl)
      | (apply gd_skip_t; (first | exact rfl | assumption))
      | (apply aops_pick_any; exact rfl; first | (apply pk_dt; (first | assumption | omega)) | (apply pk_df; (first | assumption | omega)) | (apply pk_nt; (first | exact rfl | assumption)) | (apply pk_nf; (first | exact rfl | assumption)) | (apply pk_t; (first | exact rfl | assumption)) | (apply pk_f; (first | exact rfl | assumption)))
      | (apply awp_cond_any; exact rfl; first | (apply cd_dt; (first | assumption | omega)) | (apply cd_df; (first | assumption | omega)) | (apply cd_nt; (first | exact rfl | assumption)) | (apply cd_nf; (first | exact rfl | assumption)) | (apply cd_n <;> intro h) | (apply cd_t; (first | exact rfl | assumption)) | (apply cd_f; (first | exact rfl | assumption)) | (apply cd_d <;> intro h) | (apply cd_s <;> intro h))
      | apply awp_ret)
    exact aret_plain rfl (ares_one rfl) ⟨rfl, _, rfl⟩
  have hLa := hr rfl
  clear hr
  repeat' (first
    | apply aops_move
    | (apply aops_guard_any; exact rfl; exact rfl; exact rfl; exact rfl)
    | (apply gd_run_f; (first | exact rfl | assumption)))
  refine aops_call Tryz.call14 ((heavy_c b _ hB.1 fun x hx => (hB.2 x hx).1).mono ?_)
  rintro _ _ ⟨⟨r, rfl, hr⟩, rfl⟩
  show AOps _ _ _ _ _ _ _
  cases r
  rotate_left
  · skip
    repeat' (first
      | apply awp_seq
      | apply awp_region
      | apply aops_nil
      | apply aops_assign
      | (apply aops_pick_any; exact rfl; first | (apply pk_dt; (first | assumption | omega)) | (apply pk_df; (first | assumption | omega)) | (apply pk_nt; (first | exact rfl | assumption)) | (apply pk_nf; (first | exact rfl | assumption)) | (apply pk_t; (first | exact rfl | assumption)) | (apply pk_f; (first | exact rfl | assumption)))
      | (apply awp_cond_any; exact rfl; first | (apply cd_dt; (first | assumption | omega)) | (apply cd_df; (first | assumption | omega)) | (apply cd_nt; (first | exact rfl | assumption)) | (apply cd_nf; (first | exact rfl | assumption)) | (apply cd_n <;> intro h) | (apply cd_t; (first | exact rfl | assumption)) | (apply cd_f; (first | exact rfl | assumption)) | (apply cd_d <;> intro h) | (apply cd_s <;> intro h))
      | apply awp_ret)
    exact aret_plain rfl (ares_one rfl) ⟨rfl, _, rfl⟩
  have hLb := hr rfl
  clear hr
  have hBa := light_B hA hLa
  have hBb := light_B hB hLb
  by_cases hea : eErr a = .no
  · by_cases heb : eErr b = .no
    · have hla := encF_len a hBa (eErr_no hea).2.2
      have hlb := encF_len b hBb (eErr_no heb).2.2
      have ha40 := (eErr_no hea).2.1
      have hb40 := (eErr_no heb).2.1
      by_cases hsa : (encF a).length ≤ 50000
      · by_cases hsb : (encF b).length ≤ 50000
        · have hga := enc_goodF hea hBa hsa
          have hgb := enc_goodF heb hBb hsb
          have hra := recF_bound hga
          have hrb := recF_bound hgb
          have hdr : (recF (encF a) ++ recF (encF b)).drop (recF (encF a)).length = recF (encF b) ++ [] := by rw [List.drop_left, List.append_nil]
          repeat' (first
            | (apply aops_fromE (n := (recF (encF a)).length) hdr; exact rfl; exact rfl; exact rfl; (simp))
            | apply awp_seq
            | apply awp_region
            | apply aops_nil
            | apply aops_move
            | apply aops_assign
            | (apply aops_extract; exact rfl; exact rfl)
            | (apply aops_cmpI; exact rfl; exact rfl; exact rfl)
            | (apply aops_cmpS; exact rfl; exact rfl; exact rfl)
            | (apply aops_guard_any; exact rfl; exact rfl; exact rfl; exact rfl)
            | (apply gd_run_d; (first | assumption | omega))
            | (apply gd_run_n; (first | assumption | omega))
            | (apply gd_skip_d; (first | assumption | omega))
            | (apply gd_skip_n; (first | assumption | omega))
            | (apply gd_run_f; (first | exact rfl | assumption))
            | (apply gd_split_d <;> intro h)
            | (apply aops_pick_any; exact rfl; first | (apply pk_dt; (first | assumption | omega)) | (apply pk_df; (first | assumption | omega)) | (apply pk_nt; (first | exact rfl | assumption)) | (apply pk_nf; (first | exact rfl | assumption)) | (apply pk_t; (first | exact rfl | assumption)) | (apply pk_f; (first | exact rfl | assumption)))
            | (apply awp_cond_any; exact rfl; first | (apply cd_dt; (first | assumption | omega)) | (apply cd_df; (first | assumption | omega)) | (apply cd_nt; (first | exact rfl | assumption)) | (apply cd_nf; (first | exact rfl | assumption)) | (apply cd_n <;> intro h) | (apply cd_t; (first | exact rfl | assumption)) | (apply cd_f; (first | exact rfl | assumption)) | (apply cd_d <;> intro h) | (apply cd_s <;> intro h))
            | (apply aops_lenS; exact rfl; exact rfl; exact rfl)
            | (apply aops_concat; exact rfl; exact rfl; (first | omega | (simp only [List.length_append, List.length_cons, List.length_nil]; omega) | (simp; omega)))
            | (apply aops_nilNeNil; exact rfl; exact rfl)
            | apply awp_skip
            | apply awp_ret
            | (apply aops_call1; exact Tryz.call13; exact encode0_c a _ hBa hea)
            | (apply aops_call1; exact Tryz.call13; exact encode0_c b _ hBb heb)
            | (apply aops_call1; exact Tryz.call27; exact recordG_c _ _ (by omega) hga)
            | (apply aops_call1; exact Tryz.call27; exact recordG_c _ _ (by omega) hgb)
            | (apply aops_call1; exact Tryz.call28; exact readR_c _ _ _ (by simp; omega) hga)
            | (apply aops_call1; exact Tryz.call28; exact readR_c _ [] _ (by simp; omega) hgb))
          all_goals first
            | exact absurd rfl (by assumption : ¬ encF a = encF a)
            | exact absurd rfl (by assumption : ¬ encF b = encF b)
            | exact aret_plain rfl (ares_one rfl) ⟨rfl, _, rfl⟩
            | exact aret_plain rfl (ares_one rfl) ⟨congrArg Bv (show _ = true by simp), _, rfl⟩
        · skip
          repeat' (first
            | apply awp_seq
            | apply awp_region
            | apply aops_nil
            | apply aops_move
            | apply aops_assign
            | (apply aops_extract; exact rfl; exact rfl)
            | (apply aops_cmpI; exact rfl; exact rfl; exact rfl)
            | (apply aops_guard_any; exact rfl; exact rfl; exact rfl; exact rfl)
            | (apply gd_run_n; (first | assumption | omega))
            | (apply gd_run_f; (first | exact rfl | assumption))
            | (apply aops_pick_any; exact rfl; first | (apply pk_dt; (first | assumption | omega)) | (apply pk_df; (first | assumption | omega)) | (apply pk_nt; (first | exact rfl | assumption)) | (apply pk_nf; (first | exact rfl | assumption)) | (apply pk_t; (first | exact rfl | assumption)) | (apply pk_f; (first | exact rfl | assumption)))
            | (apply awp_cond_any; exact rfl; first | (apply cd_dt; (first | assumption | omega)) | (apply cd_df; (first | assumption | omega)) | (apply cd_nt; (first | exact rfl | assumption)) | (apply cd_nf; (first | exact rfl | assumption)) | (apply cd_n <;> intro h) | (apply cd_t; (first | exact rfl | assumption)) | (apply cd_f; (first | exact rfl | assumption)) | (apply cd_d <;> intro h) | (apply cd_s <;> intro h))
            | (apply aops_lenS; exact rfl; exact rfl; exact rfl)
            | (apply aops_nilNeNil; exact rfl; exact rfl)
            | apply awp_skip
            | apply awp_ret
            | (apply aops_call1; exact Tryz.call13; exact encode0_c a _ hBa hea)
            | (apply aops_call1; exact Tryz.call13; exact encode0_c b _ hBb heb))
          exact aret_plain rfl (ares_one rfl) ⟨rfl, _, rfl⟩
      · skip
        repeat' (first
          | apply awp_seq
          | apply awp_region
          | apply aops_nil
          | apply aops_move
          | apply aops_assign
          | (apply aops_extract; exact rfl; exact rfl)
          | (apply aops_cmpI; exact rfl; exact rfl; exact rfl)
          | (apply aops_guard_any; exact rfl; exact rfl; exact rfl; exact rfl)
          | (apply gd_skip_d; (first | assumption | omega))
          | (apply gd_run_f; (first | exact rfl | assumption))
          | (apply aops_pick_any; exact rfl; first | (apply pk_dt; (first | assumption | omega)) | (apply pk_df; (first | assumption | omega)) | (apply pk_nt; (first | exact rfl | assumption)) | (apply pk_nf; (first | exact rfl | assumption)) | (apply pk_t; (first | exact rfl | assumption)) | (apply pk_f; (first | exact rfl | assumption)))
          | (apply awp_cond_any; exact rfl; first | (apply cd_dt; (first | assumption | omega)) | (apply cd_df; (first | assumption | omega)) | (apply cd_nt; (first | exact rfl | assumption)) | (apply cd_nf; (first | exact rfl | assumption)) | (apply cd_n <;> intro h) | (apply cd_t; (first | exact rfl | assumption)) | (apply cd_f; (first | exact rfl | assumption)) | (apply cd_d <;> intro h) | (apply cd_s <;> intro h))
          | (apply aops_lenS; exact rfl; exact rfl; exact rfl)
          | (apply aops_nilNeNil; exact rfl; exact rfl)
          | apply awp_skip
          | apply awp_ret
          | (apply aops_call1; exact Tryz.call13; exact encode0_c a _ hBa hea)
          | (apply aops_call1; exact Tryz.call13; exact encode0_c b _ hBb heb))
        exact aret_plain rfl (ares_one rfl) ⟨rfl, _, rfl⟩
    · have h0 : (eErr b).code ≠ 0 := fun h => heb ((eErr_code b).1 h)
      cases hg : eErr b with
      | no => exact absurd hg heb
      | num n =>
        repeat' (first
          | apply awp_seq
          | apply awp_region
          | apply aops_nil
          | apply aops_move
          | apply aops_assign
          | (apply aops_extract; exact rfl; exact rfl)
          | (apply aops_guard_any; exact rfl; exact rfl; exact rfl; exact rfl)
          | (apply gd_run_f; (first | exact rfl | assumption))
          | (apply gd_skip_t; (first | exact rfl | assumption))
          | (apply aops_pick_any; exact rfl; first | (apply pk_dt; (first | assumption | omega)) | (apply pk_df; (first | assumption | omega)) | (apply pk_nt; (first | exact rfl | assumption)) | (apply pk_nf; (first | exact rfl | assumption)) | (apply pk_t; (first | exact rfl | assumption)) | (apply pk_f; (first | exact rfl | assumption)))
          | (apply awp_cond_any; exact rfl; first | (apply cd_dt; (first | assumption | omega)) | (apply cd_df; (first | assumption | omega)) | (apply cd_nt; (first | exact rfl | assumption)) | (apply cd_nf; (first | exact rfl | assumption)) | (apply cd_n <;> intro h) | (apply cd_t; (first | exact rfl | assumption)) | (apply cd_f; (first | exact rfl | assumption)) | (apply cd_d <;> intro h) | (apply cd_s <;> intro h))
          | (apply aops_errNeNil; exact rfl; exact rfl)
          | (apply aops_nilNeNil; exact rfl; exact rfl)
          | apply awp_skip
          | apply awp_ret
          | (apply aops_call1; exact Tryz.call13; exact encode0_c a _ hBa hea)
          | (apply aops_call1; exact Tryz.call13; exact encode1_c b _ (.num n) hBb hB.1 hg (by rw [← hg]; exact h0)))
        exact aret_plain rfl (ares_one rfl) ⟨rfl, _, rfl⟩
      | at' i n =>
        repeat' (first
          | apply awp_seq
          | apply awp_region
          | apply aops_nil
          | apply aops_move
          | apply aops_assign
          | (apply aops_extract; exact rfl; exact rfl)
          | (apply aops_guard_any; exact rfl; exact rfl; exact rfl; exact rfl)
          | (apply gd_run_f; (first | exact rfl | assumption))
          | (apply gd_skip_t; (first | exact rfl | assumption))
          | (apply aops_pick_any; exact rfl; first | (apply pk_dt; (first | assumption | omega)) | (apply pk_df; (first | assumption | omega)) | (apply pk_nt; (first | exact rfl | assumption)) | (apply pk_nf; (first | exact rfl | assumption)) | (apply pk_t; (first | exact rfl | assumption)) | (apply pk_f; (first | exact rfl | assumption)))
          | (apply awp_cond_any; exact rfl; first | (apply cd_dt; (first | assumption | omega)) | (apply cd_df; (first | assumption | omega)) | (apply cd_nt; (first | exact rfl | assumption)) | (apply cd_nf; (first | exact rfl | assumption)) | (apply cd_n <;> intro h) | (apply cd_t; (first | exact rfl | assumption)) | (apply cd_f; (first | exact rfl | assumption)) | (apply cd_d <;> intro h) | (apply cd_s <;> intro h))
          | (apply aops_errNeNil; exact rfl; exact rfl)
          | (apply aops_nilNeNil; exact rfl; exact rfl)
          | apply awp_skip
          | apply awp_ret
          | (apply aops_call1; exact Tryz.call13; exact encode0_c a _ hBa hea)
          | (apply aops_call1; exact Tryz.call13; exact encode1_c b _ (.at' i n) hBb hB.1 hg (by rw [← hg]; exact h0)))
        exact aret_plain rfl (ares_one rfl) ⟨rfl, _, rfl⟩
  · have h0 : (eErr a).code ≠ 0 := fun h => hea ((eErr_code a).1 h)
    have key : ∀ e, eErr b = e → ∀ st, ACall E 13 [editsA b] st fun r st' => (∃ s e, r = .tu [Sv s, errA e]) ∧ st' = st := fun e he st => by
      by_cases h1 : eErr b = .no
      · exact (encode0_c b st hBb h1).mono fun r st' ⟨h2, h3⟩ => ⟨⟨_, .no, h2⟩, h3⟩
      · exact (encode1_c b st _ hBb hB.1 rfl fun h => h1 ((eErr_code b).1 h)).mono fun r st' ⟨h2, h3⟩ => ⟨⟨_, _, h2⟩, h3⟩
    cases hg : eErr a with
    | no => exact absurd hg hea
    | num n =>
      repeat' (first
        | apply awp_seq
        | apply awp_region
        | apply aops_nil
        | apply aops_move
        | apply aops_assign
        | (apply aops_extract; exact rfl; exact rfl)
        | (apply aops_pick_any; exact rfl; first | (apply pk_dt; (first | assumption | omega)) | (apply pk_df; (first | assumption | omega)) | (apply pk_nt; (first | exact rfl | assumption)) | (apply pk_nf; (first | exact rfl | assumption)) | (apply pk_t; (first | exact rfl | assumption)) | (apply pk_f; (first | exact rfl | assumption)))
        | (apply awp_cond_any; exact rfl; first | (apply cd_dt; (first | assumption | omega)) | (apply cd_df; (first | assumption | omega)) | (apply cd_nt; (first | exact rfl | assumption)) | (apply cd_nf; (first | exact rfl | assumption)) | (apply cd_n <;> intro h) | (apply cd_t; (first | exact rfl | assumption)) | (apply cd_f; (first | exact rfl | assumption)) | (apply cd_d <;> intro h) | (apply cd_s <;> intro h))
        | apply awp_skip
        | (apply aops_call1; exact Tryz.call13; exact encode1_c a _ (.num n) hBa hA.1 hg (by rw [← hg]; exact h0)))
      refine aops_call Tryz.call13 ((key _ rfl _).mono ?_)
      rintro _ _ ⟨⟨s, e, rfl⟩, rfl⟩
      show AOps _ _ _ _ _ _ _
      repeat' (first
        | apply awp_seq
        | apply awp_region
        | apply aops_nil
        | apply aops_move
        | apply aops_assign
        | (apply aops_extract; exact rfl; exact rfl)
        | (apply aops_guard_any; exact rfl; exact rfl; exact rfl; exact rfl)
        | (apply gd_skip_t; (first | exact rfl | assumption))
        | (apply aops_pick_any; exact rfl; first | (apply pk_dt; (first | assumption | omega)) | (apply pk_df; (first | assumption | omega)) | (apply pk_nt; (first | exact rfl | assumption)) | (apply pk_nf; (first | exact rfl | assumption)) | (apply pk_t; (first | exact rfl | assumption)) | (apply pk_f; (first | exact rfl | assumption)))
        | (apply awp_cond_any; exact rfl; first | (apply cd_dt; (first | assumption | omega)) | (apply cd_df; (first | assumption | omega)) | (apply cd_nt; (first | exact rfl | assumption)) | (apply cd_nf; (first | exact rfl | assumption)) | (apply cd_n <;> intro h) | (apply cd_t; (first | exact rfl | assumption)) | (apply cd_f; (first | exact rfl | assumption)) | (apply cd_d <;> intro h) | (apply cd_s <;> intro h))
        | (apply aops_errNeNil; exact rfl; exact rfl)
        | apply awp_ret)
      exact aret_plain rfl (ares_one rfl) ⟨rfl, _, rfl⟩
    | at' i n =>
      repeat' (first
        | apply awp_seq
        | apply awp_region
        | apply aops_nil
        | apply aops_move
        | apply aops_assign
        | (apply aops_extract; exact rfl; exact rfl)
        | (apply aops_pick_any; exact rfl; first | (apply pk_dt; (first | assumption | omega)) | (apply pk_df; (first | assumption | omega)) | (apply pk_nt; (first | exact rfl | assumption)) | (apply pk_nf; (first | exact rfl | assumption)) | (apply pk_t; (first | exact rfl | assumption)) | (apply pk_f; (first | exact rfl | assumption)))
        | (apply awp_cond_any; exact rfl; first | (apply cd_dt; (first | assumption | omega)) | (apply cd_df; (first | assumption | omega)) | (apply cd_nt; (first | exact rfl | assumption)) | (apply cd_nf; (first | exact rfl | assumption)) | (apply cd_n <;> intro h) | (apply cd_t; (first | exact rfl | assumption)) | (apply cd_f; (first | exact rfl | assumption)) | (apply cd_d <;> intro h) | (apply cd_s <;> intro h))
        | apply awp_skip
        | (apply aops_call1; exact Tryz.call13; exact encode1_c a _ (.at' i n) hBa hA.1 hg (by rw [← hg]; exact h0)))
      refine aops_call Tryz.call13 ((key _ rfl _).mono ?_)
      rintro _ _ ⟨⟨s, e, rfl⟩, rfl⟩
      show AOps _ _ _ _ _ _ _
      repeat' (first
        | apply awp_seq
        | apply awp_region
        | apply aops_nil
        | apply aops_move
        | apply aops_assign
        | (apply aops_extract; exact rfl; exact rfl)
        | (apply aops_guard_any; exact rfl; exact rfl; exact rfl; exact rfl)
        | (apply gd_skip_t; (first | exact rfl | assumption))
        | (apply aops_pick_any; exact rfl; first | (apply pk_dt; (first | assumption | omega)) | (apply pk_df; (first | assumption | omega)) | (apply pk_nt; (first | exact rfl | assumption)) | (apply pk_nf; (first | exact rfl | assumption)) | (apply pk_t; (first | exact rfl | assumption)) | (apply pk_f; (first | exact rfl | assumption)))
        | (apply awp_cond_any; exact rfl; first | (apply cd_dt; (first | assumption | omega)) | (apply cd_df; (first | assumption | omega)) | (apply cd_nt; (first | exact rfl | assumption)) | (apply cd_nf; (first | exact rfl | assumption)) | (apply cd_n <;> intro h) | (apply cd_t; (first | exact rfl | assumption)) | (apply cd_f; (first | exact rfl | assumption)) | (apply cd_d <;> intro h) | (apply cd_s <;> intro h))
        | (apply aops_errNeNil; exact rfl; exact rfl)
        | apply awp_ret)
      exact aret_plain rfl (ares_one rfl) ⟨rfl, _, rfl⟩
end Go.Proofs.YtplagcbifecagaaGreatDoor
set_option maxRecDepth 100000
set_option linter.unusedVariables false
namespace Go.Proofs.YtplagcbifecagaaGreatDoor
open Go Go.Av Go.RowKit Go.Proofs Go.Pl
def ArgX (x : EditV) : Prop := x.fields.length < 9223372036854775808 ∧ -9223372036854775808 ≤ x.id ∧ x.id ≤ 9223372036854775807
theorem opn_edit : Opn Tryz.prog 45 fun a => ∃ x : EditV, a = editA x ∧ ArgX x := by
  intro H enc W fuel cs x h
  obtain ⟨a, ⟨vs, rfl, hl, hv⟩, hr⟩ := opn_fields (As := [(some (.int .i64), IsI .i64), (some (.int .i64), IsI .i64), (some (.slice 58), fun a => ∃ xs : List FldV, a = fldsA xs ∧ xs.length ≤ maxLen)]) (by kernel_rfl) (by kernel_rfl) (by kernel_rfl) (by kernel_rfl)
    (List.forall_mem_cons.2 ⟨⟨fun _ h => opn_i h, one_i _⟩, List.forall_mem_cons.2 ⟨⟨fun _ h => opn_i h, one_i _⟩, List.forall_mem_cons.2 ⟨⟨fun _ h => opn_flds h, one_flds⟩, nofun⟩⟩⟩) H enc W fuel cs x h
  match vs, hl with
  | [v0, v1, v2], _ =>
    obtain ⟨n0, rfl, w0⟩ := hv 0 _ _ rfl rfl
    obtain ⟨n1, rfl, w1⟩ := hv 1 _ _ rfl rfl
    obtain ⟨xs, rfl, m⟩ := hv 2 _ _ rfl rfl
    exact ⟨_, ⟨⟨n0, n1, xs⟩, rfl, lt_max m, lit_i64 w1⟩, hr⟩
theorem all_mapP {α : Type} {g : α → AV} {P : α → Prop} : ∀ {xs : List AV}, (∀ x ∈ xs, ∃ a, x = g a ∧ P a) → ∃ ys : List α, xs = ys.map g ∧ ∀ a ∈ ys, P a
  | [], _ => ⟨[], rfl, by simp⟩
  | x :: r, h => by
    obtain ⟨ys, hys, has⟩ := all_mapP (xs := r) fun y hy => h y (List.mem_cons_of_mem _ hy)
    obtain ⟨a, rfl, ha⟩ := h x (by simp)
    subst hys
    refine ⟨a :: ys, rfl, fun b hb => ?_⟩
    rcases List.mem_cons.1 hb with rfl | hb
    · exact ha
    · exact has b hb
theorem opn_edits {t : TypeId} (hu : Tryz.prog.underlying t = some (.slice 45)) : Opn Tryz.prog t fun a => ∃ xs : List EditV, a = editsA xs ∧ ArgE xs := by
  intro H enc W fuel cs x h
  obtain ⟨a, ⟨xs, rfl, hl, hx⟩, hr⟩ := opn_sl (sz := 3) hu (by kernel_rfl) (by decide) opn_edit H enc W fuel cs x h
  obtain ⟨rs, rfl, hrs⟩ := all_mapP hx
  exact ⟨_, ⟨rs, rfl, lt_max (by simpa using hl), hrs⟩, hr⟩
theorem one_edits : One fun a => ∃ xs : List EditV, a = editsA xs ∧ ArgE xs := by rintro _ ⟨xs, rfl, _⟩; rfl
theorem frameAmends_a (a : List EditV) (ha : ArgE a) (b : List EditV) (hb : ArgE b) (st : List AObj) : ACall E 6 [editsA a, editsA b] st fun x st' => x = Bv true ∧ st' = st :=
  frameAmends_c a b st ha hb
end Go.Proofs.YtplagcbifecagaaGreatDoor
