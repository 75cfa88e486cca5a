/- Contracts and plain facts that the closing text leans on (part 5). No condition of their own beyond those that each states. -/
import Derived.Test.YtplagcbifecagaaGreatDoorK4
set_option maxRecDepth 100000
set_option linter.unusedVariables false
set_option linter.unusedSimpArgs false
set_option maxRecDepth 100000
set_option linter.unusedVariables false
namespace Go.Av
open Go Go.RowKit
theorem tipO_pre {b : Nat} {st l : List AObj} {sz : Nat} {T : TypeId} {xs : List AV} {c : AV} (h : TipO b st sz T xs c) : TipO b (st ++ l) sz T xs c := by
  rcases h with h | h
  · exact .inl (tipC_pre h)
  · exact .inr h
theorem tipO_of {b : Nat} {st st' : List AObj} {sz : Nat} {T : TypeId} {xs : List AV} {c : AV} (hs : ∀ (t m sz : Nat) (T : TypeId), st[t]? = some (AObj.tip m sz T) → st'[t]? = st[t]?) (h : TipO b st sz T xs c) : TipO b st' sz T xs c := by
  rcases h with (h | ⟨t, h1, h2, h3⟩) | h
  · exact .inl (.inl h)
  · exact .inl (.inr ⟨t, h1, (hs t _ _ _ h2).trans h2, h3⟩)
  · exact .inr h
end Go.Av
namespace Go.Proofs.YtplagcbifecagaaGreatDoor
open Go Go.Av Go.RowKit Go.Proofs Go.Pl
theorem len_app {st l : List AObj} : st.length ≤ (st ++ l).length := by simp
theorem tipO_setc {b o : Nat} {st : List AObj} {sz : Nat} {T : TypeId} {xs : List AV} {c : AV} {x : AObj} (h : TipO b st sz T xs c) (hn : notTip st[o]?) : TipO b (st.set o x) sz T xs c :=
  tipO_of (fun t m sz T ht => List.getElem?_set_ne (fun e => by subst e; exact hn _ _ _ ht)) h
structure OutI (st : List AObj) (S : List AObj) : Prop where
  low : ∀ j, j < st.length → S[j]? = st[j]?
  len : st.length ≤ S.length
theorem OutI.pre {st S l : List AObj} (h : OutI st S) : OutI st (S ++ l) := ⟨fun j hj => (List.getElem?_append_left (by have := h.len; omega)).trans (h.low j hj), by have := h.len; simp; omega⟩
theorem OutI.set {st S : List AObj} {o : Nat} {x : AObj} (h : OutI st S) (ho : st.length ≤ o) : OutI st (S.set o x) := ⟨fun j hj => (get_set_low (by omega)).trans (h.low j hj), by have := h.len; simp; omega⟩
theorem OutI.fr {st S S' : List AObj} {t : Nat} (h : OutI st S) (hf : Fr S S' t) (ht : st.length ≤ t) : OutI st S' := ⟨fun j hj => (hf.same j (by omega) (by have := h.len; omega)).trans (h.low j hj), Nat.le_trans h.len hf.len⟩
theorem OutI.ext {st S : List AObj} (h : OutI st S) : ∃ ext, S = st ++ ext := ext_low h.low
theorem aops_buildSliceW {E : Env} {rd : Option Nat} {N : Nat} {ops : Array Oper} {K : AS → Prop} {s : AS} {rest : List Oper} {d : Option Tmp} {T : TypeId} {p : String} {af : Array Edge} {t e : TypeId} {len sz : Nat} {agg : Bool} {parts : Array (Nat × Operand)} {zs cs : List AV} {st : List AObj} (hst : s.st = st) (hu : E.P.underlying t = some (.slice e)) (ht : tyOf E.P e = some (sz, agg)) (hz : zerosA E.P e len = some zs)
    (hf : fillA (fun i => some (i * sz, sz)) zs (partsA N s parts) = some cs) (hsz : Nat.ble (len * sz) 16777216 = true)
    (h : AOps E rd N ops rest K (AS.put ⟨s.t, st ++ [.cells 0 e cs], s.df⟩ d (.os st.length 0 0 len len))) : AOps E rd N ops (⟨d, .buildSlice t len parts, T, p, af, none⟩ :: rest) K s :=
  aops_buildSliceO (loc := []) (by rw [hst]; simp) hu ht hz hf hsz h
theorem editA_pureC (x : EditV) : PureC (editA x) := fun y hy => by
  simp only [AV.cells, List.mem_cons, List.not_mem_nil, or_false] at hy
  rcases hy with rfl | rfl | rfl
  · exact pure_v _
  · exact pure_v _
  · exact fldsA_pure _
theorem editsA_pure (b : List EditV) : Pure (editsA b) := pure_sl fun x hx => by
  obtain ⟨f, _, rfl⟩ := List.mem_map.1 hx
  exact editA_pureC f
theorem map_snoc {α β : Type} (g : α → β) (l : List α) (a : α) : (l ++ [a]).map g = l.map g ++ [g a] := by simp
end Go.Proofs.YtplagcbifecagaaGreatDoor
set_option maxRecDepth 100000
set_option linter.unusedVariables false
namespace Go.Proofs.YtplagcbifecagaaGreatDoor
open Go Go.Av Go.RowKit Go.Proofs Go.Pl
def tryB (k : Int) (l : Bytes) : Option Int := if headOf k <+: l then (match Lib.atoiAll (l.drop (headOf k).length) with
  | .ok n => some n
  | _ => none) else none
def begE (l : Bytes) : Option (Int × Int) := match tryB 1 l with
  | some n => some (1, n)
  | none => match tryB 2 l with
    | some n => some (2, n)
    | none => match tryB 3 l with
      | some n => some (3, n)
      | none => none
def begA : Option (Int × Int) → AV
  | some (k, n) => .tu [editA ⟨k, n, []⟩, Bv true]
  | none => .tu [editA ⟨0, 0, []⟩, Bv false]
theorem begA_pure (x : Option (Int × Int)) : Pure (begA x) := by
  rcases x with _ | ⟨k, n⟩
  · exact pure_tu2 (pure_of_pureC (editA_pureC _)) (pure_v _)
  · exact pure_tu2 (pure_of_pureC (editA_pureC _)) (pure_v _)
theorem weak_edit (k n : Int) : Weak (.ag [Iv k, Iv n, nilSl]) (editA ⟨k, n, []⟩) :=
  weak_ag rfl fun i x y hx hy => by
    match i with
    | 0 => simp at hx hy; subst hx; subst hy; exact weak_refl _
    | 1 => simp at hx hy; subst hx; subst hy; exact weak_refl _
    | 2 => simp at hx hy; subst hx; subst hy; exact weak_nilSl 2
    | i + 3 => simp at hx
theorem cutHead1_c (l m : Bytes) (st : List AObj) (h : m <+: l) : ACall E 53 [Sv l, Sv m] st fun r st' => r = .tu [Sv (l.drop m.length), Bv true] ∧ st' = st := by
  have := cutPrefix_c l m st
  rw [trimPrefix_of h, (hasPrefix_iff l m).2 h] at this
  exact this
theorem cutHeadD_c (l m d : Bytes) (st : List AObj) (h : m <+: l) (hd : l.drop m.length = d) : ACall E 53 [Sv l, Sv m] st fun r st' => r = .tu [Sv d, Bv true] ∧ st' = st := by
  subst hd
  exact cutHead1_c l m st h
theorem cutHead0_c (l m : Bytes) (st : List AObj) (h : ¬ m <+: l) : ACall E 53 [Sv l, Sv m] st fun r st' => r = .tu [Sv l, Bv false] ∧ st' = st := by
  have := cutPrefix_c l m st
  have hf : Lib.hasPrefix l m = false := by
    cases hb : Lib.hasPrefix l m with
    | false => rfl
    | true => exact absurd ((hasPrefix_iff l m).1 hb) h
  have ht : Lib.trimPrefix l m = l := by
    unfold Lib.trimPrefix
    rw [if_neg (by simp [hf])]
  rw [ht, hf] at this
  exact this
theorem begE_at {l : Bytes} {k : Nat} {n : Int} (h1 : 1 ≤ k) (h3 : k ≤ 3) (h : ∀ j : Nat, 1 ≤ j → j < k → tryB j l = none) (hk : tryB k l = some n) : begE l = some ((k : Int), n) := by
  have : k = 1 ∨ k = 2 ∨ k = 3 := by omega
  rcases this with rfl | rfl | rfl
  · have hk1 : tryB 1 l = some n := hk
    simp [begE, hk1]
  · have e1 : tryB 1 l = none := h 1 (by omega) (by omega)
    have hk1 : tryB 2 l = some n := hk
    simp [begE, e1, hk1]
  · have e1 : tryB 1 l = none := h 1 (by omega) (by omega)
    have e2 : tryB 2 l = none := h 2 (by omega) (by omega)
    have hk1 : tryB 3 l = some n := hk
    simp [begE, e1, e2, hk1]
theorem begE_none {l : Bytes} (h : ∀ j : Nat, 1 ≤ j → j < 4 → tryB j l = none) : begE l = none := by
  have e1 : tryB 1 l = none := h 1 (by omega) (by omega)
  have e2 : tryB 2 l = none := h 2 (by omega) (by omega)
  have e3 : tryB 3 l = none := h 3 (by omega) (by omega)
  simp [begE, e1, e2, e3]
theorem word_head {k : Nat} (h1 : 1 ≤ k) (h3 : k ≤ 3) : wordE (k : Int) ≠ [] ∧ ([32] ++ wordE (k : Int)) ++ [32] = headOf (k : Int) ∧ (wordE (k : Int)).length ≤ 10 := by
  have : k = 1 ∨ k = 2 ∨ k = 3 := by omega
  rcases this with rfl | rfl | rfl <;> decide
set_option maxHeartbeats 2000000 in
theorem begun_c (l : Bytes) (st : List AObj) (hl : l.length < 1000000) : ACall E 32 [Sv l] st fun r st' => r = begA (begE l) ∧ st' = st := by
  refine acall_pure (begA_pure _) (acall_of_awp Tryz.func32 rfl (Nat.le_of_ble_eq_true rfl) ?_)
  repeat' (first
    | apply awp_seq
    | apply awp_block
    | apply awp_region
    | apply aops_nil
    | apply aops_assign
    | (apply aops_alloc; exact rfl; exact rfl))
  refine awp_loopG (fun (k : Nat) s => 1 ≤ k ∧ k ≤ 4 ∧ (∀ j : Nat, 1 ≤ j → j < k → tryB j l = none) ∧ StE [(0, Sv l), (2, .bx (st.length + 0) 0 0), (4, Iv k)] st [.cells 0 45 [Iv 0, Iv 0, nilSl]] s) (fun k => 4 - k) 1 ⟨by omega, by omega, fun j h1 h2 => by omega, stE_mk0 ⟨rfl, rfl, rfl, trivial⟩ rfl⟩ ?_
  rintro k _ ⟨hk1, hk4, hno, t, ext, rfl⟩
  by_cases h4 : k = 4
  · subst h4
    have hw : wordE ((4 : Nat) : Int) = [] := by decide
    rw [begE_none hno]
    repeat' (first
      | apply awp_seq
      | apply awp_region
      | apply aops_nil
      | apply aops_move
      | apply aops_assign
      | (apply aops_cmpS; exact rfl; exact rfl; exact rfl)
      | (apply awp_cond_any; exact rfl; first | (apply cd_dt; (first | assumption | omega)) | (apply cd_df; (first | assumption | omega)) | (apply cd_nt; (first | exact rfl | assumption)) | (apply cd_nf; (first | exact rfl | assumption)) | (apply cd_n <;> intro h) | (apply cd_t; (first | exact rfl | assumption)) | (apply cd_f; (first | exact rfl | assumption)) | (apply cd_d <;> intro h) | (apply cd_s <;> intro h))
      | (apply aops_store_mid; exact rfl; exact rfl; exact rfl; exact rfl; exact rfl; exact rfl; exact rfl; exact rfl; exact rfl; exact rfl; exact rfl)
      | (apply aops_build; exact rfl; exact rfl; exact rfl)
      | apply awp_exit
      | apply awp_ret
      | (apply aops_call1; exact Tryz.call49; exact word_c _ _))
    refine aret_plain rfl (ares_weak (ares_ct_mid rfl rfl rfl rfl rfl rfl) (weak_tu2 (weak_edit 0 0) (weak_refl _))) ⟨rfl, ext_end _ _ _ _⟩
  · obtain ⟨hw, hm, hwl⟩ := word_head hk1 (by omega)
    by_cases hp : headOf (k : Int) <+: l
    · have hp' : ([32] ++ wordE (k : Int)) ++ [32] <+: l := by rw [hm]; exact hp
      obtain ⟨d, hd0⟩ : ∃ d, d = l.drop (headOf (k : Int)).length := ⟨_, rfl⟩
      have hd : l.drop ((([32] : Bytes) ++ wordE (k : Int)) ++ [32]).length = d := by rw [hm, hd0]
      have hdl : d.length < 1000000 := by rw [hd0, List.length_drop]; omega
      repeat' (first
        | apply awp_seq
        | apply awp_block
        | apply awp_region
        | apply aops_nil
        | apply aops_move
        | apply aops_assign
        | (apply aops_extract; exact rfl; exact rfl)
        | (apply aops_cmpS; exact rfl; exact rfl; exact rfl)
        | (apply awp_cond_any; exact rfl; first | (apply cd_dt; (first | assumption | omega)) | (apply cd_df; (first | assumption | omega)) | (apply cd_nt; (first | exact rfl | assumption)) | (apply cd_nf; (first | exact rfl | assumption)) | (apply cd_n <;> intro h) | (apply cd_t; (first | exact rfl | assumption)) | (apply cd_f; (first | exact rfl | assumption)) | (apply cd_d <;> intro h) | (apply cd_s <;> intro h))
        | (apply aops_concat; exact rfl; exact rfl; (first | omega | (simp only [List.length_append, List.length_cons, List.length_nil]; omega) | (simp; omega)))
        | apply awp_skip
        | (apply aops_call1; exact Tryz.call49; exact word_c _ _)
        | (apply aops_call1; exact Tryz.call53; exact cutHeadD_c _ _ _ _ hp' hd))
      refine aops_call Tryz.call71 ((atoi_c d _ (by omega)).mono ?_)
      rintro _ _ ⟨rfl, n, x, rfl, hx⟩
      rw [hd0] at hx
      rcases x with _ | ⟨t', y⟩
      · simp only at hx
        have htr : tryB (k : Int) l = some n := by unfold tryB; rw [if_pos hp, hx]
        rw [begE_at hk1 (by omega) hno htr]
        repeat' (first
          | apply awp_seq
          | apply awp_region
          | apply aops_nil
          | apply aops_move
          | apply aops_assign
          | (apply aops_extract; exact rfl; exact rfl)
          | (apply aops_guard_any; exact rfl; exact rfl; exact rfl; exact rfl)
          | (apply gd_run_t; (first | exact rfl | assumption))
          | (apply aops_pick_any; exact rfl; first | (apply pk_dt; (first | assumption | omega)) | (apply pk_df; (first | assumption | omega)) | (apply pk_nt; (first | exact rfl | assumption)) | (apply pk_nf; (first | exact rfl | assumption)) | (apply pk_t; (first | exact rfl | assumption)) | (apply pk_f; (first | exact rfl | assumption)))
          | (apply awp_cond_any; exact rfl; first | (apply cd_dt; (first | assumption | omega)) | (apply cd_df; (first | assumption | omega)) | (apply cd_nt; (first | exact rfl | assumption)) | (apply cd_nf; (first | exact rfl | assumption)) | (apply cd_n <;> intro h) | (apply cd_t; (first | exact rfl | assumption)) | (apply cd_f; (first | exact rfl | assumption)) | (apply cd_d <;> intro h) | (apply cd_s <;> intro h))
          | (apply aops_nilEqNil; exact rfl; exact rfl)
          | (apply aops_store_mid; exact rfl; exact rfl; exact rfl; exact rfl; exact rfl; exact rfl; exact rfl; exact rfl; exact rfl; exact rfl; exact rfl)
          | (apply aops_build; exact rfl; exact rfl; exact rfl)
          | apply awp_ret)
        refine aret_plain rfl (ares_weak (ares_ct_mid rfl rfl rfl rfl rfl rfl) (weak_tu2 (weak_edit k n) (weak_refl _))) ⟨rfl, ext_end _ _ _ _⟩
      · simp only at hx
        have htr : tryB (k : Int) l = none := by
          unfold tryB
          rw [if_pos hp]
          split
          · rename_i v hv; exact absurd hv (hx v)
          · rfl
        repeat' (first
          | apply awp_seq
          | apply awp_region
          | apply aops_nil
          | apply aops_move
          | apply aops_assign
          | (apply aops_extract; exact rfl; exact rfl)
          | (apply aops_guard_any; exact rfl; exact rfl; exact rfl; exact rfl)
          | (apply gd_run_t; (first | exact rfl | assumption))
          | (apply aops_pick_any; exact rfl; first | (apply pk_dt; (first | assumption | omega)) | (apply pk_df; (first | assumption | omega)) | (apply pk_nt; (first | exact rfl | assumption)) | (apply pk_nf; (first | exact rfl | assumption)) | (apply pk_t; (first | exact rfl | assumption)) | (apply pk_f; (first | exact rfl | assumption)))
          | (apply awp_cond_any; exact rfl; first | (apply cd_dt; (first | assumption | omega)) | (apply cd_df; (first | assumption | omega)) | (apply cd_nt; (first | exact rfl | assumption)) | (apply cd_nf; (first | exact rfl | assumption)) | (apply cd_n <;> intro h) | (apply cd_t; (first | exact rfl | assumption)) | (apply cd_f; (first | exact rfl | assumption)) | (apply cd_d <;> intro h) | (apply cd_s <;> intro h))
          | (apply aops_add; exact rfl; exact rfl; exact wrap_i64 (by omega) (by omega))
          | (apply aops_errEqNil; exact rfl; exact rfl)
          | apply awp_skip)
        refine ⟨k + 1, ⟨by omega, by omega, fun j h1 h2 => ?_, stE_mk ⟨rfl, rfl, rfl, trivial⟩ rfl⟩, by omega⟩
        by_cases hjk : j = k
        · subst hjk; exact htr
        · exact hno j h1 (by omega)
    · have hp' : ¬ ([32] ++ wordE (k : Int)) ++ [32] <+: l := by rw [hm]; exact hp
      have htr : tryB (k : Int) l = none := by unfold tryB; rw [if_neg hp]
      repeat' (first
        | apply awp_seq
        | apply awp_block
        | apply awp_region
        | apply aops_nil
        | apply aops_move
        | apply aops_assign
        | (apply aops_extract; exact rfl; exact rfl)
        | (apply aops_cmpS; exact rfl; exact rfl; exact rfl)
        | (apply awp_cond_any; exact rfl; first | (apply cd_dt; (first | assumption | omega)) | (apply cd_df; (first | assumption | omega)) | (apply cd_nt; (first | exact rfl | assumption)) | (apply cd_nf; (first | exact rfl | assumption)) | (apply cd_n <;> intro h) | (apply cd_t; (first | exact rfl | assumption)) | (apply cd_f; (first | exact rfl | assumption)) | (apply cd_d <;> intro h) | (apply cd_s <;> intro h))
        | (apply aops_concat; exact rfl; exact rfl; (first | omega | (simp only [List.length_append, List.length_cons, List.length_nil]; omega) | (simp; omega)))
        | apply awp_skip
        | (apply aops_call1; exact Tryz.call49; exact word_c _ _)
        | (apply aops_call1; exact Tryz.call53; exact cutHead0_c _ _ _ hp'))
      refine aops_call Tryz.call71 ((atoi_c l _ (by omega)).mono ?_)
      rintro _ _ ⟨rfl, n, x, rfl, hx⟩
      rcases x with _ | ⟨t', y⟩
      all_goals
        repeat' (first
          | apply awp_seq
          | apply awp_region
          | apply aops_nil
          | apply aops_move
          | apply aops_assign
          | (apply aops_extract; exact rfl; exact rfl)
          | (apply aops_guard_any; exact rfl; exact rfl; exact rfl; exact rfl)
          | (apply gd_skip_f; (first | exact rfl | assumption))
          | (apply aops_pick_any; exact rfl; first | (apply pk_dt; (first | assumption | omega)) | (apply pk_df; (first | assumption | omega)) | (apply pk_nt; (first | exact rfl | assumption)) | (apply pk_nf; (first | exact rfl | assumption)) | (apply pk_t; (first | exact rfl | assumption)) | (apply pk_f; (first | exact rfl | assumption)))
          | (apply awp_cond_any; exact rfl; first | (apply cd_dt; (first | assumption | omega)) | (apply cd_df; (first | assumption | omega)) | (apply cd_nt; (first | exact rfl | assumption)) | (apply cd_nf; (first | exact rfl | assumption)) | (apply cd_n <;> intro h) | (apply cd_t; (first | exact rfl | assumption)) | (apply cd_f; (first | exact rfl | assumption)) | (apply cd_d <;> intro h) | (apply cd_s <;> intro h))
          | (apply aops_add; exact rfl; exact rfl; exact wrap_i64 (by omega) (by omega))
          | apply awp_skip)
        refine ⟨k + 1, ⟨by omega, by omega, fun j h1 h2 => ?_, stE_mk ⟨rfl, rfl, rfl, trivial⟩ rfl⟩, by omega⟩
        by_cases hjk : j = k
        · subst hjk; exact htr
        · exact hno j h1 (by omega)
def recsF (its : List ItemV) : List (List Fld) := (its.filter fun x => decide (x.kind = 3)).map ItemV.fields
@[reducible] def rowsA (ls : List (List Fld)) : AV := .sl 1 (ls.map fldsA) none
theorem rowsA_pure (ls : List (List Fld)) : Pure (rowsA ls) := pure_sl fun x hx => by
  obtain ⟨f, _, rfl⟩ := List.mem_map.1 hx
  intro y hy
  simp only [AV.cells, List.mem_cons, List.not_mem_nil, or_false] at hy
  subst hy
  exact fldsA_pure _
theorem recsF_snoc3 (l : List ItemV) (x : ItemV) (h : x.kind = 3) : recsF (l ++ [x]) = recsF l ++ [x.fields] := by simp [recsF, h]
theorem recsF_snocN (l : List ItemV) (x : ItemV) (h : ¬ x.kind = 3) : recsF (l ++ [x]) = recsF l := by simp [recsF, h]
theorem tipO_fr {b t1 : Nat} {st st' : List AObj} {sz : Nat} {T : TypeId} {xs : List AV} {c c0 : AV} {sz0 : Nat} {xs0 : List AV} (hf : Fr st st' t1) (hid : c0 = .sl sz0 xs0 (some t1) ∨ st.length ≤ t1) (h0 : ∀ t, c0 ≠ .sl sz0 xs0 (some t)) (h : TipO b st sz T xs c) : TipO b st' sz T xs c :=
  tipO_of (fun t m sz T ht => hf.same t (fun e => by
    subst e
    rcases hid with hid | hid
    · exact h0 _ hid
    · have := lt_of_getElem? ht; omega) (lt_of_getElem? ht)) h
theorem tipO_frO {b t1 : Nat} {st st' : List AObj} {sz : Nat} {T : TypeId} {xs : List AV} {c : AV} {sz0 : Nat} {xs0 : List AV} {o v f l k : Nat} (hf : Fr st st' t1) (hid : AV.os o v f l k = .sl sz0 xs0 (some t1) ∨ st.length ≤ t1) (h : TipO b st sz T xs c) : TipO b st' sz T xs c :=
  tipO_fr hf hid (by simp) h
set_option maxHeartbeats 2000000 in
theorem stanzas_c (its : List ItemV) (st : List AObj) (hl : its.length < 1000000) (hf : ∀ x ∈ its, x.fields.length < 1000000) : ACall E 73 [itemsA its] st fun r st' => r = rowsA (recsF its) ∧ st' = st := by
  refine acall_pure (rowsA_pure _) (acall_of_awp Tryz.func73 rfl (Nat.le_of_ble_eq_true rfl) ?_)
  have hml : (its.map itemA).length = its.length := by simp
  rw [List.append_nil]
  repeat' (first
    | apply awp_seq
    | apply awp_block
    | apply awp_region
    | apply aops_nil
    | apply aops_move
    | apply aops_assign
    | (apply aops_lenL; exact rfl; exact rfl; exact rfl; exact rfl))
  refine awp_loopL its (fun pre s => ∃ c S, OutI st S ∧ TipO st.length S 1 43 ((recsF pre).map fldsA) c ∧ StA [(3, c), (6, itemsA its), (7, Iv its.length), (8, Iv pre.length)] S [] s) ⟨_, st, ⟨fun _ _ => rfl, Nat.le_refl _⟩, tipO_nil .., stA_mk ⟨rfl, rfl, congrArg (fun n : Nat => Iv (n : Int)) hml, rfl, trivial⟩⟩ ?_ ?_
  · rintro _ ⟨c, S, hO, hT, t, rfl⟩
    repeat' (first
      | apply awp_seq
      | apply awp_region
      | apply aops_nil
      | apply aops_move
      | apply aops_assign
      | (apply aops_cmpI; exact rfl; exact rfl; exact rfl)
      | (apply awp_cond_any; exact rfl; first | (apply cd_dt; (first | assumption | omega)) | (apply cd_df; (first | assumption | omega)) | (apply cd_nt; (first | exact rfl | assumption)) | (apply cd_nf; (first | exact rfl | assumption)) | (apply cd_n <;> intro h) | (apply cd_t; (first | exact rfl | assumption)) | (apply cd_f; (first | exact rfl | assumption)) | (apply cd_d <;> intro h) | (apply cd_s <;> intro h))
      | apply awp_exit
      | apply awp_ret)
    exact aret_plain rfl (ares_weak (ares_one rfl) (rel_tipO hT)) ⟨rfl, hO.ext⟩
  · rintro pre x rest _ hr ⟨c, S, hO, hT, t, rfl⟩
    have hlen : its.length = pre.length + (rest.length + 1) := by rw [hr]; simp
    have hget : (its.map itemA)[pre.length]? = some (itemA x) := by rw [hr]; simp
    have hxf := hf x (by rw [hr]; simp)
    have hpl : (recsF pre).length ≤ pre.length := by unfold recsF; rw [List.length_map]; exact List.length_filter_le _ _
    have hSl := hO.len
    have hO1 : OutI st ((S ++ [AObj.cells 0 144 [Iv 0, Sv [], nilSl]]).set S.length (.cells 0 144 (itemA x).cells)) := hO.pre.set hSl
    have hT1 : TipO st.length ((S ++ [AObj.cells 0 144 [Iv 0, Sv [], nilSl]]).set S.length (.cells 0 144 (itemA x).cells)) 1 43 ((recsF pre).map fldsA) c := tipO_setc (tipO_pre hT) (notTip_cells get_end)
    have hob : ((S ++ [AObj.cells 0 144 [Iv 0, Sv [], nilSl]]).set S.length (.cells 0 144 (itemA x).cells))[S.length]? = some (.cells 0 144 (itemA x).cells) := get_set get_end
    by_cases h3 : x.kind = 3
    · skip
      repeat' (first
        | (apply aops_buildSliceW (st := (S ++ [AObj.cells 0 144 [Iv 0, Sv [], nilSl]]).set S.length (.cells 0 144 (itemA x).cells)); exact rfl; exact rfl; exact rfl; exact rfl; exact rfl; exact rfl)
        | (apply aops_weak 19 rfl (rel_tipO g1); apply aops_buildSlice; exact rfl; exact rfl; exact rfl; exact rfl; exact rfl; exact rfl; exact rfl; exact rfl; exact rfl)
        | apply awp_seq
        | apply awp_block
        | apply awp_region
        | apply aops_nil
        | apply aops_move
        | apply aops_assign
        | (apply aops_cmpI; exact rfl; exact rfl; exact rfl)
        | (apply awp_cond_any; exact rfl; first | (apply cd_dt; (first | assumption | omega)) | (apply cd_df; (first | assumption | omega)) | (apply cd_nt; (first | exact rfl | assumption)) | (apply cd_nf; (first | exact rfl | assumption)) | (apply cd_n <;> intro h) | (apply cd_t; (first | exact rfl | assumption)) | (apply cd_f; (first | exact rfl | assumption)) | (apply cd_d <;> intro h) | (apply cd_s <;> intro h))
        | (apply aops_add; exact rfl; exact rfl; exact wrap_i64 (by omega) (by omega))
        | (apply aops_fieldAddr_bx; exact rfl; exact rfl; exact rfl)
        | (apply aops_load_pp; exact rfl; exact rfl; exact rfl)
        | apply awp_skip
        | (apply aops_load_bx; exact rfl; exact hob; exact rfl; exact rfl)
        | (apply aops_load_bx; exact rfl; exact get_pre' hob; exact rfl; exact rfl)
        | (apply aops_allocW (st := S); exact rfl; exact rfl)
        | (apply aops_store_at; exact rfl; exact rfl; (focus first | assumption | (repeat' (first | assumption | exact get_end | exact get_loc rfl | apply get_set | apply get_set_ne | omega | apply get_pre'))); exact rfl; exact rfl; exact rfl; exact rfl; exact rfl; exact rfl)
        | (apply aops_indexAddr (n := pre.length); exact rfl; exact rfl; exact rfl; exact rfl; exact rfl; exact hget)
        | (apply aops_appendO (b := st.length) (xs := []) (ys := x.fields.map fldA) (bytes := 32);  exact rfl; exact rfl; exact rfl; exact rfl; exact rfl; exact ⟨⟨_, _, rfl, rfl, rfl, rfl, rfl⟩⟩; exact tipO_os _ _ _ _ _ _ _; (exact Nat.le_trans hO1.len len_app); (first | exact rfl | exact allOne_map fun _ => rfl); ((simp [maxLen]; omega)); ((simp; omega)); intro c1 S1 t1 g1 g2 g3 g4)
        | (apply aops_appendO (b := st.length) (xs := (recsF pre).map fldsA) (ys := [fldsA x.fields]) (bytes := 24);  exact rfl; exact rfl; exact rfl; exact rfl; exact rfl; exact ⟨⟨_, _, rfl, rfl, rfl, rfl, rfl⟩⟩; exact tipO_frO g2 g4 (tipO_pre hT1); (exact (hO1.pre.fr g2 g3).len); (first | exact rfl | exact allOne_map fun _ => rfl); ((simp [maxLen]; omega)); ((simp; omega)); intro c2 S2 t2 k1 k2 k3 k4))
      exact ⟨c2, S2, (hO1.pre.fr g2 g3).fr k2 k3, by rw [recsF_snoc3 _ _ h3, map_snoc]; exact k1, stA_mk ⟨rfl, rfl, rfl, iv_snoc pre x, trivial⟩⟩
    · skip
      repeat' (first
        | apply awp_seq
        | apply awp_block
        | apply awp_region
        | apply aops_nil
        | apply aops_move
        | (apply aops_cmpI; exact rfl; exact rfl; exact rfl)
        | (apply awp_cond_any; exact rfl; first | (apply cd_dt; (first | assumption | omega)) | (apply cd_df; (first | assumption | omega)) | (apply cd_nt; (first | exact rfl | assumption)) | (apply cd_nf; (first | exact rfl | assumption)) | (apply cd_n <;> intro h) | (apply cd_t; (first | exact rfl | assumption)) | (apply cd_f; (first | exact rfl | assumption)) | (apply cd_d <;> intro h) | (apply cd_s <;> intro h))
        | (apply aops_add; exact rfl; exact rfl; exact wrap_i64 (by omega) (by omega))
        | (apply aops_fieldAddr_bx; exact rfl; exact rfl; exact rfl)
        | (apply aops_load_pp; exact rfl; exact rfl; exact rfl)
        | apply awp_skip
        | (apply aops_load_bx; exact rfl; exact hob; exact rfl; exact rfl)
        | (apply aops_allocW (st := S); exact rfl; exact rfl)
        | (apply aops_store_at; exact rfl; exact rfl; (focus first | assumption | (repeat' (first | assumption | exact get_end | exact get_loc rfl | apply get_set | apply get_set_ne | omega | apply get_pre'))); exact rfl; exact rfl; exact rfl; exact rfl; exact rfl; exact rfl)
        | (apply aops_indexAddr (n := pre.length); exact rfl; exact rfl; exact rfl; exact rfl; exact rfl; exact hget))
      exact ⟨c, _, hO1, by rw [recsF_snocN _ _ h3]; exact hT1, stA_mk ⟨rfl, rfl, rfl, iv_snoc pre x, trivial⟩⟩
end Go.Proofs.YtplagcbifecagaaGreatDoor
set_option maxRecDepth 100000
set_option linter.unusedVariables false
namespace Go.Pl
open Go Go.Proofs Go.Proofs.YtplagcbifecagaaGreatDoor
def GF (fs : List Fld) : Prop := fs.length ≤ 40 ∧ ∀ f ∈ fs, goodFld f
structure PI (p : PSt) : Prop where
  items : ∀ x ∈ p.items, GF x.fields ∧ (x.kind = 3 ↔ x.fields ≠ [])
  fields : GF p.fields
  full : p.lines ≠ [] → p.full = false → p.fields.length < 40
theorem unfold_good {ls : List Bytes} (h : (unfoldF ls).2 = 0) : goodFld (unfoldF ls).1 := by
  unfold unfoldF at h ⊢
  split at h
  · split at h
    · simp at h
    · rename_i h1 h2
      rw [if_pos h1, if_neg h2]
      exact ⟨(kind_four.1 h1.2.1).2.2, Nat.le_of_not_lt h2⟩
  · simp at h
theorem pi0 : PI p0 := ⟨by simp [p0], ⟨by simp [p0], by simp [p0]⟩, by simp [p0]⟩
theorem PI.flush {p : PSt} (h : PI p) : PI (flushP p).2 := by
  unfold flushP
  split
  · exact h
  · rename_i hl
    split
    · exact h
    · rename_i hu
      split
      · exact h
      · rename_i hf
        have hlt := h.full hl (by simpa using hf)
        refine ⟨h.items, ⟨by simp; omega, fun f hm => ?_⟩, by simp⟩
        rcases List.mem_append.1 hm with hm | hm
        · exact h.fields.2 f hm
        · simp at hm; subst hm; exact unfold_good (by simpa using hu)
theorem PI.close {p : PSt} (h : PI p) : PI (closeP p) := by
  unfold closeP
  split
  · exact ⟨h.items, ⟨by simp, by simp⟩, fun h1 h2 => by simp⟩
  · refine ⟨fun x hx => ?_, ⟨by simp, by simp⟩, fun h1 h2 => by simp⟩
    rcases List.mem_append.1 hx with hx | hx
    · exact h.items x hx
    · simp at hx
      subst hx
      refine ⟨h.fields, ?_⟩
      simp only
      split
      · rename_i h0; simp [h0]
      · rename_i h0; simp [h0]
theorem PI.end' {p : PSt} (h : PI p) : PI (endP p).2 := by
  unfold endP
  split
  · exact h
  · exact h.flush.close
theorem PI.lines' {p : PSt} (h : PI p) (hl : p.lines ≠ []) (text : Bytes) : PI { p with lines := p.lines ++ [text] } := ⟨h.items, h.fields, fun _ hf => h.full hl hf⟩
theorem PI.begin' {p : PSt} (h : PI p) (no : Int) (text : Bytes) : PI (beginP p no text) := by
  refine ⟨h.items, h.fields, fun _ hf => ?_⟩
  have := h.fields.1
  simp only [beginP, decide_eq_false_iff_not, not_or] at hf ⊢
  omega
theorem PI.ahead {p : PSt} (h : PI p) (no : Int) (text : Bytes) (ended : Bool) (kind : Int) : PI (aheadP p no text ended kind).2 := by
  unfold aheadP
  split
  · split
    · exact h
    · rename_i hl
      split
      · exact h.lines' hl text
      · exact (h.lines' hl text).flush
  · split
    · exact h.end'
    · exact h.flush
theorem PI.take {p : PSt} (h : PI p) (no : Int) (text : Bytes) (ended : Bool) : PI (takeP p no text ended).2 := by
  have ha := h.ahead no text ended (kindOf text)
  unfold takeP
  split
  · exact h
  · split
    · exact h
    · split
      · refine ⟨fun x hx => ?_, ha.fields, ha.full⟩
        rcases List.mem_append.1 hx with hx | hx
        · exact ha.items x hx
        · simp at hx; subst hx; exact ⟨⟨by simp, by simp⟩, by simp⟩
      · split
        · have hb := ha.begin' no text
          exact ⟨hb.items, hb.fields, hb.full⟩
        · exact ⟨ha.items, ha.fields, ha.full⟩
theorem PI.run : ∀ (ls : List (Bytes × Bool)) (k : Nat) (p : PSt), PI p → PI (runL k ls p).2
  | [], k, p, h => h.end'
  | (t, e) :: r, k, p, h => by
    unfold runL
    split
    · exact h
    · exact PI.run r (k + 1) _ (h.take k t e)
theorem parse_items (text : Bytes) : ∀ x ∈ (parseF text).2, GF x.fields ∧ (x.kind = 3 ↔ x.fields ≠ []) := by
  unfold parseF
  split
  · simp
  · exact (PI.run _ 0 _ pi0).items
theorem closeP_items (p : PSt) : (closeP p).items.length ≤ p.items.length + 1 := by
  unfold closeP
  split <;> simp
theorem flushP_items (p : PSt) : (flushP p).2.items = p.items := by
  unfold flushP
  split
  · rfl
  · split
    · rfl
    · split <;> rfl
theorem endP_items (p : PSt) : (endP p).2.items.length ≤ p.items.length + 1 := by
  unfold endP
  split
  · simp
  · have := closeP_items (flushP p).2
    rw [flushP_items] at this
    exact this
theorem aheadP_items (p : PSt) (no : Int) (text : Bytes) (ended : Bool) (kind : Int) : (aheadP p no text ended kind).2.items.length ≤ p.items.length + 1 := by
  unfold aheadP
  split
  · split
    · simp
    · split
      · simp
      · rw [flushP_items]; simp
  · split
    · exact endP_items p
    · rw [flushP_items]; simp
theorem takeP_items (p : PSt) (no : Int) (text : Bytes) (ended : Bool) : (takeP p no text ended).2.items.length ≤ p.items.length + 2 := by
  have ha := aheadP_items p no text ended (kindOf text)
  unfold takeP
  split
  · simp
  · split
    · simp
    · split
      · simp; omega
      · split
        · simp [beginP]; omega
        · simp; omega
theorem runL_items : ∀ (ls : List (Bytes × Bool)) (k : Nat) (p : PSt), (runL k ls p).2.items.length ≤ p.items.length + 2 * ls.length + 1
  | [], k, p => by have := endP_items p; simp [runL]; omega
  | (t, e) :: r, k, p => by
    unfold runL
    split
    · simp; omega
    · have h1 := runL_items r (k + 1) (takeP p k t e).2
      have h2 := takeP_items p k t e
      simp only [List.length_cons]
      omega
theorem parse_len (text : Bytes) : (parseF text).2.length ≤ 2 * text.length + 1 := by
  unfold parseF
  split
  · simp
  · have h1 := runL_items (linesOf text) 0 p0
    have h2 := (lines_sum _ text (Nat.le_refl _)).2
    have h3 : p0.items.length = 0 := rfl
    simp only
    omega
theorem dedent_len (by' l : Bytes) : (dedentOf by' l).1.length ≤ l.length := by
  unfold dedentOf
  split
  · have h := (lines_sum _ l (Nat.le_refl _)).1
    have key : ∀ (ls : List (Bytes × Bool)), (ls.flatMap fun x => x.1.drop by'.length ++ lineEnd x.2).length ≤ lsum ls := by
      intro ls
      induction ls with
      | nil => simp [lsum]
      | cons x r ih =>
        simp only [lsum, List.flatMap_cons, List.length_append, List.map_cons, List.sum_cons, List.length_drop] at ih ⊢
        omega
    have := key (linesOf l)
    simp only
    omega
  · simp
end Go.Pl
set_option maxRecDepth 100000
set_option linter.unusedVariables false
namespace Go.Proofs.YtplagcbifecagaaGreatDoor
open Go Go.Av Go.RowKit Go.Proofs Go.Pl
theorem sparseOk_c (text : Bytes) (st : List AObj) (hl : text.length ≤ 60000) (h : (parseF text).1 = none) : ACall E 72 [Sv text] st fun r st' => r = .tu [itemsA (parseF text).2, .v .nilIface] ∧ st' = st := by
  have := sparse_c text st hl
  unfold parseA at this
  rw [h] at this
  exact this
theorem sparseErr_c (text : Bytes) (st : List AObj) (a n : Int) (hl : text.length ≤ 60000) (h : (parseF text).1 = some (a, n)) : ACall E 72 [Sv text] st fun r st' => r = .tu [itemsA (parseF text).2, .ifc 92 (.pp [Iv a, .ifc 31 (Iv n)])] ∧ st' = st := by
  have := sparse_c text st hl
  unfold parseA at this
  rw [h] at this
  exact this
def fldsOf (text : Bytes) : List Fld × Bool :=
  if (dedentOf [32, 32] text).2 = false ∨ (parseF (dedentOf [32, 32] text).1).1 ≠ none then ([], false)
  else match recsF (parseF (dedentOf [32, 32] text).1).2 with
    | [] => ([], decide ((dedentOf [32, 32] text).1 = []))
    | f :: _ => (f, decide ((parseF (dedentOf [32, 32] text).1).2.length = 1))
theorem tu_fb {a b : List Fld} {c d : Bool} (h1 : a = b) (h2 : c = d) : AV.tu [fldsA a, Bv c] = AV.tu [fldsA b, Bv d] := by rw [h1, h2]
theorem recsF_good {its : List ItemV} (h : ∀ x ∈ its, GF x.fields ∧ (x.kind = 3 ↔ x.fields ≠ [])) : ∀ fs ∈ recsF its, GF fs ∧ fs ≠ [] := fun fs hfs => by
  obtain ⟨x, hx, rfl⟩ := List.mem_map.1 hfs
  obtain ⟨hx1, hx2⟩ := List.mem_filter.1 hx
  have := h x hx1
  exact ⟨this.1, this.2.1 (by simpa using hx2)⟩
set_option maxHeartbeats 2000000 in
theorem fields_c (text : Bytes) (st : List AObj) (hl : text.length ≤ 60000) : ACall E 33 [Sv text] st fun r st' => r = .tu [fldsA (fldsOf text).1, Bv (fldsOf text).2] ∧ st' = st := by
  refine acall_pure (pure_tu2 (fldsA_pure _) (pure_v _)) (acall_of_awp Tryz.func33 rfl (Nat.le_of_ble_eq_true rfl) ?_)
  have hdl := dedent_len [32, 32] text
  have hpl := parse_len (dedentOf [32, 32] text).1
  have hit := parse_items (dedentOf [32, 32] text).1
  unfold fldsOf
  obtain ⟨d, hd⟩ : ∃ d, d = dedentOf [32, 32] text := ⟨_, rfl⟩
  have hdc : ∀ st, ACall E 24 [Sv text, Sv [32, 32]] st fun r st' => r = .tu [Sv d.1, Bv d.2] ∧ st' = st := fun st => by rw [hd]; exact dedent_c text [32, 32] st (by omega)
  rw [← hd] at hdl hpl hit ⊢
  obtain ⟨b, ok⟩ := d
  simp only at hdl hpl hit hdc ⊢
  cases hp : (parseF b).1 with
  | some e =>
    obtain ⟨a, n⟩ := e
    rw [if_pos (.inr (by simp))]
    cases ok
    all_goals
      repeat' (first
        | apply awp_seq
        | apply awp_region
        | apply aops_nil
        | apply aops_move
        | apply aops_assign
        | (apply aops_extract; exact rfl; exact rfl)
        | (apply aops_not; exact rfl)
        | (apply aops_guard_any; exact rfl; exact rfl; exact rfl; exact rfl)
        | (apply gd_run_nf; (first | exact rfl | assumption))
        | (apply gd_skip_nt; (first | exact rfl | assumption))
        | (apply aops_pick_any; exact rfl; first | (apply pk_dt; (first | assumption | omega)) | (apply pk_df; (first | assumption | omega)) | (apply pk_nt; (first | exact rfl | assumption)) | (apply pk_nf; (first | exact rfl | assumption)) | (apply pk_t; (first | exact rfl | assumption)) | (apply pk_f; (first | exact rfl | assumption)))
        | (apply awp_cond_any; exact rfl; first | (apply cd_dt; (first | assumption | omega)) | (apply cd_df; (first | assumption | omega)) | (apply cd_nt; (first | exact rfl | assumption)) | (apply cd_nf; (first | exact rfl | assumption)) | (apply cd_n <;> intro h) | (apply cd_t; (first | exact rfl | assumption)) | (apply cd_f; (first | exact rfl | assumption)) | (apply cd_d <;> intro h) | (apply cd_s <;> intro h))
        | (apply aops_errNeNil; exact rfl; exact rfl)
        | apply awp_ret
        | (apply aops_call1; exact Tryz.call24; exact hdc _)
        | (apply aops_call1; exact Tryz.call72; exact sparseErr_c _ _ _ _ (by omega) hp))
      exact aret_plain rfl (ares_weak (ares_two rfl) (weak_tu2 (weak_nilSl 2) (weak_refl (Bv false)))) ⟨rfl, _, rfl⟩
  | none =>
    cases ok
    · rw [if_pos (.inl rfl)]
      repeat' (first
        | apply awp_seq
        | apply awp_region
        | apply aops_nil
        | apply aops_move
        | apply aops_assign
        | (apply aops_extract; exact rfl; exact rfl)
        | (apply aops_not; exact rfl)
        | (apply aops_guard_any; exact rfl; exact rfl; exact rfl; exact rfl)
        | (apply gd_skip_nt; (first | exact rfl | assumption))
        | (apply aops_pick_any; exact rfl; first | (apply pk_dt; (first | assumption | omega)) | (apply pk_df; (first | assumption | omega)) | (apply pk_nt; (first | exact rfl | assumption)) | (apply pk_nf; (first | exact rfl | assumption)) | (apply pk_t; (first | exact rfl | assumption)) | (apply pk_f; (first | exact rfl | assumption)))
        | (apply awp_cond_any; exact rfl; first | (apply cd_dt; (first | assumption | omega)) | (apply cd_df; (first | assumption | omega)) | (apply cd_nt; (first | exact rfl | assumption)) | (apply cd_nf; (first | exact rfl | assumption)) | (apply cd_n <;> intro h) | (apply cd_t; (first | exact rfl | assumption)) | (apply cd_f; (first | exact rfl | assumption)) | (apply cd_d <;> intro h) | (apply cd_s <;> intro h))
        | apply awp_ret
        | (apply aops_call1; exact Tryz.call24; exact hdc _)
        | (apply aops_call1; exact Tryz.call72; exact sparseOk_c _ _ (by omega) hp))
      exact aret_plain rfl (ares_weak (ares_two rfl) (weak_tu2 (weak_nilSl 2) (weak_refl (Bv false)))) ⟨rfl, _, rfl⟩
    · rw [if_neg (by simp)]
      have hsc := fun st => stanzas_c (parseF b).2 st (by omega) (fun x hx => by have := (hit x hx).1.1; omega)
      have hml : ((parseF b).2.map itemA).length = (parseF b).2.length := by simp
      cases hr : recsF (parseF b).2 with
      | nil =>
        rw [hr] at hsc
        repeat' (first
          | apply awp_seq
          | apply awp_region
          | apply aops_nil
          | apply aops_move
          | apply aops_assign
          | (apply aops_extract; exact rfl; exact rfl)
          | (apply aops_cmpI; exact rfl; exact rfl; exact rfl)
          | (apply aops_cmpS; exact rfl; exact rfl; exact rfl)
          | (apply aops_not; exact rfl)
          | (apply aops_guard_any; exact rfl; exact rfl; exact rfl; exact rfl)
          | (apply gd_run_nf; (first | exact rfl | assumption))
          | (apply aops_pick_any; exact rfl; first | (apply pk_dt; (first | assumption | omega)) | (apply pk_df; (first | assumption | omega)) | (apply pk_nt; (first | exact rfl | assumption)) | (apply pk_nf; (first | exact rfl | assumption)) | (apply pk_t; (first | exact rfl | assumption)) | (apply pk_f; (first | exact rfl | assumption)))
          | (apply awp_cond_any; exact rfl; first | (apply cd_dt; (first | assumption | omega)) | (apply cd_df; (first | assumption | omega)) | (apply cd_nt; (first | exact rfl | assumption)) | (apply cd_nf; (first | exact rfl | assumption)) | (apply cd_n <;> intro h) | (apply cd_t; (first | exact rfl | assumption)) | (apply cd_f; (first | exact rfl | assumption)) | (apply cd_d <;> intro h) | (apply cd_s <;> intro h))
          | (apply aops_lenL; exact rfl; exact rfl; exact rfl; exact rfl)
          | (apply aops_nilNeNil; exact rfl; exact rfl)
          | apply awp_skip
          | apply awp_ret
          | (apply aops_call1; exact Tryz.call24; exact hdc _)
          | (apply aops_call1; exact Tryz.call72; exact sparseOk_c _ _ (by omega) hp)
          | (apply aops_call1; exact Tryz.call73; exact hsc _))
        exact aret_plain rfl (ares_weak (ares_two rfl) (weak_tu2 (weak_nilSl 2) (weak_refl (Bv (decide (b = [])))))) ⟨rfl, _, rfl⟩
      | cons f r =>
        rw [hr] at hsc
        have hrl : ((f :: r).map fldsA).length = r.length + 1 := by simp
        repeat' (first
          | apply awp_seq
          | apply awp_region
          | apply aops_nil
          | apply aops_move
          | apply aops_assign
          | (apply aops_extract; exact rfl; exact rfl)
          | (apply aops_cmpI; exact rfl; exact rfl; exact rfl)
          | (apply aops_not; exact rfl)
          | (apply aops_guard_any; exact rfl; exact rfl; exact rfl; exact rfl)
          | (apply gd_run_nf; (first | exact rfl | assumption))
          | (apply aops_pick_any; exact rfl; first | (apply pk_dt; (first | assumption | omega)) | (apply pk_df; (first | assumption | omega)) | (apply pk_nt; (first | exact rfl | assumption)) | (apply pk_nf; (first | exact rfl | assumption)) | (apply pk_t; (first | exact rfl | assumption)) | (apply pk_f; (first | exact rfl | assumption)))
          | (apply awp_cond_any; exact rfl; first | (apply cd_dt; (first | assumption | omega)) | (apply cd_df; (first | assumption | omega)) | (apply cd_nt; (first | exact rfl | assumption)) | (apply cd_nf; (first | exact rfl | assumption)) | (apply cd_n <;> intro h) | (apply cd_t; (first | exact rfl | assumption)) | (apply cd_f; (first | exact rfl | assumption)) | (apply cd_d <;> intro h) | (apply cd_s <;> intro h))
          | (apply aops_lenL; exact rfl; exact rfl; exact rfl; exact rfl)
          | (apply aops_nilNeNil; exact rfl; exact rfl)
          | (apply aops_load_pp; exact rfl; exact rfl; exact rfl)
          | apply awp_skip
          | apply awp_ret
          | (apply aops_call1; exact Tryz.call24; exact hdc _)
          | (apply aops_call1; exact Tryz.call72; exact sparseOk_c _ _ (by omega) hp)
          | (apply aops_call1; exact Tryz.call73; exact hsc _)
          | (apply aops_indexAddr (n := 0); exact rfl; exact rfl; exact rfl; exact rfl; exact rfl; exact rfl))
        refine aret_plain rfl (ares_two rfl) ⟨tu_fb rfl (decide_eq_decide.2 ?_), _, rfl⟩
        rw [hml]
        omega
end Go.Proofs.YtplagcbifecagaaGreatDoor
set_option linter.unusedVariables false
namespace Go.Av
open Go Go.RowKit
def noDefer (o : Oper) : Bool := match o.op with
  | .defer _ => false
  | _ => true
theorem noDefer_ne {o : Oper} (h : noDefer o = true) : ∀ c, o.op ≠ .defer c := fun c e => by
  unfold noDefer at h
  rw [e] at h
  simp at h
theorem wpOpIn_rd {P : Program} {ops : Array Oper} {Q : Exit → Act → World → Prop} {l i : Nat} {K : Act → World → Prop} {a : Act} {w : World} (hnd : ∀ o, ops[i]? = some o → noDefer o = true) (h : wpOpIn (fw none) 0 P ops Q i K a w) : wpOpIn (fw (some l)) 0 P ops Q i K a w := by
  unfold wpOpIn at *
  cases ho : ops[i]? with
  | none => simp only [ho] at h ⊢; exact h
  | some o =>
    simp only [ho] at h ⊢
    split
    · rename_i hw
      rw [if_pos hw] at h
      unfold Oper.wpIn at *
      rw [semAt_eq (rd := none) (noDefer_ne (hnd o ho))] at h
      rw [semAt_eq (rd := some l) (noDefer_ne (hnd o ho))]
      exact h
    · rename_i hw
      rw [if_neg hw] at h
      exact h
theorem wpAnyIn_rd {P : Program} {ops : Array Oper} {Q : Exit → Act → World → Prop} {l : Nat} {md : Region.Mode} (hnd : ops.all noDefer = true) : ∀ (fuel : Nat) (listed : Array Bool) (a : Act) (w : World), wpAnyIn (fw none) 0 P md ops Q fuel listed a w → wpAnyIn (fw (some l)) 0 P md ops Q fuel listed a w
  | 0, _, _, _, h => h
  | fuel + 1, listed, a, w, h => ⟨h.1, fun i hi => wpOpIn_rd (fun o ho => by
      rw [Array.all_eq_true] at hnd
      obtain ⟨h1, h2⟩ := Array.getElem?_eq_some_iff.1 ho
      rw [← h2]
      exact hnd i h1) (wpOpIn_mono (fun a w => wpAnyIn_rd hnd fuel _ a w) (h.2 i hi))⟩
theorem awp_drawZR {E : Env} {rd : Option Nat} {N : Nat} {ops : Array Oper} {s : AS} {id : Nat} {Q : Exit → AS → Prop} {n : Nat} (hm : E.P.follows .mixedOrders = true) (hd : ops.all noDefer = true) (hn : ops.size = n) (h : AZ E N ops n (Array.replicate n false) (Q .normal) s) : AWp E rd N (.region id ops true) Q s := by
  cases rd with
  | none => exact awp_drawZ hm hn h
  | some l =>
    subst hn
    refine ⟨fun B0 w0 G a w hL hI => ?_⟩
    have hBl : Below w.heap.size w { w with drawn := w.drawn + 1 } := ⟨rfl, rfl, rfl, Nat.le_refl _, fun _ _ => rfl⟩
    have hI2 : Inv B0 w0 N G s a { w with drawn := w.drawn + 1 } := ⟨hI.agree.fresh hBl, hI.defers, hI.size, hI.tmps⟩
    have := h.run B0 w0 G a _ hL hI2 (fun a' w' => ∃ (G' : Gh) (s' : AS), G.le G' ∧ Inv B0 w0 N G' s' a' w' ∧ Q .normal s') fun G' s' a' w' hG hI' hk => ⟨G', s', hG, hI', hk⟩
    refine wpIn_mono (wpIn_region_any hm (wpAnyIn_rd hd _ _ _ _ this)) fun e a' w' hq => ?_
    cases e with
    | normal => exact hq
    | _ => exact hq.elim
end Go.Av
set_option maxRecDepth 100000
set_option linter.unusedVariables false
namespace Go.Proofs.YtplagcbifecagaaGreatDoor
open Go Go.Av Go.RowKit Go.Proofs Go.Pl
def partsL (text : Bytes) : List LnV → Nat → List Bytes
  | [], frm => [text.drop frm]
  | l :: r, frm => if frm < l.at' ∧ ¬ [32, 32] <+: l.text then (text.take l.at').drop frm :: partsL text r l.at' else partsL text r frm
def partsE (text : Bytes) : List Bytes := partsL text (lns text) 0
theorem frO_get {b t1 k sz : Nat} {T : TypeId} {xs : List AV} {c : AV} {S S' : List AObj} {x : AObj} (hf : Fr S S' t1) (hid : c = .sl sz xs (some t1) ∨ S.length ≤ t1) (hT : TipO b S sz T xs c) (hx : S[k]? = some x) (hn : notTip (some x)) : S'[k]? = some x := by
  refine (hf.same k (fun e => ?_) (lt_of_getElem? hx)).trans hx
  subst e
  rcases hid with hid | hid
  · rcases hT with (⟨_, h⟩ | ⟨t, h1, h2, _⟩) | ⟨_, o, v, f, h⟩
    · rw [h] at hid; simp at hid
    · rw [hid] at h1
      simp only [AV.sl.injEq, Option.some.injEq, true_and] at h1
      rw [← h1] at h2
      rw [hx] at h2
      exact hn _ _ _ h2
    · rw [h] at hid; simp at hid
  · have := lt_of_getElem? hx
    omega
theorem fr_low {st S S' : List AObj} {t1 : Nat} (hf : Fr S S' t1) (hle : st.length ≤ S.length) (ht : st.length ≤ t1) (hlow : ∀ j, j < st.length → S[j]? = st[j]?) : ∀ j, j < st.length → S'[j]? = st[j]? :=
  fun j hj => (hf.same j (by omega) (by omega)).trans (hlow j hj)
theorem tipO_okc {b sz : Nat} {T : TypeId} {xs : List AV} {c : AV} {S : List AObj} (h : TipO b S sz T xs c) : c.okc = true := by
  rcases h with (⟨_, rfl⟩ | ⟨t, rfl, _⟩) | ⟨_, o, v, f, rfl⟩ <;> rfl
theorem tipO_cells {b sz : Nat} {T : TypeId} {xs : List AV} {c : AV} {S : List AObj} (h : TipO b S sz T xs c) : c.cells = [c] := by
  rcases h with (⟨_, rfl⟩ | ⟨t, rfl, _⟩) | ⟨_, o, v, f, rfl⟩ <;> rfl
theorem tipO_len {b sz : Nat} {T : TypeId} {xs : List AV} {c : AV} {S : List AObj} (h : TipO b S sz T xs c) : lenA c = some xs.length := by
  rcases h with (⟨rfl, rfl⟩ | ⟨t, rfl, _⟩) | ⟨rfl, o, v, f, rfl⟩ <;> rfl
theorem tipO_one {b sz : Nat} {T : TypeId} {xs : List AV} {c : AV} {S : List AObj} (h : TipO b S sz T xs c) : allOne [c] = true := by
  rcases h with (⟨_, rfl⟩ | ⟨t, rfl, _⟩) | ⟨_, o, v, f, rfl⟩ <;> rfl
structure PartsI (st : List AObj) (text : Bytes) (out : List Bytes) (frm : Nat) (c : AV) (S : List AObj) : Prop where
  low : ∀ j, j < st.length → S[j]? = st[j]?
  c0 : S[st.length + 0]? = some (.cells 0 9 [Sv text])
  c1 : S[st.length + 1]? = some (.cells 0 60 [c])
  c2 : S[st.length + 2]? = some (.cells 0 3 [Iv frm])
  c3 : S[st.length + 3]? = some (.cells 0 9 [Sv text])
  tip : TipO (st.length + 4) S 1 9 (out.map fun x => Sv x) c
theorem PartsI.ext {st : List AObj} {text : Bytes} {out : List Bytes} {frm : Nat} {c : AV} {S S' : List AObj} (h : PartsI st text out frm c S) (hE : Ext (st.length + 4) S S') : PartsI st text out frm c S' :=
  ⟨fun j hj => (hE.low j (by omega)).trans (h.low j hj), (hE.low _ (by omega)).trans h.c0, (hE.low _ (by omega)).trans h.c1, (hE.low _ (by omega)).trans h.c2, (hE.low _ (by omega)).trans h.c3, tipO_of hE.tips h.tip⟩
theorem PartsI.app {st : List AObj} {text p : Bytes} {out : List Bytes} {frm nx : Nat} {c c' : AV} {S S' : List AObj} {t1 : Nat} (h : PartsI st text out frm c S) (g1 : TipO (st.length + 4) S' 1 9 ((out.map fun x => Sv x) ++ [Sv p]) c') (g2 : Fr S S' t1) (g3 : st.length + 4 ≤ t1) (g4 : c = .sl 1 (out.map fun x => Sv x) (some t1) ∨ S.length ≤ t1) :
    PartsI st text (out ++ [p]) nx c' ((S'.set (st.length + 1) (.cells 0 60 [c'])).set (st.length + 2) (.cells 0 3 [Iv nx])) := by
  have k0 := frO_get g2 g4 h.tip h.c0 (notTip_cells rfl)
  have k1 := frO_get g2 g4 h.tip h.c1 (notTip_cells rfl)
  have k2 := frO_get g2 g4 h.tip h.c2 (notTip_cells rfl)
  have k3 := frO_get g2 g4 h.tip h.c3 (notTip_cells rfl)
  have k2' : (S'.set (st.length + 1) (.cells 0 60 [c']))[st.length + 2]? = some (.cells 0 3 [Iv frm]) := get_set_ne k2 (by omega)
  refine ⟨fun j hj => (get_set_low (by omega)).trans ((get_set_low (by omega)).trans ?_), get_set_ne (get_set_ne k0 (by omega)) (by omega), get_set_ne (get_set k1) (by omega), get_set k2', get_set_ne (get_set_ne k3 (by omega)) (by omega), ?_⟩
  · rw [← h.low j hj]
    have := lt_of_getElem? h.c0
    exact g2.same j (by omega) (by omega)
  · rw [map_snoc (fun x => Sv x)]
    exact tipO_setc (tipO_setc g1 (notTip_cells k1)) (notTip_cells k2')
theorem hasPre1_c (l m : Bytes) (st : List AObj) (h : m <+: l) : ACall E 69 [Sv l, Sv m] st fun r st' => r = Bv true ∧ st' = st := by
  have := hasPrefix_c l m st
  rw [(hasPrefix_iff l m).2 h] at this
  exact this
theorem hasPre0_c (l m : Bytes) (st : List AObj) (h : ¬ m <+: l) : ACall E 69 [Sv l, Sv m] st fun r st' => r = Bv false ∧ st' = st := by
  have := hasPrefix_c l m st
  have hf : Lib.hasPrefix l m = false := by
    cases hb : Lib.hasPrefix l m with
    | false => rfl
    | true => exact absurd ((hasPrefix_iff l m).1 hb) h
  rw [hf] at this
  exact this
set_option maxHeartbeats 8000000 in
theorem parts_c (text : Bytes) (st : List AObj) (hl : text.length < 1000000) : ACall E 30 [Sv text] st fun r st' => r = Ss (partsE text) ∧ st' = st := by
  refine acall_pure (pure_Ss _) (acall_of_awp Tryz.func30 rfl (Nat.le_of_ble_eq_true rfl) ?_)
  repeat' (first
    | apply awp_seq
    | apply awp_block
    | apply awp_region
    | apply aops_nil
    | apply aops_assign
    | (apply aops_alloc; exact rfl; exact rfl)
    | (apply aops_box; exact rfl; exact rfl; exact rfl; exact rfl)
    | (apply aops_load_loc; exact rfl; exact rfl; exact rfl; exact rfl; exact rfl)
    | (apply aops_store_loc; exact rfl; exact rfl; exact rfl; exact rfl; exact rfl; exact rfl; exact rfl; exact rfl; exact rfl; exact rfl; exact rfl)
    | (refine aops_call1 Tryz.call52 (split_loc _ _ _ _ rfl) ?_))
  have hSl : (st ++ [AObj.cells 0 9 [Sv text], .cells 0 60 [nilSl], .cells 0 3 [Iv 0], .cells 0 9 [Sv text]]).length = st.length + 4 := by simp
  have h00 : PartsI st text [] 0 nilSl (st ++ [AObj.cells 0 9 [Sv text], .cells 0 60 [nilSl], .cells 0 3 [Iv 0], .cells 0 9 [Sv text]]) :=
    ⟨fun j hj => List.getElem?_append_left hj, get_loc rfl, get_loc rfl, get_loc rfl, get_loc rfl, tipO_nil ..⟩
  generalize hS0 : st ++ [AObj.cells 0 9 [Sv text], .cells 0 60 [nilSl], .cells 0 3 [Iv 0], .cells 0 9 [Sv text]] = S0 at hSl h00
  refine awp_state [(1, .bx (st.length + 0) 0 0), (3, .bx (st.length + 1) 0 0), (4, .bx (st.length + 2) 0 0), (7, .fn (.func 85) [] [.bx (st.length + 3) 0 0])] S0 [] ⟨rfl, rfl, rfl, rfl, trivial⟩ hS0 rfl fun t => ?_
  refine awp_rangeSplitS (S0 := S0) text rfl rfl (by omega) (fun k rest S => ∃ out frm c a, PartsI st text out frm c S ∧ a + rest.length = text.length ∧ frm ≤ a ∧ out.length ≤ k ∧ k ≤ a ∧ out ++ partsL text (lnsFrom k a rest) frm = partsE text)
    (fun c S => False) ⟨[], 0, nilSl, 0, h00, by omega, by omega, by simp, by omega, rfl⟩
    (fun k rest S ⟨_, _, _, _, h, _⟩ => h.c3) (fun k rest S S' hE ⟨out, frm, c, a, h, h2⟩ => ⟨out, frm, c, a, h.ext (by rw [← hSl]; exact hE), h2⟩) (fun c S S' hE h => h) ?_ ?_ (fun c S h => h.elim)
  · rintro F own rd k rest S hF ⟨out, frm, c, a, hi, ha, hfa, hok, hka, hrun⟩ hne hle hd1 hf1 hown hnt
    rw [hSl] at hd1 hf1 hown ⊢
    have hlen := lt_of_getElem? hown
    have hcons := lns_cons (k := k) (a := a) hne
    have hul := upto_length_le 10 rest
    have hr0 : 0 < rest.length := List.length_pos_iff.2 hne
    have hpl := past_length 10 rest
    have hpa : a + (upto 10 rest).length + 1 + (past 10 rest).length = text.length ∨ past 10 rest = [] := by
      by_cases h10 : 10 ∈ rest
      · have := upto_length_lt h10
        exact .inl (by omega)
      · right
        unfold past
        rw [upto_all h10]
        simp
    have e : (text.length : Int) - rest.length = (a : Int) := by omega
    unfold lineA
    rw [e]
    obtain ⟨tx, htx⟩ : ∃ x, x = upto 10 rest := ⟨_, rfl⟩
    obtain ⟨en, hen⟩ : ∃ x, x = decide (10 ∈ rest) := ⟨_, rfl⟩
    rw [← htx, ← hen]
    have c0 := hi.c0
    have c1 := hi.c1
    have c2 := hi.c2
    have htl : tx.length ≤ rest.length := by rw [htx]; exact hul
    repeat' (first
      | apply awp_region
      | apply aops_nil
      | (apply aops_allocW (st := S); exact rfl; exact rfl)
      | (apply aops_store_at; exact rfl; exact rfl; (focus first | assumption | (repeat' (first | assumption | exact get_end | exact get_loc rfl | apply get_set | apply get_set_ne | omega | apply get_pre'))); exact rfl; exact rfl; exact rfl; exact rfl; exact rfl; exact rfl))
    refine ⟨(by (focus first | assumption | (repeat' (first | assumption | exact get_end | exact get_loc rfl | apply get_set | apply get_set_ne | omega | apply get_pre')))), rfl, ?_⟩
    have hE1 : Ext (st.length + 4) S (((S ++ [AObj.cells 0 102 [Iv 0, Iv 0, Sv [], Bv false]]).set S.length (.cells 0 102 [Iv k, Iv a, Sv tx, Bv en])).set (st.length + 4 + 1) (F .busy none)) := ((ext_app (by omega)).trans (ext_set (by omega) (notTip_cells get_end))).trans (ext_set (by omega) (notTip_F hF .ready none (by (focus first | assumption | (repeat' (first | assumption | exact get_end | exact get_loc rfl | apply get_set | apply get_set_ne | omega | apply get_pre'))))))
    have hd2 : (((S ++ [AObj.cells 0 102 [Iv 0, Iv 0, Sv [], Bv false]]).set S.length (.cells 0 102 [Iv k, Iv a, Sv tx, Bv en])).set (st.length + 4 + 1) (F .busy none))[st.length + 4]? = some .dfr := by (focus first | assumption | (repeat' (first | assumption | exact get_end | exact get_loc rfl | apply get_set | apply get_set_ne | omega | apply get_pre')))
    have hf2 : (((S ++ [AObj.cells 0 102 [Iv 0, Iv 0, Sv [], Bv false]]).set S.length (.cells 0 102 [Iv k, Iv a, Sv tx, Bv en])).set (st.length + 4 + 1) (F .busy none))[st.length + 4 + 1]? = some (F .busy none) := by (focus first | assumption | (repeat' (first | assumption | exact get_end | exact get_loc rfl | apply get_set | apply get_set_ne | omega | apply get_pre')))
    have hown2 : (((S ++ [AObj.cells 0 102 [Iv 0, Iv 0, Sv [], Bv false]]).set S.length (.cells 0 102 [Iv k, Iv a, Sv tx, Bv en])).set (st.length + 4 + 1) (F .busy none))[st.length + 4 + 2]? = some own := by (focus first | assumption | (repeat' (first | assumption | exact get_end | exact get_loc rfl | apply get_set | apply get_set_ne | omega | apply get_pre')))
    have hln : (((S ++ [AObj.cells 0 102 [Iv 0, Iv 0, Sv [], Bv false]]).set S.length (.cells 0 102 [Iv k, Iv a, Sv tx, Bv en])).set (st.length + 4 + 1) (F .busy none))[S.length]? = some (.cells 0 102 [Iv k, Iv a, Sv tx, Bv en]) := by (focus first | assumption | (repeat' (first | assumption | exact get_end | exact get_loc rfl | apply get_set | apply get_set_ne | omega | apply get_pre')))
    have hi1 := hi.ext hE1
    refine awp_state [(1, .bx (st.length + 0) 0 0), (3, .bx (st.length + 1) 0 0), (4, .bx (st.length + 2) 0 0), (5, .bx S.length 0 0)] _ [] ⟨rfl, rfl, rfl, rfl, trivial⟩ rfl rfl fun t => ?_
    show AWp _ _ _ _ _ ⟨_, ((S ++ [AObj.cells 0 102 [Iv 0, Iv 0, Sv [], Bv false]]).set S.length (.cells 0 102 [Iv k, Iv a, Sv tx, Bv en])).set (st.length + 4 + 1) (F .busy none), []⟩
    generalize ((S ++ [AObj.cells 0 102 [Iv 0, Iv 0, Sv [], Bv false]]).set S.length (.cells 0 102 [Iv k, Iv a, Sv tx, Bv en])).set (st.length + 4 + 1) (F .busy none) = S1 at hd2 hf2 hown2 hln hi1
    clear hE1 c0 c1 c2
    have c0 := hi1.c0
    have c1 := hi1.c1
    have c2 := hi1.c2
    have hpast : ∀ f, partsL text (lnsFrom (k + 1) (a + (upto 10 rest).length + 1) (past 10 rest)) f = partsL text (lnsFrom (k + 1) (text.length - (past 10 rest).length) (past 10 rest)) f := fun f => by
      rcases hpa with h | h
      · have : a + (upto 10 rest).length + 1 = text.length - (past 10 rest).length := by omega
        rw [this]
      · rw [h, lns_nil, lns_nil]
    have hnext : ∀ (S' : List AObj) (out' : List Bytes) (frm' : Nat) (c' : AV), PartsI st text out' frm' c' S' → frm' ≤ a → out'.length ≤ k + 1 → out' ++ partsL text (lnsFrom (k + 1) (a + (upto 10 rest).length + 1) (past 10 rest)) frm' = partsE text →
        ∃ out frm c a, PartsI st text out frm c S' ∧ a + (past 10 rest).length = text.length ∧ frm ≤ a ∧ out.length ≤ k + 1 ∧ k + 1 ≤ a ∧ out ++ partsL text (lnsFrom (k + 1) a (past 10 rest)) frm = partsE text := fun S' out' frm' c' h1 h2 h3 h4 => by
      rw [hpast] at h4
      exact ⟨out', frm', c', text.length - (past 10 rest).length, h1, by omega, by omega, h3, by omega, h4⟩
    rw [hcons, ← htx] at hrun
    by_cases hgt : frm < a
    · by_cases hpf : [32, 32] <+: tx
      · have hrun2 : partsL text (⟨k, a, tx, decide (10 ∈ rest)⟩ :: lnsFrom (k + 1) (a + tx.length + 1) (past 10 rest)) frm = partsL text (lnsFrom (k + 1) (a + tx.length + 1) (past 10 rest)) frm := if_neg fun h => h.2 hpf
        rw [hrun2] at hrun
        repeat' (first
          | apply awp_seq
          | apply awp_block
          | apply awp_region
          | apply aops_nil
          | apply aops_move
          | (apply aops_cmpI; exact rfl; exact rfl; exact rfl)
          | (apply aops_not; exact rfl)
          | (apply aops_guard_any; exact rfl; exact rfl; exact rfl; exact rfl)
          | (apply gd_run_d; (first | assumption | omega))
          | (apply aops_pick_any; exact rfl; first | (apply pk_dt; (first | assumption | omega)) | (apply pk_df; (first | assumption | omega)) | (apply pk_nt; (first | exact rfl | assumption)) | (apply pk_nf; (first | exact rfl | assumption)) | (apply pk_t; (first | exact rfl | assumption)) | (apply pk_f; (first | exact rfl | assumption)))
          | (apply awp_cond_any; exact rfl; first | (apply cd_dt; (first | assumption | omega)) | (apply cd_df; (first | assumption | omega)) | (apply cd_nt; (first | exact rfl | assumption)) | (apply cd_nf; (first | exact rfl | assumption)) | (apply cd_n <;> intro h) | (apply cd_t; (first | exact rfl | assumption)) | (apply cd_f; (first | exact rfl | assumption)) | (apply cd_d <;> intro h) | (apply cd_s <;> intro h))
          | (apply aops_fieldAddr_bx; exact rfl; exact rfl; exact rfl)
          | apply awp_skip
          | (apply aops_call1; exact Tryz.call69; exact hasPre1_c _ _ _ hpf)
          | (apply aops_load_bx; exact rfl; (focus first | assumption | (repeat' (first | assumption | exact get_end | exact get_loc rfl | apply get_set | apply get_set_ne | omega | apply get_pre'))); exact rfl; exact rfl))
        exact ⟨hd2, hf2, hown2, hnext S1 out frm c hi1 hfa (by omega) (by rw [← htx]; exact hrun)⟩
      · have hrun2 : partsL text (⟨k, a, tx, decide (10 ∈ rest)⟩ :: lnsFrom (k + 1) (a + tx.length + 1) (past 10 rest)) frm = (text.take a).drop frm :: partsL text (lnsFrom (k + 1) (a + tx.length + 1) (past 10 rest)) a := if_pos ⟨hgt, hpf⟩
        rw [hrun2] at hrun
        have hS1 := lt_of_getElem? hown2
        have hSle : st.length + 4 ≤ S1.length := by omega
        have hmo : (out.map fun x => Sv x).length = out.length := by simp
        repeat' (first
          | apply awp_seq
          | apply awp_block
          | apply awp_region
          | apply aops_nil
          | apply aops_move
          | (apply aops_cmpI; exact rfl; exact rfl; exact rfl)
          | (apply aops_not; exact rfl)
          | (apply aops_guard_any; exact rfl; exact rfl; exact rfl; exact rfl)
          | (apply gd_run_d; (first | assumption | omega))
          | (apply aops_pick_any; exact rfl; first | (apply pk_dt; (first | assumption | omega)) | (apply pk_df; (first | assumption | omega)) | (apply pk_nt; (first | exact rfl | assumption)) | (apply pk_nf; (first | exact rfl | assumption)) | (apply pk_t; (first | exact rfl | assumption)) | (apply pk_f; (first | exact rfl | assumption)))
          | (apply awp_cond_any; exact rfl; first | (apply cd_dt; (first | assumption | omega)) | (apply cd_df; (first | assumption | omega)) | (apply cd_nt; (first | exact rfl | assumption)) | (apply cd_nf; (first | exact rfl | assumption)) | (apply cd_n <;> intro h) | (apply cd_t; (first | exact rfl | assumption)) | (apply cd_f; (first | exact rfl | assumption)) | (apply cd_d <;> intro h) | (apply cd_s <;> intro h))
          | (apply aops_fieldAddr_bx; exact rfl; exact rfl; exact rfl)
          | (apply aops_call1; exact Tryz.call69; exact hasPre0_c _ _ _ hpf)
          | (apply aops_load_bx; exact rfl; (focus first | assumption | (repeat' (first | assumption | exact get_end | exact get_loc rfl | apply get_set | apply get_set_ne | omega | apply get_pre'))); exact rfl; exact rfl))
        show AWp _ _ _ _ _ _
        refine awp_cut (fun s => s.t 4 = .bx (st.length + 2) 0 0 ∧ s.t 5 = .bx S.length 0 0 ∧ s.df = [] ∧ s.st[st.length + 4]? = some .dfr ∧ s.st[st.length + 4 + 1]? = some (F .busy none) ∧ s.st[st.length + 4 + 2]? = some own ∧ s.st[S.length]? = some (.cells 0 102 [Iv k, Iv a, Sv tx, Bv en]) ∧ s.st[st.length + 2]? = some (.cells 0 3 [Iv frm]) ∧ ∃ c', PartsI st text (out ++ [(text.take a).drop frm]) a c' (s.st.set (st.length + 2) (.cells 0 3 [Iv a]))) ?_ ?_
        · refine awp_drawZR rfl (by kernel_rfl) rfl ?_
          (apply az_take 3; exact rfl; kernel_rfl; kernel_rfl; kernel_rfl; exact rfl; (first | (apply ay_fieldAddr_bx; exact rfl; exact rfl; exact rfl) | (apply ay_fieldAddr_pp; exact rfl; exact rfl; exact rfl; exact rfl)))
          refine az_all [0, 1, 2, 4] (by kernel_rfl) rfl ⟨⟨_, rfl, ?_⟩, ⟨_, rfl, ?_⟩, ⟨_, rfl, ?_⟩, ⟨_, rfl, ?_⟩, trivial⟩
          · (apply aops_load_bx; exact rfl; (first | exact c0 | exact c1 | exact c2 | exact hln); exact rfl; exact rfl)
            apply aops_nil
            refine az_all [1, 2, 4] (by kernel_rfl) rfl ⟨⟨_, rfl, ?_⟩, ⟨_, rfl, ?_⟩, ⟨_, rfl, ?_⟩, trivial⟩
            · (apply aops_load_bx; exact rfl; (first | exact c0 | exact c1 | exact c2 | exact hln); exact rfl; exact rfl)
              apply aops_nil
              refine az_all [2, 4] (by kernel_rfl) rfl ⟨⟨_, rfl, ?_⟩, ⟨_, rfl, ?_⟩, trivial⟩
              · (apply aops_load_bx; exact rfl; (first | exact c0 | exact c1 | exact c2 | exact hln); exact rfl; exact rfl)
                apply aops_nil
                refine az_all [4] (by kernel_rfl) rfl ⟨⟨_, rfl, ?_⟩, trivial⟩
                (apply aops_load_bx; exact rfl; (first | exact c0 | exact c1 | exact c2 | exact hln); exact rfl; exact rfl)
                apply aops_nil
                refine az_all [5] (by kernel_rfl) rfl ⟨⟨_, rfl, ?_⟩, trivial⟩
                (first | (apply aops_appendO (b := st.length + 4) (xs := out.map fun x => Sv x) (ys := [Sv ((text.take a).drop frm)]) (bytes := 16);  exact rfl; exact rfl; exact rfl; exact rfl; exact rfl; exact ⟨⟨_, _, rfl, rfl, rfl, rfl, rfl⟩⟩; exact hi1.tip; (exact hSle); (first | exact rfl | exact allOne_map fun _ => rfl); ((simp [maxLen]; omega)); ((simp; omega)); intro c' S2 t1 g1 g2 g3 g4; replace g2 : Fr S1 S2 t1 := g2; replace g4 : c = .sl 1 (out.map fun x => Sv x) (some t1) ∨ S1.length ≤ t1 := g4) | (apply aops_span (i := frm) (j := a); exact rfl; exact rfl; exact rfl; exact rfl; exact hfa; omega))
                apply aops_nil
                refine az_all [6] (by kernel_rfl) rfl ⟨⟨_, rfl, ?_⟩, trivial⟩
                (apply aops_buildSlice; exact rfl; exact rfl; exact rfl; exact rfl; exact rfl; exact rfl; exact rfl; exact rfl; exact rfl)
                apply aops_nil
                refine az_all [7] (by kernel_rfl) rfl ⟨⟨_, rfl, ?_⟩, trivial⟩
                (first | (apply aops_appendO (b := st.length + 4) (xs := out.map fun x => Sv x) (ys := [Sv ((text.take a).drop frm)]) (bytes := 16);  exact rfl; exact rfl; exact rfl; exact rfl; exact rfl; exact ⟨⟨_, _, rfl, rfl, rfl, rfl, rfl⟩⟩; exact hi1.tip; (exact hSle); (first | exact rfl | exact allOne_map fun _ => rfl); ((simp [maxLen]; omega)); ((simp; omega)); intro c' S2 t1 g1 g2 g3 g4; replace g2 : Fr S1 S2 t1 := g2; replace g4 : c = .sl 1 (out.map fun x => Sv x) (some t1) ∨ S1.length ≤ t1 := g4) | (apply aops_span (i := frm) (j := a); exact rfl; exact rfl; exact rfl; exact rfl; exact hfa; omega))
                apply aops_nil
                refine az_all [8] (by kernel_rfl) rfl ⟨⟨_, rfl, ?_⟩, trivial⟩
                (apply aops_store_at; exact rfl; exact rfl; exact frO_get g2 g4 hi1.tip c1 (notTip_cells rfl); exact rfl; exact tipO_okc g1; exact tipO_cells g1; exact rfl; exact tipO_one g1; exact rfl)
                apply aops_nil
                refine az_done (by kernel_rfl) ?_
                exact ⟨rfl, rfl, rfl, get_set_ne (frO_get g2 g4 hi1.tip hd2 notTip_dfr) (by omega), get_set_ne (frO_get g2 g4 hi1.tip hf2 (notTip_F hF _ _ rfl)) (by omega), get_set_ne (frO_get g2 g4 hi1.tip hown2 hnt) (by omega), get_set_ne (frO_get g2 g4 hi1.tip hln (notTip_cells rfl)) (by omega), get_set_ne (frO_get g2 g4 hi1.tip c2 (notTip_cells rfl)) (by omega), c', hi1.app g1 g2 g3 g4⟩
              · (apply aops_load_bx; exact rfl; (first | exact c0 | exact c1 | exact c2 | exact hln); exact rfl; exact rfl)
                apply aops_nil
                refine az_all [2] (by kernel_rfl) rfl ⟨⟨_, rfl, ?_⟩, trivial⟩
                (apply aops_load_bx; exact rfl; (first | exact c0 | exact c1 | exact c2 | exact hln); exact rfl; exact rfl)
                apply aops_nil
                refine az_all [5] (by kernel_rfl) rfl ⟨⟨_, rfl, ?_⟩, trivial⟩
                (first | (apply aops_appendO (b := st.length + 4) (xs := out.map fun x => Sv x) (ys := [Sv ((text.take a).drop frm)]) (bytes := 16);  exact rfl; exact rfl; exact rfl; exact rfl; exact rfl; exact ⟨⟨_, _, rfl, rfl, rfl, rfl, rfl⟩⟩; exact hi1.tip; (exact hSle); (first | exact rfl | exact allOne_map fun _ => rfl); ((simp [maxLen]; omega)); ((simp; omega)); intro c' S2 t1 g1 g2 g3 g4; replace g2 : Fr S1 S2 t1 := g2; replace g4 : c = .sl 1 (out.map fun x => Sv x) (some t1) ∨ S1.length ≤ t1 := g4) | (apply aops_span (i := frm) (j := a); exact rfl; exact rfl; exact rfl; exact rfl; exact hfa; omega))
                apply aops_nil
                refine az_all [6] (by kernel_rfl) rfl ⟨⟨_, rfl, ?_⟩, trivial⟩
                (apply aops_buildSlice; exact rfl; exact rfl; exact rfl; exact rfl; exact rfl; exact rfl; exact rfl; exact rfl; exact rfl)
                apply aops_nil
                refine az_all [7] (by kernel_rfl) rfl ⟨⟨_, rfl, ?_⟩, trivial⟩
                (first | (apply aops_appendO (b := st.length + 4) (xs := out.map fun x => Sv x) (ys := [Sv ((text.take a).drop frm)]) (bytes := 16);  exact rfl; exact rfl; exact rfl; exact rfl; exact rfl; exact ⟨⟨_, _, rfl, rfl, rfl, rfl, rfl⟩⟩; exact hi1.tip; (exact hSle); (first | exact rfl | exact allOne_map fun _ => rfl); ((simp [maxLen]; omega)); ((simp; omega)); intro c' S2 t1 g1 g2 g3 g4; replace g2 : Fr S1 S2 t1 := g2; replace g4 : c = .sl 1 (out.map fun x => Sv x) (some t1) ∨ S1.length ≤ t1 := g4) | (apply aops_span (i := frm) (j := a); exact rfl; exact rfl; exact rfl; exact rfl; exact hfa; omega))
                apply aops_nil
                refine az_all [8] (by kernel_rfl) rfl ⟨⟨_, rfl, ?_⟩, trivial⟩
                (apply aops_store_at; exact rfl; exact rfl; exact frO_get g2 g4 hi1.tip c1 (notTip_cells rfl); exact rfl; exact tipO_okc g1; exact tipO_cells g1; exact rfl; exact tipO_one g1; exact rfl)
                apply aops_nil
                refine az_done (by kernel_rfl) ?_
                exact ⟨rfl, rfl, rfl, get_set_ne (frO_get g2 g4 hi1.tip hd2 notTip_dfr) (by omega), get_set_ne (frO_get g2 g4 hi1.tip hf2 (notTip_F hF _ _ rfl)) (by omega), get_set_ne (frO_get g2 g4 hi1.tip hown2 hnt) (by omega), get_set_ne (frO_get g2 g4 hi1.tip hln (notTip_cells rfl)) (by omega), get_set_ne (frO_get g2 g4 hi1.tip c2 (notTip_cells rfl)) (by omega), c', hi1.app g1 g2 g3 g4⟩
            · (apply aops_load_bx; exact rfl; (first | exact c0 | exact c1 | exact c2 | exact hln); exact rfl; exact rfl)
              apply aops_nil
              refine az_all [1, 4] (by kernel_rfl) rfl ⟨⟨_, rfl, ?_⟩, ⟨_, rfl, ?_⟩, trivial⟩
              · (apply aops_load_bx; exact rfl; (first | exact c0 | exact c1 | exact c2 | exact hln); exact rfl; exact rfl)
                apply aops_nil
                refine az_all [4] (by kernel_rfl) rfl ⟨⟨_, rfl, ?_⟩, trivial⟩
                (apply aops_load_bx; exact rfl; (first | exact c0 | exact c1 | exact c2 | exact hln); exact rfl; exact rfl)
                apply aops_nil
                refine az_all [5] (by kernel_rfl) rfl ⟨⟨_, rfl, ?_⟩, trivial⟩
                (first | (apply aops_appendO (b := st.length + 4) (xs := out.map fun x => Sv x) (ys := [Sv ((text.take a).drop frm)]) (bytes := 16);  exact rfl; exact rfl; exact rfl; exact rfl; exact rfl; exact ⟨⟨_, _, rfl, rfl, rfl, rfl, rfl⟩⟩; exact hi1.tip; (exact hSle); (first | exact rfl | exact allOne_map fun _ => rfl); ((simp [maxLen]; omega)); ((simp; omega)); intro c' S2 t1 g1 g2 g3 g4; replace g2 : Fr S1 S2 t1 := g2; replace g4 : c = .sl 1 (out.map fun x => Sv x) (some t1) ∨ S1.length ≤ t1 := g4) | (apply aops_span (i := frm) (j := a); exact rfl; exact rfl; exact rfl; exact rfl; exact hfa; omega))
                apply aops_nil
                refine az_all [6] (by kernel_rfl) rfl ⟨⟨_, rfl, ?_⟩, trivial⟩
                (apply aops_buildSlice; exact rfl; exact rfl; exact rfl; exact rfl; exact rfl; exact rfl; exact rfl; exact rfl; exact rfl)
                apply aops_nil
                refine az_all [7] (by kernel_rfl) rfl ⟨⟨_, rfl, ?_⟩, trivial⟩
                (first | (apply aops_appendO (b := st.length + 4) (xs := out.map fun x => Sv x) (ys := [Sv ((text.take a).drop frm)]) (bytes := 16);  exact rfl; exact rfl; exact rfl; exact rfl; exact rfl; exact ⟨⟨_, _, rfl, rfl, rfl, rfl, rfl⟩⟩; exact hi1.tip; (exact hSle); (first | exact rfl | exact allOne_map fun _ => rfl); ((simp [maxLen]; omega)); ((simp; omega)); intro c' S2 t1 g1 g2 g3 g4; replace g2 : Fr S1 S2 t1 := g2; replace g4 : c = .sl 1 (out.map fun x => Sv x) (some t1) ∨ S1.length ≤ t1 := g4) | (apply aops_span (i := frm) (j := a); exact rfl; exact rfl; exact rfl; exact rfl; exact hfa; omega))
                apply aops_nil
                refine az_all [8] (by kernel_rfl) rfl ⟨⟨_, rfl, ?_⟩, trivial⟩
                (apply aops_store_at; exact rfl; exact rfl; exact frO_get g2 g4 hi1.tip c1 (notTip_cells rfl); exact rfl; exact tipO_okc g1; exact tipO_cells g1; exact rfl; exact tipO_one g1; exact rfl)
                apply aops_nil
                refine az_done (by kernel_rfl) ?_
                exact ⟨rfl, rfl, rfl, get_set_ne (frO_get g2 g4 hi1.tip hd2 notTip_dfr) (by omega), get_set_ne (frO_get g2 g4 hi1.tip hf2 (notTip_F hF _ _ rfl)) (by omega), get_set_ne (frO_get g2 g4 hi1.tip hown2 hnt) (by omega), get_set_ne (frO_get g2 g4 hi1.tip hln (notTip_cells rfl)) (by omega), get_set_ne (frO_get g2 g4 hi1.tip c2 (notTip_cells rfl)) (by omega), c', hi1.app g1 g2 g3 g4⟩
              · (apply aops_load_bx; exact rfl; (first | exact c0 | exact c1 | exact c2 | exact hln); exact rfl; exact rfl)
                apply aops_nil
                refine az_all [1] (by kernel_rfl) rfl ⟨⟨_, rfl, ?_⟩, trivial⟩
                (apply aops_load_bx; exact rfl; (first | exact c0 | exact c1 | exact c2 | exact hln); exact rfl; exact rfl)
                apply aops_nil
                refine az_all [5] (by kernel_rfl) rfl ⟨⟨_, rfl, ?_⟩, trivial⟩
                (first | (apply aops_appendO (b := st.length + 4) (xs := out.map fun x => Sv x) (ys := [Sv ((text.take a).drop frm)]) (bytes := 16);  exact rfl; exact rfl; exact rfl; exact rfl; exact rfl; exact ⟨⟨_, _, rfl, rfl, rfl, rfl, rfl⟩⟩; exact hi1.tip; (exact hSle); (first | exact rfl | exact allOne_map fun _ => rfl); ((simp [maxLen]; omega)); ((simp; omega)); intro c' S2 t1 g1 g2 g3 g4; replace g2 : Fr S1 S2 t1 := g2; replace g4 : c = .sl 1 (out.map fun x => Sv x) (some t1) ∨ S1.length ≤ t1 := g4) | (apply aops_span (i := frm) (j := a); exact rfl; exact rfl; exact rfl; exact rfl; exact hfa; omega))
                apply aops_nil
                refine az_all [6] (by kernel_rfl) rfl ⟨⟨_, rfl, ?_⟩, trivial⟩
                (apply aops_buildSlice; exact rfl; exact rfl; exact rfl; exact rfl; exact rfl; exact rfl; exact rfl; exact rfl; exact rfl)
                apply aops_nil
                refine az_all [7] (by kernel_rfl) rfl ⟨⟨_, rfl, ?_⟩, trivial⟩
                (first | (apply aops_appendO (b := st.length + 4) (xs := out.map fun x => Sv x) (ys := [Sv ((text.take a).drop frm)]) (bytes := 16);  exact rfl; exact rfl; exact rfl; exact rfl; exact rfl; exact ⟨⟨_, _, rfl, rfl, rfl, rfl, rfl⟩⟩; exact hi1.tip; (exact hSle); (first | exact rfl | exact allOne_map fun _ => rfl); ((simp [maxLen]; omega)); ((simp; omega)); intro c' S2 t1 g1 g2 g3 g4; replace g2 : Fr S1 S2 t1 := g2; replace g4 : c = .sl 1 (out.map fun x => Sv x) (some t1) ∨ S1.length ≤ t1 := g4) | (apply aops_span (i := frm) (j := a); exact rfl; exact rfl; exact rfl; exact rfl; exact hfa; omega))
                apply aops_nil
                refine az_all [8] (by kernel_rfl) rfl ⟨⟨_, rfl, ?_⟩, trivial⟩
                (apply aops_store_at; exact rfl; exact rfl; exact frO_get g2 g4 hi1.tip c1 (notTip_cells rfl); exact rfl; exact tipO_okc g1; exact tipO_cells g1; exact rfl; exact tipO_one g1; exact rfl)
                apply aops_nil
                refine az_done (by kernel_rfl) ?_
                exact ⟨rfl, rfl, rfl, get_set_ne (frO_get g2 g4 hi1.tip hd2 notTip_dfr) (by omega), get_set_ne (frO_get g2 g4 hi1.tip hf2 (notTip_F hF _ _ rfl)) (by omega), get_set_ne (frO_get g2 g4 hi1.tip hown2 hnt) (by omega), get_set_ne (frO_get g2 g4 hi1.tip hln (notTip_cells rfl)) (by omega), get_set_ne (frO_get g2 g4 hi1.tip c2 (notTip_cells rfl)) (by omega), c', hi1.app g1 g2 g3 g4⟩
            · (apply aops_load_bx; exact rfl; (first | exact c0 | exact c1 | exact c2 | exact hln); exact rfl; exact rfl)
              apply aops_nil
              refine az_all [1, 2] (by kernel_rfl) rfl ⟨⟨_, rfl, ?_⟩, ⟨_, rfl, ?_⟩, trivial⟩
              · (apply aops_load_bx; exact rfl; (first | exact c0 | exact c1 | exact c2 | exact hln); exact rfl; exact rfl)
                apply aops_nil
                refine az_all [2] (by kernel_rfl) rfl ⟨⟨_, rfl, ?_⟩, trivial⟩
                (apply aops_load_bx; exact rfl; (first | exact c0 | exact c1 | exact c2 | exact hln); exact rfl; exact rfl)
                apply aops_nil
                refine az_all [5] (by kernel_rfl) rfl ⟨⟨_, rfl, ?_⟩, trivial⟩
                (first | (apply aops_appendO (b := st.length + 4) (xs := out.map fun x => Sv x) (ys := [Sv ((text.take a).drop frm)]) (bytes := 16);  exact rfl; exact rfl; exact rfl; exact rfl; exact rfl; exact ⟨⟨_, _, rfl, rfl, rfl, rfl, rfl⟩⟩; exact hi1.tip; (exact hSle); (first | exact rfl | exact allOne_map fun _ => rfl); ((simp [maxLen]; omega)); ((simp; omega)); intro c' S2 t1 g1 g2 g3 g4; replace g2 : Fr S1 S2 t1 := g2; replace g4 : c = .sl 1 (out.map fun x => Sv x) (some t1) ∨ S1.length ≤ t1 := g4) | (apply aops_span (i := frm) (j := a); exact rfl; exact rfl; exact rfl; exact rfl; exact hfa; omega))
                apply aops_nil
                refine az_all [6] (by kernel_rfl) rfl ⟨⟨_, rfl, ?_⟩, trivial⟩
                (apply aops_buildSlice; exact rfl; exact rfl; exact rfl; exact rfl; exact rfl; exact rfl; exact rfl; exact rfl; exact rfl)
                apply aops_nil
                refine az_all [7] (by kernel_rfl) rfl ⟨⟨_, rfl, ?_⟩, trivial⟩
                (first | (apply aops_appendO (b := st.length + 4) (xs := out.map fun x => Sv x) (ys := [Sv ((text.take a).drop frm)]) (bytes := 16);  exact rfl; exact rfl; exact rfl; exact rfl; exact rfl; exact ⟨⟨_, _, rfl, rfl, rfl, rfl, rfl⟩⟩; exact hi1.tip; (exact hSle); (first | exact rfl | exact allOne_map fun _ => rfl); ((simp [maxLen]; omega)); ((simp; omega)); intro c' S2 t1 g1 g2 g3 g4; replace g2 : Fr S1 S2 t1 := g2; replace g4 : c = .sl 1 (out.map fun x => Sv x) (some t1) ∨ S1.length ≤ t1 := g4) | (apply aops_span (i := frm) (j := a); exact rfl; exact rfl; exact rfl; exact rfl; exact hfa; omega))
                apply aops_nil
                refine az_all [8] (by kernel_rfl) rfl ⟨⟨_, rfl, ?_⟩, trivial⟩
                (apply aops_store_at; exact rfl; exact rfl; exact frO_get g2 g4 hi1.tip c1 (notTip_cells rfl); exact rfl; exact tipO_okc g1; exact tipO_cells g1; exact rfl; exact tipO_one g1; exact rfl)
                apply aops_nil
                refine az_done (by kernel_rfl) ?_
                exact ⟨rfl, rfl, rfl, get_set_ne (frO_get g2 g4 hi1.tip hd2 notTip_dfr) (by omega), get_set_ne (frO_get g2 g4 hi1.tip hf2 (notTip_F hF _ _ rfl)) (by omega), get_set_ne (frO_get g2 g4 hi1.tip hown2 hnt) (by omega), get_set_ne (frO_get g2 g4 hi1.tip hln (notTip_cells rfl)) (by omega), get_set_ne (frO_get g2 g4 hi1.tip c2 (notTip_cells rfl)) (by omega), c', hi1.app g1 g2 g3 g4⟩
              · (apply aops_load_bx; exact rfl; (first | exact c0 | exact c1 | exact c2 | exact hln); exact rfl; exact rfl)
                apply aops_nil
                refine az_all [1] (by kernel_rfl) rfl ⟨⟨_, rfl, ?_⟩, trivial⟩
                (apply aops_load_bx; exact rfl; (first | exact c0 | exact c1 | exact c2 | exact hln); exact rfl; exact rfl)
                apply aops_nil
                refine az_all [5] (by kernel_rfl) rfl ⟨⟨_, rfl, ?_⟩, trivial⟩
                (first | (apply aops_appendO (b := st.length + 4) (xs := out.map fun x => Sv x) (ys := [Sv ((text.take a).drop frm)]) (bytes := 16);  exact rfl; exact rfl; exact rfl; exact rfl; exact rfl; exact ⟨⟨_, _, rfl, rfl, rfl, rfl, rfl⟩⟩; exact hi1.tip; (exact hSle); (first | exact rfl | exact allOne_map fun _ => rfl); ((simp [maxLen]; omega)); ((simp; omega)); intro c' S2 t1 g1 g2 g3 g4; replace g2 : Fr S1 S2 t1 := g2; replace g4 : c = .sl 1 (out.map fun x => Sv x) (some t1) ∨ S1.length ≤ t1 := g4) | (apply aops_span (i := frm) (j := a); exact rfl; exact rfl; exact rfl; exact rfl; exact hfa; omega))
                apply aops_nil
                refine az_all [6] (by kernel_rfl) rfl ⟨⟨_, rfl, ?_⟩, trivial⟩
                (apply aops_buildSlice; exact rfl; exact rfl; exact rfl; exact rfl; exact rfl; exact rfl; exact rfl; exact rfl; exact rfl)
                apply aops_nil
                refine az_all [7] (by kernel_rfl) rfl ⟨⟨_, rfl, ?_⟩, trivial⟩
                (first | (apply aops_appendO (b := st.length + 4) (xs := out.map fun x => Sv x) (ys := [Sv ((text.take a).drop frm)]) (bytes := 16);  exact rfl; exact rfl; exact rfl; exact rfl; exact rfl; exact ⟨⟨_, _, rfl, rfl, rfl, rfl, rfl⟩⟩; exact hi1.tip; (exact hSle); (first | exact rfl | exact allOne_map fun _ => rfl); ((simp [maxLen]; omega)); ((simp; omega)); intro c' S2 t1 g1 g2 g3 g4; replace g2 : Fr S1 S2 t1 := g2; replace g4 : c = .sl 1 (out.map fun x => Sv x) (some t1) ∨ S1.length ≤ t1 := g4) | (apply aops_span (i := frm) (j := a); exact rfl; exact rfl; exact rfl; exact rfl; exact hfa; omega))
                apply aops_nil
                refine az_all [8] (by kernel_rfl) rfl ⟨⟨_, rfl, ?_⟩, trivial⟩
                (apply aops_store_at; exact rfl; exact rfl; exact frO_get g2 g4 hi1.tip c1 (notTip_cells rfl); exact rfl; exact tipO_okc g1; exact tipO_cells g1; exact rfl; exact tipO_one g1; exact rfl)
                apply aops_nil
                refine az_done (by kernel_rfl) ?_
                exact ⟨rfl, rfl, rfl, get_set_ne (frO_get g2 g4 hi1.tip hd2 notTip_dfr) (by omega), get_set_ne (frO_get g2 g4 hi1.tip hf2 (notTip_F hF _ _ rfl)) (by omega), get_set_ne (frO_get g2 g4 hi1.tip hown2 hnt) (by omega), get_set_ne (frO_get g2 g4 hi1.tip hln (notTip_cells rfl)) (by omega), get_set_ne (frO_get g2 g4 hi1.tip c2 (notTip_cells rfl)) (by omega), c', hi1.app g1 g2 g3 g4⟩
          · (apply aops_load_bx; exact rfl; (first | exact c0 | exact c1 | exact c2 | exact hln); exact rfl; exact rfl)
            apply aops_nil
            refine az_all [0, 2, 4] (by kernel_rfl) rfl ⟨⟨_, rfl, ?_⟩, ⟨_, rfl, ?_⟩, ⟨_, rfl, ?_⟩, trivial⟩
            · (apply aops_load_bx; exact rfl; (first | exact c0 | exact c1 | exact c2 | exact hln); exact rfl; exact rfl)
              apply aops_nil
              refine az_all [2, 4] (by kernel_rfl) rfl ⟨⟨_, rfl, ?_⟩, ⟨_, rfl, ?_⟩, trivial⟩
              · (apply aops_load_bx; exact rfl; (first | exact c0 | exact c1 | exact c2 | exact hln); exact rfl; exact rfl)
                apply aops_nil
                refine az_all [4] (by kernel_rfl) rfl ⟨⟨_, rfl, ?_⟩, trivial⟩
                (apply aops_load_bx; exact rfl; (first | exact c0 | exact c1 | exact c2 | exact hln); exact rfl; exact rfl)
                apply aops_nil
                refine az_all [5] (by kernel_rfl) rfl ⟨⟨_, rfl, ?_⟩, trivial⟩
                (first | (apply aops_appendO (b := st.length + 4) (xs := out.map fun x => Sv x) (ys := [Sv ((text.take a).drop frm)]) (bytes := 16);  exact rfl; exact rfl; exact rfl; exact rfl; exact rfl; exact ⟨⟨_, _, rfl, rfl, rfl, rfl, rfl⟩⟩; exact hi1.tip; (exact hSle); (first | exact rfl | exact allOne_map fun _ => rfl); ((simp [maxLen]; omega)); ((simp; omega)); intro c' S2 t1 g1 g2 g3 g4; replace g2 : Fr S1 S2 t1 := g2; replace g4 : c = .sl 1 (out.map fun x => Sv x) (some t1) ∨ S1.length ≤ t1 := g4) | (apply aops_span (i := frm) (j := a); exact rfl; exact rfl; exact rfl; exact rfl; exact hfa; omega))
                apply aops_nil
                refine az_all [6] (by kernel_rfl) rfl ⟨⟨_, rfl, ?_⟩, trivial⟩
                (apply aops_buildSlice; exact rfl; exact rfl; exact rfl; exact rfl; exact rfl; exact rfl; exact rfl; exact rfl; exact rfl)
                apply aops_nil
                refine az_all [7] (by kernel_rfl) rfl ⟨⟨_, rfl, ?_⟩, trivial⟩
                (first | (apply aops_appendO (b := st.length + 4) (xs := out.map fun x => Sv x) (ys := [Sv ((text.take a).drop frm)]) (bytes := 16);  exact rfl; exact rfl; exact rfl; exact rfl; exact rfl; exact ⟨⟨_, _, rfl, rfl, rfl, rfl, rfl⟩⟩; exact hi1.tip; (exact hSle); (first | exact rfl | exact allOne_map fun _ => rfl); ((simp [maxLen]; omega)); ((simp; omega)); intro c' S2 t1 g1 g2 g3 g4; replace g2 : Fr S1 S2 t1 := g2; replace g4 : c = .sl 1 (out.map fun x => Sv x) (some t1) ∨ S1.length ≤ t1 := g4) | (apply aops_span (i := frm) (j := a); exact rfl; exact rfl; exact rfl; exact rfl; exact hfa; omega))
                apply aops_nil
                refine az_all [8] (by kernel_rfl) rfl ⟨⟨_, rfl, ?_⟩, trivial⟩
                (apply aops_store_at; exact rfl; exact rfl; exact frO_get g2 g4 hi1.tip c1 (notTip_cells rfl); exact rfl; exact tipO_okc g1; exact tipO_cells g1; exact rfl; exact tipO_one g1; exact rfl)
                apply aops_nil
                refine az_done (by kernel_rfl) ?_
                exact ⟨rfl, rfl, rfl, get_set_ne (frO_get g2 g4 hi1.tip hd2 notTip_dfr) (by omega), get_set_ne (frO_get g2 g4 hi1.tip hf2 (notTip_F hF _ _ rfl)) (by omega), get_set_ne (frO_get g2 g4 hi1.tip hown2 hnt) (by omega), get_set_ne (frO_get g2 g4 hi1.tip hln (notTip_cells rfl)) (by omega), get_set_ne (frO_get g2 g4 hi1.tip c2 (notTip_cells rfl)) (by omega), c', hi1.app g1 g2 g3 g4⟩
              · (apply aops_load_bx; exact rfl; (first | exact c0 | exact c1 | exact c2 | exact hln); exact rfl; exact rfl)
                apply aops_nil
                refine az_all [2] (by kernel_rfl) rfl ⟨⟨_, rfl, ?_⟩, trivial⟩
                (apply aops_load_bx; exact rfl; (first | exact c0 | exact c1 | exact c2 | exact hln); exact rfl; exact rfl)
                apply aops_nil
                refine az_all [5] (by kernel_rfl) rfl ⟨⟨_, rfl, ?_⟩, trivial⟩
                (first | (apply aops_appendO (b := st.length + 4) (xs := out.map fun x => Sv x) (ys := [Sv ((text.take a).drop frm)]) (bytes := 16);  exact rfl; exact rfl; exact rfl; exact rfl; exact rfl; exact ⟨⟨_, _, rfl, rfl, rfl, rfl, rfl⟩⟩; exact hi1.tip; (exact hSle); (first | exact rfl | exact allOne_map fun _ => rfl); ((simp [maxLen]; omega)); ((simp; omega)); intro c' S2 t1 g1 g2 g3 g4; replace g2 : Fr S1 S2 t1 := g2; replace g4 : c = .sl 1 (out.map fun x => Sv x) (some t1) ∨ S1.length ≤ t1 := g4) | (apply aops_span (i := frm) (j := a); exact rfl; exact rfl; exact rfl; exact rfl; exact hfa; omega))
                apply aops_nil
                refine az_all [6] (by kernel_rfl) rfl ⟨⟨_, rfl, ?_⟩, trivial⟩
                (apply aops_buildSlice; exact rfl; exact rfl; exact rfl; exact rfl; exact rfl; exact rfl; exact rfl; exact rfl; exact rfl)
                apply aops_nil
                refine az_all [7] (by kernel_rfl) rfl ⟨⟨_, rfl, ?_⟩, trivial⟩
                (first | (apply aops_appendO (b := st.length + 4) (xs := out.map fun x => Sv x) (ys := [Sv ((text.take a).drop frm)]) (bytes := 16);  exact rfl; exact rfl; exact rfl; exact rfl; exact rfl; exact ⟨⟨_, _, rfl, rfl, rfl, rfl, rfl⟩⟩; exact hi1.tip; (exact hSle); (first | exact rfl | exact allOne_map fun _ => rfl); ((simp [maxLen]; omega)); ((simp; omega)); intro c' S2 t1 g1 g2 g3 g4; replace g2 : Fr S1 S2 t1 := g2; replace g4 : c = .sl 1 (out.map fun x => Sv x) (some t1) ∨ S1.length ≤ t1 := g4) | (apply aops_span (i := frm) (j := a); exact rfl; exact rfl; exact rfl; exact rfl; exact hfa; omega))
                apply aops_nil
                refine az_all [8] (by kernel_rfl) rfl ⟨⟨_, rfl, ?_⟩, trivial⟩
                (apply aops_store_at; exact rfl; exact rfl; exact frO_get g2 g4 hi1.tip c1 (notTip_cells rfl); exact rfl; exact tipO_okc g1; exact tipO_cells g1; exact rfl; exact tipO_one g1; exact rfl)
                apply aops_nil
                refine az_done (by kernel_rfl) ?_
                exact ⟨rfl, rfl, rfl, get_set_ne (frO_get g2 g4 hi1.tip hd2 notTip_dfr) (by omega), get_set_ne (frO_get g2 g4 hi1.tip hf2 (notTip_F hF _ _ rfl)) (by omega), get_set_ne (frO_get g2 g4 hi1.tip hown2 hnt) (by omega), get_set_ne (frO_get g2 g4 hi1.tip hln (notTip_cells rfl)) (by omega), get_set_ne (frO_get g2 g4 hi1.tip c2 (notTip_cells rfl)) (by omega), c', hi1.app g1 g2 g3 g4⟩
            · (apply aops_load_bx; exact rfl; (first | exact c0 | exact c1 | exact c2 | exact hln); exact rfl; exact rfl)
              apply aops_nil
              refine az_all [0, 4] (by kernel_rfl) rfl ⟨⟨_, rfl, ?_⟩, ⟨_, rfl, ?_⟩, trivial⟩
              · (apply aops_load_bx; exact rfl; (first | exact c0 | exact c1 | exact c2 | exact hln); exact rfl; exact rfl)
                apply aops_nil
                refine az_all [4] (by kernel_rfl) rfl ⟨⟨_, rfl, ?_⟩, trivial⟩
                (apply aops_load_bx; exact rfl; (first | exact c0 | exact c1 | exact c2 | exact hln); exact rfl; exact rfl)
                apply aops_nil
                refine az_all [5] (by kernel_rfl) rfl ⟨⟨_, rfl, ?_⟩, trivial⟩
                (first | (apply aops_appendO (b := st.length + 4) (xs := out.map fun x => Sv x) (ys := [Sv ((text.take a).drop frm)]) (bytes := 16);  exact rfl; exact rfl; exact rfl; exact rfl; exact rfl; exact ⟨⟨_, _, rfl, rfl, rfl, rfl, rfl⟩⟩; exact hi1.tip; (exact hSle); (first | exact rfl | exact allOne_map fun _ => rfl); ((simp [maxLen]; omega)); ((simp; omega)); intro c' S2 t1 g1 g2 g3 g4; replace g2 : Fr S1 S2 t1 := g2; replace g4 : c = .sl 1 (out.map fun x => Sv x) (some t1) ∨ S1.length ≤ t1 := g4) | (apply aops_span (i := frm) (j := a); exact rfl; exact rfl; exact rfl; exact rfl; exact hfa; omega))
                apply aops_nil
                refine az_all [6] (by kernel_rfl) rfl ⟨⟨_, rfl, ?_⟩, trivial⟩
                (apply aops_buildSlice; exact rfl; exact rfl; exact rfl; exact rfl; exact rfl; exact rfl; exact rfl; exact rfl; exact rfl)
                apply aops_nil
                refine az_all [7] (by kernel_rfl) rfl ⟨⟨_, rfl, ?_⟩, trivial⟩
                (first | (apply aops_appendO (b := st.length + 4) (xs := out.map fun x => Sv x) (ys := [Sv ((text.take a).drop frm)]) (bytes := 16);  exact rfl; exact rfl; exact rfl; exact rfl; exact rfl; exact ⟨⟨_, _, rfl, rfl, rfl, rfl, rfl⟩⟩; exact hi1.tip; (exact hSle); (first | exact rfl | exact allOne_map fun _ => rfl); ((simp [maxLen]; omega)); ((simp; omega)); intro c' S2 t1 g1 g2 g3 g4; replace g2 : Fr S1 S2 t1 := g2; replace g4 : c = .sl 1 (out.map fun x => Sv x) (some t1) ∨ S1.length ≤ t1 := g4) | (apply aops_span (i := frm) (j := a); exact rfl; exact rfl; exact rfl; exact rfl; exact hfa; omega))
                apply aops_nil
                refine az_all [8] (by kernel_rfl) rfl ⟨⟨_, rfl, ?_⟩, trivial⟩
                (apply aops_store_at; exact rfl; exact rfl; exact frO_get g2 g4 hi1.tip c1 (notTip_cells rfl); exact rfl; exact tipO_okc g1; exact tipO_cells g1; exact rfl; exact tipO_one g1; exact rfl)
                apply aops_nil
                refine az_done (by kernel_rfl) ?_
                exact ⟨rfl, rfl, rfl, get_set_ne (frO_get g2 g4 hi1.tip hd2 notTip_dfr) (by omega), get_set_ne (frO_get g2 g4 hi1.tip hf2 (notTip_F hF _ _ rfl)) (by omega), get_set_ne (frO_get g2 g4 hi1.tip hown2 hnt) (by omega), get_set_ne (frO_get g2 g4 hi1.tip hln (notTip_cells rfl)) (by omega), get_set_ne (frO_get g2 g4 hi1.tip c2 (notTip_cells rfl)) (by omega), c', hi1.app g1 g2 g3 g4⟩
              · (apply aops_load_bx; exact rfl; (first | exact c0 | exact c1 | exact c2 | exact hln); exact rfl; exact rfl)
                apply aops_nil
                refine az_all [0, 5] (by kernel_rfl) rfl ⟨⟨_, rfl, ?_⟩, ⟨_, rfl, ?_⟩, trivial⟩
                · (apply aops_load_bx; exact rfl; (first | exact c0 | exact c1 | exact c2 | exact hln); exact rfl; exact rfl)
                  apply aops_nil
                  refine az_all [5] (by kernel_rfl) rfl ⟨⟨_, rfl, ?_⟩, trivial⟩
                  (first | (apply aops_appendO (b := st.length + 4) (xs := out.map fun x => Sv x) (ys := [Sv ((text.take a).drop frm)]) (bytes := 16);  exact rfl; exact rfl; exact rfl; exact rfl; exact rfl; exact ⟨⟨_, _, rfl, rfl, rfl, rfl, rfl⟩⟩; exact hi1.tip; (exact hSle); (first | exact rfl | exact allOne_map fun _ => rfl); ((simp [maxLen]; omega)); ((simp; omega)); intro c' S2 t1 g1 g2 g3 g4; replace g2 : Fr S1 S2 t1 := g2; replace g4 : c = .sl 1 (out.map fun x => Sv x) (some t1) ∨ S1.length ≤ t1 := g4) | (apply aops_span (i := frm) (j := a); exact rfl; exact rfl; exact rfl; exact rfl; exact hfa; omega))
                  apply aops_nil
                  refine az_all [6] (by kernel_rfl) rfl ⟨⟨_, rfl, ?_⟩, trivial⟩
                  (apply aops_buildSlice; exact rfl; exact rfl; exact rfl; exact rfl; exact rfl; exact rfl; exact rfl; exact rfl; exact rfl)
                  apply aops_nil
                  refine az_all [7] (by kernel_rfl) rfl ⟨⟨_, rfl, ?_⟩, trivial⟩
                  (first | (apply aops_appendO (b := st.length + 4) (xs := out.map fun x => Sv x) (ys := [Sv ((text.take a).drop frm)]) (bytes := 16);  exact rfl; exact rfl; exact rfl; exact rfl; exact rfl; exact ⟨⟨_, _, rfl, rfl, rfl, rfl, rfl⟩⟩; exact hi1.tip; (exact hSle); (first | exact rfl | exact allOne_map fun _ => rfl); ((simp [maxLen]; omega)); ((simp; omega)); intro c' S2 t1 g1 g2 g3 g4; replace g2 : Fr S1 S2 t1 := g2; replace g4 : c = .sl 1 (out.map fun x => Sv x) (some t1) ∨ S1.length ≤ t1 := g4) | (apply aops_span (i := frm) (j := a); exact rfl; exact rfl; exact rfl; exact rfl; exact hfa; omega))
                  apply aops_nil
                  refine az_all [8] (by kernel_rfl) rfl ⟨⟨_, rfl, ?_⟩, trivial⟩
                  (apply aops_store_at; exact rfl; exact rfl; exact frO_get g2 g4 hi1.tip c1 (notTip_cells rfl); exact rfl; exact tipO_okc g1; exact tipO_cells g1; exact rfl; exact tipO_one g1; exact rfl)
                  apply aops_nil
                  refine az_done (by kernel_rfl) ?_
                  exact ⟨rfl, rfl, rfl, get_set_ne (frO_get g2 g4 hi1.tip hd2 notTip_dfr) (by omega), get_set_ne (frO_get g2 g4 hi1.tip hf2 (notTip_F hF _ _ rfl)) (by omega), get_set_ne (frO_get g2 g4 hi1.tip hown2 hnt) (by omega), get_set_ne (frO_get g2 g4 hi1.tip hln (notTip_cells rfl)) (by omega), get_set_ne (frO_get g2 g4 hi1.tip c2 (notTip_cells rfl)) (by omega), c', hi1.app g1 g2 g3 g4⟩
                · (first | (apply aops_appendO (b := st.length + 4) (xs := out.map fun x => Sv x) (ys := [Sv ((text.take a).drop frm)]) (bytes := 16);  exact rfl; exact rfl; exact rfl; exact rfl; exact rfl; exact ⟨⟨_, _, rfl, rfl, rfl, rfl, rfl⟩⟩; exact hi1.tip; (exact hSle); (first | exact rfl | exact allOne_map fun _ => rfl); ((simp [maxLen]; omega)); ((simp; omega)); intro c' S2 t1 g1 g2 g3 g4; replace g2 : Fr S1 S2 t1 := g2; replace g4 : c = .sl 1 (out.map fun x => Sv x) (some t1) ∨ S1.length ≤ t1 := g4) | (apply aops_span (i := frm) (j := a); exact rfl; exact rfl; exact rfl; exact rfl; exact hfa; omega))
                  apply aops_nil
                  refine az_all [0, 6] (by kernel_rfl) rfl ⟨⟨_, rfl, ?_⟩, ⟨_, rfl, ?_⟩, trivial⟩
                  · (apply aops_load_bx; exact rfl; (first | exact c0 | exact c1 | exact c2 | exact hln); exact rfl; exact rfl)
                    apply aops_nil
                    refine az_all [6] (by kernel_rfl) rfl ⟨⟨_, rfl, ?_⟩, trivial⟩
                    (apply aops_buildSlice; exact rfl; exact rfl; exact rfl; exact rfl; exact rfl; exact rfl; exact rfl; exact rfl; exact rfl)
                    apply aops_nil
                    refine az_all [7] (by kernel_rfl) rfl ⟨⟨_, rfl, ?_⟩, trivial⟩
                    (first | (apply aops_appendO (b := st.length + 4) (xs := out.map fun x => Sv x) (ys := [Sv ((text.take a).drop frm)]) (bytes := 16);  exact rfl; exact rfl; exact rfl; exact rfl; exact rfl; exact ⟨⟨_, _, rfl, rfl, rfl, rfl, rfl⟩⟩; exact hi1.tip; (exact hSle); (first | exact rfl | exact allOne_map fun _ => rfl); ((simp [maxLen]; omega)); ((simp; omega)); intro c' S2 t1 g1 g2 g3 g4; replace g2 : Fr S1 S2 t1 := g2; replace g4 : c = .sl 1 (out.map fun x => Sv x) (some t1) ∨ S1.length ≤ t1 := g4) | (apply aops_span (i := frm) (j := a); exact rfl; exact rfl; exact rfl; exact rfl; exact hfa; omega))
                    apply aops_nil
                    refine az_all [8] (by kernel_rfl) rfl ⟨⟨_, rfl, ?_⟩, trivial⟩
                    (apply aops_store_at; exact rfl; exact rfl; exact frO_get g2 g4 hi1.tip c1 (notTip_cells rfl); exact rfl; exact tipO_okc g1; exact tipO_cells g1; exact rfl; exact tipO_one g1; exact rfl)
                    apply aops_nil
                    refine az_done (by kernel_rfl) ?_
                    exact ⟨rfl, rfl, rfl, get_set_ne (frO_get g2 g4 hi1.tip hd2 notTip_dfr) (by omega), get_set_ne (frO_get g2 g4 hi1.tip hf2 (notTip_F hF _ _ rfl)) (by omega), get_set_ne (frO_get g2 g4 hi1.tip hown2 hnt) (by omega), get_set_ne (frO_get g2 g4 hi1.tip hln (notTip_cells rfl)) (by omega), get_set_ne (frO_get g2 g4 hi1.tip c2 (notTip_cells rfl)) (by omega), c', hi1.app g1 g2 g3 g4⟩
                  · (apply aops_buildSlice; exact rfl; exact rfl; exact rfl; exact rfl; exact rfl; exact rfl; exact rfl; exact rfl; exact rfl)
                    apply aops_nil
                    refine az_all [0] (by kernel_rfl) rfl ⟨⟨_, rfl, ?_⟩, trivial⟩
                    (apply aops_load_bx; exact rfl; (first | exact c0 | exact c1 | exact c2 | exact hln); exact rfl; exact rfl)
                    apply aops_nil
                    refine az_all [7] (by kernel_rfl) rfl ⟨⟨_, rfl, ?_⟩, trivial⟩
                    (first | (apply aops_appendO (b := st.length + 4) (xs := out.map fun x => Sv x) (ys := [Sv ((text.take a).drop frm)]) (bytes := 16);  exact rfl; exact rfl; exact rfl; exact rfl; exact rfl; exact ⟨⟨_, _, rfl, rfl, rfl, rfl, rfl⟩⟩; exact hi1.tip; (exact hSle); (first | exact rfl | exact allOne_map fun _ => rfl); ((simp [maxLen]; omega)); ((simp; omega)); intro c' S2 t1 g1 g2 g3 g4; replace g2 : Fr S1 S2 t1 := g2; replace g4 : c = .sl 1 (out.map fun x => Sv x) (some t1) ∨ S1.length ≤ t1 := g4) | (apply aops_span (i := frm) (j := a); exact rfl; exact rfl; exact rfl; exact rfl; exact hfa; omega))
                    apply aops_nil
                    refine az_all [8] (by kernel_rfl) rfl ⟨⟨_, rfl, ?_⟩, trivial⟩
                    (apply aops_store_at; exact rfl; exact rfl; exact frO_get g2 g4 hi1.tip c1 (notTip_cells rfl); exact rfl; exact tipO_okc g1; exact tipO_cells g1; exact rfl; exact tipO_one g1; exact rfl)
                    apply aops_nil
                    refine az_done (by kernel_rfl) ?_
                    exact ⟨rfl, rfl, rfl, get_set_ne (frO_get g2 g4 hi1.tip hd2 notTip_dfr) (by omega), get_set_ne (frO_get g2 g4 hi1.tip hf2 (notTip_F hF _ _ rfl)) (by omega), get_set_ne (frO_get g2 g4 hi1.tip hown2 hnt) (by omega), get_set_ne (frO_get g2 g4 hi1.tip hln (notTip_cells rfl)) (by omega), get_set_ne (frO_get g2 g4 hi1.tip c2 (notTip_cells rfl)) (by omega), c', hi1.app g1 g2 g3 g4⟩
            · (apply aops_load_bx; exact rfl; (first | exact c0 | exact c1 | exact c2 | exact hln); exact rfl; exact rfl)
              apply aops_nil
              refine az_all [0, 2] (by kernel_rfl) rfl ⟨⟨_, rfl, ?_⟩, ⟨_, rfl, ?_⟩, trivial⟩
              · (apply aops_load_bx; exact rfl; (first | exact c0 | exact c1 | exact c2 | exact hln); exact rfl; exact rfl)
                apply aops_nil
                refine az_all [2] (by kernel_rfl) rfl ⟨⟨_, rfl, ?_⟩, trivial⟩
                (apply aops_load_bx; exact rfl; (first | exact c0 | exact c1 | exact c2 | exact hln); exact rfl; exact rfl)
                apply aops_nil
                refine az_all [5] (by kernel_rfl) rfl ⟨⟨_, rfl, ?_⟩, trivial⟩
                (first | (apply aops_appendO (b := st.length + 4) (xs := out.map fun x => Sv x) (ys := [Sv ((text.take a).drop frm)]) (bytes := 16);  exact rfl; exact rfl; exact rfl; exact rfl; exact rfl; exact ⟨⟨_, _, rfl, rfl, rfl, rfl, rfl⟩⟩; exact hi1.tip; (exact hSle); (first | exact rfl | exact allOne_map fun _ => rfl); ((simp [maxLen]; omega)); ((simp; omega)); intro c' S2 t1 g1 g2 g3 g4; replace g2 : Fr S1 S2 t1 := g2; replace g4 : c = .sl 1 (out.map fun x => Sv x) (some t1) ∨ S1.length ≤ t1 := g4) | (apply aops_span (i := frm) (j := a); exact rfl; exact rfl; exact rfl; exact rfl; exact hfa; omega))
                apply aops_nil
                refine az_all [6] (by kernel_rfl) rfl ⟨⟨_, rfl, ?_⟩, trivial⟩
                (apply aops_buildSlice; exact rfl; exact rfl; exact rfl; exact rfl; exact rfl; exact rfl; exact rfl; exact rfl; exact rfl)
                apply aops_nil
                refine az_all [7] (by kernel_rfl) rfl ⟨⟨_, rfl, ?_⟩, trivial⟩
                (first | (apply aops_appendO (b := st.length + 4) (xs := out.map fun x => Sv x) (ys := [Sv ((text.take a).drop frm)]) (bytes := 16);  exact rfl; exact rfl; exact rfl; exact rfl; exact rfl; exact ⟨⟨_, _, rfl, rfl, rfl, rfl, rfl⟩⟩; exact hi1.tip; (exact hSle); (first | exact rfl | exact allOne_map fun _ => rfl); ((simp [maxLen]; omega)); ((simp; omega)); intro c' S2 t1 g1 g2 g3 g4; replace g2 : Fr S1 S2 t1 := g2; replace g4 : c = .sl 1 (out.map fun x => Sv x) (some t1) ∨ S1.length ≤ t1 := g4) | (apply aops_span (i := frm) (j := a); exact rfl; exact rfl; exact rfl; exact rfl; exact hfa; omega))
                apply aops_nil
                refine az_all [8] (by kernel_rfl) rfl ⟨⟨_, rfl, ?_⟩, trivial⟩
                (apply aops_store_at; exact rfl; exact rfl; exact frO_get g2 g4 hi1.tip c1 (notTip_cells rfl); exact rfl; exact tipO_okc g1; exact tipO_cells g1; exact rfl; exact tipO_one g1; exact rfl)
                apply aops_nil
                refine az_done (by kernel_rfl) ?_
                exact ⟨rfl, rfl, rfl, get_set_ne (frO_get g2 g4 hi1.tip hd2 notTip_dfr) (by omega), get_set_ne (frO_get g2 g4 hi1.tip hf2 (notTip_F hF _ _ rfl)) (by omega), get_set_ne (frO_get g2 g4 hi1.tip hown2 hnt) (by omega), get_set_ne (frO_get g2 g4 hi1.tip hln (notTip_cells rfl)) (by omega), get_set_ne (frO_get g2 g4 hi1.tip c2 (notTip_cells rfl)) (by omega), c', hi1.app g1 g2 g3 g4⟩
              · (apply aops_load_bx; exact rfl; (first | exact c0 | exact c1 | exact c2 | exact hln); exact rfl; exact rfl)
                apply aops_nil
                refine az_all [0, 5] (by kernel_rfl) rfl ⟨⟨_, rfl, ?_⟩, ⟨_, rfl, ?_⟩, trivial⟩
                · (apply aops_load_bx; exact rfl; (first | exact c0 | exact c1 | exact c2 | exact hln); exact rfl; exact rfl)
                  apply aops_nil
                  refine az_all [5] (by kernel_rfl) rfl ⟨⟨_, rfl, ?_⟩, trivial⟩
                  (first | (apply aops_appendO (b := st.length + 4) (xs := out.map fun x => Sv x) (ys := [Sv ((text.take a).drop frm)]) (bytes := 16);  exact rfl; exact rfl; exact rfl; exact rfl; exact rfl; exact ⟨⟨_, _, rfl, rfl, rfl, rfl, rfl⟩⟩; exact hi1.tip; (exact hSle); (first | exact rfl | exact allOne_map fun _ => rfl); ((simp [maxLen]; omega)); ((simp; omega)); intro c' S2 t1 g1 g2 g3 g4; replace g2 : Fr S1 S2 t1 := g2; replace g4 : c = .sl 1 (out.map fun x => Sv x) (some t1) ∨ S1.length ≤ t1 := g4) | (apply aops_span (i := frm) (j := a); exact rfl; exact rfl; exact rfl; exact rfl; exact hfa; omega))
                  apply aops_nil
                  refine az_all [6] (by kernel_rfl) rfl ⟨⟨_, rfl, ?_⟩, trivial⟩
                  (apply aops_buildSlice; exact rfl; exact rfl; exact rfl; exact rfl; exact rfl; exact rfl; exact rfl; exact rfl; exact rfl)
                  apply aops_nil
                  refine az_all [7] (by kernel_rfl) rfl ⟨⟨_, rfl, ?_⟩, trivial⟩
                  (first | (apply aops_appendO (b := st.length + 4) (xs := out.map fun x => Sv x) (ys := [Sv ((text.take a).drop frm)]) (bytes := 16);  exact rfl; exact rfl; exact rfl; exact rfl; exact rfl; exact ⟨⟨_, _, rfl, rfl, rfl, rfl, rfl⟩⟩; exact hi1.tip; (exact hSle); (first | exact rfl | exact allOne_map fun _ => rfl); ((simp [maxLen]; omega)); ((simp; omega)); intro c' S2 t1 g1 g2 g3 g4; replace g2 : Fr S1 S2 t1 := g2; replace g4 : c = .sl 1 (out.map fun x => Sv x) (some t1) ∨ S1.length ≤ t1 := g4) | (apply aops_span (i := frm) (j := a); exact rfl; exact rfl; exact rfl; exact rfl; exact hfa; omega))
                  apply aops_nil
                  refine az_all [8] (by kernel_rfl) rfl ⟨⟨_, rfl, ?_⟩, trivial⟩
                  (apply aops_store_at; exact rfl; exact rfl; exact frO_get g2 g4 hi1.tip c1 (notTip_cells rfl); exact rfl; exact tipO_okc g1; exact tipO_cells g1; exact rfl; exact tipO_one g1; exact rfl)
                  apply aops_nil
                  refine az_done (by kernel_rfl) ?_
                  exact ⟨rfl, rfl, rfl, get_set_ne (frO_get g2 g4 hi1.tip hd2 notTip_dfr) (by omega), get_set_ne (frO_get g2 g4 hi1.tip hf2 (notTip_F hF _ _ rfl)) (by omega), get_set_ne (frO_get g2 g4 hi1.tip hown2 hnt) (by omega), get_set_ne (frO_get g2 g4 hi1.tip hln (notTip_cells rfl)) (by omega), get_set_ne (frO_get g2 g4 hi1.tip c2 (notTip_cells rfl)) (by omega), c', hi1.app g1 g2 g3 g4⟩
                · (first | (apply aops_appendO (b := st.length + 4) (xs := out.map fun x => Sv x) (ys := [Sv ((text.take a).drop frm)]) (bytes := 16);  exact rfl; exact rfl; exact rfl; exact rfl; exact rfl; exact ⟨⟨_, _, rfl, rfl, rfl, rfl, rfl⟩⟩; exact hi1.tip; (exact hSle); (first | exact rfl | exact allOne_map fun _ => rfl); ((simp [maxLen]; omega)); ((simp; omega)); intro c' S2 t1 g1 g2 g3 g4; replace g2 : Fr S1 S2 t1 := g2; replace g4 : c = .sl 1 (out.map fun x => Sv x) (some t1) ∨ S1.length ≤ t1 := g4) | (apply aops_span (i := frm) (j := a); exact rfl; exact rfl; exact rfl; exact rfl; exact hfa; omega))
                  apply aops_nil
                  refine az_all [0, 6] (by kernel_rfl) rfl ⟨⟨_, rfl, ?_⟩, ⟨_, rfl, ?_⟩, trivial⟩
                  · (apply aops_load_bx; exact rfl; (first | exact c0 | exact c1 | exact c2 | exact hln); exact rfl; exact rfl)
                    apply aops_nil
                    refine az_all [6] (by kernel_rfl) rfl ⟨⟨_, rfl, ?_⟩, trivial⟩
                    (apply aops_buildSlice; exact rfl; exact rfl; exact rfl; exact rfl; exact rfl; exact rfl; exact rfl; exact rfl; exact rfl)
                    apply aops_nil
                    refine az_all [7] (by kernel_rfl) rfl ⟨⟨_, rfl, ?_⟩, trivial⟩
                    (first | (apply aops_appendO (b := st.length + 4) (xs := out.map fun x => Sv x) (ys := [Sv ((text.take a).drop frm)]) (bytes := 16);  exact rfl; exact rfl; exact rfl; exact rfl; exact rfl; exact ⟨⟨_, _, rfl, rfl, rfl, rfl, rfl⟩⟩; exact hi1.tip; (exact hSle); (first | exact rfl | exact allOne_map fun _ => rfl); ((simp [maxLen]; omega)); ((simp; omega)); intro c' S2 t1 g1 g2 g3 g4; replace g2 : Fr S1 S2 t1 := g2; replace g4 : c = .sl 1 (out.map fun x => Sv x) (some t1) ∨ S1.length ≤ t1 := g4) | (apply aops_span (i := frm) (j := a); exact rfl; exact rfl; exact rfl; exact rfl; exact hfa; omega))
                    apply aops_nil
                    refine az_all [8] (by kernel_rfl) rfl ⟨⟨_, rfl, ?_⟩, trivial⟩
                    (apply aops_store_at; exact rfl; exact rfl; exact frO_get g2 g4 hi1.tip c1 (notTip_cells rfl); exact rfl; exact tipO_okc g1; exact tipO_cells g1; exact rfl; exact tipO_one g1; exact rfl)
                    apply aops_nil
                    refine az_done (by kernel_rfl) ?_
                    exact ⟨rfl, rfl, rfl, get_set_ne (frO_get g2 g4 hi1.tip hd2 notTip_dfr) (by omega), get_set_ne (frO_get g2 g4 hi1.tip hf2 (notTip_F hF _ _ rfl)) (by omega), get_set_ne (frO_get g2 g4 hi1.tip hown2 hnt) (by omega), get_set_ne (frO_get g2 g4 hi1.tip hln (notTip_cells rfl)) (by omega), get_set_ne (frO_get g2 g4 hi1.tip c2 (notTip_cells rfl)) (by omega), c', hi1.app g1 g2 g3 g4⟩
                  · (apply aops_buildSlice; exact rfl; exact rfl; exact rfl; exact rfl; exact rfl; exact rfl; exact rfl; exact rfl; exact rfl)
                    apply aops_nil
                    refine az_all [0] (by kernel_rfl) rfl ⟨⟨_, rfl, ?_⟩, trivial⟩
                    (apply aops_load_bx; exact rfl; (first | exact c0 | exact c1 | exact c2 | exact hln); exact rfl; exact rfl)
                    apply aops_nil
                    refine az_all [7] (by kernel_rfl) rfl ⟨⟨_, rfl, ?_⟩, trivial⟩
                    (first | (apply aops_appendO (b := st.length + 4) (xs := out.map fun x => Sv x) (ys := [Sv ((text.take a).drop frm)]) (bytes := 16);  exact rfl; exact rfl; exact rfl; exact rfl; exact rfl; exact ⟨⟨_, _, rfl, rfl, rfl, rfl, rfl⟩⟩; exact hi1.tip; (exact hSle); (first | exact rfl | exact allOne_map fun _ => rfl); ((simp [maxLen]; omega)); ((simp; omega)); intro c' S2 t1 g1 g2 g3 g4; replace g2 : Fr S1 S2 t1 := g2; replace g4 : c = .sl 1 (out.map fun x => Sv x) (some t1) ∨ S1.length ≤ t1 := g4) | (apply aops_span (i := frm) (j := a); exact rfl; exact rfl; exact rfl; exact rfl; exact hfa; omega))
                    apply aops_nil
                    refine az_all [8] (by kernel_rfl) rfl ⟨⟨_, rfl, ?_⟩, trivial⟩
                    (apply aops_store_at; exact rfl; exact rfl; exact frO_get g2 g4 hi1.tip c1 (notTip_cells rfl); exact rfl; exact tipO_okc g1; exact tipO_cells g1; exact rfl; exact tipO_one g1; exact rfl)
                    apply aops_nil
                    refine az_done (by kernel_rfl) ?_
                    exact ⟨rfl, rfl, rfl, get_set_ne (frO_get g2 g4 hi1.tip hd2 notTip_dfr) (by omega), get_set_ne (frO_get g2 g4 hi1.tip hf2 (notTip_F hF _ _ rfl)) (by omega), get_set_ne (frO_get g2 g4 hi1.tip hown2 hnt) (by omega), get_set_ne (frO_get g2 g4 hi1.tip hln (notTip_cells rfl)) (by omega), get_set_ne (frO_get g2 g4 hi1.tip c2 (notTip_cells rfl)) (by omega), c', hi1.app g1 g2 g3 g4⟩
          · (apply aops_load_bx; exact rfl; (first | exact c0 | exact c1 | exact c2 | exact hln); exact rfl; exact rfl)
            apply aops_nil
            refine az_all [0, 1, 4] (by kernel_rfl) rfl ⟨⟨_, rfl, ?_⟩, ⟨_, rfl, ?_⟩, ⟨_, rfl, ?_⟩, trivial⟩
            · (apply aops_load_bx; exact rfl; (first | exact c0 | exact c1 | exact c2 | exact hln); exact rfl; exact rfl)
              apply aops_nil
              refine az_all [1, 4] (by kernel_rfl) rfl ⟨⟨_, rfl, ?_⟩, ⟨_, rfl, ?_⟩, trivial⟩
              · (apply aops_load_bx; exact rfl; (first | exact c0 | exact c1 | exact c2 | exact hln); exact rfl; exact rfl)
                apply aops_nil
                refine az_all [4] (by kernel_rfl) rfl ⟨⟨_, rfl, ?_⟩, trivial⟩
                (apply aops_load_bx; exact rfl; (first | exact c0 | exact c1 | exact c2 | exact hln); exact rfl; exact rfl)
                apply aops_nil
                refine az_all [5] (by kernel_rfl) rfl ⟨⟨_, rfl, ?_⟩, trivial⟩
                (first | (apply aops_appendO (b := st.length + 4) (xs := out.map fun x => Sv x) (ys := [Sv ((text.take a).drop frm)]) (bytes := 16);  exact rfl; exact rfl; exact rfl; exact rfl; exact rfl; exact ⟨⟨_, _, rfl, rfl, rfl, rfl, rfl⟩⟩; exact hi1.tip; (exact hSle); (first | exact rfl | exact allOne_map fun _ => rfl); ((simp [maxLen]; omega)); ((simp; omega)); intro c' S2 t1 g1 g2 g3 g4; replace g2 : Fr S1 S2 t1 := g2; replace g4 : c = .sl 1 (out.map fun x => Sv x) (some t1) ∨ S1.length ≤ t1 := g4) | (apply aops_span (i := frm) (j := a); exact rfl; exact rfl; exact rfl; exact rfl; exact hfa; omega))
                apply aops_nil
                refine az_all [6] (by kernel_rfl) rfl ⟨⟨_, rfl, ?_⟩, trivial⟩
                (apply aops_buildSlice; exact rfl; exact rfl; exact rfl; exact rfl; exact rfl; exact rfl; exact rfl; exact rfl; exact rfl)
                apply aops_nil
                refine az_all [7] (by kernel_rfl) rfl ⟨⟨_, rfl, ?_⟩, trivial⟩
                (first | (apply aops_appendO (b := st.length + 4) (xs := out.map fun x => Sv x) (ys := [Sv ((text.take a).drop frm)]) (bytes := 16);  exact rfl; exact rfl; exact rfl; exact rfl; exact rfl; exact ⟨⟨_, _, rfl, rfl, rfl, rfl, rfl⟩⟩; exact hi1.tip; (exact hSle); (first | exact rfl | exact allOne_map fun _ => rfl); ((simp [maxLen]; omega)); ((simp; omega)); intro c' S2 t1 g1 g2 g3 g4; replace g2 : Fr S1 S2 t1 := g2; replace g4 : c = .sl 1 (out.map fun x => Sv x) (some t1) ∨ S1.length ≤ t1 := g4) | (apply aops_span (i := frm) (j := a); exact rfl; exact rfl; exact rfl; exact rfl; exact hfa; omega))
                apply aops_nil
                refine az_all [8] (by kernel_rfl) rfl ⟨⟨_, rfl, ?_⟩, trivial⟩
                (apply aops_store_at; exact rfl; exact rfl; exact frO_get g2 g4 hi1.tip c1 (notTip_cells rfl); exact rfl; exact tipO_okc g1; exact tipO_cells g1; exact rfl; exact tipO_one g1; exact rfl)
                apply aops_nil
                refine az_done (by kernel_rfl) ?_
                exact ⟨rfl, rfl, rfl, get_set_ne (frO_get g2 g4 hi1.tip hd2 notTip_dfr) (by omega), get_set_ne (frO_get g2 g4 hi1.tip hf2 (notTip_F hF _ _ rfl)) (by omega), get_set_ne (frO_get g2 g4 hi1.tip hown2 hnt) (by omega), get_set_ne (frO_get g2 g4 hi1.tip hln (notTip_cells rfl)) (by omega), get_set_ne (frO_get g2 g4 hi1.tip c2 (notTip_cells rfl)) (by omega), c', hi1.app g1 g2 g3 g4⟩
              · (apply aops_load_bx; exact rfl; (first | exact c0 | exact c1 | exact c2 | exact hln); exact rfl; exact rfl)
                apply aops_nil
                refine az_all [1] (by kernel_rfl) rfl ⟨⟨_, rfl, ?_⟩, trivial⟩
                (apply aops_load_bx; exact rfl; (first | exact c0 | exact c1 | exact c2 | exact hln); exact rfl; exact rfl)
                apply aops_nil
                refine az_all [5] (by kernel_rfl) rfl ⟨⟨_, rfl, ?_⟩, trivial⟩
                (first | (apply aops_appendO (b := st.length + 4) (xs := out.map fun x => Sv x) (ys := [Sv ((text.take a).drop frm)]) (bytes := 16);  exact rfl; exact rfl; exact rfl; exact rfl; exact rfl; exact ⟨⟨_, _, rfl, rfl, rfl, rfl, rfl⟩⟩; exact hi1.tip; (exact hSle); (first | exact rfl | exact allOne_map fun _ => rfl); ((simp [maxLen]; omega)); ((simp; omega)); intro c' S2 t1 g1 g2 g3 g4; replace g2 : Fr S1 S2 t1 := g2; replace g4 : c = .sl 1 (out.map fun x => Sv x) (some t1) ∨ S1.length ≤ t1 := g4) | (apply aops_span (i := frm) (j := a); exact rfl; exact rfl; exact rfl; exact rfl; exact hfa; omega))
                apply aops_nil
                refine az_all [6] (by kernel_rfl) rfl ⟨⟨_, rfl, ?_⟩, trivial⟩
                (apply aops_buildSlice; exact rfl; exact rfl; exact rfl; exact rfl; exact rfl; exact rfl; exact rfl; exact rfl; exact rfl)
                apply aops_nil
                refine az_all [7] (by kernel_rfl) rfl ⟨⟨_, rfl, ?_⟩, trivial⟩
                (first | (apply aops_appendO (b := st.length + 4) (xs := out.map fun x => Sv x) (ys := [Sv ((text.take a).drop frm)]) (bytes := 16);  exact rfl; exact rfl; exact rfl; exact rfl; exact rfl; exact ⟨⟨_, _, rfl, rfl, rfl, rfl, rfl⟩⟩; exact hi1.tip; (exact hSle); (first | exact rfl | exact allOne_map fun _ => rfl); ((simp [maxLen]; omega)); ((simp; omega)); intro c' S2 t1 g1 g2 g3 g4; replace g2 : Fr S1 S2 t1 := g2; replace g4 : c = .sl 1 (out.map fun x => Sv x) (some t1) ∨ S1.length ≤ t1 := g4) | (apply aops_span (i := frm) (j := a); exact rfl; exact rfl; exact rfl; exact rfl; exact hfa; omega))
                apply aops_nil
                refine az_all [8] (by kernel_rfl) rfl ⟨⟨_, rfl, ?_⟩, trivial⟩
                (apply aops_store_at; exact rfl; exact rfl; exact frO_get g2 g4 hi1.tip c1 (notTip_cells rfl); exact rfl; exact tipO_okc g1; exact tipO_cells g1; exact rfl; exact tipO_one g1; exact rfl)
                apply aops_nil
                refine az_done (by kernel_rfl) ?_
                exact ⟨rfl, rfl, rfl, get_set_ne (frO_get g2 g4 hi1.tip hd2 notTip_dfr) (by omega), get_set_ne (frO_get g2 g4 hi1.tip hf2 (notTip_F hF _ _ rfl)) (by omega), get_set_ne (frO_get g2 g4 hi1.tip hown2 hnt) (by omega), get_set_ne (frO_get g2 g4 hi1.tip hln (notTip_cells rfl)) (by omega), get_set_ne (frO_get g2 g4 hi1.tip c2 (notTip_cells rfl)) (by omega), c', hi1.app g1 g2 g3 g4⟩
            · (apply aops_load_bx; exact rfl; (first | exact c0 | exact c1 | exact c2 | exact hln); exact rfl; exact rfl)
              apply aops_nil
              refine az_all [0, 4] (by kernel_rfl) rfl ⟨⟨_, rfl, ?_⟩, ⟨_, rfl, ?_⟩, trivial⟩
              · (apply aops_load_bx; exact rfl; (first | exact c0 | exact c1 | exact c2 | exact hln); exact rfl; exact rfl)
                apply aops_nil
                refine az_all [4] (by kernel_rfl) rfl ⟨⟨_, rfl, ?_⟩, trivial⟩
                (apply aops_load_bx; exact rfl; (first | exact c0 | exact c1 | exact c2 | exact hln); exact rfl; exact rfl)
                apply aops_nil
                refine az_all [5] (by kernel_rfl) rfl ⟨⟨_, rfl, ?_⟩, trivial⟩
                (first | (apply aops_appendO (b := st.length + 4) (xs := out.map fun x => Sv x) (ys := [Sv ((text.take a).drop frm)]) (bytes := 16);  exact rfl; exact rfl; exact rfl; exact rfl; exact rfl; exact ⟨⟨_, _, rfl, rfl, rfl, rfl, rfl⟩⟩; exact hi1.tip; (exact hSle); (first | exact rfl | exact allOne_map fun _ => rfl); ((simp [maxLen]; omega)); ((simp; omega)); intro c' S2 t1 g1 g2 g3 g4; replace g2 : Fr S1 S2 t1 := g2; replace g4 : c = .sl 1 (out.map fun x => Sv x) (some t1) ∨ S1.length ≤ t1 := g4) | (apply aops_span (i := frm) (j := a); exact rfl; exact rfl; exact rfl; exact rfl; exact hfa; omega))
                apply aops_nil
                refine az_all [6] (by kernel_rfl) rfl ⟨⟨_, rfl, ?_⟩, trivial⟩
                (apply aops_buildSlice; exact rfl; exact rfl; exact rfl; exact rfl; exact rfl; exact rfl; exact rfl; exact rfl; exact rfl)
                apply aops_nil
                refine az_all [7] (by kernel_rfl) rfl ⟨⟨_, rfl, ?_⟩, trivial⟩
                (first | (apply aops_appendO (b := st.length + 4) (xs := out.map fun x => Sv x) (ys := [Sv ((text.take a).drop frm)]) (bytes := 16);  exact rfl; exact rfl; exact rfl; exact rfl; exact rfl; exact ⟨⟨_, _, rfl, rfl, rfl, rfl, rfl⟩⟩; exact hi1.tip; (exact hSle); (first | exact rfl | exact allOne_map fun _ => rfl); ((simp [maxLen]; omega)); ((simp; omega)); intro c' S2 t1 g1 g2 g3 g4; replace g2 : Fr S1 S2 t1 := g2; replace g4 : c = .sl 1 (out.map fun x => Sv x) (some t1) ∨ S1.length ≤ t1 := g4) | (apply aops_span (i := frm) (j := a); exact rfl; exact rfl; exact rfl; exact rfl; exact hfa; omega))
                apply aops_nil
                refine az_all [8] (by kernel_rfl) rfl ⟨⟨_, rfl, ?_⟩, trivial⟩
                (apply aops_store_at; exact rfl; exact rfl; exact frO_get g2 g4 hi1.tip c1 (notTip_cells rfl); exact rfl; exact tipO_okc g1; exact tipO_cells g1; exact rfl; exact tipO_one g1; exact rfl)
                apply aops_nil
                refine az_done (by kernel_rfl) ?_
                exact ⟨rfl, rfl, rfl, get_set_ne (frO_get g2 g4 hi1.tip hd2 notTip_dfr) (by omega), get_set_ne (frO_get g2 g4 hi1.tip hf2 (notTip_F hF _ _ rfl)) (by omega), get_set_ne (frO_get g2 g4 hi1.tip hown2 hnt) (by omega), get_set_ne (frO_get g2 g4 hi1.tip hln (notTip_cells rfl)) (by omega), get_set_ne (frO_get g2 g4 hi1.tip c2 (notTip_cells rfl)) (by omega), c', hi1.app g1 g2 g3 g4⟩
              · (apply aops_load_bx; exact rfl; (first | exact c0 | exact c1 | exact c2 | exact hln); exact rfl; exact rfl)
                apply aops_nil
                refine az_all [0, 5] (by kernel_rfl) rfl ⟨⟨_, rfl, ?_⟩, ⟨_, rfl, ?_⟩, trivial⟩
                · (apply aops_load_bx; exact rfl; (first | exact c0 | exact c1 | exact c2 | exact hln); exact rfl; exact rfl)
                  apply aops_nil
                  refine az_all [5] (by kernel_rfl) rfl ⟨⟨_, rfl, ?_⟩, trivial⟩
                  (first | (apply aops_appendO (b := st.length + 4) (xs := out.map fun x => Sv x) (ys := [Sv ((text.take a).drop frm)]) (bytes := 16);  exact rfl; exact rfl; exact rfl; exact rfl; exact rfl; exact ⟨⟨_, _, rfl, rfl, rfl, rfl, rfl⟩⟩; exact hi1.tip; (exact hSle); (first | exact rfl | exact allOne_map fun _ => rfl); ((simp [maxLen]; omega)); ((simp; omega)); intro c' S2 t1 g1 g2 g3 g4; replace g2 : Fr S1 S2 t1 := g2; replace g4 : c = .sl 1 (out.map fun x => Sv x) (some t1) ∨ S1.length ≤ t1 := g4) | (apply aops_span (i := frm) (j := a); exact rfl; exact rfl; exact rfl; exact rfl; exact hfa; omega))
                  apply aops_nil
                  refine az_all [6] (by kernel_rfl) rfl ⟨⟨_, rfl, ?_⟩, trivial⟩
                  (apply aops_buildSlice; exact rfl; exact rfl; exact rfl; exact rfl; exact rfl; exact rfl; exact rfl; exact rfl; exact rfl)
                  apply aops_nil
                  refine az_all [7] (by kernel_rfl) rfl ⟨⟨_, rfl, ?_⟩, trivial⟩
                  (first | (apply aops_appendO (b := st.length + 4) (xs := out.map fun x => Sv x) (ys := [Sv ((text.take a).drop frm)]) (bytes := 16);  exact rfl; exact rfl; exact rfl; exact rfl; exact rfl; exact ⟨⟨_, _, rfl, rfl, rfl, rfl, rfl⟩⟩; exact hi1.tip; (exact hSle); (first | exact rfl | exact allOne_map fun _ => rfl); ((simp [maxLen]; omega)); ((simp; omega)); intro c' S2 t1 g1 g2 g3 g4; replace g2 : Fr S1 S2 t1 := g2; replace g4 : c = .sl 1 (out.map fun x => Sv x) (some t1) ∨ S1.length ≤ t1 := g4) | (apply aops_span (i := frm) (j := a); exact rfl; exact rfl; exact rfl; exact rfl; exact hfa; omega))
                  apply aops_nil
                  refine az_all [8] (by kernel_rfl) rfl ⟨⟨_, rfl, ?_⟩, trivial⟩
                  (apply aops_store_at; exact rfl; exact rfl; exact frO_get g2 g4 hi1.tip c1 (notTip_cells rfl); exact rfl; exact tipO_okc g1; exact tipO_cells g1; exact rfl; exact tipO_one g1; exact rfl)
                  apply aops_nil
                  refine az_done (by kernel_rfl) ?_
                  exact ⟨rfl, rfl, rfl, get_set_ne (frO_get g2 g4 hi1.tip hd2 notTip_dfr) (by omega), get_set_ne (frO_get g2 g4 hi1.tip hf2 (notTip_F hF _ _ rfl)) (by omega), get_set_ne (frO_get g2 g4 hi1.tip hown2 hnt) (by omega), get_set_ne (frO_get g2 g4 hi1.tip hln (notTip_cells rfl)) (by omega), get_set_ne (frO_get g2 g4 hi1.tip c2 (notTip_cells rfl)) (by omega), c', hi1.app g1 g2 g3 g4⟩
                · (first | (apply aops_appendO (b := st.length + 4) (xs := out.map fun x => Sv x) (ys := [Sv ((text.take a).drop frm)]) (bytes := 16);  exact rfl; exact rfl; exact rfl; exact rfl; exact rfl; exact ⟨⟨_, _, rfl, rfl, rfl, rfl, rfl⟩⟩; exact hi1.tip; (exact hSle); (first | exact rfl | exact allOne_map fun _ => rfl); ((simp [maxLen]; omega)); ((simp; omega)); intro c' S2 t1 g1 g2 g3 g4; replace g2 : Fr S1 S2 t1 := g2; replace g4 : c = .sl 1 (out.map fun x => Sv x) (some t1) ∨ S1.length ≤ t1 := g4) | (apply aops_span (i := frm) (j := a); exact rfl; exact rfl; exact rfl; exact rfl; exact hfa; omega))
                  apply aops_nil
                  refine az_all [0, 6] (by kernel_rfl) rfl ⟨⟨_, rfl, ?_⟩, ⟨_, rfl, ?_⟩, trivial⟩
                  · (apply aops_load_bx; exact rfl; (first | exact c0 | exact c1 | exact c2 | exact hln); exact rfl; exact rfl)
                    apply aops_nil
                    refine az_all [6] (by kernel_rfl) rfl ⟨⟨_, rfl, ?_⟩, trivial⟩
                    (apply aops_buildSlice; exact rfl; exact rfl; exact rfl; exact rfl; exact rfl; exact rfl; exact rfl; exact rfl; exact rfl)
                    apply aops_nil
                    refine az_all [7] (by kernel_rfl) rfl ⟨⟨_, rfl, ?_⟩, trivial⟩
                    (first | (apply aops_appendO (b := st.length + 4) (xs := out.map fun x => Sv x) (ys := [Sv ((text.take a).drop frm)]) (bytes := 16);  exact rfl; exact rfl; exact rfl; exact rfl; exact rfl; exact ⟨⟨_, _, rfl, rfl, rfl, rfl, rfl⟩⟩; exact hi1.tip; (exact hSle); (first | exact rfl | exact allOne_map fun _ => rfl); ((simp [maxLen]; omega)); ((simp; omega)); intro c' S2 t1 g1 g2 g3 g4; replace g2 : Fr S1 S2 t1 := g2; replace g4 : c = .sl 1 (out.map fun x => Sv x) (some t1) ∨ S1.length ≤ t1 := g4) | (apply aops_span (i := frm) (j := a); exact rfl; exact rfl; exact rfl; exact rfl; exact hfa; omega))
                    apply aops_nil
                    refine az_all [8] (by kernel_rfl) rfl ⟨⟨_, rfl, ?_⟩, trivial⟩
                    (apply aops_store_at; exact rfl; exact rfl; exact frO_get g2 g4 hi1.tip c1 (notTip_cells rfl); exact rfl; exact tipO_okc g1; exact tipO_cells g1; exact rfl; exact tipO_one g1; exact rfl)
                    apply aops_nil
                    refine az_done (by kernel_rfl) ?_
                    exact ⟨rfl, rfl, rfl, get_set_ne (frO_get g2 g4 hi1.tip hd2 notTip_dfr) (by omega), get_set_ne (frO_get g2 g4 hi1.tip hf2 (notTip_F hF _ _ rfl)) (by omega), get_set_ne (frO_get g2 g4 hi1.tip hown2 hnt) (by omega), get_set_ne (frO_get g2 g4 hi1.tip hln (notTip_cells rfl)) (by omega), get_set_ne (frO_get g2 g4 hi1.tip c2 (notTip_cells rfl)) (by omega), c', hi1.app g1 g2 g3 g4⟩
                  · (apply aops_buildSlice; exact rfl; exact rfl; exact rfl; exact rfl; exact rfl; exact rfl; exact rfl; exact rfl; exact rfl)
                    apply aops_nil
                    refine az_all [0] (by kernel_rfl) rfl ⟨⟨_, rfl, ?_⟩, trivial⟩
                    (apply aops_load_bx; exact rfl; (first | exact c0 | exact c1 | exact c2 | exact hln); exact rfl; exact rfl)
                    apply aops_nil
                    refine az_all [7] (by kernel_rfl) rfl ⟨⟨_, rfl, ?_⟩, trivial⟩
                    (first | (apply aops_appendO (b := st.length + 4) (xs := out.map fun x => Sv x) (ys := [Sv ((text.take a).drop frm)]) (bytes := 16);  exact rfl; exact rfl; exact rfl; exact rfl; exact rfl; exact ⟨⟨_, _, rfl, rfl, rfl, rfl, rfl⟩⟩; exact hi1.tip; (exact hSle); (first | exact rfl | exact allOne_map fun _ => rfl); ((simp [maxLen]; omega)); ((simp; omega)); intro c' S2 t1 g1 g2 g3 g4; replace g2 : Fr S1 S2 t1 := g2; replace g4 : c = .sl 1 (out.map fun x => Sv x) (some t1) ∨ S1.length ≤ t1 := g4) | (apply aops_span (i := frm) (j := a); exact rfl; exact rfl; exact rfl; exact rfl; exact hfa; omega))
                    apply aops_nil
                    refine az_all [8] (by kernel_rfl) rfl ⟨⟨_, rfl, ?_⟩, trivial⟩
                    (apply aops_store_at; exact rfl; exact rfl; exact frO_get g2 g4 hi1.tip c1 (notTip_cells rfl); exact rfl; exact tipO_okc g1; exact tipO_cells g1; exact rfl; exact tipO_one g1; exact rfl)
                    apply aops_nil
                    refine az_done (by kernel_rfl) ?_
                    exact ⟨rfl, rfl, rfl, get_set_ne (frO_get g2 g4 hi1.tip hd2 notTip_dfr) (by omega), get_set_ne (frO_get g2 g4 hi1.tip hf2 (notTip_F hF _ _ rfl)) (by omega), get_set_ne (frO_get g2 g4 hi1.tip hown2 hnt) (by omega), get_set_ne (frO_get g2 g4 hi1.tip hln (notTip_cells rfl)) (by omega), get_set_ne (frO_get g2 g4 hi1.tip c2 (notTip_cells rfl)) (by omega), c', hi1.app g1 g2 g3 g4⟩
            · (apply aops_load_bx; exact rfl; (first | exact c0 | exact c1 | exact c2 | exact hln); exact rfl; exact rfl)
              apply aops_nil
              refine az_all [0, 1] (by kernel_rfl) rfl ⟨⟨_, rfl, ?_⟩, ⟨_, rfl, ?_⟩, trivial⟩
              · (apply aops_load_bx; exact rfl; (first | exact c0 | exact c1 | exact c2 | exact hln); exact rfl; exact rfl)
                apply aops_nil
                refine az_all [1] (by kernel_rfl) rfl ⟨⟨_, rfl, ?_⟩, trivial⟩
                (apply aops_load_bx; exact rfl; (first | exact c0 | exact c1 | exact c2 | exact hln); exact rfl; exact rfl)
                apply aops_nil
                refine az_all [5] (by kernel_rfl) rfl ⟨⟨_, rfl, ?_⟩, trivial⟩
                (first | (apply aops_appendO (b := st.length + 4) (xs := out.map fun x => Sv x) (ys := [Sv ((text.take a).drop frm)]) (bytes := 16);  exact rfl; exact rfl; exact rfl; exact rfl; exact rfl; exact ⟨⟨_, _, rfl, rfl, rfl, rfl, rfl⟩⟩; exact hi1.tip; (exact hSle); (first | exact rfl | exact allOne_map fun _ => rfl); ((simp [maxLen]; omega)); ((simp; omega)); intro c' S2 t1 g1 g2 g3 g4; replace g2 : Fr S1 S2 t1 := g2; replace g4 : c = .sl 1 (out.map fun x => Sv x) (some t1) ∨ S1.length ≤ t1 := g4) | (apply aops_span (i := frm) (j := a); exact rfl; exact rfl; exact rfl; exact rfl; exact hfa; omega))
                apply aops_nil
                refine az_all [6] (by kernel_rfl) rfl ⟨⟨_, rfl, ?_⟩, trivial⟩
                (apply aops_buildSlice; exact rfl; exact rfl; exact rfl; exact rfl; exact rfl; exact rfl; exact rfl; exact rfl; exact rfl)
                apply aops_nil
                refine az_all [7] (by kernel_rfl) rfl ⟨⟨_, rfl, ?_⟩, trivial⟩
                (first | (apply aops_appendO (b := st.length + 4) (xs := out.map fun x => Sv x) (ys := [Sv ((text.take a).drop frm)]) (bytes := 16);  exact rfl; exact rfl; exact rfl; exact rfl; exact rfl; exact ⟨⟨_, _, rfl, rfl, rfl, rfl, rfl⟩⟩; exact hi1.tip; (exact hSle); (first | exact rfl | exact allOne_map fun _ => rfl); ((simp [maxLen]; omega)); ((simp; omega)); intro c' S2 t1 g1 g2 g3 g4; replace g2 : Fr S1 S2 t1 := g2; replace g4 : c = .sl 1 (out.map fun x => Sv x) (some t1) ∨ S1.length ≤ t1 := g4) | (apply aops_span (i := frm) (j := a); exact rfl; exact rfl; exact rfl; exact rfl; exact hfa; omega))
                apply aops_nil
                refine az_all [8] (by kernel_rfl) rfl ⟨⟨_, rfl, ?_⟩, trivial⟩
                (apply aops_store_at; exact rfl; exact rfl; exact frO_get g2 g4 hi1.tip c1 (notTip_cells rfl); exact rfl; exact tipO_okc g1; exact tipO_cells g1; exact rfl; exact tipO_one g1; exact rfl)
                apply aops_nil
                refine az_done (by kernel_rfl) ?_
                exact ⟨rfl, rfl, rfl, get_set_ne (frO_get g2 g4 hi1.tip hd2 notTip_dfr) (by omega), get_set_ne (frO_get g2 g4 hi1.tip hf2 (notTip_F hF _ _ rfl)) (by omega), get_set_ne (frO_get g2 g4 hi1.tip hown2 hnt) (by omega), get_set_ne (frO_get g2 g4 hi1.tip hln (notTip_cells rfl)) (by omega), get_set_ne (frO_get g2 g4 hi1.tip c2 (notTip_cells rfl)) (by omega), c', hi1.app g1 g2 g3 g4⟩
              · (apply aops_load_bx; exact rfl; (first | exact c0 | exact c1 | exact c2 | exact hln); exact rfl; exact rfl)
                apply aops_nil
                refine az_all [0, 5] (by kernel_rfl) rfl ⟨⟨_, rfl, ?_⟩, ⟨_, rfl, ?_⟩, trivial⟩
                · (apply aops_load_bx; exact rfl; (first | exact c0 | exact c1 | exact c2 | exact hln); exact rfl; exact rfl)
                  apply aops_nil
                  refine az_all [5] (by kernel_rfl) rfl ⟨⟨_, rfl, ?_⟩, trivial⟩
                  (first | (apply aops_appendO (b := st.length + 4) (xs := out.map fun x => Sv x) (ys := [Sv ((text.take a).drop frm)]) (bytes := 16);  exact rfl; exact rfl; exact rfl; exact rfl; exact rfl; exact ⟨⟨_, _, rfl, rfl, rfl, rfl, rfl⟩⟩; exact hi1.tip; (exact hSle); (first | exact rfl | exact allOne_map fun _ => rfl); ((simp [maxLen]; omega)); ((simp; omega)); intro c' S2 t1 g1 g2 g3 g4; replace g2 : Fr S1 S2 t1 := g2; replace g4 : c = .sl 1 (out.map fun x => Sv x) (some t1) ∨ S1.length ≤ t1 := g4) | (apply aops_span (i := frm) (j := a); exact rfl; exact rfl; exact rfl; exact rfl; exact hfa; omega))
                  apply aops_nil
                  refine az_all [6] (by kernel_rfl) rfl ⟨⟨_, rfl, ?_⟩, trivial⟩
                  (apply aops_buildSlice; exact rfl; exact rfl; exact rfl; exact rfl; exact rfl; exact rfl; exact rfl; exact rfl; exact rfl)
                  apply aops_nil
                  refine az_all [7] (by kernel_rfl) rfl ⟨⟨_, rfl, ?_⟩, trivial⟩
                  (first | (apply aops_appendO (b := st.length + 4) (xs := out.map fun x => Sv x) (ys := [Sv ((text.take a).drop frm)]) (bytes := 16);  exact rfl; exact rfl; exact rfl; exact rfl; exact rfl; exact ⟨⟨_, _, rfl, rfl, rfl, rfl, rfl⟩⟩; exact hi1.tip; (exact hSle); (first | exact rfl | exact allOne_map fun _ => rfl); ((simp [maxLen]; omega)); ((simp; omega)); intro c' S2 t1 g1 g2 g3 g4; replace g2 : Fr S1 S2 t1 := g2; replace g4 : c = .sl 1 (out.map fun x => Sv x) (some t1) ∨ S1.length ≤ t1 := g4) | (apply aops_span (i := frm) (j := a); exact rfl; exact rfl; exact rfl; exact rfl; exact hfa; omega))
                  apply aops_nil
                  refine az_all [8] (by kernel_rfl) rfl ⟨⟨_, rfl, ?_⟩, trivial⟩
                  (apply aops_store_at; exact rfl; exact rfl; exact frO_get g2 g4 hi1.tip c1 (notTip_cells rfl); exact rfl; exact tipO_okc g1; exact tipO_cells g1; exact rfl; exact tipO_one g1; exact rfl)
                  apply aops_nil
                  refine az_done (by kernel_rfl) ?_
                  exact ⟨rfl, rfl, rfl, get_set_ne (frO_get g2 g4 hi1.tip hd2 notTip_dfr) (by omega), get_set_ne (frO_get g2 g4 hi1.tip hf2 (notTip_F hF _ _ rfl)) (by omega), get_set_ne (frO_get g2 g4 hi1.tip hown2 hnt) (by omega), get_set_ne (frO_get g2 g4 hi1.tip hln (notTip_cells rfl)) (by omega), get_set_ne (frO_get g2 g4 hi1.tip c2 (notTip_cells rfl)) (by omega), c', hi1.app g1 g2 g3 g4⟩
                · (first | (apply aops_appendO (b := st.length + 4) (xs := out.map fun x => Sv x) (ys := [Sv ((text.take a).drop frm)]) (bytes := 16);  exact rfl; exact rfl; exact rfl; exact rfl; exact rfl; exact ⟨⟨_, _, rfl, rfl, rfl, rfl, rfl⟩⟩; exact hi1.tip; (exact hSle); (first | exact rfl | exact allOne_map fun _ => rfl); ((simp [maxLen]; omega)); ((simp; omega)); intro c' S2 t1 g1 g2 g3 g4; replace g2 : Fr S1 S2 t1 := g2; replace g4 : c = .sl 1 (out.map fun x => Sv x) (some t1) ∨ S1.length ≤ t1 := g4) | (apply aops_span (i := frm) (j := a); exact rfl; exact rfl; exact rfl; exact rfl; exact hfa; omega))
                  apply aops_nil
                  refine az_all [0, 6] (by kernel_rfl) rfl ⟨⟨_, rfl, ?_⟩, ⟨_, rfl, ?_⟩, trivial⟩
                  · (apply aops_load_bx; exact rfl; (first | exact c0 | exact c1 | exact c2 | exact hln); exact rfl; exact rfl)
                    apply aops_nil
                    refine az_all [6] (by kernel_rfl) rfl ⟨⟨_, rfl, ?_⟩, trivial⟩
                    (apply aops_buildSlice; exact rfl; exact rfl; exact rfl; exact rfl; exact rfl; exact rfl; exact rfl; exact rfl; exact rfl)
                    apply aops_nil
                    refine az_all [7] (by kernel_rfl) rfl ⟨⟨_, rfl, ?_⟩, trivial⟩
                    (first | (apply aops_appendO (b := st.length + 4) (xs := out.map fun x => Sv x) (ys := [Sv ((text.take a).drop frm)]) (bytes := 16);  exact rfl; exact rfl; exact rfl; exact rfl; exact rfl; exact ⟨⟨_, _, rfl, rfl, rfl, rfl, rfl⟩⟩; exact hi1.tip; (exact hSle); (first | exact rfl | exact allOne_map fun _ => rfl); ((simp [maxLen]; omega)); ((simp; omega)); intro c' S2 t1 g1 g2 g3 g4; replace g2 : Fr S1 S2 t1 := g2; replace g4 : c = .sl 1 (out.map fun x => Sv x) (some t1) ∨ S1.length ≤ t1 := g4) | (apply aops_span (i := frm) (j := a); exact rfl; exact rfl; exact rfl; exact rfl; exact hfa; omega))
                    apply aops_nil
                    refine az_all [8] (by kernel_rfl) rfl ⟨⟨_, rfl, ?_⟩, trivial⟩
                    (apply aops_store_at; exact rfl; exact rfl; exact frO_get g2 g4 hi1.tip c1 (notTip_cells rfl); exact rfl; exact tipO_okc g1; exact tipO_cells g1; exact rfl; exact tipO_one g1; exact rfl)
                    apply aops_nil
                    refine az_done (by kernel_rfl) ?_
                    exact ⟨rfl, rfl, rfl, get_set_ne (frO_get g2 g4 hi1.tip hd2 notTip_dfr) (by omega), get_set_ne (frO_get g2 g4 hi1.tip hf2 (notTip_F hF _ _ rfl)) (by omega), get_set_ne (frO_get g2 g4 hi1.tip hown2 hnt) (by omega), get_set_ne (frO_get g2 g4 hi1.tip hln (notTip_cells rfl)) (by omega), get_set_ne (frO_get g2 g4 hi1.tip c2 (notTip_cells rfl)) (by omega), c', hi1.app g1 g2 g3 g4⟩
                  · (apply aops_buildSlice; exact rfl; exact rfl; exact rfl; exact rfl; exact rfl; exact rfl; exact rfl; exact rfl; exact rfl)
                    apply aops_nil
                    refine az_all [0] (by kernel_rfl) rfl ⟨⟨_, rfl, ?_⟩, trivial⟩
                    (apply aops_load_bx; exact rfl; (first | exact c0 | exact c1 | exact c2 | exact hln); exact rfl; exact rfl)
                    apply aops_nil
                    refine az_all [7] (by kernel_rfl) rfl ⟨⟨_, rfl, ?_⟩, trivial⟩
                    (first | (apply aops_appendO (b := st.length + 4) (xs := out.map fun x => Sv x) (ys := [Sv ((text.take a).drop frm)]) (bytes := 16);  exact rfl; exact rfl; exact rfl; exact rfl; exact rfl; exact ⟨⟨_, _, rfl, rfl, rfl, rfl, rfl⟩⟩; exact hi1.tip; (exact hSle); (first | exact rfl | exact allOne_map fun _ => rfl); ((simp [maxLen]; omega)); ((simp; omega)); intro c' S2 t1 g1 g2 g3 g4; replace g2 : Fr S1 S2 t1 := g2; replace g4 : c = .sl 1 (out.map fun x => Sv x) (some t1) ∨ S1.length ≤ t1 := g4) | (apply aops_span (i := frm) (j := a); exact rfl; exact rfl; exact rfl; exact rfl; exact hfa; omega))
                    apply aops_nil
                    refine az_all [8] (by kernel_rfl) rfl ⟨⟨_, rfl, ?_⟩, trivial⟩
                    (apply aops_store_at; exact rfl; exact rfl; exact frO_get g2 g4 hi1.tip c1 (notTip_cells rfl); exact rfl; exact tipO_okc g1; exact tipO_cells g1; exact rfl; exact tipO_one g1; exact rfl)
                    apply aops_nil
                    refine az_done (by kernel_rfl) ?_
                    exact ⟨rfl, rfl, rfl, get_set_ne (frO_get g2 g4 hi1.tip hd2 notTip_dfr) (by omega), get_set_ne (frO_get g2 g4 hi1.tip hf2 (notTip_F hF _ _ rfl)) (by omega), get_set_ne (frO_get g2 g4 hi1.tip hown2 hnt) (by omega), get_set_ne (frO_get g2 g4 hi1.tip hln (notTip_cells rfl)) (by omega), get_set_ne (frO_get g2 g4 hi1.tip c2 (notTip_cells rfl)) (by omega), c', hi1.app g1 g2 g3 g4⟩
          · (apply aops_load_bx; exact rfl; (first | exact c0 | exact c1 | exact c2 | exact hln); exact rfl; exact rfl)
            apply aops_nil
            refine az_all [0, 1, 2] (by kernel_rfl) rfl ⟨⟨_, rfl, ?_⟩, ⟨_, rfl, ?_⟩, ⟨_, rfl, ?_⟩, trivial⟩
            · (apply aops_load_bx; exact rfl; (first | exact c0 | exact c1 | exact c2 | exact hln); exact rfl; exact rfl)
              apply aops_nil
              refine az_all [1, 2] (by kernel_rfl) rfl ⟨⟨_, rfl, ?_⟩, ⟨_, rfl, ?_⟩, trivial⟩
              · (apply aops_load_bx; exact rfl; (first | exact c0 | exact c1 | exact c2 | exact hln); exact rfl; exact rfl)
                apply aops_nil
                refine az_all [2] (by kernel_rfl) rfl ⟨⟨_, rfl, ?_⟩, trivial⟩
                (apply aops_load_bx; exact rfl; (first | exact c0 | exact c1 | exact c2 | exact hln); exact rfl; exact rfl)
                apply aops_nil
                refine az_all [5] (by kernel_rfl) rfl ⟨⟨_, rfl, ?_⟩, trivial⟩
                (first | (apply aops_appendO (b := st.length + 4) (xs := out.map fun x => Sv x) (ys := [Sv ((text.take a).drop frm)]) (bytes := 16);  exact rfl; exact rfl; exact rfl; exact rfl; exact rfl; exact ⟨⟨_, _, rfl, rfl, rfl, rfl, rfl⟩⟩; exact hi1.tip; (exact hSle); (first | exact rfl | exact allOne_map fun _ => rfl); ((simp [maxLen]; omega)); ((simp; omega)); intro c' S2 t1 g1 g2 g3 g4; replace g2 : Fr S1 S2 t1 := g2; replace g4 : c = .sl 1 (out.map fun x => Sv x) (some t1) ∨ S1.length ≤ t1 := g4) | (apply aops_span (i := frm) (j := a); exact rfl; exact rfl; exact rfl; exact rfl; exact hfa; omega))
                apply aops_nil
                refine az_all [6] (by kernel_rfl) rfl ⟨⟨_, rfl, ?_⟩, trivial⟩
                (apply aops_buildSlice; exact rfl; exact rfl; exact rfl; exact rfl; exact rfl; exact rfl; exact rfl; exact rfl; exact rfl)
                apply aops_nil
                refine az_all [7] (by kernel_rfl) rfl ⟨⟨_, rfl, ?_⟩, trivial⟩
                (first | (apply aops_appendO (b := st.length + 4) (xs := out.map fun x => Sv x) (ys := [Sv ((text.take a).drop frm)]) (bytes := 16);  exact rfl; exact rfl; exact rfl; exact rfl; exact rfl; exact ⟨⟨_, _, rfl, rfl, rfl, rfl, rfl⟩⟩; exact hi1.tip; (exact hSle); (first | exact rfl | exact allOne_map fun _ => rfl); ((simp [maxLen]; omega)); ((simp; omega)); intro c' S2 t1 g1 g2 g3 g4; replace g2 : Fr S1 S2 t1 := g2; replace g4 : c = .sl 1 (out.map fun x => Sv x) (some t1) ∨ S1.length ≤ t1 := g4) | (apply aops_span (i := frm) (j := a); exact rfl; exact rfl; exact rfl; exact rfl; exact hfa; omega))
                apply aops_nil
                refine az_all [8] (by kernel_rfl) rfl ⟨⟨_, rfl, ?_⟩, trivial⟩
                (apply aops_store_at; exact rfl; exact rfl; exact frO_get g2 g4 hi1.tip c1 (notTip_cells rfl); exact rfl; exact tipO_okc g1; exact tipO_cells g1; exact rfl; exact tipO_one g1; exact rfl)
                apply aops_nil
                refine az_done (by kernel_rfl) ?_
                exact ⟨rfl, rfl, rfl, get_set_ne (frO_get g2 g4 hi1.tip hd2 notTip_dfr) (by omega), get_set_ne (frO_get g2 g4 hi1.tip hf2 (notTip_F hF _ _ rfl)) (by omega), get_set_ne (frO_get g2 g4 hi1.tip hown2 hnt) (by omega), get_set_ne (frO_get g2 g4 hi1.tip hln (notTip_cells rfl)) (by omega), get_set_ne (frO_get g2 g4 hi1.tip c2 (notTip_cells rfl)) (by omega), c', hi1.app g1 g2 g3 g4⟩
              · (apply aops_load_bx; exact rfl; (first | exact c0 | exact c1 | exact c2 | exact hln); exact rfl; exact rfl)
                apply aops_nil
                refine az_all [1] (by kernel_rfl) rfl ⟨⟨_, rfl, ?_⟩, trivial⟩
                (apply aops_load_bx; exact rfl; (first | exact c0 | exact c1 | exact c2 | exact hln); exact rfl; exact rfl)
                apply aops_nil
                refine az_all [5] (by kernel_rfl) rfl ⟨⟨_, rfl, ?_⟩, trivial⟩
                (first | (apply aops_appendO (b := st.length + 4) (xs := out.map fun x => Sv x) (ys := [Sv ((text.take a).drop frm)]) (bytes := 16);  exact rfl; exact rfl; exact rfl; exact rfl; exact rfl; exact ⟨⟨_, _, rfl, rfl, rfl, rfl, rfl⟩⟩; exact hi1.tip; (exact hSle); (first | exact rfl | exact allOne_map fun _ => rfl); ((simp [maxLen]; omega)); ((simp; omega)); intro c' S2 t1 g1 g2 g3 g4; replace g2 : Fr S1 S2 t1 := g2; replace g4 : c = .sl 1 (out.map fun x => Sv x) (some t1) ∨ S1.length ≤ t1 := g4) | (apply aops_span (i := frm) (j := a); exact rfl; exact rfl; exact rfl; exact rfl; exact hfa; omega))
                apply aops_nil
                refine az_all [6] (by kernel_rfl) rfl ⟨⟨_, rfl, ?_⟩, trivial⟩
                (apply aops_buildSlice; exact rfl; exact rfl; exact rfl; exact rfl; exact rfl; exact rfl; exact rfl; exact rfl; exact rfl)
                apply aops_nil
                refine az_all [7] (by kernel_rfl) rfl ⟨⟨_, rfl, ?_⟩, trivial⟩
                (first | (apply aops_appendO (b := st.length + 4) (xs := out.map fun x => Sv x) (ys := [Sv ((text.take a).drop frm)]) (bytes := 16);  exact rfl; exact rfl; exact rfl; exact rfl; exact rfl; exact ⟨⟨_, _, rfl, rfl, rfl, rfl, rfl⟩⟩; exact hi1.tip; (exact hSle); (first | exact rfl | exact allOne_map fun _ => rfl); ((simp [maxLen]; omega)); ((simp; omega)); intro c' S2 t1 g1 g2 g3 g4; replace g2 : Fr S1 S2 t1 := g2; replace g4 : c = .sl 1 (out.map fun x => Sv x) (some t1) ∨ S1.length ≤ t1 := g4) | (apply aops_span (i := frm) (j := a); exact rfl; exact rfl; exact rfl; exact rfl; exact hfa; omega))
                apply aops_nil
                refine az_all [8] (by kernel_rfl) rfl ⟨⟨_, rfl, ?_⟩, trivial⟩
                (apply aops_store_at; exact rfl; exact rfl; exact frO_get g2 g4 hi1.tip c1 (notTip_cells rfl); exact rfl; exact tipO_okc g1; exact tipO_cells g1; exact rfl; exact tipO_one g1; exact rfl)
                apply aops_nil
                refine az_done (by kernel_rfl) ?_
                exact ⟨rfl, rfl, rfl, get_set_ne (frO_get g2 g4 hi1.tip hd2 notTip_dfr) (by omega), get_set_ne (frO_get g2 g4 hi1.tip hf2 (notTip_F hF _ _ rfl)) (by omega), get_set_ne (frO_get g2 g4 hi1.tip hown2 hnt) (by omega), get_set_ne (frO_get g2 g4 hi1.tip hln (notTip_cells rfl)) (by omega), get_set_ne (frO_get g2 g4 hi1.tip c2 (notTip_cells rfl)) (by omega), c', hi1.app g1 g2 g3 g4⟩
            · (apply aops_load_bx; exact rfl; (first | exact c0 | exact c1 | exact c2 | exact hln); exact rfl; exact rfl)
              apply aops_nil
              refine az_all [0, 2] (by kernel_rfl) rfl ⟨⟨_, rfl, ?_⟩, ⟨_, rfl, ?_⟩, trivial⟩
              · (apply aops_load_bx; exact rfl; (first | exact c0 | exact c1 | exact c2 | exact hln); exact rfl; exact rfl)
                apply aops_nil
                refine az_all [2] (by kernel_rfl) rfl ⟨⟨_, rfl, ?_⟩, trivial⟩
                (apply aops_load_bx; exact rfl; (first | exact c0 | exact c1 | exact c2 | exact hln); exact rfl; exact rfl)
                apply aops_nil
                refine az_all [5] (by kernel_rfl) rfl ⟨⟨_, rfl, ?_⟩, trivial⟩
                (first | (apply aops_appendO (b := st.length + 4) (xs := out.map fun x => Sv x) (ys := [Sv ((text.take a).drop frm)]) (bytes := 16);  exact rfl; exact rfl; exact rfl; exact rfl; exact rfl; exact ⟨⟨_, _, rfl, rfl, rfl, rfl, rfl⟩⟩; exact hi1.tip; (exact hSle); (first | exact rfl | exact allOne_map fun _ => rfl); ((simp [maxLen]; omega)); ((simp; omega)); intro c' S2 t1 g1 g2 g3 g4; replace g2 : Fr S1 S2 t1 := g2; replace g4 : c = .sl 1 (out.map fun x => Sv x) (some t1) ∨ S1.length ≤ t1 := g4) | (apply aops_span (i := frm) (j := a); exact rfl; exact rfl; exact rfl; exact rfl; exact hfa; omega))
                apply aops_nil
                refine az_all [6] (by kernel_rfl) rfl ⟨⟨_, rfl, ?_⟩, trivial⟩
                (apply aops_buildSlice; exact rfl; exact rfl; exact rfl; exact rfl; exact rfl; exact rfl; exact rfl; exact rfl; exact rfl)
                apply aops_nil
                refine az_all [7] (by kernel_rfl) rfl ⟨⟨_, rfl, ?_⟩, trivial⟩
                (first | (apply aops_appendO (b := st.length + 4) (xs := out.map fun x => Sv x) (ys := [Sv ((text.take a).drop frm)]) (bytes := 16);  exact rfl; exact rfl; exact rfl; exact rfl; exact rfl; exact ⟨⟨_, _, rfl, rfl, rfl, rfl, rfl⟩⟩; exact hi1.tip; (exact hSle); (first | exact rfl | exact allOne_map fun _ => rfl); ((simp [maxLen]; omega)); ((simp; omega)); intro c' S2 t1 g1 g2 g3 g4; replace g2 : Fr S1 S2 t1 := g2; replace g4 : c = .sl 1 (out.map fun x => Sv x) (some t1) ∨ S1.length ≤ t1 := g4) | (apply aops_span (i := frm) (j := a); exact rfl; exact rfl; exact rfl; exact rfl; exact hfa; omega))
                apply aops_nil
                refine az_all [8] (by kernel_rfl) rfl ⟨⟨_, rfl, ?_⟩, trivial⟩
                (apply aops_store_at; exact rfl; exact rfl; exact frO_get g2 g4 hi1.tip c1 (notTip_cells rfl); exact rfl; exact tipO_okc g1; exact tipO_cells g1; exact rfl; exact tipO_one g1; exact rfl)
                apply aops_nil
                refine az_done (by kernel_rfl) ?_
                exact ⟨rfl, rfl, rfl, get_set_ne (frO_get g2 g4 hi1.tip hd2 notTip_dfr) (by omega), get_set_ne (frO_get g2 g4 hi1.tip hf2 (notTip_F hF _ _ rfl)) (by omega), get_set_ne (frO_get g2 g4 hi1.tip hown2 hnt) (by omega), get_set_ne (frO_get g2 g4 hi1.tip hln (notTip_cells rfl)) (by omega), get_set_ne (frO_get g2 g4 hi1.tip c2 (notTip_cells rfl)) (by omega), c', hi1.app g1 g2 g3 g4⟩
              · (apply aops_load_bx; exact rfl; (first | exact c0 | exact c1 | exact c2 | exact hln); exact rfl; exact rfl)
                apply aops_nil
                refine az_all [0, 5] (by kernel_rfl) rfl ⟨⟨_, rfl, ?_⟩, ⟨_, rfl, ?_⟩, trivial⟩
                · (apply aops_load_bx; exact rfl; (first | exact c0 | exact c1 | exact c2 | exact hln); exact rfl; exact rfl)
                  apply aops_nil
                  refine az_all [5] (by kernel_rfl) rfl ⟨⟨_, rfl, ?_⟩, trivial⟩
                  (first | (apply aops_appendO (b := st.length + 4) (xs := out.map fun x => Sv x) (ys := [Sv ((text.take a).drop frm)]) (bytes := 16);  exact rfl; exact rfl; exact rfl; exact rfl; exact rfl; exact ⟨⟨_, _, rfl, rfl, rfl, rfl, rfl⟩⟩; exact hi1.tip; (exact hSle); (first | exact rfl | exact allOne_map fun _ => rfl); ((simp [maxLen]; omega)); ((simp; omega)); intro c' S2 t1 g1 g2 g3 g4; replace g2 : Fr S1 S2 t1 := g2; replace g4 : c = .sl 1 (out.map fun x => Sv x) (some t1) ∨ S1.length ≤ t1 := g4) | (apply aops_span (i := frm) (j := a); exact rfl; exact rfl; exact rfl; exact rfl; exact hfa; omega))
                  apply aops_nil
                  refine az_all [6] (by kernel_rfl) rfl ⟨⟨_, rfl, ?_⟩, trivial⟩
                  (apply aops_buildSlice; exact rfl; exact rfl; exact rfl; exact rfl; exact rfl; exact rfl; exact rfl; exact rfl; exact rfl)
                  apply aops_nil
                  refine az_all [7] (by kernel_rfl) rfl ⟨⟨_, rfl, ?_⟩, trivial⟩
                  (first | (apply aops_appendO (b := st.length + 4) (xs := out.map fun x => Sv x) (ys := [Sv ((text.take a).drop frm)]) (bytes := 16);  exact rfl; exact rfl; exact rfl; exact rfl; exact rfl; exact ⟨⟨_, _, rfl, rfl, rfl, rfl, rfl⟩⟩; exact hi1.tip; (exact hSle); (first | exact rfl | exact allOne_map fun _ => rfl); ((simp [maxLen]; omega)); ((simp; omega)); intro c' S2 t1 g1 g2 g3 g4; replace g2 : Fr S1 S2 t1 := g2; replace g4 : c = .sl 1 (out.map fun x => Sv x) (some t1) ∨ S1.length ≤ t1 := g4) | (apply aops_span (i := frm) (j := a); exact rfl; exact rfl; exact rfl; exact rfl; exact hfa; omega))
                  apply aops_nil
                  refine az_all [8] (by kernel_rfl) rfl ⟨⟨_, rfl, ?_⟩, trivial⟩
                  (apply aops_store_at; exact rfl; exact rfl; exact frO_get g2 g4 hi1.tip c1 (notTip_cells rfl); exact rfl; exact tipO_okc g1; exact tipO_cells g1; exact rfl; exact tipO_one g1; exact rfl)
                  apply aops_nil
                  refine az_done (by kernel_rfl) ?_
                  exact ⟨rfl, rfl, rfl, get_set_ne (frO_get g2 g4 hi1.tip hd2 notTip_dfr) (by omega), get_set_ne (frO_get g2 g4 hi1.tip hf2 (notTip_F hF _ _ rfl)) (by omega), get_set_ne (frO_get g2 g4 hi1.tip hown2 hnt) (by omega), get_set_ne (frO_get g2 g4 hi1.tip hln (notTip_cells rfl)) (by omega), get_set_ne (frO_get g2 g4 hi1.tip c2 (notTip_cells rfl)) (by omega), c', hi1.app g1 g2 g3 g4⟩
                · (first | (apply aops_appendO (b := st.length + 4) (xs := out.map fun x => Sv x) (ys := [Sv ((text.take a).drop frm)]) (bytes := 16);  exact rfl; exact rfl; exact rfl; exact rfl; exact rfl; exact ⟨⟨_, _, rfl, rfl, rfl, rfl, rfl⟩⟩; exact hi1.tip; (exact hSle); (first | exact rfl | exact allOne_map fun _ => rfl); ((simp [maxLen]; omega)); ((simp; omega)); intro c' S2 t1 g1 g2 g3 g4; replace g2 : Fr S1 S2 t1 := g2; replace g4 : c = .sl 1 (out.map fun x => Sv x) (some t1) ∨ S1.length ≤ t1 := g4) | (apply aops_span (i := frm) (j := a); exact rfl; exact rfl; exact rfl; exact rfl; exact hfa; omega))
                  apply aops_nil
                  refine az_all [0, 6] (by kernel_rfl) rfl ⟨⟨_, rfl, ?_⟩, ⟨_, rfl, ?_⟩, trivial⟩
                  · (apply aops_load_bx; exact rfl; (first | exact c0 | exact c1 | exact c2 | exact hln); exact rfl; exact rfl)
                    apply aops_nil
                    refine az_all [6] (by kernel_rfl) rfl ⟨⟨_, rfl, ?_⟩, trivial⟩
                    (apply aops_buildSlice; exact rfl; exact rfl; exact rfl; exact rfl; exact rfl; exact rfl; exact rfl; exact rfl; exact rfl)
                    apply aops_nil
                    refine az_all [7] (by kernel_rfl) rfl ⟨⟨_, rfl, ?_⟩, trivial⟩
                    (first | (apply aops_appendO (b := st.length + 4) (xs := out.map fun x => Sv x) (ys := [Sv ((text.take a).drop frm)]) (bytes := 16);  exact rfl; exact rfl; exact rfl; exact rfl; exact rfl; exact ⟨⟨_, _, rfl, rfl, rfl, rfl, rfl⟩⟩; exact hi1.tip; (exact hSle); (first | exact rfl | exact allOne_map fun _ => rfl); ((simp [maxLen]; omega)); ((simp; omega)); intro c' S2 t1 g1 g2 g3 g4; replace g2 : Fr S1 S2 t1 := g2; replace g4 : c = .sl 1 (out.map fun x => Sv x) (some t1) ∨ S1.length ≤ t1 := g4) | (apply aops_span (i := frm) (j := a); exact rfl; exact rfl; exact rfl; exact rfl; exact hfa; omega))
                    apply aops_nil
                    refine az_all [8] (by kernel_rfl) rfl ⟨⟨_, rfl, ?_⟩, trivial⟩
                    (apply aops_store_at; exact rfl; exact rfl; exact frO_get g2 g4 hi1.tip c1 (notTip_cells rfl); exact rfl; exact tipO_okc g1; exact tipO_cells g1; exact rfl; exact tipO_one g1; exact rfl)
                    apply aops_nil
                    refine az_done (by kernel_rfl) ?_
                    exact ⟨rfl, rfl, rfl, get_set_ne (frO_get g2 g4 hi1.tip hd2 notTip_dfr) (by omega), get_set_ne (frO_get g2 g4 hi1.tip hf2 (notTip_F hF _ _ rfl)) (by omega), get_set_ne (frO_get g2 g4 hi1.tip hown2 hnt) (by omega), get_set_ne (frO_get g2 g4 hi1.tip hln (notTip_cells rfl)) (by omega), get_set_ne (frO_get g2 g4 hi1.tip c2 (notTip_cells rfl)) (by omega), c', hi1.app g1 g2 g3 g4⟩
                  · (apply aops_buildSlice; exact rfl; exact rfl; exact rfl; exact rfl; exact rfl; exact rfl; exact rfl; exact rfl; exact rfl)
                    apply aops_nil
                    refine az_all [0] (by kernel_rfl) rfl ⟨⟨_, rfl, ?_⟩, trivial⟩
                    (apply aops_load_bx; exact rfl; (first | exact c0 | exact c1 | exact c2 | exact hln); exact rfl; exact rfl)
                    apply aops_nil
                    refine az_all [7] (by kernel_rfl) rfl ⟨⟨_, rfl, ?_⟩, trivial⟩
                    (first | (apply aops_appendO (b := st.length + 4) (xs := out.map fun x => Sv x) (ys := [Sv ((text.take a).drop frm)]) (bytes := 16);  exact rfl; exact rfl; exact rfl; exact rfl; exact rfl; exact ⟨⟨_, _, rfl, rfl, rfl, rfl, rfl⟩⟩; exact hi1.tip; (exact hSle); (first | exact rfl | exact allOne_map fun _ => rfl); ((simp [maxLen]; omega)); ((simp; omega)); intro c' S2 t1 g1 g2 g3 g4; replace g2 : Fr S1 S2 t1 := g2; replace g4 : c = .sl 1 (out.map fun x => Sv x) (some t1) ∨ S1.length ≤ t1 := g4) | (apply aops_span (i := frm) (j := a); exact rfl; exact rfl; exact rfl; exact rfl; exact hfa; omega))
                    apply aops_nil
                    refine az_all [8] (by kernel_rfl) rfl ⟨⟨_, rfl, ?_⟩, trivial⟩
                    (apply aops_store_at; exact rfl; exact rfl; exact frO_get g2 g4 hi1.tip c1 (notTip_cells rfl); exact rfl; exact tipO_okc g1; exact tipO_cells g1; exact rfl; exact tipO_one g1; exact rfl)
                    apply aops_nil
                    refine az_done (by kernel_rfl) ?_
                    exact ⟨rfl, rfl, rfl, get_set_ne (frO_get g2 g4 hi1.tip hd2 notTip_dfr) (by omega), get_set_ne (frO_get g2 g4 hi1.tip hf2 (notTip_F hF _ _ rfl)) (by omega), get_set_ne (frO_get g2 g4 hi1.tip hown2 hnt) (by omega), get_set_ne (frO_get g2 g4 hi1.tip hln (notTip_cells rfl)) (by omega), get_set_ne (frO_get g2 g4 hi1.tip c2 (notTip_cells rfl)) (by omega), c', hi1.app g1 g2 g3 g4⟩
            · (apply aops_load_bx; exact rfl; (first | exact c0 | exact c1 | exact c2 | exact hln); exact rfl; exact rfl)
              apply aops_nil
              refine az_all [0, 1] (by kernel_rfl) rfl ⟨⟨_, rfl, ?_⟩, ⟨_, rfl, ?_⟩, trivial⟩
              · (apply aops_load_bx; exact rfl; (first | exact c0 | exact c1 | exact c2 | exact hln); exact rfl; exact rfl)
                apply aops_nil
                refine az_all [1] (by kernel_rfl) rfl ⟨⟨_, rfl, ?_⟩, trivial⟩
                (apply aops_load_bx; exact rfl; (first | exact c0 | exact c1 | exact c2 | exact hln); exact rfl; exact rfl)
                apply aops_nil
                refine az_all [5] (by kernel_rfl) rfl ⟨⟨_, rfl, ?_⟩, trivial⟩
                (first | (apply aops_appendO (b := st.length + 4) (xs := out.map fun x => Sv x) (ys := [Sv ((text.take a).drop frm)]) (bytes := 16);  exact rfl; exact rfl; exact rfl; exact rfl; exact rfl; exact ⟨⟨_, _, rfl, rfl, rfl, rfl, rfl⟩⟩; exact hi1.tip; (exact hSle); (first | exact rfl | exact allOne_map fun _ => rfl); ((simp [maxLen]; omega)); ((simp; omega)); intro c' S2 t1 g1 g2 g3 g4; replace g2 : Fr S1 S2 t1 := g2; replace g4 : c = .sl 1 (out.map fun x => Sv x) (some t1) ∨ S1.length ≤ t1 := g4) | (apply aops_span (i := frm) (j := a); exact rfl; exact rfl; exact rfl; exact rfl; exact hfa; omega))
                apply aops_nil
                refine az_all [6] (by kernel_rfl) rfl ⟨⟨_, rfl, ?_⟩, trivial⟩
                (apply aops_buildSlice; exact rfl; exact rfl; exact rfl; exact rfl; exact rfl; exact rfl; exact rfl; exact rfl; exact rfl)
                apply aops_nil
                refine az_all [7] (by kernel_rfl) rfl ⟨⟨_, rfl, ?_⟩, trivial⟩
                (first | (apply aops_appendO (b := st.length + 4) (xs := out.map fun x => Sv x) (ys := [Sv ((text.take a).drop frm)]) (bytes := 16);  exact rfl; exact rfl; exact rfl; exact rfl; exact rfl; exact ⟨⟨_, _, rfl, rfl, rfl, rfl, rfl⟩⟩; exact hi1.tip; (exact hSle); (first | exact rfl | exact allOne_map fun _ => rfl); ((simp [maxLen]; omega)); ((simp; omega)); intro c' S2 t1 g1 g2 g3 g4; replace g2 : Fr S1 S2 t1 := g2; replace g4 : c = .sl 1 (out.map fun x => Sv x) (some t1) ∨ S1.length ≤ t1 := g4) | (apply aops_span (i := frm) (j := a); exact rfl; exact rfl; exact rfl; exact rfl; exact hfa; omega))
                apply aops_nil
                refine az_all [8] (by kernel_rfl) rfl ⟨⟨_, rfl, ?_⟩, trivial⟩
                (apply aops_store_at; exact rfl; exact rfl; exact frO_get g2 g4 hi1.tip c1 (notTip_cells rfl); exact rfl; exact tipO_okc g1; exact tipO_cells g1; exact rfl; exact tipO_one g1; exact rfl)
                apply aops_nil
                refine az_done (by kernel_rfl) ?_
                exact ⟨rfl, rfl, rfl, get_set_ne (frO_get g2 g4 hi1.tip hd2 notTip_dfr) (by omega), get_set_ne (frO_get g2 g4 hi1.tip hf2 (notTip_F hF _ _ rfl)) (by omega), get_set_ne (frO_get g2 g4 hi1.tip hown2 hnt) (by omega), get_set_ne (frO_get g2 g4 hi1.tip hln (notTip_cells rfl)) (by omega), get_set_ne (frO_get g2 g4 hi1.tip c2 (notTip_cells rfl)) (by omega), c', hi1.app g1 g2 g3 g4⟩
              · (apply aops_load_bx; exact rfl; (first | exact c0 | exact c1 | exact c2 | exact hln); exact rfl; exact rfl)
                apply aops_nil
                refine az_all [0, 5] (by kernel_rfl) rfl ⟨⟨_, rfl, ?_⟩, ⟨_, rfl, ?_⟩, trivial⟩
                · (apply aops_load_bx; exact rfl; (first | exact c0 | exact c1 | exact c2 | exact hln); exact rfl; exact rfl)
                  apply aops_nil
                  refine az_all [5] (by kernel_rfl) rfl ⟨⟨_, rfl, ?_⟩, trivial⟩
                  (first | (apply aops_appendO (b := st.length + 4) (xs := out.map fun x => Sv x) (ys := [Sv ((text.take a).drop frm)]) (bytes := 16);  exact rfl; exact rfl; exact rfl; exact rfl; exact rfl; exact ⟨⟨_, _, rfl, rfl, rfl, rfl, rfl⟩⟩; exact hi1.tip; (exact hSle); (first | exact rfl | exact allOne_map fun _ => rfl); ((simp [maxLen]; omega)); ((simp; omega)); intro c' S2 t1 g1 g2 g3 g4; replace g2 : Fr S1 S2 t1 := g2; replace g4 : c = .sl 1 (out.map fun x => Sv x) (some t1) ∨ S1.length ≤ t1 := g4) | (apply aops_span (i := frm) (j := a); exact rfl; exact rfl; exact rfl; exact rfl; exact hfa; omega))
                  apply aops_nil
                  refine az_all [6] (by kernel_rfl) rfl ⟨⟨_, rfl, ?_⟩, trivial⟩
                  (apply aops_buildSlice; exact rfl; exact rfl; exact rfl; exact rfl; exact rfl; exact rfl; exact rfl; exact rfl; exact rfl)
                  apply aops_nil
                  refine az_all [7] (by kernel_rfl) rfl ⟨⟨_, rfl, ?_⟩, trivial⟩
                  (first | (apply aops_appendO (b := st.length + 4) (xs := out.map fun x => Sv x) (ys := [Sv ((text.take a).drop frm)]) (bytes := 16);  exact rfl; exact rfl; exact rfl; exact rfl; exact rfl; exact ⟨⟨_, _, rfl, rfl, rfl, rfl, rfl⟩⟩; exact hi1.tip; (exact hSle); (first | exact rfl | exact allOne_map fun _ => rfl); ((simp [maxLen]; omega)); ((simp; omega)); intro c' S2 t1 g1 g2 g3 g4; replace g2 : Fr S1 S2 t1 := g2; replace g4 : c = .sl 1 (out.map fun x => Sv x) (some t1) ∨ S1.length ≤ t1 := g4) | (apply aops_span (i := frm) (j := a); exact rfl; exact rfl; exact rfl; exact rfl; exact hfa; omega))
                  apply aops_nil
                  refine az_all [8] (by kernel_rfl) rfl ⟨⟨_, rfl, ?_⟩, trivial⟩
                  (apply aops_store_at; exact rfl; exact rfl; exact frO_get g2 g4 hi1.tip c1 (notTip_cells rfl); exact rfl; exact tipO_okc g1; exact tipO_cells g1; exact rfl; exact tipO_one g1; exact rfl)
                  apply aops_nil
                  refine az_done (by kernel_rfl) ?_
                  exact ⟨rfl, rfl, rfl, get_set_ne (frO_get g2 g4 hi1.tip hd2 notTip_dfr) (by omega), get_set_ne (frO_get g2 g4 hi1.tip hf2 (notTip_F hF _ _ rfl)) (by omega), get_set_ne (frO_get g2 g4 hi1.tip hown2 hnt) (by omega), get_set_ne (frO_get g2 g4 hi1.tip hln (notTip_cells rfl)) (by omega), get_set_ne (frO_get g2 g4 hi1.tip c2 (notTip_cells rfl)) (by omega), c', hi1.app g1 g2 g3 g4⟩
                · (first | (apply aops_appendO (b := st.length + 4) (xs := out.map fun x => Sv x) (ys := [Sv ((text.take a).drop frm)]) (bytes := 16);  exact rfl; exact rfl; exact rfl; exact rfl; exact rfl; exact ⟨⟨_, _, rfl, rfl, rfl, rfl, rfl⟩⟩; exact hi1.tip; (exact hSle); (first | exact rfl | exact allOne_map fun _ => rfl); ((simp [maxLen]; omega)); ((simp; omega)); intro c' S2 t1 g1 g2 g3 g4; replace g2 : Fr S1 S2 t1 := g2; replace g4 : c = .sl 1 (out.map fun x => Sv x) (some t1) ∨ S1.length ≤ t1 := g4) | (apply aops_span (i := frm) (j := a); exact rfl; exact rfl; exact rfl; exact rfl; exact hfa; omega))
                  apply aops_nil
                  refine az_all [0, 6] (by kernel_rfl) rfl ⟨⟨_, rfl, ?_⟩, ⟨_, rfl, ?_⟩, trivial⟩
                  · (apply aops_load_bx; exact rfl; (first | exact c0 | exact c1 | exact c2 | exact hln); exact rfl; exact rfl)
                    apply aops_nil
                    refine az_all [6] (by kernel_rfl) rfl ⟨⟨_, rfl, ?_⟩, trivial⟩
                    (apply aops_buildSlice; exact rfl; exact rfl; exact rfl; exact rfl; exact rfl; exact rfl; exact rfl; exact rfl; exact rfl)
                    apply aops_nil
                    refine az_all [7] (by kernel_rfl) rfl ⟨⟨_, rfl, ?_⟩, trivial⟩
                    (first | (apply aops_appendO (b := st.length + 4) (xs := out.map fun x => Sv x) (ys := [Sv ((text.take a).drop frm)]) (bytes := 16);  exact rfl; exact rfl; exact rfl; exact rfl; exact rfl; exact ⟨⟨_, _, rfl, rfl, rfl, rfl, rfl⟩⟩; exact hi1.tip; (exact hSle); (first | exact rfl | exact allOne_map fun _ => rfl); ((simp [maxLen]; omega)); ((simp; omega)); intro c' S2 t1 g1 g2 g3 g4; replace g2 : Fr S1 S2 t1 := g2; replace g4 : c = .sl 1 (out.map fun x => Sv x) (some t1) ∨ S1.length ≤ t1 := g4) | (apply aops_span (i := frm) (j := a); exact rfl; exact rfl; exact rfl; exact rfl; exact hfa; omega))
                    apply aops_nil
                    refine az_all [8] (by kernel_rfl) rfl ⟨⟨_, rfl, ?_⟩, trivial⟩
                    (apply aops_store_at; exact rfl; exact rfl; exact frO_get g2 g4 hi1.tip c1 (notTip_cells rfl); exact rfl; exact tipO_okc g1; exact tipO_cells g1; exact rfl; exact tipO_one g1; exact rfl)
                    apply aops_nil
                    refine az_done (by kernel_rfl) ?_
                    exact ⟨rfl, rfl, rfl, get_set_ne (frO_get g2 g4 hi1.tip hd2 notTip_dfr) (by omega), get_set_ne (frO_get g2 g4 hi1.tip hf2 (notTip_F hF _ _ rfl)) (by omega), get_set_ne (frO_get g2 g4 hi1.tip hown2 hnt) (by omega), get_set_ne (frO_get g2 g4 hi1.tip hln (notTip_cells rfl)) (by omega), get_set_ne (frO_get g2 g4 hi1.tip c2 (notTip_cells rfl)) (by omega), c', hi1.app g1 g2 g3 g4⟩
                  · (apply aops_buildSlice; exact rfl; exact rfl; exact rfl; exact rfl; exact rfl; exact rfl; exact rfl; exact rfl; exact rfl)
                    apply aops_nil
                    refine az_all [0] (by kernel_rfl) rfl ⟨⟨_, rfl, ?_⟩, trivial⟩
                    (apply aops_load_bx; exact rfl; (first | exact c0 | exact c1 | exact c2 | exact hln); exact rfl; exact rfl)
                    apply aops_nil
                    refine az_all [7] (by kernel_rfl) rfl ⟨⟨_, rfl, ?_⟩, trivial⟩
                    (first | (apply aops_appendO (b := st.length + 4) (xs := out.map fun x => Sv x) (ys := [Sv ((text.take a).drop frm)]) (bytes := 16);  exact rfl; exact rfl; exact rfl; exact rfl; exact rfl; exact ⟨⟨_, _, rfl, rfl, rfl, rfl, rfl⟩⟩; exact hi1.tip; (exact hSle); (first | exact rfl | exact allOne_map fun _ => rfl); ((simp [maxLen]; omega)); ((simp; omega)); intro c' S2 t1 g1 g2 g3 g4; replace g2 : Fr S1 S2 t1 := g2; replace g4 : c = .sl 1 (out.map fun x => Sv x) (some t1) ∨ S1.length ≤ t1 := g4) | (apply aops_span (i := frm) (j := a); exact rfl; exact rfl; exact rfl; exact rfl; exact hfa; omega))
                    apply aops_nil
                    refine az_all [8] (by kernel_rfl) rfl ⟨⟨_, rfl, ?_⟩, trivial⟩
                    (apply aops_store_at; exact rfl; exact rfl; exact frO_get g2 g4 hi1.tip c1 (notTip_cells rfl); exact rfl; exact tipO_okc g1; exact tipO_cells g1; exact rfl; exact tipO_one g1; exact rfl)
                    apply aops_nil
                    refine az_done (by kernel_rfl) ?_
                    exact ⟨rfl, rfl, rfl, get_set_ne (frO_get g2 g4 hi1.tip hd2 notTip_dfr) (by omega), get_set_ne (frO_get g2 g4 hi1.tip hf2 (notTip_F hF _ _ rfl)) (by omega), get_set_ne (frO_get g2 g4 hi1.tip hown2 hnt) (by omega), get_set_ne (frO_get g2 g4 hi1.tip hln (notTip_cells rfl)) (by omega), get_set_ne (frO_get g2 g4 hi1.tip c2 (notTip_cells rfl)) (by omega), c', hi1.app g1 g2 g3 g4⟩
        · rintro ⟨t2, S3, df2⟩ ⟨q4, q5, qd, k1, k2, k3, k4, k5, c', hi3⟩
          simp only at q4 q5 qd k1 k2 k3 k4 k5 hi3
          subst qd
          have ht2 : t2 = puts t2 [(4, .bx (st.length + 2) 0 0), (5, .bx S.length 0 0)] := (puts_of (L := [(4, .bx (st.length + 2) 0 0), (5, .bx S.length 0 0)]) ⟨q4, q5, trivial⟩).symm
          rw [ht2]
          repeat' (first
            | apply awp_region
            | apply aops_nil
            | (apply aops_fieldAddr_bx; exact rfl; exact rfl; exact rfl)
            | (apply aops_load_bx; exact rfl; (focus first | assumption | (repeat' (first | assumption | exact get_end | exact get_loc rfl | apply get_set | apply get_set_ne | omega | apply get_pre'))); exact rfl; exact rfl)
            | (apply aops_store_at; exact rfl; exact rfl; (focus first | assumption | (repeat' (first | assumption | exact get_end | exact get_loc rfl | apply get_set | apply get_set_ne | omega | apply get_pre'))); exact rfl; exact rfl; exact rfl; exact rfl; exact rfl; exact rfl))
          exact ⟨get_set_ne k1 (by omega), get_set_ne k2 (by omega), get_set_ne k3 (by omega), hnext _ _ a c' hi3 (Nat.le_refl _) (by simp; omega) (by rw [← htx, List.append_assoc]; exact hrun)⟩
    · have hrun2 : partsL text (⟨k, a, tx, decide (10 ∈ rest)⟩ :: lnsFrom (k + 1) (a + tx.length + 1) (past 10 rest)) frm = partsL text (lnsFrom (k + 1) (a + tx.length + 1) (past 10 rest)) frm := if_neg fun h => hgt h.1
      rw [hrun2] at hrun
      repeat' (first
        | apply awp_seq
        | apply awp_block
        | apply awp_region
        | apply aops_nil
        | apply aops_move
        | (apply aops_cmpI; exact rfl; exact rfl; exact rfl)
        | (apply aops_guard_any; exact rfl; exact rfl; exact rfl; exact rfl)
        | (apply gd_skip_n; (first | assumption | omega))
        | (apply aops_pick_any; exact rfl; first | (apply pk_dt; (first | assumption | omega)) | (apply pk_df; (first | assumption | omega)) | (apply pk_nt; (first | exact rfl | assumption)) | (apply pk_nf; (first | exact rfl | assumption)) | (apply pk_t; (first | exact rfl | assumption)) | (apply pk_f; (first | exact rfl | assumption)))
        | (apply awp_cond_any; exact rfl; first | (apply cd_dt; (first | assumption | omega)) | (apply cd_df; (first | assumption | omega)) | (apply cd_nt; (first | exact rfl | assumption)) | (apply cd_nf; (first | exact rfl | assumption)) | (apply cd_n <;> intro h) | (apply cd_t; (first | exact rfl | assumption)) | (apply cd_f; (first | exact rfl | assumption)) | (apply cd_d <;> intro h) | (apply cd_s <;> intro h))
        | (apply aops_fieldAddr_bx; exact rfl; exact rfl; exact rfl)
        | apply awp_skip
        | (apply aops_load_bx; exact rfl; (focus first | assumption | (repeat' (first | assumption | exact get_end | exact get_loc rfl | apply get_set | apply get_set_ne | omega | apply get_pre'))); exact rfl; exact rfl))
      exact ⟨hd2, hf2, hown2, hnext S1 out frm c hi1 hfa (by omega) (by rw [← htx]; exact hrun)⟩
  · rintro k S ⟨out, frm, c, a, hi, ha, hfa, hok, hka, hrun⟩ hd1
    rw [lns_nil] at hrun
    rw [hSl] at hd1 ⊢
    have c0 := hi.c0
    have c1 := hi.c1
    have c2 := hi.c2
    have hlen := lt_of_getElem? hd1
    simp only [List.length_nil] at ha
    have hSle : st.length + 4 ≤ S.length := by omega
    have hmo : (out.map fun x => Sv x).length = out.length := by simp
    have hrun3 : out ++ [text.drop frm] = partsE text := hrun
    repeat' (first
      | apply awp_seq)
    refine awp_cut (fun s => s.df = [st.length + 4] ∧ s.st[st.length + 4]? = some .dfr ∧ (∀ j, j < st.length → s.st[j]? = st[j]?) ∧ ∃ c', s.t 2 = c' ∧ TipO (st.length + 4) s.st 1 9 ((partsE text).map fun x => Sv x) c') ?_ ?_
    · refine awp_drawZ rfl rfl ?_
      refine az_all [0, 1, 2] (by kernel_rfl) rfl ⟨⟨_, rfl, ?_⟩, ⟨_, rfl, ?_⟩, ⟨_, rfl, ?_⟩, trivial⟩
      · (apply aops_load_bx; exact rfl; (first | exact c0 | exact c1 | exact c2); exact rfl; exact rfl)
        apply aops_nil
        refine az_all [1, 2] (by kernel_rfl) rfl ⟨⟨_, rfl, ?_⟩, ⟨_, rfl, ?_⟩, trivial⟩
        · (apply aops_load_bx; exact rfl; (first | exact c0 | exact c1 | exact c2); exact rfl; exact rfl)
          apply aops_nil
          refine az_all [2] (by kernel_rfl) rfl ⟨⟨_, rfl, ?_⟩, trivial⟩
          (apply aops_load_bx; exact rfl; (first | exact c0 | exact c1 | exact c2); exact rfl; exact rfl)
          apply aops_nil
          refine az_all [3] (by kernel_rfl) rfl ⟨⟨_, rfl, ?_⟩, trivial⟩
          (first | (apply aops_appendO (b := st.length + 4) (xs := out.map fun x => Sv x) (ys := [Sv (text.drop frm)]) (bytes := 16);  exact rfl; exact rfl; exact rfl; exact rfl; exact rfl; exact ⟨⟨_, _, rfl, rfl, rfl, rfl, rfl⟩⟩; exact hi.tip; (exact hSle); (first | exact rfl | exact allOne_map fun _ => rfl); ((simp [maxLen]; omega)); ((simp; omega)); intro c' S2 t1 g1 g2 g3 g4; replace g2 : Fr S S2 t1 := g2; replace g4 : c = .sl 1 (out.map fun x => Sv x) (some t1) ∨ S.length ≤ t1 := g4) | (apply aops_from (i := frm); exact rfl; exact rfl; exact rfl; omega))
          apply aops_nil
          refine az_all [4] (by kernel_rfl) rfl ⟨⟨_, rfl, ?_⟩, trivial⟩
          (apply aops_buildSlice; exact rfl; exact rfl; exact rfl; exact rfl; exact rfl; exact rfl; exact rfl; exact rfl; exact rfl)
          apply aops_nil
          refine az_all [5] (by kernel_rfl) rfl ⟨⟨_, rfl, ?_⟩, trivial⟩
          (first | (apply aops_appendO (b := st.length + 4) (xs := out.map fun x => Sv x) (ys := [Sv (text.drop frm)]) (bytes := 16);  exact rfl; exact rfl; exact rfl; exact rfl; exact rfl; exact ⟨⟨_, _, rfl, rfl, rfl, rfl, rfl⟩⟩; exact hi.tip; (exact hSle); (first | exact rfl | exact allOne_map fun _ => rfl); ((simp [maxLen]; omega)); ((simp; omega)); intro c' S2 t1 g1 g2 g3 g4; replace g2 : Fr S S2 t1 := g2; replace g4 : c = .sl 1 (out.map fun x => Sv x) (some t1) ∨ S.length ≤ t1 := g4) | (apply aops_from (i := frm); exact rfl; exact rfl; exact rfl; omega))
          apply aops_nil
          (apply az_take 6; exact rfl; kernel_rfl; kernel_rfl; kernel_rfl; exact rfl; exact ay_assign)
          refine az_done (by kernel_rfl) ?_
          exact ⟨rfl, frO_get g2 g4 hi.tip hd1 notTip_dfr, fr_low (S := S) g2 (by omega) (by omega) hi.low, c', rfl, by rw [← hrun3, map_snoc (fun x => Sv x)]; exact g1⟩
        · (apply aops_load_bx; exact rfl; (first | exact c0 | exact c1 | exact c2); exact rfl; exact rfl)
          apply aops_nil
          refine az_all [1] (by kernel_rfl) rfl ⟨⟨_, rfl, ?_⟩, trivial⟩
          (apply aops_load_bx; exact rfl; (first | exact c0 | exact c1 | exact c2); exact rfl; exact rfl)
          apply aops_nil
          refine az_all [3] (by kernel_rfl) rfl ⟨⟨_, rfl, ?_⟩, trivial⟩
          (first | (apply aops_appendO (b := st.length + 4) (xs := out.map fun x => Sv x) (ys := [Sv (text.drop frm)]) (bytes := 16);  exact rfl; exact rfl; exact rfl; exact rfl; exact rfl; exact ⟨⟨_, _, rfl, rfl, rfl, rfl, rfl⟩⟩; exact hi.tip; (exact hSle); (first | exact rfl | exact allOne_map fun _ => rfl); ((simp [maxLen]; omega)); ((simp; omega)); intro c' S2 t1 g1 g2 g3 g4; replace g2 : Fr S S2 t1 := g2; replace g4 : c = .sl 1 (out.map fun x => Sv x) (some t1) ∨ S.length ≤ t1 := g4) | (apply aops_from (i := frm); exact rfl; exact rfl; exact rfl; omega))
          apply aops_nil
          refine az_all [4] (by kernel_rfl) rfl ⟨⟨_, rfl, ?_⟩, trivial⟩
          (apply aops_buildSlice; exact rfl; exact rfl; exact rfl; exact rfl; exact rfl; exact rfl; exact rfl; exact rfl; exact rfl)
          apply aops_nil
          refine az_all [5] (by kernel_rfl) rfl ⟨⟨_, rfl, ?_⟩, trivial⟩
          (first | (apply aops_appendO (b := st.length + 4) (xs := out.map fun x => Sv x) (ys := [Sv (text.drop frm)]) (bytes := 16);  exact rfl; exact rfl; exact rfl; exact rfl; exact rfl; exact ⟨⟨_, _, rfl, rfl, rfl, rfl, rfl⟩⟩; exact hi.tip; (exact hSle); (first | exact rfl | exact allOne_map fun _ => rfl); ((simp [maxLen]; omega)); ((simp; omega)); intro c' S2 t1 g1 g2 g3 g4; replace g2 : Fr S S2 t1 := g2; replace g4 : c = .sl 1 (out.map fun x => Sv x) (some t1) ∨ S.length ≤ t1 := g4) | (apply aops_from (i := frm); exact rfl; exact rfl; exact rfl; omega))
          apply aops_nil
          (apply az_take 6; exact rfl; kernel_rfl; kernel_rfl; kernel_rfl; exact rfl; exact ay_assign)
          refine az_done (by kernel_rfl) ?_
          exact ⟨rfl, frO_get g2 g4 hi.tip hd1 notTip_dfr, fr_low (S := S) g2 (by omega) (by omega) hi.low, c', rfl, by rw [← hrun3, map_snoc (fun x => Sv x)]; exact g1⟩
      · (apply aops_load_bx; exact rfl; (first | exact c0 | exact c1 | exact c2); exact rfl; exact rfl)
        apply aops_nil
        refine az_all [0, 2] (by kernel_rfl) rfl ⟨⟨_, rfl, ?_⟩, ⟨_, rfl, ?_⟩, trivial⟩
        · (apply aops_load_bx; exact rfl; (first | exact c0 | exact c1 | exact c2); exact rfl; exact rfl)
          apply aops_nil
          refine az_all [2] (by kernel_rfl) rfl ⟨⟨_, rfl, ?_⟩, trivial⟩
          (apply aops_load_bx; exact rfl; (first | exact c0 | exact c1 | exact c2); exact rfl; exact rfl)
          apply aops_nil
          refine az_all [3] (by kernel_rfl) rfl ⟨⟨_, rfl, ?_⟩, trivial⟩
          (first | (apply aops_appendO (b := st.length + 4) (xs := out.map fun x => Sv x) (ys := [Sv (text.drop frm)]) (bytes := 16);  exact rfl; exact rfl; exact rfl; exact rfl; exact rfl; exact ⟨⟨_, _, rfl, rfl, rfl, rfl, rfl⟩⟩; exact hi.tip; (exact hSle); (first | exact rfl | exact allOne_map fun _ => rfl); ((simp [maxLen]; omega)); ((simp; omega)); intro c' S2 t1 g1 g2 g3 g4; replace g2 : Fr S S2 t1 := g2; replace g4 : c = .sl 1 (out.map fun x => Sv x) (some t1) ∨ S.length ≤ t1 := g4) | (apply aops_from (i := frm); exact rfl; exact rfl; exact rfl; omega))
          apply aops_nil
          refine az_all [4] (by kernel_rfl) rfl ⟨⟨_, rfl, ?_⟩, trivial⟩
          (apply aops_buildSlice; exact rfl; exact rfl; exact rfl; exact rfl; exact rfl; exact rfl; exact rfl; exact rfl; exact rfl)
          apply aops_nil
          refine az_all [5] (by kernel_rfl) rfl ⟨⟨_, rfl, ?_⟩, trivial⟩
          (first | (apply aops_appendO (b := st.length + 4) (xs := out.map fun x => Sv x) (ys := [Sv (text.drop frm)]) (bytes := 16);  exact rfl; exact rfl; exact rfl; exact rfl; exact rfl; exact ⟨⟨_, _, rfl, rfl, rfl, rfl, rfl⟩⟩; exact hi.tip; (exact hSle); (first | exact rfl | exact allOne_map fun _ => rfl); ((simp [maxLen]; omega)); ((simp; omega)); intro c' S2 t1 g1 g2 g3 g4; replace g2 : Fr S S2 t1 := g2; replace g4 : c = .sl 1 (out.map fun x => Sv x) (some t1) ∨ S.length ≤ t1 := g4) | (apply aops_from (i := frm); exact rfl; exact rfl; exact rfl; omega))
          apply aops_nil
          (apply az_take 6; exact rfl; kernel_rfl; kernel_rfl; kernel_rfl; exact rfl; exact ay_assign)
          refine az_done (by kernel_rfl) ?_
          exact ⟨rfl, frO_get g2 g4 hi.tip hd1 notTip_dfr, fr_low (S := S) g2 (by omega) (by omega) hi.low, c', rfl, by rw [← hrun3, map_snoc (fun x => Sv x)]; exact g1⟩
        · (apply aops_load_bx; exact rfl; (first | exact c0 | exact c1 | exact c2); exact rfl; exact rfl)
          apply aops_nil
          refine az_all [0, 3] (by kernel_rfl) rfl ⟨⟨_, rfl, ?_⟩, ⟨_, rfl, ?_⟩, trivial⟩
          · (apply aops_load_bx; exact rfl; (first | exact c0 | exact c1 | exact c2); exact rfl; exact rfl)
            apply aops_nil
            refine az_all [3] (by kernel_rfl) rfl ⟨⟨_, rfl, ?_⟩, trivial⟩
            (first | (apply aops_appendO (b := st.length + 4) (xs := out.map fun x => Sv x) (ys := [Sv (text.drop frm)]) (bytes := 16);  exact rfl; exact rfl; exact rfl; exact rfl; exact rfl; exact ⟨⟨_, _, rfl, rfl, rfl, rfl, rfl⟩⟩; exact hi.tip; (exact hSle); (first | exact rfl | exact allOne_map fun _ => rfl); ((simp [maxLen]; omega)); ((simp; omega)); intro c' S2 t1 g1 g2 g3 g4; replace g2 : Fr S S2 t1 := g2; replace g4 : c = .sl 1 (out.map fun x => Sv x) (some t1) ∨ S.length ≤ t1 := g4) | (apply aops_from (i := frm); exact rfl; exact rfl; exact rfl; omega))
            apply aops_nil
            refine az_all [4] (by kernel_rfl) rfl ⟨⟨_, rfl, ?_⟩, trivial⟩
            (apply aops_buildSlice; exact rfl; exact rfl; exact rfl; exact rfl; exact rfl; exact rfl; exact rfl; exact rfl; exact rfl)
            apply aops_nil
            refine az_all [5] (by kernel_rfl) rfl ⟨⟨_, rfl, ?_⟩, trivial⟩
            (first | (apply aops_appendO (b := st.length + 4) (xs := out.map fun x => Sv x) (ys := [Sv (text.drop frm)]) (bytes := 16);  exact rfl; exact rfl; exact rfl; exact rfl; exact rfl; exact ⟨⟨_, _, rfl, rfl, rfl, rfl, rfl⟩⟩; exact hi.tip; (exact hSle); (first | exact rfl | exact allOne_map fun _ => rfl); ((simp [maxLen]; omega)); ((simp; omega)); intro c' S2 t1 g1 g2 g3 g4; replace g2 : Fr S S2 t1 := g2; replace g4 : c = .sl 1 (out.map fun x => Sv x) (some t1) ∨ S.length ≤ t1 := g4) | (apply aops_from (i := frm); exact rfl; exact rfl; exact rfl; omega))
            apply aops_nil
            (apply az_take 6; exact rfl; kernel_rfl; kernel_rfl; kernel_rfl; exact rfl; exact ay_assign)
            refine az_done (by kernel_rfl) ?_
            exact ⟨rfl, frO_get g2 g4 hi.tip hd1 notTip_dfr, fr_low (S := S) g2 (by omega) (by omega) hi.low, c', rfl, by rw [← hrun3, map_snoc (fun x => Sv x)]; exact g1⟩
          · (first | (apply aops_appendO (b := st.length + 4) (xs := out.map fun x => Sv x) (ys := [Sv (text.drop frm)]) (bytes := 16);  exact rfl; exact rfl; exact rfl; exact rfl; exact rfl; exact ⟨⟨_, _, rfl, rfl, rfl, rfl, rfl⟩⟩; exact hi.tip; (exact hSle); (first | exact rfl | exact allOne_map fun _ => rfl); ((simp [maxLen]; omega)); ((simp; omega)); intro c' S2 t1 g1 g2 g3 g4; replace g2 : Fr S S2 t1 := g2; replace g4 : c = .sl 1 (out.map fun x => Sv x) (some t1) ∨ S.length ≤ t1 := g4) | (apply aops_from (i := frm); exact rfl; exact rfl; exact rfl; omega))
            apply aops_nil
            refine az_all [0, 4] (by kernel_rfl) rfl ⟨⟨_, rfl, ?_⟩, ⟨_, rfl, ?_⟩, trivial⟩
            · (apply aops_load_bx; exact rfl; (first | exact c0 | exact c1 | exact c2); exact rfl; exact rfl)
              apply aops_nil
              refine az_all [4] (by kernel_rfl) rfl ⟨⟨_, rfl, ?_⟩, trivial⟩
              (apply aops_buildSlice; exact rfl; exact rfl; exact rfl; exact rfl; exact rfl; exact rfl; exact rfl; exact rfl; exact rfl)
              apply aops_nil
              refine az_all [5] (by kernel_rfl) rfl ⟨⟨_, rfl, ?_⟩, trivial⟩
              (first | (apply aops_appendO (b := st.length + 4) (xs := out.map fun x => Sv x) (ys := [Sv (text.drop frm)]) (bytes := 16);  exact rfl; exact rfl; exact rfl; exact rfl; exact rfl; exact ⟨⟨_, _, rfl, rfl, rfl, rfl, rfl⟩⟩; exact hi.tip; (exact hSle); (first | exact rfl | exact allOne_map fun _ => rfl); ((simp [maxLen]; omega)); ((simp; omega)); intro c' S2 t1 g1 g2 g3 g4; replace g2 : Fr S S2 t1 := g2; replace g4 : c = .sl 1 (out.map fun x => Sv x) (some t1) ∨ S.length ≤ t1 := g4) | (apply aops_from (i := frm); exact rfl; exact rfl; exact rfl; omega))
              apply aops_nil
              (apply az_take 6; exact rfl; kernel_rfl; kernel_rfl; kernel_rfl; exact rfl; exact ay_assign)
              refine az_done (by kernel_rfl) ?_
              exact ⟨rfl, frO_get g2 g4 hi.tip hd1 notTip_dfr, fr_low (S := S) g2 (by omega) (by omega) hi.low, c', rfl, by rw [← hrun3, map_snoc (fun x => Sv x)]; exact g1⟩
            · (apply aops_buildSlice; exact rfl; exact rfl; exact rfl; exact rfl; exact rfl; exact rfl; exact rfl; exact rfl; exact rfl)
              apply aops_nil
              refine az_all [0] (by kernel_rfl) rfl ⟨⟨_, rfl, ?_⟩, trivial⟩
              (apply aops_load_bx; exact rfl; (first | exact c0 | exact c1 | exact c2); exact rfl; exact rfl)
              apply aops_nil
              refine az_all [5] (by kernel_rfl) rfl ⟨⟨_, rfl, ?_⟩, trivial⟩
              (first | (apply aops_appendO (b := st.length + 4) (xs := out.map fun x => Sv x) (ys := [Sv (text.drop frm)]) (bytes := 16);  exact rfl; exact rfl; exact rfl; exact rfl; exact rfl; exact ⟨⟨_, _, rfl, rfl, rfl, rfl, rfl⟩⟩; exact hi.tip; (exact hSle); (first | exact rfl | exact allOne_map fun _ => rfl); ((simp [maxLen]; omega)); ((simp; omega)); intro c' S2 t1 g1 g2 g3 g4; replace g2 : Fr S S2 t1 := g2; replace g4 : c = .sl 1 (out.map fun x => Sv x) (some t1) ∨ S.length ≤ t1 := g4) | (apply aops_from (i := frm); exact rfl; exact rfl; exact rfl; omega))
              apply aops_nil
              (apply az_take 6; exact rfl; kernel_rfl; kernel_rfl; kernel_rfl; exact rfl; exact ay_assign)
              refine az_done (by kernel_rfl) ?_
              exact ⟨rfl, frO_get g2 g4 hi.tip hd1 notTip_dfr, fr_low (S := S) g2 (by omega) (by omega) hi.low, c', rfl, by rw [← hrun3, map_snoc (fun x => Sv x)]; exact g1⟩
      · (apply aops_load_bx; exact rfl; (first | exact c0 | exact c1 | exact c2); exact rfl; exact rfl)
        apply aops_nil
        refine az_all [0, 1] (by kernel_rfl) rfl ⟨⟨_, rfl, ?_⟩, ⟨_, rfl, ?_⟩, trivial⟩
        · (apply aops_load_bx; exact rfl; (first | exact c0 | exact c1 | exact c2); exact rfl; exact rfl)
          apply aops_nil
          refine az_all [1] (by kernel_rfl) rfl ⟨⟨_, rfl, ?_⟩, trivial⟩
          (apply aops_load_bx; exact rfl; (first | exact c0 | exact c1 | exact c2); exact rfl; exact rfl)
          apply aops_nil
          refine az_all [3] (by kernel_rfl) rfl ⟨⟨_, rfl, ?_⟩, trivial⟩
          (first | (apply aops_appendO (b := st.length + 4) (xs := out.map fun x => Sv x) (ys := [Sv (text.drop frm)]) (bytes := 16);  exact rfl; exact rfl; exact rfl; exact rfl; exact rfl; exact ⟨⟨_, _, rfl, rfl, rfl, rfl, rfl⟩⟩; exact hi.tip; (exact hSle); (first | exact rfl | exact allOne_map fun _ => rfl); ((simp [maxLen]; omega)); ((simp; omega)); intro c' S2 t1 g1 g2 g3 g4; replace g2 : Fr S S2 t1 := g2; replace g4 : c = .sl 1 (out.map fun x => Sv x) (some t1) ∨ S.length ≤ t1 := g4) | (apply aops_from (i := frm); exact rfl; exact rfl; exact rfl; omega))
          apply aops_nil
          refine az_all [4] (by kernel_rfl) rfl ⟨⟨_, rfl, ?_⟩, trivial⟩
          (apply aops_buildSlice; exact rfl; exact rfl; exact rfl; exact rfl; exact rfl; exact rfl; exact rfl; exact rfl; exact rfl)
          apply aops_nil
          refine az_all [5] (by kernel_rfl) rfl ⟨⟨_, rfl, ?_⟩, trivial⟩
          (first | (apply aops_appendO (b := st.length + 4) (xs := out.map fun x => Sv x) (ys := [Sv (text.drop frm)]) (bytes := 16);  exact rfl; exact rfl; exact rfl; exact rfl; exact rfl; exact ⟨⟨_, _, rfl, rfl, rfl, rfl, rfl⟩⟩; exact hi.tip; (exact hSle); (first | exact rfl | exact allOne_map fun _ => rfl); ((simp [maxLen]; omega)); ((simp; omega)); intro c' S2 t1 g1 g2 g3 g4; replace g2 : Fr S S2 t1 := g2; replace g4 : c = .sl 1 (out.map fun x => Sv x) (some t1) ∨ S.length ≤ t1 := g4) | (apply aops_from (i := frm); exact rfl; exact rfl; exact rfl; omega))
          apply aops_nil
          (apply az_take 6; exact rfl; kernel_rfl; kernel_rfl; kernel_rfl; exact rfl; exact ay_assign)
          refine az_done (by kernel_rfl) ?_
          exact ⟨rfl, frO_get g2 g4 hi.tip hd1 notTip_dfr, fr_low (S := S) g2 (by omega) (by omega) hi.low, c', rfl, by rw [← hrun3, map_snoc (fun x => Sv x)]; exact g1⟩
        · (apply aops_load_bx; exact rfl; (first | exact c0 | exact c1 | exact c2); exact rfl; exact rfl)
          apply aops_nil
          refine az_all [0, 3] (by kernel_rfl) rfl ⟨⟨_, rfl, ?_⟩, ⟨_, rfl, ?_⟩, trivial⟩
          · (apply aops_load_bx; exact rfl; (first | exact c0 | exact c1 | exact c2); exact rfl; exact rfl)
            apply aops_nil
            refine az_all [3] (by kernel_rfl) rfl ⟨⟨_, rfl, ?_⟩, trivial⟩
            (first | (apply aops_appendO (b := st.length + 4) (xs := out.map fun x => Sv x) (ys := [Sv (text.drop frm)]) (bytes := 16);  exact rfl; exact rfl; exact rfl; exact rfl; exact rfl; exact ⟨⟨_, _, rfl, rfl, rfl, rfl, rfl⟩⟩; exact hi.tip; (exact hSle); (first | exact rfl | exact allOne_map fun _ => rfl); ((simp [maxLen]; omega)); ((simp; omega)); intro c' S2 t1 g1 g2 g3 g4; replace g2 : Fr S S2 t1 := g2; replace g4 : c = .sl 1 (out.map fun x => Sv x) (some t1) ∨ S.length ≤ t1 := g4) | (apply aops_from (i := frm); exact rfl; exact rfl; exact rfl; omega))
            apply aops_nil
            refine az_all [4] (by kernel_rfl) rfl ⟨⟨_, rfl, ?_⟩, trivial⟩
            (apply aops_buildSlice; exact rfl; exact rfl; exact rfl; exact rfl; exact rfl; exact rfl; exact rfl; exact rfl; exact rfl)
            apply aops_nil
            refine az_all [5] (by kernel_rfl) rfl ⟨⟨_, rfl, ?_⟩, trivial⟩
            (first | (apply aops_appendO (b := st.length + 4) (xs := out.map fun x => Sv x) (ys := [Sv (text.drop frm)]) (bytes := 16);  exact rfl; exact rfl; exact rfl; exact rfl; exact rfl; exact ⟨⟨_, _, rfl, rfl, rfl, rfl, rfl⟩⟩; exact hi.tip; (exact hSle); (first | exact rfl | exact allOne_map fun _ => rfl); ((simp [maxLen]; omega)); ((simp; omega)); intro c' S2 t1 g1 g2 g3 g4; replace g2 : Fr S S2 t1 := g2; replace g4 : c = .sl 1 (out.map fun x => Sv x) (some t1) ∨ S.length ≤ t1 := g4) | (apply aops_from (i := frm); exact rfl; exact rfl; exact rfl; omega))
            apply aops_nil
            (apply az_take 6; exact rfl; kernel_rfl; kernel_rfl; kernel_rfl; exact rfl; exact ay_assign)
            refine az_done (by kernel_rfl) ?_
            exact ⟨rfl, frO_get g2 g4 hi.tip hd1 notTip_dfr, fr_low (S := S) g2 (by omega) (by omega) hi.low, c', rfl, by rw [← hrun3, map_snoc (fun x => Sv x)]; exact g1⟩
          · (first | (apply aops_appendO (b := st.length + 4) (xs := out.map fun x => Sv x) (ys := [Sv (text.drop frm)]) (bytes := 16);  exact rfl; exact rfl; exact rfl; exact rfl; exact rfl; exact ⟨⟨_, _, rfl, rfl, rfl, rfl, rfl⟩⟩; exact hi.tip; (exact hSle); (first | exact rfl | exact allOne_map fun _ => rfl); ((simp [maxLen]; omega)); ((simp; omega)); intro c' S2 t1 g1 g2 g3 g4; replace g2 : Fr S S2 t1 := g2; replace g4 : c = .sl 1 (out.map fun x => Sv x) (some t1) ∨ S.length ≤ t1 := g4) | (apply aops_from (i := frm); exact rfl; exact rfl; exact rfl; omega))
            apply aops_nil
            refine az_all [0, 4] (by kernel_rfl) rfl ⟨⟨_, rfl, ?_⟩, ⟨_, rfl, ?_⟩, trivial⟩
            · (apply aops_load_bx; exact rfl; (first | exact c0 | exact c1 | exact c2); exact rfl; exact rfl)
              apply aops_nil
              refine az_all [4] (by kernel_rfl) rfl ⟨⟨_, rfl, ?_⟩, trivial⟩
              (apply aops_buildSlice; exact rfl; exact rfl; exact rfl; exact rfl; exact rfl; exact rfl; exact rfl; exact rfl; exact rfl)
              apply aops_nil
              refine az_all [5] (by kernel_rfl) rfl ⟨⟨_, rfl, ?_⟩, trivial⟩
              (first | (apply aops_appendO (b := st.length + 4) (xs := out.map fun x => Sv x) (ys := [Sv (text.drop frm)]) (bytes := 16);  exact rfl; exact rfl; exact rfl; exact rfl; exact rfl; exact ⟨⟨_, _, rfl, rfl, rfl, rfl, rfl⟩⟩; exact hi.tip; (exact hSle); (first | exact rfl | exact allOne_map fun _ => rfl); ((simp [maxLen]; omega)); ((simp; omega)); intro c' S2 t1 g1 g2 g3 g4; replace g2 : Fr S S2 t1 := g2; replace g4 : c = .sl 1 (out.map fun x => Sv x) (some t1) ∨ S.length ≤ t1 := g4) | (apply aops_from (i := frm); exact rfl; exact rfl; exact rfl; omega))
              apply aops_nil
              (apply az_take 6; exact rfl; kernel_rfl; kernel_rfl; kernel_rfl; exact rfl; exact ay_assign)
              refine az_done (by kernel_rfl) ?_
              exact ⟨rfl, frO_get g2 g4 hi.tip hd1 notTip_dfr, fr_low (S := S) g2 (by omega) (by omega) hi.low, c', rfl, by rw [← hrun3, map_snoc (fun x => Sv x)]; exact g1⟩
            · (apply aops_buildSlice; exact rfl; exact rfl; exact rfl; exact rfl; exact rfl; exact rfl; exact rfl; exact rfl; exact rfl)
              apply aops_nil
              refine az_all [0] (by kernel_rfl) rfl ⟨⟨_, rfl, ?_⟩, trivial⟩
              (apply aops_load_bx; exact rfl; (first | exact c0 | exact c1 | exact c2); exact rfl; exact rfl)
              apply aops_nil
              refine az_all [5] (by kernel_rfl) rfl ⟨⟨_, rfl, ?_⟩, trivial⟩
              (first | (apply aops_appendO (b := st.length + 4) (xs := out.map fun x => Sv x) (ys := [Sv (text.drop frm)]) (bytes := 16);  exact rfl; exact rfl; exact rfl; exact rfl; exact rfl; exact ⟨⟨_, _, rfl, rfl, rfl, rfl, rfl⟩⟩; exact hi.tip; (exact hSle); (first | exact rfl | exact allOne_map fun _ => rfl); ((simp [maxLen]; omega)); ((simp; omega)); intro c' S2 t1 g1 g2 g3 g4; replace g2 : Fr S S2 t1 := g2; replace g4 : c = .sl 1 (out.map fun x => Sv x) (some t1) ∨ S.length ≤ t1 := g4) | (apply aops_from (i := frm); exact rfl; exact rfl; exact rfl; omega))
              apply aops_nil
              (apply az_take 6; exact rfl; kernel_rfl; kernel_rfl; kernel_rfl; exact rfl; exact ay_assign)
              refine az_done (by kernel_rfl) ?_
              exact ⟨rfl, frO_get g2 g4 hi.tip hd1 notTip_dfr, fr_low (S := S) g2 (by omega) (by omega) hi.low, c', rfl, by rw [← hrun3, map_snoc (fun x => Sv x)]; exact g1⟩
    · rintro ⟨t2, S3, df2⟩ ⟨qd, k1, k2, c', q2, hT3⟩
      simp only at qd k1 k2 q2 hT3
      subst qd
      have ht2 : t2 = puts t2 [(2, c')] := (puts_of (L := [(2, c')]) ⟨q2, trivial⟩).symm
      rw [ht2]
      apply awp_ret
      show ARet _ _ _ _
      refine aret_mark (o := st.length + 4) rfl k1 (aret_plain rfl (ares_weak (ares_one rfl) (rel_tipO hT3)) ⟨rfl, ext_low fun j hj => (get_set_low (by omega)).trans (k2 j hj)⟩)
end Go.Proofs.YtplagcbifecagaaGreatDoor
