/- Contracts and plain facts that the closing text leans on (part 4). No condition of their own beyond those that each states. -/
import Derived.Test.YtplagcbifecagaaGreatDoorK3
import Derived.LaidEql
import Derived.Stop.Asserts
import Derived.RowKitTokens
set_option maxRecDepth 100000
set_option linter.unusedVariables false
set_option linter.unusedSimpArgs false
set_option maxRecDepth 100000
set_option linter.unusedVariables false
namespace Go.Pl
open Go Go.Proofs
def beginP (p : PSt) (no : Int) (text : Bytes) : PSt := { p with lines := [text], frm := no, full := decide (p.fields.length = 40 ∨ (p.fields.length = 0 ∧ p.records = 400)) }
def aheadP (p : PSt) (no : Int) (text : Bytes) (ended : Bool) (kind : Int) : Option (Int × Int) × PSt :=
  if kind = 3 then
    if p.lines = [] then (some (no, 2), p)
    else if ended = true then (none, { p with lines := p.lines ++ [text] })
    else flushP { p with lines := p.lines ++ [text] }
  else if kind = 1 then endP p
  else flushP p
end Go.Pl
namespace Go.Proofs.YtplagcbifecagaaGreatDoor
open Go Go.Av Go.RowKit Go.Proofs Go.Pl
@[reducible] def lnO (no at' : Int) (text : Bytes) (ended : Bool) : AV := .ag [Iv no, Iv at', Sv text, Bv ended]
theorem aops_osTipL {rd : Option Nat} {N : Nat} {ops : Array Oper} {K : AS → Prop} {s : AS} {l : List Oper} (i : Nat) {sz len cap k : Nat} {T' : TypeId} {cs xs : List AV} {st loc : List AObj} (hs : s.st = st ++ loc) (hi : s.t i = .os (st.length + k) 0 0 len cap) (ho : loc[k]? = some (.cells 0 T' cs)) (hc : cs.length = cap * sz) (hlen : xs.length = len) (h0 : 0 < len) (hle : len ≤ cap) (hcm : cap ≤ maxLen) (hw : ∀ x ∈ xs, x.cells.length = sz) (hfl : flat xs = cs.take (len * sz))
    (h : AOps E rd N ops l K ⟨Av.put s.t i (.sl sz xs (some (st.length + k))), st ++ loc.set k (.tip len sz T'), s.df⟩) : AOps E rd N ops l K s :=
  aops_osTip i hi (by rw [hs]; exact get_loc ho) hc hlen h0 hle hcm hw hfl (by rw [hs, set_loc]; exact h)
theorem par_begin {b o t : Nat} {p : PSt} {st : List AObj} {c1 c2 c3 c4 : AV} {text : Bytes} {no : Int} {full : Bool} (P : ParS b o p st c1 c2 c3 c4) (g1 : st[t]? = some (.tip 1 1 9)) (g2 : b ≤ t) (g3 : ∀ ys, c3 ≠ .sl 1 ys (some t)) :
    Par b o { p with lines := [text], frm := no, full := full } (st.set o (parO (.sl 1 [Sv text] (some t)) c2 c3 c4 { p with lines := [text], frm := no, full := full })) := by
  have hlt := P.lt
  have hle := P.le
  refine ⟨.sl 1 [Sv text] (some t), c2, c3, c4, hlt, by simp; omega, ?_, tipC_set hlt (tipC_new (xs := [Sv text]) hlt g1 g2), tipC_set hlt P.h2, tipC_set hlt P.h3, tipC_set hlt P.h4, fun t' xs ys h1 h2 => ?_⟩
  · have : o < st.length := by omega
    simp [this]
  · simp only [AV.sl.injEq, Option.some.injEq, true_and] at h1
    rw [← h1.2] at h2
    exact g3 _ h2
theorem par_begin2 {b o t : Nat} {p q : PSt} {st : List AObj} {c1 c2 c3 c4 : AV} {text : Bytes} {no : Int} {full : Bool} (P : ParS b o p st c1 c2 c3 c4) (g1 : st[t]? = some (.tip 1 1 9)) (g2 : b ≤ t) (g3 : ∀ ys, c3 ≠ .sl 1 ys (some t)) (hq : q = ⟨[text], no, full, p.items, p.block, p.fields, p.records⟩) :
    Par b o q (st.set o (.cells 0 140 [.sl 1 [Sv text] (some t), Iv no, Bv full, c2, c3, c4, Iv p.records])) := by
  subst hq
  exact par_begin P g1 g2 g3
theorem tipC_lt {b : Nat} {st : List AObj} {sz : Nat} {T : TypeId} {xs ys : List AV} {c : AV} {t : Nat} (h : TipC b st sz T xs c) (hc : c = .sl sz ys (some t)) : t < st.length := by
  rcases h with ⟨_, h⟩ | ⟨t', h1, h2, _⟩
  · rw [h] at hc; simp at hc
  · rw [hc] at h1
    simp only [AV.sl.injEq, Option.some.injEq, true_and] at h1
    rw [h1.2]
    exact lt_of_getElem? h2
theorem par_lines {b o t : Nat} {p : PSt} {text : Bytes} {st st' : List AObj} {c1 c2 c3 c4 : AV} (P : ParS b o p st c1 c2 c3 c4) (g1 : st'[t]? = some (.tip (p.lines.map (fun x => Sv x) ++ [Sv text]).length 1 9)) (g2 : b ≤ t) (g3 : Fr st st' t) (g4 : c1 = .sl 1 (p.lines.map fun x => Sv x) (some t) ∨ st.length ≤ t) :
    Par b o { p with lines := p.lines ++ [text] } (st'.set o (parO (.sl 1 (p.lines.map (fun x => Sv x) ++ [Sv text]) (some t)) c2 c3 c4 p)) := by
  have hlt := P.lt
  have hle := P.le
  have hl := g3.len
  have e : (p.lines ++ [text]).map (fun x => Sv x) = p.lines.map (fun x => Sv x) ++ [Sv text] := by simp
  have hne : ∀ t' ys, c3 = .sl 1 ys (some t') → t' ≠ t := fun t' ys h1 e => by
    subst e
    rcases g4 with g4 | g4
    · exact P.ne _ _ _ g4 h1
    · have := tipC_lt P.h3 h1
      omega
  refine ⟨.sl 1 (p.lines.map (fun x => Sv x) ++ [Sv text]) (some t), c2, c3, c4, hlt, by simp; omega, ?_, ?_, ?_, ?_, ?_, ?_⟩
  · have : o < st'.length := by omega
    simp [this]
  · refine tipC_set hlt ?_
    rw [← e] at g1 ⊢
    exact tipC_new hlt g1 g2
  · exact tipC_set hlt (tipC_other g3 P.h1 g4 rfl P.h2)
  · exact tipC_set hlt (tipC_fr g3 (fun t' h => hne t' _ h) P.h3)
  · exact tipC_set hlt (tipC_other g3 P.h1 g4 rfl P.h4)
  · intro t' xs ys h1 h2
    simp only [AV.sl.injEq, Option.some.injEq, true_and] at h1
    exact hne t' _ h2 h1.2.symm
theorem par_block {b o t : Nat} {p : PSt} {text : Bytes} {st st' : List AObj} {c1 c2 c3 c4 : AV} (P : ParS b o p st c1 c2 c3 c4) (g1 : st'[t]? = some (.tip (p.block.map (fun x => Sv x) ++ [Sv text]).length 1 9)) (g2 : b ≤ t) (g3 : Fr st st' t) (g4 : c3 = .sl 1 (p.block.map fun x => Sv x) (some t) ∨ st.length ≤ t) :
    Par b o { p with block := p.block ++ [text] } (st'.set o (parO c1 c2 (.sl 1 (p.block.map (fun x => Sv x) ++ [Sv text]) (some t)) c4 p)) := by
  have hlt := P.lt
  have hle := P.le
  have hl := g3.len
  have e : (p.block ++ [text]).map (fun x => Sv x) = p.block.map (fun x => Sv x) ++ [Sv text] := by simp
  have hne : ∀ t' ys, c1 = .sl 1 ys (some t') → t' ≠ t := fun t' ys h1 e => by
    subst e
    rcases g4 with g4 | g4
    · exact P.ne _ _ _ h1 g4
    · have := tipC_lt P.h1 h1
      omega
  refine ⟨c1, c2, .sl 1 (p.block.map (fun x => Sv x) ++ [Sv text]) (some t), c4, hlt, by simp; omega, ?_, ?_, ?_, ?_, ?_, ?_⟩
  · have : o < st'.length := by omega
    simp [this]
  · exact tipC_set hlt (tipC_fr g3 (fun t' h => hne t' _ h) P.h1)
  · exact tipC_set hlt (tipC_other g3 P.h3 g4 rfl P.h2)
  · refine tipC_set hlt ?_
    rw [← e] at g1 ⊢
    exact tipC_new hlt g1 g2
  · exact tipC_set hlt (tipC_other g3 P.h3 g4 rfl P.h4)
  · intro t' xs ys h1 h2
    simp only [AV.sl.injEq, Option.some.injEq, true_and] at h2
    exact hne t' _ h1 h2.2.symm
set_option maxHeartbeats 4000000 in
theorem pbegin_c (b o : Nat) (p : PSt) (st : List AObj) (no at' : Int) (text : Bytes) (ended : Bool) (h : Par b o p st) : ACall E 142 [.bx o 0 0, lnO no at' text ended] st fun r st' => r = .tu [] ∧ Par b o (beginP p no text) st' ∧ Keep b o st st' := by
  obtain ⟨c1, c2, c3, c4, P⟩ := h
  obtain ⟨ls, fr, fu, its, bk, fs, rc⟩ := p
  have hob : st[o]? = some (.cells 0 140 [c1, Iv fr, Bv fu, c2, c3, c4, Iv rc]) := P.ob
  have hl4 : lenA c4 = some (fs.map fldA).length := tipC_len P.h4
  have hml : (fs.map fldA).length = fs.length := by simp
  have hle := P.le
  have hlt := P.lt
  refine acall_of_awp Tryz.func142 rfl (Nat.le_of_ble_eq_true rfl) ?_
  repeat' (first
    | (apply aops_buildSliceO; exact rfl; exact rfl; exact rfl; exact rfl; exact rfl; exact rfl; refine aops_osTipL 29 (k := 1) (sz := 1) (len := 1) (cap := 1) (xs := [Sv text]) (T' := 9) rfl rfl rfl rfl rfl (by omega) (Nat.le_refl _) (by decide) (by simp [AV.cells]) rfl ?_)
    | apply awp_seq
    | apply awp_region
    | apply aops_nil
    | apply aops_move
    | apply aops_assign
    | (apply aops_cmpI; exact rfl; exact rfl; exact rfl)
    | (apply aops_guard_any; exact rfl; exact rfl; exact rfl; exact rfl)
    | (apply gd_run_d; (first | assumption | omega))
    | (apply gd_run_n; (first | assumption | omega))
    | (apply gd_skip_d; (first | assumption | omega))
    | (apply gd_skip_n; (first | assumption | omega))
    | (apply aops_guard_undef; exact rfl; exact rfl; exact rfl; exact rfl)
    | (apply gd_split_d <;> intro h)
    | (apply aops_pick_any; exact rfl; first | (apply pk_dt; (first | assumption | omega)) | (apply pk_df; (first | assumption | omega)) | (apply pk_nt; (first | exact rfl | assumption)) | (apply pk_nf; (first | exact rfl | assumption)) | (apply pk_t; (first | exact rfl | assumption)) | (apply pk_f; (first | exact rfl | assumption)))
    | (apply aops_box; exact rfl; exact rfl; exact rfl; exact rfl)
    | (apply aops_fieldAddr_bx; exact rfl; exact rfl; exact rfl)
    | (apply aops_load_loc; exact rfl; exact rfl; exact rfl; exact rfl; exact rfl)
    | (apply aops_build; exact rfl; exact rfl; exact rfl)
    | (apply aops_nilCheck; exact rfl; exact rfl)
    | (apply aops_load_bx; exact rfl; exact get_pre' hob; exact rfl; exact rfl)
    | (apply aops_lenL; exact rfl; exact hl4; exact rfl; exact rfl)
    | (apply aops_store_at; exact rfl; exact rfl; exact get_pre' hob; exact rfl; exact rfl; exact rfl; exact rfl; exact rfl; exact rfl))
  all_goals
    have g3 : ∀ ys, c3 ≠ .sl 1 ys (some (st.length + 1)) := fun ys e => by
      have := tipC_lt P.h3 e
      omega
  all_goals refine aret_plain rfl (ares_zero rfl) ⟨rfl, par_begin2 (text := text) (no := no) (t := st.length + 1) P.pre (get_loc rfl) (by omega) g3 ?_, (keep_app hle).trans keep_set⟩
  all_goals unfold beginP
  · have h1 : fs.length = 40 := by omega
    simp [h1]
  · have h1 : fs.length = 0 := by omega
    simp [h1]
  · have h1 : ¬ fs.length = 40 := by omega
    have h2 : ¬ fs.length = 0 := by omega
    simp [h1, h2]
set_option maxHeartbeats 4000000 in
theorem pahead_c (b o n : Nat) (p : PSt) (st : List AObj) (no at' : Int) (text : Bytes) (ended : Bool) (kind : Int) (h : Par b o p st) (hB : PB n p) (hs : n + 2 < 900000) (ht : text.length < 1000000) : ACall E 140 [.bx o 0 0, lnO no at' text ended, Iv kind] st fun r st' => r = errP (aheadP p no text ended kind).1 ∧ ((aheadP p no text ended kind).1 = none → Par b o (aheadP p no text ended kind).2 st') ∧ Keep b o st st' := by
  obtain ⟨c1, c2, c3, c4, P⟩ := h
  have hle := P.le
  have hlt := P.lt
  refine acall_of_awp Tryz.func140 rfl (Nat.le_of_ble_eq_true rfl) ?_
  by_cases hk3 : kind = 3
  · obtain ⟨ls, fr, fu, its, bk, fs, rc⟩ := p
    have hob : st[o]? = some (.cells 0 140 [c1, Iv fr, Bv fu, c2, c3, c4, Iv rc]) := P.ob
    have hl1 : lenA c1 = some (ls.map fun x => Sv x).length := tipC_len P.h1
    have hml : (ls.map fun x => Sv x).length = ls.length := by simp
    have hlsn : ls.length ≤ n := hB.lines
    by_cases h0 : ls = []
    · have hz : (ls.map fun x => Sv x).length = 0 := by rw [h0]; rfl
      have hf : aheadP ⟨ls, fr, fu, its, bk, fs, rc⟩ no text ended kind = (some (no, 2), ⟨ls, fr, fu, its, bk, fs, rc⟩) := by
        unfold aheadP
        rw [if_pos hk3, if_pos h0]
      rw [hf]
      repeat' (first
        | apply awp_seq
        | apply awp_block
        | apply awp_region
        | apply aops_nil
        | apply aops_move
        | apply aops_assign
        | (apply aops_cmpI; exact rfl; exact rfl; exact rfl)
        | (apply awp_cond_any; exact rfl; first | (apply cd_dt; (first | assumption | omega)) | (apply cd_df; (first | assumption | omega)) | (apply cd_nt; (first | exact rfl | assumption)) | (apply cd_nf; (first | exact rfl | assumption)) | (apply cd_n <;> intro h) | (apply cd_t; (first | exact rfl | assumption)) | (apply cd_f; (first | exact rfl | assumption)) | (apply cd_d <;> intro h) | (apply cd_s <;> intro h))
        | (apply aops_makeInterface; exact rfl; exact rfl)
        | (apply aops_box; exact rfl; exact rfl; exact rfl; exact rfl)
        | (apply aops_fieldAddr_bx; exact rfl; exact rfl; exact rfl)
        | (apply aops_load_loc; exact rfl; exact rfl; exact rfl; exact rfl; exact rfl)
        | (apply aops_nilCheck; exact rfl; exact rfl)
        | apply awp_ret
        | (apply aops_call1; exact Tryz.call141; exact pfault_c _ _ _)
        | (apply aops_load_bx; exact rfl; exact get_pre' hob; exact rfl; exact rfl)
        | (apply aops_lenL; exact rfl; exact hl1; exact rfl; exact rfl))
      exact aret_plain rfl (ares_one rfl) ⟨rfl, nofun, keep_app hle⟩
    · have hz : 0 < (ls.map fun x => Sv x).length := by rw [hml]; exact List.length_pos_iff.2 h0
      have P2 := P.pre (l := [.cells 0 102 (lnO no at' text ended).cells])
      have hl2 := P2.le
      have hol : o < (st ++ [AObj.cells 0 102 (lnO no at' text ended).cells]).length := by omega
      have hob2 := get_pre' (l := [AObj.cells 0 102 (lnO no at' text ended).cells]) hob
      have hlo : (st ++ [AObj.cells 0 102 (lnO no at' text ended).cells])[st.length + 0]? = some (.cells 0 102 (lnO no at' text ended).cells) := get_loc rfl
      repeat' (first
        | apply awp_seq
        | apply awp_block
        | apply awp_region
        | apply aops_nil
        | apply aops_move
        | apply aops_assign
        | (apply aops_cmpI; exact rfl; exact rfl; exact rfl)
        | (apply awp_cond_any; exact rfl; first | (apply cd_dt; (first | assumption | omega)) | (apply cd_df; (first | assumption | omega)) | (apply cd_nt; (first | exact rfl | assumption)) | (apply cd_nf; (first | exact rfl | assumption)) | (apply cd_n <;> intro h) | (apply cd_t; (first | exact rfl | assumption)) | (apply cd_f; (first | exact rfl | assumption)) | (apply cd_d <;> intro h) | (apply cd_s <;> intro h))
        | (apply aops_box; exact rfl; exact rfl; exact rfl; exact rfl)
        | (apply aops_fieldAddr_bx; exact rfl; exact rfl; exact rfl)
        | (apply aops_nilCheck; exact rfl; exact rfl)
        | apply awp_skip
        | (apply aops_load_bx; exact rfl; exact get_pre' hob; exact rfl; exact rfl)
        | (apply aops_lenL; exact rfl; exact hl1; exact rfl; exact rfl))
      have hne : ∀ t4, (c1 = .sl 1 (ls.map fun x => Sv x) (some t4) ∨ (st ++ [AObj.cells 0 102 (lnO no at' text ended).cells]).length ≤ t4) → st.length + 0 ≠ t4 := fun t4 h e => by
        rcases h with h | h
        · have := tipC_lt P.h1 h
          omega
        · simp at h
          omega
      have hBl : PB (n + 1) ⟨ls ++ [text], fr, fu, its, bk, fs, rc⟩ := ⟨by omega, by simp; omega, fun s hs' => by
        rcases List.mem_append.1 hs' with h | h
        · exact hB.linesV s h
        · simp at h; subst h; exact ht, by have : its.length ≤ n := hB.items
                                           simp only; omega, by have : bk.length ≤ n := hB.block
                                                                simp only; omega, hB.blockV, by have : fs.length ≤ n := hB.fields
                                                                                                simp only; omega, hB.rec0, by have : rc ≤ (n : Int) := hB.rec1
                                                                                                                              simp only; omega⟩
      refine awp_cut (fun s => s.t 0 = .bx o 0 0 ∧ s.t 4 = .bx (st.length + 0) 0 0 ∧ s.df = [] ∧ Par b o ⟨ls ++ [text], fr, fu, its, bk, fs, rc⟩ s.st ∧ Keep b o st s.st ∧ s.st[st.length + 0]? = some (.cells 0 102 (lnO no at' text ended).cells)) ?_ ?_
      · refine awp_drawZ rfl rfl ?_
        (apply az_take 0; exact rfl; kernel_rfl; kernel_rfl; kernel_rfl; exact rfl; exact ay_move)
        (apply az_take 1; exact rfl; kernel_rfl; kernel_rfl; kernel_rfl; exact rfl; exact ay_move)
        (apply az_take 2; exact rfl; kernel_rfl; kernel_rfl; kernel_rfl; exact rfl; (apply ay_nilCheck; exact rfl; exact rfl))
        (apply az_take 3; exact rfl; kernel_rfl; kernel_rfl; kernel_rfl; exact rfl; (first | (apply ay_fieldAddr_bx; exact rfl; exact rfl; exact rfl) | (apply ay_fieldAddr_pp; exact rfl; exact rfl; exact rfl; exact rfl)))
        (apply az_take 4; exact rfl; kernel_rfl; kernel_rfl; kernel_rfl; exact rfl; (first | (apply ay_fieldAddr_bx; exact rfl; exact rfl; exact rfl) | (apply ay_fieldAddr_pp; exact rfl; exact rfl; exact rfl; exact rfl)))
        (apply az_take 6; exact rfl; kernel_rfl; kernel_rfl; kernel_rfl; exact rfl; (first | (apply ay_fieldAddr_bx; exact rfl; exact rfl; exact rfl) | (apply ay_fieldAddr_pp; exact rfl; exact rfl; exact rfl; exact rfl)))
        refine az_all [5, 7] (by kernel_rfl) rfl ⟨⟨_, rfl, ?_⟩, ⟨_, rfl, ?_⟩, trivial⟩
        · (first | (apply aops_load_bx; exact rfl; exact hob2; exact rfl; exact rfl) | (apply aops_load_mid; exact rfl; exact rfl; exact rfl; exact rfl; exact rfl) | (apply aops_load_loc; exact rfl; exact rfl; exact rfl; exact rfl; exact rfl) | (apply aops_load_pp; exact rfl; exact rfl; exact rfl))
          apply aops_nil
          refine az_all [7] (by kernel_rfl) rfl ⟨⟨_, rfl, ?_⟩, trivial⟩
          (first | (apply aops_load_bx; exact rfl; exact hob2; exact rfl; exact rfl) | (apply aops_load_mid; exact rfl; exact rfl; exact rfl; exact rfl; exact rfl) | (apply aops_load_loc; exact rfl; exact rfl; exact rfl; exact rfl; exact rfl) | (apply aops_load_pp; exact rfl; exact rfl; exact rfl))
          apply aops_nil
          refine az_all [8] (by kernel_rfl) rfl ⟨⟨_, rfl, ?_⟩, trivial⟩
          (apply aops_buildSlice; exact rfl; exact rfl; exact rfl; exact rfl; exact rfl; exact rfl; exact rfl; exact rfl; exact rfl)
          apply aops_nil
          refine az_all [9] (by kernel_rfl) rfl ⟨⟨_, rfl, ?_⟩, trivial⟩
          (apply aops_appendT (b := b) (xs := ls.map fun x => Sv x) (ys := [Sv text]) (bytes := 16); exact rfl; exact rfl; exact P2.h1; exact hl2; exact rfl; exact rfl; exact rfl; exact ⟨⟨_, _, rfl, rfl, rfl, rfl, rfl⟩⟩; exact rfl; (simp [maxLen]; omega); (simp; omega); intro t4 st4 g1 g2 g3 g4; have ho4 := (g3.same o (by omega) hol).trans hob2; have hlo4 := (g3.same (st.length + 0) (hne t4 g4) (lt_of_getElem? hlo)).trans hlo)
          apply aops_nil
          (apply az_take 10; exact rfl; kernel_rfl; kernel_rfl; kernel_rfl; exact rfl; (apply ay_nilCheck; exact rfl; exact rfl))
          (apply az_take 11; exact rfl; kernel_rfl; kernel_rfl; kernel_rfl; exact rfl; (first | (apply ay_fieldAddr_bx; exact rfl; exact rfl; exact rfl) | (apply ay_fieldAddr_pp; exact rfl; exact rfl; exact rfl; exact rfl)))
          (apply az_take 12; exact rfl; kernel_rfl; kernel_rfl; kernel_rfl; exact rfl; (first | (apply ay_fieldAddr_bx; exact rfl; exact rfl; exact rfl) | (apply ay_fieldAddr_pp; exact rfl; exact rfl; exact rfl; exact rfl)))
          refine az_all [13] (by kernel_rfl) rfl ⟨⟨_, rfl, ?_⟩, trivial⟩
          (first | (apply aops_store_at; exact rfl; exact rfl; exact ho4; exact rfl; exact rfl; exact rfl; exact rfl; exact rfl; exact rfl) | (apply aops_store_mid; exact rfl; exact rfl; exact rfl; exact rfl; exact rfl; exact rfl; exact rfl; exact rfl; exact rfl; exact rfl; exact rfl) | (apply aops_store_loc; exact rfl; exact rfl; exact rfl; exact rfl; exact rfl; exact rfl; exact rfl; exact rfl; exact rfl; exact rfl; exact rfl))
          apply aops_nil
          refine az_done (by kernel_rfl) ?_
          exact ⟨rfl, rfl, rfl, par_lines P2 g1 g2 g3 g4, ((keep_app hle).trans (keep_fr g3 hl2 g2 P2.h1 g4)).trans keep_set, get_set_ne hlo4 (by omega)⟩
        · (first | (apply aops_load_bx; exact rfl; exact hob2; exact rfl; exact rfl) | (apply aops_load_mid; exact rfl; exact rfl; exact rfl; exact rfl; exact rfl) | (apply aops_load_loc; exact rfl; exact rfl; exact rfl; exact rfl; exact rfl) | (apply aops_load_pp; exact rfl; exact rfl; exact rfl))
          apply aops_nil
          refine az_all [5, 8] (by kernel_rfl) rfl ⟨⟨_, rfl, ?_⟩, ⟨_, rfl, ?_⟩, trivial⟩
          · (first | (apply aops_load_bx; exact rfl; exact hob2; exact rfl; exact rfl) | (apply aops_load_mid; exact rfl; exact rfl; exact rfl; exact rfl; exact rfl) | (apply aops_load_loc; exact rfl; exact rfl; exact rfl; exact rfl; exact rfl) | (apply aops_load_pp; exact rfl; exact rfl; exact rfl))
            apply aops_nil
            refine az_all [8] (by kernel_rfl) rfl ⟨⟨_, rfl, ?_⟩, trivial⟩
            (apply aops_buildSlice; exact rfl; exact rfl; exact rfl; exact rfl; exact rfl; exact rfl; exact rfl; exact rfl; exact rfl)
            apply aops_nil
            refine az_all [9] (by kernel_rfl) rfl ⟨⟨_, rfl, ?_⟩, trivial⟩
            (apply aops_appendT (b := b) (xs := ls.map fun x => Sv x) (ys := [Sv text]) (bytes := 16); exact rfl; exact rfl; exact P2.h1; exact hl2; exact rfl; exact rfl; exact rfl; exact ⟨⟨_, _, rfl, rfl, rfl, rfl, rfl⟩⟩; exact rfl; (simp [maxLen]; omega); (simp; omega); intro t4 st4 g1 g2 g3 g4; have ho4 := (g3.same o (by omega) hol).trans hob2; have hlo4 := (g3.same (st.length + 0) (hne t4 g4) (lt_of_getElem? hlo)).trans hlo)
            apply aops_nil
            (apply az_take 10; exact rfl; kernel_rfl; kernel_rfl; kernel_rfl; exact rfl; (apply ay_nilCheck; exact rfl; exact rfl))
            (apply az_take 11; exact rfl; kernel_rfl; kernel_rfl; kernel_rfl; exact rfl; (first | (apply ay_fieldAddr_bx; exact rfl; exact rfl; exact rfl) | (apply ay_fieldAddr_pp; exact rfl; exact rfl; exact rfl; exact rfl)))
            (apply az_take 12; exact rfl; kernel_rfl; kernel_rfl; kernel_rfl; exact rfl; (first | (apply ay_fieldAddr_bx; exact rfl; exact rfl; exact rfl) | (apply ay_fieldAddr_pp; exact rfl; exact rfl; exact rfl; exact rfl)))
            refine az_all [13] (by kernel_rfl) rfl ⟨⟨_, rfl, ?_⟩, trivial⟩
            (first | (apply aops_store_at; exact rfl; exact rfl; exact ho4; exact rfl; exact rfl; exact rfl; exact rfl; exact rfl; exact rfl) | (apply aops_store_mid; exact rfl; exact rfl; exact rfl; exact rfl; exact rfl; exact rfl; exact rfl; exact rfl; exact rfl; exact rfl; exact rfl) | (apply aops_store_loc; exact rfl; exact rfl; exact rfl; exact rfl; exact rfl; exact rfl; exact rfl; exact rfl; exact rfl; exact rfl; exact rfl))
            apply aops_nil
            refine az_done (by kernel_rfl) ?_
            exact ⟨rfl, rfl, rfl, par_lines P2 g1 g2 g3 g4, ((keep_app hle).trans (keep_fr g3 hl2 g2 P2.h1 g4)).trans keep_set, get_set_ne hlo4 (by omega)⟩
          · (apply aops_buildSlice; exact rfl; exact rfl; exact rfl; exact rfl; exact rfl; exact rfl; exact rfl; exact rfl; exact rfl)
            apply aops_nil
            refine az_all [5] (by kernel_rfl) rfl ⟨⟨_, rfl, ?_⟩, trivial⟩
            (first | (apply aops_load_bx; exact rfl; exact hob2; exact rfl; exact rfl) | (apply aops_load_mid; exact rfl; exact rfl; exact rfl; exact rfl; exact rfl) | (apply aops_load_loc; exact rfl; exact rfl; exact rfl; exact rfl; exact rfl) | (apply aops_load_pp; exact rfl; exact rfl; exact rfl))
            apply aops_nil
            refine az_all [9] (by kernel_rfl) rfl ⟨⟨_, rfl, ?_⟩, trivial⟩
            (apply aops_appendT (b := b) (xs := ls.map fun x => Sv x) (ys := [Sv text]) (bytes := 16); exact rfl; exact rfl; exact P2.h1; exact hl2; exact rfl; exact rfl; exact rfl; exact ⟨⟨_, _, rfl, rfl, rfl, rfl, rfl⟩⟩; exact rfl; (simp [maxLen]; omega); (simp; omega); intro t4 st4 g1 g2 g3 g4; have ho4 := (g3.same o (by omega) hol).trans hob2; have hlo4 := (g3.same (st.length + 0) (hne t4 g4) (lt_of_getElem? hlo)).trans hlo)
            apply aops_nil
            (apply az_take 10; exact rfl; kernel_rfl; kernel_rfl; kernel_rfl; exact rfl; (apply ay_nilCheck; exact rfl; exact rfl))
            (apply az_take 11; exact rfl; kernel_rfl; kernel_rfl; kernel_rfl; exact rfl; (first | (apply ay_fieldAddr_bx; exact rfl; exact rfl; exact rfl) | (apply ay_fieldAddr_pp; exact rfl; exact rfl; exact rfl; exact rfl)))
            (apply az_take 12; exact rfl; kernel_rfl; kernel_rfl; kernel_rfl; exact rfl; (first | (apply ay_fieldAddr_bx; exact rfl; exact rfl; exact rfl) | (apply ay_fieldAddr_pp; exact rfl; exact rfl; exact rfl; exact rfl)))
            refine az_all [13] (by kernel_rfl) rfl ⟨⟨_, rfl, ?_⟩, trivial⟩
            (first | (apply aops_store_at; exact rfl; exact rfl; exact ho4; exact rfl; exact rfl; exact rfl; exact rfl; exact rfl; exact rfl) | (apply aops_store_mid; exact rfl; exact rfl; exact rfl; exact rfl; exact rfl; exact rfl; exact rfl; exact rfl; exact rfl; exact rfl; exact rfl) | (apply aops_store_loc; exact rfl; exact rfl; exact rfl; exact rfl; exact rfl; exact rfl; exact rfl; exact rfl; exact rfl; exact rfl; exact rfl))
            apply aops_nil
            refine az_done (by kernel_rfl) ?_
            exact ⟨rfl, rfl, rfl, par_lines P2 g1 g2 g3 g4, ((keep_app hle).trans (keep_fr g3 hl2 g2 P2.h1 g4)).trans keep_set, get_set_ne hlo4 (by omega)⟩
      · rintro ⟨t2, st2, df2⟩ ⟨h20, h24, hd, hp2, hk2, hlx⟩
        simp only at h20 h24 hd hp2 hk2 hlx
        subst hd
        have ht2 : t2 = puts t2 [(0, .bx o 0 0), (4, .bx (st.length + 0) 0 0)] := (puts_of (L := [(0, .bx o 0 0), (4, .bx (st.length + 0) 0 0)]) ⟨h20, h24, trivial⟩).symm
        rw [ht2]
        cases ended
        · have hf : aheadP ⟨ls, fr, fu, its, bk, fs, rc⟩ no text false kind = flushP ⟨ls ++ [text], fr, fu, its, bk, fs, rc⟩ := by
            unfold aheadP
            rw [if_pos hk3, if_neg h0, if_neg (by simp)]
          rw [hf]
          repeat' (first
            | apply awp_seq
            | apply awp_region
            | apply aops_nil
            | apply aops_move
            | (apply awp_cond_any; exact rfl; first | (apply cd_dt; (first | assumption | omega)) | (apply cd_df; (first | assumption | omega)) | (apply cd_nt; (first | exact rfl | assumption)) | (apply cd_nf; (first | exact rfl | assumption)) | (apply cd_n <;> intro h) | (apply cd_t; (first | exact rfl | assumption)) | (apply cd_f; (first | exact rfl | assumption)) | (apply cd_d <;> intro h) | (apply cd_s <;> intro h))
            | (apply aops_fieldAddr_bx; exact rfl; exact rfl; exact rfl)
            | apply awp_skip
            | (apply aops_load_bx; exact rfl; exact hlx; exact rfl; exact rfl))
          refine aops_call Tryz.call143 ((flush_c b o _ st2 (n + 1) hp2 hBl).mono ?_)
          rintro _ st1 ⟨rfl, hp, hk⟩
          show AOps _ _ _ _ _ _ _
          repeat' (first
            | apply aops_nil
            | apply aops_assign
            | apply awp_ret)
          exact aret_plain rfl (ares_one rfl) ⟨rfl, hp, hk2.trans hk⟩
        · have hf : aheadP ⟨ls, fr, fu, its, bk, fs, rc⟩ no text true kind = (none, ⟨ls ++ [text], fr, fu, its, bk, fs, rc⟩) := by
            unfold aheadP
            rw [if_pos hk3, if_neg h0, if_pos rfl]
          rw [hf]
          repeat' (first
            | apply awp_seq
            | apply awp_region
            | apply aops_nil
            | apply aops_assign
            | (apply awp_cond_any; exact rfl; first | (apply cd_dt; (first | assumption | omega)) | (apply cd_df; (first | assumption | omega)) | (apply cd_nt; (first | exact rfl | assumption)) | (apply cd_nf; (first | exact rfl | assumption)) | (apply cd_n <;> intro h) | (apply cd_t; (first | exact rfl | assumption)) | (apply cd_f; (first | exact rfl | assumption)) | (apply cd_d <;> intro h) | (apply cd_s <;> intro h))
            | (apply aops_fieldAddr_bx; exact rfl; exact rfl; exact rfl)
            | apply awp_ret
            | (apply aops_load_bx; exact rfl; exact hlx; exact rfl; exact rfl))
          exact aret_plain rfl (ares_one rfl) ⟨rfl, fun _ => hp2, hk2⟩
  · by_cases hk1 : kind = 1
    · have hf : aheadP p no text ended kind = endP p := by
        unfold aheadP
        rw [if_neg hk3, if_pos hk1]
      rw [hf]
      repeat' (first
        | apply awp_seq
        | apply awp_block
        | apply awp_region
        | apply aops_nil
        | apply aops_move
        | apply aops_assign
        | (apply aops_cmpI; exact rfl; exact rfl; exact rfl)
        | (apply awp_cond_any; exact rfl; first | (apply cd_dt; (first | assumption | omega)) | (apply cd_df; (first | assumption | omega)) | (apply cd_nt; (first | exact rfl | assumption)) | (apply cd_nf; (first | exact rfl | assumption)) | (apply cd_n <;> intro h) | (apply cd_t; (first | exact rfl | assumption)) | (apply cd_f; (first | exact rfl | assumption)) | (apply cd_d <;> intro h) | (apply cd_s <;> intro h))
        | (apply aops_box; exact rfl; exact rfl; exact rfl; exact rfl))
      refine aops_call Tryz.call106 ((pend_c b o n p _ ⟨c1, c2, c3, c4, P.pre⟩ hB (by omega)).mono ?_)
      rintro _ st1 ⟨rfl, hp, hk⟩
      show AOps _ _ _ _ _ _ _
      repeat' (first
        | apply aops_nil
        | apply aops_assign
        | apply awp_ret)
      exact aret_plain rfl (ares_one rfl) ⟨rfl, hp, (keep_app hle).trans hk⟩
    · have hf : aheadP p no text ended kind = flushP p := by
        unfold aheadP
        rw [if_neg hk3, if_neg hk1]
      rw [hf]
      repeat' (first
        | apply awp_seq
        | apply awp_block
        | apply awp_region
        | apply aops_nil
        | apply aops_move
        | apply aops_assign
        | (apply aops_cmpI; exact rfl; exact rfl; exact rfl)
        | (apply awp_cond_any; exact rfl; first | (apply cd_dt; (first | assumption | omega)) | (apply cd_df; (first | assumption | omega)) | (apply cd_nt; (first | exact rfl | assumption)) | (apply cd_nf; (first | exact rfl | assumption)) | (apply cd_n <;> intro h) | (apply cd_t; (first | exact rfl | assumption)) | (apply cd_f; (first | exact rfl | assumption)) | (apply cd_d <;> intro h) | (apply cd_s <;> intro h))
        | (apply aops_box; exact rfl; exact rfl; exact rfl; exact rfl)
        | apply awp_skip)
      refine aops_call Tryz.call143 ((flush_c b o p _ n ⟨c1, c2, c3, c4, P.pre⟩ hB).mono ?_)
      rintro _ st1 ⟨rfl, hp, hk⟩
      show AOps _ _ _ _ _ _ _
      repeat' (first
        | apply aops_nil
        | apply aops_assign
        | apply awp_ret)
      exact aret_plain rfl (ares_one rfl) ⟨rfl, hp, (keep_app hle).trans hk⟩
end Go.Proofs.YtplagcbifecagaaGreatDoor
set_option maxRecDepth 100000
set_option linter.unusedVariables false
namespace Go.Pl
open Go Go.Proofs
def takeP (p : PSt) (no : Int) (text : Bytes) (ended : Bool) : Option (Int × Int) × PSt :=
  match (aheadP p no text ended (kindOf text)).1 with
  | some e => (some e, p)
  | none =>
    if kindOf text = 5 ∨ ended = false then (some (no, 2), p)
    else if kindOf text = 1 then (none, { (aheadP p no text ended (kindOf text)).2 with items := (aheadP p no text ended (kindOf text)).2.items ++ [⟨1, text ++ [10], []⟩] })
    else if kindOf text = 4 then (none, { beginP (aheadP p no text ended (kindOf text)).2 no text with block := (aheadP p no text ended (kindOf text)).2.block ++ [text] })
    else (none, { (aheadP p no text ended (kindOf text)).2 with block := (aheadP p no text ended (kindOf text)).2.block ++ [text] })
end Go.Pl
namespace Go.Proofs.YtplagcbifecagaaGreatDoor
open Go Go.Av Go.RowKit Go.Proofs Go.Pl
theorem PB.more {n m : Nat} {p : PSt} (h : PB n p) (hm : n ≤ m) (hs : m < 900000) : PB m p := by
  have h1 := h.lines; have h2 := h.items; have h3 := h.block; have h4 := h.fields; have h5 := h.rec0; have h6 := h.rec1
  exact ⟨hs, by omega, h.linesV, by omega, by omega, h.blockV, by omega, h5, by omega⟩
theorem closeP_pb {n : Nat} {p : PSt} (h : PB n p) (hs : n + 1 < 900000) : PB (n + 1) (closeP p) := by
  have h1 := h.lines; have h2 := h.items; have h3 := h.block; have h4 := h.fields; have h5 := h.rec0; have h6 := h.rec1
  unfold closeP
  split
  · exact ⟨hs, by simp only; omega, h.linesV, by simp only; omega, by simp, by simp, by simp, h5, by simp only; omega⟩
  · refine ⟨hs, by simp only; omega, h.linesV, by simp; omega, by simp, by simp, by simp, ?_, ?_⟩
    · simp only; split <;> omega
    · simp only; split <;> omega
theorem pb_lines {n : Nat} {p : PSt} {text : Bytes} (h : PB n p) (hs : n + 1 < 900000) (ht : text.length < 1000000) : PB (n + 1) { p with lines := p.lines ++ [text] } := by
  have h1 := h.lines; have h2 := h.items; have h3 := h.block; have h4 := h.fields; have h5 := h.rec0; have h6 := h.rec1
  exact ⟨hs, by simp; omega, mem_snoc h.linesV ht, by simp only; omega, by simp only; omega, h.blockV, by simp only; omega, h5, by simp only; omega⟩
theorem pb_block {n : Nat} {p : PSt} {text : Bytes} (h : PB n p) (hs : n + 1 < 900000) (ht : text.length < 1000000) : PB (n + 1) { p with block := p.block ++ [text] } := by
  have h1 := h.lines; have h2 := h.items; have h3 := h.block; have h4 := h.fields; have h5 := h.rec0; have h6 := h.rec1
  exact ⟨hs, by simp only; omega, h.linesV, by simp only; omega, by simp; omega, mem_snoc h.blockV ht, by simp only; omega, h5, by simp only; omega⟩
theorem pb_items {n : Nat} {p : PSt} {x : ItemV} (h : PB n p) (hs : n + 1 < 900000) : PB (n + 1) { p with items := p.items ++ [x] } := by
  have h1 := h.lines; have h2 := h.items; have h3 := h.block; have h4 := h.fields; have h5 := h.rec0; have h6 := h.rec1
  exact ⟨hs, by simp only; omega, h.linesV, by simp; omega, by simp only; omega, h.blockV, by simp only; omega, h5, by simp only; omega⟩
theorem pb_begin {n : Nat} {p : PSt} {no : Int} {text : Bytes} (h : PB n p) (hs : n + 1 < 900000) (ht : text.length < 1000000) : PB (n + 1) (beginP p no text) := by
  have h1 := h.lines; have h2 := h.items; have h3 := h.block; have h4 := h.fields; have h5 := h.rec0; have h6 := h.rec1
  exact ⟨hs, by simp [beginP], by simp [beginP, ht], by simp only [beginP]; omega, by simp only [beginP]; omega, h.blockV, by simp only [beginP]; omega, h5, by simp only [beginP]; omega⟩
theorem aheadP_pb {n : Nat} {p : PSt} {no : Int} {text : Bytes} {ended : Bool} {kind : Int} (h : PB n p) (hs : n + 2 < 900000) (ht : text.length < 1000000) : PB (n + 2) (aheadP p no text ended kind).2 := by
  unfold aheadP
  split
  · split
    · exact h.more (by omega) hs
    · split
      · exact (pb_lines h (by omega) ht).more (by omega) hs
      · exact flushP_pb (pb_lines h (by omega) ht) hs
  · split
    · unfold endP
      split
      · exact h.more (by omega) hs
      · exact closeP_pb (flushP_pb h (by omega)) hs
    · exact (flushP_pb h (by omega)).more (by omega) hs
theorem weak_item (k : Int) (r : Bytes) : ∀ G v, Rel G (.ag [Iv k, Sv r, nilSl]) v → Rel G (itemA ⟨k, r, []⟩) v :=
  weak_ag rfl fun i x y hx hy => by
    match i with
    | 0 => simp at hx hy; subst hx; subst hy; exact weak_refl _
    | 1 => simp at hx hy; subst hx; subst hy; exact weak_refl _
    | 2 => simp at hx hy; subst hx; subst hy; exact weak_nilSl 2
    | i + 3 => simp at hx
theorem kind_range (l : Bytes) : 1 ≤ kindOf l ∧ kindOf l ≤ 5 := by
  unfold kindOf
  repeat' split
  all_goals decide
theorem notTip_cells {ver : Nat} {T : TypeId} {cs : List AV} {x : Option AObj} (h : x = some (.cells ver T cs)) : notTip x := fun n sz T' e => by
  rw [h] at e
  simp at e
theorem takeP_pb {n : Nat} {p : PSt} {no : Int} {text : Bytes} {ended : Bool} (h : PB n p) (hs : n + 4 < 900000) (ht : text.length < 1000000) : PB (n + 4) (takeP p no text ended).2 := by
  have h2 : PB (n + 2) (aheadP p no text ended (kindOf text)).2 := aheadP_pb h (by omega) ht
  unfold takeP
  split
  · exact h.more (by omega) hs
  · split
    · exact h.more (by omega) hs
    · split
      · exact (pb_items h2 (by omega)).more (by omega) hs
      · split
        · exact pb_block (pb_begin h2 (by omega) ht) hs ht
        · exact (pb_block h2 (by omega) ht).more (by omega) hs
set_option maxHeartbeats 8000000 in
theorem ptake_c (b o n : Nat) (p : PSt) (st : List AObj) (no at' : Int) (text : Bytes) (ended : Bool) (h : Par b o p st) (hB : PB n p) (hs : n + 4 < 900000) (ht : text.length < 1000000) : ACall E 105 [.bx o 0 0, lnO no at' text ended] st fun r st' => r = errP (takeP p no text ended).1 ∧ ((takeP p no text ended).1 = none → Par b o (takeP p no text ended).2 st') ∧ Keep b o st st' := by
  obtain ⟨c1, c2, c3, c4, P⟩ := h
  have hle := P.le
  have hlt := P.lt
  refine acall_of_awp Tryz.func105 rfl (Nat.le_of_ble_eq_true rfl) ?_
  have hkr := kind_range text
  repeat' (first
    | apply awp_seq
    | apply awp_region
    | apply aops_nil
    | apply aops_move
    | apply aops_assign
    | (apply aops_box; exact rfl; exact rfl; exact rfl; exact rfl)
    | (apply aops_fieldAddr_bx; exact rfl; exact rfl; exact rfl)
    | (apply aops_load_loc; exact rfl; exact rfl; exact rfl; exact rfl; exact rfl)
    | (apply aops_call1; exact Tryz.call139; exact kind_c _ _ (by omega)))
  refine aops_call Tryz.call140 ((pahead_c b o n p _ no at' text ended (kindOf text) ⟨c1, c2, c3, c4, P.pre⟩ hB (by omega) ht).mono ?_)
  rintro _ st1 ⟨rfl, hp, hk⟩
  have hlx : st1[st.length + 0]? = some (.cells 0 102 (lnO no at' text ended).cells) := (hk.same (st.length + 0) (by omega) (by simp) (.inr (notTip_cells (get_loc rfl)))).trans (get_loc rfl)
  have hk1 : Keep b o st st1 := (keep_app hle).trans hk
  have hB1 := aheadP_pb (no := no) (ended := ended) (kind := kindOf text) hB (by omega) ht
  cases hah : (aheadP p no text ended (kindOf text)).1 with
  | some e =>
    obtain ⟨a, m⟩ := e
    have he : takeP p no text ended = (some (a, m), p) := by unfold takeP; rw [hah]
    rw [errP_some rfl, he]
    show AOps _ _ _ _ _ _ _
    repeat' (first
      | apply awp_seq
      | apply awp_region
      | apply aops_nil
      | apply aops_move
      | apply aops_assign
      | (apply awp_cond_any; exact rfl; first | (apply cd_dt; (first | assumption | omega)) | (apply cd_df; (first | assumption | omega)) | (apply cd_nt; (first | exact rfl | assumption)) | (apply cd_nf; (first | exact rfl | assumption)) | (apply cd_n <;> intro h) | (apply cd_t; (first | exact rfl | assumption)) | (apply cd_f; (first | exact rfl | assumption)) | (apply cd_d <;> intro h) | (apply cd_s <;> intro h))
      | (apply aops_errNeNil; exact rfl; exact rfl)
      | apply awp_ret)
    exact aret_plain rfl (ares_one rfl) ⟨rfl, nofun, hk1⟩
  | none =>
    replace hp := hp hah
    have he : takeP p no text ended = if kindOf text = 5 ∨ ended = false then (some (no, 2), p)
        else if kindOf text = 1 then (none, { (aheadP p no text ended (kindOf text)).2 with items := (aheadP p no text ended (kindOf text)).2.items ++ [⟨1, text ++ [10], []⟩] })
        else if kindOf text = 4 then (none, { beginP (aheadP p no text ended (kindOf text)).2 no text with block := (aheadP p no text ended (kindOf text)).2.block ++ [text] })
        else (none, { (aheadP p no text ended (kindOf text)).2 with block := (aheadP p no text ended (kindOf text)).2.block ++ [text] }) := by unfold takeP; rw [hah]
    rw [he]
    generalize (aheadP p no text ended (kindOf text)).2 = p1 at hp hB1
    clear he hah
    show AOps _ _ _ _ _ _ _
    by_cases k5 : kindOf text = 5
    · rw [if_pos (.inl k5)]
      repeat' (first
        | apply awp_seq
        | apply awp_block
        | apply awp_region
        | apply aops_nil
        | apply aops_move
        | apply aops_assign
        | (apply aops_cmpI; exact rfl; exact rfl; exact rfl)
        | (apply aops_guard_any; exact rfl; exact rfl; exact rfl; exact rfl)
        | (apply gd_skip_d; (first | assumption | omega))
        | (apply aops_pick_any; exact rfl; first | (apply pk_dt; (first | assumption | omega)) | (apply pk_df; (first | assumption | omega)) | (apply pk_nt; (first | exact rfl | assumption)) | (apply pk_nf; (first | exact rfl | assumption)) | (apply pk_t; (first | exact rfl | assumption)) | (apply pk_f; (first | exact rfl | assumption)))
        | (apply awp_cond_any; exact rfl; first | (apply cd_dt; (first | assumption | omega)) | (apply cd_df; (first | assumption | omega)) | (apply cd_nt; (first | exact rfl | assumption)) | (apply cd_nf; (first | exact rfl | assumption)) | (apply cd_n <;> intro h) | (apply cd_t; (first | exact rfl | assumption)) | (apply cd_f; (first | exact rfl | assumption)) | (apply cd_d <;> intro h) | (apply cd_s <;> intro h))
        | (apply aops_nilNeNil; exact rfl; exact rfl)
        | (apply aops_makeInterface; exact rfl; exact rfl)
        | (apply aops_fieldAddr_bx; exact rfl; exact rfl; exact rfl)
        | apply awp_skip
        | apply awp_ret
        | (apply aops_call1; exact Tryz.call141; exact pfault_c _ _ _)
        | (apply aops_load_bx; exact rfl; exact hlx; exact rfl; exact rfl))
      exact aret_plain rfl (ares_one rfl) ⟨rfl, nofun, hk1⟩
    · cases ended
      · rw [if_pos (.inr rfl)]
        repeat' (first
          | apply awp_seq
          | apply awp_block
          | apply awp_region
          | apply aops_nil
          | apply aops_move
          | apply aops_assign
          | (apply aops_cmpI; exact rfl; exact rfl; exact rfl)
          | (apply aops_not; exact rfl)
          | (apply aops_guard_any; exact rfl; exact rfl; exact rfl; exact rfl)
          | (apply gd_run_n; (first | assumption | omega))
          | (apply aops_pick_any; exact rfl; first | (apply pk_dt; (first | assumption | omega)) | (apply pk_df; (first | assumption | omega)) | (apply pk_nt; (first | exact rfl | assumption)) | (apply pk_nf; (first | exact rfl | assumption)) | (apply pk_t; (first | exact rfl | assumption)) | (apply pk_f; (first | exact rfl | assumption)))
          | (apply awp_cond_any; exact rfl; first | (apply cd_dt; (first | assumption | omega)) | (apply cd_df; (first | assumption | omega)) | (apply cd_nt; (first | exact rfl | assumption)) | (apply cd_nf; (first | exact rfl | assumption)) | (apply cd_n <;> intro h) | (apply cd_t; (first | exact rfl | assumption)) | (apply cd_f; (first | exact rfl | assumption)) | (apply cd_d <;> intro h) | (apply cd_s <;> intro h))
          | (apply aops_nilNeNil; exact rfl; exact rfl)
          | (apply aops_makeInterface; exact rfl; exact rfl)
          | (apply aops_fieldAddr_bx; exact rfl; exact rfl; exact rfl)
          | apply awp_skip
          | apply awp_ret
          | (apply aops_call1; exact Tryz.call141; exact pfault_c _ _ _)
          | (apply aops_load_bx; exact rfl; exact hlx; exact rfl; exact rfl))
        exact aret_plain rfl (ares_one rfl) ⟨rfl, nofun, hk1⟩
      · rw [if_neg (by simp [k5])]
        by_cases k1 : kindOf text = 1
        · rw [if_pos k1]
          obtain ⟨d1, d2, d3, d4, P1⟩ := hp
          obtain ⟨ls, fr, fu, its, bk, fs, rc⟩ := p1
          have hob1 : st1[o]? = some (.cells 0 140 [d1, Iv fr, Bv fu, d2, d3, d4, Iv rc]) := P1.ob
          have hle1 := P1.le
          have hol : o < st1.length := by omega
          have hin : its.length ≤ n + 2 := hB1.items
          have hil : (its.map itemA).length = its.length := by simp
          repeat' (first
            | apply awp_seq
            | apply awp_block
            | apply awp_region
            | apply aops_nil
            | apply aops_move
            | apply aops_assign
            | (apply aops_cmpI; exact rfl; exact rfl; exact rfl)
            | (apply aops_not; exact rfl)
            | (apply aops_guard_any; exact rfl; exact rfl; exact rfl; exact rfl)
            | (apply gd_run_n; (first | assumption | omega))
            | (apply aops_pick_any; exact rfl; first | (apply pk_dt; (first | assumption | omega)) | (apply pk_df; (first | assumption | omega)) | (apply pk_nt; (first | exact rfl | assumption)) | (apply pk_nf; (first | exact rfl | assumption)) | (apply pk_t; (first | exact rfl | assumption)) | (apply pk_f; (first | exact rfl | assumption)))
            | (apply awp_cond_any; exact rfl; first | (apply cd_dt; (first | assumption | omega)) | (apply cd_df; (first | assumption | omega)) | (apply cd_nt; (first | exact rfl | assumption)) | (apply cd_nf; (first | exact rfl | assumption)) | (apply cd_n <;> intro h) | (apply cd_t; (first | exact rfl | assumption)) | (apply cd_f; (first | exact rfl | assumption)) | (apply cd_d <;> intro h) | (apply cd_s <;> intro h))
            | (apply aops_nilNeNil; exact rfl; exact rfl)
            | (apply aops_fieldAddr_bx; exact rfl; exact rfl; exact rfl)
            | apply awp_skip
            | (apply aops_load_bx; exact rfl; exact hlx; exact rfl; exact rfl))
          refine awp_cut (fun s => s.df = [] ∧ Par b o ⟨ls, fr, fu, its ++ [⟨1, text ++ [10], []⟩], bk, fs, rc⟩ s.st ∧ Keep b o st s.st) ?_ ?_
          · refine awp_drawZ rfl rfl ?_
            (apply az_take 0; exact rfl; kernel_rfl; kernel_rfl; kernel_rfl; exact rfl; exact ay_move)
            (apply az_take 1; exact rfl; kernel_rfl; kernel_rfl; kernel_rfl; exact rfl; exact ay_move)
            (apply az_take 2; exact rfl; kernel_rfl; kernel_rfl; kernel_rfl; exact rfl; (apply ay_nilCheck; exact rfl; exact rfl))
            (apply az_take 3; exact rfl; kernel_rfl; kernel_rfl; kernel_rfl; exact rfl; (first | (apply ay_fieldAddr_bx; exact rfl; exact rfl; exact rfl) | (apply ay_fieldAddr_pp; exact rfl; exact rfl; exact rfl; exact rfl)))
            (apply az_take 5; exact rfl; kernel_rfl; kernel_rfl; kernel_rfl; exact rfl; (first | (apply ay_fieldAddr_bx; exact rfl; exact rfl; exact rfl) | (apply ay_fieldAddr_pp; exact rfl; exact rfl; exact rfl; exact rfl)))
            refine az_all [4, 6] (by kernel_rfl) rfl ⟨⟨_, rfl, ?_⟩, ⟨_, rfl, ?_⟩, trivial⟩
            · (first | (apply aops_load_bx; exact rfl; exact hob1; exact rfl; exact rfl) | (apply aops_load_bx; exact rfl; exact hlx; exact rfl; exact rfl) | (apply aops_load_mid; exact rfl; exact rfl; exact rfl; exact rfl; exact rfl) | (apply aops_load_loc; exact rfl; exact rfl; exact rfl; exact rfl; exact rfl) | (apply aops_load_pp; exact rfl; exact rfl; exact rfl))
              apply aops_nil
              refine az_all [6] (by kernel_rfl) rfl ⟨⟨_, rfl, ?_⟩, trivial⟩
              (first | (apply aops_load_bx; exact rfl; exact hob1; exact rfl; exact rfl) | (apply aops_load_bx; exact rfl; exact hlx; exact rfl; exact rfl) | (apply aops_load_mid; exact rfl; exact rfl; exact rfl; exact rfl; exact rfl) | (apply aops_load_loc; exact rfl; exact rfl; exact rfl; exact rfl; exact rfl) | (apply aops_load_pp; exact rfl; exact rfl; exact rfl))
              apply aops_nil
              (apply az_take 7; exact rfl; kernel_rfl; kernel_rfl; kernel_rfl; exact rfl; (apply ay_concat; exact rfl; exact rfl; (first | omega | (simp only [List.length_append, List.length_cons, List.length_nil]; omega))))
              (apply az_take 8; exact rfl; kernel_rfl; kernel_rfl; kernel_rfl; exact rfl; (apply ay_build; exact rfl; exact rfl; exact rfl))
              refine az_all [9] (by kernel_rfl) rfl ⟨⟨_, rfl, ?_⟩, trivial⟩
              (first | (apply aops_weak 40 rfl (weak_item 1 (text ++ [10])); apply aops_buildSlice; exact rfl; exact rfl; exact rfl; exact rfl; exact rfl; exact rfl; exact rfl; exact rfl; exact rfl) | (apply aops_buildSlice; exact rfl; exact rfl; exact rfl; exact rfl; exact rfl; exact rfl; exact rfl; exact rfl; exact rfl))
              apply aops_nil
              refine az_all [10] (by kernel_rfl) rfl ⟨⟨_, rfl, ?_⟩, trivial⟩
              (apply aops_appendT (b := b) (xs := its.map itemA) (ys := [itemA ⟨1, text ++ [10], []⟩]) (bytes := 48); exact rfl; exact rfl; exact P1.h2; exact hle1; exact rfl; exact rfl; exact rfl; exact ⟨⟨_, _, rfl, rfl, rfl, rfl, rfl⟩⟩; exact rfl; (simp [maxLen]; omega); (simp; omega); intro t4 st4 g1 g2 g3 g4; have ho4 := (g3.same o (by omega) hol).trans hob1)
              apply aops_nil
              (apply az_take 11; exact rfl; kernel_rfl; kernel_rfl; kernel_rfl; exact rfl; (apply ay_nilCheck; exact rfl; exact rfl))
              (apply az_take 12; exact rfl; kernel_rfl; kernel_rfl; kernel_rfl; exact rfl; (first | (apply ay_fieldAddr_bx; exact rfl; exact rfl; exact rfl) | (apply ay_fieldAddr_pp; exact rfl; exact rfl; exact rfl; exact rfl)))
              refine az_all [13] (by kernel_rfl) rfl ⟨⟨_, rfl, ?_⟩, trivial⟩
              (first | (apply aops_store_at; exact rfl; exact rfl; exact ho4; exact rfl; exact rfl; exact rfl; exact rfl; exact rfl; exact rfl) | (apply aops_store_mid; exact rfl; exact rfl; exact rfl; exact rfl; exact rfl; exact rfl; exact rfl; exact rfl; exact rfl; exact rfl; exact rfl) | (apply aops_store_loc; exact rfl; exact rfl; exact rfl; exact rfl; exact rfl; exact rfl; exact rfl; exact rfl; exact rfl; exact rfl; exact rfl))
              apply aops_nil
              refine az_done (by kernel_rfl) ?_
              exact ⟨rfl, par_items P1 g1 g2 g3 g4, hk1.trans ((keep_fr g3 hle1 g2 P1.h2 g4).trans keep_set)⟩
            · (first | (apply aops_load_bx; exact rfl; exact hob1; exact rfl; exact rfl) | (apply aops_load_bx; exact rfl; exact hlx; exact rfl; exact rfl) | (apply aops_load_mid; exact rfl; exact rfl; exact rfl; exact rfl; exact rfl) | (apply aops_load_loc; exact rfl; exact rfl; exact rfl; exact rfl; exact rfl) | (apply aops_load_pp; exact rfl; exact rfl; exact rfl))
              apply aops_nil
              (apply az_take 7; exact rfl; kernel_rfl; kernel_rfl; kernel_rfl; exact rfl; (apply ay_concat; exact rfl; exact rfl; (first | omega | (simp only [List.length_append, List.length_cons, List.length_nil]; omega))))
              (apply az_take 8; exact rfl; kernel_rfl; kernel_rfl; kernel_rfl; exact rfl; (apply ay_build; exact rfl; exact rfl; exact rfl))
              refine az_all [4, 9] (by kernel_rfl) rfl ⟨⟨_, rfl, ?_⟩, ⟨_, rfl, ?_⟩, trivial⟩
              · (first | (apply aops_load_bx; exact rfl; exact hob1; exact rfl; exact rfl) | (apply aops_load_bx; exact rfl; exact hlx; exact rfl; exact rfl) | (apply aops_load_mid; exact rfl; exact rfl; exact rfl; exact rfl; exact rfl) | (apply aops_load_loc; exact rfl; exact rfl; exact rfl; exact rfl; exact rfl) | (apply aops_load_pp; exact rfl; exact rfl; exact rfl))
                apply aops_nil
                refine az_all [9] (by kernel_rfl) rfl ⟨⟨_, rfl, ?_⟩, trivial⟩
                (first | (apply aops_weak 40 rfl (weak_item 1 (text ++ [10])); apply aops_buildSlice; exact rfl; exact rfl; exact rfl; exact rfl; exact rfl; exact rfl; exact rfl; exact rfl; exact rfl) | (apply aops_buildSlice; exact rfl; exact rfl; exact rfl; exact rfl; exact rfl; exact rfl; exact rfl; exact rfl; exact rfl))
                apply aops_nil
                refine az_all [10] (by kernel_rfl) rfl ⟨⟨_, rfl, ?_⟩, trivial⟩
                (apply aops_appendT (b := b) (xs := its.map itemA) (ys := [itemA ⟨1, text ++ [10], []⟩]) (bytes := 48); exact rfl; exact rfl; exact P1.h2; exact hle1; exact rfl; exact rfl; exact rfl; exact ⟨⟨_, _, rfl, rfl, rfl, rfl, rfl⟩⟩; exact rfl; (simp [maxLen]; omega); (simp; omega); intro t4 st4 g1 g2 g3 g4; have ho4 := (g3.same o (by omega) hol).trans hob1)
                apply aops_nil
                (apply az_take 11; exact rfl; kernel_rfl; kernel_rfl; kernel_rfl; exact rfl; (apply ay_nilCheck; exact rfl; exact rfl))
                (apply az_take 12; exact rfl; kernel_rfl; kernel_rfl; kernel_rfl; exact rfl; (first | (apply ay_fieldAddr_bx; exact rfl; exact rfl; exact rfl) | (apply ay_fieldAddr_pp; exact rfl; exact rfl; exact rfl; exact rfl)))
                refine az_all [13] (by kernel_rfl) rfl ⟨⟨_, rfl, ?_⟩, trivial⟩
                (first | (apply aops_store_at; exact rfl; exact rfl; exact ho4; exact rfl; exact rfl; exact rfl; exact rfl; exact rfl; exact rfl) | (apply aops_store_mid; exact rfl; exact rfl; exact rfl; exact rfl; exact rfl; exact rfl; exact rfl; exact rfl; exact rfl; exact rfl; exact rfl) | (apply aops_store_loc; exact rfl; exact rfl; exact rfl; exact rfl; exact rfl; exact rfl; exact rfl; exact rfl; exact rfl; exact rfl; exact rfl))
                apply aops_nil
                refine az_done (by kernel_rfl) ?_
                exact ⟨rfl, par_items P1 g1 g2 g3 g4, hk1.trans ((keep_fr g3 hle1 g2 P1.h2 g4).trans keep_set)⟩
              · (first | (apply aops_weak 40 rfl (weak_item 1 (text ++ [10])); apply aops_buildSlice; exact rfl; exact rfl; exact rfl; exact rfl; exact rfl; exact rfl; exact rfl; exact rfl; exact rfl) | (apply aops_buildSlice; exact rfl; exact rfl; exact rfl; exact rfl; exact rfl; exact rfl; exact rfl; exact rfl; exact rfl))
                apply aops_nil
                refine az_all [4] (by kernel_rfl) rfl ⟨⟨_, rfl, ?_⟩, trivial⟩
                (first | (apply aops_load_bx; exact rfl; exact hob1; exact rfl; exact rfl) | (apply aops_load_bx; exact rfl; exact hlx; exact rfl; exact rfl) | (apply aops_load_mid; exact rfl; exact rfl; exact rfl; exact rfl; exact rfl) | (apply aops_load_loc; exact rfl; exact rfl; exact rfl; exact rfl; exact rfl) | (apply aops_load_pp; exact rfl; exact rfl; exact rfl))
                apply aops_nil
                refine az_all [10] (by kernel_rfl) rfl ⟨⟨_, rfl, ?_⟩, trivial⟩
                (apply aops_appendT (b := b) (xs := its.map itemA) (ys := [itemA ⟨1, text ++ [10], []⟩]) (bytes := 48); exact rfl; exact rfl; exact P1.h2; exact hle1; exact rfl; exact rfl; exact rfl; exact ⟨⟨_, _, rfl, rfl, rfl, rfl, rfl⟩⟩; exact rfl; (simp [maxLen]; omega); (simp; omega); intro t4 st4 g1 g2 g3 g4; have ho4 := (g3.same o (by omega) hol).trans hob1)
                apply aops_nil
                (apply az_take 11; exact rfl; kernel_rfl; kernel_rfl; kernel_rfl; exact rfl; (apply ay_nilCheck; exact rfl; exact rfl))
                (apply az_take 12; exact rfl; kernel_rfl; kernel_rfl; kernel_rfl; exact rfl; (first | (apply ay_fieldAddr_bx; exact rfl; exact rfl; exact rfl) | (apply ay_fieldAddr_pp; exact rfl; exact rfl; exact rfl; exact rfl)))
                refine az_all [13] (by kernel_rfl) rfl ⟨⟨_, rfl, ?_⟩, trivial⟩
                (first | (apply aops_store_at; exact rfl; exact rfl; exact ho4; exact rfl; exact rfl; exact rfl; exact rfl; exact rfl; exact rfl) | (apply aops_store_mid; exact rfl; exact rfl; exact rfl; exact rfl; exact rfl; exact rfl; exact rfl; exact rfl; exact rfl; exact rfl; exact rfl) | (apply aops_store_loc; exact rfl; exact rfl; exact rfl; exact rfl; exact rfl; exact rfl; exact rfl; exact rfl; exact rfl; exact rfl; exact rfl))
                apply aops_nil
                refine az_done (by kernel_rfl) ?_
                exact ⟨rfl, par_items P1 g1 g2 g3 g4, hk1.trans ((keep_fr g3 hle1 g2 P1.h2 g4).trans keep_set)⟩
          · rintro ⟨t2, st2, df2⟩ ⟨hd, hp2, hk2⟩
            simp only at hd hp2 hk2
            subst hd
            repeat' (first
              | apply awp_seq
              | apply awp_region
              | apply aops_nil
              | apply aops_assign
              | apply awp_ret)
            exact aret_plain rfl (ares_one rfl) ⟨rfl, fun _ => hp2, hk2⟩
        · rw [if_neg k1]
          by_cases k4 : kindOf text = 4
          · rw [if_pos k4]
            repeat' (first
              | apply awp_seq
              | apply awp_block
              | apply awp_region
              | apply aops_nil
              | apply aops_move
              | apply aops_assign
              | (apply aops_cmpI; exact rfl; exact rfl; exact rfl)
              | (apply aops_not; exact rfl)
              | (apply aops_guard_any; exact rfl; exact rfl; exact rfl; exact rfl)
              | (apply gd_run_n; (first | assumption | omega))
              | (apply aops_pick_any; exact rfl; first | (apply pk_dt; (first | assumption | omega)) | (apply pk_df; (first | assumption | omega)) | (apply pk_nt; (first | exact rfl | assumption)) | (apply pk_nf; (first | exact rfl | assumption)) | (apply pk_t; (first | exact rfl | assumption)) | (apply pk_f; (first | exact rfl | assumption)))
              | (apply awp_cond_any; exact rfl; first | (apply cd_dt; (first | assumption | omega)) | (apply cd_df; (first | assumption | omega)) | (apply cd_nt; (first | exact rfl | assumption)) | (apply cd_nf; (first | exact rfl | assumption)) | (apply cd_n <;> intro h) | (apply cd_t; (first | exact rfl | assumption)) | (apply cd_f; (first | exact rfl | assumption)) | (apply cd_d <;> intro h) | (apply cd_s <;> intro h))
              | (apply aops_nilNeNil; exact rfl; exact rfl)
              | (apply aops_fieldAddr_bx; exact rfl; exact rfl; exact rfl)
              | apply awp_skip
              | (apply aops_load_bx; exact rfl; exact hlx; exact rfl; exact rfl))
            refine aops_call Tryz.call142 ((pbegin_c b o p1 _ no at' text true hp).mono ?_)
            rintro _ stX ⟨rfl, hpX, hkb⟩
            have hlX : stX[st.length + 0]? = some (.cells 0 102 (lnO no at' text true).cells) := (hkb.same (st.length + 0) (by omega) (lt_of_getElem? hlx) (.inr (notTip_cells hlx))).trans hlx
            have hBX : PB (n + 3) (beginP p1 no text) := pb_begin hB1 (by omega) ht
            have hkX : Keep b o st stX := hk1.trans hkb
            show AOps _ _ _ _ _ _ _
            repeat' (first
              | apply awp_seq
              | apply aops_nil)
            rw [show p1.block = (beginP p1 no text).block from rfl]
            generalize beginP p1 no text = pX at hpX hBX
            refine awp_state [(0, .bx o 0 0), (3, .bx (st.length + 0) 0 0)] stX [] ⟨rfl, rfl, trivial⟩ rfl rfl fun t => ?_
            obtain ⟨d1, d2, d3, d4, P1⟩ := hpX
            obtain ⟨ls, fr, fu, its, bk, fs, rc⟩ := pX
            have hob1 : stX[o]? = some (.cells 0 140 [d1, Iv fr, Bv fu, d2, d3, d4, Iv rc]) := P1.ob
            have hle1 := P1.le
            have hol : o < stX.length := by omega
            have hin : bk.length ≤ n + 3 := hBX.block
            have hil : (bk.map fun x => Sv x).length = bk.length := by simp
            refine awp_cut (fun s => s.df = [] ∧ Par b o ⟨ls, fr, fu, its, bk ++ [text], fs, rc⟩ s.st ∧ Keep b o st s.st) ?_ ?_
            · refine awp_drawZ rfl rfl ?_
              (apply az_take 0; exact rfl; kernel_rfl; kernel_rfl; kernel_rfl; exact rfl; exact ay_move)
              (apply az_take 1; exact rfl; kernel_rfl; kernel_rfl; kernel_rfl; exact rfl; exact ay_move)
              (apply az_take 2; exact rfl; kernel_rfl; kernel_rfl; kernel_rfl; exact rfl; (apply ay_nilCheck; exact rfl; exact rfl))
              (apply az_take 3; exact rfl; kernel_rfl; kernel_rfl; kernel_rfl; exact rfl; (first | (apply ay_fieldAddr_bx; exact rfl; exact rfl; exact rfl) | (apply ay_fieldAddr_pp; exact rfl; exact rfl; exact rfl; exact rfl)))
              (apply az_take 5; exact rfl; kernel_rfl; kernel_rfl; kernel_rfl; exact rfl; (first | (apply ay_fieldAddr_bx; exact rfl; exact rfl; exact rfl) | (apply ay_fieldAddr_pp; exact rfl; exact rfl; exact rfl; exact rfl)))
              refine az_all [4, 6] (by kernel_rfl) rfl ⟨⟨_, rfl, ?_⟩, ⟨_, rfl, ?_⟩, trivial⟩
              · (first | (apply aops_load_bx; exact rfl; exact hob1; exact rfl; exact rfl) | (apply aops_load_bx; exact rfl; exact hlX; exact rfl; exact rfl) | (apply aops_load_mid; exact rfl; exact rfl; exact rfl; exact rfl; exact rfl) | (apply aops_load_loc; exact rfl; exact rfl; exact rfl; exact rfl; exact rfl) | (apply aops_load_pp; exact rfl; exact rfl; exact rfl))
                apply aops_nil
                refine az_all [6] (by kernel_rfl) rfl ⟨⟨_, rfl, ?_⟩, trivial⟩
                (first | (apply aops_load_bx; exact rfl; exact hob1; exact rfl; exact rfl) | (apply aops_load_bx; exact rfl; exact hlX; exact rfl; exact rfl) | (apply aops_load_mid; exact rfl; exact rfl; exact rfl; exact rfl; exact rfl) | (apply aops_load_loc; exact rfl; exact rfl; exact rfl; exact rfl; exact rfl) | (apply aops_load_pp; exact rfl; exact rfl; exact rfl))
                apply aops_nil
                refine az_all [7] (by kernel_rfl) rfl ⟨⟨_, rfl, ?_⟩, trivial⟩
                (apply aops_buildSlice; exact rfl; exact rfl; exact rfl; exact rfl; exact rfl; exact rfl; exact rfl; exact rfl; exact rfl)
                apply aops_nil
                refine az_all [8] (by kernel_rfl) rfl ⟨⟨_, rfl, ?_⟩, trivial⟩
                (apply aops_appendT (b := b) (xs := bk.map fun x => Sv x) (ys := [Sv text]) (bytes := 16); exact rfl; exact rfl; exact P1.h3; exact hle1; exact rfl; exact rfl; exact rfl; exact ⟨⟨_, _, rfl, rfl, rfl, rfl, rfl⟩⟩; exact rfl; (simp [maxLen]; omega); (simp; omega); intro t4 st4 g1 g2 g3 g4; have ho4 := (g3.same o (by omega) hol).trans hob1)
                apply aops_nil
                (apply az_take 9; exact rfl; kernel_rfl; kernel_rfl; kernel_rfl; exact rfl; (apply ay_nilCheck; exact rfl; exact rfl))
                (apply az_take 10; exact rfl; kernel_rfl; kernel_rfl; kernel_rfl; exact rfl; (first | (apply ay_fieldAddr_bx; exact rfl; exact rfl; exact rfl) | (apply ay_fieldAddr_pp; exact rfl; exact rfl; exact rfl; exact rfl)))
                refine az_all [11] (by kernel_rfl) rfl ⟨⟨_, rfl, ?_⟩, trivial⟩
                (first | (apply aops_store_at; exact rfl; exact rfl; exact ho4; exact rfl; exact rfl; exact rfl; exact rfl; exact rfl; exact rfl) | (apply aops_store_mid; exact rfl; exact rfl; exact rfl; exact rfl; exact rfl; exact rfl; exact rfl; exact rfl; exact rfl; exact rfl; exact rfl) | (apply aops_store_loc; exact rfl; exact rfl; exact rfl; exact rfl; exact rfl; exact rfl; exact rfl; exact rfl; exact rfl; exact rfl; exact rfl))
                apply aops_nil
                refine az_done (by kernel_rfl) ?_
                exact ⟨rfl, par_block P1 g1 g2 g3 g4, hkX.trans ((keep_fr g3 hle1 g2 P1.h3 g4).trans keep_set)⟩
              · (first | (apply aops_load_bx; exact rfl; exact hob1; exact rfl; exact rfl) | (apply aops_load_bx; exact rfl; exact hlX; exact rfl; exact rfl) | (apply aops_load_mid; exact rfl; exact rfl; exact rfl; exact rfl; exact rfl) | (apply aops_load_loc; exact rfl; exact rfl; exact rfl; exact rfl; exact rfl) | (apply aops_load_pp; exact rfl; exact rfl; exact rfl))
                apply aops_nil
                refine az_all [4, 7] (by kernel_rfl) rfl ⟨⟨_, rfl, ?_⟩, ⟨_, rfl, ?_⟩, trivial⟩
                · (first | (apply aops_load_bx; exact rfl; exact hob1; exact rfl; exact rfl) | (apply aops_load_bx; exact rfl; exact hlX; exact rfl; exact rfl) | (apply aops_load_mid; exact rfl; exact rfl; exact rfl; exact rfl; exact rfl) | (apply aops_load_loc; exact rfl; exact rfl; exact rfl; exact rfl; exact rfl) | (apply aops_load_pp; exact rfl; exact rfl; exact rfl))
                  apply aops_nil
                  refine az_all [7] (by kernel_rfl) rfl ⟨⟨_, rfl, ?_⟩, trivial⟩
                  (apply aops_buildSlice; exact rfl; exact rfl; exact rfl; exact rfl; exact rfl; exact rfl; exact rfl; exact rfl; exact rfl)
                  apply aops_nil
                  refine az_all [8] (by kernel_rfl) rfl ⟨⟨_, rfl, ?_⟩, trivial⟩
                  (apply aops_appendT (b := b) (xs := bk.map fun x => Sv x) (ys := [Sv text]) (bytes := 16); exact rfl; exact rfl; exact P1.h3; exact hle1; exact rfl; exact rfl; exact rfl; exact ⟨⟨_, _, rfl, rfl, rfl, rfl, rfl⟩⟩; exact rfl; (simp [maxLen]; omega); (simp; omega); intro t4 st4 g1 g2 g3 g4; have ho4 := (g3.same o (by omega) hol).trans hob1)
                  apply aops_nil
                  (apply az_take 9; exact rfl; kernel_rfl; kernel_rfl; kernel_rfl; exact rfl; (apply ay_nilCheck; exact rfl; exact rfl))
                  (apply az_take 10; exact rfl; kernel_rfl; kernel_rfl; kernel_rfl; exact rfl; (first | (apply ay_fieldAddr_bx; exact rfl; exact rfl; exact rfl) | (apply ay_fieldAddr_pp; exact rfl; exact rfl; exact rfl; exact rfl)))
                  refine az_all [11] (by kernel_rfl) rfl ⟨⟨_, rfl, ?_⟩, trivial⟩
                  (first | (apply aops_store_at; exact rfl; exact rfl; exact ho4; exact rfl; exact rfl; exact rfl; exact rfl; exact rfl; exact rfl) | (apply aops_store_mid; exact rfl; exact rfl; exact rfl; exact rfl; exact rfl; exact rfl; exact rfl; exact rfl; exact rfl; exact rfl; exact rfl) | (apply aops_store_loc; exact rfl; exact rfl; exact rfl; exact rfl; exact rfl; exact rfl; exact rfl; exact rfl; exact rfl; exact rfl; exact rfl))
                  apply aops_nil
                  refine az_done (by kernel_rfl) ?_
                  exact ⟨rfl, par_block P1 g1 g2 g3 g4, hkX.trans ((keep_fr g3 hle1 g2 P1.h3 g4).trans keep_set)⟩
                · (apply aops_buildSlice; exact rfl; exact rfl; exact rfl; exact rfl; exact rfl; exact rfl; exact rfl; exact rfl; exact rfl)
                  apply aops_nil
                  refine az_all [4] (by kernel_rfl) rfl ⟨⟨_, rfl, ?_⟩, trivial⟩
                  (first | (apply aops_load_bx; exact rfl; exact hob1; exact rfl; exact rfl) | (apply aops_load_bx; exact rfl; exact hlX; exact rfl; exact rfl) | (apply aops_load_mid; exact rfl; exact rfl; exact rfl; exact rfl; exact rfl) | (apply aops_load_loc; exact rfl; exact rfl; exact rfl; exact rfl; exact rfl) | (apply aops_load_pp; exact rfl; exact rfl; exact rfl))
                  apply aops_nil
                  refine az_all [8] (by kernel_rfl) rfl ⟨⟨_, rfl, ?_⟩, trivial⟩
                  (apply aops_appendT (b := b) (xs := bk.map fun x => Sv x) (ys := [Sv text]) (bytes := 16); exact rfl; exact rfl; exact P1.h3; exact hle1; exact rfl; exact rfl; exact rfl; exact ⟨⟨_, _, rfl, rfl, rfl, rfl, rfl⟩⟩; exact rfl; (simp [maxLen]; omega); (simp; omega); intro t4 st4 g1 g2 g3 g4; have ho4 := (g3.same o (by omega) hol).trans hob1)
                  apply aops_nil
                  (apply az_take 9; exact rfl; kernel_rfl; kernel_rfl; kernel_rfl; exact rfl; (apply ay_nilCheck; exact rfl; exact rfl))
                  (apply az_take 10; exact rfl; kernel_rfl; kernel_rfl; kernel_rfl; exact rfl; (first | (apply ay_fieldAddr_bx; exact rfl; exact rfl; exact rfl) | (apply ay_fieldAddr_pp; exact rfl; exact rfl; exact rfl; exact rfl)))
                  refine az_all [11] (by kernel_rfl) rfl ⟨⟨_, rfl, ?_⟩, trivial⟩
                  (first | (apply aops_store_at; exact rfl; exact rfl; exact ho4; exact rfl; exact rfl; exact rfl; exact rfl; exact rfl; exact rfl) | (apply aops_store_mid; exact rfl; exact rfl; exact rfl; exact rfl; exact rfl; exact rfl; exact rfl; exact rfl; exact rfl; exact rfl; exact rfl) | (apply aops_store_loc; exact rfl; exact rfl; exact rfl; exact rfl; exact rfl; exact rfl; exact rfl; exact rfl; exact rfl; exact rfl; exact rfl))
                  apply aops_nil
                  refine az_done (by kernel_rfl) ?_
                  exact ⟨rfl, par_block P1 g1 g2 g3 g4, hkX.trans ((keep_fr g3 hle1 g2 P1.h3 g4).trans keep_set)⟩
            · rintro ⟨t2, st2, df2⟩ ⟨hd, hp2, hk2⟩
              simp only at hd hp2 hk2
              subst hd
              repeat' (first
                | apply awp_seq
                | apply awp_region
                | apply aops_nil
                | apply aops_assign
                | apply awp_ret)
              exact aret_plain rfl (ares_one rfl) ⟨rfl, fun _ => hp2, hk2⟩
          · rw [if_neg k4]
            repeat' (first
              | apply awp_seq
              | apply awp_block
              | apply awp_region
              | apply aops_nil
              | apply aops_move
              | apply aops_assign
              | (apply aops_cmpI; exact rfl; exact rfl; exact rfl)
              | (apply aops_not; exact rfl)
              | (apply aops_guard_any; exact rfl; exact rfl; exact rfl; exact rfl)
              | (apply gd_run_n; (first | assumption | omega))
              | (apply aops_pick_any; exact rfl; first | (apply pk_dt; (first | assumption | omega)) | (apply pk_df; (first | assumption | omega)) | (apply pk_nt; (first | exact rfl | assumption)) | (apply pk_nf; (first | exact rfl | assumption)) | (apply pk_t; (first | exact rfl | assumption)) | (apply pk_f; (first | exact rfl | assumption)))
              | (apply awp_cond_any; exact rfl; first | (apply cd_dt; (first | assumption | omega)) | (apply cd_df; (first | assumption | omega)) | (apply cd_nt; (first | exact rfl | assumption)) | (apply cd_nf; (first | exact rfl | assumption)) | (apply cd_n <;> intro h) | (apply cd_t; (first | exact rfl | assumption)) | (apply cd_f; (first | exact rfl | assumption)) | (apply cd_d <;> intro h) | (apply cd_s <;> intro h))
              | (apply aops_nilNeNil; exact rfl; exact rfl)
              | (apply aops_fieldAddr_bx; exact rfl; exact rfl; exact rfl)
              | apply awp_skip
              | (apply aops_load_bx; exact rfl; exact hlx; exact rfl; exact rfl))
            obtain ⟨stX, hsX⟩ : ∃ x, x = st1 := ⟨_, rfl⟩
            obtain ⟨pX, hpX0⟩ : ∃ x, x = p1 := ⟨_, rfl⟩
            have hpX : Par b o pX stX := by rw [hpX0, hsX]; exact hp
            have hBX : PB (n + 3) pX := by rw [hpX0]; exact hB1.more (by omega) (by omega)
            have hkX : Keep b o st stX := by rw [hsX]; exact hk1
            have hlX : stX[st.length + 0]? = some (.cells 0 102 (lnO no at' text true).cells) := by rw [hsX]; exact hlx
            rw [← hpX0]
            refine awp_state [(0, .bx o 0 0), (3, .bx (st.length + 0) 0 0)] stX [] ⟨rfl, rfl, trivial⟩ hsX.symm rfl fun t => ?_
            obtain ⟨d1, d2, d3, d4, P1⟩ := hpX
            obtain ⟨ls, fr, fu, its, bk, fs, rc⟩ := pX
            have hob1 : stX[o]? = some (.cells 0 140 [d1, Iv fr, Bv fu, d2, d3, d4, Iv rc]) := P1.ob
            have hle1 := P1.le
            have hol : o < stX.length := by omega
            have hin : bk.length ≤ n + 3 := hBX.block
            have hil : (bk.map fun x => Sv x).length = bk.length := by simp
            refine awp_cut (fun s => s.df = [] ∧ Par b o ⟨ls, fr, fu, its, bk ++ [text], fs, rc⟩ s.st ∧ Keep b o st s.st) ?_ ?_
            · refine awp_drawZ rfl rfl ?_
              (apply az_take 0; exact rfl; kernel_rfl; kernel_rfl; kernel_rfl; exact rfl; exact ay_move)
              (apply az_take 1; exact rfl; kernel_rfl; kernel_rfl; kernel_rfl; exact rfl; exact ay_move)
              (apply az_take 2; exact rfl; kernel_rfl; kernel_rfl; kernel_rfl; exact rfl; (apply ay_nilCheck; exact rfl; exact rfl))
              (apply az_take 3; exact rfl; kernel_rfl; kernel_rfl; kernel_rfl; exact rfl; (first | (apply ay_fieldAddr_bx; exact rfl; exact rfl; exact rfl) | (apply ay_fieldAddr_pp; exact rfl; exact rfl; exact rfl; exact rfl)))
              (apply az_take 5; exact rfl; kernel_rfl; kernel_rfl; kernel_rfl; exact rfl; (first | (apply ay_fieldAddr_bx; exact rfl; exact rfl; exact rfl) | (apply ay_fieldAddr_pp; exact rfl; exact rfl; exact rfl; exact rfl)))
              refine az_all [4, 6] (by kernel_rfl) rfl ⟨⟨_, rfl, ?_⟩, ⟨_, rfl, ?_⟩, trivial⟩
              · (first | (apply aops_load_bx; exact rfl; exact hob1; exact rfl; exact rfl) | (apply aops_load_bx; exact rfl; exact hlX; exact rfl; exact rfl) | (apply aops_load_mid; exact rfl; exact rfl; exact rfl; exact rfl; exact rfl) | (apply aops_load_loc; exact rfl; exact rfl; exact rfl; exact rfl; exact rfl) | (apply aops_load_pp; exact rfl; exact rfl; exact rfl))
                apply aops_nil
                refine az_all [6] (by kernel_rfl) rfl ⟨⟨_, rfl, ?_⟩, trivial⟩
                (first | (apply aops_load_bx; exact rfl; exact hob1; exact rfl; exact rfl) | (apply aops_load_bx; exact rfl; exact hlX; exact rfl; exact rfl) | (apply aops_load_mid; exact rfl; exact rfl; exact rfl; exact rfl; exact rfl) | (apply aops_load_loc; exact rfl; exact rfl; exact rfl; exact rfl; exact rfl) | (apply aops_load_pp; exact rfl; exact rfl; exact rfl))
                apply aops_nil
                refine az_all [7] (by kernel_rfl) rfl ⟨⟨_, rfl, ?_⟩, trivial⟩
                (apply aops_buildSlice; exact rfl; exact rfl; exact rfl; exact rfl; exact rfl; exact rfl; exact rfl; exact rfl; exact rfl)
                apply aops_nil
                refine az_all [8] (by kernel_rfl) rfl ⟨⟨_, rfl, ?_⟩, trivial⟩
                (apply aops_appendT (b := b) (xs := bk.map fun x => Sv x) (ys := [Sv text]) (bytes := 16); exact rfl; exact rfl; exact P1.h3; exact hle1; exact rfl; exact rfl; exact rfl; exact ⟨⟨_, _, rfl, rfl, rfl, rfl, rfl⟩⟩; exact rfl; (simp [maxLen]; omega); (simp; omega); intro t4 st4 g1 g2 g3 g4; have ho4 := (g3.same o (by omega) hol).trans hob1)
                apply aops_nil
                (apply az_take 9; exact rfl; kernel_rfl; kernel_rfl; kernel_rfl; exact rfl; (apply ay_nilCheck; exact rfl; exact rfl))
                (apply az_take 10; exact rfl; kernel_rfl; kernel_rfl; kernel_rfl; exact rfl; (first | (apply ay_fieldAddr_bx; exact rfl; exact rfl; exact rfl) | (apply ay_fieldAddr_pp; exact rfl; exact rfl; exact rfl; exact rfl)))
                refine az_all [11] (by kernel_rfl) rfl ⟨⟨_, rfl, ?_⟩, trivial⟩
                (first | (apply aops_store_at; exact rfl; exact rfl; exact ho4; exact rfl; exact rfl; exact rfl; exact rfl; exact rfl; exact rfl) | (apply aops_store_mid; exact rfl; exact rfl; exact rfl; exact rfl; exact rfl; exact rfl; exact rfl; exact rfl; exact rfl; exact rfl; exact rfl) | (apply aops_store_loc; exact rfl; exact rfl; exact rfl; exact rfl; exact rfl; exact rfl; exact rfl; exact rfl; exact rfl; exact rfl; exact rfl))
                apply aops_nil
                refine az_done (by kernel_rfl) ?_
                exact ⟨rfl, par_block P1 g1 g2 g3 g4, hkX.trans ((keep_fr g3 hle1 g2 P1.h3 g4).trans keep_set)⟩
              · (first | (apply aops_load_bx; exact rfl; exact hob1; exact rfl; exact rfl) | (apply aops_load_bx; exact rfl; exact hlX; exact rfl; exact rfl) | (apply aops_load_mid; exact rfl; exact rfl; exact rfl; exact rfl; exact rfl) | (apply aops_load_loc; exact rfl; exact rfl; exact rfl; exact rfl; exact rfl) | (apply aops_load_pp; exact rfl; exact rfl; exact rfl))
                apply aops_nil
                refine az_all [4, 7] (by kernel_rfl) rfl ⟨⟨_, rfl, ?_⟩, ⟨_, rfl, ?_⟩, trivial⟩
                · (first | (apply aops_load_bx; exact rfl; exact hob1; exact rfl; exact rfl) | (apply aops_load_bx; exact rfl; exact hlX; exact rfl; exact rfl) | (apply aops_load_mid; exact rfl; exact rfl; exact rfl; exact rfl; exact rfl) | (apply aops_load_loc; exact rfl; exact rfl; exact rfl; exact rfl; exact rfl) | (apply aops_load_pp; exact rfl; exact rfl; exact rfl))
                  apply aops_nil
                  refine az_all [7] (by kernel_rfl) rfl ⟨⟨_, rfl, ?_⟩, trivial⟩
                  (apply aops_buildSlice; exact rfl; exact rfl; exact rfl; exact rfl; exact rfl; exact rfl; exact rfl; exact rfl; exact rfl)
                  apply aops_nil
                  refine az_all [8] (by kernel_rfl) rfl ⟨⟨_, rfl, ?_⟩, trivial⟩
                  (apply aops_appendT (b := b) (xs := bk.map fun x => Sv x) (ys := [Sv text]) (bytes := 16); exact rfl; exact rfl; exact P1.h3; exact hle1; exact rfl; exact rfl; exact rfl; exact ⟨⟨_, _, rfl, rfl, rfl, rfl, rfl⟩⟩; exact rfl; (simp [maxLen]; omega); (simp; omega); intro t4 st4 g1 g2 g3 g4; have ho4 := (g3.same o (by omega) hol).trans hob1)
                  apply aops_nil
                  (apply az_take 9; exact rfl; kernel_rfl; kernel_rfl; kernel_rfl; exact rfl; (apply ay_nilCheck; exact rfl; exact rfl))
                  (apply az_take 10; exact rfl; kernel_rfl; kernel_rfl; kernel_rfl; exact rfl; (first | (apply ay_fieldAddr_bx; exact rfl; exact rfl; exact rfl) | (apply ay_fieldAddr_pp; exact rfl; exact rfl; exact rfl; exact rfl)))
                  refine az_all [11] (by kernel_rfl) rfl ⟨⟨_, rfl, ?_⟩, trivial⟩
                  (first | (apply aops_store_at; exact rfl; exact rfl; exact ho4; exact rfl; exact rfl; exact rfl; exact rfl; exact rfl; exact rfl) | (apply aops_store_mid; exact rfl; exact rfl; exact rfl; exact rfl; exact rfl; exact rfl; exact rfl; exact rfl; exact rfl; exact rfl; exact rfl) | (apply aops_store_loc; exact rfl; exact rfl; exact rfl; exact rfl; exact rfl; exact rfl; exact rfl; exact rfl; exact rfl; exact rfl; exact rfl))
                  apply aops_nil
                  refine az_done (by kernel_rfl) ?_
                  exact ⟨rfl, par_block P1 g1 g2 g3 g4, hkX.trans ((keep_fr g3 hle1 g2 P1.h3 g4).trans keep_set)⟩
                · (apply aops_buildSlice; exact rfl; exact rfl; exact rfl; exact rfl; exact rfl; exact rfl; exact rfl; exact rfl; exact rfl)
                  apply aops_nil
                  refine az_all [4] (by kernel_rfl) rfl ⟨⟨_, rfl, ?_⟩, trivial⟩
                  (first | (apply aops_load_bx; exact rfl; exact hob1; exact rfl; exact rfl) | (apply aops_load_bx; exact rfl; exact hlX; exact rfl; exact rfl) | (apply aops_load_mid; exact rfl; exact rfl; exact rfl; exact rfl; exact rfl) | (apply aops_load_loc; exact rfl; exact rfl; exact rfl; exact rfl; exact rfl) | (apply aops_load_pp; exact rfl; exact rfl; exact rfl))
                  apply aops_nil
                  refine az_all [8] (by kernel_rfl) rfl ⟨⟨_, rfl, ?_⟩, trivial⟩
                  (apply aops_appendT (b := b) (xs := bk.map fun x => Sv x) (ys := [Sv text]) (bytes := 16); exact rfl; exact rfl; exact P1.h3; exact hle1; exact rfl; exact rfl; exact rfl; exact ⟨⟨_, _, rfl, rfl, rfl, rfl, rfl⟩⟩; exact rfl; (simp [maxLen]; omega); (simp; omega); intro t4 st4 g1 g2 g3 g4; have ho4 := (g3.same o (by omega) hol).trans hob1)
                  apply aops_nil
                  (apply az_take 9; exact rfl; kernel_rfl; kernel_rfl; kernel_rfl; exact rfl; (apply ay_nilCheck; exact rfl; exact rfl))
                  (apply az_take 10; exact rfl; kernel_rfl; kernel_rfl; kernel_rfl; exact rfl; (first | (apply ay_fieldAddr_bx; exact rfl; exact rfl; exact rfl) | (apply ay_fieldAddr_pp; exact rfl; exact rfl; exact rfl; exact rfl)))
                  refine az_all [11] (by kernel_rfl) rfl ⟨⟨_, rfl, ?_⟩, trivial⟩
                  (first | (apply aops_store_at; exact rfl; exact rfl; exact ho4; exact rfl; exact rfl; exact rfl; exact rfl; exact rfl; exact rfl) | (apply aops_store_mid; exact rfl; exact rfl; exact rfl; exact rfl; exact rfl; exact rfl; exact rfl; exact rfl; exact rfl; exact rfl; exact rfl) | (apply aops_store_loc; exact rfl; exact rfl; exact rfl; exact rfl; exact rfl; exact rfl; exact rfl; exact rfl; exact rfl; exact rfl; exact rfl))
                  apply aops_nil
                  refine az_done (by kernel_rfl) ?_
                  exact ⟨rfl, par_block P1 g1 g2 g3 g4, hkX.trans ((keep_fr g3 hle1 g2 P1.h3 g4).trans keep_set)⟩
            · rintro ⟨t2, st2, df2⟩ ⟨hd, hp2, hk2⟩
              simp only at hd hp2 hk2
              subst hd
              repeat' (first
                | apply awp_seq
                | apply awp_region
                | apply aops_nil
                | apply aops_assign
                | apply awp_ret)
              exact aret_plain rfl (ares_one rfl) ⟨rfl, fun _ => hp2, hk2⟩
end Go.Proofs.YtplagcbifecagaaGreatDoor
set_option maxRecDepth 100000
set_option linter.unusedVariables false
namespace Go.Proofs.YtplagcbifecagaaGreatDoor
open Go Go.Av Go.RowKit Go.Proofs Go.Pl
structure Ext (n : Nat) (S S' : List AObj) : Prop where
  len : S.length ≤ S'.length
  low : ∀ k, k < n → S'[k]? = S[k]?
  tips : ∀ (t m sz : Nat) (T : TypeId), S[t]? = some (AObj.tip m sz T) → S'[t]? = S[t]?
theorem ext_app {n : Nat} {S l : List AObj} (h : n ≤ S.length) : Ext n S (S ++ l) := ⟨by simp, fun k hk => List.getElem?_append_left (by omega), fun t m sz T ht => List.getElem?_append_left (lt_of_getElem? ht)⟩
theorem ext_set {n o : Nat} {S : List AObj} {x : AObj} (h : n ≤ o) (hn : notTip S[o]?) : Ext n S (S.set o x) := ⟨by simp, fun k hk => List.getElem?_set_ne (by omega), fun t m sz T ht => List.getElem?_set_ne (fun e => by subst e; exact hn _ _ _ ht)⟩
theorem Ext.weak {n m : Nat} {S S' : List AObj} (h : Ext n S S') (hm : m ≤ n) : Ext m S S' := ⟨h.len, fun k hk => h.low k (by omega), h.tips⟩
theorem Ext.trans {n : Nat} {S S' S'' : List AObj} (h : Ext n S S') (k : Ext n S' S'') : Ext n S S'' := ⟨Nat.le_trans h.len k.len, fun i hi => (k.low i hi).trans (h.low i hi), fun t m sz T ht => (k.tips t m sz T ((h.tips t m sz T ht).trans ht)).trans (h.tips t m sz T ht)⟩
theorem split1s_c (text : List UInt8) (o kb ver n m : Nat) (I : Nat → List UInt8 → List AObj → Prop) (D : List AObj → Prop) (S : List AObj) (hm : S.length = m) (hn : n ≤ m) (ht : text.length < 4294967281) (h0 : I 0 text S)
    (hI : ∀ k rest S', I k rest S' → S'[kb]? = some (.cells ver 9 [Sv text]))
    (hst : ∀ k rest S' S'', Ext n S' S'' → I k rest S' → I k rest S'')
    (hY : ∀ k rest S' cs, I k rest S' → S'[m]? = some (.cells 0 102 cs) → rest ≠ [] → rest.length ≤ text.length → AYield E o [lineA k text rest] S' fun b S'' => S''[m]? = some (.cells 0 102 cs) ∧ (b = true → I (k + 1) (past 10 rest) S'') ∧ (b = false → D S'')) :
    ACall E 85 [.yd o, .bx kb ver 0] S fun r S' => (∃ k, I k [] S') ∨ D S' := by
  subst hm
  refine acall_of_awp Tryz.func85 rfl (Nat.le_of_ble_eq_true rfl) ?_
  have hb := hI 0 text S h0
  repeat' (first
    | apply awp_seq
    | apply awp_block
    | apply awp_region
    | apply aops_nil
    | apply aops_assign
    | (apply aops_alloc; exact rfl; exact rfl)
    | (apply aops_store_loc; exact rfl; exact rfl; exact rfl; exact rfl; exact rfl; exact rfl; exact rfl; exact rfl; exact rfl; exact rfl; exact rfl)
    | (apply aops_build; exact rfl; exact rfl; exact rfl)
    | (apply aops_load_low; exact rfl; exact rfl; exact hb; exact rfl; exact rfl))
  refine awp_loopG (fun (x : Nat × List UInt8) s => match x with | (k, rest) => ∃ S' at' ta eb, I k rest S' ∧ k + rest.length ≤ text.length ∧ at' = (text.length : Int) - rest.length ∧ S'[S.length]? = some (.cells 0 102 [Iv k, Iv at', Sv ta, Bv eb]) ∧ StA [(0, .yd o), (1, .bx kb ver 0), (3, .bx S.length 0 0), (4, Sv rest)] S' [] s) (fun x => x.2.length) (0, text)
    ⟨_, 0, [], false, hst _ _ _ _ (ext_app hn) h0, by simp, by simp, get_loc (k := 0) rfl, stA_mk ⟨rfl, rfl, rfl, rfl, trivial⟩⟩ ?_
  rintro ⟨k, rest⟩ _ ⟨S', _, ta, eb, hi, hle, rfl, hown, t, rfl⟩
  have hb' := hI k rest S' hi
  repeat' (first
    | apply awp_seq
    | apply awp_block
    | apply awp_region
    | apply aops_nil
    | apply aops_move
    | apply aops_assign
    | (apply aops_extract; exact rfl; exact rfl)
    | (apply aops_cmpS; exact rfl; exact rfl; exact rfl)
    | (apply awp_cond_any; exact rfl; first | (apply cd_dt; (first | assumption | omega)) | (apply cd_df; (first | assumption | omega)) | (apply cd_nt; (first | exact rfl | assumption)) | (apply cd_nf; (first | exact rfl | assumption)) | (apply cd_n <;> intro h) | (apply cd_t; (first | exact rfl | assumption)) | (apply cd_f; (first | exact rfl | assumption)) | (apply cd_d <;> intro h) | (apply cd_s <;> intro h))
    | (apply aops_fieldAddr_bx; exact rfl; exact rfl; exact rfl)
    | apply awp_skip
    | apply awp_exit
    | (apply aops_call1; exact Tryz.call31; exact cut1_c _ _ _ (by omega))
    | (apply aops_load_bx; exact rfl; (focus first | assumption | (repeat' (first | assumption | exact get_end | exact get_loc rfl | apply get_set | apply get_set_ne | omega | apply get_pre'))); exact rfl; exact rfl)
    | (apply aops_store_at; exact rfl; exact rfl; (focus first | assumption | (repeat' (first | assumption | exact get_end | exact get_loc rfl | apply get_set | apply get_set_ne | omega | apply get_pre'))); exact rfl; exact rfl; exact rfl; exact rfl; exact rfl; exact rfl))
  · have e1 : Ext n S' ((S'.set S.length (.cells 0 102 [Iv k, Iv ((text.length : Int) - rest.length), Sv (upto 10 rest), Bv eb])).set S.length (.cells 0 102 [Iv k, Iv ((text.length : Int) - rest.length), Sv (upto 10 rest), Bv (decide (10 ∈ rest))])) :=
      (ext_set hn (notTip_cells hown)).trans (ext_set hn (notTip_cells (get_set hown)))
    apply aops_callYield (o := o) rfl
    refine AYield.mono (hY k rest _ _ (hst _ _ _ _ e1 hi) (get_set (get_set hown)) h (by omega)) ?_
    rintro b S2 ⟨hown2, h1, h2⟩
    show AOps _ _ _ _ _ _ _
    cases b
    · skip
      repeat' (first
        | apply aops_nil
        | (apply aops_not; exact rfl)
        | (apply awp_cond_any; exact rfl; first | (apply cd_dt; (first | assumption | omega)) | (apply cd_df; (first | assumption | omega)) | (apply cd_nt; (first | exact rfl | assumption)) | (apply cd_nf; (first | exact rfl | assumption)) | (apply cd_n <;> intro h) | (apply cd_t; (first | exact rfl | assumption)) | (apply cd_f; (first | exact rfl | assumption)) | (apply cd_d <;> intro h) | (apply cd_s <;> intro h))
        | apply awp_ret)
      exact aret_plain rfl (ares_zero rfl) (.inr (h2 rfl))
    · have hi3 := h1 rfl
      have hb3 := hI _ _ _ hi3
      have hp := past_length 10 rest
      have hr0 : 0 < rest.length := List.length_pos_iff.2 h
      have hkb : kb ≠ S.length := fun e => by
        rw [e, hown2] at hb3
        simp at hb3
      repeat' (first
        | apply awp_seq
        | apply awp_region
        | apply aops_nil
        | apply aops_move
        | (apply aops_not; exact rfl)
        | (apply awp_cond_any; exact rfl; first | (apply cd_dt; (first | assumption | omega)) | (apply cd_df; (first | assumption | omega)) | (apply cd_nt; (first | exact rfl | assumption)) | (apply cd_nf; (first | exact rfl | assumption)) | (apply cd_n <;> intro h) | (apply cd_t; (first | exact rfl | assumption)) | (apply cd_f; (first | exact rfl | assumption)) | (apply cd_d <;> intro h) | (apply cd_s <;> intro h))
        | (apply aops_lenS; exact rfl; exact rfl; exact rfl)
        | (apply aops_add; exact rfl; exact rfl; exact wrap_i64 (by omega) (by omega))
        | (apply aops_sub; exact rfl; exact rfl; exact wrap_i64 (by omega) (by omega))
        | (apply aops_fieldAddr_bx; exact rfl; exact rfl; exact rfl)
        | apply awp_skip
        | (apply aops_load_bx; exact rfl; exact get_set_ne hb3 (Ne.symm hkb); exact rfl; exact rfl)
        | (apply aops_load_bx; exact rfl; (focus first | assumption | (repeat' (first | assumption | exact get_end | exact get_loc rfl | apply get_set | apply get_set_ne | omega | apply get_pre'))); exact rfl; exact rfl)
        | (apply aops_store_at; exact rfl; exact rfl; (focus first | assumption | (repeat' (first | assumption | exact get_end | exact get_loc rfl | apply get_set | apply get_set_ne | omega | apply get_pre'))); exact rfl; exact rfl; exact rfl; exact rfl; exact rfl; exact rfl))
      have e2 : Ext n S2 _ := (ext_set hn (notTip_cells hown2)).trans (ext_set (x := .cells 0 102 [Iv ((k : Int) + 1), Iv ((text.length : Int) - (past 10 rest).length), Sv (upto 10 rest), Bv (decide (10 ∈ rest))]) hn (notTip_cells (get_set (y := .cells 0 102 [Iv ((k : Int) + 1), Iv ((text.length : Int) - rest.length), Sv (upto 10 rest), Bv (decide (10 ∈ rest))]) hown2)))
      exact ⟨(k + 1, past 10 rest), ⟨_, _, _, _, hst _ _ _ _ e2 hi3, by omega, rfl, get_set (get_set hown2), stA_mk ⟨rfl, rfl, rfl, rfl, trivial⟩⟩, by simp only; omega⟩
  · have hr : rest = [] := Classical.not_not.1 h
    subst hr
    exact aret_plain rfl (ares_zero rfl) (.inl ⟨k, hi⟩)
@[reducible] def roundS (n : Nat) (F : LoopState → Option Code → AObj) (own : AObj) (I : List AObj → Prop) (D : Code → List AObj → Prop) : Exit → AS → Prop
  | .normal, s => s.st[n]? = some .dfr ∧ s.st[n + 1]? = some (F .busy none) ∧ s.st[n + 2]? = some own ∧ I s.st
  | .ret, s => s.st[n]? = some .dfr ∧ s.st[n + 1]? = some (F .busy none) ∧ s.st[n + 2]? = some own ∧ D .ret s.st
  | .exit id, s => s.st[n]? = some .dfr ∧ s.st[n + 1]? = some (F .busy none) ∧ s.st[n + 2]? = some own ∧ D (.exit id) s.st
  | _, _ => False
theorem notTip_F {N : Nat} {t : Nat → AV} {ps : Array Tmp} {asg body : Code} {F : LoopState → Option Code → AObj} (hF : LoopF F N t ps asg body) (ls : LoopState) (pend : Option Code) {x : Option AObj} (h : x = some (F ls pend)) : notTip x := fun n sz T' e => by
  rw [h, hF] at e
  simp at e
theorem awp_rangeSplitS {N : Nat} {Q : Exit → AS → Prop} {s : AS} {f : Operand} {p : Tmp} {asg body : Code} {S0 : List AObj} {kb ver : Nat} (text : List UInt8) (hst : s.st = S0) (hx : aeval N s f = .fn (.func 85) [] [.bx kb ver 0]) (ht : text.length < 4294967281)
    (I : Nat → List UInt8 → List AObj → Prop) (D : Code → List AObj → Prop) (h0 : I 0 text S0)
    (hI : ∀ k rest S, I k rest S → S[kb]? = some (.cells ver 9 [Sv text]))
    (hs1 : ∀ k rest S S', Ext S0.length S S' → I k rest S → I k rest S') (hs2 : ∀ c S S', Ext S0.length S S' → D c S → D c S')
    (hb : ∀ F own rd k rest S, LoopF F N s.t #[p] asg body → I k rest S → rest ≠ [] → rest.length ≤ text.length → S[S0.length]? = some .dfr → S[S0.length + 1]? = some (F .ready none) → S[S0.length + 2]? = some own → notTip (some own) →
      AWp E (some rd) N asg (only fun s1 => s1.st[S0.length + 1]? = some (F .ready none) ∧ s1.df = [] ∧ AWp E (some rd) N body (roundS S0.length F own (I (k + 1) (past 10 rest)) D) ⟨s1.t, s1.st.set (S0.length + 1) (F .busy none), []⟩) ⟨put s.t p (lineA k text rest), S, []⟩)
    (hn : ∀ k S, I k [] S → S[S0.length]? = some .dfr → Q .normal ⟨s.t, S, S0.length :: s.df⟩)
    (hd : ∀ c S, D c S → S[S0.length]? = some .dfr → AWp E none N c Q ⟨s.t, S, S0.length :: s.df⟩) : AWp E none N (.rangeFunc f #[p] asg body) Q s := by
  refine awp_rangeF (st := S0) (loc := []) (by rw [hst]; simp) hx Tryz.call85 fun F hF => ?_
  have hl : (S0 ++ ([] ++ [AObj.dfr, F .ready none])).length = S0.length + 2 := by simp
  have g1 : (S0 ++ ([] ++ [AObj.dfr, F .ready none]))[S0.length]? = some .dfr := by simp
  have g2 : (S0 ++ ([] ++ [AObj.dfr, F .ready none]))[S0.length + 1]? = some (F .ready none) := by simp
  have hz : S0.length + (([] : List AObj).length + 1) = S0.length + 1 := by simp
  rw [hz, show S0.length + ([] : List AObj).length = S0.length from rfl]
  refine ACall.mono (split1s_c text (S0.length + 1) kb ver (S0.length + 2) (S0.length + 2) (fun k rest S => I k rest S ∧ S[S0.length]? = some .dfr ∧ S[S0.length + 1]? = some (F .ready none)) (fun S => ∃ c, D c S ∧ S[S0.length]? = some .dfr ∧ S[S0.length + 1]? = some (F .done (some c))) (S0 ++ ([] ++ [.dfr, F .ready none])) hl (Nat.le_refl _) ht ⟨hs1 _ _ _ _ (ext_app (Nat.le_refl _)) h0, g1, g2⟩ (fun k rest S h => hI k rest S h.1) (fun k rest S S' hE ⟨a, b, c⟩ => ⟨hs1 _ _ _ _ (hE.weak (by omega)) a, (hE.low _ (by omega)).trans b, (hE.low _ (by omega)).trans c⟩) ?_) ?_
  · rintro k rest S' cs ⟨hi, hd1, hf1⟩ hown hne hle
    refine ayield_F hF hf1 rfl fun rd => ?_
    refine (hb F (.cells 0 102 cs) rd k rest S' hF hi hne hle hd1 hf1 hown (notTip_cells rfl)).mono fun e s1 hq => ?_
    cases e with
    | normal =>
      obtain ⟨q1, q2, q3⟩ := hq
      refine ⟨q1, q2, q3.mono fun e s2 hq2 => ?_⟩
      cases e with
      | normal =>
        obtain ⟨k1, k2, k3, k4⟩ := hq2
        exact ⟨k2, get_set_ne k3 (by omega), fun _ => ⟨hs1 _ _ _ _ (ext_set (by omega) (notTip_F hF _ _ k2)) k4, get_set_ne k1 (by omega), get_set k2⟩, nofun⟩
      | ret =>
        obtain ⟨k1, k2, k3, k4⟩ := hq2
        exact ⟨k2, get_set_ne k3 (by omega), nofun, fun _ => ⟨_, hs2 _ _ _ (ext_set (by omega) (notTip_F hF _ _ k2)) k4, get_set_ne k1 (by omega), get_set k2⟩⟩
      | exit id =>
        obtain ⟨k1, k2, k3, k4⟩ := hq2
        exact ⟨k2, get_set_ne k3 (by omega), nofun, fun _ => ⟨_, hs2 _ _ _ (ext_set (by omega) (notTip_F hF _ _ k2)) k4, get_set_ne k1 (by omega), get_set k2⟩⟩
      | _ => exact hq2.elim
    | _ => exact hq.elim
  · rintro r S' (⟨k, hi, hd1, hf1⟩ | ⟨c, hi, hd1, hf1⟩)
    · exact ⟨.ready, none, nofun, hf1, hn k _ (hs1 _ _ _ _ (ext_set (by omega) (notTip_F hF _ _ hf1)) hi) (get_set_ne hd1 (by omega))⟩
    · exact ⟨.done, some c, nofun, hf1, hd c _ (hs2 _ _ _ (ext_set (by omega) (notTip_F hF _ _ hf1)) hi) (get_set_ne hd1 (by omega))⟩
end Go.Proofs.YtplagcbifecagaaGreatDoor
set_option maxRecDepth 100000
set_option linter.unusedVariables false
namespace Go.Pl
open Go Go.Proofs
def p0 : PSt := ⟨[], 0, false, [], [], [], 0⟩
def runL : Nat → List (Bytes × Bool) → PSt → Option (Int × Int) × PSt
  | _, [], p => endP p
  | k, (t, e) :: r, p => match (takeP p k t e).1 with
    | some x => (some x, p)
    | none => runL (k + 1) r (takeP p k t e).2
def parseF (text : Bytes) : Option (Int × Int) × List ItemV := match (runL 0 (linesOf text) p0).1 with
  | some e => (some e, [])
  | none => (none, (runL 0 (linesOf text) p0).2.items)
end Go.Pl
namespace Go.Proofs.YtplagcbifecagaaGreatDoor
open Go Go.Av Go.RowKit Go.Proofs Go.Pl
theorem errP_pure (x : Option (Int × Int)) : Pure (errP x) := by
  rcases x with _ | ⟨a, n⟩
  · exact pure_v _
  · exact faultA_pure a n
theorem fldA_pureC (f : Fld) : PureC (fldA f) := fun x hx => by
  simp only [AV.cells, List.mem_cons, List.not_mem_nil, or_false] at hx
  rcases hx with rfl | rfl <;> exact pure_v _
theorem fldsA_pure (fs : List Fld) : Pure (fldsA fs) := pure_sl fun x hx => by
  obtain ⟨f, _, rfl⟩ := List.mem_map.1 hx
  exact fldA_pureC f
theorem itemA_pureC (x : ItemV) : PureC (itemA x) := fun y hy => by
  simp only [AV.cells, List.mem_cons, List.not_mem_nil, or_false] at hy
  rcases hy with rfl | rfl | rfl
  · exact pure_v _
  · exact pure_v _
  · exact fldsA_pure _
theorem itemsA_pure (xs : List ItemV) : Pure (itemsA xs) := pure_sl fun x hx => by
  obtain ⟨f, _, rfl⟩ := List.mem_map.1 hx
  exact itemA_pureC f
theorem pure_tu2 {x y : AV} (hx : Pure x) (hy : Pure y) : Pure (.tu [x, y]) := pure_tu fun z hz => by
  simp only [List.mem_cons, List.not_mem_nil, or_false] at hz
  rcases hz with rfl | rfl
  · exact hx
  · exact hy
def parseA (text : Bytes) : AV := .tu [itemsA (parseF text).2, errP (parseF text).1]
theorem parseA_pure (text : Bytes) : Pure (parseA text) := pure_tu2 (itemsA_pure _) (errP_pure _)
theorem Keep.get {b o k : Nat} {S S' : List AObj} {x : AObj} (h : Keep b o S S') (hx : S[k]? = some x) (hne : k ≠ o) (hc : k < b ∨ notTip (some x)) : S'[k]? = some x := (h.same k hne (lt_of_getElem? hx) (by rw [hx]; exact hc)).trans hx
theorem tipC_ext {n b : Nat} {S S' : List AObj} {sz : Nat} {T : TypeId} {xs : List AV} {c : AV} (hE : Ext n S S') (h : TipC b S sz T xs c) : TipC b S' sz T xs c := by
  rcases h with h | ⟨t, h1, h2, h3⟩
  · exact .inl h
  · exact .inr ⟨t, h1, (hE.tips t _ _ _ h2).trans h2, h3⟩
theorem par_ext {n b o : Nat} {p : PSt} {S S' : List AObj} (hE : Ext n S S') (ho : o < n) (h : Par b o p S) : Par b o p S' := by
  obtain ⟨c1, c2, c3, c4, P⟩ := h
  have := hE.len
  exact ⟨c1, c2, c3, c4, P.lt, Nat.le_trans P.le this, (hE.low o ho).trans P.ob, tipC_ext hE P.h1, tipC_ext hE P.h2, tipC_ext hE P.h3, tipC_ext hE P.h4, P.ne⟩
theorem get_set_low {S : List AObj} {o k : Nat} {x : AObj} (h : k ≠ o) : (S.set o x)[k]? = S[k]? := List.getElem?_set_ne (Ne.symm h)
theorem notTip_dfr : notTip (some .dfr) := fun n sz T e => by simp at e
theorem p0_pb : PB 0 p0 := ⟨by omega, by simp [p0], by simp [p0], by simp [p0], by simp [p0], by simp [p0], by simp [p0], by simp [p0], by simp [p0]⟩
structure ParsI (st : List AObj) (text : Bytes) (r1 r2 : AV) (S : List AObj) : Prop where
  low : ∀ j, j < st.length → S[j]? = st[j]?
  c0 : S[st.length + 0]? = some (.cells 0 113 [r1])
  c1 : S[st.length + 1]? = some (.cells 0 25 [r2])
  c3 : S[st.length + 3]? = some (.cells 0 136 [.bx (st.length + 2) 0 0])
  c4 : S[st.length + 4]? = some (.cells 0 9 [Sv text])
theorem ParsI.ext {st : List AObj} {text : Bytes} {r1 r2 : AV} {S S' : List AObj} (h : ParsI st text r1 r2 S) (hE : Ext (st.length + 5) S S') : ParsI st text r1 r2 S' :=
  ⟨fun j hj => (hE.low j (by omega)).trans (h.low j hj), (hE.low _ (by omega)).trans h.c0, (hE.low _ (by omega)).trans h.c1, (hE.low _ (by omega)).trans h.c3, (hE.low _ (by omega)).trans h.c4⟩
theorem ParsI.keep {st : List AObj} {text : Bytes} {r1 r2 : AV} {S S' : List AObj} (h : ParsI st text r1 r2 S) (hE : Keep (st.length + 5) (st.length + 2) S S') : ParsI st text r1 r2 S' :=
  ⟨fun j hj => by
    rw [← h.low j hj]
    have := lt_of_getElem? h.c0
    exact hE.same j (by omega) (by omega) (.inl (by omega)), hE.get h.c0 (by omega) (.inl (by omega)), hE.get h.c1 (by omega) (.inl (by omega)), hE.get h.c3 (by omega) (.inl (by omega)), hE.get h.c4 (by omega) (.inl (by omega))⟩
set_option maxHeartbeats 8000000 in
theorem sparse_c (text : Bytes) (st : List AObj) (hl : text.length ≤ 60000) : ACall E 72 [Sv text] st fun r st' => r = parseA text ∧ st' = st := by
  refine acall_pure (parseA_pure text) (acall_of_awp Tryz.func72 rfl (Nat.le_of_ble_eq_true rfl) ?_)
  repeat' (first
    | apply awp_seq
    | apply awp_block
    | apply awp_region
    | apply aops_nil
    | apply aops_move
    | (apply aops_cmpI; exact rfl; exact rfl; exact rfl)
    | (apply awp_cond_any; exact rfl; first | (apply cd_dt; (first | assumption | omega)) | (apply cd_df; (first | assumption | omega)) | (apply cd_nt; (first | exact rfl | assumption)) | (apply cd_nf; (first | exact rfl | assumption)) | (apply cd_n <;> intro h) | (apply cd_t; (first | exact rfl | assumption)) | (apply cd_f; (first | exact rfl | assumption)) | (apply cd_d <;> intro h) | (apply cd_s <;> intro h))
    | (apply aops_lenS; exact rfl; exact rfl; exact rfl)
    | (apply aops_alloc; exact rfl; exact rfl)
    | (apply aops_box; exact rfl; exact rfl; exact rfl; exact rfl)
    | (apply aops_store_loc; exact rfl; exact rfl; exact rfl; exact rfl; exact rfl; exact rfl; exact rfl; exact rfl; exact rfl; exact rfl; exact rfl)
    | (apply aops_build; exact rfl; exact rfl; exact rfl)
    | apply awp_skip
    | (refine aops_call1 Tryz.call52 (split_loc _ _ _ _ rfl) ?_))
  have hSl : (st ++ [AObj.cells 0 113 [nilSl], .cells 0 25 [.v .nilIface], .cells 0 140 [nilSl, Iv 0, Bv false, nilSl, nilSl, nilSl, Iv 0], .cells 0 136 [.bx (st.length + 2) 0 0], .cells 0 9 [Sv text]]).length = st.length + 5 := by simp
  have h00 : ParsI st text nilSl (.v .nilIface) (st ++ [AObj.cells 0 113 [nilSl], .cells 0 25 [.v .nilIface], .cells 0 140 [nilSl, Iv 0, Bv false, nilSl, nilSl, nilSl, Iv 0], .cells 0 136 [.bx (st.length + 2) 0 0], .cells 0 9 [Sv text]]) :=
    ⟨fun j hj => List.getElem?_append_left hj, get_loc rfl, get_loc rfl, get_loc rfl, get_loc rfl⟩
  have hP0 : Par (st.length + 5) (st.length + 2) p0 (st ++ [AObj.cells 0 113 [nilSl], .cells 0 25 [.v .nilIface], .cells 0 140 [nilSl, Iv 0, Bv false, nilSl, nilSl, nilSl, Iv 0], .cells 0 136 [.bx (st.length + 2) 0 0], .cells 0 9 [Sv text]]) :=
    ⟨nilSl, nilSl, nilSl, nilSl, by omega, by omega, get_loc rfl, tipC_nil .., tipC_nil .., tipC_nil .., tipC_nil .., nofun⟩
  generalize hS0 : st ++ [AObj.cells 0 113 [nilSl], .cells 0 25 [.v .nilIface], .cells 0 140 [nilSl, Iv 0, Bv false, nilSl, nilSl, nilSl, Iv 0], .cells 0 136 [.bx (st.length + 2) 0 0], .cells 0 9 [Sv text]] = S0 at hSl h00 hP0
  refine awp_state [(2, .bx (st.length + 0) 0 0), (3, .bx (st.length + 1) 0 0), (4, .bx (st.length + 3) 0 0), (15, .fn (.func 85) [] [.bx (st.length + 4) 0 0])] S0 [] ⟨rfl, rfl, rfl, rfl, trivial⟩ hS0 rfl fun t => ?_
  refine awp_rangeSplitS (S0 := S0) text rfl rfl (by omega) (fun k rest S => ParsI st text nilSl (.v .nilIface) S ∧ ∃ p, Par (st.length + 5) (st.length + 2) p S ∧ PB (4 * k) p ∧ k + rest.length ≤ text.length ∧ runL 0 (linesOf text) p0 = runL k (linesOf rest) p)
    (fun c S => ∃ a m, c = .ret ∧ (runL 0 (linesOf text) p0).1 = some (a, m) ∧ ParsI st text nilSl (faultA a m) S) ⟨h00, p0, hP0, p0_pb, by omega, rfl⟩
    (fun k rest S h => h.1.c4) (fun k rest S S' hE ⟨h1, p, h2, h3⟩ => ⟨h1.ext (by rw [← hSl]; exact hE), p, par_ext hE (by omega) h2, h3⟩) (fun c S S' hE ⟨a, m, h1, h2, h3⟩ => ⟨a, m, h1, h2, h3.ext (by rw [← hSl]; exact hE)⟩) ?_ ?_ ?_
  · rintro F own rd k rest S hF ⟨hi, p, hp, hB, hkl, hrun⟩ hne hle hd1 hf1 hown hnt
    rw [hSl] at hd1 hf1 hown ⊢
    have hlen := lt_of_getElem? hown
    have hcons := linesOf_cons hne
    have hu := upto_length_le 10 rest
    have hr0 : 0 < rest.length := List.length_pos_iff.2 hne
    have hpl := past_length 10 rest
    have hc3 := hi.c3
    repeat' (first
      | apply awp_region
      | apply aops_nil
      | (apply aops_allocW (st := S); exact rfl; exact rfl)
      | (apply aops_store_at; exact rfl; exact rfl; (focus first | assumption | (repeat' (first | assumption | exact get_end | exact get_loc rfl | apply get_set | apply get_set_ne | omega | apply get_pre'))); exact rfl; exact rfl; exact rfl; exact rfl; exact rfl; exact rfl))
    refine ⟨?_, rfl, ?_⟩
    · ((focus first | assumption | (repeat' (first | assumption | exact get_end | exact get_loc rfl | apply get_set | apply get_set_ne | omega | apply get_pre'))))
    repeat' (first
      | apply awp_seq
      | apply awp_block
      | apply awp_region
      | (apply aops_load_bx; exact rfl; (focus first | assumption | (repeat' (first | assumption | exact get_end | exact get_loc rfl | apply get_set | apply get_set_ne | omega | apply get_pre'))); exact rfl; exact rfl))
    have hE1 : Ext (st.length + 5) S (((S ++ [AObj.cells 0 102 [Iv 0, Iv 0, Sv [], Bv false]]).set S.length (.cells 0 102 (lineA k text rest).cells)).set (st.length + 5 + 1) (F .busy none)) := ((ext_app (by omega)).trans (ext_set (by omega) (notTip_cells get_end))).trans (ext_set (by omega) (notTip_F hF .ready none (by (focus first | assumption | (repeat' (first | assumption | exact get_end | exact get_loc rfl | apply get_set | apply get_set_ne | omega | apply get_pre'))))))
    apply aops_call Tryz.call105
    refine ACall.mono (st := ((S ++ [AObj.cells 0 102 [Iv 0, Iv 0, Sv [], Bv false]]).set S.length (.cells 0 102 (lineA k text rest).cells)).set (st.length + 5 + 1) (F .busy none)) ((ptake_c (st.length + 5) (st.length + 2) (4 * k) p _ k ((text.length : Int) - rest.length) (upto 10 rest) (decide (10 ∈ rest)) (par_ext hE1 (by omega) hp) hB (by omega) (by omega))) ?_
    rintro _ S2 ⟨rfl, hp2, hk2⟩
    have hi2 := (hi.ext hE1).keep hk2
    have hd2 : S2[st.length + 5]? = some .dfr := hk2.get (by (focus first | assumption | (repeat' (first | assumption | exact get_end | exact get_loc rfl | apply get_set | apply get_set_ne | omega | apply get_pre')))) (by omega) (.inr notTip_dfr)
    have hf2 : S2[st.length + 5 + 1]? = some (F .busy none) := hk2.get (by (focus first | assumption | (repeat' (first | assumption | exact get_end | exact get_loc rfl | apply get_set | apply get_set_ne | omega | apply get_pre')))) (by omega) (.inr (notTip_F hF _ _ rfl))
    have hown2 : S2[st.length + 5 + 2]? = some own := hk2.get (by (focus first | assumption | (repeat' (first | assumption | exact get_end | exact get_loc rfl | apply get_set | apply get_set_ne | omega | apply get_pre')))) (by omega) (.inr hnt)
    have hlen2 := lt_of_getElem? hown2
    show AOps _ _ _ _ _ _ _
    cases hah : (takeP p k (upto 10 rest) (decide (10 ∈ rest))).1 with
    | some e =>
      obtain ⟨a, m⟩ := e
      have hre : (runL 0 (linesOf text) p0).1 = some (a, m) := by rw [hrun, hcons]; simp only [runL, hah]
      rw [errP_some rfl]
      have c0 := hi2.c0
      have c1 := hi2.c1
      repeat' (first
        | apply awp_seq
        | apply awp_region
        | apply aops_nil
        | apply aops_move
        | apply aops_assign
        | (apply awp_cond_any; exact rfl; first | (apply cd_dt; (first | assumption | omega)) | (apply cd_df; (first | assumption | omega)) | (apply cd_nt; (first | exact rfl | assumption)) | (apply cd_nf; (first | exact rfl | assumption)) | (apply cd_n <;> intro h) | (apply cd_t; (first | exact rfl | assumption)) | (apply cd_f; (first | exact rfl | assumption)) | (apply cd_d <;> intro h) | (apply cd_s <;> intro h))
        | (apply aops_errNeNil; exact rfl; exact rfl)
        | apply awp_ret
        | (apply aops_store_at; exact rfl; exact rfl; (focus first | assumption | (repeat' (first | assumption | exact get_end | exact get_loc rfl | apply get_set | apply get_set_ne | omega | apply get_pre'))); exact rfl; exact rfl; exact rfl; exact rfl; exact rfl; exact rfl))
      exact ⟨(by (focus first | assumption | (repeat' (first | assumption | exact get_end | exact get_loc rfl | apply get_set | apply get_set_ne | omega | apply get_pre')))), (by (focus first | assumption | (repeat' (first | assumption | exact get_end | exact get_loc rfl | apply get_set | apply get_set_ne | omega | apply get_pre')))), (by (focus first | assumption | (repeat' (first | assumption | exact get_end | exact get_loc rfl | apply get_set | apply get_set_ne | omega | apply get_pre')))), a, m, rfl, hre, ⟨fun j hj => (get_set_low (by omega)).trans ((get_set_low (by omega)).trans (hi2.low j hj)), (by (focus first | assumption | (repeat' (first | assumption | exact get_end | exact get_loc rfl | apply get_set | apply get_set_ne | omega | apply get_pre')))), (by (focus first | assumption | (repeat' (first | assumption | exact get_end | exact get_loc rfl | apply get_set | apply get_set_ne | omega | apply get_pre')))), get_set_ne (get_set_ne hi2.c3 (by omega)) (by omega), get_set_ne (get_set_ne hi2.c4 (by omega)) (by omega)⟩⟩
    | none =>
      have hB2 := takeP_pb (no := k) (text := upto 10 rest) (ended := decide (10 ∈ rest)) hB (by omega) (by omega)
      repeat' (first
        | apply awp_seq
        | apply awp_region
        | apply aops_nil
        | apply aops_move
        | apply aops_assign
        | (apply awp_cond_any; exact rfl; first | (apply cd_dt; (first | assumption | omega)) | (apply cd_df; (first | assumption | omega)) | (apply cd_nt; (first | exact rfl | assumption)) | (apply cd_nf; (first | exact rfl | assumption)) | (apply cd_n <;> intro h) | (apply cd_t; (first | exact rfl | assumption)) | (apply cd_f; (first | exact rfl | assumption)) | (apply cd_d <;> intro h) | (apply cd_s <;> intro h))
        | (apply aops_nilNeNil; exact rfl; exact rfl)
        | apply awp_skip)
      exact ⟨hd2, hf2, hown2, hi2, _, hp2 hah, hB2, by omega, by rw [hrun, hcons]; simp only [runL, hah]⟩
  · rintro k S ⟨hi, p, hp, hB, hkl, hrun⟩ hd1
    have hre : runL k (linesOf []) p = endP p := by rw [linesOf_nil]; rfl
    rw [hre] at hrun
    rw [hSl] at hd1 ⊢
    have hc3 := hi.c3
    repeat' (first
      | apply awp_seq
      | apply awp_region
      | (apply aops_load_bx; exact rfl; (focus first | assumption | (repeat' (first | assumption | exact get_end | exact get_loc rfl | apply get_set | apply get_set_ne | omega | apply get_pre'))); exact rfl; exact rfl))
    refine aops_call Tryz.call106 ((pend_c (st.length + 5) (st.length + 2) (4 * k) p _ hp hB (by omega)).mono ?_)
    rintro _ S2 ⟨rfl, hp2, hk2⟩
    have hi2 := hi.keep hk2
    have hd2 : S2[st.length + 5]? = some .dfr := hk2.get hd1 (by omega) (.inr notTip_dfr)
    have hlen2 := lt_of_getElem? hd2
    have c0 := hi2.c0
    have c1 := hi2.c1
    have c3 := hi2.c3
    show AOps _ _ _ _ _ _ _
    cases hah : (endP p).1 with
    | some e =>
      obtain ⟨a, m⟩ := e
      have hpf : parseF text = (some (a, m), []) := by unfold parseF; rw [hrun, hah]
      rw [errP_some rfl]
      repeat' (first
        | apply awp_seq
        | apply awp_region
        | apply aops_nil
        | apply aops_move
        | apply aops_assign
        | (apply awp_cond_any; exact rfl; first | (apply cd_dt; (first | assumption | omega)) | (apply cd_df; (first | assumption | omega)) | (apply cd_nt; (first | exact rfl | assumption)) | (apply cd_nf; (first | exact rfl | assumption)) | (apply cd_n <;> intro h) | (apply cd_t; (first | exact rfl | assumption)) | (apply cd_f; (first | exact rfl | assumption)) | (apply cd_d <;> intro h) | (apply cd_s <;> intro h))
        | (apply aops_errNeNil; exact rfl; exact rfl)
        | apply awp_ret
        | (apply aops_store_at; exact rfl; exact rfl; (focus first | assumption | (repeat' (first | assumption | exact get_end | exact get_loc rfl | apply get_set | apply get_set_ne | omega | apply get_pre'))); exact rfl; exact rfl; exact rfl; exact rfl; exact rfl; exact rfl))
      show ARet _ _ _ _
      refine aret_mark (o := st.length + 5) rfl ?_ ?_
      · ((focus first | assumption | (repeat' (first | assumption | exact get_end | exact get_loc rfl | apply get_set | apply get_set_ne | omega | apply get_pre'))))
      refine aret_plain rfl (ares_weak ?_ (weak_tu2 (weak_nilSl 3) (weak_refl (faultA a m)))) ⟨?_, ext_of_low ?_ fun j hj => (get_set_low (by omega)).trans ((get_set_low (by omega)).trans ((get_set_low (by omega)).trans (hi2.low j hj)))⟩
      · (apply ares_cell2; exact rfl; exact rfl; (focus first | assumption | (repeat' (first | assumption | exact get_end | exact get_loc rfl | apply get_set | apply get_set_ne | omega | apply get_pre'))); exact rfl; exact rfl; exact rfl; (focus first | assumption | (repeat' (first | assumption | exact get_end | exact get_loc rfl | apply get_set | apply get_set_ne | omega | apply get_pre'))); exact rfl; exact rfl)
      rotate_left
      · (first | (simp; omega) | (simp [AS.put]; omega))
      unfold parseA
      rw [hpf]
      rfl
    | none =>
      have hpf : parseF text = (none, (endP p).2.items) := by unfold parseF; rw [hrun, hah]
      obtain ⟨d1, d2, d3, d4, P2⟩ := hp2 hah
      have hob : S2[st.length + 2]? = some (.cells 0 140 [d1, Iv (endP p).2.frm, Bv (endP p).2.full, d2, d3, d4, Iv (endP p).2.records]) := P2.ob
      have hw := weak_tipC P2.h2
      rcases P2.h2 with ⟨hx, rfl⟩ | ⟨t2, rfl, ht2, hb2⟩
      all_goals
        repeat' (first
          | apply awp_seq
          | apply awp_region
          | apply aops_nil
          | apply aops_move
          | apply aops_assign
          | (apply awp_cond_any; exact rfl; first | (apply cd_dt; (first | assumption | omega)) | (apply cd_df; (first | assumption | omega)) | (apply cd_nt; (first | exact rfl | assumption)) | (apply cd_nf; (first | exact rfl | assumption)) | (apply cd_n <;> intro h) | (apply cd_t; (first | exact rfl | assumption)) | (apply cd_f; (first | exact rfl | assumption)) | (apply cd_d <;> intro h) | (apply cd_s <;> intro h))
          | (apply aops_nilNeNil; exact rfl; exact rfl)
          | (apply aops_fieldAddr_bx; exact rfl; exact rfl; exact rfl)
          | (apply aops_nilCheck; exact rfl; exact rfl)
          | apply awp_skip
          | apply awp_ret
          | (apply aops_load_bx; exact rfl; (focus first | assumption | (repeat' (first | assumption | exact get_end | exact get_loc rfl | apply get_set | apply get_set_ne | omega | apply get_pre'))); exact rfl; exact rfl)
          | (apply aops_store_at; exact rfl; exact rfl; (focus first | assumption | (repeat' (first | assumption | exact get_end | exact get_loc rfl | apply get_set | apply get_set_ne | omega | apply get_pre'))); exact rfl; exact rfl; exact rfl; exact rfl; exact rfl; exact rfl))
        show ARet _ _ _ _
        refine aret_mark (o := st.length + 5) rfl ?_ ?_
        · ((focus first | assumption | (repeat' (first | assumption | exact get_end | exact get_loc rfl | apply get_set | apply get_set_ne | omega | apply get_pre'))))
        refine aret_plain rfl (ares_weak ?_ (weak_tu2 hw (weak_refl (.v .nilIface)))) ⟨?_, ext_of_low ?_ fun j hj => (get_set_low (by omega)).trans ((get_set_low (by omega)).trans ((get_set_low (by omega)).trans (hi2.low j hj)))⟩
        · (apply ares_cell2; exact rfl; exact rfl; (focus first | assumption | (repeat' (first | assumption | exact get_end | exact get_loc rfl | apply get_set | apply get_set_ne | omega | apply get_pre'))); exact rfl; exact rfl; exact rfl; (focus first | assumption | (repeat' (first | assumption | exact get_end | exact get_loc rfl | apply get_set | apply get_set_ne | omega | apply get_pre'))); exact rfl; exact rfl)
        rotate_left
        · (first | (simp; omega) | (simp [AS.put]; omega))
        unfold parseA
        rw [hpf]
        rfl
  · rintro _ S ⟨a, m, rfl, hre, hi⟩ hd1
    have hpf : parseF text = (some (a, m), []) := by unfold parseF; rw [hre]
    rw [hSl] at hd1 ⊢
    have hlen2 := lt_of_getElem? hd1
    have c0 := hi.c0
    have c1 := hi.c1
    apply awp_ret
    show ARet _ _ _ _
    refine aret_mark (o := st.length + 5) rfl ?_ ?_
    · ((focus first | assumption | (repeat' (first | assumption | exact get_end | exact get_loc rfl | apply get_set | apply get_set_ne | omega | apply get_pre'))))
    refine aret_plain rfl (ares_weak ?_ (weak_tu2 (weak_nilSl 3) (weak_refl (faultA a m)))) ⟨?_, ext_of_low ?_ fun j hj => (get_set_low (by omega)).trans (hi.low j hj)⟩
    · (apply ares_cell2; exact rfl; exact rfl; (focus first | assumption | (repeat' (first | assumption | exact get_end | exact get_loc rfl | apply get_set | apply get_set_ne | omega | apply get_pre'))); exact rfl; exact rfl; exact rfl; (focus first | assumption | (repeat' (first | assumption | exact get_end | exact get_loc rfl | apply get_set | apply get_set_ne | omega | apply get_pre'))); exact rfl; exact rfl)
    rotate_left
    · (first | (simp; omega) | (simp [AS.put]; omega))
    unfold parseA
    rw [hpf]
    rfl
end Go.Proofs.YtplagcbifecagaaGreatDoor
set_option maxRecDepth 100000
set_option linter.unusedVariables false
namespace Go.Proofs.YtplagcbifecagaaGreatDoor
open Go Go.RowKit Go.Extern.Stop Go.Stop Go.Extern Go.Proofs
theorem asT.valueOf27 (t : Addr) (w : World) : (ReflectliteValue.unpack (.iface 180 (.pointer (some t)))).run Tryz.prog w
    = .ok (.agg #[.pointer (some ⟨9, 180, none⟩), .pointer (some ⟨w.heap.size, 0, none⟩), .int .u64 150]) (w.alloc (.cells #[.pointer (some t)] 180)) := by kernel_rfl
theorem asT.type27 (a : Addr) (w : World) : (ReflectliteValue.methodAny (ReflectliteValue.valueError "reflectlite.Value.Type" 0) (fun t _ _ _ => ReflectliteType.toType t) #[.agg #[.pointer (some ⟨9, 180, none⟩), .pointer (some a), .int .u64 150]]).run Tryz.prog w
    = .ok (.iface 225 (.agg #[.pointer (some ⟨9, 180, none⟩)])) w := by kernel_rfl
theorem asT.methodKind (h : Value) (w : World) : (Go.method 371 225 (.agg #[h]) "Kind").run Tryz.prog w = .ok (207, h) w := by kernel_rfl
theorem asT.kind27 (w : World) : ((ReflectliteType.abiMethod fun t => (fun a : Nat => Value.int IntKind.u8 (a : Int)) <$> Rtype.kind t) #[.pointer (some ⟨9, 180, none⟩)]).run Tryz.prog w = .ok (.int .u8 22) w := by kernel_rfl
theorem asT.kind25 (w : World) : ((ReflectliteType.abiMethod fun t => (fun a : Nat => Value.int IntKind.u8 (a : Int)) <$> Rtype.kind t) #[.pointer (some ⟨9, 92, none⟩)]).run Tryz.prog w = .ok (.int .u8 22) w := by kernel_rfl
theorem rlm (z : Sem Value) (f : TypeId → Addr → Nat → Nat → Sem Value) (v : Value) :
    ReflectliteValue.method z f #[v] = (do match ← ReflectliteValue.parts v with | none => z | some (t, a, fl) => f t a fl (fl % 32)) := rfl
theorem asT.parts27 (a : Addr) (w : World) : (ReflectliteValue.parts (.agg #[.pointer (some ⟨9, 180, none⟩), .pointer (some a), .int .u64 150])).run Tryz.prog w = .ok (some (180, a, 150)) w := by kernel_rfl
theorem asT.isNil27 (a p : Addr) (W : World) (ha : W.cell? a = some (.pointer (some p))) :
    (ReflectliteValue.method (ReflectliteValue.valueError "reflectlite.Value.IsNil" 0) ReflectliteValue.isNil #[.agg #[.pointer (some ⟨9, 180, none⟩), .pointer (some a), .int .u64 150]]).run Tryz.prog W = .ok (.bool false) W := by
  rw [rlm]
  simp only [Sem.run_bind, asT.parts27, Result.andThen]
  simp [ReflectliteValue.isNil, loadVar, isAgg, underlying, Tryz.underlying180, ha, Result.andThen]
theorem asT.methodElem (h : Value) (w : World) : (Go.method 371 225 (.agg #[h]) "Elem").run Tryz.prog w = .ok (224, .agg #[h]) w := by kernel_rfl
theorem asT.methodImplements (h : Value) (w : World) : (Go.method 371 225 (.agg #[h]) "Implements").run Tryz.prog w = .ok (225, .agg #[h]) w := by kernel_rfl
theorem asT.methodAssignableTo (h : Value) (w : World) : (Go.method 371 225 (.agg #[h]) "AssignableTo").run Tryz.prog w = .ok (222, .agg #[h]) w := by kernel_rfl
theorem asT.elem27 (w : World) : (ReflectliteType.method ReflectliteType.elem #[.agg #[.pointer (some ⟨9, 180, none⟩)]]).run Tryz.prog w = .ok (.iface 225 (.agg #[.pointer (some ⟨9, 92, none⟩)])) w := by kernel_rfl
theorem asT.implements25 (w : World) : (ReflectliteType.relation "Implements" ReflectliteType.implements_ #[.agg #[.pointer (some ⟨9, 92, none⟩)], .iface 225 (.agg #[.pointer (some ⟨9, 25, none⟩)])]).run Tryz.prog w = .ok (.bool true) w := by kernel_rfl
theorem asT.typeOf25 (v : Value) (w : World) : (ReflectliteType.typeOf #[.iface 92 v]).run Tryz.prog w = .ok (.iface 225 (.agg #[.pointer (some ⟨9, 92, none⟩)])) w := by kernel_rfl
theorem asT.assignable25 (w : World) : (ReflectliteType.relation "AssignableTo" ReflectliteType.assignableTo #[.agg #[.pointer (some ⟨9, 92, none⟩)], .iface 225 (.agg #[.pointer (some ⟨9, 92, none⟩)])]).run Tryz.prog w = .ok (.bool true) w := by kernel_rfl
theorem asT.valueOf25 (e : Addr) (w : World) : (ReflectliteValue.unpack (.iface 92 (.pointer (some e)))).run Tryz.prog w
    = .ok (.agg #[.pointer (some ⟨9, 92, none⟩), .pointer (some ⟨w.heap.size, 0, none⟩), .int .u64 150]) (w.alloc (.cells #[.pointer (some e)] 92)) := by kernel_rfl
theorem asT.elemOf27 (w : World) : (Rtype.elem? 180).run Tryz.prog w = .ok (some 92) w := by kernel_rfl
theorem asT.mk25 (p : Addr) (w : World) : (ReflectliteValue.mk 92 p ReflectliteValue.flagAddr).run Tryz.prog w = .ok (.agg #[.pointer (some ⟨9, 92, none⟩), .pointer (some p), .int .u64 406]) w := by kernel_rfl
theorem asT.elemV27 (a p : Addr) (W : World) (ha : W.cell? a = some (.pointer (some p))) :
    (ReflectliteValue.method (ReflectliteValue.valueError "reflectlite.Value.Elem" 0) ReflectliteValue.elem #[.agg #[.pointer (some ⟨9, 180, none⟩), .pointer (some a), .int .u64 150]]).run Tryz.prog W
      = .ok (.agg #[.pointer (some ⟨9, 92, none⟩), .pointer (some p), .int .u64 406]) W := by
  rw [rlm]
  simp only [Sem.run_bind, asT.parts27, Result.andThen]
  simp [ReflectliteValue.elem, loadVar, isAgg, underlying, Tryz.underlying180, ha, Result.andThen, asT.elemOf27, asT.mk25]
theorem rls (v x : Value) : ReflectliteValue.set #[v, x] = (do
    let (some (dst, a, fl), some (src, b, _)) := (← ReflectliteValue.parts v, ← ReflectliteValue.parts x)
      | unsupported (.noEntry "extern/(internal/reflectlite.Value).Set.zeroValue")
    if fl / ReflectliteValue.flagAddr % 2 == 0 then unsupported (.noEntry "extern/(internal/reflectlite.Value).Set.unaddressable")
    let val ← loadVar src b
    if ← Rtype.directlyAssignable dst src then storeVar dst a val
    else if ← Rtype.implements dst src then
      if (← Rtype.kind src) == 20 then
        match val with
        | .nilIface => unsupported (.noEntry "extern/reflectlite: a nil value of one interface type handed on as a value of another")
        | _ => storeVar dst a val
      else storeVar dst a (.iface src val)
    else panicString ("reflectlite.Set: value of type " ++ (← Rtype.spelt src) ++ " is not assignable to type " ++ (← Rtype.spelt dst))
    pure (.tuple #[])) := rfl
theorem asT.parts25a (a : Addr) (w : World) : (ReflectliteValue.parts (.agg #[.pointer (some ⟨9, 92, none⟩), .pointer (some a), .int .u64 406])).run Tryz.prog w = .ok (some (92, a, 406)) w := by kernel_rfl
theorem asT.parts25 (a : Addr) (w : World) : (ReflectliteValue.parts (.agg #[.pointer (some ⟨9, 92, none⟩), .pointer (some a), .int .u64 150])).run Tryz.prog w = .ok (some (92, a, 150)) w := by kernel_rfl
theorem asT.direct25 (w : World) : (Rtype.directlyAssignable 92 92).run Tryz.prog w = .ok true w := by kernel_rfl
theorem asT.set25 (ta b e : Addr) (old : Value) (W : World) (hb : W.cell? b = some (.pointer (some e))) (ht : W.cell? ta = some old) (hf : W.frozen? ta = false) :
    (ReflectliteValue.set #[.agg #[.pointer (some ⟨9, 92, none⟩), .pointer (some ta), .int .u64 406], .agg #[.pointer (some ⟨9, 92, none⟩), .pointer (some b), .int .u64 150]]).run Tryz.prog W
      = .ok (.tuple #[]) (W.setCell ta (.pointer (some e))) := by
  rw [rls]
  simp only [Sem.run_bind, asT.parts25a, asT.parts25, Result.andThen]
  simp [ReflectliteValue.flagAddr, loadVar, isAgg, underlying, Tryz.underlying92, hb, Result.andThen, asT.direct25, storeVar, Value.cells, storeCells, Addr.add]
  rw [run_store Tryz.prog W ta _ _ (by rfl)]
  simp [ht, hf]
set_option maxHeartbeats 4000000 in
theorem as_hit (e t : Addr) (old : Value) (w : World) (hg : w.cell? ⟨3, 0, none⟩ = some (.iface 225 (.agg #[.pointer (some ⟨9, 25, none⟩)]))) (ht0 : w.cell? t = some old) (hf0 : w.frozen? t = false) :
    Calls Tryz.prog 144 #[.iface 92 (.pointer (some e)), .iface 180 (.pointer (some t))] w fun ev w' => ev = .returned (.bool true) ∧ w' = ((((w.alloc (.cells #[.pointer (some t)] 180)).alloc (.cells #[.pointer (some ⟨9, 180, none⟩), .pointer (some ⟨w.heap.size, 0, none⟩), .int .u64 150] 203)).alloc (.cells #[.pointer (some ⟨9, 180, none⟩), .pointer (some ⟨w.heap.size, 0, none⟩), .int .u64 150] 203)).alloc (.cells #[.pointer (some e)] 92)).setCell t (.pointer (some e)) := by
  have h6 := @run_callFunc_extern Tryz.prog 167 _ (fun args => ReflectliteValue.unpack (args.getD 0 (.tuple #[]))) Tryz.func167 (by kernel_rfl) (by kernel_rfl) (by kernel_rfl) (by kernel_rfl)
  have h7 := @run_callFunc_extern Tryz.prog 168 _ (ReflectliteValue.methodAny (ReflectliteValue.valueError "reflectlite.Value.Type" 0) (fun t _ _ _ => ReflectliteType.toType t)) Tryz.func168 (by kernel_rfl) (by kernel_rfl) (by kernel_rfl) (by kernel_rfl)
  have h8 := @run_callFunc_extern Tryz.prog 169 _ (ReflectliteValue.method (ReflectliteValue.valueError "reflectlite.Value.IsNil" 0) ReflectliteValue.isNil) Tryz.func169 (by kernel_rfl) (by kernel_rfl) (by kernel_rfl) (by kernel_rfl)
  have h27 := @run_callFunc_extern Tryz.prog 207 _ (ReflectliteType.abiMethod fun t => do pure (.int .u8 (← Rtype.kind t))) Tryz.func207 (by kernel_rfl) (by kernel_rfl) (by kernel_rfl) (by kernel_rfl)
  have h37 := @run_callFunc_extern Tryz.prog 224 _ (ReflectliteType.method ReflectliteType.elem) Tryz.func224 (by kernel_rfl) (by kernel_rfl) (by kernel_rfl) (by kernel_rfl)
  have h38 := @run_callFunc_extern Tryz.prog 225 _ (ReflectliteType.relation "Implements" ReflectliteType.implements_) Tryz.func225 (by kernel_rfl) (by kernel_rfl) (by kernel_rfl) (by kernel_rfl)
  have h10 := @run_callFunc_extern Tryz.prog 185 _ ReflectliteType.typeOf Tryz.func185 (by kernel_rfl) (by kernel_rfl) (by kernel_rfl) (by kernel_rfl)
  have h35 := @run_callFunc_extern Tryz.prog 222 _ (ReflectliteType.relation "AssignableTo" ReflectliteType.assignableTo) Tryz.func222 (by kernel_rfl) (by kernel_rfl) (by kernel_rfl) (by kernel_rfl)
  have h11 := @run_callFunc_extern Tryz.prog 186 _ (ReflectliteValue.method (ReflectliteValue.valueError "reflectlite.Value.Elem" 0) ReflectliteValue.elem) Tryz.func186 (by kernel_rfl) (by kernel_rfl) (by kernel_rfl) (by kernel_rfl)
  have h12 := @run_callFunc_extern Tryz.prog 187 _ ReflectliteValue.set Tryz.func187 (by kernel_rfl) (by kernel_rfl) (by kernel_rfl) (by kernel_rfl)
  have tO := asT.typeOf25
  have mA := asT.methodAssignableTo
  have a25 := asT.assignable25
  have v25 := asT.valueOf25
  have f6 := asT.valueOf27
  have f7 := asT.type27
  have mK := asT.methodKind
  have mE := asT.methodElem
  have mI := asT.methodImplements
  have k27 := asT.kind27
  have k25 := asT.kind25
  have e27 := asT.elem27
  have i25 := asT.implements25
  have n8 := asT.isNil27 ⟨w.heap.size, 0, none⟩ t ((w.alloc (.cells #[.pointer (some t)] 180)).alloc (.cells #[.pointer (some ⟨9, 180, none⟩), .pointer (some ⟨w.heap.size, 0, none⟩), .int .u64 150] 203)) (by simp)
  have hlt : 3 < w.heap.size := by
    rcases Nat.lt_or_ge 3 w.heap.size with h | h
    · exact h
    · simp [World.cell?, Array.getElem?_eq_none h] at hg
  have hg2 : ((w.alloc (.cells #[.pointer (some t)] 180)).alloc (.cells #[.pointer (some ⟨9, 180, none⟩), .pointer (some ⟨w.heap.size, 0, none⟩), .int .u64 150] 203)).cell? ⟨3, 0, none⟩ = some (.iface 225 (.agg #[.pointer (some ⟨9, 25, none⟩)])) := by
    rw [World.cell?_alloc_lt _ _ ⟨3, 0, none⟩ (by simp; omega), World.cell?_alloc_lt _ _ ⟨3, 0, none⟩ hlt]; exact hg
  have htl : t.block < w.heap.size := by
    rcases Nat.lt_or_ge t.block w.heap.size with h | h
    · exact h
    · simp [World.cell?, Array.getElem?_eq_none h] at ht0
  have el := asT.elemV27 ⟨w.heap.size, 0, none⟩ t (((w.alloc (.cells #[.pointer (some t)] 180)).alloc (.cells #[.pointer (some ⟨9, 180, none⟩), .pointer (some ⟨w.heap.size, 0, none⟩), .int .u64 150] 203)).alloc (.cells #[.pointer (some ⟨9, 180, none⟩), .pointer (some ⟨w.heap.size, 0, none⟩), .int .u64 150] 203)) (by rw [World.cell?_alloc_lt _ _ ⟨w.heap.size, 0, none⟩ (by simp; omega)]; simp)
  have st := asT.set25 t ⟨w.heap.size + 1 + 1 + 1, 0, none⟩ e old ((((w.alloc (.cells #[.pointer (some t)] 180)).alloc (.cells #[.pointer (some ⟨9, 180, none⟩), .pointer (some ⟨w.heap.size, 0, none⟩), .int .u64 150] 203)).alloc (.cells #[.pointer (some ⟨9, 180, none⟩), .pointer (some ⟨w.heap.size, 0, none⟩), .int .u64 150] 203)).alloc (.cells #[.pointer (some e)] 92))
    (by rw [World.cell?_alloc_at _ _ _ _ (by simp)]; rfl)
    (by rw [World.cell?_alloc_lt _ _ t (by simp; omega), World.cell?_alloc_lt _ _ t (by simp; omega), World.cell?_alloc_lt _ _ t (by simp; omega), World.cell?_alloc_lt _ _ t htl]; exact ht0)
    (by rw [World.frozen?_alloc_old _ _ t (by simp; omega), World.frozen?_alloc_old _ _ t (by simp; omega), World.frozen?_alloc_old _ _ t (by simp; omega), World.frozen?_alloc_old _ _ t (Nat.ne_of_lt htl)]; exact hf0)
  go_enter Tryz.func144, Tryz.ntmps144
  go_wp2
  refine wp_loop_rounds 1 ?_
  rw [rounds_succ]
  go_wp2
  go_ret
  exact ⟨rfl, rfl⟩
end Go.Proofs.YtplagcbifecagaaGreatDoor
set_option maxRecDepth 100000
set_option linter.unusedVariables false
namespace Go.Proofs.YtplagcbifecagaaGreatDoor
open Go Go.RowKit Go.Extern.Stop Go.Stop Go.Extern Go.Proofs
theorem asT.typeOf31 (v : Value) (w : World) : (ReflectliteType.typeOf #[.iface 31 v]).run Tryz.prog w = .ok (.iface 225 (.agg #[.pointer (some ⟨9, 31, none⟩)])) w := by kernel_rfl
theorem asT.assignable31 (w : World) : (ReflectliteType.relation "AssignableTo" ReflectliteType.assignableTo #[.agg #[.pointer (some ⟨9, 31, none⟩)], .iface 225 (.agg #[.pointer (some ⟨9, 92, none⟩)])]).run Tryz.prog w = .ok (.bool false) w := by kernel_rfl
theorem asT.no230 (v : Value) (xT : TypeId) (w : World) : (Instr.typeAssert (.iface 31 v) xT 230 true).run Tryz.prog w = .ok (.tuple #[.nilIface, .bool false]) w := run_typeAssert_lacksB Tryz.underlying230 (by kernel_rfl) (by kernel_rfl) v xT w
theorem asT.no233 (v : Value) (xT : TypeId) (w : World) : (Instr.typeAssert (.iface 31 v) xT 233 true).run Tryz.prog w = .ok (.tuple #[.nilIface, .bool false]) w := run_typeAssert_lacksB Tryz.underlying233 (by kernel_rfl) (by kernel_rfl) v xT w
theorem asT.no234 (v : Value) (xT : TypeId) (w : World) : (Instr.typeAssert (.iface 31 v) xT 234 true).run Tryz.prog w = .ok (.tuple #[.nilIface, .bool false]) w := run_typeAssert_lacksB Tryz.underlying234 (by kernel_rfl) (by kernel_rfl) v xT w
set_option maxHeartbeats 4000000 in
theorem as_miss (n : Int) (t : Addr) (old : Value) (w : World) (hg : w.cell? ⟨3, 0, none⟩ = some (.iface 225 (.agg #[.pointer (some ⟨9, 25, none⟩)]))) (ht0 : w.cell? t = some old) :
    Calls Tryz.prog 144 #[.iface 31 (.int .i64 n), .iface 180 (.pointer (some t))] w fun ev w' => ev = .returned (.bool false) ∧ Below w.heap.size w w' := by
  have h6 := @run_callFunc_extern Tryz.prog 167 _ (fun args => ReflectliteValue.unpack (args.getD 0 (.tuple #[]))) Tryz.func167 (by kernel_rfl) (by kernel_rfl) (by kernel_rfl) (by kernel_rfl)
  have h7 := @run_callFunc_extern Tryz.prog 168 _ (ReflectliteValue.methodAny (ReflectliteValue.valueError "reflectlite.Value.Type" 0) (fun t _ _ _ => ReflectliteType.toType t)) Tryz.func168 (by kernel_rfl) (by kernel_rfl) (by kernel_rfl) (by kernel_rfl)
  have h8 := @run_callFunc_extern Tryz.prog 169 _ (ReflectliteValue.method (ReflectliteValue.valueError "reflectlite.Value.IsNil" 0) ReflectliteValue.isNil) Tryz.func169 (by kernel_rfl) (by kernel_rfl) (by kernel_rfl) (by kernel_rfl)
  have h27 := @run_callFunc_extern Tryz.prog 207 _ (ReflectliteType.abiMethod fun t => do pure (.int .u8 (← Rtype.kind t))) Tryz.func207 (by kernel_rfl) (by kernel_rfl) (by kernel_rfl) (by kernel_rfl)
  have h37 := @run_callFunc_extern Tryz.prog 224 _ (ReflectliteType.method ReflectliteType.elem) Tryz.func224 (by kernel_rfl) (by kernel_rfl) (by kernel_rfl) (by kernel_rfl)
  have h38 := @run_callFunc_extern Tryz.prog 225 _ (ReflectliteType.relation "Implements" ReflectliteType.implements_) Tryz.func225 (by kernel_rfl) (by kernel_rfl) (by kernel_rfl) (by kernel_rfl)
  have h10 := @run_callFunc_extern Tryz.prog 185 _ ReflectliteType.typeOf Tryz.func185 (by kernel_rfl) (by kernel_rfl) (by kernel_rfl) (by kernel_rfl)
  have h35 := @run_callFunc_extern Tryz.prog 222 _ (ReflectliteType.relation "AssignableTo" ReflectliteType.assignableTo) Tryz.func222 (by kernel_rfl) (by kernel_rfl) (by kernel_rfl) (by kernel_rfl)
  have h11 := @run_callFunc_extern Tryz.prog 186 _ (ReflectliteValue.method (ReflectliteValue.valueError "reflectlite.Value.Elem" 0) ReflectliteValue.elem) Tryz.func186 (by kernel_rfl) (by kernel_rfl) (by kernel_rfl) (by kernel_rfl)
  have h12 := @run_callFunc_extern Tryz.prog 187 _ ReflectliteValue.set Tryz.func187 (by kernel_rfl) (by kernel_rfl) (by kernel_rfl) (by kernel_rfl)
  have tO := asT.typeOf31
  have mA := asT.methodAssignableTo
  have a25 := asT.assignable31
  have f6 := asT.valueOf27
  have f7 := asT.type27
  have mK := asT.methodKind
  have mE := asT.methodElem
  have mI := asT.methodImplements
  have k27 := asT.kind27
  have k25 := asT.kind25
  have e27 := asT.elem27
  have i25 := asT.implements25
  have n8 := asT.isNil27 ⟨w.heap.size, 0, none⟩ t ((w.alloc (.cells #[.pointer (some t)] 180)).alloc (.cells #[.pointer (some ⟨9, 180, none⟩), .pointer (some ⟨w.heap.size, 0, none⟩), .int .u64 150] 203)) (by simp)
  have hlt : 3 < w.heap.size := by
    rcases Nat.lt_or_ge 3 w.heap.size with h | h
    · exact h
    · simp [World.cell?, Array.getElem?_eq_none h] at hg
  have hg2 : ((w.alloc (.cells #[.pointer (some t)] 180)).alloc (.cells #[.pointer (some ⟨9, 180, none⟩), .pointer (some ⟨w.heap.size, 0, none⟩), .int .u64 150] 203)).cell? ⟨3, 0, none⟩ = some (.iface 225 (.agg #[.pointer (some ⟨9, 25, none⟩)])) := by
    rw [World.cell?_alloc_lt _ _ ⟨3, 0, none⟩ (by simp; omega), World.cell?_alloc_lt _ _ ⟨3, 0, none⟩ hlt]; exact hg
  have htl : t.block < w.heap.size := by
    rcases Nat.lt_or_ge t.block w.heap.size with h | h
    · exact h
    · simp [World.cell?, Array.getElem?_eq_none h] at ht0
  have n1 := asT.no230
  have n2 := asT.no233
  have n3 := asT.no234
  go_enter Tryz.func144, Tryz.ntmps144
  go_wp2
  refine wp_loop_rounds 1 ?_
  rw [rounds_succ]
  go_wp2
  go_ret
  exact ⟨rfl, (((Below.refl _ _).alloc (Nat.le_refl _) _).alloc (by simp) _).alloc (by simp; omega) _⟩
end Go.Proofs.YtplagcbifecagaaGreatDoor
set_option maxRecDepth 100000
set_option linter.unusedVariables false
namespace Go.Proofs.YtplagcbifecagaaGreatDoor
open Go Go.Av Go.RowKit Go.Proofs Go.Pl
theorem setCell_one {w : World} {b : Nat} {T : TypeId} {fz : Nat × Nat} {c : Array Value} (v : Value) (hc : w.heap[b]? = some (.cells c T fz)) (h1 : c.size = 1) : w.setCell ⟨b, 0, none⟩ v = w.setRow b #[v] := by
  unfold World.setCell World.setRow
  congr 1
  apply Array.ext_getElem?
  intro i
  rw [Array.getElem?_modify, Array.getElem?_modify]
  by_cases hi : b = i
  · subst hi
    rw [if_pos rfl, if_pos rfl, hc]
    have : c.setIfInBounds 0 v = #[v] := by
      apply Array.ext
      · simp [h1]
      · intro i h2 h3
        have : i = 0 := by simp at h3; omega
        subst this
        simp
    simp [this]
  · rw [if_neg hi, if_neg hi]
theorem asHit_c (a n : Int) (o : Nat) (st : List AObj) (ho : st[o]? = some (.cells 0 92 [.v (.pointer none)])) : ACall E 144 [faultA a n, .ifc 180 (.bx o 0 0)] st fun r st' => r = Bv true ∧ st' = st.set o (.cells 0 92 [.pp [Iv a, .ifc 31 (Iv n)]]) := by
  refine ⟨fun B0 w0 G vals w hL hA hR => ?_⟩
  obtain ⟨v1, v2, rfl⟩ : ∃ x y, vals = #[x, y] := by
    have := hR.1
    match vals, this with
    | ⟨[x, y]⟩, _ => exact ⟨x, y, rfl⟩
  have h1 := hR.2 0 _ v1 rfl rfl
  have h2 := hR.2 1 _ v2 rfl rfl
  unfold faultA at h1
  cases h1 with
  | ifc _ _ y1 h1 =>
    cases h2 with
    | ifc _ _ y2 h2 =>
      have hpp := h1
      cases h1 with
      | pp _ b off pub hp hlen hr =>
        cases h2 with
        | bx _ _ _ b2 hn hv hb =>
          obtain ⟨_, g1, g2, g3, c, g4, g5, g6⟩ := hA.ob o _ ho
          have hb := hb g1
          subst hb
          have hc1 : c.size = 1 := by simpa using g5.symm
          have hl := (hL w hA.below).ert
          have hcell : w.cell? ⟨(G.ob o).blk, 0, none⟩ = some c[0] := by simp [World.cell?, g4, hc1]
          have hfz : w.frozen? ⟨(G.ob o).blk, 0, none⟩ = false := by simp [World.frozen?, g4]
          have hlt : (G.ob o).blk < w.heap.size := (Array.getElem?_eq_some_iff.1 g4).1
          refine (as_hit ⟨b, off, none⟩ ⟨(G.ob o).blk, 0, none⟩ c[0] w hl hcell hfz).mono ?_
          rintro e w' ⟨rfl, rfl⟩
          have hb1 : Below w.heap.size w ((((w.alloc (.cells #[.pointer (some ⟨(G.ob o).blk, 0, none⟩)] 180)).alloc (.cells #[.pointer (some ⟨9, 180, none⟩), .pointer (some ⟨w.heap.size, 0, none⟩), .int .u64 150] 203)).alloc (.cells #[.pointer (some ⟨9, 180, none⟩), .pointer (some ⟨w.heap.size, 0, none⟩), .int .u64 150] 203)).alloc (.cells #[.pointer (some ⟨b, off, none⟩)] 92)) :=
            ((((Below.refl _ _).alloc (Nat.le_refl _) _).alloc (by simp) _).alloc (by simp; omega) _).alloc (by simp; omega) _
          have hA1 := hA.fresh hb1
          obtain ⟨_, k1, k2, k3, c', k4, k5, k6⟩ := hA1.ob o _ ho
          have hc1' : c'.size = 1 := by simpa using k5.symm
          refine ⟨.bool true, G, Bv true, _, rfl, .refl G, ?_, .v _, rfl, rfl⟩
          rw [setCell_one _ k4 hc1']
          exact hA1.setRow ho (by simp) fun i x y hx hy => by
            match i with
            | 0 => simp at hx hy; subst hx; subst hy; exact hpp
            | i + 1 => simp at hx
theorem asMiss_c (n : Int) (o : Nat) (st : List AObj) (ho : st[o]? = some (.cells 0 92 [.v (.pointer none)])) : ACall E 144 [.ifc 31 (Iv n), .ifc 180 (.bx o 0 0)] st fun r st' => r = Bv false ∧ st' = st := by
  refine ⟨fun B0 w0 G vals w hL hA hR => ?_⟩
  obtain ⟨v1, v2, rfl⟩ : ∃ x y, vals = #[x, y] := by
    have := hR.1
    match vals, this with
    | ⟨[x, y]⟩, _ => exact ⟨x, y, rfl⟩
  have h1 := hR.2 0 _ v1 rfl rfl
  have h2 := hR.2 1 _ v2 rfl rfl
  cases h1 with
  | ifc _ _ y1 h1 =>
    cases h2 with
    | ifc _ _ y2 h2 =>
      cases h1 with
      | v =>
        cases h2 with
        | bx _ _ _ b2 hn hv hb =>
          obtain ⟨_, g1, g2, g3, c, g4, g5, g6⟩ := hA.ob o _ ho
          have hb := hb g1
          subst hb
          have hc1 : c.size = 1 := by simpa using g5.symm
          have hl := (hL w hA.below).ert
          have hcell : w.cell? ⟨(G.ob o).blk, 0, none⟩ = some c[0] := by simp [World.cell?, g4, hc1]
          refine (as_miss n ⟨(G.ob o).blk, 0, none⟩ c[0] w hl hcell).mono ?_
          rintro e w' ⟨rfl, hb⟩
          exact ⟨_, G, Bv false, st, rfl, .refl G, hA.fresh hb, .v _, rfl, rfl⟩
end Go.Proofs.YtplagcbifecagaaGreatDoor
set_option maxRecDepth 100000
set_option linter.unusedVariables false
namespace Go.Pl
open Go Go.Proofs
inductive ErrV where
  | no
  | num (n : Int)
  | at' (a n : Int)
  deriving DecidableEq
def ErrV.code : ErrV → Int
  | .no => 0
  | .num n => n
  | .at' _ n => n
def chkFrom : Nat → List Fld → ErrV
  | _, [] => .no
  | k, f :: r => if checkF f = 0 then chkFrom (k + 1) r else .at' k (checkF f)
def checkFs (fs : List Fld) : ErrV := if fs = [] then .num 2 else if 40 < fs.length then .num 11 else chkFrom 0 fs
theorem chkFrom_app : ∀ (k : Nat) (p r : List Fld), (∀ x ∈ p, checkF x = 0) → chkFrom k (p ++ r) = chkFrom (k + p.length) r
  | k, [], r, _ => by simp
  | k, f :: p, r, h => by
    have h1 := h f (by simp)
    rw [List.cons_append, chkFrom, if_pos h1, chkFrom_app (k + 1) p r fun x hx => h x (by simp [hx])]
    congr 1
    simp
    omega
theorem chkFrom_code : ∀ (k : Nat) (r : List Fld), (chkFrom k r).code = 0 ↔ chkFrom k r = .no
  | k, [] => by simp [chkFrom, ErrV.code]
  | k, f :: r => by
    unfold chkFrom
    split
    · exact chkFrom_code _ r
    · rename_i h
      simp [ErrV.code, h]
theorem checkFs_code (fs : List Fld) : (checkFs fs).code = 0 ↔ checkFs fs = .no := by
  unfold checkFs
  split
  · simp [ErrV.code]
  · split
    · simp [ErrV.code]
    · exact chkFrom_code _ _
end Go.Pl
namespace Go.Proofs.YtplagcbifecagaaGreatDoor
open Go Go.Av Go.RowKit Go.Proofs Go.Pl
theorem ext_low {st st' : List AObj} (h : ∀ k, k < st.length → st'[k]? = st[k]?) : ∃ ext, st' = st ++ ext := by
  refine ext_of_low ?_ h
  rcases Nat.eq_zero_or_pos st.length with h0 | h0
  · omega
  · have h1 := h (st.length - 1) (by omega)
    have h2 : st[st.length - 1]? = some (st[st.length - 1]'(by omega)) := List.getElem?_eq_getElem (by omega)
    have := lt_of_getElem? (h1.trans h2)
    omega
def gErr (x : EditV) : ErrV := if x.kind = 2 then (if x.fields = [] then .no else .num 2) else if x.kind = 1 ∨ x.kind = 3 then checkFs x.fields else .num 2
def eFrom : Nat → List EditV → ErrV
  | _, [] => .no
  | k, x :: r => if (gErr x).code = 0 then eFrom (k + 1) r else .at' k (gErr x).code
def eErr (b : List EditV) : ErrV := if b.length < 1 ∨ 40 < b.length then .num 1 else eFrom 0 b
theorem eFrom_app : ∀ (k : Nat) (p r : List EditV), (∀ x ∈ p, (gErr x).code = 0) → eFrom k (p ++ r) = eFrom (k + p.length) r
  | k, [], r, _ => by simp
  | k, f :: p, r, h => by
    have h1 := h f (by simp)
    rw [List.cons_append, eFrom, if_pos h1, eFrom_app (k + 1) p r fun x hx => h x (by simp [hx])]
    congr 1
    simp
    omega
theorem gErr_code (x : EditV) : (gErr x).code = 0 ↔ gErr x = .no := by
  unfold gErr
  split
  · split <;> simp [ErrV.code]
  · split
    · exact checkFs_code _
    · simp [ErrV.code]
theorem eFrom_code : ∀ (k : Nat) (r : List EditV), (eFrom k r).code = 0 ↔ eFrom k r = .no
  | k, [] => by simp [eFrom, ErrV.code]
  | k, f :: r => by
    unfold eFrom
    split
    · exact eFrom_code _ r
    · rename_i h
      simp [ErrV.code] at h ⊢
      exact h
theorem eErr_code (b : List EditV) : (eErr b).code = 0 ↔ eErr b = .no := by
  unfold eErr
  split
  · simp [ErrV.code]
  · exact eFrom_code _ _
def errA : ErrV → AV
  | .no => .v .nilIface
  | .num n => .ifc 31 (Iv n)
  | .at' a n => .ifc 92 (.pp [Iv a, .ifc 31 (Iv n)])
theorem errA_pure (e : ErrV) : Pure (errA e) := by
  cases e with
  | no => exact pure_v _
  | num n => exact pure_ifc (pure_v _)
  | at' a n => exact faultA_pure a n
def KeyB (fs : List Fld) : Prop := ∀ f ∈ fs, f.1.length < 4294967281
theorem pcheck_c (fs : List Fld) (st : List AObj) (e : ErrV) (h : checkFs fs = e) (hK : KeyB fs) (hl : fs.length < 9223372036854775808) : ACall E 109 [fldsA fs] st fun r st' => r = errA e ∧ st' = st := by
  subst h
  refine acall_pure (errA_pure _) (acall_of_awp Tryz.func109 rfl (Nat.le_of_ble_eq_true rfl) ?_)
  have hml : (fs.map fldA).length = fs.length := by simp
  by_cases h0 : fs = []
  · subst h0
    repeat' (first
      | apply awp_seq
      | apply awp_block
      | apply awp_region
      | apply aops_nil
      | apply aops_move
      | apply aops_assign
      | (apply aops_cmpI; exact rfl; exact rfl; exact rfl)
      | (apply awp_cond_any; exact rfl; first | (apply cd_dt; (first | assumption | omega)) | (apply cd_df; (first | assumption | omega)) | (apply cd_nt; (first | exact rfl | assumption)) | (apply cd_nf; (first | exact rfl | assumption)) | (apply cd_n <;> intro h) | (apply cd_t; (first | exact rfl | assumption)) | (apply cd_f; (first | exact rfl | assumption)) | (apply cd_d <;> intro h) | (apply cd_s <;> intro h))
      | (apply aops_lenL; exact rfl; exact rfl; exact rfl; exact rfl)
      | (apply aops_makeInterface; exact rfl; exact rfl)
      | apply awp_ret)
    exact aret_plain rfl (ares_one rfl) ⟨rfl, _, rfl⟩
  have hp : 0 < fs.length := List.length_pos_iff.2 h0
  by_cases h40 : 40 < fs.length
  · have hc : checkFs fs = .num 11 := by unfold checkFs; rw [if_neg h0, if_pos h40]
    rw [hc]
    repeat' (first
      | apply awp_seq
      | apply awp_block
      | apply awp_region
      | apply aops_nil
      | apply aops_move
      | apply aops_assign
      | (apply aops_cmpI; exact rfl; exact rfl; exact rfl)
      | (apply awp_cond_any; exact rfl; first | (apply cd_dt; (first | assumption | omega)) | (apply cd_df; (first | assumption | omega)) | (apply cd_nt; (first | exact rfl | assumption)) | (apply cd_nf; (first | exact rfl | assumption)) | (apply cd_n <;> intro h) | (apply cd_t; (first | exact rfl | assumption)) | (apply cd_f; (first | exact rfl | assumption)) | (apply cd_d <;> intro h) | (apply cd_s <;> intro h))
      | (apply aops_lenL; exact rfl; exact rfl; exact rfl; exact rfl)
      | (apply aops_makeInterface; exact rfl; exact rfl)
      | apply awp_ret)
    exact aret_plain rfl (ares_one rfl) ⟨rfl, _, rfl⟩
  have hc : checkFs fs = chkFrom 0 fs := by unfold checkFs; rw [if_neg h0, if_neg h40]
  rw [hc]
  repeat' (first
    | apply awp_seq
    | apply awp_block
    | apply awp_region
    | apply aops_nil
    | apply aops_move
    | apply aops_assign
    | (apply aops_cmpI; exact rfl; exact rfl; exact rfl)
    | (apply awp_cond_any; exact rfl; first | (apply cd_dt; (first | assumption | omega)) | (apply cd_df; (first | assumption | omega)) | (apply cd_nt; (first | exact rfl | assumption)) | (apply cd_nf; (first | exact rfl | assumption)) | (apply cd_n <;> intro h) | (apply cd_t; (first | exact rfl | assumption)) | (apply cd_f; (first | exact rfl | assumption)) | (apply cd_d <;> intro h) | (apply cd_s <;> intro h))
    | (apply aops_lenL; exact rfl; exact rfl; exact rfl; exact rfl)
    | apply awp_skip)
  refine awp_loopL fs (fun pre s => (∀ x ∈ pre, checkF x = 0) ∧ StE [(16, fldsA fs), (17, Iv fs.length), (18, Iv pre.length)] st [] s) ⟨by simp, stE_mk0 ⟨rfl, congrArg (fun n : Nat => Iv (n : Int)) hml, rfl, trivial⟩ rfl⟩ ?_ ?_
  · rintro _ ⟨h3, t, ext, rfl⟩
    have he := chkFrom_app 0 fs [] h3
    rw [List.append_nil] at he
    rw [he]
    repeat' (first
      | apply awp_seq
      | apply awp_region
      | apply aops_nil
      | apply aops_assign
      | (apply aops_cmpI; exact rfl; exact rfl; exact rfl)
      | (apply awp_cond_any; exact rfl; first | (apply cd_dt; (first | assumption | omega)) | (apply cd_df; (first | assumption | omega)) | (apply cd_nt; (first | exact rfl | assumption)) | (apply cd_nf; (first | exact rfl | assumption)) | (apply cd_n <;> intro h) | (apply cd_t; (first | exact rfl | assumption)) | (apply cd_f; (first | exact rfl | assumption)) | (apply cd_d <;> intro h) | (apply cd_s <;> intro h))
      | apply awp_exit
      | apply awp_ret)
    exact aret_plain rfl (ares_one rfl) ⟨rfl, ext_end _ _ _ _⟩
  · rintro pre a rest _ hr ⟨h3, t, ext, rfl⟩
    have hrlen : fs.length = pre.length + (rest.length + 1) := by rw [hr]; simp
    have hget : (fs.map fldA)[pre.length]? = some (fldA a) := by rw [hr]; simp
    have hka := hK a (by rw [hr]; simp)
    by_cases ha : checkF a = 0
    · skip
      repeat' (first
        | apply awp_seq
        | apply awp_block
        | apply awp_region
        | apply aops_nil
        | apply aops_move
        | apply aops_assign
        | (apply aops_cmpI; exact rfl; exact rfl; exact rfl)
        | (apply awp_cond_any; exact rfl; first | (apply cd_dt; (first | assumption | omega)) | (apply cd_df; (first | assumption | omega)) | (apply cd_nt; (first | exact rfl | assumption)) | (apply cd_nf; (first | exact rfl | assumption)) | (apply cd_n <;> intro h) | (apply cd_t; (first | exact rfl | assumption)) | (apply cd_f; (first | exact rfl | assumption)) | (apply cd_d <;> intro h) | (apply cd_s <;> intro h))
        | (apply aops_add; exact rfl; exact rfl; exact wrap_i64 (by omega) (by omega))
        | (apply aops_nilNeNil; exact rfl; exact rfl)
        | (apply aops_alloc; exact rfl; exact rfl)
        | (apply aops_load_pp; exact rfl; exact rfl; exact rfl)
        | (apply aops_load_loc; exact rfl; exact rfl; exact rfl; exact rfl; exact rfl)
        | (apply aops_store_loc; exact rfl; exact rfl; exact rfl; exact rfl; exact rfl; exact rfl; exact rfl; exact rfl; exact rfl; exact rfl; exact rfl)
        | apply awp_skip
        | (apply aops_call1; exact Tryz.call111; exact foldCheck0_c _ _ hka ha)
        | (apply aops_indexAddr (n := pre.length); exact rfl; exact rfl; exact rfl; exact rfl; exact rfl; exact hget))
      refine ⟨fun x hx => ?_, stE_mk ⟨rfl, rfl, iv_snoc pre a, trivial⟩ rfl⟩
      rcases List.mem_append.1 hx with hx | hx
      · exact h3 x hx
      · simp at hx; subst hx; exact ha
    · have he := chkFrom_app 0 pre (a :: rest) h3
      rw [← hr, chkFrom, if_neg ha] at he
      rw [he]
      repeat' (first
        | (apply aops_boxP; exact rfl; exact rfl; exact rfl)
        | apply awp_seq
        | apply awp_block
        | apply awp_region
        | apply aops_nil
        | apply aops_move
        | apply aops_assign
        | (apply aops_cmpI; exact rfl; exact rfl; exact rfl)
        | (apply awp_cond_any; exact rfl; first | (apply cd_dt; (first | assumption | omega)) | (apply cd_df; (first | assumption | omega)) | (apply cd_nt; (first | exact rfl | assumption)) | (apply cd_nf; (first | exact rfl | assumption)) | (apply cd_n <;> intro h) | (apply cd_t; (first | exact rfl | assumption)) | (apply cd_f; (first | exact rfl | assumption)) | (apply cd_d <;> intro h) | (apply cd_s <;> intro h))
        | (apply aops_errNeNil; exact rfl; exact rfl)
        | (apply aops_makeInterface; exact rfl; exact rfl)
        | (apply aops_alloc; exact rfl; exact rfl)
        | (apply aops_load_pp; exact rfl; exact rfl; exact rfl)
        | (apply aops_load_loc; exact rfl; exact rfl; exact rfl; exact rfl; exact rfl)
        | (apply aops_store_loc; exact rfl; exact rfl; exact rfl; exact rfl; exact rfl; exact rfl; exact rfl; exact rfl; exact rfl; exact rfl; exact rfl)
        | (apply aops_build; exact rfl; exact rfl; exact rfl)
        | apply awp_skip
        | apply awp_ret
        | (apply aops_call1; exact Tryz.call111; exact foldCheck1_c _ _ hka ha)
        | (apply aops_indexAddr (n := pre.length); exact rfl; exact rfl; exact rfl; exact rfl; exact rfl; exact hget))
      refine aret_plain rfl (ares_one rfl) ⟨?_, ext_end _ _ _ _⟩
      rw [Nat.zero_add]
      rfl
theorem egood_c (x : EditV) (st : List AObj) (e : ErrV) (h : gErr x = e) (hK : KeyB x.fields) (hl : x.fields.length < 9223372036854775808) : ACall E 76 [editA x] st fun r st' => r = errA e ∧ st' = st := by
  subst h
  refine acall_pure (errA_pure _) (acall_of_awp Tryz.func76 rfl (Nat.le_of_ble_eq_true rfl) ?_)
  have hml : (x.fields.map fldA).length = x.fields.length := by simp
  have hpos : x.fields = [] ↔ x.fields.length = 0 := by simp
  unfold gErr
  by_cases h2 : x.kind = 2
  · rw [if_pos h2]
    by_cases h0 : x.fields = []
    · rw [if_pos h0]
      have hz := hpos.1 h0
      repeat' (first
        | apply awp_seq
        | apply awp_block
        | apply awp_region
        | apply aops_nil
        | apply aops_assign
        | (apply aops_cmpI; exact rfl; exact rfl; exact rfl)
        | (apply awp_cond_any; exact rfl; first | (apply cd_dt; (first | assumption | omega)) | (apply cd_df; (first | assumption | omega)) | (apply cd_nt; (first | exact rfl | assumption)) | (apply cd_nf; (first | exact rfl | assumption)) | (apply cd_n <;> intro h) | (apply cd_t; (first | exact rfl | assumption)) | (apply cd_f; (first | exact rfl | assumption)) | (apply cd_d <;> intro h) | (apply cd_s <;> intro h))
        | (apply aops_lenL; exact rfl; exact rfl; exact rfl; exact rfl)
        | (apply aops_box; exact rfl; exact rfl; exact rfl; exact rfl)
        | (apply aops_fieldAddr_bx; exact rfl; exact rfl; exact rfl)
        | (apply aops_load_loc; exact rfl; exact rfl; exact rfl; exact rfl; exact rfl)
        | apply awp_skip
        | apply awp_ret)
      exact aret_plain rfl (ares_one rfl) ⟨rfl, _, rfl⟩
    · rw [if_neg h0]
      have hz : 0 < x.fields.length := List.length_pos_iff.2 h0
      repeat' (first
        | apply awp_seq
        | apply awp_block
        | apply awp_region
        | apply aops_nil
        | apply aops_assign
        | (apply aops_cmpI; exact rfl; exact rfl; exact rfl)
        | (apply awp_cond_any; exact rfl; first | (apply cd_dt; (first | assumption | omega)) | (apply cd_df; (first | assumption | omega)) | (apply cd_nt; (first | exact rfl | assumption)) | (apply cd_nf; (first | exact rfl | assumption)) | (apply cd_n <;> intro h) | (apply cd_t; (first | exact rfl | assumption)) | (apply cd_f; (first | exact rfl | assumption)) | (apply cd_d <;> intro h) | (apply cd_s <;> intro h))
        | (apply aops_lenL; exact rfl; exact rfl; exact rfl; exact rfl)
        | (apply aops_makeInterface; exact rfl; exact rfl)
        | (apply aops_box; exact rfl; exact rfl; exact rfl; exact rfl)
        | (apply aops_fieldAddr_bx; exact rfl; exact rfl; exact rfl)
        | (apply aops_load_loc; exact rfl; exact rfl; exact rfl; exact rfl; exact rfl)
        | apply awp_ret)
      exact aret_plain rfl (ares_one rfl) ⟨rfl, _, rfl⟩
  · rw [if_neg h2]
    by_cases h1 : x.kind = 1
    · rw [if_pos (.inl h1)]
      repeat' (first
        | apply awp_seq
        | apply awp_block
        | apply awp_region
        | apply aops_nil
        | apply aops_assign
        | (apply aops_cmpI; exact rfl; exact rfl; exact rfl)
        | (apply awp_cond_any; exact rfl; first | (apply cd_dt; (first | assumption | omega)) | (apply cd_df; (first | assumption | omega)) | (apply cd_nt; (first | exact rfl | assumption)) | (apply cd_nf; (first | exact rfl | assumption)) | (apply cd_n <;> intro h) | (apply cd_t; (first | exact rfl | assumption)) | (apply cd_f; (first | exact rfl | assumption)) | (apply cd_d <;> intro h) | (apply cd_s <;> intro h))
        | (apply aops_box; exact rfl; exact rfl; exact rfl; exact rfl)
        | (apply aops_fieldAddr_bx; exact rfl; exact rfl; exact rfl)
        | (apply aops_load_loc; exact rfl; exact rfl; exact rfl; exact rfl; exact rfl)
        | apply awp_skip
        | apply awp_ret
        | (apply aops_call1; exact Tryz.call109; exact pcheck_c _ _ _ rfl hK hl))
      exact aret_plain rfl (ares_one rfl) ⟨rfl, _, rfl⟩
    · by_cases h3 : x.kind = 3
      · rw [if_pos (.inr h3)]
        repeat' (first
          | apply awp_seq
          | apply awp_block
          | apply awp_region
          | apply aops_nil
          | apply aops_assign
          | (apply aops_cmpI; exact rfl; exact rfl; exact rfl)
          | (apply awp_cond_any; exact rfl; first | (apply cd_dt; (first | assumption | omega)) | (apply cd_df; (first | assumption | omega)) | (apply cd_nt; (first | exact rfl | assumption)) | (apply cd_nf; (first | exact rfl | assumption)) | (apply cd_n <;> intro h) | (apply cd_t; (first | exact rfl | assumption)) | (apply cd_f; (first | exact rfl | assumption)) | (apply cd_d <;> intro h) | (apply cd_s <;> intro h))
          | (apply aops_box; exact rfl; exact rfl; exact rfl; exact rfl)
          | (apply aops_fieldAddr_bx; exact rfl; exact rfl; exact rfl)
          | (apply aops_load_loc; exact rfl; exact rfl; exact rfl; exact rfl; exact rfl)
          | apply awp_ret
          | (apply aops_call1; exact Tryz.call109; exact pcheck_c _ _ _ rfl hK hl))
        exact aret_plain rfl (ares_one rfl) ⟨rfl, _, rfl⟩
      · rw [if_neg (by rintro (h | h) <;> contradiction)]
        repeat' (first
          | apply awp_seq
          | apply awp_block
          | apply awp_region
          | apply aops_nil
          | apply aops_assign
          | (apply aops_cmpI; exact rfl; exact rfl; exact rfl)
          | (apply awp_cond_any; exact rfl; first | (apply cd_dt; (first | assumption | omega)) | (apply cd_df; (first | assumption | omega)) | (apply cd_nt; (first | exact rfl | assumption)) | (apply cd_nf; (first | exact rfl | assumption)) | (apply cd_n <;> intro h) | (apply cd_t; (first | exact rfl | assumption)) | (apply cd_f; (first | exact rfl | assumption)) | (apply cd_d <;> intro h) | (apply cd_s <;> intro h))
          | (apply aops_makeInterface; exact rfl; exact rfl)
          | (apply aops_box; exact rfl; exact rfl; exact rfl; exact rfl)
          | (apply aops_fieldAddr_bx; exact rfl; exact rfl; exact rfl)
          | (apply aops_load_loc; exact rfl; exact rfl; exact rfl; exact rfl; exact rfl)
          | apply awp_skip
          | apply awp_ret)
        exact aret_plain rfl (ares_one rfl) ⟨rfl, _, rfl⟩
theorem ebareN_c (n : Int) (st : List AObj) : ACall E 110 [.ifc 31 (Iv n)] st fun r st' => r = .ifc 31 (Iv n) ∧ st' = st := by
  refine acall_pure (pure_ifc (pure_v _)) (acall_of_awp Tryz.func110 rfl (Nat.le_of_ble_eq_true rfl) ?_)
  repeat' (first
    | apply awp_seq
    | apply awp_region
    | apply aops_nil
    | apply aops_move
    | apply aops_assign
    | (apply awp_cond_any; exact rfl; first | (apply cd_dt; (first | assumption | omega)) | (apply cd_df; (first | assumption | omega)) | (apply cd_nt; (first | exact rfl | assumption)) | (apply cd_nf; (first | exact rfl | assumption)) | (apply cd_n <;> intro h) | (apply cd_t; (first | exact rfl | assumption)) | (apply cd_f; (first | exact rfl | assumption)) | (apply cd_d <;> intro h) | (apply cd_s <;> intro h))
    | (apply aops_makeInterface; exact rfl; exact rfl)
    | (apply aops_alloc; exact rfl; exact rfl)
    | apply awp_skip
    | apply awp_ret
    | (apply aops_call1; exact Tryz.call144; exact asMiss_c _ (st.length + 0) _ (get_loc rfl)))
  exact aret_plain rfl (ares_one rfl) ⟨rfl, _, rfl⟩
theorem ebareF_c (a n : Int) (st : List AObj) : ACall E 110 [faultA a n] st fun r st' => r = .ifc 31 (Iv n) ∧ st' = st := by
  refine acall_pure (pure_ifc (pure_v _)) (acall_of_awp Tryz.func110 rfl (Nat.le_of_ble_eq_true rfl) ?_)
  repeat' (first
    | apply awp_seq
    | apply awp_region
    | apply aops_nil
    | apply aops_move
    | apply aops_assign
    | (apply awp_cond_any; exact rfl; first | (apply cd_dt; (first | assumption | omega)) | (apply cd_df; (first | assumption | omega)) | (apply cd_nt; (first | exact rfl | assumption)) | (apply cd_nf; (first | exact rfl | assumption)) | (apply cd_n <;> intro h) | (apply cd_t; (first | exact rfl | assumption)) | (apply cd_f; (first | exact rfl | assumption)) | (apply cd_d <;> intro h) | (apply cd_s <;> intro h))
    | (apply aops_makeInterface; exact rfl; exact rfl)
    | (apply aops_alloc; exact rfl; exact rfl)
    | (apply aops_fieldAddr_pp; exact rfl; exact rfl; exact rfl; exact rfl)
    | (apply aops_load_pp; exact rfl; exact rfl; exact rfl)
    | (apply aops_nilCheck; exact rfl; exact rfl)
    | apply awp_ret
    | (apply aops_call1; exact Tryz.call144; exact asHit_c a n (st.length + 0) _ (get_loc rfl))
    | (apply aops_load_bx; exact rfl; (focus first | assumption | (repeat' (first | assumption | exact get_end | exact get_loc rfl | apply get_set | apply get_set_ne | omega | apply get_pre'))); exact rfl; exact rfl))
  exact aret_plain rfl (ares_one rfl) ⟨rfl, ext_low fun j hj => (get_set_low (by omega)).trans (List.getElem?_append_left hj)⟩
theorem efault_c (k : Int) (e : ErrV) (st : List AObj) (he : e.code ≠ 0) : ACall E 77 [Iv k, errA e] st fun r st' => r = errA (.at' k e.code) ∧ st' = st := by
  refine acall_pure (errA_pure _) (acall_of_awp Tryz.func77 rfl (Nat.le_of_ble_eq_true rfl) ?_)
  cases e with
  | no => exact absurd rfl he
  | num n =>
    repeat' (first
      | (apply aops_boxP; exact rfl; exact rfl; exact rfl)
      | apply awp_seq
      | apply awp_region
      | apply aops_nil
      | apply aops_move
      | apply aops_assign
      | (apply aops_makeInterface; exact rfl; exact rfl)
      | (apply aops_build; exact rfl; exact rfl; exact rfl)
      | apply awp_ret
      | (apply aops_call1; exact Tryz.call110; exact ebareN_c _ _))
    exact aret_plain rfl (ares_one rfl) ⟨rfl, _, rfl⟩
  | at' a n =>
    repeat' (first
      | (apply aops_boxP; exact rfl; exact rfl; exact rfl)
      | apply awp_seq
      | apply awp_region
      | apply aops_nil
      | apply aops_move
      | apply aops_assign
      | (apply aops_makeInterface; exact rfl; exact rfl)
      | (apply aops_build; exact rfl; exact rfl; exact rfl)
      | apply awp_ret
      | (apply aops_call1; exact Tryz.call110; exact ebareF_c a n _))
    exact aret_plain rfl (ares_one rfl) ⟨rfl, _, rfl⟩
structure EdB (x : EditV) : Prop where
  keys : KeyB x.fields
  len : x.fields.length < 9223372036854775808
  id1 : -9223372036854775808 ≤ x.id
  id2 : x.id ≤ 9223372036854775807
@[reducible] def editsA (b : List EditV) : AV := .sl 3 (b.map editA) none
theorem echeck_c (b : List EditV) (st : List AObj) (e : ErrV) (h : eErr b = e) (hB : ∀ x ∈ b, EdB x) (hl : b.length < 9223372036854775808) : ACall E 39 [editsA b] st fun r st' => r = errA e ∧ st' = st := by
  subst h
  refine acall_pure (errA_pure _) (acall_of_awp Tryz.func39 rfl (Nat.le_of_ble_eq_true rfl) ?_)
  have hml : (b.map editA).length = b.length := by simp
  by_cases h1 : b.length < 1 ∨ 40 < b.length
  · have hc : eErr b = .num 1 := if_pos h1
    rw [hc]
    rcases h1 with h1 | h1
    · skip
      repeat' (first
        | apply awp_seq
        | apply awp_region
        | apply aops_nil
        | apply aops_move
        | apply aops_assign
        | (apply aops_cmpI; exact rfl; exact rfl; exact rfl)
        | (apply aops_guard_any; exact rfl; exact rfl; exact rfl; exact rfl)
        | (apply gd_skip_d; (first | assumption | omega))
        | (apply aops_pick_any; exact rfl; first | (apply pk_dt; (first | assumption | omega)) | (apply pk_df; (first | assumption | omega)) | (apply pk_nt; (first | exact rfl | assumption)) | (apply pk_nf; (first | exact rfl | assumption)) | (apply pk_t; (first | exact rfl | assumption)) | (apply pk_f; (first | exact rfl | assumption)))
        | (apply awp_cond_any; exact rfl; first | (apply cd_dt; (first | assumption | omega)) | (apply cd_df; (first | assumption | omega)) | (apply cd_nt; (first | exact rfl | assumption)) | (apply cd_nf; (first | exact rfl | assumption)) | (apply cd_n <;> intro h) | (apply cd_t; (first | exact rfl | assumption)) | (apply cd_f; (first | exact rfl | assumption)) | (apply cd_d <;> intro h) | (apply cd_s <;> intro h))
        | (apply aops_lenL; exact rfl; exact rfl; exact rfl; exact rfl)
        | (apply aops_makeInterface; exact rfl; exact rfl)
        | apply awp_ret)
      exact aret_plain rfl (ares_one rfl) ⟨rfl, _, rfl⟩
    · skip
      repeat' (first
        | apply awp_seq
        | apply awp_region
        | apply aops_nil
        | apply aops_move
        | apply aops_assign
        | (apply aops_cmpI; exact rfl; exact rfl; exact rfl)
        | (apply aops_guard_any; exact rfl; exact rfl; exact rfl; exact rfl)
        | (apply gd_run_n; (first | assumption | omega))
        | (apply aops_pick_any; exact rfl; first | (apply pk_dt; (first | assumption | omega)) | (apply pk_df; (first | assumption | omega)) | (apply pk_nt; (first | exact rfl | assumption)) | (apply pk_nf; (first | exact rfl | assumption)) | (apply pk_t; (first | exact rfl | assumption)) | (apply pk_f; (first | exact rfl | assumption)))
        | (apply awp_cond_any; exact rfl; first | (apply cd_dt; (first | assumption | omega)) | (apply cd_df; (first | assumption | omega)) | (apply cd_nt; (first | exact rfl | assumption)) | (apply cd_nf; (first | exact rfl | assumption)) | (apply cd_n <;> intro h) | (apply cd_t; (first | exact rfl | assumption)) | (apply cd_f; (first | exact rfl | assumption)) | (apply cd_d <;> intro h) | (apply cd_s <;> intro h))
        | (apply aops_lenL; exact rfl; exact rfl; exact rfl; exact rfl)
        | (apply aops_makeInterface; exact rfl; exact rfl)
        | apply awp_ret)
      exact aret_plain rfl (ares_one rfl) ⟨rfl, _, rfl⟩
  have hc : eErr b = eFrom 0 b := if_neg h1
  rw [hc]
  repeat' (first
    | apply awp_seq
    | apply awp_block
    | apply awp_region
    | apply aops_nil
    | apply aops_move
    | apply aops_assign
    | (apply aops_cmpI; exact rfl; exact rfl; exact rfl)
    | (apply aops_guard_any; exact rfl; exact rfl; exact rfl; exact rfl)
    | (apply gd_run_n; (first | assumption | omega))
    | (apply aops_pick_any; exact rfl; first | (apply pk_dt; (first | assumption | omega)) | (apply pk_df; (first | assumption | omega)) | (apply pk_nt; (first | exact rfl | assumption)) | (apply pk_nf; (first | exact rfl | assumption)) | (apply pk_t; (first | exact rfl | assumption)) | (apply pk_f; (first | exact rfl | assumption)))
    | (apply awp_cond_any; exact rfl; first | (apply cd_dt; (first | assumption | omega)) | (apply cd_df; (first | assumption | omega)) | (apply cd_nt; (first | exact rfl | assumption)) | (apply cd_nf; (first | exact rfl | assumption)) | (apply cd_n <;> intro h) | (apply cd_t; (first | exact rfl | assumption)) | (apply cd_f; (first | exact rfl | assumption)) | (apply cd_d <;> intro h) | (apply cd_s <;> intro h))
    | (apply aops_lenL; exact rfl; exact rfl; exact rfl; exact rfl)
    | apply awp_skip)
  refine awp_loopL b (fun pre s => (∀ x ∈ pre, (gErr x).code = 0) ∧ StE [(15, editsA b), (16, Iv b.length), (17, Iv pre.length)] st [] s) ⟨by simp, stE_mk0 ⟨rfl, congrArg (fun n : Nat => Iv (n : Int)) hml, rfl, trivial⟩ rfl⟩ ?_ ?_
  · rintro _ ⟨h3, t, ext, rfl⟩
    have he := eFrom_app 0 b [] h3
    rw [List.append_nil] at he
    rw [he]
    repeat' (first
      | apply awp_seq
      | apply awp_region
      | apply aops_nil
      | apply aops_assign
      | (apply aops_cmpI; exact rfl; exact rfl; exact rfl)
      | (apply awp_cond_any; exact rfl; first | (apply cd_dt; (first | assumption | omega)) | (apply cd_df; (first | assumption | omega)) | (apply cd_nt; (first | exact rfl | assumption)) | (apply cd_nf; (first | exact rfl | assumption)) | (apply cd_n <;> intro h) | (apply cd_t; (first | exact rfl | assumption)) | (apply cd_f; (first | exact rfl | assumption)) | (apply cd_d <;> intro h) | (apply cd_s <;> intro h))
      | apply awp_exit
      | apply awp_ret)
    exact aret_plain rfl (ares_one rfl) ⟨rfl, ext_end _ _ _ _⟩
  · rintro pre a rest _ hr ⟨h3, t, ext, rfl⟩
    have hrlen : b.length = pre.length + (rest.length + 1) := by rw [hr]; simp
    have hget : (b.map editA)[pre.length]? = some (editA a) := by rw [hr]; simp
    have hka := hB a (by rw [hr]; simp)
    by_cases ha : (gErr a).code = 0
    · have hn := (gErr_code a).1 ha
      repeat' (first
        | apply awp_seq
        | apply awp_block
        | apply awp_region
        | apply aops_nil
        | apply aops_move
        | apply aops_assign
        | (apply aops_cmpI; exact rfl; exact rfl; exact rfl)
        | (apply awp_cond_any; exact rfl; first | (apply cd_dt; (first | assumption | omega)) | (apply cd_df; (first | assumption | omega)) | (apply cd_nt; (first | exact rfl | assumption)) | (apply cd_nf; (first | exact rfl | assumption)) | (apply cd_n <;> intro h) | (apply cd_t; (first | exact rfl | assumption)) | (apply cd_f; (first | exact rfl | assumption)) | (apply cd_d <;> intro h) | (apply cd_s <;> intro h))
        | (apply aops_add; exact rfl; exact rfl; exact wrap_i64 (by omega) (by omega))
        | (apply aops_nilNeNil; exact rfl; exact rfl)
        | (apply aops_alloc; exact rfl; exact rfl)
        | (apply aops_load_pp; exact rfl; exact rfl; exact rfl)
        | (apply aops_load_loc; exact rfl; exact rfl; exact rfl; exact rfl; exact rfl)
        | (apply aops_store_loc; exact rfl; exact rfl; exact rfl; exact rfl; exact rfl; exact rfl; exact rfl; exact rfl; exact rfl; exact rfl; exact rfl)
        | apply awp_skip
        | (apply aops_call1; exact Tryz.call76; exact egood_c _ _ _ hn hka.keys hka.len)
        | (apply aops_indexAddr (n := pre.length); exact rfl; exact rfl; exact rfl; exact rfl; exact rfl; exact hget))
      refine ⟨fun x hx => ?_, stE_mk ⟨rfl, rfl, iv_snoc pre a, trivial⟩ rfl⟩
      rcases List.mem_append.1 hx with hx | hx
      · exact h3 x hx
      · simp at hx; subst hx; exact ha
    · have he := eFrom_app 0 pre (a :: rest) h3
      rw [← hr, eFrom, if_neg ha, Nat.zero_add] at he
      rw [he]
      cases hg : gErr a with
      | no => rw [hg] at ha; exact absurd rfl ha
      | num n =>
        have ha2 : (ErrV.num n).code ≠ 0 := by rw [← hg]; exact ha
        repeat' (first
          | apply awp_seq
          | apply awp_block
          | apply awp_region
          | apply aops_nil
          | apply aops_move
          | apply aops_assign
          | (apply aops_cmpI; exact rfl; exact rfl; exact rfl)
          | (apply awp_cond_any; exact rfl; first | (apply cd_dt; (first | assumption | omega)) | (apply cd_df; (first | assumption | omega)) | (apply cd_nt; (first | exact rfl | assumption)) | (apply cd_nf; (first | exact rfl | assumption)) | (apply cd_n <;> intro h) | (apply cd_t; (first | exact rfl | assumption)) | (apply cd_f; (first | exact rfl | assumption)) | (apply cd_d <;> intro h) | (apply cd_s <;> intro h))
          | (apply aops_errNeNil; exact rfl; exact rfl)
          | (apply aops_alloc; exact rfl; exact rfl)
          | (apply aops_load_pp; exact rfl; exact rfl; exact rfl)
          | (apply aops_load_loc; exact rfl; exact rfl; exact rfl; exact rfl; exact rfl)
          | (apply aops_store_loc; exact rfl; exact rfl; exact rfl; exact rfl; exact rfl; exact rfl; exact rfl; exact rfl; exact rfl; exact rfl; exact rfl)
          | apply awp_skip
          | apply awp_ret
          | (apply aops_call1; exact Tryz.call76; exact egood_c _ _ _ hg hka.keys hka.len)
          | (apply aops_call1; exact Tryz.call77; exact efault_c _ (.num n) _ ha2)
          | (apply aops_indexAddr (n := pre.length); exact rfl; exact rfl; exact rfl; exact rfl; exact rfl; exact hget))
        exact aret_plain rfl (ares_one rfl) ⟨rfl, ext_end _ _ _ _⟩
      | at' p n =>
        have ha2 : (ErrV.at' p n).code ≠ 0 := by rw [← hg]; exact ha
        repeat' (first
          | apply awp_seq
          | apply awp_block
          | apply awp_region
          | apply aops_nil
          | apply aops_move
          | apply aops_assign
          | (apply aops_cmpI; exact rfl; exact rfl; exact rfl)
          | (apply awp_cond_any; exact rfl; first | (apply cd_dt; (first | assumption | omega)) | (apply cd_df; (first | assumption | omega)) | (apply cd_nt; (first | exact rfl | assumption)) | (apply cd_nf; (first | exact rfl | assumption)) | (apply cd_n <;> intro h) | (apply cd_t; (first | exact rfl | assumption)) | (apply cd_f; (first | exact rfl | assumption)) | (apply cd_d <;> intro h) | (apply cd_s <;> intro h))
          | (apply aops_errNeNil; exact rfl; exact rfl)
          | (apply aops_alloc; exact rfl; exact rfl)
          | (apply aops_load_pp; exact rfl; exact rfl; exact rfl)
          | (apply aops_load_loc; exact rfl; exact rfl; exact rfl; exact rfl; exact rfl)
          | (apply aops_store_loc; exact rfl; exact rfl; exact rfl; exact rfl; exact rfl; exact rfl; exact rfl; exact rfl; exact rfl; exact rfl; exact rfl)
          | apply awp_skip
          | apply awp_ret
          | (apply aops_call1; exact Tryz.call76; exact egood_c _ _ _ hg hka.keys hka.len)
          | (apply aops_call1; exact Tryz.call77; exact efault_c _ (.at' p n) _ ha2)
          | (apply aops_indexAddr (n := pre.length); exact rfl; exact rfl; exact rfl; exact rfl; exact rfl; exact hget))
        exact aret_plain rfl (ares_one rfl) ⟨rfl, ext_end _ _ _ _⟩
end Go.Proofs.YtplagcbifecagaaGreatDoor
set_option maxRecDepth 100000
set_option linter.unusedVariables false
namespace Go.Proofs.YtplagcbifecagaaGreatDoor
open Go Go.Av Go.RowKit Go.Proofs Go.Pl
def encOne (x : EditV) : Bytes := lineE x ++ [10] ++ indentF [32, 32] (foldF x.fields)
def encF (b : List EditV) : Bytes := b.flatMap encOne
theorem encF_app (a b : List EditV) : encF (a ++ b) = encF a ++ encF b := by simp [encF]
theorem encF_one (x : EditV) : encF [x] = encOne x := by simp [encF]
theorem chkFrom_no : ∀ (k : Nat) (r : List Fld), chkFrom k r = .no ↔ ∀ f ∈ r, goodFld f
  | k, [] => by simp [chkFrom]
  | k, f :: r => by
    unfold chkFrom
    split
    · rename_i h
      rw [chkFrom_no (k + 1) r]
      have := (checkF_good f).1 h
      simp [this]
    · rename_i h
      have h2 : ¬ goodFld f := fun g => h ((checkF_good f).2 g)
      simp [h2]
theorem checkFs_no {fs : List Fld} (h : checkFs fs = .no) : fs ≠ [] ∧ fs.length ≤ 40 ∧ ∀ f ∈ fs, goodFld f := by
  unfold checkFs at h
  split at h
  · exact absurd h (by simp)
  · split at h
    · exact absurd h (by simp)
    · exact ⟨by assumption, by omega, (chkFrom_no _ _).1 h⟩
theorem gErr_no {x : EditV} (h : gErr x = .no) : x.fields.length ≤ 40 ∧ ∀ f ∈ x.fields, goodFld f := by
  unfold gErr at h
  split at h
  · split at h
    · rename_i h0; rw [h0]; simp
    · exact absurd h (by simp)
  · split at h
    · exact (checkFs_no h).2
    · exact absurd h (by simp)
theorem eFrom_no : ∀ (k : Nat) (b : List EditV), eFrom k b = .no ↔ ∀ x ∈ b, gErr x = .no
  | k, [] => by simp [eFrom]
  | k, x :: b => by
    unfold eFrom
    split
    · rename_i h
      rw [eFrom_no (k + 1) b]
      have := (gErr_code x).1 h
      simp [this]
    · rename_i h
      have h2 : ¬ gErr x = .no := fun g => h ((gErr_code x).2 g)
      simp [h2]
theorem eErr_no {b : List EditV} (h : eErr b = .no) : 1 ≤ b.length ∧ b.length ≤ 40 ∧ ∀ x ∈ b, gErr x = .no := by
  unfold eErr at h
  split at h
  · exact absurd h (by simp)
  · exact ⟨by omega, by omega, (eFrom_no _ _).1 h⟩
theorem good_W {fs : List Fld} (hl : fs.length ≤ 40) (h : ∀ f ∈ fs, goodFld f) : FldsW fs := ⟨by omega, fun f hf => by
  have := h f hf
  have h1 := this.1.2.1
  have h2 := this.2
  omega⟩
theorem foldGood_c (xs : List FldV) (st : List AObj) (hl : xs.length ≤ 40) (h : ∀ f ∈ xs, goodFld f) : ACall E 40 [fldsA xs] st fun r st' => r = .tu [Sv (foldF xs), .v .nilIface] ∧ st' = st := by
  have := fold_c xs st (good_W hl h)
  unfold foldA at this
  have h0 := (errF_zero xs).2 h
  rw [if_pos h0, h0] at this
  exact this
theorem indentF_len (l : Bytes) : (indentF [32, 32] l).length ≤ 3 * l.length := by
  unfold indentF
  obtain ⟨h1, h2⟩ := lines_sum _ l (Nat.le_refl _)
  have := indF_len [32, 32] (linesOf l)
  simp only [List.length_cons, List.length_nil] at this
  omega
theorem lineE_len (x : EditV) (h1 : -9223372036854775808 ≤ x.id) (h2 : x.id ≤ 9223372036854775807) : (lineE x).length ≤ 100 := by
  have hn := Lib.itoa_length_le x.id h1 h2
  unfold lineE headOf
  split
  · split
    · simp; omega
    · split
      · simp; omega
      · split <;> simp <;> omega
  · simp
theorem encOne_len {x : EditV} (hB : EdB x) (h : gErr x = .no) : (encOne x).length ≤ 700000 := by
  obtain ⟨hl, hg⟩ := gErr_no h
  have h1 := foldF_len x.fields hg
  have h2 := indentF_len (foldF x.fields)
  have h3 := lineE_len x hB.id1 hB.id2
  unfold encOne
  simp only [List.length_append, List.length_cons, List.length_nil]
  omega
theorem encF_len : ∀ (b : List EditV), (∀ x ∈ b, EdB x) → (∀ x ∈ b, gErr x = .no) → (encF b).length ≤ 700000 * b.length
  | [], _, _ => by simp [encF]
  | x :: r, hB, h => by
    have ih := encF_len r (fun y hy => hB y (by simp [hy])) (fun y hy => h y (by simp [hy]))
    have h1 := encOne_len (hB x (by simp)) (h x (by simp))
    have e : encF (x :: r) = encOne x ++ encF r := by simp [encF]
    rw [e, List.length_append, List.length_cons]
    omega
set_option maxHeartbeats 2000000 in
theorem encode0_c (b : List EditV) (st : List AObj) (hB : ∀ x ∈ b, EdB x) (he : eErr b = .no) : ACall E 13 [editsA b] st fun r st' => r = .tu [Sv (encF b), .v .nilIface] ∧ st' = st := by
  refine acall_pure (pure_tu2 (pure_v _) (pure_v _)) (acall_of_awp Tryz.func13 rfl (Nat.le_of_ble_eq_true rfl) ?_)
  have hml : (b.map editA).length = b.length := by simp
  obtain ⟨hb1, hb40, hg⟩ := eErr_no he
  have hel := encF_len b hB hg
  repeat' (first
    | (apply aops_allocB; exact rfl)
    | apply awp_seq
    | apply awp_block
    | apply awp_region
    | apply aops_nil
    | apply aops_move
    | apply aops_assign
    | (apply awp_cond_any; exact rfl; first | (apply cd_dt; (first | assumption | omega)) | (apply cd_df; (first | assumption | omega)) | (apply cd_nt; (first | exact rfl | assumption)) | (apply cd_nf; (first | exact rfl | assumption)) | (apply cd_n <;> intro h) | (apply cd_t; (first | exact rfl | assumption)) | (apply cd_f; (first | exact rfl | assumption)) | (apply cd_d <;> intro h) | (apply cd_s <;> intro h))
    | (apply aops_lenL; exact rfl; exact rfl; exact rfl; exact rfl)
    | (apply aops_nilNeNil; exact rfl; exact rfl)
    | apply awp_skip
    | (apply aops_call1; exact Tryz.call39; exact echeck_c _ _ _ he hB (by omega)))
  refine awp_loopL b (fun pre s => ∃ q, (q = .v (.pointer none) ∨ q = .bx (st.length + 0) 0 0) ∧ StE [(5, .bx (st.length + 0) 0 0), (15, editsA b), (16, Iv b.length), (17, Iv pre.length)] st [bldO 0 q (encF pre) (st.length + 1), .tip (encF pre).length 1 5] s) ⟨_, .inl rfl, stE_mk0 ⟨rfl, rfl, congrArg (fun n : Nat => Iv (n : Int)) hml, rfl, trivial⟩ rfl⟩ ?_ ?_
  · rintro _ ⟨q, hq, t, ext, rfl⟩
    repeat' (first
      | apply awp_seq
      | apply awp_region
      | apply aops_nil
      | apply aops_assign
      | (apply aops_cmpI; exact rfl; exact rfl; exact rfl)
      | (apply awp_cond_any; exact rfl; first | (apply cd_dt; (first | assumption | omega)) | (apply cd_df; (first | assumption | omega)) | (apply cd_nt; (first | exact rfl | assumption)) | (apply cd_nf; (first | exact rfl | assumption)) | (apply cd_n <;> intro h) | (apply cd_t; (first | exact rfl | assumption)) | (apply cd_f; (first | exact rfl | assumption)) | (apply cd_d <;> intro h) | (apply cd_s <;> intro h))
      | apply awp_exit
      | apply awp_ret
      | (refine aops_call1 Tryz.call43 (bString_mid st _ _ _ _ 0 1 0 _ _ rfl rfl rfl) ?_))
    exact aret_plain rfl (ares_two rfl) ⟨rfl, ext_end _ _ _ _⟩
  · rintro pre x rest _ hr ⟨q, hq, t, ext, rfl⟩
    have hlen : b.length = pre.length + (rest.length + 1) := by rw [hr]; simp
    have hget : (b.map editA)[pre.length]? = some (editA x) := by rw [hr]; simp
    have hxb := hB x (by rw [hr]; simp)
    have hxg := hg x (by rw [hr]; simp)
    obtain ⟨hfl, hfg⟩ := gErr_no hxg
    have hpl := encF_len pre (fun y hy => hB y (by rw [hr]; simp [hy])) (fun y hy => hg y (by rw [hr]; simp [hy]))
    have hll := lineE_len x hxb.id1 hxb.id2
    have hfo := foldF_len x.fields hfg
    have hin := indentF_len (foldF x.fields)
    repeat' (first
      | apply awp_seq
      | apply awp_block
      | apply awp_region
      | apply aops_nil
      | apply aops_move
      | apply aops_assign
      | (apply aops_extract; exact rfl; exact rfl)
      | (apply aops_cmpI; exact rfl; exact rfl; exact rfl)
      | (apply awp_cond_any; exact rfl; first | (apply cd_dt; (first | assumption | omega)) | (apply cd_df; (first | assumption | omega)) | (apply cd_nt; (first | exact rfl | assumption)) | (apply cd_nf; (first | exact rfl | assumption)) | (apply cd_n <;> intro h) | (apply cd_t; (first | exact rfl | assumption)) | (apply cd_f; (first | exact rfl | assumption)) | (apply cd_d <;> intro h) | (apply cd_s <;> intro h))
      | (apply aops_concat; exact rfl; exact rfl; (first | omega | (simp only [List.length_append, List.length_cons, List.length_nil]; omega) | (simp; omega)))
      | (apply aops_nilNeNil; exact rfl; exact rfl)
      | (apply aops_alloc; exact rfl; exact rfl)
      | (apply aops_fieldAddr_bx; exact rfl; exact rfl; exact rfl)
      | (apply aops_load_pp; exact rfl; exact rfl; exact rfl)
      | (apply aops_load_loc; exact rfl; exact rfl; exact rfl; exact rfl; exact rfl)
      | (apply aops_store_loc; exact rfl; exact rfl; exact rfl; exact rfl; exact rfl; exact rfl; exact rfl; exact rfl; exact rfl; exact rfl; exact rfl)
      | (apply aops_buildSlice; exact rfl; exact rfl; exact rfl; exact rfl; exact rfl; exact rfl; exact rfl; exact rfl; exact rfl)
      | apply awp_skip
      | (apply aops_call1; exact Tryz.call40; exact foldGood_c _ _ hfl hfg)
      | (apply aops_call1; exact Tryz.call22; exact line_c _ _ hxb.id1 hxb.id2)
      | (apply aops_call1; exact Tryz.call42; exact indent_c _ _ _ (by omega) (by decide))
      | (apply aops_indexAddr (n := pre.length); exact rfl; exact rfl; exact rfl; exact rfl; exact rfl; exact hget))
    refine aops_call1 Tryz.call41 (bWrite_mid st _ _ _ _ 0 1 0 _ _ _ rfl rfl ?_ ?_ rfl) ?_; (exact hq); (simp only [List.length_append, List.length_cons, List.length_nil]; omega)
    repeat' (first
      | apply awp_region
      | apply aops_nil
      | apply aops_move
      | (apply aops_add; exact rfl; exact rfl; exact wrap_i64 (by omega) (by omega)))
    refine ⟨_, .inr rfl, stE_mk ⟨rfl, rfl, rfl, ?_, trivial⟩ ?_⟩
    · rw [snoc_len pre x]; rfl
    · have e : encF (pre ++ [x]) = encF pre ++ ((lineE x ++ [10]) ++ indentF [32, 32] (foldF x.fields)) := by rw [encF_app, encF_one]; rfl
      rw [e]; rfl
theorem encode1_c (b : List EditV) (st : List AObj) (e : ErrV) (hB : ∀ x ∈ b, EdB x) (hl : b.length < 9223372036854775808) (he : eErr b = e) (h0 : e.code ≠ 0) : ACall E 13 [editsA b] st fun r st' => r = .tu [Sv [], errA e] ∧ st' = st := by
  refine acall_pure (pure_tu2 (pure_v _) (errA_pure _)) (acall_of_awp Tryz.func13 rfl (Nat.le_of_ble_eq_true rfl) ?_)
  cases e with
  | no => exact absurd rfl h0
  | num n =>
    repeat' (first
      | apply awp_seq
      | apply awp_region
      | apply aops_nil
      | apply aops_move
      | apply aops_assign
      | (apply awp_cond_any; exact rfl; first | (apply cd_dt; (first | assumption | omega)) | (apply cd_df; (first | assumption | omega)) | (apply cd_nt; (first | exact rfl | assumption)) | (apply cd_nf; (first | exact rfl | assumption)) | (apply cd_n <;> intro h) | (apply cd_t; (first | exact rfl | assumption)) | (apply cd_f; (first | exact rfl | assumption)) | (apply cd_d <;> intro h) | (apply cd_s <;> intro h))
      | (apply aops_errNeNil; exact rfl; exact rfl)
      | apply awp_ret
      | (apply aops_call1; exact Tryz.call39; exact echeck_c _ _ _ he hB hl))
    exact aret_plain rfl (ares_two rfl) ⟨rfl, _, rfl⟩
  | at' a n =>
    repeat' (first
      | apply awp_seq
      | apply awp_region
      | apply aops_nil
      | apply aops_move
      | apply aops_assign
      | (apply awp_cond_any; exact rfl; first | (apply cd_dt; (first | assumption | omega)) | (apply cd_df; (first | assumption | omega)) | (apply cd_nt; (first | exact rfl | assumption)) | (apply cd_nf; (first | exact rfl | assumption)) | (apply cd_n <;> intro h) | (apply cd_t; (first | exact rfl | assumption)) | (apply cd_f; (first | exact rfl | assumption)) | (apply cd_d <;> intro h) | (apply cd_s <;> intro h))
      | (apply aops_errNeNil; exact rfl; exact rfl)
      | apply awp_ret
      | (apply aops_call1; exact Tryz.call39; exact echeck_c _ _ _ he hB hl))
    exact aret_plain rfl (ares_two rfl) ⟨rfl, _, rfl⟩
end Go.Proofs.YtplagcbifecagaaGreatDoor
set_option linter.unusedVariables false
namespace Go.Av
open Go Go.RowKit
theorem agree_grow {P : Program} {B0 : Nat} {w0 : World} {G : Gh} {st : List AObj} {w : World} (hA : Agree B0 w0 G st w) {tt u ty T : TypeId} {du : TypeDesc} (htt : P.underlying tt = some (.slice T)) (hu : P.underlying u = some du) (hd : rowLike du)
    {sz bytes : Nat} (hT : ElemOk P T sz bytes) {t n m : Nat} (ht : st[t]? = some (.tip n sz T)) {xs ys : List AV} {x : Value} (hn : xs.length = n) (hm : ys.length = m)
    {news : List Value} (hx : Src P w x m sz news) (hys : ∀ y ∈ ys, y.cells.length = sz) (hrel : ∀ (i : Nat) (a : AV) (b : Value), (flat ys)[i]? = some a → news[i]? = some b → Rel G a b)
    (h63 : n + m ≤ maxLen) (base : Option Addr) (c : Nat) (olds : List Value) (ho : (Builtin.firstCells sz n (.slice base n c)).run P w.drew = .ok olds.toArray w.drew) (hc : c < n + m) (hol : olds.length = n * sz) (hfx : (flat xs).length = n * sz) (hwx : ∀ x ∈ xs, x.cells.length = sz)
    (hrx : ∀ (j : Nat) (a : AV) (b : Value), (flat xs)[j]? = some a → olds[j]? = some b → Rel G a b) (hfit : Builtin.nextslicecap (n + m) c * bytes ≤ 281474976710656) (hm0 : m ≠ 0) :
    ∃ v' w' G', (Builtin.append_ #[tt, u] ty #[.slice base n c, x]).run P w = .ok v' w' ∧ G.le G' ∧ Agree B0 w0 G' (st.set t (.tip (n + m) sz T)) w' ∧ Rel G' (.sl sz (xs ++ ys) (some t)) v' := by
  obtain ⟨i, z, hi, hz, rfl, rfl, hzs⟩ := hT.ex
  obtain ⟨hraw, hver, htip⟩ := hA.ob t _ ht
  have htn : t < G.n := by rw [hA.n]; exact lt_of_getElem? ht
  have hlt : G.n = st.length := hA.n
  have hk := hA.kill t
  have hkt : (st.set t .dead)[t]? = some .dead := get_set_same ht
  have hother : ∀ o x, (st.set t .dead)[o]? = some x → x.live → o ≠ t ∧ st[o]? = some x := fun o x hx hl => by
    rcases getElem?_set' _ _ _ _ _ hx with ⟨_, e⟩ | ⟨h1, h2⟩
    · subst e; exact hl.elim
    · exact ⟨h1, h2⟩
  have hset : (st.set t AObj.dead).set t (.tip (n + m) i.size T) = st.set t (.tip (n + m) i.size T) := by rw [List.set_set]
  have hself : st.set t (.tip n i.size T) = st := by
    apply List.ext_getElem?
    intro k
    by_cases e : t = k
    · subst e; rw [List.getElem?_set_self (lt_of_getElem? ht)]; exact ht.symm
    · rw [List.getElem?_set_ne e]
  have hrun := run_app_grow (ty := ty) htt hu hd hi hz hx base n c olds ho hc (by simp only [maxLen] at h63; omega) hfit
  have hge := grownCap_ge w (n + m) c T
  have hle := grownCap_le_maxLen w (n + m) c T h63
  generalize grownCap w (n + m) c T = cap at hrun hge hle
  have hsz : (olds.toArray ++ news.toArray ++ Builtin.zeroCells z.cells (cap - (n + m))).size = cap * i.size := by
    simp only [Array.size_append, List.size_toArray, size_zeroCells, hzs, hol, hx.count, ← Nat.add_mul]
    congr 1
    omega
  generalize hcv : olds.toArray ++ news.toArray ++ Builtin.zeroCells z.cells (cap - (n + m)) = c' at hrun hsz
  have hdrew : Below w.heap.size w w.drew := ⟨rfl, rfl, rfl, Nat.le_refl _, fun _ _ => rfl⟩
  have hA1 := hk.fresh hdrew
  have hpre : ∀ (j : Nat) (y : Value), (olds ++ news)[j]? = some y → c'[j]? = some y := fun j y hy => by
    have hj := lt_of_getElem? hy
    rw [← hcv, Array.getElem?_append_left (by simp at hj ⊢; omega), List.append_toArray]
    simpa using hy
  obtain ⟨hle1, hA2⟩ := hA1.newPub T c' (0, 0) (olds ++ news) hpre
  have hnp : G.pub w.heap.size = none := by
    cases hp : G.pub w.heap.size with
    | none => rfl
    | some vs => exact absurd (hA.pub_lt hp) (Nat.lt_irrefl _)
  obtain ⟨hle2, hA3⟩ := hA2.setTip (n' := n + m) (vs := olds ++ news) (k := w.heap.size) (cap := cap * i.size) (sz := i.size) (T := T) hkt (by simpa [Gh.publish] using hraw) (by simpa [Gh.publish] using hver) (by omega) (heap_alloc_new w.drew _) (by simp [Gh.publish]) (by simp [hol, hx.count, Nat.add_mul]) hsz hA.hB (fun o x hx hl => by
    obtain ⟨_, hx'⟩ := hother o x hx hl
    exact Nat.ne_of_lt ((hA.ob o x hx').lt hl))
  rw [hset] at hA3
  refine ⟨_, _, _, hrun, hle1.trans hle2, hA3, ?_⟩
  have hmono : ∀ {a b}, Rel G a b → Rel ((G.publish w.drew.heap.size (olds ++ news)).setOb t ⟨n + m, w.heap.size, cap * i.size, false⟩) a b := fun h => (h.mono hle1).mono hle2
  refine tip_rel (n := n) (m := m) (cap := cap) (k := w.heap.size) (vs := olds) (news := news) (by simp [Gh.setOb]) (by simp [Gh.setOb]) (by simp [Gh.setOb]) hle hge (by simpa [Gh.setOb, Gh.publish] using htn) (by omega) hn hm (by simp [Gh.setOb, Gh.publish]) (fun y hy => ?_) hol hx.count hfx (fun j a b h1 h2 => hmono (hrx j a b h1 h2)) (fun j a b h1 h2 => hmono (hrel j a b h1 h2))
  rcases List.mem_append.1 hy with h | h
  · exact hwx y h
  · exact hys y h
def TipO (b : Nat) (st : List AObj) (sz : Nat) (T : TypeId) (xs : List AV) (c : AV) : Prop := TipC b st sz T xs c ∨ (xs = [] ∧ ∃ o v f, c = .os o v f 0 0)
theorem tipO_nil (b : Nat) (st : List AObj) (sz : Nat) (T : TypeId) : TipO b st sz T [] nilSl := .inl (tipC_nil ..)
theorem tipO_os (b : Nat) (st : List AObj) (sz : Nat) (T : TypeId) (o v f : Nat) : TipO b st sz T [] (.os o v f 0 0) := .inr ⟨rfl, _, _, _, rfl⟩
theorem rel_os0 {G : Gh} {o v f : Nat} {sz : Nat} {x : Value} (h : Rel G (.os o v f 0 0) x) : Rel G (.sl sz [] none) x := by
  cases h with
  | os _ _ _ _ b _ hn hv h => exact .sl0 sz none _ _ (by simp)
section
variable {E : Env} {rd : Option Nat} {N : Nat} {ops : Array Oper} {K : AS → Prop} {s : AS} {rest : List Oper} {d : Option Tmp} {T : TypeId} {p : String} {af : Array Edge}
theorem aops_appendO {x y : Operand} {t u T' : TypeId} {sz bytes b : Nat} {xs ys : List AV} {tip : Option Nat} {c : AV} {st : List AObj} (hst : s.st = st) (hx : aeval N s x = c) (hy : aeval N s y = .sl sz ys tip)
    (ht : E.P.underlying t = some (.slice T')) (hu : E.P.underlying u = some (.slice T')) (hT : ElemOk E.P T' sz bytes) (hc : TipO b st sz T' xs c) (hb : b ≤ st.length) (hone : allOne (flat ys) = true) (h63 : xs.length + ys.length ≤ maxLen) (hby : (xs.length + ys.length) * bytes ≤ 140737488355328)
    (h : ∀ c' st' t1, TipO b st' sz T' (xs ++ ys) c' → Fr st st' t1 → b ≤ t1 → (c = .sl sz xs (some t1) ∨ st.length ≤ t1) → AOps E rd N ops rest K (AS.put ⟨s.t, st', s.df⟩ d c')) : AOps E rd N ops (⟨d, .call ⟨.builtin .append, #[x, y], #[t, u]⟩, T, p, af, none⟩ :: rest) K s := by
  rcases hc with hc | ⟨hxs, o, ver, f, hco⟩
  · refine aops_appendT hst hx hc hb hy ht hu hT hone h63 hby fun t1 st' g1 g2 g3 g4 => h _ st' t1 (.inl (.inr ⟨t1, rfl, g1, g2⟩)) g3 g2 g4
  · subst hst
    subst hxs
    refine aops_cons rfl (aop_of_run nofun fun B0 w0 G a w _ hI => ?_)
    have he := hI.eval_of (hx.trans hco)
    obtain ⟨news, k1, k2, k3⟩ := src_slice (P := E.P) hI.agree (hI.eval_of hy) (by simpa [allOne] using hone)
    have hex := hT.ex
    obtain ⟨i, z, hi, hz, hsz, hbt, hzs⟩ := hex
    generalize hv : a.eval x = v at he
    cases he with
    | os _ _ _ _ blk _ hn hvv hbb =>
      by_cases hm0 : ys.length = 0
      · have hy0 : ys = [] := List.eq_nil_of_length_eq_zero hm0
        subst hy0
        have hk1' : Src E.P w (a.eval y) 0 i.size [] := by
          have : news = [] := List.eq_nil_of_length_eq_zero (by simpa using k1.count)
          rw [hsz]
          rw [this] at k1
          exact k1
        refine ⟨_, w, G, _, s.st, ?_, .refl G, hI.agree, .os o ver f 0 blk 0 hn hvv hbb, h _ s.st s.st.length (.inr ⟨rfl, o, ver, f, rfl⟩) ⟨Nat.le_refl _, fun _ _ _ => rfl⟩ hb (.inr (Nat.le_refl _))⟩
        have := run_app_zero (ty := T) ht hu (.inr ⟨_, rfl⟩) hi hk1' (some ⟨blk, f, none⟩) 0 0 (Nat.le_refl _)
        generalize a.eval = ρ at hv this
        simp [execOp, resolve, invoke, builtin, hv, this]
      · have hle := G.le_new 0 0 0 false
        have hA := hI.agree.newTip sz T'
        have hz63 : 0 + ys.length ≤ maxLen := by simpa using h63
        obtain ⟨v', w', G', e1, e2, e3, e4⟩ := agree_grow (ty := T) hA ht hu (.inr ⟨_, rfl⟩) hT (t := s.st.length) (n := 0) (xs := []) (by simp) rfl rfl k1 k2 (fun i a b h1 h2 => (k3 i a b h1 h2).mono hle) hz63 (some ⟨blk, f, none⟩) 0 []
          (run_firstCells_some w.drew sz 0 ⟨blk, f, none⟩ 0 0 [] (by simp) (by simp)) (by omega) (by simp) (by simp [flat]) (by simp) (by simp [flat]) (by rw [Nat.zero_add, nextslicecap_zero (by omega)]; have := hby; simp at this; omega) hm0
        refine ⟨v', w', G', _, _, ?_, hle.trans e2, e3, e4, h _ _ s.st.length (.inl (.inr ⟨s.st.length, rfl, ?_, hb⟩)) ⟨by simp, fun k hk hlt => ?_⟩ hb (.inr (Nat.le_refl _))⟩
        · generalize a.eval = ρ at e1 hv
          simp [execOp, resolve, invoke, builtin, hv, e1]
        · simp
        · rw [List.getElem?_set_ne (Ne.symm hk), List.getElem?_append_left hlt]
end
theorem allOne_map {α : Type} {g : α → AV} {l : List α} (h : ∀ a, allOne (g a).cells = true) : allOne (flat (l.map g)) = true := by
  induction l with
  | nil => rfl
  | cons a r ih =>
    have h1 := h a
    unfold allOne flat at *
    rw [List.map_cons, List.flatMap_cons, List.all_append, h1, ih]
    rfl
theorem rel_tipO {b : Nat} {st : List AObj} {sz : Nat} {T : TypeId} {xs : List AV} {c : AV} (h : TipO b st sz T xs c) : ∀ G v, Rel G c v → Rel G (.sl sz xs none) v := by
  rcases h with (⟨rfl, rfl⟩ | ⟨t, rfl, _⟩) | ⟨rfl, o, v, f, rfl⟩
  · exact fun G v h => rel_nilSl h
  · exact fun G v h => rel_noTip h
  · exact fun G v h => rel_os0 h
end Go.Av
