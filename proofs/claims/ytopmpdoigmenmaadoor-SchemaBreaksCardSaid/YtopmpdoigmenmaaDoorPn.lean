/- Plain facts on figures: whole numbers and their shortest figures. No program. -/
import Derived.Test.YtopmpdoigmenmaaDoorPlF
set_option maxRecDepth 100000
set_option linter.unusedVariables false
namespace Go.Pl
open Go

/-- The number that figures spell. -/
def decV (l : Bytes) : Nat := l.foldl (fun a c => 10 * a + (c.toNat - 48)) 0
theorem decV_snoc (l : Bytes) (c : UInt8) : decV (l ++ [c]) = 10 * decV l + (c.toNat - 48) := by simp [decV]
theorem decDigits_isdig : ∀ (n u : Nat), u ≤ n → ∀ c ∈ Lib.decDigits u, 48 ≤ c.toNat ∧ c.toNat ≤ 57
  | n, u, hn, c, hc => by
    by_cases h : u < 10
    · rw [Lib.decDigits_one h] at hc
      simp only [List.mem_singleton] at hc
      subst hc
      rw [UInt8.toNat_ofNat']
      omega
    · rw [decDigits_big h, List.mem_append] at hc
      cases n with
      | zero => omega
      | succ n =>
        rcases hc with hc | hc
        · exact decDigits_isdig n (u / 10) (by omega) c hc
        · exact decDigits_isdig n (u % 10) (by omega) c hc
theorem decV_dec : ∀ (n u : Nat), u ≤ n → decV (Lib.decDigits u) = u
  | n, u, hn => by
    have key : ∀ d, d < 10 → Lib.decDigits d = [UInt8.ofNat (48 + d)] ∧ (UInt8.ofNat (48 + d)).toNat - 48 = d := fun d hd => by
      refine ⟨Lib.decDigits_one hd, ?_⟩
      rw [UInt8.toNat_ofNat']
      omega
    by_cases h : u < 10
    · obtain ⟨e1, e2⟩ := key u h
      rw [e1]
      exact (Nat.zero_add _).trans e2
    · cases n with
      | zero => omega
      | succ n =>
        obtain ⟨e1, e2⟩ := key (u % 10) (by omega)
        rw [decDigits_big h, e1, decV_snoc, decV_dec n (u / 10) (by omega), e2]
        omega
theorem decDigits_pos (u : Nat) : 1 ≤ (Lib.decDigits u).length := by
  rw [Lib.decDigits_length]
  exact Lib.nDigits_pos u
theorem itoa_neg {v : Int} (h : v < 0) : Lib.itoa v = 45 :: Lib.decDigits v.natAbs := by
  unfold Lib.itoa
  rw [if_pos h]
theorem itoa_pos {v : Int} (h : 0 ≤ v) : Lib.itoa v = Lib.decDigits v.toNat := by
  unfold Lib.itoa
  rw [if_neg (by omega)]
theorem itoa_ne (v : Int) : 1 ≤ (Lib.itoa v).length := by
  by_cases h : v < 0
  · rw [itoa_neg h]; simp
  · rw [itoa_pos (by omega)]; exact decDigits_pos _
theorem itoa_le20 {v : Int} (h1 : -9223372036854775808 ≤ v) (h2 : v ≤ 9223372036854775807) : (Lib.itoa v).length ≤ 20 := by
  by_cases h : v < 0
  · rw [itoa_neg h, List.length_cons, Lib.decDigits_length]
    have := nDigits_le 18 v.natAbs (by omega)
    omega
  · rw [itoa_pos (by omega), Lib.decDigits_length]
    have := nDigits_le 18 v.toNat (by omega)
    omega
theorem parse_apx : ∀ (a : Nat) (l m : Bytes) (b : Nat), Lib.parseUint10 a l = .ok b → Lib.parseUint10 a (l ++ m) = Lib.parseUint10 b m
  | a, [], m, b, h => by
    simp only [Lib.parseUint10, Lib.NumEnd.ok.injEq] at h
    subst h; rfl
  | a, c :: l, m, b, h => by
    simp only [List.cons_append, Lib.parseUint10] at h ⊢
    split at h
    · rename_i hd
      rw [if_pos hd]
      split at h
      · cases h
      · rename_i h1
        rw [if_neg h1]
        split at h
        · cases h
        · rename_i h2
          rw [if_neg h2]
          exact parse_apx _ l m b h
    · cases h
theorem parse_decx : ∀ (n u : Nat), u ≤ n → u ≤ 9223372036854775808 → Lib.parseUint10 0 (Lib.decDigits u) = .ok u
  | n, u, hn, hu => by
    have key : ∀ (a d : Nat), a ≤ 922337203685477580 → d < 10 → Lib.parseUint10 a (Lib.decDigits d) = .ok (a * 10 + d) := by
      intro a d ha hd
      have e : (UInt8.ofNat (48 + d)).toNat = 48 + d := by rw [UInt8.toNat_ofNat']; omega
      rw [Lib.decDigits_one hd]
      simp only [Lib.parseUint10, e]
      rw [if_pos (by omega), if_neg (by omega), if_neg (by omega)]
      congr 1
      omega
    by_cases h : u < 10
    · have := key 0 u (by omega) h
      simpa using this
    · cases n with
      | zero => omega
      | succ n =>
        rw [decDigits_big h, parse_apx 0 _ _ (u / 10) (parse_decx n (u / 10) (by omega) (by omega)), key _ _ (by omega) (by omega)]
        congr 1
        omega
theorem atoi_itoaZ {v : Int} (h1 : -9223372036854775808 ≤ v) (h2 : v ≤ 9223372036854775807) : Lib.atoiAll (Lib.itoa v) = .ok v := by
  by_cases h : v < 0
  · have hp := parse_decx v.natAbs v.natAbs (Nat.le_refl _) (by omega)
    rw [itoa_neg h]
    have hm : Lib.parseMag (Lib.decDigits v.natAbs) = .ok v.natAbs := by
      unfold Lib.parseMag
      rw [if_neg (fun e => by have := decDigits_pos v.natAbs; rw [e] at this; simp at this)]
      exact hp
    have e45 : (45 : UInt8).toNat = 45 := rfl
    simp only [Lib.atoiAll, e45]
    rw [if_pos (Or.inr trivial), hm]
    simp only [not_true, false_and, if_false, true_and]
    rw [if_neg (by omega)]
    simp only [if_true]
    congr 1
    omega
  · have hp := parse_decx v.toNat v.toNat (Nat.le_refl _) (by omega)
    have hd := decDigits_isdig v.toNat v.toNat (Nat.le_refl _)
    rw [itoa_pos (by omega)]
    cases hl : Lib.decDigits v.toNat with
    | nil => have := decDigits_pos v.toNat; rw [hl] at this; simp at this
    | cons c r =>
      rw [hl] at hp hd
      have hc := hd c (by simp)
      simp only [Lib.atoiAll]
      have g1 : ¬ (c.toNat = 43 ∨ c.toNat = 45) := by omega
      rw [if_neg g1]
      have hm : Lib.parseMag (c :: r) = .ok v.toNat := by unfold Lib.parseMag; rw [if_neg (by simp)]; exact hp
      rw [hm]
      have g2 : ¬ c.toNat = 45 := by omega
      simp only [g2, not_false_iff, true_and, false_and, if_false]
      rw [if_neg (by omega)]
      congr 1
      omega
/-- The number of which a text is the shortest figures. -/
def numZ (l : Bytes) : Option Int :=
  match Lib.atoiAll l with
  | .ok v => if Lib.itoa v = l then some v else none
  | _ => none
theorem numZ_itoa {v : Int} (h1 : -9223372036854775808 ≤ v) (h2 : v ≤ 9223372036854775807) : numZ (Lib.itoa v) = some v := by
  unfold numZ
  rw [atoi_itoaZ h1 h2]
  simp
theorem numZ_some {l : Bytes} {v : Int} (h : numZ l = some v) : l = Lib.itoa v ∧ -9223372036854775808 ≤ v ∧ v ≤ 9223372036854775807 := by
  unfold numZ at h
  split at h
  · rename_i u hu
    split at h
    · rename_i he
      simp only [Option.some.injEq] at h
      subst h
      exact ⟨he.symm, atoiAll_bounds hu⟩
    · simp at h
  · simp at h
theorem numZ_none {l : Bytes} (h : ∀ v, -9223372036854775808 ≤ v → v ≤ 9223372036854775807 → l ≠ Lib.itoa v) : numZ l = none := by
  cases hn : numZ l with
  | none => rfl
  | some v =>
    obtain ⟨h1, h2, h3⟩ := numZ_some hn
    exact absurd h1 (h v h2 h3)
theorem numberF_numZ (l : Bytes) : (numberF l : Int) = match numZ l with | some v => if 1 ≤ v ∧ v ≤ 50000 then v else 0 | none => 0 := by
  cases ho : Lib.atoiAll l with
  | ok v =>
    rw [numberF_ok ho]
    unfold numZ
    rw [ho]
    by_cases he : Lib.itoa v = l
    · by_cases hb : 1 ≤ v ∧ v ≤ 50000
      · simp [he, hb]
      · simp [he, hb]
    · simp [he]
  | _ =>
    rw [numberF_none (by simp [ho])]
    unfold numZ
    rw [ho]
    rfl
end Go.Pl
