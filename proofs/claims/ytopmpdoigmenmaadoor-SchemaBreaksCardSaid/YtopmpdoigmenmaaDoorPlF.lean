/- Plain facts on records. No program. -/
import Derived.Test.YtopmpdoigmenmaaDoorPl
import Derived.Lib.ItoaNum
import Derived.Lib.AtoiAll
import Derived.Lib.Repeat
set_option linter.unusedVariables false
namespace Go.Pl
open Go

/-- A body. -/
def goodF (l : Bytes) : Prop := 2 ≤ l.length ∧ l.length ≤ 50000 ∧ l.getLast? = some 10 ∧ (dedentOf [32] l).2 = true
instance (l : Bytes) : Decidable (goodF l) := inferInstanceAs (Decidable (_ ∧ _ ∧ _ ∧ _))
/-- A record's first and last line. -/
def headF (n : Nat) (fig : Bytes) : Bytes := [37, 97, 109, 101, 110, 100, 32] ++ Lib.itoa n ++ [32] ++ fig ++ [10]
def tailF (n : Nat) : Bytes := [37, 101, 110, 100, 32] ++ Lib.itoa n ++ [10]
theorem nDigits_le : ∀ (k u : Nat), u < 10 ^ (k + 1) → Lib.nDigits u ≤ k + 1
  | 0, u, h => by rw [Lib.nDigits_small (by simpa using h)]; omega
  | k + 1, u, h => by
    by_cases h' : u < 10
    · rw [Lib.nDigits_small h']; omega
    · rw [Lib.nDigits_big h']
      have := nDigits_le k (u / 10) (by rw [Nat.pow_succ] at h; omega)
      omega
theorem itoa_len (n : Nat) (h : n ≤ 9223372036854775807) : (Lib.itoa n).length ≤ 19 := by
  unfold Lib.itoa
  rw [if_neg (by omega), Lib.decDigits_length]
  have : ((n : Int)).toNat = n := by simp
  rw [this]
  exact nDigits_le 18 n (by omega)
theorem hasSuffix_one (l : Bytes) (c : UInt8) : Lib.hasSuffix l [c] = decide (l.getLast? = some c) := by
  have : Lib.hasSuffix l [c] = true ↔ l.getLast? = some c := by
    unfold Lib.hasSuffix
    rw [List.isSuffixOf_iff_suffix, List.singleton_suffix_iff_getLast?_eq_some]
  by_cases h : l.getLast? = some c
  · simp [this.2 h, h]
  · have : ¬ Lib.hasSuffix l [c] = true := fun h' => h (this.1 h')
    simp [this, h]
theorem atoiAll_bounds {l : Bytes} {v : Int} (h : Lib.atoiAll l = .ok v) : -9223372036854775808 ≤ v ∧ v ≤ 9223372036854775807 := by
  unfold Lib.atoiAll at h
  cases l with
  | nil => simp at h
  | cons c r =>
    simp only at h
    split at h
    · simp at h
    · simp at h
    · split at h
      · simp at h
      · split at h
        · simp at h
        · rename_i h1 h2
          simp only [Lib.NumEnd.ok.injEq] at h
          subst h
          by_cases hn : c.toNat = 45
          · simp only [hn, true_and, not_true, if_true] at *
            omega
          · simp only [hn, not_false_iff, true_and, if_false] at *
            omega
/-- The number of the shortest figures, 0: none. -/
def numberF (l : Bytes) : Nat :=
  match Lib.atoiAll l with
  | .ok v => if Lib.itoa v = l ∧ 1 ≤ v ∧ v ≤ 50000 then v.toNat else 0
  | _ => 0
def beginL : Bytes := [37, 97, 109, 101, 110, 100, 32]
def hexL : Bytes := [48, 49, 50, 51, 52, 53, 54, 55, 56, 57, 97, 98, 99, 100, 101, 102]
def hexAll (l : Bytes) : Prop := ∀ c ∈ l, c ∈ hexL
instance (l : Bytes) : Decidable (hexAll l) := inferInstanceAs (Decidable (∀ c ∈ l, c ∈ hexL))
theorem trimS_hex (l : Bytes) : Lib.trimS l [48, 49, 50, 51, 52, 53, 54, 55, 56, 57, 97, 98, 99, 100, 101, 102] = [] ↔ hexAll l := trimS_nil l hexL
/-- What a first line tells. -/
def openedF (l : Bytes) : Nat × Bytes × Bool :=
  (numberF (upto 32 (Lib.trimPrefix l beginL)), past 32 (Lib.trimPrefix l beginL),
    decide (beginL <+: l ∧ 32 ∈ Lib.trimPrefix l beginL ∧ 2 ≤ numberF (upto 32 (Lib.trimPrefix l beginL)) ∧ (past 32 (Lib.trimPrefix l beginL)).length = 8 ∧ hexAll (past 32 (Lib.trimPrefix l beginL))))
/-- Whether a text may go on to be a first line. -/
def openingF (l : Bytes) : Bool :=
  if beginL <+: l then decide (¬ (32 ∈ l.drop 7 ∧ numberF (upto 32 (l.drop 7)) < 2) ∧ ¬ (upto 32 (l.drop 7) ≠ [] ∧ numberF (upto 32 (l.drop 7)) = 0) ∧ (past 32 (l.drop 7)).length ≤ 8 ∧ hexAll (past 32 (l.drop 7)))
  else decide (l <+: beginL)
theorem numberF_none {l : Bytes} (h : ∀ v, Lib.atoiAll l ≠ .ok v) : numberF l = 0 := by
  unfold numberF
  cases ho : Lib.atoiAll l with
  | ok v => exact absurd ho (h v)
  | _ => rfl
theorem numberF_ok {l : Bytes} {v : Int} (h : Lib.atoiAll l = .ok v) : (numberF l : Int) = if Lib.itoa v = l ∧ 1 ≤ v ∧ v ≤ 50000 then v else 0 := by
  unfold numberF
  rw [h]
  simp only
  split
  · omega
  · rfl
theorem numberF_le (l : Bytes) : numberF l ≤ 50000 := by
  unfold numberF
  split
  · split
    · omega
    · omega
  · omega
/-- How many bytes a record has. -/
def lengthF (n : Int) : Int := if n < 2 ∨ 50000 < n then 0 else (headF n.toNat [48, 48, 48, 48, 48, 48, 48, 48]).length + n + (tailF n.toNat).length
theorem hasPrefix_dec (l m : Bytes) : Lib.hasPrefix l m = decide (m <+: l) := by
  by_cases h : m <+: l
  · simp [(hasPrefix_iff l m).2 h, h]
  · have : ¬ Lib.hasPrefix l m = true := fun h' => h ((hasPrefix_iff l m).1 h')
    simp [this, h]
/-- 1 a record, 2 a part, 3 neither. -/
def partlyF (body : Bytes) (lack : Int) : Int :=
  if (dedentOf [32] body).2 = true ∧ ¬ ((body = [] ∨ body.getLast? = some 10) ∧ lack < 2) then 2 else 3
theorem lineEnd_len (b : Bool) : (lineEnd b).length ≤ 1 := by cases b <;> simp [lineEnd]
theorem rep8 : Lib.repeatL [48] 8 = [48, 48, 48, 48, 48, 48, 48, 48] := by decide
theorem headF_length (n : Nat) (f : Bytes) : (headF n f).length = (Lib.itoa n).length + f.length + 9 := by simp [headF] <;> omega
theorem tailF_length (n : Nat) : (tailF n).length = (Lib.itoa n).length + 6 := by simp [tailF] <;> omega
theorem digit_piece {u : Nat} (h : u < 10) : (([48, 49, 50, 51, 52, 53, 54, 55, 56, 57] : Bytes).take (u + 1)).drop u = Lib.decDigits u := by
  rw [Lib.decDigits_one h]
  have : u = 0 ∨ u = 1 ∨ u = 2 ∨ u = 3 ∨ u = 4 ∨ u = 5 ∨ u = 6 ∨ u = 7 ∨ u = 8 ∨ u = 9 := by omega
  rcases this with rfl | rfl | rfl | rfl | rfl | rfl | rfl | rfl | rfl | rfl <;> rfl
theorem decDigits_big {u : Nat} (h : ¬ u < 10) : Lib.decDigits u = Lib.decDigits (u / 10) ++ Lib.decDigits (u % 10) := by
  rw [Lib.decDigits, dif_neg h, Lib.decDigits_one (Nat.mod_lt u (by omega))]
theorem decDigits_len_le {u : Nat} (h : u < 18446744073709551616) : (Lib.decDigits u).length ≤ 20 := by
  rw [Lib.decDigits_length]
  exact nDigits_le 19 u (by omega)
end Go.Pl
