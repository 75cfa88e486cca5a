/- Plain facts on pieces between line ends. No program. -/
import Derived.Test.YtopmpdoigmenmaaDoorPl
import Derived.Lib.SplitLaws
set_option linter.unusedVariables false
namespace Go.Pl
open Go

/-- What stands between line ends. -/
def partsOf (l : Bytes) : List Bytes :=
  if h : 10 ∈ l then upto 10 l :: partsOf (past 10 l) else [l]
  termination_by l.length
  decreasing_by exact past_lt (fun e => by rw [e] at h; simp at h)
theorem partsOf_mem {l : Bytes} (h : 10 ∈ l) : partsOf l = upto 10 l :: partsOf (past 10 l) := by rw [partsOf, dif_pos h]
theorem partsOf_not {l : Bytes} (h : 10 ∉ l) : partsOf l = [l] := by rw [partsOf, dif_neg h]
theorem split10 : ∀ (n : Nat) (l : Bytes), l.length ≤ n → Lib.splitK [10] 0 (Lib.count l [10]) l = partsOf l
  | n, l, hn => by
    by_cases h : 10 ∈ l
    · have hi := index_upto 10 l h
      have hne : l ≠ [] := fun e => by rw [e] at h; simp at h
      have hlt := past_lt (c := 10) hne
      rw [partsOf_mem h, Lib.count_hit (i := (upto 10 l).length) (by simp) hi, Nat.add_comm, Lib.splitK]
      rw [if_neg (by rw [hi]; simp), hi]
      cases n with
      | zero => exact absurd (List.length_eq_zero_iff.1 (by omega)) hne
      | succ n =>
        have := split10 n (past 10 l) (by omega)
        simp only [Int.toNat_natCast, Nat.add_zero, List.length_cons, List.length_nil, Nat.zero_add, take_upto]
        rw [show List.drop ((upto 10 l).length + 1) l = past 10 l from rfl, this]
    · have hi : Lib.index l [10] = -1 := by
        have := Lib.index_ge l [10]
        have h2 : ¬ 0 ≤ Lib.index l [10] := fun h' => h ((index_one l 10).1 h')
        omega
      rw [partsOf_not h, Lib.count_miss hi]
      rfl
theorem partsOf_length_le : ∀ (n : Nat) (l : Bytes), l.length ≤ n → (partsOf l).length ≤ l.length + 1
  | n, l, hn => by
    by_cases h : 10 ∈ l
    · have hne : l ≠ [] := fun e => by rw [e] at h; simp at h
      have hlt := past_lt (c := 10) hne
      rw [partsOf_mem h]
      cases n with
      | zero => exact absurd (List.length_eq_zero_iff.1 (by omega)) hne
      | succ n =>
        have := partsOf_length_le n (past 10 l) (by omega)
        simp only [List.length_cons]
        omega
    · rw [partsOf_not h]; simp
theorem partsOf_piece : ∀ (n : Nat) (l : Bytes), l.length ≤ n → ∀ x ∈ partsOf l, x.length ≤ l.length ∧ 10 ∉ x
  | n, l, hn, x, hx => by
    by_cases h : 10 ∈ l
    · have hne : l ≠ [] := fun e => by rw [e] at h; simp at h
      have hlt := past_lt (c := 10) hne
      rw [partsOf_mem h, List.mem_cons] at hx
      rcases hx with rfl | hx
      · exact ⟨upto_length_le 10 l, notin_upto 10 l⟩
      · cases n with
        | zero => exact absurd (List.length_eq_zero_iff.1 (by omega)) hne
        | succ n =>
          have := partsOf_piece n (past 10 l) (by omega) x hx
          exact ⟨by omega, this.2⟩
    · rw [partsOf_not h, List.mem_singleton] at hx
      subst hx
      exact ⟨Nat.le_refl _, h⟩
end Go.Pl
