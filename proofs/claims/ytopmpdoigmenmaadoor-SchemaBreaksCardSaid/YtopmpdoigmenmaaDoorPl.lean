/- Plain facts on bytes: what the library's words come to at one byte; what a line's kind is. No program. -/
import Derived.Lib.Index
import Derived.Lib.SlTrimSet
import Derived.Shelf.Strings.Prefix
import Derived.Shelf.Strings.Cut
set_option linter.unusedVariables false
namespace Go.Pl
open Go

abbrev Bytes := List UInt8

theorem index_one (l : Bytes) (c : UInt8) : 0 ≤ Lib.index l [c] ↔ c ∈ l := by
  induction l with
  | nil => simp [Lib.index]
  | cons b l ih =>
    have hge := Lib.index_ge l [c]
    unfold Lib.index
    by_cases hb : c = b
    · subst hb
      simp [List.isPrefixOf]
    · have hp : ([c] : Bytes).isPrefixOf (b :: l) = false := by simp [List.isPrefixOf, hb]
      rw [hp]
      by_cases hm : Lib.index l [c] = -1
      · have : c ∉ l := fun h => by have := ih.2 h; omega
        simp [hm, hb, this]
      · have : c ∈ l := ih.1 (by omega)
        simp [hm, this]
        omega
theorem contains_one (l : Bytes) (c : UInt8) : Lib.contains l [c] = decide (c ∈ l) := by
  unfold Lib.contains
  by_cases h : c ∈ l
  · simp [h, (index_one l c).2 h]
  · have : ¬ 0 ≤ Lib.index l [c] := fun h' => h ((index_one l c).1 h')
    simp [h, this]
theorem hasPrefix_one (l : Bytes) (c : UInt8) : Lib.hasPrefix l [c] = decide (l.head? = some c) := by
  cases l with
  | nil => simp [Lib.hasPrefix]
  | cons b l =>
    by_cases h : c = b
    · simp [Lib.hasPrefix, List.isPrefixOf, h]
    · simp [Lib.hasPrefix, List.isPrefixOf, h, Ne.symm h]

/-- A blank: a space or a tab. -/
def isBlank (c : UInt8) : Prop := c = 32 ∨ c = 9
instance (c : UInt8) : Decidable (isBlank c) := inferInstanceAs (Decidable (c = 32 ∨ c = 9))
/-- It begins with a blank. -/
def blankL (l : Bytes) : Prop := ∃ c, l.head? = some c ∧ isBlank c
instance (l : Bytes) : Decidable (blankL l) :=
  match l with
  | [] => .isFalse (by rintro ⟨c, h, _⟩; simp at h)
  | c :: r => decidable_of_iff (isBlank c) ⟨fun h => ⟨c, rfl, h⟩, fun ⟨d, h, hd⟩ => by simp at h; subst h; exact hd⟩
/-- A good key. -/
def keyOk (l : Bytes) : Prop := l ≠ [] ∧ l.length ≤ 32 ∧ ¬ blankL l ∧ ¬ l.head? = some 35 ∧ 58 ∉ l ∧ 10 ∉ l
instance (l : Bytes) : Decidable (keyOk l) := inferInstanceAs (Decidable (_ ∧ _ ∧ _ ∧ _ ∧ _ ∧ _))

theorem keyOk_iff (l : Bytes) : keyOk l ↔ 1 ≤ l.length ∧ l.length ≤ 32 ∧ ¬ isBlank (l.getD 0 0) ∧ l.getD 0 0 ≠ 35 ∧ 58 ∉ l ∧ 10 ∉ l := by
  cases l with
  | nil => simp [keyOk]
  | cons c l => simp [keyOk, blankL]

theorem blank_contains (c : UInt8) (l : Bytes) : Lib.contains [32, 9] [c] = decide (blankL (c :: l)) := by
  rw [contains_one]
  have : blankL (c :: l) ↔ isBlank c := ⟨fun ⟨d, h, hd⟩ => by simp at h; subst h; exact hd, fun h => ⟨c, rfl, h⟩⟩
  simp [this, isBlank]

/-- What stands ahead of the first c, and behind it. -/
def upto (c : UInt8) (l : Bytes) : Bytes := l.takeWhile (· ≠ c)
def past (c : UInt8) (l : Bytes) : Bytes := l.drop ((upto c l).length + 1)
theorem index_upto (c : UInt8) (l : Bytes) (h : c ∈ l) : Lib.index l [c] = ((upto c l).length : Int) := by
  induction l with
  | nil => simp at h
  | cons b l ih =>
    unfold Lib.index upto
    by_cases hb : b = c
    · subst hb; simp [List.isPrefixOf]
    · have hp : ([c] : Bytes).isPrefixOf (b :: l) = false := by simp [List.isPrefixOf, Ne.symm hb]
      have hl : c ∈ l := by simpa [Ne.symm hb] using h
      have e := ih hl
      rw [hp]
      have : (Lib.index l [c] == -1) = false := by rw [e]; simp
      simp only [this]
      rw [e]
      simp [hb, upto]
theorem take_upto (c : UInt8) (l : Bytes) : l.take (upto c l).length = upto c l := by
  induction l with
  | nil => simp [upto]
  | cons b l ih =>
    by_cases hb : b = c
    · simp [upto, hb]
    · have : upto c (b :: l) = b :: upto c l := by simp [upto, hb]
      rw [this]
      simp [ih]
theorem upto_all {c : UInt8} {l : Bytes} (h : c ∉ l) : upto c l = l := by
  induction l with
  | nil => rfl
  | cons b l ih =>
    have hb : b ≠ c := fun e => h (by simp [e])
    have : upto c (b :: l) = b :: upto c l := by simp [upto, hb]
    rw [this, ih (fun h' => h (by simp [h']))]
theorem upto_length_le (c : UInt8) (l : Bytes) : (upto c l).length ≤ l.length := by
  have := congrArg List.length (take_upto c l)
  simp at this
  omega
theorem upto_length_lt {c : UInt8} {l : Bytes} (h : c ∈ l) : (upto c l).length < l.length := by
  induction l with
  | nil => simp at h
  | cons b l ih =>
    by_cases hb : b = c
    · simp [upto, hb]
    · have : upto c (b :: l) = b :: upto c l := by simp [upto, hb]
      rw [this]
      have := ih (by simpa [Ne.symm hb] using h)
      simp
      omega
theorem past_length (c : UInt8) (l : Bytes) : (past c l).length = l.length - ((upto c l).length + 1) := by simp [past]
theorem cut_one (c : UInt8) (l : Bytes) : Lib.cut l [c] = (upto c l, past c l, decide (c ∈ l)) := by
  unfold Lib.cut
  by_cases h : c ∈ l
  · rw [if_pos ((index_one l c).2 h), index_upto c l h]
    simp [take_upto, past, h]
  · rw [if_neg (fun h' => h ((index_one l c).1 h'))]
    simp [upto_all h, past, h]

theorem past_lt {c : UInt8} {l : Bytes} (h : l ≠ []) : (past c l).length < l.length := by
  rw [past_length]
  have := List.length_pos_iff.2 h
  omega
/-- A text's lines: each with whether it is ended. -/
def linesOf (l : Bytes) : List (Bytes × Bool) :=
  if h : l = [] then [] else (upto 10 l, decide (10 ∈ l)) :: linesOf (past 10 l)
  termination_by l.length
  decreasing_by exact past_lt h
theorem linesOf_nil : linesOf [] = [] := by rw [linesOf]; simp
theorem linesOf_cons {l : Bytes} (h : l ≠ []) : linesOf l = (upto 10 l, decide (10 ∈ l)) :: linesOf (past 10 l) := by rw [linesOf]; simp [h]
def lineEnd (b : Bool) : Bytes := if b then [10] else []
/-- A text without another one ahead of each line. -/
def dedentOf (by' l : Bytes) : Bytes × Bool :=
  if ∀ x ∈ linesOf l, by' <+: x.1 then ((linesOf l).flatMap fun x => x.1.drop by'.length ++ lineEnd x.2, true) else ([], false)

theorem trimPrefix_le (l m : Bytes) : (Lib.trimPrefix l m).length ≤ l.length := by
  unfold Lib.trimPrefix
  split
  · simp
  · exact Nat.le_refl _
theorem hasPrefix_iff (l m : Bytes) : Lib.hasPrefix l m = true ↔ m <+: l := by
  unfold Lib.hasPrefix
  exact List.isPrefixOf_iff_prefix
theorem trimPrefix_of {l m : Bytes} (h : m <+: l) : Lib.trimPrefix l m = l.drop m.length := by
  unfold Lib.trimPrefix
  rw [if_pos ((hasPrefix_iff l m).2 h)]

theorem upto_app {c : UInt8} {a : Bytes} (r : Bytes) (h : c ∉ a) : upto c (a ++ c :: r) = a := by
  induction a with
  | nil => simp [upto]
  | cons b a ih =>
    have hb : b ≠ c := fun e => h (by simp [e])
    have h2 : c ∉ a := fun e => h (by simp [e])
    have e : upto c (b :: (a ++ c :: r)) = b :: upto c (a ++ c :: r) := by simp [upto, hb]
    rw [List.cons_append, e, ih h2]
theorem past_app {c : UInt8} {a : Bytes} (r : Bytes) (h : c ∉ a) : past c (a ++ c :: r) = r := by
  unfold past
  rw [upto_app r h, show a ++ c :: r = (a ++ [c]) ++ r by simp, show a.length + 1 = (a ++ [c]).length by simp, List.drop_left]
theorem upto_past {c : UInt8} {l : Bytes} (h : c ∈ l) : l = upto c l ++ c :: past c l := by
  induction l with
  | nil => simp at h
  | cons b l ih =>
    by_cases hb : b = c
    · subst hb; simp [upto, past]
    · have h2 : c ∈ l := by simpa [Ne.symm hb] using h
      have e1 : upto c (b :: l) = b :: upto c l := by simp [upto, hb]
      have e2 : past c (b :: l) = past c l := by simp [past, e1]
      rw [e1, e2, List.cons_append, ← ih h2]
theorem notin_upto (c : UInt8) (l : Bytes) : c ∉ upto c l := by
  induction l with
  | nil => simp [upto]
  | cons b l ih =>
    by_cases hb : b = c
    · simp [upto, hb]
    · have e1 : upto c (b :: l) = b :: upto c l := by simp [upto, hb]
      rw [e1]
      simp [Ne.symm hb, ih]

/-- What stands ahead of a line's first colon. -/
def keyPart (l : Bytes) : Bytes := l.takeWhile (· ≠ 58)
theorem index_colon (l : Bytes) (h : 58 ∈ l) : Lib.index l [58] = ((keyPart l).length : Int) := by
  induction l with
  | nil => simp at h
  | cons b l ih =>
    unfold Lib.index keyPart
    by_cases hb : b = 58
    · subst hb; simp [List.isPrefixOf]
    · have hp : ([58] : Bytes).isPrefixOf (b :: l) = false := by simp [List.isPrefixOf, Ne.symm hb]
      have hl : 58 ∈ l := by simpa [Ne.symm hb] using h
      have e := ih hl
      rw [hp]
      have : (Lib.index l [58] == -1) = false := by rw [e]; simp
      simp only [this]
      rw [e]
      simp [hb, keyPart]
theorem take_keyPart (l : Bytes) : l.take (keyPart l).length = keyPart l := by
  induction l with
  | nil => simp [keyPart]
  | cons b l ih =>
    by_cases hb : b = 58
    · simp [keyPart, hb]
    · have : keyPart (b :: l) = b :: keyPart l := by simp [keyPart, hb]
      rw [this]
      simp [ih]
/-- What stands behind a line's first colon. -/
def restPart (l : Bytes) : Bytes := l.drop ((keyPart l).length + 1)
theorem cut_colon (l : Bytes) : Lib.cut l [58] = if 58 ∈ l then (keyPart l, restPart l, true) else (l, [], false) := by
  unfold Lib.cut
  by_cases h : 58 ∈ l
  · rw [if_pos ((index_one l 58).2 h), if_pos h, index_colon l h]
    simp [take_keyPart, restPart]
  · rw [if_neg (fun h' => h ((index_one l 58).1 h')), if_neg h]

theorem keyPart_eq {l : Bytes} {k : Nat} (h : 58 ∉ l.take k) (hk : k < l.length) (e : l.getD k 0 = 58) : keyPart l = l.take k ∧ 58 ∈ l := by
  induction l generalizing k with
  | nil => simp at hk
  | cons b l ih =>
    cases k with
    | zero => simp at e; subst e; simp [keyPart]
    | succ k =>
      simp only [List.take_succ_cons, List.mem_cons, not_or] at h
      obtain ⟨h1, h2⟩ := ih h.2 (by simpa using hk) (by simpa using e)
      have : keyPart (b :: l) = b :: keyPart l := by simp [keyPart, Ne.symm h.1]
      exact ⟨by rw [this, h1]; rfl, by simp [h2]⟩
/-- A line's key and what stands behind its colon. -/
def cutOf (l : Bytes) : Bytes × Bytes × Bool := if 10 ∉ l ∧ 58 ∈ l ∧ keyOk (keyPart l) then (keyPart l, restPart l, true) else ([], [], false)
/-- A line's kind: 1 empty, 2 note, 3 more, 4 pair, 5 odd. -/
def kindOf (l : Bytes) : Int :=
  if 10 ∈ l then 5 else if ∀ c ∈ l, isBlank c then 1 else if l.head? = some 35 then 2 else if blankL l then 3
  else if 58 ∈ l ∧ keyOk (keyPart l) then 4 else 5

theorem kindOf_more {l : Bytes} (h : 10 ∉ l) (hb : ¬ ∀ c ∈ l, isBlank c) : 0 < l.length ∧ kindOf l = if l.getD 0 0 = 35 then 2 else if isBlank (l.getD 0 0) then 3 else if 58 ∈ l ∧ keyOk (keyPart l) then 4 else 5 := by
  cases l with
  | nil => simp at hb
  | cons c l =>
    have e : blankL (c :: l) ↔ isBlank c := ⟨fun ⟨d, h, hd⟩ => by simp at h; subst h; exact hd, fun h => ⟨c, rfl, h⟩⟩
    refine ⟨by simp, ?_⟩
    unfold kindOf
    rw [if_neg h, if_neg hb]
    simp [e]
theorem dropWhile_nil {α : Type} (p : α → Bool) (l : List α) : l.dropWhile p = [] ↔ ∀ x ∈ l, p x = true := by
  induction l with
  | nil => simp
  | cons a l ih =>
    by_cases h : p a = true
    · simp [h, ih]
    · simp [h]
theorem drop_nil {α : Type} (p : α → Bool) (l : List α) : (l.reverse.dropWhile p).reverse.dropWhile p = [] ↔ ∀ x ∈ l, p x = true := by
  rw [dropWhile_nil]
  constructor
  · intro h x hx
    by_cases hq : ∀ y ∈ l, p y = true
    · exact hq x hx
    · have hr : ¬ ∀ y ∈ l.reverse, p y = true := fun h' => hq fun y hy => h' y (by simpa using hy)
      rw [← dropWhile_nil] at hr
      obtain ⟨a, r, hd⟩ := List.exists_cons_of_ne_nil hr
      have h1 := List.head?_dropWhile_not p l.reverse
      rw [hd] at h1
      have h2 := h a (by simp [hd])
      simp [h2] at h1
  · intro h x hx
    exact h x (by
      have := (List.dropWhile_sublist (l := l.reverse) p).subset (by simpa using hx)
      simpa using this)
theorem trimS_nil (l m : Bytes) : Lib.trimS l m = [] ↔ ∀ c ∈ l, c ∈ m := by
  unfold Lib.trimS Lib.trimLeftS Lib.trimRightS
  rw [drop_nil]
  simp
theorem cut_fst_le (l m : Bytes) : (Lib.cut l m).1.length ≤ l.length := by
  unfold Lib.cut
  split
  · simp; omega
  · simp
end Go.Pl
