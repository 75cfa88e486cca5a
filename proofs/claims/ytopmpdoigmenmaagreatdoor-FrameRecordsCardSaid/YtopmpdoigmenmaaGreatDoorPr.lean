/- Plain facts on records: what the document's answer tells at each of its tests. No walk. -/
import Derived.Test.YtopmpdoigmenmaaGreatDoorPp
import Derived.Test.YtopmpdoigmenmaaGreatDoorRe
import Derived.Test.YtopmpdoigmenmaaGreatDoorPn
set_option maxRecDepth 100000
set_option linter.unusedVariables false
namespace Go.Proofs.YtopmpdoigmenmaaGreatDoor
open Go Go.Pl

theorem beginL_no10 : (10 : UInt8) ∉ beginL := by decide
/-- What it takes for a text not to be odd. -/
theorem odd_of {l : Bytes} (h1 : 10 ∈ l → (openedF (upto 10 l)).2.2 = false) (h2 : 10 ∉ l → openingF l = false) : readF l = (3, [], 0) := by
  unfold readF
  by_cases h : 10 ∈ l
  · rw [if_pos h, if_neg (by rw [h1 h]; simp)]
  · rw [if_neg h, if_neg (by rw [h2 h]; simp)]
theorem upto_pre (c : UInt8) (l : Bytes) : upto c l <+: l := by
  rw [← take_upto c l]
  exact List.take_prefix _ _
theorem R1 {l : Bytes} (hl : l.length ≤ 7) (h : l <+: beginL) : readF l = (2, [], 0) := by
  have h10 : 10 ∉ l := pre_not h beginL_no10
  unfold readF
  rw [if_neg h10, if_pos ?_]
  unfold openingF
  by_cases hb : beginL <+: l
  · rw [if_pos hb, h.eq_of_length_le hb.length_le]; decide
  · rw [if_neg hb]; exact decide_eq_true h
theorem R2 {l : Bytes} (hl : l.length ≤ 7) (h : ¬ l <+: beginL) : readF l = (3, [], 0) := by
  refine odd_of (fun h10 => decide_eq_false fun h' => ?_) (fun h10 => ?_)
  · have := h'.1.length_le
    have := upto_length_lt h10
    have e : beginL.length = 7 := rfl
    omega
  · unfold openingF
    by_cases hb : beginL <+: l
    · have := hb.eq_of_length_le hl
      exact absurd (this ▸ List.prefix_refl _) h
    · rw [if_neg hb]; exact decide_eq_false h
theorem R3 {l : Bytes} (hl : 7 < l.length) (h : ¬ beginL <+: l) : readF l = (3, [], 0) := by
  refine odd_of (fun h10 => decide_eq_false fun h' => h (h'.1.trans (upto_pre 10 l))) (fun h10 => ?_)
  unfold openingF
  rw [if_neg h]
  refine decide_eq_false fun h' => ?_
  have := h'.length_le
  have e : beginL.length = 7 := rfl
  omega
/-- Ahead of the first other sign stand figures alone. -/
theorem digs_itoa {n : Nat} {s r : Bytes} {c : UInt8} (hc : isDig c = false) (h : s = Lib.itoa (n : Int) ++ c :: r) : s.takeWhile isDig = Lib.itoa (n : Int) := by
  subst h
  have hd := itoa_dig n
  rw [List.takeWhile_append_of_pos (fun x hx => by simp only [isDig, decide_eq_true_eq]; exact hd x hx), List.takeWhile_cons_of_neg (by simp [hc]), List.append_nil]
theorem tw_self {p : UInt8 → Bool} {l : Bytes} : l.takeWhile p = l ↔ ∀ c ∈ l, p c = true := by
  induction l with
  | nil => simp
  | cons b l ih =>
    by_cases h : p b = true
    · rw [List.takeWhile_cons_of_pos h]; simp [ih, h]
    · rw [List.takeWhile_cons_of_neg h]; simp [h]
theorem digs_all {n : Nat} : (Lib.itoa (n : Int)).takeWhile isDig = Lib.itoa (n : Int) := by
  rw [tw_self]
  intro x hx
  simp only [isDig, decide_eq_true_eq]
  exact itoa_dig n x hx
theorem take_tw {p : UInt8 → Bool} (s : Bytes) : s.take (s.takeWhile p).length = s.takeWhile p := by
  induction s with
  | nil => rfl
  | cons b s ih =>
    by_cases h : p b = true
    · rw [List.takeWhile_cons_of_pos h]; simp [ih]
    · rw [List.takeWhile_cons_of_neg h]; rfl
/-- A text that is not odd begins with a number. -/
theorem first_num {s : Bytes} (hs : s ≠ []) (h : readF (beginL ++ s) ≠ (3, [], 0)) : ∃ n : Nat, 1 ≤ n ∧ n ≤ 50000 ∧ s.takeWhile isDig = Lib.itoa (n : Int) ∧ (s = Lib.itoa (n : Int) ∨ 2 ≤ n ∧ ∃ r, s = Lib.itoa (n : Int) ++ 32 :: r ∧ (10 ∉ r → r.length ≤ 8 ∧ hexAll r) ∧ (10 ∈ r → (upto 10 r).length = 8 ∧ hexAll (upto 10 r))) := by
  have e10 : 10 ∈ beginL ++ s ↔ 10 ∈ s := by simp [beginL_no10]
  have ed : (beginL ++ s).drop 7 = s := by rw [show (7 : Nat) = beginL.length by rfl, List.drop_left]
  by_cases h10 : 10 ∈ s
  · have ho : (openedF (upto 10 (beginL ++ s))).2.2 = true := by
      cases hq : (openedF (upto 10 (beginL ++ s))).2.2 with
      | true => rfl
      | false => exact absurd (odd_of (fun _ => hq) (fun h' => absurd (e10.2 h10) h')) h
    have eu : upto 10 (beginL ++ s) = beginL ++ upto 10 s := by
      conv => lhs; rw [upto_past h10, ← List.append_assoc]
      exact upto_app _ (by simp [beginL_no10, notin_upto])
    rw [eu] at ho
    simp only [openedF, decide_eq_true_eq, trim_begin] at ho
    obtain ⟨_, o2, o3, o4, o5⟩ := ho
    have hn := numberF_inv (l := upto 32 (upto 10 s)) rfl (by omega)
    have hle := numberF_le (upto 32 (upto 10 s))
    generalize numberF (upto 32 (upto 10 s)) = n at *
    have e1 := upto_past o2
    rw [hn] at e1
    have e2 := upto_past h10
    generalize hf : past 32 (upto 10 s) = f at *
    have hf10 : 10 ∉ f := by
      have := notin_upto 10 s
      rw [e1] at this
      simp only [List.mem_append, List.mem_cons, not_or] at this
      exact this.2.2
    rw [e1, List.append_assoc, List.cons_append] at e2
    refine ⟨n, by omega, hle, digs_itoa (by decide) e2, .inr ⟨o3, _, e2, fun h' => absurd (by simp : (10 : UInt8) ∈ f ++ 10 :: past 10 s) h', fun _ => ?_⟩⟩
    rw [upto_app _ hf10]
    exact ⟨o4, o5⟩
  · have ho : openingF (beginL ++ s) = true := by
      cases hq : openingF (beginL ++ s) with
      | true => rfl
      | false => exact absurd (odd_of (fun h' => absurd (e10.1 h') h10) (fun _ => hq)) h
    unfold openingF at ho
    rw [if_pos (List.prefix_append _ _), ed] at ho
    obtain ⟨o1, o2, o3, o4⟩ := of_decide_eq_true ho
    by_cases h32 : 32 ∈ s
    · have hn2 : 2 ≤ numberF (upto 32 s) := by
        rcases Nat.lt_or_ge (numberF (upto 32 s)) 2 with h | h
        · exact absurd ⟨h32, h⟩ o1
        · exact h
      have hn := numberF_inv (l := upto 32 s) rfl (by omega)
      have hle := numberF_le (upto 32 s)
      generalize numberF (upto 32 s) = n at *
      have e1 := upto_past h32
      rw [hn] at e1
      refine ⟨n, by omega, hle, digs_itoa (by decide) e1, .inr ⟨hn2, _, e1, fun _ => ⟨o3, o4⟩, fun h' => absurd (e1 ▸ by simp [h'] : (10 : UInt8) ∈ s) h10⟩⟩
    · rw [upto_all h32] at o2
      have hpos : 1 ≤ numberF s := by
        rcases Nat.eq_zero_or_pos (numberF s) with h | h
        · exact absurd ⟨hs, h⟩ o2
        · exact h
      have hn := numberF_inv (l := s) rfl hpos
      have hle := numberF_le s
      generalize numberF s = n at *
      subst hn
      exact ⟨n, hpos, hle, digs_all, .inl rfl⟩
theorem itoa_inj {m n : Nat} (hm : m ≤ 50000) (hn : n ≤ 50000) (h : Lib.itoa (m : Int) = Lib.itoa (n : Int)) : m = n := by
  have := congrArg numZ h
  rw [numZ_itoa (by omega) (by omega), numZ_itoa (by omega) (by omega)] at this
  simp at this
  omega
theorem itoa_short {n : Nat} (h : n ≤ 50000) : (Lib.itoa (n : Int)).length ≤ 5 := by
  rw [itoa_nat, Lib.decDigits_length]
  exact nDigits_le 4 n (by omega)
theorem R4 {s : Bytes} (hs : s ≠ []) (h : 5 < (s.takeWhile isDig).length) : readF (beginL ++ s) = (3, [], 0) := by
  refine Classical.byContradiction fun hc => ?_
  obtain ⟨n, _, h2, h3, _⟩ := first_num hs hc
  have := itoa_short h2
  rw [h3] at h
  omega
theorem R5 {s : Bytes} (hs : s ≠ []) (h : ∀ n : Nat, 1 ≤ n → n ≤ 50000 → s.takeWhile isDig ≠ Lib.itoa (n : Int)) : readF (beginL ++ s) = (3, [], 0) := by
  refine Classical.byContradiction fun hc => ?_
  obtain ⟨n, h1, h2, h3, _⟩ := first_num hs hc
  exact h n h1 h2 h3
theorem R6 {n : Nat} (h1 : 1 ≤ n) (h2 : n ≤ 50000) : readF (beginL ++ Lib.itoa (n : Int)) = (2, [], 0) := by
  have h32 : 32 ∉ Lib.itoa (n : Int) := notin_itoa n (by decide)
  have h10 : 10 ∉ beginL ++ Lib.itoa (n : Int) := by
    simp only [List.mem_append, not_or]
    exact ⟨beginL_no10, notin_itoa n (by decide)⟩
  have ed : (beginL ++ Lib.itoa (n : Int)).drop 7 = Lib.itoa (n : Int) := by rw [show (7 : Nat) = beginL.length by rfl, List.drop_left]
  unfold readF
  rw [if_neg h10, if_pos ?_]
  unfold openingF
  rw [if_pos (List.prefix_append _ _), ed, upto_all h32, numberF_itoa h1 h2]
  have hp : past 32 (Lib.itoa (n : Int)) = [] := by unfold past; rw [upto_all h32]; simp
  rw [hp]
  exact decide_eq_true ⟨fun h' => h32 h'.1, fun h' => by omega, by simp, by intro c hc; simp at hc⟩
theorem R7 {n : Nat} {c : UInt8} {r : Bytes} (h2 : n ≤ 50000) (hd : isDig c = false) (h : c ≠ 32 ∨ n < 2) : readF (beginL ++ (Lib.itoa (n : Int) ++ c :: r)) = (3, [], 0) := by
  refine Classical.byContradiction fun hc => ?_
  obtain ⟨m, m1, m2, m3, m4⟩ := first_num (by simp) hc
  rw [digs_itoa hd rfl] at m3
  have e := itoa_inj h2 m2 m3
  subst e
  rcases m4 with m4 | ⟨m4, r2, m5, _⟩
  · have := congrArg List.length m4
    simp at this
  · rw [List.append_cancel_left_eq, List.cons.injEq] at m5
    rcases h with h | h
    · exact h m5.1
    · omega
theorem odd_fig {n : Nat} {r : Bytes} (h1 : 2 ≤ n) (h2 : n ≤ 50000) (h : ¬ ((10 ∉ r → r.length ≤ 8 ∧ hexAll r) ∧ (10 ∈ r → (upto 10 r).length = 8 ∧ hexAll (upto 10 r)))) : readF (beginL ++ (Lib.itoa (n : Int) ++ 32 :: r)) = (3, [], 0) := by
  refine Classical.byContradiction fun hc => ?_
  obtain ⟨m, m1, m2, m3, m4⟩ := first_num (by simp) hc
  rw [digs_itoa (by decide) rfl] at m3
  have e := itoa_inj h2 m2 m3
  subst e
  rcases m4 with m4 | ⟨m4, r2, m5, m6, m7⟩
  · have := congrArg List.length m4
    simp at this
  · rw [List.append_cancel_left_eq, List.cons.injEq] at m5
    obtain ⟨_, rfl⟩ := m5
    exact h ⟨m6, m7⟩
theorem hex_mem (c : UInt8) : isHex c = true ↔ c ∈ hexL := by
  have key : ∀ i : Fin 256, isHex (UInt8.ofNat i.val) = true ↔ UInt8.ofNat i.val ∈ hexL := by decide +kernel
  have := key ⟨c.toNat, UInt8.toNat_lt c⟩
  simpa using this
theorem tw_all {p : UInt8 → Bool} {l : Bytes} (h : (l.takeWhile p).length = l.length) : ∀ c ∈ l, p c = true := by
  have e : l.takeWhile p = l := (List.takeWhile_prefix p).eq_of_length h
  rwa [tw_self] at e
theorem R8 {n : Nat} {r : Bytes} (h1 : 2 ≤ n) (h2 : n ≤ 50000) (h : ((r.take 8).takeWhile isHex).length = r.length) : readF (beginL ++ (Lib.itoa (n : Int) ++ 32 :: r)) = (2, [], 0) := by
  have hle : ((r.take 8).takeWhile isHex).length ≤ (r.take 8).length := (List.takeWhile_prefix isHex).length_le
  have hl : r.length ≤ 8 := by simp at hle; omega
  rw [List.take_of_length_le hl] at h
  have hx : hexAll r := fun c hc => (hex_mem c).1 (tw_all h c hc)
  obtain ⟨fig, f1, f2, f3⟩ := prefix_pad r hl hx
  obtain ⟨body, b1, b2⟩ := some_body h1 h2
  have R : RecLike n fig body := ⟨h1, h2, b1, b2, f1, f2⟩
  have hp := lt_of_pre (n := n) (fig := fig) (body := body) (l := beginL ++ (Lib.itoa (n : Int) ++ 32 :: r)) (by
    unfold head0
    rw [List.prefix_append_right_inj, List.prefix_append_right_inj, List.cons_prefix_cons]
    exact ⟨rfl, f3⟩)
  exact part_of R hp.1 hp.2
theorem tw_pre {p : UInt8 → Bool} {l m : Bytes} (hm : m <+: l) (h : ∀ c ∈ m, p c = true) : m.length ≤ (l.takeWhile p).length := by
  obtain ⟨r, rfl⟩ := hm
  rw [List.takeWhile_append_of_pos h]
  simp
theorem R9 {n : Nat} {r : Bytes} (h1 : 2 ≤ n) (h2 : n ≤ 50000) (hne : ((r.take 8).takeWhile isHex).length ≠ r.length) (h : ((r.take 8).takeWhile isHex).length < 8) : readF (beginL ++ (Lib.itoa (n : Int) ++ 32 :: r)) = (3, [], 0) := by
  refine odd_fig h1 h2 fun ⟨g1, g2⟩ => ?_
  by_cases h10 : 10 ∈ r
  · obtain ⟨a, b⟩ := g2 h10
    have hp : upto 10 r <+: r.take 8 := by
      have e : r.take 8 = upto 10 r := by rw [← a, take_upto]
      rw [e]
      exact List.prefix_refl _
    have := tw_pre (p := isHex) hp (fun c hc => (hex_mem c).2 (b c hc))
    omega
  · obtain ⟨a, b⟩ := g1 h10
    rw [List.take_of_length_le a] at hne
    have e : r.takeWhile isHex = r := by rw [tw_self]; exact fun c hc => (hex_mem c).2 (b c hc)
    exact hne (by rw [e])
theorem R10 {n : Nat} {r : Bytes} (h1 : 2 ≤ n) (h2 : n ≤ 50000) (hl : 8 < r.length) (h : r.getD 8 0 ≠ 10) : readF (beginL ++ (Lib.itoa (n : Int) ++ 32 :: r)) = (3, [], 0) := by
  refine odd_fig h1 h2 fun ⟨g1, g2⟩ => ?_
  by_cases h10 : 10 ∈ r
  · obtain ⟨a, b⟩ := g2 h10
    have e := upto_past h10
    apply h
    rw [e, List.getD, List.getElem?_append_right (by omega), a]
    rfl
  · have := (g1 h10).1
    omega
/-- Behind these tests the first line is a record's. -/
theorem R11 {n : Nat} {r : Bytes} (hl : 8 < r.length) (h : r.getD 8 0 = 10) (hx : ((r.take 8).takeWhile isHex).length = 8) :
    beginL ++ (Lib.itoa (n : Int) ++ 32 :: r) = head0 n (r.take 8) ++ 10 :: r.drop 9 ∧ (r.take 8).length = 8 ∧ hexAll (r.take 8) := by
  have h8 : (r.take 8).length = 8 := by simp; omega
  refine ⟨?_, h8, fun c hc => (hex_mem c).1 (tw_all (by rw [hx, h8]) c hc)⟩
  have e : r = r.take 8 ++ 10 :: r.drop 9 := by
    conv => lhs; rw [← List.take_append_drop 8 r]
    rw [List.drop_eq_getElem_cons hl]
    congr 2
    simpa [List.getD, hl] using h
  unfold head0
  conv => lhs; rw [e]
  simp
end Go.Proofs.YtopmpdoigmenmaaGreatDoor
