/- Plain facts on records: what their parts are. No walk. -/
import Derived.Test.YtopmpdoigmenmaaGreatDoorFs
set_option linter.unusedVariables false
set_option maxRecDepth 100000
namespace Go.Pl
open Go

theorem upto_app {c : UInt8} {a : Bytes} (r : Bytes) (h : c ∉ a) : upto c (a ++ c :: r) = a := by
  induction a with
  | nil => simp [upto]
  | cons b a ih =>
    have hb : b ≠ c := fun e => h (by simp [e])
    have h2 : c ∉ a := fun e => h (by simp [e])
    have e : upto c (b :: (a ++ c :: r)) = b :: upto c (a ++ c :: r) := by simp [upto, hb]
    rw [List.cons_append, e, ih h2]
theorem past_app {c : UInt8} {a : Bytes} (r : Bytes) (h : c ∉ a) : past c (a ++ c :: r) = r := by
  unfold past
  rw [upto_app r h, show a ++ c :: r = (a ++ [c]) ++ r by simp, show a.length + 1 = (a ++ [c]).length by simp, List.drop_left]
theorem upto_past {c : UInt8} {l : Bytes} (h : c ∈ l) : l = upto c l ++ c :: past c l := by
  induction l with
  | nil => simp at h
  | cons b l ih =>
    by_cases hb : b = c
    · subst hb; simp [upto, past]
    · have h2 : c ∈ l := by simpa [Ne.symm hb] using h
      have e1 : upto c (b :: l) = b :: upto c l := by simp [upto, hb]
      have e2 : past c (b :: l) = past c l := by simp [past, e1]
      rw [e1, e2, List.cons_append, ← ih h2]
theorem notin_upto (c : UInt8) (l : Bytes) : c ∉ upto c l := by
  induction l with
  | nil => simp [upto]
  | cons b l ih =>
    by_cases hb : b = c
    · simp [upto, hb]
    · have e1 : upto c (b :: l) = b :: upto c l := by simp [upto, hb]
      rw [e1]
      simp [Ne.symm hb, ih]

/-- Does each line begin with a space? f: a line begins here. -/
def sp : Bool → Bytes → Bool
  | _, [] => true
  | f, c :: l => (!f || decide (c = 32)) && sp (decide (c = 10)) l
theorem sp_false_past : ∀ l, sp false l = sp true (past 10 l)
  | [] => rfl
  | c :: l => by
    by_cases h : c = 10
    · subst h; simp [sp, past, upto]
    · have e : past 10 (c :: l) = past 10 l := by simp [past, upto, h]
      rw [e, ← sp_false_past l]
      simp [sp, h]
theorem sp_true_line {l : Bytes} (h : l ≠ []) : sp true l = (decide ([32] <+: upto 10 l) && sp true (past 10 l)) := by
  cases l with
  | nil => exact absurd rfl h
  | cons c r =>
    by_cases hc : c = 10
    · subst hc; simp [sp, upto]
    · have e : past 10 (c :: r) = past 10 r := by simp [past, upto, hc]
      have e2 : upto 10 (c :: r) = c :: upto 10 r := by simp [upto, hc]
      rw [e, e2, ← sp_false_past]
      simp [sp, hc, eq_comm]
theorem lines_sp : ∀ (n : Nat) (l : Bytes), l.length ≤ n → ((∀ x ∈ linesOf l, [32] <+: x.1) ↔ sp true l = true)
  | 0, l, h => by
    have : l = [] := List.length_eq_zero_iff.1 (by omega)
    subst this
    simp [linesOf_nil, sp]
  | n + 1, l, h => by
    by_cases hl : l = []
    · subst hl; simp [linesOf_nil, sp]
    · rw [linesOf_cons hl, sp_true_line hl, Bool.and_eq_true, ← lines_sp n (past 10 l) (by have := past_lt (c := 10) hl; omega)]
      simp only [List.mem_cons, forall_eq_or_imp, decide_eq_true_eq]
theorem dedent_sp (l : Bytes) : (dedentOf [32] l).2 = sp true l := by
  unfold dedentOf
  by_cases h : sp true l = true
  · rw [if_pos ((lines_sp _ l (Nat.le_refl _)).2 h), h]
  · rw [if_neg (fun h' => h ((lines_sp _ l (Nat.le_refl _)).1 h'))]
    simp only [Bool.not_eq_true] at h
    rw [h]
theorem sp_pre : ∀ (f : Bool) (l m : Bytes), sp f (l ++ m) = true → sp f l = true
  | _, [], _, _ => rfl
  | f, c :: l, m, h => by
    simp only [List.cons_append, sp, Bool.and_eq_true] at h ⊢
    exact ⟨h.1, sp_pre _ l m h.2⟩
/-- Behind a text: does a line begin there? -/
def endsF (f : Bool) (l : Bytes) : Bool := match l.getLast? with | none => f | some c => decide (c = 10)
theorem endsF_cons (f : Bool) (c : UInt8) (l : Bytes) : endsF f (c :: l) = endsF (decide (c = 10)) l := by
  cases l with
  | nil => simp [endsF]
  | cons b l =>
    unfold endsF
    rw [List.getLast?_cons_cons]
    cases hb : (b :: l).getLast? with
    | none => simp at hb
    | some x => rfl
theorem sp_app : ∀ (f : Bool) (l m : Bytes), sp f (l ++ m) = (sp f l && sp (endsF f l) m)
  | f, [], m => by simp [sp, endsF]
  | f, c :: l, m => by
    simp only [List.cons_append, sp]
    rw [sp_app _ l m, endsF_cons, Bool.and_assoc]
theorem goodF_iff (l : Bytes) : goodF l ↔ 2 ≤ l.length ∧ l.length ≤ 50000 ∧ l.getLast? = some 10 ∧ sp true l = true := by
  unfold goodF
  rw [dedent_sp]

/- Figures. -/
theorem decDigits_dig : ∀ (n u : Nat), u ≤ n → ∀ c ∈ Lib.decDigits u, 48 ≤ c.toNat ∧ c.toNat ≤ 57
  | n, u, hn, c, hc => by
    by_cases h : u < 10
    · rw [Lib.decDigits_one h] at hc
      simp only [List.mem_singleton] at hc
      subst hc
      rw [UInt8.toNat_ofNat']
      omega
    · rw [decDigits_big h, List.mem_append] at hc
      cases n with
      | zero => omega
      | succ n =>
        rcases hc with hc | hc
        · exact decDigits_dig n (u / 10) (by omega) c hc
        · exact decDigits_dig n (u % 10) (by omega) c hc
theorem itoa_nat (n : Nat) : Lib.itoa (n : Int) = Lib.decDigits n := by
  unfold Lib.itoa
  rw [if_neg (by omega)]
  simp
theorem itoa_dig (n : Nat) : ∀ c ∈ Lib.itoa (n : Int), 48 ≤ c.toNat ∧ c.toNat ≤ 57 := by
  rw [itoa_nat]
  exact decDigits_dig n n (Nat.le_refl _)
theorem decDigits_ne (u : Nat) : Lib.decDigits u ≠ [] := by
  intro h
  have := congrArg List.length h
  rw [Lib.decDigits_length] at this
  have := Lib.nDigits_pos u
  simp at *
  omega
theorem parse_app : ∀ (a : Nat) (l m : Bytes) (b : Nat), Lib.parseUint10 a l = .ok b → Lib.parseUint10 a (l ++ m) = Lib.parseUint10 b m
  | a, [], m, b, h => by
    simp only [Lib.parseUint10, Lib.NumEnd.ok.injEq] at h
    subst h; rfl
  | a, c :: l, m, b, h => by
    simp only [List.cons_append, Lib.parseUint10] at h ⊢
    split at h
    · rename_i hd
      rw [if_pos hd]
      split at h
      · cases h
      · rename_i h1
        rw [if_neg h1]
        split at h
        · cases h
        · rename_i h2
          rw [if_neg h2]
          exact parse_app _ l m b h
    · cases h
theorem parse_dec : ∀ (n u : Nat), u ≤ n → u < 1000000000000000000 → Lib.parseUint10 0 (Lib.decDigits u) = .ok u
  | n, u, hn, hu => by
    have key : ∀ (a d : Nat), a < 100000000000000000 → d < 10 → Lib.parseUint10 a (Lib.decDigits d) = .ok (a * 10 + d) := by
      intro a d ha hd
      have e : (UInt8.ofNat (48 + d)).toNat = 48 + d := by rw [UInt8.toNat_ofNat']; omega
      rw [Lib.decDigits_one hd]
      simp only [Lib.parseUint10, e]
      rw [if_pos (by omega), if_neg (by omega), if_neg (by omega)]
      congr 1
      omega
    by_cases h : u < 10
    · have := key 0 u (by omega) h
      simpa using this
    · cases n with
      | zero => omega
      | succ n =>
        rw [decDigits_big h, parse_app 0 _ _ (u / 10) (parse_dec n (u / 10) (by omega) (by omega)), key _ _ (by omega) (by omega)]
        congr 1
        omega
theorem atoi_itoa {n : Nat} (h : n < 1000000000000000000) : Lib.atoiAll (Lib.itoa (n : Int)) = .ok (n : Int) := by
  have hp := parse_dec n n (Nat.le_refl _) h
  have hd := decDigits_dig n n (Nat.le_refl _)
  rw [itoa_nat]
  cases hl : Lib.decDigits n with
  | nil => exact absurd hl (decDigits_ne n)
  | cons c r =>
    rw [hl] at hp hd
    have hc := hd c (by simp)
    simp only [Lib.atoiAll]
    have h1 : ¬ (c.toNat = 43 ∨ c.toNat = 45) := by omega
    rw [if_neg h1]
    have hm : Lib.parseMag (c :: r) = .ok n := by unfold Lib.parseMag; rw [if_neg (by simp)]; exact hp
    rw [hm]
    have h2 : ¬ c.toNat = 45 := by omega
    simp only [h2, not_false_iff, true_and, false_and, if_false]
    rw [if_neg (by omega)]
theorem numberF_itoa {n : Nat} (h1 : 1 ≤ n) (h2 : n ≤ 50000) : numberF (Lib.itoa (n : Int)) = n := by
  have := numberF_ok (atoi_itoa (n := n) (by omega))
  rw [if_pos ⟨rfl, by omega, by omega⟩] at this
  omega
theorem numberF_inv {l : Bytes} {n : Nat} (h : numberF l = n) (hn : 1 ≤ n) : l = Lib.itoa (n : Int) := by
  unfold numberF at h
  split at h
  · split at h
    · rename_i v _ hv
      have : v = (n : Int) := by omega
      rw [← this, hv.1]
    · omega
  · omega
theorem decDigits_take : ∀ (n u j : Nat), u ≤ n → 1 ≤ u → 1 ≤ j → j ≤ (Lib.decDigits u).length → ∃ m, 1 ≤ m ∧ m ≤ u ∧ (Lib.decDigits u).take j = Lib.decDigits m
  | n, u, j, hn, hu, hj, hl => by
    by_cases h : u < 10
    · refine ⟨u, hu, Nat.le_refl _, ?_⟩
      rw [Lib.decDigits_one h] at hl ⊢
      simp only [List.length_singleton] at hl
      have : j = 1 := by omega
      subst this
      rfl
    · cases n with
      | zero => omega
      | succ n =>
        rw [decDigits_big h] at hl ⊢
        have h1 : (Lib.decDigits (u % 10)).length = 1 := by rw [Lib.decDigits_one (by omega)]; rfl
        rw [List.length_append, h1] at hl
        by_cases hj2 : j ≤ (Lib.decDigits (u / 10)).length
        · obtain ⟨m, m1, m2, m3⟩ := decDigits_take n (u / 10) j (by omega) (by omega) hj hj2
          exact ⟨m, m1, by omega, by rw [List.take_append_of_le_length hj2, m3]⟩
        · refine ⟨u, hu, Nat.le_refl _, ?_⟩
          rw [List.take_of_length_le (by rw [List.length_append, h1]; omega), ← decDigits_big h]
end Go.Pl
namespace Go.Proofs.YtopmpdoigmenmaaGreatDoor
open Go Go.Pl

/- Records' shape. -/
def head0 (n : Nat) (fig : Bytes) : Bytes := beginL ++ (Lib.itoa n ++ 32 :: fig)
theorem headF_eq (n : Nat) (fig : Bytes) : headF n fig = head0 n fig ++ [10] := by simp [headF, head0, beginL]
theorem notin_itoa (n : Nat) {c : UInt8} (h : ¬ (48 ≤ c.toNat ∧ c.toNat ≤ 57)) : c ∉ Lib.itoa (n : Int) := fun hc => h (itoa_dig n c hc)
theorem hexAll_notin {f : Bytes} (h : hexAll f) {c : UInt8} (hc : c ∉ hexL) : c ∉ f := fun h' => hc (h c h')
theorem head0_no10 (n : Nat) {fig : Bytes} (h : hexAll fig) : 10 ∉ head0 n fig := by
  unfold head0
  simp only [List.mem_append, List.mem_cons, not_or]
  exact ⟨by decide, notin_itoa n (by decide), by decide, hexAll_notin h (by decide)⟩
theorem trim_begin (l : Bytes) : Lib.trimPrefix (beginL ++ l) beginL = l := by
  rw [trimPrefix_of (List.prefix_append _ _), List.drop_left]
theorem openedF_head {n : Nat} {fig : Bytes} (h2 : 2 ≤ n) (hn : n ≤ 50000) (hf : fig.length = 8) (hx : hexAll fig) : openedF (head0 n fig) = (n, fig, true) := by
  unfold openedF head0
  have h32 : 32 ∉ Lib.itoa (n : Int) := notin_itoa n (by decide)
  rw [trim_begin, upto_app fig h32, past_app fig h32, numberF_itoa (by omega) hn]
  rw [decide_eq_true ⟨List.prefix_append _ _, by simp, h2, hf, hx⟩]
/-- A text whose first line is a record's. -/
theorem readF_head {n : Nat} {fig : Bytes} (r : Bytes) (h2 : 2 ≤ n) (hn : n ≤ 50000) (hf : fig.length = 8) (hx : hexAll fig) :
    readF (head0 n fig ++ 10 :: r) = if r.length < n then (partlyF r ((n : Int) - r.length), [], 0)
      else if goodF (r.take n) then closedF (r.drop n) (r.take n) fig (lengthF n) else (3, [], 0) := by
  have hm : 10 ∈ head0 n fig ++ 10 :: r := by simp
  have h10 := head0_no10 n hx
  unfold readF
  rw [if_pos hm, upto_app r h10, past_app r h10, openedF_head h2 hn hf hx]
  simp only [if_true]
structure RecLike (n : Nat) (fig body : Bytes) : Prop where
  two : 2 ≤ n
  most : n ≤ 50000
  len : body.length = n
  good : goodF body
  figs : fig.length = 8
  hex : hexAll fig
def recL (n : Nat) (fig body : Bytes) : Bytes := head0 n fig ++ 10 :: (body ++ tailF n)
theorem recF_eq (l : Bytes) : recF l = recL l.length (sumF l) l := by
  unfold recF recL
  rw [headF_eq]
  simp
theorem pre_cases {l a b : Bytes} (h : l <+: a ++ b) : l <+: a ∨ ∃ r, l = a ++ r ∧ r <+: b := by
  rcases Nat.le_total l.length a.length with hl | hl
  · exact .inl (List.prefix_of_prefix_length_le h (List.prefix_append _ _) hl)
  · obtain ⟨r, hr⟩ := List.prefix_of_prefix_length_le (List.prefix_append a b) h hl
    exact .inr ⟨r, hr.symm, by rw [← hr] at h; exact (List.prefix_append_right_inj a).1 h⟩
theorem pre_not {a b : Bytes} {c : UInt8} (h : a <+: b) (hc : c ∉ b) : c ∉ a := fun h' => hc (h.subset h')
theorem hexAll_pre {a b : Bytes} (h : a <+: b) (hb : hexAll b) : hexAll a := fun c hc => hb c (h.subset hc)

theorem opening_part {n : Nat} {fig l : Bytes} (h2 : 2 ≤ n) (hn : n ≤ 50000) (hf : fig.length = 8) (hx : hexAll fig) (h : l <+: head0 n fig) : openingF l = true := by
  unfold head0 at h
  rcases pre_cases h with h | ⟨t, rfl, ht⟩
  · unfold openingF
    by_cases hb : beginL <+: l
    · have e : l = beginL := (h.eq_of_length_le hb.length_le)
      rw [if_pos hb, e]
      decide
    · rw [if_neg hb]
      exact decide_eq_true h
  · unfold openingF
    rw [if_pos (List.prefix_append _ _)]
    have ed : (beginL ++ t).drop 7 = t := by rw [show (7 : Nat) = beginL.length by rfl, List.drop_left]
    rw [ed]
    have h32 : 32 ∉ Lib.itoa (n : Int) := notin_itoa n (by decide)
    rcases pre_cases ht with ht | ⟨r, rfl, hr⟩
    · have h3 : 32 ∉ t := pre_not ht h32
      rw [upto_all h3]
      have hp : past 32 t = [] := by unfold past; rw [upto_all h3]; simp
      rw [hp]
      refine decide_eq_true ⟨fun h' => h3 h'.1, fun h' => ?_, by simp, by intro c hc; simp at hc⟩
      obtain ⟨hne, h0⟩ := h'
      rw [itoa_nat] at ht
      have hpos : 1 ≤ t.length := List.length_pos_iff.2 hne
      obtain ⟨m, m1, m2, m3⟩ := decDigits_take n n t.length (Nat.le_refl _) (by omega) hpos ht.length_le
      rw [← List.prefix_iff_eq_take.1 ht, ← itoa_nat] at m3
      rw [m3, numberF_itoa m1 (by omega)] at h0
      omega
    · cases r with
      | nil =>
        rw [List.append_nil, upto_all h32]
        have hp : past 32 (Lib.itoa (n : Int)) = [] := by unfold past; rw [upto_all h32]; simp
        rw [hp, numberF_itoa (by omega) hn]
        exact decide_eq_true ⟨fun h' => h32 h'.1, fun h' => by omega, by simp, by intro c hc; simp at hc⟩
      | cons c r =>
        obtain ⟨rfl, hr2⟩ := List.cons_prefix_cons.1 hr
        rw [upto_app r h32, past_app r h32, numberF_itoa (by omega) hn]
        exact decide_eq_true ⟨fun h' => by omega, fun h' => by omega, by have := hr2.length_le; omega, hexAll_pre hr2 hx⟩
theorem partlyF_pre {n : Nat} {r body : Bytes} (hg : goodF body) (hl : body.length = n) (hr : r <+: body) (hlt : r.length < n) : partlyF r ((n : Int) - r.length) = 2 := by
  obtain ⟨g1, g2, g3, g4⟩ := (goodF_iff body).1 hg
  obtain ⟨m, rfl⟩ := hr
  unfold partlyF
  rw [dedent_sp]
  rw [sp_app, Bool.and_eq_true] at g4
  refine if_pos ⟨g4.1, ?_⟩
  rintro ⟨h1, h2⟩
  have hm : m.length = 1 := by simp at hl; omega
  obtain ⟨c, rfl⟩ := List.length_eq_one_iff.1 hm
  rw [List.getLast?_append] at g3
  simp at g3
  subst g3
  have hf : endsF true r = true := by
    unfold endsF
    rcases h1 with rfl | h1
    · rfl
    · rw [h1]; rfl
  rw [hf] at g4
  simp [sp] at g4
/-- A beginning of a record is a part. -/
theorem part_of {n : Nat} {fig body l : Bytes} (R : RecLike n fig body) (h : l <+: recL n fig body) (hl : l.length < (recL n fig body).length) : readF l = (2, [], 0) := by
  obtain ⟨h2, hn, hlen, hg, hf, hx⟩ := R
  unfold recL at h hl
  rcases pre_cases h with h | ⟨r, rfl, hr⟩
  · have h10 : 10 ∉ l := pre_not h (head0_no10 n hx)
    unfold readF
    rw [if_neg h10, if_pos (opening_part h2 hn hf hx h)]
  · cases r with
    | nil =>
      rw [List.append_nil]
      unfold readF
      rw [if_neg (head0_no10 n hx), if_pos (opening_part h2 hn hf hx (List.prefix_refl _))]
    | cons c r =>
      obtain ⟨rfl, hr2⟩ := List.cons_prefix_cons.1 hr
      rw [readF_head r h2 hn hf hx]
      rcases pre_cases hr2 with hr | ⟨q, rfl, hq⟩
      · by_cases hlt : r.length < n
        · rw [if_pos hlt, partlyF_pre hg hlen hr hlt]
        · have e : r = body := hr.eq_of_length_le (by omega)
          subst e
          rw [if_neg hlt, ← hlen, List.take_length, if_pos hg, List.drop_length]
          unfold closedF
          rw [if_pos ⟨by rw [tailF_length]; simp, by simp⟩]
      · rw [if_neg (by simp; omega), ← hlen, List.take_left, List.drop_left, if_pos hg]
        unfold closedF
        rw [if_pos ⟨by simp at hl; rw [hlen]; omega, by rw [hlen]; exact hq⟩]

theorem prefix_pad (f : Bytes) (hl : f.length ≤ 8) (hx : hexAll f) : ∃ g : Bytes, g.length = 8 ∧ hexAll g ∧ f <+: g :=
  ⟨f ++ List.replicate (8 - f.length) 48, by simp; omega, fun c hc => by
    rw [List.mem_append, List.mem_replicate] at hc
    rcases hc with hc | ⟨_, rfl⟩
    · exact hx c hc
    · decide, List.prefix_append _ _⟩
theorem getLast_rep (a : Bytes) (k : Nat) : (a ++ List.replicate k 97 ++ [10]).getLast? = some 10 := by simp
theorem sp_fill : ∀ (k : Nat), sp false (List.replicate k 97 ++ [10]) = true
  | 0 => by simp [sp]
  | k + 1 => by rw [List.replicate_succ, List.cons_append]; simp only [sp]; exact by simpa using sp_fill k
/-- There is a body that begins with what may go on to be one. -/
theorem body_ext {n : Nat} {r : Bytes} (hn : n ≤ 50000) (hlt : r.length < n) (h2 : 2 ≤ n) (hp : partlyF r ((n : Int) - r.length) = 2) : ∃ body : Bytes, body.length = n ∧ goodF body ∧ r <+: body := by
  unfold partlyF at hp
  split at hp
  · rename_i h
    obtain ⟨hs, hfr⟩ := h
    rw [dedent_sp] at hs
    by_cases hf : r = [] ∨ r.getLast? = some 10
    · have hk : r.length + 2 ≤ n := by
        rcases Nat.lt_or_ge (r.length + 1) n with h | h
        · omega
        · exact absurd ⟨hf, by omega⟩ hfr
      refine ⟨r ++ (32 :: (List.replicate (n - r.length - 2) 97 ++ [10])), by simp; omega, ?_, List.prefix_append _ _⟩
      rw [goodF_iff]
      refine ⟨by simp; omega, by simp; omega, by simp [List.getLast?_append, List.getLast?_cons], ?_⟩
      rw [sp_app, hs]
      simp only [sp, Bool.true_and]
      have := sp_fill (n - r.length - 2)
      simpa using this
    · refine ⟨r ++ (List.replicate (n - r.length - 1) 97 ++ [10]), by simp; omega, ?_, List.prefix_append _ _⟩
      rw [goodF_iff]
      refine ⟨by simp; omega, by simp; omega, by simp [List.getLast?_append], ?_⟩
      rw [sp_app, hs]
      have e : endsF true r = false := by
        unfold endsF
        cases hq : r.getLast? with
        | none => exact absurd (.inl (List.getLast?_eq_none_iff.1 hq)) hf
        | some c =>
          refine decide_eq_false fun h => hf (.inr ?_)
          rw [hq, h]
      rw [e, sp_fill]
      rfl
  · simp at hp
theorem some_body {n : Nat} (h2 : 2 ≤ n) (hn : n ≤ 50000) : ∃ body : Bytes, body.length = n ∧ goodF body := by
  obtain ⟨b, h1, h3, _⟩ := body_ext (n := n) (r := []) hn (by simp; omega) h2 (by
    unfold partlyF
    rw [dedent_sp]
    rw [if_pos ⟨rfl, by rintro ⟨_, h⟩; simp at h; omega⟩])
  exact ⟨b, h1, h3⟩
theorem pre_trans_app {a b c : Bytes} (h : a <+: b) : a <+: b ++ c := h.trans (List.prefix_append _ _)
theorem lt_of_pre {n : Nat} {fig body l : Bytes} (h : l <+: head0 n fig) : l <+: recL n fig body ∧ l.length < (recL n fig body).length := by
  refine ⟨pre_trans_app h, ?_⟩
  have := h.length_le
  unfold recL
  simp
  omega
/-- A part is a beginning of a record. -/
theorem of_part {l : Bytes} (h : (readF l).1 = 2) : ∃ n fig body, RecLike n fig body ∧ l <+: recL n fig body ∧ l.length < (recL n fig body).length := by
  unfold readF at h
  split at h
  · rename_i h10
    split at h
    · rename_i ho
      generalize hr : past 10 l = r at *
      have hl := upto_past h10
      rw [hr] at hl
      generalize hu : upto 10 l = u at *
      -- the first line
      have hop : u = head0 (openedF u).1 (openedF u).2.1 ∧ 2 ≤ (openedF u).1 ∧ (openedF u).1 ≤ 50000 ∧ (openedF u).2.1.length = 8 ∧ hexAll (openedF u).2.1 := by
        simp only [openedF, decide_eq_true_eq] at ho ⊢
        obtain ⟨o1, o2, o3, o4, o5⟩ := ho
        refine ⟨?_, o3, numberF_le _, o4, o5⟩
        obtain ⟨t, rfl⟩ := o1
        rw [trim_begin] at *
        have := numberF_inv rfl (Nat.le_trans (by decide) o3)
        unfold head0
        rw [← this, ← upto_past o2]
      generalize (openedF u).1 = n at *
      generalize (openedF u).2.1 = fig at *
      obtain ⟨rfl, h2, hn, hf, hx⟩ := hop
      split at h
      · rename_i hlt
        obtain ⟨body, b1, b2, b3⟩ := body_ext hn hlt h2 h
        refine ⟨n, fig, body, ⟨h2, hn, b1, b2, hf, hx⟩, ?_, ?_⟩
        · rw [hl]
          unfold recL
          rw [List.prefix_append_right_inj, List.cons_prefix_cons]
          exact ⟨rfl, pre_trans_app b3⟩
        · rw [hl]
          unfold recL
          have := b3.length_le
          have := tailF_length n
          simp
          omega
      · rename_i hge
        split at h
        · rename_i hg
          have hlen : (r.take n).length = n := by simp; omega
          refine ⟨n, fig, r.take n, ⟨h2, hn, hlen, hg, hf, hx⟩, ?_⟩
          unfold closedF at h
          rw [hlen] at h
          split at h
          · rename_i hc
            rw [hl]
            unfold recL
            constructor
            · rw [List.prefix_append_right_inj, List.cons_prefix_cons]
              refine ⟨rfl, ?_⟩
              conv => lhs; rw [← List.take_append_drop n r]
              rw [List.prefix_append_right_inj]
              exact hc.2
            · have := hc.1
              simp at this ⊢
              omega
          · split at h <;> simp at h
        · simp at h
    · simp at h
  · rename_i h10
    split at h
    · rename_i ho
      unfold openingF at ho
      split at ho
      · rename_i hb
        obtain ⟨t, rfl⟩ := hb
        have ed : (beginL ++ t).drop 7 = t := by rw [show (7 : Nat) = beginL.length by rfl, List.drop_left]
        rw [ed] at ho
        obtain ⟨o1, o2, o3, o4⟩ := of_decide_eq_true ho
        by_cases h32 : 32 ∈ t
        · have hn2 : 2 ≤ numberF (upto 32 t) := by
            rcases Nat.lt_or_ge (numberF (upto 32 t)) 2 with h | h
            · exact absurd ⟨h32, h⟩ o1
            · exact h
          obtain ⟨fig, f1, f2, f3⟩ := prefix_pad _ o3 o4
          obtain ⟨body, b1, b2⟩ := some_body hn2 (numberF_le _)
          refine ⟨_, fig, body, ⟨hn2, numberF_le _, b1, b2, f1, f2⟩, lt_of_pre ?_⟩
          unfold head0
          rw [List.prefix_append_right_inj]
          conv => lhs; rw [upto_past h32]
          rw [numberF_inv (l := upto 32 t) rfl (by omega)]
          rw [numberF_itoa (by omega) (numberF_le _), List.prefix_append_right_inj, List.cons_prefix_cons]
          exact ⟨rfl, f3⟩
        · rw [upto_all h32] at o2
          by_cases ht : t = []
          · subst ht
            obtain ⟨body, b1, b2⟩ := some_body (n := 2) (by omega) (by omega)
            refine ⟨2, List.replicate 8 48, body, ⟨by omega, by omega, b1, b2, by simp, by decide⟩, lt_of_pre ?_⟩
            unfold head0
            simp
          · have hpos : 1 ≤ numberF t := by
              rcases Nat.eq_zero_or_pos (numberF t) with h | h
              · exact absurd ⟨ht, h⟩ o2
              · exact h
            have hle := numberF_le t
            have ht2 := numberF_inv (l := t) rfl hpos
            generalize numberF t = m at *
            subst ht2
            by_cases hm : m = 1
            · subst hm
              obtain ⟨body, b1, b2⟩ := some_body (n := 10) (by omega) (by omega)
              refine ⟨10, List.replicate 8 48, body, ⟨by omega, by omega, b1, b2, by simp, by decide⟩, lt_of_pre ?_⟩
              unfold head0
              rw [List.prefix_append_right_inj]
              have e1 : Lib.itoa ((1 : Nat) : Int) = [49] := by rw [itoa_nat, Lib.decDigits_one (by decide)]; rfl
              have e2 : Lib.itoa ((10 : Nat) : Int) = [49, 48] := by rw [itoa_nat, decDigits_big (by decide), Lib.decDigits_one (by decide), Lib.decDigits_one (by decide)]; rfl
              rw [e1, e2]
              exact ⟨_, rfl⟩
            · obtain ⟨body, b1, b2⟩ := some_body (n := m) (by omega) (by omega)
              refine ⟨m, List.replicate 8 48, body, ⟨by omega, by omega, b1, b2, by simp, by decide⟩, lt_of_pre ?_⟩
              unfold head0
              rw [List.prefix_append_right_inj]
              exact List.prefix_append _ _
      · rename_i hb
        have hp := of_decide_eq_true ho
        obtain ⟨body, b1, b2⟩ := some_body (n := 2) (by omega) (by omega)
        refine ⟨2, List.replicate 8 48, body, ⟨by omega, by omega, b1, b2, by simp, by decide⟩, lt_of_pre ?_⟩
        unfold head0
        exact pre_trans_app hp
    · simp at h
/-- What a part begins with is a part. -/
theorem part_pre {l m : Bytes} (h : (readF l).1 = 2) (hm : m <+: l) : (readF m).1 = 2 := by
  obtain ⟨n, fig, body, R, h1, h2⟩ := of_part h
  rw [part_of R (hm.trans h1) (by have := hm.length_le; omega)]
theorem hexAll_figs (s : BitVec 32) : hexAll (figsP s 8) := by
  intro c hc
  simp only [figsP, List.mem_map] at hc
  obtain ⟨j, _, rfl⟩ := hc
  unfold figP
  have h := Go.Av.and15_lt (s >>> (4 * (7 - j)))
  generalize ((s >>> (4 * (7 - j))) &&& BitVec.ofInt 32 15).toNat = k at h
  have key : ∀ i : Fin 16, ([48, 49, 50, 51, 52, 53, 54, 55, 56, 57, 97, 98, 99, 100, 101, 102] : Bytes).getD i.val 0 ∈ hexL := by decide
  exact key ⟨k, h⟩
theorem recLike_of {b : Bytes} (h : goodF b) : RecLike b.length (sumF b) b := ⟨h.1, h.2.1, rfl, h, sumF_length b, hexAll_figs _⟩
theorem rec_part {b m : Bytes} (h : goodF b) (hm : m <+: recF b) (hl : m.length < (recF b).length) : readF m = (2, [], 0) := by
  rw [recF_eq] at hm hl
  exact part_of (recLike_of h) hm hl
theorem recF_length (b : Bytes) (h : goodF b) : ((recF b).length : Int) = lengthF b.length := by
  obtain ⟨g1, g2, _⟩ := h
  unfold recF lengthF
  rw [if_neg (by omega)]
  simp only [List.length_append, headF_length, sumF_length]
  simp
/-- A record is read, whatever is behind it. -/
theorem read_rec {b : Bytes} (m : Bytes) (h : goodF b) : readF (recF b ++ m) = (1, b, ((recF b).length : Int)) := by
  have R := recLike_of h
  rw [recF_length b h, recF_eq]
  unfold recL
  rw [List.append_assoc, List.cons_append, List.append_assoc, readF_head _ R.two R.most R.figs R.hex, if_neg (by simp), List.take_left, List.drop_left, if_pos h]
  unfold closedF
  rw [if_neg (by simp; intro h; omega), if_pos ⟨List.prefix_append _ _, rfl⟩]
end Go.Proofs.YtopmpdoigmenmaaGreatDoor
