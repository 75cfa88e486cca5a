/- Contracts and plain facts that the closing text leans on (part 3). No condition of their own beyond those that each states. -/
import Derived.Test.YtefmcijohgpfhaaGreatDoorK2
import Derived.Lib.SplitLaws
import Derived.Shelf.Strings.SplitShaped
import Derived.Deep.Slices
import Derived.Deep.Fields
import Derived.WideKeyArgs
import Derived.Lib.ItoaLen
set_option maxRecDepth 100000
set_option linter.unusedVariables false
set_option linter.unusedSimpArgs false
set_option linter.unusedVariables false
set_option maxRecDepth 100000
namespace Go.Proofs.YtefmcijohgpfhaaGreatDoor
open Go Go.Av Go.RowKit Go.Proofs Go.Pl
def qoc (c : UInt8) : Bool := decide (48 ≤ c.toNat ∧ c.toNat ≤ 57)
end Go.Proofs.YtefmcijohgpfhaaGreatDoor
set_option maxRecDepth 100000
set_option linter.unusedVariables false
namespace Go.Pl
open Go
theorem vt : ∀ (n u : Nat), u ≤ n → ∀ c ∈ Lib.decDigits u, 48 ≤ c.toNat ∧ c.toNat ≤ 57
 | n, u, hn, c, hc => by
  by_cases h : u < 10
  ·rw [Lib.decDigits_one h] at hc
   simp only [List.mem_singleton] at hc
   subst hc
   rw [UInt8.toNat_ofNat']
   omega
  ·rw [xq h, List.mem_append] at hc
   cases n with
   | zero => omega
   | succ n =>
    rcases hc with hc | hc
    ·exact vt n (u / 10) (by omega) c hc
    ·exact vt n (u % 10) (by omega) c hc
theorem qez (u : Nat) : 1 ≤ (Lib.decDigits u).length := by
 rw [Lib.decDigits_length]
 exact Lib.nDigits_pos u
theorem qf5 {v : Int} (h : v < 0) : Lib.itoa v = 45 :: Lib.decDigits v.natAbs := by
 unfold Lib.itoa
 rw [if_pos h]
theorem qf2 {v : Int} (h : 0 ≤ v) : Lib.itoa v = Lib.decDigits v.toNat := by
 unfold Lib.itoa
 rw [if_neg (by omega)]
theorem qkm {v : Int} (h1 : -9223372036854775808 ≤ v) (h2 : v ≤ 9223372036854775807) : (Lib.itoa v).length ≤ 20 := by
 by_cases h : v < 0
 ·rw [qf5 h, List.length_cons, Lib.decDigits_length]
  have := qfc 18 v.natAbs (by omega)
  omega
 ·rw [qf2 (by omega), Lib.decDigits_length]
  have := qfc 18 v.toNat (by omega)
  omega
theorem qps : ∀ (a : Nat) (l m : qa) (b : Nat), Lib.parseUint10 a l = .ok b → Lib.parseUint10 a (l ++ m) = Lib.parseUint10 b m
 | a, [], m, b, h => by
  simp only [Lib.parseUint10, Lib.NumEnd.ok.injEq] at h
  subst h; rfl
 | a, c :: l, m, b, h => by
  simp only [List.cons_append, Lib.parseUint10] at h ⊢
  split at h
  ·rename_i hd
   rw [if_pos hd]
   split at h
   ·cases h
   ·rename_i h1
    rw [if_neg h1]
    split at h
    ·cases h
    ·rename_i h2
     rw [if_neg h2]
     exact qps _ l m b h
  ·cases h
theorem qiy : ∀ (n u : Nat), u ≤ n → u ≤ 9223372036854775808 → Lib.parseUint10 0 (Lib.decDigits u) = .ok u
 | n, u, hn, hu => by
  have key : ∀ (a d : Nat), a ≤ 922337203685477580 → d < 10 → Lib.parseUint10 a (Lib.decDigits d) = .ok (a * 10 + d) := by
   intro a d ha hd
   have e : (UInt8.ofNat (48 + d)).toNat = 48 + d := by rw [UInt8.toNat_ofNat']; omega
   rw [Lib.decDigits_one hd]
   simp only [Lib.parseUint10, e]
   rw [if_pos (by omega), if_neg (by omega), if_neg (by omega)]
   congr 1
   omega
  by_cases h : u < 10
  ·have := key 0 u (by omega) h
   simpa using this
  ·cases n with
   | zero => omega
   | succ n =>
    rw [xq h, qps 0 _ _ (u / 10) (qiy n (u / 10) (by omega) (by omega)), key _ _ (by omega) (by omega)]
    congr 1
    omega
theorem qiz {v : Int} (h1 : -9223372036854775808 ≤ v) (h2 : v ≤ 9223372036854775807) : Lib.atoiAll (Lib.itoa v) = .ok v := by
 by_cases h : v < 0
 ·have hp := qiy v.natAbs v.natAbs (Nat.le_refl _) (by omega)
  rw [qf5 h]
  have hm : Lib.parseMag (Lib.decDigits v.natAbs) = .ok v.natAbs := by
   unfold Lib.parseMag
   rw [if_neg (fun e => by have := qez v.natAbs; rw [e] at this; simp at this)]
   exact hp
  have e45 : (45 : UInt8).toNat = 45 := rfl
  simp only [Lib.atoiAll, e45]
  rw [if_pos (Or.inr trivial), hm]
  simp only [not_true, false_and, if_false, true_and]
  rw [if_neg (by omega)]
  simp only [if_true]
  congr 1
  omega
 ·have hp := qiy v.toNat v.toNat (Nat.le_refl _) (by omega)
  have hd := vt v.toNat v.toNat (Nat.le_refl _)
  rw [qf2 (by omega)]
  cases hl : Lib.decDigits v.toNat with
  | nil => have := qez v.toNat; rw [hl] at this; simp at this
  | cons c r =>
   rw [hl] at hp hd
   have hc := hd c (by simp)
   simp only [Lib.atoiAll]
   have g1 : ¬ (c.toNat = 43 ∨ c.toNat = 45) := by omega
   rw [if_neg g1]
   have hm : Lib.parseMag (c :: r) = .ok v.toNat := by unfold Lib.parseMag; rw [if_neg (by simp)]; exact hp
   rw [hm]
   have g2 : ¬ c.toNat = 45 := by omega
   simp only [g2, not_false_iff, true_and, false_and, if_false]
   rw [if_neg (by omega)]
   congr 1
   omega
def numZ (l : qa) : Option Int :=
 match Lib.atoiAll l with
 | .ok v => if Lib.itoa v = l then some v else none
 | _ => none
theorem qx2 {v : Int} (h1 : -9223372036854775808 ≤ v) (h2 : v ≤ 9223372036854775807) : numZ (Lib.itoa v) = some v := by
 unfold numZ
 rw [qiz h1 h2]
 simp
theorem qyd {l : qa} {v : Int} (h : numZ l = some v) : l = Lib.itoa v ∧ -9223372036854775808 ≤ v ∧ v ≤ 9223372036854775807 := by
 unfold numZ at h
 split at h
 ·rename_i u hu
  split at h
  ·rename_i he
   simp only [Option.some.injEq] at h
   subst h
   exact ⟨he.symm, atoiAll_bounds hu⟩
  ·simp at h
 ·simp at h
end Go.Pl
set_option maxRecDepth 100000
set_option linter.unusedVariables false
namespace Go.Proofs.YtefmcijohgpfhaaGreatDoor
open Go Go.Av Go.RowKit Go.Proofs Go.Pl
theorem qyt {l : qa} {v : Int} (h : l = Lib.itoa v) : (v < 0 → (l.getD 0 0).toNat = 45 ∧ l.drop 1 = Lib.decDigits v.natAbs) ∧ (0 ≤ v → (l.getD 0 0).toNat ≠ 45 ∧ l = Lib.decDigits v.toNat) := by
 subst h
 refine ⟨fun h => ?_, fun h => ?_⟩
 ·rw [qf5 h]; exact ⟨rfl, rfl⟩
 ·rw [qf2 h]
  refine ⟨?_, rfl⟩
  have hp := qez v.toNat
  have hd := vt v.toNat v.toNat (Nat.le_refl _)
  cases hl : Lib.decDigits v.toNat with
  | nil => rw [hl] at hp; simp at hp
  | cons c r =>
   rw [hl] at hd
   have := hd c (by simp)
   simp
   omega
def sgn (l : qa) : Nat := if (l.getD 0 0).toNat = 45 then 1 else 0
theorem qlf {l : qa} {v : Int} (h : l = Lib.itoa v) : l.drop (sgn l) = Lib.decDigits v.natAbs := by
 obtain ⟨h1, h2⟩ := qyt h
 unfold sgn
 by_cases hv : v < 0
 ·obtain ⟨a, b⟩ := h1 hv
  rw [if_pos a, b]
 ·obtain ⟨a, b⟩ := h2 (by omega)
  rw [if_neg a, List.drop_zero, show v.natAbs = v.toNat by omega]
  exact b
end Go.Proofs.YtefmcijohgpfhaaGreatDoor
set_option linter.unusedVariables false
set_option maxRecDepth 100000
namespace Go.Pl
open Go
def sp : Bool → qa → Bool
 | _, [] => true
 | f, c :: l => (!f || decide (c = 32)) && sp (decide (c = 10)) l
theorem qjc : ∀ l, sp false l = sp true (past 10 l)
 | [] => rfl
 | c :: l => by
  by_cases h : c = 10
  ·subst h; simp [sp, past, upto]
  ·have e : past 10 (c :: l) = past 10 l := by simp [past, upto, h]
   rw [e, ← qjc l]
   simp [sp, h]
theorem qs1 {l : qa} (h : l ≠ []) : sp true l = (decide ([32] <+: upto 10 l) && sp true (past 10 l)) := by
 cases l with
 | nil => exact absurd rfl h
 | cons c r =>
  by_cases hc : c = 10
  ·subst hc; simp [sp, upto]
  ·have e : past 10 (c :: r) = past 10 r := by simp [past, upto, hc]
   have e2 : upto 10 (c :: r) = c :: upto 10 r := by simp [upto, hc]
   rw [e, e2, ← qjc]
   simp [sp, hc, eq_comm]
theorem qh6 : ∀ (n : Nat) (l : qa), l.length ≤ n → ((∀ x ∈ zu l, [32] <+: x.1) ↔ sp true l = true)
 | 0, l, h => by
  have : l = [] := List.length_eq_zero_iff.1 (by omega)
  subst this
  simp [vz, sp]
 | n + 1, l, h => by
  by_cases hl : l = []
  ·subst hl; simp [vz, sp]
  ·rw [v6 hl, qs1 hl, Bool.and_eq_true, ← qh6 n (past 10 l) (by have := wo (c := 10) hl; omega)]
   simp only [List.mem_cons, forall_eq_or_imp, decide_eq_true_eq]
theorem qek (l : qa) : (jw [32] l).2 = sp true l := by
 unfold jw
 by_cases h : sp true l = true
 ·rw [if_pos ((qh6 _ l (Nat.le_refl _)).2 h), h]
 ·rw [if_neg (fun h' => h ((qh6 _ l (Nat.le_refl _)).1 h'))]
  simp only [Bool.not_eq_true] at h
  rw [h]
def qej (f : Bool) (l : qa) : Bool := match l.getLast? with | none => f | some c => decide (c = 10)
theorem qxf (f : Bool) (c : UInt8) (l : qa) : qej f (c :: l) = qej (decide (c = 10)) l := by
 cases l with
 | nil => simp [qej]
 | cons b l =>
  unfold qej
  rw [List.getLast?_cons_cons]
  cases hb : (b :: l).getLast? with
  | none => simp at hb
  | some x => rfl
theorem qoi : ∀ (f : Bool) (l m : qa), sp f (l ++ m) = (sp f l && sp (qej f l) m)
 | f, [], m => by simp [sp, qej]
 | f, c :: l, m => by
  simp only [List.cons_append, sp]
  rw [qoi _ l m, qxf, Bool.and_assoc]
theorem qjz (l : qa) : wx l ↔ 2 ≤ l.length ∧ l.length ≤ 50000 ∧ l.getLast? = some 10 ∧ sp true l = true := by
 unfold wx
 rw [qek]
theorem qco : ∀ (n u : Nat), u ≤ n → ∀ c ∈ Lib.decDigits u, 48 ≤ c.toNat ∧ c.toNat ≤ 57
 | n, u, hn, c, hc => by
  by_cases h : u < 10
  ·rw [Lib.decDigits_one h] at hc
   simp only [List.mem_singleton] at hc
   subst hc
   rw [UInt8.toNat_ofNat']
   omega
  ·rw [xq h, List.mem_append] at hc
   cases n with
   | zero => omega
   | succ n =>
    rcases hc with hc | hc
    ·exact qco n (u / 10) (by omega) c hc
    ·exact qco n (u % 10) (by omega) c hc
theorem qdv (n : Nat) : Lib.itoa (n : Int) = Lib.decDigits n := by
 unfold Lib.itoa
 rw [if_neg (by omega)]
 simp
theorem q2g (n : Nat) : ∀ c ∈ Lib.itoa (n : Int), 48 ≤ c.toNat ∧ c.toNat ≤ 57 := by
 rw [qdv]
 exact qco n n (Nat.le_refl _)
theorem qr9 (u : Nat) : Lib.decDigits u ≠ [] := by
 intro h
 have := congrArg List.length h
 rw [Lib.decDigits_length] at this
 have := Lib.nDigits_pos u
 simp at *
 omega
theorem qp4 : ∀ (a : Nat) (l m : qa) (b : Nat), Lib.parseUint10 a l = .ok b → Lib.parseUint10 a (l ++ m) = Lib.parseUint10 b m
 | a, [], m, b, h => by
  simp only [Lib.parseUint10, Lib.NumEnd.ok.injEq] at h
  subst h; rfl
 | a, c :: l, m, b, h => by
  simp only [List.cons_append, Lib.parseUint10] at h ⊢
  split at h
  ·rename_i hd
   rw [if_pos hd]
   split at h
   ·cases h
   ·rename_i h1
    rw [if_neg h1]
    split at h
    ·cases h
    ·rename_i h2
     rw [if_neg h2]
     exact qp4 _ l m b h
  ·cases h
theorem qp2 : ∀ (n u : Nat), u ≤ n → u < 1000000000000000000 → Lib.parseUint10 0 (Lib.decDigits u) = .ok u
 | n, u, hn, hu => by
  have key : ∀ (a d : Nat), a < 100000000000000000 → d < 10 → Lib.parseUint10 a (Lib.decDigits d) = .ok (a * 10 + d) := by
   intro a d ha hd
   have e : (UInt8.ofNat (48 + d)).toNat = 48 + d := by rw [UInt8.toNat_ofNat']; omega
   rw [Lib.decDigits_one hd]
   simp only [Lib.parseUint10, e]
   rw [if_pos (by omega), if_neg (by omega), if_neg (by omega)]
   congr 1
   omega
  by_cases h : u < 10
  ·have := key 0 u (by omega) h
   simpa using this
  ·cases n with
   | zero => omega
   | succ n =>
    rw [xq h, qp4 0 _ _ (u / 10) (qp2 n (u / 10) (by omega) (by omega)), key _ _ (by omega) (by omega)]
    congr 1
    omega
theorem qx4 {n : Nat} (h : n < 1000000000000000000) : Lib.atoiAll (Lib.itoa (n : Int)) = .ok (n : Int) := by
 have hp := qp2 n n (Nat.le_refl _) h
 have hd := qco n n (Nat.le_refl _)
 rw [qdv]
 cases hl : Lib.decDigits n with
 | nil => exact absurd hl (qr9 n)
 | cons c r =>
  rw [hl] at hp hd
  have hc := hd c (by simp)
  simp only [Lib.atoiAll]
  have h1 : ¬ (c.toNat = 43 ∨ c.toNat = 45) := by omega
  rw [if_neg h1]
  have hm : Lib.parseMag (c :: r) = .ok n := by unfold Lib.parseMag; rw [if_neg (by simp)]; exact hp
  rw [hm]
  have h2 : ¬ c.toNat = 45 := by omega
  simp only [h2, not_false_iff, true_and, false_and, if_false]
  rw [if_neg (by omega)]
theorem qbn {n : Nat} (h1 : 1 ≤ n) (h2 : n ≤ 50000) : j4 (Lib.itoa (n : Int)) = n := by
 have := qod (qx4 (n := n) (by omega))
 rw [if_pos ⟨rfl, by omega, by omega⟩] at this
 omega
theorem qeb {l : qa} {n : Nat} (h : j4 l = n) (hn : 1 ≤ n) : l = Lib.itoa (n : Int) := by
 unfold j4 at h
 split at h
 ·split at h
  ·rename_i v _ hv
   have : v = (n : Int) := by omega
   rw [← this, hv.1]
  ·omega
 ·omega
theorem qhp : ∀ (n u j : Nat), u ≤ n → 1 ≤ u → 1 ≤ j → j ≤ (Lib.decDigits u).length → ∃ m, 1 ≤ m ∧ m ≤ u ∧ (Lib.decDigits u).take j = Lib.decDigits m
 | n, u, j, hn, hu, hj, hl => by
  by_cases h : u < 10
  ·refine ⟨u, hu, Nat.le_refl _, ?_⟩
   rw [Lib.decDigits_one h] at hl ⊢
   simp only [List.length_singleton] at hl
   have : j = 1 := by omega
   subst this
   rfl
  ·cases n with
   | zero => omega
   | succ n =>
    rw [xq h] at hl ⊢
    have h1 : (Lib.decDigits (u % 10)).length = 1 := by rw [Lib.decDigits_one (by omega)]; rfl
    rw [List.length_append, h1] at hl
    by_cases hj2 : j ≤ (Lib.decDigits (u / 10)).length
    ·obtain ⟨m, m1, m2, m3⟩ := qhp n (u / 10) j (by omega) (by omega) hj hj2
     exact ⟨m, m1, by omega, by rw [List.take_append_of_le_length hj2, m3]⟩
    ·refine ⟨u, hu, Nat.le_refl _, ?_⟩
     rw [List.take_of_length_le (by rw [List.length_append, h1]; omega), ← xq h]
end Go.Pl
namespace Go.Proofs.YtefmcijohgpfhaaGreatDoor
open Go Go.Pl
def kw (n : Nat) (fig : qa) : qa := zr ++ (Lib.itoa n ++ 32 :: fig)
theorem q1j (n : Nat) (fig : qa) : qic n fig = kw n fig ++ [10] := by simp [qic, kw, zr]
theorem qe7 (n : Nat) {c : UInt8} (h : ¬ (48 ≤ c.toNat ∧ c.toNat ≤ 57)) : c ∉ Lib.itoa (n : Int) := fun hc => h (q2g n c hc)
theorem qjs {f : qa} (h : wl f) {c : UInt8} (hc : c ∉ hexL) : c ∉ f := fun h' => hc (h c h')
theorem yn (n : Nat) {fig : qa} (h : wl fig) : 10 ∉ kw n fig := by
 unfold kw
 simp only [List.mem_append, List.mem_cons, not_or]
 exact ⟨by decide, qe7 n (by decide), by decide, qjs h (by decide)⟩
theorem qh9 (l : qa) : Lib.trimPrefix (zr ++ l) zr = l := by
 rw [qa6 (List.prefix_append _ _), List.drop_left]
theorem qsk {n : Nat} {fig : qa} (h2 : 2 ≤ n) (hn : n ≤ 50000) (hf : fig.length = 8) (hx : wl fig) : zy (kw n fig) = (n, fig, true) := by
 unfold zy kw
 have h32 : 32 ∉ Lib.itoa (n : Int) := qe7 n (by decide)
 rw [qh9, wa fig h32, w8 fig h32, qbn (by omega) hn]
 rw [decide_eq_true ⟨List.prefix_append _ _, by simp, h2, hf, hx⟩]
theorem qn0 {n : Nat} {fig : qa} (r : qa) (h2 : 2 ≤ n) (hn : n ≤ 50000) (hf : fig.length = 8) (hx : wl fig) :
  zo (kw n fig ++ 10 :: r) = if r.length < n then (y9 r ((n : Int) - r.length), [], 0)
   else if wx (r.take n) then xk (r.drop n) (r.take n) fig (qd1 n) else (3, [], 0) := by
 have hm : 10 ∈ kw n fig ++ 10 :: r := by simp
 have h10 := yn n hx
 unfold zo
 rw [if_pos hm, wa r h10, w8 r h10, qsk h2 hn hf hx]
 simp only [if_true]
structure qo6 (n : Nat) (fig body : qa) : Prop where
 two : 2 ≤ n
 most : n ≤ 50000
 len : body.length = n
 good : wx body
 figs : fig.length = 8
 hex : wl fig
def recL (n : Nat) (fig body : qa) : qa := kw n fig ++ 10 :: (body ++ qcn n)
theorem qfn (l : qa) : recF l = recL l.length (sumF l) l := by
 unfold recF recL
 rw [q1j]
 simp
theorem qcw {l a b : qa} (h : l <+: a ++ b) : l <+: a ∨ ∃ r, l = a ++ r ∧ r <+: b := by
 rcases Nat.le_total l.length a.length with hl | hl
 ·exact .inl (List.prefix_of_prefix_length_le h (List.prefix_append _ _) hl)
 ·obtain ⟨r, hr⟩ := List.prefix_of_prefix_length_le (List.prefix_append a b) h hl
  exact .inr ⟨r, hr.symm, by rw [← hr] at h; exact (List.prefix_append_right_inj a).1 h⟩
theorem qhc {a b : qa} {c : UInt8} (h : a <+: b) (hc : c ∉ b) : c ∉ a := fun h' => hc (h.subset h')
theorem qwr {a b : qa} (h : a <+: b) (hb : wl b) : wl a := fun c hc => hb c (h.subset hc)
theorem qko {n : Nat} {fig l : qa} (h2 : 2 ≤ n) (hn : n ≤ 50000) (hf : fig.length = 8) (hx : wl fig) (h : l <+: kw n fig) : y3 l = true := by
 unfold kw at h
 rcases qcw h with h | ⟨t, rfl, ht⟩
 ·unfold y3
  by_cases hb : zr <+: l
  ·have e : l = zr := (h.eq_of_length_le hb.length_le)
   rw [if_pos hb, e]
   decide
  ·rw [if_neg hb]
   exact decide_eq_true h
 ·unfold y3
  rw [if_pos (List.prefix_append _ _)]
  have ed : (zr ++ t).drop 7 = t := by rw [show (7 : Nat) = zr.length by rfl, List.drop_left]
  rw [ed]
  have h32 : 32 ∉ Lib.itoa (n : Int) := qe7 n (by decide)
  rcases qcw ht with ht | ⟨r, rfl, hr⟩
  ·have h3 : 32 ∉ t := qhc ht h32
   rw [ye h3]
   have hp : past 32 t = [] := by unfold past; rw [ye h3]; simp
   rw [hp]
   refine decide_eq_true ⟨fun h' => h3 h'.1, fun h' => ?_, by simp, by intro c hc; simp at hc⟩
   obtain ⟨hne, h0⟩ := h'
   rw [qdv] at ht
   have hpos : 1 ≤ t.length := List.length_pos_iff.2 hne
   obtain ⟨m, m1, m2, m3⟩ := qhp n n t.length (Nat.le_refl _) (by omega) hpos ht.length_le
   rw [← List.prefix_iff_eq_take.1 ht, ← qdv] at m3
   rw [m3, qbn m1 (by omega)] at h0
   omega
  ·cases r with
   | nil =>
    rw [List.append_nil, ye h32]
    have hp : past 32 (Lib.itoa (n : Int)) = [] := by unfold past; rw [ye h32]; simp
    rw [hp, qbn (by omega) hn]
    exact decide_eq_true ⟨fun h' => h32 h'.1, fun h' => by omega, by simp, by intro c hc; simp at hc⟩
   | cons c r =>
    obtain ⟨rfl, hr2⟩ := List.cons_prefix_cons.1 hr
    rw [wa r h32, w8 r h32, qbn (by omega) hn]
    exact decide_eq_true ⟨fun h' => by omega, fun h' => by omega, by have := hr2.length_le; omega, qwr hr2 hx⟩
theorem qtz {n : Nat} {r body : qa} (hg : wx body) (hl : body.length = n) (hr : r <+: body) (hlt : r.length < n) : y9 r ((n : Int) - r.length) = 2 := by
 obtain ⟨g1, g2, g3, g4⟩ := (qjz body).1 hg
 obtain ⟨m, rfl⟩ := hr
 unfold y9
 rw [qek]
 rw [qoi, Bool.and_eq_true] at g4
 refine if_pos ⟨g4.1, ?_⟩
 rintro ⟨h1, h2⟩
 have hm : m.length = 1 := by simp at hl; omega
 obtain ⟨c, rfl⟩ := List.length_eq_one_iff.1 hm
 rw [List.getLast?_append] at g3
 simp at g3
 subst g3
 have hf : qej true r = true := by
  unfold qej
  rcases h1 with rfl | h1
  ·rfl
  ·rw [h1]; rfl
 rw [hf] at g4
 simp [sp] at g4
theorem q33 {n : Nat} {fig body l : qa} (R : qo6 n fig body) (h : l <+: recL n fig body) (hl : l.length < (recL n fig body).length) : zo l = (2, [], 0) := by
 obtain ⟨h2, hn, hlen, hg, hf, hx⟩ := R
 unfold recL at h hl
 rcases qcw h with h | ⟨r, rfl, hr⟩
 ·have h10 : 10 ∉ l := qhc h (yn n hx)
  unfold zo
  rw [if_neg h10, if_pos (qko h2 hn hf hx h)]
 ·cases r with
  | nil =>
   rw [List.append_nil]
   unfold zo
   rw [if_neg (yn n hx), if_pos (qko h2 hn hf hx (List.prefix_refl _))]
  | cons c r =>
   obtain ⟨rfl, hr2⟩ := List.cons_prefix_cons.1 hr
   rw [qn0 r h2 hn hf hx]
   rcases qcw hr2 with hr | ⟨q, rfl, hq⟩
   ·by_cases hlt : r.length < n
    ·rw [if_pos hlt, qtz hg hlen hr hlt]
    ·have e : r = body := hr.eq_of_length_le (by omega)
     subst e
     rw [if_neg hlt, ← hlen, List.take_length, if_pos hg, List.drop_length]
     unfold xk
     rw [if_pos ⟨by rw [qbm]; simp, by simp⟩]
   ·rw [if_neg (by simp; omega), ← hlen, List.take_left, List.drop_left, if_pos hg]
    unfold xk
    rw [if_pos ⟨by simp at hl; rw [hlen]; omega, by rw [hlen]; exact hq⟩]
theorem qwp (f : qa) (hl : f.length ≤ 8) (hx : wl f) : ∃ g : qa, g.length = 8 ∧ wl g ∧ f <+: g :=
 ⟨f ++ List.replicate (8 - f.length) 48, by simp; omega, fun c hc => by
  rw [List.mem_append, List.mem_replicate] at hc
  rcases hc with hc | ⟨_, rfl⟩
  ·exact hx c hc
  ·decide, List.prefix_append _ _⟩
theorem qop : ∀ (k : Nat), sp false (List.replicate k 97 ++ [10]) = true
 | 0 => by simp [sp]
 | k + 1 => by rw [List.replicate_succ, List.cons_append]; simp only [sp]; exact by simpa using qop k
theorem qtc {n : Nat} {r : qa} (hn : n ≤ 50000) (hlt : r.length < n) (h2 : 2 ≤ n) (hp : y9 r ((n : Int) - r.length) = 2) : ∃ body : qa, body.length = n ∧ wx body ∧ r <+: body := by
 unfold y9 at hp
 split at hp
 ·rename_i h
  obtain ⟨hs, hfr⟩ := h
  rw [qek] at hs
  by_cases hf : r = [] ∨ r.getLast? = some 10
  ·have hk : r.length + 2 ≤ n := by
    rcases Nat.lt_or_ge (r.length + 1) n with h | h
    ·omega
    ·exact absurd ⟨hf, by omega⟩ hfr
   refine ⟨r ++ (32 :: (List.replicate (n - r.length - 2) 97 ++ [10])), by simp; omega, ?_, List.prefix_append _ _⟩
   rw [qjz]
   refine ⟨by simp; omega, by simp; omega, by simp [List.getLast?_append, List.getLast?_cons], ?_⟩
   rw [qoi, hs]
   simp only [sp, Bool.true_and]
   have := qop (n - r.length - 2)
   simpa using this
  ·refine ⟨r ++ (List.replicate (n - r.length - 1) 97 ++ [10]), by simp; omega, ?_, List.prefix_append _ _⟩
   rw [qjz]
   refine ⟨by simp; omega, by simp; omega, by simp [List.getLast?_append], ?_⟩
   rw [qoi, hs]
   have e : qej true r = false := by
    unfold qej
    cases hq : r.getLast? with
    | none => exact absurd (.inl (List.getLast?_eq_none_iff.1 hq)) hf
    | some c =>
     refine decide_eq_false fun h => hf (.inr ?_)
     rw [hq, h]
   rw [e, qop]
   rfl
 ·simp at hp
theorem qes {n : Nat} (h2 : 2 ≤ n) (hn : n ≤ 50000) : ∃ body : qa, body.length = n ∧ wx body := by
 obtain ⟨b, h1, h3, _⟩ := qtc (n := n) (r := []) hn (by simp; omega) h2 (by
  unfold y9
  rw [qek]
  rw [if_pos ⟨rfl, by rintro ⟨_, h⟩; simp at h; omega⟩])
 exact ⟨b, h1, h3⟩
theorem qe1 {a b c : qa} (h : a <+: b) : a <+: b ++ c := h.trans (List.prefix_append _ _)
theorem qel {n : Nat} {fig body l : qa} (h : l <+: kw n fig) : l <+: recL n fig body ∧ l.length < (recL n fig body).length := by
 refine ⟨qe1 h, ?_⟩
 have := h.length_le
 unfold recL
 simp
 omega
theorem q3g {l : qa} (h : (zo l).1 = 2) : ∃ n fig body, qo6 n fig body ∧ l <+: recL n fig body ∧ l.length < (recL n fig body).length := by
 unfold zo at h
 split at h
 ·rename_i h10
  split at h
  ·rename_i ho
   generalize hr : past 10 l = r at *
   have hl := xx h10
   rw [hr] at hl
   generalize hu : upto 10 l = u at *
   -- the first line
   have hop : u = kw (zy u).1 (zy u).2.1 ∧ 2 ≤ (zy u).1 ∧ (zy u).1 ≤ 50000 ∧ (zy u).2.1.length = 8 ∧ wl (zy u).2.1 := by
    simp only [zy, decide_eq_true_eq] at ho ⊢
    obtain ⟨o1, o2, o3, o4, o5⟩ := ho
    refine ⟨?_, o3, qa0 _, o4, o5⟩
    obtain ⟨t, rfl⟩ := o1
    rw [qh9] at *
    have := qeb rfl (Nat.le_trans (by decide) o3)
    unfold kw
    rw [← this, ← xx o2]
   generalize (zy u).1 = n at *
   generalize (zy u).2.1 = fig at *
   obtain ⟨rfl, h2, hn, hf, hx⟩ := hop
   split at h
   ·rename_i hlt
    obtain ⟨body, b1, b2, b3⟩ := qtc hn hlt h2 h
    refine ⟨n, fig, body, ⟨h2, hn, b1, b2, hf, hx⟩, ?_, ?_⟩
    ·rw [hl]
     unfold recL
     rw [List.prefix_append_right_inj, List.cons_prefix_cons]
     exact ⟨rfl, qe1 b3⟩
    ·rw [hl]
     unfold recL
     have := b3.length_le
     have := qbm n
     simp
     omega
   ·rename_i hge
    split at h
    ·rename_i hg
     have hlen : (r.take n).length = n := by simp; omega
     refine ⟨n, fig, r.take n, ⟨h2, hn, hlen, hg, hf, hx⟩, ?_⟩
     unfold xk at h
     rw [hlen] at h
     split at h
     ·rename_i hc
      rw [hl]
      unfold recL
      constructor
      ·rw [List.prefix_append_right_inj, List.cons_prefix_cons]
       refine ⟨rfl, ?_⟩
       conv => lhs; rw [← List.take_append_drop n r]
       rw [List.prefix_append_right_inj]
       exact hc.2
      ·have := hc.1
       simp at this ⊢
       omega
     ·split at h <;> simp at h
    ·simp at h
  ·simp at h
 ·rename_i h10
  split at h
  ·rename_i ho
   unfold y3 at ho
   split at ho
   ·rename_i hb
    obtain ⟨t, rfl⟩ := hb
    have ed : (zr ++ t).drop 7 = t := by rw [show (7 : Nat) = zr.length by rfl, List.drop_left]
    rw [ed] at ho
    obtain ⟨o1, o2, o3, o4⟩ := of_decide_eq_true ho
    by_cases h32 : 32 ∈ t
    ·have hn2 : 2 ≤ j4 (upto 32 t) := by
      rcases Nat.lt_or_ge (j4 (upto 32 t)) 2 with h | h
      ·exact absurd ⟨h32, h⟩ o1
      ·exact h
     obtain ⟨fig, f1, f2, f3⟩ := qwp _ o3 o4
     obtain ⟨body, b1, b2⟩ := qes hn2 (qa0 _)
     refine ⟨_, fig, body, ⟨hn2, qa0 _, b1, b2, f1, f2⟩, qel ?_⟩
     unfold kw
     rw [List.prefix_append_right_inj]
     conv => lhs; rw [xx h32]
     rw [qeb (l := upto 32 t) rfl (by omega)]
     rw [qbn (by omega) (qa0 _), List.prefix_append_right_inj, List.cons_prefix_cons]
     exact ⟨rfl, f3⟩
    ·rw [ye h32] at o2
     by_cases ht : t = []
     ·subst ht
      obtain ⟨body, b1, b2⟩ := qes (n := 2) (by omega) (by omega)
      refine ⟨2, List.replicate 8 48, body, ⟨by omega, by omega, b1, b2, by simp, by decide⟩, qel ?_⟩
      unfold kw
      simp
     ·have hpos : 1 ≤ j4 t := by
       rcases Nat.eq_zero_or_pos (j4 t) with h | h
       ·exact absurd ⟨ht, h⟩ o2
       ·exact h
      have hle := qa0 t
      have ht2 := qeb (l := t) rfl hpos
      generalize j4 t = m at *
      subst ht2
      by_cases hm : m = 1
      ·subst hm
       obtain ⟨body, b1, b2⟩ := qes (n := 10) (by omega) (by omega)
       refine ⟨10, List.replicate 8 48, body, ⟨by omega, by omega, b1, b2, by simp, by decide⟩, qel ?_⟩
       unfold kw
       rw [List.prefix_append_right_inj]
       have e1 : Lib.itoa ((1 : Nat) : Int) = [49] := by rw [qdv, Lib.decDigits_one (by decide)]; rfl
       have e2 : Lib.itoa ((10 : Nat) : Int) = [49, 48] := by rw [qdv, xq (by decide), Lib.decDigits_one (by decide), Lib.decDigits_one (by decide)]; rfl
       rw [e1, e2]
       exact ⟨_, rfl⟩
      ·obtain ⟨body, b1, b2⟩ := qes (n := m) (by omega) (by omega)
       refine ⟨m, List.replicate 8 48, body, ⟨by omega, by omega, b1, b2, by simp, by decide⟩, qel ?_⟩
       unfold kw
       rw [List.prefix_append_right_inj]
       exact List.prefix_append _ _
   ·rename_i hb
    have hp := of_decide_eq_true ho
    obtain ⟨body, b1, b2⟩ := qes (n := 2) (by omega) (by omega)
    refine ⟨2, List.replicate 8 48, body, ⟨by omega, by omega, b1, b2, by simp, by decide⟩, qel ?_⟩
    unfold kw
    exact qe1 hp
  ·simp at h
theorem qlr (s : BitVec 32) : wl (qau s 8) := by
 intro c hc
 simp only [qau, List.mem_map] at hc
 obtain ⟨j, _, rfl⟩ := hc
 unfold figP
 have h := Go.Av.and15_lt (s >>> (4 * (7 - j)))
 generalize ((s >>> (4 * (7 - j))) &&& BitVec.ofInt 32 15).toNat = k at h
 have key : ∀ i : Fin 16, ([48, 49, 50, 51, 52, 53, 54, 55, 56, 57, 97, 98, 99, 100, 101, 102] : qa).getD i.val 0 ∈ hexL := by decide
 exact key ⟨k, h⟩
theorem qnk {b : qa} (h : wx b) : qo6 b.length (sumF b) b := ⟨h.1, h.2.1, rfl, h, qd9 b, qlr _⟩
theorem q1g {b m : qa} (h : wx b) (hm : m <+: recF b) (hl : m.length < (recF b).length) : zo m = (2, [], 0) := by
 rw [qfn] at hm hl
 exact q33 (qnk h) hm hl
theorem qlt (b : qa) (h : wx b) : ((recF b).length : Int) = qd1 b.length := by
 obtain ⟨g1, g2, _⟩ := h
 unfold recF qd1
 rw [if_neg (by omega)]
 simp only [List.length_append, qdn, qd9]
 simp
theorem q0f {b : qa} (m : qa) (h : wx b) : zo (recF b ++ m) = (1, b, ((recF b).length : Int)) := by
 have R := qnk h
 rw [qlt b h, qfn]
 unfold recL
 rw [List.append_assoc, List.cons_append, List.append_assoc, qn0 _ R.two R.most R.figs R.hex, if_neg (by simp), List.take_left, List.drop_left, if_pos h]
 unfold xk
 rw [if_neg (by simp; intro h; omega), if_pos ⟨List.prefix_append _ _, rfl⟩]
end Go.Proofs.YtefmcijohgpfhaaGreatDoor
set_option maxRecDepth 100000
set_option linter.unusedVariables false
namespace Go.Proofs.YtefmcijohgpfhaaGreatDoor
open Go Go.Pl
theorem q47 {l : qa} (h1 : 10 ∈ l → (zy (upto 10 l)).2.2 = false) (h2 : 10 ∉ l → y3 l = false) : zo l = (3, [], 0) := by
 unfold zo
 by_cases h : 10 ∈ l
 ·rw [if_pos h, if_neg (by rw [h1 h]; simp)]
 ·rw [if_neg h, if_neg (by rw [h2 h]; simp)]
theorem R2 {l : qa} (hl : l.length ≤ 7) (h : ¬ l <+: zr) : zo l = (3, [], 0) := by
 refine q47 (fun h10 => decide_eq_false fun h' => ?_) (fun h10 => ?_)
 ·have := h'.1.length_le
  have := qb7 h10
  have e : zr.length = 7 := rfl
  omega
 ·unfold y3
  by_cases hb : zr <+: l
  ·have := hb.eq_of_length_le hl
   exact absurd (this ▸ List.prefix_refl _) h
  ·rw [if_neg hb]; exact decide_eq_false h
theorem q3k {p : UInt8 → Bool} (s : qa) : s.take (s.takeWhile p).length = s.takeWhile p := by
 induction s with
 | nil => rfl
 | cons b s ih =>
  by_cases h : p b = true
  ·rw [List.takeWhile_cons_of_pos h]; simp [ih]
  ·rw [List.takeWhile_cons_of_neg h]; rfl
theorem q48 {p : UInt8 → Bool} {l m : qa} (hm : m <+: l) (h : ∀ c ∈ m, p c = true) : m.length ≤ (l.takeWhile p).length := by
 obtain ⟨r, rfl⟩ := hm
 rw [List.takeWhile_append_of_pos h]
 simp
end Go.Proofs.YtefmcijohgpfhaaGreatDoor
set_option maxRecDepth 100000
set_option linter.unusedVariables false
namespace Go.Proofs.YtefmcijohgpfhaaGreatDoor
open Go Go.Av Go.RowKit Go.Proofs Go.Pl
structure q2q (l S : qa) (K n : Nat) : Prop where
 hl : l = zr ++ S
 hK : (S.takeWhile qoc).length = K
 hD : S.take K = Lib.itoa (n : Int)
 h1 : 1 ≤ n
 h2 : n ≤ 50000
theorem q2q.split {l S : qa} {K n : Nat} (A : q2q l S K n) (h : K < S.length) : S = Lib.itoa (n : Int) ++ S.getD K 0 :: S.drop (K + 1) ∧ qoc (S.getD K 0) = false := by
 have e : S = S.take K ++ S.getD K 0 :: S.drop (K + 1) := by
  conv => lhs; rw [← List.take_append_drop K S]
  rw [List.drop_eq_getElem_cons h]
  congr 2
  simp [List.getD, h]
 refine ⟨by rw [← A.hD]; exact e, ?_⟩
 cases hc : qoc (S.getD K 0) with
 | false => rfl
 | true =>
  have hp : S.take (K + 1) <+: S := List.take_prefix _ _
  have := q48 (p := qoc) hp (fun c hc' => by
   rw [qgu h, List.mem_append, List.mem_singleton] at hc'
   rcases hc' with hc' | rfl
   ·rw [← A.hK, q3k] at hc'
    have ha := List.all_takeWhile (p := qoc) (l := S)
    rw [List.all_eq_true] at ha
    exact ha c hc'
   ·exact hc)
  rw [A.hK] at this
  simp at this
  omega
end Go.Proofs.YtefmcijohgpfhaaGreatDoor
set_option linter.unusedVariables false
set_option maxRecDepth 100000
namespace Go.Proofs.YtefmcijohgpfhaaGreatDoor
open Go Go.Av Go.RowKit Go.Proofs Go.Pl
theorem qxo (l : List UInt8) (st : List AObj) (hl : l.length < 4294967281) (hg : wx l) : qm E 65 [Sv l] st fun r st' => r = .tu [Sv (recF l), .v .nilIface] ∧ st' = st := by
 have h := q0v l st hl
 unfold qcu at h
 rw [if_pos hg] at h
 exact h
theorem qvn {b : List UInt8} (h : wx b) : (recF b).length ≤ b.length + 61 ∧ 1 ≤ (recF b).length := by
 have h1 := qf1 b.length (by have := h.2.1; omega)
 unfold recF
 simp only [List.length_append, qdn, qd9, qbm]
 omega
end Go.Proofs.YtefmcijohgpfhaaGreatDoor
set_option linter.unusedVariables false
namespace Go.Av
open Go Go.RowKit
def StE (L : List (Nat × AV)) (st loc : List AObj) (s : AS) : Prop := ∃ t ext, s = ⟨puts t L, ((st ++ loc) ++ ext) ++ [], []⟩
theorem qa5 {t : Nat → AV} {L : List (Nat × AV)} {st loc loc' ext new : List AObj} (h : HasL t L) (e : loc' = loc) : StE L st loc ⟨t, ((st ++ loc') ++ ext) ++ new, []⟩ :=
 ⟨t, ext ++ new, by rw [qhj h, e]; simp⟩
theorem qb6 {t : Nat → AV} {L : List (Nat × AV)} {st loc st' : List AObj} (h : HasL t L) (e : st' = st ++ loc) : StE L st loc ⟨t, st', []⟩ :=
 ⟨t, [], by rw [qhj h, e]; simp⟩
theorem vc (st loc ext new : List AObj) : ∃ x, ((st ++ loc) ++ ext) ++ new = st ++ x := ⟨loc ++ ext ++ new, by simp⟩
theorem qa9 {st loc ext new : List AObj} {k : Nat} {x : AObj} (h : loc[k]? = some x) : (((st ++ loc) ++ ext) ++ new)[st.length + k]? = some x := by
 have hk := lt_of_getElem? h
 rw [List.append_assoc, List.append_assoc, List.getElem?_append_right (Nat.le_add_right _ _), Nat.add_sub_cancel_left, List.getElem?_append_left hk]
 exact h
theorem qfm {st loc ext new : List AObj} {k : Nat} (x : AObj) (hk : k < loc.length) : (((st ++ loc) ++ ext) ++ new).set (st.length + k) x = ((st ++ loc.set k x) ++ ext) ++ new := by
 rw [List.append_assoc, List.append_assoc, List.set_append_right _ _ (Nat.le_add_right _ _), Nat.add_sub_cancel_left, List.set_append_left _ _ hk]
 simp
theorem qji {G : Gh} {sz : Nat} {xs : List AV} {tip : Option Nat} {v : Value} (h : Rel G (.sl sz xs tip) v) : Rel G (.sl sz xs none) v := by
 cases h with
 | sl0 _ _ base cap ht => exact .sl0 sz none base cap (by simp)
 | sl _ _ _ b off cap pub hp hw hlen hr ht hcap => exact .sl sz xs none b off cap pub hp hw hlen hr (fun t ht => by simp at ht) hcap
theorem qbu {G : Gh} {sz : Nat} {v : Value} (h : Rel G zv v) : Rel G (.sl sz [] none) v := by
 cases h
 exact .sl0 sz none none 0 (by simp)
section
variable {E : Env} {rd : Option Nat} {N : Nat} {ops : Array Oper} {K : AS → Prop} {s : AS} {rest : List Oper} {d : Option Tmp} {T : TypeId} {p : String} {af : Array Edge}
theorem xh {fn : Func} {r r' : AV} (h : ARes E fn s r) (hw : ∀ (G : Gh) (v : Value), Rel G r v → Rel G r' v) : ARes E fn s r' :=
 ⟨fun B0 w0 G a w hL hI => let ⟨v, h1, h2⟩ := h.run B0 w0 G a w hL hI; ⟨v, h1, hw G v h2⟩⟩
theorem qgo {x y : Operand} {t u T' : TypeId} {sz bytes k n m : Nat} {xs ys zs : List AV} {tip : Option Nat} {st loc ext new : List AObj} (hs : s.st = ((st ++ loc) ++ ext) ++ new) (hx : qf N s x = .sl sz xs (some (st.length + k))) (hy : qf N s y = .sl sz ys tip) (ho : loc[k]? = some (.tip n sz T')) (hn : xs.length = n)
  (ht : E.P.underlying t = some (.slice T')) (hu : E.P.underlying u = some (.slice T')) (hT : qcc E.P T' sz bytes) (hone : vj (flat ys) = true) (hm : ys.length = m) (h63 : n + m ≤ maxLen) (hb : (n + m) * bytes ≤ 140737488355328) (hz : xs ++ ys = zs)
  (h : AOps E rd N ops rest K (AS.put ⟨s.t, ((st ++ loc.set k (.tip (n + m) sz T')) ++ ext) ++ new, s.df⟩ d (.sl sz zs (some (st.length + k))))) : AOps E rd N ops (⟨d, .call ⟨.builtin .append, #[x, y], #[t, u]⟩, T, p, af, none⟩ :: rest) K s := by
 subst hz
 have hk := lt_of_getElem? ho
 exact qk7 hx hy (by rw [hs]; exact qa9 ho) hn ht hu hT hone hm h63 hb (by rw [hs, qfm _ hk]; exact h)
theorem yi {x : Operand} {t : TypeId} {sz : Nat} {agg : Bool} {st loc ext new : List AObj} {k ver off : Nat} {T' : TypeId} {cs : List AV} {r : AV} (hs : s.st = ((st ++ loc) ++ ext) ++ new) (hx : qf N s x = .bx (st.length + k) ver off) (ho : loc[k]? = some (.cells ver T' cs)) (ht : tyOf E.P t = some (sz, agg)) (hr : jj sz agg off cs = some r)
  (h : AOps E rd N ops rest K (s.put d r)) : AOps E rd N ops (⟨d, .load t x, T, p, af, none⟩ :: rest) K s :=
 jv hx (by rw [hs]; exact qa9 ho) ht hr h
end
end Go.Av
set_option linter.unusedVariables false
namespace Go.Pl
open Go
def zp (l : qa) : List qa :=
 if h : 10 ∈ l then upto 10 l :: zp (past 10 l) else [l]
 termination_by l.length
 decreasing_by exact wo (fun e => by rw [e] at h; simp at h)
theorem y5 {l : qa} (h : 10 ∈ l) : zp l = upto 10 l :: zp (past 10 l) := by rw [zp, dif_pos h]
theorem y4 {l : qa} (h : 10 ∉ l) : zp l = [l] := by rw [zp, dif_neg h]
theorem qvf : ∀ (n : Nat) (l : qa), l.length ≤ n → Lib.splitK [10] 0 (Lib.count l [10]) l = zp l
 | n, l, hn => by
  by_cases h : 10 ∈ l
  ·have hi := qn9 10 l h
   have hne : l ≠ [] := fun e => by rw [e] at h; simp at h
   have hlt := wo (c := 10) hne
   rw [y5 h, Lib.count_hit (i := (upto 10 l).length) (by simp) hi, Nat.add_comm, Lib.splitK]
   rw [if_neg (by rw [hi]; simp), hi]
   cases n with
   | zero => exact absurd (List.length_eq_zero_iff.1 (by omega)) hne
   | succ n =>
    have := qvf n (past 10 l) (by omega)
    simp only [Int.toNat_natCast, Nat.add_zero, List.length_cons, List.length_nil, Nat.zero_add, qgs]
    rw [show List.drop ((upto 10 l).length + 1) l = past 10 l from rfl, this]
  ·have hi : Lib.index l [10] = -1 := by
    have := Lib.index_ge l [10]
    have h2 : ¬ 0 ≤ Lib.index l [10] := fun h' => h ((qbi l 10).1 h')
    omega
   rw [y4 h, Lib.count_miss hi]
   rfl
theorem qe2 : ∀ (n : Nat) (l : qa), l.length ≤ n → (zp l).length ≤ l.length + 1
 | n, l, hn => by
  by_cases h : 10 ∈ l
  ·have hne : l ≠ [] := fun e => by rw [e] at h; simp at h
   have hlt := wo (c := 10) hne
   rw [y5 h]
   cases n with
   | zero => exact absurd (List.length_eq_zero_iff.1 (by omega)) hne
   | succ n =>
    have := qe2 n (past 10 l) (by omega)
    simp only [List.length_cons]
    omega
  ·rw [y4 h]; simp
theorem qe0 : ∀ (n : Nat) (l : qa), l.length ≤ n → ∀ x ∈ zp l, x.length ≤ l.length ∧ 10 ∉ x
 | n, l, hn, x, hx => by
  by_cases h : 10 ∈ l
  ·have hne : l ≠ [] := fun e => by rw [e] at h; simp at h
   have hlt := wo (c := 10) hne
   rw [y5 h, List.mem_cons] at hx
   rcases hx with rfl | hx
   ·exact ⟨kl 10 l, qb0 10 l⟩
   ·cases n with
    | zero => exact absurd (List.length_eq_zero_iff.1 (by omega)) hne
    | succ n =>
     have := qe0 n (past 10 l) (by omega) x hx
     exact ⟨by omega, this.2⟩
  ·rw [y4 h, List.mem_singleton] at hx
   subst hx
   exact ⟨Nat.le_refl _, h⟩
end Go.Pl
set_option maxRecDepth 100000
set_option linter.unusedVariables false
namespace Go.Proofs.YtefmcijohgpfhaaGreatDoor
open Go Go.Av Go.RowKit Go.Proofs Go.Pl
theorem qjg {f : FuncId} {st : List AObj} {args : List AV} {vals : Array Value} {xs : List qa} {T : TypeId} (ha : args = vals.toList.map .v) (hne : xs ≠ [])
  (h : ∀ B0 w0 w, E.L B0 w0 → Below B0 w0 w → Calls E.P f vals w fun e w' => e = .returned (.slice (some ⟨w.heap.size, 0, none⟩) xs.length xs.length) ∧ w' = w.alloc (.cells (xs.map fun l => Value.string ⟨l.toArray⟩).toArray T)) :
  qm E f args st fun r st' => r = .sl 1 (xs.map fun l => Sv l) none ∧ st' = st := by
 subst ha
 refine ⟨fun B0 w0 G vs w hL hA hR => ?_⟩
 have hv : vs = vals := by
  have hs : vs.size = vals.size := by have := hR.1; simpa using this.symm
  apply Array.ext hs
  intro i h1 h2
  have := hR.2 i (.v vals[i]) vs[i] (by simp [h2]) (by simp [h1])
  generalize vs[i] = y at this
  cases this
  rfl
 subst hv
 refine (h B0 w0 w hL hA.below).mono ?_
 rintro e w' ⟨rfl, rfl⟩
 obtain ⟨hle, hA'⟩ := hA.newPub T (xs.map fun l => Value.string ⟨l.toArray⟩).toArray (0, 0) (xs.map fun l => Value.string ⟨l.toArray⟩) (fun i y hy => by simpa using hy)
 refine ⟨_, _, _, st, rfl, hle, hA', ?_, rfl, rfl⟩
 have hfl : flat (xs.map fun l => Sv l) = xs.map fun l => Sv l := by
  clear hne h hle hA'
  induction xs with
  | nil => rfl
  | cons a xs ih => rw [List.map_cons, qcy, ih]; rfl
 have := Rel.sl (G := G.publish w.heap.size (xs.map fun l => Value.string ⟨l.toArray⟩)) 1 (xs.map fun l => Sv l) none w.heap.size 0 xs.length (xs.map fun l => Value.string ⟨l.toArray⟩) (by simp [Gh.publish]) (fun x hx => by
  simp only [List.mem_map] at hx
  obtain ⟨l, _, rfl⟩ := hx
  rfl) (by rw [hfl]; simp) (fun i x y h1 h2 => by
  rw [hfl, List.getElem?_map] at h1
  rw [Nat.zero_add, List.getElem?_map] at h2
  cases hx : xs[i]? with
  | none => rw [hx] at h1; simp at h1
  | some l =>
   rw [hx] at h1 h2
   simp at h1 h2
   subst h1; subst h2
   exact .v _) (fun t ht => by simp at ht) (by simp)
 simpa using this
theorem qzc (l : List UInt8) (st : List AObj) (hl : l.length < 4294967281) : qm E 125 [Sv l, Sv [10]] st fun r st' => r = .sl 1 ((zp l).map fun x => Sv x) none ∧ st' = st := by
 have hd := Lib.splitB_data ⟨#[10]⟩ 0 (Lib.countB ⟨l.toArray⟩ ⟨#[10]⟩) ⟨l.toArray⟩
 have hs : Lib.splitK [10] 0 (Lib.count l [10]) l = zp l := qvf _ l (Nat.le_refl _)
 have hn := Lib.splitB_all ⟨#[10]⟩ (by simp [ByteArray.size]) 0 _ ⟨l.toArray⟩ rfl
 have hd2 : (Lib.splitB ⟨#[10]⟩ 0 (Lib.countB ⟨l.toArray⟩ ⟨#[10]⟩) ⟨l.toArray⟩).map (·.data.toList) = zp l := hd.trans hs
 have hlen : (zp l).length = Lib.countB ⟨l.toArray⟩ ⟨#[10]⟩ + 1 := by rw [← hd2, List.length_map, hn]
 refine qjg (T := 9) (vals := #[.string ⟨l.toArray⟩, .string ⟨#[10]⟩]) rfl (fun e => by rw [e] at hlen; simp at hlen) fun _ _ w hL hb => (Tryz.strings_Split_shaped ⟨l.toArray⟩ ⟨#[10]⟩ w (hL w hb).shaped (by simpa [ByteArray.size] using hl) (by simp [ByteArray.size])).mono fun e w' ⟨h1, h2⟩ => ?_
 refine ⟨by rw [h1, hlen], ?_⟩
 rw [h2, ← hd2, List.map_map]
 rfl
end Go.Proofs.YtefmcijohgpfhaaGreatDoor
set_option linter.unusedVariables false
namespace Go.Av
open Go Go.RowKit
section
variable {E : Env} {N : Nat} {ops : Array Oper} {K : AS → Prop} {s : AS} {rest : List Oper} {d : Option Tmp} {T : TypeId} {p : String} {af : Array Edge}
theorem qsu {B0 : Nat} {w0 : World} {G : Gh} {a : Act} {w : World} (hI : Inv B0 w0 N G s a w) {oj : Oper} {j e : Nat} {b : Bool} (hj : ops[j]? = some oj) (hd : oj.dst = some e) (hN : Nat.blt e N = true) (hb : s.t e = .v (.bool b)) : yielded ops a.tmps j = some b := by
 have hd' : e < a.tmps.size := by rw [hI.size]; simpa [Nat.blt_eq] using hN
 have hr := hI.tmps e a.tmps[e] (by simp [hd'])
 have hv : a.tmps[e]? = some (.bool b) := by
  rw [hb] at hr
  have : a.tmps[e] = .bool b := by generalize a.tmps[e] = v at hr; cases hr; rfl
  simp [hd', this]
 simp [yielded, hj, hd, hv]
theorem qf7 {op : Op} {oj : Oper} {j e : Nat} {want b : Bool} (hj : ops[j]? = some oj) (hd : oj.dst = some e) (hN : Nat.blt e N = true) (hb : s.t e = .v (.bool b)) (hw : b = want)
  (h : AQ E N ops (⟨d, op, T, p, af, none⟩ :: rest) K s) : AQ E N ops (⟨d, op, T, p, af, some (j, want)⟩ :: rest) K s := by
 refine ⟨fun B0 w0 G a w hL hI Q hQ => ?_⟩
 have hy := qsu hI hj hd hN hb
 have h' := h.run B0 w0 G a w hL hI Q hQ
 unfold wpQuietIn at h' ⊢
 refine ⟨fun _ _ _ _ => trivial, ?_⟩
 have h2 := h'.2
 rw [if_pos (by simp [Region.wanted])] at h2
 rw [if_pos (by simp [Region.wanted, hy, hw])]
 exact h2
theorem qja {op : Op} {oj : Oper} {j e : Nat} {want b : Bool} (hj : ops[j]? = some oj) (hd : oj.dst = some e) (hN : Nat.blt e N = true) (hb : s.t e = .v (.bool b)) (hw : b = !want)
  (h : AQ E N ops rest K (s.put d (.v undef))) : AQ E N ops (⟨d, op, T, p, af, some (j, want)⟩ :: rest) K s := by
 refine ⟨fun B0 w0 G a w hL hI Q hQ => ?_⟩
 have hy := qsu hI hj hd hN hb
 unfold wpQuietIn
 refine ⟨fun _ _ _ _ => trivial, ?_⟩
 rw [if_neg (by simp [Region.wanted, hy, hw])]
 refine h.run B0 w0 G _ w hL (hI.put (.refl G) hI.agree d (.v _)) Q fun s' a' hI' hst hK => hQ s' a' hI' ?_ hK
 rw [hst]
 cases d <;> rfl
theorem qp1 {c x y : Operand} {b : Bool} (hc : qf N s c = .v (.bool b)) (hb : b = true) (h : AQ E N ops rest K (s.put d (qf N s x))) : AQ E N ops (⟨d, .pick c x y, T, p, af, none⟩ :: rest) K s :=
 qaq rfl nofun fun _ _ G a w _ hI => ⟨a.eval x, qf N s x, fun w' _ => by
  have := hI.evalv hc
  have hx : a.eval x = a.eval x := rfl
  subst hb
  generalize a.eval = ρ at this
  simp [execOp, this, asBool], hI.eval x, h⟩
theorem qjo {c x y : Operand} {b : Bool} (hc : qf N s c = .v (.bool b)) (hb : b = false) (h : AQ E N ops rest K (s.put d (qf N s y))) : AQ E N ops (⟨d, .pick c x y, T, p, af, none⟩ :: rest) K s :=
 qaq rfl nofun fun _ _ G a w _ hI => ⟨a.eval y, qf N s y, fun w' _ => by
  have := hI.evalv hc
  subst hb
  generalize a.eval = ρ at this
  simp [execOp, this, asBool], hI.eval y, h⟩
theorem qm6 {x : Operand} {t : TypeId} {sz : Nat} {agg : Bool} {o ver off : Nat} {T' : TypeId} {cs : List AV} {r : AV} (hx : qf N s x = .bx o ver off) (ho : s.st[o]? = some (.cells ver T' cs)) (ht : tyOf E.P t = some (sz, agg)) (hr : jj sz agg off cs = some r)
  (h : AQ E N ops rest K (s.put d r)) : AQ E N ops (⟨d, .load t x, T, p, af, none⟩ :: rest) K s := by
 refine qaq rfl nofun fun B0 w0 G a w _ hI => ?_
 have he := hI.eval_of hx
 generalize hv : a.eval x = v at he
 cases he with
 | bx _ _ _ b hn hv' hb =>
  obtain ⟨_, h1, h2, h3, c, h4, h5, h6⟩ := hI.agree.ob o _ ho
  have hb := hb h1
  subst hb
  have hlt : (G.ob o).blk < w.heap.size := by
   rcases Nat.lt_or_ge (G.ob o).blk w.heap.size with h' | h'
   ·exact h'
   ·rw [Array.getElem?_eq_none h'] at h4; simp at h4
  -- the value is read out of the cells, whatever is drawn behind them
  have key : ∀ w', Below w.heap.size w w' → ∃ v, (loadVar t ⟨(G.ob o).blk, off, none⟩).run E.P w' = .ok v w' ∧ Rel G r v := fun w' hw' => by
   have h4' : w'.heap[(G.ob o).blk]? = some (.cells c T' (0, 0)) := by rw [hw'.block _ hlt]; exact h4
   exact x5 (w := w') (G := G) (b := (G.ob o).blk) (off := off) (off' := off) ht (fun i x hx hi => by
    obtain ⟨y, hy⟩ := kp hx (Nat.le_of_eq h5)
    refine ⟨y, ?_, h6 i x y hx hy⟩
    simp [World.cell?, h4', show off + (i - off) = i by omega, hy]) hr
  have hsame : ∀ w', Below w.heap.size w w' → ∀ v, (loadVar t ⟨(G.ob o).blk, off, none⟩).run E.P w = .ok v w → (loadVar t ⟨(G.ob o).blk, off, none⟩).run E.P w' = .ok v w' := fun w' hw' v hr1 => by
   obtain ⟨i1, i2⟩ := kr ht w
   obtain ⟨j1, j2⟩ := kr ht w'
   have hc : ∀ k, w'.cell? ⟨(G.ob o).blk, k, none⟩ = w.cell? ⟨(G.ob o).blk, k, none⟩ := fun k => by simp [World.cell?, hw'.block _ hlt]
   obtain ⟨v', h1', _⟩ := key w' hw'
   rw [h1']
   congr 1
   cases agg with
   | false =>
    simp only [jj, cond_false] at hr
    obtain ⟨y, hy⟩ := kp hr (Nat.le_of_eq h5)
    have e1 : w.cell? ⟨(G.ob o).blk, off, none⟩ = some y := by simp [World.cell?, h4, hy]
    have e2 : w'.cell? ⟨(G.ob o).blk, off, none⟩ = some y := by rw [hc, e1]
    simp [loadVar, i2, run_load, e1] at hr1
    simp [loadVar, j2, run_load, e2] at h1'
    rw [← h1', hr1]
   | true =>
    simp only [jj, cond_true] at hr
    cases hb2 : Nat.ble (off + sz) cs.length with
    | false => rw [hb2] at hr; simp at hr
    | true =>
     have hle : off + sz ≤ cs.length := Nat.le_of_ble_eq_true hb2
     have e1 : ∀ j, j < sz → w.cell? ⟨(G.ob o).blk, off + j, none⟩ = some (c.getD (off + j) undef) := fun j hj => by
      have : off + j < c.size := by omega
      simp [World.cell?, h4, this]
     have e2 : ∀ j, j < sz → w'.cell? ⟨(G.ob o).blk, off + j, none⟩ = some (c.getD (off + j) undef) := fun j hj => by rw [hc, e1 j hj]
     have l1 := run_loadCells (P := E.P) (w := w) ⟨(G.ob o).blk, off, none⟩ sz (fun j => c.getD (off + j) undef) (fun j hj => by rw [Addr.add_lit]; exact e1 j hj)
     have l2 := run_loadCells (P := E.P) (w := w') ⟨(G.ob o).blk, off, none⟩ sz (fun j => c.getD (off + j) undef) (fun j hj => by rw [Addr.add_lit]; exact e2 j hj)
     simp [loadVar, i1, i2, l1] at hr1
     simp [loadVar, j1, j2, l2] at h1'
     rw [← h1', hr1]
  obtain ⟨v, hrun, hR⟩ := key w (Below.refl _ _)
  exact ⟨v, r, fun w' hw' => by simp only [execOp, hv, Instr.loadAt, Instr.sureAddr]; simp [hsame w' hw' v hrun], hR, h⟩
theorem qsj {f : FuncId} {xs : Array Operand} {ts : Array TypeId} {args : List AV} {r : AV} {v : Value} (hok : qqo E) (hrun : ∀ vs w, (callFunc f vs).run E.P w = .ok (.enter f vs) w)
  (hxs : xs.toList.map (qf N s) = args) (hp : ∀ x ∈ args, Pure x) (hs : Sure r v) (hpr : ∀ G, Rel G r v) (hc : qm E f args [] fun a st1 => a = r ∧ st1 = [])
  (h : AQ E N ops rest K (s.put d r)) : AQ E N ops (⟨d, .call ⟨.value (.func f), xs, ts⟩, T, p, af, none⟩ :: rest) K s := by
 refine ⟨fun B0 w0 G a w hL hI Q hQ => ?_⟩
 refine ⟨fun _ _ _ _ => trivial, ?_⟩
 simp only [Region.wanted]
 refine ⟨v, fun w' hw' => ?_, ?_⟩
 ·have hr : (execOp a.eval ⟨d, .call ⟨.value (.func f), xs, ts⟩, T, p, af, none⟩).run E.P w' = .ok (.enter f (xs.map a.eval)) w' := by
   have he : a.eval (.func f) = .func (.func f) #[] #[] := rfl
   generalize a.eval = ρ at he
   simp [execOp, resolve, Deferred.ofValue, he, invoke, hrun]
  have hrl := qby hI xs
  rw [hxs] at hrl
  unfold Oper.quietAtIn
  rw [hr]
  refine ⟨rfl, fun h => by simp [fw, Fence.wide] at h, qdp ?_⟩
  have hb : Below B0 w0 w' := hI.agree.below.trans (hw'.mono hI.agree.hB)
  have hB : B0 ≤ w'.heap.size := Nat.le_trans hI.agree.hB hw'.size
  have hA' := hI.agree.fresh hw'
  refine (hc.run w'.heap.size w' ⟨G.pub, G.ob, 0⟩ (xs.map a.eval) w' (hok B0 w0 w' hL hb hB) ⟨Below.refl _ _, Nat.le_refl _, rfl, hA'.pub, nofun, nofun⟩ ⟨hrl.1, fun i x y hx hy => ?_⟩).mono ?_
  ·exact hp x (List.mem_of_getElem? hx) G _ y (fun b vs hb => ⟨[], by simpa using hb⟩) (hrl.2 i x y hx hy)
  ·rintro e w'' ⟨u, G', r', st', rfl, hG, hA, hR, rfl, rfl⟩
   rw [hs G' u hR]
   exact ⟨rfl, hw'.trans (hA.below.mono hw'.size)⟩
 ·refine h.run B0 w0 G _ w hL (hI.put (.refl G) hI.agree d (hpr G)) Q fun s' a' hI' hst hK => hQ s' a' hI' ?_ hK
  rw [hst]
  cases d <;> rfl
end
end Go.Av
set_option linter.unusedVariables false
namespace Go.Av
open Go Go.RowKit
section
variable {E : Env} {rd : Option Nat} {N : Nat} {ops : Array Oper} {K : AS → Prop} {s : AS} {rest : List Oper} {d : Option Tmp} {T : TypeId} {p : String} {af : Array Edge}
theorem qba {x : Operand} {t : TypeId} {sz : Nat} {agg : Bool} {st loc : List AObj} {k ver off : Nat} {T' : TypeId} {cs : List AV} {r : AV} (hs : s.st = st ++ loc) (hx : qf N s x = .bx (st.length + k) ver off) (ho : loc[k]? = some (.cells ver T' cs)) (ht : tyOf E.P t = some (sz, agg)) (hr : jj sz agg off cs = some r)
  (h : AQ E N ops rest K (s.put d r)) : AQ E N ops (⟨d, .load t x, T, p, af, none⟩ :: rest) K s :=
 qm6 hx (by rw [hs]; exact z2 ho) ht hr h
end
end Go.Av
set_option maxRecDepth 100000
set_option linter.unusedVariables false
namespace Go.Proofs.YtefmcijohgpfhaaGreatDoor
open Go Go.Av Go.RowKit Go.Proofs Go.Pl
structure qd8 where
 kind : Int
 key : qa
 text : qa
 lo : Int
 hi : Int
abbrev FldV := qa × qa
@[reducible] def fldA (f : FldV) : AV := .ag [Sv f.1, Sv f.2]
@[reducible] def ju (l : List FldV) : AV := .sl 2 (l.map fldA) none
def q2z (r : qd8) : Prop := 1 ≤ r.kind ∧ r.kind ≤ 7 ∧ (r.kind = 6 ∨ qb5 r.key)
instance (r : qd8) : Decidable (q2z r) := inferInstanceAs (Decidable (_ ∧ _ ∧ _))
def qu1 (l : qa) : List qa := if l = [] then [] else zp l
theorem qz7 (xs : List qa) : Pure (.sl 1 (xs.map fun x => Sv x) none) := qd7 fun x hx => by
 simp only [List.mem_map] at hx
 obtain ⟨l, _, rfl⟩ := hx
 intro y hy
 simp [AV.cells] at hy
 subst hy
 exact zd _
def qk4 (r : qd8) (n : Int) : Prop := r.lo ≤ n ∧ n ≤ r.hi
instance (r : qd8) (n : Int) : Decidable (qk4 r n) := inferInstanceAs (Decidable (_ ∧ _))
def qum (r : qd8) (l : qa) : Prop := ∃ n, numZ l = some n ∧ qk4 r n
instance (r : qd8) (l : qa) : Decidable (qum r l) :=
 match h : numZ l with
 | some n => decidable_of_iff (qk4 r n) ⟨fun h' => ⟨n, h, h'⟩, fun ⟨m, h1, h2⟩ => by rw [h] at h1; cases h1; exact h2⟩
 | none => .isFalse fun ⟨m, h1, _⟩ => by rw [h] at h1; cases h1
def qx7 (r : qd8) (f : FldV) : Prop :=
 (r.kind = 3 → f.1 = r.key → qum r f.2) ∧ (r.kind = 4 → f.1 = r.key → f.2 ∈ qu1 r.text) ∧ (r.kind = 5 → f.1 = r.key → qk4 r f.2.length) ∧ (r.kind = 6 → f.1 ∈ qu1 r.text)
instance (r : qd8) (f : FldV) : Decidable (qx7 r f) := inferInstanceAs (Decidable (_ ∧ _ ∧ _ ∧ _))
end Go.Proofs.YtefmcijohgpfhaaGreatDoor
set_option maxRecDepth 100000
set_option linter.unusedVariables false
namespace Go.Proofs.YtefmcijohgpfhaaGreatDoor
open Go Go.Av Go.RowKit Go.Proofs Go.Pl
theorem qie {xs : List FldV} {k : Nat} (hk : k < xs.length) : (xs.map fldA)[k]? = some (fldA (xs.getD k ([], []))) := by
 simp [List.getD, hk]
def qz4 (key : qa) (xs : List FldV) : List qa := (xs.filter fun f => f.1 = key).map Prod.snd
end Go.Proofs.YtefmcijohgpfhaaGreatDoor
set_option maxRecDepth 100000
set_option linter.unusedVariables false
namespace Go.Proofs.YtefmcijohgpfhaaGreatDoor
open Go Go.Av Go.RowKit Go.Proofs Go.Pl
def q4b (r : qd8) (xs : List FldV) : Prop := q2z r ∧ ((r.kind = 1 ∧ (qz4 r.key xs).length = 0) ∨ (r.kind = 2 ∧ 1 < (qz4 r.key xs).length) ∨ (r.kind ≠ 1 ∧ r.kind ≠ 2 ∧ xs.any (fun f => !decide (qx7 r f)) = true))
instance (r : qd8) (xs : List FldV) : Decidable (q4b r xs) := inferInstanceAs (Decidable (_ ∧ (_ ∨ _ ∨ _)))
structure q2w (xs : List FldV) : Prop where
 len : xs.length < 1000000
 val : ∀ f ∈ xs, f.1.length < 4294967281 ∧ f.2.length < 4294967281
end Go.Proofs.YtefmcijohgpfhaaGreatDoor
set_option linter.unusedVariables false
namespace Go.Av
open Go Go.RowKit Go.WideShapes Go.ChangeShapes Go.Deep
def gW (W : World) : Gh := ⟨fun b => match W.heap[b]? with | some (.cells c _ _) => some c.toList | _ => none, fun _ => ⟨0, 0, 0, false⟩, 0⟩
theorem q40 {W : World} {b : Nat} {c : Array Value} {T : TypeId} {fz : Nat × Nat} (h : W.heap[b]? = some (.cells c T fz)) : (gW W).pub b = some c.toList := by
 simp [gW, h]
theorem qro (W : World) : zk W.heap.size W (gW W) [] W := by
 refine ⟨Below.refl _ _, Nat.le_refl _, rfl, fun b vs h => ?_, fun o x h => by simp at h, fun o o' x x' _ h => by simp at h⟩
 simp only [gW] at h
 split at h
 ·rename_i c T fz hb
  cases h
  exact ⟨c, T, fz, hb, fun i y hy => by simpa using hy⟩
 ·cases h
theorem qny {E : Env} {f : FuncId} {args : List AV} {vals : Array Value} {b : Bool} {W : World} (h : qm E f args [] fun r st' => r = Bv b ∧ st' = []) (hL : E.L W.heap.size W) (ha : RelL (gW W) args vals) :
  Calls E.P f vals W fun e w' => e = .returned (.bool b) ∧ Below W.heap.size W w' := by
 refine (h.run W.heap.size W (gW W) vals W hL (qro W) ha).mono ?_
 rintro e w' ⟨v, G', r, st', rfl, _, hA, hr, rfl, _⟩
 cases hr
 exact ⟨rfl, hA.below⟩
theorem q2e {G : Gh} : RelL G [] #[] := ⟨rfl, fun i x y h => by simp at h⟩
theorem qki {G : Gh} {a : AV} {us : List AV} {v : Value} {vs : List Value} (h : Rel G a v) (hs : RelL G us vs.toArray) : RelL G (a :: us) (v :: vs).toArray := by
 refine ⟨by simpa using hs.1, fun i x y hx hy => ?_⟩
 cases i with
 | zero => simp at hx hy; subst hx; subst hy; exact h
 | succ i => exact hs.2 i x y (by simpa using hx) (by simpa using hy)
def RelK (G : Gh) (us : List AV) (cs : List Value) : Prop := us.length = cs.length ∧ ∀ (i : Nat) (x : AV) (y : Value), us[i]? = some x → cs[i]? = some y → Rel G x y
theorem qim {G : Gh} {a : AV} {v : Value} (h : Rel G a v) : RelK G [a] [v] := ⟨rfl, fun i x y hx hy => by
 cases i with
 | zero => simp at hx hy; subst hx; subst hy; exact h
 | succ i => simp at hx⟩
theorem RelK.one {G : Gh} {a : AV} {v : Value} (h : RelK G [a] [v]) : Rel G a v := h.2 0 a v rfl rfl
def Opn (P : Program) (t : TypeId) (S : AV → Prop) : Prop := ∀ (H : Type) (enc : TypeId × Value → H) (W : World) (fuel : Nat) (cs : List Value) (x : DataW H × List MemPlace),
 DataW.trod enc P W 0 (fun _ => true) true fuel t cs = some x → ∃ a, S a ∧ RelK (gW W) a.cells cs
def IsS (a : AV) : Prop := ∃ l : List UInt8, a = Sv l ∧ l.length ≤ maxLen
def IsI (k : IntKind) (a : AV) : Prop := ∃ n : Int, a = .v (.int k n) ∧ (Lit.int k n).wf = true
def IsSl (sz : Nat) (S : AV → Prop) (a : AV) : Prop := ∃ xs : List AV, a = .sl sz xs none ∧ xs.length ≤ maxLen ∧ ∀ x ∈ xs, S x
def IsAg (Ss : List (AV → Prop)) (a : AV) : Prop := ∃ vs : List AV, a = .ag vs ∧ vs.length = Ss.length ∧ ∀ (i : Nat) (S : AV → Prop) (v : AV), Ss[i]? = some S → vs[i]? = some v → S v
def One (S : AV → Prop) : Prop := ∀ a, S a → a.cells = [a]
theorem q21 : One IsS := by rintro _ ⟨l, rfl, _⟩; rfl
theorem q2s (k : IntKind) : One (IsI k) := by rintro _ ⟨l, rfl, _⟩; rfl
theorem q2v (s : ByteArray) : Sv s.data.toList = .v (.string s) := by cases s; simp
theorem q2p {P : Program} {t : TypeId} (hu : P.underlying t = some .string) : Opn P t IsS := by
 intro H enc W fuel cs x h
 obtain ⟨s, rfl, _, hs⟩ := DataW.trod_string hu h
 refine ⟨Sv s.data.toList, ⟨_, rfl, by simpa using hs⟩, qim ?_⟩
 rw [q2v]
 exact .v _
theorem q2n {P : Program} {t : TypeId} {k : IntKind} (hu : P.underlying t = some (.int k)) : Opn P t (IsI k) := by
 intro H enc W fuel cs x h
 obtain ⟨n, rfl, _, hs⟩ := DataW.trod_int hu h
 exact ⟨_, ⟨n, rfl, hs⟩, qim (.v _)⟩
theorem qle {n : Nat} {Q : Nat → AV → Prop} (h : ∀ i, i < n → ∃ a, Q i a) : ∃ vs : List AV, vs.length = n ∧ ∀ i v, vs[i]? = some v → Q i v := by
 induction n with
 | zero => exact ⟨[], rfl, fun i v h => by simp at h⟩
 | succ n ih =>
  obtain ⟨vs, hl, hv⟩ := ih fun i hi => h i (by omega)
  obtain ⟨a, ha⟩ := h n (by omega)
  refine ⟨vs ++ [a], by simp [hl], fun i v hi => ?_⟩
  rcases Nat.lt_or_ge i n with hc | hc
  ·rw [List.getElem?_append_left (by omega)] at hi
   exact hv i v hi
  ·rw [List.getElem?_append_right (by omega)] at hi
   have : i - vs.length = 0 := by
    rcases Nat.eq_zero_or_pos (i - vs.length) with h0 | h0
    ·exact h0
    ·rw [List.getElem?_eq_none (by simp; omega)] at hi; cases hi
   rw [this] at hi
   simp at hi
   subst hi
   have : i = n := by omega
   subst this
   exact ha
theorem q5d {P : Program} {t : TypeId} {fs : Array Field} {Ss : List (AV → Prop)} (hu : P.underlying t = some (.struct fs)) (hone : oneCellFields P fs = true) (hC : P.cellsOf t = fs.size) (hl : Ss.length = fs.size)
  (hS : ∀ (i : Nat) (f : Field) (S : AV → Prop), fs[i]? = some f → Ss[i]? = some S → Opn P f.type S ∧ One S) : Opn P t (IsAg Ss) := by
 intro H enc W fuel cs x h
 obtain ⟨xs, n, _, _, hcl, hxl, hf⟩ := DataW.trod_struct hu h
 have hcs : cs.length = fs.size := hcl.trans hC
 have step : ∀ i, i < fs.size → ∃ a : AV, (∀ S, Ss[i]? = some S → S a) ∧ ∀ y, cs[i]? = some y → Rel (gW W) a y := by
  intro i hi
  have hfi : fs[i]? = some fs[i] := Array.getElem?_eq_getElem hi
  have hSi : Ss[i]? = some (Ss[i]'(by omega)) := List.getElem?_eq_getElem (by omega)
  obtain ⟨hO, h1⟩ := hS i _ _ hfi hSi
  obtain ⟨ho, hk⟩ := hone_of hone i _ hfi
  have ht := hf i _ hfi
  rw [ho, hk] at ht
  have hd : (cs.drop i).take 1 = [cs[i]'(by omega)] := by
   rw [List.drop_eq_getElem_cons (by omega)]
   rfl
  rw [hd, List.getElem?_eq_getElem (by omega)] at ht
  obtain ⟨a, ha, hr⟩ := hO H enc W n _ _ ht
  rw [h1 a ha] at hr
  refine ⟨a, fun S hs => ?_, fun y hy => ?_⟩
  ·rw [hSi] at hs; cases hs; exact ha
  ·rw [List.getElem?_eq_getElem (by omega)] at hy; cases hy; exact hr.one
 obtain ⟨vs, hvl, hv⟩ := qle step
 refine ⟨.ag vs, ⟨vs, rfl, by omega, fun i S v hs hvi => (hv i v hvi).1 S hs⟩, by show vs.length = cs.length; omega, fun i x y hx hy => (hv i x hx).2 y hy⟩
theorem qva {W : World} {a : Addr} {n : Nat} {v : Value} (h : W.cell? (a.add n) = some v) : ∃ (c : Array Value) (T : TypeId) (fz : Nat × Nat), W.heap[a.block]? = some (.cells c T fz) ∧ c[a.off + n]? = some v ∧ (n = 0 → a.spot = none) := by
 unfold World.cell? Addr.add at h
 by_cases hn : n = 0
 ·subst hn
  simp only [if_true] at h
  split at h
  ·rename_i c T fz hb
   split at h
   ·cases h
   ·rename_i hs
    exact ⟨c, T, fz, hb, by simpa using h, fun _ => by simpa using hs⟩
  ·cases h
 ·rw [if_neg hn] at h
  simp only at h
  split at h
  ·rename_i c T fz hb
   exact ⟨c, T, fz, hb, by simpa using h, fun e => absurd e hn⟩
  ·cases h
theorem qy0 {P : Program} {t e : TypeId} {sz : Nat} {S : AV → Prop} (hu : P.underlying t = some (.slice e)) (hC : P.cellsOf e = sz) (hz : 0 < sz) (hS : Opn P e S) : Opn P t (IsSl sz S) := by
 intro H enc W fuel cs x h
 rcases open_slice hu h with ⟨rfl, _⟩ | ⟨a, len, cap, m, n, D, Pl, rfl, _, hlc, hcm, hm, _, hel⟩
 ·exact ⟨.sl sz [] none, ⟨[], rfl, by simp, by simp⟩, qim (.sl0 sz none _ _ (by simp))⟩
 ·have hm' : len ≤ m := by rw [hm]; simpa using hlc
  rw [hC] at hel
  have step : ∀ i, i < len → ∃ y : AV, S y ∧ y.cells.length = sz ∧ ∀ j, j < sz → ∃ (u : AV) (v : Value), y.cells[j]? = some u ∧ W.cell? (a.add (i * sz + j)) = some v ∧ Rel (gW W) u v := by
   intro i hi
   obtain ⟨cs', hc, ht⟩ := hel i (by omega)
   obtain ⟨_, hcl, hat⟩ := World.cells?_some hc
   obtain ⟨y, hy, hr⟩ := hS H enc W n cs' _ ht
   refine ⟨y, hy, hr.1.trans hcl, fun j hj => ?_⟩
   have h1 : y.cells[j]? = some (y.cells[j]'(by rw [hr.1, hcl]; exact hj)) := List.getElem?_eq_getElem _
   have h2 : cs'[j]? = some (cs'[j]'(by omega)) := List.getElem?_eq_getElem _
   refine ⟨_, _, h1, ?_, hr.2 j _ _ h1 h2⟩
   rw [← Go.Deep.add_add, hat j hj, h2]
  obtain ⟨xs, hxl, hx⟩ := qle step
  have hmem : ∀ y ∈ xs, S y ∧ y.cells.length = sz := fun y hy => by
   obtain ⟨i, hi, rfl⟩ := List.mem_iff_getElem.1 hy
   have := hx i xs[i] (List.getElem?_eq_getElem hi)
   exact ⟨this.1, this.2.1⟩
  refine ⟨.sl sz xs none, ⟨xs, rfl, by omega, fun y hy => (hmem y hy).1⟩, qim ?_⟩
  rcases Nat.eq_zero_or_pos len with h0 | h0
  ·subst h0
   have : xs = [] := List.length_eq_zero_iff.1 hxl
   subst this
   exact .sl0 sz none _ _ (by simp)
  ·have hfl : (flat xs).length = len * sz := by rw [v4 fun y hy => (hmem y hy).2, hxl]
   have at0 : ∀ k, k < len * sz → ∃ (u : AV) (v : Value), (flat xs)[k]? = some u ∧ W.cell? (a.add k) = some v ∧ Rel (gW W) u v := by
    intro k hk
    have hq : k / sz < len := (Nat.div_lt_iff_lt_mul hz).2 hk
    have hr : k % sz < sz := Nat.mod_lt _ hz
    have e : k / sz * sz + k % sz = k := by rw [Nat.mul_comm]; exact Nat.div_add_mod k sz
    have hxi : xs[k / sz]? = some (xs[k / sz]'(by omega)) := List.getElem?_eq_getElem _
    obtain ⟨_, _, hj⟩ := hx _ _ hxi
    obtain ⟨u, v, h1, h2, h3⟩ := hj _ hr
    have := qia (sz := sz) (fun y hy => (hmem y hy).2) hxi _ hr
    rw [e] at this h2
    exact ⟨u, v, this.trans h1, h2, h3⟩
   have hpos : 0 < len * sz := Nat.mul_pos h0 hz
   obtain ⟨_, _, _, hc0, _⟩ := at0 0 hpos
   obtain ⟨c, T, fz, hb, _, hspot⟩ := qva hc0
   have hin : ∀ k, k < len * sz → ∃ (u : AV) (v : Value), (flat xs)[k]? = some u ∧ c.toList[a.off + k]? = some v ∧ Rel (gW W) u v := by
    intro k hk
    obtain ⟨u, v, h1, h2, h3⟩ := at0 k hk
    obtain ⟨c', T', fz', hb', hv, _⟩ := qva h2
    rw [hb] at hb'
    cases hb'
    exact ⟨u, v, h1, by simpa using hv, h3⟩
   obtain ⟨b, off, spot⟩ := a
   have hs := hspot rfl
   simp only at hs hb hin
   subst hs
   rw [← hxl]
   refine .sl sz xs none b off cap c.toList (q40 hb) (fun y hy => (hmem y hy).2) ?_ ?_ ?_ (by omega)
   ·obtain ⟨_, _, _, hv, _⟩ := hin (len * sz - 1) (by omega)
    have := (List.getElem?_eq_some_iff.1 hv).1
    omega
   ·intro i x y hx' hy'
    have hi : i < len * sz := by rw [← hfl]; exact (List.getElem?_eq_some_iff.1 hx').1
    obtain ⟨u, v, h1, h2, h3⟩ := hin i hi
    rw [hx'] at h1
    rw [hy'] at h2
    cases h1
    cases h2
    exact h3
   ·intro t ht
    simp at ht
def fieldsOf (P : Program) (t : TypeId) : Array Field := match P.underlying t with | some (.struct fs) => fs | _ => #[]
theorem qnx {P : Program} {t : TypeId} {As : List (Option TypeDesc × (AV → Prop))} (hu : P.underlying t = some (.struct (fieldsOf P t))) (hone : oneCellFields P (fieldsOf P t) = true) (hC : P.cellsOf t = (fieldsOf P t).size)
  (hF : (fieldsOf P t).toList.map (fun f => P.underlying f.type) = As.map Prod.fst) (hA : ∀ p ∈ As, (∀ u, P.underlying u = p.1 → Opn P u p.2) ∧ One p.2) : Opn P t (IsAg (As.map Prod.snd)) := by
 have hl : As.length = (fieldsOf P t).size := by have := congrArg List.length hF; simpa using this.symm
 refine q5d hu hone hC (by simpa using hl) fun i f S hf hS => ?_
 obtain ⟨p, hp, rfl⟩ : ∃ p, As[i]? = some p ∧ p.2 = S := by simpa using hS
 have h1 : ((fieldsOf P t).toList.map (fun f => P.underlying f.type))[i]? = some (P.underlying f.type) := by simp [hf]
 rw [hF, List.getElem?_map, hp] at h1
 obtain ⟨a, b⟩ := hA p (List.mem_of_getElem? hp)
 exact ⟨a _ (by simpa using h1.symm), b⟩
theorem qvm {α : Type} {g : α → AV} : ∀ {xs : List AV}, (∀ x ∈ xs, ∃ r, x = g r) → ∃ rs : List α, xs = rs.map g
 | [], _ => ⟨[], rfl⟩
 | x :: xs, h => by
  obtain ⟨r, rfl⟩ := h x (by simp)
  obtain ⟨rs, rfl⟩ := qvm (xs := xs) fun y hy => h y (by simp [hy])
  exact ⟨r :: rs, rfl⟩
theorem q4t {H : Type} {enc : TypeId × Value → H} {P : Program} {W : World} {r : Reach} {b0 : Nat} {t e : TypeId} {S : AV → Prop} {v : Value} {d : DataW H} {ps : List MemPlace} (hu : P.underlying t = some (.slice e)) (hO : Opn P t S) (h1 : One S) (hval : Value.okWide P W r b0 t v) (hd : DataW.Trod enc P W 0 (fun _ => true) true t v d ps) :
  ∃ a, S a ∧ Rel (gW W) a v := by
 obtain ⟨a, len, cap, rfl⟩ := okWide_slice hu hval
 obtain ⟨fuel, hf⟩ := hd
 obtain ⟨y, hy, hr⟩ := hO H enc W fuel _ _ hf
 rw [h1 y hy] at hr
 exact ⟨y, hy, RelK.one (by simpa [Value.cells] using hr)⟩
theorem q5y {G : Gh} (s : ByteArray) : Rel G (Sv s.data.toList) (.string s) := by rw [q2v]; exact .v _
theorem q2f {H : Type} {enc : TypeId × Value → H} {P : Program} {W W' : World} {t : TypeId} (hl : laidOutB P = true) (hr : P.readableRec t = true) (hrow : t < P.types.size) {sp : Nat → Bool} {v : Value} {d : DataW H} {ps : List MemPlace}
  (hd : DataW.Trod enc P W 0 (fun _ => true) true t v d ps) (hb : Below W.heap.size W W') (hlt : ∀ p ∈ ps, p.block < W.heap.size) (hs : ∀ p ∈ ps, sp p.block = true) : DataW.Trod enc P W' 0 sp true t v d ps :=
 Go.WideElems.Trod_stays hl hr hrow hd (fun p hp => hb.same (hlt p hp)) hs
end Go.Av
set_option maxRecDepth 100000
set_option linter.unusedVariables false
namespace Go.Proofs.YtefmcijohgpfhaaGreatDoor
open Go Go.Av Go.RowKit Go.Proofs Go.Pl
theorem q29 : Opn Tryz.prog 69 fun a => ∃ f : FldV, a = fldA f := by
 intro H enc W fuel cs x h
 obtain ⟨a, ⟨vs, rfl, hl, hv⟩, hr⟩ := qnx (As := [(some .string, IsS), (some .string, IsS)]) (by kernel_rfl) (by kernel_rfl) (by kernel_rfl) (by kernel_rfl)
  (List.forall_mem_cons.2 ⟨⟨fun _ h => q2p h, q21⟩, List.forall_mem_cons.2 ⟨⟨fun _ h => q2p h, q21⟩, nofun⟩⟩) H enc W fuel cs x h
 match vs, hl with
 | [v0, v1], _ =>
  obtain ⟨l0, rfl, _⟩ := hv 0 _ _ rfl rfl
  obtain ⟨l1, rfl, _⟩ := hv 1 _ _ rfl rfl
  exact ⟨_, ⟨(l0, l1), rfl⟩, hr⟩
theorem q12 {t : TypeId} (hu : Tryz.prog.underlying t = some (.slice 69)) : Opn Tryz.prog t fun a => ∃ xs : List FldV, a = ju xs ∧ xs.length ≤ maxLen := by
 intro H enc W fuel cs x h
 obtain ⟨a, ⟨xs, rfl, hl, hx⟩, hr⟩ := qy0 (sz := 2) hu (by kernel_rfl) (by decide) q29 H enc W fuel cs x h
 obtain ⟨rs, rfl⟩ := qvm hx
 exact ⟨_, ⟨rs, rfl, by simpa using hl⟩, hr⟩
theorem q05 : One fun a => ∃ xs : List FldV, a = ju xs ∧ xs.length ≤ maxLen := by rintro _ ⟨xs, rfl, _⟩; rfl
theorem qxw {n : Nat} (h : n ≤ maxLen) : n < 9223372036854775808 := by unfold maxLen at h; omega
end Go.Proofs.YtefmcijohgpfhaaGreatDoor
set_option maxRecDepth 100000
set_option linter.unusedVariables false
namespace Go.Proofs.YtefmcijohgpfhaaGreatDoor
open Go Go.Av Go.RowKit Go.Proofs Go.Pl
structure qu where
 kind : Int
 id : Int
 fields : List FldV
@[reducible] def wi (e : qu) : AV := .ag [Iv e.kind, Iv e.id, ju e.fields]
def yp (k : Int) : qa := if k = 1 then [32, 114, 101, 112, 108, 97, 99, 101, 32] else if k = 2 then [32, 100, 101, 108, 101, 116, 101, 32] else if k = 3 then [32, 105, 110, 115, 101, 114, 116, 32] else []
def j6 (e : qu) : qa := if 1 ≤ e.kind ∧ e.kind ≤ 3 then yp e.kind ++ Lib.itoa e.id else []
def yw (k : Int) : qa := if k = 1 then [114, 101, 112, 108, 97, 99, 101] else if k = 2 then [100, 101, 108, 101, 116, 101] else if k = 3 then [105, 110, 115, 101, 114, 116] else []
theorem qoh (k : Int) (st : List AObj) : qm E 75 [Iv k] st fun r st' => r = Sv (yw k) ∧ st' = st := by
 refine q8 (zd _) (qq Tryz.func75 rfl (Nat.le_of_ble_eq_true rfl) ?_)
 repeat' (first
  | apply qj
  | apply qt
  | apply qb
  | apply qg
  | apply qh
  | apply qc
  | (apply qo; (iterate 3 exact rfl))
  | (apply qd; exact rfl; first | (apply qy; (first | assumption | omega)) | (apply q4; (first | assumption | omega)) | (apply q5; (first | exact rfl | assumption)) | (apply qz; (first | exact rfl | assumption)) | (apply cd_n <;> intro h) | (apply cd_t; (first | exact rfl | assumption)) | (apply cd_f; (first | exact rfl | assumption)) | (apply cd_d <;> intro h) | (apply cd_s <;> intro h))
  | apply qv
  | apply qs)
 all_goals refine qk rfl (ze rfl) ⟨congrArg (fun l : qa => Sv l) (?_ : _ = yw k), _, rfl⟩
 all_goals simp_all [yw]
theorem qzz (k : Int) : (yw k).length ≤ 7 := by
 unfold yw
 repeat' split
 all_goals simp
theorem qt0 (k : Int) : yp k = if yw k = [] then [] else [32] ++ yw k ++ [32] := by
 unfold yp yw
 repeat' split
 all_goals simp_all
theorem qx6 (k : Int) : yw k = [] ↔ ¬ (1 ≤ k ∧ k ≤ 3) := by
 unfold yw
 repeat' split
 all_goals simp_all
 omega
theorem q5g (e : qu) (st : List AObj) (h1 : -9223372036854775808 ≤ e.id) (h2 : e.id ≤ 9223372036854775807) : qm E 48 [wi e] st fun r st' => r = Sv (j6 e) ∧ st' = st := by
 refine q8 (zd _) (qq Tryz.func48 rfl (Nat.le_of_ble_eq_true rfl) ?_)
 have hn := Lib.itoa_length_le e.id h1 h2
 have hw := qzz e.kind
 have ho := qt0 e.kind
 have hz := qx6 e.kind
 repeat' (first
  | apply qj
  | apply qb
  | apply qg
  | apply qh
  | apply qc
  | (apply z4; (iterate 3 exact rfl))
  | (apply qd; exact rfl; first | (apply qy; (first | assumption | omega)) | (apply q4; (first | assumption | omega)) | (apply q5; (first | exact rfl | assumption)) | (apply qz; (first | exact rfl | assumption)) | (apply cd_n <;> intro h) | (apply cd_t; (first | exact rfl | assumption)) | (apply cd_f; (first | exact rfl | assumption)) | (apply cd_d <;> intro h) | (apply cd_s <;> intro h))
  | (apply ji; exact rfl; exact rfl; (first | omega | (simp only [List.length_append, List.length_cons, List.length_nil]; omega) | (simp; omega)))
  | (apply vi; (iterate 4 exact rfl))
  | (apply q9; (iterate 3 exact rfl))
  | (apply zm; (iterate 5 exact rfl))
  | apply qv
  | apply qs
  | (apply qe; exact Tryz.call75; exact qoh _ _)
  | (apply qe; exact Tryz.call87; exact qj8 _ _ h1 h2))
 all_goals refine qk rfl (ze rfl) ⟨congrArg (fun l : qa => Sv l) (?_ : _ = j6 e), _, rfl⟩
 all_goals unfold j6
 ·rw [if_neg (by simp_all)]
 ·rw [if_pos (by simp_all), ho, if_neg (by assumption)]
end Go.Proofs.YtefmcijohgpfhaaGreatDoor
set_option linter.unusedVariables false
namespace Go.Av
open Go Go.RowKit
def noop (o : Oper) : Oper := { o with op := .move (.const undef), guard := none }
section
variable {F : Fence} {n : Nat} {P : Program} {ops ops' : Array Oper} {md : Region.Mode} {C : World → Prop} {Q : Exit → Act → World → Prop} {k : Nat} {o : Oper}
theorem qhf {listed : Array Bool} : ∀ k, listed.getD k true = false → ∃ j, j ≤ k ∧ listed.getD j true = false ∧ ∀ i, i < j → listed.getD i true = true := by
 intro k
 induction k using Nat.strongRecOn with
 | _ k ih =>
  intro h
  by_cases hall : ∀ i, i < k → listed.getD i true = true
  ·exact ⟨k, Nat.le_refl _, h, hall⟩
  ·have ⟨i, hi⟩ := Classical.not_forall.1 hall
   have ⟨hi1, hi2⟩ := Classical.not_imp.1 hi
   obtain ⟨j, h1, h2, h3⟩ := ih i hi1 (by simpa using hi2)
   exact ⟨j, by omega, h2, h3⟩
theorem qql {listed : Array Bool} {i : Nat} (h : listed.getD i true = true) (hi : i < listed.size) : listed.getD i false = true := by
 simp [Array.getD, hi] at h ⊢
 exact h
theorem qt6 {listed : Array Bool} {i : Nat} (h : listed.getD i true = false) (h2 : listed.getD i false = true) : False := by
 unfold Array.getD at h h2
 by_cases hi : i < listed.size
 ·rw [dif_pos hi] at h h2
  rw [h] at h2
  cases h2
 ·rw [dif_neg hi] at h
  cases h
theorem qln {listed : Array Bool} {j : Nat} (hsz : listed.size = ops.size) (hord : ∀ (j : Nat) o, ops[j]? = some o → ∀ e ∈ o.after, e.on < j) (hj : listed.getD j true = false) (hall : ∀ i, i < j → listed.getD i true = true) : j ∈ Region.ready md ops listed := by
 have hlt : j < listed.size := by
  rcases Nat.lt_or_ge j listed.size with h | h
  ·exact h
  ·simp [Array.getD, Nat.not_lt.2 h] at hj
 rw [mem_ready]
 have ho : ops[j]? = some ops[j] := Array.getElem?_eq_getElem (by omega)
 exact ⟨hj, _, ho, fun e he _ => qql (hall _ (hord j _ ho e he)) (by have := hord j _ ho e he; omega)⟩
theorem qig {listed : Array Bool} (hs : ops.size = ops'.size) (hk : ops[k]? = some o) (hk' : ops'[k]? = some (noop o)) (hoth : ∀ j, j ≠ k → ops'[j]? = ops[j]?) : Region.ready md ops' listed = Region.ready md ops listed := by
 unfold Region.ready
 rw [hs]
 refine List.filter_congr fun i _ => ?_
 by_cases h : i = k
 ·subst h; rw [hk, hk']; rfl
 ·rw [hoth i h]
theorem qs8 (hd : o.dst = none) (hk : ops[k]? = some o) (hk' : ops'[k]? = some (noop o)) (hoth : ∀ j, j ≠ k → ops'[j]? = ops[j]?) (t : Array Value) : yielded ops' t = yielded ops t := by
 funext j
 unfold yielded
 by_cases h : j = k
 ·subst h; rw [hk, hk']; simp [noop, hd]
 ·rw [hoth j h]
theorem qj1 (hro : F.round = none) (hsz : ops.size = ops'.size) (hk : ops[k]? = some o) (hk' : ops'[k]? = some (noop o)) (hoth : ∀ j, j ≠ k → ops'[j]? = ops[j]?) (hd : o.dst = none)
  (hord : ∀ (j : Nat) o, ops[j]? = some o → ∀ e ∈ o.after, e.on < j) (hcov : ∀ j, j < ops.size → j ≠ k → ∃ e ∈ o.after, Region.binds md e = true ∧ e.on = j) :
  ∀ (fuel : Nat) (listed : Array Bool) (a : Act) (w : World), C w → listed.size = ops.size → listed.getD k true = false → wpAnyQIn F n P md ops' C (fun a => ∀ w, C w → wpOpIn F n P ops Q k (Q .normal) a w) fuel listed a → wpAnyIn F n P md ops Q fuel listed a w
 | 0, listed, a, w, hC, hs, hun, h => by
  have ⟨j, _, h2, h3⟩ := qhf k hun
  have := qln (md := md) hs hord h2 h3
  rw [← qig hsz hk hk' hoth, h.1] at this
  cases this
 | fuel + 1, listed, a, w, hC, hs, hun, h => by
  obtain ⟨hq1, hq2⟩ := h
  rw [qig hsz hk hk' hoth] at hq1 hq2
  refine ⟨fun h0 => ?_, fun i hi => ?_⟩
  ·have ⟨j, _, h2, h3⟩ := qhf k hun
   have := qln (md := md) hs hord h2 h3
   rw [h0] at this
   cases this
  ·have hqi := hq2 i hi
   by_cases hik : i = k
   ·subst hik
    obtain ⟨_, o', ho', hall⟩ := mem_ready.1 hi
    rw [hk] at ho'
    cases ho'
    have hr : Region.ready md ops (listed.setIfInBounds i true) = [] := by
     rw [List.eq_nil_iff_forall_not_mem]
     intro j hj
     obtain ⟨hju, oj, hoj, _⟩ := mem_ready.1 hj
     have hjs : j < ops.size := by
      rcases Nat.lt_or_ge j ops.size with h | h
      ·exact h
      ·rw [Array.getElem?_eq_none h] at hoj; cases hoj
     by_cases hji : j = i
     ·subst hji
      simp [Array.getD, hs, hjs] at hju
     ·obtain ⟨e, he, hb, heq⟩ := hcov j hjs hji
      have h5 := hall e he hb
      rw [heq] at h5
      rw [getD_set_ne true (Ne.symm hji)] at hju
      exact qt6 hju h5
    unfold qOpIn at hqi
    rw [hk'] at hqi
    simp only at hqi
    have hqe := hqi.2
    have hwn : Region.wanted (noop o) (yielded ops' a.tmps) = true := by simp [noop, Region.wanted]
    rw [if_pos hwn] at hqe
    obtain ⟨v, _, hK⟩ := hqe
    have hput : a.put (noop o).dst v = a := by simp [noop, hd, Act.put]
    rw [hput] at hK
    have hQ' : ∀ w, C w → wpOpIn F n P ops Q i (Q .normal) a w := by
     cases fuel with
     | zero => exact hK.2
     | succ fuel => exact hK.1 (by rw [qig hsz hk hk' hoth]; exact hr)
    exact wpOpIn_mono (fun a' w' h' => wpAnyIn_done hr h' _) (hQ' w hC)
   ·have he : qOpIn F n P ops C i (wpAnyQIn F n P md ops' C (fun a => ∀ w, C w → wpOpIn F n P ops Q k (Q .normal) a w) fuel (listed.setIfInBounds i true)) a := by
     unfold qOpIn at hqi ⊢
     rw [hoth i hik] at hqi
     rw [← qs8 hd hk hk' hoth]
     exact hqi
    refine wpOpIn_of_qOpIn hro hC (fun a' w' hC' hX => qj1 hro hsz hk hk' hoth hd hord hcov fuel _ a' w' hC' (by simpa using hs) ?_ hX) he
    rw [getD_set_ne true hik]
    exact hun
def qc7 {α : Type} : List α → Option (List α × α)
 | [] => none
 | [x] => some ([], x)
 | x :: y :: r => match qc7 (y :: r) with
  | some (l, o) => some (x :: l, o)
  | none => none
theorem qjm {α : Type} : ∀ {L l : List α} {o : α}, qc7 L = some (l, o) → L = l ++ [o]
 | [], _, _, h => by simp [qc7] at h
 | [x], _, _, h => by simp [qc7] at h; obtain ⟨rfl, rfl⟩ := h; rfl
 | x :: y :: r, l, o, h => by
  unfold qc7 at h
  split at h
  ·rename_i l' o' he
   simp only [Option.some.injEq, Prod.mk.injEq] at h
   obtain ⟨rfl, rfl⟩ := h
   rw [qjm he]
   rfl
  ·simp at h
def qu4 (o : Oper) (k : Nat) : Bool := (List.range k).all fun j => o.after.toList.any fun e => Region.binds .any e && Nat.beq e.on j
def qso (ops : List Oper) : Bool := (List.range ops.length).all fun j => match ops[j]? with | some o => o.after.toList.all fun e => Nat.blt e.on j | none => true
end
section
variable {E : Env} {N : Nat} {s : AS}
theorem qxs {id : Nat} {L l : List Oper} {o : Oper} {Q : Exit → AS → Prop} (hsp : qc7 L = some (l, o)) (hd : o.dst = none) (hcov : qu4 o l.length = true) (hord : qso L = true) (hm : E.P.follows .mixedOrders = true) (hB : Region.lexB .any (l ++ [noop o]).toArray = true)
  (h : AQ E N (l ++ [noop o]).toArray l (fun s' => AOps E none N L.toArray [o] (Q .normal) s') s) : AWp E none N (.region id L.toArray true) Q s := by
 have hLe := qjm hsp
 subst hLe
 refine ⟨fun B0 w0 G a w hL hI => ?_⟩
 have hB2 := hB
 simp only [Region.lexB, Bool.and_eq_true] at hB2
 have hk : (l ++ [o]).toArray[l.length]? = some o := by simp
 have hk' : (l ++ [noop o]).toArray[l.length]? = some (noop o) := by simp
 have hoth : ∀ j, j ≠ l.length → (l ++ [noop o]).toArray[j]? = (l ++ [o]).toArray[j]? := fun j hj => by
  simp only [List.getElem?_toArray]
  rcases Nat.lt_or_ge j l.length with h | h
  ·rw [List.getElem?_append_left h, List.getElem?_append_left h]
  ·rw [List.getElem?_eq_none (by simp; omega), List.getElem?_eq_none (by simp; omega)]
 have hordP : ∀ (j : Nat) o', (l ++ [o]).toArray[j]? = some o' → ∀ e ∈ o'.after, e.on < j := fun j o' hj e he => by
  simp only [qso, List.all_eq_true, List.mem_range] at hord
  simp only [List.getElem?_toArray] at hj
  have h1 := hord j (lt_of_getElem? hj)
  rw [hj] at h1
  simp only at h1
  have h2 := List.all_eq_true.1 h1 e (by simpa using he)
  exact Nat.le_of_ble_eq_true h2
 have hcovP : ∀ j, j < (l ++ [o]).toArray.size → j ≠ l.length → ∃ e ∈ o.after, Region.binds .any e = true ∧ e.on = j := fun j hj hne => by
  simp only [qu4, List.all_eq_true, List.mem_range] at hcov
  have h1 := hcov j (by simp at hj; omega)
  obtain ⟨e, he, h2⟩ := List.any_eq_true.1 h1
  simp only [Bool.and_eq_true] at h2
  exact ⟨e, by simpa using he, h2.1, Nat.eq_of_beq_eq_true h2.2⟩
 have hBl : Below w.heap.size w { w with drawn := w.drawn + 1 } := ⟨rfl, rfl, rfl, Nat.le_refl _, fun _ _ => rfl⟩
 refine wpIn_region_any hm (qj1 (C := fun w' => Below w.heap.size w w') (ops' := (l ++ [noop o]).toArray) (k := l.length) rfl (by simp) hk hk' hoth hd hordP hcovP _ _ _ _ hBl (by simp) (by simp [Array.getD]) ?_)
 have hq : wpQuietIn (fw none) 0 E.P (l ++ [noop o]).toArray (fun w' => Below w.heap.size w w') (fun a => ∀ w', Below w.heap.size w w' → wpOpIn (fw none) 0 E.P (l ++ [o]).toArray (fun e a' w' => ∃ (G' : Gh) (s' : AS), G.le G' ∧ Inv B0 w0 N G' s' a' w' ∧ Q e s') l.length (fun a' w' => ∃ (G' : Gh) (s' : AS), G.le G' ∧ Inv B0 w0 N G' s' a' w' ∧ Q .normal s') a w') (l ++ [noop o]) a := by
  have step : ∀ (l1 : List Oper) (a : Act) (X : Act → Prop), wpQuietIn (fw none) 0 E.P (l ++ [noop o]).toArray (fun w' => Below w.heap.size w w') X l1 a → wpQuietIn (fw none) 0 E.P (l ++ [noop o]).toArray (fun w' => Below w.heap.size w w') X (l1 ++ [noop o]) a := by
   intro l1
   induction l1 with
   | nil =>
    intro a X hX
    refine ⟨fun _ _ _ hf => ?_, ?_⟩
    ·simp [Oper.about, noop] at hf
    ·have hwn : Region.wanted (noop o) (yielded (l ++ [noop o]).toArray a.tmps) = true := by simp [noop, Region.wanted]
     rw [if_pos hwn]
     refine ⟨undef, fun w' _ => ?_, ?_⟩
     ·unfold Oper.quietAtIn
      simp [noop, execOp, Oper.quietUponIn, Act.eval]
     ·have hput : a.put (noop o).dst undef = a := by simp [noop, hd, Act.put]
      rw [hput]
      exact hX
   | cons o1 l1 ih =>
    intro a X hX
    refine ⟨hX.1, ?_⟩
    have h2 := hX.2
    split
    ·rename_i hw
     rw [if_pos hw] at h2
     obtain ⟨v, h3, h4⟩ := h2
     exact ⟨v, h3, ih _ _ h4⟩
    ·rename_i hw
     rw [if_neg hw] at h2
     exact ih _ _ h2
  refine step l a _ (h.run B0 w0 G a w hL hI _ fun s' a' hI' hst hks w' hw' => ?_)
  have hI2 : Inv B0 w0 N G s' a' w' := ⟨hI'.agree.fresh hw', hI'.defers, hI'.size, hI'.tmps⟩
  have hr := hks.run B0 w0 G a' w' hL hI2 (fun e a' w' => ∃ (G' : Gh) (s' : AS), G.le G' ∧ Inv B0 w0 N G' s' a' w' ∧ Q e s') (fun G' s'' a'' w'' hG hI3 hQ => ⟨G', s'', hG, hI3, hQ⟩)
  unfold wpOpIn
  rw [hk]
  exact hr
 have := wpAnyQIn_lex (F := fw none) (n := 0) (C := fun w' => Below w.heap.size w w') (md := .any) hB2.1 (l ++ [noop o]) 0 (Array.replicate (l ++ [noop o]).length false) a (by simp) (by simpa using hB2.2) hq
 simpa using this
variable {ops : Array Oper} {K : AS → Prop} {rest : List Oper} {d : Option Tmp} {T : TypeId} {p : String} {af : Array Edge}
theorem qcv {x y : Operand} {t t' : TypeId} {m n : List UInt8} (hx : qf N s x = Sv m) (hy : qf N s y = Sv n) (hl : m.length + n.length < 9223372036854775808)
  (h : AQ E N ops rest K (s.put d (Sv (m ++ n)))) : AQ E N ops (⟨d, .binOp .add t x y t', T, p, af, none⟩ :: rest) K s :=
 xg _ rfl nofun (fun a w he => by
  simp only [execOp, he _ _ hx, he _ _ hy, eqGuard_at_string, binOp, Op.stringOp, x4, qpc, IntKind.max_i64]
  rw [if_neg (by omega)]
  simp) h
theorem qvd {op : BinOp} {x y : Operand} {t t' : TypeId} {k : IntKind} {m n : Int} {b : Bool} (hx : qf N s x = .v (.int k m)) (hy : qf N s y = .v (.int k n)) (hb : cmpI op m n = some b)
  (h : AQ E N ops rest K (s.put d (Bv b))) : AQ E N ops (⟨d, .binOp op t x y t', T, p, af, none⟩ :: rest) K s :=
 xg _ rfl nofun (fun a w he => by
  cases op <;> simp only [cmpI, Option.some.injEq, reduceCtorEq] at hb <;> subst hb <;> simp [execOp, he _ _ hx, he _ _ hy, eqGuard_at_int, binOp, Op.intCmp, ← Bool.beq_eq_decide_eq, bne]) h
theorem km {x y : Operand} {t e : TypeId} {sz : Nat} {agg : Bool} {xs : List AV} {tip : Option Nat} {k : IntKind} {i : Int} {n : Nat} {z : AV} (hx : qf N s x = .sl sz xs tip) (hy : qf N s y = .v (.int k i)) (hu : E.P.underlying t = some (.slice e)) (ht : tyOf E.P e = some (sz, agg)) (hi : i = n) (hz : xs[n]? = some z)
  (h : AQ E N ops rest K (s.put d (.pp z.cells))) : AQ E N ops (⟨d, .indexAddr t x y, T, p, af, none⟩ :: rest) K s := by
 refine qaq rfl nofun fun B0 w0 G a w _ hI => ?_
 subst hi
 have he := hI.eval_of hx
 have hey := hI.evalv hy
 generalize hv : a.eval x = v at he
 have hlt := lt_of_getElem? hz
 cases he with
 | sl0 => simp at hz
 | sl _ _ _ b off cap pub hp hw hlen hrel htip hcap =>
  have hzs : z.cells.length = sz := hw z (List.mem_of_getElem? hz)
  have hfl := v4 hw
  have hle : (n + 1) * sz ≤ xs.length * sz := Nat.mul_le_mul_right _ hlt
  rw [Nat.succ_mul] at hle
  refine ⟨.pointer (some ⟨b, off + n * sz, none⟩), .pp z.cells, fun w' _ => ?_, ?_, h⟩
  ·generalize a.eval = ρ at hv hey
   simp only [execOp, hv, hey]
   simp [Instr.indexAt, asIntOf, run_underlying hu, hlt, (kr ht w').1, Addr.add_lit]
  ·refine .pp _ b _ pub hp (by omega) fun j q r h1 h2 => ?_
   have hj : j < sz := by have := lt_of_getElem? h1; omega
   have hf := qia hw hz j hj
   exact hrel (n * sz + j) q r (by rw [hf]; exact h1) (by rw [← h2]; congr 1; omega)
theorem qng {x y : Operand} {t e : TypeId} {sz : Nat} {agg : Bool} {o ver off len cp : Nat} {k : IntKind} {i : Int} {n : Nat} (hx : qf N s x = .os o ver off len cp) (hy : qf N s y = .v (.int k i)) (hu : E.P.underlying t = some (.slice e)) (ht : tyOf E.P e = some (sz, agg)) (hi : i = n) (hn : n < len)
  (h : AQ E N ops rest K (s.put d (.bx o ver (off + n * sz)))) : AQ E N ops (⟨d, .indexAddr t x y, T, p, af, none⟩ :: rest) K s := by
 refine qaq rfl nofun fun B0 w0 G a w _ hI => ?_
 subst hi
 have he := hI.eval_of hx
 have hey := hI.evalv hy
 generalize hv : a.eval x = v at he
 cases he with
 | os _ _ _ _ b cap hn' hver hb =>
  refine ⟨.pointer (some ⟨b, off + n * sz, none⟩), _, fun w' _ => ?_, .bx o ver _ b hn' hver hb, h⟩
  generalize a.eval = ρ at hv hey
  simp only [execOp, hv, hey]
  simp [Instr.indexAt, asIntOf, run_underlying hu, hn, (kr ht w').1, Addr.add_lit]
theorem yl {t : TypeId} {x : Operand} {f off sz : Nat} {agg : Bool} {o ver q : Nat} (hx : qf N s x = .bx o ver q) (hf : yj E.P t f = some (off, sz, agg)) (hsz : Nat.beq sz 0 = false)
  (h : AQ E N ops rest K (s.put d (.bx o ver (q + off)))) : AQ E N ops (⟨d, .fieldAddr t x f, T, p, af, none⟩ :: rest) K s := by
 refine qaq rfl nofun fun B0 w0 G a w _ hI => ?_
 have he := hI.eval_of hx
 generalize hv : a.eval x = v at he
 cases he with
 | bx _ _ _ b hn hv' hb =>
  have hs : sz ≠ 0 := fun e => by subst e; simp at hsz
  exact ⟨_, _, fun w' _ => by simp only [execOp, hv]; simp [qea hf hs], .bx o ver _ b hn hv' hb, h⟩
theorem vh {t : TypeId} {x : Operand} {f off sz : Nat} {agg : Bool} {cs : List AV} (hx : qf N s x = .pp cs) (hf : yj E.P t f = some (off, sz, agg)) (hsz : Nat.beq sz 0 = false) (hle : Nat.ble off cs.length = true)
  (h : AQ E N ops rest K (s.put d (.pp (cs.drop off)))) : AQ E N ops (⟨d, .fieldAddr t x f, T, p, af, none⟩ :: rest) K s := by
 refine qaq rfl nofun fun B0 w0 G a w _ hI => ?_
 have he := hI.eval_of hx
 generalize hv : a.eval x = v at he
 cases he with
 | pp _ b q pub hp hlen hrel =>
  have hs : sz ≠ 0 := fun e => by subst e; simp at hsz
  have ho : off ≤ cs.length := Nat.le_of_ble_eq_true hle
  refine ⟨.pointer (some ⟨b, q + off, none⟩), _, fun w' _ => by simp only [execOp, hv]; simp [qea hf hs], ?_, h⟩
  exact .pp _ b (q + off) pub hp (by simp; omega) fun i x y h1 h2 => hrel (off + i) x y (by simpa using h1) (by rw [← h2]; congr 1; omega)
theorem v8 {x : Operand} {t : TypeId} {sz : Nat} {agg : Bool} {cs : List AV} {r : AV} (hx : qf N s x = .pp cs) (ht : tyOf E.P t = some (sz, agg)) (hr : jj sz agg 0 cs = some r)
  (h : AQ E N ops rest K (s.put d r)) : AQ E N ops (⟨d, .load t x, T, p, af, none⟩ :: rest) K s := by
 refine qaq rfl nofun fun B0 w0 G a w _ hI => ?_
 have he := hI.eval_of hx
 generalize hv : a.eval x = v at he
 cases he with
 | pp _ b off pub hp hlen hrel =>
  obtain ⟨c, T', fz, hc, hcc⟩ := hI.agree.pub b pub hp
  have hlt : b < w.heap.size := hI.agree.pub_lt hp
  have key : ∀ w', Below w.heap.size w w' → ∃ v, (loadVar t ⟨b, off, none⟩).run E.P w' = .ok v w' ∧ Rel G r v := fun w' hw' => by
   have h4' : w'.heap[b]? = some (.cells c T' fz) := by rw [hw'.block _ hlt]; exact hc
   exact x5 (w := w') (G := G) (b := b) (off := off) ht (fun i x hx _ => by
    have hi := lt_of_getElem? hx
    have hy : pub[off + i]? = some (pub[off + i]'(by omega)) := List.getElem?_eq_getElem (by omega)
    refine ⟨_, ?_, hrel i x _ hx hy⟩
    simp [World.cell?, h4', hcc _ _ hy]) hr
  have hg : ∀ w', Below w.heap.size w w' → ∀ j, j < cs.length → w'.cell? ⟨b, off + j, none⟩ = some (pub.getD (off + j) undef) := fun w' hw' j hj => by
   have h4' : w'.heap[b]? = some (.cells c T' fz) := by rw [hw'.block _ hlt]; exact hc
   have hlt2 : off + j < pub.length := by omega
   have hy : pub[off + j]? = some (pub.getD (off + j) undef) := by simp [List.getD, hlt2]
   simp [World.cell?, h4', hcc _ _ hy]
  have hsame : ∀ w', Below w.heap.size w w' → ∀ v, (loadVar t ⟨b, off, none⟩).run E.P w = .ok v w → (loadVar t ⟨b, off, none⟩).run E.P w' = .ok v w' := fun w' hw' v hr1 => by
   obtain ⟨i1, i2⟩ := kr ht w
   obtain ⟨j1, j2⟩ := kr ht w'
   obtain ⟨v', h1', _⟩ := key w' hw'
   rw [h1']
   congr 1
   cases agg with
   | false =>
    simp only [jj, cond_false] at hr
    have h0 := lt_of_getElem? hr
    have e1 := hg w (Below.refl _ _) 0 h0
    have e2 := hg w' hw' 0 h0
    rw [Nat.add_zero] at e1 e2
    simp [loadVar, i2, run_load, e1] at hr1
    simp [loadVar, j2, run_load, e2] at h1'
    rw [← h1', hr1]
   | true =>
    simp only [jj, cond_true] at hr
    cases hb2 : Nat.ble (0 + sz) cs.length with
    | false => rw [hb2] at hr; simp at hr
    | true =>
     have hle : 0 + sz ≤ cs.length := Nat.le_of_ble_eq_true hb2
     have l1 := run_loadCells (P := E.P) (w := w) ⟨b, off, none⟩ sz (fun j => pub.getD (off + j) undef) (fun j hj => by rw [Addr.add_lit]; exact hg w (Below.refl _ _) j (by omega))
     have l2 := run_loadCells (P := E.P) (w := w') ⟨b, off, none⟩ sz (fun j => pub.getD (off + j) undef) (fun j hj => by rw [Addr.add_lit]; exact hg w' hw' j (by omega))
     simp [loadVar, i1, i2, l1] at hr1
     simp [loadVar, j1, j2, l2] at h1'
     rw [← h1', hr1]
  obtain ⟨v, hrun, hR⟩ := key w (Below.refl _ _)
  exact ⟨v, r, fun w' hw' => by simp only [execOp, hv, Instr.loadAt, Instr.sureAddr]; simp [hsame w' hw' v hrun], hR, h⟩
theorem qj4 {x y : Operand} {t t' : TypeId} {k : IntKind} {m n r : Int} (hx : qf N s x = .v (.int k m)) (hy : qf N s y = .v (.int k n)) (hr : k.wrap (m - n) = r)
  (h : AQ E N ops rest K (s.put d (.v (.int k r)))) : AQ E N ops (⟨d, .binOp .sub t x y t', T, p, af, none⟩ :: rest) K s :=
 xg _ rfl nofun (fun a w he => by rw [← hr]; simp [execOp, he _ _ hx, he _ _ hy, eqGuard_at_int, binOp, Op.intArith]) h
theorem qhr {x y z : Operand} {t : TypeId} {k k' : IntKind} {l : List UInt8} {i j : Nat} (hx : qf N s x = Sv l) (hy : qf N s y = .v (.int k' (i : Int))) (hz : qf N s z = .v (.int k (j : Int))) (hu : E.P.underlying t = some .string) (h1 : i ≤ j) (h2 : j ≤ l.length)
  (h : AQ E N ops rest K (s.put d (Sv ((l.take j).drop i)))) : AQ E N ops (⟨d, .slice t x (some y) (some z) none, T, p, af, none⟩ :: rest) K s :=
 qmc (i := i) (j := j) hx hu ⟨_, hy⟩ ⟨_, hz⟩ (by omega) (by omega) (by omega) (by simpa using h)
theorem qhl {x : Operand} {ts : Array TypeId} {t0 e : TypeId} {v : AV} {n : Nat} (hx : qf N s x = v) (hl : lenA v = some n) (ht : ts[0]? = some t0) (hu : E.P.underlying t0 = some (.slice e))
  (h : AQ E N ops rest K (s.put d (Iv n))) : AQ E N ops (⟨d, .call ⟨.builtin .len, #[x], ts⟩, T, p, af, none⟩ :: rest) K s := by
 refine qaq rfl nofun fun B0 w0 G a w _ hI => ?_
 have he := hI.eval_of hx
 have key : ∃ b c, a.eval x = .slice b n c := by
  generalize a.eval x = u at he
  cases he <;> simp [lenA] at hl
  case v y =>
   cases u <;> simp at hl
   subst hl
   exact ⟨_, _, rfl⟩
  case sl0 => subst hl; exact ⟨_, _, rfl⟩
  case sl => subst hl; exact ⟨_, _, rfl⟩
  case os => subst hl; exact ⟨_, _, rfl⟩
 obtain ⟨b, c, hv⟩ := key
 refine ⟨.int .i64 n, Iv n, fun w' _ => ?_, .v _, h⟩
 generalize a.eval = ρ at hv
 simp [execOp, resolve, invoke, builtin, Builtin.len_, hv, ht, run_underlying hu, goInt]
theorem qcd {x : Operand} {t : TypeId} {sz : Nat} {agg : Bool} {st loc ext new : List AObj} {k ver off : Nat} {T' : TypeId} {cs : List AV} {r : AV} (hs : s.st = ((st ++ loc) ++ ext) ++ new) (hx : qf N s x = .bx (st.length + k) ver off) (ho : loc[k]? = some (.cells ver T' cs)) (ht : tyOf E.P t = some (sz, agg)) (hr : jj sz agg off cs = some r)
  (h : AQ E N ops rest K (s.put d r)) : AQ E N ops (⟨d, .load t x, T, p, af, none⟩ :: rest) K s :=
 qm6 hx (by rw [hs]; exact qa9 ho) ht hr h
end
end Go.Av
set_option linter.unusedVariables false
namespace Go.Av
open Go Go.RowKit
section
variable {B0 : Nat} {w0 : World} {G : Gh} {st : List AObj} {w : World}
theorem zk.pubOb (h : zk B0 w0 G st w) {o ver : Nat} {T : TypeId} {cs : List AV} (ho : st[o]? = some (.cells ver T cs)) :
  ∃ vs : List Value, G.le (G.publish (G.ob o).blk vs) ∧ zk B0 w0 (G.publish (G.ob o).blk vs) (st.set o .dead) w ∧ (G.ob o).ver = ver ∧ (G.publish (G.ob o).blk vs).pub (G.ob o).blk = some vs ∧ cs.length = vs.length ∧
   ∀ (i : Nat) (x : AV) (y : Value), cs[i]? = some x → vs[i]? = some y → Rel (G.publish (G.ob o).blk vs) x y := by
 obtain ⟨h0, h1, h2, h3, c, h4, h5, h6⟩ := h.ob o _ ho
 have hle : G.le (G.publish (G.ob o).blk c.toList) := G.le_publish _ _ [] [] (.inl h3)
 refine ⟨c.toList, hle, ?_, h1, by simp [Gh.publish], by simpa using h5, fun i x y hx hy => (h6 i x y hx (by simpa using hy)).mono hle⟩
 have key : ∀ (k : Nat) (x : AObj), (st.set o .dead)[k]? = some x → x = .dead ∨ (k ≠ o ∧ st[k]? = some x) := fun k x hx => by
  rcases getElem?_set' _ _ _ _ _ hx with ⟨_, e⟩ | e
  ·exact .inl e
  ·exact .inr e
 refine ⟨h.below, h.hB, by simp [h.n, Gh.publish], fun b vs hb => ?_, fun k x hx => ?_, fun k k' x x' hne hx hx' hl hl' => ?_⟩
 ·simp only [Gh.publish] at hb
  by_cases e : b = (G.ob o).blk
  ·rw [if_pos e] at hb
   cases hb
   subst e
   exact ⟨c, T, (0, 0), h4, fun i y hy => by simpa using hy⟩
  ·rw [if_neg e] at hb
   exact h.pub b vs hb
 ·rcases key k x hx with rfl | ⟨hk, hx⟩
  ·trivial
  ·refine (h.ob k x hx).mono hle rfl (fun hl => ?_) (fun _ => rfl)
   have := h.sep k o x _ hk hx ho hl trivial
   simp [Gh.publish, this]
 ·rcases key k x hx with rfl | ⟨hk, hx⟩
  ·exact hl.elim
  ·rcases key k' x' hx' with rfl | ⟨hk', hx'⟩
   ·exact hl'.elim
   ·exact h.sep k k' x x' hne hx hx' hl hl'
end
section
variable {E : Env} {rd : Option Nat} {N : Nat} {ops : Array Oper} {K : AS → Prop} {s : AS} {rest : List Oper} {d : Option Tmp} {T : TypeId} {p : String} {af : Array Edge}
theorem Inv.pub {B0 : Nat} {w0 : World} {G : Gh} {a : Act} {w : World} (h : Inv B0 w0 N G s a w) {i o ver : Nat} {T' : TypeId} {cs : List AV} (hi : s.t i = .bx o ver 0) (ho : s.st[o]? = some (.cells ver T' cs)) :
  ∃ G', G.le G' ∧ Inv B0 w0 N G' ⟨Av.put s.t i (.pp cs), s.st.set o .dead, s.df⟩ a w := by
 obtain ⟨vs, hle, hA, hv, hp, hl, hr⟩ := h.agree.pubOb ho
 refine ⟨_, hle, hA, h.defers_mono hle, h.size, fun j y hy => ?_⟩
 have hj := h.tmps j y hy
 by_cases e : j = i
 ·subst e
  simp only [xp]
  rw [hi] at hj
  cases hj with
  | bx _ _ _ b hn hv' hb =>
   have hb := hb hv
   subst hb
   exact .pp cs _ 0 vs hp (by omega) fun k x y hx hy => hr k x y hx (by simpa using hy)
 ·simp only
  rw [qa4 _ _ _ _ e]
  exact hj.mono hle
theorem va {x y : Operand} {t : TypeId} {sz : Nat} {agg : Bool} {st loc loc' ext new : List AObj} {k ver off : Nat} {T' : TypeId} {cs xs : List AV} {r : AV} (hs : s.st = ((st ++ loc) ++ ext) ++ new) (hx : qf N s x = .bx (st.length + k) ver off) (hy : qf N s y = r) (ho : loc[k]? = some (.cells ver T' cs)) (ht : tyOf E.P t = some (sz, agg))
  (hok : r.okc = true) (hc : r.cells = xs) (hsz : Nat.beq xs.length sz = true) (h1 : vj xs = true) (hfit : Nat.ble (off + sz) cs.length = true) (hl : loc' = loc.set k (.cells ver T' (vw cs off xs)))
  (h : AOps E rd N ops rest K (AS.put ⟨s.t, ((st ++ loc') ++ ext) ++ new, s.df⟩ d (.v undef))) : AOps E rd N ops (⟨d, .store t x y, T, p, af, none⟩ :: rest) K s := by
 have hk := lt_of_getElem? ho
 exact wv hx hy (by rw [hs]; exact qa9 ho) ht hok hc hsz h1 hfit (by rw [hs, qfm _ hk, ← hl]; exact h)
end
theorem qd2 {α : Type} (l : List α) (a : α) : (l ++ [a]).length = l.length + 1 := by simp
theorem qfl {α : Type} (l : List α) (a : α) : Iv ((l.length : Int) + 1) = Iv ((l ++ [a]).length : Nat) := by rw [qd2]; rfl
theorem qti {α : Type} {sz : Nat} {tip : Option Nat} (x0 : AV) (g : α → AV) (pre : List α) (a : α) (v : AV) (h : v = g a) : AV.sl sz ((x0 :: pre.map g) ++ [v]) tip = AV.sl sz (x0 :: (pre ++ [a]).map g) tip := by rw [List.map_append, h]; rfl
theorem qto {E : Env} {rd : Option Nat} {N : Nat} {ops : Array Oper} {K : AS → Prop} {s : AS} {rest : List Oper} {d : Option Tmp} {T : TypeId} {p : String} {af : Array Edge} {t : TypeId} {st loc : List AObj} {cs : List AV} {n : Nat} (hst : s.st = st ++ loc) (hn : st.length = n) (hz : qe9 E.P t = some cs)
  (h : AOps E rd N ops rest K (AS.put ⟨s.t, st ++ (loc ++ [.cells 0 t cs]), s.df⟩ d (.bx (n + loc.length) 0 0))) : AOps E rd N ops (⟨d, .alloc t, T, p, af, none⟩ :: rest) K s := by
 subst hn
 exact zq hst hz h
theorem qam {E : Env} {rd : Option Nat} {N : Nat} {c : Code} {Q : Exit → AS → Prop} {s : AS} {α : Type} (xs : List α) (I : List α → AS → Prop) (h0 : I [] s) (hend : ∀ s, I xs s → AWp E rd N c (qqq (fun _ => False) Q) s)
  (hstep : ∀ pre a rest s, xs = pre ++ a :: rest → I pre s → AWp E rd N c (qqq (fun s' => I (pre ++ [a]) s') Q) s) : AWp E rd N (.loop c) Q s := by
 refine vq (fun (x : List α × List α) s => xs = x.1 ++ x.2 ∧ I x.1 s) (fun x => x.2.length) ([], xs) ⟨rfl, h0⟩ ?_
 rintro ⟨pre, rest⟩ s ⟨hx, hi⟩
 cases rest with
 | nil =>
  simp only [List.append_nil] at hx
  subst hx
  refine (hend s hi).mono fun e s' h => ?_
  cases e with
  | normal => exact h.elim
  | _ => exact h
 | cons a rest =>
  refine (hstep pre a rest s hx hi).mono fun e s' h => ?_
  cases e with
  | normal => exact ⟨(pre ++ [a], rest), ⟨by rw [hx]; simp, h⟩, by simp⟩
  | _ => exact h
theorem qqk {E : Env} {fn : Func} {R : AV → List AObj → Prop} {s : AS} {st loc ext new : List AObj} {k : Nat} {ds : List Nat} (hs : s.st = ((st ++ loc) ++ ext) ++ new) (hd : s.df = (st.length + k) :: ds) (ho : loc[k]? = some .dfr) (h : ARet E fn R ⟨s.t, ((st ++ loc.set k .dead) ++ ext) ++ new, ds⟩) : ARet E fn R s :=
 qkk hd (by rw [hs]; exact qa9 ho) (by rw [hs, qfm _ (lt_of_getElem? ho)]; exact h)
@[reducible] def qz3 (F : LoopState → Option Code → AObj) (st : List AObj) (own : AObj) (I : List AObj → Prop) (D : Code → List AObj → Prop) : Exit → AS → Prop
 | .normal, s => ∃ l ext new, s.st = ((st ++ (l ++ [.dfr, F .busy none, own])) ++ ext) ++ new ∧ I l
 | .ret, s => ∃ l ext new, s.st = ((st ++ (l ++ [.dfr, F .busy none, own])) ++ ext) ++ new ∧ D .ret l
 | .exit id, s => ∃ l ext new, s.st = ((st ++ (l ++ [.dfr, F .busy none, own])) ++ ext) ++ new ∧ D (.exit id) l
 | _, _ => False
theorem qtm {E : Env} {o : Nat} {xs : List AV} {st st' : List AObj} {R : Bool → List AObj → Prop} (e : st = st') (h : xu E o xs st R) : xu E o xs st' R := e ▸ h
theorem qbl {st l ext : List AObj} {a b c : AObj} {n : Nat} (hl : l.length = n) : (((st ++ (l ++ [a, b, c])) ++ ext))[st.length + (n + 1)]? = some b := by
 subst hl
 rw [List.append_assoc, List.append_assoc, List.getElem?_append_right (by omega), Nat.add_sub_cancel_left, List.getElem?_append_right (by omega)]
 simp
theorem qcx {st l ext : List AObj} {a b c y : AObj} {n : Nat} (hl : l.length = n) : ((st ++ (l ++ [a, b, c])) ++ ext).set (st.length + (n + 1)) y = (st ++ (l ++ [a, y, c])) ++ ext := by
 subst hl
 rw [List.append_assoc, List.append_assoc, List.set_append_right _ _ (by omega), Nat.add_sub_cancel_left, List.set_append_right _ _ (by omega)]
 simp
theorem q1h {E : Env} {N : Nat} {t : Nat → AV} {ps : Array Tmp} {asg body : Code} {st l ext : List AObj} {own : AObj} {n : Nat} {xs : List AV} {F : LoopState → Option Code → AObj} {I : List AObj → Prop} {D : Code → List AObj → Prop} (hF : qi1 F N t ps asg body) (hl : l.length = n) (hps : ps.size = xs.length)
  (hI : ∀ l, I l → l.length = n) (hD : ∀ c l, D c l → l.length = n)
  (h : ∀ rd, AWp E (some rd) N asg (only fun s1 => ∃ new, s1.st = ((st ++ (l ++ [.dfr, F .ready none, own])) ++ ext) ++ new ∧ s1.df = [] ∧ AWp E (some rd) N body (qz3 F st own I D) ⟨s1.t, ((st ++ (l ++ [.dfr, F .busy none, own])) ++ ext) ++ new, []⟩) ⟨qgj t (ps.toList.zip xs), ((st ++ (l ++ [.dfr, F .ready none, own])) ++ ext) ++ [], []⟩) :
  xu E (st.length + (n + 1)) xs ((st ++ (l ++ [.dfr, F .ready none, own])) ++ ext) fun b st2 => ∃ l' ext', (b = true → st2 = (st ++ (l' ++ [.dfr, F .ready none, own])) ++ ext' ∧ I l') ∧ (b = false → ∃ c, st2 = (st ++ (l' ++ [.dfr, F .done (some c), own])) ++ ext' ∧ D c l') := by
 refine qmi hF (qbl hl) hps fun rd => ?_
 have h := h rd
 rw [List.append_nil] at h
 refine h.mono fun e s1 hq => ?_
 cases e with
 | normal =>
  obtain ⟨new, h1, h2, h3⟩ := hq
  refine ⟨by rw [h1, List.append_assoc]; exact qbl hl, h2, ?_⟩
  have e : s1.st.set (st.length + (n + 1)) (F .busy none) = ((st ++ (l ++ [.dfr, F .busy none, own])) ++ ext) ++ new := by
   rw [h1, List.append_assoc, qcx hl, List.append_assoc _ ext]
  rw [e]
  refine h3.mono fun e s2 hq2 => ?_
  cases e with
  | normal =>
   obtain ⟨l', ext', new', k1, k2⟩ := hq2
   exact ⟨by rw [k1, List.append_assoc]; exact qbl (hI _ k2), l', ext' ++ new', fun _ => ⟨by rw [k1, List.append_assoc, qcx (hI _ k2)], k2⟩, nofun⟩
  | ret =>
   obtain ⟨l', ext', new', k1, k2⟩ := hq2
   exact ⟨by rw [k1, List.append_assoc]; exact qbl (hD _ _ k2), l', ext' ++ new', nofun, fun _ => ⟨_, by rw [k1, List.append_assoc, qcx (hD _ _ k2)], k2⟩⟩
  | exit id =>
   obtain ⟨l', ext', new', k1, k2⟩ := hq2
   exact ⟨by rw [k1, List.append_assoc]; exact qbl (hD _ _ k2), l', ext' ++ new', nofun, fun _ => ⟨_, by rw [k1, List.append_assoc, qcx (hD _ _ k2)], k2⟩⟩
  | _ => exact hq2.elim
 | _ => exact hq.elim
end Go.Av
set_option linter.unusedVariables false
namespace Go.Pl
open Go Go.Proofs
abbrev Fld := qa × qa
def qcs (s : qa) : Prop := ∀ c ∈ s, we c
instance (s : qa) : Decidable (qcs s) := inferInstanceAs (Decidable (∀ c ∈ s, we c))
def vl (s : qa) : qa := if qcs s ∨ s.head? = some 46 then 46 :: s else s
def j3 (key p : qa) : qa := key ++ [58] ++ if p = [] then [] else [32] ++ p
def z8 (f : Fld) : List qa := j3 f.1 ((zp f.2).headD []) :: (zp f.2).tail.map fun s => [32] ++ vl s
def zn (ls : List qa) : qa := ls.flatMap fun s => s ++ [10]
def kc (xs : List Fld) : qa := xs.flatMap fun f => zn (z8 f)
def jz (f : Fld) : Int := if ¬ qb5 f.1 then 5 else if 1000 < f.2.length then 6 else 0
def jl (f : Fld) : Prop := qb5 f.1 ∧ f.2.length ≤ 1000
instance (f : Fld) : Decidable (jl f) := inferInstanceAs (Decidable (_ ∧ _))
theorem qa8 (f : Fld) : jz f = 0 ↔ jl f := by
 unfold jz jl
 by_cases h : qb5 f.1
 ·by_cases h2 : 1000 < f.2.length
  ·simp [h, h2]
  ·simp [h, h2]; omega
 ·simp [h]
def kf (c : UInt8) (l : qa) : qa := if l.head? = some c then l.drop 1 else l
theorem qoq (c : UInt8) (l : qa) : Lib.trimPrefix l [c] = kf c l := by
 unfold Lib.trimPrefix kf
 rw [qjd]
 simp
def yx (l : qa) (r : List qa) : qa := kf 32 (ve l) ++ r.flatMap fun s => [10] ++ kf 46 (s.drop 1)
def qmu (ls : List qa) : Prop := ls ≠ [] ∧ qx (ls.headD []) = 4 ∧ ∀ s ∈ ls.tail, qx s = 3
instance (ls : List qa) : Decidable (qmu ls) := inferInstanceAs (Decidable (_ ∧ _ ∧ _))
def jf (ls : List qa) : Fld × Int :=
 if qmu ls then
  if 1000 < (yx (ls.headD []) ls.tail).length then (([], []), 6) else ((jm (ls.headD []), yx (ls.headD []) ls.tail), 0)
 else (([], []), 2)
theorem qi0 (l : qa) : zp l ≠ [] := by
 by_cases h : 10 ∈ l
 ·rw [y5 h]; simp
 ·rw [y4 h]; simp
theorem qoj (l : qa) : zp l = (zp l).headD [] :: (zp l).tail := by
 cases h : zp l with
 | nil => exact absurd h (qi0 l)
 | cons a r => rfl
theorem qiv : ∀ (n : Nat) (l : qa), l.length ≤ n → (zp l).headD [] ++ (zp l).tail.flatMap (fun s => [10] ++ s) = l
 | n, l, hn => by
  by_cases h : 10 ∈ l
  ·rw [y5 h]
   have hne : l ≠ [] := fun e => by subst e; simp at h
   have hlt := wo (c := 10) hne
   cases n with
   | zero => omega
   | succ n =>
    have ih := qiv n (past 10 l) (by omega)
    simp only [List.headD_cons, List.tail_cons]
    rw [qoj (past 10 l)]
    simp only [List.flatMap_cons]
    rw [List.append_assoc, ih]
    have := xx h
    simp [← this]
  ·rw [y4 h]; simp
theorem qdh (l : qa) : ∀ x ∈ zp l, 10 ∉ x := fun x hx => (qe0 l.length l (Nat.le_refl _) x hx).2
theorem qlz (l : qa) : ∀ x ∈ zp l, x.length ≤ l.length := fun x hx => (qe0 l.length l (Nat.le_refl _) x hx).1
theorem ql2 (l : qa) : (zp l).headD [] ∈ zp l := by
 have h := qi0 l
 cases e : zp l with
 | nil => exact absurd e h
 | cons a r => simp
theorem qtl (s : qa) : kf 46 (vl s) = s := by
 unfold vl kf
 by_cases h : qcs s ∨ s.head? = some 46
 ·rw [if_pos h]; simp
 ·rw [if_neg h, if_neg (fun h' => h (.inr h'))]
theorem qon (s : qa) : ¬ qcs (vl s) := by
 unfold vl
 by_cases h : qcs s ∨ s.head? = some 46
 ·rw [if_pos h]
  intro h'
  have := h' 46 (by simp)
  revert this; decide
 ·rw [if_neg h]
  exact fun h' => h (.inl h')
theorem qn4 {s : qa} (h : 10 ∉ s) : 10 ∉ vl s := by
 unfold vl
 split
 ·simp [h]
 ·exact h
theorem qpf (s : qa) : (vl s).length ≤ s.length + 1 := by
 unfold vl
 split <;> simp
theorem qpm (s : qa) (h : 10 ∉ s) : qx ([32] ++ vl s) = 3 := by
 have hn := qn4 h
 have hb := qon s
 unfold qx
 have h10 : 10 ∉ ([32] ++ vl s) := by simp [hn]
 rw [if_neg h10, if_neg (fun h' => hb fun c hc => h' c (by simp [hc])), if_neg (by simp), if_pos ⟨32, by simp, .inl rfl⟩]
theorem qg0 {k r : qa} (h : 58 ∉ k) : jm (k ++ [58] ++ r) = k := by
 unfold jm
 induction k with
 | nil => simp
 | cons a k ih =>
  simp only [List.mem_cons, not_or] at h
  have : (58 : UInt8) ≠ a := h.1
  simp only [List.cons_append, List.takeWhile_cons]
  rw [if_pos (by simpa using fun e => this e.symm)]
  rw [ih h.2]
theorem qrd {k r : qa} (h : 58 ∉ k) : ve (k ++ [58] ++ r) = r := by
 unfold ve
 rw [qg0 h]
 rw [List.drop_append_of_le_length (by simp)]
 simp
theorem qgt {k : qa} (h : qb5 k) : ∃ c, k.head? = some c ∧ ¬ we c ∧ c ≠ 35 := by
 obtain ⟨h1, h2, h3, h4, h5, h6⟩ := h
 cases k with
 | nil => exact absurd rfl h1
 | cons a r => exact ⟨a, rfl, fun hb => h3 ⟨a, rfl, hb⟩, fun e => h4 (by simp [e])⟩
theorem qp3 {k p : qa} (h : qb5 k) (hp : 10 ∉ p) : qx (j3 k p) = 4 := by
 obtain ⟨c, hc, hb, h35⟩ := qgt h
 have hk10 : 10 ∉ k := h.2.2.2.2.2
 have hk58 : 58 ∉ k := h.2.2.2.2.1
 have hh : (j3 k p).head? = some c := by
  unfold j3
  cases k with
  | nil => simp at hc
  | cons a r => simpa using hc
 have e : j3 k p = k ++ [58] ++ (if p = [] then [] else [32] ++ p) := rfl
 have h10 : 10 ∉ j3 k p := by
  rw [e]
  split <;> simp [hk10, hp]
 have hmem : c ∈ j3 k p := List.mem_of_head? hh
 unfold qx
 rw [if_neg h10, if_neg (fun h' => hb (h' c hmem)), if_neg (by rw [hh]; simpa using h35), if_neg (fun ⟨d, hd, hd'⟩ => by rw [hh] at hd; cases hd; exact hb hd')]
 rw [if_pos]
 refine ⟨by rw [e]; simp, ?_⟩
 rw [e, qg0 hk58]
 exact h
theorem qz0 (k p : qa) (h : 58 ∉ k) : kf 32 (ve (j3 k p)) = p := by
 unfold j3
 rw [qrd h]
 by_cases hp : p = []
 ·rw [if_pos hp]; simp [kf, hp]
 ·rw [if_neg hp]; simp [kf]
theorem qqd {f : Fld} (h : jl f) : jf (z8 f) = (f, 0) := by
 obtain ⟨hk, hv⟩ := h
 have hk58 : 58 ∉ f.1 := hk.2.2.2.2.1
 have h10 := qdh f.2
 have hval : yx (j3 f.1 ((zp f.2).headD [])) ((zp f.2).tail.map fun s => [32] ++ vl s) = f.2 := by
  unfold yx
  rw [qz0 _ _ hk58]
  have : ((zp f.2).tail.map fun s => [32] ++ vl s).flatMap (fun s => [10] ++ kf 46 (s.drop 1)) = (zp f.2).tail.flatMap (fun s => [10] ++ s) := by
   rw [List.flatMap_map]
   congr 1
   funext s
   simp [qtl]
  rw [this, qiv _ _ (Nat.le_refl _)]
 unfold jf z8
 rw [if_pos]
 ·simp only [List.headD_cons, List.tail_cons]
  refine (if_neg (by rw [hval]; omega)).trans ?_
  have : jm (j3 f.1 ((zp f.2).headD [])) = f.1 := qg0 hk58
  rw [this, hval]
 ·refine ⟨by simp, ?_, ?_⟩
  ·simp only [List.headD_cons]
   exact qp3 hk (h10 _ (ql2 _))
  ·intro s hs
   simp only [List.tail_cons, List.mem_map] at hs
   obtain ⟨x, hx, rfl⟩ := hs
   exact qpm x (h10 x (List.mem_of_mem_tail hx))
end Go.Pl
set_option linter.unusedVariables false
namespace Go.Av
open Go Go.RowKit
section
variable {E : Env} {rd : Option Nat} {N : Nat} {ops : Array Oper} {K : AS → Prop} {s : AS} {rest : List Oper} {d : Option Tmp} {T : TypeId} {p : String} {af : Array Edge}
theorem x9 {t e : TypeId} {len sz : Nat} {agg : Bool} {parts : Array (Nat × Operand)} {zs cs : List AV} {st loc : List AObj} (hst : s.st = st ++ loc) (hu : E.P.underlying t = some (.slice e)) (ht : tyOf E.P e = some (sz, agg)) (hz : qde E.P e len = some zs)
  (hf : qaz (fun i => some (i * sz, sz)) zs (j8 N s parts) = some cs) (hsz : Nat.ble (len * sz) 16777216 = true)
  (h : AOps E rd N ops rest K (AS.put ⟨s.t, st ++ (loc ++ [.cells 0 e cs]), s.df⟩ d (.os (st.length + loc.length) 0 0 len len))) : AOps E rd N ops (⟨d, .buildSlice t len parts, T, p, af, none⟩ :: rest) K s := by
 refine zi rfl (zh nofun fun B0 w0 G a w _ hI => ?_)
 obtain ⟨c', hrun, h2⟩ := qhy (d := d) (T := T) (p := p) (af := af) hI hu ht hz hf hsz
 have hA := hI.agree.newCells e c' cs h2.1 h2.2
 have hn := hI.agree.n
 rw [hst] at hA hn
 simp only [List.append_assoc, List.length_append] at hA hn
 exact ⟨_, _, _, _, _, hrun, G.le_new _ _ _ _, hA, .os _ _ _ _ _ _ (by simp [Gh.new, hn]) (Nat.zero_le _) (fun _ => by simp [Gh.new, hn]), h⟩
theorem zk.ownTip {B0 : Nat} {w0 : World} {G : Gh} {st : List AObj} {w : World} (h : zk B0 w0 G st w) {o sz len cap : Nat} {T : TypeId} {cs : List AV} {xs : List AV} (ho : st[o]? = some (.cells 0 T cs)) (hc : cs.length = cap * sz) (hlen : xs.length = len) (h0 : 0 < len) (hle : len ≤ cap) (hcm : cap ≤ maxLen) (hw : ∀ x ∈ xs, x.cells.length = sz) (hfl : flat xs = cs.take (len * sz)) :
  ∃ G', G.le G' ∧ zk B0 w0 G' (st.set o (.tip len sz T)) w ∧ Rel G' (.sl sz xs (some o)) (.slice (some ⟨(G.ob o).blk, 0, none⟩) len cap) := by
 subst hlen
 have hon := lt_of_getElem? ho
 obtain ⟨g0, g1, g2, g3, c, g4, g5, g6⟩ := h.ob o _ ho
 have hle1 : G.le (G.publish (G.ob o).blk (c.toList.take (xs.length * sz))) := G.le_publish _ _ [] [] (.inl g3)
 -- dead, published
 have key : ∀ (k : Nat) (x : AObj), (st.set o .dead)[k]? = some x → x = .dead ∨ (k ≠ o ∧ st[k]? = some x) := fun k x hx => by
  rcases getElem?_set' _ _ _ _ _ hx with ⟨_, e⟩ | e
  ·exact .inl e
  ·exact .inr e
 have hA1 : zk B0 w0 (G.publish (G.ob o).blk (c.toList.take (xs.length * sz))) (st.set o .dead) w := by
  refine ⟨h.below, h.hB, by simp [h.n, Gh.publish], fun b vs hb => ?_, fun k x hx => ?_, fun k k' x x' hne hx hx' hl hl' => ?_⟩
  ·simp only [Gh.publish] at hb
   by_cases e : b = (G.ob o).blk
   ·rw [if_pos e] at hb
    cases hb
    subst e
    refine ⟨c, T, (0, 0), g4, fun i y hy => ?_⟩
    rw [List.getElem?_take] at hy
    split at hy
    ·simpa using hy
    ·simp at hy
   ·rw [if_neg e] at hb
    exact h.pub b vs hb
  ·rcases key k x hx with rfl | ⟨hk, hx⟩
   ·trivial
   ·refine (h.ob k x hx).mono hle1 rfl (fun hl => ?_) (fun _ => rfl)
    have := h.sep k o x _ hk hx ho hl trivial
    simp [Gh.publish, this]
  ·rcases key k x hx with rfl | ⟨hk, hx⟩
   ·exact hl.elim
   ·rcases key k' x' hx' with rfl | ⟨hk', hx'⟩
    ·exact hl'.elim
    ·exact h.sep k k' x x' hne hx hx' hl hl'
 have hvl : (c.toList.take (xs.length * sz)).length = xs.length * sz := by
  have : xs.length * sz ≤ cap * sz := Nat.mul_le_mul_right _ hle
  simp
  omega
 obtain ⟨hle2, hA2⟩ := hA1.setTip (t := o) (n := 0) (n' := xs.length) (k := (G.ob o).blk) (cap := c.size) (sz := sz) (T := T) (c := c) (vs := c.toList.take (xs.length * sz)) (by simp [hon]) g0 g1 h0 g4 (by simp [Gh.publish]) hvl rfl g2 (fun k x hx hl => by
  rcases key k x hx with rfl | ⟨hk, hx⟩
  ·exact hl.elim
  ·exact h.sep k o x _ hk hx ho hl trivial)
 rw [List.set_set] at hA2
 refine ⟨_, hle1.trans hle2, hA2, ?_⟩
 have hgn : o < G.n := by rw [h.n]; exact hon
 refine .sl sz xs (some o) (G.ob o).blk 0 cap (c.toList.take (xs.length * sz)) (by simp [Gh.setOb, Gh.publish]) hw (by rw [hfl, hvl]; simp; omega) (fun i x y h1 h2 => ?_) (fun t ht => ?_) (by omega)
 ·rw [hfl] at h1
  rw [Nat.zero_add] at h2
  rw [List.getElem?_take] at h1 h2
  split at h1
  ·rename_i hi
   rw [if_pos hi] at h2
   exact ((g6 i x y h1 (by simpa using h2)).mono hle1).mono hle2
  ·simp at h1
 ·simp only [Option.some.injEq] at ht
  subst ht
  refine ⟨by simpa [Gh.setOb, Gh.publish] using hgn, by omega, by simp [Gh.setOb], fun _ => ⟨by simp [Gh.setOb], rfl, by simp [Gh.setOb, ← g5, hc], hcm, by omega⟩⟩
theorem Inv.osTip {B0 : Nat} {w0 : World} {G : Gh} {a : Act} {w : World} (h : Inv B0 w0 N G s a w) {i o sz len cap : Nat} {T' : TypeId} {cs xs : List AV} (hi : s.t i = .os o 0 0 len cap) (ho : s.st[o]? = some (.cells 0 T' cs)) (hc : cs.length = cap * sz) (hlen : xs.length = len) (h0 : 0 < len) (hle : len ≤ cap) (hcm : cap ≤ maxLen) (hw : ∀ x ∈ xs, x.cells.length = sz) (hfl : flat xs = cs.take (len * sz)) :
  ∃ G', G.le G' ∧ Inv B0 w0 N G' ⟨Av.put s.t i (.sl sz xs (some o)), s.st.set o (.tip len sz T'), s.df⟩ a w := by
 obtain ⟨G', hG, hA, hR⟩ := h.agree.ownTip ho hc hlen h0 hle hcm hw hfl
 obtain ⟨_, g1, _⟩ := h.agree.ob o _ ho
 refine ⟨G', hG, hA, h.defers_mono hG, h.size, fun j y hy => ?_⟩
 have hj := h.tmps j y hy
 by_cases e : j = i
 ·subst e
  simp only [xp]
  rw [hi] at hj
  cases hj with
  | os _ _ _ _ b _ hn hv hb =>
   have hb := hb g1
   subst hb
   exact hR
 ·simp only
  rw [qa4 _ _ _ _ e]
  exact hj.mono hG
theorem qpw {c : Code} {Q : Exit → AS → Prop} (i : Nat) {o sz len cap : Nat} {T' : TypeId} {cs xs : List AV} (hi : s.t i = .os o 0 0 len cap) (ho : s.st[o]? = some (.cells 0 T' cs)) (hc : cs.length = cap * sz) (hlen : xs.length = len) (h0 : 0 < len) (hle : len ≤ cap) (hcm : cap ≤ maxLen) (hw : ∀ x ∈ xs, x.cells.length = sz) (hfl : flat xs = cs.take (len * sz))
  (h : AWp E rd N c Q ⟨Av.put s.t i (.sl sz xs (some o)), s.st.set o (.tip len sz T'), s.df⟩) : AWp E rd N c Q s :=
 ⟨fun B0 w0 G a w hL hI => let ⟨G1, h1, h2⟩ := hI.osTip hi ho hc hlen h0 hle hcm hw hfl; wpIn_mono (h.run B0 w0 _ a w hL h2) fun _ _ _ ⟨G', s', hG, k1, k2⟩ => ⟨G', s', h1.trans hG, k1, k2⟩⟩
theorem qv6 {l : List Oper} (i : Nat) {o sz len cap : Nat} {T' : TypeId} {cs xs : List AV} (hi : s.t i = .os o 0 0 len cap) (ho : s.st[o]? = some (.cells 0 T' cs)) (hc : cs.length = cap * sz) (hlen : xs.length = len) (h0 : 0 < len) (hle : len ≤ cap) (hcm : cap ≤ maxLen) (hw : ∀ x ∈ xs, x.cells.length = sz) (hfl : flat xs = cs.take (len * sz))
  (h : AOps E rd N ops l K ⟨Av.put s.t i (.sl sz xs (some o)), s.st.set o (.tip len sz T'), s.df⟩) : AOps E rd N ops l K s :=
 ⟨fun B0 w0 G a w hL hI Q hQ => let ⟨G1, h1, h2⟩ := hI.osTip hi ho hc hlen h0 hle hcm hw hfl; h.run B0 w0 _ a w hL h2 Q fun G' s' a' w' hG k1 k2 => hQ G' s' a' w' (h1.trans hG) k1 k2⟩
theorem qzp {l : List Oper} (i : Nat) {x r : AV} (hi : s.t i = x) (hw : ∀ G v, Rel G x v → Rel G r v) (h : AOps E rd N ops l K ⟨Av.put s.t i r, s.st, s.df⟩) : AOps E rd N ops l K s :=
 ⟨fun B0 w0 G a w hL hI Q hQ => h.run B0 w0 G a w hL ⟨hI.agree, hI.defers, hI.size, fun j y hy => by
  have hj := hI.tmps j y hy
  by_cases e : j = i
  ·subst e; simp only [xp]; rw [hi] at hj; exact hw G y hj
  ·simp only; rw [qa4 _ _ _ _ e]; exact hj⟩ Q hQ⟩
theorem qnw {P : Program} {t e : TypeId} {sz : Nat} {agg : Bool} (hu : P.underlying t = some (.slice e)) (ht : tyOf P e = some (sz, agg)) (a : Option Addr) (len cap : Nat) (lo hi : Option Value) (i j : Nat) (w : World)
  (hlo : match lo with | none => i = 0 | some v => ∃ k, v = .int k (i : Int)) (hhi : match hi with | none => j = len | some v => (∃ k, v = .int k (j : Int)) ∧ j ≤ cap) (h1 : i ≤ j) :
  (Instr.slice t (.slice a len cap) lo hi none).run P w = .ok (.slice (if cap = i then a else a.map (·.add (i * sz))) (j - i) (cap - i)) w := by
 have hs := (kr ht w).1
 cases lo with
 | none =>
  simp only at hlo
  subst hlo
  cases hi with
  | none =>
   simp only at hhi
   subst hhi
   simp [Instr.slice, run_underlying hu, Instr.sliceBounds, hs]
  | some v =>
   obtain ⟨⟨k, rfl⟩, h2⟩ := hhi
   simp [Instr.slice, run_underlying hu, Instr.sliceBounds, Instr.sliceBound, asIntOf, hs, h2]
 | some u =>
  obtain ⟨k', rfl⟩ := hlo
  cases hi with
  | none =>
   simp only at hhi
   subst hhi
   simp [Instr.slice, run_underlying hu, Instr.sliceBounds, Instr.sliceBound, asIntOf, hs, h1]
  | some v =>
   obtain ⟨⟨k, rfl⟩, h2⟩ := hhi
   simp [Instr.slice, run_underlying hu, Instr.sliceBounds, Instr.sliceBound, asIntOf, hs, h1, h2]
theorem qnt {G : Gh} {sz : Nat} {xs : List AV} {tip : Option Nat} {a : Option Addr} {len cap : Nat} (h : Rel G (.sl sz xs tip) (.slice a len cap)) {i j : Nat} (h1 : i ≤ j) (h2 : j ≤ xs.length) :
  len = xs.length ∧ len ≤ cap ∧ Rel G (.sl sz ((xs.take j).drop i) none) (.slice (if cap = i then a else a.map (·.add (i * sz))) (j - i) (cap - i)) := by
 cases h with
 | sl0 =>
  simp at h2
  subst h2
  have : i = 0 := by omega
  subst this
  refine ⟨rfl, Nat.zero_le _, ?_⟩
  simp
  exact .sl0 sz none _ _ (by simp)
 | sl _ _ _ b off cap pub hp hw hlen hr ht hcap =>
  refine ⟨rfl, hcap, ?_⟩
  have hl : ((xs.take j).drop i).length = j - i := by simp; omega
  by_cases hji : j = i
  ·subst hji
   have e : (xs.take j).drop j = [] := List.length_eq_zero_iff.1 (by rw [hl]; omega)
   rw [e, Nat.sub_self]
   exact .sl0 sz none _ _ (by simp)
  ·have hne : cap ≠ i := by omega
   rw [if_neg hne]
   simp only [Option.map_some]
   have hadd : Addr.add ⟨b, off, none⟩ (i * sz) = ⟨b, off + i * sz, none⟩ := Addr.add_lit ..
   rw [hadd, ← hl]
   have hw' : ∀ x ∈ (xs.take j).drop i, x.cells.length = sz := fun x hx => hw x (List.mem_of_mem_take (List.mem_of_mem_drop hx))
   have hfx : (flat xs).length = xs.length * sz := v4 hw
   have hsplit : flat xs = flat (xs.take i) ++ flat ((xs.take j).drop i) ++ flat (xs.drop j) := by
    have e : xs.take i ++ (xs.take j).drop i = xs.take j := by
     conv => rhs; rw [← List.take_append_drop i (xs.take j), List.take_take, Nat.min_eq_left h1]
    rw [← qeh, ← qeh, e, List.take_append_drop]
   have hti : (flat (xs.take i)).length = i * sz := by
    rw [v4 (fun x hx => hw x (List.mem_of_mem_take hx)), List.length_take, Nat.min_eq_left (by omega)]
   have hmid : (flat ((xs.take j).drop i)).length = (j - i) * sz := by rw [v4 hw', hl]
   refine .sl sz _ none b (off + i * sz) (cap - i) pub hp hw' ?_ (fun k x y hx hy => ?_) (fun t ht => by simp at ht) (by rw [hl]; omega)
   ·have := congrArg List.length hsplit
    simp only [List.length_append] at this
    omega
   ·refine hr (i * sz + k) x y ?_ (by rw [← hy]; congr 1; omega)
    have hk := lt_of_getElem? hx
    rw [hsplit, List.append_assoc, List.getElem?_append_right (by omega), hti, Nat.add_sub_cancel_left, List.getElem?_append_left hk]
    exact hx
theorem qtt {x : Operand} {t e : TypeId} {lo hi : Option Operand} {sz : Nat} {agg : Bool} {xs ys : List AV} {tip : Option Nat} {i j : Nat} (hx : qf N s x = .sl sz xs tip) (hu : E.P.underlying t = some (.slice e)) (ht : tyOf E.P e = some (sz, agg))
  (hlo : match lo with | none => i = 0 | some y => ∃ k, qf N s y = .v (.int k (i : Int))) (hhi : match hi with | none => j = xs.length | some y => ∃ k, qf N s y = .v (.int k (j : Int))) (h1 : i ≤ j) (h2 : j ≤ xs.length) (hy : (xs.take j).drop i = ys)
  (h : AOps E rd N ops rest K (s.put d (.sl sz ys none))) : AOps E rd N ops (⟨d, .slice t x lo hi none, T, p, af, none⟩ :: rest) K s := by
 subst hy
 refine zi rfl (zh nofun fun B0 w0 G a w _ hI => ?_)
 have he := hI.eval_of hx
 generalize hv : a.eval x = v at he
 have hsl : ∃ b len cap, v = .slice b len cap := by cases he <;> exact ⟨_, _, _, rfl⟩
 obtain ⟨b, len, cap, rfl⟩ := hsl
 obtain ⟨hl, hlc, hr⟩ := qnt he h1 h2
 refine ⟨_, w, G, _, s.st, ?_, .refl G, hI.agree, hr, h⟩
 have hrun := qnw hu ht b len cap (lo.map a.eval) (hi.map a.eval) i j w (by
  cases lo with
  | none => exact hlo
  | some y => obtain ⟨k, hy⟩ := hlo; exact ⟨k, hI.evalv hy⟩) (by
  cases hi with
  | none => simp only at hhi; simp only [Option.map_none]; omega
  | some y => obtain ⟨k, hy⟩ := hhi; exact ⟨⟨k, hI.evalv hy⟩, by omega⟩) h1
 generalize a.eval = ρ at hv hrun
 simp only [execOp, hv]
 simp [Instr.sliceAt, run_underlying hu, hrun]
theorem xb {x y : Operand} {t e : TypeId} {sz : Nat} {agg : Bool} {xs ys : List AV} {tip : Option Nat} {k : IntKind} {i : Nat} (hx : qf N s x = .sl sz xs tip) (hy : qf N s y = .v (.int k (i : Int))) (hu : E.P.underlying t = some (.slice e)) (ht : tyOf E.P e = some (sz, agg)) (h1 : i ≤ xs.length) (hz : xs.drop i = ys)
  (h : AOps E rd N ops rest K (s.put d (.sl sz ys none))) : AOps E rd N ops (⟨d, .slice t x (some y) none none, T, p, af, none⟩ :: rest) K s :=
 qtt (i := i) (j := xs.length) hx hu ht ⟨k, hy⟩ rfl h1 (Nat.le_refl _) (by rw [List.take_length]; exact hz) h
end
end Go.Av
set_option linter.unusedVariables false
namespace Go.Av
open Go Go.RowKit
structure Chg (N : Nat) (s s' : AS) : Prop where
 run : ∀ (B0 : Nat) (w0 : World) (G : Gh) (a : Act) (w : World), Inv B0 w0 N G s a w → ∃ G', G.le G' ∧ Inv B0 w0 N G' s' a w
theorem Chg.trans {N : Nat} {s s' s'' : AS} (h : Chg N s s') (k : Chg N s' s'') : Chg N s s'' := ⟨fun B0 w0 G a w hI => let ⟨G1, h1, h2⟩ := h.run B0 w0 G a w hI; let ⟨G2, k1, k2⟩ := k.run B0 w0 G1 a w h2; ⟨G2, h1.trans k1, k2⟩⟩
end Go.Av
set_option linter.unusedVariables false
set_option maxRecDepth 100000
namespace Go.Proofs.YtefmcijohgpfhaaGreatDoor
open Go Go.Av Go.RowKit Go.Proofs Go.Pl
theorem qxr (text : List UInt8) (o kb ver n : Nat) (I : Nat → List UInt8 → List AObj → Prop) (D : List AObj → Prop) (st l0 : List AObj) (ht : text.length < 4294967281) (h0 : I 0 text l0)
  (hI : ∀ k rest l, I k rest l → l.length = n ∧ (st ++ l)[kb]? = some (.cells ver 9 [Sv text]))
  (hY : ∀ k rest l own ext, I k rest l → rest ≠ [] → rest.length ≤ text.length → xu E o [qb3 k text rest] (st ++ (l ++ own :: ext)) fun b st2 => ∃ l' ext', st2 = st ++ (l' ++ own :: ext') ∧ (b = true → I (k + 1) (past 10 rest) l') ∧ (b = false → D l' ∧ l'.length = n)) :
  qm E 113 [.yd o, .bx kb ver 0] (st ++ l0) fun r st' => ∃ l own ext', st' = st ++ (l ++ own :: ext') ∧ ((∃ k, I k [] l) ∨ D l) := by
 refine qq Tryz.func113 rfl (Nat.le_of_ble_eq_true rfl) ?_
 obtain ⟨hn, hb⟩ := hI 0 text l0 h0
 repeat' (first
  | apply qj
  | apply qt
  | apply qb
  | apply qg
  | apply qc
  | (apply zq; exact rfl; exact rfl)
  | (apply zj; (iterate 11 exact rfl))
  | (apply js; (iterate 3 exact rfl))
  | (apply qa3; exact rfl; exact rfl; exact hb; exact rfl; exact rfl))
 refine vq (fun (x : Nat × List UInt8) s => match x with | (k, rest) => ∃ l at' ta eb ext, I k rest l ∧ k + rest.length ≤ text.length ∧ at' = (text.length : Int) - rest.length ∧ StA [(0, .yd o), (1, .bx kb ver 0), (3, .bx ((st ++ l0).length + 0) 0 0), (4, Sv rest)] ((st ++ l) ++ (.cells 0 129 [Iv k, Iv at', Sv ta, Bv eb] :: ext)) [] s) (fun x => x.2.length) (0, text)
  ⟨l0, 0, [], false, [], h0, by simp, by simp, ?_⟩ ?_
 ·exact qab ⟨rfl, rfl, rfl, rfl, trivial⟩
 rintro ⟨k, rest⟩ _ ⟨l, _, ta, eb, ext, hi, hle, rfl, t, rfl⟩
 obtain ⟨hn', hb'⟩ := hI k rest l hi
 have hq : (st ++ l).length = (st ++ l0).length := by simp [hn, hn']
 repeat' (first
  | apply qj
  | apply qt
  | apply qb
  | apply qg
  | apply qh
  | apply qc
  | (apply zb; exact rfl; exact rfl)
  | (apply z4; (iterate 3 exact rfl))
  | (apply qd; exact rfl; first | (apply qy; (first | assumption | omega)) | (apply q4; (first | assumption | omega)) | (apply q5; (first | exact rfl | assumption)) | (apply qz; (first | exact rfl | assumption)) | (apply cd_n <;> intro h) | (apply cd_t; (first | exact rfl | assumption)) | (apply cd_f; (first | exact rfl | assumption)) | (apply cd_d <;> intro h) | (apply cd_s <;> intro h))
  | (apply q9; (iterate 3 exact rfl))
  | apply qv
  | apply jk
  | (apply qe; exact Tryz.call36; exact qfr _ _ _ (by omega))
  | (apply yu; exact rfl; exact hq; (iterate 10 exact rfl))
  | (apply qac; exact rfl; exact hq; (iterate 4 exact rfl)))
 ·refine qdy rfl (qtm (List.append_assoc st l (_ :: ext)).symm ((hY k rest l _ ext hi h (by omega)).mono ?_))
  rintro b _ ⟨l', ext', rfl, h1, h2⟩
  cases b
  ·skip
   rw [← List.append_assoc]
   repeat' (first
    | apply qg
    | (apply z7; exact rfl)
    | (apply qd; exact rfl; first | (apply qy; (first | assumption | omega)) | (apply q4; (first | assumption | omega)) | (apply q5; (first | exact rfl | assumption)) | (apply qz; (first | exact rfl | assumption)) | (apply cd_n <;> intro h) | (apply cd_t; (first | exact rfl | assumption)) | (apply cd_f; (first | exact rfl | assumption)) | (apply cd_d <;> intro h) | (apply cd_s <;> intro h))
    | apply qs)
   refine qk rfl (yo rfl) ⟨l', _, ext', List.append_assoc _ _ _, .inr (h2 rfl).1⟩
  ·have hi3 := h1 rfl
   obtain ⟨hn3, hb3⟩ := hI _ _ _ hi3
   have hp := jy 10 rest
   have hr0 : 0 < rest.length := List.length_pos_iff.2 h
   have hq3 : (st ++ l').length = (st ++ l0).length := by simp [hn, hn3]
   rw [← List.append_assoc]
   repeat' (first
    | apply qj
    | apply qb
    | apply qg
    | apply qh
    | (apply z7; exact rfl)
    | (apply qd; exact rfl; first | (apply qy; (first | assumption | omega)) | (apply q4; (first | assumption | omega)) | (apply q5; (first | exact rfl | assumption)) | (apply qz; (first | exact rfl | assumption)) | (apply cd_n <;> intro h) | (apply cd_t; (first | exact rfl | assumption)) | (apply cd_f; (first | exact rfl | assumption)) | (apply cd_d <;> intro h) | (apply cd_s <;> intro h))
    | (apply j5; (iterate 3 exact rfl))
    | (apply jh; exact rfl; exact rfl; exact zl (by omega) (by omega))
    | (apply y7; exact rfl; exact rfl; exact zl (by omega) (by omega))
    | (apply q9; (iterate 3 exact rfl))
    | apply qv
    | (apply qa3; exact rfl; exact rfl; exact hb3; exact rfl; exact rfl)
    | (apply yu; exact rfl; exact hq3; (iterate 10 exact rfl))
    | (apply qac; exact rfl; exact hq3; (iterate 4 exact rfl)))
   exact ⟨(k + 1, past 10 rest), ⟨l', _, _, _, _, hi3, by omega, rfl, qab ⟨rfl, rfl, rfl, rfl, trivial⟩⟩, by simp only; omega⟩
 ·have hr : rest = [] := Classical.not_not.1 h
  subst hr
  exact qk rfl (yo rfl) ⟨l, _, ext, List.append_assoc _ _ _, .inl ⟨k, hi⟩⟩
theorem qo7 {N : Nat} {Q : Exit → AS → Prop} {s : AS} {f : Operand} {p : Tmp} {asg body : Code} {st loc : List AObj} {kb ver : Nat} (text : List UInt8) (hst : s.st = st ++ loc) (hx : qf N s f = .fn (.func 113) [] [.bx (st.length + kb) ver 0]) (ht : text.length < 4294967281)
  (I : Nat → List UInt8 → List AObj → Prop) (D : Code → List AObj → Prop) (h0 : I 0 text loc)
  (hI : ∀ k rest l, I k rest l → l.length = loc.length ∧ l[kb]? = some (.cells ver 9 [Sv text])) (hD : ∀ c l, D c l → l.length = loc.length)
  (hb : ∀ F own rd k rest l ext m, qi1 F N s.t #[p] asg body → I k rest l → rest ≠ [] → rest.length ≤ text.length → ((st ++ (l ++ [.dfr, F .ready none, own])) ++ ext).length = m → ((st ++ (l ++ [.dfr, F .busy none, own])) ++ ext).length = m →
   AWp E (some rd) N asg (only fun s1 => ∃ new, s1.st = ((st ++ (l ++ [.dfr, F .ready none, own])) ++ ext) ++ new ∧ s1.df = [] ∧ AWp E (some rd) N body (qz3 F st own (I (k + 1) (past 10 rest)) D) ⟨s1.t, ((st ++ (l ++ [.dfr, F .busy none, own])) ++ ext) ++ new, []⟩) ⟨put s.t p (qb3 k text rest), ((st ++ (l ++ [.dfr, F .ready none, own])) ++ ext) ++ [], []⟩)
  (hn : ∀ k l ext, I k [] l → Q .normal ⟨s.t, ((st ++ (l ++ [.dfr, .dead])) ++ ext) ++ [], (st.length + loc.length) :: s.df⟩)
  (hd : ∀ c l ext, D c l → AWp E none N c Q ⟨s.t, ((st ++ (l ++ [.dfr, .dead])) ++ ext) ++ [], (st.length + loc.length) :: s.df⟩) : AWp E none N (.rangeFunc f #[p] asg body) Q s := by
 refine qii hst hx Tryz.call113 fun F hF => ?_
 refine qm.mono (qxr text (st.length + (loc.length + 1)) (st.length + kb) ver (loc.length + 2) (fun k rest l => ∃ l1, l = l1 ++ [.dfr, F .ready none] ∧ I k rest l1) (fun l => ∃ l1 c, l = l1 ++ [.dfr, F .done (some c)] ∧ D c l1) st (loc ++ [.dfr, F .ready none]) ht ⟨loc, rfl, h0⟩ ?_ ?_) ?_
 ·rintro k rest _ ⟨l, rfl, hi⟩
  obtain ⟨h1, h2⟩ := hI k rest l hi
  exact ⟨by simp [h1], z2 (by rw [List.getElem?_append_left (lt_of_getElem? h2)]; exact h2)⟩
 ·rintro k rest _ own ext ⟨l, rfl, hi⟩ hne hle
  obtain ⟨h1, h2⟩ := hI k rest l hi
  have hy := q1h (E := E) (st := st) (l := l) (ext := ext) (own := own) (n := loc.length) (xs := [qb3 k text rest]) (I := I (k + 1) (past 10 rest)) (D := D) hF h1 rfl (fun l hl => (hI _ _ l hl).1) hD (fun rd => hb F own rd k rest l ext _ hF hi hne hle rfl (by simp))
  have e : (st ++ (l ++ [.dfr, F .ready none, own])) ++ ext = st ++ ((l ++ [.dfr, F .ready none]) ++ own :: ext) := by simp
  rw [e] at hy
  refine hy.mono ?_
  rintro b st2 ⟨l', ext', g1, g2⟩
  cases b with
  | true =>
   obtain ⟨rfl, g⟩ := g1 rfl
   exact ⟨l' ++ [.dfr, F .ready none], ext', by simp, fun _ => ⟨l', rfl, g⟩, nofun⟩
  | false =>
   obtain ⟨c, rfl, g⟩ := g2 rfl
   exact ⟨l' ++ [.dfr, F .done (some c)], ext', by simp, nofun, fun _ => ⟨⟨l', c, rfl, g⟩, by simp [hD c l' g]⟩⟩
 ·rintro r _ ⟨_, own, ext, rfl, ⟨k, l, rfl, hi⟩ | ⟨l, c, rfl, hdl⟩⟩
  ·have h1 := (hI _ _ _ hi).1
   have e : st ++ ((l ++ [.dfr, F .ready none]) ++ own :: ext) = (st ++ (l ++ [.dfr, F .ready none, own])) ++ ext := by simp
   rw [e]
   refine ⟨.ready, none, nofun, qbl h1, ?_⟩
   rw [qcx h1]
   have := hn k l (own :: ext) hi
   simpa using this
  ·have h1 := hD _ _ hdl
   have e : st ++ ((l ++ [.dfr, F .done (some c)]) ++ own :: ext) = (st ++ (l ++ [.dfr, F .done (some c), own])) ++ ext := by simp
   rw [e]
   refine ⟨.done, some c, nofun, qbl h1, ?_⟩
   rw [qcx h1]
   have := hd c l (own :: ext) hdl
   simpa using this
end Go.Proofs.YtefmcijohgpfhaaGreatDoor
set_option linter.unusedVariables false
set_option maxRecDepth 100000
namespace Go.Proofs.YtefmcijohgpfhaaGreatDoor
open Go Go.Av Go.RowKit Go.Proofs Go.Pl
abbrev Ss (xs : List qa) : AV := .sl 1 (xs.map fun x => Sv x) none
theorem qfu (l m : List UInt8) (st : List AObj) : qm E 96 [Sv l, Sv m] st fun r st' => r = Sv (Lib.trimPrefix l m) ∧ st' = st :=
 w9 (vals := #[.string ⟨l.toArray⟩, .string ⟨m.toArray⟩]) rfl fun _ _ w _ _ => (Tryz.strings_TrimPrefix ⟨l.toArray⟩ ⟨m.toArray⟩ w).mono fun _ _ ⟨h1, h2⟩ => ⟨h1, qch h2⟩
theorem quu (l : List UInt8) (c : UInt8) (st : List AObj) : qm E 96 [Sv l, Sv [c]] st fun r st' => r = Sv (kf c l) ∧ st' = st := by
 rw [← qoq]
 exact qfu _ _ _
theorem qw1 {B0 : Nat} {w0 : World} {G : Gh} {st : List AObj} {w : World} (hA : zk B0 w0 G st w) {xs : List qa} {tip : Option Nat} {v : Value} (h : Rel G (.sl 1 (xs.map fun x => Sv x) tip) v) :
  (xs = [] ∧ ∃ a c, v = .slice a 0 c) ∨ ∃ b off cap, v = .slice (some ⟨b, off, none⟩) xs.length cap ∧ b < w.heap.size ∧ xs.length ≤ cap ∧ ∀ (j : Nat) (x : qa), xs[j]? = some x → w.cell? ⟨b, off + j, none⟩ = some (.string ⟨x.toArray⟩) := by
 generalize hq : xs.map (fun x => Sv x) = q at h
 cases h with
 | sl0 sz tip base cap ht => exact .inl ⟨by simpa using hq, base, cap, rfl⟩
 | sl _ _ _ b off cap pub hp hw hlen hr ht hcap =>
  subst hq
  obtain ⟨c, T, fz, hc, hcc⟩ := hA.pub b pub hp
  refine .inr ⟨b, off, cap, by simp, hA.pub_lt hp, by simpa using hcap, fun j x hx => ?_⟩
  have hfl : flat (xs.map fun x => Sv x) = xs.map fun x => Sv x := by
   clear hx hr hlen hw ht hcap
   induction xs with
   | nil => rfl
   | cons a xs ih => rw [List.map_cons, qcy, ih]; rfl
  have hj := lt_of_getElem? hx
  rw [hfl] at hlen
  simp only [List.length_map] at hlen
  have hy : pub[off + j]? = some (pub[off + j]'(by omega)) := List.getElem?_eq_getElem (by omega)
  have hrj := hr j (Sv x) _ (by rw [hfl, List.getElem?_map, hx]; rfl) hy
  generalize hz : pub[off + j]'(by omega) = z at hrj hy
  generalize hSx : Sv x = sx at hrj
  cases hrj <;> simp_all
  subst_vars
  simp [World.cell?, hc, hcc _ _ hy]
theorem qyk (xs : List qa) (tip : Option Nat) (sep : qa) (st : List AObj) (hN : xs.length ≤ 140737488355328) (hl : (Lib.join xs sep).length ≤ 140737488355328) : qm E 88 [.sl 1 (xs.map fun x => Sv x) tip, Sv sep] st fun r st' => r = Sv (Lib.join xs sep) ∧ st' = st := by
 refine ⟨fun B0 w0 G vs w hL hA hR => ?_⟩
 have hs : vs.size = 2 := by have := hR.1; simpa using this.symm
 have e0 : vs[0]? = some vs[0] := by simp [hs]
 have e1 : vs[1]? = some vs[1] := by simp [hs]
 have h0 := hR.2 0 _ _ rfl e0
 have h1 := hR.2 1 _ _ rfl e1
 have hv1 : vs[1] = .string ⟨sep.toArray⟩ := by generalize vs[1] = y at h1; cases h1; rfl
 have hvs : vs = #[vs[0], .string ⟨sep.toArray⟩] := by
  apply Array.ext (by simp [hs])
  intro i g1 g2
  match i with
  | 0 => rfl
  | 1 => exact hv1
  | i + 2 => simp [hs] at g1; omega
 rw [hvs]
 rcases qw1 hA h0 with ⟨hx, a, c, hv⟩ | ⟨b, off, cap, hv, hb, hcap, hcell⟩
 ·rw [hv]
  subst hx
  refine (Tryz.strings_Join_none a c ⟨sep.toArray⟩ w).mono ?_
  rintro e w' ⟨rfl, rfl⟩
  exact ⟨_, G, Sv [], st, rfl, .refl G, hA, .v _, rfl, rfl⟩
 ·rw [hv]
  have hm : (xs.map fun l : qa => (⟨l.toArray⟩ : ByteArray)).map (·.data.toList) = xs := by simp [List.map_map, Function.comp_def]
  have hc := Tryz.strings_Join b off cap (xs.map fun l => ⟨l.toArray⟩) ⟨sep.toArray⟩ w (fun j x hx => by
   rw [List.getElem?_map] at hx
   cases hq : xs[j]? with
   | none => rw [hq] at hx; simp at hx
   | some y => rw [hq] at hx; simp at hx; subst hx; exact hcell j y hq) hb (by simpa using hN) (by simpa using hcap) (by rw [hm]; simpa using hl)
  rw [hm] at hc
  simp only [List.length_map] at hc
  refine hc.mono ?_
  rintro e w' ⟨rfl, hbw⟩
  exact ⟨_, G, Sv _, st, rfl, .refl G, hA.fresh hbw, .v _, rfl, rfl⟩
def Weak (x r : AV) : Prop := ∀ (G : Gh) (v : Value), Rel G x v → Rel G r v
theorem yv (x : AV) : Weak x x := fun _ _ h => h
theorem qis (sz : Nat) (xs : List AV) (tip : Option Nat) : Weak (.sl sz xs tip) (.sl sz xs none) := fun _ _ h => qji h
theorem qdb (sz : Nat) : Weak zv (.sl sz [] none) := fun _ _ h => qbu h
theorem qcq {x y x' y' : AV} (h1 : Weak x x') (h2 : Weak y y') : Weak (.tu [x, y]) (.tu [x', y']) := fun G v h => by
 cases h with
 | tu _ vs hl hr =>
  refine .tu _ vs hl fun i a b ha hb => ?_
  match i with
  | 0 => simp at ha; subst ha; exact h1 G b (hr 0 x b rfl hb)
  | 1 => simp at ha; subst ha; exact h2 G b (hr 1 y b rfl hb)
  | i + 2 => simp at ha
theorem q3a {xs ys : List AV} (hl : xs.length = ys.length) (h : ∀ (i : Nat) (x y : AV), xs[i]? = some x → ys[i]? = some y → Weak x y) : Weak (.ag xs) (.ag ys) := fun G v hr => by
 cases hr with
 | ag _ vs hl' hr =>
  refine .ag _ vs (by omega) fun i a b ha hb => ?_
  have hi := lt_of_getElem? ha
  exact h i _ a (List.getElem?_eq_getElem (by omega)) ha G b (hr i _ b (List.getElem?_eq_getElem (by omega)) hb)
theorem qxj {fn : Func} {s : AS} {t u : Tmp} {x y x' y' : AV} (hr : fn.results = #[.tmp t, .tmp u]) (hx : qf fn.ntmps s (.tmp t) = x) (hy : qf fn.ntmps s (.tmp u) = y) (h1 : Weak x x') (h2 : Weak y y') : ARes E fn s (.tu [x', y']) :=
 xh (vd hr) (by rw [hx, hy]; exact qcq h1 h2)
def errN (n : Int) : AV := if n = 0 then .v .nilIface else .ifc 31 (Iv n)
theorem qgv (n : Int) : Pure (errN n) := by
 unfold errN
 split
 ·exact zd _
 ·exact qav (zd _)
theorem qh2 {n : Int} (h : n ≠ 0) : errN n = .ifc 31 (Iv n) := if_neg h
end Go.Proofs.YtefmcijohgpfhaaGreatDoor
set_option maxRecDepth 100000
set_option linter.unusedVariables false
namespace Go.Proofs.YtefmcijohgpfhaaGreatDoor
open Go Go.Av Go.RowKit Go.Proofs Go.Pl
theorem qk8 (f : FldV) (st : List AObj) (hl : f.1.length < 4294967281) : qm E 124 [fldA f] st fun r st' => r = errN (jz f) ∧ st' = st := by
 refine q8 (qgv _) (qq Tryz.func124 rfl (Nat.le_of_ble_eq_true rfl) ?_)
 repeat' (first
  | apply qj
  | apply qt
  | apply qb
  | apply qg
  | apply qc
  | (apply qo; (iterate 3 exact rfl))
  | (apply z7; exact rfl)
  | (apply qd; exact rfl; first | (apply qy; (first | assumption | omega)) | (apply q4; (first | assumption | omega)) | (apply q5; (first | exact rfl | assumption)) | (apply qz; (first | exact rfl | assumption)) | (apply cd_n <;> intro h) | (apply cd_t; (first | exact rfl | assumption)) | (apply cd_f; (first | exact rfl | assumption)) | (apply cd_d <;> intro h) | (apply cd_s <;> intro h))
  | (apply j5; (iterate 3 exact rfl))
  | (apply zg; exact rfl; exact rfl)
  | (apply vi; (iterate 4 exact rfl))
  | (apply q9; (iterate 3 exact rfl))
  | (apply zm; (iterate 5 exact rfl))
  | apply qv
  | apply qs
  | (apply qe; exact Tryz.call159; exact q2l _ _ hl))
 all_goals refine qk rfl (ze rfl) ⟨(?_ : _ = _), _, rfl⟩
 ·have e : jz f = 5 := if_pos (by simp_all)
  rw [e]; rfl
 ·have e : jz f = 6 := (if_neg (by simp_all)).trans (if_pos (by omega))
  rw [e]; rfl
 ·have e : jz f = 0 := (if_neg (by simp_all)).trans (if_neg (by omega))
  rw [e]; rfl
theorem qfs (f : FldV) (st : List AObj) (hl : f.1.length < 4294967281) (h : jz f = 0) : qm E 124 [fldA f] st fun r st' => r = .v .nilIface ∧ st' = st := by
 have := qk8 f st hl
 rw [h] at this
 exact this
theorem qgc (f : FldV) (st : List AObj) (hl : f.1.length < 4294967281) (h : jz f ≠ 0) : qm E 124 [fldA f] st fun r st' => r = .ifc 31 (Iv (jz f)) ∧ st' = st := by
 have := qk8 f st hl
 rw [qh2 h] at this
 exact this
theorem qyp (s : List UInt8) (st : List AObj) (hl : s.length < 4294967281) : qm E 126 [Sv s] st fun r st' => r = Sv (vl s) ∧ st' = st := by
 refine q8 (zd _) (qq Tryz.func126 rfl (Nat.le_of_ble_eq_true rfl) ?_)
 have hb : Lib.trimS s [32, 9] = [] ↔ qcs s := by rw [qjq]; simp [we, qcs]
 repeat' (first
  | apply qj
  | apply qb
  | apply qg
  | apply qh
  | apply qc
  | (apply z4; (iterate 3 exact rfl))
  | (apply za; (iterate 4 exact rfl))
  | (apply wk; (first | assumption | omega))
  | (apply ww; (first | assumption | omega))
  | (apply vg <;> intro h)
  | (apply zf; exact rfl; first | (apply j9; (first | assumption | omega)) | (apply ke; (first | assumption | omega)) | (apply kg; (first | exact rfl | assumption)) | (apply kh; (first | exact rfl | assumption)) | (apply pk_t; (first | exact rfl | assumption)) | (apply pk_f; (first | exact rfl | assumption)))
  | (apply qd; exact rfl; first | (apply qy; (first | assumption | omega)) | (apply q4; (first | assumption | omega)) | (apply q5; (first | exact rfl | assumption)) | (apply qz; (first | exact rfl | assumption)) | (apply cd_n <;> intro h) | (apply cd_t; (first | exact rfl | assumption)) | (apply cd_f; (first | exact rfl | assumption)) | (apply cd_d <;> intro h) | (apply cd_s <;> intro h))
  | (apply ji; exact rfl; exact rfl; (first | omega | (simp only [List.length_append, List.length_cons, List.length_nil]; omega) | (simp; omega)))
  | apply qv
  | apply qs
  | (apply qe; exact Tryz.call161; exact qos _ _ _ (by omega) rfl rfl)
  | (apply qe; exact Tryz.call73; exact qdf _ _ _))
 all_goals refine qk rfl (ze rfl) ⟨congrArg (fun l : qa => Sv l) (?_ : _ = vl s), _, rfl⟩
 all_goals unfold vl
 all_goals simp_all
theorem quq (xs : List qa) : Pure (Ss xs) := qz7 xs
theorem qw5 (l p : qa) (r : List qa) (st : List AObj) (hl : l.length < 4294967281) (h : zp l = p :: r) : qm E 125 [Sv l, Sv [10]] st fun x st' => x = .sl 1 (Sv p :: r.map fun x => Sv x) none ∧ st' = st := by
 have := qzc l st hl
 rw [h] at this
 exact this
def qf4 (f : FldV) : AV := .tu [Ss (if jz f = 0 then z8 f else []), errN (jz f)]
theorem quc (f : FldV) : Pure (qf4 f) := qd0 fun x hx => by
 simp only [List.mem_cons, List.not_mem_nil, or_false] at hx
 rcases hx with rfl | rfl
 ·exact quq _
 ·exact qgv _
set_option maxHeartbeats 2000000 in
theorem qly (f : FldV) (st : List AObj) (hl : f.1.length < 4294967281) (hv : f.2.length < 1000000) : qm E 85 [fldA f] st fun r st' => r = qf4 f ∧ st' = st := by
 refine q8 (quc _) (qq Tryz.func85 rfl (Nat.le_of_ble_eq_true rfl) ?_)
 by_cases hc : jz f = 0
 ·obtain ⟨p, r, hp⟩ : ∃ p r, zp f.2 = p :: r := ⟨_, _, qoj f.2⟩
  have hpl : p.length ≤ f.2.length := qlz f.2 p (by rw [hp]; simp)
  have hrl : ∀ x ∈ r, x.length ≤ f.2.length := fun x hx => qlz f.2 x (by rw [hp]; simp [hx])
  have hrn : r.length ≤ f.2.length := by have := qe2 _ f.2 (Nat.le_refl _); rw [hp] at this; simpa using this
  repeat' (first
   | (apply x9; (iterate 6 exact rfl))
   | (apply qxs; (iterate 5 exact rfl); kernel_rfl)
   | apply qj
   | apply qt
   | apply qb
   | apply qg
   | apply qh
   | apply qc
   | (apply z4; (iterate 3 exact rfl))
   | (apply qd; exact rfl; first | (apply qy; (first | assumption | omega)) | (apply q4; (first | assumption | omega)) | (apply q5; (first | exact rfl | assumption)) | (apply qz; (first | exact rfl | assumption)) | (apply cd_n <;> intro h) | (apply cd_t; (first | exact rfl | assumption)) | (apply cd_f; (first | exact rfl | assumption)) | (apply cd_d <;> intro h) | (apply cd_s <;> intro h))
   | (apply zx; (iterate 4 exact rfl))
   | (apply ji; exact rfl; exact rfl; (first | omega | (simp only [List.length_append, List.length_cons, List.length_nil]; omega) | (simp; omega)))
   | (apply z6; exact rfl; exact rfl)
   | (apply vi; (iterate 4 exact rfl))
   | (apply q9; (iterate 3 exact rfl))
   | (apply zt; (iterate 3 exact rfl))
   | (apply zm; (iterate 5 exact rfl))
   | (apply zj; (iterate 11 exact rfl))
   | (apply xb; (iterate 4 exact rfl); (first | assumption | omega | exact Nat.succ_le_succ (Nat.zero_le _) | (simp; omega)); exact rfl)
   | apply ym
   | (apply qcv; exact rfl; exact rfl; (first | omega | (simp only [List.length_append, List.length_cons, List.length_nil]; omega) | (simp; omega)))
   | (apply v8; (iterate 3 exact rfl))
   | (apply qba; (iterate 5 exact rfl))
   | apply xm
   | apply qv
   | (apply qe; exact Tryz.call124; exact qfs _ _ hl hc)
   | (apply qe; exact Tryz.call125; exact qw5 _ _ _ _ (by omega) hp)
   | (apply z0 (n := 0); (iterate 6 exact rfl))
   | (apply km (n := 0); (iterate 6 exact rfl))
   | (apply qng (n := 0); (iterate 5 exact rfl); omega))
  all_goals refine qpw 6 (o := st.length + 1) (sz := 1) (len := 1) (cap := 1) (xs := [Sv (j3 f.1 p)]) (T' := 9) rfl (z2 rfl) rfl rfl (by omega) (Nat.le_refl _) (by decide) (by simp [AV.cells]) ?_ ?_
  ·exact congrArg (fun l : qa => [Sv l]) (by unfold j3; rw [if_neg h] : j3 f.1 p = f.1 ++ [58] ++ ([32] ++ p))
  rotate_left
  ·exact congrArg (fun l : qa => [Sv l]) (by unfold j3; rw [if_pos (Classical.not_not.1 h), List.append_nil] : j3 f.1 p = f.1 ++ [58])
  all_goals
   have hre : qf4 f = .tu [Ss (j3 f.1 p :: r.map fun s => [32] ++ vl s), .v .nilIface] := by
    unfold qf4 z8
    rw [if_pos hc, hc, hp]
    rfl
   rw [hre]
   have hst : ∀ s, (vl s).length ≤ s.length + 1 := qpf
   refine qam r (fun pre s => StE [(6, .sl 1 (Sv (j3 f.1 p) :: pre.map (fun s => Sv ([32] ++ vl s))) (some (st.length + 1))), (35, .sl 1 (r.map fun x => Sv x) none), (36, Iv r.length), (37, Iv pre.length)] st [.cells 0 69 [Sv f.1, Sv f.2], .tip (pre.length + 1) 1 9] s) (qb6 ⟨rfl, rfl, congrArg (fun n : Nat => Iv (n : Int)) (List.length_map ..), rfl, trivial⟩ (vv st _ 1 _)) ?_ ?_
   ·rintro _ ⟨t, ext, rfl⟩
    repeat' (first
     | apply qj
     | apply qb
     | apply qg
     | apply qh
     | apply qc
     | (apply qo; (iterate 3 exact rfl))
     | (apply qd; exact rfl; first | (apply qy; (first | assumption | omega)) | (apply q4; (first | assumption | omega)) | (apply q5; (first | exact rfl | assumption)) | (apply qz; (first | exact rfl | assumption)) | (apply cd_n <;> intro h) | (apply cd_t; (first | exact rfl | assumption)) | (apply cd_f; (first | exact rfl | assumption)) | (apply cd_d <;> intro h) | (apply cd_s <;> intro h))
     | apply jk
     | apply qs)
    refine qk rfl (qxj rfl rfl rfl (qis _ _ _) (yv _)) ⟨?_, vc _ _ _ _⟩
    simp only [Ss, List.map_cons, List.map_map]
    rfl
   ·rintro pre a rest _ hr ⟨t, ext, rfl⟩
    have hlen : r.length = pre.length + (rest.length + 1) := by rw [hr]; simp
    have hget : (r.map fun x => Sv x)[pre.length]? = some (Sv a) := by rw [hr]; simp
    have ha : a.length ≤ f.2.length := hrl a (by rw [hr]; simp)
    have hsa := hst a
    repeat' (first
     | apply qj
     | apply qt
     | apply qb
     | apply qg
     | apply qh
     | apply qc
     | (apply qo; (iterate 3 exact rfl))
     | (apply qd; exact rfl; first | (apply qy; (first | assumption | omega)) | (apply q4; (first | assumption | omega)) | (apply q5; (first | exact rfl | assumption)) | (apply qz; (first | exact rfl | assumption)) | (apply cd_n <;> intro h) | (apply cd_t; (first | exact rfl | assumption)) | (apply cd_f; (first | exact rfl | assumption)) | (apply cd_d <;> intro h) | (apply cd_s <;> intro h))
     | (apply ji; exact rfl; exact rfl; (first | omega | (simp only [List.length_append, List.length_cons, List.length_nil]; omega) | (simp; omega)))
     | (apply jh; exact rfl; exact rfl; exact zl (by omega) (by omega))
     | (apply zt; (iterate 3 exact rfl))
     | (apply jt; (iterate 9 exact rfl))
     | apply qv
     | (apply qe; exact Tryz.call126; exact qyp _ _ (by omega))
     | (apply z0 (n := pre.length); (iterate 5 exact rfl); exact hget)
     | (apply qgo (n := pre.length + 1) (m := 1) (sz := 1) (bytes := 16); (iterate 4 exact rfl); simp; exact rfl; exact rfl; exact ⟨⟨_, _, rfl, rfl, rfl, rfl, rfl⟩⟩; exact rfl; exact rfl; (unfold maxLen; omega); omega; exact rfl))
    refine qa5 ⟨?_, rfl, rfl, ?_, trivial⟩ ?_
    ·exact qti _ (fun s => Sv ([32] ++ vl s)) pre a _ rfl
    ·exact qfl pre a
    ·rw [qd2 pre a]; rfl
 ·skip
  repeat' (first
   | apply qj
   | apply qb
   | apply qg
   | apply qh
   | apply qc
   | (apply qd; exact rfl; first | (apply qy; (first | assumption | omega)) | (apply q4; (first | assumption | omega)) | (apply q5; (first | exact rfl | assumption)) | (apply qz; (first | exact rfl | assumption)) | (apply cd_n <;> intro h) | (apply cd_t; (first | exact rfl | assumption)) | (apply cd_f; (first | exact rfl | assumption)) | (apply cd_d <;> intro h) | (apply cd_s <;> intro h))
   | (apply jc; exact rfl; exact rfl)
   | (apply vi; (iterate 4 exact rfl))
   | (apply zm; (iterate 5 exact rfl))
   | apply qs
   | (apply qe; exact Tryz.call124; exact qgc _ _ hl hc))
  refine qk rfl (xh (r' := .tu [Ss [], .ifc 31 (Iv (jz f))]) (vd rfl) (qcq (qdb _) (yv _))) ⟨?_, _, rfl⟩
  unfold qf4
  rw [if_neg hc, qh2 hc]
end Go.Proofs.YtefmcijohgpfhaaGreatDoor
set_option linter.unusedVariables false
set_option maxRecDepth 100000
namespace Go.Proofs.YtefmcijohgpfhaaGreatDoor
open Go Go.Av Go.RowKit Go.Proofs Go.Pl
theorem qha {rd : Option Nat} {N : Nat} {ops : Array Oper} {K : AS → Prop} {s : AS} {rest : List Oper} {d : Option Tmp} {T : TypeId} {p : String} {af : Array Edge} {st loc : List AObj} (hst : s.st = st ++ loc)
  (h : AOps E rd N ops rest K (AS.put ⟨s.t, st ++ (loc ++ [bldO 0 (.v (.pointer none)) [] (st.length + (loc.length + 1)), .tip 0 1 5]), s.df⟩ d (.bx (st.length + loc.length) 0 0))) : AOps E rd N ops (⟨d, .alloc 93, T, p, af, none⟩ :: rest) K s := by
 refine zq hst rfl ?_
 have e : ∀ (t : Nat → AV) (st' : List AObj) (df : List Nat) (x : AV), (AS.put ⟨t, st', df⟩ d x).st = st' := fun t st' df x => by cases d <;> rfl
 have e2 : ∀ (t : Nat → AV) (st' st2 : List AObj) (df : List Nat) (x : AV), (⟨(AS.put ⟨t, st', df⟩ d x).t, st2, (AS.put ⟨t, st', df⟩ d x).df⟩ : AS) = AS.put ⟨t, st2, df⟩ d x := fun t st' st2 df x => by cases d <;> rfl
 refine qs3 (o := st.length + loc.length) (j := 1) (sz := 1) (T' := 5) (T1 := 93) (ver := 0) (cs := [.v (.pointer none), zv]) ?_ rfl ?_
 ·rw [e, ← List.append_assoc, List.getElem?_append_right (by simp)]
  simp
  rfl
 ·rw [e, e2]
  have hx : (st ++ (loc ++ [AObj.cells 0 93 [.v (.pointer none), zv]])).set (st.length + loc.length) (.cells 0 93 ([AV.v (.pointer none), zv].set 1 (.sl 1 [] (some (st ++ (loc ++ [AObj.cells 0 93 [.v (.pointer none), zv]])).length)))) ++ [AObj.tip 0 1 5]
    = st ++ (loc ++ [bldO 0 (.v (.pointer none)) [] (st.length + (loc.length + 1)), .tip 0 1 5]) := by
   rw [vv, List.append_assoc, List.set_append_right _ _ (Nat.le_refl _)]
   simp
  have h' := h
  rw [← hx] at h'
  exact h'
theorem qit (st loc ext new loc' : List AObj) (k kt ver : Nat) (q : AV) (l m : List UInt8) (hk : loc[k]? = some (bldO ver q l (st.length + kt))) (hkt : loc[kt]? = some (.tip l.length 1 5)) (hq : q = .v (.pointer none) ∨ q = .bx (st.length + k) ver 0)
  (hlen : l.length + m.length ≤ 140737488355328) (hl : loc' = (loc.set k (bldO ver (.bx (st.length + k) ver 0) (l ++ m) (st.length + kt))).set kt (.tip (l ++ m).length 1 5)) :
  qm E 47 [.bx (st.length + k) ver 0, Sv m] (((st ++ loc) ++ ext) ++ new) fun r st' => r = .tu [Iv m.length, .v .nilIface] ∧ st' = ((st ++ loc') ++ ext) ++ new := by
 refine (qrb (st.length + k) ver (st.length + kt) q l m _ (qa9 hk) (qa9 hkt) hq hlen).mono fun r st' ⟨h1, h2⟩ => ⟨h1, ?_⟩
 have hk1 := lt_of_getElem? hk
 have hk2 := lt_of_getElem? hkt
 rw [h2, qfm _ hk1, qfm _ (by simpa using hk2), hl, List.length_append]
theorem qhb (st loc ext new loc' : List AObj) (k kt ver : Nat) (q : AV) (l : List UInt8) (hk : loc[k]? = some (bldO ver q l (st.length + kt))) (hkt : loc[kt]? = some (.tip l.length 1 5)) (hl : loc' = loc.set kt .dead) :
  qm E 50 [.bx (st.length + k) ver 0] (((st ++ loc) ++ ext) ++ new) fun r st' => r = Sv l ∧ st' = ((st ++ loc') ++ ext) ++ new := by
 refine (qpd (st.length + k) ver (st.length + kt) q l _ (qa9 hk) (qa9 hkt)).mono fun r st' ⟨h1, h2⟩ => ⟨h1, ?_⟩
 rw [h2, qfm _ (lt_of_getElem? hkt), hl]
end Go.Proofs.YtefmcijohgpfhaaGreatDoor
set_option maxRecDepth 100000
set_option linter.unusedVariables false
namespace Go.Proofs.YtefmcijohgpfhaaGreatDoor
open Go Go.Av Go.RowKit Go.Proofs Go.Pl
theorem qre : ∀ (r : List qa), (zn (r.map fun s => [32] ++ vl s)).length ≤ 3 * (r.flatMap fun s => [10] ++ s).length
 | [] => by simp [zn]
 | a :: r => by
  have ih := qre r
  have := qpf a
  simp only [zn, List.map_cons, List.flatMap_cons, List.length_append, List.length_cons, List.length_nil] at ih ⊢
  omega
theorem qcz (a b : List qa) : zn (a ++ b) = zn a ++ zn b := by simp [zn]
theorem qkf (s : qa) : zn [s] = s ++ [10] := by simp [zn]
theorem qlp : ∀ (l : List qa), l.length ≤ (zn l).length
 | [] => by simp
 | a :: r => by
  have ih := qlp r
  simp only [zn, List.flatMap_cons, List.length_append, List.length_cons, List.length_nil] at ih ⊢
  omega
theorem qzg (a b : List Fld) : kc (a ++ b) = kc a ++ kc b := by simp [kc]
theorem qzm (f : Fld) : kc [f] = zn (z8 f) := by simp [kc]
theorem qn8 {f : Fld} (h : jl f) : (zn (z8 f)).length ≤ 5000 := by
 obtain ⟨hk, hv⟩ := h
 have h1 := qre (zp f.2).tail
 have h2 := congrArg List.length (qiv _ f.2 (Nat.le_refl _))
 have h3 : (j3 f.1 ((zp f.2).headD [])).length ≤ 32 + 2 + ((zp f.2).headD []).length := by
  have := hk.2.1
  unfold j3
  split <;> simp <;> omega
 have e : z8 f = [j3 f.1 ((zp f.2).headD [])] ++ (zp f.2).tail.map fun s => [32] ++ vl s := rfl
 rw [e, qcz, qkf]
 simp only [List.length_append, List.length_cons, List.length_nil] at h2 ⊢
 omega
theorem qgx : ∀ (xs : List Fld), (∀ f ∈ xs, jl f) → (kc xs).length ≤ 5000 * xs.length
 | [], _ => by simp [kc]
 | f :: r, h => by
  have ih := qgx r fun x hx => h x (by simp [hx])
  have h1 := qn8 (h f (by simp))
  have e : kc (f :: r) = zn (z8 f) ++ kc r := by simp [kc]
  rw [e, List.length_append, List.length_cons]
  omega
def errF : List Fld → Int
 | [] => 0
 | f :: r => if jz f ≠ 0 then jz f else errF r
theorem qjy : ∀ (xs : List Fld), errF xs = 0 ↔ ∀ f ∈ xs, jl f
 | [] => by simp [errF]
 | f :: r => by
  have ih := qjy r
  unfold errF
  by_cases h : jz f ≠ 0
  ·rw [if_pos h]
   have hg : ¬ jl f := fun hg => h ((qa8 f).2 hg)
   simp [h, hg]
  ·have hg := (qa8 f).1 (Classical.not_not.1 h)
   rw [if_neg h, ih]
   simp [hg]
theorem qvj : ∀ {pre : List Fld} {f : Fld} {r : List Fld}, (∀ x ∈ pre, jl x) → jz f ≠ 0 → errF (pre ++ f :: r) = jz f
 | [], f, r, _, h => by simp [errF, h]
 | x :: pre, f, r, hp, h => by
  have := (qa8 x).2 (hp x (by simp))
  simp only [List.cons_append, errF, this]
  rw [if_neg (by simp)]
  exact qvj (fun y hy => hp y (by simp [hy])) h
theorem qr7 (f : FldV) (st : List AObj) (hl : f.1.length < 4294967281) (hv : f.2.length < 1000000) (h : jz f = 0) : qm E 85 [fldA f] st fun r st' => r = .tu [Ss (z8 f), .v .nilIface] ∧ st' = st := by
 have := qly f st hl hv
 unfold qf4 at this
 rw [if_pos h, h] at this
 exact this
theorem qs0 (f : FldV) (st : List AObj) (hl : f.1.length < 4294967281) (hv : f.2.length < 1000000) (h : jz f ≠ 0) : qm E 85 [fldA f] st fun r st' => r = .tu [Ss [], .ifc 31 (Iv (jz f))] ∧ st' = st := by
 have := qly f st hl hv
 unfold qf4 at this
 rw [if_neg h, qh2 h] at this
 exact this
def qoe (xs : List Fld) : AV := .tu [Sv (if errF xs = 0 then kc xs else []), errN (errF xs)]
theorem qwf (xs : List Fld) : Pure (qoe xs) := qd0 fun x hx => by
 simp only [List.mem_cons, List.not_mem_nil, or_false] at hx
 rcases hx with rfl | rfl
 ·exact zd _
 ·exact qgv _
structure q2o (xs : List FldV) : Prop where
 len : xs.length < 1000000
 val : ∀ f ∈ xs, f.1.length < 4294967281 ∧ f.2.length < 1000000
set_option maxHeartbeats 2000000 in
theorem q4r (xs : List FldV) (st : List AObj) (hx : q2o xs) : qm E 46 [ju xs] st fun r st' => r = qoe xs ∧ st' = st := by
 refine q8 (qwf _) (qq Tryz.func46 rfl (Nat.le_of_ble_eq_true rfl) ?_)
 have hxl := hx.len
 repeat' (first
  | (apply qha; exact rfl)
  | apply qj
  | apply qt
  | apply qb
  | apply qg
  | apply qh
  | apply qc
  | (apply zx; (iterate 4 exact rfl)))
 refine qam xs (fun pre s => (∀ f ∈ pre, jl f) ∧ ∃ q, (q = .v (.pointer none) ∨ q = .bx (st.length + 0) 0 0) ∧ StE [(4, .bx (st.length + 0) 0 0), (11, ju xs), (12, Iv xs.length), (13, Iv pre.length)] st [bldO 0 q (kc pre) (st.length + 1), .tip (kc pre).length 1 5] s) ⟨by simp, _, .inl rfl, qb6 ⟨rfl, rfl, congrArg (fun n : Nat => Iv (n : Int)) (List.length_map ..), rfl, trivial⟩ rfl⟩ ?_ ?_
 ·rintro _ ⟨hg, q, hq, t, ext, rfl⟩
  repeat' (first
   | apply qj
   | apply qb
   | apply qg
   | apply qc
   | (apply qo; (iterate 3 exact rfl))
   | (apply qd; exact rfl; first | (apply qy; (first | assumption | omega)) | (apply q4; (first | assumption | omega)) | (apply q5; (first | exact rfl | assumption)) | (apply qz; (first | exact rfl | assumption)) | (apply cd_n <;> intro h) | (apply cd_t; (first | exact rfl | assumption)) | (apply cd_f; (first | exact rfl | assumption)) | (apply cd_d <;> intro h) | (apply cd_s <;> intro h))
   | apply jk
   | apply qs
   | (refine qe Tryz.call50 (qhb st _ _ _ _ 0 1 0 _ _ rfl rfl rfl) ?_))
  refine qk rfl (vd rfl) ⟨?_, vc _ _ _ _⟩
  unfold qoe
  have h0 := (qjy xs).2 hg
  rw [if_pos h0, h0]
  rfl
 ·rintro pre f rest _ hr ⟨hg, q, hq, t, ext, rfl⟩
  have hlen : xs.length = pre.length + (rest.length + 1) := by rw [hr]; simp
  have hget : (xs.map fldA)[pre.length]? = some (fldA f) := by rw [hr]; simp
  obtain ⟨hf1, hf2⟩ := hx.val f (by rw [hr]; simp)
  by_cases hc : jz f = 0
  ·have hgf := (qa8 f).1 hc
   have hb1 := qgx pre hg
   have hb2 := qn8 hgf
   repeat' (first
    | apply qj
    | apply qt
    | apply qb
    | apply qg
    | apply qh
    | apply qc
    | (apply zb; exact rfl; exact rfl)
    | (apply qo; (iterate 3 exact rfl))
    | (apply qd; exact rfl; first | (apply qy; (first | assumption | omega)) | (apply q4; (first | assumption | omega)) | (apply q5; (first | exact rfl | assumption)) | (apply qz; (first | exact rfl | assumption)) | (apply cd_n <;> intro h) | (apply cd_t; (first | exact rfl | assumption)) | (apply cd_f; (first | exact rfl | assumption)) | (apply cd_d <;> intro h) | (apply cd_s <;> intro h))
    | (apply zx; (iterate 4 exact rfl))
    | (apply z6; exact rfl; exact rfl)
    | (apply zq; exact rfl; exact rfl)
    | (apply zt; (iterate 3 exact rfl))
    | (apply zm; (iterate 5 exact rfl))
    | (apply zj; (iterate 11 exact rfl))
    | apply qv
    | (apply qe; exact Tryz.call85; exact qr7 _ _ hf1 hf2 hc)
    | (apply z0 (n := pre.length); (iterate 5 exact rfl); exact hget))
   refine qam (z8 f) (fun lp s => ∃ q, (q = .v (.pointer none) ∨ q = .bx (st.length + 0) 0 0) ∧ StE [(4, .bx (st.length + 0) 0 0), (11, ju xs), (12, Iv xs.length), (13, Iv pre.length), (25, Ss (z8 f)), (26, Iv (z8 f).length), (27, Iv lp.length)] st [bldO 0 q (kc pre ++ zn lp) (st.length + 1), .tip (kc pre ++ zn lp).length 1 5] s) ⟨_, hq, qa5 ⟨rfl, rfl, rfl, rfl, rfl, congrArg (fun n : Nat => Iv (n : Int)) (List.length_map ..), rfl, trivial⟩ (by simp [zn])⟩ ?_ ?_
   ·rintro _ ⟨q, hq, t, ext, rfl⟩
    repeat' (first
     | apply qj
     | apply qb
     | apply qg
     | apply qh
     | (apply qo; (iterate 3 exact rfl))
     | (apply qd; exact rfl; first | (apply qy; (first | assumption | omega)) | (apply q4; (first | assumption | omega)) | (apply q5; (first | exact rfl | assumption)) | (apply qz; (first | exact rfl | assumption)) | (apply cd_n <;> intro h) | (apply cd_t; (first | exact rfl | assumption)) | (apply cd_f; (first | exact rfl | assumption)) | (apply cd_d <;> intro h) | (apply cd_s <;> intro h))
     | (apply jh; exact rfl; exact rfl; exact zl (by omega) (by omega))
     | apply jk)
    refine ⟨fun x hx => ?_, q, hq, qa5 ⟨rfl, rfl, rfl, ?_, trivial⟩ ?_⟩
    ·rcases List.mem_append.1 hx with hx | hx
     ·exact hg x hx
     ·simp at hx; subst hx; exact hgf
    ·rw [qd2 pre f]; rfl
    ·rw [qzg, qzm]
   ·rintro lp a lr _ hlr ⟨q, hq, t, ext, rfl⟩
    have hlen2 : (z8 f).length = lp.length + (lr.length + 1) := by rw [hlr]; simp
    have hget2 : ((z8 f).map fun x => Sv x)[lp.length]? = some (Sv a) := by rw [hlr]; simp
    have hb3 : (zn lp).length + (a.length + 1) ≤ 5000 := by
     rw [hlr, qcz] at hb2
     have : a :: lr = [a] ++ lr := rfl
     rw [this, qcz, qkf] at hb2
     simp only [List.length_append, List.length_cons, List.length_nil] at hb2
     omega
    have hct := qlp lp
    repeat' (first
     | apply qj
     | apply qt
     | apply qb
     | apply qg
     | apply qh
     | apply qc
     | (apply qo; (iterate 3 exact rfl))
     | (apply qd; exact rfl; first | (apply qy; (first | assumption | omega)) | (apply q4; (first | assumption | omega)) | (apply q5; (first | exact rfl | assumption)) | (apply qz; (first | exact rfl | assumption)) | (apply cd_n <;> intro h) | (apply cd_t; (first | exact rfl | assumption)) | (apply cd_f; (first | exact rfl | assumption)) | (apply cd_d <;> intro h) | (apply cd_s <;> intro h))
     | (apply ji; exact rfl; exact rfl; (first | omega | (simp only [List.length_append, List.length_cons, List.length_nil]; omega) | (simp; omega)))
     | (apply zt; (iterate 3 exact rfl))
     | apply qv
     | (apply z0 (n := lp.length); (iterate 5 exact rfl); exact hget2))
    refine qe Tryz.call47 (qit st _ _ _ _ 0 1 0 _ _ _ rfl rfl ?_ ?_ rfl) ?_; (exact hq); (simp only [List.length_append, List.length_cons, List.length_nil]; omega)
    repeat' (first
     | apply qb
     | apply qg
     | apply qh
     | (apply jh; exact rfl; exact rfl; exact zl (by omega) (by omega)))
    refine ⟨_, .inr rfl, qa5 ⟨rfl, rfl, rfl, rfl, rfl, rfl, ?_, trivial⟩ ?_⟩
    ·rw [qd2 lp a]; rfl
    ·have e : kc pre ++ zn (lp ++ [a]) = (kc pre ++ zn lp) ++ (a ++ [10]) := by rw [qcz, qkf, List.append_assoc]
     rw [e]; rfl
  ·skip
   repeat' (first
    | apply qj
    | apply qt
    | apply qb
    | apply qg
    | apply qh
    | apply qc
    | (apply zb; exact rfl; exact rfl)
    | (apply qo; (iterate 3 exact rfl))
    | (apply qd; exact rfl; first | (apply qy; (first | assumption | omega)) | (apply q4; (first | assumption | omega)) | (apply q5; (first | exact rfl | assumption)) | (apply qz; (first | exact rfl | assumption)) | (apply cd_n <;> intro h) | (apply cd_t; (first | exact rfl | assumption)) | (apply cd_f; (first | exact rfl | assumption)) | (apply cd_d <;> intro h) | (apply cd_s <;> intro h))
    | (apply jc; exact rfl; exact rfl)
    | (apply zq; exact rfl; exact rfl)
    | (apply zt; (iterate 3 exact rfl))
    | (apply zm; (iterate 5 exact rfl))
    | (apply zj; (iterate 11 exact rfl))
    | apply qv
    | apply qs
    | (apply qe; exact Tryz.call85; exact qs0 _ _ hf1 hf2 hc)
    | (apply z0 (n := pre.length); (iterate 5 exact rfl); exact hget))
   refine qk rfl (vd rfl) ⟨?_, vc _ _ _ _⟩
   unfold qoe
   have h0 : errF xs = jz f := by rw [hr]; exact qvj hg hc
   rw [h0, if_neg hc, qh2 hc]
   rfl
end Go.Proofs.YtefmcijohgpfhaaGreatDoor
set_option maxRecDepth 100000
set_option linter.unusedVariables false
namespace Go.Proofs.YtefmcijohgpfhaaGreatDoor
open Go Go.Av Go.RowKit Go.Proofs Go.Pl
theorem qdo : ∀ (n : Nat) (l : qa) (c : UInt8), l.length ≤ n → c ≠ 10 → zp (l ++ [c]) = (zp l).set ((zp l).length - 1) ((zp l).getD ((zp l).length - 1) [] ++ [c])
 | n, l, c, hn, hc => by
  by_cases h : 10 ∈ l
  ·have hne : l ≠ [] := fun e => by subst e; simp at h
   have hlt := wo (c := 10) hne
   cases n with
   | zero => omega
   | succ n =>
    have ih := qdo n (past 10 l) c (by omega) hc
    have e := xx h
    have e2 : l ++ [c] = upto 10 l ++ 10 :: (past 10 l ++ [c]) := (congrArg (· ++ [c]) e).trans (by simp)
    have hp := qi0 (past 10 l)
    have hpl : 0 < (zp (past 10 l)).length := List.length_pos_iff.2 hp
    rw [y5 (by simp [h]), y5 h, e2, wa _ (qb0 10 l), w8 _ (qb0 10 l), ih]
    have e3 : (upto 10 l :: zp (past 10 l)).length - 1 = (zp (past 10 l)).length - 1 + 1 := by simp; omega
    rw [e3, List.set_cons_succ]
    simp
  ·have h2 : 10 ∉ l ++ [c] := by simp [h, Ne.symm hc]
   rw [y4 h, y4 h2]
   simp
end Go.Proofs.YtefmcijohgpfhaaGreatDoor
set_option linter.unusedVariables false
namespace Go.Av
open Go Go.RowKit
@[reducible] def qnp (K : Act → World → Prop) : Exit → Act → World → Prop
 | .normal, a, w => K a w
 | _, _, _ => False
structure AZ (E : Env) (N : Nat) (ops : Array Oper) (fuel : Nat) (listed : Array Bool) (K : AS → Prop) (s : AS) : Prop where
 run : ∀ (B0 : Nat) (w0 : World) (G : Gh) (a : Act) (w : World), E.L B0 w0 → Inv B0 w0 N G s a w → ∀ K' : Act → World → Prop, (∀ G' s' a' w', G.le G' → Inv B0 w0 N G' s' a' w' → K s' → K' a' w') → wpAnyIn (fw none) 0 E.P .any ops (qnp K') fuel listed a w
section
variable {E : Env} {N : Nat} {ops : Array Oper} {K : AS → Prop} {s : AS} {fuel : Nat} {listed : Array Bool}
theorem qz6 {id : Nat} {Q : Exit → AS → Prop} {n : Nat} (hm : E.P.follows .mixedOrders = true) (hn : ops.size = n) (h : AZ E N ops n (Array.replicate n false) (Q .normal) s) : AWp E none N (.region id ops true) Q s := by
 subst hn
 refine ⟨fun B0 w0 G a w hL hI => ?_⟩
 have hBl : Below w.heap.size w { w with drawn := w.drawn + 1 } := ⟨rfl, rfl, rfl, Nat.le_refl _, fun _ _ => rfl⟩
 have hI2 : Inv B0 w0 N G s a { w with drawn := w.drawn + 1 } := ⟨hI.agree.fresh hBl, hI.defers, hI.size, hI.tmps⟩
 have := h.run B0 w0 G a _ hL hI2 (fun a' w' => ∃ (G' : Gh) (s' : AS), G.le G' ∧ Inv B0 w0 N G' s' a' w' ∧ Q .normal s') fun G' s' a' w' hG hI' hk => ⟨G', s', hG, hI', hk⟩
 refine wpIn_mono (wpIn_region_any hm this) fun e a' w' hq => ?_
 cases e with
 | normal => exact hq
 | _ => exact hq.elim
theorem qvc (hr : Region.ready .any ops listed = []) (h : K s) : AZ E N ops fuel listed K s :=
 ⟨fun B0 w0 G a w hL hI K' hK => wpAnyIn_done hr (hK G s a w (.refl G) hI h) fuel⟩
theorem qt3 {F : Fence} {n : Nat} {P : Program} {o : Oper} {a : Act} {w : World} {next X Y : Act → World → Prop} (h : o.wpIn F n P a w next (qnp X)) : o.wpIn F n P a w next (qnp Y) := by
 unfold Oper.wpIn at *
 refine ⟨h.1, ?_⟩
 have h := h.2
 generalize (o.semAt F.round a.eval).run P w = r at *
 cases r with
 | ok x w' =>
  cases x <;> simp only [Oper.uponIn] at h ⊢
  case value u => exact h
  case skip => exact h
  case defer d => exact h
  case enter f args =>
   refine ⟨h.1, CallsIn.mono h.2 fun e w'' he => ?_⟩
   cases e with
   | returned u => exact he
   | panicked c => exact he.elim
   | outgrown => exact absurd he (by simp [LetsOut])
  case row row args => exact h
  case round l f tmps assign body =>
   refine ⟨h.1, RoundIn.mono h.2 fun e w'' he => ?_⟩
   cases e with
   | returned u => exact he
   | panicked c => exact he.elim
   | outgrown => exact absurd he (by simp [LetsOut])
 | halt x w' =>
  cases x <;> simp only [Oper.uponIn] at h ⊢
  case panic u => exact h.elim
def qqs (P : Nat → Prop) : List Nat → Prop
 | [] => True
 | i :: r => P i ∧ qqs P r
theorem qpq {P : Nat → Prop} : ∀ {l : List Nat}, qqs P l → ∀ i ∈ l, P i
 | [], _, _, h => by simp at h
 | j :: l, h, i, hi => by
  rcases List.mem_cons.1 hi with rfl | hi
  ·exact h.1
  ·exact qpq h.2 i hi
theorem q5a (rs : List Nat) (hr : Region.ready .any ops listed = rs) (hne : Nat.blt 0 rs.length = true)
  (h : qqs (fun i => ∃ o, ops[i]? = some o ∧ AOps E none N ops [o] (AZ E N ops fuel (listed.setIfInBounds i true) K) s) rs) : AZ E N ops (fuel + 1) listed K s := by
 refine ⟨fun B0 w0 G a w hL hI K' hK => wpAnyIn_all hr (fun e => by subst e; simp at hne) fun i hi => ?_⟩
 obtain ⟨o, ho, h⟩ := qpq h i hi
 have hrun := h.run B0 w0 G a w hL hI (qnp fun a' w' => wpAnyIn (fw none) 0 E.P .any ops (qnp K') fuel (listed.setIfInBounds i true) a' w') fun G' s' a' w' hG hI' hk => hk.run B0 w0 G' a' w' hL hI' K' fun G2 s2 a2 w2 hG2 hI2 hk2 => hK G2 s2 a2 w2 (hG.trans hG2) hI2 hk2
 unfold wpOpIn
 rw [ho]
 simp only [wpListIn] at hrun ⊢
 split
 ·rename_i hw
  rw [if_pos hw] at hrun
  exact qt3 hrun
 ·rename_i hw
  rw [if_neg hw] at hrun
  exact hrun
variable {d : Option Tmp} {T : TypeId} {p : String} {af : Array Edge}
end
end Go.Av
