/- Contracts and plain facts that the closing text leans on (part 3). No condition of their own beyond those that each states. -/
import Derived.Test.YtefmcijohgpfhaaGreatDoorK2
import Derived.Lib.SplitLaws
import Derived.Shelf.Strings.SplitShaped
import Derived.Deep.Slices
import Derived.Deep.Fields
import Derived.WideKeyArgs
import Derived.Lib.ItoaLen
set_option maxRecDepth 100000
set_option linter.unusedVariables false
set_option linter.unusedSimpArgs false
set_option maxRecDepth 100000
set_option linter.unusedVariables false
namespace Go.Proofs.YtefmcijohgpfhaaGreatDoor
open Go Go.Av Go.RowKit Go.Proofs Go.Pl
theorem qxt {l : qb} {v : Int} (h : l = Lib.itoa v) : (v < 0 → (l.getD 0 0).toNat = 45 ∧ l.drop 1 = Lib.decDigits v.natAbs) ∧ (0 ≤ v → (l.getD 0 0).toNat ≠ 45 ∧ l = Lib.decDigits v.toNat) := by
 subst h
 refine ⟨fun h => ?_, fun h => ?_⟩
 ·rw [qg1 h]; exact ⟨rfl, rfl⟩
 ·rw [qgr h]
  refine ⟨?_, rfl⟩
  have hp := qfr v.toNat
  have hd := xv v.toNat v.toNat (Nat.le_refl _)
  cases hl : Lib.decDigits v.toNat with
  | nil => rw [hl] at hp; simp at hp
  | cons c r =>
   rw [hl] at hd
   have := hd c (by simp)
   simp
   omega
def sgn (l : qb) : Nat := if (l.getD 0 0).toNat = 45 then 1 else 0
theorem qlt {l : qb} {v : Int} (h : l = Lib.itoa v) : l.drop (sgn l) = Lib.decDigits v.natAbs := by
 obtain ⟨h1, h2⟩ := qxt h
 unfold sgn
 by_cases hv : v < 0
 ·obtain ⟨a, b⟩ := h1 hv
  rw [if_pos a, b]
 ·obtain ⟨a, b⟩ := h2 (by omega)
  rw [if_neg a, List.drop_zero, show v.natAbs = v.toNat by omega]
  exact b
end Go.Proofs.YtefmcijohgpfhaaGreatDoor
set_option linter.unusedVariables false
set_option maxRecDepth 100000
namespace Go.Pl
open Go
def sp : Bool → qb → Bool
 | _, [] => true
 | f, c :: l => (!f || decide (c = 32)) && sp (decide (c = 10)) l
theorem qjp : ∀ l, sp false l = sp true (past 10 l)
 | [] => rfl
 | c :: l => by
  by_cases h : c = 10
  ·subst h; simp [sp, past, upto]
  ·have e : past 10 (c :: l) = past 10 l := by simp [past, upto, h]
   rw [e, ← qjp l]
   simp [sp, h]
theorem qr2 {l : qb} (h : l ≠ []) : sp true l = (decide ([32] <+: upto 10 l) && sp true (past 10 l)) := by
 cases l with
 | nil => exact absurd rfl h
 | cons c r =>
  by_cases hc : c = 10
  ·subst hc; simp [sp, upto]
  ·have e : past 10 (c :: r) = past 10 r := by simp [past, upto, hc]
   have e2 : upto 10 (c :: r) = c :: upto 10 r := by simp [upto, hc]
   rw [e, e2, ← qjp]
   simp [sp, hc, eq_comm]
theorem qim : ∀ (n : Nat) (l : qb), l.length ≤ n → ((∀ x ∈ jk l, [32] <+: x.1) ↔ sp true l = true)
 | 0, l, h => by
  have : l = [] := List.length_eq_zero_iff.1 (by omega)
  subst this
  simp [x6, sp]
 | n + 1, l, h => by
  by_cases hl : l = []
  ·subst hl; simp [x6, sp]
  ·rw [x5 hl, qr2 hl, Bool.and_eq_true, ← qim n (past 10 l) (by have := yz (c := 10) hl; omega)]
   simp only [List.mem_cons, forall_eq_or_imp, decide_eq_true_eq]
theorem qhg (l : qb) : (vn [32] l).2 = sp true l := by
 unfold vn
 by_cases h : sp true l = true
 ·rw [if_pos ((qim _ l (Nat.le_refl _)).2 h), h]
 ·rw [if_neg (fun h' => h ((qim _ l (Nat.le_refl _)).1 h'))]
  simp only [Bool.not_eq_true] at h
  rw [h]
def qhi (f : Bool) (l : qb) : Bool := match l.getLast? with | none => f | some c => decide (c = 10)
theorem qv3 (f : Bool) (c : UInt8) (l : qb) : qhi f (c :: l) = qhi (decide (c = 10)) l := by
 cases l with
 | nil => simp [qhi]
 | cons b l =>
  unfold qhi
  rw [List.getLast?_cons_cons]
  cases hb : (b :: l).getLast? with
  | none => simp at hb
  | some x => rfl
theorem qrs : ∀ (f : Bool) (l m : qb), sp f (l ++ m) = (sp f l && sp (qhi f l) m)
 | f, [], m => by simp [sp, qhi]
 | f, c :: l, m => by
  simp only [List.cons_append, sp]
  rw [qrs _ l m, qv3, Bool.and_assoc]
theorem qpm (l : qb) : qbm l ↔ 2 ≤ l.length ∧ l.length ≤ 50000 ∧ l.getLast? = some 10 ∧ sp true l = true := by
 unfold qbm
 rw [qhg]
theorem qdr : ∀ (n u : Nat), u ≤ n → ∀ c ∈ Lib.decDigits u, 48 ≤ c.toNat ∧ c.toNat ≤ 57
 | n, u, hn, c, hc => by
  by_cases h : u < 10
  ·rw [Lib.decDigits_one h] at hc
   simp only [List.mem_singleton] at hc
   subst hc
   rw [UInt8.toNat_ofNat']
   omega
  ·rw [qch h, List.mem_append] at hc
   cases n with
   | zero => omega
   | succ n =>
    rcases hc with hc | hc
    ·exact qdr n (u / 10) (by omega) c hc
    ·exact qdr n (u % 10) (by omega) c hc
theorem qi3 (n : Nat) : Lib.itoa (n : Int) = Lib.decDigits n := by
 unfold Lib.itoa
 rw [if_neg (by omega)]
 simp
theorem q0k (n : Nat) : ∀ c ∈ Lib.itoa (n : Int), 48 ≤ c.toNat ∧ c.toNat ≤ 57 := by
 rw [qi3]
 exact qdr n n (Nat.le_refl _)
theorem qrm (u : Nat) : Lib.decDigits u ≠ [] := by
 intro h
 have := congrArg List.length h
 rw [Lib.decDigits_length] at this
 have := Lib.nDigits_pos u
 simp at *
 omega
theorem qpk : ∀ (a : Nat) (l m : qb) (b : Nat), Lib.parseUint10 a l = .ok b → Lib.parseUint10 a (l ++ m) = Lib.parseUint10 b m
 | a, [], m, b, h => by
  simp only [Lib.parseUint10, Lib.NumEnd.ok.injEq] at h
  subst h; rfl
 | a, c :: l, m, b, h => by
  simp only [List.cons_append, Lib.parseUint10] at h ⊢
  split at h
  ·rename_i hd
   rw [if_pos hd]
   split at h
   ·cases h
   ·rename_i h1
    rw [if_neg h1]
    split at h
    ·cases h
    ·rename_i h2
     rw [if_neg h2]
     exact qpk _ l m b h
  ·cases h
theorem qqg : ∀ (n u : Nat), u ≤ n → u < 1000000000000000000 → Lib.parseUint10 0 (Lib.decDigits u) = .ok u
 | n, u, hn, hu => by
  have key : ∀ (a d : Nat), a < 100000000000000000 → d < 10 → Lib.parseUint10 a (Lib.decDigits d) = .ok (a * 10 + d) := by
   intro a d ha hd
   have e : (UInt8.ofNat (48 + d)).toNat = 48 + d := by rw [UInt8.toNat_ofNat']; omega
   rw [Lib.decDigits_one hd]
   simp only [Lib.parseUint10, e]
   rw [if_pos (by omega), if_neg (by omega), if_neg (by omega)]
   congr 1
   omega
  by_cases h : u < 10
  ·have := key 0 u (by omega) h
   simpa using this
  ·cases n with
   | zero => omega
   | succ n =>
    rw [qch h, qpk 0 _ _ (u / 10) (qqg n (u / 10) (by omega) (by omega)), key _ _ (by omega) (by omega)]
    congr 1
    omega
theorem qxn {n : Nat} (h : n < 1000000000000000000) : Lib.atoiAll (Lib.itoa (n : Int)) = .ok (n : Int) := by
 have hp := qqg n n (Nat.le_refl _) h
 have hd := qdr n n (Nat.le_refl _)
 rw [qi3]
 cases hl : Lib.decDigits n with
 | nil => exact absurd hl (qrm n)
 | cons c r =>
  rw [hl] at hp hd
  have hc := hd c (by simp)
  simp only [Lib.atoiAll]
  have h1 : ¬ (c.toNat = 43 ∨ c.toNat = 45) := by omega
  rw [if_neg h1]
  have hm : Lib.parseMag (c :: r) = .ok n := by unfold Lib.parseMag; rw [if_neg (by simp)]; exact hp
  rw [hm]
  have h2 : ¬ c.toNat = 45 := by omega
  simp only [h2, not_false_iff, true_and, false_and, if_false]
  rw [if_neg (by omega)]
theorem qkv {n : Nat} (h1 : 1 ≤ n) (h2 : n ≤ 50000) : vr (Lib.itoa (n : Int)) = n := by
 have := qnc (qxn (n := n) (by omega))
 rw [if_pos ⟨rfl, by omega, by omega⟩] at this
 omega
theorem qe6 {l : qb} {n : Nat} (h : vr l = n) (hn : 1 ≤ n) : l = Lib.itoa (n : Int) := by
 unfold vr at h
 split at h
 ·split at h
  ·rename_i v _ hv
   have : v = (n : Int) := by omega
   rw [← this, hv.1]
  ·omega
 ·omega
end Go.Pl
namespace Go.Proofs.YtefmcijohgpfhaaGreatDoor
open Go Go.Pl
def xi (n : Nat) (fig : qb) : qb := jr ++ (Lib.itoa n ++ 32 :: fig)
theorem qz5 (n : Nat) (fig : qb) : qiy n fig = xi n fig ++ [10] := by simp [qiy, xi, jr]
theorem qit (n : Nat) {c : UInt8} (h : ¬ (48 ≤ c.toNat ∧ c.toNat ≤ 57)) : c ∉ Lib.itoa (n : Int) := fun hc => h (q0k n c hc)
theorem qky {f : qb} (h : qav f) {c : UInt8} (hc : c ∉ hexL) : c ∉ f := fun h' => hc (h c h')
theorem qc9 (n : Nat) {fig : qb} (h : qav fig) : 10 ∉ xi n fig := by
 unfold xi
 simp only [List.mem_append, List.mem_cons, not_or]
 exact ⟨by decide, qit n (by decide), by decide, qky h (by decide)⟩
theorem qiz (l : qb) : Lib.trimPrefix (jr ++ l) jr = l := by
 rw [qck (List.prefix_append _ _), List.drop_left]
theorem qsy {n : Nat} {fig : qb} (h2 : 2 ≤ n) (hn : n ≤ 50000) (hf : fig.length = 8) (hx : qav fig) : ju (xi n fig) = (n, fig, true) := by
 unfold ju xi
 have h32 : 32 ∉ Lib.itoa (n : Int) := qit n (by decide)
 rw [qiz, yx fig h32, qaq fig h32, qkv (by omega) hn]
 rw [decide_eq_true ⟨List.prefix_append _ _, by simp, h2, hf, hx⟩]
theorem qvw {n : Nat} {fig : qb} (r : qb) (h2 : 2 ≤ n) (hn : n ≤ 50000) (hf : fig.length = 8) (hx : qav fig) :
  je (xi n fig ++ 10 :: r) = if r.length < n then (qdf r ((n : Int) - r.length), [], 0)
   else if qbm (r.take n) then qbk (r.drop n) (r.take n) fig (qex n) else (3, [], 0) := by
 have hm : 10 ∈ xi n fig ++ 10 :: r := by simp
 have h10 := qc9 n hx
 unfold je
 rw [if_pos hm, yx r h10, qaq r h10, qsy h2 hn hf hx]
 simp only [if_true]
structure qvl (n : Nat) (fig body : qb) : Prop where
 two : 2 ≤ n
 most : n ≤ 50000
 len : body.length = n
 good : qbm body
 figs : fig.length = 8
 hex : qav fig
def recL (n : Nat) (fig body : qb) : qb := xi n fig ++ 10 :: (body ++ qdu n)
theorem qif (l : qb) : recF l = recL l.length (sumF l) l := by
 unfold recF recL
 rw [qz5]
 simp
theorem qpq {l a b : qb} (h : l <+: a ++ b) : l <+: a ∨ ∃ r, l = a ++ r ∧ r <+: b := by
 rcases Nat.le_total l.length a.length with hl | hl
 ·exact .inl (List.prefix_of_prefix_length_le h (List.prefix_append _ _) hl)
 ·obtain ⟨r, hr⟩ := List.prefix_of_prefix_length_le (List.prefix_append a b) h hl
  exact .inr ⟨r, hr.symm, by rw [← hr] at h; exact (List.prefix_append_right_inj a).1 h⟩
theorem qo7 {a b : qb} {c : UInt8} (h : a <+: b) (hc : c ∉ b) : c ∉ a := fun h' => hc (h.subset h')
theorem qw4 (f : qb) (hl : f.length ≤ 8) (hx : qav f) : ∃ g : qb, g.length = 8 ∧ qav g ∧ f <+: g :=
 ⟨f ++ List.replicate (8 - f.length) 48, by simp; omega, fun c hc => by
  rw [List.mem_append, List.mem_replicate] at hc
  rcases hc with hc | ⟨_, rfl⟩
  ·exact hx c hc
  ·decide, List.prefix_append _ _⟩
theorem qo3 : ∀ (k : Nat), sp false (List.replicate k 97 ++ [10]) = true
 | 0 => by simp [sp]
 | k + 1 => by rw [List.replicate_succ, List.cons_append]; simp only [sp]; exact by simpa using qo3 k
theorem qs4 {n : Nat} {r : qb} (hn : n ≤ 50000) (hlt : r.length < n) (h2 : 2 ≤ n) (hp : qdf r ((n : Int) - r.length) = 2) : ∃ body : qb, body.length = n ∧ qbm body ∧ r <+: body := by
 unfold qdf at hp
 split at hp
 ·rename_i h
  obtain ⟨hs, hfr⟩ := h
  rw [qhg] at hs
  by_cases hf : r = [] ∨ r.getLast? = some 10
  ·have hk : r.length + 2 ≤ n := by
    rcases Nat.lt_or_ge (r.length + 1) n with h | h
    ·omega
    ·exact absurd ⟨hf, by omega⟩ hfr
   refine ⟨r ++ (32 :: (List.replicate (n - r.length - 2) 97 ++ [10])), by simp; omega, ?_, List.prefix_append _ _⟩
   rw [qpm]
   refine ⟨by simp; omega, by simp; omega, by simp [List.getLast?_append, List.getLast?_cons], ?_⟩
   rw [qrs, hs]
   simp only [sp, Bool.true_and]
   have := qo3 (n - r.length - 2)
   simpa using this
  ·refine ⟨r ++ (List.replicate (n - r.length - 1) 97 ++ [10]), by simp; omega, ?_, List.prefix_append _ _⟩
   rw [qpm]
   refine ⟨by simp; omega, by simp; omega, by simp [List.getLast?_append], ?_⟩
   rw [qrs, hs]
   have e : qhi true r = false := by
    unfold qhi
    cases hq : r.getLast? with
    | none => exact absurd (.inl (List.getLast?_eq_none_iff.1 hq)) hf
    | some c =>
     refine decide_eq_false fun h => hf (.inr ?_)
     rw [hq, h]
   rw [e, qo3]
   rfl
 ·simp at hp
theorem qfn {n : Nat} (h2 : 2 ≤ n) (hn : n ≤ 50000) : ∃ body : qb, body.length = n ∧ qbm body := by
 obtain ⟨b, h1, h3, _⟩ := qs4 (n := n) (r := []) hn (by simp; omega) h2 (by
  unfold qdf
  rw [qhg]
  rw [if_pos ⟨rfl, by rintro ⟨_, h⟩; simp at h; omega⟩])
 exact ⟨b, h1, h3⟩
theorem qfs {a b c : qb} (h : a <+: b) : a <+: b ++ c := h.trans (List.prefix_append _ _)
theorem qfi {n : Nat} {fig body l : qb} (h : l <+: xi n fig) : l <+: recL n fig body ∧ l.length < (recL n fig body).length := by
 refine ⟨qfs h, ?_⟩
 have := h.length_le
 unfold recL
 simp
 omega
theorem q18 {l : qb} (h : (je l).1 = 2) : ∃ n fig body, qvl n fig body ∧ l <+: recL n fig body ∧ l.length < (recL n fig body).length := by
 unfold je at h
 split at h
 ·rename_i h10
  split at h
  ·rename_i ho
   generalize hr : past 10 l = r at *
   have hl := qaz h10
   rw [hr] at hl
   generalize hu : upto 10 l = u at *
   -- the first line
   have hop : u = xi (ju u).1 (ju u).2.1 ∧ 2 ≤ (ju u).1 ∧ (ju u).1 ≤ 50000 ∧ (ju u).2.1.length = 8 ∧ qav (ju u).2.1 := by
    simp only [ju, decide_eq_true_eq] at ho ⊢
    obtain ⟨o1, o2, o3, o4, o5⟩ := ho
    refine ⟨?_, o3, qcb _, o4, o5⟩
    obtain ⟨t, rfl⟩ := o1
    rw [qiz] at *
    have := qe6 rfl (Nat.le_trans (by decide) o3)
    unfold xi
    rw [← this, ← qaz o2]
   generalize (ju u).1 = n at *
   generalize (ju u).2.1 = fig at *
   obtain ⟨rfl, h2, hn, hf, hx⟩ := hop
   split at h
   ·rename_i hlt
    obtain ⟨body, b1, b2, b3⟩ := qs4 hn hlt h2 h
    refine ⟨n, fig, body, ⟨h2, hn, b1, b2, hf, hx⟩, ?_, ?_⟩
    ·rw [hl]
     unfold recL
     rw [List.prefix_append_right_inj, List.cons_prefix_cons]
     exact ⟨rfl, qfs b3⟩
    ·rw [hl]
     unfold recL
     have := b3.length_le
     have := qjx n
     simp
     omega
   ·rename_i hge
    split at h
    ·rename_i hg
     have hlen : (r.take n).length = n := by simp; omega
     refine ⟨n, fig, r.take n, ⟨h2, hn, hlen, hg, hf, hx⟩, ?_⟩
     unfold qbk at h
     rw [hlen] at h
     split at h
     ·rename_i hc
      rw [hl]
      unfold recL
      constructor
      ·rw [List.prefix_append_right_inj, List.cons_prefix_cons]
       refine ⟨rfl, ?_⟩
       conv => lhs; rw [← List.take_append_drop n r]
       rw [List.prefix_append_right_inj]
       exact hc.2
      ·have := hc.1
       simp at this ⊢
       omega
     ·split at h <;> simp at h
    ·simp at h
  ·simp at h
 ·rename_i h10
  split at h
  ·rename_i ho
   unfold qd0 at ho
   split at ho
   ·rename_i hb
    obtain ⟨t, rfl⟩ := hb
    have ed : (jr ++ t).drop 7 = t := by rw [show (7 : Nat) = jr.length by rfl, List.drop_left]
    rw [ed] at ho
    obtain ⟨o1, o2, o3, o4⟩ := of_decide_eq_true ho
    by_cases h32 : 32 ∈ t
    ·have hn2 : 2 ≤ vr (upto 32 t) := by
      rcases Nat.lt_or_ge (vr (upto 32 t)) 2 with h | h
      ·exact absurd ⟨h32, h⟩ o1
      ·exact h
     obtain ⟨fig, f1, f2, f3⟩ := qw4 _ o3 o4
     obtain ⟨body, b1, b2⟩ := qfn hn2 (qcb _)
     refine ⟨_, fig, body, ⟨hn2, qcb _, b1, b2, f1, f2⟩, qfi ?_⟩
     unfold xi
     rw [List.prefix_append_right_inj]
     conv => lhs; rw [qaz h32]
     rw [qe6 (l := upto 32 t) rfl (by omega)]
     rw [qkv (by omega) (qcb _), List.prefix_append_right_inj, List.cons_prefix_cons]
     exact ⟨rfl, f3⟩
    ·rw [qdw h32] at o2
     by_cases ht : t = []
     ·subst ht
      obtain ⟨body, b1, b2⟩ := qfn (n := 2) (by omega) (by omega)
      refine ⟨2, List.replicate 8 48, body, ⟨by omega, by omega, b1, b2, by simp, by decide⟩, qfi ?_⟩
      unfold xi
      simp
     ·have hpos : 1 ≤ vr t := by
       rcases Nat.eq_zero_or_pos (vr t) with h | h
       ·exact absurd ⟨ht, h⟩ o2
       ·exact h
      have hle := qcb t
      have ht2 := qe6 (l := t) rfl hpos
      generalize vr t = m at *
      subst ht2
      by_cases hm : m = 1
      ·subst hm
       obtain ⟨body, b1, b2⟩ := qfn (n := 10) (by omega) (by omega)
       refine ⟨10, List.replicate 8 48, body, ⟨by omega, by omega, b1, b2, by simp, by decide⟩, qfi ?_⟩
       unfold xi
       rw [List.prefix_append_right_inj]
       have e1 : Lib.itoa ((1 : Nat) : Int) = [49] := by rw [qi3, Lib.decDigits_one (by decide)]; rfl
       have e2 : Lib.itoa ((10 : Nat) : Int) = [49, 48] := by rw [qi3, qch (by decide), Lib.decDigits_one (by decide), Lib.decDigits_one (by decide)]; rfl
       rw [e1, e2]
       exact ⟨_, rfl⟩
      ·obtain ⟨body, b1, b2⟩ := qfn (n := m) (by omega) (by omega)
       refine ⟨m, List.replicate 8 48, body, ⟨by omega, by omega, b1, b2, by simp, by decide⟩, qfi ?_⟩
       unfold xi
       rw [List.prefix_append_right_inj]
       exact List.prefix_append _ _
   ·rename_i hb
    have hp := of_decide_eq_true ho
    obtain ⟨body, b1, b2⟩ := qfn (n := 2) (by omega) (by omega)
    refine ⟨2, List.replicate 8 48, body, ⟨by omega, by omega, b1, b2, by simp, by decide⟩, qfi ?_⟩
    unfold xi
    exact qfs hp
  ·simp at h
theorem qlp (s : BitVec 32) : qav (qcf s 8) := by
 intro c hc
 simp only [qcf, List.mem_map] at hc
 obtain ⟨j, _, rfl⟩ := hc
 unfold figP
 have h := Go.Av.and15_lt (s >>> (4 * (7 - j)))
 generalize ((s >>> (4 * (7 - j))) &&& BitVec.ofInt 32 15).toNat = k at h
 have key : ∀ i : Fin 16, ([48, 49, 50, 51, 52, 53, 54, 55, 56, 57, 97, 98, 99, 100, 101, 102] : qb).getD i.val 0 ∈ hexL := by decide
 exact key ⟨k, h⟩
theorem qwb {b : qb} (h : qbm b) : qvl b.length (sumF b) b := ⟨h.1, h.2.1, rfl, h, qll b, qlp _⟩
theorem qlf (b : qb) (h : qbm b) : ((recF b).length : Int) = qex b.length := by
 obtain ⟨g1, g2, _⟩ := h
 unfold recF qex
 rw [if_neg (by omega)]
 simp only [List.length_append, qj4, qll]
 simp
theorem q0p {b : qb} (m : qb) (h : qbm b) : je (recF b ++ m) = (1, b, ((recF b).length : Int)) := by
 have R := qwb h
 rw [qlf b h, qif]
 unfold recL
 rw [List.append_assoc, List.cons_append, List.append_assoc, qvw _ R.two R.most R.figs R.hex, if_neg (by simp), List.take_left, List.drop_left, if_pos h]
 unfold qbk
 rw [if_neg (by simp; intro h; omega), if_pos ⟨List.prefix_append _ _, rfl⟩]
end Go.Proofs.YtefmcijohgpfhaaGreatDoor
set_option maxRecDepth 100000
set_option linter.unusedVariables false
namespace Go.Proofs.YtefmcijohgpfhaaGreatDoor
open Go Go.Pl
theorem q3m {l : qb} (h1 : 10 ∈ l → (ju (upto 10 l)).2.2 = false) (h2 : 10 ∉ l → qd0 l = false) : je l = (3, [], 0) := by
 unfold je
 by_cases h : 10 ∈ l
 ·rw [if_pos h, if_neg (by rw [h1 h]; simp)]
 ·rw [if_neg h, if_neg (by rw [h2 h]; simp)]
theorem R2 {l : qb} (hl : l.length ≤ 7) (h : ¬ l <+: jr) : je l = (3, [], 0) := by
 refine q3m (fun h10 => decide_eq_false fun h' => ?_) (fun h10 => ?_)
 ·have := h'.1.length_le
  have := qdd h10
  have e : jr.length = 7 := rfl
  omega
 ·unfold qd0
  by_cases hb : jr <+: l
  ·have := hb.eq_of_length_le hl
   exact absurd (this ▸ List.prefix_refl _) h
  ·rw [if_neg hb]; exact decide_eq_false h
theorem q21 {p : UInt8 → Bool} (s : qb) : s.take (s.takeWhile p).length = s.takeWhile p := by
 induction s with
 | nil => rfl
 | cons b s ih =>
  by_cases h : p b = true
  ·rw [List.takeWhile_cons_of_pos h]; simp [ih]
  ·rw [List.takeWhile_cons_of_neg h]; rfl
theorem q3o {p : UInt8 → Bool} {l m : qb} (hm : m <+: l) (h : ∀ c ∈ m, p c = true) : m.length ≤ (l.takeWhile p).length := by
 obtain ⟨r, rfl⟩ := hm
 rw [List.takeWhile_append_of_pos h]
 simp
end Go.Proofs.YtefmcijohgpfhaaGreatDoor
set_option maxRecDepth 100000
set_option linter.unusedVariables false
namespace Go.Proofs.YtefmcijohgpfhaaGreatDoor
open Go Go.Av Go.RowKit Go.Proofs Go.Pl
structure q1w (l S : qb) (K n : Nat) : Prop where
 hl : l = jr ++ S
 hK : (S.takeWhile qn1).length = K
 hD : S.take K = Lib.itoa (n : Int)
 h1 : 1 ≤ n
 h2 : n ≤ 50000
theorem q1w.split {l S : qb} {K n : Nat} (A : q1w l S K n) (h : K < S.length) : S = Lib.itoa (n : Int) ++ S.getD K 0 :: S.drop (K + 1) ∧ qn1 (S.getD K 0) = false := by
 have e : S = S.take K ++ S.getD K 0 :: S.drop (K + 1) := by
  conv => lhs; rw [← List.take_append_drop K S]
  rw [List.drop_eq_getElem_cons h]
  congr 2
  simp [List.getD, h]
 refine ⟨by rw [← A.hD]; exact e, ?_⟩
 cases hc : qn1 (S.getD K 0) with
 | false => rfl
 | true =>
  have hp : S.take (K + 1) <+: S := List.take_prefix _ _
  have := q3o (p := qn1) hp (fun c hc' => by
   rw [qhp h, List.mem_append, List.mem_singleton] at hc'
   rcases hc' with hc' | rfl
   ·rw [← A.hK, q21] at hc'
    have ha := List.all_takeWhile (p := qn1) (l := S)
    rw [List.all_eq_true] at ha
    exact ha c hc'
   ·exact hc)
  rw [A.hK] at this
  simp at this
  omega
end Go.Proofs.YtefmcijohgpfhaaGreatDoor
set_option linter.unusedVariables false
namespace Go.Av
open Go Go.RowKit
def StE (L : List (Nat × AV)) (st loc : List AObj) (s : AS) : Prop := ∃ t ext, s = ⟨puts t L, ((st ++ loc) ++ ext) ++ [], []⟩
theorem qdg {t : Nat → AV} {L : List (Nat × AV)} {st loc loc' ext new : List AObj} (h : HasL t L) (e : loc' = loc) : StE L st loc ⟨t, ((st ++ loc') ++ ext) ++ new, []⟩ :=
 ⟨t, ext ++ new, by rw [qd8 h, e]; simp⟩
theorem qe5 {t : Nat → AV} {L : List (Nat × AV)} {st loc st' : List AObj} (h : HasL t L) (e : st' = st ++ loc) : StE L st loc ⟨t, st', []⟩ :=
 ⟨t, [], by rw [qd8 h, e]; simp⟩
theorem qah (st loc ext new : List AObj) : ∃ x, ((st ++ loc) ++ ext) ++ new = st ++ x := ⟨loc ++ ext ++ new, by simp⟩
theorem qcp {st loc ext new : List AObj} {k : Nat} {x : AObj} (h : loc[k]? = some x) : (((st ++ loc) ++ ext) ++ new)[st.length + k]? = some x := by
 have hk := lt_of_getElem? h
 rw [List.append_assoc, List.append_assoc, List.getElem?_append_right (Nat.le_add_right _ _), Nat.add_sub_cancel_left, List.getElem?_append_left hk]
 exact h
theorem qgg {st loc ext new : List AObj} {k : Nat} (x : AObj) (hk : k < loc.length) : (((st ++ loc) ++ ext) ++ new).set (st.length + k) x = ((st ++ loc.set k x) ++ ext) ++ new := by
 rw [List.append_assoc, List.append_assoc, List.set_append_right _ _ (Nat.le_add_right _ _), Nat.add_sub_cancel_left, List.set_append_left _ _ hk]
 simp
theorem qg8 {G : Gh} {sz : Nat} {xs : List AV} {tip : Option Nat} {v : Value} (h : Rel G (.sl sz xs tip) v) : Rel G (.sl sz xs none) v := by
 cases h with
 | sl0 _ _ base cap ht => exact .sl0 sz none base cap (by simp)
 | sl _ _ _ b off cap pub hp hw hlen hr ht hcap => exact .sl sz xs none b off cap pub hp hw hlen hr (fun t ht => by simp at ht) hcap
theorem qb9 {G : Gh} {sz : Nat} {v : Value} (h : Rel G zx v) : Rel G (.sl sz [] none) v := by
 cases h
 exact .sl0 sz none none 0 (by simp)
section
variable {E : Env} {rd : Option Nat} {N : Nat} {ops : Array Oper} {K : AS → Prop} {s : AS} {rest : List Oper} {d : Option Tmp} {T : TypeId} {p : String} {af : Array Edge}
theorem vg {fn : Func} {r r' : AV} (h : ARes E fn s r) (hw : ∀ (G : Gh) (v : Value), Rel G r v → Rel G r' v) : ARes E fn s r' :=
 ⟨fun B0 w0 G a w hL hI => let ⟨v, h1, h2⟩ := h.run B0 w0 G a w hL hI; ⟨v, h1, hw G v h2⟩⟩
theorem qha {x y : Operand} {t u T' : TypeId} {sz bytes k n m : Nat} {xs ys zs : List AV} {tip : Option Nat} {st loc ext new : List AObj} (hs : s.st = ((st ++ loc) ++ ext) ++ new) (hx : ql N s x = .sl sz xs (some (st.length + k))) (hy : ql N s y = .sl sz ys tip) (ho : loc[k]? = some (.tip n sz T')) (hn : xs.length = n)
  (ht : E.P.underlying t = some (.slice T')) (hu : E.P.underlying u = some (.slice T')) (hT : qdn E.P T' sz bytes) (hone : xc (flat ys) = true) (hm : ys.length = m) (h63 : n + m ≤ maxLen) (hb : (n + m) * bytes ≤ 140737488355328) (hz : xs ++ ys = zs)
  (h : AOps E rd N ops rest K (AS.put ⟨s.t, ((st ++ loc.set k (.tip (n + m) sz T')) ++ ext) ++ new, s.df⟩ d (.sl sz zs (some (st.length + k))))) : AOps E rd N ops (⟨d, .call ⟨.builtin .append, #[x, y], #[t, u]⟩, T, p, af, none⟩ :: rest) K s := by
 subst hz
 have hk := lt_of_getElem? ho
 exact ql0 hx hy (by rw [hs]; exact qcp ho) hn ht hu hT hone hm h63 hb (by rw [hs, qgg _ hk]; exact h)
theorem qq {x : Operand} {t : TypeId} {sz : Nat} {agg : Bool} {st loc ext new : List AObj} {k ver off : Nat} {T' : TypeId} {cs : List AV} {r : AV} (hs : s.st = ((st ++ loc) ++ ext) ++ new) (hx : ql N s x = .bx (st.length + k) ver off) (ho : loc[k]? = some (.cells ver T' cs)) (ht : tyOf E.P t = some (sz, agg)) (hr : km sz agg off cs = some r)
  (h : AOps E rd N ops rest K (s.put d r)) : AOps E rd N ops (⟨d, .load t x, T, p, af, none⟩ :: rest) K s :=
 qc hx (by rw [hs]; exact qcp ho) ht hr h
end
end Go.Av
set_option linter.unusedVariables false
namespace Go.Pl
open Go
def jf (l : qb) : List qb :=
 if h : 10 ∈ l then upto 10 l :: jf (past 10 l) else [l]
 termination_by l.length
 decreasing_by exact yz (fun e => by rw [e] at h; simp at h)
theorem qbw {l : qb} (h : 10 ∈ l) : jf l = upto 10 l :: jf (past 10 l) := by rw [jf, dif_pos h]
theorem qby {l : qb} (h : 10 ∉ l) : jf l = [l] := by rw [jf, dif_neg h]
theorem qvh : ∀ (n : Nat) (l : qb), l.length ≤ n → Lib.splitK [10] 0 (Lib.count l [10]) l = jf l
 | n, l, hn => by
  by_cases h : 10 ∈ l
  ·have hi := qod 10 l h
   have hne : l ≠ [] := fun e => by rw [e] at h; simp at h
   have hlt := yz (c := 10) hne
   rw [qbw h, Lib.count_hit (i := (upto 10 l).length) (by simp) hi, Nat.add_comm, Lib.splitK]
   rw [if_neg (by rw [hi]; simp), hi]
   cases n with
   | zero => exact absurd (List.length_eq_zero_iff.1 (by omega)) hne
   | succ n =>
    have := qvh n (past 10 l) (by omega)
    simp only [Int.toNat_natCast, Nat.add_zero, List.length_cons, List.length_nil, Nat.zero_add, qg4]
    rw [show List.drop ((upto 10 l).length + 1) l = past 10 l from rfl, this]
  ·have hi : Lib.index l [10] = -1 := by
    have := Lib.index_ge l [10]
    have h2 : ¬ 0 ≤ Lib.index l [10] := fun h' => h ((qc0 l 10).1 h')
    omega
   rw [qby h, Lib.count_miss hi]
   rfl
theorem qfw : ∀ (n : Nat) (l : qb), l.length ≤ n → (jf l).length ≤ l.length + 1
 | n, l, hn => by
  by_cases h : 10 ∈ l
  ·have hne : l ≠ [] := fun e => by rw [e] at h; simp at h
   have hlt := yz (c := 10) hne
   rw [qbw h]
   cases n with
   | zero => exact absurd (List.length_eq_zero_iff.1 (by omega)) hne
   | succ n =>
    have := qfw n (past 10 l) (by omega)
    simp only [List.length_cons]
    omega
  ·rw [qby h]; simp
theorem qfu : ∀ (n : Nat) (l : qb), l.length ≤ n → ∀ x ∈ jf l, x.length ≤ l.length ∧ 10 ∉ x
 | n, l, hn, x, hx => by
  by_cases h : 10 ∈ l
  ·have hne : l ≠ [] := fun e => by rw [e] at h; simp at h
   have hlt := yz (c := 10) hne
   rw [qbw h, List.mem_cons] at hx
   rcases hx with rfl | hx
   ·exact ⟨wi 10 l, qde 10 l⟩
   ·cases n with
    | zero => exact absurd (List.length_eq_zero_iff.1 (by omega)) hne
    | succ n =>
     have := qfu n (past 10 l) (by omega) x hx
     exact ⟨by omega, this.2⟩
  ·rw [qby h, List.mem_singleton] at hx
   subst hx
   exact ⟨Nat.le_refl _, h⟩
end Go.Pl
set_option maxRecDepth 100000
set_option linter.unusedVariables false
namespace Go.Proofs.YtefmcijohgpfhaaGreatDoor
open Go Go.Av Go.RowKit Go.Proofs Go.Pl
theorem qjt {f : FuncId} {st : List AObj} {args : List AV} {vals : Array Value} {xs : List qb} {T : TypeId} (ha : args = vals.toList.map .v) (hne : xs ≠ [])
  (h : ∀ B0 w0 w, E.L B0 w0 → Below B0 w0 w → Calls E.P f vals w fun e w' => e = .returned (.slice (some ⟨w.heap.size, 0, none⟩) xs.length xs.length) ∧ w' = w.alloc (.cells (xs.map fun l => Value.string ⟨l.toArray⟩).toArray T)) :
  q7 E f args st fun r st' => r = .sl 1 (xs.map fun l => Sv l) none ∧ st' = st := by
 subst ha
 refine ⟨fun B0 w0 G vs w hL hA hR => ?_⟩
 have hv : vs = vals := by
  have hs : vs.size = vals.size := by have := hR.1; simpa using this.symm
  apply Array.ext hs
  intro i h1 h2
  have := hR.2 i (.v vals[i]) vs[i] (by simp [h2]) (by simp [h1])
  generalize vs[i] = y at this
  cases this
  rfl
 subst hv
 refine (h B0 w0 w hL hA.below).mono ?_
 rintro e w' ⟨rfl, rfl⟩
 obtain ⟨hle, hA'⟩ := hA.newPub T (xs.map fun l => Value.string ⟨l.toArray⟩).toArray (0, 0) (xs.map fun l => Value.string ⟨l.toArray⟩) (fun i y hy => by simpa using hy)
 refine ⟨_, _, _, st, rfl, hle, hA', ?_, rfl, rfl⟩
 have hfl : flat (xs.map fun l => Sv l) = xs.map fun l => Sv l := by
  clear hne h hle hA'
  induction xs with
  | nil => rfl
  | cons a xs ih => rw [List.map_cons, qd6, ih]; rfl
 have := Rel.sl (G := G.publish w.heap.size (xs.map fun l => Value.string ⟨l.toArray⟩)) 1 (xs.map fun l => Sv l) none w.heap.size 0 xs.length (xs.map fun l => Value.string ⟨l.toArray⟩) (by simp [Gh.publish]) (fun x hx => by
  simp only [List.mem_map] at hx
  obtain ⟨l, _, rfl⟩ := hx
  rfl) (by rw [hfl]; simp) (fun i x y h1 h2 => by
  rw [hfl, List.getElem?_map] at h1
  rw [Nat.zero_add, List.getElem?_map] at h2
  cases hx : xs[i]? with
  | none => rw [hx] at h1; simp at h1
  | some l =>
   rw [hx] at h1 h2
   simp at h1 h2
   subst h1; subst h2
   exact .v _) (fun t ht => by simp at ht) (by simp)
 simpa using this
theorem qy0 (l : List UInt8) (st : List AObj) (hl : l.length < 4294967281) : q7 E 125 [Sv l, Sv [10]] st fun r st' => r = .sl 1 ((jf l).map fun x => Sv x) none ∧ st' = st := by
 have hd := Lib.splitB_data ⟨#[10]⟩ 0 (Lib.countB ⟨l.toArray⟩ ⟨#[10]⟩) ⟨l.toArray⟩
 have hs : Lib.splitK [10] 0 (Lib.count l [10]) l = jf l := qvh _ l (Nat.le_refl _)
 have hn := Lib.splitB_all ⟨#[10]⟩ (by simp [ByteArray.size]) 0 _ ⟨l.toArray⟩ rfl
 have hd2 : (Lib.splitB ⟨#[10]⟩ 0 (Lib.countB ⟨l.toArray⟩ ⟨#[10]⟩) ⟨l.toArray⟩).map (·.data.toList) = jf l := hd.trans hs
 have hlen : (jf l).length = Lib.countB ⟨l.toArray⟩ ⟨#[10]⟩ + 1 := by rw [← hd2, List.length_map, hn]
 refine qjt (T := 9) (vals := #[.string ⟨l.toArray⟩, .string ⟨#[10]⟩]) rfl (fun e => by rw [e] at hlen; simp at hlen) fun _ _ w hL hb => (Tryz.strings_Split_shaped ⟨l.toArray⟩ ⟨#[10]⟩ w (hL w hb).shaped (by simpa [ByteArray.size] using hl) (by simp [ByteArray.size])).mono fun e w' ⟨h1, h2⟩ => ?_
 refine ⟨by rw [h1, hlen], ?_⟩
 rw [h2, ← hd2, List.map_map]
 rfl
end Go.Proofs.YtefmcijohgpfhaaGreatDoor
set_option linter.unusedVariables false
namespace Go.Av
open Go Go.RowKit
section
variable {E : Env} {N : Nat} {ops : Array Oper} {K : AS → Prop} {s : AS} {rest : List Oper} {d : Option Tmp} {T : TypeId} {p : String} {af : Array Edge}
theorem qn0 {x : Operand} {t : TypeId} {sz : Nat} {agg : Bool} {o ver off : Nat} {T' : TypeId} {cs : List AV} {r : AV} (hx : ql N s x = .bx o ver off) (ho : s.st[o]? = some (.cells ver T' cs)) (ht : tyOf E.P t = some (sz, agg)) (hr : km sz agg off cs = some r)
  (h : AQ E N ops rest K (s.put d r)) : AQ E N ops (⟨d, .load t x, T, p, af, none⟩ :: rest) K s := by
 refine qdt rfl nofun fun B0 w0 G a w _ hI => ?_
 have he := hI.eval_of hx
 generalize hv : a.eval x = v at he
 cases he with
 | bx _ _ _ b hn hv' hb =>
  obtain ⟨_, h1, h2, h3, c, h4, h5, h6⟩ := hI.agree.ob o _ ho
  have hb := hb h1
  subst hb
  have hlt : (G.ob o).blk < w.heap.size := by
   rcases Nat.lt_or_ge (G.ob o).blk w.heap.size with h' | h'
   ·exact h'
   ·rw [Array.getElem?_eq_none h'] at h4; simp at h4
  -- the value is read out of the cells, whatever is drawn behind them
  have key : ∀ w', Below w.heap.size w w' → ∃ v, (loadVar t ⟨(G.ob o).blk, off, none⟩).run E.P w' = .ok v w' ∧ Rel G r v := fun w' hw' => by
   have h4' : w'.heap[(G.ob o).blk]? = some (.cells c T' (0, 0)) := by rw [hw'.block _ hlt]; exact h4
   exact qa4 (w := w') (G := G) (b := (G.ob o).blk) (off := off) (off' := off) ht (fun i x hx hi => by
    obtain ⟨y, hy⟩ := wl hx (Nat.le_of_eq h5)
    refine ⟨y, ?_, h6 i x y hx hy⟩
    simp [World.cell?, h4', show off + (i - off) = i by omega, hy]) hr
  have hsame : ∀ w', Below w.heap.size w w' → ∀ v, (loadVar t ⟨(G.ob o).blk, off, none⟩).run E.P w = .ok v w → (loadVar t ⟨(G.ob o).blk, off, none⟩).run E.P w' = .ok v w' := fun w' hw' v hr1 => by
   obtain ⟨i1, i2⟩ := wn ht w
   obtain ⟨j1, j2⟩ := wn ht w'
   have hc : ∀ k, w'.cell? ⟨(G.ob o).blk, k, none⟩ = w.cell? ⟨(G.ob o).blk, k, none⟩ := fun k => by simp [World.cell?, hw'.block _ hlt]
   obtain ⟨v', h1', _⟩ := key w' hw'
   rw [h1']
   congr 1
   cases agg with
   | false =>
    simp only [km, cond_false] at hr
    obtain ⟨y, hy⟩ := wl hr (Nat.le_of_eq h5)
    have e1 : w.cell? ⟨(G.ob o).blk, off, none⟩ = some y := by simp [World.cell?, h4, hy]
    have e2 : w'.cell? ⟨(G.ob o).blk, off, none⟩ = some y := by rw [hc, e1]
    simp [loadVar, i2, run_load, e1] at hr1
    simp [loadVar, j2, run_load, e2] at h1'
    rw [← h1', hr1]
   | true =>
    simp only [km, cond_true] at hr
    cases hb2 : Nat.ble (off + sz) cs.length with
    | false => rw [hb2] at hr; simp at hr
    | true =>
     have hle : off + sz ≤ cs.length := Nat.le_of_ble_eq_true hb2
     have e1 : ∀ j, j < sz → w.cell? ⟨(G.ob o).blk, off + j, none⟩ = some (c.getD (off + j) undef) := fun j hj => by
      have : off + j < c.size := by omega
      simp [World.cell?, h4, this]
     have e2 : ∀ j, j < sz → w'.cell? ⟨(G.ob o).blk, off + j, none⟩ = some (c.getD (off + j) undef) := fun j hj => by rw [hc, e1 j hj]
     have l1 := run_loadCells (P := E.P) (w := w) ⟨(G.ob o).blk, off, none⟩ sz (fun j => c.getD (off + j) undef) (fun j hj => by rw [Addr.add_lit]; exact e1 j hj)
     have l2 := run_loadCells (P := E.P) (w := w') ⟨(G.ob o).blk, off, none⟩ sz (fun j => c.getD (off + j) undef) (fun j hj => by rw [Addr.add_lit]; exact e2 j hj)
     simp [loadVar, i1, i2, l1] at hr1
     simp [loadVar, j1, j2, l2] at h1'
     rw [← h1', hr1]
  obtain ⟨v, hrun, hR⟩ := key w (Below.refl _ _)
  exact ⟨v, r, fun w' hw' => by simp only [execOp, hv, Instr.loadAt, Instr.sureAddr]; simp [hsame w' hw' v hrun], hR, h⟩
end
end Go.Av
set_option linter.unusedVariables false
namespace Go.Av
open Go Go.RowKit
section
variable {E : Env} {rd : Option Nat} {N : Nat} {ops : Array Oper} {K : AS → Prop} {s : AS} {rest : List Oper} {d : Option Tmp} {T : TypeId} {p : String} {af : Array Edge}
theorem wv {x : Operand} {t : TypeId} {sz : Nat} {agg : Bool} {st loc : List AObj} {k ver off : Nat} {T' : TypeId} {cs : List AV} {r : AV} (hs : s.st = st ++ loc) (hx : ql N s x = .bx (st.length + k) ver off) (ho : loc[k]? = some (.cells ver T' cs)) (ht : tyOf E.P t = some (sz, agg)) (hr : km sz agg off cs = some r)
  (h : AQ E N ops rest K (s.put d r)) : AQ E N ops (⟨d, .load t x, T, p, af, none⟩ :: rest) K s :=
 qn0 hx (by rw [hs]; exact zn ho) ht hr h
end
end Go.Av
set_option maxRecDepth 100000
set_option linter.unusedVariables false
namespace Go.Proofs.YtefmcijohgpfhaaGreatDoor
open Go Go.Av Go.RowKit Go.Proofs Go.Pl
structure qe8 where
 kind : Int
 key : qb
 text : qb
 lo : Int
 hi : Int
abbrev FldV := qb × qb
@[reducible] def fldA (f : FldV) : AV := .ag [Sv f.1, Sv f.2]
@[reducible] def y7 (l : List FldV) : AV := .sl 2 (l.map fldA) none
def q17 (r : qe8) : Prop := 1 ≤ r.kind ∧ r.kind ≤ 7 ∧ (r.kind = 6 ∨ qdc r.key)
instance (r : qe8) : Decidable (q17 r) := inferInstanceAs (Decidable (_ ∧ _ ∧ _))
def qve (l : qb) : List qb := if l = [] then [] else jf l
theorem qzg (xs : List qb) : Pure (.sl 1 (xs.map fun x => Sv x) none) := qe2 fun x hx => by
 simp only [List.mem_map] at hx
 obtain ⟨l, _, rfl⟩ := hx
 intro y hy
 simp [AV.cells] at hy
 subst hy
 exact z4 _
def qk1 (r : qe8) (n : Int) : Prop := r.lo ≤ n ∧ n ≤ r.hi
instance (r : qe8) (n : Int) : Decidable (qk1 r n) := inferInstanceAs (Decidable (_ ∧ _))
def qu9 (r : qe8) (l : qb) : Prop := ∃ n, numZ l = some n ∧ qk1 r n
instance (r : qe8) (l : qb) : Decidable (qu9 r l) :=
 match h : numZ l with
 | some n => decidable_of_iff (qk1 r n) ⟨fun h' => ⟨n, h, h'⟩, fun ⟨m, h1, h2⟩ => by rw [h] at h1; cases h1; exact h2⟩
 | none => .isFalse fun ⟨m, h1, _⟩ => by rw [h] at h1; cases h1
def qy1 (r : qe8) (f : FldV) : Prop :=
 (r.kind = 3 → f.1 = r.key → qu9 r f.2) ∧ (r.kind = 4 → f.1 = r.key → f.2 ∈ qve r.text) ∧ (r.kind = 5 → f.1 = r.key → qk1 r f.2.length) ∧ (r.kind = 6 → f.1 ∈ qve r.text)
instance (r : qe8) (f : FldV) : Decidable (qy1 r f) := inferInstanceAs (Decidable (_ ∧ _ ∧ _ ∧ _))
end Go.Proofs.YtefmcijohgpfhaaGreatDoor
set_option maxRecDepth 100000
set_option linter.unusedVariables false
namespace Go.Proofs.YtefmcijohgpfhaaGreatDoor
open Go Go.Av Go.RowKit Go.Proofs Go.Pl
def qzk (key : qb) (xs : List FldV) : List qb := (xs.filter fun f => f.1 = key).map Prod.snd
end Go.Proofs.YtefmcijohgpfhaaGreatDoor
set_option maxRecDepth 100000
set_option linter.unusedVariables false
namespace Go.Proofs.YtefmcijohgpfhaaGreatDoor
open Go Go.Av Go.RowKit Go.Proofs Go.Pl
def q3d (r : qe8) (xs : List FldV) : Prop := q17 r ∧ ((r.kind = 1 ∧ (qzk r.key xs).length = 0) ∨ (r.kind = 2 ∧ 1 < (qzk r.key xs).length) ∨ (r.kind ≠ 1 ∧ r.kind ≠ 2 ∧ xs.any (fun f => !decide (qy1 r f)) = true))
instance (r : qe8) (xs : List FldV) : Decidable (q3d r xs) := inferInstanceAs (Decidable (_ ∧ (_ ∨ _ ∨ _)))
end Go.Proofs.YtefmcijohgpfhaaGreatDoor
set_option linter.unusedVariables false
namespace Go.Av
open Go Go.RowKit Go.WideShapes Go.ChangeShapes Go.Deep
def RelK (G : Gh) (us : List AV) (cs : List Value) : Prop := us.length = cs.length ∧ ∀ (i : Nat) (x : AV) (y : Value), us[i]? = some x → cs[i]? = some y → Rel G x y
theorem RelK.one {G : Gh} {a : AV} {v : Value} (h : RelK G [a] [v]) : Rel G a v := h.2 0 a v rfl rfl
end Go.Av
set_option maxRecDepth 100000
set_option linter.unusedVariables false
namespace Go.Proofs.YtefmcijohgpfhaaGreatDoor
open Go Go.Av Go.RowKit Go.Proofs Go.Pl
structure zq where
 kind : Int
 id : Int
 fields : List FldV
@[reducible] def qbd (e : zq) : AV := .ag [Iv e.kind, Iv e.id, y7 e.fields]
def qbr (k : Int) : qb := if k = 1 then [32, 114, 101, 112, 108, 97, 99, 101, 32] else if k = 2 then [32, 100, 101, 108, 101, 116, 101, 32] else if k = 3 then [32, 105, 110, 115, 101, 114, 116, 32] else []
def vv (e : zq) : qb := if 1 ≤ e.kind ∧ e.kind ≤ 3 then qbr e.kind ++ Lib.itoa e.id else []
def qbo (k : Int) : qb := if k = 1 then [114, 101, 112, 108, 97, 99, 101] else if k = 2 then [100, 101, 108, 101, 116, 101] else if k = 3 then [105, 110, 115, 101, 114, 116] else []
theorem qm2 (k : Int) (st : List AObj) : q7 E 75 [Iv k] st fun r st' => r = Sv (qbo k) ∧ st' = st := by
 refine zt (z4 _) (q8 Tryz.func75 rfl (Nat.le_of_ble_eq_true rfl) ?_)
 repeat' (first
  | apply qm
  | apply q4
  | apply qe
  | apply qa
  | apply qi
  | apply qf
  | (apply qw; (iterate 3 exact rfl))
  | (apply qg; exact rfl; first | (apply ze; (first | assumption | omega)) | (apply zd; (first | assumption | omega)) | (apply zc; (first | exact rfl | assumption)) | (apply zb; (first | exact rfl | assumption)) | (apply cd_n <;> intro h) | (apply cd_t; (first | exact rfl | assumption)) | (apply cd_f; (first | exact rfl | assumption)) | (apply cd_d <;> intro h) | (apply cd_s <;> intro h))
  | apply q6
  | apply qz)
 all_goals refine qo rfl (zm rfl) ⟨congrArg (fun l : qb => Sv l) (?_ : _ = qbo k), _, rfl⟩
 all_goals simp_all [qbo]
theorem qy4 (k : Int) : (qbo k).length ≤ 7 := by
 unfold qbo
 repeat' split
 all_goals simp
theorem qt0 (k : Int) : qbr k = if qbo k = [] then [] else [32] ++ qbo k ++ [32] := by
 unfold qbr qbo
 repeat' split
 all_goals simp_all
theorem qx4 (k : Int) : qbo k = [] ↔ ¬ (1 ≤ k ∧ k ≤ 3) := by
 unfold qbo
 repeat' split
 all_goals simp_all
 omega
theorem q3y (e : zq) (st : List AObj) (h1 : -9223372036854775808 ≤ e.id) (h2 : e.id ≤ 9223372036854775807) : q7 E 48 [qbd e] st fun r st' => r = Sv (vv e) ∧ st' = st := by
 refine zt (z4 _) (q8 Tryz.func48 rfl (Nat.le_of_ble_eq_true rfl) ?_)
 have hn := Lib.itoa_length_le e.id h1 h2
 have hw := qy4 e.kind
 have ho := qt0 e.kind
 have hz := qx4 e.kind
 repeat' (first
  | apply qm
  | apply qe
  | apply qa
  | apply qi
  | apply qf
  | (apply ji; (iterate 3 exact rfl))
  | (apply qg; exact rfl; first | (apply ze; (first | assumption | omega)) | (apply zd; (first | assumption | omega)) | (apply zc; (first | exact rfl | assumption)) | (apply zb; (first | exact rfl | assumption)) | (apply cd_n <;> intro h) | (apply cd_t; (first | exact rfl | assumption)) | (apply cd_f; (first | exact rfl | assumption)) | (apply cd_d <;> intro h) | (apply cd_s <;> intro h))
  | (apply jy; exact rfl; exact rfl; (first | omega | (simp only [List.length_append, List.length_cons, List.length_nil]; omega) | (simp; omega)))
  | (apply j7; (iterate 4 exact rfl))
  | (apply qr; (iterate 3 exact rfl))
  | (apply qh; (iterate 5 exact rfl))
  | apply q6
  | apply qz
  | (apply qd; exact Tryz.call75; exact qm2 _ _)
  | (apply qd; exact Tryz.call87; exact qkq _ _ h1 h2))
 all_goals refine qo rfl (zm rfl) ⟨congrArg (fun l : qb => Sv l) (?_ : _ = vv e), _, rfl⟩
 all_goals unfold vv
 ·rw [if_neg (by simp_all)]
 ·rw [if_pos (by simp_all), ho, if_neg (by assumption)]
end Go.Proofs.YtefmcijohgpfhaaGreatDoor
set_option linter.unusedVariables false
namespace Go.Av
open Go Go.RowKit
def noop (o : Oper) : Oper := { o with op := .move (.const undef), guard := none }
section
variable {F : Fence} {n : Nat} {P : Program} {ops ops' : Array Oper} {md : Region.Mode} {C : World → Prop} {Q : Exit → Act → World → Prop} {k : Nat} {o : Oper}
theorem qh4 {listed : Array Bool} : ∀ k, listed.getD k true = false → ∃ j, j ≤ k ∧ listed.getD j true = false ∧ ∀ i, i < j → listed.getD i true = true := by
 intro k
 induction k using Nat.strongRecOn with
 | _ k ih =>
  intro h
  by_cases hall : ∀ i, i < k → listed.getD i true = true
  ·exact ⟨k, Nat.le_refl _, h, hall⟩
  ·have ⟨i, hi⟩ := Classical.not_forall.1 hall
   have ⟨hi1, hi2⟩ := Classical.not_imp.1 hi
   obtain ⟨j, h1, h2, h3⟩ := ih i hi1 (by simpa using hi2)
   exact ⟨j, by omega, h2, h3⟩
theorem qqj {listed : Array Bool} {i : Nat} (h : listed.getD i true = true) (hi : i < listed.size) : listed.getD i false = true := by
 simp [Array.getD, hi] at h ⊢
 exact h
theorem qua {listed : Array Bool} {i : Nat} (h : listed.getD i true = false) (h2 : listed.getD i false = true) : False := by
 unfold Array.getD at h h2
 by_cases hi : i < listed.size
 ·rw [dif_pos hi] at h h2
  rw [h] at h2
  cases h2
 ·rw [dif_neg hi] at h
  cases h
theorem qlw {listed : Array Bool} {j : Nat} (hsz : listed.size = ops.size) (hord : ∀ (j : Nat) o, ops[j]? = some o → ∀ e ∈ o.after, e.on < j) (hj : listed.getD j true = false) (hall : ∀ i, i < j → listed.getD i true = true) : j ∈ Region.ready md ops listed := by
 have hlt : j < listed.size := by
  rcases Nat.lt_or_ge j listed.size with h | h
  ·exact h
  ·simp [Array.getD, Nat.not_lt.2 h] at hj
 rw [mem_ready]
 have ho : ops[j]? = some ops[j] := Array.getElem?_eq_getElem (by omega)
 exact ⟨hj, _, ho, fun e he _ => qqj (hall _ (hord j _ ho e he)) (by have := hord j _ ho e he; omega)⟩
theorem qil {listed : Array Bool} (hs : ops.size = ops'.size) (hk : ops[k]? = some o) (hk' : ops'[k]? = some (noop o)) (hoth : ∀ j, j ≠ k → ops'[j]? = ops[j]?) : Region.ready md ops' listed = Region.ready md ops listed := by
 unfold Region.ready
 rw [hs]
 refine List.filter_congr fun i _ => ?_
 by_cases h : i = k
 ·subst h; rw [hk, hk']; rfl
 ·rw [hoth i h]
theorem qsj (hd : o.dst = none) (hk : ops[k]? = some o) (hk' : ops'[k]? = some (noop o)) (hoth : ∀ j, j ≠ k → ops'[j]? = ops[j]?) (t : Array Value) : yielded ops' t = yielded ops t := by
 funext j
 unfold yielded
 by_cases h : j = k
 ·subst h; rw [hk, hk']; simp [noop, hd]
 ·rw [hoth j h]
theorem qjy (hro : F.round = none) (hsz : ops.size = ops'.size) (hk : ops[k]? = some o) (hk' : ops'[k]? = some (noop o)) (hoth : ∀ j, j ≠ k → ops'[j]? = ops[j]?) (hd : o.dst = none)
  (hord : ∀ (j : Nat) o, ops[j]? = some o → ∀ e ∈ o.after, e.on < j) (hcov : ∀ j, j < ops.size → j ≠ k → ∃ e ∈ o.after, Region.binds md e = true ∧ e.on = j) :
  ∀ (fuel : Nat) (listed : Array Bool) (a : Act) (w : World), C w → listed.size = ops.size → listed.getD k true = false → wpAnyQIn F n P md ops' C (fun a => ∀ w, C w → wpOpIn F n P ops Q k (Q .normal) a w) fuel listed a → wpAnyIn F n P md ops Q fuel listed a w
 | 0, listed, a, w, hC, hs, hun, h => by
  have ⟨j, _, h2, h3⟩ := qh4 k hun
  have := qlw (md := md) hs hord h2 h3
  rw [← qil hsz hk hk' hoth, h.1] at this
  cases this
 | fuel + 1, listed, a, w, hC, hs, hun, h => by
  obtain ⟨hq1, hq2⟩ := h
  rw [qil hsz hk hk' hoth] at hq1 hq2
  refine ⟨fun h0 => ?_, fun i hi => ?_⟩
  ·have ⟨j, _, h2, h3⟩ := qh4 k hun
   have := qlw (md := md) hs hord h2 h3
   rw [h0] at this
   cases this
  ·have hqi := hq2 i hi
   by_cases hik : i = k
   ·subst hik
    obtain ⟨_, o', ho', hall⟩ := mem_ready.1 hi
    rw [hk] at ho'
    cases ho'
    have hr : Region.ready md ops (listed.setIfInBounds i true) = [] := by
     rw [List.eq_nil_iff_forall_not_mem]
     intro j hj
     obtain ⟨hju, oj, hoj, _⟩ := mem_ready.1 hj
     have hjs : j < ops.size := by
      rcases Nat.lt_or_ge j ops.size with h | h
      ·exact h
      ·rw [Array.getElem?_eq_none h] at hoj; cases hoj
     by_cases hji : j = i
     ·subst hji
      simp [Array.getD, hs, hjs] at hju
     ·obtain ⟨e, he, hb, heq⟩ := hcov j hjs hji
      have h5 := hall e he hb
      rw [heq] at h5
      rw [getD_set_ne true (Ne.symm hji)] at hju
      exact qua hju h5
    unfold qOpIn at hqi
    rw [hk'] at hqi
    simp only at hqi
    have hqe := hqi.2
    have hwn : Region.wanted (noop o) (yielded ops' a.tmps) = true := by simp [noop, Region.wanted]
    rw [if_pos hwn] at hqe
    obtain ⟨v, _, hK⟩ := hqe
    have hput : a.put (noop o).dst v = a := by simp [noop, hd, Act.put]
    rw [hput] at hK
    have hQ' : ∀ w, C w → wpOpIn F n P ops Q i (Q .normal) a w := by
     cases fuel with
     | zero => exact hK.2
     | succ fuel => exact hK.1 (by rw [qil hsz hk hk' hoth]; exact hr)
    exact wpOpIn_mono (fun a' w' h' => wpAnyIn_done hr h' _) (hQ' w hC)
   ·have he : qOpIn F n P ops C i (wpAnyQIn F n P md ops' C (fun a => ∀ w, C w → wpOpIn F n P ops Q k (Q .normal) a w) fuel (listed.setIfInBounds i true)) a := by
     unfold qOpIn at hqi ⊢
     rw [hoth i hik] at hqi
     rw [← qsj hd hk hk' hoth]
     exact hqi
    refine wpOpIn_of_qOpIn hro hC (fun a' w' hC' hX => qjy hro hsz hk hk' hoth hd hord hcov fuel _ a' w' hC' (by simpa using hs) ?_ hX) he
    rw [getD_set_ne true hik]
    exact hun
def qd7 {α : Type} : List α → Option (List α × α)
 | [] => none
 | [x] => some ([], x)
 | x :: y :: r => match qd7 (y :: r) with
  | some (l, o) => some (x :: l, o)
  | none => none
theorem qkw {α : Type} : ∀ {L l : List α} {o : α}, qd7 L = some (l, o) → L = l ++ [o]
 | [], _, _, h => by simp [qd7] at h
 | [x], _, _, h => by simp [qd7] at h; obtain ⟨rfl, rfl⟩ := h; rfl
 | x :: y :: r, l, o, h => by
  unfold qd7 at h
  split at h
  ·rename_i l' o' he
   simp only [Option.some.injEq, Prod.mk.injEq] at h
   obtain ⟨rfl, rfl⟩ := h
   rw [qkw he]
   rfl
  ·simp at h
def qvb (o : Oper) (k : Nat) : Bool := (List.range k).all fun j => o.after.toList.any fun e => Region.binds .any e && Nat.beq e.on j
def qq6 (ops : List Oper) : Bool := (List.range ops.length).all fun j => match ops[j]? with | some o => o.after.toList.all fun e => Nat.blt e.on j | none => true
end
section
variable {E : Env} {N : Nat} {s : AS}
theorem qzi {id : Nat} {L l : List Oper} {o : Oper} {Q : Exit → AS → Prop} (hsp : qd7 L = some (l, o)) (hd : o.dst = none) (hcov : qvb o l.length = true) (hord : qq6 L = true) (hm : E.P.follows .mixedOrders = true) (hB : Region.lexB .any (l ++ [noop o]).toArray = true)
  (h : AQ E N (l ++ [noop o]).toArray l (fun s' => AOps E none N L.toArray [o] (Q .normal) s') s) : AWp E none N (.region id L.toArray true) Q s := by
 have hLe := qkw hsp
 subst hLe
 refine ⟨fun B0 w0 G a w hL hI => ?_⟩
 have hB2 := hB
 simp only [Region.lexB, Bool.and_eq_true] at hB2
 have hk : (l ++ [o]).toArray[l.length]? = some o := by simp
 have hk' : (l ++ [noop o]).toArray[l.length]? = some (noop o) := by simp
 have hoth : ∀ j, j ≠ l.length → (l ++ [noop o]).toArray[j]? = (l ++ [o]).toArray[j]? := fun j hj => by
  simp only [List.getElem?_toArray]
  rcases Nat.lt_or_ge j l.length with h | h
  ·rw [List.getElem?_append_left h, List.getElem?_append_left h]
  ·rw [List.getElem?_eq_none (by simp; omega), List.getElem?_eq_none (by simp; omega)]
 have hordP : ∀ (j : Nat) o', (l ++ [o]).toArray[j]? = some o' → ∀ e ∈ o'.after, e.on < j := fun j o' hj e he => by
  simp only [qq6, List.all_eq_true, List.mem_range] at hord
  simp only [List.getElem?_toArray] at hj
  have h1 := hord j (lt_of_getElem? hj)
  rw [hj] at h1
  simp only at h1
  have h2 := List.all_eq_true.1 h1 e (by simpa using he)
  exact Nat.le_of_ble_eq_true h2
 have hcovP : ∀ j, j < (l ++ [o]).toArray.size → j ≠ l.length → ∃ e ∈ o.after, Region.binds .any e = true ∧ e.on = j := fun j hj hne => by
  simp only [qvb, List.all_eq_true, List.mem_range] at hcov
  have h1 := hcov j (by simp at hj; omega)
  obtain ⟨e, he, h2⟩ := List.any_eq_true.1 h1
  simp only [Bool.and_eq_true] at h2
  exact ⟨e, by simpa using he, h2.1, Nat.eq_of_beq_eq_true h2.2⟩
 have hBl : Below w.heap.size w { w with drawn := w.drawn + 1 } := ⟨rfl, rfl, rfl, Nat.le_refl _, fun _ _ => rfl⟩
 refine wpIn_region_any hm (qjy (C := fun w' => Below w.heap.size w w') (ops' := (l ++ [noop o]).toArray) (k := l.length) rfl (by simp) hk hk' hoth hd hordP hcovP _ _ _ _ hBl (by simp) (by simp [Array.getD]) ?_)
 have hq : wpQuietIn (fw none) 0 E.P (l ++ [noop o]).toArray (fun w' => Below w.heap.size w w') (fun a => ∀ w', Below w.heap.size w w' → wpOpIn (fw none) 0 E.P (l ++ [o]).toArray (fun e a' w' => ∃ (G' : Gh) (s' : AS), G.le G' ∧ Inv B0 w0 N G' s' a' w' ∧ Q e s') l.length (fun a' w' => ∃ (G' : Gh) (s' : AS), G.le G' ∧ Inv B0 w0 N G' s' a' w' ∧ Q .normal s') a w') (l ++ [noop o]) a := by
  have step : ∀ (l1 : List Oper) (a : Act) (X : Act → Prop), wpQuietIn (fw none) 0 E.P (l ++ [noop o]).toArray (fun w' => Below w.heap.size w w') X l1 a → wpQuietIn (fw none) 0 E.P (l ++ [noop o]).toArray (fun w' => Below w.heap.size w w') X (l1 ++ [noop o]) a := by
   intro l1
   induction l1 with
   | nil =>
    intro a X hX
    refine ⟨fun _ _ _ hf => ?_, ?_⟩
    ·simp [Oper.about, noop] at hf
    ·have hwn : Region.wanted (noop o) (yielded (l ++ [noop o]).toArray a.tmps) = true := by simp [noop, Region.wanted]
     rw [if_pos hwn]
     refine ⟨undef, fun w' _ => ?_, ?_⟩
     ·unfold Oper.quietAtIn
      simp [noop, execOp, Oper.quietUponIn, Act.eval]
     ·have hput : a.put (noop o).dst undef = a := by simp [noop, hd, Act.put]
      rw [hput]
      exact hX
   | cons o1 l1 ih =>
    intro a X hX
    refine ⟨hX.1, ?_⟩
    have h2 := hX.2
    split
    ·rename_i hw
     rw [if_pos hw] at h2
     obtain ⟨v, h3, h4⟩ := h2
     exact ⟨v, h3, ih _ _ h4⟩
    ·rename_i hw
     rw [if_neg hw] at h2
     exact ih _ _ h2
  refine step l a _ (h.run B0 w0 G a w hL hI _ fun s' a' hI' hst hks w' hw' => ?_)
  have hI2 : Inv B0 w0 N G s' a' w' := ⟨hI'.agree.fresh hw', hI'.defers, hI'.size, hI'.tmps⟩
  have hr := hks.run B0 w0 G a' w' hL hI2 (fun e a' w' => ∃ (G' : Gh) (s' : AS), G.le G' ∧ Inv B0 w0 N G' s' a' w' ∧ Q e s') (fun G' s'' a'' w'' hG hI3 hQ => ⟨G', s'', hG, hI3, hQ⟩)
  unfold wpOpIn
  rw [hk]
  exact hr
 have := wpAnyQIn_lex (F := fw none) (n := 0) (C := fun w' => Below w.heap.size w w') (md := .any) hB2.1 (l ++ [noop o]) 0 (Array.replicate (l ++ [noop o]).length false) a (by simp) (by simpa using hB2.2) hq
 simpa using this
variable {ops : Array Oper} {K : AS → Prop} {rest : List Oper} {d : Option Tmp} {T : TypeId} {p : String} {af : Array Edge}
theorem yi {x y : Operand} {t t' : TypeId} {m n : List UInt8} (hx : ql N s x = Sv m) (hy : ql N s y = Sv n) (hl : m.length + n.length < 9223372036854775808)
  (h : AQ E N ops rest K (s.put d (Sv (m ++ n)))) : AQ E N ops (⟨d, .binOp .add t x y t', T, p, af, none⟩ :: rest) K s :=
 qbn _ rfl nofun (fun a w he => by
  simp only [execOp, he _ _ hx, he _ _ hy, eqGuard_at_string, binOp, Op.stringOp, qap, qkb, IntKind.max_i64]
  rw [if_neg (by omega)]
  simp) h
theorem qru {x y : Operand} {t e : TypeId} {sz : Nat} {agg : Bool} {xs : List AV} {tip : Option Nat} {k : IntKind} {i : Int} {n : Nat} {z : AV} (hx : ql N s x = .sl sz xs tip) (hy : ql N s y = .v (.int k i)) (hu : E.P.underlying t = some (.slice e)) (ht : tyOf E.P e = some (sz, agg)) (hi : i = n) (hz : xs[n]? = some z)
  (h : AQ E N ops rest K (s.put d (.pp z.cells))) : AQ E N ops (⟨d, .indexAddr t x y, T, p, af, none⟩ :: rest) K s := by
 refine qdt rfl nofun fun B0 w0 G a w _ hI => ?_
 subst hi
 have he := hI.eval_of hx
 have hey := hI.evalv hy
 generalize hv : a.eval x = v at he
 have hlt := lt_of_getElem? hz
 cases he with
 | sl0 => simp at hz
 | sl _ _ _ b off cap pub hp hw hlen hrel htip hcap =>
  have hzs : z.cells.length = sz := hw z (List.mem_of_getElem? hz)
  have hfl := yt hw
  have hle : (n + 1) * sz ≤ xs.length * sz := Nat.mul_le_mul_right _ hlt
  rw [Nat.succ_mul] at hle
  refine ⟨.pointer (some ⟨b, off + n * sz, none⟩), .pp z.cells, fun w' _ => ?_, ?_, h⟩
  ·generalize a.eval = ρ at hv hey
   simp only [execOp, hv, hey]
   simp [Instr.indexAt, asIntOf, run_underlying hu, hlt, (wn ht w').1, Addr.add_lit]
  ·refine .pp _ b _ pub hp (by omega) fun j q r h1 h2 => ?_
   have hj : j < sz := by have := lt_of_getElem? h1; omega
   have hf := qml hw hz j hj
   exact hrel (n * sz + j) q r (by rw [hf]; exact h1) (by rw [← h2]; congr 1; omega)
theorem qoj {x y : Operand} {t e : TypeId} {sz : Nat} {agg : Bool} {o ver off len cp : Nat} {k : IntKind} {i : Int} {n : Nat} (hx : ql N s x = .os o ver off len cp) (hy : ql N s y = .v (.int k i)) (hu : E.P.underlying t = some (.slice e)) (ht : tyOf E.P e = some (sz, agg)) (hi : i = n) (hn : n < len)
  (h : AQ E N ops rest K (s.put d (.bx o ver (off + n * sz)))) : AQ E N ops (⟨d, .indexAddr t x y, T, p, af, none⟩ :: rest) K s := by
 refine qdt rfl nofun fun B0 w0 G a w _ hI => ?_
 subst hi
 have he := hI.eval_of hx
 have hey := hI.evalv hy
 generalize hv : a.eval x = v at he
 cases he with
 | os _ _ _ _ b cap hn' hver hb =>
  refine ⟨.pointer (some ⟨b, off + n * sz, none⟩), _, fun w' _ => ?_, .bx o ver _ b hn' hver hb, h⟩
  generalize a.eval = ρ at hv hey
  simp only [execOp, hv, hey]
  simp [Instr.indexAt, asIntOf, run_underlying hu, hn, (wn ht w').1, Addr.add_lit]
theorem vi {t : TypeId} {x : Operand} {f off sz : Nat} {agg : Bool} {o ver q : Nat} (hx : ql N s x = .bx o ver q) (hf : qao E.P t f = some (off, sz, agg)) (hsz : Nat.beq sz 0 = false)
  (h : AQ E N ops rest K (s.put d (.bx o ver (q + off)))) : AQ E N ops (⟨d, .fieldAddr t x f, T, p, af, none⟩ :: rest) K s := by
 refine qdt rfl nofun fun B0 w0 G a w _ hI => ?_
 have he := hI.eval_of hx
 generalize hv : a.eval x = v at he
 cases he with
 | bx _ _ _ b hn hv' hb =>
  have hs : sz ≠ 0 := fun e => by subst e; simp at hsz
  exact ⟨_, _, fun w' _ => by simp only [execOp, hv]; simp [qcq hf hs], .bx o ver _ b hn hv' hb, h⟩
theorem vk {t : TypeId} {x : Operand} {f off sz : Nat} {agg : Bool} {cs : List AV} (hx : ql N s x = .pp cs) (hf : qao E.P t f = some (off, sz, agg)) (hsz : Nat.beq sz 0 = false) (hle : Nat.ble off cs.length = true)
  (h : AQ E N ops rest K (s.put d (.pp (cs.drop off)))) : AQ E N ops (⟨d, .fieldAddr t x f, T, p, af, none⟩ :: rest) K s := by
 refine qdt rfl nofun fun B0 w0 G a w _ hI => ?_
 have he := hI.eval_of hx
 generalize hv : a.eval x = v at he
 cases he with
 | pp _ b q pub hp hlen hrel =>
  have hs : sz ≠ 0 := fun e => by subst e; simp at hsz
  have ho : off ≤ cs.length := Nat.le_of_ble_eq_true hle
  refine ⟨.pointer (some ⟨b, q + off, none⟩), _, fun w' _ => by simp only [execOp, hv]; simp [qcq hf hs], ?_, h⟩
  exact .pp _ b (q + off) pub hp (by simp; omega) fun i x y h1 h2 => hrel (off + i) x y (by simpa using h1) (by rw [← h2]; congr 1; omega)
theorem xq {x : Operand} {t : TypeId} {sz : Nat} {agg : Bool} {cs : List AV} {r : AV} (hx : ql N s x = .pp cs) (ht : tyOf E.P t = some (sz, agg)) (hr : km sz agg 0 cs = some r)
  (h : AQ E N ops rest K (s.put d r)) : AQ E N ops (⟨d, .load t x, T, p, af, none⟩ :: rest) K s := by
 refine qdt rfl nofun fun B0 w0 G a w _ hI => ?_
 have he := hI.eval_of hx
 generalize hv : a.eval x = v at he
 cases he with
 | pp _ b off pub hp hlen hrel =>
  obtain ⟨c, T', fz, hc, hcc⟩ := hI.agree.pub b pub hp
  have hlt : b < w.heap.size := hI.agree.pub_lt hp
  have key : ∀ w', Below w.heap.size w w' → ∃ v, (loadVar t ⟨b, off, none⟩).run E.P w' = .ok v w' ∧ Rel G r v := fun w' hw' => by
   have h4' : w'.heap[b]? = some (.cells c T' fz) := by rw [hw'.block _ hlt]; exact hc
   exact qa4 (w := w') (G := G) (b := b) (off := off) ht (fun i x hx _ => by
    have hi := lt_of_getElem? hx
    have hy : pub[off + i]? = some (pub[off + i]'(by omega)) := List.getElem?_eq_getElem (by omega)
    refine ⟨_, ?_, hrel i x _ hx hy⟩
    simp [World.cell?, h4', hcc _ _ hy]) hr
  have hg : ∀ w', Below w.heap.size w w' → ∀ j, j < cs.length → w'.cell? ⟨b, off + j, none⟩ = some (pub.getD (off + j) undef) := fun w' hw' j hj => by
   have h4' : w'.heap[b]? = some (.cells c T' fz) := by rw [hw'.block _ hlt]; exact hc
   have hlt2 : off + j < pub.length := by omega
   have hy : pub[off + j]? = some (pub.getD (off + j) undef) := by simp [List.getD, hlt2]
   simp [World.cell?, h4', hcc _ _ hy]
  have hsame : ∀ w', Below w.heap.size w w' → ∀ v, (loadVar t ⟨b, off, none⟩).run E.P w = .ok v w → (loadVar t ⟨b, off, none⟩).run E.P w' = .ok v w' := fun w' hw' v hr1 => by
   obtain ⟨i1, i2⟩ := wn ht w
   obtain ⟨j1, j2⟩ := wn ht w'
   obtain ⟨v', h1', _⟩ := key w' hw'
   rw [h1']
   congr 1
   cases agg with
   | false =>
    simp only [km, cond_false] at hr
    have h0 := lt_of_getElem? hr
    have e1 := hg w (Below.refl _ _) 0 h0
    have e2 := hg w' hw' 0 h0
    rw [Nat.add_zero] at e1 e2
    simp [loadVar, i2, run_load, e1] at hr1
    simp [loadVar, j2, run_load, e2] at h1'
    rw [← h1', hr1]
   | true =>
    simp only [km, cond_true] at hr
    cases hb2 : Nat.ble (0 + sz) cs.length with
    | false => rw [hb2] at hr; simp at hr
    | true =>
     have hle : 0 + sz ≤ cs.length := Nat.le_of_ble_eq_true hb2
     have l1 := run_loadCells (P := E.P) (w := w) ⟨b, off, none⟩ sz (fun j => pub.getD (off + j) undef) (fun j hj => by rw [Addr.add_lit]; exact hg w (Below.refl _ _) j (by omega))
     have l2 := run_loadCells (P := E.P) (w := w') ⟨b, off, none⟩ sz (fun j => pub.getD (off + j) undef) (fun j hj => by rw [Addr.add_lit]; exact hg w' hw' j (by omega))
     simp [loadVar, i1, i2, l1] at hr1
     simp [loadVar, j1, j2, l2] at h1'
     rw [← h1', hr1]
  obtain ⟨v, hrun, hR⟩ := key w (Below.refl _ _)
  exact ⟨v, r, fun w' hw' => by simp only [execOp, hv, Instr.loadAt, Instr.sureAddr]; simp [hsame w' hw' v hrun], hR, h⟩
theorem qcj {x y : Operand} {t t' : TypeId} {k : IntKind} {m n r : Int} (hx : ql N s x = .v (.int k m)) (hy : ql N s y = .v (.int k n)) (hr : k.wrap (m - n) = r)
  (h : AQ E N ops rest K (s.put d (.v (.int k r)))) : AQ E N ops (⟨d, .binOp .sub t x y t', T, p, af, none⟩ :: rest) K s :=
 qbn _ rfl nofun (fun a w he => by rw [← hr]; simp [execOp, he _ _ hx, he _ _ hy, eqGuard_at_int, binOp, Op.intArith]) h
theorem qbf {x y z : Operand} {t : TypeId} {k k' : IntKind} {l : List UInt8} {i j : Nat} (hx : ql N s x = Sv l) (hy : ql N s y = .v (.int k' (i : Int))) (hz : ql N s z = .v (.int k (j : Int))) (hu : E.P.underlying t = some .string) (h1 : i ≤ j) (h2 : j ≤ l.length)
  (h : AQ E N ops rest K (s.put d (Sv ((l.take j).drop i)))) : AQ E N ops (⟨d, .slice t x (some y) (some z) none, T, p, af, none⟩ :: rest) K s :=
 ql7 (i := i) (j := j) hx hu ⟨_, hy⟩ ⟨_, hz⟩ (by omega) (by omega) (by omega) (by simpa using h)
theorem qbg {x : Operand} {ts : Array TypeId} {t0 e : TypeId} {v : AV} {n : Nat} (hx : ql N s x = v) (hl : lenA v = some n) (ht : ts[0]? = some t0) (hu : E.P.underlying t0 = some (.slice e))
  (h : AQ E N ops rest K (s.put d (Iv n))) : AQ E N ops (⟨d, .call ⟨.builtin .len, #[x], ts⟩, T, p, af, none⟩ :: rest) K s := by
 refine qdt rfl nofun fun B0 w0 G a w _ hI => ?_
 have he := hI.eval_of hx
 have key : ∃ b c, a.eval x = .slice b n c := by
  generalize a.eval x = u at he
  cases he <;> simp [lenA] at hl
  case v y =>
   cases u <;> simp at hl
   subst hl
   exact ⟨_, _, rfl⟩
  case sl0 => subst hl; exact ⟨_, _, rfl⟩
  case sl => subst hl; exact ⟨_, _, rfl⟩
  case os => subst hl; exact ⟨_, _, rfl⟩
 obtain ⟨b, c, hv⟩ := key
 refine ⟨.int .i64 n, Iv n, fun w' _ => ?_, .v _, h⟩
 generalize a.eval = ρ at hv
 simp [execOp, resolve, invoke, builtin, Builtin.len_, hv, ht, run_underlying hu, goInt]
theorem xl {x : Operand} {t : TypeId} {sz : Nat} {agg : Bool} {st loc ext new : List AObj} {k ver off : Nat} {T' : TypeId} {cs : List AV} {r : AV} (hs : s.st = ((st ++ loc) ++ ext) ++ new) (hx : ql N s x = .bx (st.length + k) ver off) (ho : loc[k]? = some (.cells ver T' cs)) (ht : tyOf E.P t = some (sz, agg)) (hr : km sz agg off cs = some r)
  (h : AQ E N ops rest K (s.put d r)) : AQ E N ops (⟨d, .load t x, T, p, af, none⟩ :: rest) K s :=
 qn0 hx (by rw [hs]; exact qcp ho) ht hr h
end
end Go.Av
set_option linter.unusedVariables false
namespace Go.Av
open Go Go.RowKit
section
variable {B0 : Nat} {w0 : World} {G : Gh} {st : List AObj} {w : World}
theorem z7.pubOb (h : z7 B0 w0 G st w) {o ver : Nat} {T : TypeId} {cs : List AV} (ho : st[o]? = some (.cells ver T cs)) :
  ∃ vs : List Value, G.le (G.publish (G.ob o).blk vs) ∧ z7 B0 w0 (G.publish (G.ob o).blk vs) (st.set o .dead) w ∧ (G.ob o).ver = ver ∧ (G.publish (G.ob o).blk vs).pub (G.ob o).blk = some vs ∧ cs.length = vs.length ∧
   ∀ (i : Nat) (x : AV) (y : Value), cs[i]? = some x → vs[i]? = some y → Rel (G.publish (G.ob o).blk vs) x y := by
 obtain ⟨h0, h1, h2, h3, c, h4, h5, h6⟩ := h.ob o _ ho
 have hle : G.le (G.publish (G.ob o).blk c.toList) := G.le_publish _ _ [] [] (.inl h3)
 refine ⟨c.toList, hle, ?_, h1, by simp [Gh.publish], by simpa using h5, fun i x y hx hy => (h6 i x y hx (by simpa using hy)).mono hle⟩
 have key : ∀ (k : Nat) (x : AObj), (st.set o .dead)[k]? = some x → x = .dead ∨ (k ≠ o ∧ st[k]? = some x) := fun k x hx => by
  rcases getElem?_set' _ _ _ _ _ hx with ⟨_, e⟩ | e
  ·exact .inl e
  ·exact .inr e
 refine ⟨h.below, h.hB, by simp [h.n, Gh.publish], fun b vs hb => ?_, fun k x hx => ?_, fun k k' x x' hne hx hx' hl hl' => ?_⟩
 ·simp only [Gh.publish] at hb
  by_cases e : b = (G.ob o).blk
  ·rw [if_pos e] at hb
   cases hb
   subst e
   exact ⟨c, T, (0, 0), h4, fun i y hy => by simpa using hy⟩
  ·rw [if_neg e] at hb
   exact h.pub b vs hb
 ·rcases key k x hx with rfl | ⟨hk, hx⟩
  ·trivial
  ·refine (h.ob k x hx).mono hle rfl (fun hl => ?_) (fun _ => rfl)
   have := h.sep k o x _ hk hx ho hl trivial
   simp [Gh.publish, this]
 ·rcases key k x hx with rfl | ⟨hk, hx⟩
  ·exact hl.elim
  ·rcases key k' x' hx' with rfl | ⟨hk', hx'⟩
   ·exact hl'.elim
   ·exact h.sep k k' x x' hne hx hx' hl hl'
end
section
variable {E : Env} {rd : Option Nat} {N : Nat} {ops : Array Oper} {K : AS → Prop} {s : AS} {rest : List Oper} {d : Option Tmp} {T : TypeId} {p : String} {af : Array Edge}
theorem Inv.pub {B0 : Nat} {w0 : World} {G : Gh} {a : Act} {w : World} (h : Inv B0 w0 N G s a w) {i o ver : Nat} {T' : TypeId} {cs : List AV} (hi : s.t i = .bx o ver 0) (ho : s.st[o]? = some (.cells ver T' cs)) :
  ∃ G', G.le G' ∧ Inv B0 w0 N G' ⟨Av.put s.t i (.pp cs), s.st.set o .dead, s.df⟩ a w := by
 obtain ⟨vs, hle, hA, hv, hp, hl, hr⟩ := h.agree.pubOb ho
 refine ⟨_, hle, hA, h.defers_mono hle, h.size, fun j y hy => ?_⟩
 have hj := h.tmps j y hy
 by_cases e : j = i
 ·subst e
  simp only [qas]
  rw [hi] at hj
  cases hj with
  | bx _ _ _ b hn hv' hb =>
   have hb := hb hv
   subst hb
   exact .pp cs _ 0 vs hp (by omega) fun k x y hx hy => hr k x y hx (by simpa using hy)
 ·simp only
  rw [qb8 _ _ _ _ e]
  exact hj.mono hle
theorem qx {x y : Operand} {t : TypeId} {sz : Nat} {agg : Bool} {st loc loc' ext new : List AObj} {k ver off : Nat} {T' : TypeId} {cs xs : List AV} {r : AV} (hs : s.st = ((st ++ loc) ++ ext) ++ new) (hx : ql N s x = .bx (st.length + k) ver off) (hy : ql N s y = r) (ho : loc[k]? = some (.cells ver T' cs)) (ht : tyOf E.P t = some (sz, agg))
  (hok : r.okc = true) (hc : r.cells = xs) (hsz : Nat.beq xs.length sz = true) (h1 : xc xs = true) (hfit : Nat.ble (off + sz) cs.length = true) (hl : loc' = loc.set k (.cells ver T' (x4 cs off xs)))
  (h : AOps E rd N ops rest K (AS.put ⟨s.t, ((st ++ loc') ++ ext) ++ new, s.df⟩ d (.v undef))) : AOps E rd N ops (⟨d, .store t x y, T, p, af, none⟩ :: rest) K s := by
 have hk := lt_of_getElem? ho
 exact qs hx hy (by rw [hs]; exact qcp ho) ht hok hc hsz h1 hfit (by rw [hs, qgg _ hk, ← hl]; exact h)
end
theorem qez {α : Type} (l : List α) (a : α) : (l ++ [a]).length = l.length + 1 := by simp
theorem qew {α : Type} (l : List α) (a : α) : Iv ((l.length : Int) + 1) = Iv ((l ++ [a]).length : Nat) := by rw [qez]; rfl
theorem qss {α : Type} {sz : Nat} {tip : Option Nat} (x0 : AV) (g : α → AV) (pre : List α) (a : α) (v : AV) (h : v = g a) : AV.sl sz ((x0 :: pre.map g) ++ [v]) tip = AV.sl sz (x0 :: (pre ++ [a]).map g) tip := by rw [List.map_append, h]; rfl
theorem qt8 {E : Env} {rd : Option Nat} {N : Nat} {ops : Array Oper} {K : AS → Prop} {s : AS} {rest : List Oper} {d : Option Tmp} {T : TypeId} {p : String} {af : Array Edge} {t : TypeId} {st loc : List AObj} {cs : List AV} {n : Nat} (hst : s.st = st ++ loc) (hn : st.length = n) (hz : qep E.P t = some cs)
  (h : AOps E rd N ops rest K (AS.put ⟨s.t, st ++ (loc ++ [.cells 0 t cs]), s.df⟩ d (.bx (n + loc.length) 0 0))) : AOps E rd N ops (⟨d, .alloc t, T, p, af, none⟩ :: rest) K s := by
 subst hn
 exact z0 hst hz h
theorem qbp {E : Env} {rd : Option Nat} {N : Nat} {c : Code} {Q : Exit → AS → Prop} {s : AS} {α : Type} (xs : List α) (I : List α → AS → Prop) (h0 : I [] s) (hend : ∀ s, I xs s → AWp E rd N c (qqz (fun _ => False) Q) s)
  (hstep : ∀ pre a rest s, xs = pre ++ a :: rest → I pre s → AWp E rd N c (qqz (fun s' => I (pre ++ [a]) s') Q) s) : AWp E rd N (.loop c) Q s := by
 refine yg (fun (x : List α × List α) s => xs = x.1 ++ x.2 ∧ I x.1 s) (fun x => x.2.length) ([], xs) ⟨rfl, h0⟩ ?_
 rintro ⟨pre, rest⟩ s ⟨hx, hi⟩
 cases rest with
 | nil =>
  simp only [List.append_nil] at hx
  subst hx
  refine (hend s hi).mono fun e s' h => ?_
  cases e with
  | normal => exact h.elim
  | _ => exact h
 | cons a rest =>
  refine (hstep pre a rest s hx hi).mono fun e s' h => ?_
  cases e with
  | normal => exact ⟨(pre ++ [a], rest), ⟨by rw [hx]; simp, h⟩, by simp⟩
  | _ => exact h
theorem qql {E : Env} {fn : Func} {R : AV → List AObj → Prop} {s : AS} {st loc ext new : List AObj} {k : Nat} {ds : List Nat} (hs : s.st = ((st ++ loc) ++ ext) ++ new) (hd : s.df = (st.length + k) :: ds) (ho : loc[k]? = some .dfr) (h : ARet E fn R ⟨s.t, ((st ++ loc.set k .dead) ++ ext) ++ new, ds⟩) : ARet E fn R s :=
 qd9 hd (by rw [hs]; exact qcp ho) (by rw [hs, qgg _ (lt_of_getElem? ho)]; exact h)
@[reducible] def qxm (F : LoopState → Option Code → AObj) (st : List AObj) (own : AObj) (I : List AObj → Prop) (D : Code → List AObj → Prop) : Exit → AS → Prop
 | .normal, s => ∃ l ext new, s.st = ((st ++ (l ++ [.dfr, F .busy none, own])) ++ ext) ++ new ∧ I l
 | .ret, s => ∃ l ext new, s.st = ((st ++ (l ++ [.dfr, F .busy none, own])) ++ ext) ++ new ∧ D .ret l
 | .exit id, s => ∃ l ext new, s.st = ((st ++ (l ++ [.dfr, F .busy none, own])) ++ ext) ++ new ∧ D (.exit id) l
 | _, _ => False
theorem quc {E : Env} {o : Nat} {xs : List AV} {st st' : List AObj} {R : Bool → List AObj → Prop} (e : st = st') (h : qba E o xs st R) : qba E o xs st' R := e ▸ h
theorem qc1 {st l ext : List AObj} {a b c : AObj} {n : Nat} (hl : l.length = n) : (((st ++ (l ++ [a, b, c])) ++ ext))[st.length + (n + 1)]? = some b := by
 subst hl
 rw [List.append_assoc, List.append_assoc, List.getElem?_append_right (by omega), Nat.add_sub_cancel_left, List.getElem?_append_right (by omega)]
 simp
theorem qeb {st l ext : List AObj} {a b c y : AObj} {n : Nat} (hl : l.length = n) : ((st ++ (l ++ [a, b, c])) ++ ext).set (st.length + (n + 1)) y = (st ++ (l ++ [a, y, c])) ++ ext := by
 subst hl
 rw [List.append_assoc, List.append_assoc, List.set_append_right _ _ (by omega), Nat.add_sub_cancel_left, List.set_append_right _ _ (by omega)]
 simp
theorem q0w {E : Env} {N : Nat} {t : Nat → AV} {ps : Array Tmp} {asg body : Code} {st l ext : List AObj} {own : AObj} {n : Nat} {xs : List AV} {F : LoopState → Option Code → AObj} {I : List AObj → Prop} {D : Code → List AObj → Prop} (hF : qjl F N t ps asg body) (hl : l.length = n) (hps : ps.size = xs.length)
  (hI : ∀ l, I l → l.length = n) (hD : ∀ c l, D c l → l.length = n)
  (h : ∀ rd, AWp E (some rd) N asg (only fun s1 => ∃ new, s1.st = ((st ++ (l ++ [.dfr, F .ready none, own])) ++ ext) ++ new ∧ s1.df = [] ∧ AWp E (some rd) N body (qxm F st own I D) ⟨s1.t, ((st ++ (l ++ [.dfr, F .busy none, own])) ++ ext) ++ new, []⟩) ⟨qg7 t (ps.toList.zip xs), ((st ++ (l ++ [.dfr, F .ready none, own])) ++ ext) ++ [], []⟩) :
  qba E (st.length + (n + 1)) xs ((st ++ (l ++ [.dfr, F .ready none, own])) ++ ext) fun b st2 => ∃ l' ext', (b = true → st2 = (st ++ (l' ++ [.dfr, F .ready none, own])) ++ ext' ∧ I l') ∧ (b = false → ∃ c, st2 = (st ++ (l' ++ [.dfr, F .done (some c), own])) ++ ext' ∧ D c l') := by
 refine qmk hF (qc1 hl) hps fun rd => ?_
 have h := h rd
 rw [List.append_nil] at h
 refine h.mono fun e s1 hq => ?_
 cases e with
 | normal =>
  obtain ⟨new, h1, h2, h3⟩ := hq
  refine ⟨by rw [h1, List.append_assoc]; exact qc1 hl, h2, ?_⟩
  have e : s1.st.set (st.length + (n + 1)) (F .busy none) = ((st ++ (l ++ [.dfr, F .busy none, own])) ++ ext) ++ new := by
   rw [h1, List.append_assoc, qeb hl, List.append_assoc _ ext]
  rw [e]
  refine h3.mono fun e s2 hq2 => ?_
  cases e with
  | normal =>
   obtain ⟨l', ext', new', k1, k2⟩ := hq2
   exact ⟨by rw [k1, List.append_assoc]; exact qc1 (hI _ k2), l', ext' ++ new', fun _ => ⟨by rw [k1, List.append_assoc, qeb (hI _ k2)], k2⟩, nofun⟩
  | ret =>
   obtain ⟨l', ext', new', k1, k2⟩ := hq2
   exact ⟨by rw [k1, List.append_assoc]; exact qc1 (hD _ _ k2), l', ext' ++ new', nofun, fun _ => ⟨_, by rw [k1, List.append_assoc, qeb (hD _ _ k2)], k2⟩⟩
  | exit id =>
   obtain ⟨l', ext', new', k1, k2⟩ := hq2
   exact ⟨by rw [k1, List.append_assoc]; exact qc1 (hD _ _ k2), l', ext' ++ new', nofun, fun _ => ⟨_, by rw [k1, List.append_assoc, qeb (hD _ _ k2)], k2⟩⟩
  | _ => exact hq2.elim
 | _ => exact hq.elim
end Go.Av
set_option linter.unusedVariables false
namespace Go.Pl
open Go Go.Proofs
abbrev Fld := qb × qb
def qdx (s : qb) : Prop := ∀ c ∈ s, ye c
instance (s : qb) : Decidable (qdx s) := inferInstanceAs (Decidable (∀ c ∈ s, ye c))
def xt (s : qb) : qb := if qdx s ∨ s.head? = some 46 then 46 :: s else s
def vq (key p : qb) : qb := key ++ [58] ++ if p = [] then [] else [32] ++ p
def kg (f : Fld) : List qb := vq f.1 ((jf f.2).headD []) :: (jf f.2).tail.map fun s => [32] ++ xt s
def jd (ls : List qb) : qb := ls.flatMap fun s => s ++ [10]
def we (xs : List Fld) : qb := xs.flatMap fun f => jd (kg f)
def vo (f : Fld) : Int := if ¬ qdc f.1 then 5 else if 1000 < f.2.length then 6 else 0
def kr (f : Fld) : Prop := qdc f.1 ∧ f.2.length ≤ 1000
instance (f : Fld) : Decidable (kr f) := inferInstanceAs (Decidable (_ ∧ _))
theorem qco (f : Fld) : vo f = 0 ↔ kr f := by
 unfold vo kr
 by_cases h : qdc f.1
 ·by_cases h2 : 1000 < f.2.length
  ·simp [h, h2]
  ·simp [h, h2]; omega
 ·simp [h]
def wh (c : UInt8) (l : qb) : qb := if l.head? = some c then l.drop 1 else l
theorem qoq (c : UInt8) (l : qb) : Lib.trimPrefix l [c] = wh c l := by
 unfold Lib.trimPrefix wh
 rw [qjr]
 simp
def qbv (l : qb) (r : List qb) : qb := wh 32 (w8 l) ++ r.flatMap fun s => [10] ++ wh 46 (s.drop 1)
def qmi (ls : List qb) : Prop := ls ≠ [] ∧ zl (ls.headD []) = 4 ∧ ∀ s ∈ ls.tail, zl s = 3
instance (ls : List qb) : Decidable (qmi ls) := inferInstanceAs (Decidable (_ ∧ _ ∧ _))
def jv (ls : List qb) : Fld × Int :=
 if qmi ls then
  if 1000 < (qbv (ls.headD []) ls.tail).length then (([], []), 6) else ((kq (ls.headD []), qbv (ls.headD []) ls.tail), 0)
 else (([], []), 2)
theorem qi0 (l : qb) : jf l ≠ [] := by
 by_cases h : 10 ∈ l
 ·rw [qbw h]; simp
 ·rw [qby h]; simp
theorem qm6 (l : qb) : jf l = (jf l).headD [] :: (jf l).tail := by
 cases h : jf l with
 | nil => exact absurd h (qi0 l)
 | cons a r => rfl
theorem qi2 : ∀ (n : Nat) (l : qb), l.length ≤ n → (jf l).headD [] ++ (jf l).tail.flatMap (fun s => [10] ++ s) = l
 | n, l, hn => by
  by_cases h : 10 ∈ l
  ·rw [qbw h]
   have hne : l ≠ [] := fun e => by subst e; simp at h
   have hlt := yz (c := 10) hne
   cases n with
   | zero => omega
   | succ n =>
    have ih := qi2 n (past 10 l) (by omega)
    simp only [List.headD_cons, List.tail_cons]
    rw [qm6 (past 10 l)]
    simp only [List.flatMap_cons]
    rw [List.append_assoc, ih]
    have := qaz h
    simp [← this]
  ·rw [qby h]; simp
theorem qeh (l : qb) : ∀ x ∈ jf l, 10 ∉ x := fun x hx => (qfu l.length l (Nat.le_refl _) x hx).2
theorem qlu (l : qb) : ∀ x ∈ jf l, x.length ≤ l.length := fun x hx => (qfu l.length l (Nat.le_refl _) x hx).1
theorem qme (l : qb) : (jf l).headD [] ∈ jf l := by
 have h := qi0 l
 cases e : jf l with
 | nil => exact absurd e h
 | cons a r => simp
theorem quw (s : qb) : wh 46 (xt s) = s := by
 unfold xt wh
 by_cases h : qdx s ∨ s.head? = some 46
 ·rw [if_pos h]; simp
 ·rw [if_neg h, if_neg (fun h' => h (.inr h'))]
theorem qo4 (s : qb) : ¬ qdx (xt s) := by
 unfold xt
 by_cases h : qdx s ∨ s.head? = some 46
 ·rw [if_pos h]
  intro h'
  have := h' 46 (by simp)
  revert this; decide
 ·rw [if_neg h]
  exact fun h' => h (.inl h')
theorem qnv {s : qb} (h : 10 ∉ s) : 10 ∉ xt s := by
 unfold xt
 split
 ·simp [h]
 ·exact h
theorem qp5 (s : qb) : (xt s).length ≤ s.length + 1 := by
 unfold xt
 split <;> simp
theorem qp0 (s : qb) (h : 10 ∉ s) : zl ([32] ++ xt s) = 3 := by
 have hn := qnv h
 have hb := qo4 s
 unfold zl
 have h10 : 10 ∉ ([32] ++ xt s) := by simp [hn]
 rw [if_neg h10, if_neg (fun h' => hb fun c hc => h' c (by simp [hc])), if_neg (by simp), if_pos ⟨32, by simp, .inl rfl⟩]
theorem qhz {k r : qb} (h : 58 ∉ k) : kq (k ++ [58] ++ r) = k := by
 unfold kq
 induction k with
 | nil => simp
 | cons a k ih =>
  simp only [List.mem_cons, not_or] at h
  have : (58 : UInt8) ≠ a := h.1
  simp only [List.cons_append, List.takeWhile_cons]
  rw [if_pos (by simpa using fun e => this e.symm)]
  rw [ih h.2]
theorem qre {k r : qb} (h : 58 ∉ k) : w8 (k ++ [58] ++ r) = r := by
 unfold w8
 rw [qhz h]
 rw [List.drop_append_of_le_length (by simp)]
 simp
theorem qhb {k : qb} (h : qdc k) : ∃ c, k.head? = some c ∧ ¬ ye c ∧ c ≠ 35 := by
 obtain ⟨h1, h2, h3, h4, h5, h6⟩ := h
 cases k with
 | nil => exact absurd rfl h1
 | cons a r => exact ⟨a, rfl, fun hb => h3 ⟨a, rfl, hb⟩, fun e => h4 (by simp [e])⟩
theorem qp7 {k p : qb} (h : qdc k) (hp : 10 ∉ p) : zl (vq k p) = 4 := by
 obtain ⟨c, hc, hb, h35⟩ := qhb h
 have hk10 : 10 ∉ k := h.2.2.2.2.2
 have hk58 : 58 ∉ k := h.2.2.2.2.1
 have hh : (vq k p).head? = some c := by
  unfold vq
  cases k with
  | nil => simp at hc
  | cons a r => simpa using hc
 have e : vq k p = k ++ [58] ++ (if p = [] then [] else [32] ++ p) := rfl
 have h10 : 10 ∉ vq k p := by
  rw [e]
  split <;> simp [hk10, hp]
 have hmem : c ∈ vq k p := List.mem_of_head? hh
 unfold zl
 rw [if_neg h10, if_neg (fun h' => hb (h' c hmem)), if_neg (by rw [hh]; simpa using h35), if_neg (fun ⟨d, hd, hd'⟩ => by rw [hh] at hd; cases hd; exact hb hd')]
 rw [if_pos]
 refine ⟨by rw [e]; simp, ?_⟩
 rw [e, qhz hk58]
 exact h
theorem qyg (k p : qb) (h : 58 ∉ k) : wh 32 (w8 (vq k p)) = p := by
 unfold vq
 rw [qre h]
 by_cases hp : p = []
 ·rw [if_pos hp]; simp [wh, hp]
 ·rw [if_neg hp]; simp [wh]
theorem qqp {f : Fld} (h : kr f) : jv (kg f) = (f, 0) := by
 obtain ⟨hk, hv⟩ := h
 have hk58 : 58 ∉ f.1 := hk.2.2.2.2.1
 have h10 := qeh f.2
 have hval : qbv (vq f.1 ((jf f.2).headD [])) ((jf f.2).tail.map fun s => [32] ++ xt s) = f.2 := by
  unfold qbv
  rw [qyg _ _ hk58]
  have : ((jf f.2).tail.map fun s => [32] ++ xt s).flatMap (fun s => [10] ++ wh 46 (s.drop 1)) = (jf f.2).tail.flatMap (fun s => [10] ++ s) := by
   rw [List.flatMap_map]
   congr 1
   funext s
   simp [quw]
  rw [this, qi2 _ _ (Nat.le_refl _)]
 unfold jv kg
 rw [if_pos]
 ·simp only [List.headD_cons, List.tail_cons]
  refine (if_neg (by rw [hval]; omega)).trans ?_
  have : kq (vq f.1 ((jf f.2).headD [])) = f.1 := qhz hk58
  rw [this, hval]
 ·refine ⟨by simp, ?_, ?_⟩
  ·simp only [List.headD_cons]
   exact qp7 hk (h10 _ (qme _))
  ·intro s hs
   simp only [List.tail_cons, List.mem_map] at hs
   obtain ⟨x, hx, rfl⟩ := hs
   exact qp0 x (h10 x (List.mem_of_mem_tail hx))
end Go.Pl
set_option linter.unusedVariables false
namespace Go.Av
open Go Go.RowKit
section
variable {E : Env} {rd : Option Nat} {N : Nat} {ops : Array Oper} {K : AS → Prop} {s : AS} {rest : List Oper} {d : Option Tmp} {T : TypeId} {p : String} {af : Array Edge}
theorem qae {t e : TypeId} {len sz : Nat} {agg : Bool} {parts : Array (Nat × Operand)} {zs cs : List AV} {st loc : List AObj} (hst : s.st = st ++ loc) (hu : E.P.underlying t = some (.slice e)) (ht : tyOf E.P e = some (sz, agg)) (hz : qdm E.P e len = some zs)
  (hf : qbq (fun i => some (i * sz, sz)) zs (vf N s parts) = some cs) (hsz : Nat.ble (len * sz) 16777216 = true)
  (h : AOps E rd N ops rest K (AS.put ⟨s.t, st ++ (loc ++ [.cells 0 e cs]), s.df⟩ d (.os (st.length + loc.length) 0 0 len len))) : AOps E rd N ops (⟨d, .buildSlice t len parts, T, p, af, none⟩ :: rest) K s := by
 refine z2 rfl (z1 nofun fun B0 w0 G a w _ hI => ?_)
 obtain ⟨c', hrun, h2⟩ := qii (d := d) (T := T) (p := p) (af := af) hI hu ht hz hf hsz
 have hA := hI.agree.newCells e c' cs h2.1 h2.2
 have hn := hI.agree.n
 rw [hst] at hA hn
 simp only [List.append_assoc, List.length_append] at hA hn
 exact ⟨_, _, _, _, _, hrun, G.le_new _ _ _ _, hA, .os _ _ _ _ _ _ (by simp [Gh.new, hn]) (Nat.zero_le _) (fun _ => by simp [Gh.new, hn]), h⟩
theorem z7.ownTip {B0 : Nat} {w0 : World} {G : Gh} {st : List AObj} {w : World} (h : z7 B0 w0 G st w) {o sz len cap : Nat} {T : TypeId} {cs : List AV} {xs : List AV} (ho : st[o]? = some (.cells 0 T cs)) (hc : cs.length = cap * sz) (hlen : xs.length = len) (h0 : 0 < len) (hle : len ≤ cap) (hcm : cap ≤ maxLen) (hw : ∀ x ∈ xs, x.cells.length = sz) (hfl : flat xs = cs.take (len * sz)) :
  ∃ G', G.le G' ∧ z7 B0 w0 G' (st.set o (.tip len sz T)) w ∧ Rel G' (.sl sz xs (some o)) (.slice (some ⟨(G.ob o).blk, 0, none⟩) len cap) := by
 subst hlen
 have hon := lt_of_getElem? ho
 obtain ⟨g0, g1, g2, g3, c, g4, g5, g6⟩ := h.ob o _ ho
 have hle1 : G.le (G.publish (G.ob o).blk (c.toList.take (xs.length * sz))) := G.le_publish _ _ [] [] (.inl g3)
 -- dead, published
 have key : ∀ (k : Nat) (x : AObj), (st.set o .dead)[k]? = some x → x = .dead ∨ (k ≠ o ∧ st[k]? = some x) := fun k x hx => by
  rcases getElem?_set' _ _ _ _ _ hx with ⟨_, e⟩ | e
  ·exact .inl e
  ·exact .inr e
 have hA1 : z7 B0 w0 (G.publish (G.ob o).blk (c.toList.take (xs.length * sz))) (st.set o .dead) w := by
  refine ⟨h.below, h.hB, by simp [h.n, Gh.publish], fun b vs hb => ?_, fun k x hx => ?_, fun k k' x x' hne hx hx' hl hl' => ?_⟩
  ·simp only [Gh.publish] at hb
   by_cases e : b = (G.ob o).blk
   ·rw [if_pos e] at hb
    cases hb
    subst e
    refine ⟨c, T, (0, 0), g4, fun i y hy => ?_⟩
    rw [List.getElem?_take] at hy
    split at hy
    ·simpa using hy
    ·simp at hy
   ·rw [if_neg e] at hb
    exact h.pub b vs hb
  ·rcases key k x hx with rfl | ⟨hk, hx⟩
   ·trivial
   ·refine (h.ob k x hx).mono hle1 rfl (fun hl => ?_) (fun _ => rfl)
    have := h.sep k o x _ hk hx ho hl trivial
    simp [Gh.publish, this]
  ·rcases key k x hx with rfl | ⟨hk, hx⟩
   ·exact hl.elim
   ·rcases key k' x' hx' with rfl | ⟨hk', hx'⟩
    ·exact hl'.elim
    ·exact h.sep k k' x x' hne hx hx' hl hl'
 have hvl : (c.toList.take (xs.length * sz)).length = xs.length * sz := by
  have : xs.length * sz ≤ cap * sz := Nat.mul_le_mul_right _ hle
  simp
  omega
 obtain ⟨hle2, hA2⟩ := hA1.setTip (t := o) (n := 0) (n' := xs.length) (k := (G.ob o).blk) (cap := c.size) (sz := sz) (T := T) (c := c) (vs := c.toList.take (xs.length * sz)) (by simp [hon]) g0 g1 h0 g4 (by simp [Gh.publish]) hvl rfl g2 (fun k x hx hl => by
  rcases key k x hx with rfl | ⟨hk, hx⟩
  ·exact hl.elim
  ·exact h.sep k o x _ hk hx ho hl trivial)
 rw [List.set_set] at hA2
 refine ⟨_, hle1.trans hle2, hA2, ?_⟩
 have hgn : o < G.n := by rw [h.n]; exact hon
 refine .sl sz xs (some o) (G.ob o).blk 0 cap (c.toList.take (xs.length * sz)) (by simp [Gh.setOb, Gh.publish]) hw (by rw [hfl, hvl]; simp; omega) (fun i x y h1 h2 => ?_) (fun t ht => ?_) (by omega)
 ·rw [hfl] at h1
  rw [Nat.zero_add] at h2
  rw [List.getElem?_take] at h1 h2
  split at h1
  ·rename_i hi
   rw [if_pos hi] at h2
   exact ((g6 i x y h1 (by simpa using h2)).mono hle1).mono hle2
  ·simp at h1
 ·simp only [Option.some.injEq] at ht
  subst ht
  refine ⟨by simpa [Gh.setOb, Gh.publish] using hgn, by omega, by simp [Gh.setOb], fun _ => ⟨by simp [Gh.setOb], rfl, by simp [Gh.setOb, ← g5, hc], hcm, by omega⟩⟩
theorem Inv.osTip {B0 : Nat} {w0 : World} {G : Gh} {a : Act} {w : World} (h : Inv B0 w0 N G s a w) {i o sz len cap : Nat} {T' : TypeId} {cs xs : List AV} (hi : s.t i = .os o 0 0 len cap) (ho : s.st[o]? = some (.cells 0 T' cs)) (hc : cs.length = cap * sz) (hlen : xs.length = len) (h0 : 0 < len) (hle : len ≤ cap) (hcm : cap ≤ maxLen) (hw : ∀ x ∈ xs, x.cells.length = sz) (hfl : flat xs = cs.take (len * sz)) :
  ∃ G', G.le G' ∧ Inv B0 w0 N G' ⟨Av.put s.t i (.sl sz xs (some o)), s.st.set o (.tip len sz T'), s.df⟩ a w := by
 obtain ⟨G', hG, hA, hR⟩ := h.agree.ownTip ho hc hlen h0 hle hcm hw hfl
 obtain ⟨_, g1, _⟩ := h.agree.ob o _ ho
 refine ⟨G', hG, hA, h.defers_mono hG, h.size, fun j y hy => ?_⟩
 have hj := h.tmps j y hy
 by_cases e : j = i
 ·subst e
  simp only [qas]
  rw [hi] at hj
  cases hj with
  | os _ _ _ _ b _ hn hv hb =>
   have hb := hb g1
   subst hb
   exact hR
 ·simp only
  rw [qb8 _ _ _ _ e]
  exact hj.mono hG
theorem qp8 {c : Code} {Q : Exit → AS → Prop} (i : Nat) {o sz len cap : Nat} {T' : TypeId} {cs xs : List AV} (hi : s.t i = .os o 0 0 len cap) (ho : s.st[o]? = some (.cells 0 T' cs)) (hc : cs.length = cap * sz) (hlen : xs.length = len) (h0 : 0 < len) (hle : len ≤ cap) (hcm : cap ≤ maxLen) (hw : ∀ x ∈ xs, x.cells.length = sz) (hfl : flat xs = cs.take (len * sz))
  (h : AWp E rd N c Q ⟨Av.put s.t i (.sl sz xs (some o)), s.st.set o (.tip len sz T'), s.df⟩) : AWp E rd N c Q s :=
 ⟨fun B0 w0 G a w hL hI => let ⟨G1, h1, h2⟩ := hI.osTip hi ho hc hlen h0 hle hcm hw hfl; wpIn_mono (h.run B0 w0 _ a w hL h2) fun _ _ _ ⟨G', s', hG, k1, k2⟩ => ⟨G', s', h1.trans hG, k1, k2⟩⟩
theorem qoe {l : List Oper} (i : Nat) {o sz len cap : Nat} {T' : TypeId} {cs xs : List AV} (hi : s.t i = .os o 0 0 len cap) (ho : s.st[o]? = some (.cells 0 T' cs)) (hc : cs.length = cap * sz) (hlen : xs.length = len) (h0 : 0 < len) (hle : len ≤ cap) (hcm : cap ≤ maxLen) (hw : ∀ x ∈ xs, x.cells.length = sz) (hfl : flat xs = cs.take (len * sz))
  (h : AOps E rd N ops l K ⟨Av.put s.t i (.sl sz xs (some o)), s.st.set o (.tip len sz T'), s.df⟩) : AOps E rd N ops l K s :=
 ⟨fun B0 w0 G a w hL hI Q hQ => let ⟨G1, h1, h2⟩ := hI.osTip hi ho hc hlen h0 hle hcm hw hfl; h.run B0 w0 _ a w hL h2 Q fun G' s' a' w' hG k1 k2 => hQ G' s' a' w' (h1.trans hG) k1 k2⟩
theorem zo {l : List Oper} (i : Nat) {x r : AV} (hi : s.t i = x) (hw : ∀ G v, Rel G x v → Rel G r v) (h : AOps E rd N ops l K ⟨Av.put s.t i r, s.st, s.df⟩) : AOps E rd N ops l K s :=
 ⟨fun B0 w0 G a w hL hI Q hQ => h.run B0 w0 G a w hL ⟨hI.agree, hI.defers, hI.size, fun j y hy => by
  have hj := hI.tmps j y hy
  by_cases e : j = i
  ·subst e; simp only [qas]; rw [hi] at hj; exact hw G y hj
  ·simp only; rw [qb8 _ _ _ _ e]; exact hj⟩ Q hQ⟩
theorem qnm {P : Program} {t e : TypeId} {sz : Nat} {agg : Bool} (hu : P.underlying t = some (.slice e)) (ht : tyOf P e = some (sz, agg)) (a : Option Addr) (len cap : Nat) (lo hi : Option Value) (i j : Nat) (w : World)
  (hlo : match lo with | none => i = 0 | some v => ∃ k, v = .int k (i : Int)) (hhi : match hi with | none => j = len | some v => (∃ k, v = .int k (j : Int)) ∧ j ≤ cap) (h1 : i ≤ j) :
  (Instr.slice t (.slice a len cap) lo hi none).run P w = .ok (.slice (if cap = i then a else a.map (·.add (i * sz))) (j - i) (cap - i)) w := by
 have hs := (wn ht w).1
 cases lo with
 | none =>
  simp only at hlo
  subst hlo
  cases hi with
  | none =>
   simp only at hhi
   subst hhi
   simp [Instr.slice, run_underlying hu, Instr.sliceBounds, hs]
  | some v =>
   obtain ⟨⟨k, rfl⟩, h2⟩ := hhi
   simp [Instr.slice, run_underlying hu, Instr.sliceBounds, Instr.sliceBound, asIntOf, hs, h2]
 | some u =>
  obtain ⟨k', rfl⟩ := hlo
  cases hi with
  | none =>
   simp only at hhi
   subst hhi
   simp [Instr.slice, run_underlying hu, Instr.sliceBounds, Instr.sliceBound, asIntOf, hs, h1]
  | some v =>
   obtain ⟨⟨k, rfl⟩, h2⟩ := hhi
   simp [Instr.slice, run_underlying hu, Instr.sliceBounds, Instr.sliceBound, asIntOf, hs, h1, h2]
theorem qnx {G : Gh} {sz : Nat} {xs : List AV} {tip : Option Nat} {a : Option Addr} {len cap : Nat} (h : Rel G (.sl sz xs tip) (.slice a len cap)) {i j : Nat} (h1 : i ≤ j) (h2 : j ≤ xs.length) :
  len = xs.length ∧ len ≤ cap ∧ Rel G (.sl sz ((xs.take j).drop i) none) (.slice (if cap = i then a else a.map (·.add (i * sz))) (j - i) (cap - i)) := by
 cases h with
 | sl0 =>
  simp at h2
  subst h2
  have : i = 0 := by omega
  subst this
  refine ⟨rfl, Nat.zero_le _, ?_⟩
  simp
  exact .sl0 sz none _ _ (by simp)
 | sl _ _ _ b off cap pub hp hw hlen hr ht hcap =>
  refine ⟨rfl, hcap, ?_⟩
  have hl : ((xs.take j).drop i).length = j - i := by simp; omega
  by_cases hji : j = i
  ·subst hji
   have e : (xs.take j).drop j = [] := List.length_eq_zero_iff.1 (by rw [hl]; omega)
   rw [e, Nat.sub_self]
   exact .sl0 sz none _ _ (by simp)
  ·have hne : cap ≠ i := by omega
   rw [if_neg hne]
   simp only [Option.map_some]
   have hadd : Addr.add ⟨b, off, none⟩ (i * sz) = ⟨b, off + i * sz, none⟩ := Addr.add_lit ..
   rw [hadd, ← hl]
   have hw' : ∀ x ∈ (xs.take j).drop i, x.cells.length = sz := fun x hx => hw x (List.mem_of_mem_take (List.mem_of_mem_drop hx))
   have hfx : (flat xs).length = xs.length * sz := yt hw
   have hsplit : flat xs = flat (xs.take i) ++ flat ((xs.take j).drop i) ++ flat (xs.drop j) := by
    have e : xs.take i ++ (xs.take j).drop i = xs.take j := by
     conv => rhs; rw [← List.take_append_drop i (xs.take j), List.take_take, Nat.min_eq_left h1]
    rw [← qfb, ← qfb, e, List.take_append_drop]
   have hti : (flat (xs.take i)).length = i * sz := by
    rw [yt (fun x hx => hw x (List.mem_of_mem_take hx)), List.length_take, Nat.min_eq_left (by omega)]
   have hmid : (flat ((xs.take j).drop i)).length = (j - i) * sz := by rw [yt hw', hl]
   refine .sl sz _ none b (off + i * sz) (cap - i) pub hp hw' ?_ (fun k x y hx hy => ?_) (fun t ht => by simp at ht) (by rw [hl]; omega)
   ·have := congrArg List.length hsplit
    simp only [List.length_append] at this
    omega
   ·refine hr (i * sz + k) x y ?_ (by rw [← hy]; congr 1; omega)
    have hk := lt_of_getElem? hx
    rw [hsplit, List.append_assoc, List.getElem?_append_right (by omega), hti, Nat.add_sub_cancel_left, List.getElem?_append_left hk]
    exact hx
theorem qus {x : Operand} {t e : TypeId} {lo hi : Option Operand} {sz : Nat} {agg : Bool} {xs ys : List AV} {tip : Option Nat} {i j : Nat} (hx : ql N s x = .sl sz xs tip) (hu : E.P.underlying t = some (.slice e)) (ht : tyOf E.P e = some (sz, agg))
  (hlo : match lo with | none => i = 0 | some y => ∃ k, ql N s y = .v (.int k (i : Int))) (hhi : match hi with | none => j = xs.length | some y => ∃ k, ql N s y = .v (.int k (j : Int))) (h1 : i ≤ j) (h2 : j ≤ xs.length) (hy : (xs.take j).drop i = ys)
  (h : AOps E rd N ops rest K (s.put d (.sl sz ys none))) : AOps E rd N ops (⟨d, .slice t x lo hi none, T, p, af, none⟩ :: rest) K s := by
 subst hy
 refine z2 rfl (z1 nofun fun B0 w0 G a w _ hI => ?_)
 have he := hI.eval_of hx
 generalize hv : a.eval x = v at he
 have hsl : ∃ b len cap, v = .slice b len cap := by cases he <;> exact ⟨_, _, _, rfl⟩
 obtain ⟨b, len, cap, rfl⟩ := hsl
 obtain ⟨hl, hlc, hr⟩ := qnx he h1 h2
 refine ⟨_, w, G, _, s.st, ?_, .refl G, hI.agree, hr, h⟩
 have hrun := qnm hu ht b len cap (lo.map a.eval) (hi.map a.eval) i j w (by
  cases lo with
  | none => exact hlo
  | some y => obtain ⟨k, hy⟩ := hlo; exact ⟨k, hI.evalv hy⟩) (by
  cases hi with
  | none => simp only at hhi; simp only [Option.map_none]; omega
  | some y => obtain ⟨k, hy⟩ := hhi; exact ⟨⟨k, hI.evalv hy⟩, by omega⟩) h1
 generalize a.eval = ρ at hv hrun
 simp only [execOp, hv]
 simp [Instr.sliceAt, run_underlying hu, hrun]
theorem va {x y : Operand} {t e : TypeId} {sz : Nat} {agg : Bool} {xs ys : List AV} {tip : Option Nat} {k : IntKind} {i : Nat} (hx : ql N s x = .sl sz xs tip) (hy : ql N s y = .v (.int k (i : Int))) (hu : E.P.underlying t = some (.slice e)) (ht : tyOf E.P e = some (sz, agg)) (h1 : i ≤ xs.length) (hz : xs.drop i = ys)
  (h : AOps E rd N ops rest K (s.put d (.sl sz ys none))) : AOps E rd N ops (⟨d, .slice t x (some y) none none, T, p, af, none⟩ :: rest) K s :=
 qus (i := i) (j := xs.length) hx hu ht ⟨k, hy⟩ rfl h1 (Nat.le_refl _) (by rw [List.take_length]; exact hz) h
end
end Go.Av
set_option linter.unusedVariables false
namespace Go.Av
open Go Go.RowKit
structure Chg (N : Nat) (s s' : AS) : Prop where
 run : ∀ (B0 : Nat) (w0 : World) (G : Gh) (a : Act) (w : World), Inv B0 w0 N G s a w → ∃ G', G.le G' ∧ Inv B0 w0 N G' s' a w
theorem Chg.trans {N : Nat} {s s' s'' : AS} (h : Chg N s s') (k : Chg N s' s'') : Chg N s s'' := ⟨fun B0 w0 G a w hI => let ⟨G1, h1, h2⟩ := h.run B0 w0 G a w hI; let ⟨G2, k1, k2⟩ := k.run B0 w0 G1 a w h2; ⟨G2, h1.trans k1, k2⟩⟩
end Go.Av
set_option linter.unusedVariables false
set_option maxRecDepth 100000
namespace Go.Proofs.YtefmcijohgpfhaaGreatDoor
open Go Go.Av Go.RowKit Go.Proofs Go.Pl
theorem qzb (text : List UInt8) (o kb ver n : Nat) (I : Nat → List UInt8 → List AObj → Prop) (D : List AObj → Prop) (st l0 : List AObj) (ht : text.length < 4294967281) (h0 : I 0 text l0)
  (hI : ∀ k rest l, I k rest l → l.length = n ∧ (st ++ l)[kb]? = some (.cells ver 9 [Sv text]))
  (hY : ∀ k rest l own ext, I k rest l → rest ≠ [] → rest.length ≤ text.length → qba E o [qcg k text rest] (st ++ (l ++ own :: ext)) fun b st2 => ∃ l' ext', st2 = st ++ (l' ++ own :: ext') ∧ (b = true → I (k + 1) (past 10 rest) l') ∧ (b = false → D l' ∧ l'.length = n)) :
  q7 E 113 [.yd o, .bx kb ver 0] (st ++ l0) fun r st' => ∃ l own ext', st' = st ++ (l ++ own :: ext') ∧ ((∃ k, I k [] l) ∨ D l) := by
 refine q8 Tryz.func113 rfl (Nat.le_of_ble_eq_true rfl) ?_
 obtain ⟨hn, hb⟩ := hI 0 text l0 h0
 repeat' (first
  | apply qm
  | apply q4
  | apply qe
  | apply qa
  | apply qf
  | (apply z0; exact rfl; exact rfl)
  | (apply qn; (iterate 11 exact rfl))
  | (apply jq; (iterate 3 exact rfl))
  | (apply qcn; exact rfl; exact rfl; exact hb; exact rfl; exact rfl))
 refine yg (fun (x : Nat × List UInt8) s => match x with | (k, rest) => ∃ l at' ta eb ext, I k rest l ∧ k + rest.length ≤ text.length ∧ at' = (text.length : Int) - rest.length ∧ StA [(0, .yd o), (1, .bx kb ver 0), (3, .bx ((st ++ l0).length + 0) 0 0), (4, Sv rest)] ((st ++ l) ++ (.cells 0 129 [Iv k, Iv at', Sv ta, Bv eb] :: ext)) [] s) (fun x => x.2.length) (0, text)
  ⟨l0, 0, [], false, [], h0, by simp, by simp, ?_⟩ ?_
 ·exact qal ⟨rfl, rfl, rfl, rfl, trivial⟩
 rintro ⟨k, rest⟩ _ ⟨l, _, ta, eb, ext, hi, hle, rfl, t, rfl⟩
 obtain ⟨hn', hb'⟩ := hI k rest l hi
 have hq : (st ++ l).length = (st ++ l0).length := by simp [hn, hn']
 repeat' (first
  | apply qm
  | apply q4
  | apply qe
  | apply qa
  | apply qi
  | apply qf
  | (apply zj; exact rfl; exact rfl)
  | (apply ji; (iterate 3 exact rfl))
  | (apply qg; exact rfl; first | (apply ze; (first | assumption | omega)) | (apply zd; (first | assumption | omega)) | (apply zc; (first | exact rfl | assumption)) | (apply zb; (first | exact rfl | assumption)) | (apply cd_n <;> intro h) | (apply cd_t; (first | exact rfl | assumption)) | (apply cd_f; (first | exact rfl | assumption)) | (apply cd_d <;> intro h) | (apply cd_s <;> intro h))
  | (apply qr; (iterate 3 exact rfl))
  | apply q6
  | apply jp
  | (apply qd; exact Tryz.call36; exact qdi _ _ _ (by omega))
  | (apply qbu; exact rfl; exact hq; (iterate 10 exact rfl))
  | (apply qb5; exact rfl; exact hq; (iterate 4 exact rfl)))
 ·refine qev rfl (quc (List.append_assoc st l (_ :: ext)).symm ((hY k rest l _ ext hi h (by omega)).mono ?_))
  rintro b _ ⟨l', ext', rfl, h1, h2⟩
  cases b
  ·skip
   rw [← List.append_assoc]
   repeat' (first
    | apply qa
    | (apply jc; exact rfl)
    | (apply qg; exact rfl; first | (apply ze; (first | assumption | omega)) | (apply zd; (first | assumption | omega)) | (apply zc; (first | exact rfl | assumption)) | (apply zb; (first | exact rfl | assumption)) | (apply cd_n <;> intro h) | (apply cd_t; (first | exact rfl | assumption)) | (apply cd_f; (first | exact rfl | assumption)) | (apply cd_d <;> intro h) | (apply cd_s <;> intro h))
    | apply qz)
   refine qo rfl (qaw rfl) ⟨l', _, ext', List.append_assoc _ _ _, .inr (h2 rfl).1⟩
  ·have hi3 := h1 rfl
   obtain ⟨hn3, hb3⟩ := hI _ _ _ hi3
   have hp := wm 10 rest
   have hr0 : 0 < rest.length := List.length_pos_iff.2 h
   have hq3 : (st ++ l').length = (st ++ l0).length := by simp [hn, hn3]
   rw [← List.append_assoc]
   repeat' (first
    | apply qm
    | apply qe
    | apply qa
    | apply qi
    | (apply jc; exact rfl)
    | (apply qg; exact rfl; first | (apply ze; (first | assumption | omega)) | (apply zd; (first | assumption | omega)) | (apply zc; (first | exact rfl | assumption)) | (apply zb; (first | exact rfl | assumption)) | (apply cd_n <;> intro h) | (apply cd_t; (first | exact rfl | assumption)) | (apply cd_f; (first | exact rfl | assumption)) | (apply cd_d <;> intro h) | (apply cd_s <;> intro h))
    | (apply j3; (iterate 3 exact rfl))
    | (apply js; exact rfl; exact rfl; exact zi (by omega) (by omega))
    | (apply w9; exact rfl; exact rfl; exact zi (by omega) (by omega))
    | (apply qr; (iterate 3 exact rfl))
    | apply q6
    | (apply qcn; exact rfl; exact rfl; exact hb3; exact rfl; exact rfl)
    | (apply qbu; exact rfl; exact hq3; (iterate 10 exact rfl))
    | (apply qb5; exact rfl; exact hq3; (iterate 4 exact rfl)))
   exact ⟨(k + 1, past 10 rest), ⟨l', _, _, _, _, hi3, by omega, rfl, qal ⟨rfl, rfl, rfl, rfl, trivial⟩⟩, by simp only; omega⟩
 ·have hr : rest = [] := Classical.not_not.1 h
  subst hr
  exact qo rfl (qaw rfl) ⟨l, _, ext, List.append_assoc _ _ _, .inl ⟨k, hi⟩⟩
theorem qpa {N : Nat} {Q : Exit → AS → Prop} {s : AS} {f : Operand} {p : Tmp} {asg body : Code} {st loc : List AObj} {kb ver : Nat} (text : List UInt8) (hst : s.st = st ++ loc) (hx : ql N s f = .fn (.func 113) [] [.bx (st.length + kb) ver 0]) (ht : text.length < 4294967281)
  (I : Nat → List UInt8 → List AObj → Prop) (D : Code → List AObj → Prop) (h0 : I 0 text loc)
  (hI : ∀ k rest l, I k rest l → l.length = loc.length ∧ l[kb]? = some (.cells ver 9 [Sv text])) (hD : ∀ c l, D c l → l.length = loc.length)
  (hb : ∀ F own rd k rest l ext m, qjl F N s.t #[p] asg body → I k rest l → rest ≠ [] → rest.length ≤ text.length → ((st ++ (l ++ [.dfr, F .ready none, own])) ++ ext).length = m → ((st ++ (l ++ [.dfr, F .busy none, own])) ++ ext).length = m →
   AWp E (some rd) N asg (only fun s1 => ∃ new, s1.st = ((st ++ (l ++ [.dfr, F .ready none, own])) ++ ext) ++ new ∧ s1.df = [] ∧ AWp E (some rd) N body (qxm F st own (I (k + 1) (past 10 rest)) D) ⟨s1.t, ((st ++ (l ++ [.dfr, F .busy none, own])) ++ ext) ++ new, []⟩) ⟨put s.t p (qcg k text rest), ((st ++ (l ++ [.dfr, F .ready none, own])) ++ ext) ++ [], []⟩)
  (hn : ∀ k l ext, I k [] l → Q .normal ⟨s.t, ((st ++ (l ++ [.dfr, .dead])) ++ ext) ++ [], (st.length + loc.length) :: s.df⟩)
  (hd : ∀ c l ext, D c l → AWp E none N c Q ⟨s.t, ((st ++ (l ++ [.dfr, .dead])) ++ ext) ++ [], (st.length + loc.length) :: s.df⟩) : AWp E none N (.rangeFunc f #[p] asg body) Q s := by
 refine qir hst hx Tryz.call113 fun F hF => ?_
 refine q7.mono (qzb text (st.length + (loc.length + 1)) (st.length + kb) ver (loc.length + 2) (fun k rest l => ∃ l1, l = l1 ++ [.dfr, F .ready none] ∧ I k rest l1) (fun l => ∃ l1 c, l = l1 ++ [.dfr, F .done (some c)] ∧ D c l1) st (loc ++ [.dfr, F .ready none]) ht ⟨loc, rfl, h0⟩ ?_ ?_) ?_
 ·rintro k rest _ ⟨l, rfl, hi⟩
  obtain ⟨h1, h2⟩ := hI k rest l hi
  exact ⟨by simp [h1], zn (by rw [List.getElem?_append_left (lt_of_getElem? h2)]; exact h2)⟩
 ·rintro k rest _ own ext ⟨l, rfl, hi⟩ hne hle
  obtain ⟨h1, h2⟩ := hI k rest l hi
  have hy := q0w (E := E) (st := st) (l := l) (ext := ext) (own := own) (n := loc.length) (xs := [qcg k text rest]) (I := I (k + 1) (past 10 rest)) (D := D) hF h1 rfl (fun l hl => (hI _ _ l hl).1) hD (fun rd => hb F own rd k rest l ext _ hF hi hne hle rfl (by simp))
  have e : (st ++ (l ++ [.dfr, F .ready none, own])) ++ ext = st ++ ((l ++ [.dfr, F .ready none]) ++ own :: ext) := by simp
  rw [e] at hy
  refine hy.mono ?_
  rintro b st2 ⟨l', ext', g1, g2⟩
  cases b with
  | true =>
   obtain ⟨rfl, g⟩ := g1 rfl
   exact ⟨l' ++ [.dfr, F .ready none], ext', by simp, fun _ => ⟨l', rfl, g⟩, nofun⟩
  | false =>
   obtain ⟨c, rfl, g⟩ := g2 rfl
   exact ⟨l' ++ [.dfr, F .done (some c)], ext', by simp, nofun, fun _ => ⟨⟨l', c, rfl, g⟩, by simp [hD c l' g]⟩⟩
 ·rintro r _ ⟨_, own, ext, rfl, ⟨k, l, rfl, hi⟩ | ⟨l, c, rfl, hdl⟩⟩
  ·have h1 := (hI _ _ _ hi).1
   have e : st ++ ((l ++ [.dfr, F .ready none]) ++ own :: ext) = (st ++ (l ++ [.dfr, F .ready none, own])) ++ ext := by simp
   rw [e]
   refine ⟨.ready, none, nofun, qc1 h1, ?_⟩
   rw [qeb h1]
   have := hn k l (own :: ext) hi
   simpa using this
  ·have h1 := hD _ _ hdl
   have e : st ++ ((l ++ [.dfr, F .done (some c)]) ++ own :: ext) = (st ++ (l ++ [.dfr, F .done (some c), own])) ++ ext := by simp
   rw [e]
   refine ⟨.done, some c, nofun, qc1 h1, ?_⟩
   rw [qeb h1]
   have := hd c l (own :: ext) hdl
   simpa using this
end Go.Proofs.YtefmcijohgpfhaaGreatDoor
set_option linter.unusedVariables false
set_option maxRecDepth 100000
namespace Go.Proofs.YtefmcijohgpfhaaGreatDoor
open Go Go.Av Go.RowKit Go.Proofs Go.Pl
abbrev Ss (xs : List qb) : AV := .sl 1 (xs.map fun x => Sv x) none
theorem qgz (l m : List UInt8) (st : List AObj) : q7 E 96 [Sv l, Sv m] st fun r st' => r = Sv (Lib.trimPrefix l m) ∧ st' = st :=
 qag (vals := #[.string ⟨l.toArray⟩, .string ⟨m.toArray⟩]) rfl fun _ _ w _ _ => (Tryz.strings_TrimPrefix ⟨l.toArray⟩ ⟨m.toArray⟩ w).mono fun _ _ ⟨h1, h2⟩ => ⟨h1, qdl h2⟩
theorem qvi (l : List UInt8) (c : UInt8) (st : List AObj) : q7 E 96 [Sv l, Sv [c]] st fun r st' => r = Sv (wh c l) ∧ st' = st := by
 rw [← qoq]
 exact qgz _ _ _
theorem qv4 {B0 : Nat} {w0 : World} {G : Gh} {st : List AObj} {w : World} (hA : z7 B0 w0 G st w) {xs : List qb} {tip : Option Nat} {v : Value} (h : Rel G (.sl 1 (xs.map fun x => Sv x) tip) v) :
  (xs = [] ∧ ∃ a c, v = .slice a 0 c) ∨ ∃ b off cap, v = .slice (some ⟨b, off, none⟩) xs.length cap ∧ b < w.heap.size ∧ xs.length ≤ cap ∧ ∀ (j : Nat) (x : qb), xs[j]? = some x → w.cell? ⟨b, off + j, none⟩ = some (.string ⟨x.toArray⟩) := by
 generalize hq : xs.map (fun x => Sv x) = q at h
 cases h with
 | sl0 sz tip base cap ht => exact .inl ⟨by simpa using hq, base, cap, rfl⟩
 | sl _ _ _ b off cap pub hp hw hlen hr ht hcap =>
  subst hq
  obtain ⟨c, T, fz, hc, hcc⟩ := hA.pub b pub hp
  refine .inr ⟨b, off, cap, by simp, hA.pub_lt hp, by simpa using hcap, fun j x hx => ?_⟩
  have hfl : flat (xs.map fun x => Sv x) = xs.map fun x => Sv x := by
   clear hx hr hlen hw ht hcap
   induction xs with
   | nil => rfl
   | cons a xs ih => rw [List.map_cons, qd6, ih]; rfl
  have hj := lt_of_getElem? hx
  rw [hfl] at hlen
  simp only [List.length_map] at hlen
  have hy : pub[off + j]? = some (pub[off + j]'(by omega)) := List.getElem?_eq_getElem (by omega)
  have hrj := hr j (Sv x) _ (by rw [hfl, List.getElem?_map, hx]; rfl) hy
  generalize hz : pub[off + j]'(by omega) = z at hrj hy
  generalize hSx : Sv x = sx at hrj
  cases hrj <;> simp_all
  subst_vars
  simp [World.cell?, hc, hcc _ _ hy]
theorem qys (xs : List qb) (tip : Option Nat) (sep : qb) (st : List AObj) (hN : xs.length ≤ 140737488355328) (hl : (Lib.join xs sep).length ≤ 140737488355328) : q7 E 88 [.sl 1 (xs.map fun x => Sv x) tip, Sv sep] st fun r st' => r = Sv (Lib.join xs sep) ∧ st' = st := by
 refine ⟨fun B0 w0 G vs w hL hA hR => ?_⟩
 have hs : vs.size = 2 := by have := hR.1; simpa using this.symm
 have e0 : vs[0]? = some vs[0] := by simp [hs]
 have e1 : vs[1]? = some vs[1] := by simp [hs]
 have h0 := hR.2 0 _ _ rfl e0
 have h1 := hR.2 1 _ _ rfl e1
 have hv1 : vs[1] = .string ⟨sep.toArray⟩ := by generalize vs[1] = y at h1; cases h1; rfl
 have hvs : vs = #[vs[0], .string ⟨sep.toArray⟩] := by
  apply Array.ext (by simp [hs])
  intro i g1 g2
  match i with
  | 0 => rfl
  | 1 => exact hv1
  | i + 2 => simp [hs] at g1; omega
 rw [hvs]
 rcases qv4 hA h0 with ⟨hx, a, c, hv⟩ | ⟨b, off, cap, hv, hb, hcap, hcell⟩
 ·rw [hv]
  subst hx
  refine (Tryz.strings_Join_none a c ⟨sep.toArray⟩ w).mono ?_
  rintro e w' ⟨rfl, rfl⟩
  exact ⟨_, G, Sv [], st, rfl, .refl G, hA, .v _, rfl, rfl⟩
 ·rw [hv]
  have hm : (xs.map fun l : qb => (⟨l.toArray⟩ : ByteArray)).map (·.data.toList) = xs := by simp [List.map_map, Function.comp_def]
  have hc := Tryz.strings_Join b off cap (xs.map fun l => ⟨l.toArray⟩) ⟨sep.toArray⟩ w (fun j x hx => by
   rw [List.getElem?_map] at hx
   cases hq : xs[j]? with
   | none => rw [hq] at hx; simp at hx
   | some y => rw [hq] at hx; simp at hx; subst hx; exact hcell j y hq) hb (by simpa using hN) (by simpa using hcap) (by rw [hm]; simpa using hl)
  rw [hm] at hc
  simp only [List.length_map] at hc
  refine hc.mono ?_
  rintro e w' ⟨rfl, hbw⟩
  exact ⟨_, G, Sv _, st, rfl, .refl G, hA.fresh hbw, .v _, rfl, rfl⟩
def Weak (x r : AV) : Prop := ∀ (G : Gh) (v : Value), Rel G x v → Rel G r v
theorem vc (x : AV) : Weak x x := fun _ _ h => h
theorem qi4 (sz : Nat) (xs : List AV) (tip : Option Nat) : Weak (.sl sz xs tip) (.sl sz xs none) := fun _ _ h => qg8 h
theorem wq (sz : Nat) : Weak zx (.sl sz [] none) := fun _ _ h => qb9 h
theorem w7 {x y x' y' : AV} (h1 : Weak x x') (h2 : Weak y y') : Weak (.tu [x, y]) (.tu [x', y']) := fun G v h => by
 cases h with
 | tu _ vs hl hr =>
  refine .tu _ vs hl fun i a b ha hb => ?_
  match i with
  | 0 => simp at ha; subst ha; exact h1 G b (hr 0 x b rfl hb)
  | 1 => simp at ha; subst ha; exact h2 G b (hr 1 y b rfl hb)
  | i + 2 => simp at ha
theorem qvq {xs ys : List AV} (hl : xs.length = ys.length) (h : ∀ (i : Nat) (x y : AV), xs[i]? = some x → ys[i]? = some y → Weak x y) : Weak (.ag xs) (.ag ys) := fun G v hr => by
 cases hr with
 | ag _ vs hl' hr =>
  refine .ag _ vs (by omega) fun i a b ha hb => ?_
  have hi := lt_of_getElem? ha
  exact h i _ a (List.getElem?_eq_getElem (by omega)) ha G b (hr i _ b (List.getElem?_eq_getElem (by omega)) hb)
theorem qv6 {fn : Func} {s : AS} {t u : Tmp} {x y x' y' : AV} (hr : fn.results = #[.tmp t, .tmp u]) (hx : ql fn.ntmps s (.tmp t) = x) (hy : ql fn.ntmps s (.tmp u) = y) (h1 : Weak x x') (h2 : Weak y y') : ARes E fn s (.tu [x', y']) :=
 vg (vd hr) (by rw [hx, hy]; exact w7 h1 h2)
def errN (n : Int) : AV := if n = 0 then .v .nilIface else .ifc 31 (Iv n)
theorem qhf (n : Int) : Pure (errN n) := by
 unfold errN
 split
 ·exact z4 _
 ·exact qc5 (z4 _)
theorem qh8 {n : Int} (h : n ≠ 0) : errN n = .ifc 31 (Iv n) := if_neg h
end Go.Proofs.YtefmcijohgpfhaaGreatDoor
set_option maxRecDepth 100000
set_option linter.unusedVariables false
namespace Go.Proofs.YtefmcijohgpfhaaGreatDoor
open Go Go.Av Go.RowKit Go.Proofs Go.Pl
theorem qls (f : FldV) (st : List AObj) (hl : f.1.length < 4294967281) : q7 E 124 [fldA f] st fun r st' => r = errN (vo f) ∧ st' = st := by
 refine zt (qhf _) (q8 Tryz.func124 rfl (Nat.le_of_ble_eq_true rfl) ?_)
 repeat' (first
  | apply qm
  | apply q4
  | apply qe
  | apply qa
  | apply qf
  | (apply qw; (iterate 3 exact rfl))
  | (apply jc; exact rfl)
  | (apply qg; exact rfl; first | (apply ze; (first | assumption | omega)) | (apply zd; (first | assumption | omega)) | (apply zc; (first | exact rfl | assumption)) | (apply zb; (first | exact rfl | assumption)) | (apply cd_n <;> intro h) | (apply cd_t; (first | exact rfl | assumption)) | (apply cd_f; (first | exact rfl | assumption)) | (apply cd_d <;> intro h) | (apply cd_s <;> intro h))
  | (apply j3; (iterate 3 exact rfl))
  | (apply q9; exact rfl; exact rfl)
  | (apply j7; (iterate 4 exact rfl))
  | (apply qr; (iterate 3 exact rfl))
  | (apply qh; (iterate 5 exact rfl))
  | apply q6
  | apply qz
  | (apply qd; exact Tryz.call159; exact q12 _ _ hl))
 all_goals refine qo rfl (zm rfl) ⟨(?_ : _ = _), _, rfl⟩
 ·have e : vo f = 5 := if_pos (by simp_all)
  rw [e]; rfl
 ·have e : vo f = 6 := (if_neg (by simp_all)).trans (if_pos (by omega))
  rw [e]; rfl
 ·have e : vo f = 0 := (if_neg (by simp_all)).trans (if_neg (by omega))
  rw [e]; rfl
theorem qgs (f : FldV) (st : List AObj) (hl : f.1.length < 4294967281) (h : vo f = 0) : q7 E 124 [fldA f] st fun r st' => r = .v .nilIface ∧ st' = st := by
 have := qls f st hl
 rw [h] at this
 exact this
theorem qgk (f : FldV) (st : List AObj) (hl : f.1.length < 4294967281) (h : vo f ≠ 0) : q7 E 124 [fldA f] st fun r st' => r = .ifc 31 (Iv (vo f)) ∧ st' = st := by
 have := qls f st hl
 rw [qh8 h] at this
 exact this
theorem qzl (s : List UInt8) (st : List AObj) (hl : s.length < 4294967281) : q7 E 126 [Sv s] st fun r st' => r = Sv (xt s) ∧ st' = st := by
 refine zt (z4 _) (q8 Tryz.func126 rfl (Nat.le_of_ble_eq_true rfl) ?_)
 have hb : Lib.trimS s [32, 9] = [] ↔ qdx s := by rw [qkt]; simp [ye, qdx]
 repeat' (first
  | apply qm
  | apply qe
  | apply qa
  | apply qi
  | apply qf
  | (apply ji; (iterate 3 exact rfl))
  | (apply za; (iterate 4 exact rfl))
  | (apply kv; (first | assumption | omega))
  | (apply ve; (first | assumption | omega))
  | (apply kl <;> intro h)
  | (apply zg; exact rfl; first | (apply kc; (first | assumption | omega)) | (apply ka; (first | assumption | omega)) | (apply j9; (first | exact rfl | assumption)) | (apply ke; (first | exact rfl | assumption)) | (apply pk_t; (first | exact rfl | assumption)) | (apply pk_f; (first | exact rfl | assumption)))
  | (apply qg; exact rfl; first | (apply ze; (first | assumption | omega)) | (apply zd; (first | assumption | omega)) | (apply zc; (first | exact rfl | assumption)) | (apply zb; (first | exact rfl | assumption)) | (apply cd_n <;> intro h) | (apply cd_t; (first | exact rfl | assumption)) | (apply cd_f; (first | exact rfl | assumption)) | (apply cd_d <;> intro h) | (apply cd_s <;> intro h))
  | (apply jy; exact rfl; exact rfl; (first | omega | (simp only [List.length_append, List.length_cons, List.length_nil]; omega) | (simp; omega)))
  | apply q6
  | apply qz
  | (apply qd; exact Tryz.call161; exact qo8 _ _ _ (by omega) rfl rfl)
  | (apply qd; exact Tryz.call73; exact qel _ _ _))
 all_goals refine qo rfl (zm rfl) ⟨congrArg (fun l : qb => Sv l) (?_ : _ = xt s), _, rfl⟩
 all_goals unfold xt
 all_goals simp_all
theorem qvc (xs : List qb) : Pure (Ss xs) := qzg xs
theorem qvu (l p : qb) (r : List qb) (st : List AObj) (hl : l.length < 4294967281) (h : jf l = p :: r) : q7 E 125 [Sv l, Sv [10]] st fun x st' => x = .sl 1 (Sv p :: r.map fun x => Sv x) none ∧ st' = st := by
 have := qy0 l st hl
 rw [h] at this
 exact this
def qgx (f : FldV) : AV := .tu [Ss (if vo f = 0 then kg f else []), errN (vo f)]
theorem qt5 (f : FldV) : Pure (qgx f) := qge fun x hx => by
 simp only [List.mem_cons, List.not_mem_nil, or_false] at hx
 rcases hx with rfl | rfl
 ·exact qvc _
 ·exact qhf _
set_option maxHeartbeats 2000000 in
theorem qly (f : FldV) (st : List AObj) (hl : f.1.length < 4294967281) (hv : f.2.length < 1000000) : q7 E 85 [fldA f] st fun r st' => r = qgx f ∧ st' = st := by
 refine zt (qt5 _) (q8 Tryz.func85 rfl (Nat.le_of_ble_eq_true rfl) ?_)
 by_cases hc : vo f = 0
 ·obtain ⟨p, r, hp⟩ : ∃ p r, jf f.2 = p :: r := ⟨_, _, qm6 f.2⟩
  have hpl : p.length ≤ f.2.length := qlu f.2 p (by rw [hp]; simp)
  have hrl : ∀ x ∈ r, x.length ≤ f.2.length := fun x hx => qlu f.2 x (by rw [hp]; simp [hx])
  have hrn : r.length ≤ f.2.length := by have := qfw _ f.2 (Nat.le_refl _); rw [hp] at this; simpa using this
  repeat' (first
   | (apply qae; (iterate 6 exact rfl))
   | (apply qzi; (iterate 5 exact rfl); kernel_rfl)
   | apply qm
   | apply q4
   | apply qe
   | apply qa
   | apply qi
   | apply qf
   | (apply ji; (iterate 3 exact rfl))
   | (apply qg; exact rfl; first | (apply ze; (first | assumption | omega)) | (apply zd; (first | assumption | omega)) | (apply zc; (first | exact rfl | assumption)) | (apply zb; (first | exact rfl | assumption)) | (apply cd_n <;> intro h) | (apply cd_t; (first | exact rfl | assumption)) | (apply cd_f; (first | exact rfl | assumption)) | (apply cd_d <;> intro h) | (apply cd_s <;> intro h))
   | (apply zy; (iterate 4 exact rfl))
   | (apply jy; exact rfl; exact rfl; (first | omega | (simp only [List.length_append, List.length_cons, List.length_nil]; omega) | (simp; omega)))
   | (apply zr; exact rfl; exact rfl)
   | (apply j7; (iterate 4 exact rfl))
   | (apply qr; (iterate 3 exact rfl))
   | (apply qk; (iterate 3 exact rfl))
   | (apply qh; (iterate 5 exact rfl))
   | (apply qn; (iterate 11 exact rfl))
   | (apply va; (iterate 4 exact rfl); (first | assumption | omega | exact Nat.succ_le_succ (Nat.zero_le _) | (simp; omega)); exact rfl)
   | apply qbb
   | (apply yi; exact rfl; exact rfl; (first | omega | (simp only [List.length_append, List.length_cons, List.length_nil]; omega) | (simp; omega)))
   | (apply xq; (iterate 3 exact rfl))
   | (apply wv; (iterate 5 exact rfl))
   | apply qac
   | apply q6
   | (apply qd; exact Tryz.call124; exact qgs _ _ hl hc)
   | (apply qd; exact Tryz.call125; exact qvu _ _ _ _ (by omega) hp)
   | (apply jg (n := 0); (iterate 6 exact rfl))
   | (apply qru (n := 0); (iterate 6 exact rfl))
   | (apply qoj (n := 0); (iterate 5 exact rfl); omega))
  all_goals refine qp8 6 (o := st.length + 1) (sz := 1) (len := 1) (cap := 1) (xs := [Sv (vq f.1 p)]) (T' := 9) rfl (zn rfl) rfl rfl (by omega) (Nat.le_refl _) (by decide) (by simp [AV.cells]) ?_ ?_
  ·exact congrArg (fun l : qb => [Sv l]) (by unfold vq; rw [if_neg h] : vq f.1 p = f.1 ++ [58] ++ ([32] ++ p))
  rotate_left
  ·exact congrArg (fun l : qb => [Sv l]) (by unfold vq; rw [if_pos (Classical.not_not.1 h), List.append_nil] : vq f.1 p = f.1 ++ [58])
  all_goals
   have hre : qgx f = .tu [Ss (vq f.1 p :: r.map fun s => [32] ++ xt s), .v .nilIface] := by
    unfold qgx kg
    rw [if_pos hc, hc, hp]
    rfl
   rw [hre]
   have hst : ∀ s, (xt s).length ≤ s.length + 1 := qp5
   refine qbp r (fun pre s => StE [(6, .sl 1 (Sv (vq f.1 p) :: pre.map (fun s => Sv ([32] ++ xt s))) (some (st.length + 1))), (35, .sl 1 (r.map fun x => Sv x) none), (36, Iv r.length), (37, Iv pre.length)] st [.cells 0 69 [Sv f.1, Sv f.2], .tip (pre.length + 1) 1 9] s) (qe5 ⟨rfl, rfl, congrArg (fun n : Nat => Iv (n : Int)) (List.length_map ..), rfl, trivial⟩ (xn st _ 1 _)) ?_ ?_
   ·rintro _ ⟨t, ext, rfl⟩
    repeat' (first
     | apply qm
     | apply qe
     | apply qa
     | apply qi
     | apply qf
     | (apply qw; (iterate 3 exact rfl))
     | (apply qg; exact rfl; first | (apply ze; (first | assumption | omega)) | (apply zd; (first | assumption | omega)) | (apply zc; (first | exact rfl | assumption)) | (apply zb; (first | exact rfl | assumption)) | (apply cd_n <;> intro h) | (apply cd_t; (first | exact rfl | assumption)) | (apply cd_f; (first | exact rfl | assumption)) | (apply cd_d <;> intro h) | (apply cd_s <;> intro h))
     | apply jp
     | apply qz)
    refine qo rfl (qv6 rfl rfl rfl (qi4 _ _ _) (vc _)) ⟨?_, qah _ _ _ _⟩
    simp only [Ss, List.map_cons, List.map_map]
    rfl
   ·rintro pre a rest _ hr ⟨t, ext, rfl⟩
    have hlen : r.length = pre.length + (rest.length + 1) := by rw [hr]; simp
    have hget : (r.map fun x => Sv x)[pre.length]? = some (Sv a) := by rw [hr]; simp
    have ha : a.length ≤ f.2.length := hrl a (by rw [hr]; simp)
    have hsa := hst a
    repeat' (first
     | apply qm
     | apply q4
     | apply qe
     | apply qa
     | apply qi
     | apply qf
     | (apply qw; (iterate 3 exact rfl))
     | (apply qg; exact rfl; first | (apply ze; (first | assumption | omega)) | (apply zd; (first | assumption | omega)) | (apply zc; (first | exact rfl | assumption)) | (apply zb; (first | exact rfl | assumption)) | (apply cd_n <;> intro h) | (apply cd_t; (first | exact rfl | assumption)) | (apply cd_f; (first | exact rfl | assumption)) | (apply cd_d <;> intro h) | (apply cd_s <;> intro h))
     | (apply jy; exact rfl; exact rfl; (first | omega | (simp only [List.length_append, List.length_cons, List.length_nil]; omega) | (simp; omega)))
     | (apply js; exact rfl; exact rfl; exact zi (by omega) (by omega))
     | (apply qk; (iterate 3 exact rfl))
     | (apply qv; (iterate 9 exact rfl))
     | apply q6
     | (apply qd; exact Tryz.call126; exact qzl _ _ (by omega))
     | (apply jg (n := pre.length); (iterate 5 exact rfl); exact hget)
     | (apply qha (n := pre.length + 1) (m := 1) (sz := 1) (bytes := 16); (iterate 4 exact rfl); simp; exact rfl; exact rfl; exact ⟨⟨_, _, rfl, rfl, rfl, rfl, rfl⟩⟩; exact rfl; exact rfl; (unfold maxLen; omega); omega; exact rfl))
    refine qdg ⟨?_, rfl, rfl, ?_, trivial⟩ ?_
    ·exact qss _ (fun s => Sv ([32] ++ xt s)) pre a _ rfl
    ·exact qew pre a
    ·rw [qez pre a]; rfl
 ·skip
  repeat' (first
   | apply qm
   | apply qe
   | apply qa
   | apply qi
   | apply qf
   | (apply qg; exact rfl; first | (apply ze; (first | assumption | omega)) | (apply zd; (first | assumption | omega)) | (apply zc; (first | exact rfl | assumption)) | (apply zb; (first | exact rfl | assumption)) | (apply cd_n <;> intro h) | (apply cd_t; (first | exact rfl | assumption)) | (apply cd_f; (first | exact rfl | assumption)) | (apply cd_d <;> intro h) | (apply cd_s <;> intro h))
   | (apply z8; exact rfl; exact rfl)
   | (apply j7; (iterate 4 exact rfl))
   | (apply qh; (iterate 5 exact rfl))
   | apply qz
   | (apply qd; exact Tryz.call124; exact qgk _ _ hl hc))
  refine qo rfl (vg (r' := .tu [Ss [], .ifc 31 (Iv (vo f))]) (vd rfl) (w7 (wq _) (vc _))) ⟨?_, _, rfl⟩
  unfold qgx
  rw [if_neg hc, qh8 hc]
end Go.Proofs.YtefmcijohgpfhaaGreatDoor
set_option linter.unusedVariables false
set_option maxRecDepth 100000
namespace Go.Proofs.YtefmcijohgpfhaaGreatDoor
open Go Go.Av Go.RowKit Go.Proofs Go.Pl
theorem qhx {rd : Option Nat} {N : Nat} {ops : Array Oper} {K : AS → Prop} {s : AS} {rest : List Oper} {d : Option Tmp} {T : TypeId} {p : String} {af : Array Edge} {st loc : List AObj} (hst : s.st = st ++ loc)
  (h : AOps E rd N ops rest K (AS.put ⟨s.t, st ++ (loc ++ [bldO 0 (.v (.pointer none)) [] (st.length + (loc.length + 1)), .tip 0 1 5]), s.df⟩ d (.bx (st.length + loc.length) 0 0))) : AOps E rd N ops (⟨d, .alloc 93, T, p, af, none⟩ :: rest) K s := by
 refine z0 hst rfl ?_
 have e : ∀ (t : Nat → AV) (st' : List AObj) (df : List Nat) (x : AV), (AS.put ⟨t, st', df⟩ d x).st = st' := fun t st' df x => by cases d <;> rfl
 have e2 : ∀ (t : Nat → AV) (st' st2 : List AObj) (df : List Nat) (x : AV), (⟨(AS.put ⟨t, st', df⟩ d x).t, st2, (AS.put ⟨t, st', df⟩ d x).df⟩ : AS) = AS.put ⟨t, st2, df⟩ d x := fun t st' st2 df x => by cases d <;> rfl
 refine qtc (o := st.length + loc.length) (j := 1) (sz := 1) (T' := 5) (T1 := 93) (ver := 0) (cs := [.v (.pointer none), zx]) ?_ rfl ?_
 ·rw [e, ← List.append_assoc, List.getElem?_append_right (by simp)]
  simp
  rfl
 ·rw [e, e2]
  have hx : (st ++ (loc ++ [AObj.cells 0 93 [.v (.pointer none), zx]])).set (st.length + loc.length) (.cells 0 93 ([AV.v (.pointer none), zx].set 1 (.sl 1 [] (some (st ++ (loc ++ [AObj.cells 0 93 [.v (.pointer none), zx]])).length)))) ++ [AObj.tip 0 1 5]
    = st ++ (loc ++ [bldO 0 (.v (.pointer none)) [] (st.length + (loc.length + 1)), .tip 0 1 5]) := by
   rw [xn, List.append_assoc, List.set_append_right _ _ (Nat.le_refl _)]
   simp
  have h' := h
  rw [← hx] at h'
  exact h'
theorem qix (st loc ext new loc' : List AObj) (k kt ver : Nat) (q : AV) (l m : List UInt8) (hk : loc[k]? = some (bldO ver q l (st.length + kt))) (hkt : loc[kt]? = some (.tip l.length 1 5)) (hq : q = .v (.pointer none) ∨ q = .bx (st.length + k) ver 0)
  (hlen : l.length + m.length ≤ 140737488355328) (hl : loc' = (loc.set k (bldO ver (.bx (st.length + k) ver 0) (l ++ m) (st.length + kt))).set kt (.tip (l ++ m).length 1 5)) :
  q7 E 47 [.bx (st.length + k) ver 0, Sv m] (((st ++ loc) ++ ext) ++ new) fun r st' => r = .tu [Iv m.length, .v .nilIface] ∧ st' = ((st ++ loc') ++ ext) ++ new := by
 refine (qrp (st.length + k) ver (st.length + kt) q l m _ (qcp hk) (qcp hkt) hq hlen).mono fun r st' ⟨h1, h2⟩ => ⟨h1, ?_⟩
 have hk1 := lt_of_getElem? hk
 have hk2 := lt_of_getElem? hkt
 rw [h2, qgg _ hk1, qgg _ (by simpa using hk2), hl, List.length_append]
theorem qhr (st loc ext new loc' : List AObj) (k kt ver : Nat) (q : AV) (l : List UInt8) (hk : loc[k]? = some (bldO ver q l (st.length + kt))) (hkt : loc[kt]? = some (.tip l.length 1 5)) (hl : loc' = loc.set kt .dead) :
  q7 E 50 [.bx (st.length + k) ver 0] (((st ++ loc) ++ ext) ++ new) fun r st' => r = Sv l ∧ st' = ((st ++ loc') ++ ext) ++ new := by
 refine (qpt (st.length + k) ver (st.length + kt) q l _ (qcp hk) (qcp hkt)).mono fun r st' ⟨h1, h2⟩ => ⟨h1, ?_⟩
 rw [h2, qgg _ (lt_of_getElem? hkt), hl]
end Go.Proofs.YtefmcijohgpfhaaGreatDoor
set_option maxRecDepth 100000
set_option linter.unusedVariables false
namespace Go.Proofs.YtefmcijohgpfhaaGreatDoor
open Go Go.Av Go.RowKit Go.Proofs Go.Pl
theorem qsf : ∀ (r : List qb), (jd (r.map fun s => [32] ++ xt s)).length ≤ 3 * (r.flatMap fun s => [10] ++ s).length
 | [] => by simp [jd]
 | a :: r => by
  have ih := qsf r
  have := qp5 a
  simp only [jd, List.map_cons, List.flatMap_cons, List.length_append, List.length_cons, List.length_nil] at ih ⊢
  omega
theorem qd5 (a b : List qb) : jd (a ++ b) = jd a ++ jd b := by simp [jd]
theorem qk0 (s : qb) : jd [s] = s ++ [10] := by simp [jd]
theorem qln : ∀ (l : List qb), l.length ≤ (jd l).length
 | [] => by simp
 | a :: r => by
  have ih := qln r
  simp only [jd, List.flatMap_cons, List.length_append, List.length_cons, List.length_nil] at ih ⊢
  omega
theorem qx5 (a b : List Fld) : we (a ++ b) = we a ++ we b := by simp [we]
theorem qxu (f : Fld) : we [f] = jd (kg f) := by simp [we]
theorem qnt {f : Fld} (h : kr f) : (jd (kg f)).length ≤ 5000 := by
 obtain ⟨hk, hv⟩ := h
 have h1 := qsf (jf f.2).tail
 have h2 := congrArg List.length (qi2 _ f.2 (Nat.le_refl _))
 have h3 : (vq f.1 ((jf f.2).headD [])).length ≤ 32 + 2 + ((jf f.2).headD []).length := by
  have := hk.2.1
  unfold vq
  split <;> simp <;> omega
 have e : kg f = [vq f.1 ((jf f.2).headD [])] ++ (jf f.2).tail.map fun s => [32] ++ xt s := rfl
 rw [e, qd5, qk0]
 simp only [List.length_append, List.length_cons, List.length_nil] at h2 ⊢
 omega
theorem qg5 : ∀ (xs : List Fld), (∀ f ∈ xs, kr f) → (we xs).length ≤ 5000 * xs.length
 | [], _ => by simp [we]
 | f :: r, h => by
  have ih := qg5 r fun x hx => h x (by simp [hx])
  have h1 := qnt (h f (by simp))
  have e : we (f :: r) = jd (kg f) ++ we r := by simp [we]
  rw [e, List.length_append, List.length_cons]
  omega
def errF : List Fld → Int
 | [] => 0
 | f :: r => if vo f ≠ 0 then vo f else errF r
theorem qj7 : ∀ (xs : List Fld), errF xs = 0 ↔ ∀ f ∈ xs, kr f
 | [] => by simp [errF]
 | f :: r => by
  have ih := qj7 r
  unfold errF
  by_cases h : vo f ≠ 0
  ·rw [if_pos h]
   have hg : ¬ kr f := fun hg => h ((qco f).2 hg)
   simp [h, hg]
  ·have hg := (qco f).1 (Classical.not_not.1 h)
   rw [if_neg h, ih]
   simp [hg]
theorem qva : ∀ {pre : List Fld} {f : Fld} {r : List Fld}, (∀ x ∈ pre, kr x) → vo f ≠ 0 → errF (pre ++ f :: r) = vo f
 | [], f, r, _, h => by simp [errF, h]
 | x :: pre, f, r, hp, h => by
  have := (qco x).2 (hp x (by simp))
  simp only [List.cons_append, errF, this]
  rw [if_neg (by simp)]
  exact qva (fun y hy => hp y (by simp [hy])) h
theorem qte (f : FldV) (st : List AObj) (hl : f.1.length < 4294967281) (hv : f.2.length < 1000000) (h : vo f = 0) : q7 E 85 [fldA f] st fun r st' => r = .tu [Ss (kg f), .v .nilIface] ∧ st' = st := by
 have := qly f st hl hv
 unfold qgx at this
 rw [if_pos h, h] at this
 exact this
theorem qsc (f : FldV) (st : List AObj) (hl : f.1.length < 4294967281) (hv : f.2.length < 1000000) (h : vo f ≠ 0) : q7 E 85 [fldA f] st fun r st' => r = .tu [Ss [], .ifc 31 (Iv (vo f))] ∧ st' = st := by
 have := qly f st hl hv
 unfold qgx at this
 rw [if_neg h, qh8 h] at this
 exact this
def qoh (xs : List Fld) : AV := .tu [Sv (if errF xs = 0 then we xs else []), errN (errF xs)]
theorem qwd (xs : List Fld) : Pure (qoh xs) := qge fun x hx => by
 simp only [List.mem_cons, List.not_mem_nil, or_false] at hx
 rcases hx with rfl | rfl
 ·exact z4 _
 ·exact qhf _
structure q11 (xs : List FldV) : Prop where
 len : xs.length < 1000000
 val : ∀ f ∈ xs, f.1.length < 4294967281 ∧ f.2.length < 1000000
set_option maxHeartbeats 2000000 in
theorem q3x (xs : List FldV) (st : List AObj) (hx : q11 xs) : q7 E 46 [y7 xs] st fun r st' => r = qoh xs ∧ st' = st := by
 refine zt (qwd _) (q8 Tryz.func46 rfl (Nat.le_of_ble_eq_true rfl) ?_)
 have hxl := hx.len
 repeat' (first
  | (apply qhx; exact rfl)
  | apply qm
  | apply q4
  | apply qe
  | apply qa
  | apply qi
  | apply qf
  | (apply zy; (iterate 4 exact rfl)))
 refine qbp xs (fun pre s => (∀ f ∈ pre, kr f) ∧ ∃ q, (q = .v (.pointer none) ∨ q = .bx (st.length + 0) 0 0) ∧ StE [(4, .bx (st.length + 0) 0 0), (11, y7 xs), (12, Iv xs.length), (13, Iv pre.length)] st [bldO 0 q (we pre) (st.length + 1), .tip (we pre).length 1 5] s) ⟨by simp, _, .inl rfl, qe5 ⟨rfl, rfl, congrArg (fun n : Nat => Iv (n : Int)) (List.length_map ..), rfl, trivial⟩ rfl⟩ ?_ ?_
 ·rintro _ ⟨hg, q, hq, t, ext, rfl⟩
  repeat' (first
   | apply qm
   | apply qe
   | apply qa
   | apply qf
   | (apply qw; (iterate 3 exact rfl))
   | (apply qg; exact rfl; first | (apply ze; (first | assumption | omega)) | (apply zd; (first | assumption | omega)) | (apply zc; (first | exact rfl | assumption)) | (apply zb; (first | exact rfl | assumption)) | (apply cd_n <;> intro h) | (apply cd_t; (first | exact rfl | assumption)) | (apply cd_f; (first | exact rfl | assumption)) | (apply cd_d <;> intro h) | (apply cd_s <;> intro h))
   | apply jp
   | apply qz
   | (refine qd Tryz.call50 (qhr st _ _ _ _ 0 1 0 _ _ rfl rfl rfl) ?_))
  refine qo rfl (vd rfl) ⟨?_, qah _ _ _ _⟩
  unfold qoh
  have h0 := (qj7 xs).2 hg
  rw [if_pos h0, h0]
  rfl
 ·rintro pre f rest _ hr ⟨hg, q, hq, t, ext, rfl⟩
  have hlen : xs.length = pre.length + (rest.length + 1) := by rw [hr]; simp
  have hget : (xs.map fldA)[pre.length]? = some (fldA f) := by rw [hr]; simp
  obtain ⟨hf1, hf2⟩ := hx.val f (by rw [hr]; simp)
  by_cases hc : vo f = 0
  ·have hgf := (qco f).1 hc
   have hb1 := qg5 pre hg
   have hb2 := qnt hgf
   repeat' (first
    | apply qm
    | apply q4
    | apply qe
    | apply qa
    | apply qi
    | apply qf
    | (apply zj; exact rfl; exact rfl)
    | (apply qw; (iterate 3 exact rfl))
    | (apply qg; exact rfl; first | (apply ze; (first | assumption | omega)) | (apply zd; (first | assumption | omega)) | (apply zc; (first | exact rfl | assumption)) | (apply zb; (first | exact rfl | assumption)) | (apply cd_n <;> intro h) | (apply cd_t; (first | exact rfl | assumption)) | (apply cd_f; (first | exact rfl | assumption)) | (apply cd_d <;> intro h) | (apply cd_s <;> intro h))
    | (apply zy; (iterate 4 exact rfl))
    | (apply zr; exact rfl; exact rfl)
    | (apply z0; exact rfl; exact rfl)
    | (apply qk; (iterate 3 exact rfl))
    | (apply qh; (iterate 5 exact rfl))
    | (apply qn; (iterate 11 exact rfl))
    | apply q6
    | (apply qd; exact Tryz.call85; exact qte _ _ hf1 hf2 hc)
    | (apply jg (n := pre.length); (iterate 5 exact rfl); exact hget))
   refine qbp (kg f) (fun lp s => ∃ q, (q = .v (.pointer none) ∨ q = .bx (st.length + 0) 0 0) ∧ StE [(4, .bx (st.length + 0) 0 0), (11, y7 xs), (12, Iv xs.length), (13, Iv pre.length), (25, Ss (kg f)), (26, Iv (kg f).length), (27, Iv lp.length)] st [bldO 0 q (we pre ++ jd lp) (st.length + 1), .tip (we pre ++ jd lp).length 1 5] s) ⟨_, hq, qdg ⟨rfl, rfl, rfl, rfl, rfl, congrArg (fun n : Nat => Iv (n : Int)) (List.length_map ..), rfl, trivial⟩ (by simp [jd])⟩ ?_ ?_
   ·rintro _ ⟨q, hq, t, ext, rfl⟩
    repeat' (first
     | apply qm
     | apply qe
     | apply qa
     | apply qi
     | (apply qw; (iterate 3 exact rfl))
     | (apply qg; exact rfl; first | (apply ze; (first | assumption | omega)) | (apply zd; (first | assumption | omega)) | (apply zc; (first | exact rfl | assumption)) | (apply zb; (first | exact rfl | assumption)) | (apply cd_n <;> intro h) | (apply cd_t; (first | exact rfl | assumption)) | (apply cd_f; (first | exact rfl | assumption)) | (apply cd_d <;> intro h) | (apply cd_s <;> intro h))
     | (apply js; exact rfl; exact rfl; exact zi (by omega) (by omega))
     | apply jp)
    refine ⟨fun x hx => ?_, q, hq, qdg ⟨rfl, rfl, rfl, ?_, trivial⟩ ?_⟩
    ·rcases List.mem_append.1 hx with hx | hx
     ·exact hg x hx
     ·simp at hx; subst hx; exact hgf
    ·rw [qez pre f]; rfl
    ·rw [qx5, qxu]
   ·rintro lp a lr _ hlr ⟨q, hq, t, ext, rfl⟩
    have hlen2 : (kg f).length = lp.length + (lr.length + 1) := by rw [hlr]; simp
    have hget2 : ((kg f).map fun x => Sv x)[lp.length]? = some (Sv a) := by rw [hlr]; simp
    have hb3 : (jd lp).length + (a.length + 1) ≤ 5000 := by
     rw [hlr, qd5] at hb2
     have : a :: lr = [a] ++ lr := rfl
     rw [this, qd5, qk0] at hb2
     simp only [List.length_append, List.length_cons, List.length_nil] at hb2
     omega
    have hct := qln lp
    repeat' (first
     | apply qm
     | apply q4
     | apply qe
     | apply qa
     | apply qi
     | apply qf
     | (apply qw; (iterate 3 exact rfl))
     | (apply qg; exact rfl; first | (apply ze; (first | assumption | omega)) | (apply zd; (first | assumption | omega)) | (apply zc; (first | exact rfl | assumption)) | (apply zb; (first | exact rfl | assumption)) | (apply cd_n <;> intro h) | (apply cd_t; (first | exact rfl | assumption)) | (apply cd_f; (first | exact rfl | assumption)) | (apply cd_d <;> intro h) | (apply cd_s <;> intro h))
     | (apply jy; exact rfl; exact rfl; (first | omega | (simp only [List.length_append, List.length_cons, List.length_nil]; omega) | (simp; omega)))
     | (apply qk; (iterate 3 exact rfl))
     | apply q6
     | (apply jg (n := lp.length); (iterate 5 exact rfl); exact hget2))
    refine qd Tryz.call47 (qix st _ _ _ _ 0 1 0 _ _ _ rfl rfl ?_ ?_ rfl) ?_; (exact hq); (simp only [List.length_append, List.length_cons, List.length_nil]; omega)
    repeat' (first
     | apply qe
     | apply qa
     | apply qi
     | (apply js; exact rfl; exact rfl; exact zi (by omega) (by omega)))
    refine ⟨_, .inr rfl, qdg ⟨rfl, rfl, rfl, rfl, rfl, rfl, ?_, trivial⟩ ?_⟩
    ·rw [qez lp a]; rfl
    ·have e : we pre ++ jd (lp ++ [a]) = (we pre ++ jd lp) ++ (a ++ [10]) := by rw [qd5, qk0, List.append_assoc]
     rw [e]; rfl
  ·skip
   repeat' (first
    | apply qm
    | apply q4
    | apply qe
    | apply qa
    | apply qi
    | apply qf
    | (apply zj; exact rfl; exact rfl)
    | (apply qw; (iterate 3 exact rfl))
    | (apply qg; exact rfl; first | (apply ze; (first | assumption | omega)) | (apply zd; (first | assumption | omega)) | (apply zc; (first | exact rfl | assumption)) | (apply zb; (first | exact rfl | assumption)) | (apply cd_n <;> intro h) | (apply cd_t; (first | exact rfl | assumption)) | (apply cd_f; (first | exact rfl | assumption)) | (apply cd_d <;> intro h) | (apply cd_s <;> intro h))
    | (apply z8; exact rfl; exact rfl)
    | (apply z0; exact rfl; exact rfl)
    | (apply qk; (iterate 3 exact rfl))
    | (apply qh; (iterate 5 exact rfl))
    | (apply qn; (iterate 11 exact rfl))
    | apply q6
    | apply qz
    | (apply qd; exact Tryz.call85; exact qsc _ _ hf1 hf2 hc)
    | (apply jg (n := pre.length); (iterate 5 exact rfl); exact hget))
   refine qo rfl (vd rfl) ⟨?_, qah _ _ _ _⟩
   unfold qoh
   have h0 : errF xs = vo f := by rw [hr]; exact qva hg hc
   rw [h0, if_neg hc, qh8 hc]
   rfl
end Go.Proofs.YtefmcijohgpfhaaGreatDoor
set_option maxRecDepth 100000
set_option linter.unusedVariables false
namespace Go.Proofs.YtefmcijohgpfhaaGreatDoor
open Go Go.Av Go.RowKit Go.Proofs Go.Pl
theorem qeo : ∀ (n : Nat) (l : qb) (c : UInt8), l.length ≤ n → c ≠ 10 → jf (l ++ [c]) = (jf l).set ((jf l).length - 1) ((jf l).getD ((jf l).length - 1) [] ++ [c])
 | n, l, c, hn, hc => by
  by_cases h : 10 ∈ l
  ·have hne : l ≠ [] := fun e => by subst e; simp at h
   have hlt := yz (c := 10) hne
   cases n with
   | zero => omega
   | succ n =>
    have ih := qeo n (past 10 l) c (by omega) hc
    have e := qaz h
    have e2 : l ++ [c] = upto 10 l ++ 10 :: (past 10 l ++ [c]) := (congrArg (· ++ [c]) e).trans (by simp)
    have hp := qi0 (past 10 l)
    have hpl : 0 < (jf (past 10 l)).length := List.length_pos_iff.2 hp
    rw [qbw (by simp [h]), qbw h, e2, yx _ (qde 10 l), qaq _ (qde 10 l), ih]
    have e3 : (upto 10 l :: jf (past 10 l)).length - 1 = (jf (past 10 l)).length - 1 + 1 := by simp; omega
    rw [e3, List.set_cons_succ]
    simp
  ·have h2 : 10 ∉ l ++ [c] := by simp [h, Ne.symm hc]
   rw [qby h, qby h2]
   simp
end Go.Proofs.YtefmcijohgpfhaaGreatDoor
set_option linter.unusedVariables false
namespace Go.Av
open Go Go.RowKit
@[reducible] def qm0 (K : Act → World → Prop) : Exit → Act → World → Prop
 | .normal, a, w => K a w
 | _, _, _ => False
structure AZ (E : Env) (N : Nat) (ops : Array Oper) (fuel : Nat) (listed : Array Bool) (K : AS → Prop) (s : AS) : Prop where
 run : ∀ (B0 : Nat) (w0 : World) (G : Gh) (a : Act) (w : World), E.L B0 w0 → Inv B0 w0 N G s a w → ∀ K' : Act → World → Prop, (∀ G' s' a' w', G.le G' → Inv B0 w0 N G' s' a' w' → K s' → K' a' w') → wpAnyIn (fw none) 0 E.P .any ops (qm0 K') fuel listed a w
structure AY (E : Env) (N : Nat) (o : Oper) (s : AS) (r : AV) : Prop where
 run : ∀ (B0 : Nat) (w0 : World) (G : Gh) (a : Act) (w : World), Inv B0 w0 N G s a w → ∃ v, (∀ w', (execOp a.eval o).run E.P w' = .ok (.value v) w') ∧ (∀ w', o.about E.P w' a.eval = none) ∧ Rel G r v
section
variable {E : Env} {N : Nat} {ops : Array Oper} {K : AS → Prop} {s : AS} {fuel : Nat} {listed : Array Bool}
theorem qca {id : Nat} {Q : Exit → AS → Prop} {n : Nat} (hm : E.P.follows .mixedOrders = true) (hn : ops.size = n) (h : AZ E N ops n (Array.replicate n false) (Q .normal) s) : AWp E none N (.region id ops true) Q s := by
 subst hn
 refine ⟨fun B0 w0 G a w hL hI => ?_⟩
 have hBl : Below w.heap.size w { w with drawn := w.drawn + 1 } := ⟨rfl, rfl, rfl, Nat.le_refl _, fun _ _ => rfl⟩
 have hI2 : Inv B0 w0 N G s a { w with drawn := w.drawn + 1 } := ⟨hI.agree.fresh hBl, hI.defers, hI.size, hI.tmps⟩
 have := h.run B0 w0 G a _ hL hI2 (fun a' w' => ∃ (G' : Gh) (s' : AS), G.le G' ∧ Inv B0 w0 N G' s' a' w' ∧ Q .normal s') fun G' s' a' w' hG hI' hk => ⟨G', s', hG, hI', hk⟩
 refine wpIn_mono (wpIn_region_any hm this) fun e a' w' hq => ?_
 cases e with
 | normal => exact hq
 | _ => exact hq.elim
theorem jh (hr : Region.ready .any ops listed = []) (h : K s) : AZ E N ops fuel listed K s :=
 ⟨fun B0 w0 G a w hL hI K' hK => wpAnyIn_done hr (hK G s a w (.refl G) hI h) fuel⟩
theorem qj (i : Nat) {oi : Oper} {r : AV} (hi : ops[i]? = some oi) (hs : Region.noSelect ops = true) (hf : Region.free .any ops listed i = true) (hr : (Region.ready .any ops listed).contains i = true) (hg : oi.guard = none) (hy : AY E N oi s r)
  (h : AZ E N ops fuel (listed.setIfInBounds i true) K (s.put oi.dst r)) : AZ E N ops (fuel + 1) listed K s := by
 refine ⟨fun B0 w0 G a w hL hI K' hK => ?_⟩
 obtain ⟨v, h1, h2, h3⟩ := hy.run B0 w0 G a w hI
 have hwn : Region.wanted oi (yielded ops a.tmps) = true := by simp [Region.wanted, hg]
 refine wpAnyIn_take (v := v) rfl hi hs hf hr (fun c a w hq => hq.elim) ⟨.inl ⟨hwn, h1⟩, h2⟩ (h.run B0 w0 G _ w hL (hI.put (.refl G) hI.agree oi.dst h3) K' fun G' s' a' w' hG hI' hk => hK G' s' a' w' hG hI' hk)
theorem quj {F : Fence} {n : Nat} {P : Program} {o : Oper} {a : Act} {w : World} {next X Y : Act → World → Prop} (h : o.wpIn F n P a w next (qm0 X)) : o.wpIn F n P a w next (qm0 Y) := by
 unfold Oper.wpIn at *
 refine ⟨h.1, ?_⟩
 have h := h.2
 generalize (o.semAt F.round a.eval).run P w = r at *
 cases r with
 | ok x w' =>
  cases x <;> simp only [Oper.uponIn] at h ⊢
  case value u => exact h
  case skip => exact h
  case defer d => exact h
  case enter f args =>
   refine ⟨h.1, CallsIn.mono h.2 fun e w'' he => ?_⟩
   cases e with
   | returned u => exact he
   | panicked c => exact he.elim
   | outgrown => exact absurd he (by simp [LetsOut])
  case row row args => exact h
  case round l f tmps assign body =>
   refine ⟨h.1, RoundIn.mono h.2 fun e w'' he => ?_⟩
   cases e with
   | returned u => exact he
   | panicked c => exact he.elim
   | outgrown => exact absurd he (by simp [LetsOut])
 | halt x w' =>
  cases x <;> simp only [Oper.uponIn] at h ⊢
  case panic u => exact h.elim
def qq3 (P : Nat → Prop) : List Nat → Prop
 | [] => True
 | i :: r => P i ∧ qq3 P r
theorem qph {P : Nat → Prop} : ∀ {l : List Nat}, qq3 P l → ∀ i ∈ l, P i
 | [], _, _, h => by simp at h
 | j :: l, h, i, hi => by
  rcases List.mem_cons.1 hi with rfl | hi
  ·exact h.1
  ·exact qph h.2 i hi
theorem qp (rs : List Nat) (hr : Region.ready .any ops listed = rs) (hne : Nat.blt 0 rs.length = true)
  (h : qq3 (fun i => ∃ o, ops[i]? = some o ∧ AOps E none N ops [o] (AZ E N ops fuel (listed.setIfInBounds i true) K) s) rs) : AZ E N ops (fuel + 1) listed K s := by
 refine ⟨fun B0 w0 G a w hL hI K' hK => wpAnyIn_all hr (fun e => by subst e; simp at hne) fun i hi => ?_⟩
 obtain ⟨o, ho, h⟩ := qph h i hi
 have hrun := h.run B0 w0 G a w hL hI (qm0 fun a' w' => wpAnyIn (fw none) 0 E.P .any ops (qm0 K') fuel (listed.setIfInBounds i true) a' w') fun G' s' a' w' hG hI' hk => hk.run B0 w0 G' a' w' hL hI' K' fun G2 s2 a2 w2 hG2 hI2 hk2 => hK G2 s2 a2 w2 (hG.trans hG2) hI2 hk2
 unfold wpOpIn
 rw [ho]
 simp only [wpListIn] at hrun ⊢
 split
 ·rename_i hw
  rw [if_pos hw] at hrun
  exact quj hrun
 ·rename_i hw
  rw [if_neg hw] at hrun
  exact hrun
variable {d : Option Tmp} {T : TypeId} {p : String} {af : Array Edge}
theorem qny {op : Op} {r : AV} (hnc : ∀ c, op ≠ .call c) (h : ∀ (G : Gh) (ρ : Operand → Value), (∀ x, Rel G (ql N s x) (ρ x)) → ∃ v, (∀ w', (execOp ρ ⟨d, op, T, p, af, none⟩).run E.P w' = .ok (.value v) w') ∧ Rel G r v) : AY E N ⟨d, op, T, p, af, none⟩ s r :=
 ⟨fun B0 w0 G a w hI => let ⟨v, h1, h2⟩ := h G a.eval hI.eval; ⟨v, h1, fun w' => by unfold Oper.about; cases op <;> first | rfl | exact absurd rfl (hnc _), h2⟩⟩
theorem ww {x : Operand} : AY E N ⟨d, .move x, T, p, af, none⟩ s (ql N s x) := qny nofun fun G ρ hρ => ⟨ρ x, fun w' => by simp [execOp], hρ x⟩
theorem zh {x : Operand} {r : AV} (hx : ql N s x = r) (hr : qq0 r = true) : AY E N ⟨d, .nilCheck x, T, p, af, none⟩ s r := qny nofun fun G ρ hρ => by
 have he := hρ x
 rw [hx] at he
 generalize hv : ρ x = v at he
 have key : ∃ q, v = .pointer (some q) := by
  cases he <;> simp [qq0] at hr
  ·exact ⟨_, rfl⟩
  ·exact ⟨_, rfl⟩
 obtain ⟨q, rfl⟩ := key
 exact ⟨_, fun w' => by simp [execOp, hv], he⟩
theorem qt {t : TypeId} {x : Operand} {f off sz : Nat} {agg : Bool} {o ver q : Nat} (hx : ql N s x = .bx o ver q) (hf : qao E.P t f = some (off, sz, agg)) (hsz : Nat.beq sz 0 = false) : AY E N ⟨d, .fieldAddr t x f, T, p, af, none⟩ s (.bx o ver (q + off)) := qny nofun fun G ρ hρ => by
 have he := hρ x
 rw [hx] at he
 generalize hv : ρ x = v at he
 cases he with
 | bx _ _ _ b hn hv' hb =>
  have hs : sz ≠ 0 := fun e => by subst e; simp at hsz
  exact ⟨_, fun w' => by simp only [execOp, hv]; simp [qcq hf hs], .bx o ver _ b hn hv' hb⟩
theorem qu {t : TypeId} {x : Operand} {f off sz : Nat} {agg : Bool} {cs : List AV} (hx : ql N s x = .pp cs) (hf : qao E.P t f = some (off, sz, agg)) (hsz : Nat.beq sz 0 = false) (hle : Nat.ble off cs.length = true) : AY E N ⟨d, .fieldAddr t x f, T, p, af, none⟩ s (.pp (cs.drop off)) := qny nofun fun G ρ hρ => by
 have he := hρ x
 rw [hx] at he
 generalize hv : ρ x = v at he
 cases he with
 | pp _ b q pub hp hlen hrel =>
  have hs : sz ≠ 0 := fun e => by subst e; simp at hsz
  have ho : off ≤ cs.length := Nat.le_of_ble_eq_true hle
  refine ⟨.pointer (some ⟨b, q + off, none⟩), fun w' => by simp only [execOp, hv]; simp [qcq hf hs], ?_⟩
  exact .pp _ b (q + off) pub hp (by simp; omega) fun i x y h1 h2 => hrel (off + i) x y (by simpa using h1) (by rw [← h2]; congr 1; omega)
theorem ko {x y : Operand} {t t' : TypeId} {m n : List UInt8} (hx : ql N s x = Sv m) (hy : ql N s y = Sv n) (hl : m.length + n.length < 9223372036854775808) : AY E N ⟨d, .binOp .add t x y t', T, p, af, none⟩ s (Sv (m ++ n)) := qny nofun fun G ρ hρ => by
 have h1 := hρ x
 have h2 := hρ y
 rw [hx] at h1
 rw [hy] at h2
 generalize hv : ρ x = v at h1
 generalize hu : ρ y = u at h2
 cases h1; cases h2
 refine ⟨_, fun w' => ?_, .v _⟩
 simp only [execOp, hv, hu, eqGuard_at_string, binOp, Op.stringOp, qap, qkb, IntKind.max_i64]
 rw [if_neg (by omega)]
 simp
theorem kz {t : TypeId} {parts : Array (Nat × Operand)} {zs cs : List AV} {pl : List (Nat × Nat)} (hz : qep E.P t = some zs) (hp : qic E.P t = some pl) (hf : qbq (pl[·]?) zs (vf N s parts) = some cs) : AY E N ⟨d, .build t parts, T, p, af, none⟩ s (.ag cs) := by
 refine ⟨fun B0 w0 G a w hI => ?_⟩
 have key : ∃ z : Value, (∀ w', (zeroValue t).run E.P w' = .ok z w') ∧ RelC G zs z.cells := by
  unfold qep at hz
  split at hz
  ·rename_i i hi
   cases hzr : i.zero with
   | none => rw [hzr] at hz; simp at hz
   | some z =>
    rw [hzr] at hz
    simp only [Option.map_some, Option.some.injEq] at hz
    subst hz
    refine ⟨z, fun w' => by simp [zeroValue, typeInfo, hi, hzr], by simp, fun i x y hx hy => ?_⟩
    rw [List.getElem?_map] at hx
    simp only [Array.getElem?_toList, hy, Option.map_some, Option.some.injEq] at hx
    subst hx
    exact .v y
  ·simp at hz
 obtain ⟨z, hrun, hr⟩ := key
 obtain ⟨c', h1, h2⟩ := qet (pl[·]?) (vf N s parts) (parts.toList.map fun x => (x.1, a.eval x.2)) zs z.cells cs (by simp [vf]) (qfl hI parts) hr hf
 unfold qic at hp
 split at hp
 ·rename_i fs hu
  refine ⟨.agg c', fun w' => ?_, fun w' => rfl, .ag _ _ h2.1 h2.2⟩
  generalize a.eval = ρ at h1
  simp [execOp, Instr.build, run_underlying hu, hrun, Array.mapM_eq_mapM_toList, run_places w' _ _ hp, h1]
 ·simp at hp
end
theorem qe3 {E : Env} {rd : Option Nat} {N : Nat} {c : Code} {Q : Exit → AS → Prop} {s : AS} (I : AS → Prop) (h : AWp E rd N c (only I) s) (hk : ∀ s', I s' → Q .normal s') : AWp E rd N c Q s := h.mono fun e s' h => by
 cases e <;> first | exact hk _ h | exact h.elim
end Go.Av
set_option maxRecDepth 100000
set_option linter.unusedVariables false
namespace Go.Proofs.YtefmcijohgpfhaaGreatDoor
open Go Go.Av Go.RowKit Go.Proofs Go.Pl
theorem qkj {l : qb} : zl l = 4 ↔ 10 ∉ l ∧ 58 ∈ l ∧ qdc (kq l) := by
 unfold zl
 by_cases h10 : 10 ∈ l
 ·simp [h10]
 ·rw [if_neg h10]
  constructor
  ·intro h
   split at h
   ·simp at h
   ·split at h
    ·simp at h
    ·split at h
     ·simp at h
     ·split at h
      ·rename_i hk; exact ⟨h10, hk.1, hk.2⟩
      ·simp at h
  ·rintro ⟨_, h58, hk⟩
   obtain ⟨c, hc, hb, h35⟩ := qhb hk
   have hh : l.head? = some c := by
    cases l with
    | nil => simp at h58
    | cons a r =>
     unfold kq at hc
     rw [List.takeWhile_cons] at hc
     split at hc
     ·simpa using hc
     ·simp at hc
   have hmem : c ∈ l := List.mem_of_head? hh
   rw [if_neg (fun h' => hb (h' c hmem)), if_neg (by rw [hh]; simpa using h35), if_neg (fun ⟨d, hd, hd'⟩ => by rw [hh] at hd; cases hd; exact hb hd'), if_pos ⟨h58, hk⟩]
theorem qqt {s : qb} (h : zl s = 3) : s ≠ [] := fun e => by subst e; revert h; decide
theorem qv5 (l : qb) (st : List AObj) (hl : l.length < 4294967281) (h : zl l = 4) : q7 E 196 [Sv l] st fun r st' => r = .tu [Sv (kq l), Sv (w8 l), Bv true] ∧ st' = st := by
 refine zt (qfk _ _ _) (q8 Tryz.func196 rfl (Nat.le_of_ble_eq_true rfl) ?_)
 have hc : Lib.cut l [58] = (kq l, w8 l, true) := by rw [qps, if_pos (qkj.1 h).2.1]
 repeat' (first
  | apply qm
  | apply qe
  | apply qa
  | apply qi
  | apply qf
  | (apply zj; exact rfl; exact rfl)
  | (apply qw; (iterate 3 exact rfl))
  | (apply qg; exact rfl; first | (apply ze; (first | assumption | omega)) | (apply zd; (first | assumption | omega)) | (apply zc; (first | exact rfl | assumption)) | (apply zb; (first | exact rfl | assumption)) | (apply cd_n <;> intro h) | (apply cd_t; (first | exact rfl | assumption)) | (apply cd_f; (first | exact rfl | assumption)) | (apply cd_d <;> intro h) | (apply cd_s <;> intro h))
  | apply q6
  | apply qz
  | (apply qd; exact Tryz.call132; exact qh2 _ _ hl)
  | (apply qd; exact Tryz.call36; exact qm5 _ _ _ hl))
 refine qo rfl (qeq rfl) ⟨q4i (?_ : _ = _), _, rfl⟩
 rw [hc]
theorem qtv (l : qb) (st : List AObj) (hl : l.length < 4294967281) (h : zl l ≠ 4) : q7 E 196 [Sv l] st fun r st' => r = .tu [Sv [], Sv [], Bv false] ∧ st' = st := by
 refine zt (qfk _ _ _) (q8 Tryz.func196 rfl (Nat.le_of_ble_eq_true rfl) ?_)
 repeat' (first
  | apply qm
  | apply qe
  | apply qa
  | apply qi
  | apply qf
  | (apply qw; (iterate 3 exact rfl))
  | (apply qg; exact rfl; first | (apply ze; (first | assumption | omega)) | (apply zd; (first | assumption | omega)) | (apply zc; (first | exact rfl | assumption)) | (apply zb; (first | exact rfl | assumption)) | (apply cd_n <;> intro h) | (apply cd_t; (first | exact rfl | assumption)) | (apply cd_f; (first | exact rfl | assumption)) | (apply cd_d <;> intro h) | (apply cd_s <;> intro h))
  | apply qz
  | (apply qd; exact Tryz.call132; exact qh2 _ _ hl))
 exact qo rfl (qeq rfl) ⟨rfl, _, rfl⟩
theorem qu4 {fn : Func} {s : AS} {t u : Tmp} {Ta : TypeId} {o1 v1 f1 sz1 : Nat} {agg1 : Bool} {T1 : TypeId} {cs1 : List AV} {r1 : AV} (hr : fn.results = #[.cell t Ta, .tmp u]) (hx1 : ql fn.ntmps s (.tmp t) = .bx o1 v1 f1) (ho1 : s.st[o1]? = some (.cells v1 T1 cs1)) (ht1 : tyOf E.P Ta = some (sz1, agg1)) (hl1 : km sz1 agg1 f1 cs1 = some r1) :
  ARes E fn s (.tu [r1, ql fn.ntmps s (.tmp u)]) := by
 refine ⟨fun B0 w0 G a w hL hI => ?_⟩
 obtain ⟨b, v, h1, h2, h3⟩ := qe7 hI hx1 ho1 ht1 hl1
 have hu := hI.rd u
 refine ⟨.tuple #[v, a.tmps.getD u undef], ?_, qij h3 hu⟩
 simp only [Act.eval, Array.getD_eq_getD_getElem?] at h1
 simp [results, hr, h1, asAddr, h2]
def qd2 (ls : List qb) : AV := .tu [fldA (jv ls).1, errN (jv ls).2]
theorem qtq (ls : List qb) : Pure (qd2 ls) := qge fun x hx => by
 simp only [List.mem_cons, List.not_mem_nil, or_false] at hx
 rcases hx with rfl | rfl
 ·exact qk2 fun x hx => by
   simp only [List.mem_cons, List.not_mem_nil, or_false] at hx
   rcases hx with rfl | rfl <;> exact z4 _
 ·exact qhf _
theorem qdk {fn : Func} {s : AS} {t u : Tmp} {Ta : TypeId} {st loc ext new : List AObj} {k1 v1 f1 sz1 : Nat} {agg1 : Bool} {T1 : TypeId} {cs1 : List AV} {r1 : AV} (hr : fn.results = #[.cell t Ta, .tmp u]) (hs : s.st = ((st ++ loc) ++ ext) ++ new) (hx1 : ql fn.ntmps s (.tmp t) = .bx (st.length + k1) v1 f1) (ho1 : loc[k1]? = some (.cells v1 T1 cs1)) (ht1 : tyOf E.P Ta = some (sz1, agg1)) (hl1 : km sz1 agg1 f1 cs1 = some r1) :
  ARes E fn s (.tu [r1, ql fn.ntmps s (.tmp u)]) := qu4 hr hx1 (by rw [hs]; exact qcp ho1) ht1 hl1
theorem ql3 {fn : Func} {s : AS} {t u : Tmp} {Ta : TypeId} {st loc : List AObj} {k1 v1 f1 sz1 : Nat} {agg1 : Bool} {T1 : TypeId} {cs1 : List AV} {r1 : AV} (hr : fn.results = #[.cell t Ta, .tmp u]) (hs : s.st = st ++ loc) (hx1 : ql fn.ntmps s (.tmp t) = .bx (st.length + k1) v1 f1) (ho1 : loc[k1]? = some (.cells v1 T1 cs1)) (ht1 : tyOf E.P Ta = some (sz1, agg1)) (hl1 : km sz1 agg1 f1 cs1 = some r1) :
  ARes E fn s (.tu [r1, ql fn.ntmps s (.tmp u)]) := qu4 hr hx1 (by rw [hs]; exact zn ho1) ht1 hl1
structure LsB (ls : List qb) : Prop where
 len : ls.length < 1000000
 val : ∀ s ∈ ls, s.length < 1000000
theorem qr5 : ∀ (r : List qb), (∀ s ∈ r, s.length < 1000000) → (r.flatMap fun s => [10] ++ wh 46 (s.drop 1)).length ≤ 1000001 * r.length
 | [], _ => by simp
 | a :: r, h => by
  have ih := qr5 r fun s hs => h s (by simp [hs])
  have ha := h a (by simp)
  have ht : (wh 46 (a.drop 1)).length ≤ a.length := by unfold wh; split <;> simp <;> omega
  simp only [List.flatMap_cons, List.length_append, List.length_cons, List.length_nil]
  omega
theorem qyk (v : qb) (r : List qb) : Lib.join (v :: r.map fun s => wh 46 (s.drop 1)) [10] = v ++ r.flatMap fun s => [10] ++ wh 46 (s.drop 1) := by
 rw [Lib.join_cons]
 unfold Lib.joinTail
 rw [List.map_map, List.flatMap_def]
 rfl
theorem qpf (xs : List qb) (tip : Option Nat) (sep v : qb) (st : List AObj) (h : Lib.join xs sep = v) (hN : xs.length ≤ 140737488355328) (hl : v.length ≤ 140737488355328) : q7 E 88 [.sl 1 (xs.map fun x => Sv x) tip, Sv sep] st fun r st' => r = Sv v ∧ st' = st := by
 subst h
 exact qys xs tip sep st hN hl
set_option maxHeartbeats 4000000 in
theorem qks (ls : List qb) (st : List AObj) (hB : LsB ls) : q7 E 166 [Ss ls] st fun r st' => r = qd2 ls ∧ st' = st := by
 refine zt (qtq _) (q8 Tryz.func166 rfl (Nat.le_of_ble_eq_true rfl) ?_)
 have hL := hB.len
 have hml : (ls.map fun x => Sv x).length = ls.length := by simp
 cases ls with
 | nil =>
  repeat' (first
   | apply qm
   | apply qe
   | apply qa
   | apply qi
   | apply qf
   | (apply qw; (iterate 3 exact rfl))
   | (apply qg; exact rfl; first | (apply ze; (first | assumption | omega)) | (apply zd; (first | assumption | omega)) | (apply zc; (first | exact rfl | assumption)) | (apply zb; (first | exact rfl | assumption)) | (apply cd_n <;> intro h) | (apply cd_t; (first | exact rfl | assumption)) | (apply cd_f; (first | exact rfl | assumption)) | (apply cd_d <;> intro h) | (apply cd_s <;> intro h))
   | (apply zy; (iterate 4 exact rfl))
   | (apply q9; exact rfl; exact rfl)
   | (apply z0; exact rfl; exact rfl)
   | (apply qn; (iterate 11 exact rfl))
   | (apply jq; (iterate 3 exact rfl))
   | apply qz)
  exact qo rfl (ql3 rfl rfl rfl rfl rfl rfl) ⟨rfl, _, rfl⟩
 | cons l r =>
  have hl := hB.val l (by simp)
  by_cases h4 : zl l = 4
  ·have hk := qkj.1 h4
   have htr : (wh 32 (w8 l)).length ≤ l.length := by unfold wh w8; split <;> simp <;> omega
   simp only [List.length_cons] at hL
   repeat' (first
    | (apply qae; (iterate 6 exact rfl))
    | apply qm
    | apply q4
    | apply qe
    | apply qa
    | apply qi
    | apply qf
    | (apply zj; exact rfl; exact rfl)
    | (apply qw; (iterate 3 exact rfl))
    | (apply jc; exact rfl)
    | (apply qg; exact rfl; first | (apply ze; (first | assumption | omega)) | (apply zd; (first | assumption | omega)) | (apply zc; (first | exact rfl | assumption)) | (apply zb; (first | exact rfl | assumption)) | (apply cd_n <;> intro h) | (apply cd_t; (first | exact rfl | assumption)) | (apply cd_f; (first | exact rfl | assumption)) | (apply cd_d <;> intro h) | (apply cd_s <;> intro h))
    | (apply zy; (iterate 4 exact rfl))
    | (apply z0; exact rfl; exact rfl)
    | (apply qk; (iterate 3 exact rfl))
    | (apply va; (iterate 4 exact rfl); (first | assumption | omega | exact Nat.succ_le_succ (Nat.zero_le _) | (simp; omega)); exact rfl)
    | apply q6
    | (apply qd; exact Tryz.call196; exact qv5 _ _ (by omega) h4)
    | (apply qd; exact Tryz.call96; exact qvi _ _ _)
    | (apply jg (n := 0); (iterate 6 exact rfl)))
   refine qp8 7 (o := st.length + 1) (sz := 1) (len := 1) (cap := 1) (xs := [Sv (wh 32 (w8 l))]) (T' := 9) rfl (zn rfl) rfl rfl (by omega) (Nat.le_refl _) (by decide) (by simp [AV.cells]) rfl ?_
   have hrm : (r.map fun x => Sv x).length = r.length := by simp
   refine qbp r (fun pre s => (∀ x ∈ pre, zl x = 3) ∧ StE [(2, .bx (st.length + 0) 0 0), (4, Sv (kq l)), (7, .sl 1 (Sv (wh 32 (w8 l)) :: pre.map (fun s => Sv (wh 46 (s.drop 1)))) (some (st.length + 1))), (33, .sl 1 (r.map fun x => Sv x) none), (34, Iv r.length), (35, Iv pre.length)] st [.cells 0 69 [Sv [], Sv []], .tip (pre.length + 1) 1 9] s) ⟨by simp, qe5 ⟨rfl, rfl, rfl, rfl, congrArg (fun n : Nat => Iv (n : Int)) hrm, rfl, trivial⟩ (xn st _ 1 _)⟩ ?_ ?_
   ·rintro _ ⟨h3, t, ext, rfl⟩
    have hok : qmi (l :: r) := ⟨by simp, h4, h3⟩
    have hjl := qr5 r fun s hs => hB.val s (by simp [hs])
    have hj := qyk (wh 32 (w8 l)) r
    have hjv : Lib.join (wh 32 (w8 l) :: r.map fun s => wh 46 (s.drop 1)) [10] = qbv l r := hj
    have hvl : (qbv l r).length ≤ 140737488355328 := by
     unfold qbv
     rw [List.length_append]
     omega
    have hmm : (Sv (wh 32 (w8 l)) :: r.map fun s => Sv (wh 46 (s.drop 1))) = (wh 32 (w8 l) :: r.map fun s => wh 46 (s.drop 1)).map fun x => Sv x := by simp [List.map_map]
    rw [hmm]
    have hkl : (kq l).length < 4294967281 := by have := hk.2.2.2.1; omega
    have hun : jv (l :: r) = if 1000 < (qbv l r).length then (([], []), 6) else ((kq l, qbv l r), 0) := if_pos hok
    by_cases hv : 1000 < (qbv l r).length
    ·have hcf : vo (kq l, qbv l r) = 6 := (if_neg (by simpa using hk.2.2)).trans (if_pos hv)
     repeat' (first
      | apply qm
      | apply qe
      | apply qa
      | apply qi
      | (apply qw; (iterate 3 exact rfl))
      | (apply qg; exact rfl; first | (apply ze; (first | assumption | omega)) | (apply zd; (first | assumption | omega)) | (apply zc; (first | exact rfl | assumption)) | (apply zb; (first | exact rfl | assumption)) | (apply cd_n <;> intro h) | (apply cd_t; (first | exact rfl | assumption)) | (apply cd_f; (first | exact rfl | assumption)) | (apply cd_d <;> intro h) | (apply cd_s <;> intro h))
      | apply jp)
     refine qd Tryz.call88 (qpf (wh 32 (w8 l) :: r.map fun s : qb => wh 46 (s.drop 1)) _ _ _ _ hjv ?_ hvl) ?_
     ·simp; omega
     repeat' (first
      | apply qm
      | apply qe
      | apply qa
      | apply qi
      | apply qf
      | (apply qg; exact rfl; first | (apply ze; (first | assumption | omega)) | (apply zd; (first | assumption | omega)) | (apply zc; (first | exact rfl | assumption)) | (apply zb; (first | exact rfl | assumption)) | (apply cd_n <;> intro h) | (apply cd_t; (first | exact rfl | assumption)) | (apply cd_f; (first | exact rfl | assumption)) | (apply cd_d <;> intro h) | (apply cd_s <;> intro h))
      | (apply z8; exact rfl; exact rfl)
      | (apply z0; exact rfl; exact rfl)
      | (apply qx; (iterate 11 exact rfl))
      | (apply qh; (iterate 5 exact rfl))
      | (apply qn; (iterate 11 exact rfl))
      | (apply jq; (iterate 3 exact rfl))
      | apply qz
      | (apply qd; exact Tryz.call124; exact qgk (kq l, qbv l r) _ hkl (by rw [hcf]; decide)))
     refine qo rfl (qdk rfl rfl rfl rfl rfl rfl) ⟨?_, qah _ _ _ _⟩
     unfold qd2
     rw [hun, if_pos hv]
     exact congrArg (fun n : Int => AV.tu [fldA ([], []), .ifc 31 (Iv n)]) hcf
    ·have hcf : vo (kq l, qbv l r) = 0 := (if_neg (by simpa using hk.2.2)).trans (if_neg hv)
     repeat' (first
      | apply qm
      | apply qe
      | apply qa
      | apply qi
      | apply qf
      | (apply qw; (iterate 3 exact rfl))
      | (apply qg; exact rfl; first | (apply ze; (first | assumption | omega)) | (apply zd; (first | assumption | omega)) | (apply zc; (first | exact rfl | assumption)) | (apply zb; (first | exact rfl | assumption)) | (apply cd_n <;> intro h) | (apply cd_t; (first | exact rfl | assumption)) | (apply cd_f; (first | exact rfl | assumption)) | (apply cd_d <;> intro h) | (apply cd_s <;> intro h))
      | (apply zr; exact rfl; exact rfl)
      | (apply z0; exact rfl; exact rfl)
      | (apply qx; (iterate 11 exact rfl))
      | (apply qh; (iterate 5 exact rfl))
      | (apply qn; (iterate 11 exact rfl))
      | (apply jq; (iterate 3 exact rfl))
      | apply q6
      | apply jp
      | apply qz
      | (refine qd Tryz.call88 (qpf (wh 32 (w8 l) :: r.map fun s : qb => wh 46 (s.drop 1)) _ _ _ _ hjv ?_ hvl) ?_; (simp; omega))
      | (apply qd; exact Tryz.call124; exact qgs (kq l, qbv l r) _ hkl hcf))
     refine qo rfl (qdk rfl rfl rfl rfl rfl rfl) ⟨?_, qah _ _ _ _⟩
     unfold qd2
     rw [hun, if_neg hv]
     rfl
   ·rintro pre a rest _ hr ⟨h3, t, ext, rfl⟩
    have hrlen : r.length = pre.length + (rest.length + 1) := by rw [hr]; simp
    have hget : (r.map fun x => Sv x)[pre.length]? = some (Sv a) := by rw [hr]; simp
    have ha := hB.val a (by rw [hr]; simp)
    by_cases hka : zl a = 3
    ·have hpos : 1 ≤ a.length := List.length_pos_iff.2 (qqt hka)
     repeat' (first
      | apply qm
      | apply q4
      | apply qe
      | apply qa
      | apply qi
      | apply qf
      | (apply qw; (iterate 3 exact rfl))
      | (apply qg; exact rfl; first | (apply ze; (first | assumption | omega)) | (apply zd; (first | assumption | omega)) | (apply zc; (first | exact rfl | assumption)) | (apply zb; (first | exact rfl | assumption)) | (apply cd_n <;> intro h) | (apply cd_t; (first | exact rfl | assumption)) | (apply cd_f; (first | exact rfl | assumption)) | (apply cd_d <;> intro h) | (apply cd_s <;> intro h))
      | (apply js; exact rfl; exact rfl; exact zi (by omega) (by omega))
      | (apply qk; (iterate 3 exact rfl))
      | (apply xz; (iterate 3 exact rfl); first | assumption | omega | (simp; omega))
      | (apply qv; (iterate 9 exact rfl))
      | apply q6
      | (apply qd; exact Tryz.call132; exact qh2 _ _ (by omega))
      | (apply qd; exact Tryz.call96; exact qvi _ _ _)
      | (apply jg (n := pre.length); (iterate 5 exact rfl); exact hget)
      | (apply qha (n := pre.length + 1) (m := 1) (sz := 1) (bytes := 16); (iterate 4 exact rfl); simp; exact rfl; exact rfl; exact ⟨⟨_, _, rfl, rfl, rfl, rfl, rfl⟩⟩; exact rfl; exact rfl; (unfold maxLen; omega); omega; exact rfl))
     refine ⟨fun x hx => ?_, qdg ⟨rfl, rfl, ?_, rfl, rfl, ?_, trivial⟩ ?_⟩
     ·rcases List.mem_append.1 hx with hx | hx
      ·exact h3 x hx
      ·simp at hx; subst hx; exact hka
     ·exact qss _ (fun s : qb => Sv (wh 46 (s.drop 1))) pre a _ rfl
     ·exact qew pre a
     ·rw [qez pre a]; rfl
    ·skip
     repeat' (first
      | apply qm
      | apply q4
      | apply qe
      | apply qa
      | apply qi
      | apply qf
      | (apply qw; (iterate 3 exact rfl))
      | (apply qg; exact rfl; first | (apply ze; (first | assumption | omega)) | (apply zd; (first | assumption | omega)) | (apply zc; (first | exact rfl | assumption)) | (apply zb; (first | exact rfl | assumption)) | (apply cd_n <;> intro h) | (apply cd_t; (first | exact rfl | assumption)) | (apply cd_f; (first | exact rfl | assumption)) | (apply cd_d <;> intro h) | (apply cd_s <;> intro h))
      | (apply q9; exact rfl; exact rfl)
      | (apply qk; (iterate 3 exact rfl))
      | (apply qx; (iterate 11 exact rfl))
      | (apply jq; (iterate 3 exact rfl))
      | apply q6
      | apply qz
      | (apply qd; exact Tryz.call132; exact qh2 _ _ (by omega))
      | (apply jg (n := pre.length); (iterate 5 exact rfl); exact hget))
     have hno : jv (l :: r) = (([], []), 2) := if_neg fun h => hka (h.2.2 a (by rw [hr]; simp))
     refine qo rfl (qdk rfl rfl rfl rfl rfl rfl) ⟨?_, qah _ _ _ _⟩
     unfold qd2
     rw [hno]
     rfl
  ·have hno : jv (l :: r) = (([], []), 2) := if_neg fun h => h4 h.2.1
   simp only [List.length_cons] at hL
   repeat' (first
    | apply qm
    | apply qe
    | apply qa
    | apply qi
    | apply qf
    | (apply zj; exact rfl; exact rfl)
    | (apply qw; (iterate 3 exact rfl))
    | (apply jc; exact rfl)
    | (apply qg; exact rfl; first | (apply ze; (first | assumption | omega)) | (apply zd; (first | assumption | omega)) | (apply zc; (first | exact rfl | assumption)) | (apply zb; (first | exact rfl | assumption)) | (apply cd_n <;> intro h) | (apply cd_t; (first | exact rfl | assumption)) | (apply cd_f; (first | exact rfl | assumption)) | (apply cd_d <;> intro h) | (apply cd_s <;> intro h))
    | (apply zy; (iterate 4 exact rfl))
    | (apply q9; exact rfl; exact rfl)
    | (apply z0; exact rfl; exact rfl)
    | (apply qk; (iterate 3 exact rfl))
    | (apply qn; (iterate 11 exact rfl))
    | (apply jq; (iterate 3 exact rfl))
    | apply q6
    | apply qz
    | (apply qd; exact Tryz.call196; exact qtv _ _ (by omega) h4)
    | (apply jg (n := 0); (iterate 6 exact rfl)))
   refine qo rfl (ql3 rfl rfl rfl rfl rfl rfl) ⟨?_, _, rfl⟩
   unfold qd2
   rw [hno]
   rfl
end Go.Proofs.YtefmcijohgpfhaaGreatDoor
set_option maxRecDepth 100000
set_option linter.unusedVariables false
namespace Go.Proofs.YtefmcijohgpfhaaGreatDoor
open Go Go.Av Go.RowKit Go.Proofs Go.Pl
theorem qrr {α : Type} {P : α → Prop} {pre : List α} {a : α} (h : ∀ x ∈ pre, P x) (ha : P a) : ∀ x ∈ pre ++ [a], P x := fun x hx => by
 rcases List.mem_append.1 hx with hx | hx
 ·exact h x hx
 ·simp at hx; subst hx; exact ha
end Go.Proofs.YtefmcijohgpfhaaGreatDoor
set_option maxRecDepth 100000
set_option linter.unusedVariables false
namespace Go.Pl
open Go Go.Proofs
structure LnV where
 no : Nat
 at' : Nat
 text : qb
 ended : Bool
def yl (k a : Nat) (l : qb) : List LnV := if h : l = [] then [] else ⟨k, a, upto 10 l, decide (10 ∈ l)⟩ :: yl (k + 1) (a + (upto 10 l).length + 1) (past 10 l)
 termination_by l.length
 decreasing_by exact yz h
def lns (l : qb) : List LnV := yl 0 0 l
theorem qh7 (k a : Nat) : yl k a [] = [] := by unfold yl; simp
theorem qgi {k a : Nat} {l : qb} (h : l ≠ []) : yl k a l = ⟨k, a, upto 10 l, decide (10 ∈ l)⟩ :: yl (k + 1) (a + (upto 10 l).length + 1) (past 10 l) := by
 conv => lhs; unfold yl
 rw [dif_neg h]
def whole (l : qb) : Prop := l = [] ∨ l.getLast? = some 10
theorem qpj : ∀ (n : Nat) (l : qb) (k a : Nat), l.length ≤ n → (yl k a l).length ≤ l.length
 | n, l, k, a, hn => by
  by_cases h : l = []
  ·subst h; simp [qh7]
  ·have hlt := yz (c := 10) h
   cases n with
   | zero => omega
   | succ n =>
    rw [qgi h, List.length_cons]
    have := qpj n (past 10 l) (k + 1) (a + (upto 10 l).length + 1) (by omega)
    omega
end Go.Pl
set_option maxRecDepth 100000
set_option linter.unusedVariables false
namespace Go.Pl
open Go Go.Proofs
def indF (by' : qb) (ls : List (qb × Bool)) : qb := ls.flatMap fun x => by' ++ x.1 ++ yy x.2
def qa7 (by' l : qb) : qb := indF by' (jk l)
theorem qsp (by' : qb) (a b : List (qb × Bool)) : indF by' (a ++ b) = indF by' a ++ indF by' b := by simp [indF]
theorem qq5 (by' : qb) (x : qb × Bool) : indF by' [x] = by' ++ x.1 ++ yy x.2 := by simp [indF]
def lsum (ls : List (qb × Bool)) : Nat := (ls.map fun x => x.1.length + (yy x.2).length).sum
theorem qfh : ∀ (n : Nat) (l : qb), l.length ≤ n → lsum (jk l) = l.length ∧ (jk l).length ≤ l.length
 | n, l, hn => by
  by_cases h : l = []
  ·subst h; simp [x6, lsum]
  ·have hlt := yz (c := 10) h
   cases n with
   | zero => omega
   | succ n =>
    obtain ⟨h1, h2⟩ := qfh n (past 10 l) (by omega)
    rw [x5 h]
    unfold lsum at h1 ⊢
    simp only [List.map_cons, List.sum_cons, List.length_cons]
    rw [h1]
    have hp := wm 10 l
    have hu := wi 10 l
    by_cases h10 : 10 ∈ l
    ·have := qdd h10
     simp [h10, yy]
     omega
    ·have hu2 : (upto 10 l).length = l.length := by rw [qdw h10]
     have hpos := List.length_pos_iff.2 h
     simp [h10, yy]
     omega
theorem qms (by' : qb) : ∀ (ls : List (qb × Bool)), (indF by' ls).length = lsum ls + by'.length * ls.length
 | [] => by simp [indF, lsum]
 | x :: r => by
  have ih := qms by' r
  simp only [indF, lsum, List.flatMap_cons, List.length_append, List.map_cons, List.sum_cons, List.length_cons] at ih ⊢
  rw [ih, Nat.mul_add]
  omega
theorem q0z (a b : List (qb × Bool)) : lsum (a ++ b) = lsum a + lsum b := by simp [lsum]
end Go.Pl
namespace Go.Proofs.YtefmcijohgpfhaaGreatDoor
open Go Go.Av Go.RowKit Go.Proofs Go.Pl
theorem qpr (text : List UInt8) (st loc : List AObj) (n : Nat) (hn : loc.length = n) : q7 E 72 [Sv text] (st ++ loc) fun r st1 => r = .fn (.func 113) [] [.bx (st.length + n) 0 0] ∧ st1 = st ++ (loc ++ [.cells 0 9 [Sv text]]) :=
 qpg text (st ++ loc) _ (st.length + n) (by simp [hn]) (by rw [List.append_assoc])
theorem qzf (b sep : qb) (st : List AObj) (hl : b.length ≤ 140737488355328) : q7 E 88 [.sl 1 [Sv b] none, Sv sep] st fun r st' => r = Sv b ∧ st' = st :=
 qpf [b] none sep b st (by simp [Lib.join, List.intercalate]) (by simp) hl
theorem q33 {st a b ext : List AObj} {m : Nat} (h : ((st ++ a) ++ ext).length = m) (e : b.length = a.length) : ((st ++ b) ++ ext).length = m := by
 simp only [List.length_append] at h ⊢
 omega
set_option maxHeartbeats 2000000 in
theorem q1u (text by' : qb) (st : List AObj) (hl : text.length < 100000000) (hb : by'.length < 1000) : q7 E 49 [Sv text, .sl 1 [Sv by'] none] st fun r st' => r = Sv (qa7 by' text) ∧ st' = st := by
 refine zt (z4 _) (q8 Tryz.func49 rfl (Nat.le_of_ble_eq_true rfl) ?_)
 obtain ⟨hsum, hcnt⟩ := qfh _ text (Nat.le_refl _)
 repeat' (first
  | (apply qhx; exact rfl)
  | apply qm
  | apply q4
  | apply qe
  | apply qa
  | apply qi
  | apply qf
  | (apply z0; exact rfl; exact rfl)
  | (apply qn; (iterate 11 exact rfl))
  | (apply qd; exact Tryz.call88; exact qzf _ _ _ (by omega))
  | (refine qd Tryz.call72 (qpr _ _ _ _ rfl) ?_))
 refine qpa (st := st) text rfl rfl (by omega) (fun k rest l => ∃ q don, (q = .v (.pointer none) ∨ q = .bx (st.length + 0) 0 0) ∧ jk text = don ++ jk rest ∧ l = [bldO 0 q (indF by' don) (st.length + 1), .tip (indF by' don).length 1 5, .cells 0 9 [Sv by'], .cells 0 9 [Sv text]]) (fun _ _ => False)
  ⟨_, [], .inl rfl, rfl, rfl⟩ (fun k rest l ⟨q, don, _, _, e⟩ => by subst e; exact ⟨rfl, rfl⟩) (fun _ _ h => h.elim) ?_ ?_ (fun _ _ _ h => h.elim)
 ·rintro F own rd k rest _ ext m hF ⟨q, don, hq, hd, rfl⟩ hne hle hm1 hm2
  have hmem : jk rest = (upto 10 rest, decide (10 ∈ rest)) :: jk (past 10 rest) := x5 hne
  have hu := wi 10 rest
  have hlen := qms by' (don ++ [(upto 10 rest, decide (10 ∈ rest))])
  have he : jk text = (don ++ [(upto 10 rest, decide (10 ∈ rest))]) ++ jk (past 10 rest) := by rw [hd, hmem]; simp
  have hs2 : lsum (don ++ [(upto 10 rest, decide (10 ∈ rest))]) + lsum (jk (past 10 rest)) = text.length := by rw [← q0z, ← he]; exact hsum
  have hc2 : (don ++ [(upto 10 rest, decide (10 ∈ rest))]).length + (jk (past 10 rest)).length ≤ text.length := by rw [← List.length_append, ← he]; exact hcnt
  have hm : by'.length * (don ++ [(upto 10 rest, decide (10 ∈ rest))]).length ≤ 1000 * 100000000 := Nat.mul_le_mul (by omega) (by omega)
  rw [qsp, qq5] at hlen
  simp only [List.length_append] at hlen hm hc2
  repeat' (first
   | (apply qt8; exact rfl; assumption; exact rfl)
   | (apply qbu; exact rfl; assumption; (iterate 10 exact rfl))
   | apply qe
   | apply qa)
  refine ⟨_, rfl, rfl, ?_⟩
  repeat' (first
   | apply qm
   | apply q4
   | apply qe
   | apply qa
   | (apply qg; exact rfl; first | (apply ze; (first | assumption | omega)) | (apply zd; (first | assumption | omega)) | (apply zc; (first | exact rfl | assumption)) | (apply zb; (first | exact rfl | assumption)) | (apply cd_n <;> intro h) | (apply cd_t; (first | exact rfl | assumption)) | (apply cd_f; (first | exact rfl | assumption)) | (apply cd_d <;> intro h) | (apply cd_s <;> intro h))
   | (apply jy; exact rfl; exact rfl; (first | omega | (simp only [List.length_append, List.length_cons, List.length_nil]; omega) | (simp; omega)))
   | (apply qr; (iterate 3 exact rfl))
   | (apply qq; (iterate 5 exact rfl))
   | apply q6
   | (apply qb5; exact rfl; exact q33 hm2 rfl; (iterate 4 exact rfl))
   | (refine qd Tryz.call47 (qix st _ _ _ _ 0 1 0 _ _ _ rfl rfl ?_ ?_ rfl) ?_; (first | exact hq | exact .inr rfl); (simp only [List.length_append, List.length_cons, List.length_nil]; omega)))
  all_goals
   have hx : indF by' (don ++ [(upto 10 rest, decide (10 ∈ rest))]) = (indF by' don ++ (by' ++ upto 10 rest)) ++ yy (decide (10 ∈ rest)) := by
    rw [qsp, qq5]; simp
   refine ⟨[bldO 0 (.bx (st.length + 0) 0 0) (indF by' (don ++ [(upto 10 rest, decide (10 ∈ rest))])) (st.length + 1), .tip (indF by' (don ++ [(upto 10 rest, decide (10 ∈ rest))])).length 1 5, .cells 0 9 [Sv by'], .cells 0 9 [Sv text]], ext, [.cells 0 129 (qcg k text rest).cells], ?_, _, _, .inr rfl, he, rfl⟩
  ·have h10 : 10 ∈ rest := by simp_all
   rw [hx, show yy (decide (10 ∈ rest)) = [10] by simp [h10, yy]]
   rfl
  ·have h10 : 10 ∉ rest := by simp_all
   have hx2 : indF by' (don ++ [(upto 10 rest, decide (10 ∈ rest))]) = indF by' don ++ (by' ++ upto 10 rest) := by
    rw [hx]; simp [h10, yy]
   rw [hx2]
   rfl
 ·rintro k _ ext ⟨q, don, hq, hd, rfl⟩
  repeat' (first
   | apply qm
   | apply qe
   | apply qa
   | apply qf
   | apply qz
   | (refine qd Tryz.call50 (qhr st _ _ _ _ 0 1 0 _ _ rfl rfl rfl) ?_))
  refine qql (k := 4) rfl rfl rfl (qo rfl (zm rfl) ⟨congrArg (fun l : qb => Sv l) (?_ : _ = qa7 by' text), qah _ _ _ _⟩)
  rw [x6, List.append_nil] at hd
  unfold qa7
  rw [hd]
end Go.Proofs.YtefmcijohgpfhaaGreatDoor
