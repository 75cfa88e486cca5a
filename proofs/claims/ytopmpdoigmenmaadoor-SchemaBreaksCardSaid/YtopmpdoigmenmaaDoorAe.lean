/- Guards, picks, tests that are known; contracts out of the library's. Generic: names no program. -/
import Derived.Test.YtopmpdoigmenmaaDoorAd
import Derived.Deep.Quiet
import Derived.Sort.Grow
set_option linter.unusedVariables false
namespace Go.Av
open Go Go.RowKit

section
variable {E : Env} {rd : Option Nat} {N : Nat} {ops : Array Oper} {K : AS → Prop} {s : AS} {rest : List Oper} {d : Option Tmp} {T : TypeId} {p : String} {af : Array Edge}

theorem awp_cond_t {c : Operand} {x y : Code} {Q : Exit → AS → Prop} {b : Bool} (hc : aeval N s c = .v (.bool b)) (hb : b = true) (h : AWp E rd N x Q s) : AWp E rd N (.cond c x y) Q s :=
  awp_cond hc (fun _ => h) (fun e => by rw [hb] at e; cases e)
theorem awp_cond_f {c : Operand} {x y : Code} {Q : Exit → AS → Prop} {b : Bool} (hc : aeval N s c = .v (.bool b)) (hb : b = false) (h : AWp E rd N y Q s) : AWp E rd N (.cond c x y) Q s :=
  awp_cond hc (fun e => by rw [hb] at e; cases e) (fun _ => h)

theorem aops_guard_run {op : Op} {oj : Oper} {j e : Nat} {want b : Bool} (hj : ops[j]? = some oj) (hd : oj.dst = some e) (hN : Nat.blt e N = true) (hb : s.t e = .v (.bool b)) (hw : b = want)
    (h : AOps E rd N ops (⟨d, op, T, p, af, none⟩ :: rest) K s) : AOps E rd N ops (⟨d, op, T, p, af, some (j, want)⟩ :: rest) K s := by
  refine ⟨fun B0 w0 G a w hL hI Q hQ => ?_⟩
  have hd' : e < a.tmps.size := by rw [hI.size]; simpa [Nat.blt_eq] using hN
  have hr := hI.tmps e a.tmps[e] (by simp [hd'])
  have hv : a.tmps[e]? = some (.bool b) := by
    rw [hb] at hr
    have : a.tmps[e] = .bool b := by generalize a.tmps[e] = v at hr; cases hr; rfl
    simp [hd', this]
  have hy : yielded ops a.tmps j = some b := by simp [yielded, hj, hd, hv]
  have h' := h.run B0 w0 G a w hL hI Q hQ
  unfold wpListIn at h' ⊢
  rw [if_pos (by simp [Region.wanted])] at h'
  rw [if_pos (by simp [Region.wanted, hy, hw])]
  exact h'
theorem aops_guard_skip {op : Op} {oj : Oper} {j e : Nat} {want b : Bool} (hj : ops[j]? = some oj) (hd : oj.dst = some e) (hN : Nat.blt e N = true) (hb : s.t e = .v (.bool b)) (hw : (b == want) = false)
    (h : AOps E rd N ops rest K (s.put d (.v undef))) : AOps E rd N ops (⟨d, op, T, p, af, some (j, want)⟩ :: rest) K s :=
  aops_guard rfl hj hd hN hb (fun e => by rw [e] at hw; simp at hw) (fun _ => h)
theorem aops_guard_split {op : Op} {oj : Oper} {j e : Nat} {want b : Bool} (_hj : ops[j]? = some oj) (_hd : oj.dst = some e) (_hN : Nat.blt e N = true) (_hb : s.t e = .v (.bool b))
    (ht : b = true → AOps E rd N ops (⟨d, op, T, p, af, some (j, want)⟩ :: rest) K s) (hf : b = false → AOps E rd N ops (⟨d, op, T, p, af, some (j, want)⟩ :: rest) K s) : AOps E rd N ops (⟨d, op, T, p, af, some (j, want)⟩ :: rest) K s := by
  cases b
  · exact hf rfl
  · exact ht rfl
theorem beq_of_t {b : Bool} (h : b = true) : (b == false) = false := by rw [h]; rfl
theorem beq_of_f {b : Bool} (h : b = false) : (b == true) = false := by rw [h]; rfl

theorem aops_pick_t {c x y : Operand} {b : Bool} (hc : aeval N s c = .v (.bool b)) (hb : b = true) (h : AOps E rd N ops rest K (s.put d (aeval N s x))) : AOps E rd N ops (⟨d, .pick c x y, T, p, af, none⟩ :: rest) K s :=
  aops_cons rfl (aop_of_run nofun fun _ _ G a w _ hI => ⟨a.eval x, w, G, aeval N s x, s.st, by
    have := hI.evalv hc
    generalize a.eval = ρ at this
    simp [execOp, this, asBool, hb], .refl G, hI.agree, hI.eval x, h⟩)
theorem aops_pick_f {c x y : Operand} {b : Bool} (hc : aeval N s c = .v (.bool b)) (hb : b = false) (h : AOps E rd N ops rest K (s.put d (aeval N s y))) : AOps E rd N ops (⟨d, .pick c x y, T, p, af, none⟩ :: rest) K s :=
  aops_cons rfl (aop_of_run nofun fun _ _ G a w _ hI => ⟨a.eval y, w, G, aeval N s y, s.st, by
    have := hI.evalv hc
    generalize a.eval = ρ at this
    simp [execOp, this, asBool, hb], .refl G, hI.agree, hI.eval y, h⟩)
theorem aops_guard_run_d {op : Op} {oj : Oper} {j e : Nat} {q : Prop} [Decidable q] (hj : ops[j]? = some oj) (hd : oj.dst = some e) (hN : Nat.blt e N = true) (hb : s.t e = .v (.bool (decide q))) (hw : q)
    (h : AOps E rd N ops (⟨d, op, T, p, af, none⟩ :: rest) K s) : AOps E rd N ops (⟨d, op, T, p, af, some (j, true)⟩ :: rest) K s :=
  aops_guard_run hj hd hN hb (decide_eq_true hw) h
theorem aops_guard_run_n {op : Op} {oj : Oper} {j e : Nat} {q : Prop} [Decidable q] (hj : ops[j]? = some oj) (hd : oj.dst = some e) (hN : Nat.blt e N = true) (hb : s.t e = .v (.bool (decide q))) (hw : ¬ q)
    (h : AOps E rd N ops (⟨d, op, T, p, af, none⟩ :: rest) K s) : AOps E rd N ops (⟨d, op, T, p, af, some (j, false)⟩ :: rest) K s :=
  aops_guard_run hj hd hN hb (decide_eq_false hw) h
theorem aops_guard_skip_d {op : Op} {oj : Oper} {j e : Nat} {q : Prop} [Decidable q] (hj : ops[j]? = some oj) (hd : oj.dst = some e) (hN : Nat.blt e N = true) (hb : s.t e = .v (.bool (decide q))) (hw : q)
    (h : AOps E rd N ops rest K (s.put d (.v undef))) : AOps E rd N ops (⟨d, op, T, p, af, some (j, false)⟩ :: rest) K s :=
  aops_guard_skip hj hd hN hb (by simp [hw]) h
theorem aops_guard_skip_n {op : Op} {oj : Oper} {j e : Nat} {q : Prop} [Decidable q] (hj : ops[j]? = some oj) (hd : oj.dst = some e) (hN : Nat.blt e N = true) (hb : s.t e = .v (.bool (decide q))) (hw : ¬ q)
    (h : AOps E rd N ops rest K (s.put d (.v undef))) : AOps E rd N ops (⟨d, op, T, p, af, some (j, true)⟩ :: rest) K s :=
  aops_guard_skip hj hd hN hb (by simp [hw]) h
theorem aops_guard_split_d {op : Op} {oj : Oper} {j e : Nat} {want : Bool} {q : Prop} [Decidable q] (hj : ops[j]? = some oj) (hd : oj.dst = some e) (hN : Nat.blt e N = true) (hb : s.t e = .v (.bool (decide q)))
    (ht : q → AOps E rd N ops (⟨d, op, T, p, af, some (j, want)⟩ :: rest) K s) (hf : ¬ q → AOps E rd N ops (⟨d, op, T, p, af, some (j, want)⟩ :: rest) K s) : AOps E rd N ops (⟨d, op, T, p, af, some (j, want)⟩ :: rest) K s :=
  aops_guard_split hj hd hN hb (fun h => ht (of_decide_eq_true h)) (fun h => hf (of_decide_eq_false h))
theorem awp_cond_dt {c : Operand} {x y : Code} {Q : Exit → AS → Prop} {q : Prop} [Decidable q] (hc : aeval N s c = .v (.bool (decide q))) (hq : q) (h : AWp E rd N x Q s) : AWp E rd N (.cond c x y) Q s :=
  awp_cond_t hc (decide_eq_true hq) h
theorem awp_cond_df {c : Operand} {x y : Code} {Q : Exit → AS → Prop} {q : Prop} [Decidable q] (hc : aeval N s c = .v (.bool (decide q))) (hq : ¬ q) (h : AWp E rd N y Q s) : AWp E rd N (.cond c x y) Q s :=
  awp_cond_f hc (decide_eq_false hq) h
theorem awp_cond_d {c : Operand} {x y : Code} {Q : Exit → AS → Prop} {q : Prop} [Decidable q] (hc : aeval N s c = .v (.bool (decide q))) (ht : q → AWp E rd N x Q s) (hf : ¬ q → AWp E rd N y Q s) : AWp E rd N (.cond c x y) Q s :=
  awp_cond hc (fun h => ht (of_decide_eq_true h)) (fun h => hf (of_decide_eq_false h))
/-- A guarded operation, however its guard stands. -/
theorem aops_guard_undef {op : Op} {oj : Oper} {j e : Nat} {want : Bool} (hj : ops[j]? = some oj) (hd : oj.dst = some e) (hN : Nat.blt e N = true) (hb : s.t e = .v undef)
    (h : AOps E rd N ops rest K (s.put d (.v undef))) : AOps E rd N ops (⟨d, op, T, p, af, some (j, want)⟩ :: rest) K s := by
  refine ⟨fun B0 w0 G a w hL hI Q hQ => ?_⟩
  have hd' : e < a.tmps.size := by rw [hI.size]; simpa [Nat.blt_eq] using hN
  have hr := hI.tmps e a.tmps[e] (by simp [hd'])
  have hv : a.tmps[e]? = some undef := by
    rw [hb] at hr
    have : a.tmps[e] = undef := by generalize a.tmps[e] = v at hr; cases hr; rfl
    simp [hd', this]
  have hy : yielded ops a.tmps j = none := by simp [yielded, hj, hd, hv, undef]
  refine wpListIn_step fun K' hK => ?_
  simp only [Region.wanted, hy]
  rw [if_neg (by simp)]
  exact ⟨fun _ _ => trivial, hK _ _ (h.run B0 w0 G _ w hL (hI.put (.refl G) hI.agree d (.v undef)) Q hQ)⟩
structure GD (E : Env) (rd : Option Nat) (N : Nat) (ops : Array Oper) (o : Oper) (rest : List Oper) (K : AS → Prop) (s : AS) (b want : Bool) : Prop where
  run : b = want → AOps E rd N ops ({ o with guard := none } :: rest) K s
  skip : b = (!want) → AOps E rd N ops rest K (s.put o.dst (.v undef))
theorem aops_guard_any {op : Op} {oj : Oper} {j e : Nat} {want b : Bool} (hj : ops[j]? = some oj) (hd : oj.dst = some e) (hN : Nat.blt e N = true) (hb : s.t e = .v (.bool b))
    (h : GD E rd N ops ⟨d, op, T, p, af, some (j, want)⟩ rest K s b want) : AOps E rd N ops (⟨d, op, T, p, af, some (j, want)⟩ :: rest) K s := by
  by_cases hw : b = want
  · exact aops_guard_run hj hd hN hb hw (h.run hw)
  · have hw' : b = !want := by cases b <;> cases want <;> first | rfl | exact absurd rfl hw
    have hw2 : (b == want) = false := by cases b <;> cases want <;> first | rfl | exact absurd rfl hw
    exact aops_guard_skip hj hd hN hb hw2 (h.skip hw')
section
variable {o : Oper} {q : Prop} [Decidable q] {b : Bool}
theorem gd_run_d (hq : q) (h : AOps E rd N ops ({ o with guard := none } :: rest) K s) : GD E rd N ops o rest K s (decide q) true := ⟨fun _ => h, fun e => by simp [hq] at e⟩
theorem gd_run_n (hq : ¬ q) (h : AOps E rd N ops ({ o with guard := none } :: rest) K s) : GD E rd N ops o rest K s (decide q) false := ⟨fun _ => h, fun e => by simp [hq] at e⟩
theorem gd_skip_d (hq : q) (h : AOps E rd N ops rest K (s.put o.dst (.v undef))) : GD E rd N ops o rest K s (decide q) false := ⟨fun e => by simp [hq] at e, fun _ => h⟩
theorem gd_skip_n (hq : ¬ q) (h : AOps E rd N ops rest K (s.put o.dst (.v undef))) : GD E rd N ops o rest K s (decide q) true := ⟨fun e => by simp [hq] at e, fun _ => h⟩
theorem gd_run_t (hq : b = true) (h : AOps E rd N ops ({ o with guard := none } :: rest) K s) : GD E rd N ops o rest K s b true := ⟨fun _ => h, fun e => by simp [hq] at e⟩
theorem gd_run_f (hq : b = false) (h : AOps E rd N ops ({ o with guard := none } :: rest) K s) : GD E rd N ops o rest K s b false := ⟨fun _ => h, fun e => by simp [hq] at e⟩
theorem gd_skip_t (hq : b = true) (h : AOps E rd N ops rest K (s.put o.dst (.v undef))) : GD E rd N ops o rest K s b false := ⟨fun e => by simp [hq] at e, fun _ => h⟩
theorem gd_skip_f (hq : b = false) (h : AOps E rd N ops rest K (s.put o.dst (.v undef))) : GD E rd N ops o rest K s b true := ⟨fun e => by simp [hq] at e, fun _ => h⟩
theorem gd_run_nt (hq : b = false) (h : AOps E rd N ops ({ o with guard := none } :: rest) K s) : GD E rd N ops o rest K s (!b) true := ⟨fun _ => h, fun e => by simp [hq] at e⟩
theorem gd_run_nf (hq : b = true) (h : AOps E rd N ops ({ o with guard := none } :: rest) K s) : GD E rd N ops o rest K s (!b) false := ⟨fun _ => h, fun e => by simp [hq] at e⟩
theorem gd_skip_nt (hq : b = false) (h : AOps E rd N ops rest K (s.put o.dst (.v undef))) : GD E rd N ops o rest K s (!b) false := ⟨fun e => by simp [hq] at e, fun _ => h⟩
theorem gd_skip_nf (hq : b = true) (h : AOps E rd N ops rest K (s.put o.dst (.v undef))) : GD E rd N ops o rest K s (!b) true := ⟨fun e => by simp [hq] at e, fun _ => h⟩
theorem gd_split_n {want : Bool} (ht : b = true → GD E rd N ops o rest K s (!b) want) (hf : b = false → GD E rd N ops o rest K s (!b) want) : GD E rd N ops o rest K s (!b) want := by
  cases b
  · exact hf rfl
  · exact ht rfl
theorem gd_split_d {want : Bool} (ht : q → GD E rd N ops o rest K s (decide q) want) (hf : ¬ q → GD E rd N ops o rest K s (decide q) want) : GD E rd N ops o rest K s (decide q) want := by
  by_cases hq : q
  · exact ht hq
  · exact hf hq
theorem gd_split {want : Bool} (ht : b = true → GD E rd N ops o rest K s b want) (hf : b = false → GD E rd N ops o rest K s b want) : GD E rd N ops o rest K s b want := by
  cases hb : b
  · rw [hb] at hf; exact hf rfl
  · rw [hb] at ht; exact ht rfl
end
/-- A pick, however its test stands. -/
structure PK (E : Env) (rd : Option Nat) (N : Nat) (ops : Array Oper) (rest : List Oper) (K : AS → Prop) (s : AS) (d : Option Tmp) (x y : Operand) (b : Bool) : Prop where
  t : b = true → AOps E rd N ops rest K (s.put d (aeval N s x))
  f : b = false → AOps E rd N ops rest K (s.put d (aeval N s y))
theorem aops_pick_any {c x y : Operand} {b : Bool} (hc : aeval N s c = .v (.bool b)) (h : PK E rd N ops rest K s d x y b) : AOps E rd N ops (⟨d, .pick c x y, T, p, af, none⟩ :: rest) K s := by
  cases hb : b
  · exact aops_pick_f hc hb (h.f hb)
  · exact aops_pick_t hc hb (h.t hb)
section
variable {x y : Operand} {q : Prop} [Decidable q] {b : Bool}
theorem pk_dt (hq : q) (h : AOps E rd N ops rest K (s.put d (aeval N s x))) : PK E rd N ops rest K s d x y (decide q) := ⟨fun _ => h, fun e => by simp [hq] at e⟩
theorem pk_df (hq : ¬ q) (h : AOps E rd N ops rest K (s.put d (aeval N s y))) : PK E rd N ops rest K s d x y (decide q) := ⟨fun e => by simp [hq] at e, fun _ => h⟩
theorem pk_nt (hq : b = false) (h : AOps E rd N ops rest K (s.put d (aeval N s x))) : PK E rd N ops rest K s d x y (!b) := ⟨fun _ => h, fun e => by simp [hq] at e⟩
theorem pk_nf (hq : b = true) (h : AOps E rd N ops rest K (s.put d (aeval N s y))) : PK E rd N ops rest K s d x y (!b) := ⟨fun e => by simp [hq] at e, fun _ => h⟩
theorem pk_t (hq : b = true) (h : AOps E rd N ops rest K (s.put d (aeval N s x))) : PK E rd N ops rest K s d x y b := ⟨fun _ => h, fun e => by simp [hq] at e⟩
theorem pk_f (hq : b = false) (h : AOps E rd N ops rest K (s.put d (aeval N s y))) : PK E rd N ops rest K s d x y b := ⟨fun e => by simp [hq] at e, fun _ => h⟩
end
/-- A test, however it stands. -/
structure CD (E : Env) (rd : Option Nat) (N : Nat) (x y : Code) (Q : Exit → AS → Prop) (s : AS) (b : Bool) : Prop where
  t : b = true → AWp E rd N x Q s
  f : b = false → AWp E rd N y Q s
theorem awp_cond_any {c : Operand} {x y : Code} {Q : Exit → AS → Prop} {b : Bool} (hc : aeval N s c = .v (.bool b)) (h : CD E rd N x y Q s b) : AWp E rd N (.cond c x y) Q s := awp_cond hc h.t h.f
section
variable {x y : Code} {Q : Exit → AS → Prop} {q : Prop} [Decidable q] {b : Bool}
theorem cd_dt (hq : q) (h : AWp E rd N x Q s) : CD E rd N x y Q s (decide q) := ⟨fun _ => h, fun e => by simp [hq] at e⟩
theorem cd_df (hq : ¬ q) (h : AWp E rd N y Q s) : CD E rd N x y Q s (decide q) := ⟨fun e => by simp [hq] at e, fun _ => h⟩
theorem cd_t (hq : b = true) (h : AWp E rd N x Q s) : CD E rd N x y Q s b := ⟨fun _ => h, fun e => by simp [hq] at e⟩
theorem cd_f (hq : b = false) (h : AWp E rd N y Q s) : CD E rd N x y Q s b := ⟨fun e => by simp [hq] at e, fun _ => h⟩
theorem cd_nt (hq : b = false) (h : AWp E rd N x Q s) : CD E rd N x y Q s (!b) := ⟨fun _ => h, fun e => by simp [hq] at e⟩
theorem cd_nf (hq : b = true) (h : AWp E rd N y Q s) : CD E rd N x y Q s (!b) := ⟨fun e => by simp [hq] at e, fun _ => h⟩
theorem cd_n (ht : b = false → AWp E rd N x Q s) (hf : b = true → AWp E rd N y Q s) : CD E rd N x y Q s (!b) := ⟨fun e => ht (by simpa using e), fun e => hf (by simpa using e)⟩
theorem cd_d (ht : q → AWp E rd N x Q s) (hf : ¬ q → AWp E rd N y Q s) : CD E rd N x y Q s (decide q) := ⟨fun e => ht (of_decide_eq_true e), fun e => hf (of_decide_eq_false e)⟩
theorem cd_s (ht : b = true → AWp E rd N x Q s) (hf : b = false → AWp E rd N y Q s) : CD E rd N x y Q s b := ⟨ht, hf⟩
end
theorem aops_not_d {x : Operand} {t : TypeId} {q : Prop} [Decidable q] (hx : aeval N s x = Bv (decide q))
    (h : AOps E rd N ops rest K (s.put d (Bv (decide (¬ q))))) : AOps E rd N ops (⟨d, .unOp .not t x, T, p, af, none⟩ :: rest) K s :=
  aops_not hx (by rw [show (!decide q) = decide (¬ q) by simp]; exact h)
/-- A test that gives its own answer: both ways met again. -/
theorem aops_pick_and {c x y : Operand} {b r : Bool} (hc : aeval N s c = Bv b) (hx : aeval N s x = Bv r) (hy : aeval N s y = Bv false) (h : AOps E rd N ops rest K (s.put d (Bv (b && r)))) : AOps E rd N ops (⟨d, .pick c x y, T, p, af, none⟩ :: rest) K s := by
  cases b
  · exact aops_pick_f hc rfl (by rw [hy]; exact h)
  · exact aops_pick_t hc rfl (by rw [hx]; exact h)
theorem aops_pick_or {c x y : Operand} {b r : Bool} (hc : aeval N s c = Bv b) (hx : aeval N s x = Bv true) (hy : aeval N s y = Bv r) (h : AOps E rd N ops rest K (s.put d (Bv (b || r)))) : AOps E rd N ops (⟨d, .pick c x y, T, p, af, none⟩ :: rest) K s := by
  cases b
  · exact aops_pick_f hc rfl (by rw [hy]; exact h)
  · exact aops_pick_t hc rfl (by rw [hx]; exact h)
theorem aops_pick_dt {c x y : Operand} {q : Prop} [Decidable q] (hc : aeval N s c = .v (.bool (decide q))) (hq : q) (h : AOps E rd N ops rest K (s.put d (aeval N s x))) : AOps E rd N ops (⟨d, .pick c x y, T, p, af, none⟩ :: rest) K s :=
  aops_pick_t hc (decide_eq_true hq) h
theorem aops_pick_df {c x y : Operand} {q : Prop} [Decidable q] (hc : aeval N s c = .v (.bool (decide q))) (hq : ¬ q) (h : AOps E rd N ops rest K (s.put d (aeval N s y))) : AOps E rd N ops (⟨d, .pick c x y, T, p, af, none⟩ :: rest) K s :=
  aops_pick_f hc (decide_eq_false hq) h
theorem wrap_i64 {n : Int} (h : -9223372036854775808 ≤ n) (h' : n ≤ 9223372036854775807) : IntKind.i64.wrap n = n := IntWalk.i64_in n ⟨h, h'⟩

/-- A piece of a string. -/
theorem aops_sliceS {x : Operand} {t : TypeId} {lo hi : Option Operand} {l : List UInt8} {i j : Int} (hx : aeval N s x = Sv l) (hu : E.P.underlying t = some .string)
    (hlo : match lo with | none => i = 0 | some y => ∃ k, aeval N s y = .v (.int k i)) (hhi : match hi with | none => j = l.length | some y => ∃ k, aeval N s y = .v (.int k j)) (h0 : 0 ≤ i) (h1 : i ≤ j) (h2 : j ≤ l.length)
    (h : AOps E rd N ops rest K (s.put d (Sv ((l.take j.toNat).drop i.toNat)))) : AOps E rd N ops (⟨d, .slice t x lo hi none, T, p, af, none⟩ :: rest) K s :=
  aops_scalar _ rfl nofun (fun ρ w he => by
    have e0 : 0 ≤ j := Int.le_trans h0 h1
    have hij : i ≤ (j.toNat : Int) := by rw [Int.toNat_of_nonneg e0]; exact h1
    have ex := extract_mk l i.toNat j.toNat
    cases lo with
    | none =>
      simp only at hlo
      subst hlo
      cases hi with
      | none =>
        simp only at hhi
        subst hhi
        simp [execOp, he _ _ hx, Instr.sliceAt, Instr.slice, run_underlying hu, Instr.sliceBounds]
      | some y =>
        obtain ⟨k, hy⟩ := hhi
        simp [execOp, he _ _ hx, he _ _ hy, Instr.sliceAt, Instr.slice, run_underlying hu, Instr.sliceBounds, Instr.sliceBound, asIntOf, size_mk, e0, h2, extract_mk]
    | some z =>
      obtain ⟨k', hz⟩ := hlo
      cases hi with
      | none =>
        simp only at hhi
        subst hhi
        simp [execOp, he _ _ hx, he _ _ hz, Instr.sliceAt, Instr.slice, run_underlying hu, Instr.sliceBounds, Instr.sliceBound, asIntOf, size_mk, h0, h1, extract_mk]
      | some y =>
        obtain ⟨k, hy⟩ := hhi
        simp [execOp, he _ _ hx, he _ _ hy, he _ _ hz, Instr.sliceAt, Instr.slice, run_underlying hu, Instr.sliceBounds, Instr.sliceBound, asIntOf, size_mk, h0, e0, h2, extract_mk]
        intro hh
        omega) h

end

/-- A contract over values alone, whose world only grows. -/
theorem acall_of_calls {E : Env} {f : FuncId} {st : List AObj} {args : List AV} {vals : Array Value} {r : Value} (ha : args = vals.toList.map .v)
    (h : ∀ (B0 : Nat) (w0 w : World), E.L B0 w0 → Below B0 w0 w → Calls E.P f vals w fun e w' => e = .returned r ∧ Below w.heap.size w w') : ACall E f args st fun a st' => a = .v r ∧ st' = st := by
  refine ⟨fun B0 w0 G vs w hL hA hR => ?_⟩
  have hvs : vs = vals := by
    subst ha
    have hs : vs.size = vals.size := by have := hR.1; simp at this; omega
    apply Array.ext hs
    intro i h1 h2
    have := hR.2 i (.v vals[i]) vs[i] (by simp [h2]) (by simp [h1])
    generalize vs[i] = y at this
    cases this
    rfl
  rw [hvs]
  refine (h B0 w0 w hL hA.below).mono ?_
  rintro e w' ⟨rfl, hb⟩
  exact ⟨r, G, .v r, st, rfl, .refl G, hA.fresh hb, .v r, rfl, rfl⟩
/-- The same, where the answer is several values. -/
theorem acall_of_calls_tu {E : Env} {f : FuncId} {st : List AObj} {args : List AV} {vals rs : Array Value} (ha : args = vals.toList.map .v)
    (h : ∀ (B0 : Nat) (w0 w : World), E.L B0 w0 → Below B0 w0 w → Calls E.P f vals w fun e w' => e = .returned (.tuple rs) ∧ Below w.heap.size w w') : ACall E f args st fun a st' => a = .tu (rs.toList.map .v) ∧ st' = st := by
  refine ⟨fun B0 w0 G vs w hL hA hR => ?_⟩
  have hvs : vs = vals := by
    subst ha
    have hs : vs.size = vals.size := by have := hR.1; simp at this; omega
    apply Array.ext hs
    intro i h1 h2
    have := hR.2 i (.v vals[i]) vs[i] (by simp [h2]) (by simp [h1])
    generalize vs[i] = y at this
    cases this
    rfl
  rw [hvs]
  refine (h B0 w0 w hL hA.below).mono ?_
  rintro e w' ⟨rfl, hb⟩
  refine ⟨_, G, .tu (rs.toList.map .v), st, rfl, .refl G, hA.fresh hb, .tu _ _ (by simp) fun i x y hx hy => ?_, rfl, rfl⟩
  simp only [List.getElem?_map, Array.getElem?_toList, hy, Option.map_some, Option.some.injEq] at hx
  subst hx
  exact .v y

theorem below_drewN (w : World) (n : Nat) : Below w.heap.size w (w.drewN n) := ⟨rfl, rfl, rfl, Nat.le_refl _, fun _ _ => rfl⟩
theorem below_grow (w : World) (k : Nat) (os : Array Obj) : Below w.heap.size w (Sort.grow (w.drewN k) os) := by
  refine ⟨rfl, rfl, rfl, by simp [Sort.grow, World.drewN], fun j hj => ?_⟩
  simp only [Sort.grow, World.drewN, Array.getElem?_append]
  rw [if_pos hj]
theorem below_of_eq {w w' : World} (h : w' = w) : Below w.heap.size w w' := h ▸ Below.refl _ _
end Go.Av
