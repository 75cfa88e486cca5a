/- Slices: their lengths, their elements, literals, appends; tests against nil. Generic: names no program. -/
import Derived.Test.YtopmpdoigmenmaaDoorAr
import Derived.WideLaws
set_option linter.unusedVariables false
namespace Go.Av
open Go Go.RowKit

section
variable {E : Env} {rd : Option Nat} {N : Nat} {ops : Array Oper} {K : AS → Prop} {s : AS} {rest : List Oper} {d : Option Tmp} {T : TypeId} {p : String} {af : Array Edge}

theorem aops_errEqNil {x : Operand} {t t' u : TypeId} {y : AV} {ms : Array (String × TypeId)} (hx : aeval N s x = .ifc u y) (hu : E.P.underlying t = some (.interface ms))
    (h : AOps E rd N ops rest K (s.put d (Bv false))) : AOps E rd N ops (⟨d, .binOp .eql t x (.const .nilIface) t', T, p, af, none⟩ :: rest) K s := by
  refine aops_cons rfl (aop_of_run nofun fun B0 w0 G a w _ hI => ?_)
  have he := hI.eval_of hx
  generalize hv : a.eval x = v at he
  cases he with
  | ifc _ _ z hz =>
    refine ⟨.bool false, w, G, Bv false, s.st, ?_, .refl G, hI.agree, .v _, h⟩
    have hc : a.eval (.const .nilIface) = .nilIface := rfl
    generalize a.eval = ρ at hv hc
    have hq := run_eql_held_nil (P := E.P) (w := w) t u z (by rw [hu]; simp [Program.methodsAt, hu])
    simp [execOp, hv, hc, eqGuard_at_iface, hq]
theorem aops_errNeNil {x : Operand} {t t' u : TypeId} {y : AV} {ms : Array (String × TypeId)} (hx : aeval N s x = .ifc u y) (hu : E.P.underlying t = some (.interface ms))
    (h : AOps E rd N ops rest K (s.put d (Bv true))) : AOps E rd N ops (⟨d, .binOp .neq t x (.const .nilIface) t', T, p, af, none⟩ :: rest) K s := by
  refine aops_cons rfl (aop_of_run nofun fun B0 w0 G a w _ hI => ?_)
  have he := hI.eval_of hx
  generalize hv : a.eval x = v at he
  cases he with
  | ifc _ _ z hz =>
    refine ⟨.bool true, w, G, Bv true, s.st, ?_, .refl G, hI.agree, .v _, h⟩
    have hc : a.eval (.const .nilIface) = .nilIface := rfl
    generalize a.eval = ρ at hv hc
    have hq := run_neq_held_nil (P := E.P) (w := w) t u z (by rw [hu]; simp [Program.methodsAt, hu])
    simp [execOp, hv, hc, eqGuard_at_iface, hq]
theorem aops_nilEqNil {x : Operand} {t t' : TypeId} {ms : Array (String × TypeId)} (hx : aeval N s x = .v .nilIface) (hu : E.P.underlying t = some (.interface ms))
    (h : AOps E rd N ops rest K (s.put d (Bv true))) : AOps E rd N ops (⟨d, .binOp .eql t x (.const .nilIface) t', T, p, af, none⟩ :: rest) K s :=
  aops_scalar _ rfl nofun (fun ρ w he => by
    have h1 := he _ _ hx
    have h2 := he (.const .nilIface) _ rfl
    have hq := run_eql_nil_nil (P := E.P) (w := w) t (by rw [hu]; simp [Program.methodsAt, hu])
    simp [execOp, h1, h2, eqGuard_nil_constR, hq]) h
theorem aops_nilNeNil {x : Operand} {t t' : TypeId} {ms : Array (String × TypeId)} (hx : aeval N s x = .v .nilIface) (hu : E.P.underlying t = some (.interface ms))
    (h : AOps E rd N ops rest K (s.put d (Bv false))) : AOps E rd N ops (⟨d, .binOp .neq t x (.const .nilIface) t', T, p, af, none⟩ :: rest) K s :=
  aops_scalar _ rfl nofun (fun ρ w he => by
    have h1 := he _ _ hx
    have h2 := he (.const .nilIface) _ rfl
    have hq := run_neq_nil_nil (P := E.P) (w := w) t (by rw [hu]; simp [Program.methodsAt, hu])
    simp [execOp, h1, h2, eqGuard_nil_constR, hq]) h

/-- A slice's length. -/
def lenA : AV → Option Nat
  | .sl _ xs _ => some xs.length
  | .os _ _ _ len => some len
  | .v (.slice _ n _) => some n
  | _ => none
theorem aops_lenL {x : Operand} {ts : Array TypeId} {t0 e : TypeId} {v : AV} {n : Nat} (hx : aeval N s x = v) (hl : lenA v = some n) (ht : ts[0]? = some t0) (hu : E.P.underlying t0 = some (.slice e))
    (h : AOps E rd N ops rest K (s.put d (Iv n))) : AOps E rd N ops (⟨d, .call ⟨.builtin .len, #[x], ts⟩, T, p, af, none⟩ :: rest) K s := by
  refine aops_cons rfl (aop_of_run nofun fun B0 w0 G a w _ hI => ?_)
  have he := hI.eval_of hx
  have key : ∃ b c, a.eval x = .slice b n c := by
    generalize a.eval x = u at he
    cases he <;> simp [lenA] at hl
    case v y =>
      cases u <;> simp at hl
      subst hl
      exact ⟨_, _, rfl⟩
    case sl0 => subst hl; exact ⟨_, _, rfl⟩
    case sl => subst hl; exact ⟨_, _, rfl⟩
    case os => subst hl; exact ⟨_, _, rfl⟩
  obtain ⟨b, c, hv⟩ := key
  refine ⟨.int .i64 n, w, G, Iv n, s.st, ?_, .refl G, hI.agree, .v _, h⟩
  generalize a.eval = ρ at hv
  simp [execOp, resolve, invoke, builtin, Builtin.len_, hv, ht, run_underlying hu, goInt]

theorem flat_cons (x : AV) (xs : List AV) : flat (x :: xs) = x.cells ++ flat xs := rfl
theorem flat_append (xs ys : List AV) : flat (xs ++ ys) = flat xs ++ flat ys := by simp [flat]
theorem flat_length {sz : Nat} : ∀ {xs : List AV}, (∀ x ∈ xs, x.cells.length = sz) → (flat xs).length = xs.length * sz := by
  intro xs
  induction xs with
  | nil => intro _; simp [flat]
  | cons x xs ih =>
    intro h
    rw [flat_cons, List.length_append, h x (by simp), ih (fun y hy => h y (by simp [hy])), List.length_cons, Nat.succ_mul, Nat.add_comm]
theorem flat_get {sz : Nat} : ∀ {xs : List AV}, (∀ x ∈ xs, x.cells.length = sz) → ∀ {k : Nat} {x : AV}, xs[k]? = some x → ∀ j, j < sz → (flat xs)[k * sz + j]? = x.cells[j]? := by
  intro xs
  induction xs with
  | nil => intro _ k x hx; simp at hx
  | cons y xs ih =>
    intro h k x hx j hj
    have hy := h y (by simp)
    cases k with
    | zero =>
      simp at hx
      subst hx
      rw [flat_cons, Nat.zero_mul, Nat.zero_add, List.getElem?_append_left (by omega)]
    | succ k =>
      rw [flat_cons, List.getElem?_append_right (by rw [hy, Nat.succ_mul]; omega), hy]
      rw [show (k + 1) * sz + j - sz = k * sz + j by rw [Nat.succ_mul]; omega]
      exact ih (fun z hz => h z (by simp [hz])) (by simpa using hx) j hj

/-- An element's address, in memory that nobody writes. -/
theorem aops_indexAddr {x y : Operand} {t e : TypeId} {sz : Nat} {agg : Bool} {xs : List AV} {tip : Option Nat} {k : IntKind} {i : Int} {n : Nat} {z : AV} (hx : aeval N s x = .sl sz xs tip) (hy : aeval N s y = .v (.int k i)) (hu : E.P.underlying t = some (.slice e)) (ht : tyOf E.P e = some (sz, agg)) (hi : i = n) (hz : xs[n]? = some z)
    (h : AOps E rd N ops rest K (s.put d (.pp z.cells))) : AOps E rd N ops (⟨d, .indexAddr t x y, T, p, af, none⟩ :: rest) K s := by
  refine aops_cons rfl (aop_of_run nofun fun B0 w0 G a w _ hI => ?_)
  subst hi
  have he := hI.eval_of hx
  have hey := hI.evalv hy
  generalize hv : a.eval x = v at he
  have hlt := lt_of_getElem? hz
  cases he with
  | sl0 => simp at hz
  | sl _ _ _ b off cap pub hp hw hlen hrel htip =>
    have hzs : z.cells.length = sz := hw z (List.mem_of_getElem? hz)
    have hfl := flat_length hw
    have hle : (n + 1) * sz ≤ xs.length * sz := Nat.mul_le_mul_right _ hlt
    rw [Nat.succ_mul] at hle
    refine ⟨.pointer (some ⟨b, off + n * sz, none⟩), w, G, .pp z.cells, s.st, ?_, .refl G, hI.agree, ?_, h⟩
    · generalize a.eval = ρ at hv hey
      simp only [execOp, hv, hey]
      simp [Instr.indexAt, asIntOf, run_underlying hu, hlt, (tyOf_info ht w).1, Addr.add_lit]
    · refine .pp _ b _ pub hp (by omega) fun j q r h1 h2 => ?_
      have hj : j < sz := by have := lt_of_getElem? h1; omega
      have hf := flat_get hw hz j hj
      exact hrel (n * sz + j) q r (by rw [hf]; exact h1) (by rw [← h2]; congr 1; omega)

/-- An element's address in a block of the calls' own. -/
theorem aops_indexAddr_os {x y : Operand} {t e : TypeId} {sz : Nat} {agg : Bool} {o ver off len : Nat} {k : IntKind} {i : Int} {n : Nat} (hx : aeval N s x = .os o ver off len) (hy : aeval N s y = .v (.int k i)) (hu : E.P.underlying t = some (.slice e)) (ht : tyOf E.P e = some (sz, agg)) (hi : i = n) (hn : n < len)
    (h : AOps E rd N ops rest K (s.put d (.bx o ver (off + n * sz)))) : AOps E rd N ops (⟨d, .indexAddr t x y, T, p, af, none⟩ :: rest) K s := by
  refine aops_cons rfl (aop_of_run nofun fun B0 w0 G a w _ hI => ?_)
  subst hi
  have he := hI.eval_of hx
  have hey := hI.evalv hy
  generalize hv : a.eval x = v at he
  cases he with
  | os _ _ _ _ b cap hn' hver hb =>
    refine ⟨.pointer (some ⟨b, off + n * sz, none⟩), w, G, _, s.st, ?_, .refl G, hI.agree, .bx o ver _ b hn' hver hb, h⟩
    generalize a.eval = ρ at hv hey
    simp only [execOp, hv, hey]
    simp [Instr.indexAt, asIntOf, run_underlying hu, hn, (tyOf_info ht w).1, Addr.add_lit]

/-- A frame whose named slots hold what is said; of the others nothing is known. -/
def puts (t : Nat → AV) : List (Nat × AV) → Nat → AV
  | [] => t
  | (i, v) :: r => put (puts t r) i v
def HasL (t : Nat → AV) : List (Nat × AV) → Prop
  | [] => True
  | (i, v) :: r => t i = v ∧ HasL t r
def StA (L : List (Nat × AV)) (st : List AObj) (df : List Nat) (s : AS) : Prop := ∃ t, s = ⟨puts t L, st, df⟩
theorem put_self (t : Nat → AV) (i : Nat) : put t i (t i) = t := by
  funext j
  by_cases h : j = i
  · subst h; rw [put_same]
  · rw [put_ne _ _ _ _ h]
theorem puts_of {t : Nat → AV} : ∀ {L : List (Nat × AV)}, HasL t L → puts t L = t
  | [], _ => rfl
  | (i, v) :: r, h => by
    simp only [puts]
    rw [puts_of h.2, ← h.1, put_self]
theorem stA_mk {t : Nat → AV} {L : List (Nat × AV)} {st : List AObj} {df : List Nat} (h : HasL t L) : StA L st df ⟨t, st, df⟩ := ⟨t, by rw [puts_of h]⟩

/-- A loop with what goes along it. -/
theorem awp_loopG {σ : Type} {c : Code} {Q : Exit → AS → Prop} (I : σ → AS → Prop) (μ : σ → Nat) (x0 : σ) (h0 : I x0 s)
    (hr : ∀ x s, I x s → AWp E rd N c (thenA (fun s' => ∃ x', I x' s' ∧ μ x' < μ x) Q) s) : AWp E rd N (.loop c) Q s := by
  refine ⟨fun B0 w0 G a w hL hI b k cs hro hb hroom => ?_⟩
  have key : ∀ n (x : σ) (s : AS) (G : Gh) (a : Act) (w : World), μ x = n → I x s → Inv B0 w0 N G s a w →
      ∃ e a' w', (∃ (G' : Gh) (s' : AS), G.le G' ∧ Inv B0 w0 N G' s' a' w' ∧ Q e s') ∧ ArrivesIn (Machine.fenced E.P (fw rd)) E.P (lone (b.atR a (.code c :: .inLoop c :: k)) cs w) b k cs e a' w' := by
    intro n
    induction n using Nat.strongRecOn with
    | _ n ih =>
      intro x s G a w hn hs hI
      obtain ⟨e, a1, w1, ⟨G1, s1, hG, hI1, hQ⟩, harr⟩ := (hr x s hs).run B0 w0 G a w hL hI b (.inLoop c :: k) cs hro hb hroom
      cases e with
      | normal =>
        obtain ⟨x1, hs1, hlt⟩ := hQ
        obtain ⟨e2, a2, w2, ⟨G2, s2, hG2, hI2, hQ2⟩, harr2⟩ := ih _ (hn ▸ hlt) x1 s1 G1 a1 w1 rfl hs1 hI1
        exact ⟨e2, a2, w2, ⟨G2, s2, hG.trans hG2, hI2, hQ2⟩, .of_steps (StepsIn.trans harr (.one (fenced_calm hb hroom rfl) stepR_inLoop)) harr2⟩
      | exit id => exact ⟨_, a1, w1, ⟨G1, s1, hG, hI1, hQ⟩, .pass (x := .inLoop c) rfl (fun _ _ => .inl (by simp)) harr⟩
      | goto l => exact ⟨_, a1, w1, ⟨G1, s1, hG, hI1, hQ⟩, .pass (x := .inLoop c) rfl (fun _ _ => .inl (by simp)) harr⟩
      | ret => exact ⟨_, a1, w1, ⟨G1, s1, hG, hI1, hQ⟩, .pass (x := .inLoop c) rfl (fun _ _ => .inl (by simp)) harr⟩
      | panic ch => exact ⟨_, a1, w1, ⟨G1, s1, hG, hI1, hQ⟩, .pass (x := .inLoop c) rfl (fun _ _ => .inl (by simp)) harr⟩
      | outgrown => exact ⟨_, a1, w1, ⟨G1, s1, hG, hI1, hQ⟩, .pass (x := .inLoop c) rfl (fun _ _ => .inl (by simp)) harr⟩
  obtain ⟨e, a', w', hq, harr⟩ := key _ x0 s G a w rfl h0 hI
  exact ⟨e, a', w', hq, .of_steps (.one (fenced_calm hb hroom rfl) stepR_loop) harr⟩

/-- A call whose contract says the very answer. -/
theorem aops_call1 {f : FuncId} {xs : Array Operand} {ts : Array TypeId} {r : AV} {st' : List AObj} (hrun : ∀ vs w, (callFunc f vs).run E.P w = .ok (.enter f vs) w)
    (hc : ACall E f (xs.toList.map (aeval N s)) s.st fun a st1 => a = r ∧ st1 = st') (h : AOps E rd N ops rest K (AS.put ⟨s.t, st', s.df⟩ d r)) : AOps E rd N ops (⟨d, .call ⟨.value (.func f), xs, ts⟩, T, p, af, none⟩ :: rest) K s :=
  aops_call hrun (hc.mono fun a st1 ⟨h1, h2⟩ => by rw [h1, h2]; exact h)

theorem get_loc {st loc : List AObj} {k : Nat} {x : AObj} (h : loc[k]? = some x) : (st ++ loc)[st.length + k]? = some x := by
  rw [List.getElem?_append_right (Nat.le_add_right _ _), Nat.add_sub_cancel_left]
  exact h
theorem set_loc (st loc : List AObj) (k : Nat) (x : AObj) : (st ++ loc).set (st.length + k) x = st ++ loc.set k x := by
  rw [List.set_append_right _ _ (Nat.le_add_right _ _), Nat.add_sub_cancel_left]
/-- A load from a variable of the call's own. -/
theorem aops_load_loc {x : Operand} {t : TypeId} {sz : Nat} {agg : Bool} {st loc : List AObj} {k ver off : Nat} {T' : TypeId} {cs : List AV} {r : AV} (hs : s.st = st ++ loc) (hx : aeval N s x = .bx (st.length + k) ver off) (ho : loc[k]? = some (.cells ver T' cs)) (ht : tyOf E.P t = some (sz, agg)) (hr : aloadC sz agg off cs = some r)
    (h : AOps E rd N ops rest K (s.put d r)) : AOps E rd N ops (⟨d, .load t x, T, p, af, none⟩ :: rest) K s :=
  aops_load_bx hx (by rw [hs]; exact get_loc ho) ht hr h
theorem set_self {st : List AObj} {o : Nat} {x : AObj} (h : st[o]? = some x) : st.set o x = st := by
  apply List.ext_getElem?
  intro k
  by_cases e : o = k
  · subst e; rw [List.getElem?_set_self (lt_of_getElem? h)]; exact h.symm
  · rw [List.getElem?_set_ne e]
theorem get_set {st : List AObj} {o : Nat} {x y : AObj} (h : st[o]? = some x) : (st.set o y)[o]? = some y := by
  have := lt_of_getElem? h
  simp [this]
theorem get_set_ne {st : List AObj} {o k : Nat} {x y : AObj} (h : st[k]? = some x) (hne : o ≠ k) : (st.set o y)[k]? = some x := by
  rw [List.getElem?_set_ne hne]; exact h
def allOne (xs : List AV) : Bool := xs.all AV.one
/-- A store into a variable of the call's own. -/
theorem aops_store_loc {x y : Operand} {t : TypeId} {sz : Nat} {agg : Bool} {st loc loc' : List AObj} {k ver off : Nat} {T' : TypeId} {cs xs : List AV} {r : AV} (hs : s.st = st ++ loc) (hx : aeval N s x = .bx (st.length + k) ver off) (hy : aeval N s y = r) (ho : loc[k]? = some (.cells ver T' cs)) (ht : tyOf E.P t = some (sz, agg))
    (hok : r.okc = true) (hc : r.cells = xs) (hsz : Nat.beq xs.length sz = true) (h1 : allOne xs = true) (hfit : Nat.ble (off + sz) cs.length = true) (hl : loc' = loc.set k (.cells ver T' (splice cs off xs)))
    (h : AOps E rd N ops rest K (AS.put ⟨s.t, st ++ loc', s.df⟩ d (.v undef))) : AOps E rd N ops (⟨d, .store t x y, T, p, af, none⟩ :: rest) K s :=
  aops_store hx hy (by rw [hs]; exact get_loc ho) ht hok hc (Nat.eq_of_beq_eq_true hsz) (by simpa [allOne] using h1) (Nat.le_of_ble_eq_true hfit) (by rw [hs, set_loc, ← hl]; exact h)
theorem aops_load_locn {x : Operand} {t : TypeId} {sz : Nat} {agg : Bool} {st loc : List AObj} {n k ver off : Nat} {T' : TypeId} {cs : List AV} {r : AV} (hs : s.st = st ++ loc) (hn : st.length = n) (hx : aeval N s x = .bx (n + k) ver off) (ho : loc[k]? = some (.cells ver T' cs)) (ht : tyOf E.P t = some (sz, agg)) (hr : aloadC sz agg off cs = some r)
    (h : AOps E rd N ops rest K (s.put d r)) : AOps E rd N ops (⟨d, .load t x, T, p, af, none⟩ :: rest) K s := by
  subst hn
  exact aops_load_loc hs hx ho ht hr h
theorem aops_store_locn {x y : Operand} {t : TypeId} {sz : Nat} {agg : Bool} {st loc loc' : List AObj} {n k ver off : Nat} {T' : TypeId} {cs xs : List AV} {r : AV} (hs : s.st = st ++ loc) (hn : st.length = n) (hx : aeval N s x = .bx (n + k) ver off) (hy : aeval N s y = r) (ho : loc[k]? = some (.cells ver T' cs)) (ht : tyOf E.P t = some (sz, agg))
    (hok : r.okc = true) (hc : r.cells = xs) (hsz : Nat.beq xs.length sz = true) (h1 : allOne xs = true) (hfit : Nat.ble (off + sz) cs.length = true) (hl : loc' = loc.set k (.cells ver T' (splice cs off xs)))
    (h : AOps E rd N ops rest K (AS.put ⟨s.t, st ++ loc', s.df⟩ d (.v undef))) : AOps E rd N ops (⟨d, .store t x y, T, p, af, none⟩ :: rest) K s := by
  subst hn
  exact aops_store_loc hs hx hy ho ht hok hc hsz h1 hfit hl h
/-- A load from an object of the callers'. -/
theorem aops_load_low {x : Operand} {t : TypeId} {sz : Nat} {agg : Bool} {st loc : List AObj} {o ver off : Nat} {T' : TypeId} {cs : List AV} {r : AV} (hs : s.st = st ++ loc) (hx : aeval N s x = .bx o ver off) (ho : st[o]? = some (.cells ver T' cs)) (ht : tyOf E.P t = some (sz, agg)) (hr : aloadC sz agg off cs = some r)
    (h : AOps E rd N ops rest K (s.put d r)) : AOps E rd N ops (⟨d, .load t x, T, p, af, none⟩ :: rest) K s :=
  aops_load_bx hx (by rw [hs, List.getElem?_append_left (lt_of_getElem? ho)]; exact ho) ht hr h
/-- A store into an object whose cells are known. -/
theorem aops_store_at {x y : Operand} {t : TypeId} {sz : Nat} {agg : Bool} {o ver off : Nat} {T' : TypeId} {cs xs : List AV} {r : AV} (hx : aeval N s x = .bx o ver off) (hy : aeval N s y = r) (ho : s.st[o]? = some (.cells ver T' cs)) (ht : tyOf E.P t = some (sz, agg))
    (hok : r.okc = true) (hc : r.cells = xs) (hsz : Nat.beq xs.length sz = true) (h1 : allOne xs = true) (hfit : Nat.ble (off + sz) cs.length = true)
    (h : AOps E rd N ops rest K (AS.put ⟨s.t, s.st.set o (.cells ver T' (splice cs off xs)), s.df⟩ d (.v undef))) : AOps E rd N ops (⟨d, .store t x y, T, p, af, none⟩ :: rest) K s :=
  aops_store hx hy ho ht hok hc (Nat.eq_of_beq_eq_true hsz) (by simpa [allOne] using h1) (Nat.le_of_ble_eq_true hfit) h
end
end Go.Av
