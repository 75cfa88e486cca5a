/- Nil checks, pointers against nil, blocks frozen, new tips. Generic: names no program. -/
import Derived.Test.YtopmpdoigmenmaaDoorAa
import Derived.Lib.Builder
import Derived.Laws.Pointers
import Derived.Laws.Externs
set_option linter.unusedVariables false
namespace Go.Av
open Go Go.RowKit

section
variable {E : Env} {rd : Option Nat} {N : Nat} {ops : Array Oper} {K : AS → Prop} {s : AS} {rest : List Oper} {d : Option Tmp} {T : TypeId} {p : String} {af : Array Edge}

def isPtr : AV → Bool
  | .bx _ _ _ => true
  | .pp _ => true
  | _ => false
theorem aops_nilCheck {x : Operand} {r : AV} (hx : aeval N s x = r) (hr : isPtr r = true) (h : AOps E rd N ops rest K (s.put d r)) : AOps E rd N ops (⟨d, .nilCheck x, T, p, af, none⟩ :: rest) K s := by
  refine aops_cons rfl (aop_of_run nofun fun B0 w0 G a w _ hI => ?_)
  have he := hI.eval_of hx
  have key : ∃ q, a.eval x = .pointer (some q) := by
    generalize a.eval x = u at he
    cases he <;> simp [isPtr] at hr
    · exact ⟨_, rfl⟩
    · exact ⟨_, rfl⟩
  obtain ⟨q, hv⟩ := key
  refine ⟨_, w, G, r, s.st, ?_, .refl G, hI.agree, hv ▸ he, h⟩
  generalize a.eval = ρ at hv
  simp [execOp, hv]
end

section
variable {B0 : Nat} {w0 : World} {G : Gh} {st : List AObj} {w : World}
/-- A published block is frozen. -/
theorem Agree.refroze (h : Agree B0 w0 G st w) {w' : World} {g : Nat} {c : Array Value} {T : TypeId} {fz fz' : Nat × Nat} (hg : w.heap[g]? = some (.cells c T fz)) (hg' : w'.heap[g]? = some (.cells c T fz')) (ho : ∀ k, k ≠ g → w'.heap[k]? = w.heap[k]?) (hB : B0 ≤ g)
    (hsz : w'.heap.size = w.heap.size) (hos : w'.os = w.os) (htape : w'.tape = w.tape) (hout : w'.output = w.output) (hs : ∀ o x, st[o]? = some x → x.live → (G.ob o).blk ≠ g) : Agree B0 w0 G st w' := by
  refine ⟨h.below.trans ⟨hos, htape, hout, by omega, fun k hk => ho k (by omega)⟩, by rw [hsz]; exact h.hB, h.n, fun b vs hb => ?_, fun o x hx => (h.ob o x hx).mono (.refl G) rfl (fun _ => rfl) (fun hl => ho _ (hs o x hx hl)), h.sep⟩
  by_cases e : b = g
  · subst e
    obtain ⟨c2, T2, fz2, e1, e2⟩ := h.pub b vs hb
    rw [hg] at e1
    simp only [Option.some.injEq, Obj.cells.injEq] at e1
    exact ⟨c, T, fz', hg', by rw [e1.1]; exact e2⟩
  · rw [ho b e]
    exact h.pub b vs hb

/-- A cell that holds the nil slice reads as an empty row at a tip of its own. -/
theorem Agree.tipCell (h : Agree B0 w0 G st w) {o ver j sz : Nat} {T T' : TypeId} {cs : List AV} (ho : st[o]? = some (.cells ver T cs)) (hj : cs[j]? = some nilSl) :
    Agree B0 w0 (G.new 0 0 0 false) (st.set o (.cells ver T (cs.set j (.sl sz [] (some st.length)))) ++ [AObj.tip 0 sz T']) w := by
  have h1 := h.newTip sz T'
  have hle := G.le_new 0 0 0 false
  have hlt := lt_of_getElem? ho
  have e : st.set o (.cells ver T (cs.set j (.sl sz [] (some st.length)))) ++ [AObj.tip 0 sz T'] = (st ++ [AObj.tip 0 sz T']).set o (.cells ver T (cs.set j (.sl sz [] (some st.length)))) := by
    rw [List.set_append_left _ _ hlt]
  rw [e]
  have ho' : (st ++ [AObj.tip 0 sz T'])[o]? = some (.cells ver T cs) := by rw [List.getElem?_append_left hlt]; exact ho
  generalize hG : G.new 0 0 0 false = G' at h1 hle
  have hn : st.length < G'.n := by rw [h1.n]; simp
  refine ⟨h1.below, h1.hB, by simp [h1.n], h1.pub, fun k x hx => ?_, fun k k' x x' hne hx hx' hl hl' => ?_⟩
  · rcases getElem?_set' _ _ _ _ _ hx with ⟨rfl, rfl⟩ | ⟨hne, hx⟩
    · obtain ⟨g0, g1, g2, g3, c, g4, g5, g6⟩ := h1.ob k _ ho'
      refine ⟨g0, g1, g2, g3, c, g4, by simpa using g5, fun i x y hx hy => ?_⟩
      rcases getElem?_set' _ _ _ _ _ hx with ⟨rfl, rfl⟩ | ⟨_, hx⟩
      · have := g6 i _ y hj hy
        cases this
        exact .sl0 sz (some st.length) none 0 fun t ht => by simp at ht; subst ht; exact ⟨hn, rfl, rfl⟩
      · exact g6 i x y hx hy
    · exact h1.ob k x hx
  · have key : ∀ (k : Nat) (x : AObj), ((st ++ [AObj.tip 0 sz T']).set o (.cells ver T (cs.set j (.sl sz [] (some st.length)))))[k]? = some x → ∃ x0 : AObj, (st ++ [AObj.tip 0 sz T'])[k]? = some x0 ∧ (x.live → x0.live) := fun k x hx => by
      rcases getElem?_set' _ _ _ _ _ hx with ⟨rfl, rfl⟩ | ⟨_, hx⟩
      · exact ⟨_, ho', fun _ => trivial⟩
      · exact ⟨x, hx, id⟩
    obtain ⟨x0, e1, e2⟩ := key k x hx
    obtain ⟨x1, e3, e4⟩ := key k' x' hx'
    exact h1.sep k k' x0 x1 hne e1 e3 (e2 hl) (e4 hl')
end

section
variable {E : Env} {rd : Option Nat} {N : Nat} {ops : Array Oper} {K : AS → Prop} {s : AS} {rest : List Oper} {d : Option Tmp} {T : TypeId} {p : String} {af : Array Edge}

/-- A pointer against nil. -/
def ptrNil : AV → Option Bool
  | .bx _ _ _ => some false
  | .pp _ => some false
  | .v (.pointer none) => some true
  | _ => none
theorem aops_ptrEqNil {x : Operand} {t t' te : TypeId} {r : AV} {b : Bool} (hx : aeval N s x = r) (hr : ptrNil r = some b) (hu : E.P.underlying t = some (.pointer te)) (h : AOps E rd N ops rest K (s.put d (Bv b))) : AOps E rd N ops (⟨d, .binOp .eql t x (.const (.pointer none)) t', T, p, af, none⟩ :: rest) K s := by
  refine aops_cons rfl (aop_of_run nofun fun B0 w0 G a w _ hI => ?_)
  have he := hI.eval_of hx
  have key : ∃ q : Option Addr, a.eval x = .pointer q ∧ q.isNone = b := by
    generalize a.eval x = u at he
    cases he <;> try (simp [ptrNil] at hr; done)
    case v =>
      cases u <;> try (simp [ptrNil] at hr; done)
      case pointer q =>
        cases q <;> simp [ptrNil] at hr
        subst hr
        exact ⟨_, rfl, rfl⟩
    case pp => simp [ptrNil] at hr; subst hr; exact ⟨_, rfl, rfl⟩
    case bx => simp [ptrNil] at hr; subst hr; exact ⟨_, rfl, rfl⟩
  obtain ⟨q, hv, rfl⟩ := key
  have hc : a.eval (.const (.pointer none)) = .pointer none := rfl
  have hq := run_eql_pointer_nil (P := E.P) w t q (by simp [Program.pointee, hu])
  refine ⟨_, w, G, _, s.st, ?_, .refl G, hI.agree, .v _, h⟩
  generalize a.eval = ρ at hv hc
  simp [execOp, hv, hc, eqGuard_at_pointer, hq]
theorem aops_ptrNeNil {x : Operand} {t t' te : TypeId} {r : AV} {b : Bool} (hx : aeval N s x = r) (hr : ptrNil r = some b) (hu : E.P.underlying t = some (.pointer te)) (h : AOps E rd N ops rest K (s.put d (Bv !b))) : AOps E rd N ops (⟨d, .binOp .neq t x (.const (.pointer none)) t', T, p, af, none⟩ :: rest) K s := by
  refine aops_cons rfl (aop_of_run nofun fun B0 w0 G a w _ hI => ?_)
  have he := hI.eval_of hx
  have key : ∃ q : Option Addr, a.eval x = .pointer q ∧ q.isNone = b := by
    generalize a.eval x = u at he
    cases he <;> try (simp [ptrNil] at hr; done)
    case v =>
      cases u <;> try (simp [ptrNil] at hr; done)
      case pointer q =>
        cases q <;> simp [ptrNil] at hr
        subst hr
        exact ⟨_, rfl, rfl⟩
    case pp => simp [ptrNil] at hr; subst hr; exact ⟨_, rfl, rfl⟩
    case bx => simp [ptrNil] at hr; subst hr; exact ⟨_, rfl, rfl⟩
  obtain ⟨q, hv, rfl⟩ := key
  have hc : a.eval (.const (.pointer none)) = .pointer none := rfl
  have hq := run_neq_pointer_nil (P := E.P) w t q (by simp [Program.pointee, hu])
  refine ⟨_, w, G, _, s.st, ?_, .refl G, hI.agree, .v _, h⟩
  generalize a.eval = ρ at hv hc
  simp [execOp, hv, hc, eqGuard_at_pointer, hq]
theorem Inv.ptr {B0 : Nat} {w0 : World} {G : Gh} {a : Act} {w : World} (hI : Inv B0 w0 N G s a w) {x : Operand} {o ver off : Nat} {T1 : TypeId} {cs : List AV} (hx : aeval N s x = .bx o ver off) (ho : s.st[o]? = some (.cells ver T1 cs)) : a.eval x = .pointer (some ⟨(G.ob o).blk, off, none⟩) := by
  have he := hI.eval_of hx
  obtain ⟨_, h1, _⟩ := hI.agree.ob o _ ho
  generalize a.eval x = v at he
  cases he with
  | bx _ _ _ b hn hv hb => rw [hb h1]
/-- An address against itself. -/
theorem aops_ptrNeSame {x y : Operand} {t t' te : TypeId} {o ver off : Nat} {T1 : TypeId} {cs : List AV} (hx : aeval N s x = .bx o ver off) (hy : aeval N s y = .bx o ver off) (ho : s.st[o]? = some (.cells ver T1 cs)) (hu : E.P.underlying t = some (.pointer te)) (hi : (E.P.info? te).isSome = true)
    (h : AOps E rd N ops rest K (s.put d (Bv false))) : AOps E rd N ops (⟨d, .binOp .neq t x y t', T, p, af, none⟩ :: rest) K s := by
  refine aops_cons rfl (aop_of_run nofun fun B0 w0 G a w _ hI => ?_)
  obtain ⟨j, hj⟩ := Option.isSome_iff_exists.1 hi
  have h1 := hI.ptr hx ho
  have h2 := hI.ptr hy ho
  have hq := Lib.run_neq_ptr_same (P := E.P) w ⟨(G.ob o).blk, off, none⟩ hu hj
  refine ⟨_, w, G, _, s.st, ?_, .refl G, hI.agree, .v _, h⟩
  generalize a.eval = ρ at h1 h2
  simp [execOp, h1, h2, eqGuard_at_pointer, hq]
/-- To unsafe.Pointer and from it, at a variable's head. -/
theorem aops_toUnsafe {x : Operand} {t t' te : TypeId} {o ver : Nat} {T1 : TypeId} {cs : List AV} (hx : aeval N s x = .bx o ver 0) (ho : s.st[o]? = some (.cells ver T1 cs)) (hne : 0 < cs.length) (hs : E.P.underlying t = some (.pointer te)) (hd : E.P.underlying t' = some .unsafePointer) (hi : (match E.P.info? te with | some j => Nat.beq j.size 0 | none => true) = false)
    (h : AOps E rd N ops rest K (s.put d (.bx o ver 0))) : AOps E rd N ops (⟨d, .convert t t' x, T, p, af, none⟩ :: rest) K s := by
  refine aops_cons rfl (aop_of_run nofun fun B0 w0 G a w _ hI => ?_)
  obtain ⟨_, h1, h2, h3, c, h4, h5, h6⟩ := hI.agree.ob o _ ho
  have he := hI.eval_of hx
  have hv := hI.ptr hx ho
  cases hj : E.P.info? te with
  | none => rw [hj] at hi; simp at hi
  | some j =>
    rw [hj] at hi
    have hj0 : j.size ≠ 0 := fun e => by simp [e] at hi
    have hq := Lib.run_to_unsafe (P := E.P) w ⟨(G.ob o).blk, 0, none⟩ hs hd hj hj0 (e := T1) (cells := c.size) (by simp [World.shape?, h4]) (by simpa [← h5] using hne)
    refine ⟨_, w, G, _, s.st, ?_, .refl G, hI.agree, hv ▸ he, h⟩
    generalize a.eval = ρ at hv
    simp [execOp, hv, hq]
theorem aops_fromUnsafe {x : Operand} {t t' te : TypeId} {o ver : Nat} {T1 : TypeId} {cs : List AV} (hx : aeval N s x = .bx o ver 0) (ho : s.st[o]? = some (.cells ver T1 cs)) (hs : E.P.underlying t = some .unsafePointer) (hd : E.P.underlying t' = some (.pointer te)) (hi : (E.P.info? te).isSome = true) (hl : liesAt E.P E.P.depth T1 (cs.length / E.P.cellsOf T1) 0 te 1 = true)
    (h : AOps E rd N ops rest K (s.put d (.bx o ver 0))) : AOps E rd N ops (⟨d, .convert t t' x, T, p, af, none⟩ :: rest) K s := by
  refine aops_cons rfl (aop_of_run nofun fun B0 w0 G a w _ hI => ?_)
  obtain ⟨_, h1, h2, h3, c, h4, h5, h6⟩ := hI.agree.ob o _ ho
  obtain ⟨j, hj⟩ := Option.isSome_iff_exists.1 hi
  have he := hI.eval_of hx
  have hv := hI.ptr hx ho
  have hq := Lib.run_from_unsafe (P := E.P) w ⟨(G.ob o).blk, 0, none⟩ hs hd hj (e := T1) (cells := c.size) (by simp [World.shape?, h4]) (by rw [← h5]; exact hl)
  refine ⟨_, w, G, _, s.st, ?_, .refl G, hI.agree, hv ▸ he, h⟩
  generalize a.eval = ρ at hv
  simp [execOp, hv, hq]
/-- internal/abi.NoEscape. -/
theorem aops_noEscape {f : FuncId} {x : Operand} {ts : Array TypeId} {r : AV} (hrun : ∀ v w, (callFunc f #[v]).run E.P w = .ok (.value v) w) (hx : aeval N s x = r)
    (h : AOps E rd N ops rest K (s.put d r)) : AOps E rd N ops (⟨d, .call ⟨.value (.func f), #[x], ts⟩, T, p, af, none⟩ :: rest) K s := by
  refine aops_cons rfl (aop_of_run nofun fun B0 w0 G a w _ hI => ?_)
  refine ⟨a.eval x, w, G, _, s.st, ?_, .refl G, hI.agree, hI.eval_of hx, h⟩
  have he : a.eval (.func f) = .func (.func f) #[] #[] := rfl
  generalize a.eval = ρ at he
  simp [execOp, resolve, Deferred.ofValue, he, invoke, hrun]

theorem Inv.restate {B0 : Nat} {w0 : World} {G G' : Gh} {a : Act} {w : World} {st' : List AObj} (h : Inv B0 w0 N G s a w) (hG : G.le G') (hA : Agree B0 w0 G' st' w) : Inv B0 w0 N G' ⟨s.t, st', s.df⟩ a w :=
  ⟨hA, h.defers_mono hG, h.size, fun i y hy => (h.tmps i y hy).mono hG⟩

/-- A new variable whose cells are known; one of them, a nil slice, is given a tip. -/
theorem aops_tipCell {o ver j sz : Nat} {T1 T' : TypeId} {cs : List AV} {l : List Oper} (ho : s.st[o]? = some (.cells ver T1 cs)) (hj : cs[j]? = some nilSl)
    (h : AOps E rd N ops l K ⟨s.t, s.st.set o (.cells ver T1 (cs.set j (.sl sz [] (some s.st.length)))) ++ [AObj.tip 0 sz T'], s.df⟩) : AOps E rd N ops l K s :=
  ⟨fun B0 w0 G a w hL hI Q hQ => h.run B0 w0 _ a w hL (hI.restate (G.le_new 0 0 0 false) (hI.agree.tipCell ho hj)) Q fun G' s' a' w' hG => hQ G' s' a' w' ((G.le_new 0 0 0 false).trans hG)⟩
theorem awp_tipCell {o ver j sz : Nat} {T1 T' : TypeId} {cs : List AV} {c : Code} {Q : Exit → AS → Prop} (ho : s.st[o]? = some (.cells ver T1 cs)) (hj : cs[j]? = some nilSl)
    (h : AWp E rd N c Q ⟨s.t, s.st.set o (.cells ver T1 (cs.set j (.sl sz [] (some s.st.length)))) ++ [AObj.tip 0 sz T'], s.df⟩) : AWp E rd N c Q s :=
  ⟨fun B0 w0 G a w hL hI => wpIn_mono (h.run B0 w0 _ a w hL (hI.restate (G.le_new 0 0 0 false) (hI.agree.tipCell ho hj))) fun _ _ _ ⟨G', s', hG, h1, h2⟩ => ⟨G', s', (G.le_new 0 0 0 false).trans hG, h1, h2⟩⟩

theorem Inv.newTip {B0 : Nat} {w0 : World} {G : Gh} {a : Act} {w : World} (h : Inv B0 w0 N G s a w) {i sz : Nat} {T' : TypeId} (hi : s.t i = nilSl) : Inv B0 w0 N (G.new 0 0 0 false) ⟨Av.put s.t i (.sl sz [] (some s.st.length)), s.st ++ [AObj.tip 0 sz T'], s.df⟩ a w := by
  have hA := h.agree.newTip sz T'
  have h2 := h.restate (G.le_new 0 0 0 false) hA
  refine ⟨h2.agree, h2.defers, h2.size, fun k y hy => ?_⟩
  by_cases e : k = i
  · subst e
    show Rel _ (Av.put s.t k _ k) y
    rw [put_same]
    have := h2.tmps k y hy
    simp only [hi] at this
    cases this
    exact .sl0 sz _ none 0 fun t ht => by simp at ht; subst ht; exact ⟨by rw [hA.n]; simp, rfl, rfl⟩
  · show Rel _ (Av.put s.t i _ k) y
    rw [put_ne _ _ _ _ e]
    exact h2.tmps k y hy
/-- A slot that holds the nil slice reads as an empty row at a tip of its own. -/
theorem awp_newTip {i sz : Nat} {T' : TypeId} {c : Code} {Q : Exit → AS → Prop} (hi : s.t i = nilSl)
    (h : AWp E rd N c Q ⟨Av.put s.t i (.sl sz [] (some s.st.length)), s.st ++ [AObj.tip 0 sz T'], s.df⟩) : AWp E rd N c Q s :=
  ⟨fun B0 w0 G a w hL hI => wpIn_mono (h.run B0 w0 _ a w hL (hI.newTip hi)) fun _ _ _ ⟨G', s', hG, h1, h2⟩ => ⟨G', s', (G.le_new 0 0 0 false).trans hG, h1, h2⟩⟩
end
end Go.Av
