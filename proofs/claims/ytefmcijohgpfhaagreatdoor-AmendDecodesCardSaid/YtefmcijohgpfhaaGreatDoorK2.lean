/- Contracts and plain facts that the closing text leans on (part 2). No condition of their own beyond those that each states. -/
import Derived.Test.YtefmcijohgpfhaaGreatDoorK1
import Derived.Lib.Builder
import Derived.Laws.Pointers
import Derived.Laws.Externs
import Derived.Laws.Tables
import Derived.Test.YtefmcijohgpfhaaGreatDoorSh
import Derived.Test.YtefmcijohgpfhaaGreatDoorRows
import Derived.LaidHandle
import Derived.ProofKit
import Derived.OpenShut
import Derived.ShutString
import Derived.Deep.DeepHandedRow
import Derived.Deep.DeepWitnessRowRef
import Derived.Lib.LaidU8
import Derived.Lib.SmallJoins
import Derived.ChangeSame
import Derived.ChangeAgain
import Derived.Lay
import Derived.Lib.Index
import Derived.Lib.SlTrimSet
import Derived.Shelf.Strings.Prefix
import Derived.Shelf.Strings.Cut
import Derived.Lib.ItoaNum
import Derived.Lib.AtoiAll
import Derived.Lib.Repeat
import Derived.Lib.SplitLaws
import Derived.Shelf.Strings.SplitShaped
set_option maxRecDepth 100000
set_option linter.unusedVariables false
set_option linter.unusedSimpArgs false
set_option linter.unusedVariables false
namespace Go.Av
open Go Go.RowKit
section
variable {E : Env} {rd : Option Nat} {N : Nat} {ops : Array Oper} {K : AS → Prop} {s : AS} {rest : List Oper} {d : Option Tmp} {T : TypeId} {p : String} {af : Array Edge}
def qmn : AV → Bool
 | .bx _ _ _ => true
 | .pp _ => true
 | _ => false
theorem ki {x : Operand} {r : AV} (hx : qz N s x = r) (hr : qmn r = true) (h : AOps E rd N ops rest K (s.put d r)) : AOps E rd N ops (⟨d, .nilCheck x, T, p, af, none⟩ :: rest) K s := by
 refine jk rfl (ji nofun fun B0 w0 G a w _ hI => ?_)
 have he := hI.eval_of hx
 have key : ∃ q, a.eval x = .pointer (some q) := by
  generalize a.eval x = u at he
  cases he <;> simp [qmn] at hr
  ·exact ⟨_, rfl⟩
  ·exact ⟨_, rfl⟩
 obtain ⟨q, hv⟩ := key
 refine ⟨_, w, G, r, s.st, ?_, .refl G, hI.agree, hv ▸ he, h⟩
 generalize a.eval = ρ at hv
 simp [execOp, hv]
end
section
variable {B0 : Nat} {w0 : World} {G : Gh} {st : List AObj} {w : World}
theorem jg.refroze (h : jg B0 w0 G st w) {w' : World} {g : Nat} {c : Array Value} {T : TypeId} {fz fz' : Nat × Nat} (hg : w.heap[g]? = some (.cells c T fz)) (hg' : w'.heap[g]? = some (.cells c T fz')) (ho : ∀ k, k ≠ g → w'.heap[k]? = w.heap[k]?) (hB : B0 ≤ g)
  (hsz : w'.heap.size = w.heap.size) (hos : w'.os = w.os) (htape : w'.tape = w.tape) (hout : w'.output = w.output) (hs : ∀ o x, st[o]? = some x → x.live → (G.ob o).blk ≠ g) : jg B0 w0 G st w' := by
 refine ⟨h.below.trans ⟨hos, htape, hout, by omega, fun k hk => ho k (by omega)⟩, by rw [hsz]; exact h.hB, h.n, fun b vs hb => ?_, fun o x hx => (h.ob o x hx).mono (.refl G) rfl (fun _ => rfl) (fun hl => ho _ (hs o x hx hl)), h.sep⟩
 by_cases e : b = g
 ·subst e
  obtain ⟨c2, T2, fz2, e1, e2⟩ := h.pub b vs hb
  rw [hg] at e1
  simp only [Option.some.injEq, Obj.cells.injEq] at e1
  exact ⟨c, T, fz', hg', by rw [e1.1]; exact e2⟩
 ·rw [ho b e]
  exact h.pub b vs hb
theorem jg.tipCell (h : jg B0 w0 G st w) {o ver j sz : Nat} {T T' : TypeId} {cs : List AV} (ho : st[o]? = some (.cells ver T cs)) (hj : cs[j]? = some jm) :
  jg B0 w0 (G.new 0 0 0 false) (st.set o (.cells ver T (cs.set j (.sl sz [] (some st.length)))) ++ [AObj.tip 0 sz T']) w := by
 have h1 := h.newTip sz T'
 have hle := G.le_new 0 0 0 false
 have hlt := lt_of_getElem? ho
 have e : st.set o (.cells ver T (cs.set j (.sl sz [] (some st.length)))) ++ [AObj.tip 0 sz T'] = (st ++ [AObj.tip 0 sz T']).set o (.cells ver T (cs.set j (.sl sz [] (some st.length)))) := by
  rw [List.set_append_left _ _ hlt]
 rw [e]
 have ho' : (st ++ [AObj.tip 0 sz T'])[o]? = some (.cells ver T cs) := by rw [List.getElem?_append_left hlt]; exact ho
 generalize hG : G.new 0 0 0 false = G' at h1 hle
 have hn : st.length < G'.n := by rw [h1.n]; simp
 refine ⟨h1.below, h1.hB, by simp [h1.n], h1.pub, fun k x hx => ?_, fun k k' x x' hne hx hx' hl hl' => ?_⟩
 ·rcases getElem?_set' _ _ _ _ _ hx with ⟨rfl, rfl⟩ | ⟨hne, hx⟩
  ·obtain ⟨g0, g1, g2, g3, c, g4, g5, g6⟩ := h1.ob k _ ho'
   refine ⟨g0, g1, g2, g3, c, g4, by simpa using g5, fun i x y hx hy => ?_⟩
   rcases getElem?_set' _ _ _ _ _ hx with ⟨rfl, rfl⟩ | ⟨_, hx⟩
   ·have := g6 i _ y hj hy
    cases this
    exact .sl0 sz (some st.length) none 0 fun t ht => by simp at ht; subst ht; exact ⟨hn, rfl, rfl⟩
   ·exact g6 i x y hx hy
  ·exact h1.ob k x hx
 ·have key : ∀ (k : Nat) (x : AObj), ((st ++ [AObj.tip 0 sz T']).set o (.cells ver T (cs.set j (.sl sz [] (some st.length)))))[k]? = some x → ∃ x0 : AObj, (st ++ [AObj.tip 0 sz T'])[k]? = some x0 ∧ (x.live → x0.live) := fun k x hx => by
   rcases getElem?_set' _ _ _ _ _ hx with ⟨rfl, rfl⟩ | ⟨_, hx⟩
   ·exact ⟨_, ho', fun _ => trivial⟩
   ·exact ⟨x, hx, id⟩
  obtain ⟨x0, e1, e2⟩ := key k x hx
  obtain ⟨x1, e3, e4⟩ := key k' x' hx'
  exact h1.sep k k' x0 x1 hne e1 e3 (e2 hl) (e4 hl')
end
section
variable {E : Env} {rd : Option Nat} {N : Nat} {ops : Array Oper} {K : AS → Prop} {s : AS} {rest : List Oper} {d : Option Tmp} {T : TypeId} {p : String} {af : Array Edge}
def qap : AV → Option Bool
 | .bx _ _ _ => some false
 | .pp _ => some false
 | .v (.pointer none) => some true
 | _ => none
theorem yp {x : Operand} {t t' te : TypeId} {r : AV} {b : Bool} (hx : qz N s x = r) (hr : qap r = some b) (hu : E.P.underlying t = some (.pointer te)) (h : AOps E rd N ops rest K (s.put d (Bv b))) : AOps E rd N ops (⟨d, .binOp .eql t x (.const (.pointer none)) t', T, p, af, none⟩ :: rest) K s := by
 refine jk rfl (ji nofun fun B0 w0 G a w _ hI => ?_)
 have he := hI.eval_of hx
 have key : ∃ q : Option Addr, a.eval x = .pointer q ∧ q.isNone = b := by
  generalize a.eval x = u at he
  cases he <;> try (simp [qap] at hr; done)
  case v =>
   cases u <;> try (simp [qap] at hr; done)
   case pointer q =>
    cases q <;> simp [qap] at hr
    subst hr
    exact ⟨_, rfl, rfl⟩
  case pp => simp [qap] at hr; subst hr; exact ⟨_, rfl, rfl⟩
  case bx => simp [qap] at hr; subst hr; exact ⟨_, rfl, rfl⟩
 obtain ⟨q, hv, rfl⟩ := key
 have hc : a.eval (.const (.pointer none)) = .pointer none := rfl
 have hq := run_eql_pointer_nil (P := E.P) w t q (by simp [Program.pointee, hu])
 refine ⟨_, w, G, _, s.st, ?_, .refl G, hI.agree, .v _, h⟩
 generalize a.eval = ρ at hv hc
 simp [execOp, hv, hc, eqGuard_at_pointer, hq]
theorem qdb {x : Operand} {t t' te : TypeId} {r : AV} {b : Bool} (hx : qz N s x = r) (hr : qap r = some b) (hu : E.P.underlying t = some (.pointer te)) (h : AOps E rd N ops rest K (s.put d (Bv !b))) : AOps E rd N ops (⟨d, .binOp .neq t x (.const (.pointer none)) t', T, p, af, none⟩ :: rest) K s := by
 refine jk rfl (ji nofun fun B0 w0 G a w _ hI => ?_)
 have he := hI.eval_of hx
 have key : ∃ q : Option Addr, a.eval x = .pointer q ∧ q.isNone = b := by
  generalize a.eval x = u at he
  cases he <;> try (simp [qap] at hr; done)
  case v =>
   cases u <;> try (simp [qap] at hr; done)
   case pointer q =>
    cases q <;> simp [qap] at hr
    subst hr
    exact ⟨_, rfl, rfl⟩
  case pp => simp [qap] at hr; subst hr; exact ⟨_, rfl, rfl⟩
  case bx => simp [qap] at hr; subst hr; exact ⟨_, rfl, rfl⟩
 obtain ⟨q, hv, rfl⟩ := key
 have hc : a.eval (.const (.pointer none)) = .pointer none := rfl
 have hq := run_neq_pointer_nil (P := E.P) w t q (by simp [Program.pointee, hu])
 refine ⟨_, w, G, _, s.st, ?_, .refl G, hI.agree, .v _, h⟩
 generalize a.eval = ρ at hv hc
 simp [execOp, hv, hc, eqGuard_at_pointer, hq]
theorem Inv.ptr {B0 : Nat} {w0 : World} {G : Gh} {a : Act} {w : World} (hI : Inv B0 w0 N G s a w) {x : Operand} {o ver off : Nat} {T1 : TypeId} {cs : List AV} (hx : qz N s x = .bx o ver off) (ho : s.st[o]? = some (.cells ver T1 cs)) : a.eval x = .pointer (some ⟨(G.ob o).blk, off, none⟩) := by
 have he := hI.eval_of hx
 obtain ⟨_, h1, _⟩ := hI.agree.ob o _ ho
 generalize a.eval x = v at he
 cases he with
 | bx _ _ _ b hn hv hb => rw [hb h1]
theorem qk2 {x y : Operand} {t t' te : TypeId} {o ver off : Nat} {T1 : TypeId} {cs : List AV} (hx : qz N s x = .bx o ver off) (hy : qz N s y = .bx o ver off) (ho : s.st[o]? = some (.cells ver T1 cs)) (hu : E.P.underlying t = some (.pointer te)) (hi : (E.P.info? te).isSome = true)
  (h : AOps E rd N ops rest K (s.put d (Bv false))) : AOps E rd N ops (⟨d, .binOp .neq t x y t', T, p, af, none⟩ :: rest) K s := by
 refine jk rfl (ji nofun fun B0 w0 G a w _ hI => ?_)
 obtain ⟨j, hj⟩ := Option.isSome_iff_exists.1 hi
 have h1 := hI.ptr hx ho
 have h2 := hI.ptr hy ho
 have hq := Lib.run_neq_ptr_same (P := E.P) w ⟨(G.ob o).blk, off, none⟩ hu hj
 refine ⟨_, w, G, _, s.st, ?_, .refl G, hI.agree, .v _, h⟩
 generalize a.eval = ρ at h1 h2
 simp [execOp, h1, h2, eqGuard_at_pointer, hq]
theorem qmk {x : Operand} {t t' te : TypeId} {o ver : Nat} {T1 : TypeId} {cs : List AV} (hx : qz N s x = .bx o ver 0) (ho : s.st[o]? = some (.cells ver T1 cs)) (hne : 0 < cs.length) (hs : E.P.underlying t = some (.pointer te)) (hd : E.P.underlying t' = some .unsafePointer) (hi : (match E.P.info? te with | some j => Nat.beq j.size 0 | none => true) = false)
  (h : AOps E rd N ops rest K (s.put d (.bx o ver 0))) : AOps E rd N ops (⟨d, .convert t t' x, T, p, af, none⟩ :: rest) K s := by
 refine jk rfl (ji nofun fun B0 w0 G a w _ hI => ?_)
 obtain ⟨_, h1, h2, h3, c, h4, h5, h6⟩ := hI.agree.ob o _ ho
 have he := hI.eval_of hx
 have hv := hI.ptr hx ho
 cases hj : E.P.info? te with
 | none => rw [hj] at hi; simp at hi
 | some j =>
  rw [hj] at hi
  have hj0 : j.size ≠ 0 := fun e => by simp [e] at hi
  have hq := Lib.run_to_unsafe (P := E.P) w ⟨(G.ob o).blk, 0, none⟩ hs hd hj hj0 (e := T1) (cells := c.size) (by simp [World.shape?, h4]) (by simpa [← h5] using hne)
  refine ⟨_, w, G, _, s.st, ?_, .refl G, hI.agree, hv ▸ he, h⟩
  generalize a.eval = ρ at hv
  simp [execOp, hv, hq]
theorem qki {x : Operand} {t t' te : TypeId} {o ver : Nat} {T1 : TypeId} {cs : List AV} (hx : qz N s x = .bx o ver 0) (ho : s.st[o]? = some (.cells ver T1 cs)) (hs : E.P.underlying t = some .unsafePointer) (hd : E.P.underlying t' = some (.pointer te)) (hi : (E.P.info? te).isSome = true) (hl : liesAt E.P E.P.depth T1 (cs.length / E.P.cellsOf T1) 0 te 1 = true)
  (h : AOps E rd N ops rest K (s.put d (.bx o ver 0))) : AOps E rd N ops (⟨d, .convert t t' x, T, p, af, none⟩ :: rest) K s := by
 refine jk rfl (ji nofun fun B0 w0 G a w _ hI => ?_)
 obtain ⟨_, h1, h2, h3, c, h4, h5, h6⟩ := hI.agree.ob o _ ho
 obtain ⟨j, hj⟩ := Option.isSome_iff_exists.1 hi
 have he := hI.eval_of hx
 have hv := hI.ptr hx ho
 have hq := Lib.run_from_unsafe (P := E.P) w ⟨(G.ob o).blk, 0, none⟩ hs hd hj (e := T1) (cells := c.size) (by simp [World.shape?, h4]) (by rw [← h5]; exact hl)
 refine ⟨_, w, G, _, s.st, ?_, .refl G, hI.agree, hv ▸ he, h⟩
 generalize a.eval = ρ at hv
 simp [execOp, hv, hq]
theorem ql9 {f : FuncId} {x : Operand} {ts : Array TypeId} {r : AV} (hrun : ∀ v w, (callFunc f #[v]).run E.P w = .ok (.value v) w) (hx : qz N s x = r)
  (h : AOps E rd N ops rest K (s.put d r)) : AOps E rd N ops (⟨d, .call ⟨.value (.func f), #[x], ts⟩, T, p, af, none⟩ :: rest) K s := by
 refine jk rfl (ji nofun fun B0 w0 G a w _ hI => ?_)
 refine ⟨a.eval x, w, G, _, s.st, ?_, .refl G, hI.agree, hI.eval_of hx, h⟩
 have he : a.eval (.func f) = .func (.func f) #[] #[] := rfl
 generalize a.eval = ρ at he
 simp [execOp, resolve, Deferred.ofValue, he, invoke, hrun]
theorem Inv.restate {B0 : Nat} {w0 : World} {G G' : Gh} {a : Act} {w : World} {st' : List AObj} (h : Inv B0 w0 N G s a w) (hG : G.le G') (hA : jg B0 w0 G' st' w) : Inv B0 w0 N G' ⟨s.t, st', s.df⟩ a w :=
 ⟨hA, h.defers_mono hG, h.size, fun i y hy => (h.tmps i y hy).mono hG⟩
theorem qod {o ver j sz : Nat} {T1 T' : TypeId} {cs : List AV} {l : List Oper} (ho : s.st[o]? = some (.cells ver T1 cs)) (hj : cs[j]? = some jm)
  (h : AOps E rd N ops l K ⟨s.t, s.st.set o (.cells ver T1 (cs.set j (.sl sz [] (some s.st.length)))) ++ [AObj.tip 0 sz T'], s.df⟩) : AOps E rd N ops l K s :=
 ⟨fun B0 w0 G a w hL hI Q hQ => h.run B0 w0 _ a w hL (hI.restate (G.le_new 0 0 0 false) (hI.agree.tipCell ho hj)) Q fun G' s' a' w' hG => hQ G' s' a' w' ((G.le_new 0 0 0 false).trans hG)⟩
theorem qo0 {o ver j sz : Nat} {T1 T' : TypeId} {cs : List AV} {c : Code} {Q : Exit → AS → Prop} (ho : s.st[o]? = some (.cells ver T1 cs)) (hj : cs[j]? = some jm)
  (h : AWp E rd N c Q ⟨s.t, s.st.set o (.cells ver T1 (cs.set j (.sl sz [] (some s.st.length)))) ++ [AObj.tip 0 sz T'], s.df⟩) : AWp E rd N c Q s :=
 ⟨fun B0 w0 G a w hL hI => wpIn_mono (h.run B0 w0 _ a w hL (hI.restate (G.le_new 0 0 0 false) (hI.agree.tipCell ho hj))) fun _ _ _ ⟨G', s', hG, h1, h2⟩ => ⟨G', s', (G.le_new 0 0 0 false).trans hG, h1, h2⟩⟩
theorem Inv.newTip {B0 : Nat} {w0 : World} {G : Gh} {a : Act} {w : World} (h : Inv B0 w0 N G s a w) {i sz : Nat} {T' : TypeId} (hi : s.t i = jm) : Inv B0 w0 N (G.new 0 0 0 false) ⟨Av.put s.t i (.sl sz [] (some s.st.length)), s.st ++ [AObj.tip 0 sz T'], s.df⟩ a w := by
 have hA := h.agree.newTip sz T'
 have h2 := h.restate (G.le_new 0 0 0 false) hA
 refine ⟨h2.agree, h2.defers, h2.size, fun k y hy => ?_⟩
 by_cases e : k = i
 ·subst e
  show Rel _ (Av.put s.t k _ k) y
  rw [qaj]
  have := h2.tmps k y hy
  simp only [hi] at this
  cases this
  exact .sl0 sz _ none 0 fun t ht => by simp at ht; subst ht; exact ⟨by rw [hA.n]; simp, rfl, rfl⟩
 ·show Rel _ (Av.put s.t i _ k) y
  rw [qb6 _ _ _ _ e]
  exact h2.tmps k y hy
theorem qq6 {i sz : Nat} {T' : TypeId} {c : Code} {Q : Exit → AS → Prop} (hi : s.t i = jm)
  (h : AWp E rd N c Q ⟨Av.put s.t i (.sl sz [] (some s.st.length)), s.st ++ [AObj.tip 0 sz T'], s.df⟩) : AWp E rd N c Q s :=
 ⟨fun B0 w0 G a w hL hI => wpIn_mono (h.run B0 w0 _ a w hL (hI.newTip hi)) fun _ _ _ ⟨G', s', hG, h1, h2⟩ => ⟨G', s', (G.le_new 0 0 0 false).trans hG, h1, h2⟩⟩
end
end Go.Av
set_option linter.unusedVariables false
namespace Go.Av
open Go Go.RowKit
theorem qmt : ∀ (vs : List Value) (off n : Nat) (c : Array Value), off + n + vs.length ≤ c.size →
  ((vs.zipIdx n).foldl (fun (cs : Array Value) (x : Value × Nat) => cs.setIfInBounds (off + x.2) x.1) c).size = c.size ∧
  ∀ k, ((vs.zipIdx n).foldl (fun (cs : Array Value) (x : Value × Nat) => cs.setIfInBounds (off + x.2) x.1) c)[k]? = if off + n ≤ k ∧ k < off + n + vs.length then vs[k - (off + n)]? else c[k]?
 | [], off, n, c, _ => ⟨by simp, fun k => by simp; intro h1 h2; omega⟩
 | v :: vs, off, n, c, h => by
  simp only [List.zipIdx_cons, List.foldl_cons, List.length_cons] at h ⊢
  obtain ⟨h1, h2⟩ := qmt vs off (n + 1) (c.setIfInBounds (off + n) v) (by simp; omega)
  refine ⟨by rw [h1]; simp, fun k => ?_⟩
  rw [h2 k]
  by_cases hk : k = off + n
  ·subst hk
   rw [if_neg (by omega), if_pos (by omega), Array.getElem?_setIfInBounds_self, if_pos (by omega)]
   simp
  ·by_cases hr : off + n ≤ k ∧ k < off + n + (vs.length + 1)
   ·rw [if_pos (by omega), if_pos hr]
    rw [show k - (off + n) = (k - (off + (n + 1))) + 1 by omega]
    simp
   ·rw [if_neg (by omega), if_neg hr]
    rw [Array.getElem?_setIfInBounds, if_neg (by omega)]
def qb5 (place : Nat → Option (Nat × Nat)) (cells : List AV) : List (Nat × AV) → Option (List AV)
 | [] => some cells
 | (i, x) :: rest =>
  match place i with
  | none => none
  | some (off, size) => bif x.okc && Nat.beq x.cells.length size && Nat.ble (off + size) cells.length then qb5 place (wi cells off x.cells) rest else none
theorem qd0 {G : Gh} (place : Nat → Option (Nat × Nat)) : ∀ (ps : List (Nat × AV)) (vs : List (Nat × Value)) (cs : List AV) (c : Array Value) (cs' : List AV), ps.length = vs.length → (∀ (i : Nat) (p : Nat × AV) (v : Nat × Value), ps[i]? = some p → vs[i]? = some v → p.1 = v.1 ∧ Rel G p.2 v.2) →
  RelC G cs c → qb5 place cs ps = some cs' → ∃ c', Instr.fill place c vs = some c' ∧ RelC G cs' c'
 | [], [], cs, c, cs', _, _, hc, h => by
  simp only [qb5, Option.some.injEq] at h
  subst h
  exact ⟨c, rfl, hc⟩
 | [], v :: vs, _, _, _, hl, _, _, _ => by simp at hl
 | p :: ps, [], _, _, _, hl, _, _, _ => by simp at hl
 | (i, x) :: ps, (j, v) :: vs, cs, c, cs', hl, hr, hc, h => by
  obtain ⟨e, hx⟩ := hr 0 _ _ rfl rfl
  simp only at e hx
  subst e
  simp only [qb5] at h
  simp only [Instr.fill]
  cases hp : place i with
  | none => simp [hp] at h
  | some q =>
   obtain ⟨off, size⟩ := q
   simp only [hp] at h ⊢
   cases hb : (x.okc && Nat.beq x.cells.length size && Nat.ble (off + size) cs.length) with
   | false => simp [hb] at h
   | true =>
    simp only [hb, cond_true] at h
    simp only [Bool.and_eq_true] at hb
    obtain ⟨⟨hok, hsz⟩, hle⟩ := hb
    have hsz := Nat.eq_of_beq_eq_true hsz
    have hle := Nat.le_of_ble_eq_true hle
    have hcx := hx.cells hok
    have hcs : v.cells.size = size := by rw [← hcx.1]; exact hsz
    have hfit : off + v.cells.size ≤ c.size := by rw [hcs, ← hc.1]; exact hle
    rw [if_neg (by simp [hcs]; rw [← hc.1]; exact hle)]
    have hfold : v.cells.zipIdx.foldl (fun cs (x : Value × Nat) => cs.setIfInBounds (off + x.2) x.1) c = (v.cells.toList.zipIdx 0).foldl (fun (cs : Array Value) (x : Value × Nat) => cs.setIfInBounds (off + x.2) x.1) c := by
     rw [← Array.foldl_toList, Array.toList_zipIdx]
    obtain ⟨g1, g2⟩ := qmt v.cells.toList off 0 c (by simpa using hfit)
    have hnew : RelC G (wi cs off x.cells) ((v.cells.toList.zipIdx 0).foldl (fun (cs : Array Value) (x : Value × Nat) => cs.setIfInBounds (off + x.2) x.1) c) := by
     refine ⟨?_, fun k a y h1 h2 => ?_⟩
     ·rw [g1, ← hc.1]
      simp [wi]
      omega
     ·rw [g2] at h2
      have e1 : (cs.take off).length = off := by simp; omega
      simp only [wi, List.append_assoc] at h1
      by_cases hk : k < off
      ·rw [List.getElem?_append_left (by omega), List.getElem?_take, if_pos hk] at h1
       rw [if_neg (by omega)] at h2
       exact hc.2 k a y h1 h2
      ·rw [List.getElem?_append_right (by omega), e1] at h1
       by_cases hk2 : k - off < x.cells.length
       ·rw [List.getElem?_append_left hk2] at h1
        rw [if_pos ⟨by omega, by simp; omega⟩] at h2
        exact hcx.2 (k - off) a y h1 (by simpa using h2)
       ·rw [List.getElem?_append_right (by omega), List.getElem?_drop] at h1
        rw [if_neg (by simp; omega)] at h2
        rw [show off + x.cells.length + (k - off - x.cells.length) = k by omega] at h1
        exact hc.2 k a y h1 h2
    have := qd0 place ps vs _ _ cs' (by simpa using hl) (fun i p v h1 h2 => hr (i + 1) p v (by simpa using h1) (by simpa using h2)) hnew h
    rw [← hfold] at this
    exact this
section
variable {E : Env} {rd : Option Nat} {N : Nat} {ops : Array Oper} {K : AS → Prop} {s : AS} {rest : List Oper} {d : Option Tmp} {T : TypeId} {p : String} {af : Array Edge}
def xb (N : Nat) (s : AS) (parts : Array (Nat × Operand)) : List (Nat × AV) := parts.toList.map fun x => (x.1, qz N s x.2)
def qic (P : Program) (t : TypeId) : Option (List (Nat × Nat)) :=
 match P.underlying t with
 | some (.struct fs) => fs.toList.mapM (fun f => (P.info? f.type).map fun i => (f.offset, i.size))
 | _ => none
theorem qeu {B0 : Nat} {w0 : World} {G : Gh} {a : Act} {w : World} (hI : Inv B0 w0 N G s a w) (parts : Array (Nat × Operand)) : ∀ (i : Nat) (p : Nat × AV) (v : Nat × Value), (xb N s parts)[i]? = some p → (parts.toList.map fun x => (x.1, a.eval x.2))[i]? = some v → p.1 = v.1 ∧ Rel G p.2 v.2 := fun i p v h1 h2 => by
 simp only [xb, List.getElem?_map] at h1 h2
 cases hq : parts.toList[i]? with
 | none => simp [hq] at h1
 | some z => simp [hq] at h1 h2; subst h1; subst h2; exact ⟨rfl, hI.eval _⟩
theorem j6 {t : TypeId} {parts : Array (Nat × Operand)} {zs cs : List AV} {pl : List (Nat × Nat)} (hz : qdq E.P t = some zs) (hp : qic E.P t = some pl) (hf : qb5 (pl[·]?) zs (xb N s parts) = some cs)
  (h : AOps E rd N ops rest K (s.put d (.ag cs))) : AOps E rd N ops (⟨d, .build t parts, T, p, af, none⟩ :: rest) K s := by
 refine jk rfl (ji nofun fun B0 w0 G a w _ hI => ?_)
 obtain ⟨z, hrun, hr⟩ := qg3 hz w
 obtain ⟨c', h1, h2⟩ := qd0 (pl[·]?) (xb N s parts) (parts.toList.map fun x => (x.1, a.eval x.2)) zs z.cells cs (by simp [xb]) (qeu hI parts) (hr G) hf
 unfold qic at hp
 split at hp
 ·rename_i fs hu
  refine ⟨.agg c', w, G, .ag cs, s.st, ?_, .refl G, hI.agree, .ag _ _ h2.1 h2.2, h⟩
  generalize a.eval = ρ at h1
  simp [execOp, Instr.build, run_underlying hu, hrun, Array.mapM_eq_mapM_toList, run_places w _ _ hp, h1]
 ·simp at hp
def qhh (P : Program) (e : TypeId) (n : Nat) : Option (List AV) :=
 match P.info? e with
 | some i => bif Nat.beq (n * i.size) 0 then some [] else i.zero.map fun z => (List.range (n * i.size)).map fun k => .v (z.cells[k % z.cells.size]!)
 | none => none
theorem qfp {B0 : Nat} {w0 : World} {G : Gh} {a : Act} {w : World} (hI : Inv B0 w0 N G s a w) {t e : TypeId} {len sz : Nat} {agg : Bool} {parts : Array (Nat × Operand)} {zs cs : List AV} (hu : E.P.underlying t = some (.slice e)) (ht : tyOf E.P e = some (sz, agg)) (hz : qhh E.P e len = some zs)
    (hf : qb5 (fun i => some (i * sz, sz)) zs (xb N s parts) = some cs) (hsz : Nat.ble (len * sz) 16777216 = true) :
    ∃ c' : Array Value, (execOp a.eval ⟨d, .buildSlice t len parts, T, p, af, none⟩).run E.P w = .ok (.value (.slice (some ⟨w.heap.size, 0, none⟩) len len)) (w.alloc (.cells c' e)) ∧ RelC G cs c' := by
  have hsizeOf := (wa ht w).1
  have hsz := Nat.le_of_ble_eq_true hsz
  unfold qhh at hz
  cases hi : E.P.info? e with
  | none => rw [hi] at hz; simp at hz
  | some i =>
    rw [hi] at hz
    simp only at hz
    have hs : i.size = sz := by simpa [sizeOf, typeInfo, hi] using hsizeOf
    rw [hs] at hz
    -- the array that the run starts from
    have key : ∃ c0 : Array Value, RelC G zs c0 ∧ ∀ (Q : Array Value → Sem Value), ((do
        let zero ← if len * sz = 0 then pure #[] else do pure (← zeroValue e).cells
        Q ((Array.range (len * sz)).map (zero[· % zero.size]!)) : Sem Value)).run E.P w = (Q c0).run E.P w := by
      by_cases h0 : len * sz = 0
      · rw [h0] at hz
        simp at hz
        subst hz
        exact ⟨#[], ⟨rfl, by simp⟩, fun Q => by have e : Array.range 0 = #[] := by simp [Array.range]
                                                simp [h0, e]⟩
      · have : Nat.beq (len * sz) 0 = false := qni h0
        rw [this] at hz
        simp only [cond_false] at hz
        cases hzr : i.zero with
        | none => rw [hzr] at hz; simp at hz
        | some z =>
          rw [hzr] at hz
          simp only [Option.map_some, Option.some.injEq] at hz
          subst hz
          refine ⟨(Array.range (len * sz)).map (z.cells[· % z.cells.size]!), ⟨by simp, fun k x y h1 h2 => ?_⟩, fun Q => by simp [h0, zeroValue, typeInfo, hi, hzr]⟩
          have hk : k < len * sz := by have := lt_of_getElem? h1; simpa using this
          simp [hk] at h1 h2
          subst h1; subst h2
          exact .v _
    obtain ⟨c0, hc0, hrun0⟩ := key
    obtain ⟨c', h1, h2⟩ := qd0 (fun i => some (i * sz, sz)) (xb N s parts) (parts.toList.map fun x => (x.1, a.eval x.2)) zs c0 cs (by simp [xb]) (qeu hI parts) hc0 hf
    refine ⟨c', ?_, h2⟩
    · generalize a.eval = ρ at h1
      have hb : ¬ 16777216 < len * sz := by omega
      have hg : ∃ m : String, (execOp ρ ⟨d, .buildSlice t len parts, T, p, af, none⟩).run E.P w = (((do
        let zero ← if len * sz = 0 then pure #[] else do pure (← zeroValue e).cells
        (fun c => (do
        let some cells := Instr.fill (fun i => some (i * sz, sz)) c (parts.map fun x => (x.1, ρ x.2)).toList | stuck m
        pure (Value.slice (some (← newRow e cells)) len len) : Sem Value)) ((Array.range (len * sz)).map (zero[· % zero.size]!)) : Sem Value)).run E.P w).andThen fun v w' => .ok (.value v) w' := by
        apply Exists.intro
        simp only [execOp, Instr.buildSlice]
        simp [run_underlying hu, hsizeOf, hb]
        rfl
      obtain ⟨m, hg⟩ := hg
      have hQ := hrun0 (fun c => do
        let some cells := Instr.fill (fun i => some (i * sz, sz)) c (parts.map fun x => (x.1, ρ x.2)).toList | stuck m
        pure (.slice (some (← newRow e cells)) len len))
      rw [hg, hQ]
      simp [h1, newRow, newObj, Sem.run]
theorem qj {t e : TypeId} {len sz : Nat} {agg : Bool} {parts : Array (Nat × Operand)} {zs cs xs : List AV} (hu : E.P.underlying t = some (.slice e)) (ht : tyOf E.P e = some (sz, agg)) (hz : qhh E.P e len = some zs)
  (hf : qb5 (fun i => some (i * sz, sz)) zs (xb N s parts) = some cs) (hxs : (xb N s parts).map Prod.snd = xs) (hlen : xs.length = len) (hfl : flat xs = cs) (hw : xs.all (fun x => Nat.beq x.cells.length sz) = true) (hsz : Nat.ble (len * sz) 16777216 = true)
  (h : AOps E rd N ops rest K (s.put d (.sl sz xs none))) : AOps E rd N ops (⟨d, .buildSlice t len parts, T, p, af, none⟩ :: rest) K s := by
 refine jk rfl (ji nofun fun B0 w0 G a w _ hI => ?_)
 obtain ⟨c', hrun, h2⟩ := qfp (d := d) (T := T) (p := p) (af := af) hI hu ht hz hf hsz
 obtain ⟨hle, hA⟩ := hI.agree.newPub e c' (0, 0) c'.toList (fun i y hy => by simpa using hy)
 refine ⟨.slice (some ⟨w.heap.size, 0, none⟩) len len, w.alloc (.cells c' e), _, .sl sz xs none, s.st, hrun, hle, hA, ?_, h⟩
 rw [← hlen]
 cases xs with
 | nil => exact .sl0 sz none _ _ (by simp)
 | cons x0 xr =>
  refine .sl sz _ none w.heap.size 0 _ c'.toList (by simp [Gh.publish]) (fun x hx => ?_) (by rw [hfl, h2.1]; simp) (fun k x y g1 g2 => ?_) (fun t ht => by simp at ht) (Nat.le_refl _)
  ·exact Nat.eq_of_beq_eq_true (List.all_eq_true.1 hw x hx)
  ·rw [hfl] at g1
   exact (h2.2 k x y g1 (by simpa using g2)).mono hle
end
end Go.Av
set_option linter.unusedVariables false
namespace Go.Av
open Go Go.RowKit
inductive yv (n : Nat) : List AObj → List AObj → Prop
 | nil : yv n [] []
 | same {l l' : List AObj} (x : AObj) (h : yv n l l') : yv n (x :: l) (x :: l')
 | cut {l l' : List AObj} {x x' : AObj} (hx : qds n x') (h : yv n l l') : yv n (x :: l) (x' :: l')
 | loop {l l' : List AObj} {ls ls' : LoopState} {pend pend' : Option Code} {N : Nat} {t : Nat → AV} {ps : Array Tmp} {asg body : Code} (h : yv n l l') : yv n (.loop ls pend N t ps asg body :: l) (.loop ls' pend' N t ps asg body :: l')
theorem qdi (n : Nat) : ∀ l, yv n l l
 | [] => .nil
 | x :: l => .same x (qdi n l)
theorem qes {n : Nat} {l l' : List AObj} (h : yv n l l') : ∀ st, yv n (st ++ l) (st ++ l')
 | [] => h
 | x :: st => .same x (qes h st)
theorem yv.length {n : Nat} {l l' : List AObj} (h : yv n l l') : l'.length = l.length := by
 induction h with
 | nil => rfl
 | _ => simpa
theorem yv.get {n : Nat} {l l' : List AObj} (h : yv n l l') (hc : ∀ (o : Nat) (x : AObj), l[o]? = some x → qds n x) : ∀ (o : Nat) (x : AObj), l'[o]? = some x → qds n x := by
 induction h with
 | nil => exact hc
 | same y h ih =>
  intro o x hx
  cases o with
  | zero => exact hc 0 x hx
  | succ o => exact ih (fun o x h => hc (o + 1) x h) o x (by simpa using hx)
 | cut hx' h ih =>
  intro o x hx
  cases o with
  | zero => simp at hx; subst hx; exact hx'
  | succ o => exact ih (fun o x h => hc (o + 1) x h) o x (by simpa using hx)
 | loop h ih =>
  intro o x hx
  cases o with
  | zero => simp at hx; subst hx; have h0 := hc 0 _ rfl; exact h0
  | succ o => exact ih (fun o x h => hc (o + 1) x h) o x (by simpa using hx)
theorem qow {E : Env} {o : Nat} {xs : List AV} {st : List AObj} {R : Bool → List AObj → Prop}
  (h : yi E o xs st fun b st2 => ∃ st1 ext, st2 = st1 ++ ext ∧ yv st.length st st1 ∧ R b st1) : yi E o xs st R := by
 refine ⟨fun B0 w0 G vals w hL hA hR => ?_⟩
 obtain ⟨f, tmps, asg, body, h1, h2⟩ := h.run B0 w0 G vals w hL hA hR
 refine ⟨f, tmps, asg, body, h1, h2.mono ?_⟩
 rintro e w' ⟨b, G', st2, he, hG, hA', st1, ext, rfl, hk, hRR⟩
 have hle := hG.cut
 rw [hA.n] at hle
 refine ⟨b, G'.cut st.length, st1, he, hle, ?_, hRR⟩
 have hd := hk.get (fun o x hx => hA.cutOb hx)
 have hl := hk.length
 rw [← hl] at hd ⊢
 exact hA'.drop hd
theorem qiw {n ver : Nat} {T : TypeId} {cs : List AV} (h : ∀ x ∈ cs, Cut n x) : qds n (.cells ver T cs) := h
theorem qlh {n a b : Nat} {T : TypeId} : qds n (.tip a b T) := trivial
theorem qs5 {n o ver off : Nat} (h : o < n) : Cut n (.bx o ver off) := qb9 (.bx o ver off h)
theorem qll {n tp : Nat} {l : List UInt8} (h : tp < n) : Cut n (.sl 1 (l.map fun c => .v (.int .u8 (c.toNat : Nat))) (some tp)) := by
 refine qb9 (.sl 1 _ _ (fun i x hx => ?_) (fun t ht => by simp at ht; omega))
 have := qdl l
 rw [this] at hx
 simp only [List.getElem?_map] at hx
 cases hq : l[i]? with
 | none => simp [hq] at hx
 | some c => simp [hq] at hx; subst hx; exact .v _
def qfu (F : LoopState → Option Code → AObj) (N : Nat) (t : Nat → AV) (ps : Array Tmp) (asg body : Code) : Prop := ∀ ls pend, F ls pend = AObj.loop ls pend N t ps asg body
theorem qqz {n : Nat} {l l' : List AObj} {F : LoopState → Option Code → AObj} {ls ls' : LoopState} {pend pend' : Option Code} {N : Nat} {t : Nat → AV} {ps : Array Tmp} {asg body : Code} (hF : qfu F N t ps asg body) (h : yv n l l') : yv n (F ls pend :: l) (F ls' pend' :: l') := by
 rw [hF, hF]
 exact .loop h
@[reducible] def qv9 (o : Nat) (F : LoopState → Option Code → AObj) (R : Bool → List AObj → Prop) : Exit → AS → Prop
 | .normal, s => s.st[o]? = some (F .busy none) ∧ R true (s.st.set o (F .ready none))
 | .ret, s => s.st[o]? = some (F .busy none) ∧ R false (s.st.set o (F .done (some .ret)))
 | .exit id, s => s.st[o]? = some (F .busy none) ∧ R false (s.st.set o (F .done (some (.exit id))))
 | _, _ => False
theorem qi9 {E : Env} {o N : Nat} {t : Nat → AV} {ps : Array Tmp} {asg body : Code} {st : List AObj} {R : Bool → List AObj → Prop} {xs : List AV} {F : LoopState → Option Code → AObj} (hF : qfu F N t ps asg body) (ho : st[o]? = some (F .ready none)) (hps : ps.size = xs.length)
  (h : ∀ l, AWp E (some l) N asg (only fun s1 => s1.st[o]? = some (F .ready none) ∧ s1.df = [] ∧ AWp E (some l) N body (qv9 o F R) ⟨s1.t, s1.st.set o (F .busy none), []⟩) ⟨qey t (ps.toList.zip xs), st, []⟩) : yi E o xs st R := by
 refine qoo (N := N) (t := t) (ps := ps) (asg := asg) (body := body) (by rw [ho, hF]) hps fun l => (h l).mono fun e s1 hq => ?_
 cases e with
 | normal =>
  obtain ⟨h1, h2, h3⟩ := hq
  refine ⟨by rw [h1, hF], h2, ?_⟩
  rw [hF] at h3
  refine h3.mono fun e s2 hq2 => ?_
  cases e with
  | normal => obtain ⟨k1, k2⟩ := hq2; exact ⟨by rw [k1, hF], by rw [hF] at k2; exact k2⟩
  | ret => obtain ⟨k1, k2⟩ := hq2; exact ⟨by rw [k1, hF], by rw [hF] at k2; exact k2⟩
  | exit id => obtain ⟨k1, k2⟩ := hq2; exact ⟨by rw [k1, hF], by rw [hF] at k2; exact k2⟩
  | _ => exact hq2.elim
 | _ => exact hq.elim
theorem qf2 {E : Env} {N : Nat} {Q : Exit → AS → Prop} {s : AS} {f : Operand} {ps : Array Tmp} {asg body : Code} {st loc : List AObj} {g : FuncId} {fs cs : List AV} (hst : s.st = st ++ loc) (hx : qz N s f = .fn (.func g) fs cs)
  (hrun : ∀ vs w, (callFunc g vs).run E.P w = .ok (.enter g vs) w)
  (h : ∀ F, qfu F N s.t ps asg body → zr E g (fs ++ [.yd (st.length + (loc.length + 1))] ++ cs) (st ++ (loc ++ [.dfr, F .ready none])) fun _ st' => ∃ ls pend, ls ≠ LoopState.busy ∧ st'[st.length + (loc.length + 1)]? = some (F ls pend) ∧
   match pend with
   | none => Q .normal ⟨s.t, st'.set (st.length + (loc.length + 1)) .dead, (st.length + loc.length) :: s.df⟩
   | some c => AWp E none N c Q ⟨s.t, st'.set (st.length + (loc.length + 1)) .dead, (st.length + loc.length) :: s.df⟩) : AWp E none N (.rangeFunc f ps asg body) Q s :=
 qmi hst hx hrun ((h (fun ls pend => .loop ls pend N s.t ps asg body) (fun _ _ => rfl)).mono fun _ _ ⟨ls, pend, h1, h2, h3⟩ => ⟨ls, pend, h1, h2, h3⟩)
theorem wf {E : Env} {rd : Option Nat} {N : Nat} {c : Code} {Q : Exit → AS → Prop} {s : AS} (L : List (Nat × AV)) (st' : List AObj) (df' : List Nat) (h : HasL s.t L) (hst : s.st = st') (hdf : s.df = df') (k : ∀ t, AWp E rd N c Q ⟨puts t L, st', df'⟩) : AWp E rd N c Q s := by
 have := k s.t
 rw [qaa h, ← hst, ← hdf] at this
 exact this
theorem qe6 {E : Env} {B0 : Nat} {w0 : World} {N : Nat} {G : Gh} {s : AS} {a : Act} {w : World} (hI : Inv B0 w0 N G s a w) {x : Operand} {t : TypeId} {sz : Nat} {agg : Bool} {o ver off : Nat} {T' : TypeId} {cs : List AV} {r : AV} (hx : qz N s x = .bx o ver off) (ho : s.st[o]? = some (.cells ver T' cs)) (ht : tyOf E.P t = some (sz, agg)) (hr : vq sz agg off cs = some r) :
  ∃ b v, a.eval x = .pointer (some ⟨b, off, none⟩) ∧ (loadVar t ⟨b, off, none⟩).run E.P w = .ok v w ∧ Rel G r v := by
 have he := hI.eval_of hx
 generalize hv : a.eval x = v at he
 cases he with
 | bx _ _ _ b hn hv' hb =>
  obtain ⟨_, h1, h2, h3, c, h4, h5, h6⟩ := hI.agree.ob o _ ho
  have hb := hb h1
  rw [hb] at h4
  obtain ⟨v, hrun, hR⟩ := qab (w := w) (G := G) (b := b) (off := off) (off' := off) ht (fun i x hx hi => by
   obtain ⟨y, hy⟩ := v8 hx (Nat.le_of_eq h5)
   refine ⟨y, ?_, h6 i x y hx hy⟩
   simp [World.cell?, h4, show off + (i - off) = i by omega, hy]) hr
  exact ⟨b, v, rfl, hrun, hR⟩
theorem qdm {E : Env} {fn : Func} {s : AS} {t u : Tmp} {Ta Tb : TypeId} {o1 v1 f1 sz1 : Nat} {agg1 : Bool} {T1 : TypeId} {cs1 : List AV} {r1 : AV} {o2 v2 f2 sz2 : Nat} {agg2 : Bool} {T2 : TypeId} {cs2 : List AV} {r2 : AV} (hr : fn.results = #[.cell t Ta, .cell u Tb])
  (hx1 : qz fn.ntmps s (.tmp t) = .bx o1 v1 f1) (ho1 : s.st[o1]? = some (.cells v1 T1 cs1)) (ht1 : tyOf E.P Ta = some (sz1, agg1)) (hl1 : vq sz1 agg1 f1 cs1 = some r1)
  (hx2 : qz fn.ntmps s (.tmp u) = .bx o2 v2 f2) (ho2 : s.st[o2]? = some (.cells v2 T2 cs2)) (ht2 : tyOf E.P Tb = some (sz2, agg2)) (hl2 : vq sz2 agg2 f2 cs2 = some r2) : ARes E fn s (.tu [r1, r2]) := by
 refine ⟨fun B0 w0 G a w _ hI => ?_⟩
 obtain ⟨b1, y1, e1, e2, e3⟩ := qe6 hI hx1 ho1 ht1 hl1
 obtain ⟨b2, y2, k1, k2, k3⟩ := qe6 hI hx2 ho2 ht2 hl2
 simp only [Act.eval, Array.getD_eq_getD_getElem?] at e1 k1
 refine ⟨.tuple #[y1, y2], ?_, qdv e3 k3⟩
 simp [results, hr, e1, k1, asAddr, e2, k2]
theorem qgp {E : Env} {fn : Func} {R : AV → List AObj → Prop} {s : AS} {st loc : List AObj} {k : Nat} {ds : List Nat} (hs : s.st = st ++ loc) (hd : s.df = (st.length + k) :: ds) (ho : loc[k]? = some .dfr) (h : ARet E fn R ⟨s.t, st ++ loc.set k .dead, ds⟩) : ARet E fn R s :=
 qbz hd (by rw [hs]; exact zw ho) (by rw [hs, wu]; exact h)
theorem qfl {E : Env} {fn : Func} {s : AS} {t u : Tmp} {Ta Tb : TypeId} {st loc : List AObj} {k1 v1 f1 sz1 : Nat} {agg1 : Bool} {T1 : TypeId} {cs1 : List AV} {r1 : AV} {k2 v2 f2 sz2 : Nat} {agg2 : Bool} {T2 : TypeId} {cs2 : List AV} {r2 : AV} (hr : fn.results = #[.cell t Ta, .cell u Tb]) (hs : s.st = st ++ loc)
  (hx1 : qz fn.ntmps s (.tmp t) = .bx (st.length + k1) v1 f1) (ho1 : loc[k1]? = some (.cells v1 T1 cs1)) (ht1 : tyOf E.P Ta = some (sz1, agg1)) (hl1 : vq sz1 agg1 f1 cs1 = some r1)
  (hx2 : qz fn.ntmps s (.tmp u) = .bx (st.length + k2) v2 f2) (ho2 : loc[k2]? = some (.cells v2 T2 cs2)) (ht2 : tyOf E.P Tb = some (sz2, agg2)) (hl2 : vq sz2 agg2 f2 cs2 = some r2) : ARes E fn s (.tu [r1, r2]) :=
 qdm hr hx1 (by rw [hs]; exact zw ho1) ht1 hl1 hx2 (by rw [hs]; exact zw ho2) ht2 hl2
end Go.Av
set_option linter.unusedVariables false
namespace Go.Av
open Go Go.RowKit
@[reducible] def Wv (x : BitVec 32) : AV := .v (.int .u32 (x.toNat : Nat))
theorem qi5 (n : Nat) : IntKind.u32.wrap (n : Int) = ((n % 4294967296 : Nat) : Int) := by
 simp [IntKind.wrap, IntKind.bits, IntKind.signed]
theorem vg (x : BitVec 32) : BitVec.ofInt 32 (x.toNat : Int) = x := by
 rw [BitVec.ofInt_natCast, BitVec.ofNat_toNat]
 simp
theorem qdo (x : BitVec 32) : IntKind.u32.wrap (x.toNat : Int) = (x.toNat : Int) := by
 rw [qi5, Nat.mod_eq_of_lt x.isLt]
section
variable {E : Env} {rd : Option Nat} {N : Nat} {ops : Array Oper} {K : AS → Prop} {s : AS} {rest : List Oper} {d : Option Tmp} {T : TypeId} {p : String} {af : Array Edge}
theorem qgc {x y : Operand} {t t' : TypeId} {m n : Int} {a b : BitVec 32} (hx : qz N s x = .v (.int .u32 m)) (hy : qz N s y = .v (.int .u32 n)) (ha : BitVec.ofInt 32 m = a) (hb : BitVec.ofInt 32 n = b) (h : AOps E rd N ops rest K (s.put d (Wv (a ^^^ b)))) : AOps E rd N ops (⟨d, .binOp .xor t x y t', T, p, af, none⟩ :: rest) K s :=
 qum hx hy (by subst ha; subst hb; simp only [qak, IntKind.bits]; rw [qdo]; rfl) h
theorem qf1 {x y : Operand} {t t' : TypeId} {m n : Int} {a b : BitVec 32} (hx : qz N s x = .v (.int .u32 m)) (hy : qz N s y = .v (.int .u32 n)) (ha : BitVec.ofInt 32 m = a) (hb : BitVec.ofInt 32 n = b) (h : AOps E rd N ops rest K (s.put d (Wv (a &&& b)))) : AOps E rd N ops (⟨d, .binOp .and t x y t', T, p, af, none⟩ :: rest) K s :=
 qul hx hy (by subst ha; subst hb; simp only [qak, IntKind.bits]; rw [qdo]; rfl) h
theorem qhs {x y : Operand} {t t' : TypeId} {m n : Int} {a b : BitVec 32} (hx : qz N s x = .v (.int .u32 m)) (hy : qz N s y = .v (.int .u32 n)) (ha : BitVec.ofInt 32 m = a) (hb : BitVec.ofInt 32 n = b) (h : AOps E rd N ops rest K (s.put d (Wv (a ||| b)))) : AOps E rd N ops (⟨d, .binOp .or t x y t', T, p, af, none⟩ :: rest) K s :=
 qvc hx hy (by subst ha; subst hb; simp only [qak, IntKind.bits]; rw [qdo]; rfl) h
theorem qd4 {x : Operand} {t : TypeId} {a : BitVec 32} (hx : qz N s x = Wv a) (h : AOps E rd N ops rest K (s.put d (Wv (~~~ a)))) : AOps E rd N ops (⟨d, .unOp .xor t x, T, p, af, none⟩ :: rest) K s :=
 qrh hx (by
  simp only [qak, IntKind.bits, IntKind.signed, Bool.false_eq_true, if_false]
  rw [vg]
  have h1 : BitVec.ofInt 32 IntKind.u32.max = BitVec.allOnes 32 := by decide
  have h2 : BitVec.ofInt 32 IntKind.u32.max ^^^ a = ~~~ a := by rw [h1, BitVec.xor_comm, BitVec.xor_allOnes]
  exact (congrArg (fun z : BitVec 32 => IntKind.u32.wrap (z.toNat : Int)) h2).trans (qdo _)) h
theorem qf0 {x y : Operand} {t t' : TypeId} {yk : IntKind} {a : BitVec 32} {n : Nat} (hx : qz N s x = Wv a) (hy : qz N s y = .v (.int yk (n : Int))) (hn : Nat.ble n 32 = true) (h : AOps E rd N ops rest K (s.put d (Wv (a <<< n)))) : AOps E rd N ops (⟨d, .binOp .shl t x y t', T, p, af, none⟩ :: rest) K s :=
 quv hx hy (by omega) (by
  have hn := Nat.le_of_ble_eq_true hn
  have : min (n : Int).toNat IntKind.u32.bits = n := by simp [IntKind.bits]; omega
  rw [this]
  have e : (a.toNat : Int) * 2 ^ n = ((a.toNat * 2 ^ n : Nat) : Int) := by simp
  rw [e, qi5, BitVec.toNat_shiftLeft, Nat.shiftLeft_eq]) h
theorem qgh {x y : Operand} {t t' : TypeId} {yk : IntKind} {a : BitVec 32} {n : Nat} (hx : qz N s x = Wv a) (hy : qz N s y = .v (.int yk (n : Int))) (hn : Nat.ble n 32 = true) (h : AOps E rd N ops rest K (s.put d (Wv (a >>> n)))) : AOps E rd N ops (⟨d, .binOp .shr t x y t', T, p, af, none⟩ :: rest) K s :=
 qub hx hy (by omega) (by
  have hn := Nat.le_of_ble_eq_true hn
  have : min (n : Int).toNat IntKind.u32.bits = n := by simp [IntKind.bits]; omega
  rw [this, BitVec.toNat_ushiftRight, Nat.shiftRight_eq_div_pow]
  have h0 : (0 : Int) ≤ 2 ^ n := by
   have : ((2 ^ n : Nat) : Int) = (2 : Int) ^ n := by simp
   rw [← this]
   exact Int.natCast_nonneg _
  rw [Int.fdiv_eq_ediv_of_nonneg _ h0]
  simp) h
theorem qfb {x y : Operand} {t e : TypeId} {len sz : Nat} {agg : Bool} {k : IntKind} {n : Nat} {cs : List AV} {r : AV} (hx : qz N s x = .ag cs) (hy : qz N s y = .v (.int k (n : Int))) (hu : E.P.underlying t = some (.array len e)) (ht : tyOf E.P e = some (sz, agg)) (hn : n < len) (hr : vq sz agg (n * sz) cs = some r)
  (h : AOps E rd N ops rest K (s.put d r)) : AOps E rd N ops (⟨d, .index t x y, T, p, af, none⟩ :: rest) K s := by
 refine jk rfl (ji nofun fun B0 w0 G a w _ hI => ?_)
 have he := hI.eval_of hx
 have hey := hI.evalv hy
 generalize hv : a.eval x = v at he
 cases he with
 | ag _ vs hl hrel =>
  obtain ⟨i1, i2⟩ := wa ht w
  cases agg with
  | false =>
   simp only [vq, cond_false] at hr
   obtain ⟨z, hz⟩ := v8 hr (Nat.le_of_eq hl)
   refine ⟨z, w, G, r, s.st, ?_, .refl G, hI.agree, hrel _ r z hr hz, h⟩
   generalize a.eval = ρ at hv hey
   simp only [execOp, hv, hey]
   simp [Instr.index, asIntOf, run_underlying hu, hn, part, i1, i2, hz]
  | true =>
   simp only [vq, cond_true] at hr
   cases hb : Nat.ble (n * sz + sz) cs.length with
   | false => rw [hb] at hr; simp at hr
   | true =>
    rw [hb] at hr
    simp only [cond_true, Option.some.injEq] at hr
    have hle : n * sz + sz ≤ cs.length := Nat.le_of_ble_eq_true hb
    refine ⟨.agg (vs.extract (n * sz) (n * sz + sz)), w, G, r, s.st, ?_, .refl G, hI.agree, ?_, h⟩
    ·generalize a.eval = ρ at hv hey
     simp only [execOp, hv, hey]
     simp [Instr.index, asIntOf, run_underlying hu, hn, part, i1, i2]
    ·subst hr
     refine .ag _ _ (by simp; omega) fun i x y h1 h2 => ?_
     have hi : i < sz := by have := lt_of_getElem? h1; simp at this; omega
     simp [hi, List.getElem?_drop] at h1
     rw [Array.getElem?_extract] at h2
     split at h2
     ·exact hrel (n * sz + i) x y h1 h2
     ·simp at h2
theorem qca {x y : Operand} {t e : TypeId} {len sz : Nat} {agg : Bool} {k : IntKind} {n o ver off : Nat} (hx : qz N s x = .bx o ver off) (hy : qz N s y = .v (.int k (n : Int))) (hu : E.P.underlying t = some (.array len e)) (ht : tyOf E.P e = some (sz, agg)) (hn : n < len)
  (h : AOps E rd N ops rest K (s.put d (.bx o ver (off + n * sz)))) : AOps E rd N ops (⟨d, .indexAddr t x y, T, p, af, none⟩ :: rest) K s := by
 refine jk rfl (ji nofun fun B0 w0 G a w _ hI => ?_)
 have he := hI.eval_of hx
 have hey := hI.evalv hy
 generalize hv : a.eval x = v at he
 cases he with
 | bx _ _ _ b hn' hver hb =>
  refine ⟨.pointer (some ⟨b, off + n * sz, none⟩), w, G, _, s.st, ?_, .refl G, hI.agree, .bx o ver _ b hn' hver hb, h⟩
  generalize a.eval = ρ at hv hey
  simp only [execOp, hv, hey]
  simp [Instr.indexAt, asIntOf, run_underlying hu, Instr.sureAddr, hn, (wa ht w).1, Addr.add_lit]
def qk4 (P : Program) (t : TypeId) : Option Nat :=
 match P.underlying t with
 | some (.array _ e) => match P.info? e with
  | some i => some i.size
  | none => none
 | _ => none
theorem qo3 {P : Program} {t : TypeId} {sz : Nat} (h : qk4 P t = some sz) : ∃ len e i, P.underlying t = some (.array len e) ∧ P.info? e = some i ∧ i.size = sz := by
 unfold qk4 at h
 split at h
 ·rename_i len e hu
  split at h
  ·rename_i i hi
   simp only [Option.some.injEq] at h
   exact ⟨len, e, i, hu, hi, h⟩
  ·simp at h
 ·simp at h
theorem qhg {t : TypeId} {parts : Array (Nat × Operand)} {zs cs : List AV} {sz : Nat} (hz : qdq E.P t = some zs) (hp : qk4 E.P t = some sz) (hf : qb5 (fun i => some (i * sz, sz)) zs (xb N s parts) = some cs)
  (h : AQ E N ops rest K (s.put d (.ag cs))) : AQ E N ops (⟨d, .build t parts, T, p, af, none⟩ :: rest) K s := by
 refine qal rfl nofun fun B0 w0 G a w _ hI => ?_
 obtain ⟨len, e, i, hu, hi, rfl⟩ := qo3 hp
 obtain ⟨z, hrun, hr⟩ := qg3 hz w
 obtain ⟨c', h1, h2⟩ := qd0 (fun k => some (k * i.size, i.size)) (xb N s parts) (parts.toList.map fun x => (x.1, a.eval x.2)) zs z.cells cs (by simp [xb]) (qeu hI parts) (hr G) hf
 have hz' : ∃ ti, E.P.info? t = some ti ∧ ti.zero = some z := by
  unfold zeroValue at hrun
  simp [typeInfo] at hrun
  cases hti : E.P.info? t with
  | none => simp [hti] at hrun
  | some ti =>
   simp [hti] at hrun
   cases htz : ti.zero with
   | none => simp [htz] at hrun
   | some y => simp [htz] at hrun; exact ⟨ti, rfl, by rw [htz, hrun]⟩
 obtain ⟨ti, g1, g2⟩ := hz'
 refine ⟨.agg c', .ag cs, fun w' _ => ?_, .ag _ _ h2.1 h2.2, h⟩
 generalize a.eval = ρ at h1
 simp [execOp, Instr.build, run_underlying hu, zeroValue, typeInfo, g1, g2, sizeOf, hi, h1]
theorem qn0 {x y : Operand} {t : TypeId} {m : List UInt8} {k : IntKind} {n : Nat} (hx : qz N s x = Sv m) (hy : qz N s y = .v (.int k (n : Int))) (hu : E.P.underlying t = some .string) (h1 : n < m.length)
  (h : AQ E N ops rest K (s.put d (Uv (m.getD n 0)))) : AQ E N ops (⟨d, .index t x y, T, p, af, none⟩ :: rest) K s :=
 xu _ rfl nofun (fun a w he => by
  have hg : (⟨m.toArray⟩ : ByteArray)[n]? = some (m.getD n 0) := by
   simp only [getElem?_def, xy, h1, dite_true, List.getD, Option.getD_some]
   rfl
  simp [execOp, Instr.index, he _ _ hx, he _ _ hy, asIntOf, run_underlying hu, hg]) h
theorem qi8 {x : Operand} {t t' : TypeId} {k : IntKind} {n : Nat} {e : TypeDesc} (hx : qz N s x = .v (.int k (n : Int))) (hs : E.P.underlying t = some e) (hd : E.P.underlying t' = some (.int .u32)) (hn : n < 4294967296)
  (h : AQ E N ops rest K (s.put d (Wv (BitVec.ofNat 32 n)))) : AQ E N ops (⟨d, .convert t t' x, T, p, af, none⟩ :: rest) K s := by
 have hr : IntKind.u32.wrap (n : Int) = (((BitVec.ofNat 32 n).toNat : Nat) : Int) := by rw [qi5, Nat.mod_eq_of_lt hn, BitVec.toNat_ofNat, Nat.mod_eq_of_lt hn]
 exact xu _ rfl nofun (fun a w he => by rw [← hr]; simp [execOp, he _ _ hx, convert, run_underlying hs, run_underlying hd, Conv.intToInt]) h
theorem qk8 {x y : Operand} {t t' : TypeId} {yk : IntKind} {c : UInt8} (hx : qz N s x = Uv c) (hy : qz N s y = .v (.int yk 4)) (h : AQ E N ops rest K (s.put d (.v (.int .u8 ((c.toNat / 16 : Nat) : Int))))) : AQ E N ops (⟨d, .binOp .shr t x y t', T, p, af, none⟩ :: rest) K s :=
 xu _ rfl nofun (fun a w he => by
  have : (c.toNat : Int).fdiv (2 ^ (min (4 : Int).toNat IntKind.u8.bits)) = ((c.toNat / 16 : Nat) : Int) := by
   rw [Int.fdiv_eq_ediv_of_nonneg _ (by decide)]
   simp [IntKind.bits]
  rw [← this]
  simp [execOp, he _ _ hx, he _ _ hy, eqGuard_at_int, binOp_shr, Op.shift]) h
theorem qjb {x y : Operand} {t t' : TypeId} {c : UInt8} (hx : qz N s x = Uv c) (hy : qz N s y = .v (.int .u8 15)) (h : AQ E N ops rest K (s.put d (.v (.int .u8 ((c.toNat % 16 : Nat) : Int))))) : AQ E N ops (⟨d, .binOp .and t x y t', T, p, af, none⟩ :: rest) K s :=
 qwe hx hy (by
  simp only [qak, IntKind.bits]
  have h1 : BitVec.ofInt 8 (c.toNat : Int) = c.toBitVec := by rw [BitVec.ofInt_natCast]; simp
  have h2 : (BitVec.ofInt 8 (c.toNat : Int) &&& BitVec.ofInt 8 15).toNat = c.toNat % 16 := by
   rw [h1, BitVec.toNat_and]
   exact Nat.and_two_pow_sub_one_eq_mod c.toNat 4
  have h3 : IntKind.u8.wrap ((c.toNat % 16 : Nat) : Int) = ((c.toNat % 16 : Nat) : Int) := by
   simp [IntKind.wrap, IntKind.bits, IntKind.signed]
   omega
  exact (congrArg (fun z : Nat => IntKind.u8.wrap (z : Int)) h2).trans h3) h
theorem qs7 {x y : Operand} {t t' : TypeId} {k : IntKind} {m n : Nat} (hx : qz N s x = .v (.int k (m : Int))) (hy : qz N s y = .v (.int k (n : Int))) (hf : k.wrap ((m + n : Nat) : Int) = ((m + n : Nat) : Int))
  (h : AOps E rd N ops rest K (s.put d (.v (.int k ((m + n : Nat) : Int))))) : AOps E rd N ops (⟨d, .binOp .add t x y t', T, p, af, none⟩ :: rest) K s :=
 jj hx hy (by rw [← Int.natCast_add]; exact hf) h
theorem qrw {x y : Operand} {t t' : TypeId} {k : IntKind} {m n : Nat} (hx : qz N s x = .v (.int k (m : Int))) (hy : qz N s y = .v (.int k (n : Int))) (hn : n ≠ 0) (hf : k.wrap ((m / n : Nat) : Int) = ((m / n : Nat) : Int))
  (h : AOps E rd N ops rest K (s.put d (.v (.int k ((m / n : Nat) : Int))))) : AOps E rd N ops (⟨d, .binOp .quo t x y t', T, p, af, none⟩ :: rest) K s :=
 qt2 hx hy (by omega) (by rw [Int.tdiv_eq_ediv_of_nonneg (by omega), ← Int.natCast_ediv]; exact hf) h
theorem qsf {x y : Operand} {t t' : TypeId} {k : IntKind} {m n : Nat} (hx : qz N s x = .v (.int k (m : Int))) (hy : qz N s y = .v (.int k (n : Int))) (hn : n ≠ 0)
  (h : AOps E rd N ops rest K (s.put d (.v (.int k ((m % n : Nat) : Int))))) : AOps E rd N ops (⟨d, .binOp .rem t x y t', T, p, af, none⟩ :: rest) K s :=
 qui hx hy (by omega) (by rw [Int.tmod_eq_emod_of_nonneg (by omega), ← Int.natCast_emod]; exact h)
theorem qfn {n : Nat} (h : n < 18446744073709551616) : IntKind.u64.wrap (n : Int) = (n : Int) := by
 simp [IntKind.wrap, IntKind.bits, IntKind.signed]
 omega
end
end Go.Av
set_option linter.unusedVariables false
namespace Go.Av
open Go Go.RowKit
section
variable {E : Env} {rd : Option Nat} {N : Nat} {ops : Array Oper} {K : AS → Prop} {s : AS} {rest : List Oper} {d : Option Tmp} {T : TypeId} {p : String} {af : Array Edge}
theorem qf4 {x hi : Operand} {t : TypeId} {m r : List UInt8} {k : IntKind} {n : Nat} (hr : m.take n = r) (hx : qz N s x = Sv m) (hl : qz N s hi = .v (.int k (n : Int))) (hu : E.P.underlying t = some .string) (h1 : n ≤ m.length)
  (h : AOps E rd N ops rest K (s.put d (Sv r))) : AOps E rd N ops (⟨d, .slice t x none (some hi) none, T, p, af, none⟩ :: rest) K s :=
 qbv hx hl hu h1 (by rw [hr]; exact h)
theorem qlv {x y : Operand} {t t' : TypeId} {m : Bool} (hx : qz N s x = Bv m) (hy : qz N s y = Bv m) (hu : E.P.underlying t = some .bool)
  (h : AOps E rd N ops rest K (s.put d (Bv false))) : AOps E rd N ops (⟨d, .binOp .neq t x y t', T, p, af, none⟩ :: rest) K s :=
 qtw hx hy hu (by rw [beq_self_eq_true]; exact h)
end
end Go.Av
set_option linter.unusedVariables false
namespace Go.Av
open Go Go.RowKit
section
variable {E : Env} {rd : Option Nat} {N : Nat} {ops : Array Oper} {K : AS → Prop} {s : AS} {rest : List Oper} {d : Option Tmp} {T : TypeId} {p : String} {af : Array Edge}
def qmm : TypeDesc → Bool
 | .interface _ => false
 | _ => true
def qq7 (P : Program) (t : TypeId) : Option Value := match P.info? t with | some i => i.zero | none => none
theorem qsq {P : Program} {t : TypeId} {z : Value} (h : qq7 P t = some z) (w : World) : (zeroValue t).run P w = .ok z w := by
 unfold qq7 at h
 split at h
 ·rename_i i hi
  simp [zeroValue, typeInfo, hi, h]
 ·simp at h
theorem qcp {x : Operand} {xt t : TypeId} {D : TypeDesc} {y : AV} (hx : qz N s x = .ifc t y) (hu : E.P.underlying t = some D) (hn : qmm D = true)
  (h : AOps E rd N ops rest K (s.put d (.tu [y, Bv true]))) : AOps E rd N ops (⟨d, .typeAssert x xt t true, T, p, af, none⟩ :: rest) K s := by
 refine jk rfl (ji nofun fun B0 w0 G a w _ hI => ?_)
 have he := hI.eval_of hx
 generalize hv : a.eval x = v at he
 cases he with
 | ifc _ _ z hz =>
  refine ⟨.tuple #[z, .bool true], w, G, _, s.st, ?_, .refl G, hI.agree, qdv hz (.v _), h⟩
  generalize a.eval = ρ at hv
  cases D <;> first | (simp [qmm] at hn; done) | simp [execOp, Instr.typeAssert, hv, run_underlying hu]
theorem qjk {x : Operand} {xt t u : TypeId} {D : TypeDesc} {y : AV} {z : Value} (hx : qz N s x = .ifc u y) (hu : E.P.underlying t = some D) (hn : qmm D = true) (hne : Nat.beq u t = false) (hz : qq7 E.P t = some z)
  (h : AOps E rd N ops rest K (s.put d (.tu [.v z, Bv false]))) : AOps E rd N ops (⟨d, .typeAssert x xt t true, T, p, af, none⟩ :: rest) K s := by
 refine jk rfl (ji nofun fun B0 w0 G a w _ hI => ?_)
 have he := hI.eval_of hx
 generalize hv : a.eval x = v at he
 have hne' : u ≠ t := fun e => by subst e; simp at hne
 have hz' := qsq hz w
 cases he with
 | ifc _ _ q hq =>
  refine ⟨.tuple #[z, .bool false], w, G, _, s.st, ?_, .refl G, hI.agree, qdv (.v _) (.v _), h⟩
  generalize a.eval = ρ at hv
  cases D <;> first | (simp [qmm] at hn; done) | simp [execOp, Instr.typeAssert, hv, run_underlying hu, hne', hz']
end
end Go.Av
set_option linter.unusedVariables false
namespace Go.Proofs.YtefmcijohgpfhaaGreatDoor
open Go Go.Av Go.RowKit Go.Proofs
structure Laid (w : World) : Prop where
 shaped : World.ShapedOpen Tryz.prog w
 pow : Lib.TabIs Tryz.prog w "internal/strconv.uint64pow10" .u64 Lib.pow10Tab
 syn : ∃ tp p, World.var? Tryz.prog w "strconv.ErrSyntax" = some #[.iface tp p]
 ran : ∃ tp p, World.var? Tryz.prog w "strconv.ErrRange" = some #[.iface tp p]
 ert : w.cell? ⟨3, 0, none⟩ = some (.iface 244 (.agg #[.pointer (some ⟨9, 25, none⟩)]))
@[reducible] noncomputable def E : Env := ⟨Tryz.prog, fun B0 w0 => ∀ w, Below B0 w0 w → Laid w⟩
theorem qj9 (l m : List UInt8) (st : List AObj) (hl : l.length < 4294967281) : zr E 164 [Sv l, Sv m] st fun r st' => r = Bv (Lib.contains l m) ∧ st' = st :=
 qad (vals := #[.string ⟨l.toArray⟩, .string ⟨m.toArray⟩]) rfl fun _ _ w hL hb => (Tryz.strings_Contains_shaped ⟨l.toArray⟩ ⟨m.toArray⟩ w (hL w hb).shaped (by simpa [ByteArray.size] using hl)).mono fun _ _ ⟨h1, h2⟩ => ⟨h1, qcx h2⟩
theorem qfe (l m : List UInt8) (st : List AObj) : zr E 73 [Sv l, Sv m] st fun r st' => r = Bv (Lib.hasPrefix l m) ∧ st' = st :=
 qad (vals := #[.string ⟨l.toArray⟩, .string ⟨m.toArray⟩]) rfl fun _ _ w _ _ => (Tryz.strings_HasPrefix ⟨l.toArray⟩ ⟨m.toArray⟩ w).mono fun _ _ ⟨h1, h2⟩ => ⟨h1, qcx h2⟩
theorem qrk (l m : List UInt8) (st : List AObj) (hl : l.length < 4294967281) : zr E 36 [Sv l, Sv m] st fun r st' => r = .tu [Sv (Lib.cut l m).1, Sv (Lib.cut l m).2.1, Bv (Lib.cut l m).2.2] ∧ st' = st :=
 qdf (vals := #[.string ⟨l.toArray⟩, .string ⟨m.toArray⟩]) (rs := #[.string ⟨(Lib.cut l m).1.toArray⟩, .string ⟨(Lib.cut l m).2.1.toArray⟩, .bool (Lib.cut l m).2.2]) rfl fun _ _ w hL hb => (Tryz.strings_Cut_shaped ⟨l.toArray⟩ ⟨m.toArray⟩ w (hL w hb).shaped (by simpa [ByteArray.size] using hl)).mono fun _ _ ⟨h1, n, h2⟩ => ⟨h1, h2 ▸ qpm w n⟩
theorem qfa (l m : List UInt8) (st : List AObj) : zr E 76 [Sv l, Sv m] st fun r st' => r = .tu [Sv (Lib.trimPrefix l m), Bv (Lib.hasPrefix l m)] ∧ st' = st :=
 qdf (vals := #[.string ⟨l.toArray⟩, .string ⟨m.toArray⟩]) (rs := #[.string ⟨(Lib.trimPrefix l m).toArray⟩, .bool (Lib.hasPrefix l m)]) rfl fun _ _ w _ _ => (Tryz.strings_CutPrefix ⟨l.toArray⟩ ⟨m.toArray⟩ w).mono fun _ _ ⟨h1, h2⟩ => ⟨h1, qcx h2⟩
theorem qv7 (n : Int) (st : List AObj) (h0 : -9223372036854775808 ≤ n) (h1 : n ≤ 9223372036854775807) : zr E 87 [Iv n] st fun r st' => r = Sv (Lib.itoa n) ∧ st' = st :=
 qad (vals := #[.int .i64 n]) rfl fun _ _ w hL hb => (Tryz.strconv_Itoa n h0 h1 w (hL w hb).pow).mono fun _ _ ⟨h1, k, os, h2⟩ => ⟨h1, h2 ▸ qrl w k os⟩
theorem qr2 (l m : List UInt8) (st : List AObj) (hl : l.length ≤ 9223372036854775807) (hm : m.length < 4294967281) (ha : ∀ (j : Nat) (b : UInt8), m[j]? = some b → b.toNat < 128) : zr E 161 [Sv l, Sv m] st fun r st' => r = Sv (Lib.trimS l m) ∧ st' = st :=
 qad (vals := #[.string ⟨l.toArray⟩, .string ⟨m.toArray⟩]) rfl fun _ _ w _ _ => (Any.strings_Trim_laid Tryz.lays160t (by kernel_rfl) ⟨l.toArray⟩ ⟨m.toArray⟩ w (by simpa [ByteArray.size] using hl) (by simpa [ByteArray.size] using hm) (by simpa using ha)).mono fun _ _ ⟨h1, h2⟩ => ⟨h1, h2⟩
theorem qox {w w' : World} {T : TypeId} {s : ByteArray} (h : w' = w ∨ ∃ t, w' = Lib.bytesWorld w T t) : Below w.heap.size w w' := by
 rcases h with rfl | ⟨t, rfl⟩
 ·exact Below.refl _ _
 ·unfold Lib.bytesWorld
  exact Lib.below_freeze ((Below.drew (Below.refl w.heap.size w)).alloc (Nat.le_refl _) _) (p := ⟨w.heap.size, _, none⟩) (Nat.le_refl _) _
theorem qjx {f : FuncId} {st : List AObj} {args : List AV} {vals : Array Value} {R : Int → Option (TypeId × Value) → Prop} (ha : args = vals.toList.map .v)
  (h : ∀ B0 w0 w, E.L B0 w0 → Below B0 w0 w → Calls E.P f vals w fun e w' => ∃ n x, e = .returned (.tuple #[.int .i64 n, match x with | none => .nilIface | some (t, y) => .iface t y]) ∧ R n x ∧ Below w.heap.size w w') :
  zr E f args st fun r st' => st' = st ∧ ∃ n x, r = .tu [Iv n, match x with | none => .v .nilIface | some (t, y) => .ifc t (.v y)] ∧ R n x := by
 subst ha
 refine ⟨fun B0 w0 G vs w hL hA hR => ?_⟩
 have hv : vs = vals := by
  have hs : vs.size = vals.size := by have := hR.1; simpa using this.symm
  apply Array.ext hs
  intro i h1 h2
  have := hR.2 i (.v vals[i]) vs[i] (by simp [h2]) (by simp [h1])
  generalize vs[i] = y at this
  cases this
  rfl
 subst hv
 refine (h B0 w0 w hL hA.below).mono ?_
 rintro e w' ⟨n, x, rfl, hRR, hb⟩
 refine ⟨_, G, _, st, rfl, .refl G, hA.fresh hb, qdv (.v _) ?_, rfl, n, x, rfl, hRR⟩
 cases x with
 | none => exact .v _
 | some p => exact .ifc _ _ _ (.v _)
theorem qtj (l : List UInt8) (st : List AObj) (hl : l.length ≤ 281474976710656) : zr E 77 [Sv l] st fun r st' => st' = st ∧ ∃ n x, r = .tu [Iv n, match x with | none => .v .nilIface | some (t, y) => .ifc t (.v y)] ∧ match x with | none => Lib.atoiAll l = .ok n | some _ => ∀ v, Lib.atoiAll l ≠ .ok v := by
 refine qjx (vals := #[.string ⟨l.toArray⟩]) (R := fun n x => match x with | none => Lib.atoiAll l = .ok n | some _ => ∀ v, Lib.atoiAll l ≠ .ok v) rfl fun B0 w0 w hL hb => ?_
 have hls : (⟨l.toArray⟩ : ByteArray).data.toList = l := rfl
 rcases ho : Lib.atoiAll l with v | _ | _
 ·
  refine (Tryz.strconv_Atoi_ok ⟨l.toArray⟩ (by simp [ByteArray.size]; omega) v (by rw [hls]; exact ho) w).mono ?_
  rintro e w' ⟨rfl, hw⟩
  exact ⟨v, none, rfl, rfl, qox (s := ⟨l.toArray⟩) hw⟩
 ·
  obtain ⟨tp, p, hv⟩ := (hL w hb).syn
  refine (Any.strconv_Atoi_syntax_var Tryz.laysC172 ⟨l.toArray⟩ (by simpa [ByteArray.size] using hl) (by rw [hls]; exact ho) tp p w hv).mono ?_
  rintro e w' ⟨N, rfl, _, _, hw⟩
  exact ⟨_, some (_, _), rfl, by simp, hw⟩
 ·
  obtain ⟨tp, p, hv⟩ := (hL w hb).ran
  refine (Tryz.strconv_Atoi_range_var ⟨l.toArray⟩ (by simpa [ByteArray.size] using hl) (by rw [hls]; exact ho) tp p w hv).mono ?_
  rintro e w' ⟨N, rfl, _, _, hw⟩
  exact ⟨_, some (_, _), rfl, by simp, hw⟩
theorem qvn (l m : List UInt8) (st : List AObj) (hl : l.length ≤ 9223372036854775807) (hm : Nat.blt m.length 4294967281 = true) (ha : m.all (fun b => Nat.blt b.toNat 128) = true) : zr E 161 [Sv l, Sv m] st fun r st' => r = Sv (Lib.trimS l m) ∧ st' = st :=
 qr2 l m st hl (by simpa [Nat.blt_eq] using hm) fun j b h => by
  have := List.all_eq_true.1 ha b (List.mem_of_getElem? h)
  simpa [Nat.blt_eq] using this
end Go.Proofs.YtefmcijohgpfhaaGreatDoor
set_option linter.unusedVariables false
namespace Go.Av
open Go Go.RowKit Go.WideShapes Go.ChangeShapes
def G0 : Gh := ⟨fun _ => none, fun _ => ⟨0, 0, 0, false⟩, 0⟩
theorem qpo (W : World) : jg W.heap.size W G0 [] W :=
 ⟨Below.refl _ _, Nat.le_refl _, rfl, fun b vs h => by simp [G0] at h, fun o x h => by simp at h, fun o o' x x' _ h => by simp at h⟩
theorem qsx (G : Gh) (vals : Array Value) : RelL G (vals.toList.map .v) vals := by
 refine ⟨by simp, fun i x y hx hy => ?_⟩
 rw [List.getElem?_map] at hx
 rw [Array.getElem?_toList, hy] at hx
 simp at hx
 subst hx
 exact .v y
theorem qky {E : Env} {f : FuncId} {args : List AV} {vals : Array Value} {b : Bool} {W : World} (h : zr E f args [] fun r st' => r = Bv b ∧ st' = []) (hL : E.L W.heap.size W) (ha : args = vals.toList.map .v) :
  Calls E.P f vals W fun e w' => e = .returned (.bool b) ∧ Below W.heap.size W w' := by
 subst ha
 refine (h.run W.heap.size W G0 vals W hL (qpo W) (qsx _ _)).mono ?_
 rintro e w' ⟨v, G', r, st', rfl, _, hA, hr, rfl, _⟩
 cases hr
 exact ⟨rfl, hA.below⟩
theorem qla {P : Program} {W : World} {name : String} {k : IntKind} {zs : List Int} {g : Nat} {t e : TypeId} {n : Nat}
  (hg : P.globalNamed name = some g) (hty : (P.globals[g]?).map (·.type) = some t) (ht : P.underlying t = some (.array n e)) (he : P.underlying e = some (.int k)) (hce : P.cellsOf e = 1) (hct : P.cellsOf t = n)
  (h : Lib.VarReads P W name (Lib.tabData k zs)) : Lib.TabIs P W name k zs := by
 obtain ⟨g', t', cs, fuel, p, hg', ht', hvar, hd⟩ := h
 obtain rfl := Option.some.inj (hg.symm.trans hg')
 obtain rfl := Option.some.inj (hty.symm.trans ht')
 unfold Lib.TabIs
 rw [hvar, ← Lib.cells_of_tab ht he hce hct hd]
theorem qgq {P : Program} {W : World} {name s : String} {d : DataW Unit} {g : Nat} {t : TypeId} {ms : Array (String × TypeId)}
  (hg : P.globalNamed name = some g) (hty : (P.globals[g]?).map (·.type) = some t) (ht : P.underlying t = some (.interface ms))
  (h : Lib.VarReads P W name (.iface s d)) : ∃ tp p, W.var? P name = some #[.iface tp p] := by
 obtain ⟨g', t', cs, fuel, p, hg', ht', hvar, hd⟩ := h
 obtain rfl := Option.some.inj (hg.symm.trans hg')
 obtain rfl := Option.some.inj (hty.symm.trans ht')
 cases fuel with
 | zero => simp [DataW.trod] at hd
 | succ fuel =>
  obtain ⟨l⟩ := cs
  simp only [DataW.trod, ht] at hd
  split at hd
  all_goals simp_all
section
variable {H : Type} {enc : TypeId × Value → H} {P : Program}
theorem qmd {f : Func} {s : ChangeSpec} {apart fresh handsOn again : Bool} {W W' : World} {args : Array Value} {v : Value} {ds gs : List (DataW H)} {before pa pv : List MemPlace}
  (hW : DataW.Whole enc P f.params.toList s.vars apart W args.toList ds gs before)
  (hres : ∀ (b : Nat) (sp : Nat → Bool) (hd : Bool), DataW.TrodAll enc P W' b sp hd f.resultTypes.toList (v.resultList f.resultTypes.size) (s.fn H (ds ++ gs)).results [])
  (hargs : ∀ sp : Nat → Bool, (∀ p ∈ before, sp p.block = true) → DataW.TrodAll enc P W' 0 sp true f.params.toList args.toList (s.fn H (ds ++ gs)).args pa)
  (hvars : ∀ sp : Nat → Bool, (∀ p ∈ before, sp p.block = true) → DataW.TrodVars enc P W' sp s.vars (s.fn H (ds ++ gs)).vars pv)
  (hps : before = pa ++ pv) (hb : Below W.heap.size W W')
  (hok : ∀ (j : Nat) (t : TypeId) (r : Value), f.resultTypes[j]? = some t → (v.resultList f.resultTypes.size)[j]? = some r → Value.okWide P W' .any 0 t r) :
  s.post enc P f apart fresh handsOn again W args v W' := by
 have hlt : ∀ p ∈ before, p.block < W.heap.size := fun p hp => hW.lt p hp
 have hold : ∀ p ∈ before, (fun b => decide (b < W.heap.size)) p.block = true := fun p hp => by simpa using hlt p hp
 refine ⟨ds, gs, before, [], pa, pv, hW, hres _ _ _, hargs _ hold, hvars _ hold, World.keptBut_mono (fun p hp => ⟨hp, ?_⟩) (hb.frame (· ∈ before)), fun _ => ?_⟩
 ·rw [hps, List.mem_append] at hp
  exact Or.inr hp
 ·obtain ⟨_, _, _, _, _, hz, hn⟩ := hW
  refine ⟨hok, _, _, ([] ++ pa) ++ pv, ⟨[] ++ pa, pv, trodAll_append (hargs _ (fun _ _ => rfl)) (hres _ _ _), hvars _ (fun _ _ => rfl), rfl, ?_, ?_⟩, ?_⟩
  ·intro b off hp
   have hin : MemPlace.cell b off ∈ before := by rw [hps]; simpa using hp
   rw [hb.frozen (hlt _ hin)]
   exact hz b off hin
  ·intro ha
   have := hn ha
   rw [hps] at this
   simpa using this
  ·intro p hp _
   rw [hps]
   simpa using hp
end
end Go.Av
set_option maxRecDepth 100000
namespace Go.Proofs.YtefmcijohgpfhaaGreatDoor
open Go Go.Av Go.RowKit
theorem qv4 : ((List.range 301).filter fun t => Tryz.prog.rowNamed t [101, 114, 114, 111, 114]) = [25] := by kernel_rfl
theorem qwr : (Tryz.prog.cutTypes.find? (·.1 == "internal/reflectlite.rtype")).map (·.2) = some 244 := by kernel_rfl
theorem qwu : Tryz.prog.types.size = 301 := by kernel_rfl
theorem qwo : typeHandle Tryz.prog 25 = .pointer (some ⟨9, 25, none⟩) := by kernel_rfl
theorem qu6 : Tryz.prog.globalNamed "errors.errorType" = some 3 := by kernel_rfl
theorem qnb {l : List (String × DataW Unit)} (h : (l.all fun x => x.1 == "errors.errorType" || x.2.handleName?.isNone) = true) {x : String × DataW Unit} (hx : x ∈ l) (hn : (x.1 == "errors.errorType") = false) : x.2.handleName?.isNone = true := by
 have := List.all_eq_true.1 h x hx
 rw [hn] at this
 simpa using this
theorem qob {P : Program} {w0 : World} {laid : List (String × DataW Unit)} (args : Array Value) (hf : w0.layFits P laid [] = true) (hi : w0.layIfaces P laid (w0.layVars P laid) = true) :
  laidMet P laid ((w0.layVars P laid).forCall (fun _ _ => 0) ⟨#[], args, []⟩).memory := by
 have e1 : (laid.filter fun x => (laid.map Prod.fst).contains x.1) = laid := List.filter_eq_self.2 fun x hx => List.contains_iff_mem.2 (List.mem_map_of_mem hx)
 have e2 : (laid.filter fun x => !(laid.map Prod.fst).contains x.1) = [] := List.filter_eq_nil_iff.2 fun x hx => by
  rw [List.contains_iff_mem.2 (List.mem_map_of_mem (f := Prod.fst) hx)]
  simp
 have h : laidMet P laid (w0.layVars P laid) := laidMet_layVars (w0 := w0) (laid.map Prod.fst) [] (by rw [e1]) (by rw [e1]; exact hf) (by rw [e1]; exact hi) (by rw [e2]; exact LaidIn.none)
 exact h.of_heap (by simp [World.memory, World.forCall, Input.heap])
noncomputable def qwp (os : Os) : World := { World.holding Tryz.prog os ⟨#[], #[], []⟩ with heap := (World.holding Tryz.prog os ⟨#[], #[], []⟩).heap.modify 3 fun
 | .cells _ t fz => .cells #[.iface 244 (.agg #[.pointer (some ⟨9, 25, none⟩)])] t fz
 | o => o }
theorem qvt {l : List (String × DataW Unit)} {W : World}
  (hp : (l.filter fun x => x.2.handleName?.isSome) = [("errors.errorType", Rows.laid_errors_errorType)] ∧ (l.all fun x => x.1 == "errors.errorType" || x.2.handleName?.isNone) = true)
  (hL : laidMetH Tryz.prog l W) (hs : W.ShapedOpen Tryz.prog)
  (h1 : ("internal/strconv.uint64pow10", Rows.laid_internal_strconv_uint64pow10) ∈ l) (h2 : ("strconv.ErrSyntax", Rows.laid_strconv_ErrSyntax) ∈ l) (h3 : ("strconv.ErrRange", Rows.laid_strconv_ErrRange) ∈ l) : E.L W.heap.size W := by
 unfold laidMetH at hL
 rw [hp.1] at hL
 simp only at hL
 intro w hb
 obtain ⟨hL, hH⟩ := hL
 have h1 := (List.mem_filter (p := fun x => x.2.handleName?.isNone)).2 ⟨h1, qnb hp.2 h1 (by decide)⟩
 have h2 := (List.mem_filter (p := fun x => x.2.handleName?.isNone)).2 ⟨h2, qnb hp.2 h2 (by decide)⟩
 have h3 := (List.mem_filter (p := fun x => x.2.handleName?.isNone)).2 ⟨h3, qnb hp.2 h3 (by decide)⟩
 obtain ⟨name, u, ty, e1, e2, e3, e4, e5⟩ := hH _ (List.mem_singleton.2 rfl)
 have en : name = [101, 114, 114, 111, 114] := (Option.some.inj e1).symm
 subst en
 obtain rfl := Option.some.inj (qwr.symm.trans e2)
 have hm : ty ∈ (List.range 301).filter fun t => Tryz.prog.rowNamed t [101, 114, 114, 111, 114] := List.mem_filter.2 ⟨List.mem_range.2 (by rw [← qwu]; exact e3), e4⟩
 rw [qv4] at hm
 obtain rfl := List.mem_singleton.1 hm
 rw [qwo] at e5
 have hv := World.var?_cell qu6 (Go.Joins.var_stays qu6 e5 hb (Nat.le_refl _)) 0
 have g1 : Tryz.prog.globalNamed "internal/strconv.uint64pow10" = some 4 := by kernel_rfl
 have g2 : Tryz.prog.globalNamed "strconv.ErrSyntax" = some 1 := by kernel_rfl
 have g3 : Tryz.prog.globalNamed "strconv.ErrRange" = some 2 := by kernel_rfl
 have t1 := qla (k := .u64) (zs := Lib.pow10Tab) (t := 260) (e := 168) (n := 20) g1 (by kernel_rfl) (by kernel_rfl) (by kernel_rfl) (by kernel_rfl) (by kernel_rfl) (Lib.laidMet.reads hL h1)
 obtain ⟨tp2, p2, v2⟩ := qgq (t := 25) g2 (by kernel_rfl) rfl (Lib.laidMet.reads hL h2)
 obtain ⟨tp3, p3, v3⟩ := qgq (t := 25) g3 (by kernel_rfl) rfl (Lib.laidMet.reads hL h3)
 exact ⟨hs.keptBut (hb.frame (fun _ => False)) (fun _ h => h.elim), Go.Joins.var_stays g1 t1 hb (Nat.le_refl _), ⟨tp2, p2, Go.Joins.var_stays g2 v2 hb (Nat.le_refl _)⟩, ⟨tp3, p3, Go.Joins.var_stays g3 v3 hb (Nat.le_refl _)⟩, by simpa using hv⟩
end Go.Proofs.YtefmcijohgpfhaaGreatDoor
set_option linter.unusedVariables false
namespace Go.Pl
open Go
abbrev qk := List UInt8
theorem qa4 (l : qk) (c : UInt8) : 0 ≤ Lib.index l [c] ↔ c ∈ l := by
 induction l with
 | nil => simp [Lib.index]
 | cons b l ih =>
  have hge := Lib.index_ge l [c]
  unfold Lib.index
  by_cases hb : c = b
  ·subst hb
   simp [List.isPrefixOf]
  ·have hp : ([c] : qk).isPrefixOf (b :: l) = false := by simp [List.isPrefixOf, hb]
   rw [hp]
   by_cases hm : Lib.index l [c] = -1
   ·have : c ∉ l := fun h => by have := ih.2 h; omega
    simp [hm, hb, this]
   ·have : c ∈ l := ih.1 (by omega)
    simp [hm, this]
    omega
theorem qhw (l : qk) (c : UInt8) : Lib.contains l [c] = decide (c ∈ l) := by
 unfold Lib.contains
 by_cases h : c ∈ l
 ·simp [h, (qa4 l c).2 h]
 ·have : ¬ 0 ≤ Lib.index l [c] := fun h' => h ((qa4 l c).1 h')
  simp [h, this]
theorem qgs (l : qk) (c : UInt8) : Lib.hasPrefix l [c] = decide (l.head? = some c) := by
 cases l with
 | nil => simp [Lib.hasPrefix]
 | cons b l =>
  by_cases h : c = b
  ·simp [Lib.hasPrefix, List.isPrefixOf, h]
  ·simp [Lib.hasPrefix, List.isPrefixOf, h, Ne.symm h]
def v6 (c : UInt8) : Prop := c = 32 ∨ c = 9
instance (c : UInt8) : Decidable (v6 c) := inferInstanceAs (Decidable (c = 32 ∨ c = 9))
def qbg (l : qk) : Prop := ∃ c, l.head? = some c ∧ v6 c
instance (l : qk) : Decidable (qbg l) :=
 match l with
 | [] => .isFalse (by rintro ⟨c, h, _⟩; simp at h)
 | c :: r => decidable_of_iff (v6 c) ⟨fun h => ⟨c, rfl, h⟩, fun ⟨d, h, hd⟩ => by simp at h; subst h; exact hd⟩
def xl (l : qk) : Prop := l ≠ [] ∧ l.length ≤ 32 ∧ ¬ qbg l ∧ ¬ l.head? = some 35 ∧ 58 ∉ l ∧ 10 ∉ l
instance (l : qk) : Decidable (xl l) := inferInstanceAs (Decidable (_ ∧ _ ∧ _ ∧ _ ∧ _ ∧ _))
theorem qew (l : qk) : xl l ↔ 1 ≤ l.length ∧ l.length ≤ 32 ∧ ¬ v6 (l.getD 0 0) ∧ l.getD 0 0 ≠ 35 ∧ 58 ∉ l ∧ 10 ∉ l := by
 cases l with
 | nil => simp [xl]
 | cons c l => simp [xl, qbg]
theorem qkm (c : UInt8) (l : qk) : Lib.contains [32, 9] [c] = decide (qbg (c :: l)) := by
 rw [qhw]
 have : qbg (c :: l) ↔ v6 c := ⟨fun ⟨d, h, hd⟩ => by simp at h; subst h; exact hd, fun h => ⟨c, rfl, h⟩⟩
 simp [this, v6]
def upto (c : UInt8) (l : qk) : qk := l.takeWhile (· ≠ c)
def past (c : UInt8) (l : qk) : qk := l.drop ((upto c l).length + 1)
theorem qj2 (c : UInt8) (l : qk) (h : c ∈ l) : Lib.index l [c] = ((upto c l).length : Int) := by
 induction l with
 | nil => simp at h
 | cons b l ih =>
  unfold Lib.index upto
  by_cases hb : b = c
  ·subst hb; simp [List.isPrefixOf]
  ·have hp : ([c] : qk).isPrefixOf (b :: l) = false := by simp [List.isPrefixOf, Ne.symm hb]
   have hl : c ∈ l := by simpa [Ne.symm hb] using h
   have e := ih hl
   rw [hp]
   have : (Lib.index l [c] == -1) = false := by rw [e]; simp
   simp only [this]
   rw [e]
   simp [hb, upto]
theorem qhc (c : UInt8) (l : qk) : l.take (upto c l).length = upto c l := by
 induction l with
 | nil => simp [upto]
 | cons b l ih =>
  by_cases hb : b = c
  ·simp [upto, hb]
  ·have : upto c (b :: l) = b :: upto c l := by simp [upto, hb]
   rw [this]
   simp [ih]
theorem qd5 {c : UInt8} {l : qk} (h : c ∉ l) : upto c l = l := by
 induction l with
 | nil => rfl
 | cons b l ih =>
  have hb : b ≠ c := fun e => h (by simp [e])
  have : upto c (b :: l) = b :: upto c l := by simp [upto, hb]
  rw [this, ih (fun h' => h (by simp [h']))]
theorem wv (c : UInt8) (l : qk) : (upto c l).length ≤ l.length := by
 have := congrArg List.length (qhc c l)
 simp at this
 omega
theorem qa7 {c : UInt8} {l : qk} (h : c ∈ l) : (upto c l).length < l.length := by
 induction l with
 | nil => simp at h
 | cons b l ih =>
  by_cases hb : b = c
  ·simp [upto, hb]
  ·have : upto c (b :: l) = b :: upto c l := by simp [upto, hb]
   rw [this]
   have := ih (by simpa [Ne.symm hb] using h)
   simp
   omega
theorem xk (c : UInt8) (l : qk) : (past c l).length = l.length - ((upto c l).length + 1) := by simp [past]
theorem qva (c : UInt8) (l : qk) : Lib.cut l [c] = (upto c l, past c l, decide (c ∈ l)) := by
 unfold Lib.cut
 by_cases h : c ∈ l
 ·rw [if_pos ((qa4 l c).2 h), qj2 c l h]
  simp [qhc, past, h]
 ·rw [if_neg (fun h' => h ((qa4 l c).1 h'))]
  simp [qd5 h, past, h]
theorem xv {c : UInt8} {l : qk} (h : l ≠ []) : (past c l).length < l.length := by
 rw [xk]
 have := List.length_pos_iff.2 h
 omega
def kh (l : qk) : List (qk × Bool) :=
 if h : l = [] then [] else (upto 10 l, decide (10 ∈ l)) :: kh (past 10 l)
 termination_by l.length
 decreasing_by exact xv h
theorem ya : kh [] = [] := by rw [kh]; simp
theorem ym {l : qk} (h : l ≠ []) : kh l = (upto 10 l, decide (10 ∈ l)) :: kh (past 10 l) := by rw [kh]; simp [h]
def wd (b : Bool) : qk := if b then [10] else []
def v7 (by' l : qk) : qk × Bool :=
 if ∀ x ∈ kh l, by' <+: x.1 then ((kh l).flatMap fun x => x.1.drop by'.length ++ wd x.2, true) else ([], false)
theorem qmf (l m : qk) : (Lib.trimPrefix l m).length ≤ l.length := by
 unfold Lib.trimPrefix
 split
 ·simp
 ·exact Nat.le_refl _
theorem x2 (l m : qk) : Lib.hasPrefix l m = true ↔ m <+: l := by
 unfold Lib.hasPrefix
 exact List.isPrefixOf_iff_prefix
theorem qgv {l m : qk} (h : m <+: l) : Lib.trimPrefix l m = l.drop m.length := by
 unfold Lib.trimPrefix
 rw [if_pos ((x2 l m).2 h)]
theorem yn {c : UInt8} {a : qk} (r : qk) (h : c ∉ a) : upto c (a ++ c :: r) = a := by
 induction a with
 | nil => simp [upto]
 | cons b a ih =>
  have hb : b ≠ c := fun e => h (by simp [e])
  have h2 : c ∉ a := fun e => h (by simp [e])
  have e : upto c (b :: (a ++ c :: r)) = b :: upto c (a ++ c :: r) := by simp [upto, hb]
  rw [List.cons_append, e, ih h2]
theorem y4 {c : UInt8} {a : qk} (r : qk) (h : c ∉ a) : past c (a ++ c :: r) = r := by
 unfold past
 rw [yn r h, show a ++ c :: r = (a ++ [c]) ++ r by simp, show a.length + 1 = (a ++ [c]).length by simp, List.drop_left]
theorem qc3 {c : UInt8} {l : qk} (h : c ∈ l) : l = upto c l ++ c :: past c l := by
 induction l with
 | nil => simp at h
 | cons b l ih =>
  by_cases hb : b = c
  ·subst hb; simp [upto, past]
  ·have h2 : c ∈ l := by simpa [Ne.symm hb] using h
   have e1 : upto c (b :: l) = b :: upto c l := by simp [upto, hb]
   have e2 : past c (b :: l) = past c l := by simp [past, e1]
   rw [e1, e2, List.cons_append, ← ih h2]
theorem qai (c : UInt8) (l : qk) : c ∉ upto c l := by
 induction l with
 | nil => simp [upto]
 | cons b l ih =>
  by_cases hb : b = c
  ·simp [upto, hb]
  ·have e1 : upto c (b :: l) = b :: upto c l := by simp [upto, hb]
   rw [e1]
   simp [Ne.symm hb, ih]
def j7 (l : qk) : qk := l.takeWhile (· ≠ 58)
theorem qou (l : qk) (h : 58 ∈ l) : Lib.index l [58] = ((j7 l).length : Int) := by
 induction l with
 | nil => simp at h
 | cons b l ih =>
  unfold Lib.index j7
  by_cases hb : b = 58
  ·subst hb; simp [List.isPrefixOf]
  ·have hp : ([58] : qk).isPrefixOf (b :: l) = false := by simp [List.isPrefixOf, Ne.symm hb]
   have hl : 58 ∈ l := by simpa [Ne.symm hb] using h
   have e := ih hl
   rw [hp]
   have : (Lib.index l [58] == -1) = false := by rw [e]; simp
   simp only [this]
   rw [e]
   simp [hb, j7]
theorem qnt (l : qk) : l.take (j7 l).length = j7 l := by
 induction l with
 | nil => simp [j7]
 | cons b l ih =>
  by_cases hb : b = 58
  ·simp [j7, hb]
  ·have : j7 (b :: l) = b :: j7 l := by simp [j7, hb]
   rw [this]
   simp [ih]
def kk (l : qk) : qk := l.drop ((j7 l).length + 1)
theorem qlw (l : qk) : Lib.cut l [58] = if 58 ∈ l then (j7 l, kk l, true) else (l, [], false) := by
 unfold Lib.cut
 by_cases h : 58 ∈ l
 ·rw [if_pos ((qa4 l 58).2 h), if_pos h, qou l h]
  simp [qnt, kk]
 ·rw [if_neg (fun h' => h ((qa4 l 58).1 h')), if_neg h]
theorem qjg {l : qk} {k : Nat} (h : 58 ∉ l.take k) (hk : k < l.length) (e : l.getD k 0 = 58) : j7 l = l.take k ∧ 58 ∈ l := by
 induction l generalizing k with
 | nil => simp at hk
 | cons b l ih =>
  cases k with
  | zero => simp at e; subst e; simp [j7]
  | succ k =>
   simp only [List.take_succ_cons, List.mem_cons, not_or] at h
   obtain ⟨h1, h2⟩ := ih h.2 (by simpa using hk) (by simpa using e)
   have : j7 (b :: l) = b :: j7 l := by simp [j7, Ne.symm h.1]
   exact ⟨by rw [this, h1]; rfl, by simp [h2]⟩
def qbl (l : qk) : qk × qk × Bool := if 10 ∉ l ∧ 58 ∈ l ∧ xl (j7 l) then (j7 l, kk l, true) else ([], [], false)
def jf (l : qk) : Int :=
 if 10 ∈ l then 5 else if ∀ c ∈ l, v6 c then 1 else if l.head? = some 35 then 2 else if qbg l then 3
 else if 58 ∈ l ∧ xl (j7 l) then 4 else 5
theorem qoz {l : qk} (h : 10 ∉ l) (hb : ¬ ∀ c ∈ l, v6 c) : 0 < l.length ∧ jf l = if l.getD 0 0 = 35 then 2 else if v6 (l.getD 0 0) then 3 else if 58 ∈ l ∧ xl (j7 l) then 4 else 5 := by
 cases l with
 | nil => simp at hb
 | cons c l =>
  have e : qbg (c :: l) ↔ v6 c := ⟨fun ⟨d, h, hd⟩ => by simp at h; subst h; exact hd, fun h => ⟨c, rfl, h⟩⟩
  refine ⟨by simp, ?_⟩
  unfold jf
  rw [if_neg h, if_neg hb]
  simp [e]
theorem qgo {α : Type} (p : α → Bool) (l : List α) : l.dropWhile p = [] ↔ ∀ x ∈ l, p x = true := by
 induction l with
 | nil => simp
 | cons a l ih =>
  by_cases h : p a = true
  ·simp [h, ih]
  ·simp [h]
theorem quh {α : Type} (p : α → Bool) (l : List α) : (l.reverse.dropWhile p).reverse.dropWhile p = [] ↔ ∀ x ∈ l, p x = true := by
 rw [qgo]
 constructor
 ·intro h x hx
  by_cases hq : ∀ y ∈ l, p y = true
  ·exact hq x hx
  ·have hr : ¬ ∀ y ∈ l.reverse, p y = true := fun h' => hq fun y hy => h' y (by simpa using hy)
   rw [← qgo] at hr
   obtain ⟨a, r, hd⟩ := List.exists_cons_of_ne_nil hr
   have h1 := List.head?_dropWhile_not p l.reverse
   rw [hd] at h1
   have h2 := h a (by simp [hd])
   simp [h2] at h1
 ·intro h x hx
  exact h x (by
   have := (List.dropWhile_sublist (l := l.reverse) p).subset (by simpa using hx)
   simpa using this)
theorem qlu (l m : qk) : Lib.trimS l m = [] ↔ ∀ c ∈ l, c ∈ m := by
 unfold Lib.trimS Lib.trimLeftS Lib.trimRightS
 rw [quh]
 simp
theorem qqk (l m : qk) : (Lib.cut l m).1.length ≤ l.length := by
 unfold Lib.cut
 split
 ·simp; omega
 ·simp
end Go.Pl
set_option linter.unusedVariables false
namespace Go.Pl
open Go
def qu4 (l : qk) : Prop := 2 ≤ l.length ∧ l.length ≤ 50000 ∧ l.getLast? = some 10 ∧ (v7 [32] l).2 = true
instance (l : qk) : Decidable (qu4 l) := inferInstanceAs (Decidable (_ ∧ _ ∧ _ ∧ _))
def qwl (n : Nat) (fig : qk) : qk := [37, 97, 109, 101, 110, 100, 32] ++ Lib.itoa n ++ [32] ++ fig ++ [10]
def qml (n : Nat) : qk := [37, 101, 110, 100, 32] ++ Lib.itoa n ++ [10]
theorem qdr : ∀ (k u : Nat), u < 10 ^ (k + 1) → Lib.nDigits u ≤ k + 1
 | 0, u, h => by rw [Lib.nDigits_small (by simpa using h)]; omega
 | k + 1, u, h => by
  by_cases h' : u < 10
  ·rw [Lib.nDigits_small h']; omega
  ·rw [Lib.nDigits_big h']
   have := qdr k (u / 10) (by rw [Nat.pow_succ] at h; omega)
   omega
theorem atoiAll_bounds {l : qk} {v : Int} (h : Lib.atoiAll l = .ok v) : -9223372036854775808 ≤ v ∧ v ≤ 9223372036854775807 := by
 unfold Lib.atoiAll at h
 cases l with
 | nil => simp at h
 | cons c r =>
  simp only at h
  split at h
  ·simp at h
  ·simp at h
  ·split at h
   ·simp at h
   ·split at h
    ·simp at h
    ·rename_i h1 h2
     simp only [Lib.NumEnd.ok.injEq] at h
     subst h
     by_cases hn : c.toNat = 45
     ·simp only [hn, true_and, not_true, if_true] at *
      omega
     ·simp only [hn, not_false_iff, true_and, if_false] at *
      omega
def qh8 (l : qk) : Nat :=
 match Lib.atoiAll l with
 | .ok v => if Lib.itoa v = l ∧ 1 ≤ v ∧ v ≤ 50000 then v.toNat else 0
 | _ => 0
def y9 : qk := [37, 97, 109, 101, 110, 100, 32]
def hexL : qk := [48, 49, 50, 51, 52, 53, 54, 55, 56, 57, 97, 98, 99, 100, 101, 102]
def qmq (l : qk) : Prop := ∀ c ∈ l, c ∈ hexL
instance (l : qk) : Decidable (qmq l) := inferInstanceAs (Decidable (∀ c ∈ l, c ∈ hexL))
def qbd (l : qk) : Nat × qk × Bool :=
 (qh8 (upto 32 (Lib.trimPrefix l y9)), past 32 (Lib.trimPrefix l y9),
  decide (y9 <+: l ∧ 32 ∈ Lib.trimPrefix l y9 ∧ 2 ≤ qh8 (upto 32 (Lib.trimPrefix l y9)) ∧ (past 32 (Lib.trimPrefix l y9)).length = 8 ∧ qmq (past 32 (Lib.trimPrefix l y9))))
def qjd (l : qk) : Bool :=
 if y9 <+: l then decide (¬ (32 ∈ l.drop 7 ∧ qh8 (upto 32 (l.drop 7)) < 2) ∧ ¬ (upto 32 (l.drop 7) ≠ [] ∧ qh8 (upto 32 (l.drop 7)) = 0) ∧ (past 32 (l.drop 7)).length ≤ 8 ∧ qmq (past 32 (l.drop 7)))
 else decide (l <+: y9)
def qvp (n : Int) : Int := if n < 2 ∨ 50000 < n then 0 else (qwl n.toNat [48, 48, 48, 48, 48, 48, 48, 48]).length + n + (qml n.toNat).length
def qvd (body : qk) (lack : Int) : Int :=
 if (v7 [32] body).2 = true ∧ ¬ ((body = [] ∨ body.getLast? = some 10) ∧ lack < 2) then 2 else 3
theorem qo6 {u : Nat} (h : u < 10) : (([48, 49, 50, 51, 52, 53, 54, 55, 56, 57] : qk).take (u + 1)).drop u = Lib.decDigits u := by
 rw [Lib.decDigits_one h]
 have : u = 0 ∨ u = 1 ∨ u = 2 ∨ u = 3 ∨ u = 4 ∨ u = 5 ∨ u = 6 ∨ u = 7 ∨ u = 8 ∨ u = 9 := by omega
 rcases this with rfl | rfl | rfl | rfl | rfl | rfl | rfl | rfl | rfl | rfl <;> rfl
theorem qbj {u : Nat} (h : ¬ u < 10) : Lib.decDigits u = Lib.decDigits (u / 10) ++ Lib.decDigits (u % 10) := by
 rw [Lib.decDigits, dif_neg h, Lib.decDigits_one (Nat.mod_lt u (by omega))]
theorem qbo {u : Nat} (h : u < 18446744073709551616) : (Lib.decDigits u).length ≤ 20 := by
 rw [Lib.decDigits_length]
 exact qdr 19 u (by omega)
end Go.Pl
set_option linter.unusedVariables false
set_option maxRecDepth 100000
namespace Go.Proofs.YtefmcijohgpfhaaGreatDoor
open Go Go.Av Go.RowKit Go.Proofs Go.Pl
theorem qip (l : List UInt8) (c : UInt8) (st : List AObj) (hl : l.length < 4294967281) : zr E 164 [Sv l, Sv [c]] st fun r st' => r = Bv (decide (c ∈ l)) ∧ st' = st := by
 rw [← qhw]; exact qj9 l [c] st hl
theorem qeg (l : List UInt8) (c : UInt8) (st : List AObj) : zr E 73 [Sv l, Sv [c]] st fun r st' => r = Bv (decide (l.head? = some c)) ∧ st' = st := by
 rw [← qgs]; exact qfe l [c] st
theorem qp0 (l : List UInt8) (st : List AObj) : zr E 165 [Sv l] st fun r st' => r = Bv (decide (qbg l)) ∧ st' = st := by
 refine z4 (jn _) (zp Tryz.func165 rfl (Nat.le_of_ble_eq_true rfl) ?_)
 cases l with
 | nil =>
  repeat' (first
   | apply qr
   | apply qe
   | apply qa
   | apply qn
   | apply qf
   | (apply kw; (iterate 3 exact rfl))
   | (apply zh; (iterate 4 exact rfl))
   | (apply qaf; (first | exact rfl | assumption))
   | (apply zk; exact rfl; first | (apply jx; (first | assumption | omega)) | (apply jw; (first | assumption | omega)) | (apply jy; (first | exact rfl | assumption)) | (apply jv; (first | exact rfl | assumption)) | (apply pk_t; (first | exact rfl | assumption)) | (apply pk_f; (first | exact rfl | assumption)))
   | apply q9)
  refine qs rfl (zt rfl) ⟨congrArg Bv (?_ : _ = _), _, rfl⟩
  simp [qbg]
 | cons c l =>
  have hne : ¬ (c :: l) = [] := by simp
  repeat' (first
   | apply qr
   | apply qe
   | apply qa
   | apply qn
   | apply qf
   | (apply kw; (iterate 3 exact rfl))
   | (apply zh; (iterate 4 exact rfl))
   | (apply xc; (first | assumption | omega))
   | (apply zk; exact rfl; first | (apply jx; (first | assumption | omega)) | (apply jw; (first | assumption | omega)) | (apply jy; (first | exact rfl | assumption)) | (apply jv; (first | exact rfl | assumption)) | (apply pk_t; (first | exact rfl | assumption)) | (apply pk_f; (first | exact rfl | assumption)))
   | apply q9
   | refine qcv rfl rfl rfl ⟨_, rfl⟩ (by omega) (by omega) (by simp; omega) ?_
   | (apply qi; exact Tryz.call164; exact qj9 _ _ _ (by simp)))
  refine qs rfl (zt rfl) ⟨congrArg Bv (?_ : _ = _), _, rfl⟩
  exact qkm c l
theorem quy (l : List UInt8) (st : List AObj) (hl : l.length < 4294967281) : zr E 159 [Sv l] st fun r st' => r = Bv (decide (xl l)) ∧ st' = st := by
 refine z4 (jn _) (zp Tryz.func159 rfl (Nat.le_of_ble_eq_true rfl) ?_)
 repeat' (first
  | apply qr
  | apply qe
  | apply qa
  | apply qn
  | apply qf
  | (apply qt; (iterate 3 exact rfl))
  | (apply kw; (iterate 3 exact rfl))
  | (apply kd; exact rfl)
  | (apply zh; (iterate 4 exact rfl))
  | (apply ko; (first | assumption | omega))
  | (apply vo; (first | assumption | omega))
  | (apply qc9; (first | exact rfl | assumption))
  | (apply qb3; (first | exact rfl | assumption))
  | (apply qdn <;> intro h)
  | (apply x6; (first | exact rfl | assumption))
  | (apply wc <;> intro h)
  | (apply zk; exact rfl; first | (apply jx; (first | assumption | omega)) | (apply jw; (first | assumption | omega)) | (apply jy; (first | exact rfl | assumption)) | (apply jv; (first | exact rfl | assumption)) | (apply pk_t; (first | exact rfl | assumption)) | (apply pk_f; (first | exact rfl | assumption)))
  | (apply qg; exact rfl; first | (apply zd; (first | assumption | omega)) | (apply zf; (first | assumption | omega)) | (apply ze; (first | exact rfl | assumption)) | (apply zg; (first | exact rfl | assumption)) | (apply cd_n <;> intro h) | (apply cd_t; (first | exact rfl | assumption)) | (apply cd_f; (first | exact rfl | assumption)) | (apply cd_d <;> intro h) | (apply cd_s <;> intro h))
  | (apply j4; (iterate 3 exact rfl))
  | apply q8
  | apply q9
  | (apply qi; exact Tryz.call164; exact qip _ _ _ hl)
  | (apply qi; exact Tryz.call73; exact qeg _ _ _)
  | (apply qi; exact Tryz.call165; exact qp0 _ _))
 all_goals refine qs rfl (zt rfl) ⟨congrArg Bv (?_ : _ = _), _, rfl⟩
 all_goals simp [xl, *]
 all_goals omega
theorem qgi (c : UInt8) (st : List AObj) : zr E 119 [Uv c] st fun r st' => r = Bv (decide (v6 c)) ∧ st' = st := by
 refine z4 (jn _) (zp Tryz.func119 rfl (Nat.le_of_ble_eq_true rfl) ?_)
 repeat' (first
  | apply qr
  | apply qe
  | apply qa
  | apply qn
  | apply qf
  | (apply qt; (iterate 3 exact rfl))
  | (apply zh; (iterate 4 exact rfl))
  | (apply ko; (first | assumption | omega))
  | (apply vo; (first | assumption | omega))
  | (apply wc <;> intro h)
  | (apply zk; exact rfl; first | (apply jx; (first | assumption | omega)) | (apply jw; (first | assumption | omega)) | (apply jy; (first | exact rfl | assumption)) | (apply jv; (first | exact rfl | assumption)) | (apply pk_t; (first | exact rfl | assumption)) | (apply pk_f; (first | exact rfl | assumption)))
  | apply q9)
 all_goals refine qs rfl (zt rfl) ⟨congrArg Bv (?_ : _ = _), _, rfl⟩
 all_goals simp_all [v6, qrj, u8_9]
theorem qnc (l : List UInt8) (st : List AObj) (hl : l.length < 4294967281) : zr E 120 [Sv l] st fun r st' => r = Bv (decide (xl l)) ∧ st' = st := by
 refine z4 (jn _) (zp Tryz.func120 rfl (Nat.le_of_ble_eq_true rfl) ?_)
 repeat' (first
  | apply qr
  | apply q7
  | apply qe
  | apply qa
  | apply qn
  | apply qf
  | (apply qt; (iterate 3 exact rfl))
  | (apply zh; (iterate 4 exact rfl))
  | (apply ko; (first | assumption | omega))
  | (apply vo; (first | assumption | omega))
  | (apply x6; (first | exact rfl | assumption))
  | (apply wc <;> intro h)
  | (apply zk; exact rfl; first | (apply jx; (first | assumption | omega)) | (apply jw; (first | assumption | omega)) | (apply jy; (first | exact rfl | assumption)) | (apply jv; (first | exact rfl | assumption)) | (apply pk_t; (first | exact rfl | assumption)) | (apply pk_f; (first | exact rfl | assumption)))
  | (apply qg; exact rfl; first | (apply zd; (first | assumption | omega)) | (apply zf; (first | assumption | omega)) | (apply ze; (first | exact rfl | assumption)) | (apply zg; (first | exact rfl | assumption)) | (apply cd_n <;> intro h) | (apply cd_t; (first | exact rfl | assumption)) | (apply cd_f; (first | exact rfl | assumption)) | (apply cd_d <;> intro h) | (apply cd_s <;> intro h))
  | (apply j4; (iterate 3 exact rfl))
  | (apply wb; (iterate 3 exact rfl); first | assumption | omega | (simp; omega))
  | apply q8
  | apply q9
  | (apply qi; exact Tryz.call119; exact qgi _ _))
 rotate_left 4
 ·refine vy (fun (k : Nat) s => k ≤ l.length ∧ 58 ∉ l.take k ∧ 10 ∉ l.take k ∧ StA [(0, Sv l), (3, Iv k)] (st ++ []) [] s) (fun k => l.length - k) 0 ⟨by omega, by simp, by simp, vl ⟨rfl, rfl, trivial⟩⟩ ?_
  rintro k _ ⟨hk, h1, h2, t, rfl⟩
  repeat' (first
   | apply qr
   | apply q7
   | apply qe
   | apply qa
   | apply qn
   | apply qf
   | (apply qt; (iterate 3 exact rfl))
   | (apply zh; (iterate 4 exact rfl))
   | (apply ko; (first | assumption | omega))
   | (apply vo; (first | assumption | omega))
   | (apply wc <;> intro h)
   | (apply zk; exact rfl; first | (apply jx; (first | assumption | omega)) | (apply jw; (first | assumption | omega)) | (apply jy; (first | exact rfl | assumption)) | (apply jv; (first | exact rfl | assumption)) | (apply pk_t; (first | exact rfl | assumption)) | (apply pk_f; (first | exact rfl | assumption)))
   | (apply qg; exact rfl; first | (apply zd; (first | assumption | omega)) | (apply zf; (first | assumption | omega)) | (apply ze; (first | exact rfl | assumption)) | (apply zg; (first | exact rfl | assumption)) | (apply cd_n <;> intro h) | (apply cd_t; (first | exact rfl | assumption)) | (apply cd_f; (first | exact rfl | assumption)) | (apply cd_d <;> intro h) | (apply cd_s <;> intro h))
   | (apply j4; (iterate 3 exact rfl))
   | (apply jj; exact rfl; exact rfl; exact z2 (by omega) (by omega))
   | (apply wb; (iterate 3 exact rfl); first | assumption | omega | (simp; omega))
   | apply q8
   | apply jp
   | apply q9)
  rotate_left 2
  ·exact ⟨k + 1, ⟨by omega, qba (by omega) h1 (by simp_all [qjz]), qba (by omega) h2 (by simp_all [qb4]), vl ⟨rfl, rfl, trivial⟩⟩, by omega⟩
  all_goals refine qs rfl (zt rfl) ⟨congrArg Bv (?_ : _ = _), _, rfl⟩
  ·have e : k = l.length := by omega
   subst e
   simp_all [qew, qh7]
   omega
  ·have := qfj (l := l) (k := k) (by omega)
   simp_all [qew, qjz]
  ·have := qfj (l := l) (k := k) (by omega)
   simp_all [qew, qb4]
 all_goals refine qs rfl (zt rfl) ⟨congrArg Bv (?_ : _ = _), _, rfl⟩
 all_goals simp_all [qew, qh7]
 all_goals omega
end Go.Proofs.YtefmcijohgpfhaaGreatDoor
set_option linter.unusedVariables false
set_option maxRecDepth 100000
namespace Go.Proofs.YtefmcijohgpfhaaGreatDoor
open Go Go.Av Go.RowKit Go.Proofs Go.Pl
theorem qnj (l : List UInt8) (st : List AObj) (hl : l.length < 4294967281) : zr E 81 [Sv l] st fun r st' => r = .tu [Sv (qbl l).1, Sv (qbl l).2.1, Bv (qbl l).2.2] ∧ st' = st := by
 refine z4 (qg7 _ _ _) (zp Tryz.func81 rfl (Nat.le_of_ble_eq_true rfl) ?_)
 repeat' (first
  | apply qr
  | apply q7
  | apply qe
  | apply qa
  | apply qf)
 refine vy (fun (k : Nat) s => k ≤ l.length ∧ 10 ∉ l.take k ∧ StA [(0, Sv l), (2, Sv []), (3, Sv []), (4, Bv false), (5, Iv k)] (st ++ []) [] s) (fun k => l.length - k) 0 ⟨by omega, by simp, vl ⟨rfl, rfl, rfl, rfl, rfl, trivial⟩⟩ ?_
 rintro k _ ⟨hk, h1, t, rfl⟩
 repeat' (first
  | apply qr
  | apply q7
  | apply qe
  | apply qa
  | apply qn
  | apply qf
  | (apply qt; (iterate 3 exact rfl))
  | (apply qg; exact rfl; first | (apply zd; (first | assumption | omega)) | (apply zf; (first | assumption | omega)) | (apply ze; (first | exact rfl | assumption)) | (apply zg; (first | exact rfl | assumption)) | (apply cd_n <;> intro h) | (apply cd_t; (first | exact rfl | assumption)) | (apply cd_f; (first | exact rfl | assumption)) | (apply cd_d <;> intro h) | (apply cd_s <;> intro h))
  | (apply j4; (iterate 3 exact rfl))
  | (apply jj; exact rfl; exact rfl; exact z2 (by omega) (by omega))
  | (apply wb; (iterate 3 exact rfl); first | assumption | omega | (simp; omega))
  | apply q8
  | apply jp
  | apply q9)
 rotate_left 1
 ·exact ⟨k + 1, ⟨by omega, qba (by omega) h1 (by simp_all [qb4]), vl ⟨rfl, rfl, rfl, rfl, rfl, trivial⟩⟩, by omega⟩
 ·have e : k = l.length := by omega
  subst e
  rw [List.take_length] at h1
  refine vy (fun (k : Nat) s => k ≤ l.length ∧ 58 ∉ l.take k ∧ StA [(0, Sv l), (2, Sv []), (3, Sv []), (4, Bv false), (6, Iv k)] (st ++ []) [] s) (fun k => l.length - k) 0 ⟨by omega, by simp, vl ⟨rfl, rfl, rfl, rfl, rfl, trivial⟩⟩ ?_
  rintro k _ ⟨hk, h2, t, rfl⟩
  repeat' (first
   | apply qr
   | apply q7
   | apply qe
   | apply qa
   | apply qn
   | apply qf
   | (apply qt; (iterate 3 exact rfl))
   | (apply kd; exact rfl)
   | (apply qg; exact rfl; first | (apply zd; (first | assumption | omega)) | (apply zf; (first | assumption | omega)) | (apply ze; (first | exact rfl | assumption)) | (apply zg; (first | exact rfl | assumption)) | (apply cd_n <;> intro h) | (apply cd_t; (first | exact rfl | assumption)) | (apply cd_f; (first | exact rfl | assumption)) | (apply cd_d <;> intro h) | (apply cd_s <;> intro h))
   | (apply j4; (iterate 3 exact rfl))
   | (apply jj; exact rfl; exact rfl; exact z2 (by omega) (by omega))
   | (apply wb; (iterate 3 exact rfl); first | assumption | omega | (simp; omega))
   | (apply qbv; (iterate 3 exact rfl); first | assumption | omega | (simp; omega))
   | (apply yh; exact rfl; kernel_rfl)
   | apply y8
   | apply yc
   | apply qc7
   | (apply qh0; exact rfl; exact rfl; exact z2 (by omega) (by omega))
   | (apply qib; (iterate 3 exact rfl); first | assumption | omega | (simp; omega))
   | (apply qh5; (iterate 3 exact rfl); first | assumption | omega | (simp; omega))
   | apply q8
   | apply jp
   | apply q9
   | (apply qi; exact Tryz.call120; exact qnc _ _ (by simp; omega)))
  rotate_left 2
  ·exact ⟨k + 1, ⟨by omega, qba (by omega) h2 (by simp_all [qjz]), vl ⟨rfl, rfl, rfl, rfl, rfl, trivial⟩⟩, by omega⟩
  all_goals refine qs rfl (qdh rfl) ⟨qmw (?_ : _ = _), _, rfl⟩
  ·have e : k = l.length := by omega
   subst e
   rw [List.take_length] at h2
   simp [qbl, h2]
  ·obtain ⟨e1, e2⟩ := qjg h2 (by omega) (by simp_all [qjz])
   simp_all [qbl]
  ·obtain ⟨e1, e2⟩ := qjg h2 (by omega) (by simp_all [qjz])
   have hk' : k < l.length := by omega
   have hk2 : (l.take k).length = k := by simp; omega
   have hkey : xl (l.take k) := by simp_all
   simp only [qbl, kk, e1, e2, h1, hkey, hk2]
   simp
 ·refine qs rfl (qdh rfl) ⟨qmw (?_ : _ = _), _, rfl⟩
  have := qfj (l := l) (k := k) (by omega)
  simp_all [qbl, qb4]
theorem x4 (l : List UInt8) (st : List AObj) (hl : l.length < 4294967281) : zr E 80 [Sv l] st fun r st' => r = Iv (jf l) ∧ st' = st := by
 refine z4 (jn _) (zp Tryz.func80 rfl (Nat.le_of_ble_eq_true rfl) ?_)
 repeat' (first
  | apply qr
  | apply q7
  | apply qe
  | apply qa
  | apply qf)
 refine vy (fun (k : Nat) s => k ≤ l.length ∧ 10 ∉ l.take k ∧ ∃ b, (b = true ↔ ∀ c ∈ l.take k, v6 c) ∧ StA [(0, Sv l), (3, Bv b), (4, Iv k)] (st ++ []) [] s) (fun k => l.length - k) 0 ⟨by omega, by simp, true, by simp, vl ⟨rfl, rfl, rfl, trivial⟩⟩ ?_
 rintro k _ ⟨hk, h1, b, hb, t, rfl⟩
 repeat' (first
  | apply qr
  | apply q7
  | apply qe
  | apply qa
  | apply qn
  | apply qf
  | (apply qt; (iterate 3 exact rfl))
  | (apply zh; (iterate 4 exact rfl))
  | (apply yg; (first | exact rfl | assumption))
  | (apply qaf; (first | exact rfl | assumption))
  | (apply qec <;> intro h)
  | (apply zk; exact rfl; first | (apply jx; (first | assumption | omega)) | (apply jw; (first | assumption | omega)) | (apply jy; (first | exact rfl | assumption)) | (apply jv; (first | exact rfl | assumption)) | (apply pk_t; (first | exact rfl | assumption)) | (apply pk_f; (first | exact rfl | assumption)))
  | (apply qg; exact rfl; first | (apply zd; (first | assumption | omega)) | (apply zf; (first | assumption | omega)) | (apply ze; (first | exact rfl | assumption)) | (apply zg; (first | exact rfl | assumption)) | (apply cd_n <;> intro h) | (apply cd_t; (first | exact rfl | assumption)) | (apply cd_f; (first | exact rfl | assumption)) | (apply cd_d <;> intro h) | (apply cd_s <;> intro h))
  | (apply j4; (iterate 3 exact rfl))
  | (apply jj; exact rfl; exact rfl; exact z2 (by omega) (by omega))
  | (apply wb; (iterate 3 exact rfl); first | assumption | omega | (simp; omega))
  | apply q8
  | apply jp
  | apply q9
  | (apply qi; exact Tryz.call119; exact qgi _ _))
 ·refine qs rfl (zt rfl) ⟨congrArg Iv (?_ : _ = _), _, rfl⟩
  have := qfj (l := l) (k := k) (by omega)
  simp_all [jf, qb4]
 ·exact ⟨k + 1, ⟨by omega, qba (by omega) h1 (by simp_all [qb4]), _, by rw [qm6 (by omega), decide_eq_true_iff, ← hb]; simp [*], vl ⟨rfl, rfl, rfl, trivial⟩⟩, by omega⟩
 ·exact ⟨k + 1, ⟨by omega, qba (by omega) h1 (by simp_all [qb4]), _, by rw [qm6 (by omega), ← hb]; simp [*], vl ⟨rfl, rfl, rfl, trivial⟩⟩, by omega⟩
 ·refine qs rfl (zt rfl) ⟨congrArg Iv (?_ : _ = _), _, rfl⟩
  have e : k = l.length := by omega
  subst e
  simp_all [jf]
 ·have e : k = l.length := by omega
  subst e
  rw [List.take_length] at h1 hb
  obtain ⟨h0, hk⟩ := qoz h1 (fun h => by simp_all)
  repeat' (first
   | apply qr
   | apply qe
   | apply qa
   | apply qn
   | apply qf
   | (apply z1; exact rfl; exact rfl)
   | (apply qt; (iterate 3 exact rfl))
   | (apply qg; exact rfl; first | (apply zd; (first | assumption | omega)) | (apply zf; (first | assumption | omega)) | (apply ze; (first | exact rfl | assumption)) | (apply zg; (first | exact rfl | assumption)) | (apply cd_n <;> intro h) | (apply cd_t; (first | exact rfl | assumption)) | (apply cd_f; (first | exact rfl | assumption)) | (apply cd_d <;> intro h) | (apply cd_s <;> intro h))
   | (apply wb; (iterate 3 exact rfl); first | assumption | omega | (simp; omega))
   | apply q8
   | apply q9
   | (apply qi; exact Tryz.call119; exact qgi _ _)
   | (apply qi; exact Tryz.call81; exact qnj _ _ hl))
  all_goals refine qs rfl (zt rfl) ⟨congrArg Iv (?_ : _ = _), _, rfl⟩
  ·simp_all [qh7]
  ·simp_all [qh7]
  ·have hc : 58 ∈ l ∧ xl (j7 l) := by
    apply Classical.byContradiction
    intro hn
    have : qbl l = ([], [], false) := by unfold qbl; rw [if_neg (fun h => hn h.2)]
    simp_all
   simp_all [qh7]
  ·have hc : ¬ (58 ∈ l ∧ xl (j7 l)) := fun hn => by
    have : qbl l = (j7 l, kk l, true) := by unfold qbl; rw [if_pos ⟨h1, hn⟩]
    simp_all
   simp_all [qh7]
theorem qhv (l : List UInt8) (st : List AObj) (hl : l.length < 4294967281) : zr E 132 [Sv l] st fun r st' => r = Iv (jf l) ∧ st' = st := by
 refine z4 (jn _) (zp Tryz.func132 rfl (Nat.le_of_ble_eq_true rfl) ?_)
 repeat' (first
  | apply qr
  | apply q7
  | apply qe
  | apply qa
  | apply qn
  | apply qf
  | (apply z1; exact rfl; exact rfl)
  | (apply kw; (iterate 3 exact rfl))
  | (apply zh; (iterate 4 exact rfl))
  | (apply yg; (first | exact rfl | assumption))
  | (apply qaf; (first | exact rfl | assumption))
  | (apply qec <;> intro h)
  | (apply zk; exact rfl; first | (apply jx; (first | assumption | omega)) | (apply jw; (first | assumption | omega)) | (apply jy; (first | exact rfl | assumption)) | (apply jv; (first | exact rfl | assumption)) | (apply pk_t; (first | exact rfl | assumption)) | (apply pk_f; (first | exact rfl | assumption)))
  | (apply qg; exact rfl; first | (apply zd; (first | assumption | omega)) | (apply zf; (first | assumption | omega)) | (apply ze; (first | exact rfl | assumption)) | (apply zg; (first | exact rfl | assumption)) | (apply cd_n <;> intro h) | (apply cd_t; (first | exact rfl | assumption)) | (apply cd_f; (first | exact rfl | assumption)) | (apply cd_d <;> intro h) | (apply cd_s <;> intro h))
  | apply q8
  | apply q9
  | (apply qi; exact Tryz.call164; exact qip _ _ _ hl)
  | (apply qi; exact Tryz.call161; exact qr2 _ _ _ (by omega) (by simp) (by intro j b h; match j with | 0 => simp at h; subst h; decide | 1 => simp at h; subst h; decide | j + 2 => simp at h))
  | (apply qi; exact Tryz.call73; exact qeg _ _ _)
  | (apply qi; exact Tryz.call165; exact qp0 _ _)
  | (apply qi; exact Tryz.call36; exact qrk _ _ _ hl)
  | (apply qi; exact Tryz.call159; exact quy _ _ (Nat.lt_of_le_of_lt (qqk _ _) hl)))
 all_goals refine qs rfl (zt rfl) ⟨congrArg Iv (?_ : _ = _), _, rfl⟩
 all_goals have hb : Lib.trimS l [32, 9] = [] ↔ ∀ c ∈ l, v6 c := by rw [qlu]; simp [v6]
 all_goals by_cases hA : ∀ c ∈ l, v6 c <;> by_cases hC : 58 ∈ l <;> by_cases hK : xl (j7 l) <;> simp_all [jf, qlw]
end Go.Proofs.YtefmcijohgpfhaaGreatDoor
set_option linter.unusedVariables false
set_option maxRecDepth 100000
namespace Go.Proofs
open Go.Shelf Go.RowKit
variable {P : Program} {ρ : Ren}
set_option maxHeartbeats 4000000 in
theorem qj5 (L : Lays.n169 P ρ) (X : Builder.Extra P ρ) (b n c : Nat) (ad : Option Addr) (q : Value) (str : ByteArray) (w w2 : World) (c1 : w.drew.cell? ⟨b, 1, none⟩ = some (.slice ad n c))
  (hSD : (Builtin.unsafeSliceData_ #[(ρ.t 37)] (ρ.t 127) #[.slice ad n c]).run P w.drew = .ok q w.drew)
  (hUS : (Builtin.unsafeString_ #[(ρ.t 127), (ρ.t 3)] (ρ.t 9) #[q, .int .i64 n]).run P w.drew = .ok (.string str) w2) :
  Calls P (ρ.f 169) #[.pointer (some ⟨b, 0, none⟩)] w fun e w' => e = .returned (.string str) ∧ w' = w2 := by
 have mixed := L.mixed
 have t72 := L.t72; have a72 := L.a72; have z72 := L.z72; have v72 := L.v72; have u72 := run_underlying L.t72
 have t70 := L.t70; have a70 := L.a70; have z70 := L.z70; have v70 := L.v70; have u70 := run_underlying L.t70
 have t37 := L.t37; have a37 := L.a37; have z37 := L.z37; have v37 := L.v37; have u37 := run_underlying L.t37
 have t127 := L.t127; have a127 := L.a127; have z127 := L.z127; have v127 := L.v127; have u127 := run_underlying L.t127
 have t3 := L.t3; have a3 := L.a3; have z3 := L.z3; have v3 := L.v3; have u3 := run_underlying L.t3
 have t9 := L.t9; have a9 := L.a9; have z9 := L.z9; have v9 := L.v9; have u9 := run_underlying L.t9
 have t5 := X.t5; have a5 := X.a5; have z5 := X.z5; have v5 := X.v5; have u5 := run_underlying X.t5
 go_enter L.f169, Body.n169_ntmps ρ
 go_wp2
 go_region_o
 all_goals (go_wp2; go_ret; exact ⟨rfl, rfl⟩)
end Go.Proofs
namespace Go.Proofs.YtefmcijohgpfhaaGreatDoor
open Go Go.Av Go.RowKit Go.Proofs
@[reducible] def bldO (ver : Nat) (q : AV) (l : List UInt8) (tp : Nat) : AObj := .cells ver 93 [q, .sl 1 (l.map Uv) (some tp)]
theorem qmy (v : Value) (w : World) : (callFunc 127 #[v]).run E.P w = .ok (.value v) w := by
 have h := run_callFunc_extern (P := E.P) Tryz.func127 (by kernel_rfl) (by kernel_rfl) (by kernel_rfl) (e := Extern.AbiNoEscape.same) (by kernel_rfl) #[v] w
 rw [h, Lib.run_noEscape]
 rfl
theorem qvf (o ver : Nat) (q buf : AV) (st : List AObj) (ho : st[o]? = some (.cells ver 93 [q, buf])) (hq : q = .v (.pointer none) ∨ q = .bx o ver 0) :
  zr E 86 [.bx o ver 0] st fun r st' => r = .tu [] ∧ st' = st.set o (.cells ver 93 [.bx o ver 0, buf]) := by
 have ho' : (st ++ [])[o]? = some (.cells ver 93 [q, buf]) := by rw [List.append_nil]; exact ho
 refine zp Tryz.func86 rfl (Nat.le_of_ble_eq_true rfl) ?_
 rcases hq with rfl | rfl
 ·skip
  repeat' (first
   | apply qr
   | apply qe
   | apply qa
   | apply qn
   | (apply qg; exact rfl; first | (apply zd; (first | assumption | omega)) | (apply zf; (first | assumption | omega)) | (apply ze; (first | exact rfl | assumption)) | (apply zg; (first | exact rfl | assumption)) | (apply cd_n <;> intro h) | (apply cd_t; (first | exact rfl | assumption)) | (apply cd_f; (first | exact rfl | assumption)) | (apply cd_d <;> intro h) | (apply cd_s <;> intro h))
   | (apply za; (iterate 3 exact rfl))
   | (apply ki; exact rfl; exact rfl)
   | (apply yp; (iterate 3 exact rfl))
   | (apply qb; exact rfl; exact ho'; exact rfl; exact rfl)
   | (apply qm; exact rfl; exact rfl; exact ho'; (iterate 6 exact rfl))
   | (apply qmk; exact rfl; exact ho'; (simp); exact rfl; exact rfl; kernel_rfl)
   | (apply qki; exact rfl; exact ho'; (iterate 3 exact rfl); kernel_rfl)
   | (apply ql9; exact qmy; exact rfl))
  refine qs rfl (y0 rfl) ⟨rfl, ?_⟩
  show (st ++ []).set o _ = _
  rw [List.append_nil]
  rfl
 ·skip
  repeat' (first
   | apply qr
   | apply qe
   | apply qa
   | apply qn
   | (apply qg; exact rfl; first | (apply zd; (first | assumption | omega)) | (apply zf; (first | assumption | omega)) | (apply ze; (first | exact rfl | assumption)) | (apply zg; (first | exact rfl | assumption)) | (apply cd_n <;> intro h) | (apply cd_t; (first | exact rfl | assumption)) | (apply cd_f; (first | exact rfl | assumption)) | (apply cd_d <;> intro h) | (apply cd_s <;> intro h))
   | (apply za; (iterate 3 exact rfl))
   | (apply ki; exact rfl; exact rfl)
   | (apply yp; (iterate 3 exact rfl))
   | apply q8
   | (apply qb; exact rfl; exact ho'; exact rfl; exact rfl)
   | (apply qk2; exact rfl; exact rfl; exact ho'; exact rfl; exact rfl))
  refine qs rfl (y0 rfl) ⟨rfl, ?_⟩
  show st ++ [] = _
  rw [List.append_nil, qug ho]
theorem qu7 : qax E.P 5 1 1 := ⟨_, _, rfl, rfl, rfl, rfl, rfl⟩
theorem qof (o ver tp : Nat) (q : AV) (l m : List UInt8) (st : List AObj) (ho : st[o]? = some (bldO ver q l tp)) (ht : st[tp]? = some (.tip l.length 1 5)) (hq : q = .v (.pointer none) ∨ q = .bx o ver 0) (hlen : l.length + m.length ≤ 140737488355328) :
  zr E 47 [.bx o ver 0, Sv m] st fun r st' => r = .tu [Iv m.length, .v .nilIface] ∧ st' = (st.set o (bldO ver (.bx o ver 0) (l ++ m) tp)).set tp (.tip (l.length + m.length) 1 5) := by
 have hne : tp ≠ o := fun e => by rw [e, ho] at ht; simp at ht
 have ho' : (st ++ [])[o]? = some (bldO ver q l tp) := by rw [List.append_nil]; exact ho
 have ht' : (st ++ [])[tp]? = some (.tip l.length 1 5) := by rw [List.append_nil]; exact ht
 have h2 := zn (y := .cells ver 93 [.bx o ver 0, .sl 1 (l.map Uv) (some tp)]) ho'
 have h3 := qh (y := .cells ver 93 [.bx o ver 0, .sl 1 (l.map Uv) (some tp)]) ht' (Ne.symm hne)
 have h4 := qh (y := .tip (l.length + m.length) 1 5) h2 hne
 have h5 : maxLen = 140737488351232 ∨ True := .inr trivial
 refine zp Tryz.func47 rfl (Nat.le_of_ble_eq_true rfl) ?_
 repeat' (first
  | apply qr
  | apply qe
  | apply qa
  | apply qn
  | apply qf
  | (apply j4; (iterate 3 exact rfl))
  | (apply za; (iterate 3 exact rfl))
  | (apply ki; exact rfl; exact rfl)
  | apply q9
  | (apply qi; exact Tryz.call86; exact qvf o ver q _ (st ++ []) ho' hq)
  | (apply qb; exact rfl; exact h2; exact rfl; exact rfl)
  | (apply qnz; exact rfl; exact rfl; exact h3; (simp); exact rfl; exact rfl; exact qu7; (simp only [maxLen]; omega); omega)
  | (apply qm; exact rfl; exact rfl; exact h4; (iterate 6 exact rfl)))
 refine qs rfl (ju rfl) ⟨rfl, ?_⟩
 show (((st ++ []).set o _).set tp _).set o (.cells ver 93 [.bx o ver 0, .sl 1 (l.map Uv ++ m.map Uv) (some tp)]) = _
 rw [List.append_nil, List.set_comm _ _ hne, List.set_set, ← List.map_append]
theorem qlr (o ver tp : Nat) (q : AV) (l : List UInt8) (st : List AObj) (ho : st[o]? = some (bldO ver q l tp)) (ht : st[tp]? = some (.tip l.length 1 5)) :
  zr E 50 [.bx o ver 0] st fun r st' => r = Sv l ∧ st' = st.set tp .dead := by
 refine ⟨fun B0 w0 G vals w hL hA hR => ?_⟩
 obtain ⟨h0, h1, h2, h3, c, h4, h5, h6⟩ := hA.ob o _ ho
 obtain ⟨g0, g1, g2⟩ := hA.ob tp _ ht
 have hne : tp ≠ o := fun e => by rw [e, ho] at ht; simp at ht
 have hvals : vals = #[.pointer (some ⟨(G.ob o).blk, 0, none⟩)] := by
  have hs : vals.size = 1 := by have := hR.1; simpa using this.symm
  have h := hR.2 0 (.bx o ver 0) vals[0] rfl (by simp [hs])
  apply Array.ext
  ·simp [hs]
  ·intro i hi1 hi2
   have : i = 0 := by simp at hi2; omega
   subst this
   have e : vals[0] = .pointer (some ⟨(G.ob o).blk, 0, none⟩) := by
    generalize vals[0] = v at h
    cases h with
    | bx _ _ _ b hn e1 e2 => rw [e2 h1]
   simpa using e
 subst hvals
 have hc2 : c.size = 2 := by rw [← h5]; rfl
 have hrel := h6 1 (.sl 1 (l.map Uv) (some tp)) c[1] rfl (by simp [hc2])
 have hcell : w.drew.cell? ⟨(G.ob o).blk, 1, none⟩ = some c[1] := by
  have h4' : w.drew.heap[(G.ob o).blk]? = some (.cells c 93 (0, 0)) := h4
  simp [World.cell?, h4', hc2]
 generalize hv : c[1] = v at hrel hcell
 have hdrew : Below w.heap.size w w.drew := ⟨rfl, rfl, rfl, Nat.le_refl _, fun _ _ => rfl⟩
 have hA1 := (hA.kill tp).fresh hdrew
 have hl : (l.map Uv).length = l.length := by simp
 generalize hxs : l.map Uv = xs at hrel
 cases hrel with
 | sl0 _ _ base cap hto =>
  obtain ⟨_, rfl, rfl⟩ := hto tp rfl
  have hl0 : l = [] := by simpa using hxs
  subst hl0
  refine (qj5 Tryz.lays169 Tryz.Builder_Extra_169 (G.ob o).blk 0 0 none (.pointer none) .empty w w.drew hcell rfl (Lib.run_unsafeString_none w.drew _ _ _ none)).mono ?_
  rintro e w' ⟨rfl, rfl⟩
  exact ⟨_, G, Sv [], _, rfl, .refl G, hA1, .v _, rfl, rfl⟩
 | sl _ _ _ b off cap pub hp hw hlen hr hto hcap0 =>
  subst hxs
  rw [hl] at hto hcell
  obtain ⟨_, hn0, _, hcur⟩ := hto tp rfl
  obtain ⟨hb, rfl, hcp, hcm, hcl⟩ := hcur g1
  obtain ⟨hB, c2, vs, e1, e2, e3, e4⟩ := g2 hn0
  rw [hb] at e1 e2 hB
  have hcells : ∀ j x, l[j]? = some x → w.drew.cell? ((⟨b, 0, none⟩ : Addr).add j) = some (.int .u8 x.toNat) := fun j x hx => by
   obtain ⟨c3, T3, fz3, k1, k2⟩ := hA.pub b pub hp
   have k1' : w.drew.heap[b]? = some (.cells c3 T3 fz3) := k1
   have hj : j < (flat (l.map Uv)).length := by rw [qdl]; simpa using lt_of_getElem? hx
   have hy : pub[0 + j]? = some (pub[0 + j]'(by omega)) := List.getElem?_eq_getElem (by omega)
   have hrj := hr j (Uv x) _ (by rw [qdl]; simp [hx]) hy
   have : pub[0 + j]'(by omega) = .int .u8 x.toNat := by
    generalize pub[0 + j]'(by omega) = y at hrj
    cases hrj; rfl
   rw [this] at hy
   rw [Addr.add_lit]
   simp only [World.cell?, k1']
   simpa using k2 _ _ hy
  have hle : l.length ≤ c2.size := by rw [e4, ← hcp]; omega
  have e1' : w.drew.heap[b]? = some (.cells c2 5 (0, 0)) := e1
  have hUS := Lib.run_unsafeString_row (P := E.P) w.drew 140 3 9 5 rfl (by kernel_rfl) b c2.size (by simp [World.shape?, e1']) l (by rintro rfl; exact hn0 rfl) hle (by simp only [maxLen] at hcm; omega) hcells
  have hSD : (Builtin.unsafeSliceData_ #[91] 140 #[.slice (some ⟨b, 0, none⟩) l.length cap]).run E.P w.drew = .ok (.pointer (some ⟨b, 0, none⟩)) w.drew := Lib.run_unsafeSliceData_row _ _ _ _ _ _ (by omega)
  refine (qj5 Tryz.lays169 Tryz.Builder_Extra_169 (G.ob o).blk l.length cap (some ⟨b, 0, none⟩) _ _ w _ hcell hSD hUS).mono ?_
  rintro e w' ⟨rfl, rfl⟩
  have hfz : ∃ fz', (w.drew.freeze ⟨b, 0, none⟩ l.length).heap[b]? = some (.cells c2 5 fz') := by
   unfold World.freeze
   rw [if_neg hn0]
   simp [Array.getElem?_modify, e1']
  obtain ⟨fz', hfz⟩ := hfz
  have hoth : ∀ k, k ≠ b → (w.drew.freeze ⟨b, 0, none⟩ l.length).heap[k]? = w.drew.heap[k]? := fun k hk => by
   unfold World.freeze
   rw [if_neg hn0]
   simp [Array.getElem?_modify, Ne.symm hk]
  refine ⟨_, G, Sv l, _, rfl, .refl G, hA1.refroze e1' hfz hoth hB (by unfold World.freeze; rw [if_neg hn0]; simp) (by unfold World.freeze; rw [if_neg hn0]) (by unfold World.freeze; rw [if_neg hn0]) (by unfold World.freeze; rw [if_neg hn0]) (fun k x hx hlv => ?_), .v _, rfl, rfl⟩
  rcases getElem?_set' _ _ _ _ _ hx with ⟨_, e⟩ | ⟨k1, k2⟩
  ·subst e; exact hlv.elim
  ·have := hA.sep k tp x _ k1 k2 ht hlv hn0
   rwa [hb] at this
end Go.Proofs.YtefmcijohgpfhaaGreatDoor
set_option linter.unusedVariables false
set_option maxRecDepth 100000
namespace Go.Proofs.YtefmcijohgpfhaaGreatDoor
open Go Go.Av Go.RowKit Go.Proofs Go.Pl
theorem qeb (l : List UInt8) (c : UInt8) (st : List AObj) (hl : l.length < 4294967281) : zr E 36 [Sv l, Sv [c]] st fun r st' => r = .tu [Sv (upto c l), Sv (past c l), Bv (decide (c ∈ l))] ∧ st' = st := by
 have := qrk l [c] st hl
 rw [qva] at this
 exact this
@[reducible] def qau (k : Nat) (text rest : List UInt8) : AV := .ag [Iv k, Iv ((text.length : Int) - rest.length), Sv (upto 10 rest), Bv (decide (10 ∈ rest))]
theorem qtu (text : List UInt8) (o kb ver n : Nat) (I : Nat → List UInt8 → List AObj → Prop) (D : List AObj → Prop) (st : List AObj) (ht : text.length < 4294967281) (h0 : I 0 text st)
  (hI : ∀ k rest st', I k rest st' → st'.length = n ∧ st'[kb]? = some (.cells ver 9 [Sv text]))
  (hY : ∀ k rest st' own, I k rest st' → rest ≠ [] → rest.length ≤ text.length → yi E o [qau k text rest] (st' ++ [own]) fun b st2 => ∃ st3, st2 = st3 ++ [own] ∧ (b = true → I (k + 1) (past 10 rest) st3) ∧ (b = false → D st3)) :
  zr E 113 [.yd o, .bx kb ver 0] st fun r st' => ∃ st3 ext', st' = st3 ++ ext' ∧ ((∃ k, I k [] st3) ∨ D st3) := by
 refine zp Tryz.func113 rfl (Nat.le_of_ble_eq_true rfl) ?_
 obtain ⟨hn, hb⟩ := hI 0 text st h0
 subst hn
 repeat' (first
  | apply qr
  | apply q7
  | apply qe
  | apply qa
  | apply qf
  | (apply jh; exact rfl; exact rfl)
  | (apply q6; (iterate 11 exact rfl))
  | (apply j6; (iterate 3 exact rfl))
  | (apply qao; exact rfl; exact rfl; exact hb; exact rfl; exact rfl))
 refine vy (fun (x : Nat × List UInt8) s => match x with | (k, rest) => ∃ stk at' ta eb, I k rest stk ∧ k + rest.length ≤ text.length ∧ at' = (text.length : Int) - rest.length ∧ StA [(0, .yd o), (1, .bx kb ver 0), (3, .bx (st.length + 0) 0 0), (4, Sv rest)] (stk ++ (.cells 0 129 [Iv k, Iv at', Sv ta, Bv eb] :: [])) [] s) (fun x => x.2.length) (0, text)
  ⟨st, 0, [], false, h0, by simp, by simp, ?_⟩ ?_
 ·exact vl ⟨rfl, rfl, rfl, rfl, trivial⟩
 rintro ⟨k, rest⟩ _ ⟨stk, _, ta, eb, hi, hle, rfl, t, rfl⟩
 obtain ⟨hn, hb'⟩ := hI k rest stk hi
 repeat' (first
  | apply qr
  | apply q7
  | apply qe
  | apply qa
  | apply qn
  | apply qf
  | (apply z1; exact rfl; exact rfl)
  | (apply kw; (iterate 3 exact rfl))
  | (apply qg; exact rfl; first | (apply zd; (first | assumption | omega)) | (apply zf; (first | assumption | omega)) | (apply ze; (first | exact rfl | assumption)) | (apply zg; (first | exact rfl | assumption)) | (apply cd_n <;> intro h) | (apply cd_t; (first | exact rfl | assumption)) | (apply cd_f; (first | exact rfl | assumption)) | (apply cd_d <;> intro h) | (apply cd_s <;> intro h))
  | (apply za; (iterate 3 exact rfl))
  | apply q8
  | apply jp
  | (apply qi; exact Tryz.call36; exact qeb _ _ _ (by omega))
  | (apply yq; exact rfl; assumption; (iterate 10 exact rfl))
  | (apply qac; exact rfl; assumption; (iterate 4 exact rfl)))
 ·refine qci rfl ((hY k rest stk _ hi h (by omega)).mono ?_)
  rintro b _ ⟨st3, rfl, h1, h2⟩
  cases b
  ·skip
   repeat' (first
    | apply qa
    | (apply kd; exact rfl)
    | (apply qg; exact rfl; first | (apply zd; (first | assumption | omega)) | (apply zf; (first | assumption | omega)) | (apply ze; (first | exact rfl | assumption)) | (apply zg; (first | exact rfl | assumption)) | (apply cd_n <;> intro h) | (apply cd_t; (first | exact rfl | assumption)) | (apply cd_f; (first | exact rfl | assumption)) | (apply cd_d <;> intro h) | (apply cd_s <;> intro h))
    | apply q9)
   refine qs rfl (y0 rfl) ⟨st3, _, rfl, .inr (h2 rfl)⟩
  ·have hi3 := h1 rfl
   obtain ⟨hn3, hb3⟩ := hI _ _ _ hi3
   have hp := xk 10 rest
   have hr0 : 0 < rest.length := List.length_pos_iff.2 h
   repeat' (first
    | apply qr
    | apply qe
    | apply qa
    | apply qn
    | (apply kd; exact rfl)
    | (apply qg; exact rfl; first | (apply zd; (first | assumption | omega)) | (apply zf; (first | assumption | omega)) | (apply ze; (first | exact rfl | assumption)) | (apply zg; (first | exact rfl | assumption)) | (apply cd_n <;> intro h) | (apply cd_t; (first | exact rfl | assumption)) | (apply cd_f; (first | exact rfl | assumption)) | (apply cd_d <;> intro h) | (apply cd_s <;> intro h))
    | (apply j4; (iterate 3 exact rfl))
    | (apply jj; exact rfl; exact rfl; exact z2 (by omega) (by omega))
    | (apply w7; exact rfl; exact rfl; exact z2 (by omega) (by omega))
    | (apply za; (iterate 3 exact rfl))
    | apply q8
    | (apply qao; exact rfl; exact rfl; exact hb3; exact rfl; exact rfl)
    | (apply yq; exact rfl; assumption; (iterate 10 exact rfl))
    | (apply qac; exact rfl; assumption; (iterate 4 exact rfl)))
   exact ⟨(k + 1, past 10 rest), ⟨st3, _, _, _, hi3, by omega, rfl, vl ⟨rfl, rfl, rfl, rfl, trivial⟩⟩, by simp only; omega⟩
 ·have hr : rest = [] := Classical.not_not.1 h
  subst hr
  exact qs rfl (y0 rfl) ⟨stk, _, rfl, .inl ⟨k, hi⟩⟩
end Go.Proofs.YtefmcijohgpfhaaGreatDoor
set_option linter.unusedVariables false
set_option maxRecDepth 100000
namespace Go.Proofs.YtefmcijohgpfhaaGreatDoor
open Go Go.Av Go.RowKit Go.Proofs Go.Pl
theorem qp8 (text : List UInt8) (st st' : List AObj) (n : Nat) (hn : st.length = n) (hst : st ++ [.cells 0 9 [Sv text]] = st') : zr E 72 [Sv text] st fun r st1 => r = .fn (.func 113) [] [.bx n 0 0] ∧ st1 = st' := by
 subst hn
 subst hst
 refine zp Tryz.func72 rfl (Nat.le_of_ble_eq_true rfl) ?_
 repeat' (first
  | apply qr
  | apply qe
  | apply qa
  | apply qf
  | apply qbi
  | (apply ky; (iterate 4 exact rfl))
  | apply q9)
 exact qs rfl (zt rfl) ⟨rfl, rfl⟩
theorem qrq (st loc loc' : List AObj) (k kt ver : Nat) (q : AV) (l m : List UInt8) (hk : loc[k]? = some (bldO ver q l (st.length + kt))) (hkt : loc[kt]? = some (.tip l.length 1 5)) (hq : q = .v (.pointer none) ∨ q = .bx (st.length + k) ver 0)
  (hlen : l.length + m.length ≤ 140737488355328) (hl : loc' = (loc.set k (bldO ver (.bx (st.length + k) ver 0) (l ++ m) (st.length + kt))).set kt (.tip (l ++ m).length 1 5)) :
  zr E 47 [.bx (st.length + k) ver 0, Sv m] (st ++ loc) fun r st' => r = .tu [Iv m.length, .v .nilIface] ∧ st' = st ++ loc' := by
 refine (qof (st.length + k) ver (st.length + kt) q l m (st ++ loc) (zw hk) (zw hkt) hq hlen).mono fun r st' ⟨h1, h2⟩ => ⟨h1, ?_⟩
 rw [h2, wu, wu, hl, List.length_append]
theorem qo2 (st loc loc' : List AObj) (k kt ver : Nat) (q : AV) (l : List UInt8) (hk : loc[k]? = some (bldO ver q l (st.length + kt))) (hkt : loc[kt]? = some (.tip l.length 1 5)) (hl : loc' = loc.set kt .dead) :
  zr E 50 [.bx (st.length + k) ver 0] (st ++ loc) fun r st' => r = Sv l ∧ st' = st ++ loc' := by
 refine (qlr (st.length + k) ver (st.length + kt) q l (st ++ loc) (zw hk) (zw hkt)).mono fun r st' ⟨h1, h2⟩ => ⟨h1, ?_⟩
 rw [h2, wu, hl]
@[reducible] def dedL (st : List AObj) (by' text : List UInt8) (q : AV) (acc : List UInt8) (lp : AObj) : List AObj :=
 [.cells 0 9 [Sv by'], .cells 0 9 [Sv []], .cells 0 4 [Bv false], bldO 0 q acc (st.length + 5), .cells 0 9 [Sv text], .tip acc.length 1 5, .dfr, lp]
theorem quj (text by' : List UInt8) (st : List AObj) (hl : text.length < 4294967281) : zr E 78 [Sv text, Sv by'] st fun r st' => r = .tu [Sv (v7 by' text).1, Bv (v7 by' text).2] ∧ st' = st := by
 refine z4 (ql0 _ _) (zp Tryz.func78 rfl (Nat.le_of_ble_eq_true rfl) ?_)
 repeat' (first
  | apply qr
  | apply qe
  | apply qa
  | apply qn
  | (apply jh; exact rfl; exact rfl)
  | (apply ky; (iterate 4 exact rfl)))
 refine qi Tryz.call72 (qp8 text _ (st ++ [.cells 0 9 [Sv by'], .cells 0 9 [Sv []], .cells 0 4 [Bv false], .cells 0 93 [.v (.pointer none), jm], .cells 0 9 [Sv text]]) (st.length + 4) ?_ ?_) ?_
 ·show (st ++ [_, _, _, _]).length = _
  simp
 ·show (st ++ [_, _, _, _]) ++ [_] = _
  rw [List.append_assoc]
  rfl
 repeat' (first
  | apply q7
  | apply qa)
 refine qo0 (o := st.length + 3) (j := 1) (sz := 1) (T' := 5) (zw rfl) rfl ?_
 refine wf [(3, .bx (st.length + 0) 0 0), (4, .bx (st.length + 1) 0 0), (5, .bx (st.length + 2) 0 0), (6, .bx (st.length + 3) 0 0), (11, .fn (.func 113) [] [.bx (st.length + 4) 0 0])]
  (st ++ [.cells 0 9 [Sv by'], .cells 0 9 [Sv []], .cells 0 4 [Bv false], bldO 0 (.v (.pointer none)) [] (st.length + 5), .cells 0 9 [Sv text], .tip 0 1 5]) [] ⟨rfl, rfl, rfl, rfl, rfl, trivial⟩ ?_ rfl (fun t => ?_)
 ·show (st ++ [_, _, _, _, _]).set (st.length + 3) (.cells 0 93 [_, .sl 1 [] (some (st ++ [_, _, _, _, _]).length)]) ++ [_] = _
  rw [wu, List.append_assoc]
  simp
 refine qf2 (st := st) (loc := [.cells 0 9 [Sv by'], .cells 0 9 [Sv []], .cells 0 4 [Bv false], bldO 0 (.v (.pointer none)) [] (st.length + 5), .cells 0 9 [Sv text], .tip 0 1 5]) rfl rfl Tryz.call113 fun F hF => ?_
 refine zr.mono (qtu text (st.length + 7) (st.length + 4) 0 (st.length + 8)
  (fun _ rest st' => ∃ q acc don, (q = .v (.pointer none) ∨ q = .bx (st.length + 3) 0 0) ∧ kh text = don ++ kh rest ∧ (∀ x ∈ don, by' <+: x.1) ∧ acc = don.flatMap (fun x => x.1.drop by'.length ++ wd x.2) ∧ acc.length + rest.length ≤ text.length ∧ st' = st ++ dedL st by' text q acc (F .ready none))
  (fun st' => (¬ ∀ x ∈ kh text, by' <+: x.1) ∧ ∃ q acc, st' = st ++ dedL st by' text q acc (F .done (some .ret)))
  (st ++ dedL st by' text (.v (.pointer none)) [] (F .ready none)) hl ⟨_, [], [], .inl rfl, rfl, by simp, rfl, by simp, rfl⟩ ?_ ?_) ?_
 ·rintro k rest _ ⟨q, acc, don, hq, h1, h2, h3, h4, rfl⟩
  exact ⟨by simp, zw rfl⟩
 ·rintro k rest _ own ⟨q, acc, don, hq, h1, h2, h3, h4, rfl⟩ hne hle
  refine qow ?_
  rw [List.append_assoc]
  refine qi9 hF (zw rfl) rfl fun l => ?_
  repeat' (first
   | apply qe
   | apply qa
   | (apply jh; exact rfl; exact rfl)
   | (apply q6; (iterate 11 exact rfl)))
  refine ⟨zw rfl, rfl, ?_⟩
  refine wf [(3, .bx (st.length + 0) 0 0), (4, .bx (st.length + 1) 0 0), (5, .bx (st.length + 2) 0 0), (6, .bx (st.length + 3) 0 0), (7, .bx (st.length + 9) 0 0)]
   (st ++ (dedL st by' text q acc (F .busy none) ++ [own, .cells 0 129 (qau k text rest).cells])) [] ⟨rfl, rfl, rfl, rfl, rfl, trivial⟩ ?_ rfl (fun t => ?_)
  ·show (st ++ (dedL st by' text q acc (F .ready none) ++ [own, _])).set (st.length + 7) _ = _
   rw [wu]
   rfl
  have hb1 := qmf (upto 10 rest) by'
  have hb2 := wv 10 rest
  have hmem : (upto 10 rest, decide (10 ∈ rest)) ∈ kh text := by rw [h1, ym hne]; simp
  have hcons := ym hne
  have hpl := xk 10 rest
  have hlt : 10 ∈ rest → (upto 10 rest).length < rest.length := qa7
  repeat' (first
   | apply qr
   | apply q7
   | apply qe
   | apply qa
   | apply qn
   | apply qf
   | (apply z1; exact rfl; exact rfl)
   | (apply kd; exact rfl)
   | (apply qg; exact rfl; first | (apply zd; (first | assumption | omega)) | (apply zf; (first | assumption | omega)) | (apply ze; (first | exact rfl | assumption)) | (apply zg; (first | exact rfl | assumption)) | (apply cd_n <;> intro h) | (apply cd_t; (first | exact rfl | assumption)) | (apply cd_f; (first | exact rfl | assumption)) | (apply cd_d <;> intro h) | (apply cd_s <;> intro h))
   | (apply za; (iterate 3 exact rfl))
   | (apply qx; (iterate 5 exact rfl))
   | (apply q6; (iterate 11 exact rfl))
   | apply q8
   | apply q9
   | (apply qi; exact Tryz.call76; exact qfa _ _ _)
   | (refine qi Tryz.call47 (qrq st _ _ 3 5 0 _ _ _ rfl rfl ?_ ?_ rfl) ?_; (first | exact hq | exact .inr rfl); (first | omega | (simp; omega))))
  ·have hno : ¬ ∀ x ∈ kh text, by' <+: x.1 := fun hall => by
    have := (x2 _ _).2 (hall _ hmem)
    simp_all
   refine ⟨zw rfl, st ++ (dedL st by' text q acc (F .done (some .ret)) ++ [own]), [.cells 0 129 (qau k text rest).cells], ?_, ?_, st ++ dedL st by' text q acc (F .done (some .ret)), (List.append_assoc _ _ _).symm, nofun, fun _ => ⟨hno, q, acc, rfl⟩⟩
   ·show (st ++ _).set (st.length + 7) _ = _
    rw [wu, List.append_assoc st]
    rfl
   ·exact qes (.same _ (.same _ (.same _ (.same _ (.same _ (.same _ (.same _ (qqz hF (qdi _ _))))))))) st
  all_goals
   have hpre : by' <+: upto 10 rest := (x2 _ _).1 (by simp_all)
   have htp := qgv hpre
  ·refine ⟨zw rfl, st ++ (dedL st by' text (.bx (st.length + 3) 0 0) (acc ++ Lib.trimPrefix (upto 10 rest) by' ++ [10]) (F .ready none) ++ [own]), [.cells 0 129 (qau k text rest).cells], ?_, ?_,
    st ++ dedL st by' text (.bx (st.length + 3) 0 0) (acc ++ Lib.trimPrefix (upto 10 rest) by' ++ [10]) (F .ready none), (List.append_assoc _ _ _).symm, fun _ => ⟨_, _, don ++ [(upto 10 rest, true)], .inr rfl, ?_, ?_, ?_, ?_, rfl⟩, nofun⟩
   ·show (st ++ _).set (st.length + 7) _ = _
    rw [wu, List.append_assoc st]
    rfl
   ·refine qes (.same _ (.same _ (.same _ (.cut (qiw ?_) (.same _ (.cut qlh (.same _ (qqz hF (qdi _ _))))))))) st
    intro x hx
    simp only [List.mem_cons, List.not_mem_nil, or_false] at hx
    rcases hx with rfl | rfl
    ·exact qs5 (by simp)
    ·exact qll (by simp)
   ·rw [h1, hcons]; simp_all
   ·intro x hx
    rcases List.mem_append.1 hx with hx | hx
    ·exact h2 x hx
    ·simp at hx; subst hx; exact hpre
   ·rw [h3, htp]; simp [wd]
   ·have := hlt (by assumption)
    simp
    omega
  ·refine ⟨zw rfl, st ++ (dedL st by' text (.bx (st.length + 3) 0 0) (acc ++ Lib.trimPrefix (upto 10 rest) by') (F .ready none) ++ [own]), [.cells 0 129 (qau k text rest).cells], ?_, ?_,
    st ++ dedL st by' text (.bx (st.length + 3) 0 0) (acc ++ Lib.trimPrefix (upto 10 rest) by') (F .ready none), (List.append_assoc _ _ _).symm, fun _ => ⟨_, _, don ++ [(upto 10 rest, false)], .inr rfl, ?_, ?_, ?_, ?_, rfl⟩, nofun⟩
   ·show (st ++ _).set (st.length + 7) _ = _
    rw [wu, List.append_assoc st]
    rfl
   ·refine qes (.same _ (.same _ (.same _ (.cut (qiw ?_) (.same _ (.cut qlh (.same _ (qqz hF (qdi _ _))))))))) st
    intro x hx
    simp only [List.mem_cons, List.not_mem_nil, or_false] at hx
    rcases hx with rfl | rfl
    ·exact qs5 (by simp)
    ·exact qll (by simp)
   ·rw [h1, hcons]; simp_all
   ·intro x hx
    rcases List.mem_append.1 hx with hx | hx
    ·exact h2 x hx
    ·simp at hx; subst hx; exact hpre
   ·rw [h3, htp]; simp [wd]
   ·simp
    omega
 ·rintro r st' ⟨st3, ext, rfl, ⟨k, q, acc, don, hq, h1, h2, h3, h4, rfl⟩ | ⟨hno, q, acc, rfl⟩⟩
  ·refine ⟨.ready, none, nofun, by rw [List.append_assoc]; exact zw rfl, ?_⟩
   refine wf [(4, .bx (st.length + 1) 0 0), (5, .bx (st.length + 2) 0 0), (6, .bx (st.length + 3) 0 0)] (st ++ (dedL st by' text q acc .dead ++ ext)) [st.length + 6] ⟨rfl, rfl, rfl, trivial⟩ ?_ rfl (fun t => ?_)
   ·show ((st ++ _) ++ ext).set (st.length + 7) _ = _
    rw [List.append_assoc, wu]
    rfl
   repeat' (first
    | apply qr
    | apply qe
    | apply qa
    | (apply q6; (iterate 11 exact rfl))
    | apply q9
    | (refine qi Tryz.call50 (qo2 st _ _ 3 5 0 _ _ rfl rfl rfl) ?_))
   refine qgp rfl rfl rfl (qs rfl (qfl rfl rfl rfl rfl rfl rfl rfl rfl rfl rfl) ⟨qu5 (?_ : _ = _), _, rfl⟩)
   rw [ya, List.append_nil] at h1
   unfold v7
   rw [h1, if_pos h2, h3]
  ·refine ⟨.done, some .ret, nofun, by rw [List.append_assoc]; exact zw rfl, ?_⟩
   refine wf [(4, .bx (st.length + 1) 0 0), (5, .bx (st.length + 2) 0 0), (6, .bx (st.length + 3) 0 0)] (st ++ (dedL st by' text q acc .dead ++ ext)) [st.length + 6] ⟨rfl, rfl, rfl, trivial⟩ ?_ rfl (fun t => ?_)
   ·show ((st ++ _) ++ ext).set (st.length + 7) _ = _
    rw [List.append_assoc, wu]
    rfl
   repeat' (first
    | apply q9)
   refine qgp rfl rfl rfl (qs rfl (qfl rfl rfl rfl rfl rfl rfl rfl rfl rfl rfl) ⟨qu5 (?_ : _ = _), _, rfl⟩)
   unfold v7
   rw [if_neg hno]
end Go.Proofs.YtefmcijohgpfhaaGreatDoor
set_option linter.unusedVariables false
set_option maxRecDepth 100000
namespace Go.Proofs.YtefmcijohgpfhaaGreatDoor
open Go Go.Av Go.RowKit Go.Proofs Go.Pl
def qwg (x : BitVec 32) : BitVec 32 := if x &&& 2147483648#32 ≠ 0#32 then (x <<< 1) ^^^ 79764919#32 else x <<< 1
def qpt : Nat → BitVec 32 → BitVec 32
 | 0, x => x
 | n + 1, x => qwg (qpt n x)
def rowT (i : Nat) : BitVec 32 := qpt 4 (BitVec.ofNat 32 i <<< 28)
def crcN (x : BitVec 32) (n : Nat) : BitVec 32 := (x <<< 4) ^^^ rowT ((x >>> 28) ^^^ BitVec.ofNat 32 n).toNat
def crcP (x : BitVec 32) (c : UInt8) : BitVec 32 := crcN (crcN x (c.toNat / 16)) (c.toNat % 16)
def addP (s : BitVec 32) (l : List UInt8) : BitVec 32 := ~~~ (l.foldl crcP (~~~ s))
def figP (s : BitVec 32) (j : Nat) : UInt8 := [48, 49, 50, 51, 52, 53, 54, 55, 56, 57, 97, 98, 99, 100, 101, 102].getD ((s >>> (4 * (7 - j))) &&& BitVec.ofInt 32 15).toNat 0
def qwn (s : BitVec 32) (n : Nat) : List UInt8 := (List.range n).map (figP s)
end Go.Proofs.YtefmcijohgpfhaaGreatDoor
set_option linter.unusedVariables false
set_option maxRecDepth 100000
namespace Go.Proofs.YtefmcijohgpfhaaGreatDoor
open Go Go.Av Go.RowKit Go.Proofs Go.Pl
def sumF (l : List UInt8) : List UInt8 := qwn (addP 0 l) 8
def qvx (rest body sums : List UInt8) (size : Int) : Int × List UInt8 × Int :=
 if rest.length < (qml body.length).length ∧ rest <+: qml body.length then (2, [], 0)
 else if qml body.length <+: rest ∧ sums = sumF body then (1, body, size) else (3, [], 0)
def qrb (l : List UInt8) : Int × List UInt8 × Int :=
 if 10 ∈ l then
  if (qbd (upto 10 l)).2.2 = true then
   if (past 10 l).length < (qbd (upto 10 l)).1 then (qvd (past 10 l) ((qbd (upto 10 l)).1 - (past 10 l).length), [], 0)
   else if qu4 ((past 10 l).take (qbd (upto 10 l)).1) then qvx ((past 10 l).drop (qbd (upto 10 l)).1) ((past 10 l).take (qbd (upto 10 l)).1) (qbd (upto 10 l)).2.1 (qvp (qbd (upto 10 l)).1)
   else (3, [], 0)
  else (3, [], 0)
 else if qjd l = true then (2, [], 0) else (3, [], 0)
end Go.Proofs.YtefmcijohgpfhaaGreatDoor
set_option linter.unusedVariables false
set_option maxRecDepth 100000
namespace Go.Proofs.YtefmcijohgpfhaaGreatDoor
open Go Go.Av Go.RowKit Go.Proofs Go.Pl
theorem qdk : ∀ (n u : Nat), u < n → u < 18446744073709551616 → ∀ st, zr E 121 [.v (.int .u64 (u : Int))] st fun r st' => r = Sv (Lib.decDigits u) ∧ st' = st
 | 0, _, h, _, _ => absurd h (Nat.not_lt_zero _)
 | n + 1, u, hu, h64, st => by
  refine z4 (jn _) (zp Tryz.func121 rfl (Nat.le_of_ble_eq_true rfl) ?_)
  have hl1 := qbo (u := u / 10) (by omega)
  have hl2 := qbo (u := u % 10) (by omega)
  by_cases h10 : u < 10
  ·skip
   repeat' (first
    | apply qr
    | apply qe
    | apply qa
    | apply qn
    | apply qf
    | (apply qt; (iterate 3 exact rfl))
    | (apply qg; exact rfl; first | (apply zd; (first | assumption | omega)) | (apply zf; (first | assumption | omega)) | (apply ze; (first | exact rfl | assumption)) | (apply zg; (first | exact rfl | assumption)) | (apply cd_n <;> intro h) | (apply cd_t; (first | exact rfl | assumption)) | (apply cd_f; (first | exact rfl | assumption)) | (apply cd_d <;> intro h) | (apply cd_s <;> intro h))
    | (apply zz; (iterate 4 exact rfl); (first | assumption | omega | (simp; omega)); first | assumption | omega | (simp; omega))
    | apply q9
    | (apply qs7 (n := 1); exact rfl; exact rfl; exact qfn (by omega)))
   exact qs rfl (zt rfl) ⟨congrArg Sv (qo6 h10), _, rfl⟩
  ·have ih1 := qdk n (u / 10) (by omega) (by omega)
   have ih2 := qdk n (u % 10) (by omega) (by omega)
   repeat' (first
    | apply qr
    | apply qe
    | apply qa
    | apply qn
    | apply qf
    | (apply qt; (iterate 3 exact rfl))
    | (apply qg; exact rfl; first | (apply zd; (first | assumption | omega)) | (apply zf; (first | assumption | omega)) | (apply ze; (first | exact rfl | assumption)) | (apply zg; (first | exact rfl | assumption)) | (apply cd_n <;> intro h) | (apply cd_t; (first | exact rfl | assumption)) | (apply cd_f; (first | exact rfl | assumption)) | (apply cd_d <;> intro h) | (apply cd_s <;> intro h))
    | (apply kl; exact rfl; exact rfl; (first | omega | (simp only [List.length_append, List.length_cons, List.length_nil]; omega) | (simp; omega)))
    | apply q8
    | apply q9
    | (apply qrw (n := 10); exact rfl; exact rfl; omega; exact qfn (by omega))
    | (apply qsf (n := 10); exact rfl; exact rfl; omega)
    | (apply qi; exact Tryz.call121; exact ih1 _)
    | (apply qi; exact Tryz.call121; exact ih2 _))
   exact qs rfl (zt rfl) ⟨congrArg Sv (qbj h10).symm, _, rfl⟩
theorem qnp (k : Nat) (st : List AObj) (hk : k ≤ 9223372036854775807) : zr E 82 [Iv k] st fun r st' => r = Sv (Lib.itoa k) ∧ st' = st := by
 refine z4 (jn _) (zp Tryz.func82 rfl (Nat.le_of_ble_eq_true rfl) ?_)
 have hneg : ¬ (k : Int) < 0 := by omega
 repeat' (first
  | apply qr
  | apply qe
  | apply qa
  | apply qn
  | apply qf
  | (apply qt; (iterate 3 exact rfl))
  | (apply qg; exact rfl; first | (apply zd; (first | assumption | omega)) | (apply zf; (first | assumption | omega)) | (apply ze; (first | exact rfl | assumption)) | (apply zg; (first | exact rfl | assumption)) | (apply cd_n <;> intro h) | (apply cd_t; (first | exact rfl | assumption)) | (apply cd_f; (first | exact rfl | assumption)) | (apply cd_d <;> intro h) | (apply cd_s <;> intro h))
  | apply q8
  | apply q9
  | (apply qdj; (iterate 3 exact rfl); exact qfn (by omega))
  | (apply qi; exact Tryz.call121; exact qdk (k + 1) k (by omega) (by omega) _))
 exact qs rfl (zt rfl) ⟨congrArg Sv (by unfold Lib.itoa; rw [if_neg hneg]; simp), _, rfl⟩
end Go.Proofs.YtefmcijohgpfhaaGreatDoor
set_option linter.unusedVariables false
set_option maxRecDepth 100000
namespace Go.Proofs.YtefmcijohgpfhaaGreatDoor
open Go Go.Av Go.RowKit Go.Proofs Go.Pl
def qj8 (c : UInt8) : Bool := decide (48 ≤ c.toNat ∧ c.toNat ≤ 57)
end Go.Proofs.YtefmcijohgpfhaaGreatDoor
set_option maxRecDepth 100000
set_option linter.unusedVariables false
namespace Go.Pl
open Go
def decV (l : qk) : Nat := l.foldl (fun a c => 10 * a + (c.toNat - 48)) 0
theorem qg2 (l : qk) (c : UInt8) : decV (l ++ [c]) = 10 * decV l + (c.toNat - 48) := by simp [decV]
theorem wz : ∀ (n u : Nat), u ≤ n → ∀ c ∈ Lib.decDigits u, 48 ≤ c.toNat ∧ c.toNat ≤ 57
 | n, u, hn, c, hc => by
  by_cases h : u < 10
  ·rw [Lib.decDigits_one h] at hc
   simp only [List.mem_singleton] at hc
   subst hc
   rw [UInt8.toNat_ofNat']
   omega
  ·rw [qbj h, List.mem_append] at hc
   cases n with
   | zero => omega
   | succ n =>
    rcases hc with hc | hc
    ·exact wz n (u / 10) (by omega) c hc
    ·exact wz n (u % 10) (by omega) c hc
theorem qi7 : ∀ (n u : Nat), u ≤ n → decV (Lib.decDigits u) = u
 | n, u, hn => by
  have key : ∀ d, d < 10 → Lib.decDigits d = [UInt8.ofNat (48 + d)] ∧ (UInt8.ofNat (48 + d)).toNat - 48 = d := fun d hd => by
   refine ⟨Lib.decDigits_one hd, ?_⟩
   rw [UInt8.toNat_ofNat']
   omega
  by_cases h : u < 10
  ·obtain ⟨e1, e2⟩ := key u h
   rw [e1]
   exact (Nat.zero_add _).trans e2
  ·cases n with
   | zero => omega
   | succ n =>
    obtain ⟨e1, e2⟩ := key (u % 10) (by omega)
    rw [qbj h, e1, qg2, qi7 n (u / 10) (by omega), e2]
    omega
theorem qbk (u : Nat) : 1 ≤ (Lib.decDigits u).length := by
 rw [Lib.decDigits_length]
 exact Lib.nDigits_pos u
theorem qcl {v : Int} (h : v < 0) : Lib.itoa v = 45 :: Lib.decDigits v.natAbs := by
 unfold Lib.itoa
 rw [if_pos h]
theorem qco {v : Int} (h : 0 ≤ v) : Lib.itoa v = Lib.decDigits v.toNat := by
 unfold Lib.itoa
 rw [if_neg (by omega)]
theorem qvj (v : Int) : 1 ≤ (Lib.itoa v).length := by
 by_cases h : v < 0
 ·rw [qcl h]; simp
 ·rw [qco (by omega)]; exact qbk _
theorem qsv {v : Int} (h1 : -9223372036854775808 ≤ v) (h2 : v ≤ 9223372036854775807) : (Lib.itoa v).length ≤ 20 := by
 by_cases h : v < 0
 ·rw [qcl h, List.length_cons, Lib.decDigits_length]
  have := qdr 18 v.natAbs (by omega)
  omega
 ·rw [qco (by omega), Lib.decDigits_length]
  have := qdr 18 v.toNat (by omega)
  omega
theorem qlj : ∀ (a : Nat) (l m : qk) (b : Nat), Lib.parseUint10 a l = .ok b → Lib.parseUint10 a (l ++ m) = Lib.parseUint10 b m
 | a, [], m, b, h => by
  simp only [Lib.parseUint10, Lib.NumEnd.ok.injEq] at h
  subst h; rfl
 | a, c :: l, m, b, h => by
  simp only [List.cons_append, Lib.parseUint10] at h ⊢
  split at h
  ·rename_i hd
   rw [if_pos hd]
   split at h
   ·cases h
   ·rename_i h1
    rw [if_neg h1]
    split at h
    ·cases h
    ·rename_i h2
     rw [if_neg h2]
     exact qlj _ l m b h
  ·cases h
theorem qfy : ∀ (n u : Nat), u ≤ n → u ≤ 9223372036854775808 → Lib.parseUint10 0 (Lib.decDigits u) = .ok u
 | n, u, hn, hu => by
  have key : ∀ (a d : Nat), a ≤ 922337203685477580 → d < 10 → Lib.parseUint10 a (Lib.decDigits d) = .ok (a * 10 + d) := by
   intro a d ha hd
   have e : (UInt8.ofNat (48 + d)).toNat = 48 + d := by rw [UInt8.toNat_ofNat']; omega
   rw [Lib.decDigits_one hd]
   simp only [Lib.parseUint10, e]
   rw [if_pos (by omega), if_neg (by omega), if_neg (by omega)]
   congr 1
   omega
  by_cases h : u < 10
  ·have := key 0 u (by omega) h
   simpa using this
  ·cases n with
   | zero => omega
   | succ n =>
    rw [qbj h, qlj 0 _ _ (u / 10) (qfy n (u / 10) (by omega) (by omega)), key _ _ (by omega) (by omega)]
    congr 1
    omega
theorem qke {v : Int} (h1 : -9223372036854775808 ≤ v) (h2 : v ≤ 9223372036854775807) : Lib.atoiAll (Lib.itoa v) = .ok v := by
 by_cases h : v < 0
 ·have hp := qfy v.natAbs v.natAbs (Nat.le_refl _) (by omega)
  rw [qcl h]
  have hm : Lib.parseMag (Lib.decDigits v.natAbs) = .ok v.natAbs := by
   unfold Lib.parseMag
   rw [if_neg (fun e => by have := qbk v.natAbs; rw [e] at this; simp at this)]
   exact hp
  have e45 : (45 : UInt8).toNat = 45 := rfl
  simp only [Lib.atoiAll, e45]
  rw [if_pos (Or.inr trivial), hm]
  simp only [not_true, false_and, if_false, true_and]
  rw [if_neg (by omega)]
  simp only [if_true]
  congr 1
  omega
 ·have hp := qfy v.toNat v.toNat (Nat.le_refl _) (by omega)
  have hd := wz v.toNat v.toNat (Nat.le_refl _)
  rw [qco (by omega)]
  cases hl : Lib.decDigits v.toNat with
  | nil => have := qbk v.toNat; rw [hl] at this; simp at this
  | cons c r =>
   rw [hl] at hp hd
   have hc := hd c (by simp)
   simp only [Lib.atoiAll]
   have g1 : ¬ (c.toNat = 43 ∨ c.toNat = 45) := by omega
   rw [if_neg g1]
   have hm : Lib.parseMag (c :: r) = .ok v.toNat := by unfold Lib.parseMag; rw [if_neg (by simp)]; exact hp
   rw [hm]
   have g2 : ¬ c.toNat = 45 := by omega
   simp only [g2, not_false_iff, true_and, false_and, if_false]
   rw [if_neg (by omega)]
   congr 1
   omega
def numZ (l : qk) : Option Int :=
 match Lib.atoiAll l with
 | .ok v => if Lib.itoa v = l then some v else none
 | _ => none
theorem qln {v : Int} (h1 : -9223372036854775808 ≤ v) (h2 : v ≤ 9223372036854775807) : numZ (Lib.itoa v) = some v := by
 unfold numZ
 rw [qke h1 h2]
 simp
theorem qls {l : qk} {v : Int} (h : numZ l = some v) : l = Lib.itoa v ∧ -9223372036854775808 ≤ v ∧ v ≤ 9223372036854775807 := by
 unfold numZ at h
 split at h
 ·rename_i u hu
  split at h
  ·rename_i he
   simp only [Option.some.injEq] at h
   subst h
   exact ⟨he.symm, atoiAll_bounds hu⟩
  ·simp at h
 ·simp at h
theorem qht {l : qk} (h : ∀ v, -9223372036854775808 ≤ v → v ≤ 9223372036854775807 → l ≠ Lib.itoa v) : numZ l = none := by
 cases hn : numZ l with
 | none => rfl
 | some v =>
  obtain ⟨h1, h2, h3⟩ := qls hn
  exact absurd h1 (h v h2 h3)
end Go.Pl
set_option maxRecDepth 100000
set_option linter.unusedVariables false
namespace Go.Proofs.YtefmcijohgpfhaaGreatDoor
open Go Go.Av Go.RowKit Go.Proofs Go.Pl
theorem qdc (v : Int) (st : List AObj) (h1 : -9223372036854775808 ≤ v) (h2 : v ≤ 9223372036854775807) : zr E 82 [Iv v] st fun r st' => r = Sv (Lib.itoa v) ∧ st' = st := by
 by_cases hneg : v < 0
 ·refine z4 (jn _) (zp Tryz.func82 rfl (Nat.le_of_ble_eq_true rfl) ?_)
  have hl := qbo (u := v.natAbs) (by omega)
  have hk : IntKind.u64.wrap (-(v + 1)) = ((v.natAbs - 1 : Nat) : Int) := by
   rw [show -(v + 1) = ((v.natAbs - 1 : Nat) : Int) by omega]
   exact qfn (by omega)
  have hk2 : IntKind.u64.wrap (((v.natAbs - 1 : Nat) : Int) + 1) = ((v.natAbs : Nat) : Int) := by
   rw [show ((v.natAbs - 1 : Nat) : Int) + 1 = ((v.natAbs : Nat) : Int) by omega]
   exact qfn (by omega)
  repeat' (first
   | apply qr
   | apply qe
   | apply qa
   | apply qn
   | apply qf
   | (apply qt; (iterate 3 exact rfl))
   | (apply qg; exact rfl; first | (apply zd; (first | assumption | omega)) | (apply zf; (first | assumption | omega)) | (apply ze; (first | exact rfl | assumption)) | (apply zg; (first | exact rfl | assumption)) | (apply cd_n <;> intro h) | (apply cd_t; (first | exact rfl | assumption)) | (apply cd_f; (first | exact rfl | assumption)) | (apply cd_d <;> intro h) | (apply cd_s <;> intro h))
   | (apply kl; exact rfl; exact rfl; (first | omega | (simp only [List.length_append, List.length_cons, List.length_nil]; omega) | (simp; omega)))
   | (apply jj; exact rfl; exact rfl; exact z2 (by omega) (by omega))
   | apply q9
   | (apply qm5; exact rfl; exact (show IntKind.i64.wrap (0 - (v + 1)) = -(v + 1) from by rw [z2 (by omega) (by omega)]; omega))
   | (apply qdj; (iterate 3 exact rfl); exact hk)
   | (apply jj; exact rfl; exact rfl; exact hk2)
   | (apply qi; exact Tryz.call121; exact qdk (v.natAbs + 1) v.natAbs (by omega) (by omega) _))
  exact qs rfl (zt rfl) ⟨congrArg Sv (qcl hneg).symm, _, rfl⟩
 ·obtain ⟨k, rfl⟩ := Int.eq_ofNat_of_zero_le (by omega : 0 ≤ v)
  exact qnp k st (by omega)
theorem qhb (x : Int) : IntKind.i64.wrap x = (x + 9223372036854775808) % 18446744073709551616 - 9223372036854775808 := by
 simp [IntKind.wrap, IntKind.bits, IntKind.signed]
 split <;> omega
theorem qna (V d : Nat) (n : Int) (hn : n = IntKind.i64.wrap (-(V : Int))) : IntKind.i64.wrap (IntKind.i64.wrap (10 * n) - (d : Int)) = IntKind.i64.wrap (-((10 * V + d : Nat) : Int)) := by
 rw [hn]
 simp only [qhb]
 omega
theorem qp6 (V : Nat) : IntKind.i64.wrap (0 - IntKind.i64.wrap (-(V : Int))) = IntKind.i64.wrap (V : Int) := by
 simp only [qhb]
 omega
theorem qa0 (x : Int) : -9223372036854775808 ≤ IntKind.i64.wrap x ∧ IntKind.i64.wrap x ≤ 9223372036854775807 := by
 rw [qhb]
 omega
theorem sub8 {c : Nat} (h : 48 ≤ c) (h2 : c < 256) : IntKind.u8.wrap ((c : Int) - 48) = ((c - 48 : Nat) : Int) := by
 simp [IntKind.wrap, IntKind.bits, IntKind.signed]
 omega
def numA (l : qk) : AV := match numZ l with | some v => .tu [Iv v, Bv true] | none => .tu [Iv 0, Bv false]
theorem qry (l : qk) : Pure (numA l) := by
 unfold numA
 split <;> exact ql0 _ _
theorem qag {l : qk} (h : numZ l = none) : numA l = .tu [Iv 0, Bv false] := by unfold numA; rw [h]
theorem qha {l : qk} {v : Int} (h : numZ l = some v) : numA l = .tu [Iv v, Bv true] := by unfold numA; rw [h]
theorem ql4 {l : qk} {v : Int} (h : l = Lib.itoa v) : (v < 0 → (l.getD 0 0).toNat = 45 ∧ l.drop 1 = Lib.decDigits v.natAbs) ∧ (0 ≤ v → (l.getD 0 0).toNat ≠ 45 ∧ l = Lib.decDigits v.toNat) := by
 subst h
 refine ⟨fun h => ?_, fun h => ?_⟩
 ·rw [qcl h]; exact ⟨rfl, rfl⟩
 ·rw [qco h]
  refine ⟨?_, rfl⟩
  have hp := qbk v.toNat
  have hd := wz v.toNat v.toNat (Nat.le_refl _)
  cases hl : Lib.decDigits v.toNat with
  | nil => rw [hl] at hp; simp at hp
  | cons c r =>
   rw [hl] at hd
   have := hd c (by simp)
   simp
   omega
def sgn (l : qk) : Nat := if (l.getD 0 0).toNat = 45 then 1 else 0
theorem qe4 {l : qk} {v : Int} (h : l = Lib.itoa v) : l.drop (sgn l) = Lib.decDigits v.natAbs := by
 obtain ⟨h1, h2⟩ := ql4 h
 unfold sgn
 by_cases hv : v < 0
 ·obtain ⟨a, b⟩ := h1 hv
  rw [if_pos a, b]
 ·obtain ⟨a, b⟩ := h2 (by omega)
  rw [if_neg a, List.drop_zero, show v.natAbs = v.toNat by omega]
  exact b
theorem qig {l : qk} {k : Nat} (hk : k < l.length) (hs : sgn l ≤ k) (hd : ¬ (48 ≤ (l.getD k 0).toNat ∧ (l.getD k 0).toNat ≤ 57)) : numZ l = none := by
 refine qht fun v h1 h2 h => ?_
 have e := qe4 h
 have hm : l.getD k 0 ∈ l.drop (sgn l) := by
  rw [show l.getD k 0 = l[k] by simp [List.getD, hk]]
  rw [List.mem_drop_iff_getElem]
  exact ⟨k - sgn l, by omega, by congr 1; omega⟩
 rw [e] at hm
 exact hd (wz _ _ (Nat.le_refl _) _ hm)
def numW (l : qk) : Int := if (l.getD 0 0).toNat = 45 then IntKind.i64.wrap (-(decV (l.drop 1) : Int)) else IntKind.i64.wrap (decV l : Int)
theorem qvk {l : qk} {v : Int} (h : l = Lib.itoa v) (h1 : -9223372036854775808 ≤ v) (h2 : v ≤ 9223372036854775807) : numW l = v := by
 obtain ⟨g1, g2⟩ := ql4 h
 unfold numW
 by_cases hv : v < 0
 ·obtain ⟨a, b⟩ := g1 hv
  rw [if_pos a, b, qi7 _ _ (Nat.le_refl _), z2 (by omega) (by omega)]
  omega
 ·obtain ⟨a, b⟩ := g2 (by omega)
  rw [if_neg a, b, qi7 _ _ (Nat.le_refl _), z2 (by omega) (by omega)]
  omega
theorem qqb {l : qk} {n : Int} (h : n = numW l) (he : Lib.itoa n = l) : numZ l = some n := by
 have hr : -9223372036854775808 ≤ n ∧ n ≤ 9223372036854775807 := by
  rw [h]; unfold numW; split <;> exact qa0 _
 rw [← he, qln hr.1 hr.2]
theorem qqa {l : qk} {n : Int} (h : n = numW l) (he : ¬ Lib.itoa n = l) : numZ l = none :=
 qht fun v h1 h2 hv => he (by rw [h, qvk hv h1 h2]; exact hv.symm)
theorem qfm {l : qk} {k a : Nat} (h : k < l.length) (ha : a ≤ k) : (l.take (k + 1)).drop a = (l.take k).drop a ++ [l.getD k 0] := by
 rw [qbw h, List.drop_append_of_le_length (by simp; omega)]
theorem qij (l : List UInt8) (st : List AObj) (hl : l.length < 4294967281) : zr E 43 [Sv l] st fun r st' => r = numA l ∧ st' = st := by
 refine z4 (qry l) (zp Tryz.func43 rfl (Nat.le_of_ble_eq_true rfl) ?_)
 by_cases hbad : l.length < 1 ∨ 20 < l.length
 ·have hz : numZ l = none := qht fun v h1 h2 h => by
   have g1 := qvj v
   have g2 := qsv h1 h2
   rw [← h] at g1 g2
   omega
  repeat' (first
   | apply qr
   | apply qe
   | apply qa
   | apply qn
   | apply qf
   | (apply qt; (iterate 3 exact rfl))
   | (apply zh; (iterate 4 exact rfl))
   | (apply ko; (first | assumption | omega))
   | (apply vo; (first | assumption | omega))
   | (apply wc <;> intro h)
   | (apply zk; exact rfl; first | (apply jx; (first | assumption | omega)) | (apply jw; (first | assumption | omega)) | (apply jy; (first | exact rfl | assumption)) | (apply jv; (first | exact rfl | assumption)) | (apply pk_t; (first | exact rfl | assumption)) | (apply pk_f; (first | exact rfl | assumption)))
   | (apply qg; exact rfl; first | (apply zd; (first | assumption | omega)) | (apply zf; (first | assumption | omega)) | (apply ze; (first | exact rfl | assumption)) | (apply zg; (first | exact rfl | assumption)) | (apply cd_n <;> intro h) | (apply cd_t; (first | exact rfl | assumption)) | (apply cd_f; (first | exact rfl | assumption)) | (apply cd_d <;> intro h) | (apply cd_s <;> intro h))
   | (apply j4; (iterate 3 exact rfl))
   | apply q9)
  all_goals first
   | (exfalso; omega)
   | exact qs rfl (ju rfl) ⟨(qag hz).symm, _, rfl⟩
 have hb1 : 1 ≤ l.length := by omega
 have hb2 : l.length ≤ 20 := by omega
 repeat' (first
  | apply qr
  | apply q7
  | apply qe
  | apply qa
  | apply qn
  | apply qf
  | (apply qt; (iterate 3 exact rfl))
  | (apply zh; (iterate 4 exact rfl))
  | (apply ko; (first | assumption | omega))
  | (apply zk; exact rfl; first | (apply jx; (first | assumption | omega)) | (apply jw; (first | assumption | omega)) | (apply jy; (first | exact rfl | assumption)) | (apply jv; (first | exact rfl | assumption)) | (apply pk_t; (first | exact rfl | assumption)) | (apply pk_f; (first | exact rfl | assumption)))
  | (apply qg; exact rfl; first | (apply zd; (first | assumption | omega)) | (apply zf; (first | assumption | omega)) | (apply ze; (first | exact rfl | assumption)) | (apply zg; (first | exact rfl | assumption)) | (apply cd_n <;> intro h) | (apply cd_t; (first | exact rfl | assumption)) | (apply cd_f; (first | exact rfl | assumption)) | (apply cd_d <;> intro h) | (apply cd_s <;> intro h))
  | (apply j4; (iterate 3 exact rfl))
  | (apply wb; (iterate 3 exact rfl); first | assumption | omega | (simp; omega))
  | apply q8)
 ·have h45 : ((l.getD 0 0).toNat : Int) = 45 := by assumption
  have hs : sgn l = 1 := if_pos (by omega)
  refine vy (fun (k : Nat) s => 1 ≤ k ∧ k ≤ l.length ∧ StA [(0, Sv l), (4, Iv 1), (5, Iv (IntKind.i64.wrap (-(decV ((l.take k).drop 1) : Int)))), (6, Iv k)] (st ++ []) [] s) (fun k => l.length - k) 1 ⟨by omega, by omega, vl ⟨rfl, rfl, by simp [List.drop_eq_nil_of_le, decV, IntKind.wrap]; rfl, rfl, trivial⟩⟩ ?_
  rintro k _ ⟨hk1, hk, t, rfl⟩
  generalize hn : IntKind.i64.wrap (-(decV ((l.take k).drop 1) : Int)) = n
  have hc := UInt8.toNat_lt (l.getD k 0)
  have hr : -9223372036854775808 ≤ n ∧ n ≤ 9223372036854775807 := hn ▸ qa0 _
  have hr2 := qa0 (0 - n)
  repeat' (first
   | apply qr
   | apply q7
   | apply qe
   | apply qa
   | apply qn
   | apply qf
   | (apply qt; (iterate 3 exact rfl))
   | (apply kw; (iterate 3 exact rfl))
   | (apply zh; (iterate 4 exact rfl))
   | (apply ko; (first | assumption | omega))
   | (apply vo; (first | assumption | omega))
   | (apply wc <;> intro h)
   | (apply zk; exact rfl; first | (apply jx; (first | assumption | omega)) | (apply jw; (first | assumption | omega)) | (apply jy; (first | exact rfl | assumption)) | (apply jv; (first | exact rfl | assumption)) | (apply pk_t; (first | exact rfl | assumption)) | (apply pk_f; (first | exact rfl | assumption)))
   | (apply qg; exact rfl; first | (apply zd; (first | assumption | omega)) | (apply zf; (first | assumption | omega)) | (apply ze; (first | exact rfl | assumption)) | (apply zg; (first | exact rfl | assumption)) | (apply cd_n <;> intro h) | (apply cd_t; (first | exact rfl | assumption)) | (apply cd_f; (first | exact rfl | assumption)) | (apply cd_d <;> intro h) | (apply cd_s <;> intro h))
   | (apply j4; (iterate 3 exact rfl))
   | (apply jj; exact rfl; exact rfl; exact z2 (by omega) (by omega))
   | (apply wb; (iterate 3 exact rfl); first | assumption | omega | (simp; omega))
   | apply q8
   | apply jp
   | apply q9
   | (apply qnh; (iterate 3 exact rfl))
   | (apply w7; exact rfl; exact rfl; exact sub8 (by omega) (by omega))
   | (apply w7; exact rfl; exact rfl; exact qna _ _ _ hn.symm)
   | (apply qdj; (iterate 3 exact rfl); exact z2 (by omega) (by omega))
   | (apply qi; exact Tryz.call82; exact qdc _ _ (by omega) (by omega)))
  ·exact qs rfl (ju rfl) ⟨(qag (qig (k := k) (by omega) (by omega) (by omega))).symm, _, rfl⟩
  ·exact qs rfl (ju rfl) ⟨(qag (qig (k := k) (by omega) (by omega) (by omega))).symm, _, rfl⟩
  ·refine ⟨k + 1, ⟨by omega, by omega, vl ⟨rfl, rfl, congrArg Iv ?_, rfl, trivial⟩⟩, by omega⟩
   rw [qfm (by omega) hk1, qg2]
  ·have e : k = l.length := by omega
   subst e
   rw [List.take_length] at hn
   have hw : n = numW l := by unfold numW; rw [if_pos (by omega)]; rw [← hn]
   exact qs rfl (ju rfl) ⟨(qag (qqa hw (by assumption))).symm, _, rfl⟩
  ·have e : k = l.length := by omega
   subst e
   rw [List.take_length] at hn
   have hw : n = numW l := by unfold numW; rw [if_pos (by omega)]; rw [← hn]
   exact qs rfl (ju rfl) ⟨(qha (qqb hw (Classical.not_not.1 (by assumption)))).symm, _, rfl⟩
 ·have h45 : ¬ ((l.getD 0 0).toNat : Int) = 45 := by assumption
  have hs : sgn l = 0 := if_neg (by omega)
  refine vy (fun (k : Nat) s => 0 ≤ k ∧ k ≤ l.length ∧ StA [(0, Sv l), (4, Iv 0), (5, Iv (IntKind.i64.wrap (-(decV ((l.take k).drop 0) : Int)))), (6, Iv k)] (st ++ []) [] s) (fun k => l.length - k) 0 ⟨by omega, by omega, vl ⟨rfl, rfl, by simp [List.drop_eq_nil_of_le, decV, IntKind.wrap]; rfl, rfl, trivial⟩⟩ ?_
  rintro k _ ⟨hk1, hk, t, rfl⟩
  generalize hn : IntKind.i64.wrap (-(decV ((l.take k).drop 0) : Int)) = n
  have hc := UInt8.toNat_lt (l.getD k 0)
  have hr : -9223372036854775808 ≤ n ∧ n ≤ 9223372036854775807 := hn ▸ qa0 _
  have hr2 := qa0 (0 - n)
  repeat' (first
   | apply qr
   | apply q7
   | apply qe
   | apply qa
   | apply qn
   | apply qf
   | (apply qt; (iterate 3 exact rfl))
   | (apply kw; (iterate 3 exact rfl))
   | (apply zh; (iterate 4 exact rfl))
   | (apply ko; (first | assumption | omega))
   | (apply vo; (first | assumption | omega))
   | (apply wc <;> intro h)
   | (apply zk; exact rfl; first | (apply jx; (first | assumption | omega)) | (apply jw; (first | assumption | omega)) | (apply jy; (first | exact rfl | assumption)) | (apply jv; (first | exact rfl | assumption)) | (apply pk_t; (first | exact rfl | assumption)) | (apply pk_f; (first | exact rfl | assumption)))
   | (apply qg; exact rfl; first | (apply zd; (first | assumption | omega)) | (apply zf; (first | assumption | omega)) | (apply ze; (first | exact rfl | assumption)) | (apply zg; (first | exact rfl | assumption)) | (apply cd_n <;> intro h) | (apply cd_t; (first | exact rfl | assumption)) | (apply cd_f; (first | exact rfl | assumption)) | (apply cd_d <;> intro h) | (apply cd_s <;> intro h))
   | (apply j4; (iterate 3 exact rfl))
   | (apply jj; exact rfl; exact rfl; exact z2 (by omega) (by omega))
   | (apply wb; (iterate 3 exact rfl); first | assumption | omega | (simp; omega))
   | apply q8
   | apply jp
   | apply q9
   | (apply qnh; (iterate 3 exact rfl))
   | (apply w7; exact rfl; exact rfl; exact sub8 (by omega) (by omega))
   | (apply w7; exact rfl; exact rfl; exact qna _ _ _ hn.symm)
   | (apply qdj; (iterate 3 exact rfl); exact z2 (by omega) (by omega))
   | (apply qm5; exact rfl; exact rfl)
   | (apply qi; exact Tryz.call82; exact qdc _ _ (by omega) (by omega)))
  ·exact qs rfl (ju rfl) ⟨(qag (qig (k := k) (by omega) (by omega) (by omega))).symm, _, rfl⟩
  ·exact qs rfl (ju rfl) ⟨(qag (qig (k := k) (by omega) (by omega) (by omega))).symm, _, rfl⟩
  ·refine ⟨k + 1, ⟨by omega, by omega, vl ⟨rfl, rfl, congrArg Iv ?_, rfl, trivial⟩⟩, by omega⟩
   rw [qfm (by omega) hk1, qg2]
  ·have e : k = l.length := by omega
   subst e
   rw [List.take_length] at hn
   have hw : IntKind.i64.wrap (0 - n) = numW l := by unfold numW; rw [if_neg (by omega)]; rw [← hn, List.drop_zero, qp6]
   exact qs rfl (ju rfl) ⟨(qag (qqa hw (by assumption))).symm, _, rfl⟩
  ·have e : k = l.length := by omega
   subst e
   rw [List.take_length] at hn
   have hw : IntKind.i64.wrap (0 - n) = numW l := by unfold numW; rw [if_neg (by omega)]; rw [← hn, List.drop_zero, qp6]
   exact qs rfl (ju rfl) ⟨(qha (qqb hw (Classical.not_not.1 (by assumption)))).symm, _, rfl⟩
theorem qnr (l : List UInt8) (v : Int) (st : List AObj) (hl : l.length < 4294967281) (h : numZ l = some v) : zr E 43 [Sv l] st fun r st' => r = .tu [Iv v, Bv true] ∧ st' = st := by
 have := qij l st hl
 rw [qha h] at this
 exact this
theorem qn4 (l : List UInt8) (st : List AObj) (hl : l.length < 4294967281) (h : numZ l = none) : zr E 43 [Sv l] st fun r st' => r = .tu [Iv 0, Bv false] ∧ st' = st := by
 have := qij l st hl
 rw [qag h] at this
 exact this
end Go.Proofs.YtefmcijohgpfhaaGreatDoor
set_option linter.unusedVariables false
set_option maxRecDepth 100000
namespace Go.Pl
open Go
def sp : Bool → qk → Bool
 | _, [] => true
 | f, c :: l => (!f || decide (c = 32)) && sp (decide (c = 10)) l
theorem qn3 (n : Nat) : Lib.itoa (n : Int) = Lib.decDigits n := by
 unfold Lib.itoa
 rw [if_neg (by omega)]
 simp
end Go.Pl
set_option maxRecDepth 100000
set_option linter.unusedVariables false
namespace Go.Proofs.YtefmcijohgpfhaaGreatDoor
open Go Go.Pl
theorem qv8 {l : qk} (h1 : 10 ∈ l → (qbd (upto 10 l)).2.2 = false) (h2 : 10 ∉ l → qjd l = false) : qrb l = (3, [], 0) := by
 unfold qrb
 by_cases h : 10 ∈ l
 ·rw [if_pos h, if_neg (by rw [h1 h]; simp)]
 ·rw [if_neg h, if_neg (by rw [h2 h]; simp)]
theorem R2 {l : qk} (hl : l.length ≤ 7) (h : ¬ l <+: y9) : qrb l = (3, [], 0) := by
 refine qv8 (fun h10 => decide_eq_false fun h' => ?_) (fun h10 => ?_)
 ·have := h'.1.length_le
  have := qa7 h10
  have e : y9.length = 7 := rfl
  omega
 ·unfold qjd
  by_cases hb : y9 <+: l
  ·have := hb.eq_of_length_le hl
   exact absurd (this ▸ List.prefix_refl _) h
  ·rw [if_neg hb]; exact decide_eq_false h
theorem qv1 {p : UInt8 → Bool} (s : qk) : s.take (s.takeWhile p).length = s.takeWhile p := by
 induction s with
 | nil => rfl
 | cons b s ih =>
  by_cases h : p b = true
  ·rw [List.takeWhile_cons_of_pos h]; simp [ih]
  ·rw [List.takeWhile_cons_of_neg h]; rfl
theorem qwd {p : UInt8 → Bool} {l m : qk} (hm : m <+: l) (h : ∀ c ∈ m, p c = true) : m.length ≤ (l.takeWhile p).length := by
 obtain ⟨r, rfl⟩ := hm
 rw [List.takeWhile_append_of_pos h]
 simp
end Go.Proofs.YtefmcijohgpfhaaGreatDoor
set_option maxRecDepth 100000
set_option linter.unusedVariables false
namespace Go.Proofs.YtefmcijohgpfhaaGreatDoor
open Go Go.Av Go.RowKit Go.Proofs Go.Pl
structure qu2 (l S : qk) (K n : Nat) : Prop where
 hl : l = y9 ++ S
 hK : (S.takeWhile qj8).length = K
 hD : S.take K = Lib.itoa (n : Int)
 h1 : 1 ≤ n
 h2 : n ≤ 50000
theorem qu2.split {l S : qk} {K n : Nat} (A : qu2 l S K n) (h : K < S.length) : S = Lib.itoa (n : Int) ++ S.getD K 0 :: S.drop (K + 1) ∧ qj8 (S.getD K 0) = false := by
 have e : S = S.take K ++ S.getD K 0 :: S.drop (K + 1) := by
  conv => lhs; rw [← List.take_append_drop K S]
  rw [List.drop_eq_getElem_cons h]
  congr 2
  simp [List.getD, h]
 refine ⟨by rw [← A.hD]; exact e, ?_⟩
 cases hc : qj8 (S.getD K 0) with
 | false => rfl
 | true =>
  have hp : S.take (K + 1) <+: S := List.take_prefix _ _
  have := qwd (p := qj8) hp (fun c hc' => by
   rw [qbw h, List.mem_append, List.mem_singleton] at hc'
   rcases hc' with hc' | rfl
   ·rw [← A.hK, qv1] at hc'
    have ha := List.all_takeWhile (p := qj8) (l := S)
    rw [List.all_eq_true] at ha
    exact ha c hc'
   ·exact hc)
  rw [A.hK] at this
  simp at this
  omega
end Go.Proofs.YtefmcijohgpfhaaGreatDoor
set_option linter.unusedVariables false
namespace Go.Av
open Go Go.RowKit
def StE (L : List (Nat × AV)) (st loc : List AObj) (s : AS) : Prop := ∃ t ext, s = ⟨puts t L, ((st ++ loc) ++ ext) ++ [], []⟩
theorem vm {t : Nat → AV} {L : List (Nat × AV)} {st loc loc' ext new : List AObj} (h : HasL t L) (e : loc' = loc) : StE L st loc ⟨t, ((st ++ loc') ++ ext) ++ new, []⟩ :=
 ⟨t, ext ++ new, by rw [qaa h, e]; simp⟩
theorem we {t : Nat → AV} {L : List (Nat × AV)} {st loc st' : List AObj} (h : HasL t L) (e : st' = st ++ loc) : StE L st loc ⟨t, st', []⟩ :=
 ⟨t, [], by rw [qaa h, e]; simp⟩
theorem kg (st loc ext new : List AObj) : ∃ x, ((st ++ loc) ++ ext) ++ new = st ++ x := ⟨loc ++ ext ++ new, by simp⟩
theorem xw {st loc ext new : List AObj} {k : Nat} {x : AObj} (h : loc[k]? = some x) : (((st ++ loc) ++ ext) ++ new)[st.length + k]? = some x := by
 have hk := lt_of_getElem? h
 rw [List.append_assoc, List.append_assoc, List.getElem?_append_right (Nat.le_add_right _ _), Nat.add_sub_cancel_left, List.getElem?_append_left hk]
 exact h
theorem qbb {st loc ext new : List AObj} {k : Nat} (x : AObj) (hk : k < loc.length) : (((st ++ loc) ++ ext) ++ new).set (st.length + k) x = ((st ++ loc.set k x) ++ ext) ++ new := by
 rw [List.append_assoc, List.append_assoc, List.set_append_right _ _ (Nat.le_add_right _ _), Nat.add_sub_cancel_left, List.set_append_left _ _ hk]
 simp
theorem qev {G : Gh} {sz : Nat} {xs : List AV} {tip : Option Nat} {v : Value} (h : Rel G (.sl sz xs tip) v) : Rel G (.sl sz xs none) v := by
 cases h with
 | sl0 _ _ base cap ht => exact .sl0 sz none base cap (by simp)
 | sl _ _ _ b off cap pub hp hw hlen hr ht hcap => exact .sl sz xs none b off cap pub hp hw hlen hr (fun t ht => by simp at ht) hcap
theorem qex {G : Gh} {sz : Nat} {v : Value} (h : Rel G jm v) : Rel G (.sl sz [] none) v := by
 cases h
 exact .sl0 sz none none 0 (by simp)
section
variable {E : Env} {rd : Option Nat} {N : Nat} {ops : Array Oper} {K : AS → Prop} {s : AS} {rest : List Oper} {d : Option Tmp} {T : TypeId} {p : String} {af : Array Edge}
theorem kq {fn : Func} {r r' : AV} (h : ARes E fn s r) (hw : ∀ (G : Gh) (v : Value), Rel G r v → Rel G r' v) : ARes E fn s r' :=
 ⟨fun B0 w0 G a w hL hI => let ⟨v, h1, h2⟩ := h.run B0 w0 G a w hL hI; ⟨v, h1, hw G v h2⟩⟩
theorem qjs {fn : Func} {t : Tmp} {sz : Nat} {xs : List AV} {tip : Option Nat} (hr : fn.results = #[.tmp t]) (hx : qz fn.ntmps s (.tmp t) = .sl sz xs tip) : ARes E fn s (.sl sz xs none) :=
 kq (zt hr) fun G v h => by rw [hx] at h; exact qev h
theorem xx {x y : Operand} {t u T' : TypeId} {sz bytes k n m : Nat} {xs ys zs : List AV} {tip : Option Nat} {st loc ext new : List AObj} (hs : s.st = ((st ++ loc) ++ ext) ++ new) (hx : qz N s x = .sl sz xs (some (st.length + k))) (hy : qz N s y = .sl sz ys tip) (ho : loc[k]? = some (.tip n sz T')) (hn : xs.length = n)
  (ht : E.P.underlying t = some (.slice T')) (hu : E.P.underlying u = some (.slice T')) (hT : qax E.P T' sz bytes) (hone : wg (flat ys) = true) (hm : ys.length = m) (h63 : n + m ≤ maxLen) (hb : (n + m) * bytes ≤ 140737488355328) (hz : xs ++ ys = zs)
  (h : AOps E rd N ops rest K (AS.put ⟨s.t, ((st ++ loc.set k (.tip (n + m) sz T')) ++ ext) ++ new, s.df⟩ d (.sl sz zs (some (st.length + k))))) : AOps E rd N ops (⟨d, .call ⟨.builtin .append, #[x, y], #[t, u]⟩, T, p, af, none⟩ :: rest) K s := by
 subst hz
 have hk := lt_of_getElem? ho
 exact qpl hx hy (by rw [hs]; exact xw ho) hn ht hu hT hone hm h63 hb (by rw [hs, qbb _ hk]; exact h)
theorem zb {x : Operand} {t : TypeId} {sz : Nat} {agg : Bool} {st loc ext new : List AObj} {k ver off : Nat} {T' : TypeId} {cs : List AV} {r : AV} (hs : s.st = ((st ++ loc) ++ ext) ++ new) (hx : qz N s x = .bx (st.length + k) ver off) (ho : loc[k]? = some (.cells ver T' cs)) (ht : tyOf E.P t = some (sz, agg)) (hr : vq sz agg off cs = some r)
  (h : AOps E rd N ops rest K (s.put d r)) : AOps E rd N ops (⟨d, .load t x, T, p, af, none⟩ :: rest) K s :=
 qb hx (by rw [hs]; exact xw ho) ht hr h
end
end Go.Av
set_option linter.unusedVariables false
namespace Go.Pl
open Go
def z0 (l : qk) : List qk :=
 if h : 10 ∈ l then upto 10 l :: z0 (past 10 l) else [l]
 termination_by l.length
 decreasing_by exact xv (fun e => by rw [e] at h; simp at h)
theorem wp {l : qk} (h : 10 ∈ l) : z0 l = upto 10 l :: z0 (past 10 l) := by rw [z0, dif_pos h]
theorem wn {l : qk} (h : 10 ∉ l) : z0 l = [l] := by rw [z0, dif_neg h]
theorem qp2 : ∀ (n : Nat) (l : qk), l.length ≤ n → Lib.splitK [10] 0 (Lib.count l [10]) l = z0 l
 | n, l, hn => by
  by_cases h : 10 ∈ l
  ·have hi := qj2 10 l h
   have hne : l ≠ [] := fun e => by rw [e] at h; simp at h
   have hlt := xv (c := 10) hne
   rw [wp h, Lib.count_hit (i := (upto 10 l).length) (by simp) hi, Nat.add_comm, Lib.splitK]
   rw [if_neg (by rw [hi]; simp), hi]
   cases n with
   | zero => exact absurd (List.length_eq_zero_iff.1 (by omega)) hne
   | succ n =>
    have := qp2 n (past 10 l) (by omega)
    simp only [Int.toNat_natCast, Nat.add_zero, List.length_cons, List.length_nil, Nat.zero_add, qhc]
    rw [show List.drop ((upto 10 l).length + 1) l = past 10 l from rfl, this]
  ·have hi : Lib.index l [10] = -1 := by
    have := Lib.index_ge l [10]
    have h2 : ¬ 0 ≤ Lib.index l [10] := fun h' => h ((qa4 l 10).1 h')
    omega
   rw [wn h, Lib.count_miss hi]
   rfl
theorem y6 : ∀ (n : Nat) (l : qk), l.length ≤ n → (z0 l).length ≤ l.length + 1
 | n, l, hn => by
  by_cases h : 10 ∈ l
  ·have hne : l ≠ [] := fun e => by rw [e] at h; simp at h
   have hlt := xv (c := 10) hne
   rw [wp h]
   cases n with
   | zero => exact absurd (List.length_eq_zero_iff.1 (by omega)) hne
   | succ n =>
    have := y6 n (past 10 l) (by omega)
    simp only [List.length_cons]
    omega
  ·rw [wn h]; simp
theorem qde : ∀ (n : Nat) (l : qk), l.length ≤ n → ∀ x ∈ z0 l, x.length ≤ l.length ∧ 10 ∉ x
 | n, l, hn, x, hx => by
  by_cases h : 10 ∈ l
  ·have hne : l ≠ [] := fun e => by rw [e] at h; simp at h
   have hlt := xv (c := 10) hne
   rw [wp h, List.mem_cons] at hx
   rcases hx with rfl | hx
   ·exact ⟨wv 10 l, qai 10 l⟩
   ·cases n with
    | zero => exact absurd (List.length_eq_zero_iff.1 (by omega)) hne
    | succ n =>
     have := qde n (past 10 l) (by omega) x hx
     exact ⟨by omega, this.2⟩
  ·rw [wn h, List.mem_singleton] at hx
   subst hx
   exact ⟨Nat.le_refl _, h⟩
end Go.Pl
set_option maxRecDepth 100000
set_option linter.unusedVariables false
namespace Go.Proofs.YtefmcijohgpfhaaGreatDoor
open Go Go.Av Go.RowKit Go.Proofs Go.Pl
theorem qgw {f : FuncId} {st : List AObj} {args : List AV} {vals : Array Value} {xs : List qk} {T : TypeId} (ha : args = vals.toList.map .v) (hne : xs ≠ [])
  (h : ∀ B0 w0 w, E.L B0 w0 → Below B0 w0 w → Calls E.P f vals w fun e w' => e = .returned (.slice (some ⟨w.heap.size, 0, none⟩) xs.length xs.length) ∧ w' = w.alloc (.cells (xs.map fun l => Value.string ⟨l.toArray⟩).toArray T)) :
  zr E f args st fun r st' => r = .sl 1 (xs.map fun l => Sv l) none ∧ st' = st := by
 subst ha
 refine ⟨fun B0 w0 G vs w hL hA hR => ?_⟩
 have hv : vs = vals := by
  have hs : vs.size = vals.size := by have := hR.1; simpa using this.symm
  apply Array.ext hs
  intro i h1 h2
  have := hR.2 i (.v vals[i]) vs[i] (by simp [h2]) (by simp [h1])
  generalize vs[i] = y at this
  cases this
  rfl
 subst hv
 refine (h B0 w0 w hL hA.below).mono ?_
 rintro e w' ⟨rfl, rfl⟩
 obtain ⟨hle, hA'⟩ := hA.newPub T (xs.map fun l => Value.string ⟨l.toArray⟩).toArray (0, 0) (xs.map fun l => Value.string ⟨l.toArray⟩) (fun i y hy => by simpa using hy)
 refine ⟨_, _, _, st, rfl, hle, hA', ?_, rfl, rfl⟩
 have hfl : flat (xs.map fun l => Sv l) = xs.map fun l => Sv l := by
  clear hne h hle hA'
  induction xs with
  | nil => rfl
  | cons a xs ih => rw [List.map_cons, yx, ih]; rfl
 have := Rel.sl (G := G.publish w.heap.size (xs.map fun l => Value.string ⟨l.toArray⟩)) 1 (xs.map fun l => Sv l) none w.heap.size 0 xs.length (xs.map fun l => Value.string ⟨l.toArray⟩) (by simp [Gh.publish]) (fun x hx => by
  simp only [List.mem_map] at hx
  obtain ⟨l, _, rfl⟩ := hx
  rfl) (by rw [hfl]; simp) (fun i x y h1 h2 => by
  rw [hfl, List.getElem?_map] at h1
  rw [Nat.zero_add, List.getElem?_map] at h2
  cases hx : xs[i]? with
  | none => rw [hx] at h1; simp at h1
  | some l =>
   rw [hx] at h1 h2
   simp at h1 h2
   subst h1; subst h2
   exact .v _) (fun t ht => by simp at ht) (by simp)
 simpa using this
theorem qti (l : List UInt8) (st : List AObj) (hl : l.length < 4294967281) : zr E 125 [Sv l, Sv [10]] st fun r st' => r = .sl 1 ((z0 l).map fun x => Sv x) none ∧ st' = st := by
 have hd := Lib.splitB_data ⟨#[10]⟩ 0 (Lib.countB ⟨l.toArray⟩ ⟨#[10]⟩) ⟨l.toArray⟩
 have hs : Lib.splitK [10] 0 (Lib.count l [10]) l = z0 l := qp2 _ l (Nat.le_refl _)
 have hn := Lib.splitB_all ⟨#[10]⟩ (by simp [ByteArray.size]) 0 _ ⟨l.toArray⟩ rfl
 have hd2 : (Lib.splitB ⟨#[10]⟩ 0 (Lib.countB ⟨l.toArray⟩ ⟨#[10]⟩) ⟨l.toArray⟩).map (·.data.toList) = z0 l := hd.trans hs
 have hlen : (z0 l).length = Lib.countB ⟨l.toArray⟩ ⟨#[10]⟩ + 1 := by rw [← hd2, List.length_map, hn]
 refine qgw (T := 9) (vals := #[.string ⟨l.toArray⟩, .string ⟨#[10]⟩]) rfl (fun e => by rw [e] at hlen; simp at hlen) fun _ _ w hL hb => (Tryz.strings_Split_shaped ⟨l.toArray⟩ ⟨#[10]⟩ w (hL w hb).shaped (by simpa [ByteArray.size] using hl) (by simp [ByteArray.size])).mono fun e w' ⟨h1, h2⟩ => ?_
 refine ⟨by rw [h1, hlen], ?_⟩
 rw [h2, ← hd2, List.map_map]
 rfl
end Go.Proofs.YtefmcijohgpfhaaGreatDoor
