/- Regions that draw their order: one walk in the order of the text serves every order. Generic: names no program. -/
import Derived.Test.YtopmpdoigmenmaaDoorAg
import Derived.Sort.QuietThIn
set_option linter.unusedVariables false
namespace Go.Av
open Go Go.RowKit

structure AQ (E : Env) (N : Nat) (ops : Array Oper) (l : List Oper) (K : AS → Prop) (s : AS) : Prop where
  run : ∀ (B0 : Nat) (w0 : World) (G : Gh) (a : Act) (w : World), E.L B0 w0 → Inv B0 w0 N G s a w → ∀ Q : Act → Prop,
    (∀ (s' : AS) (a' : Act), Inv B0 w0 N G s' a' w → s'.st = s.st → K s' → Q a') → wpQuietIn (fw none) 0 E.P ops (fun w' => Below w.heap.size w w') Q l a

section
variable {E : Env} {N : Nat} {ops : Array Oper} {K : AS → Prop} {s : AS} {rest : List Oper} {d : Option Tmp} {T : TypeId} {p : String} {af : Array Edge}

theorem aq_nil (h : K s) : AQ E N ops [] K s := ⟨fun _ _ _ _ _ _ hI _ hQ => hQ s _ hI rfl h⟩

theorem awp_draw {id : Nat} {l : List Oper} {Q : Exit → AS → Prop} (hm : E.P.follows .mixedOrders = true) (hB : Region.lexB .any l.toArray = true) (h : AQ E N l.toArray l (Q .normal) s) : AWp E none N (.region id l.toArray true) Q s := by
  refine ⟨fun B0 w0 G a w hL hI => wpIn_region_quiet (C := fun w' => Below w.heap.size w w') rfl hm hB ⟨rfl, rfl, rfl, Nat.le_refl _, fun _ _ => rfl⟩ ?_⟩
  exact h.run B0 w0 G a w hL hI _ fun s' a' hI' hst hk w' hw' => ⟨G, s', .refl G, ⟨hI'.agree.fresh hw', hI'.defers, hI'.size, hI'.tmps⟩, hk⟩

theorem aq_op {o : Oper} (hg : o.guard = none) (hnd : ∀ c, o.op ≠ .defer c)
    (h : ∀ (B0 : Nat) (w0 : World) (G : Gh) (a : Act) (w : World), E.L B0 w0 → Inv B0 w0 N G s a w → ∃ (v : Value) (r : AV), (∀ w', Below w.heap.size w w' → (execOp a.eval o).run E.P w' = .ok (.value v) w') ∧ Rel G r v ∧ AQ E N ops rest K (s.put o.dst r)) : AQ E N ops (o :: rest) K s := by
  refine ⟨fun B0 w0 G a w hL hI Q hQ => ?_⟩
  obtain ⟨v, r, hr, hR, hk⟩ := h B0 w0 G a w hL hI
  refine ⟨fun _ _ _ _ => trivial, ?_⟩
  simp only [Region.wanted, hg]
  refine ⟨v, fun w' hw' => ?_, ?_⟩
  · unfold Oper.quietAtIn
    rw [hr w' hw']
    exact ⟨rfl, rfl⟩
  · refine hk.run B0 w0 G _ w hL (hI.put (.refl G) hI.agree o.dst hR) Q fun s' a' hI' hst hK => hQ s' a' hI' ?_ hK
    rw [hst]
    cases o.dst <;> rfl

theorem aq_scalar {op : Op} {g : Option (Nat × Bool)} (r : Value) (hg : g = none) (hnd : ∀ c, op ≠ .defer c) (hr : ∀ (ρ : Operand → Value) (w : World), (∀ x v, aeval N s x = .v v → ρ x = v) → (execOp ρ ⟨d, op, T, p, af, g⟩).run E.P w = .ok (.value r) w)
    (h : AQ E N ops rest K (s.put d (.v r))) : AQ E N ops (⟨d, op, T, p, af, g⟩ :: rest) K s :=
  aq_op hg hnd fun _ _ G a w _ hI => ⟨r, .v r, fun w' _ => hr a.eval w' (fun _ _ hx => hI.evalv hx), .v r, h⟩

theorem aq_assign {x : Operand} (h : AQ E N ops rest K (s.put d (aeval N s x))) : AQ E N ops (⟨d, .assign x, T, p, af, none⟩ :: rest) K s :=
  aq_op rfl nofun fun _ _ G a w _ hI => ⟨a.eval x, aeval N s x, fun w' _ => by simp [execOp], hI.eval x, h⟩
theorem aq_move {x : Operand} (h : AQ E N ops rest K (s.put d (aeval N s x))) : AQ E N ops (⟨d, .move x, T, p, af, none⟩ :: rest) K s :=
  aq_op rfl nofun fun _ _ G a w _ hI => ⟨a.eval x, aeval N s x, fun w' _ => by simp [execOp], hI.eval x, h⟩
theorem aq_add {x y : Operand} {t t' : TypeId} {k : IntKind} {m n r : Int} (hx : aeval N s x = .v (.int k m)) (hy : aeval N s y = .v (.int k n)) (hr : k.wrap (m + n) = r)
    (h : AQ E N ops rest K (s.put d (.v (.int k r)))) : AQ E N ops (⟨d, .binOp .add t x y t', T, p, af, none⟩ :: rest) K s :=
  aq_scalar _ rfl nofun (fun a w he => by rw [← hr]; simp [execOp, he _ _ hx, he _ _ hy, eqGuard_at_int, binOp, Op.intArith]) h
theorem aq_and {x y : Operand} {t t' : TypeId} {k : IntKind} {m n r : Int} (hx : aeval N s x = .v (.int k m)) (hy : aeval N s y = .v (.int k n)) (hr : bitOp .and k m n = r)
    (h : AQ E N ops rest K (s.put d (.v (.int k r)))) : AQ E N ops (⟨d, .binOp .and t x y t', T, p, af, none⟩ :: rest) K s :=
  aq_scalar _ rfl nofun (fun a w he => by rw [← hr]; simp [execOp, he _ _ hx, he _ _ hy, eqGuard_at_int, binOp_and, Op.intBits, bitOp]) h
theorem aq_lenS {x : Operand} {ts : Array TypeId} {t0 : TypeId} {m : List UInt8} (hx : aeval N s x = Sv m) (ht : ts[0]? = some t0) (hu : E.P.underlying t0 = some .string)
    (h : AQ E N ops rest K (s.put d (Iv m.length))) : AQ E N ops (⟨d, .call ⟨.builtin .len, #[x], ts⟩, T, p, af, none⟩ :: rest) K s :=
  aq_scalar _ rfl nofun (fun ρ w he => by simp [execOp, resolve, invoke, builtin, Builtin.len_, he _ _ hx, ht, run_underlying hu, goInt, size_mk]) h

theorem aq_slice {x : Operand} {t : TypeId} {lo hi : Option Operand} {l : List UInt8} {i j : Int} (hx : aeval N s x = Sv l) (hu : E.P.underlying t = some .string)
    (hlo : match lo with | none => i = 0 | some y => ∃ k, aeval N s y = .v (.int k i)) (hhi : match hi with | none => j = l.length | some y => ∃ k, aeval N s y = .v (.int k j)) (h0 : 0 ≤ i) (h1 : i ≤ j) (h2 : j ≤ l.length)
    (h : AQ E N ops rest K (s.put d (Sv ((l.take j.toNat).drop i.toNat)))) : AQ E N ops (⟨d, .slice t x lo hi none, T, p, af, none⟩ :: rest) K s :=
  aq_scalar _ rfl nofun (fun ρ w he => by
    have e0 : 0 ≤ j := Int.le_trans h0 h1
    cases lo with
    | none =>
      simp only at hlo
      subst hlo
      cases hi with
      | none =>
        simp only at hhi
        subst hhi
        simp [execOp, he _ _ hx, Instr.sliceAt, Instr.slice, run_underlying hu, Instr.sliceBounds]
      | some y =>
        obtain ⟨k, hy⟩ := hhi
        simp [execOp, he _ _ hx, he _ _ hy, Instr.sliceAt, Instr.slice, run_underlying hu, Instr.sliceBounds, Instr.sliceBound, asIntOf, size_mk, e0, h2, extract_mk]
    | some z =>
      obtain ⟨k', hz⟩ := hlo
      cases hi with
      | none =>
        simp only at hhi
        subst hhi
        simp [execOp, he _ _ hx, he _ _ hz, Instr.sliceAt, Instr.slice, run_underlying hu, Instr.sliceBounds, Instr.sliceBound, asIntOf, size_mk, h0, h1, extract_mk]
      | some y =>
        obtain ⟨k, hy⟩ := hhi
        simp [execOp, he _ _ hx, he _ _ hy, he _ _ hz, Instr.sliceAt, Instr.slice, run_underlying hu, Instr.sliceBounds, Instr.sliceBound, asIntOf, size_mk, h0, e0, h2, extract_mk]
        intro hh
        omega) h
theorem aq_upto {x z : Operand} {t : TypeId} {k : IntKind} {l : List UInt8} {j : Nat} (hx : aeval N s x = Sv l) (hz : aeval N s z = .v (.int k (j : Int))) (hu : E.P.underlying t = some .string) (h2 : j ≤ l.length)
    (h : AQ E N ops rest K (s.put d (Sv (l.take j)))) : AQ E N ops (⟨d, .slice t x none (some z) none, T, p, af, none⟩ :: rest) K s :=
  aq_slice (i := 0) (j := j) hx hu rfl ⟨_, hz⟩ (by omega) (by omega) (by omega) (by simpa using h)
theorem aq_from {x z : Operand} {t : TypeId} {k : IntKind} {l : List UInt8} {i : Nat} (hx : aeval N s x = Sv l) (hz : aeval N s z = .v (.int k (i : Int))) (hu : E.P.underlying t = some .string) (h2 : i ≤ l.length)
    (h : AQ E N ops rest K (s.put d (Sv (l.drop i)))) : AQ E N ops (⟨d, .slice t x (some z) none none, T, p, af, none⟩ :: rest) K s :=
  aq_slice (i := i) (j := l.length) hx hu ⟨_, hz⟩ rfl (by omega) (by omega) (by omega) (by simpa using h)

theorem aq_extract {x : Operand} {i : Nat} {xs : List AV} {r : AV} (hx : aeval N s x = .tu xs) (hr : xs[i]? = some r)
    (h : AQ E N ops rest K (s.put d r)) : AQ E N ops (⟨d, .extract x i, T, p, af, none⟩ :: rest) K s := by
  refine aq_op rfl nofun fun B0 w0 G a w _ hI => ?_
  have he := hI.eval_of hx
  generalize hv : a.eval x = v at he
  cases he with
  | tu _ vs hl h' =>
    have hi : i < vs.size := by rw [← hl]; exact lt_of_getElem? hr
    refine ⟨vs[i], r, fun w' _ => ?_, h' i r vs[i] hr (by simp [hi]), h⟩
    generalize a.eval = ρ at hv
    simp [execOp, hv, Instr.extract, hi]

/-- A value that reads in one way alone. -/
def Sure (r : AV) (v : Value) : Prop := ∀ (G : Gh) (u : Value), Rel G r u → u = v
theorem sure_v (x : Value) : Sure (.v x) x := fun _ _ h => by cases h; rfl
theorem sure_tu {cs : List AV} {vs : List Value} (hl : cs.length = vs.length) (h : ∀ (i : Nat) (x : AV) (y : Value), cs[i]? = some x → vs[i]? = some y → Sure x y) : Sure (.tu cs) (.tuple vs.toArray) := fun G u hu => by
  cases hu with
  | tu _ us hl' h' =>
    congr 1
    apply Array.ext
    · simp; omega
    · intro i h1 h2
      have hi : i < cs.length := by omega
      have h3 : i < vs.length := by omega
      have := h i cs[i] vs[i] (by simp) (by simp) G us[i] (h' i cs[i] us[i] (by simp) (by simp [h1]))
      simpa using this
theorem sure_tu3 {x y z : Value} : Sure (.tu [.v x, .v y, .v z]) (.tuple #[x, y, z]) :=
  sure_tu (vs := [x, y, z]) rfl fun i a b ha hb => by
    match i with
    | 0 => simp at ha hb; subst ha; subst hb; exact sure_v _
    | 1 => simp at ha hb; subst ha; subst hb; exact sure_v _
    | 2 => simp at ha hb; subst ha; subst hb; exact sure_v _
    | i + 3 => simp at ha

/-- What is known of the variables outlasts the calls. -/
def EnvOk (E : Env) : Prop := ∀ (B0 : Nat) (w0 w : World), E.L B0 w0 → Below B0 w0 w → B0 ≤ w.heap.size → E.L w.heap.size w

/-- A callee of plain values, whose answer is sure. -/
theorem aq_call {f : FuncId} {xs : Array Operand} {ts : Array TypeId} {vals : List Value} {r : AV} {v : Value} (hok : EnvOk E) (hrun : ∀ vs w, (callFunc f vs).run E.P w = .ok (.enter f vs) w)
    (hxs : xs.toList.map (aeval N s) = vals.map .v) (hs : Sure r v) (hpr : ∀ G, Rel G r v) (hc : ACall E f (vals.map .v) [] fun a st1 => a = r ∧ st1 = [])
    (h : AQ E N ops rest K (s.put d r)) : AQ E N ops (⟨d, .call ⟨.value (.func f), xs, ts⟩, T, p, af, none⟩ :: rest) K s := by
  refine ⟨fun B0 w0 G a w hL hI Q hQ => ?_⟩
  refine ⟨fun _ _ _ _ => trivial, ?_⟩
  simp only [Region.wanted]
  have hev : xs.map a.eval = vals.toArray := by
    apply Array.ext'
    simp only [Array.toList_map]
    have hl : xs.toList.length = vals.length := by have := congrArg List.length hxs; simpa using this
    apply List.ext_getElem (by simpa using hl)
    intro i h1 h2
    have h3 : i < xs.toList.length := by simpa using h1
    have h4 : (xs.toList.map (aeval N s))[i]? = (vals.map AV.v)[i]? := by rw [hxs]
    simp only [List.getElem?_map, List.getElem?_eq_getElem h3, List.getElem?_eq_getElem h2, Option.map_some, Option.some.injEq] at h4
    simpa using hI.evalv h4
  refine ⟨v, fun w' hw' => ?_, ?_⟩
  · have hr : (execOp a.eval ⟨d, .call ⟨.value (.func f), xs, ts⟩, T, p, af, none⟩).run E.P w' = .ok (.enter f vals.toArray) w' := by
      have he : a.eval (.func f) = .func (.func f) #[] #[] := rfl
      rw [← hev]
      generalize a.eval = ρ at he
      simp [execOp, resolve, Deferred.ofValue, he, invoke, hrun]
    unfold Oper.quietAtIn
    rw [hr]
    refine ⟨rfl, fun h => by simp [fw, Fence.wide] at h, callsIn_fw ?_⟩
    have hb : Below B0 w0 w' := hI.agree.below.trans (hw'.mono hI.agree.hB)
    have hB : B0 ≤ w'.heap.size := Nat.le_trans hI.agree.hB hw'.size
    refine (hc.run w'.heap.size w' ⟨fun _ => none, G.ob, 0⟩ vals.toArray w' (hok B0 w0 w' hL hb hB) ⟨Below.refl _ _, Nat.le_refl _, rfl, nofun, nofun, nofun⟩ ⟨by simp, fun i x y hx hy => ?_⟩).mono ?_
    · simp only [List.getElem?_map] at hx
      simp only [List.getElem?_toArray] at hy
      rw [hy] at hx
      simp at hx
      subst hx
      exact .v _
    · rintro e w'' ⟨u, G', r', st', rfl, hG, hA, hR, rfl, rfl⟩
      rw [hs G' u hR]
      exact ⟨rfl, hw'.trans (hA.below.mono hw'.size)⟩
  · refine h.run B0 w0 G _ w hL (hI.put (.refl G) hI.agree d (hpr G)) Q fun s' a' hI' hst hK => hQ s' a' hI' ?_ hK
    rw [hst]
    cases d <;> rfl
end
end Go.Av
