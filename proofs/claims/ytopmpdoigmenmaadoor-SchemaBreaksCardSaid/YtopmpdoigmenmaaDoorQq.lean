/- Regions that draw their order: guards, picks, truths, loads, calls of pure arguments. Generic: names no program. -/
import Derived.Test.YtopmpdoigmenmaaDoorAl
set_option linter.unusedVariables false
namespace Go.Av
open Go Go.RowKit
section
variable {E : Env} {N : Nat} {ops : Array Oper} {K : AS → Prop} {s : AS} {rest : List Oper} {d : Option Tmp} {T : TypeId} {p : String} {af : Array Edge}

theorem aq_yield {B0 : Nat} {w0 : World} {G : Gh} {a : Act} {w : World} (hI : Inv B0 w0 N G s a w) {oj : Oper} {j e : Nat} {b : Bool} (hj : ops[j]? = some oj) (hd : oj.dst = some e) (hN : Nat.blt e N = true) (hb : s.t e = .v (.bool b)) : yielded ops a.tmps j = some b := by
  have hd' : e < a.tmps.size := by rw [hI.size]; simpa [Nat.blt_eq] using hN
  have hr := hI.tmps e a.tmps[e] (by simp [hd'])
  have hv : a.tmps[e]? = some (.bool b) := by
    rw [hb] at hr
    have : a.tmps[e] = .bool b := by generalize a.tmps[e] = v at hr; cases hr; rfl
    simp [hd', this]
  simp [yielded, hj, hd, hv]
theorem aq_guard_run {op : Op} {oj : Oper} {j e : Nat} {want b : Bool} (hj : ops[j]? = some oj) (hd : oj.dst = some e) (hN : Nat.blt e N = true) (hb : s.t e = .v (.bool b)) (hw : b = want)
    (h : AQ E N ops (⟨d, op, T, p, af, none⟩ :: rest) K s) : AQ E N ops (⟨d, op, T, p, af, some (j, want)⟩ :: rest) K s := by
  refine ⟨fun B0 w0 G a w hL hI Q hQ => ?_⟩
  have hy := aq_yield hI hj hd hN hb
  have h' := h.run B0 w0 G a w hL hI Q hQ
  unfold wpQuietIn at h' ⊢
  refine ⟨fun _ _ _ _ => trivial, ?_⟩
  have h2 := h'.2
  rw [if_pos (by simp [Region.wanted])] at h2
  rw [if_pos (by simp [Region.wanted, hy, hw])]
  exact h2
theorem aq_guard_skip {op : Op} {oj : Oper} {j e : Nat} {want b : Bool} (hj : ops[j]? = some oj) (hd : oj.dst = some e) (hN : Nat.blt e N = true) (hb : s.t e = .v (.bool b)) (hw : b = !want)
    (h : AQ E N ops rest K (s.put d (.v undef))) : AQ E N ops (⟨d, op, T, p, af, some (j, want)⟩ :: rest) K s := by
  refine ⟨fun B0 w0 G a w hL hI Q hQ => ?_⟩
  have hy := aq_yield hI hj hd hN hb
  unfold wpQuietIn
  refine ⟨fun _ _ _ _ => trivial, ?_⟩
  rw [if_neg (by simp [Region.wanted, hy, hw])]
  refine h.run B0 w0 G _ w hL (hI.put (.refl G) hI.agree d (.v _)) Q fun s' a' hI' hst hK => hQ s' a' hI' ?_ hK
  rw [hst]
  cases d <;> rfl
theorem aq_pick_t {c x y : Operand} {b : Bool} (hc : aeval N s c = .v (.bool b)) (hb : b = true) (h : AQ E N ops rest K (s.put d (aeval N s x))) : AQ E N ops (⟨d, .pick c x y, T, p, af, none⟩ :: rest) K s :=
  aq_op rfl nofun fun _ _ G a w _ hI => ⟨a.eval x, aeval N s x, fun w' _ => by
    have := hI.evalv hc
    have hx : a.eval x = a.eval x := rfl
    subst hb
    generalize a.eval = ρ at this
    simp [execOp, this, asBool], hI.eval x, h⟩
theorem aq_pick_f {c x y : Operand} {b : Bool} (hc : aeval N s c = .v (.bool b)) (hb : b = false) (h : AQ E N ops rest K (s.put d (aeval N s y))) : AQ E N ops (⟨d, .pick c x y, T, p, af, none⟩ :: rest) K s :=
  aq_op rfl nofun fun _ _ G a w _ hI => ⟨a.eval y, aeval N s y, fun w' _ => by
    have := hI.evalv hc
    subst hb
    generalize a.eval = ρ at this
    simp [execOp, this, asBool], hI.eval y, h⟩
theorem aq_eqBS {x y : Operand} {t t' : TypeId} {m : Bool} (hx : aeval N s x = Bv m) (hy : aeval N s y = Bv m) (hu : E.P.underlying t = some .bool)
    (h : AQ E N ops rest K (s.put d (Bv true))) : AQ E N ops (⟨d, .binOp .eql t x y t', T, p, af, none⟩ :: rest) K s :=
  aq_scalar _ rfl nofun (fun a w he => by
    have hq : ∀ d : Nat, (Op.equalIn (d + 1) t (.bool m) (.bool m)).run E.P w = .ok true w := fun d => by simp [Op.equalIn, run_underlying hu]
    simp only [execOp, he _ _ hx, he _ _ hy, eqGuard_at_bool, binOp]
    simp [Op.equal, Op.maxDepth, hq 9999]) h
theorem aq_neBS {x y : Operand} {t t' : TypeId} {m : Bool} (hx : aeval N s x = Bv m) (hy : aeval N s y = Bv m) (hu : E.P.underlying t = some .bool)
    (h : AQ E N ops rest K (s.put d (Bv false))) : AQ E N ops (⟨d, .binOp .neq t x y t', T, p, af, none⟩ :: rest) K s :=
  aq_scalar _ rfl nofun (fun a w he => by
    have hq : ∀ d : Nat, (Op.equalIn (d + 1) t (.bool m) (.bool m)).run E.P w = .ok true w := fun d => by simp [Op.equalIn, run_underlying hu]
    simp only [execOp, he _ _ hx, he _ _ hy, eqGuard_at_bool, binOp]
    simp [Op.equal, Op.maxDepth, hq 9999]) h
theorem aq_load_bx {x : Operand} {t : TypeId} {sz : Nat} {agg : Bool} {o ver off : Nat} {T' : TypeId} {cs : List AV} {r : AV} (hx : aeval N s x = .bx o ver off) (ho : s.st[o]? = some (.cells ver T' cs)) (ht : tyOf E.P t = some (sz, agg)) (hr : aloadC sz agg off cs = some r)
    (h : AQ E N ops rest K (s.put d r)) : AQ E N ops (⟨d, .load t x, T, p, af, none⟩ :: rest) K s := by
  refine aq_op rfl nofun fun B0 w0 G a w _ hI => ?_
  have he := hI.eval_of hx
  generalize hv : a.eval x = v at he
  cases he with
  | bx _ _ _ b hn hv' hb =>
    obtain ⟨_, h1, h2, h3, c, h4, h5, h6⟩ := hI.agree.ob o _ ho
    have hb := hb h1
    subst hb
    have hlt : (G.ob o).blk < w.heap.size := by
      rcases Nat.lt_or_ge (G.ob o).blk w.heap.size with h' | h'
      · exact h'
      · rw [Array.getElem?_eq_none h'] at h4; simp at h4
    -- the value is read out of the cells, whatever is drawn behind them
    have key : ∀ w', Below w.heap.size w w' → ∃ v, (loadVar t ⟨(G.ob o).blk, off, none⟩).run E.P w' = .ok v w' ∧ Rel G r v := fun w' hw' => by
      have h4' : w'.heap[(G.ob o).blk]? = some (.cells c T' (0, 0)) := by rw [hw'.block _ hlt]; exact h4
      exact run_loadVar_of (w := w') (G := G) (b := (G.ob o).blk) (off := off) (off' := off) ht (fun i x hx hi => by
        obtain ⟨y, hy⟩ := get_of_size hx (Nat.le_of_eq h5)
        refine ⟨y, ?_, h6 i x y hx hy⟩
        simp [World.cell?, h4', show off + (i - off) = i by omega, hy]) hr
    have hsame : ∀ w', Below w.heap.size w w' → ∀ v, (loadVar t ⟨(G.ob o).blk, off, none⟩).run E.P w = .ok v w → (loadVar t ⟨(G.ob o).blk, off, none⟩).run E.P w' = .ok v w' := fun w' hw' v hr1 => by
      obtain ⟨i1, i2⟩ := tyOf_info ht w
      obtain ⟨j1, j2⟩ := tyOf_info ht w'
      have hc : ∀ k, w'.cell? ⟨(G.ob o).blk, k, none⟩ = w.cell? ⟨(G.ob o).blk, k, none⟩ := fun k => by simp [World.cell?, hw'.block _ hlt]
      obtain ⟨v', h1', _⟩ := key w' hw'
      rw [h1']
      congr 1
      cases agg with
      | false =>
        simp only [aloadC, cond_false] at hr
        obtain ⟨y, hy⟩ := get_of_size hr (Nat.le_of_eq h5)
        have e1 : w.cell? ⟨(G.ob o).blk, off, none⟩ = some y := by simp [World.cell?, h4, hy]
        have e2 : w'.cell? ⟨(G.ob o).blk, off, none⟩ = some y := by rw [hc, e1]
        simp [loadVar, i2, run_load, e1] at hr1
        simp [loadVar, j2, run_load, e2] at h1'
        rw [← h1', hr1]
      | true =>
        simp only [aloadC, cond_true] at hr
        cases hb2 : Nat.ble (off + sz) cs.length with
        | false => rw [hb2] at hr; simp at hr
        | true =>
          have hle : off + sz ≤ cs.length := Nat.le_of_ble_eq_true hb2
          have e1 : ∀ j, j < sz → w.cell? ⟨(G.ob o).blk, off + j, none⟩ = some (c.getD (off + j) undef) := fun j hj => by
            have : off + j < c.size := by omega
            simp [World.cell?, h4, this]
          have e2 : ∀ j, j < sz → w'.cell? ⟨(G.ob o).blk, off + j, none⟩ = some (c.getD (off + j) undef) := fun j hj => by rw [hc, e1 j hj]
          have l1 := run_loadCells (P := E.P) (w := w) ⟨(G.ob o).blk, off, none⟩ sz (fun j => c.getD (off + j) undef) (fun j hj => by rw [Addr.add_lit]; exact e1 j hj)
          have l2 := run_loadCells (P := E.P) (w := w') ⟨(G.ob o).blk, off, none⟩ sz (fun j => c.getD (off + j) undef) (fun j hj => by rw [Addr.add_lit]; exact e2 j hj)
          simp [loadVar, i1, i2, l1] at hr1
          simp [loadVar, j1, j2, l2] at h1'
          rw [← h1', hr1]
    obtain ⟨v, hrun, hR⟩ := key w (Below.refl _ _)
    exact ⟨v, r, fun w' hw' => by simp only [execOp, hv, Instr.loadAt, Instr.sureAddr]; simp [hsame w' hw' v hrun], hR, h⟩
/-- A callee whose arguments hang on unwritten memory alone, and whose answer is sure. -/
theorem aq_callP {f : FuncId} {xs : Array Operand} {ts : Array TypeId} {args : List AV} {r : AV} {v : Value} (hok : EnvOk E) (hrun : ∀ vs w, (callFunc f vs).run E.P w = .ok (.enter f vs) w)
    (hxs : xs.toList.map (aeval N s) = args) (hp : ∀ x ∈ args, Pure x) (hs : Sure r v) (hpr : ∀ G, Rel G r v) (hc : ACall E f args [] fun a st1 => a = r ∧ st1 = [])
    (h : AQ E N ops rest K (s.put d r)) : AQ E N ops (⟨d, .call ⟨.value (.func f), xs, ts⟩, T, p, af, none⟩ :: rest) K s := by
  refine ⟨fun B0 w0 G a w hL hI Q hQ => ?_⟩
  refine ⟨fun _ _ _ _ => trivial, ?_⟩
  simp only [Region.wanted]
  refine ⟨v, fun w' hw' => ?_, ?_⟩
  · have hr : (execOp a.eval ⟨d, .call ⟨.value (.func f), xs, ts⟩, T, p, af, none⟩).run E.P w' = .ok (.enter f (xs.map a.eval)) w' := by
      have he : a.eval (.func f) = .func (.func f) #[] #[] := rfl
      generalize a.eval = ρ at he
      simp [execOp, resolve, Deferred.ofValue, he, invoke, hrun]
    have hrl := relL_map hI xs
    rw [hxs] at hrl
    unfold Oper.quietAtIn
    rw [hr]
    refine ⟨rfl, fun h => by simp [fw, Fence.wide] at h, callsIn_fw ?_⟩
    have hb : Below B0 w0 w' := hI.agree.below.trans (hw'.mono hI.agree.hB)
    have hB : B0 ≤ w'.heap.size := Nat.le_trans hI.agree.hB hw'.size
    have hA' := hI.agree.fresh hw'
    refine (hc.run w'.heap.size w' ⟨G.pub, G.ob, 0⟩ (xs.map a.eval) w' (hok B0 w0 w' hL hb hB) ⟨Below.refl _ _, Nat.le_refl _, rfl, hA'.pub, nofun, nofun⟩ ⟨hrl.1, fun i x y hx hy => ?_⟩).mono ?_
    · exact hp x (List.mem_of_getElem? hx) G _ y (fun b vs hb => ⟨[], by simpa using hb⟩) (hrl.2 i x y hx hy)
    · rintro e w'' ⟨u, G', r', st', rfl, hG, hA, hR, rfl, rfl⟩
      rw [hs G' u hR]
      exact ⟨rfl, hw'.trans (hA.below.mono hw'.size)⟩
  · refine h.run B0 w0 G _ w hL (hI.put (.refl G) hI.agree d (hpr G)) Q fun s' a' hI' hst hK => hQ s' a' hI' ?_ hK
    rw [hst]
    cases d <;> rfl
end
end Go.Av
