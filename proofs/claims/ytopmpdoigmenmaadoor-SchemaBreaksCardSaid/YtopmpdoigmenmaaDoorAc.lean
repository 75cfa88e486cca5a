/- Entering a function, its results, calls; loads, stores, new variables. Generic: names no program. -/
import Derived.Test.YtopmpdoigmenmaaDoorAm
set_option linter.unusedVariables false
namespace Go.Av
open Go Go.RowKit

def argT (args : List AV) : Nat → AV := fun i => args.getD i (.v undef)

section
variable {E : Env}

/-- What a function's end owes. -/
structure ARet (E : Env) (fn : Func) (R : AV → List AObj → Prop) (s : AS) : Prop where
  run : ∀ (B0 : Nat) (w0 : World) (G : Gh) (a : Act) (w : World), E.L B0 w0 → Inv B0 w0 fn.ntmps G s a w → ∀ R2 : Ending → World → Prop,
    (∀ (v : Value) (G' : Gh) (r : AV) (st' : List AObj) (w' : World), G.le G' → Agree B0 w0 G' st' w' → Rel G' r v → R r st' → R2 (.returned v) w') →
    LeavesInM (fw none) 0 E.P fn a.tmps R2 a.defers .returning w

/-- What a function's results read as. -/
structure ARes (E : Env) (fn : Func) (s : AS) (r : AV) : Prop where
  run : ∀ (B0 : Nat) (w0 : World) (G : Gh) (a : Act) (w : World), E.L B0 w0 → Inv B0 w0 fn.ntmps G s a w → ∃ v, (results fn a.tmps).run E.P w = .ok v w ∧ Rel G r v

@[reducible] def retA (E : Env) (fn : Func) (R : AV → List AObj → Prop) : Exit → AS → Prop
  | .normal, s => ARet E fn R s
  | .ret, s => ARet E fn R s
  | _, _ => False

theorem acall_of_awp {f : FuncId} {fn : Func} {c : Code} {args : List AV} {st : List AObj} {R : AV → List AObj → Prop} (hf : E.P.funcs[f]? = some fn) (hb : fn.body = some c) (hn : args.length ≤ fn.ntmps)
    (h : AWp E none fn.ntmps c (retA E fn R) ⟨argT args, st ++ [], []⟩) : ACall E f args st R := by
  refine ⟨fun B0 w0 G vals w hL hA hR => ?_⟩
  refine callsIn_wide (n := 0).1 (callsIn_of_wp_marks hf hb trivial (wpIn_mono (h.run B0 w0 G _ w hL ⟨by simpa using hA, ⟨rfl, nofun⟩, ?_, fun i y hy => ?_⟩) ?_))
  · simp; have := hR.1; omega
  · simp only at hy
    simp only [argT]
    rw [Array.getElem?_append] at hy
    by_cases hi : i < vals.size
    · rw [if_pos hi] at hy
      have hi' : i < args.length := by rw [hR.1]; exact hi
      have hx : args[i]? = some args[i] := List.getElem?_eq_getElem hi'
      rw [List.getD, hx]
      exact hR.2 i _ y hx hy
    · rw [if_neg hi] at hy
      have hi' : args.length ≤ i := by rw [hR.1]; omega
      rw [List.getD, List.getElem?_eq_none hi']
      rw [Array.getElem?_replicate] at hy
      split at hy
      · simp only [Option.some.injEq] at hy; subst hy; exact .v _
      · simp at hy
  · rintro e a' w' ⟨G', s', hG, hI', hQ⟩
    cases e with
    | normal => exact hQ.run B0 w0 G' a' w' hL hI' _ fun v G2 r st' _ h1 h2 h3 h4 => ⟨v, G2, r, st', rfl, hG.trans h1, h2, h3, h4⟩
    | ret => exact hQ.run B0 w0 G' a' w' hL hI' _ fun v G2 r st' _ h1 h2 h3 h4 => ⟨v, G2, r, st', rfl, hG.trans h1, h2, h3, h4⟩
    | _ => exact hQ.elim

theorem Inv.rd {B0 : Nat} {w0 : World} {N : Nat} {G : Gh} {s : AS} {a : Act} {w : World} (h : Inv B0 w0 N G s a w) (t : Tmp) : Rel G (aeval N s (.tmp t)) (a.tmps.getD t undef) := h.eval (.tmp t)

theorem aret_plain {fn : Func} {R : AV → List AObj → Prop} {s : AS} {r : AV} (hd : s.df = []) (hr : ARes E fn s r) (h : R r s.st) : ARet E fn R s := by
  refine ⟨fun B0 w0 G a w hL hI R2 hR => ?_⟩
  obtain ⟨v, hrun, hrel⟩ := hr.run B0 w0 G a w hL hI
  have e : a.defers = [] := by rw [hI.defers.1, hd]; rfl
  rw [e]
  exact ⟨v, hrun, hR v G r s.st w (.refl G) hI.agree hrel h⟩

/-- The block for the rounds' deferred calls is taken. -/
theorem Agree.takeDfr {B0 : Nat} {w0 : World} {G : Gh} {st : List AObj} {w : World} {o : Nat} (h : Agree B0 w0 G st w) (ho : st[o]? = some .dfr) :
    ∃ w', (Instr.takeDeferred (G.ob o).blk).run E.P w = .ok [] w' ∧ Agree B0 w0 G (st.set o .dead) w' := by
  obtain ⟨h1, h2, h3⟩ := h.ob o _ ho
  refine ⟨{ w with heap := w.heap.setIfInBounds (G.ob o).blk (.deferred none) }, by simp [Instr.takeDeferred, getObj, setObj, Sem.run, h3], ?_⟩
  have hother : ∀ k, k ≠ (G.ob o).blk → ({ w with heap := w.heap.setIfInBounds (G.ob o).blk (.deferred none) } : World).heap[k]? = w.heap[k]? := fun k hk => by
    simp only [Array.getElem?_setIfInBounds]
    rw [if_neg (Ne.symm hk)]
  have hset : ∀ (k : Nat) (x : AObj), (st.set o .dead)[k]? = some x → (x = .dead) ∨ (k ≠ o ∧ st[k]? = some x) := fun k x hx => by
    by_cases e : k = o
    · subst e
      rw [List.getElem?_set] at hx
      rw [if_pos rfl] at hx
      split at hx
      · exact .inl (by simpa using hx.symm)
      · simp at hx
    · rw [List.getElem?_set_ne (Ne.symm e)] at hx
      exact .inr ⟨e, hx⟩
  refine ⟨h.below.trans ⟨rfl, rfl, rfl, by simp, fun k hk => hother k (by omega)⟩, by simpa using h.hB, by simp [h.n], fun b vs hb => ?_, fun k x hx => ?_, fun k k' x x' hne hx hx' hl hl' => ?_⟩
  · obtain ⟨c, T, fz, hc, hv⟩ := h.pub b vs hb
    refine ⟨c, T, fz, ?_, hv⟩
    rw [hother b (fun e => by rw [e, h3] at hc; simp at hc)]
    exact hc
  · rcases hset k x hx with rfl | ⟨hne, hx⟩
    · trivial
    · exact (h.ob k x hx).mono (.refl G) rfl (fun _ => rfl) (fun hl => hother _ (h.sep k o x _ hne hx ho hl trivial))
  · rcases hset k x hx with rfl | ⟨_, hx⟩
    · exact hl.elim
    · rcases hset k' x' hx' with rfl | ⟨_, hx'⟩
      · exact hl'.elim
      · exact h.sep k k' x x' hne hx hx' hl hl'

theorem aret_mark {fn : Func} {R : AV → List AObj → Prop} {s : AS} {o : Nat} {ds : List Nat} (hd : s.df = o :: ds) (ho : s.st[o]? = some .dfr) (h : ARet E fn R ⟨s.t, s.st.set o .dead, ds⟩) : ARet E fn R s := by
  refine ⟨fun B0 w0 G a w hL hI R2 hR => ?_⟩
  obtain ⟨w', hrun, hA⟩ := hI.agree.takeDfr (E := E) ho
  have e := hI.defers.1
  rw [hd] at e
  rw [e]
  have hdf := hI.defers.2
  rw [hd] at hdf
  refine ⟨by simp, .inl ⟨_, w', rfl, hrun, ?_⟩⟩
  exact h.run B0 w0 G { tmps := a.tmps, defers := ds.map (fun o => { target := .collected (G.ob o).blk, args := #[] }) } w' hL ⟨hA, ⟨rfl, fun k hk => hdf k (List.mem_cons_of_mem _ hk)⟩, hI.size, hI.tmps⟩ R2 hR

theorem ares_zero {fn : Func} {s : AS} (hr : fn.results = #[]) : ARes E fn s (.tu []) :=
  ⟨fun _ _ G a w _ _ => ⟨_, results_none hr a.tmps E.P w, .tu [] #[] rfl (by simp)⟩⟩
theorem ares_one {fn : Func} {s : AS} {t : Tmp} (hr : fn.results = #[.tmp t]) : ARes E fn s (aeval fn.ntmps s (.tmp t)) :=
  ⟨fun _ _ G a w _ hI => ⟨_, results_tmp hr a.tmps E.P w, hI.rd t⟩⟩
theorem rel_tu2 {G : Gh} {x y : AV} {v u : Value} (h1 : Rel G x v) (h2 : Rel G y u) : Rel G (.tu [x, y]) (.tuple #[v, u]) :=
  .tu _ _ rfl fun i x' y' hx hy => by
    match i with
    | 0 => simp at hx hy; subst hx; subst hy; exact h1
    | 1 => simp at hx hy; subst hx; subst hy; exact h2
    | i + 2 => simp at hx
theorem rel_tu3 {G : Gh} {x y z : AV} {v u t : Value} (h1 : Rel G x v) (h2 : Rel G y u) (h3 : Rel G z t) : Rel G (.tu [x, y, z]) (.tuple #[v, u, t]) :=
  .tu _ _ rfl fun i x' y' hx hy => by
    match i with
    | 0 => simp at hx hy; subst hx; subst hy; exact h1
    | 1 => simp at hx hy; subst hx; subst hy; exact h2
    | 2 => simp at hx hy; subst hx; subst hy; exact h3
    | i + 3 => simp at hx
theorem ares_two {fn : Func} {s : AS} {t u : Tmp} (hr : fn.results = #[.tmp t, .tmp u]) : ARes E fn s (.tu [aeval fn.ntmps s (.tmp t), aeval fn.ntmps s (.tmp u)]) :=
  ⟨fun _ _ G a w _ hI => ⟨_, results_tmp2 hr a.tmps E.P w, rel_tu2 (hI.rd t) (hI.rd u)⟩⟩
theorem ares_three {fn : Func} {s : AS} {t u v : Tmp} (hr : fn.results = #[.tmp t, .tmp u, .tmp v]) : ARes E fn s (.tu [aeval fn.ntmps s (.tmp t), aeval fn.ntmps s (.tmp u), aeval fn.ntmps s (.tmp v)]) :=
  ⟨fun _ _ G a w _ hI => ⟨.tuple #[a.tmps.getD t undef, a.tmps.getD u undef, a.tmps.getD v undef], by simp [results, hr], rel_tu3 (hI.rd t) (hI.rd u) (hI.rd v)⟩⟩

/-- What a loaded variable reads as, of the cells from its address on. -/
def aloadC (sz : Nat) (agg : Bool) (off : Nat) (cs : List AV) : Option AV :=
  bif agg then (bif Nat.ble (off + sz) cs.length then some (.ag ((cs.drop off).take sz)) else none) else cs[off]?

/-- A type's size in cells, and whether it is a struct or an array. -/
def tyOf (P : Program) (t : TypeId) : Option (Nat × Bool) :=
  match P.info? t, P.underlying t with
  | some i, some d => some (i.size, match d with | .struct _ => true | .array _ _ => true | _ => false)
  | _, _ => none

theorem tyOf_info {P : Program} {t : TypeId} {sz : Nat} {agg : Bool} (h : tyOf P t = some (sz, agg)) (w : World) : (sizeOf t).run P w = .ok sz w ∧ (isAgg t).run P w = .ok agg w := by
  unfold tyOf at h
  split at h
  · rename_i i d hi hd
    simp only [Option.some.injEq, Prod.mk.injEq] at h
    obtain ⟨rfl, rfl⟩ := h
    refine ⟨by simp [sizeOf, typeInfo, hi], ?_⟩
    cases d <;> simp [isAgg, run_underlying hd]
  · simp at h

theorem run_loadVar_of {P : Program} {t : TypeId} {sz : Nat} {agg : Bool} (ht : tyOf P t = some (sz, agg)) {w : World} {G : Gh} {b off : Nat} {cs : List AV} {off' : Nat} {r : AV}
    (hc : ∀ (i : Nat) (x : AV), cs[i]? = some x → off' ≤ i → ∃ y, w.cell? ⟨b, off + (i - off'), none⟩ = some y ∧ Rel G x y) (hr : aloadC sz agg off' cs = some r) :
    ∃ v, (loadVar t ⟨b, off, none⟩).run P w = .ok v w ∧ Rel G r v := by
  obtain ⟨h1, h2⟩ := tyOf_info ht w
  cases agg with
  | false =>
    simp only [aloadC, cond_false] at hr
    obtain ⟨y, hy, hR⟩ := hc off' r hr (Nat.le_refl _)
    simp only [Nat.sub_self, Nat.add_zero] at hy
    exact ⟨y, by simp [loadVar, h2, run_load, hy], hR⟩
  | true =>
    simp only [aloadC, cond_true] at hr
    cases hb : Nat.ble (off' + sz) cs.length with
    | false => rw [hb] at hr; simp at hr
    | true =>
      rw [hb] at hr
      simp only [cond_true, Option.some.injEq] at hr
      have hle : off' + sz ≤ cs.length := Nat.le_of_ble_eq_true hb
      have hch : ∀ j, j < sz → ∃ y, w.cell? ⟨b, off + j, none⟩ = some y ∧ Rel G (cs.getD (off' + j) (.v undef)) y := fun j hj => by
        have hx : cs[off' + j]? = some cs[off' + j] := List.getElem?_eq_getElem (by omega)
        obtain ⟨y, hy, hR⟩ := hc _ _ hx (by omega)
        exact ⟨y, by rw [← hy]; congr 2; omega, by rw [List.getD, hx]; exact hR⟩
      let f : Nat → Value := fun j => if h : j < sz then Classical.choose (hch j h) else undef
      have hf : ∀ j, j < sz → w.cell? ⟨b, off + j, none⟩ = some (f j) ∧ Rel G (cs.getD (off' + j) (.v undef)) (f j) := fun j hj => by
        have := Classical.choose_spec (hch j hj)
        simp only [f, hj, dite_true]
        exact this
      have hl := run_loadCells (P := P) w ⟨b, off, none⟩ sz f (fun j hj => by rw [Addr.add_lit]; exact (hf j hj).1)
      refine ⟨.agg ((List.range sz).map f).toArray, by simp [loadVar, h2, h1, hl], ?_⟩
      subst hr
      refine .ag _ _ (by simp; omega) fun i x y hx hy => ?_
      have hi : i < sz := by have := lt_of_getElem? hx; simp at this; omega
      simp [List.getElem?_take, hi, List.getElem?_drop] at hx
      simp [hi] at hy
      subst hy
      have := (hf i hi).2
      rw [List.getD, hx] at this
      exact this

variable {rd : Option Nat} {N : Nat} {ops : Array Oper} {K : AS → Prop} {s : AS} {rest : List Oper} {d : Option Tmp} {T : TypeId} {p : String} {af : Array Edge}

theorem Inv.eval_of {B0 : Nat} {w0 : World} {G : Gh} {a : Act} {w : World} (h : Inv B0 w0 N G s a w) {x : Operand} {r : AV} (hx : aeval N s x = r) : Rel G r (a.eval x) := hx ▸ h.eval x

theorem aops_load_pp {x : Operand} {t : TypeId} {sz : Nat} {agg : Bool} {cs : List AV} {r : AV} (hx : aeval N s x = .pp cs) (ht : tyOf E.P t = some (sz, agg)) (hr : aloadC sz agg 0 cs = some r)
    (h : AOps E rd N ops rest K (s.put d r)) : AOps E rd N ops (⟨d, .load t x, T, p, af, none⟩ :: rest) K s := by
  refine aops_cons rfl (aop_of_run nofun fun B0 w0 G a w _ hI => ?_)
  have he := hI.eval_of hx
  generalize hv : a.eval x = v at he
  cases he with
  | pp _ b off pub hp hlen hrel =>
    obtain ⟨c, T', fz, hc, hcc⟩ := hI.agree.pub b pub hp
    obtain ⟨v, hrun, hR⟩ := run_loadVar_of (w := w) (G := G) (b := b) (off := off) ht (fun i x hx _ => by
      have hi := lt_of_getElem? hx
      have hy : pub[off + i]? = some (pub[off + i]'(by omega)) := List.getElem?_eq_getElem (by omega)
      refine ⟨_, ?_, hrel i x _ hx hy⟩
      simp [World.cell?, hc, hcc _ _ hy]) hr
    exact ⟨v, w, G, r, s.st, by simp only [execOp, hv, Instr.loadAt, Instr.sureAddr]; simp [hrun], .refl G, hI.agree, hR, h⟩

theorem aops_load_bx {x : Operand} {t : TypeId} {sz : Nat} {agg : Bool} {o ver off : Nat} {T' : TypeId} {cs : List AV} {r : AV} (hx : aeval N s x = .bx o ver off) (ho : s.st[o]? = some (.cells ver T' cs)) (ht : tyOf E.P t = some (sz, agg)) (hr : aloadC sz agg off cs = some r)
    (h : AOps E rd N ops rest K (s.put d r)) : AOps E rd N ops (⟨d, .load t x, T, p, af, none⟩ :: rest) K s := by
  refine aops_cons rfl (aop_of_run nofun fun B0 w0 G a w _ hI => ?_)
  have he := hI.eval_of hx
  generalize hv : a.eval x = v at he
  cases he with
  | bx _ _ _ b hn hv' hb =>
    obtain ⟨_, h1, h2, h3, c, h4, h5, h6⟩ := hI.agree.ob o _ ho
    have hb := hb h1
    rw [hb] at h4
    obtain ⟨v, hrun, hR⟩ := run_loadVar_of (w := w) (G := G) (b := b) (off := off) (off' := off) ht (fun i x hx hi => by
      obtain ⟨y, hy⟩ := get_of_size hx (Nat.le_of_eq h5)
      refine ⟨y, ?_, h6 i x y hx hy⟩
      simp [World.cell?, h4, show off + (i - off) = i by omega, hy]) hr
    exact ⟨v, w, G, r, s.st, by simp only [execOp, hv, Instr.loadAt, Instr.sureAddr]; simp [hrun], .refl G, hI.agree, hR, h⟩
end
end Go.Av
