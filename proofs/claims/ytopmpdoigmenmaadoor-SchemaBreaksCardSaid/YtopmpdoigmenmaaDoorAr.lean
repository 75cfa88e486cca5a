/- A range over a function, on abstract states. Generic: names no program. -/
import Derived.Test.YtopmpdoigmenmaaDoorAe
set_option linter.unusedVariables false
namespace Go.Av
open Go Go.RowKit

/-- A round: what the record's 'yield' does with its arguments. -/
structure AYield (E : Env) (o : Nat) (xs : List AV) (st : List AObj) (R : Bool → List AObj → Prop) : Prop where
  run : ∀ (B0 : Nat) (w0 : World) (G : Gh) (vals : Array Value) (w : World), E.L B0 w0 → Agree B0 w0 G st w → RelL G xs vals →
    ∃ (f : FuncId) (tmps : Array Value) (asg body : Code), (Instr.yield (G.ob o).blk vals).run E.P w = .ok (.round (G.ob o).blk f tmps asg body) w ∧
      RoundIn (fw none) (0 - 1) E.P (G.ob o).blk f tmps asg body w fun e w' => ∃ (b : Bool) (G' : Gh) (st' : List AObj), e = .returned (.bool b) ∧ G.le G' ∧ Agree B0 w0 G' st' w' ∧ R b st'

theorem AYield.mono {E : Env} {o : Nat} {xs : List AV} {st : List AObj} {R R' : Bool → List AObj → Prop} (h : AYield E o xs st R) (hr : ∀ b st', R b st' → R' b st') : AYield E o xs st R' :=
  ⟨fun B0 w0 G vals w hL hA hR => let ⟨f, tmps, asg, body, h1, h2⟩ := h.run B0 w0 G vals w hL hA hR
    ⟨f, tmps, asg, body, h1, h2.mono fun _ _ ⟨b, G', st', g1, g2, g3, g4⟩ => ⟨b, G', st', g1, g2, g3, hr _ _ g4⟩⟩⟩

/-- A call of 'yield'. -/
theorem aops_callYield {E : Env} {N : Nat} {ops : Array Oper} {K : AS → Prop} {s : AS} {rest : List Oper} {d : Option Tmp} {T : TypeId} {p : String} {af : Array Edge} {x : Operand} {o : Nat} {xs : Array Operand} {ts : Array TypeId} (hx : aeval N s x = .yd o)
    (h : AYield E o (xs.toList.map (aeval N s)) s.st fun b st' => AOps E none N ops rest K (AS.put ⟨s.t, st', s.df⟩ d (Bv b))) : AOps E none N ops (⟨d, .call ⟨.value x, xs, ts⟩, T, p, af, none⟩ :: rest) K s := by
  refine aops_cons rfl ⟨fun B0 w0 G a w hL hI K' Q hK => ?_⟩
  have he := hI.eval_of hx
  generalize hv : a.eval x = v at he
  cases he with
  | yd _ b hn hraw hb =>
    obtain ⟨f, tmps, asg, body, h1, h2⟩ := h.run B0 w0 G _ w hL hI.agree (relL_map hI xs)
    rw [hb] at h1 h2
    have hr : (execOp a.eval ⟨d, .call ⟨.value x, xs, ts⟩, T, p, af, none⟩).run E.P w = .ok (.round b f tmps asg body) w := by
      generalize a.eval = ρ at hv h1
      simp [execOp, resolve, Deferred.ofValue, hv, invoke, h1]
    refine ⟨fun _ _ => trivial, ?_⟩
    rw [semAt_eq (fun c h => by simp at h), hr, Oper.uponIn_round]
    refine ⟨fun h => by simp [fw, Fence.wide] at h, h2.mono ?_⟩
    rintro e w' ⟨b, G', st', rfl, hG, hA, hk⟩
    exact hK G' _ _ _ hG (hI.put hG hA d (.v _)) hk

def setPs (t : Nat → AV) : List (Tmp × AV) → Nat → AV
  | [] => t
  | (p, x) :: r => setPs (put t p x) r

theorem setPs_rel {G : Gh} {N : Nat} : ∀ (ps : List Tmp) (xs : List AV) (vals : List Value) (t : Nat → AV) (tmps : Array Value), tmps.size = N → (∀ (i : Nat) (y : Value), tmps[i]? = some y → Rel G (t i) y) →
    xs.length = vals.length → (∀ (i : Nat) (x : AV) (y : Value), xs[i]? = some x → vals[i]? = some y → Rel G x y) →
    ((ps.zip vals).foldl (fun (tmps : Array Value) (x : Tmp × Value) => tmps.setIfInBounds x.1 x.2) tmps).size = N ∧
    ∀ (i : Nat) (y : Value), ((ps.zip vals).foldl (fun (tmps : Array Value) (x : Tmp × Value) => tmps.setIfInBounds x.1 x.2) tmps)[i]? = some y → Rel G (setPs t (ps.zip xs) i) y := by
  intro ps
  induction ps with
  | nil => intro xs vals t tmps hs ht _ _; exact ⟨by simpa using hs, by simpa [setPs] using ht⟩
  | cons p ps ih =>
    intro xs vals t tmps hs ht hl hr
    cases xs with
    | nil =>
      have : vals = [] := List.eq_nil_of_length_eq_zero (by simpa using hl.symm)
      subst this
      exact ⟨by simpa using hs, by simpa [setPs] using ht⟩
    | cons x xs =>
      cases vals with
      | nil => simp at hl
      | cons v vals =>
        simp only [List.zip_cons_cons, List.foldl_cons, setPs]
        refine ih xs vals (put t p x) (tmps.setIfInBounds p v) (by simpa using hs) (fun i y hy => ?_) (by simpa using hl) (fun i x' y h1 h2 => hr (i + 1) x' y (by simpa using h1) (by simpa using h2))
        rw [Array.getElem?_setIfInBounds] at hy
        by_cases e : p = i
        · subst e
          rw [put_same]
          by_cases hb : p < tmps.size
          · simp [hb] at hy; subst hy; exact hr 0 x v rfl rfl
          · simp [hb] at hy
        · rw [put_ne _ _ _ _ (Ne.symm e)]
          rw [if_neg e] at hy
          exact ht i y hy

section
variable {B0 : Nat} {w0 : World} {G : Gh} {st : List AObj} {w : World}

/-- An object that is no row of cells is written. -/
theorem Agree.putRaw (h : Agree B0 w0 G st w) {o : Nat} {x x' : AObj} {y y' : Obj} (ho : st[o]? = some x) (hx : x.live) (hraw : (G.ob o).raw = true) (hy : w.heap[(G.ob o).blk]? = some y) (hc : ∀ c T fz, y ≠ .cells c T fz)
    (hx' : ObOk B0 G (w.putObj (G.ob o).blk y') o x') : Agree B0 w0 G (st.set o x') (w.putObj (G.ob o).blk y') := by
  have hother : ∀ k, k ≠ (G.ob o).blk → (w.putObj (G.ob o).blk y').heap[k]? = w.heap[k]? := fun k hk => by
    simp only [World.putObj, Array.getElem?_setIfInBounds]
    rw [if_neg (Ne.symm hk)]
  have hge := (h.ob o x ho).ge hx
  refine ⟨h.below.trans ⟨rfl, rfl, rfl, by simp [World.putObj], fun k hk => hother k (by omega)⟩, by simpa [World.putObj] using h.hB, by simp [h.n], fun b vs hb => ?_, fun k z hz => ?_, fun k k' z z' hne hz hz' hl hl' => ?_⟩
  · obtain ⟨c, T, fz, hc', hv⟩ := h.pub b vs hb
    refine ⟨c, T, fz, ?_, hv⟩
    rw [hother b (fun e => by rw [e, hy] at hc'; exact hc c T fz (by simpa using hc'))]
    exact hc'
  · rcases getElem?_set' _ _ _ _ _ hz with ⟨rfl, rfl⟩ | ⟨hne, hz⟩
    · exact hx'
    · exact (h.ob k z hz).mono (.refl G) rfl (fun _ => rfl) (fun hl => hother _ (h.sep k o z _ hne hz ho hl hx))
  · rcases getElem?_set' _ _ _ _ _ hz with ⟨e1, e2⟩ | ⟨_, e2⟩
    · rcases getElem?_set' _ _ _ _ _ hz' with ⟨e3, _⟩ | ⟨_, e4⟩
      · exact absurd (e1.trans e3.symm) hne
      · rw [e1]; exact h.sep o k' _ z' (fun e => hne (e1.trans e)) ho e4 hx hl'
    · rcases getElem?_set' _ _ _ _ _ hz' with ⟨e3, _⟩ | ⟨_, e4⟩
      · rw [e3]; exact h.sep k o z _ (fun e => hne (e.trans e3.symm)) e2 ho hl hx
      · exact h.sep k k' z z' hne e2 e4 hl hl'
end

@[reducible] def only (K : AS → Prop) : Exit → AS → Prop
  | .normal, s => K s
  | _, _ => False

/-- What is asked where a round's body is left. -/
@[reducible] def roundA (o N : Nat) (t : Nat → AV) (ps : Array Tmp) (asg body : Code) (R : Bool → List AObj → Prop) : Exit → AS → Prop
  | .normal, s => s.st[o]? = some (.loop .busy none N t ps asg body) ∧ R true (s.st.set o (.loop .ready none N t ps asg body))
  | .ret, s => s.st[o]? = some (.loop .busy none N t ps asg body) ∧ R false (s.st.set o (.loop .done (some .ret) N t ps asg body))
  | .exit id, s => s.st[o]? = some (.loop .busy none N t ps asg body) ∧ R false (s.st.set o (.loop .done (some (.exit id)) N t ps asg body))
  | _, _ => False

theorem endRound_agree {E : Env} {B0 : Nat} {w0 : World} {G : Gh} {st : List AObj} {w : World} (h : Agree B0 w0 G st w) {o N : Nat} {t : Nat → AV} {ps : Array Tmp} {asg body : Code} {ls : LoopState} {pend : Option Code} (ho : st[o]? = some (.loop ls pend N t ps asg body)) (jump : Option Code) :
    ∃ w', (Instr.endRound (G.ob o).blk jump).run E.P w = .ok (.bool jump.isNone) w' ∧ Agree B0 w0 G (st.set o (.loop (if jump.isNone then .ready else .done) jump N t ps asg body)) w' := by
  obtain ⟨h1, h2, r, h3, h4, h5, h6, h7, h8, h9, h10⟩ := h.ob o _ ho
  have hlt : (G.ob o).blk < w.heap.size := (h.ob o _ ho).lt trivial
  refine ⟨w.putObj (G.ob o).blk (.loop { r with state := if jump.isNone then .ready else .done, pending := jump }), by simp [Instr.endRound, Instr.getLoop, getObj, setObj, Sem.run, h3, World.putObj], ?_⟩
  refine h.putRaw ho trivial h1 h3 (by simp) ⟨h1, h2, { r with state := if jump.isNone then .ready else .done, pending := jump }, ?_, rfl, rfl, h6, h7, h8, h9, h10⟩
  simp [World.putObj, hlt]

theorem ayield_body {E : Env} {o N : Nat} {t : Nat → AV} {ps : Array Tmp} {asg body : Code} {st : List AObj} {R : Bool → List AObj → Prop} {xs : List AV} (ho : st[o]? = some (.loop .ready none N t ps asg body)) (hps : ps.size = xs.length)
    (h : ∀ l, AWp E (some l) N asg (only fun s1 => s1.st[o]? = some (.loop .ready none N t ps asg body) ∧ s1.df = [] ∧ AWp E (some l) N body (roundA o N t ps asg body R) ⟨s1.t, s1.st.set o (.loop .busy none N t ps asg body), []⟩) ⟨setPs t (ps.toList.zip xs), st, []⟩) : AYield E o xs st R := by
  refine ⟨fun B0 w0 G vals w hL hA hR => ?_⟩
  obtain ⟨h1, h2, r, h3, h4, h5, h6, h7, h8, h9, h10⟩ := hA.ob o _ ho
  have hsz : vals.size = r.params.size := by rw [h6, hps, hR.1]
  refine ⟨r.fn, (r.params.zip vals).foldl (fun tmps (t, a) => tmps.setIfInBounds t a) r.tmps, r.assign, r.body, by simp [Instr.yield, Instr.getLoop, getObj, Sem.run, h3, hsz], ?_⟩
  have hset := setPs_rel (G := G) (N := N) ps.toList xs vals.toList t r.tmps h9 h10 (by simpa using hR.1) (fun i x y hx hy => hR.2 i x y hx (by simpa using hy))
  have he : (r.params.zip vals).foldl (fun tmps (t, a) => tmps.setIfInBounds t a) r.tmps = (ps.toList.zip vals.toList).foldl (fun (tmps : Array Value) (x : Tmp × Value) => tmps.setIfInBounds x.1 x.2) r.tmps := by
    rw [h6, ← Array.foldl_toList, Array.toList_zip]
  rw [he, h7, h8]
  refine roundIn_of_wpIn trivial (wpIn_mono ((h (G.ob o).blk).run B0 w0 G _ w hL ⟨hA, ⟨rfl, nofun⟩, hset.1, hset.2⟩) ?_)
  rintro e a1 w1 ⟨G1, s1, hG1, hI1, hQ⟩
  cases e with
  | normal =>
    obtain ⟨g1, g2, g3⟩ := hQ
    obtain ⟨k1, k2, r1, k3, k4, k5, k6, k7, k8, k9, k10⟩ := hI1.agree.ob o _ g1
    have hob : G1.ob o = G.ob o := hG1.raw o (by rw [hA.n]; exact lt_of_getElem? ho) h1
    rw [hob] at k3
    have hlt : (G1.ob o).blk < w1.heap.size := (hI1.agree.ob o _ g1).lt trivial
    refine ⟨w1.putObj (G.ob o).blk (.loop { r1 with state := .busy }), by simp [Instr.beginRound, Instr.getLoop, getObj, setObj, Sem.run, k3, k4, World.putObj], ?_⟩
    have hA1 : Agree B0 w0 G1 (s1.st.set o (.loop .busy none N t ps asg body)) (w1.putObj (G1.ob o).blk (.loop { r1 with state := .busy })) := by
      refine hI1.agree.putRaw g1 trivial k1 (by rw [hob]; exact k3) (by simp) ⟨k1, k2, { r1 with state := .busy }, ?_, rfl, k5, k6, k7, k8, k9, k10⟩
      simp [World.putObj, hlt]
    have hd : a1.defers = [] := by rw [hI1.defers.1, g2]; rfl
    rw [← hob] at g3 ⊢
    refine wpIn_mono (g3.run B0 w0 G1 a1 _ hL ⟨hA1, ⟨by rw [hd]; rfl, nofun⟩, hI1.size, hI1.tmps⟩) ?_
    rintro e a2 w2 ⟨G2, s2, hG2, hI2, hQ2⟩
    have hob2 : ∀ {ls pend}, s2.st[o]? = some (.loop ls pend N t ps asg body) → G2.ob o = G1.ob o := fun {ls pend} _ => hG2.raw o (by rw [hI1.agree.n]; exact lt_of_getElem? g1) k1
    cases e with
    | normal =>
      obtain ⟨q1, q2⟩ := hQ2
      obtain ⟨w3, e1, e2⟩ := endRound_agree (E := E) hI2.agree q1 none
      rw [hob2 q1] at e1
      exact ⟨_, w3, e1, true, G2, _, rfl, hG1.trans hG2, e2, q2⟩
    | ret =>
      obtain ⟨q1, q2⟩ := hQ2
      obtain ⟨w3, e1, e2⟩ := endRound_agree (E := E) hI2.agree q1 (some .ret)
      rw [hob2 q1] at e1
      exact ⟨_, w3, e1, false, G2, _, rfl, hG1.trans hG2, e2, q2⟩
    | exit id =>
      obtain ⟨q1, q2⟩ := hQ2
      obtain ⟨w3, e1, e2⟩ := endRound_agree (E := E) hI2.agree q1 (some (.exit id))
      rw [hob2 q1] at e1
      exact ⟨_, w3, e1, false, G2, _, rfl, hG1.trans hG2, e2, q2⟩
    | _ => exact hQ2.elim
  | _ => exact hQ.elim

/-- What is owed where the iterator has come back. -/
def AEnd (E : Env) (N : Nat) (Q : Exit → AS → Prop) (t : Nat → AV) (df : List Nat) (od ol : Nat) (ps : Array Tmp) (asg body : Code) (st' : List AObj) : Prop :=
  ∃ ls pend, ls ≠ LoopState.busy ∧ st'[ol]? = some (.loop ls pend N t ps asg body) ∧
    match pend with
    | none => Q .normal ⟨t, st'.set ol .dead, od :: df⟩
    | some c => AWp E none N c Q ⟨t, st'.set ol .dead, od :: df⟩

/-- A new block of whatever kind. -/
theorem Agree.newAny {B0 : Nat} {w0 : World} {G : Gh} {st : List AObj} {w : World} (h : Agree B0 w0 G st w) (cap : Nat) (raw : Bool) (x : AObj) (y : Obj) (hx : ObOk B0 (G.new 0 w.heap.size cap raw) (w.alloc y) st.length x) :
    Agree B0 w0 (G.new 0 w.heap.size cap raw) (st ++ [x]) (w.alloc y) := by
  have hle := G.le_new 0 w.heap.size cap raw
  have hold : ∀ o z, st[o]? = some z → (G.new 0 w.heap.size cap raw).ob o = G.ob o := fun o z hz => by
    have := lt_of_getElem? hz
    have := h.n
    simp [Gh.new, show o ≠ G.n by omega]
  have hnew : (G.new 0 w.heap.size cap raw).ob st.length = ⟨0, w.heap.size, cap, raw⟩ := by simp [Gh.new, h.n]
  refine ⟨h.below.alloc h.hB _, by simp; have := h.hB; omega, by simp [Gh.new, h.n], fun b vs hb => ?_, fun o z hz => ?_, fun o o' z z' hne hz hz' hl hl' => ?_⟩
  · rw [heap_alloc_old w _ b (h.pub_lt hb)]; exact h.pub b vs hb
  · rw [getElem?_snoc] at hz
    by_cases ho : o < st.length
    · rw [if_pos ho] at hz
      exact (h.ob o z hz).mono hle (hold o z hz) (fun _ => rfl) (fun hl => heap_alloc_old w _ _ ((h.ob o z hz).lt hl))
    · rw [if_neg ho] at hz
      by_cases ho' : o = st.length
      · subst ho'
        rw [if_pos rfl] at hz
        simp only [Option.some.injEq] at hz
        subst hz
        exact hx
      · rw [if_neg ho'] at hz; simp at hz
  · rw [getElem?_snoc] at hz hz'
    by_cases ho : o < st.length
    · rw [if_pos ho] at hz
      by_cases ho2 : o' < st.length
      · rw [if_pos ho2] at hz'
        rw [hold o z hz, hold o' z' hz']; exact h.sep o o' z z' hne hz hz' hl hl'
      · rw [if_neg ho2] at hz'
        by_cases ho3 : o' = st.length
        · subst ho3
          rw [hold o z hz, hnew]
          have := (h.ob o z hz).lt hl
          exact Nat.ne_of_lt this
        · rw [if_neg ho3] at hz'; simp at hz'
    · rw [if_neg ho] at hz
      by_cases ho' : o = st.length
      · subst ho'
        by_cases ho2 : o' < st.length
        · rw [if_pos ho2] at hz'
          rw [hold o' z' hz', hnew]
          have := (h.ob o' z' hz').lt hl'
          exact Nat.ne_of_gt this
        · rw [if_neg ho2] at hz'
          by_cases ho3 : o' = st.length
          · omega
          · rw [if_neg ho3] at hz'; simp at hz'
      · rw [if_neg ho'] at hz; simp at hz

theorem run_enterLoop (P : Program) (w : World) (fn : FuncId) (tmps : Array Value) (ps : Array Tmp) (asg body : Code) :
    (Instr.enterLoop fn tmps ps asg body none).run P w = .ok (w.heap.size + 1, [{ target := .collected w.heap.size, args := #[] }])
      ((w.alloc (.deferred (some []))).alloc (.loop { state := .ready, pending := none, fn, tmps, params := ps, assign := asg, body, defers := w.heap.size })) := by
  simp [Instr.enterLoop, newObj, Sem.run]

theorem endLoop_agree {E : Env} {B0 : Nat} {w0 : World} {G : Gh} {st : List AObj} {w : World} (h : Agree B0 w0 G st w) {o N : Nat} {t : Nat → AV} {ps : Array Tmp} {asg body : Code} {ls : LoopState} {pend : Option Code} (ho : st[o]? = some (.loop ls pend N t ps asg body)) (hl : ls ≠ .busy) :
    ∃ w', (Instr.endLoop (G.ob o).blk).run E.P w = .ok pend w' ∧ Agree B0 w0 G (st.set o .dead) w' := by
  obtain ⟨h1, h2, r, h3, h4, h5, h6, h7, h8, h9, h10⟩ := h.ob o _ ho
  refine ⟨w.putObj (G.ob o).blk (.loop { r with state := .exhausted }), ?_, h.putRaw ho trivial h1 h3 (by simp) trivial⟩
  simp [Instr.endLoop, Instr.getLoop, getObj, setObj, Sem.run, h3, h5, World.putObj]
  intro hh
  rw [h4] at hh
  exact absurd hh hl

theorem awp_rangeFunc {E : Env} {N : Nat} {Q : Exit → AS → Prop} {s : AS} {f : Operand} {ps : Array Tmp} {asg body : Code} {st loc : List AObj} {g : FuncId} {fs cs : List AV} (hst : s.st = st ++ loc) (hx : aeval N s f = .fn (.func g) fs cs)
    (hrun : ∀ vs w, (callFunc g vs).run E.P w = .ok (.enter g vs) w)
    (h : ACall E g (fs ++ [.yd (st.length + (loc.length + 1))] ++ cs) (st ++ (loc ++ [.dfr, .loop .ready none N s.t ps asg body])) fun _ st' => AEnd E N Q s.t s.df (st.length + loc.length) (st.length + (loc.length + 1)) ps asg body st') : AWp E none N (.rangeFunc f ps asg body) Q s := by
  refine ⟨fun B0 w0 G a w hL hI => wpIn_rangeFunc fun fn _ => ?_⟩
  have he := hI.eval_of hx
  generalize hv : a.eval f = v at he
  cases he with
  | fn _ _ _ fs' cs' h1 h2 h3 h4 =>
    have hn := hI.agree.n
    -- the two blocks
    have hA1 := hI.agree.newAny 0 true .dfr (.deferred (some [])) ⟨by simp [Gh.new, hn], by simp [Gh.new, hn]; exact hI.agree.hB, by
      have e : ((G.new 0 w.heap.size 0 true).ob s.st.length).blk = w.heap.size := by simp [Gh.new, hn]
      rw [e]; exact heap_alloc_new w _⟩
    have hle1 := G.le_new 0 w.heap.size 0 true
    generalize hG1 : G.new 0 w.heap.size 0 true = G1 at hA1 hle1
    have hn1 := hA1.n
    have hsz1 : (w.alloc (.deferred (some []))).heap.size = w.heap.size + 1 := by simp
    have hA2 := hA1.newAny 0 true (.loop .ready none N s.t ps asg body) (.loop { state := .ready, pending := none, fn, tmps := a.tmps, params := ps, assign := asg, body, defers := w.heap.size })
      ⟨by simp [Gh.new, hn1], by simp [Gh.new, hn1]; have := hI.agree.hB; omega, { state := .ready, pending := none, fn, tmps := a.tmps, params := ps, assign := asg, body, defers := w.heap.size }, by
        have e : ((G1.new 0 (w.alloc (.deferred (some []))).heap.size 0 true).ob (s.st ++ [AObj.dfr]).length).blk = (w.alloc (.deferred (some []))).heap.size := by simp [Gh.new, hn1]
        rw [e]; exact heap_alloc_new _ _, rfl, rfl, rfl, rfl, rfl, hI.size, fun i y hy => ((hI.tmps i y hy).mono hle1).mono (G1.le_new _ _ _ _)⟩
    have hle2 := hle1.trans (G1.le_new 0 (w.alloc (.deferred (some []))).heap.size 0 true)
    have hob1 : (G1.new 0 (w.alloc (.deferred (some []))).heap.size 0 true).ob s.st.length = ⟨0, w.heap.size, 0, true⟩ := by
      simp [Gh.new, ← hG1, hn]
    have hob2 : (G1.new 0 (w.alloc (.deferred (some []))).heap.size 0 true).ob (s.st.length + 1) = ⟨0, w.heap.size + 1, 0, true⟩ := by
      simp [Gh.new, hn1]
    have hn2 := hA2.n
    generalize G1.new 0 (w.alloc (.deferred (some []))).heap.size 0 true = G2 at hA2 hle2 hob1 hob2 hn2
    have hlen : s.st.length = st.length + loc.length := by rw [hst]; simp
    rw [hst] at hA2 hn2
    have hst2 : st ++ loc ++ [AObj.dfr] ++ [.loop .ready none N s.t ps asg body] = st ++ (loc ++ [.dfr, .loop .ready none N s.t ps asg body]) := by simp
    rw [hst2] at hA2 hn2
    rw [hlen] at hob1 hob2
    rw [show st.length + loc.length + 1 = st.length + (loc.length + 1) by omega] at hob2
    have hyd : Rel G2 (.yd (st.length + (loc.length + 1))) (.func (.yield (w.heap.size + 1)) #[] #[]) := .yd _ _ (by rw [hn2]; simp) (by rw [hob2]) (by rw [hob2])
    have hargs : RelL G2 (fs ++ [.yd (st.length + (loc.length + 1))] ++ cs) (fs' ++ #[.func (.yield (w.heap.size + 1)) #[] #[]] ++ cs') := by
      refine ⟨by simp [h1, h2]; omega, fun i x y g1 g2 => ?_⟩
      rw [Array.getElem?_append] at g2
      by_cases hi : i < (fs' ++ #[Value.func (.yield (w.heap.size + 1)) #[] #[]]).size
      · rw [if_pos hi] at g2
        rw [List.getElem?_append_left (by simp at hi ⊢; omega)] at g1
        rw [Array.getElem?_append] at g2
        by_cases hi2 : i < fs'.size
        · rw [if_pos hi2] at g2
          rw [List.getElem?_append_left (by omega)] at g1
          exact (h3 i x y g1 g2).mono hle2
        · rw [if_neg hi2] at g2
          rw [List.getElem?_append_right (by omega), h1] at g1
          have : i - fs'.size = 0 := by simp at hi; omega
          rw [this] at g1 g2
          simp at g1 g2
          subst g1; subst g2
          exact hyd
      · rw [if_neg hi] at g2
        rw [List.getElem?_append_right (by simp at hi ⊢; omega)] at g1
        refine (h4 _ x y g1 ?_).mono hle2
        rw [← g2]
        congr 1
        simp [h1]
    have hen := run_enterLoop E.P w fn a.tmps ps asg body
    generalize (w.alloc (.deferred (some []))).alloc (.loop { state := .ready, pending := none, fn, tmps := a.tmps, params := ps, assign := asg, body, defers := w.heap.size }) = W at hen hA2
    have hcall := h.run B0 w0 G2 _ W hL hA2 hargs
    generalize hav : fs' ++ #[Value.func (.yield (w.heap.size + 1)) #[] #[]] ++ cs' = av at hcall
    refine ⟨w.heap.size + 1, [{ target := .collected w.heap.size, args := #[] }], W, ⟨.fn (.func g) cs', fs' ++ #[.func (.yield (w.heap.size + 1)) #[] #[]]⟩, W, g, av, W, hen, ?_, fun _ _ => trivial, ?_, fun h => by simp [fw, Fence.wide] at h, callsIn_fw (hcall.mono ?_)⟩
    · have hc : a.eval (.const (.func (.yield (w.heap.size + 1)) #[] #[])) = .func (.yield (w.heap.size + 1)) #[] #[] := rfl
      generalize a.eval = ρ at hv hc
      simp [resolve, Deferred.ofValue, hv, hc]
    · simp [invoke, hrun, ← hav]
    · rintro e w3 ⟨v, G3, r, st', rfl, hG3, hA3, _, ls, pend, hls, hol, hend⟩
      obtain ⟨w4, e1, e2⟩ := endLoop_agree (E := E) hA3 hol hls
      have hb3 : G3.ob (st.length + (loc.length + 1)) = G2.ob (st.length + (loc.length + 1)) := hG3.raw _ (by rw [hn2]; simp) (by rw [hob2])
      have hb1 : G3.ob (st.length + loc.length) = G2.ob (st.length + loc.length) := hG3.raw _ (by rw [hn2]; simp) (by rw [hob1])
      rw [hb3, hob2] at e1
      have hle3 := hle2.trans hG3
      have hdef := hI.defers_mono hle3
      have hI4 : Inv B0 w0 N G3 ⟨s.t, st'.set (st.length + (loc.length + 1)) .dead, (st.length + loc.length) :: s.df⟩ { a with defers := [{ target := .collected w.heap.size, args := #[] }] ++ a.defers } w4 := by
        refine ⟨e2, ⟨?_, fun o ho => ?_⟩, hI.size, fun i y hy => (hI.tmps i y hy).mono hle3⟩
        · rw [hdef.1]
          simp [hb1, hob1]
        · rcases List.mem_cons.1 ho with rfl | ho
          · refine ⟨Nat.lt_of_lt_of_le (by rw [hn2]; simp) hG3.n, by rw [hb1, hob1]⟩
          · exact hdef.2 o ho
      refine ⟨pend, w4, e1, ?_⟩
      cases pend with
      | none => exact ⟨G3, _, hle3, hI4, hend⟩
      | some c =>
        refine wpIn_mono (hend.run B0 w0 G3 _ w4 hL hI4) ?_
        rintro e a5 w5 ⟨G5, s5, hG5, hI5, hQ5⟩
        exact ⟨G5, s5, hle3.trans hG5, hI5, hQ5⟩
end Go.Av
