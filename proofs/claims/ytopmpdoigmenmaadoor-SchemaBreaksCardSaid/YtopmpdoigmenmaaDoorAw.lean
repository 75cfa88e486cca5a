/- The abstract store, its tie to memory, contracts and code on abstract states. Generic: names no program. -/
import Derived.Test.YtopmpdoigmenmaaDoorAv
import Derived.RangeFuncNested
import Derived.RangeFuncCalls
import Derived.RangeFuncLeaves
import Derived.TacticsIn
set_option linter.unusedVariables false
namespace Go.Av
open Go Go.RowKit

inductive AObj where
  | dead
  | cells (ver : Nat) (T : TypeId) (cs : List AV)
  | tip (n sz : Nat) (T : TypeId)
  /-- a row whose first cells are told: behind them there may be more, and marks behind the block's end -/
  | row (ver : Nat) (T : TypeId) (cs : List AV)
  /-- the block for the rounds' deferred calls -/
  | dfr
  /-- a range-over-function's record -/
  | loop (ls : LoopState) (pend : Option Code) (N : Nat) (t : Nat → AV) (ps : Array Tmp) (asg body : Code)
  deriving Inhabited

def AObj.live : AObj → Prop
  | .dead => False
  | .cells _ _ _ => True
  | .row _ _ _ => True
  | .tip n _ _ => n ≠ 0
  | .dfr => True
  | .loop _ _ _ _ _ _ _ => True

def ObOk (B0 : Nat) (G : Gh) (w : World) (o : Nat) : AObj → Prop
  | .dead => True
  | .dfr => (G.ob o).raw = true ∧ B0 ≤ (G.ob o).blk ∧ w.heap[(G.ob o).blk]? = some (.deferred (some []))
  | .loop ls pend N t ps asg body => (G.ob o).raw = true ∧ B0 ≤ (G.ob o).blk ∧ ∃ r : Loop, w.heap[(G.ob o).blk]? = some (.loop r) ∧ r.state = ls ∧ r.pending = pend ∧ r.params = ps ∧ r.assign = asg ∧ r.body = body ∧ r.tmps.size = N ∧ ∀ (i : Nat) (y : Value), r.tmps[i]? = some y → Rel G (t i) y
  | .cells ver T cs => (G.ob o).raw = false ∧ (G.ob o).ver = ver ∧ B0 ≤ (G.ob o).blk ∧ G.pub (G.ob o).blk = none ∧ ∃ c : Array Value, w.heap[(G.ob o).blk]? = some (.cells c T (0, 0)) ∧ cs.length = c.size ∧ ∀ (i : Nat) (x : AV) (y : Value), cs[i]? = some x → c[i]? = some y → Rel G x y
  | .row ver T cs => (G.ob o).raw = false ∧ (G.ob o).ver = ver ∧ B0 ≤ (G.ob o).blk ∧ G.pub (G.ob o).blk = none ∧ ∃ (c : Array Value) (fz : Nat × Nat), w.heap[(G.ob o).blk]? = some (.cells c T fz) ∧ c.size ≤ fz.1 ∧ cs.length ≤ c.size ∧ ∀ (i : Nat) (x : AV) (y : Value), cs[i]? = some x → c[i]? = some y → Rel G x y
  | .tip n sz T => (G.ob o).raw = false ∧ (G.ob o).ver = n ∧ (n ≠ 0 → B0 ≤ (G.ob o).blk ∧ ∃ (c : Array Value) (vs : List Value), w.heap[(G.ob o).blk]? = some (.cells c T (0, 0)) ∧ G.pub (G.ob o).blk = some vs ∧ vs.length = n * sz ∧ c.size = (G.ob o).cap)

structure Agree (B0 : Nat) (w0 : World) (G : Gh) (st : List AObj) (w : World) : Prop where
  below : Below B0 w0 w
  hB : B0 ≤ w.heap.size
  n : G.n = st.length
  pub : ∀ b vs, G.pub b = some vs → ∃ (c : Array Value) (T : TypeId) (fz : Nat × Nat), w.heap[b]? = some (.cells c T fz) ∧ ∀ (i : Nat) (y : Value), vs[i]? = some y → c[i]? = some y
  ob : ∀ o x, st[o]? = some x → ObOk B0 G w o x
  sep : ∀ o o' x x', o ≠ o' → st[o]? = some x → st[o']? = some x' → x.live → x'.live → (G.ob o).blk ≠ (G.ob o').blk

def RelL (G : Gh) (as : List AV) (vs : Array Value) : Prop := as.length = vs.size ∧ ∀ (i : Nat) (x : AV) (y : Value), as[i]? = some x → vs[i]? = some y → Rel G x y

theorem RelL.mono {G G' : Gh} (hG : G.le G') {as : List AV} {vs : Array Value} (h : RelL G as vs) : RelL G' as vs := ⟨h.1, fun i x y hx hy => (h.2 i x y hx hy).mono hG⟩

/-- What is given with a run: the program, and what is known of its package-level variables. -/
structure Env where
  P : Program
  L : Nat → World → Prop

/-- The contract of a function on abstract values. -/
structure ACall (E : Env) (f : FuncId) (args : List AV) (st : List AObj) (R : AV → List AObj → Prop) : Prop where
  run : ∀ (B0 : Nat) (w0 : World) (G : Gh) (vals : Array Value) (w : World), E.L B0 w0 → Agree B0 w0 G st w → RelL G args vals →
    Calls E.P f vals w fun e w' => ∃ (v : Value) (G' : Gh) (r : AV) (st' : List AObj), e = .returned v ∧ G.le G' ∧ Agree B0 w0 G' st' w' ∧ Rel G' r v ∧ R r st'

theorem ACall.mono {E : Env} {f : FuncId} {args : List AV} {st : List AObj} {R R' : AV → List AObj → Prop} (h : ACall E f args st R) (hr : ∀ r st', R r st' → R' r st') : ACall E f args st R' :=
  ⟨fun B0 w0 G vals w hL hA hR => (h.run B0 w0 G vals w hL hA hR).mono fun _ _ ⟨v, G', r, st', he, hG, hA', hr', hR'⟩ => ⟨v, G', r, st', he, hG, hA', hr', hr _ _ hR'⟩⟩

structure AS where
  t : Nat → AV
  st : List AObj
  df : List Nat := []

/-- Every function's fence; 'rd': the round in whose frame the code runs. -/
def fw (rd : Option Nat) : Fence := { Fence.wide with round := rd }

/-- One slot written. -/
def put (t : Nat → AV) (i : Nat) (v : AV) : Nat → AV := fun j => bif Nat.beq j i then v else t j

def AS.put (s : AS) (d : Option Tmp) (v : AV) : AS :=
  match d with
  | some d => ⟨Av.put s.t d v, s.st, s.df⟩
  | none => s

structure Inv (B0 : Nat) (w0 : World) (N : Nat) (G : Gh) (s : AS) (a : Act) (w : World) : Prop where
  agree : Agree B0 w0 G s.st w
  defers : a.defers = s.df.map (fun o => { target := .collected (G.ob o).blk, args := #[] }) ∧ ∀ o ∈ s.df, o < G.n ∧ (G.ob o).raw = true
  size : a.tmps.size = N
  tmps : ∀ (i : Nat) (y : Value), a.tmps[i]? = some y → Rel G (s.t i) y

structure AWp (E : Env) (rd : Option Nat) (N : Nat) (c : Code) (Q : Exit → AS → Prop) (s : AS) : Prop where
  run : ∀ (B0 : Nat) (w0 : World) (G : Gh) (a : Act) (w : World), E.L B0 w0 → Inv B0 w0 N G s a w →
    c.wpIn (fw rd) 0 E.P (fun e a' w' => ∃ (G' : Gh) (s' : AS), G.le G' ∧ Inv B0 w0 N G' s' a' w' ∧ Q e s') a w

/-- A region's operations, from a place on. -/
structure AOps (E : Env) (rd : Option Nat) (N : Nat) (ops : Array Oper) (l : List Oper) (K : AS → Prop) (s : AS) : Prop where
  run : ∀ (B0 : Nat) (w0 : World) (G : Gh) (a : Act) (w : World), E.L B0 w0 → Inv B0 w0 N G s a w → ∀ Q : Exit → Act → World → Prop,
    (∀ G' s' a' w', G.le G' → Inv B0 w0 N G' s' a' w' → K s' → Q .normal a' w') → wpListIn (fw rd) 0 E.P ops Q l a w

/-- One operation. -/
structure AOp (E : Env) (rd : Option Nat) (N : Nat) (o : Oper) (K : AS → Prop) (s : AS) : Prop where
  run : ∀ (B0 : Nat) (w0 : World) (G : Gh) (a : Act) (w : World), E.L B0 w0 → Inv B0 w0 N G s a w → ∀ (K' : Act → World → Prop) (Q : Exit → Act → World → Prop),
    (∀ G' s' a' w', G.le G' → Inv B0 w0 N G' s' a' w' → K s' → K' a' w') → o.wpIn (fw rd) 0 E.P a w K' Q

section
variable {E : Env} {rd : Option Nat} {N : Nat}

theorem AWp.mono {c : Code} {Q Q' : Exit → AS → Prop} {s : AS} (h : AWp E rd N c Q s) (hq : ∀ e s, Q e s → Q' e s) : AWp E rd N c Q' s :=
  ⟨fun B0 w0 G a w hL hI => wpIn_mono (h.run B0 w0 G a w hL hI) fun _ _ _ ⟨G', s', hG, hI', hQ⟩ => ⟨G', s', hG, hI', hq _ _ hQ⟩⟩

theorem awp_skip {Q : Exit → AS → Prop} {s : AS} (h : Q .normal s) : AWp E rd N .skip Q s := ⟨fun _ _ G _ _ _ hI => wpIn_skip ⟨G, s, .refl G, hI, h⟩⟩
theorem awp_exit {id : Nat} {Q : Exit → AS → Prop} {s : AS} (h : Q (.exit id) s) : AWp E rd N (.exit id) Q s := ⟨fun _ _ G _ _ _ hI => wpIn_exit ⟨G, s, .refl G, hI, h⟩⟩
theorem awp_ret {Q : Exit → AS → Prop} {s : AS} (h : Q .ret s) : AWp E rd N .ret Q s := ⟨fun _ _ G _ _ _ hI => wpIn_ret ⟨G, s, .refl G, hI, h⟩⟩

@[reducible] def thenA (K : AS → Prop) (Q : Exit → AS → Prop) : Exit → AS → Prop
  | .normal, s => K s
  | e, s => Q e s

theorem awp_seq {x y : Code} {Q : Exit → AS → Prop} {s : AS} (h : AWp E rd N x (thenA (AWp E rd N y Q) Q) s) : AWp E rd N (.seq x y) Q s := by
  refine ⟨fun B0 w0 G a w hL hI => ?_⟩
  refine wpIn_seq (wpIn_mono (h.run B0 w0 G a w hL hI) ?_)
  rintro e a' w' ⟨G', s', hG, hI', hQ⟩
  cases e with
  | normal => exact wpIn_mono (hQ.run B0 w0 G' a' w' hL hI') fun _ _ _ ⟨G2, s2, hG2, hI2, hQ2⟩ => ⟨G2, s2, hG.trans hG2, hI2, hQ2⟩
  | _ => exact ⟨G', s', hG, hI', hQ⟩

theorem beq_ne {i j : Nat} (h : i ≠ j) : Nat.beq i j = false := by
  cases hb : Nat.beq i j with
  | false => rfl
  | true => exact absurd (Nat.eq_of_beq_eq_true hb) h

@[reducible] def inBlockA (id : Nat) (Q : Exit → AS → Prop) : Exit → AS → Prop
  | .exit id', s => bif Nat.beq id' id then Q .normal s else Q (.exit id') s
  | e, s => Q e s

theorem awp_block {id : Nat} {c : Code} {Q : Exit → AS → Prop} {s : AS} (h : AWp E rd N c (inBlockA id Q) s) : AWp E rd N (.block id c) Q s := by
  refine ⟨fun B0 w0 G a w hL hI => ?_⟩
  refine wpIn_block (wpIn_mono (h.run B0 w0 G a w hL hI) ?_)
  rintro e a' w' ⟨G', s', hG, hI', hQ⟩
  cases e with
  | exit id' =>
    dsimp only [Exit.inBlock, inBlockA] at hQ ⊢
    by_cases hid : id' = id
    · subst hid
      have : Nat.beq id' id' = true := by simp
      rw [this] at hQ; rw [if_pos rfl]; exact ⟨G', s', hG, hI', hQ⟩
    · have : Nat.beq id' id = false := beq_ne hid
      rw [this] at hQ; rw [if_neg hid]; exact ⟨G', s', hG, hI', hQ⟩
  | _ => exact ⟨G', s', hG, hI', hQ⟩

def aeval (N : Nat) (s : AS) : Operand → AV
  | .tmp i => bif Nat.blt i N then s.t i else .v undef
  | .const x => .v x
  | .global g => .v (.pointer (some ⟨g, 0, none⟩))
  | .func f => .fn (.func f) [] []

theorem Inv.eval {B0 : Nat} {w0 : World} {G : Gh} {s : AS} {a : Act} {w : World} (h : Inv B0 w0 N G s a w) (x : Operand) : Rel G (aeval N s x) (a.eval x) := by
  cases x with
  | tmp i =>
    simp only [aeval, Act.eval]
    by_cases hi : i < N
    · have : Nat.blt i N = true := by simpa [Nat.blt_eq] using hi
      rw [this]
      have hi' : i < a.tmps.size := by rw [h.size]; exact hi
      simp only [cond_true, Array.getD, hi', dite_true]
      exact h.tmps i _ (by simp [hi'])
    · have : Nat.blt i N = false := by
        cases hb : Nat.blt i N with
        | false => rfl
        | true => exact absurd (by simpa [Nat.blt_eq] using hb) hi
      rw [this]
      have hi' : ¬ i < a.tmps.size := by rw [h.size]; exact hi
      simp only [cond_false, Array.getD, hi', dite_false]
      exact .v _
  | const x => exact .v x
  | global g => exact .v _
  | func f => exact .fn _ _ _ _ _ rfl rfl (by simp) (by simp)

theorem put_same (t : Nat → AV) (i : Nat) (v : AV) : put t i v i = v := by simp [put]
theorem put_ne (t : Nat → AV) (i j : Nat) (v : AV) (h : j ≠ i) : put t i v j = t j := by
  have : Nat.beq j i = false := beq_ne h
  simp [put, this]

theorem Inv.defers_mono {B0 : Nat} {w0 : World} {G G' : Gh} {s : AS} {a : Act} {w : World} (h : Inv B0 w0 N G s a w) (hG : G.le G') : a.defers = s.df.map (fun o => { target := .collected (G'.ob o).blk, args := #[] }) ∧ ∀ o ∈ s.df, o < G'.n ∧ (G'.ob o).raw = true := by
  refine ⟨?_, fun o ho => ?_⟩
  · rw [h.defers.1]
    refine List.map_congr_left fun o ho => ?_
    obtain ⟨h1, h2⟩ := h.defers.2 o ho
    rw [hG.raw o h1 h2]
  · obtain ⟨h1, h2⟩ := h.defers.2 o ho
    rw [hG.raw o h1 h2]
    exact ⟨Nat.lt_of_lt_of_le h1 hG.n, h2⟩

/-- A slot written on both sides. -/
theorem Inv.put {B0 : Nat} {w0 : World} {G G' : Gh} {s : AS} {a : Act} {w w' : World} {st' : List AObj} (h : Inv B0 w0 N G s a w) (hG : G.le G') (hA : Agree B0 w0 G' st' w') (d : Option Tmp) {r : AV} {v : Value} (hr : Rel G' r v) :
    Inv B0 w0 N G' (AS.put ⟨s.t, st', s.df⟩ d r) (a.put d v) w' := by
  have hd := h.defers_mono hG
  cases d with
  | none => exact ⟨hA, hd, h.size, fun i y hy => (h.tmps i y hy).mono hG⟩
  | some d =>
    refine ⟨hA, hd, by simp [Act.put, h.size], fun i y hy => ?_⟩
    simp only [AS.put, Act.put] at *
    rw [Array.getElem?_setIfInBounds] at hy
    by_cases hi : d = i
    · subst hi
      rw [put_same]
      by_cases hb : d < a.tmps.size
      · simp [hb] at hy; subst hy; exact hr
      · simp [hb] at hy
    · rw [put_ne _ _ _ _ (Ne.symm hi)]
      rw [if_neg hi] at hy
      exact (h.tmps i y hy).mono hG

theorem awp_cond {c : Operand} {x y : Code} {Q : Exit → AS → Prop} {s : AS} {b : Bool} (hc : aeval N s c = .v (.bool b)) (ht : b = true → AWp E rd N x Q s) (hf : b = false → AWp E rd N y Q s) : AWp E rd N (.cond c x y) Q s := by
  refine ⟨fun B0 w0 G a w hL hI => ?_⟩
  have he := hI.eval c
  rw [hc] at he
  have he' : a.eval c = .bool b := by generalize a.eval c = v at he; cases he; rfl
  cases b
  · exact wpIn_cond_false he' ((hf rfl).run B0 w0 G a w hL hI)
  · exact wpIn_cond_true he' ((ht rfl).run B0 w0 G a w hL hI)

theorem awp_region {id : Nat} {l : List Oper} {Q : Exit → AS → Prop} {s : AS} (h : AOps E rd N l.toArray l (Q .normal) s) : AWp E rd N (.region id l.toArray false) Q s :=
  ⟨fun B0 w0 G a w hL hI => wpIn_region_lit (h.run B0 w0 G a w hL hI _ fun G' s' _ _ hG hI' hK => ⟨G', s', hG, hI', hK⟩)⟩

theorem aops_nil {ops : Array Oper} {K : AS → Prop} {s : AS} (h : K s) : AOps E rd N ops [] K s :=
  ⟨fun _ _ G _ _ _ hI _ hQ => wpListIn_nil (hQ G s _ _ (.refl G) hI h)⟩

theorem aops_cons {ops : Array Oper} {o : Oper} {rest : List Oper} {K : AS → Prop} {s : AS} (hg : o.guard = none) (h : AOp E rd N o (AOps E rd N ops rest K) s) : AOps E rd N ops (o :: rest) K s :=
  ⟨fun B0 w0 G a w hL hI Q hQ => wpListIn_plain hg fun K' hK => h.run B0 w0 G a w hL hI K' Q fun G' _ a' w' hG hI' hA => hK a' w' (hA.run B0 w0 G' a' w' hL hI' Q fun G2 s2 a2 w2 hG2 => hQ G2 s2 a2 w2 (hG.trans hG2))⟩

/-- A guarded operation: 'j' is the operation whose answer decides. -/
theorem aops_guard {ops : Array Oper} {o oj : Oper} {rest : List Oper} {K : AS → Prop} {s : AS} {j d : Nat} {want b : Bool} (hg : o.guard = some (j, want)) (hj : ops[j]? = some oj) (hd : oj.dst = some d) (hN : Nat.blt d N = true) (hb : s.t d = .v (.bool b))
    (ht : b = want → AOp E rd N o (AOps E rd N ops rest K) s) (hf : b = (!want) → AOps E rd N ops rest K (s.put o.dst (.v undef))) : AOps E rd N ops (o :: rest) K s := by
  refine ⟨fun B0 w0 G a w hL hI Q hQ => ?_⟩
  have hd' : d < a.tmps.size := by rw [hI.size]; simpa [Nat.blt_eq] using hN
  have hr := hI.tmps d a.tmps[d] (by simp [hd'])
  have hv : a.tmps[d]? = some (.bool b) := by
    rw [hb] at hr
    have : a.tmps[d] = .bool b := by generalize a.tmps[d] = v at hr; cases hr; rfl
    simp [hd', this]
  have hy : yielded ops a.tmps j = some b := by simp [yielded, hj, hd, hv]
  refine wpListIn_step fun K' hK => ?_
  simp only [Region.wanted, hg, hy]
  by_cases hbw : b = want
  · rw [if_pos (by simp [hbw])]
    exact (ht hbw).run B0 w0 G a w hL hI K' Q fun G' _ a' w' hG hI' hA => hK a' w' (hA.run B0 w0 G' a' w' hL hI' Q fun G2 s2 a2 w2 hG2 => hQ G2 s2 a2 w2 (hG.trans hG2))
  · rw [if_neg (by simp [hbw])]
    have hb' : b = !want := by cases b <;> cases want <;> simp_all
    exact ⟨fun _ _ => trivial, hK _ _ ((hf hb').run B0 w0 G _ w hL (hI.put (.refl G) hI.agree o.dst (.v undef)) Q hQ)⟩

theorem semAt_eq {o : Oper} {ρ : Operand → Value} (hnd : ∀ c, o.op ≠ .defer c) : o.semAt (fw rd).round ρ = execOp ρ o := by
  cases hr : (fw rd).round with
  | none => exact Oper.semAt_none ρ o
  | some l => exact Oper.semAt_some l ρ o hnd
theorem callsIn_fw {P : Program} {f : FuncId} {args : Array Value} {w : World} {R : Ending → World → Prop} (h : Calls P f args w R) : CallsIn (fw rd) (0 - 1) P f args w R := by
  have h' := callsIn_wide (n := 0 - 1).2 h
  cases rd with
  | none => exact h'
  | some l => exact h'.inRound l

/-- An operation that runs to a value. -/
theorem aop_of_run {o : Oper} {K : AS → Prop} {s : AS} (hnd : ∀ c, o.op ≠ .defer c)
    (h : ∀ (B0 : Nat) (w0 : World) (G : Gh) (a : Act) (w : World), E.L B0 w0 → Inv B0 w0 N G s a w → ∃ (v : Value) (w' : World) (G' : Gh) (r : AV) (st' : List AObj), (execOp a.eval o).run E.P w = .ok (.value v) w' ∧ G.le G' ∧ Agree B0 w0 G' st' w' ∧ Rel G' r v ∧ K (AS.put ⟨s.t, st', s.df⟩ o.dst r)) : AOp E rd N o K s := by
  refine ⟨fun B0 w0 G a w hL hI K' Q hK => ?_⟩
  obtain ⟨v, w', G', r, st', hr, hG, hA, hR, hk⟩ := h B0 w0 G a w hL hI
  refine ⟨fun _ _ => trivial, ?_⟩
  rw [semAt_eq hnd, hr, Oper.uponIn_value]
  exact hK G' _ _ _ hG (hI.put hG hA o.dst hR) hk

theorem aop_of_skip {o : Oper} {K : AS → Prop} {s : AS} (hnd : ∀ c, o.op ≠ .defer c)
    (h : ∀ (B0 : Nat) (w0 : World) (G : Gh) (a : Act) (w : World), E.L B0 w0 → Inv B0 w0 N G s a w → ∃ (w' : World) (G' : Gh) (st' : List AObj), (execOp a.eval o).run E.P w = .ok .skip w' ∧ G.le G' ∧ Agree B0 w0 G' st' w' ∧ K (AS.put ⟨s.t, st', s.df⟩ o.dst (.v undef))) : AOp E rd N o K s := by
  refine ⟨fun B0 w0 G a w hL hI K' Q hK => ?_⟩
  obtain ⟨w', G', st', hr, hG, hA, hk⟩ := h B0 w0 G a w hL hI
  refine ⟨fun _ _ => trivial, ?_⟩
  rw [semAt_eq hnd, hr, Oper.uponIn_skip]
  exact hK G' _ _ _ hG (hI.put hG hA o.dst (.v undef)) hk

/-- A call, met by its contract. -/
theorem aop_of_call {o : Oper} {K : AS → Prop} {s : AS} {f : FuncId} {args : List AV} (hnd : ∀ c, o.op ≠ .defer c)
    (hrun : ∀ (G : Gh) (a : Act) (w : World), (∀ x, Rel G (aeval N s x) (a.eval x)) → ∃ vals, RelL G args vals ∧ (execOp a.eval o).run E.P w = .ok (.enter f vals) w)
    (h : ACall E f args s.st fun r st' => K (AS.put ⟨s.t, st', s.df⟩ o.dst r)) : AOp E rd N o K s := by
  refine ⟨fun B0 w0 G a w hL hI K' Q hK => ?_⟩
  obtain ⟨vals, hv, hr⟩ := hrun G a w hI.eval
  refine ⟨fun _ _ => trivial, ?_⟩
  rw [semAt_eq hnd, hr, Oper.uponIn_enter]
  refine ⟨fun h => by simp [fw, Fence.wide] at h, callsIn_fw ((h.run B0 w0 G vals w hL hI.agree hv).mono ?_)⟩
  rintro e w' ⟨v, G', r, st', rfl, hG, hA, hR, hk⟩
  exact hK G' _ _ _ hG (hI.put hG hA o.dst hR) hk

/-- A loop: what holds at each round's head, and what each round lowers. -/
theorem awp_loop {c : Code} {Q : Exit → AS → Prop} {s : AS} (I : AS → Prop) (μ : AS → Nat) (h0 : I s)
    (hr : ∀ s, I s → AWp E rd N c (thenA (fun s' => I s' ∧ μ s' < μ s) Q) s) : AWp E rd N (.loop c) Q s := by
  refine ⟨fun B0 w0 G a w hL hI b k cs hro hb hroom => ?_⟩
  have key : ∀ n (s : AS) (G : Gh) (a : Act) (w : World), μ s = n → I s → Inv B0 w0 N G s a w →
      ∃ e a' w', (∃ (G' : Gh) (s' : AS), G.le G' ∧ Inv B0 w0 N G' s' a' w' ∧ Q e s') ∧ ArrivesIn (Machine.fenced E.P (fw rd)) E.P (lone (b.atR a (.code c :: .inLoop c :: k)) cs w) b k cs e a' w' := by
    intro n
    induction n using Nat.strongRecOn with
    | _ n ih =>
      intro s G a w hn hs hI
      obtain ⟨e, a1, w1, ⟨G1, s1, hG, hI1, hQ⟩, harr⟩ := (hr s hs).run B0 w0 G a w hL hI b (.inLoop c :: k) cs hro hb hroom
      cases e with
      | normal =>
        obtain ⟨hs1, hlt⟩ := hQ
        obtain ⟨e2, a2, w2, ⟨G2, s2, hG2, hI2, hQ2⟩, harr2⟩ := ih _ (hn ▸ hlt) s1 G1 a1 w1 rfl hs1 hI1
        exact ⟨e2, a2, w2, ⟨G2, s2, hG.trans hG2, hI2, hQ2⟩, .of_steps (StepsIn.trans harr (.one (fenced_calm hb hroom rfl) stepR_inLoop)) harr2⟩
      | exit id => exact ⟨_, a1, w1, ⟨G1, s1, hG, hI1, hQ⟩, .pass (x := .inLoop c) rfl (fun _ _ => .inl (by simp)) harr⟩
      | goto l => exact ⟨_, a1, w1, ⟨G1, s1, hG, hI1, hQ⟩, .pass (x := .inLoop c) rfl (fun _ _ => .inl (by simp)) harr⟩
      | ret => exact ⟨_, a1, w1, ⟨G1, s1, hG, hI1, hQ⟩, .pass (x := .inLoop c) rfl (fun _ _ => .inl (by simp)) harr⟩
      | panic ch => exact ⟨_, a1, w1, ⟨G1, s1, hG, hI1, hQ⟩, .pass (x := .inLoop c) rfl (fun _ _ => .inl (by simp)) harr⟩
      | outgrown => exact ⟨_, a1, w1, ⟨G1, s1, hG, hI1, hQ⟩, .pass (x := .inLoop c) rfl (fun _ _ => .inl (by simp)) harr⟩
  obtain ⟨e, a', w', hq, harr⟩ := key _ s G a w rfl h0 hI
  exact ⟨e, a', w', hq, .of_steps (.one (fenced_calm hb hroom rfl) stepR_loop) harr⟩
end
end Go.Av
