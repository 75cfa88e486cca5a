/- The abstract store against memory: new blocks, stores, what stays. Generic: names no program. -/
import Derived.Test.YtopmpdoigmenmaaDoorAo
set_option linter.unusedVariables false
namespace Go.Av
open Go Go.RowKit

def Gh.new (G : Gh) (ver b cap : Nat) (raw : Bool) : Gh := ⟨G.pub, fun o => if o = G.n then ⟨ver, b, cap, raw⟩ else G.ob o, G.n + 1⟩
def Gh.publish (G : Gh) (b : Nat) (vs : List Value) : Gh := ⟨fun k => if k = b then some vs else G.pub k, G.ob, G.n⟩
def Gh.cut (G : Gh) (n : Nat) : Gh := ⟨G.pub, G.ob, n⟩
def Gh.setOb (G : Gh) (o : Nat) (x : Ob) : Gh := ⟨G.pub, fun k => if k = o then x else G.ob k, G.n⟩

theorem Gh.le_new (G : Gh) (ver b cap : Nat) (raw : Bool) : G.le (G.new ver b cap raw) := by
  refine ⟨fun b vs h => ⟨[], by simpa [Gh.new] using h⟩, Nat.le_succ _, fun o ho => ?_, fun o ho _ => ?_, fun o ho _ => ?_⟩ <;> simp [Gh.new, Nat.ne_of_lt ho]
theorem Gh.le_publish (G : Gh) (b : Nat) (vs old ext : List Value) (h : G.pub b = none ∨ G.pub b = some old ∧ vs = old ++ ext) : G.le (G.publish b vs) := by
  refine ⟨fun k ws hk => ?_, Nat.le_refl _, fun o _ => Nat.le_refl _, fun o _ _ => rfl, fun o _ _ => rfl⟩
  by_cases e : k = b
  · subst e
    rcases h with h | ⟨h, rfl⟩
    · rw [h] at hk; simp at hk
    · rw [h] at hk; simp at hk; subst hk
      exact ⟨ext, by simp [Gh.publish]⟩
  · exact ⟨[], by simpa [Gh.publish, e] using hk⟩
theorem Gh.le_setOb (G : Gh) (o : Nat) (x : Ob) (h : (G.ob o).ver < x.ver) (hr : (G.ob o).raw = false) : G.le (G.setOb o x) := by
  refine ⟨fun k ws hk => ⟨[], by simpa [Gh.setOb] using hk⟩, Nat.le_refl _, fun k _ => ?_, fun k _ hv => ?_, fun k _ hv => ?_⟩
  · by_cases e : k = o
    · subst e; simp [Gh.setOb]; omega
    · simp [Gh.setOb, e]
  · by_cases e : k = o
    · subst e; simp [Gh.setOb] at hv; omega
    · simp [Gh.setOb, e]
  · by_cases e : k = o
    · subst e; rw [hr] at hv; simp at hv
    · simp [Gh.setOb, e]
theorem Gh.le.cut {G G' : Gh} (h : G.le G') : G.le (G'.cut G.n) := ⟨h.pub, Nat.le_refl _, h.ver, h.same, h.raw⟩

section
variable {B0 : Nat} {w0 : World} {G : Gh} {st : List AObj} {w : World}

theorem ObOk.mono {G' : Gh} {w' : World} {o : Nat} {x : AObj} (h : ObOk B0 G w o x) (hG : G.le G') (ho : G'.ob o = G.ob o)
    (hp : x.live → G'.pub (G.ob o).blk = G.pub (G.ob o).blk) (hw : x.live → w'.heap[(G.ob o).blk]? = w.heap[(G.ob o).blk]?) : ObOk B0 G' w' o x := by
  cases x with
  | dead => trivial
  | dfr =>
    obtain ⟨h1, h2, h3⟩ := h
    exact ⟨by rw [ho]; exact h1, by rw [ho]; exact h2, by rw [ho, hw trivial]; exact h3⟩
  | loop ls pend N t ps asg body =>
    obtain ⟨h1, h2, r, h3, h4, h5, h6, h7, h8, h9, h10⟩ := h
    exact ⟨by rw [ho]; exact h1, by rw [ho]; exact h2, r, by rw [ho, hw trivial]; exact h3, h4, h5, h6, h7, h8, h9, fun i y hy => (h10 i y hy).mono hG⟩
  | cells ver T cs =>
    obtain ⟨h0, h1, h2, h3, c, h4, h5, h6⟩ := h
    refine ⟨by rw [ho]; exact h0, by rw [ho]; exact h1, by rw [ho]; exact h2, by rw [ho, hp trivial]; exact h3, c, by rw [ho, hw trivial]; exact h4, h5, fun i x y hx hy => (h6 i x y hx hy).mono hG⟩
  | row ver T cs =>
    obtain ⟨h0, h1, h2, h3, c, fz, h4, h5, h6, h7⟩ := h
    exact ⟨by rw [ho]; exact h0, by rw [ho]; exact h1, by rw [ho]; exact h2, by rw [ho, hp trivial]; exact h3, c, fz, by rw [ho, hw trivial]; exact h4, h5, h6, fun i x y hx hy => (h7 i x y hx hy).mono hG⟩
  | tip n sz T =>
    obtain ⟨h0, h1, h2⟩ := h
    refine ⟨by rw [ho]; exact h0, by rw [ho]; exact h1, fun hn => ?_⟩
    obtain ⟨h3, c, vs, h4, h5, h6, h7⟩ := h2 hn
    exact ⟨by rw [ho]; exact h3, c, vs, by rw [ho, hw hn]; exact h4, by rw [ho, hp hn]; exact h5, h6, by rw [ho]; exact h7⟩

theorem ObOk.lt {o : Nat} {x : AObj} (h : ObOk B0 G w o x) (hx : x.live) : (G.ob o).blk < w.heap.size := by
  have key : ∀ {y : Obj}, w.heap[(G.ob o).blk]? = some y → (G.ob o).blk < w.heap.size := fun {y} hy => by
    rcases Nat.lt_or_ge (G.ob o).blk w.heap.size with h' | h'
    · exact h'
    · simp [Array.getElem?_eq_none h'] at hy
  cases x with
  | dead => exact hx.elim
  | dfr => exact key h.2.2
  | loop ls pend N t ps asg body => obtain ⟨_, _, r, h4, _⟩ := h; exact key h4
  | cells ver T cs => obtain ⟨_, _, _, _, c, h4, _⟩ := h; exact key h4
  | row ver T cs => obtain ⟨_, _, _, _, c, fz, h4, _⟩ := h; exact key h4
  | tip n sz T => obtain ⟨_, c, vs, h4, _⟩ := h.2.2 hx; exact key h4

theorem ObOk.ge {o : Nat} {x : AObj} (h : ObOk B0 G w o x) (hx : x.live) : B0 ≤ (G.ob o).blk := by
  cases x with
  | dead => exact hx.elim
  | dfr => exact h.2.1
  | loop ls pend N t ps asg body => exact h.2.1
  | cells ver T cs => exact h.2.2.1
  | row ver T cs => exact h.2.2.1
  | tip n sz T => exact (h.2.2 hx).1

theorem Agree.pub_lt (h : Agree B0 w0 G st w) {b : Nat} {vs : List Value} (hb : G.pub b = some vs) : b < w.heap.size := by
  obtain ⟨c, T, fz, hc, _⟩ := h.pub b vs hb
  rcases Nat.lt_or_ge b w.heap.size with h' | h'
  · exact h'
  · simp [Array.getElem?_eq_none h'] at hc

/-- Memory turned elsewhere. -/
theorem Agree.frame (h : Agree B0 w0 G st w) {w' : World} (hb : Below B0 w w') (hp : ∀ b vs, G.pub b = some vs → w'.heap[b]? = w.heap[b]?)
    (ho : ∀ o x, st[o]? = some x → x.live → w'.heap[(G.ob o).blk]? = w.heap[(G.ob o).blk]?) : Agree B0 w0 G st w' := by
  refine ⟨h.below.trans hb, Nat.le_trans h.hB hb.size, h.n, fun b vs hv => ?_, fun o x hx => (h.ob o x hx).mono (.refl G) rfl (fun _ => rfl) (ho o x hx), h.sep⟩
  rw [hp b vs hv]
  exact h.pub b vs hv

/-- Blocks of a callee's own, and draws. -/
theorem Agree.fresh (h : Agree B0 w0 G st w) {w' : World} (hb : Below w.heap.size w w') : Agree B0 w0 G st w' :=
  h.frame (hb.mono h.hB) (fun b vs hv => hb.block b (h.pub_lt hv)) (fun o x hx hl => hb.block _ ((h.ob o x hx).lt hl))

theorem getElem?_snoc {α : Type} (l : List α) (a : α) (i : Nat) : (l ++ [a])[i]? = if i < l.length then l[i]? else if i = l.length then some a else none := by
  rcases Nat.lt_trichotomy i l.length with h | h | h
  · simp [h, List.getElem?_append_left h]
  · subst h; simp
  · rw [List.getElem?_append_right (by omega), if_neg (by omega), if_neg (by omega)]
    exact List.getElem?_eq_none (by simp; omega)

theorem heap_alloc_new (w : World) (o : Obj) : (w.alloc o).heap[w.heap.size]? = some o := by
  show (w.heap.push o)[w.heap.size]? = _
  simp
theorem heap_alloc_old (w : World) (o : Obj) (b : Nat) (h : b < w.heap.size) : (w.alloc o).heap[b]? = w.heap[b]? := Below.heap_alloc w o b h

/-- A new block that the calls may write. -/
theorem Agree.newCells (h : Agree B0 w0 G st w) (T : TypeId) (c : Array Value) (cs : List AV) (hl : cs.length = c.size)
    (hr : ∀ (i : Nat) (x : AV) (y : Value), cs[i]? = some x → c[i]? = some y → Rel G x y) :
    Agree B0 w0 (G.new 0 w.heap.size c.size false) (st ++ [.cells 0 T cs]) (w.alloc (.cells c T)) := by
  have hle := G.le_new 0 w.heap.size c.size false
  have hold : ∀ o x, st[o]? = some x → (G.new 0 w.heap.size c.size false).ob o = G.ob o := fun o x hx => by
    have := lt_of_getElem? hx
    have := h.n
    simp [Gh.new, show o ≠ G.n by omega]
  have hnew : (G.new 0 w.heap.size c.size false).ob st.length = ⟨0, w.heap.size, c.size, false⟩ := by simp [Gh.new, h.n]
  refine ⟨h.below.alloc h.hB _, by simp; have := h.hB; omega, by simp [Gh.new, h.n], fun b vs hb => ?_, fun o x hx => ?_, fun o o' x x' hne hx hx' hl hl' => ?_⟩
  · rw [heap_alloc_old w _ b (h.pub_lt hb)]; exact h.pub b vs hb
  · rw [getElem?_snoc] at hx
    by_cases ho : o < st.length
    · rw [if_pos ho] at hx
      exact (h.ob o x hx).mono hle (hold o x hx) (fun _ => rfl) (fun hl => heap_alloc_old w _ _ ((h.ob o x hx).lt hl))
    · rw [if_neg ho] at hx
      by_cases ho' : o = st.length
      · subst ho'
        rw [if_pos rfl] at hx
        simp only [Option.some.injEq] at hx
        subst hx
        refine ⟨by rw [hnew], by rw [hnew], by rw [hnew]; exact h.hB, ?_, c, by rw [hnew]; exact heap_alloc_new w _, hl, fun i x y hx hy => (hr i x y hx hy).mono hle⟩
        rw [hnew]
        cases hp : G.pub w.heap.size with
        | none => exact hp
        | some vs => exact absurd (h.pub_lt hp) (Nat.lt_irrefl _)
      · rw [if_neg ho'] at hx; simp at hx
  · rw [getElem?_snoc] at hx hx'
    by_cases ho : o < st.length
    · rw [if_pos ho] at hx
      by_cases ho2 : o' < st.length
      · rw [if_pos ho2] at hx'
        rw [hold o x hx, hold o' x' hx']; exact h.sep o o' x x' hne hx hx' hl hl'
      · rw [if_neg ho2] at hx'
        by_cases ho3 : o' = st.length
        · subst ho3
          rw [hold o x hx, hnew]
          have := (h.ob o x hx).lt hl
          exact Nat.ne_of_lt this
        · rw [if_neg ho3] at hx'; simp at hx'
    · rw [if_neg ho] at hx
      by_cases ho' : o = st.length
      · subst ho'
        by_cases ho2 : o' < st.length
        · rw [if_pos ho2] at hx'
          rw [hold o' x' hx', hnew]
          have := (h.ob o' x' hx').lt hl'
          exact Nat.ne_of_gt this
        · rw [if_neg ho2] at hx'
          by_cases ho3 : o' = st.length
          · omega
          · rw [if_neg ho3] at hx'; simp at hx'
      · rw [if_neg ho'] at hx; simp at hx

/-- A new block that nobody will write. -/
theorem Agree.newPub (h : Agree B0 w0 G st w) (T : TypeId) (c : Array Value) (fz : Nat × Nat) (vs : List Value) (hv : ∀ (i : Nat) (y : Value), vs[i]? = some y → c[i]? = some y) :
    G.le (G.publish w.heap.size vs) ∧ Agree B0 w0 (G.publish w.heap.size vs) st (w.alloc (.cells c T fz)) := by
  have hn : G.pub w.heap.size = none := by
    cases hp : G.pub w.heap.size with
    | none => rfl
    | some vs => exact absurd (h.pub_lt hp) (Nat.lt_irrefl _)
  have hle := G.le_publish w.heap.size vs [] [] (.inl hn)
  refine ⟨hle, h.below.alloc h.hB _, by simp; have := h.hB; omega, h.n, fun b ws hb => ?_, fun o x hx => ?_, h.sep⟩
  · by_cases e : b = w.heap.size
    · subst e
      simp [Gh.publish] at hb
      subst hb
      exact ⟨c, T, fz, heap_alloc_new w _, hv⟩
    · have hb' : G.pub b = some ws := by simpa [Gh.publish, e] using hb
      rw [heap_alloc_old w _ b (h.pub_lt hb')]
      exact h.pub b ws hb'
  · refine (h.ob o x hx).mono hle rfl (fun hl => ?_) (fun hl => heap_alloc_old w _ _ ((h.ob o x hx).lt hl))
    have := (h.ob o x hx).lt hl
    simp [Gh.publish, Nat.ne_of_lt this]

/-- A new tip, with no block yet. -/
theorem Agree.newTip (h : Agree B0 w0 G st w) (sz : Nat) (T : TypeId) : Agree B0 w0 (G.new 0 0 0 false) (st ++ [.tip 0 sz T]) w := by
  have hle := G.le_new 0 0 0 false
  have hold : ∀ o x, st[o]? = some x → (G.new 0 0 0 false).ob o = G.ob o := fun o x hx => by
    have := lt_of_getElem? hx
    have := h.n
    simp [Gh.new, show o ≠ G.n by omega]
  refine ⟨h.below, h.hB, by simp [Gh.new, h.n], h.pub, fun o x hx => ?_, fun o o' x x' hne hx hx' hl hl' => ?_⟩
  · rw [getElem?_snoc] at hx
    by_cases ho : o < st.length
    · rw [if_pos ho] at hx
      exact (h.ob o x hx).mono hle (hold o x hx) (fun _ => rfl) (fun _ => rfl)
    · rw [if_neg ho] at hx
      by_cases ho' : o = st.length
      · subst ho'
        rw [if_pos rfl] at hx
        simp only [Option.some.injEq] at hx
        subst hx
        exact ⟨by simp [Gh.new, h.n], by simp [Gh.new, h.n], fun hn => absurd rfl hn⟩
      · rw [if_neg ho'] at hx; simp at hx
  · rw [getElem?_snoc] at hx hx'
    have key : ∀ o x, (if o < st.length then st[o]? else if o = st.length then some (AObj.tip 0 sz T) else none) = some x → x.live → st[o]? = some x := fun o x hx hl => by
      by_cases ho : o < st.length
      · rwa [if_pos ho] at hx
      · rw [if_neg ho] at hx
        by_cases ho' : o = st.length
        · rw [if_pos ho'] at hx; simp only [Option.some.injEq] at hx; subst hx; exact absurd rfl hl
        · rw [if_neg ho'] at hx; simp at hx
    have h1 := key o x hx hl
    have h2 := key o' x' hx' hl'
    rw [hold o x h1, hold o' x' h2]
    exact h.sep o o' x x' hne h1 h2 hl hl'

end

/-- It names objects below n alone. -/
inductive Low (n : Nat) : AV → Prop
  | v (x : Value) : Low n (.v x)
  | ag (cs : List AV) (h : ∀ (i : Nat) (x : AV), cs[i]? = some x → Low n x) : Low n (.ag cs)
  | tu (cs : List AV) (h : ∀ (i : Nat) (x : AV), cs[i]? = some x → Low n x) : Low n (.tu cs)
  | ifc (t : TypeId) (x : AV) (h : Low n x) : Low n (.ifc t x)
  | fn (f : Fn) (a b : List AV) (h : ∀ (i : Nat) (x : AV), a[i]? = some x → Low n x) (h' : ∀ (i : Nat) (x : AV), b[i]? = some x → Low n x) : Low n (.fn f a b)
  | sl (sz : Nat) (xs : List AV) (tip : Option Nat) (h : ∀ (i : Nat) (x : AV), (flat xs)[i]? = some x → Low n x) (ht : ∀ t, tip = some t → t < n) : Low n (.sl sz xs tip)
  | pp (cs : List AV) (h : ∀ (i : Nat) (x : AV), cs[i]? = some x → Low n x) : Low n (.pp cs)
  | bx (o ver off : Nat) (h : o < n) : Low n (.bx o ver off)
  | os (o ver off len : Nat) (h : o < n) : Low n (.os o ver off len)
  | mp (o : Nat) (h : o < n) : Low n (.mp o)
  | yd (o : Nat) (h : o < n) : Low n (.yd o)

theorem get_of_len {α β : Type} {l : List α} {m : List β} {i : Nat} {x : α} (h : l[i]? = some x) (hl : l.length ≤ m.length) : ∃ y, m[i]? = some y :=
  ⟨m[i]'(Nat.lt_of_lt_of_le (lt_of_getElem? h) hl), by simp⟩
theorem get_of_size {α β : Type} {l : List α} {m : Array β} {i : Nat} {x : α} (h : l[i]? = some x) (hl : l.length ≤ m.size) : ∃ y, m[i]? = some y :=
  ⟨m[i]'(Nat.lt_of_lt_of_le (lt_of_getElem? h) hl), by simp⟩

theorem Rel.low {G : Gh} {a : AV} {v : Value} (h : Rel G a v) : Low G.n a := by
  induction h with
  | v x => exact .v x
  | ag cs vs hl _ ih => exact .ag cs fun i x hx => let ⟨y, hy⟩ := get_of_size hx (Nat.le_of_eq hl); ih i x y hx hy
  | tu cs vs hl _ ih => exact .tu cs fun i x hx => let ⟨y, hy⟩ := get_of_size hx (Nat.le_of_eq hl); ih i x y hx hy
  | ifc t x y _ ih => exact .ifc t x ih
  | fn f a b a' b' hl hl' _ _ ih ih' => exact .fn f a b (fun i x hx => let ⟨y, hy⟩ := get_of_size hx (Nat.le_of_eq hl); ih i x y hx hy) (fun i x hx => let ⟨y, hy⟩ := get_of_size hx (Nat.le_of_eq hl'); ih' i x y hx hy)
  | sl0 sz tip base cap ht => exact .sl sz [] tip (by simp [flat]) (fun t h => (ht t h).1)
  | sl sz xs tip b off cap pub hp hw hlen _ ht ih =>
    refine .sl sz xs tip (fun i x hx => ?_) (fun t h => (ht t h).1)
    have hi := lt_of_getElem? hx
    exact ih i x _ hx (List.getElem?_eq_getElem (by omega))
  | pp cs b off pub hp hlen _ ih =>
    refine .pp cs fun i x hx => ?_
    have hi := lt_of_getElem? hx
    exact ih i x _ hx (List.getElem?_eq_getElem (by omega))
  | bx o ver off b hn hv h => exact .bx o ver off hn
  | os o ver off len b cap hn hv h => exact .os o ver off len hn
  | mp o b hn hr h => exact .mp o hn
  | yd o b hn hr h => exact .yd o hn

theorem Rel.cut {G : Gh} {n : Nat} {a : AV} {v : Value} (h : Rel G a v) (hl : Low n a) : Rel (G.cut n) a v := by
  induction h with
  | v x => exact .v x
  | ag cs vs hl' _ ih => cases hl with | ag _ hx => exact .ag cs vs hl' fun i x y h1 h2 => ih i x y h1 h2 (hx i x h1)
  | tu cs vs hl' _ ih => cases hl with | tu _ hx => exact .tu cs vs hl' fun i x y h1 h2 => ih i x y h1 h2 (hx i x h1)
  | ifc t x y _ ih => cases hl with | ifc _ _ hx => exact .ifc t x y (ih hx)
  | fn f a b a' b' h1 h2 _ _ ih ih' => cases hl with | fn _ _ _ hx hx' => exact .fn f a b a' b' h1 h2 (fun i x y g1 g2 => ih i x y g1 g2 (hx i x g1)) (fun i x y g1 g2 => ih' i x y g1 g2 (hx' i x g1))
  | sl0 sz tip base cap ht => cases hl with | sl _ _ _ hx hx' => exact .sl0 sz tip base cap fun t h => ⟨hx' t h, (ht t h).2⟩
  | sl sz xs tip b off cap pub hp hw hlen _ ht ih =>
    cases hl with | sl _ _ _ hx hx' => exact .sl sz xs tip b off cap pub hp hw hlen (fun i x y g1 g2 => ih i x y g1 g2 (hx i x g1)) fun t h => ⟨hx' t h, (ht t h).2⟩
  | pp cs b off pub hp hlen _ ih => cases hl with | pp _ hx => exact .pp cs b off pub hp hlen fun i x y g1 g2 => ih i x y g1 g2 (hx i x g1)
  | bx o ver off b hn hv h => cases hl with | bx _ _ _ hx => exact .bx o ver off b hx hv h
  | os o ver off len b cap hn hv h => cases hl with | os _ _ _ _ hx => exact .os o ver off len b cap hx hv h
  | mp o b hn hr h => cases hl with | mp _ hx => exact .mp o b hx hr h
  | yd o b hn hr h => cases hl with | yd _ hx => exact .yd o b hx hr h

/-- Objects from n on may be let go. -/
def Cut (n : Nat) (a : AV) : Prop := ∀ (G : Gh) (v : Value), Rel G a v → Rel (G.cut n) a v
theorem cut_of_low {n : Nat} {a : AV} (h : Low n a) : Cut n a := fun _ _ hr => hr.cut h
theorem cut_of_pure {n : Nat} {a : AV} (h : Pure a) : Cut n a := fun G v hr => h G _ v (fun b vs hb => ⟨[], by simpa [Gh.cut] using hb⟩) hr
theorem cut_ag {n : Nat} {cs : List AV} (h : ∀ x ∈ cs, Cut n x) : Cut n (.ag cs) := fun G v hr => by
  cases hr with
  | ag _ vs hl hr => exact .ag _ vs hl fun i x y hx hy => h x (List.mem_of_getElem? hx) G y (hr i x y hx hy)
theorem cut_tu {n : Nat} {cs : List AV} (h : ∀ x ∈ cs, Cut n x) : Cut n (.tu cs) := fun G v hr => by
  cases hr with
  | tu _ vs hl hr => exact .tu _ vs hl fun i x y hx hy => h x (List.mem_of_getElem? hx) G y (hr i x y hx hy)

def CutOb (n : Nat) : AObj → Prop
  | .cells _ _ cs => ∀ x ∈ cs, Cut n x
  | .row _ _ cs => ∀ x ∈ cs, Cut n x
  | .loop _ _ N t _ _ _ => ∀ i, i < N → Cut n (t i)
  | _ => True

section
variable {B0 : Nat} {w0 : World} {G : Gh} {st : List AObj} {w : World}

theorem ObOk.cut {o n : Nat} {x : AObj} (h : ObOk B0 G w o x) (hx : CutOb n x) : ObOk B0 (G.cut n) w o x := by
  cases x with
  | dead => trivial
  | cells ver T cs =>
    obtain ⟨h0, h1, h2, h3, c, h4, h5, h6⟩ := h
    exact ⟨h0, h1, h2, h3, c, h4, h5, fun i x y hx' hy => hx x (List.mem_of_getElem? hx') G y (h6 i x y hx' hy)⟩
  | row ver T cs =>
    obtain ⟨h0, h1, h2, h3, c, fz, h4, h5, h6, h7⟩ := h
    exact ⟨h0, h1, h2, h3, c, fz, h4, h5, h6, fun i x y hx' hy => hx x (List.mem_of_getElem? hx') G y (h7 i x y hx' hy)⟩
  | tip n sz T => exact h
  | dfr => exact h
  | loop ls pend N t ps asg body =>
    obtain ⟨h1, h2, r, h3, h4, h5, h6, h7, h8, h9, h10⟩ := h
    exact ⟨h1, h2, r, h3, h4, h5, h6, h7, h8, h9, fun i y hy => hx i (by have := (Array.getElem?_eq_some_iff.1 hy).1; omega) G y (h10 i y hy)⟩

theorem Agree.cutOb (h : Agree B0 w0 G st w) {o : Nat} {x : AObj} (hx : st[o]? = some x) : CutOb st.length x := by
  cases x with
  | cells ver T cs =>
    intro x hm
    obtain ⟨i, hi⟩ := List.getElem?_of_mem hm
    obtain ⟨_, _, _, _, c, _, h5, h6⟩ := h.ob o _ hx
    obtain ⟨y, hy⟩ := get_of_size hi (Nat.le_of_eq h5)
    have := (h6 i x y hi hy).low
    rw [h.n] at this
    exact cut_of_low this
  | row ver T cs =>
    intro x hm
    obtain ⟨i, hi⟩ := List.getElem?_of_mem hm
    obtain ⟨_, _, _, _, c, fz, _, _, h5, h6⟩ := h.ob o _ hx
    obtain ⟨y, hy⟩ := get_of_size hi h5
    have := (h6 i x y hi hy).low
    rw [h.n] at this
    exact cut_of_low this
  | loop ls pend N t ps asg body =>
    intro i hi
    obtain ⟨_, _, r, _, _, _, _, _, _, h9, h10⟩ := h.ob o _ hx
    have := (h10 i r.tmps[i] (by simp [h9, hi])).low
    rw [h.n] at this
    exact cut_of_low this
  | _ => trivial

/-- Later objects are let go. -/
theorem Agree.drop {ext : List AObj} (h : Agree B0 w0 G (st ++ ext) w) (hc : ∀ (o : Nat) (x : AObj), st[o]? = some x → CutOb st.length x) : Agree B0 w0 (G.cut st.length) st w := by
  have hle : ∀ {o x}, st[o]? = some x → (st ++ ext)[o]? = some x := fun {o x} hx => by rw [List.getElem?_append_left (lt_of_getElem? hx)]; exact hx
  exact ⟨h.below, h.hB, rfl, h.pub, fun o x hx => (h.ob o x (hle hx)).cut (hc o x hx), fun o o' x x' hne hx hx' => h.sep o o' x x' hne (hle hx) (hle hx')⟩
end

/-- A call's own objects are let go at its end. -/
theorem acall_ret {E : Env} {f : FuncId} {args : List AV} {st : List AObj} {R : AV → List AObj → Prop}
    (h : ACall E f args st fun r st2 => ∃ st1 ext, st2 = st1 ++ ext ∧ st1.length = st.length ∧ (∀ (o : Nat) (x : AObj), st1[o]? = some x → st[o]? = some x ∨ CutOb st.length x) ∧ Cut st.length r ∧ R r st1) : ACall E f args st R := by
  refine ⟨fun B0 w0 G vals w hL hA hR => ?_⟩
  refine (h.run B0 w0 G vals w hL hA hR).mono ?_
  rintro e w' ⟨v, G', r, st2, he, hG, hA', hr, st1, ext, rfl, hl, hc, hcr, hRR⟩
  have hle := hG.cut
  rw [hA.n] at hle
  refine ⟨v, G'.cut st.length, r, st1, he, hle, ?_, hcr G' v hr, hRR⟩
  rw [← hl] at hc ⊢
  refine hA'.drop fun o x hx => ?_
  rcases hc o x hx with h' | h'
  · rw [hl]; exact hA.cutOb h'
  · exact h'

/-- A function of values alone. -/
theorem acall_pure {E : Env} {f : FuncId} {args : List AV} {st : List AObj} {r0 : AV} (hp : Pure r0)
    (h : ACall E f args st fun r st2 => r = r0 ∧ ∃ ext, st2 = st ++ ext) : ACall E f args st fun r st' => r = r0 ∧ st' = st :=
  acall_ret (h.mono fun r st2 ⟨hr, ext, he⟩ => ⟨st, ext, he, rfl, fun _ _ hx => .inl hx, by rw [hr]; exact cut_of_pure hp, hr, rfl⟩)
end Go.Av
