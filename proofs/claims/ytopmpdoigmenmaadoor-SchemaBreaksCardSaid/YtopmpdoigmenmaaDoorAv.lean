/- Abstract values: what a value of the program's reads as, and the ghost state that ties them to memory. Generic: names no program. -/
import Derived.WalkKit
import Derived.Below
set_option linter.unusedVariables false
namespace Go.Av
open Go Go.RowKit

/-- What a value reads as. 'sl': a slice over memory that nobody writes any more (its elements are known; 'tip': it may be appended to in place); 'pp': an address in such memory (the cells from there on); 'bx', 'os': an address in, a slice over, a block of the calls' own that may be written. -/
inductive AV where
  | v (x : Value)
  | ag (cs : List AV)
  | tu (vs : List AV)
  | ifc (t : TypeId) (x : AV)
  | fn (f : Fn) (a b : List AV)
  | sl (sz : Nat) (xs : List AV) (tip : Option Nat)
  | pp (cs : List AV)
  | bx (o ver off : Nat)
  | os (o ver off len : Nat)
  | mp (o : Nat)
  | yd (o : Nat)
  deriving Inhabited

def AV.cells : AV → List AV
  | .ag cs => cs
  | x => [x]

def flat (xs : List AV) : List AV := xs.flatMap AV.cells

structure Ob where
  ver : Nat
  blk : Nat
  cap : Nat
  raw : Bool

structure Gh where
  pub : Nat → Option (List Value)
  ob : Nat → Ob
  n : Nat

def TipOk (G : Gh) (tip : Option Nat) (b off sz len cap : Nat) : Prop :=
  ∀ t, tip = some t → t < G.n ∧ len ≠ 0 ∧ len ≤ (G.ob t).ver ∧ ((G.ob t).ver = len → (G.ob t).blk = b ∧ off = 0 ∧ cap * sz = (G.ob t).cap ∧ cap ≤ maxLen ∧ len ≤ cap)

inductive Rel (G : Gh) : AV → Value → Prop
  | v (x : Value) : Rel G (.v x) x
  | ag (cs : List AV) (vs : Array Value) (hl : cs.length = vs.size) (h : ∀ (i : Nat) (x : AV) (y : Value), cs[i]? = some x → vs[i]? = some y → Rel G x y) : Rel G (.ag cs) (.agg vs)
  | tu (cs : List AV) (vs : Array Value) (hl : cs.length = vs.size) (h : ∀ (i : Nat) (x : AV) (y : Value), cs[i]? = some x → vs[i]? = some y → Rel G x y) : Rel G (.tu cs) (.tuple vs)
  | ifc (t : TypeId) (x : AV) (y : Value) (h : Rel G x y) : Rel G (.ifc t x) (.iface t y)
  | fn (f : Fn) (a b : List AV) (a' b' : Array Value) (hl : a.length = a'.size) (hl' : b.length = b'.size) (h : ∀ (i : Nat) (x : AV) (y : Value), a[i]? = some x → a'[i]? = some y → Rel G x y) (h' : ∀ (i : Nat) (x : AV) (y : Value), b[i]? = some x → b'[i]? = some y → Rel G x y) : Rel G (.fn f a b) (.func f a' b')
  | sl0 (sz : Nat) (tip : Option Nat) (base : Option Addr) (cap : Nat) (ht : ∀ t, tip = some t → t < G.n ∧ base = none ∧ cap = 0) : Rel G (.sl sz [] tip) (.slice base 0 cap)
  | sl (sz : Nat) (xs : List AV) (tip : Option Nat) (b off cap : Nat) (pub : List Value) (hp : G.pub b = some pub) (hw : ∀ x ∈ xs, x.cells.length = sz) (hlen : off + (flat xs).length ≤ pub.length) (h : ∀ (i : Nat) (x : AV) (y : Value), (flat xs)[i]? = some x → pub[off + i]? = some y → Rel G x y) (ht : TipOk G tip b off sz xs.length cap) : Rel G (.sl sz xs tip) (.slice (some ⟨b, off, none⟩) xs.length cap)
  | pp (cs : List AV) (b off : Nat) (pub : List Value) (hp : G.pub b = some pub) (hlen : off + cs.length ≤ pub.length) (h : ∀ (i : Nat) (x : AV) (y : Value), cs[i]? = some x → pub[off + i]? = some y → Rel G x y) : Rel G (.pp cs) (.pointer (some ⟨b, off, none⟩))
  | bx (o ver off b : Nat) (hn : o < G.n) (hv : ver ≤ (G.ob o).ver) (h : (G.ob o).ver = ver → (G.ob o).blk = b) : Rel G (.bx o ver off) (.pointer (some ⟨b, off, none⟩))
  | os (o ver off len b cap : Nat) (hn : o < G.n) (hv : ver ≤ (G.ob o).ver) (h : (G.ob o).ver = ver → (G.ob o).blk = b) : Rel G (.os o ver off len) (.slice (some ⟨b, off, none⟩) len cap)
  | mp (o b : Nat) (hn : o < G.n) (hr : (G.ob o).raw = true) (h : (G.ob o).blk = b) : Rel G (.mp o) (.map (some b))
  | yd (o b : Nat) (hn : o < G.n) (hr : (G.ob o).raw = true) (h : (G.ob o).blk = b) : Rel G (.yd o) (.func (.yield b) #[] #[])

structure Gh.le (G G' : Gh) : Prop where
  pub : ∀ b vs, G.pub b = some vs → ∃ ext, G'.pub b = some (vs ++ ext)
  n : G.n ≤ G'.n
  ver : ∀ o, o < G.n → (G.ob o).ver ≤ (G'.ob o).ver
  same : ∀ o, o < G.n → (G'.ob o).ver = (G.ob o).ver → G'.ob o = G.ob o
  raw : ∀ o, o < G.n → (G.ob o).raw = true → G'.ob o = G.ob o

theorem Gh.le.refl (G : Gh) : G.le G := ⟨fun b vs h => ⟨[], by simpa using h⟩, Nat.le_refl _, fun _ _ => Nat.le_refl _, fun _ _ _ => rfl, fun _ _ _ => rfl⟩

theorem Gh.le.trans {A B C : Gh} (h : A.le B) (k : B.le C) : A.le C := by
  refine ⟨fun b vs hv => ?_, Nat.le_trans h.n k.n, fun o ho => Nat.le_trans (h.ver o ho) (k.ver o (Nat.lt_of_lt_of_le ho h.n)), fun o ho hv => ?_, fun o ho hr => ?_⟩
  · obtain ⟨e, he⟩ := h.pub b vs hv
    obtain ⟨e', he'⟩ := k.pub b _ he
    exact ⟨e ++ e', by simpa using he'⟩
  · have h1 := h.ver o ho
    have h2 := k.ver o (Nat.lt_of_lt_of_le ho h.n)
    have e1 : (B.ob o).ver = (A.ob o).ver := by omega
    have e2 := h.same o ho e1
    have e3 := k.same o (Nat.lt_of_lt_of_le ho h.n) (by omega)
    rw [e3, e2]
  · have e1 := h.raw o ho hr
    rw [k.raw o (Nat.lt_of_lt_of_le ho h.n) (by rw [e1]; exact hr), e1]

theorem getElem?_append_of {α : Type} {l ext : List α} {i : Nat} {y : α} (h : (l ++ ext)[i]? = some y) (hi : i < l.length) : l[i]? = some y := by
  rwa [List.getElem?_append_left hi] at h

theorem lt_of_getElem? {α : Type} {l : List α} {i : Nat} {x : α} (h : l[i]? = some x) : i < l.length := by
  rcases Nat.lt_or_ge i l.length with h' | h'
  · exact h'
  · simp [List.getElem?_eq_none h'] at h

theorem Rel.mono {G G' : Gh} (hG : G.le G') {a : AV} {v : Value} (h : Rel G a v) : Rel G' a v := by
  induction h with
  | v x => exact .v x
  | ag cs vs hl _ ih => exact .ag cs vs hl ih
  | tu cs vs hl _ ih => exact .tu cs vs hl ih
  | ifc t x y _ ih => exact .ifc t x y ih
  | fn f a b a' b' hl hl' _ _ ih ih' => exact .fn f a b a' b' hl hl' ih ih'
  | sl0 sz tip base cap ht => exact .sl0 sz tip base cap fun t h => ⟨Nat.lt_of_lt_of_le (ht t h).1 hG.n, (ht t h).2⟩
  | sl sz xs tip b off cap pub hp hw hlen _ ht ih =>
    obtain ⟨ext, he⟩ := hG.pub b pub hp
    refine .sl sz xs tip b off cap (pub ++ ext) he hw (by rw [List.length_append]; omega) (fun i x y hx hy => ih i x y hx (getElem?_append_of hy (by have := lt_of_getElem? hx; omega))) ?_
    intro t hte
    obtain ⟨h1, h0, h3, h2⟩ := ht t hte
    have := hG.ver t h1
    refine ⟨Nat.lt_of_lt_of_le h1 hG.n, h0, by omega, fun hv => ?_⟩
    rw [hG.same t h1 (by omega)]
    exact h2 (by omega)
  | pp cs b off pub hp hlen _ ih =>
    obtain ⟨ext, he⟩ := hG.pub b pub hp
    exact .pp cs b off (pub ++ ext) he (by rw [List.length_append]; omega) (fun i x y hx hy => ih i x y hx (getElem?_append_of hy (by have := lt_of_getElem? hx; omega)))
  | bx o ver off b hn hv h =>
    have := hG.ver o hn
    exact .bx o ver off b (Nat.lt_of_lt_of_le hn hG.n) (by omega) (fun hv' => by rw [hG.same o hn (by omega)]; exact h (by omega))
  | os o ver off len b cap hn hv h =>
    have := hG.ver o hn
    exact .os o ver off len b cap (Nat.lt_of_lt_of_le hn hG.n) (by omega) (fun hv' => by rw [hG.same o hn (by omega)]; exact h (by omega))
  | mp o b hn hr h =>
    have e := hG.raw o hn hr
    exact .mp o b (Nat.lt_of_lt_of_le hn hG.n) (by rw [e]; exact hr) (by rw [e]; exact h)
  | yd o b hn hr h =>
    have e := hG.raw o hn hr
    exact .yd o b (Nat.lt_of_lt_of_le hn hG.n) (by rw [e]; exact hr) (by rw [e]; exact h)

/-- What hangs on unwritten memory alone. -/
def Pure (a : AV) : Prop := ∀ (G G' : Gh) (v : Value), (∀ b vs, G.pub b = some vs → ∃ ext, G'.pub b = some (vs ++ ext)) → Rel G a v → Rel G' a v

theorem pure_v (x : Value) : Pure (.v x) := fun _ _ _ _ h => by cases h; exact .v x
theorem pure_ag {cs : List AV} (h : ∀ x ∈ cs, Pure x) : Pure (.ag cs) := fun G G' v hp hr => by
  cases hr with
  | ag _ vs hl hr => exact .ag _ vs hl fun i x y hx hy => h x (List.mem_of_getElem? hx) G G' y hp (hr i x y hx hy)
theorem pure_tu {cs : List AV} (h : ∀ x ∈ cs, Pure x) : Pure (.tu cs) := fun G G' v hp hr => by
  cases hr with
  | tu _ vs hl hr => exact .tu _ vs hl fun i x y hx hy => h x (List.mem_of_getElem? hx) G G' y hp (hr i x y hx hy)
theorem pure_ifc {t : TypeId} {x : AV} (h : Pure x) : Pure (.ifc t x) := fun G G' v hp hr => by
  cases hr with
  | ifc _ _ y hr => exact .ifc t x y (h G G' y hp hr)
theorem pure_cells {x : AV} (h : Pure x) : ∀ y ∈ x.cells, Pure y ∨ ∃ cs, x = .ag cs := fun y hy => by
  cases x with
  | ag cs => exact .inr ⟨cs, rfl⟩
  | _ => simp [AV.cells] at hy; subst hy; exact .inl h
/-- Every cell of a value is pure. -/
def PureC (a : AV) : Prop := ∀ x ∈ a.cells, Pure x
theorem pure_of_pureC {a : AV} (h : PureC a) : Pure a := by
  cases a with
  | ag cs => exact pure_ag h
  | _ => exact h _ (by simp [AV.cells])
theorem mem_flat {xs : List AV} {x : AV} (h : x ∈ flat xs) : ∃ y ∈ xs, x ∈ y.cells := by simpa [flat] using h
theorem pure_sl {sz : Nat} {xs : List AV} (h : ∀ x ∈ xs, PureC x) : Pure (.sl sz xs none) := fun G G' v hp hr => by
  cases hr with
  | sl0 => exact .sl0 sz none _ _ (by simp)
  | sl _ _ _ b off cap pub hpb hw hlen hr ht =>
    obtain ⟨ext, he⟩ := hp b pub hpb
    refine .sl sz xs none b off cap (pub ++ ext) he hw (by rw [List.length_append]; omega) (fun i x y hx hy => ?_) (fun t ht => by simp at ht)
    obtain ⟨z, hz, hxz⟩ := mem_flat (List.mem_of_getElem? hx)
    exact h z hz x hxz G G' y hp (hr i x y hx (getElem?_append_of hy (by have := lt_of_getElem? hx; omega)))
theorem pure_pp {cs : List AV} (h : ∀ x ∈ cs, Pure x) : Pure (.pp cs) := fun G G' v hp hr => by
  cases hr with
  | pp _ b off pub hpb hlen hr =>
    obtain ⟨ext, he⟩ := hp b pub hpb
    exact .pp cs b off (pub ++ ext) he (by rw [List.length_append]; omega) fun i x y hx hy => h x (List.mem_of_getElem? hx) G G' y hp (hr i x y hx (getElem?_append_of hy (by have := lt_of_getElem? hx; omega)))
end Go.Av
