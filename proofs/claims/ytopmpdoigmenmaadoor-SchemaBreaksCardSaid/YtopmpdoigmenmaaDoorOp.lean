/- Arguments that are slices and structs: opened to abstract values over a ghost that holds the start's own memory. Generic: names no program. -/
import Derived.Test.YtopmpdoigmenmaaDoorEn
import Derived.Deep.Slices
import Derived.Deep.Fields
import Derived.WideKeyArgs
set_option linter.unusedVariables false
namespace Go.Av
open Go Go.RowKit Go.WideShapes Go.ChangeShapes Go.Deep

/-- All cells that stand at the start are published. -/
def gW (W : World) : Gh := ⟨fun b => match W.heap[b]? with | some (.cells c _ _) => some c.toList | _ => none, fun _ => ⟨0, 0, 0, false⟩, 0⟩
theorem gW_pub {W : World} {b : Nat} {c : Array Value} {T : TypeId} {fz : Nat × Nat} (h : W.heap[b]? = some (.cells c T fz)) : (gW W).pub b = some c.toList := by
  simp [gW, h]
theorem agree_startW (W : World) : Agree W.heap.size W (gW W) [] W := by
  refine ⟨Below.refl _ _, Nat.le_refl _, rfl, fun b vs h => ?_, fun o x h => by simp at h, fun o o' x x' _ h => by simp at h⟩
  simp only [gW] at h
  split at h
  · rename_i c T fz hb
    cases h
    exact ⟨c, T, fz, hb, fun i y hy => by simpa using hy⟩
  · cases h
theorem calls_of_acallW {E : Env} {f : FuncId} {args : List AV} {vals : Array Value} {b : Bool} {W : World} (h : ACall E f args [] fun r st' => r = Bv b ∧ st' = []) (hL : E.L W.heap.size W) (ha : RelL (gW W) args vals) :
    Calls E.P f vals W fun e w' => e = .returned (.bool b) ∧ Below W.heap.size W w' := by
  refine (h.run W.heap.size W (gW W) vals W hL (agree_startW W) ha).mono ?_
  rintro e w' ⟨v, G', r, st', rfl, _, hA, hr, rfl, _⟩
  cases hr
  exact ⟨rfl, hA.below⟩
theorem relL_nil {G : Gh} : RelL G [] #[] := ⟨rfl, fun i x y h => by simp at h⟩
theorem relL_cons {G : Gh} {a : AV} {us : List AV} {v : Value} {vs : List Value} (h : Rel G a v) (hs : RelL G us vs.toArray) : RelL G (a :: us) (v :: vs).toArray := by
  refine ⟨by simpa using hs.1, fun i x y hx hy => ?_⟩
  cases i with
  | zero => simp at hx hy; subst hx; subst hy; exact h
  | succ i => exact hs.2 i x y (by simpa using hx) (by simpa using hy)
/-- Cells, abstract against concrete. -/
def RelK (G : Gh) (us : List AV) (cs : List Value) : Prop := us.length = cs.length ∧ ∀ (i : Nat) (x : AV) (y : Value), us[i]? = some x → cs[i]? = some y → Rel G x y
theorem relK_one {G : Gh} {a : AV} {v : Value} (h : Rel G a v) : RelK G [a] [v] := ⟨rfl, fun i x y hx hy => by
  cases i with
  | zero => simp at hx hy; subst hx; subst hy; exact h
  | succ i => simp at hx⟩
theorem RelK.one {G : Gh} {a : AV} {v : Value} (h : RelK G [a] [v]) : Rel G a v := h.2 0 a v rfl rfl
/-- What a type's places read as. -/
def Opn (P : Program) (t : TypeId) (S : AV → Prop) : Prop := ∀ (H : Type) (enc : TypeId × Value → H) (W : World) (fuel : Nat) (cs : List Value) (x : DataW H × List MemPlace),
  DataW.trod enc P W 0 (fun _ => true) true fuel t cs = some x → ∃ a, S a ∧ RelK (gW W) a.cells cs
def IsS (a : AV) : Prop := ∃ l : List UInt8, a = Sv l ∧ l.length ≤ maxLen
def IsI (k : IntKind) (a : AV) : Prop := ∃ n : Int, a = .v (.int k n) ∧ (Lit.int k n).wf = true
def IsB (a : AV) : Prop := ∃ b : Bool, a = Bv b
def IsSl (sz : Nat) (S : AV → Prop) (a : AV) : Prop := ∃ xs : List AV, a = .sl sz xs none ∧ xs.length ≤ maxLen ∧ ∀ x ∈ xs, S x
def IsAg (Ss : List (AV → Prop)) (a : AV) : Prop := ∃ vs : List AV, a = .ag vs ∧ vs.length = Ss.length ∧ ∀ (i : Nat) (S : AV → Prop) (v : AV), Ss[i]? = some S → vs[i]? = some v → S v
def One (S : AV → Prop) : Prop := ∀ a, S a → a.cells = [a]
theorem one_s : One IsS := by rintro _ ⟨l, rfl, _⟩; rfl
theorem one_i (k : IntKind) : One (IsI k) := by rintro _ ⟨l, rfl, _⟩; rfl
theorem one_b : One IsB := by rintro _ ⟨l, rfl⟩; rfl
theorem one_sl (sz : Nat) (S : AV → Prop) : One (IsSl sz S) := by rintro _ ⟨l, rfl, _⟩; rfl
theorem sv_of (s : ByteArray) : Sv s.data.toList = .v (.string s) := by cases s; simp
theorem opn_s {P : Program} {t : TypeId} (hu : P.underlying t = some .string) : Opn P t IsS := by
  intro H enc W fuel cs x h
  obtain ⟨s, rfl, _, hs⟩ := DataW.trod_string hu h
  refine ⟨Sv s.data.toList, ⟨_, rfl, by simpa using hs⟩, relK_one ?_⟩
  rw [sv_of]
  exact .v _
theorem opn_i {P : Program} {t : TypeId} {k : IntKind} (hu : P.underlying t = some (.int k)) : Opn P t (IsI k) := by
  intro H enc W fuel cs x h
  obtain ⟨n, rfl, _, hs⟩ := DataW.trod_int hu h
  exact ⟨_, ⟨n, rfl, hs⟩, relK_one (.v _)⟩
theorem opn_b {P : Program} {t : TypeId} (hu : P.underlying t = some .bool) : Opn P t IsB := by
  intro H enc W fuel cs x h
  obtain ⟨n, rfl, _⟩ := DataW.trod_bool hu h
  exact ⟨_, ⟨n, rfl⟩, relK_one (.v _)⟩
theorem choose_list {n : Nat} {Q : Nat → AV → Prop} (h : ∀ i, i < n → ∃ a, Q i a) : ∃ vs : List AV, vs.length = n ∧ ∀ i v, vs[i]? = some v → Q i v := by
  induction n with
  | zero => exact ⟨[], rfl, fun i v h => by simp at h⟩
  | succ n ih =>
    obtain ⟨vs, hl, hv⟩ := ih fun i hi => h i (by omega)
    obtain ⟨a, ha⟩ := h n (by omega)
    refine ⟨vs ++ [a], by simp [hl], fun i v hi => ?_⟩
    rcases Nat.lt_or_ge i n with hc | hc
    · rw [List.getElem?_append_left (by omega)] at hi
      exact hv i v hi
    · rw [List.getElem?_append_right (by omega)] at hi
      have : i - vs.length = 0 := by
        rcases Nat.eq_zero_or_pos (i - vs.length) with h0 | h0
        · exact h0
        · rw [List.getElem?_eq_none (by simp; omega)] at hi; cases hi
      rw [this] at hi
      simp at hi
      subst hi
      have : i = n := by omega
      subst this
      exact ha
theorem opn_ag {P : Program} {t : TypeId} {fs : Array Field} {Ss : List (AV → Prop)} (hu : P.underlying t = some (.struct fs)) (hone : oneCellFields P fs = true) (hC : P.cellsOf t = fs.size) (hl : Ss.length = fs.size)
    (hS : ∀ (i : Nat) (f : Field) (S : AV → Prop), fs[i]? = some f → Ss[i]? = some S → Opn P f.type S ∧ One S) : Opn P t (IsAg Ss) := by
  intro H enc W fuel cs x h
  obtain ⟨xs, n, _, _, hcl, hxl, hf⟩ := DataW.trod_struct hu h
  have hcs : cs.length = fs.size := hcl.trans hC
  have step : ∀ i, i < fs.size → ∃ a : AV, (∀ S, Ss[i]? = some S → S a) ∧ ∀ y, cs[i]? = some y → Rel (gW W) a y := by
    intro i hi
    have hfi : fs[i]? = some fs[i] := Array.getElem?_eq_getElem hi
    have hSi : Ss[i]? = some (Ss[i]'(by omega)) := List.getElem?_eq_getElem (by omega)
    obtain ⟨hO, h1⟩ := hS i _ _ hfi hSi
    obtain ⟨ho, hk⟩ := hone_of hone i _ hfi
    have ht := hf i _ hfi
    rw [ho, hk] at ht
    have hd : (cs.drop i).take 1 = [cs[i]'(by omega)] := by
      rw [List.drop_eq_getElem_cons (by omega)]
      rfl
    rw [hd, List.getElem?_eq_getElem (by omega)] at ht
    obtain ⟨a, ha, hr⟩ := hO H enc W n _ _ ht
    rw [h1 a ha] at hr
    refine ⟨a, fun S hs => ?_, fun y hy => ?_⟩
    · rw [hSi] at hs; cases hs; exact ha
    · rw [List.getElem?_eq_getElem (by omega)] at hy; cases hy; exact hr.one
  obtain ⟨vs, hvl, hv⟩ := choose_list step
  refine ⟨.ag vs, ⟨vs, rfl, by omega, fun i S v hs hvi => (hv i v hvi).1 S hs⟩, by show vs.length = cs.length; omega, fun i x y hx hy => (hv i x hx).2 y hy⟩
theorem cell_at {W : World} {a : Addr} {n : Nat} {v : Value} (h : W.cell? (a.add n) = some v) : ∃ (c : Array Value) (T : TypeId) (fz : Nat × Nat), W.heap[a.block]? = some (.cells c T fz) ∧ c[a.off + n]? = some v ∧ (n = 0 → a.spot = none) := by
  unfold World.cell? Addr.add at h
  by_cases hn : n = 0
  · subst hn
    simp only [if_true] at h
    split at h
    · rename_i c T fz hb
      split at h
      · cases h
      · rename_i hs
        exact ⟨c, T, fz, hb, by simpa using h, fun _ => by simpa using hs⟩
    · cases h
  · rw [if_neg hn] at h
    simp only at h
    split at h
    · rename_i c T fz hb
      exact ⟨c, T, fz, hb, by simpa using h, fun e => absurd e hn⟩
    · cases h
theorem opn_sl {P : Program} {t e : TypeId} {sz : Nat} {S : AV → Prop} (hu : P.underlying t = some (.slice e)) (hC : P.cellsOf e = sz) (hz : 0 < sz) (hS : Opn P e S) : Opn P t (IsSl sz S) := by
  intro H enc W fuel cs x h
  rcases open_slice hu h with ⟨rfl, _⟩ | ⟨a, len, cap, m, n, D, Pl, rfl, _, hlc, hcm, hm, _, hel⟩
  · exact ⟨.sl sz [] none, ⟨[], rfl, by simp, by simp⟩, relK_one (.sl0 sz none _ _ (by simp))⟩
  · have hm' : len ≤ m := by rw [hm]; simpa using hlc
    rw [hC] at hel
    have step : ∀ i, i < len → ∃ y : AV, S y ∧ y.cells.length = sz ∧ ∀ j, j < sz → ∃ (u : AV) (v : Value), y.cells[j]? = some u ∧ W.cell? (a.add (i * sz + j)) = some v ∧ Rel (gW W) u v := by
      intro i hi
      obtain ⟨cs', hc, ht⟩ := hel i (by omega)
      obtain ⟨_, hcl, hat⟩ := World.cells?_some hc
      obtain ⟨y, hy, hr⟩ := hS H enc W n cs' _ ht
      refine ⟨y, hy, hr.1.trans hcl, fun j hj => ?_⟩
      have h1 : y.cells[j]? = some (y.cells[j]'(by rw [hr.1, hcl]; exact hj)) := List.getElem?_eq_getElem _
      have h2 : cs'[j]? = some (cs'[j]'(by omega)) := List.getElem?_eq_getElem _
      refine ⟨_, _, h1, ?_, hr.2 j _ _ h1 h2⟩
      rw [← Go.Deep.add_add, hat j hj, h2]
    obtain ⟨xs, hxl, hx⟩ := choose_list step
    have hmem : ∀ y ∈ xs, S y ∧ y.cells.length = sz := fun y hy => by
      obtain ⟨i, hi, rfl⟩ := List.mem_iff_getElem.1 hy
      have := hx i xs[i] (List.getElem?_eq_getElem hi)
      exact ⟨this.1, this.2.1⟩
    refine ⟨.sl sz xs none, ⟨xs, rfl, by omega, fun y hy => (hmem y hy).1⟩, relK_one ?_⟩
    rcases Nat.eq_zero_or_pos len with h0 | h0
    · subst h0
      have : xs = [] := List.length_eq_zero_iff.1 hxl
      subst this
      exact .sl0 sz none _ _ (by simp)
    · have hfl : (flat xs).length = len * sz := by rw [flat_length fun y hy => (hmem y hy).2, hxl]
      have at0 : ∀ k, k < len * sz → ∃ (u : AV) (v : Value), (flat xs)[k]? = some u ∧ W.cell? (a.add k) = some v ∧ Rel (gW W) u v := by
        intro k hk
        have hq : k / sz < len := (Nat.div_lt_iff_lt_mul hz).2 hk
        have hr : k % sz < sz := Nat.mod_lt _ hz
        have e : k / sz * sz + k % sz = k := by rw [Nat.mul_comm]; exact Nat.div_add_mod k sz
        have hxi : xs[k / sz]? = some (xs[k / sz]'(by omega)) := List.getElem?_eq_getElem _
        obtain ⟨_, _, hj⟩ := hx _ _ hxi
        obtain ⟨u, v, h1, h2, h3⟩ := hj _ hr
        have := flat_get (sz := sz) (fun y hy => (hmem y hy).2) hxi _ hr
        rw [e] at this h2
        exact ⟨u, v, this.trans h1, h2, h3⟩
      have hpos : 0 < len * sz := Nat.mul_pos h0 hz
      obtain ⟨_, _, _, hc0, _⟩ := at0 0 hpos
      obtain ⟨c, T, fz, hb, _, hspot⟩ := cell_at hc0
      have hin : ∀ k, k < len * sz → ∃ (u : AV) (v : Value), (flat xs)[k]? = some u ∧ c.toList[a.off + k]? = some v ∧ Rel (gW W) u v := by
        intro k hk
        obtain ⟨u, v, h1, h2, h3⟩ := at0 k hk
        obtain ⟨c', T', fz', hb', hv, _⟩ := cell_at h2
        rw [hb] at hb'
        cases hb'
        exact ⟨u, v, h1, by simpa using hv, h3⟩
      obtain ⟨b, off, spot⟩ := a
      have hs := hspot rfl
      simp only at hs hb hin
      subst hs
      rw [← hxl]
      refine .sl sz xs none b off cap c.toList (gW_pub hb) (fun y hy => (hmem y hy).2) ?_ ?_ ?_
      · obtain ⟨_, _, _, hv, _⟩ := hin (len * sz - 1) (by omega)
        have := (List.getElem?_eq_some_iff.1 hv).1
        omega
      · intro i x y hx' hy'
        have hi : i < len * sz := by rw [← hfl]; exact (List.getElem?_eq_some_iff.1 hx').1
        obtain ⟨u, v, h1, h2, h3⟩ := hin i hi
        rw [hx'] at h1
        rw [hy'] at h2
        cases h1
        cases h2
        exact h3
      · intro t ht
        simp at ht
def fieldsOf (P : Program) (t : TypeId) : Array Field := match P.underlying t with | some (.struct fs) => fs | _ => #[]
theorem opn_fields {P : Program} {t : TypeId} {As : List (Option TypeDesc × (AV → Prop))} (hu : P.underlying t = some (.struct (fieldsOf P t))) (hone : oneCellFields P (fieldsOf P t) = true) (hC : P.cellsOf t = (fieldsOf P t).size)
    (hF : (fieldsOf P t).toList.map (fun f => P.underlying f.type) = As.map Prod.fst) (hA : ∀ p ∈ As, (∀ u, P.underlying u = p.1 → Opn P u p.2) ∧ One p.2) : Opn P t (IsAg (As.map Prod.snd)) := by
  have hl : As.length = (fieldsOf P t).size := by have := congrArg List.length hF; simpa using this.symm
  refine opn_ag hu hone hC (by simpa using hl) fun i f S hf hS => ?_
  obtain ⟨p, hp, rfl⟩ : ∃ p, As[i]? = some p ∧ p.2 = S := by simpa using hS
  have h1 : ((fieldsOf P t).toList.map (fun f => P.underlying f.type))[i]? = some (P.underlying f.type) := by simp [hf]
  rw [hF, List.getElem?_map, hp] at h1
  obtain ⟨a, b⟩ := hA p (List.mem_of_getElem? hp)
  exact ⟨a _ (by simpa using h1.symm), b⟩
theorem all_map {α : Type} {g : α → AV} : ∀ {xs : List AV}, (∀ x ∈ xs, ∃ r, x = g r) → ∃ rs : List α, xs = rs.map g
  | [], _ => ⟨[], rfl⟩
  | x :: xs, h => by
    obtain ⟨r, rfl⟩ := h x (by simp)
    obtain ⟨rs, rfl⟩ := all_map (xs := xs) fun y hy => h y (by simp [hy])
    exact ⟨r :: rs, rfl⟩
/-- An argument of a slice's type, opened. -/
theorem arg_sl {H : Type} {enc : TypeId × Value → H} {P : Program} {W : World} {r : Reach} {b0 : Nat} {t e : TypeId} {S : AV → Prop} {v : Value} {d : DataW H} {ps : List MemPlace} (hu : P.underlying t = some (.slice e)) (hO : Opn P t S) (h1 : One S) (hval : Value.okWide P W r b0 t v) (hd : DataW.Trod enc P W 0 (fun _ => true) true t v d ps) :
    ∃ a, S a ∧ Rel (gW W) a v := by
  obtain ⟨a, len, cap, rfl⟩ := okWide_slice hu hval
  obtain ⟨fuel, hf⟩ := hd
  obtain ⟨y, hy, hr⟩ := hO H enc W fuel _ _ hf
  rw [h1 y hy] at hr
  exact ⟨y, hy, RelK.one (by simpa [Value.cells] using hr)⟩
theorem rel_s {G : Gh} (s : ByteArray) : Rel G (Sv s.data.toList) (.string s) := by rw [sv_of]; exact .v _
/-- What an argument reads as is as it was. -/
theorem arg_same {H : Type} {enc : TypeId × Value → H} {P : Program} {W W' : World} {t : TypeId} (hl : laidOutB P = true) (hr : P.readableRec t = true) (hrow : t < P.types.size) {sp : Nat → Bool} {v : Value} {d : DataW H} {ps : List MemPlace}
    (hd : DataW.Trod enc P W 0 (fun _ => true) true t v d ps) (hb : Below W.heap.size W W') (hlt : ∀ p ∈ ps, p.block < W.heap.size) (hs : ∀ p ∈ ps, sp p.block = true) : DataW.Trod enc P W' 0 sp true t v d ps :=
  Go.WideElems.Trod_stays hl hr hrow hd (fun p hp => hb.same (hlt p hp)) hs
end Go.Av
