/- Struct literals and slice literals. Generic: names no program. -/
import Derived.Test.YtopmpdoigmenmaaDoorAb
import Derived.Laws.Tables
set_option linter.unusedVariables false
namespace Go.Av
open Go Go.RowKit

theorem fold_set : ∀ (vs : List Value) (off n : Nat) (c : Array Value), off + n + vs.length ≤ c.size →
    ((vs.zipIdx n).foldl (fun (cs : Array Value) (x : Value × Nat) => cs.setIfInBounds (off + x.2) x.1) c).size = c.size ∧
    ∀ k, ((vs.zipIdx n).foldl (fun (cs : Array Value) (x : Value × Nat) => cs.setIfInBounds (off + x.2) x.1) c)[k]? = if off + n ≤ k ∧ k < off + n + vs.length then vs[k - (off + n)]? else c[k]?
  | [], off, n, c, _ => ⟨by simp, fun k => by simp; intro h1 h2; omega⟩
  | v :: vs, off, n, c, h => by
    simp only [List.zipIdx_cons, List.foldl_cons, List.length_cons] at h ⊢
    obtain ⟨h1, h2⟩ := fold_set vs off (n + 1) (c.setIfInBounds (off + n) v) (by simp; omega)
    refine ⟨by rw [h1]; simp, fun k => ?_⟩
    rw [h2 k]
    by_cases hk : k = off + n
    · subst hk
      rw [if_neg (by omega), if_pos (by omega), Array.getElem?_setIfInBounds_self, if_pos (by omega)]
      simp
    · by_cases hr : off + n ≤ k ∧ k < off + n + (vs.length + 1)
      · rw [if_pos (by omega), if_pos hr]
        rw [show k - (off + n) = (k - (off + (n + 1))) + 1 by omega]
        simp
      · rw [if_neg (by omega), if_neg hr]
        rw [Array.getElem?_setIfInBounds, if_neg (by omega)]

/-- Parts laid over cells. -/
def fillA (place : Nat → Option (Nat × Nat)) (cells : List AV) : List (Nat × AV) → Option (List AV)
  | [] => some cells
  | (i, x) :: rest =>
    match place i with
    | none => none
    | some (off, size) => bif x.okc && Nat.beq x.cells.length size && Nat.ble (off + size) cells.length then fillA place (splice cells off x.cells) rest else none

theorem fill_rel {G : Gh} (place : Nat → Option (Nat × Nat)) : ∀ (ps : List (Nat × AV)) (vs : List (Nat × Value)) (cs : List AV) (c : Array Value) (cs' : List AV), ps.length = vs.length → (∀ (i : Nat) (p : Nat × AV) (v : Nat × Value), ps[i]? = some p → vs[i]? = some v → p.1 = v.1 ∧ Rel G p.2 v.2) →
    RelC G cs c → fillA place cs ps = some cs' → ∃ c', Instr.fill place c vs = some c' ∧ RelC G cs' c'
  | [], [], cs, c, cs', _, _, hc, h => by
    simp only [fillA, Option.some.injEq] at h
    subst h
    exact ⟨c, rfl, hc⟩
  | [], v :: vs, _, _, _, hl, _, _, _ => by simp at hl
  | p :: ps, [], _, _, _, hl, _, _, _ => by simp at hl
  | (i, x) :: ps, (j, v) :: vs, cs, c, cs', hl, hr, hc, h => by
    obtain ⟨e, hx⟩ := hr 0 _ _ rfl rfl
    simp only at e hx
    subst e
    simp only [fillA] at h
    simp only [Instr.fill]
    cases hp : place i with
    | none => simp [hp] at h
    | some q =>
      obtain ⟨off, size⟩ := q
      simp only [hp] at h ⊢
      cases hb : (x.okc && Nat.beq x.cells.length size && Nat.ble (off + size) cs.length) with
      | false => simp [hb] at h
      | true =>
        simp only [hb, cond_true] at h
        simp only [Bool.and_eq_true] at hb
        obtain ⟨⟨hok, hsz⟩, hle⟩ := hb
        have hsz := Nat.eq_of_beq_eq_true hsz
        have hle := Nat.le_of_ble_eq_true hle
        have hcx := hx.cells hok
        have hcs : v.cells.size = size := by rw [← hcx.1]; exact hsz
        have hfit : off + v.cells.size ≤ c.size := by rw [hcs, ← hc.1]; exact hle
        rw [if_neg (by simp [hcs]; rw [← hc.1]; exact hle)]
        have hfold : v.cells.zipIdx.foldl (fun cs (x : Value × Nat) => cs.setIfInBounds (off + x.2) x.1) c = (v.cells.toList.zipIdx 0).foldl (fun (cs : Array Value) (x : Value × Nat) => cs.setIfInBounds (off + x.2) x.1) c := by
          rw [← Array.foldl_toList, Array.toList_zipIdx]
        obtain ⟨g1, g2⟩ := fold_set v.cells.toList off 0 c (by simpa using hfit)
        have hnew : RelC G (splice cs off x.cells) ((v.cells.toList.zipIdx 0).foldl (fun (cs : Array Value) (x : Value × Nat) => cs.setIfInBounds (off + x.2) x.1) c) := by
          refine ⟨?_, fun k a y h1 h2 => ?_⟩
          · rw [g1, ← hc.1]
            simp [splice]
            omega
          · rw [g2] at h2
            have e1 : (cs.take off).length = off := by simp; omega
            simp only [splice, List.append_assoc] at h1
            by_cases hk : k < off
            · rw [List.getElem?_append_left (by omega), List.getElem?_take, if_pos hk] at h1
              rw [if_neg (by omega)] at h2
              exact hc.2 k a y h1 h2
            · rw [List.getElem?_append_right (by omega), e1] at h1
              by_cases hk2 : k - off < x.cells.length
              · rw [List.getElem?_append_left hk2] at h1
                rw [if_pos ⟨by omega, by simp; omega⟩] at h2
                exact hcx.2 (k - off) a y h1 (by simpa using h2)
              · rw [List.getElem?_append_right (by omega), List.getElem?_drop] at h1
                rw [if_neg (by simp; omega)] at h2
                rw [show off + x.cells.length + (k - off - x.cells.length) = k by omega] at h1
                exact hc.2 k a y h1 h2
        have := fill_rel place ps vs _ _ cs' (by simpa using hl) (fun i p v h1 h2 => hr (i + 1) p v (by simpa using h1) (by simpa using h2)) hnew h
        rw [← hfold] at this
        exact this

section
variable {E : Env} {rd : Option Nat} {N : Nat} {ops : Array Oper} {K : AS → Prop} {s : AS} {rest : List Oper} {d : Option Tmp} {T : TypeId} {p : String} {af : Array Edge}

def partsA (N : Nat) (s : AS) (parts : Array (Nat × Operand)) : List (Nat × AV) := parts.toList.map fun x => (x.1, aeval N s x.2)
def placesA (P : Program) (t : TypeId) : Option (List (Nat × Nat)) :=
  match P.underlying t with
  | some (.struct fs) => fs.toList.mapM (fun f => (P.info? f.type).map fun i => (f.offset, i.size))
  | _ => none

theorem parts_rel {B0 : Nat} {w0 : World} {G : Gh} {a : Act} {w : World} (hI : Inv B0 w0 N G s a w) (parts : Array (Nat × Operand)) : ∀ (i : Nat) (p : Nat × AV) (v : Nat × Value), (partsA N s parts)[i]? = some p → (parts.toList.map fun x => (x.1, a.eval x.2))[i]? = some v → p.1 = v.1 ∧ Rel G p.2 v.2 := fun i p v h1 h2 => by
  simp only [partsA, List.getElem?_map] at h1 h2
  cases hq : parts.toList[i]? with
  | none => simp [hq] at h1
  | some z => simp [hq] at h1 h2; subst h1; subst h2; exact ⟨rfl, hI.eval _⟩

/-- A struct literal. -/
theorem aops_build {t : TypeId} {parts : Array (Nat × Operand)} {zs cs : List AV} {pl : List (Nat × Nat)} (hz : zeroA E.P t = some zs) (hp : placesA E.P t = some pl) (hf : fillA (pl[·]?) zs (partsA N s parts) = some cs)
    (h : AOps E rd N ops rest K (s.put d (.ag cs))) : AOps E rd N ops (⟨d, .build t parts, T, p, af, none⟩ :: rest) K s := by
  refine aops_cons rfl (aop_of_run nofun fun B0 w0 G a w _ hI => ?_)
  obtain ⟨z, hrun, hr⟩ := zeroA_run hz w
  obtain ⟨c', h1, h2⟩ := fill_rel (pl[·]?) (partsA N s parts) (parts.toList.map fun x => (x.1, a.eval x.2)) zs z.cells cs (by simp [partsA]) (parts_rel hI parts) (hr G) hf
  unfold placesA at hp
  split at hp
  · rename_i fs hu
    refine ⟨.agg c', w, G, .ag cs, s.st, ?_, .refl G, hI.agree, .ag _ _ h2.1 h2.2, h⟩
    generalize a.eval = ρ at h1
    simp [execOp, Instr.build, run_underlying hu, hrun, Array.mapM_eq_mapM_toList, run_places w _ _ hp, h1]
  · simp at hp

/-- The cells that a slice literal starts from. -/
def zerosA (P : Program) (e : TypeId) (n : Nat) : Option (List AV) :=
  match P.info? e with
  | some i => bif Nat.beq (n * i.size) 0 then some [] else i.zero.map fun z => (List.range (n * i.size)).map fun k => .v (z.cells[k % z.cells.size]!)
  | none => none

/-- A slice literal: memory that nobody writes. -/
theorem aops_buildSlice {t e : TypeId} {len sz : Nat} {agg : Bool} {parts : Array (Nat × Operand)} {zs cs xs : List AV} (hu : E.P.underlying t = some (.slice e)) (ht : tyOf E.P e = some (sz, agg)) (hz : zerosA E.P e len = some zs)
    (hf : fillA (fun i => some (i * sz, sz)) zs (partsA N s parts) = some cs) (hxs : (partsA N s parts).map Prod.snd = xs) (hlen : xs.length = len) (hfl : flat xs = cs) (hw : xs.all (fun x => Nat.beq x.cells.length sz) = true) (hsz : Nat.ble (len * sz) 16777216 = true)
    (h : AOps E rd N ops rest K (s.put d (.sl sz xs none))) : AOps E rd N ops (⟨d, .buildSlice t len parts, T, p, af, none⟩ :: rest) K s := by
  refine aops_cons rfl (aop_of_run nofun fun B0 w0 G a w _ hI => ?_)
  have hsizeOf := (tyOf_info ht w).1
  have hsz := Nat.le_of_ble_eq_true hsz
  unfold zerosA at hz
  cases hi : E.P.info? e with
  | none => rw [hi] at hz; simp at hz
  | some i =>
    rw [hi] at hz
    simp only at hz
    have hs : i.size = sz := by simpa [sizeOf, typeInfo, hi] using hsizeOf
    rw [hs] at hz
    -- the array that the run starts from
    have key : ∃ c0 : Array Value, RelC G zs c0 ∧ ∀ (Q : Array Value → Sem Value), ((do
        let zero ← if len * sz = 0 then pure #[] else do pure (← zeroValue e).cells
        Q ((Array.range (len * sz)).map (zero[· % zero.size]!)) : Sem Value)).run E.P w = (Q c0).run E.P w := by
      by_cases h0 : len * sz = 0
      · rw [h0] at hz
        simp at hz
        subst hz
        exact ⟨#[], ⟨rfl, by simp⟩, fun Q => by have e : Array.range 0 = #[] := by simp [Array.range]
                                                simp [h0, e]⟩
      · have : Nat.beq (len * sz) 0 = false := beq_ne h0
        rw [this] at hz
        simp only [cond_false] at hz
        cases hzr : i.zero with
        | none => rw [hzr] at hz; simp at hz
        | some z =>
          rw [hzr] at hz
          simp only [Option.map_some, Option.some.injEq] at hz
          subst hz
          refine ⟨(Array.range (len * sz)).map (z.cells[· % z.cells.size]!), ⟨by simp, fun k x y h1 h2 => ?_⟩, fun Q => by simp [h0, zeroValue, typeInfo, hi, hzr]⟩
          have hk : k < len * sz := by have := lt_of_getElem? h1; simpa using this
          simp [hk] at h1 h2
          subst h1; subst h2
          exact .v _
    obtain ⟨c0, hc0, hrun0⟩ := key
    obtain ⟨c', h1, h2⟩ := fill_rel (fun i => some (i * sz, sz)) (partsA N s parts) (parts.toList.map fun x => (x.1, a.eval x.2)) zs c0 cs (by simp [partsA]) (parts_rel hI parts) hc0 hf
    obtain ⟨hle, hA⟩ := hI.agree.newPub e c' (0, 0) c'.toList (fun i y hy => by simpa using hy)
    refine ⟨.slice (some ⟨w.heap.size, 0, none⟩) len len, w.alloc (.cells c' e), _, .sl sz xs none, s.st, ?_, hle, hA, ?_, h⟩
    · generalize a.eval = ρ at h1
      have hb : ¬ 16777216 < len * sz := by omega
      have hg : ∃ m : String, (execOp ρ ⟨d, .buildSlice t len parts, T, p, af, none⟩).run E.P w = (((do
        let zero ← if len * sz = 0 then pure #[] else do pure (← zeroValue e).cells
        (fun c => (do
        let some cells := Instr.fill (fun i => some (i * sz, sz)) c (parts.map fun x => (x.1, ρ x.2)).toList | stuck m
        pure (Value.slice (some (← newRow e cells)) len len) : Sem Value)) ((Array.range (len * sz)).map (zero[· % zero.size]!)) : Sem Value)).run E.P w).andThen fun v w' => .ok (.value v) w' := by
        apply Exists.intro
        simp only [execOp, Instr.buildSlice]
        simp [run_underlying hu, hsizeOf, hb]
        rfl
      obtain ⟨m, hg⟩ := hg
      have hQ := hrun0 (fun c => do
        let some cells := Instr.fill (fun i => some (i * sz, sz)) c (parts.map fun x => (x.1, ρ x.2)).toList | stuck m
        pure (.slice (some (← newRow e cells)) len len))
      rw [hg, hQ]
      simp [h1, newRow, newObj, Sem.run]
    · rw [← hlen]
      cases xs with
      | nil => exact .sl0 sz none _ _ (by simp)
      | cons x0 xr =>
        refine .sl sz _ none w.heap.size 0 _ c'.toList (by simp [Gh.publish]) (fun x hx => ?_) (by rw [hfl, h2.1]; simp) (fun k x y g1 g2 => ?_) (fun t ht => by simp at ht)
        · exact Nat.eq_of_beq_eq_true (List.all_eq_true.1 hw x hx)
        · rw [hfl] at g1
          exact (h2.2 k x y g1 (by simpa using g2)).mono hle
end
end Go.Av
