/- Contracts and plain facts that the closing text leans on (part 2). No condition of their own beyond those that each states. -/
import Derived.Test.YtplagcbifecagaaGreatDoorK1
import Derived.Laws.Tables
import Derived.Test.YtplagcbifecagaaGreatDoorSh
import Derived.Test.YtplagcbifecagaaGreatDoorRows
import Derived.LaidHandle
import Derived.ProofKit
import Derived.OpenShut
import Derived.ShutString
import Derived.Deep.DeepHandedRow
import Derived.Deep.DeepWitnessRowRef
import Derived.Lib.LaidU8
import Derived.Lib.SmallJoins
import Derived.ChangeSame
import Derived.ChangeAgain
import Derived.Lay
import Derived.Lib.Index
import Derived.Lib.SlTrimSet
import Derived.Shelf.Strings.Prefix
import Derived.Shelf.Strings.Cut
import Derived.Lib.ItoaNum
import Derived.Lib.AtoiAll
import Derived.Lib.Repeat
import Derived.Lib.SplitLaws
import Derived.Shelf.Strings.SplitShaped
import Derived.Deep.Slices
import Derived.Deep.Fields
import Derived.WideKeyArgs
import Derived.Lib.ItoaLen
set_option maxRecDepth 100000
set_option linter.unusedVariables false
set_option linter.unusedSimpArgs false
set_option linter.unusedVariables false
namespace Go.Av
open Go Go.RowKit
theorem fold_set : ∀ (vs : List Value) (off n : Nat) (c : Array Value), off + n + vs.length ≤ c.size →
    ((vs.zipIdx n).foldl (fun (cs : Array Value) (x : Value × Nat) => cs.setIfInBounds (off + x.2) x.1) c).size = c.size ∧
    ∀ k, ((vs.zipIdx n).foldl (fun (cs : Array Value) (x : Value × Nat) => cs.setIfInBounds (off + x.2) x.1) c)[k]? = if off + n ≤ k ∧ k < off + n + vs.length then vs[k - (off + n)]? else c[k]?
  | [], off, n, c, _ => ⟨by simp, fun k => by simp; intro h1 h2; omega⟩
  | v :: vs, off, n, c, h => by
    simp only [List.zipIdx_cons, List.foldl_cons, List.length_cons] at h ⊢
    obtain ⟨h1, h2⟩ := fold_set vs off (n + 1) (c.setIfInBounds (off + n) v) (by simp; omega)
    refine ⟨by rw [h1]; simp, fun k => ?_⟩
    rw [h2 k]
    by_cases hk : k = off + n
    · subst hk
      rw [if_neg (by omega), if_pos (by omega), Array.getElem?_setIfInBounds_self, if_pos (by omega)]
      simp
    · by_cases hr : off + n ≤ k ∧ k < off + n + (vs.length + 1)
      · rw [if_pos (by omega), if_pos hr]
        rw [show k - (off + n) = (k - (off + (n + 1))) + 1 by omega]
        simp
      · rw [if_neg (by omega), if_neg hr]
        rw [Array.getElem?_setIfInBounds, if_neg (by omega)]
def fillA (place : Nat → Option (Nat × Nat)) (cells : List AV) : List (Nat × AV) → Option (List AV)
  | [] => some cells
  | (i, x) :: rest =>
    match place i with
    | none => none
    | some (off, size) => bif x.okc && Nat.beq x.cells.length size && Nat.ble (off + size) cells.length then fillA place (splice cells off x.cells) rest else none
theorem fill_rel {G : Gh} (place : Nat → Option (Nat × Nat)) : ∀ (ps : List (Nat × AV)) (vs : List (Nat × Value)) (cs : List AV) (c : Array Value) (cs' : List AV), ps.length = vs.length → (∀ (i : Nat) (p : Nat × AV) (v : Nat × Value), ps[i]? = some p → vs[i]? = some v → p.1 = v.1 ∧ Rel G p.2 v.2) →
    RelC G cs c → fillA place cs ps = some cs' → ∃ c', Instr.fill place c vs = some c' ∧ RelC G cs' c'
  | [], [], cs, c, cs', _, _, hc, h => by
    simp only [fillA, Option.some.injEq] at h
    subst h
    exact ⟨c, rfl, hc⟩
  | [], v :: vs, _, _, _, hl, _, _, _ => by simp at hl
  | p :: ps, [], _, _, _, hl, _, _, _ => by simp at hl
  | (i, x) :: ps, (j, v) :: vs, cs, c, cs', hl, hr, hc, h => by
    obtain ⟨e, hx⟩ := hr 0 _ _ rfl rfl
    simp only at e hx
    subst e
    simp only [fillA] at h
    simp only [Instr.fill]
    cases hp : place i with
    | none => simp [hp] at h
    | some q =>
      obtain ⟨off, size⟩ := q
      simp only [hp] at h ⊢
      cases hb : (x.okc && Nat.beq x.cells.length size && Nat.ble (off + size) cs.length) with
      | false => simp [hb] at h
      | true =>
        simp only [hb, cond_true] at h
        simp only [Bool.and_eq_true] at hb
        obtain ⟨⟨hok, hsz⟩, hle⟩ := hb
        have hsz := Nat.eq_of_beq_eq_true hsz
        have hle := Nat.le_of_ble_eq_true hle
        have hcx := hx.cells hok
        have hcs : v.cells.size = size := by rw [← hcx.1]; exact hsz
        have hfit : off + v.cells.size ≤ c.size := by rw [hcs, ← hc.1]; exact hle
        rw [if_neg (by simp [hcs]; rw [← hc.1]; exact hle)]
        have hfold : v.cells.zipIdx.foldl (fun cs (x : Value × Nat) => cs.setIfInBounds (off + x.2) x.1) c = (v.cells.toList.zipIdx 0).foldl (fun (cs : Array Value) (x : Value × Nat) => cs.setIfInBounds (off + x.2) x.1) c := by
          rw [← Array.foldl_toList, Array.toList_zipIdx]
        obtain ⟨g1, g2⟩ := fold_set v.cells.toList off 0 c (by simpa using hfit)
        have hnew : RelC G (splice cs off x.cells) ((v.cells.toList.zipIdx 0).foldl (fun (cs : Array Value) (x : Value × Nat) => cs.setIfInBounds (off + x.2) x.1) c) := by
          refine ⟨?_, fun k a y h1 h2 => ?_⟩
          · rw [g1, ← hc.1]
            simp [splice]
            omega
          · rw [g2] at h2
            have e1 : (cs.take off).length = off := by simp; omega
            simp only [splice, List.append_assoc] at h1
            by_cases hk : k < off
            · rw [List.getElem?_append_left (by omega), List.getElem?_take, if_pos hk] at h1
              rw [if_neg (by omega)] at h2
              exact hc.2 k a y h1 h2
            · rw [List.getElem?_append_right (by omega), e1] at h1
              by_cases hk2 : k - off < x.cells.length
              · rw [List.getElem?_append_left hk2] at h1
                rw [if_pos ⟨by omega, by simp; omega⟩] at h2
                exact hcx.2 (k - off) a y h1 (by simpa using h2)
              · rw [List.getElem?_append_right (by omega), List.getElem?_drop] at h1
                rw [if_neg (by simp; omega)] at h2
                rw [show off + x.cells.length + (k - off - x.cells.length) = k by omega] at h1
                exact hc.2 k a y h1 h2
        have := fill_rel place ps vs _ _ cs' (by simpa using hl) (fun i p v h1 h2 => hr (i + 1) p v (by simpa using h1) (by simpa using h2)) hnew h
        rw [← hfold] at this
        exact this
section
variable {E : Env} {rd : Option Nat} {N : Nat} {ops : Array Oper} {K : AS → Prop} {s : AS} {rest : List Oper} {d : Option Tmp} {T : TypeId} {p : String} {af : Array Edge}
def partsA (N : Nat) (s : AS) (parts : Array (Nat × Operand)) : List (Nat × AV) := parts.toList.map fun x => (x.1, aeval N s x.2)
def placesA (P : Program) (t : TypeId) : Option (List (Nat × Nat)) :=
  match P.underlying t with
  | some (.struct fs) => fs.toList.mapM (fun f => (P.info? f.type).map fun i => (f.offset, i.size))
  | _ => none
theorem parts_rel {B0 : Nat} {w0 : World} {G : Gh} {a : Act} {w : World} (hI : Inv B0 w0 N G s a w) (parts : Array (Nat × Operand)) : ∀ (i : Nat) (p : Nat × AV) (v : Nat × Value), (partsA N s parts)[i]? = some p → (parts.toList.map fun x => (x.1, a.eval x.2))[i]? = some v → p.1 = v.1 ∧ Rel G p.2 v.2 := fun i p v h1 h2 => by
  simp only [partsA, List.getElem?_map] at h1 h2
  cases hq : parts.toList[i]? with
  | none => simp [hq] at h1
  | some z => simp [hq] at h1 h2; subst h1; subst h2; exact ⟨rfl, hI.eval _⟩
theorem aops_build {t : TypeId} {parts : Array (Nat × Operand)} {zs cs : List AV} {pl : List (Nat × Nat)} (hz : zeroA E.P t = some zs) (hp : placesA E.P t = some pl) (hf : fillA (pl[·]?) zs (partsA N s parts) = some cs)
    (h : AOps E rd N ops rest K (s.put d (.ag cs))) : AOps E rd N ops (⟨d, .build t parts, T, p, af, none⟩ :: rest) K s := by
  refine aops_cons rfl (aop_of_run nofun fun B0 w0 G a w _ hI => ?_)
  obtain ⟨z, hrun, hr⟩ := zeroA_run hz w
  obtain ⟨c', h1, h2⟩ := fill_rel (pl[·]?) (partsA N s parts) (parts.toList.map fun x => (x.1, a.eval x.2)) zs z.cells cs (by simp [partsA]) (parts_rel hI parts) (hr G) hf
  unfold placesA at hp
  split at hp
  · rename_i fs hu
    refine ⟨.agg c', w, G, .ag cs, s.st, ?_, .refl G, hI.agree, .ag _ _ h2.1 h2.2, h⟩
    generalize a.eval = ρ at h1
    simp [execOp, Instr.build, run_underlying hu, hrun, Array.mapM_eq_mapM_toList, run_places w _ _ hp, h1]
  · simp at hp
def zerosA (P : Program) (e : TypeId) (n : Nat) : Option (List AV) :=
  match P.info? e with
  | some i => bif Nat.beq (n * i.size) 0 then some [] else i.zero.map fun z => (List.range (n * i.size)).map fun k => .v (z.cells[k % z.cells.size]!)
  | none => none
theorem buildSlice_run {B0 : Nat} {w0 : World} {G : Gh} {a : Act} {w : World} (hI : Inv B0 w0 N G s a w) {t e : TypeId} {len sz : Nat} {agg : Bool} {parts : Array (Nat × Operand)} {zs cs : List AV} (hu : E.P.underlying t = some (.slice e)) (ht : tyOf E.P e = some (sz, agg)) (hz : zerosA E.P e len = some zs)
    (hf : fillA (fun i => some (i * sz, sz)) zs (partsA N s parts) = some cs) (hsz : Nat.ble (len * sz) 16777216 = true) :
    ∃ c' : Array Value, (execOp a.eval ⟨d, .buildSlice t len parts, T, p, af, none⟩).run E.P w = .ok (.value (.slice (some ⟨w.heap.size, 0, none⟩) len len)) (w.alloc (.cells c' e)) ∧ RelC G cs c' := by
  have hsizeOf := (tyOf_info ht w).1
  have hsz := Nat.le_of_ble_eq_true hsz
  unfold zerosA at hz
  cases hi : E.P.info? e with
  | none => rw [hi] at hz; simp at hz
  | some i =>
    rw [hi] at hz
    simp only at hz
    have hs : i.size = sz := by simpa [sizeOf, typeInfo, hi] using hsizeOf
    rw [hs] at hz
    -- the array that the run starts from
    have key : ∃ c0 : Array Value, RelC G zs c0 ∧ ∀ (Q : Array Value → Sem Value), ((do
        let zero ← if len * sz = 0 then pure #[] else do pure (← zeroValue e).cells
        Q ((Array.range (len * sz)).map (zero[· % zero.size]!)) : Sem Value)).run E.P w = (Q c0).run E.P w := by
      by_cases h0 : len * sz = 0
      · rw [h0] at hz
        simp at hz
        subst hz
        exact ⟨#[], ⟨rfl, by simp⟩, fun Q => by have e : Array.range 0 = #[] := by simp [Array.range]
                                                simp [h0, e]⟩
      · have : Nat.beq (len * sz) 0 = false := beq_ne h0
        rw [this] at hz
        simp only [cond_false] at hz
        cases hzr : i.zero with
        | none => rw [hzr] at hz; simp at hz
        | some z =>
          rw [hzr] at hz
          simp only [Option.map_some, Option.some.injEq] at hz
          subst hz
          refine ⟨(Array.range (len * sz)).map (z.cells[· % z.cells.size]!), ⟨by simp, fun k x y h1 h2 => ?_⟩, fun Q => by simp [h0, zeroValue, typeInfo, hi, hzr]⟩
          have hk : k < len * sz := by have := lt_of_getElem? h1; simpa using this
          simp [hk] at h1 h2
          subst h1; subst h2
          exact .v _
    obtain ⟨c0, hc0, hrun0⟩ := key
    obtain ⟨c', h1, h2⟩ := fill_rel (fun i => some (i * sz, sz)) (partsA N s parts) (parts.toList.map fun x => (x.1, a.eval x.2)) zs c0 cs (by simp [partsA]) (parts_rel hI parts) hc0 hf
    refine ⟨c', ?_, h2⟩
    · generalize a.eval = ρ at h1
      have hb : ¬ 16777216 < len * sz := by omega
      have hg : ∃ m : String, (execOp ρ ⟨d, .buildSlice t len parts, T, p, af, none⟩).run E.P w = (((do
        let zero ← if len * sz = 0 then pure #[] else do pure (← zeroValue e).cells
        (fun c => (do
        let some cells := Instr.fill (fun i => some (i * sz, sz)) c (parts.map fun x => (x.1, ρ x.2)).toList | stuck m
        pure (Value.slice (some (← newRow e cells)) len len) : Sem Value)) ((Array.range (len * sz)).map (zero[· % zero.size]!)) : Sem Value)).run E.P w).andThen fun v w' => .ok (.value v) w' := by
        apply Exists.intro
        simp only [execOp, Instr.buildSlice]
        simp [run_underlying hu, hsizeOf, hb]
        rfl
      obtain ⟨m, hg⟩ := hg
      have hQ := hrun0 (fun c => do
        let some cells := Instr.fill (fun i => some (i * sz, sz)) c (parts.map fun x => (x.1, ρ x.2)).toList | stuck m
        pure (.slice (some (← newRow e cells)) len len))
      rw [hg, hQ]
      simp [h1, newRow, newObj, Sem.run]
theorem aops_buildSlice {t e : TypeId} {len sz : Nat} {agg : Bool} {parts : Array (Nat × Operand)} {zs cs xs : List AV} (hu : E.P.underlying t = some (.slice e)) (ht : tyOf E.P e = some (sz, agg)) (hz : zerosA E.P e len = some zs)
    (hf : fillA (fun i => some (i * sz, sz)) zs (partsA N s parts) = some cs) (hxs : (partsA N s parts).map Prod.snd = xs) (hlen : xs.length = len) (hfl : flat xs = cs) (hw : xs.all (fun x => Nat.beq x.cells.length sz) = true) (hsz : Nat.ble (len * sz) 16777216 = true)
    (h : AOps E rd N ops rest K (s.put d (.sl sz xs none))) : AOps E rd N ops (⟨d, .buildSlice t len parts, T, p, af, none⟩ :: rest) K s := by
  refine aops_cons rfl (aop_of_run nofun fun B0 w0 G a w _ hI => ?_)
  obtain ⟨c', hrun, h2⟩ := buildSlice_run (d := d) (T := T) (p := p) (af := af) hI hu ht hz hf hsz
  obtain ⟨hle, hA⟩ := hI.agree.newPub e c' (0, 0) c'.toList (fun i y hy => by simpa using hy)
  refine ⟨.slice (some ⟨w.heap.size, 0, none⟩) len len, w.alloc (.cells c' e), _, .sl sz xs none, s.st, hrun, hle, hA, ?_, h⟩
  rw [← hlen]
  cases xs with
  | nil => exact .sl0 sz none _ _ (by simp)
  | cons x0 xr =>
    refine .sl sz _ none w.heap.size 0 _ c'.toList (by simp [Gh.publish]) (fun x hx => ?_) (by rw [hfl, h2.1]; simp) (fun k x y g1 g2 => ?_) (fun t ht => by simp at ht) (Nat.le_refl _)
    · exact Nat.eq_of_beq_eq_true (List.all_eq_true.1 hw x hx)
    · rw [hfl] at g1
      exact (h2.2 k x y g1 (by simpa using g2)).mono hle
end
end Go.Av
set_option linter.unusedVariables false
namespace Go.Av
open Go Go.RowKit
inductive KeptL (n : Nat) : List AObj → List AObj → Prop
  | nil : KeptL n [] []
  | same {l l' : List AObj} (x : AObj) (h : KeptL n l l') : KeptL n (x :: l) (x :: l')
  | cut {l l' : List AObj} {x x' : AObj} (hx : CutOb n x') (h : KeptL n l l') : KeptL n (x :: l) (x' :: l')
  | loop {l l' : List AObj} {ls ls' : LoopState} {pend pend' : Option Code} {N : Nat} {t : Nat → AV} {ps : Array Tmp} {asg body : Code} (h : KeptL n l l') : KeptL n (.loop ls pend N t ps asg body :: l) (.loop ls' pend' N t ps asg body :: l')
theorem keptL_refl (n : Nat) : ∀ l, KeptL n l l
  | [] => .nil
  | x :: l => .same x (keptL_refl n l)
theorem keptL_pre {n : Nat} {l l' : List AObj} (h : KeptL n l l') : ∀ st, KeptL n (st ++ l) (st ++ l')
  | [] => h
  | x :: st => .same x (keptL_pre h st)
theorem KeptL.length {n : Nat} {l l' : List AObj} (h : KeptL n l l') : l'.length = l.length := by
  induction h with
  | nil => rfl
  | _ => simpa
theorem KeptL.get {n : Nat} {l l' : List AObj} (h : KeptL n l l') (hc : ∀ (o : Nat) (x : AObj), l[o]? = some x → CutOb n x) : ∀ (o : Nat) (x : AObj), l'[o]? = some x → CutOb n x := by
  induction h with
  | nil => exact hc
  | same y h ih =>
    intro o x hx
    cases o with
    | zero => exact hc 0 x hx
    | succ o => exact ih (fun o x h => hc (o + 1) x h) o x (by simpa using hx)
  | cut hx' h ih =>
    intro o x hx
    cases o with
    | zero => simp at hx; subst hx; exact hx'
    | succ o => exact ih (fun o x h => hc (o + 1) x h) o x (by simpa using hx)
  | loop h ih =>
    intro o x hx
    cases o with
    | zero => simp at hx; subst hx; have h0 := hc 0 _ rfl; exact h0
    | succ o => exact ih (fun o x h => hc (o + 1) x h) o x (by simpa using hx)
theorem ayield_retL {E : Env} {o : Nat} {xs : List AV} {st : List AObj} {R : Bool → List AObj → Prop}
    (h : AYield E o xs st fun b st2 => ∃ st1 ext, st2 = st1 ++ ext ∧ KeptL st.length st st1 ∧ R b st1) : AYield E o xs st R := by
  refine ⟨fun B0 w0 G vals w hL hA hR => ?_⟩
  obtain ⟨f, tmps, asg, body, h1, h2⟩ := h.run B0 w0 G vals w hL hA hR
  refine ⟨f, tmps, asg, body, h1, h2.mono ?_⟩
  rintro e w' ⟨b, G', st2, he, hG, hA', st1, ext, rfl, hk, hRR⟩
  have hle := hG.cut
  rw [hA.n] at hle
  refine ⟨b, G'.cut st.length, st1, he, hle, ?_, hRR⟩
  have hd := hk.get (fun o x hx => hA.cutOb hx)
  have hl := hk.length
  rw [← hl] at hd ⊢
  exact hA'.drop hd
theorem cutOb_cells {n ver : Nat} {T : TypeId} {cs : List AV} (h : ∀ x ∈ cs, Cut n x) : CutOb n (.cells ver T cs) := h
theorem cutOb_tip {n a b : Nat} {T : TypeId} : CutOb n (.tip a b T) := trivial
theorem cut_bx {n o ver off : Nat} (h : o < n) : Cut n (.bx o ver off) := cut_of_low (.bx o ver off h)
theorem cut_bytes {n tp : Nat} {l : List UInt8} (h : tp < n) : Cut n (.sl 1 (l.map fun c => .v (.int .u8 (c.toNat : Nat))) (some tp)) := by
  refine cut_of_low (.sl 1 _ _ (fun i x hx => ?_) (fun t ht => by simp at ht; omega))
  have := flat_bytes l
  rw [this] at hx
  simp only [List.getElem?_map] at hx
  cases hq : l[i]? with
  | none => simp [hq] at hx
  | some c => simp [hq] at hx; subst hx; exact .v _
def LoopF (F : LoopState → Option Code → AObj) (N : Nat) (t : Nat → AV) (ps : Array Tmp) (asg body : Code) : Prop := ∀ ls pend, F ls pend = AObj.loop ls pend N t ps asg body
theorem keptF {n : Nat} {l l' : List AObj} {F : LoopState → Option Code → AObj} {ls ls' : LoopState} {pend pend' : Option Code} {N : Nat} {t : Nat → AV} {ps : Array Tmp} {asg body : Code} (hF : LoopF F N t ps asg body) (h : KeptL n l l') : KeptL n (F ls pend :: l) (F ls' pend' :: l') := by
  rw [hF, hF]
  exact .loop h
@[reducible] def roundF (o : Nat) (F : LoopState → Option Code → AObj) (R : Bool → List AObj → Prop) : Exit → AS → Prop
  | .normal, s => s.st[o]? = some (F .busy none) ∧ R true (s.st.set o (F .ready none))
  | .ret, s => s.st[o]? = some (F .busy none) ∧ R false (s.st.set o (F .done (some .ret)))
  | .exit id, s => s.st[o]? = some (F .busy none) ∧ R false (s.st.set o (F .done (some (.exit id))))
  | _, _ => False
theorem ayield_F {E : Env} {o N : Nat} {t : Nat → AV} {ps : Array Tmp} {asg body : Code} {st : List AObj} {R : Bool → List AObj → Prop} {xs : List AV} {F : LoopState → Option Code → AObj} (hF : LoopF F N t ps asg body) (ho : st[o]? = some (F .ready none)) (hps : ps.size = xs.length)
    (h : ∀ l, AWp E (some l) N asg (only fun s1 => s1.st[o]? = some (F .ready none) ∧ s1.df = [] ∧ AWp E (some l) N body (roundF o F R) ⟨s1.t, s1.st.set o (F .busy none), []⟩) ⟨setPs t (ps.toList.zip xs), st, []⟩) : AYield E o xs st R := by
  refine ayield_body (N := N) (t := t) (ps := ps) (asg := asg) (body := body) (by rw [ho, hF]) hps fun l => (h l).mono fun e s1 hq => ?_
  cases e with
  | normal =>
    obtain ⟨h1, h2, h3⟩ := hq
    refine ⟨by rw [h1, hF], h2, ?_⟩
    rw [hF] at h3
    refine h3.mono fun e s2 hq2 => ?_
    cases e with
    | normal => obtain ⟨k1, k2⟩ := hq2; exact ⟨by rw [k1, hF], by rw [hF] at k2; exact k2⟩
    | ret => obtain ⟨k1, k2⟩ := hq2; exact ⟨by rw [k1, hF], by rw [hF] at k2; exact k2⟩
    | exit id => obtain ⟨k1, k2⟩ := hq2; exact ⟨by rw [k1, hF], by rw [hF] at k2; exact k2⟩
    | _ => exact hq2.elim
  | _ => exact hq.elim
theorem awp_rangeF {E : Env} {N : Nat} {Q : Exit → AS → Prop} {s : AS} {f : Operand} {ps : Array Tmp} {asg body : Code} {st loc : List AObj} {g : FuncId} {fs cs : List AV} (hst : s.st = st ++ loc) (hx : aeval N s f = .fn (.func g) fs cs)
    (hrun : ∀ vs w, (callFunc g vs).run E.P w = .ok (.enter g vs) w)
    (h : ∀ F, LoopF F N s.t ps asg body → ACall E g (fs ++ [.yd (st.length + (loc.length + 1))] ++ cs) (st ++ (loc ++ [.dfr, F .ready none])) fun _ st' => ∃ ls pend, ls ≠ LoopState.busy ∧ st'[st.length + (loc.length + 1)]? = some (F ls pend) ∧
      match pend with
      | none => Q .normal ⟨s.t, st'.set (st.length + (loc.length + 1)) .dead, (st.length + loc.length) :: s.df⟩
      | some c => AWp E none N c Q ⟨s.t, st'.set (st.length + (loc.length + 1)) .dead, (st.length + loc.length) :: s.df⟩) : AWp E none N (.rangeFunc f ps asg body) Q s :=
  awp_rangeFunc hst hx hrun ((h (fun ls pend => .loop ls pend N s.t ps asg body) (fun _ _ => rfl)).mono fun _ _ ⟨ls, pend, h1, h2, h3⟩ => ⟨ls, pend, h1, h2, h3⟩)
theorem awp_state {E : Env} {rd : Option Nat} {N : Nat} {c : Code} {Q : Exit → AS → Prop} {s : AS} (L : List (Nat × AV)) (st' : List AObj) (df' : List Nat) (h : HasL s.t L) (hst : s.st = st') (hdf : s.df = df') (k : ∀ t, AWp E rd N c Q ⟨puts t L, st', df'⟩) : AWp E rd N c Q s := by
  have := k s.t
  rw [puts_of h, ← hst, ← hdf] at this
  exact this
theorem load_bx_run {E : Env} {B0 : Nat} {w0 : World} {N : Nat} {G : Gh} {s : AS} {a : Act} {w : World} (hI : Inv B0 w0 N G s a w) {x : Operand} {t : TypeId} {sz : Nat} {agg : Bool} {o ver off : Nat} {T' : TypeId} {cs : List AV} {r : AV} (hx : aeval N s x = .bx o ver off) (ho : s.st[o]? = some (.cells ver T' cs)) (ht : tyOf E.P t = some (sz, agg)) (hr : aloadC sz agg off cs = some r) :
    ∃ b v, a.eval x = .pointer (some ⟨b, off, none⟩) ∧ (loadVar t ⟨b, off, none⟩).run E.P w = .ok v w ∧ Rel G r v := by
  have he := hI.eval_of hx
  generalize hv : a.eval x = v at he
  cases he with
  | bx _ _ _ b hn hv' hb =>
    obtain ⟨_, h1, h2, h3, c, h4, h5, h6⟩ := hI.agree.ob o _ ho
    have hb := hb h1
    rw [hb] at h4
    obtain ⟨v, hrun, hR⟩ := run_loadVar_of (w := w) (G := G) (b := b) (off := off) (off' := off) ht (fun i x hx hi => by
      obtain ⟨y, hy⟩ := get_of_size hx (Nat.le_of_eq h5)
      refine ⟨y, ?_, h6 i x y hx hy⟩
      simp [World.cell?, h4, show off + (i - off) = i by omega, hy]) hr
    exact ⟨b, v, rfl, hrun, hR⟩
theorem ares_cell2 {E : Env} {fn : Func} {s : AS} {t u : Tmp} {Ta Tb : TypeId} {o1 v1 f1 sz1 : Nat} {agg1 : Bool} {T1 : TypeId} {cs1 : List AV} {r1 : AV} {o2 v2 f2 sz2 : Nat} {agg2 : Bool} {T2 : TypeId} {cs2 : List AV} {r2 : AV} (hr : fn.results = #[.cell t Ta, .cell u Tb])
    (hx1 : aeval fn.ntmps s (.tmp t) = .bx o1 v1 f1) (ho1 : s.st[o1]? = some (.cells v1 T1 cs1)) (ht1 : tyOf E.P Ta = some (sz1, agg1)) (hl1 : aloadC sz1 agg1 f1 cs1 = some r1)
    (hx2 : aeval fn.ntmps s (.tmp u) = .bx o2 v2 f2) (ho2 : s.st[o2]? = some (.cells v2 T2 cs2)) (ht2 : tyOf E.P Tb = some (sz2, agg2)) (hl2 : aloadC sz2 agg2 f2 cs2 = some r2) : ARes E fn s (.tu [r1, r2]) := by
  refine ⟨fun B0 w0 G a w _ hI => ?_⟩
  obtain ⟨b1, y1, e1, e2, e3⟩ := load_bx_run hI hx1 ho1 ht1 hl1
  obtain ⟨b2, y2, k1, k2, k3⟩ := load_bx_run hI hx2 ho2 ht2 hl2
  simp only [Act.eval, Array.getD_eq_getD_getElem?] at e1 k1
  refine ⟨.tuple #[y1, y2], ?_, rel_tu2 e3 k3⟩
  simp [results, hr, e1, k1, asAddr, e2, k2]
theorem aret_mark_loc {E : Env} {fn : Func} {R : AV → List AObj → Prop} {s : AS} {st loc : List AObj} {k : Nat} {ds : List Nat} (hs : s.st = st ++ loc) (hd : s.df = (st.length + k) :: ds) (ho : loc[k]? = some .dfr) (h : ARet E fn R ⟨s.t, st ++ loc.set k .dead, ds⟩) : ARet E fn R s :=
  aret_mark hd (by rw [hs]; exact get_loc ho) (by rw [hs, set_loc]; exact h)
theorem ares_cell2_loc {E : Env} {fn : Func} {s : AS} {t u : Tmp} {Ta Tb : TypeId} {st loc : List AObj} {k1 v1 f1 sz1 : Nat} {agg1 : Bool} {T1 : TypeId} {cs1 : List AV} {r1 : AV} {k2 v2 f2 sz2 : Nat} {agg2 : Bool} {T2 : TypeId} {cs2 : List AV} {r2 : AV} (hr : fn.results = #[.cell t Ta, .cell u Tb]) (hs : s.st = st ++ loc)
    (hx1 : aeval fn.ntmps s (.tmp t) = .bx (st.length + k1) v1 f1) (ho1 : loc[k1]? = some (.cells v1 T1 cs1)) (ht1 : tyOf E.P Ta = some (sz1, agg1)) (hl1 : aloadC sz1 agg1 f1 cs1 = some r1)
    (hx2 : aeval fn.ntmps s (.tmp u) = .bx (st.length + k2) v2 f2) (ho2 : loc[k2]? = some (.cells v2 T2 cs2)) (ht2 : tyOf E.P Tb = some (sz2, agg2)) (hl2 : aloadC sz2 agg2 f2 cs2 = some r2) : ARes E fn s (.tu [r1, r2]) :=
  ares_cell2 hr hx1 (by rw [hs]; exact get_loc ho1) ht1 hl1 hx2 (by rw [hs]; exact get_loc ho2) ht2 hl2
end Go.Av
set_option linter.unusedVariables false
namespace Go.Av
open Go Go.RowKit
@[reducible] def Wv (x : BitVec 32) : AV := .v (.int .u32 (x.toNat : Nat))
theorem wrap_u32 (n : Nat) : IntKind.u32.wrap (n : Int) = ((n % 4294967296 : Nat) : Int) := by
  simp [IntKind.wrap, IntKind.bits, IntKind.signed]
theorem ofInt_toNat (x : BitVec 32) : BitVec.ofInt 32 (x.toNat : Int) = x := by
  rw [BitVec.ofInt_natCast, BitVec.ofNat_toNat]
  simp
theorem wrap_toNat (x : BitVec 32) : IntKind.u32.wrap (x.toNat : Int) = (x.toNat : Int) := by
  rw [wrap_u32, Nat.mod_eq_of_lt x.isLt]
section
variable {E : Env} {rd : Option Nat} {N : Nat} {ops : Array Oper} {K : AS → Prop} {s : AS} {rest : List Oper} {d : Option Tmp} {T : TypeId} {p : String} {af : Array Edge}
theorem aops_xor32 {x y : Operand} {t t' : TypeId} {m n : Int} {a b : BitVec 32} (hx : aeval N s x = .v (.int .u32 m)) (hy : aeval N s y = .v (.int .u32 n)) (ha : BitVec.ofInt 32 m = a) (hb : BitVec.ofInt 32 n = b) (h : AOps E rd N ops rest K (s.put d (Wv (a ^^^ b)))) : AOps E rd N ops (⟨d, .binOp .xor t x y t', T, p, af, none⟩ :: rest) K s :=
  aops_xor hx hy (by subst ha; subst hb; simp only [bitOp, IntKind.bits]; rw [wrap_toNat]; rfl) h
theorem aops_and32 {x y : Operand} {t t' : TypeId} {m n : Int} {a b : BitVec 32} (hx : aeval N s x = .v (.int .u32 m)) (hy : aeval N s y = .v (.int .u32 n)) (ha : BitVec.ofInt 32 m = a) (hb : BitVec.ofInt 32 n = b) (h : AOps E rd N ops rest K (s.put d (Wv (a &&& b)))) : AOps E rd N ops (⟨d, .binOp .and t x y t', T, p, af, none⟩ :: rest) K s :=
  aops_and hx hy (by subst ha; subst hb; simp only [bitOp, IntKind.bits]; rw [wrap_toNat]; rfl) h
theorem aops_or32 {x y : Operand} {t t' : TypeId} {m n : Int} {a b : BitVec 32} (hx : aeval N s x = .v (.int .u32 m)) (hy : aeval N s y = .v (.int .u32 n)) (ha : BitVec.ofInt 32 m = a) (hb : BitVec.ofInt 32 n = b) (h : AOps E rd N ops rest K (s.put d (Wv (a ||| b)))) : AOps E rd N ops (⟨d, .binOp .or t x y t', T, p, af, none⟩ :: rest) K s :=
  aops_or hx hy (by subst ha; subst hb; simp only [bitOp, IntKind.bits]; rw [wrap_toNat]; rfl) h
theorem aops_compl32 {x : Operand} {t : TypeId} {a : BitVec 32} (hx : aeval N s x = Wv a) (h : AOps E rd N ops rest K (s.put d (Wv (~~~ a)))) : AOps E rd N ops (⟨d, .unOp .xor t x, T, p, af, none⟩ :: rest) K s :=
  aops_compl hx (by
    simp only [bitOp, IntKind.bits, IntKind.signed, Bool.false_eq_true, if_false]
    rw [ofInt_toNat]
    have h1 : BitVec.ofInt 32 IntKind.u32.max = BitVec.allOnes 32 := by decide
    have h2 : BitVec.ofInt 32 IntKind.u32.max ^^^ a = ~~~ a := by rw [h1, BitVec.xor_comm, BitVec.xor_allOnes]
    exact (congrArg (fun z : BitVec 32 => IntKind.u32.wrap (z.toNat : Int)) h2).trans (wrap_toNat _)) h
theorem aops_shl32 {x y : Operand} {t t' : TypeId} {yk : IntKind} {a : BitVec 32} {n : Nat} (hx : aeval N s x = Wv a) (hy : aeval N s y = .v (.int yk (n : Int))) (hn : Nat.ble n 32 = true) (h : AOps E rd N ops rest K (s.put d (Wv (a <<< n)))) : AOps E rd N ops (⟨d, .binOp .shl t x y t', T, p, af, none⟩ :: rest) K s :=
  aops_shl hx hy (by omega) (by
    have hn := Nat.le_of_ble_eq_true hn
    have : min (n : Int).toNat IntKind.u32.bits = n := by simp [IntKind.bits]; omega
    rw [this]
    have e : (a.toNat : Int) * 2 ^ n = ((a.toNat * 2 ^ n : Nat) : Int) := by simp
    rw [e, wrap_u32, BitVec.toNat_shiftLeft, Nat.shiftLeft_eq]) h
theorem aops_shr32 {x y : Operand} {t t' : TypeId} {yk : IntKind} {a : BitVec 32} {n : Nat} (hx : aeval N s x = Wv a) (hy : aeval N s y = .v (.int yk (n : Int))) (hn : Nat.ble n 32 = true) (h : AOps E rd N ops rest K (s.put d (Wv (a >>> n)))) : AOps E rd N ops (⟨d, .binOp .shr t x y t', T, p, af, none⟩ :: rest) K s :=
  aops_shr hx hy (by omega) (by
    have hn := Nat.le_of_ble_eq_true hn
    have : min (n : Int).toNat IntKind.u32.bits = n := by simp [IntKind.bits]; omega
    rw [this, BitVec.toNat_ushiftRight, Nat.shiftRight_eq_div_pow]
    have h0 : (0 : Int) ≤ 2 ^ n := by
      have : ((2 ^ n : Nat) : Int) = (2 : Int) ^ n := by simp
      rw [← this]
      exact Int.natCast_nonneg _
    rw [Int.fdiv_eq_ediv_of_nonneg _ h0]
    simp) h
theorem aops_indexA {x y : Operand} {t e : TypeId} {len sz : Nat} {agg : Bool} {k : IntKind} {n : Nat} {cs : List AV} {r : AV} (hx : aeval N s x = .ag cs) (hy : aeval N s y = .v (.int k (n : Int))) (hu : E.P.underlying t = some (.array len e)) (ht : tyOf E.P e = some (sz, agg)) (hn : n < len) (hr : aloadC sz agg (n * sz) cs = some r)
    (h : AOps E rd N ops rest K (s.put d r)) : AOps E rd N ops (⟨d, .index t x y, T, p, af, none⟩ :: rest) K s := by
  refine aops_cons rfl (aop_of_run nofun fun B0 w0 G a w _ hI => ?_)
  have he := hI.eval_of hx
  have hey := hI.evalv hy
  generalize hv : a.eval x = v at he
  cases he with
  | ag _ vs hl hrel =>
    obtain ⟨i1, i2⟩ := tyOf_info ht w
    cases agg with
    | false =>
      simp only [aloadC, cond_false] at hr
      obtain ⟨z, hz⟩ := get_of_size hr (Nat.le_of_eq hl)
      refine ⟨z, w, G, r, s.st, ?_, .refl G, hI.agree, hrel _ r z hr hz, h⟩
      generalize a.eval = ρ at hv hey
      simp only [execOp, hv, hey]
      simp [Instr.index, asIntOf, run_underlying hu, hn, part, i1, i2, hz]
    | true =>
      simp only [aloadC, cond_true] at hr
      cases hb : Nat.ble (n * sz + sz) cs.length with
      | false => rw [hb] at hr; simp at hr
      | true =>
        rw [hb] at hr
        simp only [cond_true, Option.some.injEq] at hr
        have hle : n * sz + sz ≤ cs.length := Nat.le_of_ble_eq_true hb
        refine ⟨.agg (vs.extract (n * sz) (n * sz + sz)), w, G, r, s.st, ?_, .refl G, hI.agree, ?_, h⟩
        · generalize a.eval = ρ at hv hey
          simp only [execOp, hv, hey]
          simp [Instr.index, asIntOf, run_underlying hu, hn, part, i1, i2]
        · subst hr
          refine .ag _ _ (by simp; omega) fun i x y h1 h2 => ?_
          have hi : i < sz := by have := lt_of_getElem? h1; simp at this; omega
          simp [hi, List.getElem?_drop] at h1
          rw [Array.getElem?_extract] at h2
          split at h2
          · exact hrel (n * sz + i) x y h1 h2
          · simp at h2
theorem aops_indexAddrA {x y : Operand} {t e : TypeId} {len sz : Nat} {agg : Bool} {k : IntKind} {n o ver off : Nat} (hx : aeval N s x = .bx o ver off) (hy : aeval N s y = .v (.int k (n : Int))) (hu : E.P.underlying t = some (.array len e)) (ht : tyOf E.P e = some (sz, agg)) (hn : n < len)
    (h : AOps E rd N ops rest K (s.put d (.bx o ver (off + n * sz)))) : AOps E rd N ops (⟨d, .indexAddr t x y, T, p, af, none⟩ :: rest) K s := by
  refine aops_cons rfl (aop_of_run nofun fun B0 w0 G a w _ hI => ?_)
  have he := hI.eval_of hx
  have hey := hI.evalv hy
  generalize hv : a.eval x = v at he
  cases he with
  | bx _ _ _ b hn' hver hb =>
    refine ⟨.pointer (some ⟨b, off + n * sz, none⟩), w, G, _, s.st, ?_, .refl G, hI.agree, .bx o ver _ b hn' hver hb, h⟩
    generalize a.eval = ρ at hv hey
    simp only [execOp, hv, hey]
    simp [Instr.indexAt, asIntOf, run_underlying hu, Instr.sureAddr, hn, (tyOf_info ht w).1, Addr.add_lit]
def arrayPl (P : Program) (t : TypeId) : Option Nat :=
  match P.underlying t with
  | some (.array _ e) => match P.info? e with
    | some i => some i.size
    | none => none
  | _ => none
theorem arrayPl_inv {P : Program} {t : TypeId} {sz : Nat} (h : arrayPl P t = some sz) : ∃ len e i, P.underlying t = some (.array len e) ∧ P.info? e = some i ∧ i.size = sz := by
  unfold arrayPl at h
  split at h
  · rename_i len e hu
    split at h
    · rename_i i hi
      simp only [Option.some.injEq] at h
      exact ⟨len, e, i, hu, hi, h⟩
    · simp at h
  · simp at h
theorem aq_buildA {t : TypeId} {parts : Array (Nat × Operand)} {zs cs : List AV} {sz : Nat} (hz : zeroA E.P t = some zs) (hp : arrayPl E.P t = some sz) (hf : fillA (fun i => some (i * sz, sz)) zs (partsA N s parts) = some cs)
    (h : AQ E N ops rest K (s.put d (.ag cs))) : AQ E N ops (⟨d, .build t parts, T, p, af, none⟩ :: rest) K s := by
  refine aq_op rfl nofun fun B0 w0 G a w _ hI => ?_
  obtain ⟨len, e, i, hu, hi, rfl⟩ := arrayPl_inv hp
  obtain ⟨z, hrun, hr⟩ := zeroA_run hz w
  obtain ⟨c', h1, h2⟩ := fill_rel (fun k => some (k * i.size, i.size)) (partsA N s parts) (parts.toList.map fun x => (x.1, a.eval x.2)) zs z.cells cs (by simp [partsA]) (parts_rel hI parts) (hr G) hf
  have hz' : ∃ ti, E.P.info? t = some ti ∧ ti.zero = some z := by
    unfold zeroValue at hrun
    simp [typeInfo] at hrun
    cases hti : E.P.info? t with
    | none => simp [hti] at hrun
    | some ti =>
      simp [hti] at hrun
      cases htz : ti.zero with
      | none => simp [htz] at hrun
      | some y => simp [htz] at hrun; exact ⟨ti, rfl, by rw [htz, hrun]⟩
  obtain ⟨ti, g1, g2⟩ := hz'
  refine ⟨.agg c', .ag cs, fun w' _ => ?_, .ag _ _ h2.1 h2.2, h⟩
  generalize a.eval = ρ at h1
  simp [execOp, Instr.build, run_underlying hu, zeroValue, typeInfo, g1, g2, sizeOf, hi, h1]
theorem aq_idx {x y : Operand} {t : TypeId} {m : List UInt8} {k : IntKind} {n : Nat} (hx : aeval N s x = Sv m) (hy : aeval N s y = .v (.int k (n : Int))) (hu : E.P.underlying t = some .string) (h1 : n < m.length)
    (h : AQ E N ops rest K (s.put d (Uv (m.getD n 0)))) : AQ E N ops (⟨d, .index t x y, T, p, af, none⟩ :: rest) K s :=
  aq_scalar _ rfl nofun (fun a w he => by
    have hg : (⟨m.toArray⟩ : ByteArray)[n]? = some (m.getD n 0) := by
      simp only [getElem?_def, size_mk, h1, dite_true, List.getD, Option.getD_some]
      rfl
    simp [execOp, Instr.index, he _ _ hx, he _ _ hy, asIntOf, run_underlying hu, hg]) h
theorem aq_convW {x : Operand} {t t' : TypeId} {k : IntKind} {n : Nat} {e : TypeDesc} (hx : aeval N s x = .v (.int k (n : Int))) (hs : E.P.underlying t = some e) (hd : E.P.underlying t' = some (.int .u32)) (hn : n < 4294967296)
    (h : AQ E N ops rest K (s.put d (Wv (BitVec.ofNat 32 n)))) : AQ E N ops (⟨d, .convert t t' x, T, p, af, none⟩ :: rest) K s := by
  have hr : IntKind.u32.wrap (n : Int) = (((BitVec.ofNat 32 n).toNat : Nat) : Int) := by rw [wrap_u32, Nat.mod_eq_of_lt hn, BitVec.toNat_ofNat, Nat.mod_eq_of_lt hn]
  exact aq_scalar _ rfl nofun (fun a w he => by rw [← hr]; simp [execOp, he _ _ hx, convert, run_underlying hs, run_underlying hd, Conv.intToInt]) h
theorem aq_shr4 {x y : Operand} {t t' : TypeId} {yk : IntKind} {c : UInt8} (hx : aeval N s x = Uv c) (hy : aeval N s y = .v (.int yk 4)) (h : AQ E N ops rest K (s.put d (.v (.int .u8 ((c.toNat / 16 : Nat) : Int))))) : AQ E N ops (⟨d, .binOp .shr t x y t', T, p, af, none⟩ :: rest) K s :=
  aq_scalar _ rfl nofun (fun a w he => by
    have : (c.toNat : Int).fdiv (2 ^ (min (4 : Int).toNat IntKind.u8.bits)) = ((c.toNat / 16 : Nat) : Int) := by
      rw [Int.fdiv_eq_ediv_of_nonneg _ (by decide)]
      simp [IntKind.bits]
    rw [← this]
    simp [execOp, he _ _ hx, he _ _ hy, eqGuard_at_int, binOp_shr, Op.shift]) h
theorem aq_and15 {x y : Operand} {t t' : TypeId} {c : UInt8} (hx : aeval N s x = Uv c) (hy : aeval N s y = .v (.int .u8 15)) (h : AQ E N ops rest K (s.put d (.v (.int .u8 ((c.toNat % 16 : Nat) : Int))))) : AQ E N ops (⟨d, .binOp .and t x y t', T, p, af, none⟩ :: rest) K s :=
  aq_and hx hy (by
    simp only [bitOp, IntKind.bits]
    have h1 : BitVec.ofInt 8 (c.toNat : Int) = c.toBitVec := by rw [BitVec.ofInt_natCast]; simp
    have h2 : (BitVec.ofInt 8 (c.toNat : Int) &&& BitVec.ofInt 8 15).toNat = c.toNat % 16 := by
      rw [h1, BitVec.toNat_and]
      exact Nat.and_two_pow_sub_one_eq_mod c.toNat 4
    have h3 : IntKind.u8.wrap ((c.toNat % 16 : Nat) : Int) = ((c.toNat % 16 : Nat) : Int) := by
      simp [IntKind.wrap, IntKind.bits, IntKind.signed]
      omega
    exact (congrArg (fun z : Nat => IntKind.u8.wrap (z : Int)) h2).trans h3) h
theorem aops_addN {x y : Operand} {t t' : TypeId} {k : IntKind} {m n : Nat} (hx : aeval N s x = .v (.int k (m : Int))) (hy : aeval N s y = .v (.int k (n : Int))) (hf : k.wrap ((m + n : Nat) : Int) = ((m + n : Nat) : Int))
    (h : AOps E rd N ops rest K (s.put d (.v (.int k ((m + n : Nat) : Int))))) : AOps E rd N ops (⟨d, .binOp .add t x y t', T, p, af, none⟩ :: rest) K s :=
  aops_add hx hy (by rw [← Int.natCast_add]; exact hf) h
theorem aops_quoN {x y : Operand} {t t' : TypeId} {k : IntKind} {m n : Nat} (hx : aeval N s x = .v (.int k (m : Int))) (hy : aeval N s y = .v (.int k (n : Int))) (hn : n ≠ 0) (hf : k.wrap ((m / n : Nat) : Int) = ((m / n : Nat) : Int))
    (h : AOps E rd N ops rest K (s.put d (.v (.int k ((m / n : Nat) : Int))))) : AOps E rd N ops (⟨d, .binOp .quo t x y t', T, p, af, none⟩ :: rest) K s :=
  aops_quo hx hy (by omega) (by rw [Int.tdiv_eq_ediv_of_nonneg (by omega), ← Int.natCast_ediv]; exact hf) h
theorem aops_remN {x y : Operand} {t t' : TypeId} {k : IntKind} {m n : Nat} (hx : aeval N s x = .v (.int k (m : Int))) (hy : aeval N s y = .v (.int k (n : Int))) (hn : n ≠ 0)
    (h : AOps E rd N ops rest K (s.put d (.v (.int k ((m % n : Nat) : Int))))) : AOps E rd N ops (⟨d, .binOp .rem t x y t', T, p, af, none⟩ :: rest) K s :=
  aops_rem hx hy (by omega) (by rw [Int.tmod_eq_emod_of_nonneg (by omega), ← Int.natCast_emod]; exact h)
theorem wrapU64 {n : Nat} (h : n < 18446744073709551616) : IntKind.u64.wrap (n : Int) = (n : Int) := by
  simp [IntKind.wrap, IntKind.bits, IntKind.signed]
  omega
end
end Go.Av
set_option linter.unusedVariables false
namespace Go.Proofs.YtplagcbifecagaaGreatDoor
open Go Go.Av Go.RowKit Go.Proofs
structure Laid (w : World) : Prop where
  shaped : World.ShapedOpen Tryz.prog w
  pow : Lib.TabIs Tryz.prog w "internal/strconv.uint64pow10" .u64 Lib.pow10Tab
  syn : ∃ tp p, World.var? Tryz.prog w "strconv.ErrSyntax" = some #[.iface tp p]
  ran : ∃ tp p, World.var? Tryz.prog w "strconv.ErrRange" = some #[.iface tp p]
  ert : w.cell? ⟨3, 0, none⟩ = some (.iface 225 (.agg #[.pointer (some ⟨9, 25, none⟩)]))
@[reducible] noncomputable def E : Env := ⟨Tryz.prog, fun B0 w0 => ∀ w, Below B0 w0 w → Laid w⟩
theorem contains_c (l m : List UInt8) (st : List AObj) (hl : l.length < 4294967281) : ACall E 164 [Sv l, Sv m] st fun r st' => r = Bv (Lib.contains l m) ∧ st' = st :=
  acall_of_calls (vals := #[.string ⟨l.toArray⟩, .string ⟨m.toArray⟩]) rfl fun _ _ w hL hb => (Tryz.strings_Contains_shaped ⟨l.toArray⟩ ⟨m.toArray⟩ w (hL w hb).shaped (by simpa [ByteArray.size] using hl)).mono fun _ _ ⟨h1, h2⟩ => ⟨h1, below_of_eq h2⟩
theorem hasPrefix_c (l m : List UInt8) (st : List AObj) : ACall E 69 [Sv l, Sv m] st fun r st' => r = Bv (Lib.hasPrefix l m) ∧ st' = st :=
  acall_of_calls (vals := #[.string ⟨l.toArray⟩, .string ⟨m.toArray⟩]) rfl fun _ _ w _ _ => (Tryz.strings_HasPrefix ⟨l.toArray⟩ ⟨m.toArray⟩ w).mono fun _ _ ⟨h1, h2⟩ => ⟨h1, below_of_eq h2⟩
theorem hasSuffix_c (l m : List UInt8) (st : List AObj) (hl : l.length ≤ 9223372036854775807) : ACall E 55 [Sv l, Sv m] st fun r st' => r = Bv (Lib.hasSuffix l m) ∧ st' = st :=
  acall_of_calls (vals := #[.string ⟨l.toArray⟩, .string ⟨m.toArray⟩]) rfl fun _ _ w _ _ => (Tryz.strings_HasSuffix ⟨l.toArray⟩ ⟨m.toArray⟩ w (by simpa [ByteArray.size] using hl)).mono fun _ _ ⟨h1, h2⟩ => ⟨h1, below_of_eq h2⟩
theorem cut_c (l m : List UInt8) (st : List AObj) (hl : l.length < 4294967281) : ACall E 31 [Sv l, Sv m] st fun r st' => r = .tu [Sv (Lib.cut l m).1, Sv (Lib.cut l m).2.1, Bv (Lib.cut l m).2.2] ∧ st' = st :=
  acall_of_calls_tu (vals := #[.string ⟨l.toArray⟩, .string ⟨m.toArray⟩]) (rs := #[.string ⟨(Lib.cut l m).1.toArray⟩, .string ⟨(Lib.cut l m).2.1.toArray⟩, .bool (Lib.cut l m).2.2]) rfl fun _ _ w hL hb => (Tryz.strings_Cut_shaped ⟨l.toArray⟩ ⟨m.toArray⟩ w (hL w hb).shaped (by simpa [ByteArray.size] using hl)).mono fun _ _ ⟨h1, n, h2⟩ => ⟨h1, h2 ▸ below_drewN w n⟩
theorem cutPrefix_c (l m : List UInt8) (st : List AObj) : ACall E 53 [Sv l, Sv m] st fun r st' => r = .tu [Sv (Lib.trimPrefix l m), Bv (Lib.hasPrefix l m)] ∧ st' = st :=
  acall_of_calls_tu (vals := #[.string ⟨l.toArray⟩, .string ⟨m.toArray⟩]) (rs := #[.string ⟨(Lib.trimPrefix l m).toArray⟩, .bool (Lib.hasPrefix l m)]) rfl fun _ _ w _ _ => (Tryz.strings_CutPrefix ⟨l.toArray⟩ ⟨m.toArray⟩ w).mono fun _ _ ⟨h1, h2⟩ => ⟨h1, below_of_eq h2⟩
theorem itoa_c (n : Int) (st : List AObj) (h0 : -9223372036854775808 ≤ n) (h1 : n ≤ 9223372036854775807) : ACall E 50 [Iv n] st fun r st' => r = Sv (Lib.itoa n) ∧ st' = st :=
  acall_of_calls (vals := #[.int .i64 n]) rfl fun _ _ w hL hb => (Tryz.strconv_Itoa n h0 h1 w (hL w hb).pow).mono fun _ _ ⟨h1, k, os, h2⟩ => ⟨h1, h2 ▸ below_grow w k os⟩
theorem trim_c (l m : List UInt8) (st : List AObj) (hl : l.length ≤ 9223372036854775807) (hm : m.length < 4294967281) (ha : ∀ (j : Nat) (b : UInt8), m[j]? = some b → b.toNat < 128) : ACall E 96 [Sv l, Sv m] st fun r st' => r = Sv (Lib.trimS l m) ∧ st' = st :=
  acall_of_calls (vals := #[.string ⟨l.toArray⟩, .string ⟨m.toArray⟩]) rfl fun _ _ w _ _ => (Any.strings_Trim_laid Tryz.lays160t (by kernel_rfl) ⟨l.toArray⟩ ⟨m.toArray⟩ w (by simpa [ByteArray.size] using hl) (by simpa [ByteArray.size] using hm) (by simpa using ha)).mono fun _ _ ⟨h1, h2⟩ => ⟨h1, h2⟩
theorem below_bytes {w w' : World} {T : TypeId} {s : ByteArray} (h : w' = w ∨ ∃ t, w' = Lib.bytesWorld w T t) : Below w.heap.size w w' := by
  rcases h with rfl | ⟨t, rfl⟩
  · exact Below.refl _ _
  · unfold Lib.bytesWorld
    exact Lib.below_freeze ((Below.drew (Below.refl w.heap.size w)).alloc (Nat.le_refl _) _) (p := ⟨w.heap.size, _, none⟩) (Nat.le_refl _) _
theorem acall_of_numErr {f : FuncId} {st : List AObj} {args : List AV} {vals : Array Value} {R : Int → Option (TypeId × Value) → Prop} (ha : args = vals.toList.map .v)
    (h : ∀ B0 w0 w, E.L B0 w0 → Below B0 w0 w → Calls E.P f vals w fun e w' => ∃ n x, e = .returned (.tuple #[.int .i64 n, match x with | none => .nilIface | some (t, y) => .iface t y]) ∧ R n x ∧ Below w.heap.size w w') :
    ACall E f args st fun r st' => st' = st ∧ ∃ n x, r = .tu [Iv n, match x with | none => .v .nilIface | some (t, y) => .ifc t (.v y)] ∧ R n x := by
  subst ha
  refine ⟨fun B0 w0 G vs w hL hA hR => ?_⟩
  have hv : vs = vals := by
    have hs : vs.size = vals.size := by have := hR.1; simpa using this.symm
    apply Array.ext hs
    intro i h1 h2
    have := hR.2 i (.v vals[i]) vs[i] (by simp [h2]) (by simp [h1])
    generalize vs[i] = y at this
    cases this
    rfl
  subst hv
  refine (h B0 w0 w hL hA.below).mono ?_
  rintro e w' ⟨n, x, rfl, hRR, hb⟩
  refine ⟨_, G, _, st, rfl, .refl G, hA.fresh hb, rel_tu2 (.v _) ?_, rfl, n, x, rfl, hRR⟩
  cases x with
  | none => exact .v _
  | some p => exact .ifc _ _ _ (.v _)
theorem atoi_c (l : List UInt8) (st : List AObj) (hl : l.length ≤ 281474976710656) : ACall E 71 [Sv l] st fun r st' => st' = st ∧ ∃ n x, r = .tu [Iv n, match x with | none => .v .nilIface | some (t, y) => .ifc t (.v y)] ∧ match x with | none => Lib.atoiAll l = .ok n | some _ => ∀ v, Lib.atoiAll l ≠ .ok v := by
  refine acall_of_numErr (vals := #[.string ⟨l.toArray⟩]) (R := fun n x => match x with | none => Lib.atoiAll l = .ok n | some _ => ∀ v, Lib.atoiAll l ≠ .ok v) rfl fun B0 w0 w hL hb => ?_
  have hls : (⟨l.toArray⟩ : ByteArray).data.toList = l := rfl
  rcases ho : Lib.atoiAll l with v | _ | _
  ·
    refine (Tryz.strconv_Atoi_ok ⟨l.toArray⟩ (by simp [ByteArray.size]; omega) v (by rw [hls]; exact ho) w).mono ?_
    rintro e w' ⟨rfl, hw⟩
    exact ⟨v, none, rfl, rfl, below_bytes (s := ⟨l.toArray⟩) hw⟩
  ·
    obtain ⟨tp, p, hv⟩ := (hL w hb).syn
    refine (Any.strconv_Atoi_syntax_var Tryz.laysC172 ⟨l.toArray⟩ (by simpa [ByteArray.size] using hl) (by rw [hls]; exact ho) tp p w hv).mono ?_
    rintro e w' ⟨N, rfl, _, _, hw⟩
    exact ⟨_, some (_, _), rfl, by simp, hw⟩
  ·
    obtain ⟨tp, p, hv⟩ := (hL w hb).ran
    refine (Tryz.strconv_Atoi_range_var ⟨l.toArray⟩ (by simpa [ByteArray.size] using hl) (by rw [hls]; exact ho) tp p w hv).mono ?_
    rintro e w' ⟨N, rfl, _, _, hw⟩
    exact ⟨_, some (_, _), rfl, by simp, hw⟩
theorem trimA_c (l m : List UInt8) (st : List AObj) (hl : l.length ≤ 9223372036854775807) (hm : Nat.blt m.length 4294967281 = true) (ha : m.all (fun b => Nat.blt b.toNat 128) = true) : ACall E 96 [Sv l, Sv m] st fun r st' => r = Sv (Lib.trimS l m) ∧ st' = st :=
  trim_c l m st hl (by simpa [Nat.blt_eq] using hm) fun j b h => by
    have := List.all_eq_true.1 ha b (List.mem_of_getElem? h)
    simpa [Nat.blt_eq] using this
end Go.Proofs.YtplagcbifecagaaGreatDoor
set_option linter.unusedVariables false
namespace Go.Av
open Go Go.RowKit Go.WideShapes Go.ChangeShapes
theorem tabIs_of_reads {P : Program} {W : World} {name : String} {k : IntKind} {zs : List Int} {g : Nat} {t e : TypeId} {n : Nat}
    (hg : P.globalNamed name = some g) (hty : (P.globals[g]?).map (·.type) = some t) (ht : P.underlying t = some (.array n e)) (he : P.underlying e = some (.int k)) (hce : P.cellsOf e = 1) (hct : P.cellsOf t = n)
    (h : Lib.VarReads P W name (Lib.tabData k zs)) : Lib.TabIs P W name k zs := by
  obtain ⟨g', t', cs, fuel, p, hg', ht', hvar, hd⟩ := h
  obtain rfl := Option.some.inj (hg.symm.trans hg')
  obtain rfl := Option.some.inj (hty.symm.trans ht')
  unfold Lib.TabIs
  rw [hvar, ← Lib.cells_of_tab ht he hce hct hd]
theorem sent_of_reads {P : Program} {W : World} {name s : String} {d : DataW Unit} {g : Nat} {t : TypeId} {ms : Array (String × TypeId)}
    (hg : P.globalNamed name = some g) (hty : (P.globals[g]?).map (·.type) = some t) (ht : P.underlying t = some (.interface ms))
    (h : Lib.VarReads P W name (.iface s d)) : ∃ tp p, W.var? P name = some #[.iface tp p] := by
  obtain ⟨g', t', cs, fuel, p, hg', ht', hvar, hd⟩ := h
  obtain rfl := Option.some.inj (hg.symm.trans hg')
  obtain rfl := Option.some.inj (hty.symm.trans ht')
  cases fuel with
  | zero => simp [DataW.trod] at hd
  | succ fuel =>
    obtain ⟨l⟩ := cs
    simp only [DataW.trod, ht] at hd
    split at hd
    all_goals simp_all
section
variable {H : Type} {enc : TypeId × Value → H} {P : Program}
theorem post_of_below {f : Func} {s : ChangeSpec} {apart fresh handsOn again : Bool} {W W' : World} {args : Array Value} {v : Value} {ds gs : List (DataW H)} {before pa pv : List MemPlace}
    (hW : DataW.Whole enc P f.params.toList s.vars apart W args.toList ds gs before)
    (hres : ∀ (b : Nat) (sp : Nat → Bool) (hd : Bool), DataW.TrodAll enc P W' b sp hd f.resultTypes.toList (v.resultList f.resultTypes.size) (s.fn H (ds ++ gs)).results [])
    (hargs : ∀ sp : Nat → Bool, (∀ p ∈ before, sp p.block = true) → DataW.TrodAll enc P W' 0 sp true f.params.toList args.toList (s.fn H (ds ++ gs)).args pa)
    (hvars : ∀ sp : Nat → Bool, (∀ p ∈ before, sp p.block = true) → DataW.TrodVars enc P W' sp s.vars (s.fn H (ds ++ gs)).vars pv)
    (hps : before = pa ++ pv) (hb : Below W.heap.size W W')
    (hok : ∀ (j : Nat) (t : TypeId) (r : Value), f.resultTypes[j]? = some t → (v.resultList f.resultTypes.size)[j]? = some r → Value.okWide P W' .any 0 t r) :
    s.post enc P f apart fresh handsOn again W args v W' := by
  have hlt : ∀ p ∈ before, p.block < W.heap.size := fun p hp => hW.lt p hp
  have hold : ∀ p ∈ before, (fun b => decide (b < W.heap.size)) p.block = true := fun p hp => by simpa using hlt p hp
  refine ⟨ds, gs, before, [], pa, pv, hW, hres _ _ _, hargs _ hold, hvars _ hold, World.keptBut_mono (fun p hp => ⟨hp, ?_⟩) (hb.frame (· ∈ before)), fun _ => ?_⟩
  · rw [hps, List.mem_append] at hp
    exact Or.inr hp
  · obtain ⟨_, _, _, _, _, hz, hn⟩ := hW
    refine ⟨hok, _, _, ([] ++ pa) ++ pv, ⟨[] ++ pa, pv, trodAll_append (hargs _ (fun _ _ => rfl)) (hres _ _ _), hvars _ (fun _ _ => rfl), rfl, ?_, ?_⟩, ?_⟩
    · intro b off hp
      have hin : MemPlace.cell b off ∈ before := by rw [hps]; simpa using hp
      rw [hb.frozen (hlt _ hin)]
      exact hz b off hin
    · intro ha
      have := hn ha
      rw [hps] at this
      simpa using this
    · intro p hp _
      rw [hps]
      simpa using hp
end
end Go.Av
set_option maxRecDepth 100000
open Go in
theorem Go.Av.lit_i64 {n : Int} (h : (Lit.int .i64 n).wf = true) : -9223372036854775808 ≤ n ∧ n ≤ 9223372036854775807 := by
  simpa [Lit.wf, IntKind.min, IntKind.max, IntKind.signed, IntKind.bits] using h
namespace Go.Proofs.YtplagcbifecagaaGreatDoor
open Go Go.Av Go.RowKit
theorem oneErr : ((List.range 271).filter fun t => Tryz.prog.rowNamed t [101, 114, 114, 111, 114]) = [25] := by kernel_rfl
theorem rtErr : (Tryz.prog.cutTypes.find? (·.1 == "internal/reflectlite.rtype")).map (·.2) = some 225 := by kernel_rfl
theorem szErr : Tryz.prog.types.size = 271 := by kernel_rfl
theorem hdErr : typeHandle Tryz.prog 25 = .pointer (some ⟨9, 25, none⟩) := by kernel_rfl
theorem gErrT : Tryz.prog.globalNamed "errors.errorType" = some 3 := by kernel_rfl
theorem notErr {l : List (String × DataW Unit)} (h : (l.all fun x => x.1 == "errors.errorType" || x.2.handleName?.isNone) = true) {x : String × DataW Unit} (hx : x ∈ l) (hn : (x.1 == "errors.errorType") = false) : x.2.handleName?.isNone = true := by
  have := List.all_eq_true.1 h x hx
  rw [hn] at this
  simpa using this
theorem laidMet_over {P : Program} {w0 : World} {laid : List (String × DataW Unit)} (args : Array Value) (hf : w0.layFits P laid [] = true) (hi : w0.layIfaces P laid (w0.layVars P laid) = true) :
    laidMet P laid ((w0.layVars P laid).forCall (fun _ _ => 0) ⟨#[], args, []⟩).memory := by
  have e1 : (laid.filter fun x => (laid.map Prod.fst).contains x.1) = laid := List.filter_eq_self.2 fun x hx => List.contains_iff_mem.2 (List.mem_map_of_mem hx)
  have e2 : (laid.filter fun x => !(laid.map Prod.fst).contains x.1) = [] := List.filter_eq_nil_iff.2 fun x hx => by
    rw [List.contains_iff_mem.2 (List.mem_map_of_mem (f := Prod.fst) hx)]
    simp
  have h : laidMet P laid (w0.layVars P laid) := laidMet_layVars (w0 := w0) (laid.map Prod.fst) [] (by rw [e1]) (by rw [e1]; exact hf) (by rw [e1]; exact hi) (by rw [e2]; exact LaidIn.none)
  exact h.of_heap (by simp [World.memory, World.forCall, Input.heap])
noncomputable def baseW (os : Os) : World := { World.holding Tryz.prog os ⟨#[], #[], []⟩ with heap := (World.holding Tryz.prog os ⟨#[], #[], []⟩).heap.modify 3 fun
  | .cells _ t fz => .cells #[.iface 225 (.agg #[.pointer (some ⟨9, 25, none⟩)])] t fz
  | o => o }
theorem laid_of {l : List (String × DataW Unit)} {W : World}
    (hp : (l.filter fun x => x.2.handleName?.isSome) = [("errors.errorType", Rows.laid_errors_errorType)] ∧ (l.all fun x => x.1 == "errors.errorType" || x.2.handleName?.isNone) = true)
    (hL : laidMetH Tryz.prog l W) (hs : W.ShapedOpen Tryz.prog)
    (h1 : ("internal/strconv.uint64pow10", Rows.laid_internal_strconv_uint64pow10) ∈ l) (h2 : ("strconv.ErrSyntax", Rows.laid_strconv_ErrSyntax) ∈ l) (h3 : ("strconv.ErrRange", Rows.laid_strconv_ErrRange) ∈ l) : E.L W.heap.size W := by
  unfold laidMetH at hL
  rw [hp.1] at hL
  simp only at hL
  intro w hb
  obtain ⟨hL, hH⟩ := hL
  have h1 := (List.mem_filter (p := fun x => x.2.handleName?.isNone)).2 ⟨h1, notErr hp.2 h1 (by decide)⟩
  have h2 := (List.mem_filter (p := fun x => x.2.handleName?.isNone)).2 ⟨h2, notErr hp.2 h2 (by decide)⟩
  have h3 := (List.mem_filter (p := fun x => x.2.handleName?.isNone)).2 ⟨h3, notErr hp.2 h3 (by decide)⟩
  obtain ⟨name, u, ty, e1, e2, e3, e4, e5⟩ := hH _ (List.mem_singleton.2 rfl)
  have en : name = [101, 114, 114, 111, 114] := (Option.some.inj e1).symm
  subst en
  obtain rfl := Option.some.inj (rtErr.symm.trans e2)
  have hm : ty ∈ (List.range 271).filter fun t => Tryz.prog.rowNamed t [101, 114, 114, 111, 114] := List.mem_filter.2 ⟨List.mem_range.2 (by rw [← szErr]; exact e3), e4⟩
  rw [oneErr] at hm
  obtain rfl := List.mem_singleton.1 hm
  rw [hdErr] at e5
  have hv := World.var?_cell gErrT (Go.Joins.var_stays gErrT e5 hb (Nat.le_refl _)) 0
  have g1 : Tryz.prog.globalNamed "internal/strconv.uint64pow10" = some 4 := by kernel_rfl
  have g2 : Tryz.prog.globalNamed "strconv.ErrSyntax" = some 1 := by kernel_rfl
  have g3 : Tryz.prog.globalNamed "strconv.ErrRange" = some 2 := by kernel_rfl
  have t1 := tabIs_of_reads (k := .u64) (zs := Lib.pow10Tab) (t := 215) (e := 128) (n := 20) g1 (by kernel_rfl) (by kernel_rfl) (by kernel_rfl) (by kernel_rfl) (by kernel_rfl) (Lib.laidMet.reads hL h1)
  obtain ⟨tp2, p2, v2⟩ := sent_of_reads (t := 25) g2 (by kernel_rfl) rfl (Lib.laidMet.reads hL h2)
  obtain ⟨tp3, p3, v3⟩ := sent_of_reads (t := 25) g3 (by kernel_rfl) rfl (Lib.laidMet.reads hL h3)
  exact ⟨hs.keptBut (hb.frame (fun _ => False)) (fun _ h => h.elim), Go.Joins.var_stays g1 t1 hb (Nat.le_refl _), ⟨tp2, p2, Go.Joins.var_stays g2 v2 hb (Nat.le_refl _)⟩, ⟨tp3, p3, Go.Joins.var_stays g3 v3 hb (Nat.le_refl _)⟩, by simpa using hv⟩
end Go.Proofs.YtplagcbifecagaaGreatDoor
set_option linter.unusedVariables false
namespace Go.Pl
open Go
abbrev Bytes := List UInt8
theorem index_one (l : Bytes) (c : UInt8) : 0 ≤ Lib.index l [c] ↔ c ∈ l := by
  induction l with
  | nil => simp [Lib.index]
  | cons b l ih =>
    have hge := Lib.index_ge l [c]
    unfold Lib.index
    by_cases hb : c = b
    · subst hb
      simp [List.isPrefixOf]
    · have hp : ([c] : Bytes).isPrefixOf (b :: l) = false := by simp [List.isPrefixOf, hb]
      rw [hp]
      by_cases hm : Lib.index l [c] = -1
      · have : c ∉ l := fun h => by have := ih.2 h; omega
        simp [hm, hb, this]
      · have : c ∈ l := ih.1 (by omega)
        simp [hm, this]
        omega
theorem contains_one (l : Bytes) (c : UInt8) : Lib.contains l [c] = decide (c ∈ l) := by
  unfold Lib.contains
  by_cases h : c ∈ l
  · simp [h, (index_one l c).2 h]
  · have : ¬ 0 ≤ Lib.index l [c] := fun h' => h ((index_one l c).1 h')
    simp [h, this]
theorem hasPrefix_one (l : Bytes) (c : UInt8) : Lib.hasPrefix l [c] = decide (l.head? = some c) := by
  cases l with
  | nil => simp [Lib.hasPrefix]
  | cons b l =>
    by_cases h : c = b
    · simp [Lib.hasPrefix, List.isPrefixOf, h]
    · simp [Lib.hasPrefix, List.isPrefixOf, h, Ne.symm h]
def isBlank (c : UInt8) : Prop := c = 32 ∨ c = 9
instance (c : UInt8) : Decidable (isBlank c) := inferInstanceAs (Decidable (c = 32 ∨ c = 9))
def blankL (l : Bytes) : Prop := ∃ c, l.head? = some c ∧ isBlank c
instance (l : Bytes) : Decidable (blankL l) :=
  match l with
  | [] => .isFalse (by rintro ⟨c, h, _⟩; simp at h)
  | c :: r => decidable_of_iff (isBlank c) ⟨fun h => ⟨c, rfl, h⟩, fun ⟨d, h, hd⟩ => by simp at h; subst h; exact hd⟩
def keyOk (l : Bytes) : Prop := l ≠ [] ∧ l.length ≤ 32 ∧ ¬ blankL l ∧ ¬ l.head? = some 35 ∧ 58 ∉ l ∧ 10 ∉ l
instance (l : Bytes) : Decidable (keyOk l) := inferInstanceAs (Decidable (_ ∧ _ ∧ _ ∧ _ ∧ _ ∧ _))
theorem blank_contains (c : UInt8) (l : Bytes) : Lib.contains [32, 9] [c] = decide (blankL (c :: l)) := by
  rw [contains_one]
  have : blankL (c :: l) ↔ isBlank c := ⟨fun ⟨d, h, hd⟩ => by simp at h; subst h; exact hd, fun h => ⟨c, rfl, h⟩⟩
  simp [this, isBlank]
def upto (c : UInt8) (l : Bytes) : Bytes := l.takeWhile (· ≠ c)
def past (c : UInt8) (l : Bytes) : Bytes := l.drop ((upto c l).length + 1)
theorem index_upto (c : UInt8) (l : Bytes) (h : c ∈ l) : Lib.index l [c] = ((upto c l).length : Int) := by
  induction l with
  | nil => simp at h
  | cons b l ih =>
    unfold Lib.index upto
    by_cases hb : b = c
    · subst hb; simp [List.isPrefixOf]
    · have hp : ([c] : Bytes).isPrefixOf (b :: l) = false := by simp [List.isPrefixOf, Ne.symm hb]
      have hl : c ∈ l := by simpa [Ne.symm hb] using h
      have e := ih hl
      rw [hp]
      have : (Lib.index l [c] == -1) = false := by rw [e]; simp
      simp only [this]
      rw [e]
      simp [hb, upto]
theorem take_upto (c : UInt8) (l : Bytes) : l.take (upto c l).length = upto c l := by
  induction l with
  | nil => simp [upto]
  | cons b l ih =>
    by_cases hb : b = c
    · simp [upto, hb]
    · have : upto c (b :: l) = b :: upto c l := by simp [upto, hb]
      rw [this]
      simp [ih]
theorem upto_all {c : UInt8} {l : Bytes} (h : c ∉ l) : upto c l = l := by
  induction l with
  | nil => rfl
  | cons b l ih =>
    have hb : b ≠ c := fun e => h (by simp [e])
    have : upto c (b :: l) = b :: upto c l := by simp [upto, hb]
    rw [this, ih (fun h' => h (by simp [h']))]
theorem upto_length_le (c : UInt8) (l : Bytes) : (upto c l).length ≤ l.length := by
  have := congrArg List.length (take_upto c l)
  simp at this
  omega
theorem upto_length_lt {c : UInt8} {l : Bytes} (h : c ∈ l) : (upto c l).length < l.length := by
  induction l with
  | nil => simp at h
  | cons b l ih =>
    by_cases hb : b = c
    · simp [upto, hb]
    · have : upto c (b :: l) = b :: upto c l := by simp [upto, hb]
      rw [this]
      have := ih (by simpa [Ne.symm hb] using h)
      simp
      omega
theorem past_length (c : UInt8) (l : Bytes) : (past c l).length = l.length - ((upto c l).length + 1) := by simp [past]
theorem cut_one (c : UInt8) (l : Bytes) : Lib.cut l [c] = (upto c l, past c l, decide (c ∈ l)) := by
  unfold Lib.cut
  by_cases h : c ∈ l
  · rw [if_pos ((index_one l c).2 h), index_upto c l h]
    simp [take_upto, past, h]
  · rw [if_neg (fun h' => h ((index_one l c).1 h'))]
    simp [upto_all h, past, h]
theorem past_lt {c : UInt8} {l : Bytes} (h : l ≠ []) : (past c l).length < l.length := by
  rw [past_length]
  have := List.length_pos_iff.2 h
  omega
def linesOf (l : Bytes) : List (Bytes × Bool) :=
  if h : l = [] then [] else (upto 10 l, decide (10 ∈ l)) :: linesOf (past 10 l)
  termination_by l.length
  decreasing_by exact past_lt h
theorem linesOf_nil : linesOf [] = [] := by rw [linesOf]; simp
theorem linesOf_cons {l : Bytes} (h : l ≠ []) : linesOf l = (upto 10 l, decide (10 ∈ l)) :: linesOf (past 10 l) := by rw [linesOf]; simp [h]
def lineEnd (b : Bool) : Bytes := if b then [10] else []
def dedentOf (by' l : Bytes) : Bytes × Bool :=
  if ∀ x ∈ linesOf l, by' <+: x.1 then ((linesOf l).flatMap fun x => x.1.drop by'.length ++ lineEnd x.2, true) else ([], false)
theorem trimPrefix_le (l m : Bytes) : (Lib.trimPrefix l m).length ≤ l.length := by
  unfold Lib.trimPrefix
  split
  · simp
  · exact Nat.le_refl _
theorem hasPrefix_iff (l m : Bytes) : Lib.hasPrefix l m = true ↔ m <+: l := by
  unfold Lib.hasPrefix
  exact List.isPrefixOf_iff_prefix
theorem trimPrefix_of {l m : Bytes} (h : m <+: l) : Lib.trimPrefix l m = l.drop m.length := by
  unfold Lib.trimPrefix
  rw [if_pos ((hasPrefix_iff l m).2 h)]
theorem upto_app {c : UInt8} {a : Bytes} (r : Bytes) (h : c ∉ a) : upto c (a ++ c :: r) = a := by
  induction a with
  | nil => simp [upto]
  | cons b a ih =>
    have hb : b ≠ c := fun e => h (by simp [e])
    have h2 : c ∉ a := fun e => h (by simp [e])
    have e : upto c (b :: (a ++ c :: r)) = b :: upto c (a ++ c :: r) := by simp [upto, hb]
    rw [List.cons_append, e, ih h2]
theorem past_app {c : UInt8} {a : Bytes} (r : Bytes) (h : c ∉ a) : past c (a ++ c :: r) = r := by
  unfold past
  rw [upto_app r h, show a ++ c :: r = (a ++ [c]) ++ r by simp, show a.length + 1 = (a ++ [c]).length by simp, List.drop_left]
theorem upto_past {c : UInt8} {l : Bytes} (h : c ∈ l) : l = upto c l ++ c :: past c l := by
  induction l with
  | nil => simp at h
  | cons b l ih =>
    by_cases hb : b = c
    · subst hb; simp [upto, past]
    · have h2 : c ∈ l := by simpa [Ne.symm hb] using h
      have e1 : upto c (b :: l) = b :: upto c l := by simp [upto, hb]
      have e2 : past c (b :: l) = past c l := by simp [past, e1]
      rw [e1, e2, List.cons_append, ← ih h2]
theorem notin_upto (c : UInt8) (l : Bytes) : c ∉ upto c l := by
  induction l with
  | nil => simp [upto]
  | cons b l ih =>
    by_cases hb : b = c
    · simp [upto, hb]
    · have e1 : upto c (b :: l) = b :: upto c l := by simp [upto, hb]
      rw [e1]
      simp [Ne.symm hb, ih]
def keyPart (l : Bytes) : Bytes := l.takeWhile (· ≠ 58)
theorem index_colon (l : Bytes) (h : 58 ∈ l) : Lib.index l [58] = ((keyPart l).length : Int) := by
  induction l with
  | nil => simp at h
  | cons b l ih =>
    unfold Lib.index keyPart
    by_cases hb : b = 58
    · subst hb; simp [List.isPrefixOf]
    · have hp : ([58] : Bytes).isPrefixOf (b :: l) = false := by simp [List.isPrefixOf, Ne.symm hb]
      have hl : 58 ∈ l := by simpa [Ne.symm hb] using h
      have e := ih hl
      rw [hp]
      have : (Lib.index l [58] == -1) = false := by rw [e]; simp
      simp only [this]
      rw [e]
      simp [hb, keyPart]
theorem take_keyPart (l : Bytes) : l.take (keyPart l).length = keyPart l := by
  induction l with
  | nil => simp [keyPart]
  | cons b l ih =>
    by_cases hb : b = 58
    · simp [keyPart, hb]
    · have : keyPart (b :: l) = b :: keyPart l := by simp [keyPart, hb]
      rw [this]
      simp [ih]
def restPart (l : Bytes) : Bytes := l.drop ((keyPart l).length + 1)
theorem cut_colon (l : Bytes) : Lib.cut l [58] = if 58 ∈ l then (keyPart l, restPart l, true) else (l, [], false) := by
  unfold Lib.cut
  by_cases h : 58 ∈ l
  · rw [if_pos ((index_one l 58).2 h), if_pos h, index_colon l h]
    simp [take_keyPart, restPart]
  · rw [if_neg (fun h' => h ((index_one l 58).1 h')), if_neg h]
def kindOf (l : Bytes) : Int :=
  if 10 ∈ l then 5 else if ∀ c ∈ l, isBlank c then 1 else if l.head? = some 35 then 2 else if blankL l then 3
  else if 58 ∈ l ∧ keyOk (keyPart l) then 4 else 5
theorem dropWhile_nil {α : Type} (p : α → Bool) (l : List α) : l.dropWhile p = [] ↔ ∀ x ∈ l, p x = true := by
  induction l with
  | nil => simp
  | cons a l ih =>
    by_cases h : p a = true
    · simp [h, ih]
    · simp [h]
theorem drop_nil {α : Type} (p : α → Bool) (l : List α) : (l.reverse.dropWhile p).reverse.dropWhile p = [] ↔ ∀ x ∈ l, p x = true := by
  rw [dropWhile_nil]
  constructor
  · intro h x hx
    by_cases hq : ∀ y ∈ l, p y = true
    · exact hq x hx
    · have hr : ¬ ∀ y ∈ l.reverse, p y = true := fun h' => hq fun y hy => h' y (by simpa using hy)
      rw [← dropWhile_nil] at hr
      obtain ⟨a, r, hd⟩ := List.exists_cons_of_ne_nil hr
      have h1 := List.head?_dropWhile_not p l.reverse
      rw [hd] at h1
      have h2 := h a (by simp [hd])
      simp [h2] at h1
  · intro h x hx
    exact h x (by
      have := (List.dropWhile_sublist (l := l.reverse) p).subset (by simpa using hx)
      simpa using this)
theorem trimS_nil (l m : Bytes) : Lib.trimS l m = [] ↔ ∀ c ∈ l, c ∈ m := by
  unfold Lib.trimS Lib.trimLeftS Lib.trimRightS
  rw [drop_nil]
  simp
theorem cut_fst_le (l m : Bytes) : (Lib.cut l m).1.length ≤ l.length := by
  unfold Lib.cut
  split
  · simp; omega
  · simp
end Go.Pl
set_option linter.unusedVariables false
namespace Go.Pl
open Go
def goodF (l : Bytes) : Prop := 2 ≤ l.length ∧ l.length ≤ 50000 ∧ l.getLast? = some 10 ∧ (dedentOf [32] l).2 = true
instance (l : Bytes) : Decidable (goodF l) := inferInstanceAs (Decidable (_ ∧ _ ∧ _ ∧ _))
def headF (n : Nat) (fig : Bytes) : Bytes := [37, 97, 109, 101, 110, 100, 32] ++ Lib.itoa n ++ [32] ++ fig ++ [10]
def tailF (n : Nat) : Bytes := [37, 101, 110, 100, 32] ++ Lib.itoa n ++ [10]
theorem nDigits_le : ∀ (k u : Nat), u < 10 ^ (k + 1) → Lib.nDigits u ≤ k + 1
  | 0, u, h => by rw [Lib.nDigits_small (by simpa using h)]; omega
  | k + 1, u, h => by
    by_cases h' : u < 10
    · rw [Lib.nDigits_small h']; omega
    · rw [Lib.nDigits_big h']
      have := nDigits_le k (u / 10) (by rw [Nat.pow_succ] at h; omega)
      omega
theorem hasSuffix_one (l : Bytes) (c : UInt8) : Lib.hasSuffix l [c] = decide (l.getLast? = some c) := by
  have : Lib.hasSuffix l [c] = true ↔ l.getLast? = some c := by
    unfold Lib.hasSuffix
    rw [List.isSuffixOf_iff_suffix, List.singleton_suffix_iff_getLast?_eq_some]
  by_cases h : l.getLast? = some c
  · simp [this.2 h, h]
  · have : ¬ Lib.hasSuffix l [c] = true := fun h' => h (this.1 h')
    simp [this, h]
theorem atoiAll_bounds {l : Bytes} {v : Int} (h : Lib.atoiAll l = .ok v) : -9223372036854775808 ≤ v ∧ v ≤ 9223372036854775807 := by
  unfold Lib.atoiAll at h
  cases l with
  | nil => simp at h
  | cons c r =>
    simp only at h
    split at h
    · simp at h
    · simp at h
    · split at h
      · simp at h
      · split at h
        · simp at h
        · rename_i h1 h2
          simp only [Lib.NumEnd.ok.injEq] at h
          subst h
          by_cases hn : c.toNat = 45
          · simp only [hn, true_and, not_true, if_true] at *
            omega
          · simp only [hn, not_false_iff, true_and, if_false] at *
            omega
def numberF (l : Bytes) : Nat :=
  match Lib.atoiAll l with
  | .ok v => if Lib.itoa v = l ∧ 1 ≤ v ∧ v ≤ 50000 then v.toNat else 0
  | _ => 0
def beginL : Bytes := [37, 97, 109, 101, 110, 100, 32]
def hexL : Bytes := [48, 49, 50, 51, 52, 53, 54, 55, 56, 57, 97, 98, 99, 100, 101, 102]
def hexAll (l : Bytes) : Prop := ∀ c ∈ l, c ∈ hexL
instance (l : Bytes) : Decidable (hexAll l) := inferInstanceAs (Decidable (∀ c ∈ l, c ∈ hexL))
def openedF (l : Bytes) : Nat × Bytes × Bool :=
  (numberF (upto 32 (Lib.trimPrefix l beginL)), past 32 (Lib.trimPrefix l beginL),
    decide (beginL <+: l ∧ 32 ∈ Lib.trimPrefix l beginL ∧ 2 ≤ numberF (upto 32 (Lib.trimPrefix l beginL)) ∧ (past 32 (Lib.trimPrefix l beginL)).length = 8 ∧ hexAll (past 32 (Lib.trimPrefix l beginL))))
def openingF (l : Bytes) : Bool :=
  if beginL <+: l then decide (¬ (32 ∈ l.drop 7 ∧ numberF (upto 32 (l.drop 7)) < 2) ∧ ¬ (upto 32 (l.drop 7) ≠ [] ∧ numberF (upto 32 (l.drop 7)) = 0) ∧ (past 32 (l.drop 7)).length ≤ 8 ∧ hexAll (past 32 (l.drop 7)))
  else decide (l <+: beginL)
def lengthF (n : Int) : Int := if n < 2 ∨ 50000 < n then 0 else (headF n.toNat [48, 48, 48, 48, 48, 48, 48, 48]).length + n + (tailF n.toNat).length
def partlyF (body : Bytes) (lack : Int) : Int :=
  if (dedentOf [32] body).2 = true ∧ ¬ ((body = [] ∨ body.getLast? = some 10) ∧ lack < 2) then 2 else 3
theorem digit_piece {u : Nat} (h : u < 10) : (([48, 49, 50, 51, 52, 53, 54, 55, 56, 57] : Bytes).take (u + 1)).drop u = Lib.decDigits u := by
  rw [Lib.decDigits_one h]
  have : u = 0 ∨ u = 1 ∨ u = 2 ∨ u = 3 ∨ u = 4 ∨ u = 5 ∨ u = 6 ∨ u = 7 ∨ u = 8 ∨ u = 9 := by omega
  rcases this with rfl | rfl | rfl | rfl | rfl | rfl | rfl | rfl | rfl | rfl <;> rfl
theorem decDigits_big {u : Nat} (h : ¬ u < 10) : Lib.decDigits u = Lib.decDigits (u / 10) ++ Lib.decDigits (u % 10) := by
  rw [Lib.decDigits, dif_neg h, Lib.decDigits_one (Nat.mod_lt u (by omega))]
theorem decDigits_len_le {u : Nat} (h : u < 18446744073709551616) : (Lib.decDigits u).length ≤ 20 := by
  rw [Lib.decDigits_length]
  exact nDigits_le 19 u (by omega)
end Go.Pl
set_option linter.unusedVariables false
set_option maxRecDepth 100000
namespace Go.Proofs.YtplagcbifecagaaGreatDoor
open Go Go.Av Go.RowKit Go.Proofs Go.Pl
theorem contains1_c (l : List UInt8) (c : UInt8) (st : List AObj) (hl : l.length < 4294967281) : ACall E 164 [Sv l, Sv [c]] st fun r st' => r = Bv (decide (c ∈ l)) ∧ st' = st := by
  rw [← contains_one]; exact contains_c l [c] st hl
theorem hasPrefix1_c (l : List UInt8) (c : UInt8) (st : List AObj) : ACall E 69 [Sv l, Sv [c]] st fun r st' => r = Bv (decide (l.head? = some c)) ∧ st' = st := by
  rw [← hasPrefix_one]; exact hasPrefix_c l [c] st
theorem blank_c (l : List UInt8) (st : List AObj) : ACall E 165 [Sv l] st fun r st' => r = Bv (decide (blankL l)) ∧ st' = st := by
  refine acall_pure (pure_v _) (acall_of_awp Tryz.func165 rfl (Nat.le_of_ble_eq_true rfl) ?_)
  cases l with
  | nil =>
    repeat' (first
      | apply awp_seq
      | apply awp_region
      | apply aops_nil
      | apply aops_move
      | apply aops_assign
      | (apply aops_cmpS; exact rfl; exact rfl; exact rfl)
      | (apply aops_guard_any; exact rfl; exact rfl; exact rfl; exact rfl)
      | (apply gd_skip_f; (first | exact rfl | assumption))
      | (apply aops_pick_any; exact rfl; first | (apply pk_dt; (first | assumption | omega)) | (apply pk_df; (first | assumption | omega)) | (apply pk_nt; (first | exact rfl | assumption)) | (apply pk_nf; (first | exact rfl | assumption)) | (apply pk_t; (first | exact rfl | assumption)) | (apply pk_f; (first | exact rfl | assumption)))
      | apply awp_ret)
    refine aret_plain rfl (ares_one rfl) ⟨congrArg Bv (?_ : _ = _), _, rfl⟩
    simp [blankL]
  | cons c l =>
    have hne : ¬ (c :: l) = [] := by simp
    repeat' (first
      | apply awp_seq
      | apply awp_region
      | apply aops_nil
      | apply aops_move
      | apply aops_assign
      | (apply aops_cmpS; exact rfl; exact rfl; exact rfl)
      | (apply aops_guard_any; exact rfl; exact rfl; exact rfl; exact rfl)
      | (apply gd_run_d; (first | assumption | omega))
      | (apply aops_pick_any; exact rfl; first | (apply pk_dt; (first | assumption | omega)) | (apply pk_df; (first | assumption | omega)) | (apply pk_nt; (first | exact rfl | assumption)) | (apply pk_nf; (first | exact rfl | assumption)) | (apply pk_t; (first | exact rfl | assumption)) | (apply pk_f; (first | exact rfl | assumption)))
      | apply awp_ret
      | refine aops_sliceS rfl rfl rfl ⟨_, rfl⟩ (by omega) (by omega) (by simp; omega) ?_
      | (apply aops_call1; exact Tryz.call164; exact contains_c _ _ _ (by simp)))
    refine aret_plain rfl (ares_one rfl) ⟨congrArg Bv (?_ : _ = _), _, rfl⟩
    exact blank_contains c l
theorem key_c (l : List UInt8) (st : List AObj) (hl : l.length < 4294967281) : ACall E 145 [Sv l] st fun r st' => r = Bv (decide (keyOk l)) ∧ st' = st := by
  refine acall_pure (pure_v _) (acall_of_awp Tryz.func145 rfl (Nat.le_of_ble_eq_true rfl) ?_)
  repeat' (first
    | apply awp_seq
    | apply awp_region
    | apply aops_nil
    | apply aops_move
    | apply aops_assign
    | (apply aops_cmpI; exact rfl; exact rfl; exact rfl)
    | (apply aops_cmpS; exact rfl; exact rfl; exact rfl)
    | (apply aops_not; exact rfl)
    | (apply aops_guard_any; exact rfl; exact rfl; exact rfl; exact rfl)
    | (apply gd_run_n; (first | assumption | omega))
    | (apply gd_skip_d; (first | assumption | omega))
    | (apply gd_run_nt; (first | exact rfl | assumption))
    | (apply gd_skip_nf; (first | exact rfl | assumption))
    | (apply gd_split_n <;> intro h)
    | (apply gd_skip_t; (first | exact rfl | assumption))
    | (apply gd_split_d <;> intro h)
    | (apply aops_pick_any; exact rfl; first | (apply pk_dt; (first | assumption | omega)) | (apply pk_df; (first | assumption | omega)) | (apply pk_nt; (first | exact rfl | assumption)) | (apply pk_nf; (first | exact rfl | assumption)) | (apply pk_t; (first | exact rfl | assumption)) | (apply pk_f; (first | exact rfl | assumption)))
    | (apply awp_cond_any; exact rfl; first | (apply cd_dt; (first | assumption | omega)) | (apply cd_df; (first | assumption | omega)) | (apply cd_nt; (first | exact rfl | assumption)) | (apply cd_nf; (first | exact rfl | assumption)) | (apply cd_n <;> intro h) | (apply cd_t; (first | exact rfl | assumption)) | (apply cd_f; (first | exact rfl | assumption)) | (apply cd_d <;> intro h) | (apply cd_s <;> intro h))
    | (apply aops_lenS; exact rfl; exact rfl; exact rfl)
    | apply awp_skip
    | apply awp_ret
    | (apply aops_call1; exact Tryz.call164; exact contains1_c _ _ _ hl)
    | (apply aops_call1; exact Tryz.call69; exact hasPrefix1_c _ _ _)
    | (apply aops_call1; exact Tryz.call165; exact blank_c _ _))
  all_goals refine aret_plain rfl (ares_one rfl) ⟨congrArg Bv (?_ : _ = _), _, rfl⟩
  all_goals simp [keyOk, *]
  all_goals omega
end Go.Proofs.YtplagcbifecagaaGreatDoor
set_option linter.unusedVariables false
set_option maxRecDepth 100000
namespace Go.Proofs.YtplagcbifecagaaGreatDoor
open Go Go.Av Go.RowKit Go.Proofs Go.Pl
theorem kind_c (l : List UInt8) (st : List AObj) (hl : l.length < 4294967281) : ACall E 139 [Sv l] st fun r st' => r = Iv (kindOf l) ∧ st' = st := by
  refine acall_pure (pure_v _) (acall_of_awp Tryz.func139 rfl (Nat.le_of_ble_eq_true rfl) ?_)
  repeat' (first
    | apply awp_seq
    | apply awp_block
    | apply awp_region
    | apply aops_nil
    | apply aops_move
    | apply aops_assign
    | (apply aops_extract; exact rfl; exact rfl)
    | (apply aops_cmpS; exact rfl; exact rfl; exact rfl)
    | (apply aops_guard_any; exact rfl; exact rfl; exact rfl; exact rfl)
    | (apply gd_run_t; (first | exact rfl | assumption))
    | (apply gd_skip_f; (first | exact rfl | assumption))
    | (apply gd_split <;> intro h)
    | (apply aops_pick_any; exact rfl; first | (apply pk_dt; (first | assumption | omega)) | (apply pk_df; (first | assumption | omega)) | (apply pk_nt; (first | exact rfl | assumption)) | (apply pk_nf; (first | exact rfl | assumption)) | (apply pk_t; (first | exact rfl | assumption)) | (apply pk_f; (first | exact rfl | assumption)))
    | (apply awp_cond_any; exact rfl; first | (apply cd_dt; (first | assumption | omega)) | (apply cd_df; (first | assumption | omega)) | (apply cd_nt; (first | exact rfl | assumption)) | (apply cd_nf; (first | exact rfl | assumption)) | (apply cd_n <;> intro h) | (apply cd_t; (first | exact rfl | assumption)) | (apply cd_f; (first | exact rfl | assumption)) | (apply cd_d <;> intro h) | (apply cd_s <;> intro h))
    | apply awp_skip
    | apply awp_ret
    | (apply aops_call1; exact Tryz.call164; exact contains1_c _ _ _ hl)
    | (apply aops_call1; exact Tryz.call96; exact trim_c _ _ _ (by omega) (by simp) (by intro j b h; match j with | 0 => simp at h; subst h; decide | 1 => simp at h; subst h; decide | j + 2 => simp at h))
    | (apply aops_call1; exact Tryz.call69; exact hasPrefix1_c _ _ _)
    | (apply aops_call1; exact Tryz.call165; exact blank_c _ _)
    | (apply aops_call1; exact Tryz.call31; exact cut_c _ _ _ hl)
    | (apply aops_call1; exact Tryz.call145; exact key_c _ _ (Nat.lt_of_le_of_lt (cut_fst_le _ _) hl)))
  all_goals refine aret_plain rfl (ares_one rfl) ⟨congrArg Iv (?_ : _ = _), _, rfl⟩
  all_goals have hb : Lib.trimS l [32, 9] = [] ↔ ∀ c ∈ l, isBlank c := by rw [trimS_nil]; simp [isBlank]
  all_goals by_cases hA : ∀ c ∈ l, isBlank c <;> by_cases hC : 58 ∈ l <;> by_cases hK : keyOk (keyPart l) <;> simp_all [kindOf, cut_colon]
end Go.Proofs.YtplagcbifecagaaGreatDoor
set_option linter.unusedVariables false
set_option maxRecDepth 100000
namespace Go.Proofs
open Go.Shelf Go.RowKit
variable {P : Program} {ρ : Ren}
set_option maxHeartbeats 4000000 in
theorem bstr_exact (L : Lays.n169 P ρ) (X : Builder.Extra P ρ) (b n c : Nat) (ad : Option Addr) (q : Value) (str : ByteArray) (w w2 : World) (c1 : w.drew.cell? ⟨b, 1, none⟩ = some (.slice ad n c))
    (hSD : (Builtin.unsafeSliceData_ #[(ρ.t 37)] (ρ.t 127) #[.slice ad n c]).run P w.drew = .ok q w.drew)
    (hUS : (Builtin.unsafeString_ #[(ρ.t 127), (ρ.t 3)] (ρ.t 9) #[q, .int .i64 n]).run P w.drew = .ok (.string str) w2) :
    Calls P (ρ.f 169) #[.pointer (some ⟨b, 0, none⟩)] w fun e w' => e = .returned (.string str) ∧ w' = w2 := by
  have mixed := L.mixed
  have t72 := L.t72; have a72 := L.a72; have z72 := L.z72; have v72 := L.v72; have u72 := run_underlying L.t72
  have t70 := L.t70; have a70 := L.a70; have z70 := L.z70; have v70 := L.v70; have u70 := run_underlying L.t70
  have t37 := L.t37; have a37 := L.a37; have z37 := L.z37; have v37 := L.v37; have u37 := run_underlying L.t37
  have t127 := L.t127; have a127 := L.a127; have z127 := L.z127; have v127 := L.v127; have u127 := run_underlying L.t127
  have t3 := L.t3; have a3 := L.a3; have z3 := L.z3; have v3 := L.v3; have u3 := run_underlying L.t3
  have t9 := L.t9; have a9 := L.a9; have z9 := L.z9; have v9 := L.v9; have u9 := run_underlying L.t9
  have t5 := X.t5; have a5 := X.a5; have z5 := X.z5; have v5 := X.v5; have u5 := run_underlying X.t5
  go_enter L.f169, Body.n169_ntmps ρ
  go_wp2
  go_region_o
  all_goals (go_wp2; go_ret; exact ⟨rfl, rfl⟩)
end Go.Proofs
namespace Go.Proofs.YtplagcbifecagaaGreatDoor
open Go Go.Av Go.RowKit Go.Proofs
@[reducible] def bldO (ver : Nat) (q : AV) (l : List UInt8) (tp : Nat) : AObj := .cells ver 82 [q, .sl 1 (l.map Uv) (some tp)]
theorem noEscape_run (v : Value) (w : World) : (callFunc 114 #[v]).run E.P w = .ok (.value v) w := by
  have h := run_callFunc_extern (P := E.P) Tryz.func114 (by kernel_rfl) (by kernel_rfl) (by kernel_rfl) (e := Extern.AbiNoEscape.same) (by kernel_rfl) #[v] w
  rw [h, Lib.run_noEscape]
  rfl
theorem check_c (o ver : Nat) (q buf : AV) (st : List AObj) (ho : st[o]? = some (.cells ver 82 [q, buf])) (hq : q = .v (.pointer none) ∨ q = .bx o ver 0) :
    ACall E 79 [.bx o ver 0] st fun r st' => r = .tu [] ∧ st' = st.set o (.cells ver 82 [.bx o ver 0, buf]) := by
  have ho' : (st ++ [])[o]? = some (.cells ver 82 [q, buf]) := by rw [List.append_nil]; exact ho
  refine acall_of_awp Tryz.func79 rfl (Nat.le_of_ble_eq_true rfl) ?_
  rcases hq with rfl | rfl
  · skip
    repeat' (first
      | apply awp_seq
      | apply awp_region
      | apply aops_nil
      | apply aops_move
      | (apply awp_cond_any; exact rfl; first | (apply cd_dt; (first | assumption | omega)) | (apply cd_df; (first | assumption | omega)) | (apply cd_nt; (first | exact rfl | assumption)) | (apply cd_nf; (first | exact rfl | assumption)) | (apply cd_n <;> intro h) | (apply cd_t; (first | exact rfl | assumption)) | (apply cd_f; (first | exact rfl | assumption)) | (apply cd_d <;> intro h) | (apply cd_s <;> intro h))
      | (apply aops_fieldAddr_bx; exact rfl; exact rfl; exact rfl)
      | (apply aops_nilCheck; exact rfl; exact rfl)
      | (apply aops_ptrEqNil; exact rfl; exact rfl; exact rfl)
      | (apply aops_load_bx; exact rfl; exact ho'; exact rfl; exact rfl)
      | (apply aops_store_at; exact rfl; exact rfl; exact ho'; exact rfl; exact rfl; exact rfl; exact rfl; exact rfl; exact rfl)
      | (apply aops_toUnsafe; exact rfl; exact ho'; (simp); exact rfl; exact rfl; kernel_rfl)
      | (apply aops_fromUnsafe; exact rfl; exact ho'; exact rfl; exact rfl; exact rfl; kernel_rfl)
      | (apply aops_noEscape; exact noEscape_run; exact rfl))
    refine aret_plain rfl (ares_zero rfl) ⟨rfl, ?_⟩
    show (st ++ []).set o _ = _
    rw [List.append_nil]
    rfl
  · skip
    repeat' (first
      | apply awp_seq
      | apply awp_region
      | apply aops_nil
      | apply aops_move
      | (apply awp_cond_any; exact rfl; first | (apply cd_dt; (first | assumption | omega)) | (apply cd_df; (first | assumption | omega)) | (apply cd_nt; (first | exact rfl | assumption)) | (apply cd_nf; (first | exact rfl | assumption)) | (apply cd_n <;> intro h) | (apply cd_t; (first | exact rfl | assumption)) | (apply cd_f; (first | exact rfl | assumption)) | (apply cd_d <;> intro h) | (apply cd_s <;> intro h))
      | (apply aops_fieldAddr_bx; exact rfl; exact rfl; exact rfl)
      | (apply aops_nilCheck; exact rfl; exact rfl)
      | (apply aops_ptrEqNil; exact rfl; exact rfl; exact rfl)
      | apply awp_skip
      | (apply aops_load_bx; exact rfl; exact ho'; exact rfl; exact rfl)
      | (apply aops_ptrNeSame; exact rfl; exact rfl; exact ho'; exact rfl; exact rfl))
    refine aret_plain rfl (ares_zero rfl) ⟨rfl, ?_⟩
    show st ++ [] = _
    rw [List.append_nil, set_self ho]
theorem elem_u8 : ElemOk E.P 5 1 1 := ⟨_, _, rfl, rfl, rfl, rfl, rfl⟩
theorem bWrite_c (o ver tp : Nat) (q : AV) (l m : List UInt8) (st : List AObj) (ho : st[o]? = some (bldO ver q l tp)) (ht : st[tp]? = some (.tip l.length 1 5)) (hq : q = .v (.pointer none) ∨ q = .bx o ver 0) (hlen : l.length + m.length ≤ 140737488355328) :
    ACall E 41 [.bx o ver 0, Sv m] st fun r st' => r = .tu [Iv m.length, .v .nilIface] ∧ st' = (st.set o (bldO ver (.bx o ver 0) (l ++ m) tp)).set tp (.tip (l.length + m.length) 1 5) := by
  have hne : tp ≠ o := fun e => by rw [e, ho] at ht; simp at ht
  have ho' : (st ++ [])[o]? = some (bldO ver q l tp) := by rw [List.append_nil]; exact ho
  have ht' : (st ++ [])[tp]? = some (.tip l.length 1 5) := by rw [List.append_nil]; exact ht
  have h2 := get_set (y := .cells ver 82 [.bx o ver 0, .sl 1 (l.map Uv) (some tp)]) ho'
  have h3 := get_set_ne (y := .cells ver 82 [.bx o ver 0, .sl 1 (l.map Uv) (some tp)]) ht' (Ne.symm hne)
  have h4 := get_set_ne (y := .tip (l.length + m.length) 1 5) h2 hne
  have h5 : maxLen = 140737488351232 ∨ True := .inr trivial
  refine acall_of_awp Tryz.func41 rfl (Nat.le_of_ble_eq_true rfl) ?_
  repeat' (first
    | apply awp_seq
    | apply awp_region
    | apply aops_nil
    | apply aops_move
    | apply aops_assign
    | (apply aops_lenS; exact rfl; exact rfl; exact rfl)
    | (apply aops_fieldAddr_bx; exact rfl; exact rfl; exact rfl)
    | (apply aops_nilCheck; exact rfl; exact rfl)
    | apply awp_ret
    | (apply aops_call1; exact Tryz.call79; exact check_c o ver q _ (st ++ []) ho' hq)
    | (apply aops_load_bx; exact rfl; exact h2; exact rfl; exact rfl)
    | (apply aops_appendS; exact rfl; exact rfl; exact h3; (simp); exact rfl; exact rfl; exact elem_u8; (simp only [maxLen]; omega); omega)
    | (apply aops_store_at; exact rfl; exact rfl; exact h4; exact rfl; exact rfl; exact rfl; exact rfl; exact rfl; exact rfl))
  refine aret_plain rfl (ares_two rfl) ⟨rfl, ?_⟩
  show (((st ++ []).set o _).set tp _).set o (.cells ver 82 [.bx o ver 0, .sl 1 (l.map Uv ++ m.map Uv) (some tp)]) = _
  rw [List.append_nil, List.set_comm _ _ hne, List.set_set, ← List.map_append]
theorem bString_c (o ver tp : Nat) (q : AV) (l : List UInt8) (st : List AObj) (ho : st[o]? = some (bldO ver q l tp)) (ht : st[tp]? = some (.tip l.length 1 5)) :
    ACall E 43 [.bx o ver 0] st fun r st' => r = Sv l ∧ st' = st.set tp .dead := by
  refine ⟨fun B0 w0 G vals w hL hA hR => ?_⟩
  obtain ⟨h0, h1, h2, h3, c, h4, h5, h6⟩ := hA.ob o _ ho
  obtain ⟨g0, g1, g2⟩ := hA.ob tp _ ht
  have hne : tp ≠ o := fun e => by rw [e, ho] at ht; simp at ht
  have hvals : vals = #[.pointer (some ⟨(G.ob o).blk, 0, none⟩)] := by
    have hs : vals.size = 1 := by have := hR.1; simpa using this.symm
    have h := hR.2 0 (.bx o ver 0) vals[0] rfl (by simp [hs])
    apply Array.ext
    · simp [hs]
    · intro i hi1 hi2
      have : i = 0 := by simp at hi2; omega
      subst this
      have e : vals[0] = .pointer (some ⟨(G.ob o).blk, 0, none⟩) := by
        generalize vals[0] = v at h
        cases h with
        | bx _ _ _ b hn e1 e2 => rw [e2 h1]
      simpa using e
  subst hvals
  have hc2 : c.size = 2 := by rw [← h5]; rfl
  have hrel := h6 1 (.sl 1 (l.map Uv) (some tp)) c[1] rfl (by simp [hc2])
  have hcell : w.drew.cell? ⟨(G.ob o).blk, 1, none⟩ = some c[1] := by
    have h4' : w.drew.heap[(G.ob o).blk]? = some (.cells c 82 (0, 0)) := h4
    simp [World.cell?, h4', hc2]
  generalize hv : c[1] = v at hrel hcell
  have hdrew : Below w.heap.size w w.drew := ⟨rfl, rfl, rfl, Nat.le_refl _, fun _ _ => rfl⟩
  have hA1 := (hA.kill tp).fresh hdrew
  have hl : (l.map Uv).length = l.length := by simp
  generalize hxs : l.map Uv = xs at hrel
  cases hrel with
  | sl0 _ _ base cap hto =>
    obtain ⟨_, rfl, rfl⟩ := hto tp rfl
    have hl0 : l = [] := by simpa using hxs
    subst hl0
    refine (bstr_exact Tryz.lays169 Tryz.Builder_Extra_169 (G.ob o).blk 0 0 none (.pointer none) .empty w w.drew hcell rfl (Lib.run_unsafeString_none w.drew _ _ _ none)).mono ?_
    rintro e w' ⟨rfl, rfl⟩
    exact ⟨_, G, Sv [], _, rfl, .refl G, hA1, .v _, rfl, rfl⟩
  | sl _ _ _ b off cap pub hp hw hlen hr hto hcap0 =>
    subst hxs
    rw [hl] at hto hcell
    obtain ⟨_, hn0, _, hcur⟩ := hto tp rfl
    obtain ⟨hb, rfl, hcp, hcm, hcl⟩ := hcur g1
    obtain ⟨hB, c2, vs, e1, e2, e3, e4⟩ := g2 hn0
    rw [hb] at e1 e2 hB
    have hcells : ∀ j x, l[j]? = some x → w.drew.cell? ((⟨b, 0, none⟩ : Addr).add j) = some (.int .u8 x.toNat) := fun j x hx => by
      obtain ⟨c3, T3, fz3, k1, k2⟩ := hA.pub b pub hp
      have k1' : w.drew.heap[b]? = some (.cells c3 T3 fz3) := k1
      have hj : j < (flat (l.map Uv)).length := by rw [flat_bytes]; simpa using lt_of_getElem? hx
      have hy : pub[0 + j]? = some (pub[0 + j]'(by omega)) := List.getElem?_eq_getElem (by omega)
      have hrj := hr j (Uv x) _ (by rw [flat_bytes]; simp [hx]) hy
      have : pub[0 + j]'(by omega) = .int .u8 x.toNat := by
        generalize pub[0 + j]'(by omega) = y at hrj
        cases hrj; rfl
      rw [this] at hy
      rw [Addr.add_lit]
      simp only [World.cell?, k1']
      simpa using k2 _ _ hy
    have hle : l.length ≤ c2.size := by rw [e4, ← hcp]; omega
    have e1' : w.drew.heap[b]? = some (.cells c2 5 (0, 0)) := e1
    have hUS := Lib.run_unsafeString_row (P := E.P) w.drew 124 3 9 5 rfl (by kernel_rfl) b c2.size (by simp [World.shape?, e1']) l (by rintro rfl; exact hn0 rfl) hle (by simp only [maxLen] at hcm; omega) hcells
    have hSD : (Builtin.unsafeSliceData_ #[80] 124 #[.slice (some ⟨b, 0, none⟩) l.length cap]).run E.P w.drew = .ok (.pointer (some ⟨b, 0, none⟩)) w.drew := Lib.run_unsafeSliceData_row _ _ _ _ _ _ (by omega)
    refine (bstr_exact Tryz.lays169 Tryz.Builder_Extra_169 (G.ob o).blk l.length cap (some ⟨b, 0, none⟩) _ _ w _ hcell hSD hUS).mono ?_
    rintro e w' ⟨rfl, rfl⟩
    have hfz : ∃ fz', (w.drew.freeze ⟨b, 0, none⟩ l.length).heap[b]? = some (.cells c2 5 fz') := by
      unfold World.freeze
      rw [if_neg hn0]
      simp [Array.getElem?_modify, e1']
    obtain ⟨fz', hfz⟩ := hfz
    have hoth : ∀ k, k ≠ b → (w.drew.freeze ⟨b, 0, none⟩ l.length).heap[k]? = w.drew.heap[k]? := fun k hk => by
      unfold World.freeze
      rw [if_neg hn0]
      simp [Array.getElem?_modify, Ne.symm hk]
    refine ⟨_, G, Sv l, _, rfl, .refl G, hA1.refroze e1' hfz hoth hB (by unfold World.freeze; rw [if_neg hn0]; simp) (by unfold World.freeze; rw [if_neg hn0]) (by unfold World.freeze; rw [if_neg hn0]) (by unfold World.freeze; rw [if_neg hn0]) (fun k x hx hlv => ?_), .v _, rfl, rfl⟩
    rcases getElem?_set' _ _ _ _ _ hx with ⟨_, e⟩ | ⟨k1, k2⟩
    · subst e; exact hlv.elim
    · have := hA.sep k tp x _ k1 k2 ht hlv hn0
      rwa [hb] at this
end Go.Proofs.YtplagcbifecagaaGreatDoor
set_option linter.unusedVariables false
set_option maxRecDepth 100000
namespace Go.Proofs.YtplagcbifecagaaGreatDoor
open Go Go.Av Go.RowKit Go.Proofs Go.Pl
theorem cut1_c (l : List UInt8) (c : UInt8) (st : List AObj) (hl : l.length < 4294967281) : ACall E 31 [Sv l, Sv [c]] st fun r st' => r = .tu [Sv (upto c l), Sv (past c l), Bv (decide (c ∈ l))] ∧ st' = st := by
  have := cut_c l [c] st hl
  rw [cut_one] at this
  exact this
@[reducible] def lineA (k : Nat) (text rest : List UInt8) : AV := .ag [Iv k, Iv ((text.length : Int) - rest.length), Sv (upto 10 rest), Bv (decide (10 ∈ rest))]
theorem split1_c (text : List UInt8) (o kb ver n : Nat) (I : Nat → List UInt8 → List AObj → Prop) (D : List AObj → Prop) (st : List AObj) (ht : text.length < 4294967281) (h0 : I 0 text st)
    (hI : ∀ k rest st', I k rest st' → st'.length = n ∧ st'[kb]? = some (.cells ver 9 [Sv text]))
    (hY : ∀ k rest st' own, I k rest st' → rest ≠ [] → rest.length ≤ text.length → AYield E o [lineA k text rest] (st' ++ [own]) fun b st2 => ∃ st3, st2 = st3 ++ [own] ∧ (b = true → I (k + 1) (past 10 rest) st3) ∧ (b = false → D st3)) :
    ACall E 85 [.yd o, .bx kb ver 0] st fun r st' => ∃ st3 ext', st' = st3 ++ ext' ∧ ((∃ k, I k [] st3) ∨ D st3) := by
  refine acall_of_awp Tryz.func85 rfl (Nat.le_of_ble_eq_true rfl) ?_
  obtain ⟨hn, hb⟩ := hI 0 text st h0
  subst hn
  repeat' (first
    | apply awp_seq
    | apply awp_block
    | apply awp_region
    | apply aops_nil
    | apply aops_assign
    | (apply aops_alloc; exact rfl; exact rfl)
    | (apply aops_store_loc; exact rfl; exact rfl; exact rfl; exact rfl; exact rfl; exact rfl; exact rfl; exact rfl; exact rfl; exact rfl; exact rfl)
    | (apply aops_build; exact rfl; exact rfl; exact rfl)
    | (apply aops_load_low; exact rfl; exact rfl; exact hb; exact rfl; exact rfl))
  refine awp_loopG (fun (x : Nat × List UInt8) s => match x with | (k, rest) => ∃ stk at' ta eb, I k rest stk ∧ k + rest.length ≤ text.length ∧ at' = (text.length : Int) - rest.length ∧ StA [(0, .yd o), (1, .bx kb ver 0), (3, .bx (st.length + 0) 0 0), (4, Sv rest)] (stk ++ (.cells 0 102 [Iv k, Iv at', Sv ta, Bv eb] :: [])) [] s) (fun x => x.2.length) (0, text)
    ⟨st, 0, [], false, h0, by simp, by simp, ?_⟩ ?_
  · exact stA_mk ⟨rfl, rfl, rfl, rfl, trivial⟩
  rintro ⟨k, rest⟩ _ ⟨stk, _, ta, eb, hi, hle, rfl, t, rfl⟩
  obtain ⟨hn, hb'⟩ := hI k rest stk hi
  repeat' (first
    | apply awp_seq
    | apply awp_block
    | apply awp_region
    | apply aops_nil
    | apply aops_move
    | apply aops_assign
    | (apply aops_extract; exact rfl; exact rfl)
    | (apply aops_cmpS; exact rfl; exact rfl; exact rfl)
    | (apply awp_cond_any; exact rfl; first | (apply cd_dt; (first | assumption | omega)) | (apply cd_df; (first | assumption | omega)) | (apply cd_nt; (first | exact rfl | assumption)) | (apply cd_nf; (first | exact rfl | assumption)) | (apply cd_n <;> intro h) | (apply cd_t; (first | exact rfl | assumption)) | (apply cd_f; (first | exact rfl | assumption)) | (apply cd_d <;> intro h) | (apply cd_s <;> intro h))
    | (apply aops_fieldAddr_bx; exact rfl; exact rfl; exact rfl)
    | apply awp_skip
    | apply awp_exit
    | (apply aops_call1; exact Tryz.call31; exact cut1_c _ _ _ (by omega))
    | (apply aops_store_locn; exact rfl; assumption; exact rfl; exact rfl; exact rfl; exact rfl; exact rfl; exact rfl; exact rfl; exact rfl; exact rfl; exact rfl)
    | (apply aops_load_locn; exact rfl; assumption; exact rfl; exact rfl; exact rfl; exact rfl))
  · refine aops_callYield rfl ((hY k rest stk _ hi h (by omega)).mono ?_)
    rintro b _ ⟨st3, rfl, h1, h2⟩
    cases b
    · skip
      repeat' (first
        | apply aops_nil
        | (apply aops_not; exact rfl)
        | (apply awp_cond_any; exact rfl; first | (apply cd_dt; (first | assumption | omega)) | (apply cd_df; (first | assumption | omega)) | (apply cd_nt; (first | exact rfl | assumption)) | (apply cd_nf; (first | exact rfl | assumption)) | (apply cd_n <;> intro h) | (apply cd_t; (first | exact rfl | assumption)) | (apply cd_f; (first | exact rfl | assumption)) | (apply cd_d <;> intro h) | (apply cd_s <;> intro h))
        | apply awp_ret)
      refine aret_plain rfl (ares_zero rfl) ⟨st3, _, rfl, .inr (h2 rfl)⟩
    · have hi3 := h1 rfl
      obtain ⟨hn3, hb3⟩ := hI _ _ _ hi3
      have hp := past_length 10 rest
      have hr0 : 0 < rest.length := List.length_pos_iff.2 h
      repeat' (first
        | apply awp_seq
        | apply awp_region
        | apply aops_nil
        | apply aops_move
        | (apply aops_not; exact rfl)
        | (apply awp_cond_any; exact rfl; first | (apply cd_dt; (first | assumption | omega)) | (apply cd_df; (first | assumption | omega)) | (apply cd_nt; (first | exact rfl | assumption)) | (apply cd_nf; (first | exact rfl | assumption)) | (apply cd_n <;> intro h) | (apply cd_t; (first | exact rfl | assumption)) | (apply cd_f; (first | exact rfl | assumption)) | (apply cd_d <;> intro h) | (apply cd_s <;> intro h))
        | (apply aops_lenS; exact rfl; exact rfl; exact rfl)
        | (apply aops_add; exact rfl; exact rfl; exact wrap_i64 (by omega) (by omega))
        | (apply aops_sub; exact rfl; exact rfl; exact wrap_i64 (by omega) (by omega))
        | (apply aops_fieldAddr_bx; exact rfl; exact rfl; exact rfl)
        | apply awp_skip
        | (apply aops_load_low; exact rfl; exact rfl; exact hb3; exact rfl; exact rfl)
        | (apply aops_store_locn; exact rfl; assumption; exact rfl; exact rfl; exact rfl; exact rfl; exact rfl; exact rfl; exact rfl; exact rfl; exact rfl; exact rfl)
        | (apply aops_load_locn; exact rfl; assumption; exact rfl; exact rfl; exact rfl; exact rfl))
      exact ⟨(k + 1, past 10 rest), ⟨st3, _, _, _, hi3, by omega, rfl, stA_mk ⟨rfl, rfl, rfl, rfl, trivial⟩⟩, by simp only; omega⟩
  · have hr : rest = [] := Classical.not_not.1 h
    subst hr
    exact aret_plain rfl (ares_zero rfl) ⟨stk, _, rfl, .inl ⟨k, hi⟩⟩
end Go.Proofs.YtplagcbifecagaaGreatDoor
set_option linter.unusedVariables false
set_option maxRecDepth 100000
namespace Go.Proofs.YtplagcbifecagaaGreatDoor
open Go Go.Av Go.RowKit Go.Proofs Go.Pl
theorem split_c (text : List UInt8) (st st' : List AObj) (n : Nat) (hn : st.length = n) (hst : st ++ [.cells 0 9 [Sv text]] = st') : ACall E 52 [Sv text] st fun r st1 => r = .fn (.func 85) [] [.bx n 0 0] ∧ st1 = st' := by
  subst hn
  subst hst
  refine acall_of_awp Tryz.func52 rfl (Nat.le_of_ble_eq_true rfl) ?_
  repeat' (first
    | apply awp_seq
    | apply awp_region
    | apply aops_nil
    | apply aops_assign
    | apply aops_makeFunc
    | (apply aops_box; exact rfl; exact rfl; exact rfl; exact rfl)
    | apply awp_ret)
  exact aret_plain rfl (ares_one rfl) ⟨rfl, rfl⟩
theorem bWrite_loc (st loc loc' : List AObj) (k kt ver : Nat) (q : AV) (l m : List UInt8) (hk : loc[k]? = some (bldO ver q l (st.length + kt))) (hkt : loc[kt]? = some (.tip l.length 1 5)) (hq : q = .v (.pointer none) ∨ q = .bx (st.length + k) ver 0)
    (hlen : l.length + m.length ≤ 140737488355328) (hl : loc' = (loc.set k (bldO ver (.bx (st.length + k) ver 0) (l ++ m) (st.length + kt))).set kt (.tip (l ++ m).length 1 5)) :
    ACall E 41 [.bx (st.length + k) ver 0, Sv m] (st ++ loc) fun r st' => r = .tu [Iv m.length, .v .nilIface] ∧ st' = st ++ loc' := by
  refine (bWrite_c (st.length + k) ver (st.length + kt) q l m (st ++ loc) (get_loc hk) (get_loc hkt) hq hlen).mono fun r st' ⟨h1, h2⟩ => ⟨h1, ?_⟩
  rw [h2, set_loc, set_loc, hl, List.length_append]
theorem bString_loc (st loc loc' : List AObj) (k kt ver : Nat) (q : AV) (l : List UInt8) (hk : loc[k]? = some (bldO ver q l (st.length + kt))) (hkt : loc[kt]? = some (.tip l.length 1 5)) (hl : loc' = loc.set kt .dead) :
    ACall E 43 [.bx (st.length + k) ver 0] (st ++ loc) fun r st' => r = Sv l ∧ st' = st ++ loc' := by
  refine (bString_c (st.length + k) ver (st.length + kt) q l (st ++ loc) (get_loc hk) (get_loc hkt)).mono fun r st' ⟨h1, h2⟩ => ⟨h1, ?_⟩
  rw [h2, set_loc, hl]
@[reducible] def dedL (st : List AObj) (by' text : List UInt8) (q : AV) (acc : List UInt8) (lp : AObj) : List AObj :=
  [.cells 0 9 [Sv by'], .cells 0 9 [Sv []], .cells 0 4 [Bv false], bldO 0 q acc (st.length + 5), .cells 0 9 [Sv text], .tip acc.length 1 5, .dfr, lp]
theorem dedent_c (text by' : List UInt8) (st : List AObj) (hl : text.length < 4294967281) : ACall E 24 [Sv text, Sv by'] st fun r st' => r = .tu [Sv (dedentOf by' text).1, Bv (dedentOf by' text).2] ∧ st' = st := by
  refine acall_pure (pure_tu2v _ _) (acall_of_awp Tryz.func24 rfl (Nat.le_of_ble_eq_true rfl) ?_)
  repeat' (first
    | apply awp_seq
    | apply awp_region
    | apply aops_nil
    | apply aops_move
    | (apply aops_alloc; exact rfl; exact rfl)
    | (apply aops_box; exact rfl; exact rfl; exact rfl; exact rfl))
  refine aops_call1 Tryz.call52 (split_c text _ (st ++ [.cells 0 9 [Sv by'], .cells 0 9 [Sv []], .cells 0 4 [Bv false], .cells 0 82 [.v (.pointer none), nilSl], .cells 0 9 [Sv text]]) (st.length + 4) ?_ ?_) ?_
  · show (st ++ [_, _, _, _]).length = _
    simp
  · show (st ++ [_, _, _, _]) ++ [_] = _
    rw [List.append_assoc]
    rfl
  repeat' (first
    | apply awp_block
    | apply aops_nil)
  refine awp_tipCell (o := st.length + 3) (j := 1) (sz := 1) (T' := 5) (get_loc rfl) rfl ?_
  refine awp_state [(3, .bx (st.length + 0) 0 0), (4, .bx (st.length + 1) 0 0), (5, .bx (st.length + 2) 0 0), (6, .bx (st.length + 3) 0 0), (11, .fn (.func 85) [] [.bx (st.length + 4) 0 0])]
    (st ++ [.cells 0 9 [Sv by'], .cells 0 9 [Sv []], .cells 0 4 [Bv false], bldO 0 (.v (.pointer none)) [] (st.length + 5), .cells 0 9 [Sv text], .tip 0 1 5]) [] ⟨rfl, rfl, rfl, rfl, rfl, trivial⟩ ?_ rfl (fun t => ?_)
  · show (st ++ [_, _, _, _, _]).set (st.length + 3) (.cells 0 82 [_, .sl 1 [] (some (st ++ [_, _, _, _, _]).length)]) ++ [_] = _
    rw [set_loc, List.append_assoc]
    simp
  refine awp_rangeF (st := st) (loc := [.cells 0 9 [Sv by'], .cells 0 9 [Sv []], .cells 0 4 [Bv false], bldO 0 (.v (.pointer none)) [] (st.length + 5), .cells 0 9 [Sv text], .tip 0 1 5]) rfl rfl Tryz.call85 fun F hF => ?_
  refine ACall.mono (split1_c text (st.length + 7) (st.length + 4) 0 (st.length + 8)
    (fun _ rest st' => ∃ q acc don, (q = .v (.pointer none) ∨ q = .bx (st.length + 3) 0 0) ∧ linesOf text = don ++ linesOf rest ∧ (∀ x ∈ don, by' <+: x.1) ∧ acc = don.flatMap (fun x => x.1.drop by'.length ++ lineEnd x.2) ∧ acc.length + rest.length ≤ text.length ∧ st' = st ++ dedL st by' text q acc (F .ready none))
    (fun st' => (¬ ∀ x ∈ linesOf text, by' <+: x.1) ∧ ∃ q acc, st' = st ++ dedL st by' text q acc (F .done (some .ret)))
    (st ++ dedL st by' text (.v (.pointer none)) [] (F .ready none)) hl ⟨_, [], [], .inl rfl, rfl, by simp, rfl, by simp, rfl⟩ ?_ ?_) ?_
  · rintro k rest _ ⟨q, acc, don, hq, h1, h2, h3, h4, rfl⟩
    exact ⟨by simp, get_loc rfl⟩
  · rintro k rest _ own ⟨q, acc, don, hq, h1, h2, h3, h4, rfl⟩ hne hle
    refine ayield_retL ?_
    rw [List.append_assoc]
    refine ayield_F hF (get_loc rfl) rfl fun l => ?_
    repeat' (first
      | apply awp_region
      | apply aops_nil
      | (apply aops_alloc; exact rfl; exact rfl)
      | (apply aops_store_loc; exact rfl; exact rfl; exact rfl; exact rfl; exact rfl; exact rfl; exact rfl; exact rfl; exact rfl; exact rfl; exact rfl))
    refine ⟨get_loc rfl, rfl, ?_⟩
    refine awp_state [(3, .bx (st.length + 0) 0 0), (4, .bx (st.length + 1) 0 0), (5, .bx (st.length + 2) 0 0), (6, .bx (st.length + 3) 0 0), (7, .bx (st.length + 9) 0 0)]
      (st ++ (dedL st by' text q acc (F .busy none) ++ [own, .cells 0 102 (lineA k text rest).cells])) [] ⟨rfl, rfl, rfl, rfl, rfl, trivial⟩ ?_ rfl (fun t => ?_)
    · show (st ++ (dedL st by' text q acc (F .ready none) ++ [own, _])).set (st.length + 7) _ = _
      rw [set_loc]
      rfl
    have hb1 := trimPrefix_le (upto 10 rest) by'
    have hb2 := upto_length_le 10 rest
    have hmem : (upto 10 rest, decide (10 ∈ rest)) ∈ linesOf text := by rw [h1, linesOf_cons hne]; simp
    have hcons := linesOf_cons hne
    have hpl := past_length 10 rest
    have hlt : 10 ∈ rest → (upto 10 rest).length < rest.length := upto_length_lt
    repeat' (first
      | apply awp_seq
      | apply awp_block
      | apply awp_region
      | apply aops_nil
      | apply aops_move
      | apply aops_assign
      | (apply aops_extract; exact rfl; exact rfl)
      | (apply aops_not; exact rfl)
      | (apply awp_cond_any; exact rfl; first | (apply cd_dt; (first | assumption | omega)) | (apply cd_df; (first | assumption | omega)) | (apply cd_nt; (first | exact rfl | assumption)) | (apply cd_nf; (first | exact rfl | assumption)) | (apply cd_n <;> intro h) | (apply cd_t; (first | exact rfl | assumption)) | (apply cd_f; (first | exact rfl | assumption)) | (apply cd_d <;> intro h) | (apply cd_s <;> intro h))
      | (apply aops_fieldAddr_bx; exact rfl; exact rfl; exact rfl)
      | (apply aops_load_loc; exact rfl; exact rfl; exact rfl; exact rfl; exact rfl)
      | (apply aops_store_loc; exact rfl; exact rfl; exact rfl; exact rfl; exact rfl; exact rfl; exact rfl; exact rfl; exact rfl; exact rfl; exact rfl)
      | apply awp_skip
      | apply awp_ret
      | (apply aops_call1; exact Tryz.call53; exact cutPrefix_c _ _ _)
      | (refine aops_call1 Tryz.call41 (bWrite_loc st _ _ 3 5 0 _ _ _ rfl rfl ?_ ?_ rfl) ?_; (first | exact hq | exact .inr rfl); (first | omega | (simp; omega))))
    · have hno : ¬ ∀ x ∈ linesOf text, by' <+: x.1 := fun hall => by
        have := (hasPrefix_iff _ _).2 (hall _ hmem)
        simp_all
      refine ⟨get_loc rfl, st ++ (dedL st by' text q acc (F .done (some .ret)) ++ [own]), [.cells 0 102 (lineA k text rest).cells], ?_, ?_, st ++ dedL st by' text q acc (F .done (some .ret)), (List.append_assoc _ _ _).symm, nofun, fun _ => ⟨hno, q, acc, rfl⟩⟩
      · show (st ++ _).set (st.length + 7) _ = _
        rw [set_loc, List.append_assoc st]
        rfl
      · exact keptL_pre (.same _ (.same _ (.same _ (.same _ (.same _ (.same _ (.same _ (keptF hF (keptL_refl _ _))))))))) st
    all_goals
      have hpre : by' <+: upto 10 rest := (hasPrefix_iff _ _).1 (by simp_all)
      have htp := trimPrefix_of hpre
    · refine ⟨get_loc rfl, st ++ (dedL st by' text (.bx (st.length + 3) 0 0) (acc ++ Lib.trimPrefix (upto 10 rest) by' ++ [10]) (F .ready none) ++ [own]), [.cells 0 102 (lineA k text rest).cells], ?_, ?_,
        st ++ dedL st by' text (.bx (st.length + 3) 0 0) (acc ++ Lib.trimPrefix (upto 10 rest) by' ++ [10]) (F .ready none), (List.append_assoc _ _ _).symm, fun _ => ⟨_, _, don ++ [(upto 10 rest, true)], .inr rfl, ?_, ?_, ?_, ?_, rfl⟩, nofun⟩
      · show (st ++ _).set (st.length + 7) _ = _
        rw [set_loc, List.append_assoc st]
        rfl
      · refine keptL_pre (.same _ (.same _ (.same _ (.cut (cutOb_cells ?_) (.same _ (.cut cutOb_tip (.same _ (keptF hF (keptL_refl _ _))))))))) st
        intro x hx
        simp only [List.mem_cons, List.not_mem_nil, or_false] at hx
        rcases hx with rfl | rfl
        · exact cut_bx (by simp)
        · exact cut_bytes (by simp)
      · rw [h1, hcons]; simp_all
      · intro x hx
        rcases List.mem_append.1 hx with hx | hx
        · exact h2 x hx
        · simp at hx; subst hx; exact hpre
      · rw [h3, htp]; simp [lineEnd]
      · have := hlt (by assumption)
        simp
        omega
    · refine ⟨get_loc rfl, st ++ (dedL st by' text (.bx (st.length + 3) 0 0) (acc ++ Lib.trimPrefix (upto 10 rest) by') (F .ready none) ++ [own]), [.cells 0 102 (lineA k text rest).cells], ?_, ?_,
        st ++ dedL st by' text (.bx (st.length + 3) 0 0) (acc ++ Lib.trimPrefix (upto 10 rest) by') (F .ready none), (List.append_assoc _ _ _).symm, fun _ => ⟨_, _, don ++ [(upto 10 rest, false)], .inr rfl, ?_, ?_, ?_, ?_, rfl⟩, nofun⟩
      · show (st ++ _).set (st.length + 7) _ = _
        rw [set_loc, List.append_assoc st]
        rfl
      · refine keptL_pre (.same _ (.same _ (.same _ (.cut (cutOb_cells ?_) (.same _ (.cut cutOb_tip (.same _ (keptF hF (keptL_refl _ _))))))))) st
        intro x hx
        simp only [List.mem_cons, List.not_mem_nil, or_false] at hx
        rcases hx with rfl | rfl
        · exact cut_bx (by simp)
        · exact cut_bytes (by simp)
      · rw [h1, hcons]; simp_all
      · intro x hx
        rcases List.mem_append.1 hx with hx | hx
        · exact h2 x hx
        · simp at hx; subst hx; exact hpre
      · rw [h3, htp]; simp [lineEnd]
      · simp
        omega
  · rintro r st' ⟨st3, ext, rfl, ⟨k, q, acc, don, hq, h1, h2, h3, h4, rfl⟩ | ⟨hno, q, acc, rfl⟩⟩
    · refine ⟨.ready, none, nofun, by rw [List.append_assoc]; exact get_loc rfl, ?_⟩
      refine awp_state [(4, .bx (st.length + 1) 0 0), (5, .bx (st.length + 2) 0 0), (6, .bx (st.length + 3) 0 0)] (st ++ (dedL st by' text q acc .dead ++ ext)) [st.length + 6] ⟨rfl, rfl, rfl, trivial⟩ ?_ rfl (fun t => ?_)
      · show ((st ++ _) ++ ext).set (st.length + 7) _ = _
        rw [List.append_assoc, set_loc]
        rfl
      repeat' (first
        | apply awp_seq
        | apply awp_region
        | apply aops_nil
        | (apply aops_store_loc; exact rfl; exact rfl; exact rfl; exact rfl; exact rfl; exact rfl; exact rfl; exact rfl; exact rfl; exact rfl; exact rfl)
        | apply awp_ret
        | (refine aops_call1 Tryz.call43 (bString_loc st _ _ 3 5 0 _ _ rfl rfl rfl) ?_))
      refine aret_mark_loc rfl rfl rfl (aret_plain rfl (ares_cell2_loc rfl rfl rfl rfl rfl rfl rfl rfl rfl rfl) ⟨tu_sb (?_ : _ = _), _, rfl⟩)
      rw [linesOf_nil, List.append_nil] at h1
      unfold dedentOf
      rw [h1, if_pos h2, h3]
    · refine ⟨.done, some .ret, nofun, by rw [List.append_assoc]; exact get_loc rfl, ?_⟩
      refine awp_state [(4, .bx (st.length + 1) 0 0), (5, .bx (st.length + 2) 0 0), (6, .bx (st.length + 3) 0 0)] (st ++ (dedL st by' text q acc .dead ++ ext)) [st.length + 6] ⟨rfl, rfl, rfl, trivial⟩ ?_ rfl (fun t => ?_)
      · show ((st ++ _) ++ ext).set (st.length + 7) _ = _
        rw [List.append_assoc, set_loc]
        rfl
      repeat' (first
        | apply awp_ret)
      refine aret_mark_loc rfl rfl rfl (aret_plain rfl (ares_cell2_loc rfl rfl rfl rfl rfl rfl rfl rfl rfl rfl) ⟨tu_sb (?_ : _ = _), _, rfl⟩)
      unfold dedentOf
      rw [if_neg hno]
end Go.Proofs.YtplagcbifecagaaGreatDoor
set_option linter.unusedVariables false
set_option maxRecDepth 100000
namespace Go.Proofs.YtplagcbifecagaaGreatDoor
open Go Go.Av Go.RowKit Go.Proofs Go.Pl
def crcBit (x : BitVec 32) : BitVec 32 := if x &&& 2147483648#32 ≠ 0#32 then (x <<< 1) ^^^ 79764919#32 else x <<< 1
def crcBits : Nat → BitVec 32 → BitVec 32
  | 0, x => x
  | n + 1, x => crcBit (crcBits n x)
def rowT (i : Nat) : BitVec 32 := crcBits 4 (BitVec.ofNat 32 i <<< 28)
def crcN (x : BitVec 32) (n : Nat) : BitVec 32 := (x <<< 4) ^^^ rowT ((x >>> 28) ^^^ BitVec.ofNat 32 n).toNat
def crcP (x : BitVec 32) (c : UInt8) : BitVec 32 := crcN (crcN x (c.toNat / 16)) (c.toNat % 16)
def addP (s : BitVec 32) (l : List UInt8) : BitVec 32 := ~~~ (l.foldl crcP (~~~ s))
def figP (s : BitVec 32) (j : Nat) : UInt8 := [48, 49, 50, 51, 52, 53, 54, 55, 56, 57, 97, 98, 99, 100, 101, 102].getD ((s >>> (4 * (7 - j))) &&& BitVec.ofInt 32 15).toNat 0
def figsP (s : BitVec 32) (n : Nat) : List UInt8 := (List.range n).map (figP s)
end Go.Proofs.YtplagcbifecagaaGreatDoor
set_option linter.unusedVariables false
set_option maxRecDepth 100000
namespace Go.Proofs.YtplagcbifecagaaGreatDoor
open Go Go.Av Go.RowKit Go.Proofs Go.Pl
def sumF (l : List UInt8) : List UInt8 := figsP (addP 0 l) 8
def closedF (rest body sums : List UInt8) (size : Int) : Int × List UInt8 × Int :=
  if rest.length < (tailF body.length).length ∧ rest <+: tailF body.length then (2, [], 0)
  else if tailF body.length <+: rest ∧ sums = sumF body then (1, body, size) else (3, [], 0)
def readF (l : List UInt8) : Int × List UInt8 × Int :=
  if 10 ∈ l then
    if (openedF (upto 10 l)).2.2 = true then
      if (past 10 l).length < (openedF (upto 10 l)).1 then (partlyF (past 10 l) ((openedF (upto 10 l)).1 - (past 10 l).length), [], 0)
      else if goodF ((past 10 l).take (openedF (upto 10 l)).1) then closedF ((past 10 l).drop (openedF (upto 10 l)).1) ((past 10 l).take (openedF (upto 10 l)).1) (openedF (upto 10 l)).2.1 (lengthF (openedF (upto 10 l)).1)
      else (3, [], 0)
    else (3, [], 0)
  else if openingF l = true then (2, [], 0) else (3, [], 0)
end Go.Proofs.YtplagcbifecagaaGreatDoor
set_option linter.unusedVariables false
set_option maxRecDepth 100000
namespace Go.Proofs.YtplagcbifecagaaGreatDoor
open Go Go.Av Go.RowKit Go.Proofs Go.Pl
theorem unsigned_c : ∀ (n u : Nat), u < n → u < 18446744073709551616 → ∀ st, ACall E 84 [.v (.int .u64 (u : Int))] st fun r st' => r = Sv (Lib.decDigits u) ∧ st' = st
  | 0, _, h, _, _ => absurd h (Nat.not_lt_zero _)
  | n + 1, u, hu, h64, st => by
    refine acall_pure (pure_v _) (acall_of_awp Tryz.func84 rfl (Nat.le_of_ble_eq_true rfl) ?_)
    have hl1 := decDigits_len_le (u := u / 10) (by omega)
    have hl2 := decDigits_len_le (u := u % 10) (by omega)
    by_cases h10 : u < 10
    · skip
      repeat' (first
        | apply awp_seq
        | apply awp_region
        | apply aops_nil
        | apply aops_move
        | apply aops_assign
        | (apply aops_cmpI; exact rfl; exact rfl; exact rfl)
        | (apply awp_cond_any; exact rfl; first | (apply cd_dt; (first | assumption | omega)) | (apply cd_df; (first | assumption | omega)) | (apply cd_nt; (first | exact rfl | assumption)) | (apply cd_nf; (first | exact rfl | assumption)) | (apply cd_n <;> intro h) | (apply cd_t; (first | exact rfl | assumption)) | (apply cd_f; (first | exact rfl | assumption)) | (apply cd_d <;> intro h) | (apply cd_s <;> intro h))
        | (apply aops_span; exact rfl; exact rfl; exact rfl; exact rfl; (first | assumption | omega | (simp; omega)); first | assumption | omega | (simp; omega))
        | apply awp_ret
        | (apply aops_addN (n := 1); exact rfl; exact rfl; exact wrapU64 (by omega)))
      exact aret_plain rfl (ares_one rfl) ⟨congrArg Sv (digit_piece h10), _, rfl⟩
    · have ih1 := unsigned_c n (u / 10) (by omega) (by omega)
      have ih2 := unsigned_c n (u % 10) (by omega) (by omega)
      repeat' (first
        | apply awp_seq
        | apply awp_region
        | apply aops_nil
        | apply aops_move
        | apply aops_assign
        | (apply aops_cmpI; exact rfl; exact rfl; exact rfl)
        | (apply awp_cond_any; exact rfl; first | (apply cd_dt; (first | assumption | omega)) | (apply cd_df; (first | assumption | omega)) | (apply cd_nt; (first | exact rfl | assumption)) | (apply cd_nf; (first | exact rfl | assumption)) | (apply cd_n <;> intro h) | (apply cd_t; (first | exact rfl | assumption)) | (apply cd_f; (first | exact rfl | assumption)) | (apply cd_d <;> intro h) | (apply cd_s <;> intro h))
        | (apply aops_concat; exact rfl; exact rfl; (first | omega | (simp only [List.length_append, List.length_cons, List.length_nil]; omega) | (simp; omega)))
        | apply awp_skip
        | apply awp_ret
        | (apply aops_quoN (n := 10); exact rfl; exact rfl; omega; exact wrapU64 (by omega))
        | (apply aops_remN (n := 10); exact rfl; exact rfl; omega)
        | (apply aops_call1; exact Tryz.call84; exact ih1 _)
        | (apply aops_call1; exact Tryz.call84; exact ih2 _))
      exact aret_plain rfl (ares_one rfl) ⟨congrArg Sv (decDigits_big h10).symm, _, rfl⟩
theorem refFigures_c (k : Nat) (st : List AObj) (hk : k ≤ 9223372036854775807) : ACall E 51 [Iv k] st fun r st' => r = Sv (Lib.itoa k) ∧ st' = st := by
  refine acall_pure (pure_v _) (acall_of_awp Tryz.func51 rfl (Nat.le_of_ble_eq_true rfl) ?_)
  have hneg : ¬ (k : Int) < 0 := by omega
  repeat' (first
    | apply awp_seq
    | apply awp_region
    | apply aops_nil
    | apply aops_move
    | apply aops_assign
    | (apply aops_cmpI; exact rfl; exact rfl; exact rfl)
    | (apply awp_cond_any; exact rfl; first | (apply cd_dt; (first | assumption | omega)) | (apply cd_df; (first | assumption | omega)) | (apply cd_nt; (first | exact rfl | assumption)) | (apply cd_nf; (first | exact rfl | assumption)) | (apply cd_n <;> intro h) | (apply cd_t; (first | exact rfl | assumption)) | (apply cd_f; (first | exact rfl | assumption)) | (apply cd_d <;> intro h) | (apply cd_s <;> intro h))
    | apply awp_skip
    | apply awp_ret
    | (apply aops_convI; exact rfl; exact rfl; exact rfl; exact wrapU64 (by omega))
    | (apply aops_call1; exact Tryz.call84; exact unsigned_c (k + 1) k (by omega) (by omega) _))
  exact aret_plain rfl (ares_one rfl) ⟨congrArg Sv (by unfold Lib.itoa; rw [if_neg hneg]; simp), _, rfl⟩
end Go.Proofs.YtplagcbifecagaaGreatDoor
set_option linter.unusedVariables false
set_option maxRecDepth 100000
namespace Go.Proofs.YtplagcbifecagaaGreatDoor
open Go Go.Av Go.RowKit Go.Proofs Go.Pl
def isDig (c : UInt8) : Bool := decide (48 ≤ c.toNat ∧ c.toNat ≤ 57)
end Go.Proofs.YtplagcbifecagaaGreatDoor
set_option maxRecDepth 100000
set_option linter.unusedVariables false
namespace Go.Pl
open Go
theorem decDigits_isdig : ∀ (n u : Nat), u ≤ n → ∀ c ∈ Lib.decDigits u, 48 ≤ c.toNat ∧ c.toNat ≤ 57
  | n, u, hn, c, hc => by
    by_cases h : u < 10
    · rw [Lib.decDigits_one h] at hc
      simp only [List.mem_singleton] at hc
      subst hc
      rw [UInt8.toNat_ofNat']
      omega
    · rw [decDigits_big h, List.mem_append] at hc
      cases n with
      | zero => omega
      | succ n =>
        rcases hc with hc | hc
        · exact decDigits_isdig n (u / 10) (by omega) c hc
        · exact decDigits_isdig n (u % 10) (by omega) c hc
theorem decDigits_pos (u : Nat) : 1 ≤ (Lib.decDigits u).length := by
  rw [Lib.decDigits_length]
  exact Lib.nDigits_pos u
theorem itoa_neg {v : Int} (h : v < 0) : Lib.itoa v = 45 :: Lib.decDigits v.natAbs := by
  unfold Lib.itoa
  rw [if_pos h]
theorem itoa_pos {v : Int} (h : 0 ≤ v) : Lib.itoa v = Lib.decDigits v.toNat := by
  unfold Lib.itoa
  rw [if_neg (by omega)]
theorem parse_apx : ∀ (a : Nat) (l m : Bytes) (b : Nat), Lib.parseUint10 a l = .ok b → Lib.parseUint10 a (l ++ m) = Lib.parseUint10 b m
  | a, [], m, b, h => by
    simp only [Lib.parseUint10, Lib.NumEnd.ok.injEq] at h
    subst h; rfl
  | a, c :: l, m, b, h => by
    simp only [List.cons_append, Lib.parseUint10] at h ⊢
    split at h
    · rename_i hd
      rw [if_pos hd]
      split at h
      · cases h
      · rename_i h1
        rw [if_neg h1]
        split at h
        · cases h
        · rename_i h2
          rw [if_neg h2]
          exact parse_apx _ l m b h
    · cases h
theorem parse_decx : ∀ (n u : Nat), u ≤ n → u ≤ 9223372036854775808 → Lib.parseUint10 0 (Lib.decDigits u) = .ok u
  | n, u, hn, hu => by
    have key : ∀ (a d : Nat), a ≤ 922337203685477580 → d < 10 → Lib.parseUint10 a (Lib.decDigits d) = .ok (a * 10 + d) := by
      intro a d ha hd
      have e : (UInt8.ofNat (48 + d)).toNat = 48 + d := by rw [UInt8.toNat_ofNat']; omega
      rw [Lib.decDigits_one hd]
      simp only [Lib.parseUint10, e]
      rw [if_pos (by omega), if_neg (by omega), if_neg (by omega)]
      congr 1
      omega
    by_cases h : u < 10
    · have := key 0 u (by omega) h
      simpa using this
    · cases n with
      | zero => omega
      | succ n =>
        rw [decDigits_big h, parse_apx 0 _ _ (u / 10) (parse_decx n (u / 10) (by omega) (by omega)), key _ _ (by omega) (by omega)]
        congr 1
        omega
theorem atoi_itoaZ {v : Int} (h1 : -9223372036854775808 ≤ v) (h2 : v ≤ 9223372036854775807) : Lib.atoiAll (Lib.itoa v) = .ok v := by
  by_cases h : v < 0
  · have hp := parse_decx v.natAbs v.natAbs (Nat.le_refl _) (by omega)
    rw [itoa_neg h]
    have hm : Lib.parseMag (Lib.decDigits v.natAbs) = .ok v.natAbs := by
      unfold Lib.parseMag
      rw [if_neg (fun e => by have := decDigits_pos v.natAbs; rw [e] at this; simp at this)]
      exact hp
    have e45 : (45 : UInt8).toNat = 45 := rfl
    simp only [Lib.atoiAll, e45]
    rw [if_pos (Or.inr trivial), hm]
    simp only [not_true, false_and, if_false, true_and]
    rw [if_neg (by omega)]
    simp only [if_true]
    congr 1
    omega
  · have hp := parse_decx v.toNat v.toNat (Nat.le_refl _) (by omega)
    have hd := decDigits_isdig v.toNat v.toNat (Nat.le_refl _)
    rw [itoa_pos (by omega)]
    cases hl : Lib.decDigits v.toNat with
    | nil => have := decDigits_pos v.toNat; rw [hl] at this; simp at this
    | cons c r =>
      rw [hl] at hp hd
      have hc := hd c (by simp)
      simp only [Lib.atoiAll]
      have g1 : ¬ (c.toNat = 43 ∨ c.toNat = 45) := by omega
      rw [if_neg g1]
      have hm : Lib.parseMag (c :: r) = .ok v.toNat := by unfold Lib.parseMag; rw [if_neg (by simp)]; exact hp
      rw [hm]
      have g2 : ¬ c.toNat = 45 := by omega
      simp only [g2, not_false_iff, true_and, false_and, if_false]
      rw [if_neg (by omega)]
      congr 1
      omega
def numZ (l : Bytes) : Option Int :=
  match Lib.atoiAll l with
  | .ok v => if Lib.itoa v = l then some v else none
  | _ => none
end Go.Pl
set_option maxRecDepth 100000
set_option linter.unusedVariables false
namespace Go.Proofs.YtplagcbifecagaaGreatDoor
open Go Go.Av Go.RowKit Go.Proofs Go.Pl
theorem refFiguresZ_c (v : Int) (st : List AObj) (h1 : -9223372036854775808 ≤ v) (h2 : v ≤ 9223372036854775807) : ACall E 51 [Iv v] st fun r st' => r = Sv (Lib.itoa v) ∧ st' = st := by
  by_cases hneg : v < 0
  · refine acall_pure (pure_v _) (acall_of_awp Tryz.func51 rfl (Nat.le_of_ble_eq_true rfl) ?_)
    have hl := decDigits_len_le (u := v.natAbs) (by omega)
    have hk : IntKind.u64.wrap (-(v + 1)) = ((v.natAbs - 1 : Nat) : Int) := by
      rw [show -(v + 1) = ((v.natAbs - 1 : Nat) : Int) by omega]
      exact wrapU64 (by omega)
    have hk2 : IntKind.u64.wrap (((v.natAbs - 1 : Nat) : Int) + 1) = ((v.natAbs : Nat) : Int) := by
      rw [show ((v.natAbs - 1 : Nat) : Int) + 1 = ((v.natAbs : Nat) : Int) by omega]
      exact wrapU64 (by omega)
    repeat' (first
      | apply awp_seq
      | apply awp_region
      | apply aops_nil
      | apply aops_move
      | apply aops_assign
      | (apply aops_cmpI; exact rfl; exact rfl; exact rfl)
      | (apply awp_cond_any; exact rfl; first | (apply cd_dt; (first | assumption | omega)) | (apply cd_df; (first | assumption | omega)) | (apply cd_nt; (first | exact rfl | assumption)) | (apply cd_nf; (first | exact rfl | assumption)) | (apply cd_n <;> intro h) | (apply cd_t; (first | exact rfl | assumption)) | (apply cd_f; (first | exact rfl | assumption)) | (apply cd_d <;> intro h) | (apply cd_s <;> intro h))
      | (apply aops_concat; exact rfl; exact rfl; (first | omega | (simp only [List.length_append, List.length_cons, List.length_nil]; omega) | (simp; omega)))
      | (apply aops_add; exact rfl; exact rfl; exact wrap_i64 (by omega) (by omega))
      | apply awp_ret
      | (apply aops_neg; exact rfl; exact (show IntKind.i64.wrap (0 - (v + 1)) = -(v + 1) from by rw [wrap_i64 (by omega) (by omega)]; omega))
      | (apply aops_convI; exact rfl; exact rfl; exact rfl; exact hk)
      | (apply aops_add; exact rfl; exact rfl; exact hk2)
      | (apply aops_call1; exact Tryz.call84; exact unsigned_c (v.natAbs + 1) v.natAbs (by omega) (by omega) _))
    exact aret_plain rfl (ares_one rfl) ⟨congrArg Sv (itoa_neg hneg).symm, _, rfl⟩
  · obtain ⟨k, rfl⟩ := Int.eq_ofNat_of_zero_le (by omega : 0 ≤ v)
    exact refFigures_c k st (by omega)
theorem itoa_head {l : Bytes} {v : Int} (h : l = Lib.itoa v) : (v < 0 → (l.getD 0 0).toNat = 45 ∧ l.drop 1 = Lib.decDigits v.natAbs) ∧ (0 ≤ v → (l.getD 0 0).toNat ≠ 45 ∧ l = Lib.decDigits v.toNat) := by
  subst h
  refine ⟨fun h => ?_, fun h => ?_⟩
  · rw [itoa_neg h]; exact ⟨rfl, rfl⟩
  · rw [itoa_pos h]
    refine ⟨?_, rfl⟩
    have hp := decDigits_pos v.toNat
    have hd := decDigits_isdig v.toNat v.toNat (Nat.le_refl _)
    cases hl : Lib.decDigits v.toNat with
    | nil => rw [hl] at hp; simp at hp
    | cons c r =>
      rw [hl] at hd
      have := hd c (by simp)
      simp
      omega
def sgn (l : Bytes) : Nat := if (l.getD 0 0).toNat = 45 then 1 else 0
theorem itoa_digits {l : Bytes} {v : Int} (h : l = Lib.itoa v) : l.drop (sgn l) = Lib.decDigits v.natAbs := by
  obtain ⟨h1, h2⟩ := itoa_head h
  unfold sgn
  by_cases hv : v < 0
  · obtain ⟨a, b⟩ := h1 hv
    rw [if_pos a, b]
  · obtain ⟨a, b⟩ := h2 (by omega)
    rw [if_neg a, List.drop_zero, show v.natAbs = v.toNat by omega]
    exact b
end Go.Proofs.YtplagcbifecagaaGreatDoor
set_option linter.unusedVariables false
set_option maxRecDepth 100000
namespace Go.Pl
open Go
def sp : Bool → Bytes → Bool
  | _, [] => true
  | f, c :: l => (!f || decide (c = 32)) && sp (decide (c = 10)) l
theorem itoa_nat (n : Nat) : Lib.itoa (n : Int) = Lib.decDigits n := by
  unfold Lib.itoa
  rw [if_neg (by omega)]
  simp
end Go.Pl
set_option maxRecDepth 100000
set_option linter.unusedVariables false
namespace Go.Proofs.YtplagcbifecagaaGreatDoor
open Go Go.Pl
theorem odd_of {l : Bytes} (h1 : 10 ∈ l → (openedF (upto 10 l)).2.2 = false) (h2 : 10 ∉ l → openingF l = false) : readF l = (3, [], 0) := by
  unfold readF
  by_cases h : 10 ∈ l
  · rw [if_pos h, if_neg (by rw [h1 h]; simp)]
  · rw [if_neg h, if_neg (by rw [h2 h]; simp)]
theorem R2 {l : Bytes} (hl : l.length ≤ 7) (h : ¬ l <+: beginL) : readF l = (3, [], 0) := by
  refine odd_of (fun h10 => decide_eq_false fun h' => ?_) (fun h10 => ?_)
  · have := h'.1.length_le
    have := upto_length_lt h10
    have e : beginL.length = 7 := rfl
    omega
  · unfold openingF
    by_cases hb : beginL <+: l
    · have := hb.eq_of_length_le hl
      exact absurd (this ▸ List.prefix_refl _) h
    · rw [if_neg hb]; exact decide_eq_false h
theorem take_tw {p : UInt8 → Bool} (s : Bytes) : s.take (s.takeWhile p).length = s.takeWhile p := by
  induction s with
  | nil => rfl
  | cons b s ih =>
    by_cases h : p b = true
    · rw [List.takeWhile_cons_of_pos h]; simp [ih]
    · rw [List.takeWhile_cons_of_neg h]; rfl
theorem tw_pre {p : UInt8 → Bool} {l m : Bytes} (hm : m <+: l) (h : ∀ c ∈ m, p c = true) : m.length ≤ (l.takeWhile p).length := by
  obtain ⟨r, rfl⟩ := hm
  rw [List.takeWhile_append_of_pos h]
  simp
end Go.Proofs.YtplagcbifecagaaGreatDoor
set_option maxRecDepth 100000
set_option linter.unusedVariables false
namespace Go.Proofs.YtplagcbifecagaaGreatDoor
open Go Go.Av Go.RowKit Go.Proofs Go.Pl
structure AtNum (l S : Bytes) (K n : Nat) : Prop where
  hl : l = beginL ++ S
  hK : (S.takeWhile isDig).length = K
  hD : S.take K = Lib.itoa (n : Int)
  h1 : 1 ≤ n
  h2 : n ≤ 50000
theorem AtNum.split {l S : Bytes} {K n : Nat} (A : AtNum l S K n) (h : K < S.length) : S = Lib.itoa (n : Int) ++ S.getD K 0 :: S.drop (K + 1) ∧ isDig (S.getD K 0) = false := by
  have e : S = S.take K ++ S.getD K 0 :: S.drop (K + 1) := by
    conv => lhs; rw [← List.take_append_drop K S]
    rw [List.drop_eq_getElem_cons h]
    congr 2
    simp [List.getD, h]
  refine ⟨by rw [← A.hD]; exact e, ?_⟩
  cases hc : isDig (S.getD K 0) with
  | false => rfl
  | true =>
    have hp : S.take (K + 1) <+: S := List.take_prefix _ _
    have := tw_pre (p := isDig) hp (fun c hc' => by
      rw [take_next h, List.mem_append, List.mem_singleton] at hc'
      rcases hc' with hc' | rfl
      · rw [← A.hK, take_tw] at hc'
        have ha := List.all_takeWhile (p := isDig) (l := S)
        rw [List.all_eq_true] at ha
        exact ha c hc'
      · exact hc)
    rw [A.hK] at this
    simp at this
    omega
end Go.Proofs.YtplagcbifecagaaGreatDoor
set_option linter.unusedVariables false
namespace Go.Av
open Go Go.RowKit
def StE (L : List (Nat × AV)) (st loc : List AObj) (s : AS) : Prop := ∃ t ext, s = ⟨puts t L, ((st ++ loc) ++ ext) ++ [], []⟩
theorem stE_mk {t : Nat → AV} {L : List (Nat × AV)} {st loc loc' ext new : List AObj} (h : HasL t L) (e : loc' = loc) : StE L st loc ⟨t, ((st ++ loc') ++ ext) ++ new, []⟩ :=
  ⟨t, ext ++ new, by rw [puts_of h, e]; simp⟩
theorem stE_mk0 {t : Nat → AV} {L : List (Nat × AV)} {st loc st' : List AObj} (h : HasL t L) (e : st' = st ++ loc) : StE L st loc ⟨t, st', []⟩ :=
  ⟨t, [], by rw [puts_of h, e]; simp⟩
theorem ext_end (st loc ext new : List AObj) : ∃ x, ((st ++ loc) ++ ext) ++ new = st ++ x := ⟨loc ++ ext ++ new, by simp⟩
theorem get_mid {st loc ext new : List AObj} {k : Nat} {x : AObj} (h : loc[k]? = some x) : (((st ++ loc) ++ ext) ++ new)[st.length + k]? = some x := by
  have hk := lt_of_getElem? h
  rw [List.append_assoc, List.append_assoc, List.getElem?_append_right (Nat.le_add_right _ _), Nat.add_sub_cancel_left, List.getElem?_append_left hk]
  exact h
theorem set_mid {st loc ext new : List AObj} {k : Nat} (x : AObj) (hk : k < loc.length) : (((st ++ loc) ++ ext) ++ new).set (st.length + k) x = ((st ++ loc.set k x) ++ ext) ++ new := by
  rw [List.append_assoc, List.append_assoc, List.set_append_right _ _ (Nat.le_add_right _ _), Nat.add_sub_cancel_left, List.set_append_left _ _ hk]
  simp
theorem rel_noTip {G : Gh} {sz : Nat} {xs : List AV} {tip : Option Nat} {v : Value} (h : Rel G (.sl sz xs tip) v) : Rel G (.sl sz xs none) v := by
  cases h with
  | sl0 _ _ base cap ht => exact .sl0 sz none base cap (by simp)
  | sl _ _ _ b off cap pub hp hw hlen hr ht hcap => exact .sl sz xs none b off cap pub hp hw hlen hr (fun t ht => by simp at ht) hcap
theorem rel_nilSl {G : Gh} {sz : Nat} {v : Value} (h : Rel G nilSl v) : Rel G (.sl sz [] none) v := by
  cases h
  exact .sl0 sz none none 0 (by simp)
section
variable {E : Env} {rd : Option Nat} {N : Nat} {ops : Array Oper} {K : AS → Prop} {s : AS} {rest : List Oper} {d : Option Tmp} {T : TypeId} {p : String} {af : Array Edge}
theorem ares_weak {fn : Func} {r r' : AV} (h : ARes E fn s r) (hw : ∀ (G : Gh) (v : Value), Rel G r v → Rel G r' v) : ARes E fn s r' :=
  ⟨fun B0 w0 G a w hL hI => let ⟨v, h1, h2⟩ := h.run B0 w0 G a w hL hI; ⟨v, h1, hw G v h2⟩⟩
theorem aops_append_mid {x y : Operand} {t u T' : TypeId} {sz bytes k n m : Nat} {xs ys zs : List AV} {tip : Option Nat} {st loc ext new : List AObj} (hs : s.st = ((st ++ loc) ++ ext) ++ new) (hx : aeval N s x = .sl sz xs (some (st.length + k))) (hy : aeval N s y = .sl sz ys tip) (ho : loc[k]? = some (.tip n sz T')) (hn : xs.length = n)
    (ht : E.P.underlying t = some (.slice T')) (hu : E.P.underlying u = some (.slice T')) (hT : ElemOk E.P T' sz bytes) (hone : allOne (flat ys) = true) (hm : ys.length = m) (h63 : n + m ≤ maxLen) (hb : (n + m) * bytes ≤ 140737488355328) (hz : xs ++ ys = zs)
    (h : AOps E rd N ops rest K (AS.put ⟨s.t, ((st ++ loc.set k (.tip (n + m) sz T')) ++ ext) ++ new, s.df⟩ d (.sl sz zs (some (st.length + k))))) : AOps E rd N ops (⟨d, .call ⟨.builtin .append, #[x, y], #[t, u]⟩, T, p, af, none⟩ :: rest) K s := by
  subst hz
  have hk := lt_of_getElem? ho
  exact aops_append hx hy (by rw [hs]; exact get_mid ho) hn ht hu hT hone hm h63 hb (by rw [hs, set_mid _ hk]; exact h)
theorem aops_load_mid {x : Operand} {t : TypeId} {sz : Nat} {agg : Bool} {st loc ext new : List AObj} {k ver off : Nat} {T' : TypeId} {cs : List AV} {r : AV} (hs : s.st = ((st ++ loc) ++ ext) ++ new) (hx : aeval N s x = .bx (st.length + k) ver off) (ho : loc[k]? = some (.cells ver T' cs)) (ht : tyOf E.P t = some (sz, agg)) (hr : aloadC sz agg off cs = some r)
    (h : AOps E rd N ops rest K (s.put d r)) : AOps E rd N ops (⟨d, .load t x, T, p, af, none⟩ :: rest) K s :=
  aops_load_bx hx (by rw [hs]; exact get_mid ho) ht hr h
end
end Go.Av
set_option linter.unusedVariables false
namespace Go.Pl
open Go
def partsOf (l : Bytes) : List Bytes :=
  if h : 10 ∈ l then upto 10 l :: partsOf (past 10 l) else [l]
  termination_by l.length
  decreasing_by exact past_lt (fun e => by rw [e] at h; simp at h)
theorem partsOf_mem {l : Bytes} (h : 10 ∈ l) : partsOf l = upto 10 l :: partsOf (past 10 l) := by rw [partsOf, dif_pos h]
theorem partsOf_not {l : Bytes} (h : 10 ∉ l) : partsOf l = [l] := by rw [partsOf, dif_neg h]
theorem split10 : ∀ (n : Nat) (l : Bytes), l.length ≤ n → Lib.splitK [10] 0 (Lib.count l [10]) l = partsOf l
  | n, l, hn => by
    by_cases h : 10 ∈ l
    · have hi := index_upto 10 l h
      have hne : l ≠ [] := fun e => by rw [e] at h; simp at h
      have hlt := past_lt (c := 10) hne
      rw [partsOf_mem h, Lib.count_hit (i := (upto 10 l).length) (by simp) hi, Nat.add_comm, Lib.splitK]
      rw [if_neg (by rw [hi]; simp), hi]
      cases n with
      | zero => exact absurd (List.length_eq_zero_iff.1 (by omega)) hne
      | succ n =>
        have := split10 n (past 10 l) (by omega)
        simp only [Int.toNat_natCast, Nat.add_zero, List.length_cons, List.length_nil, Nat.zero_add, take_upto]
        rw [show List.drop ((upto 10 l).length + 1) l = past 10 l from rfl, this]
    · have hi : Lib.index l [10] = -1 := by
        have := Lib.index_ge l [10]
        have h2 : ¬ 0 ≤ Lib.index l [10] := fun h' => h ((index_one l 10).1 h')
        omega
      rw [partsOf_not h, Lib.count_miss hi]
      rfl
theorem partsOf_length_le : ∀ (n : Nat) (l : Bytes), l.length ≤ n → (partsOf l).length ≤ l.length + 1
  | n, l, hn => by
    by_cases h : 10 ∈ l
    · have hne : l ≠ [] := fun e => by rw [e] at h; simp at h
      have hlt := past_lt (c := 10) hne
      rw [partsOf_mem h]
      cases n with
      | zero => exact absurd (List.length_eq_zero_iff.1 (by omega)) hne
      | succ n =>
        have := partsOf_length_le n (past 10 l) (by omega)
        simp only [List.length_cons]
        omega
    · rw [partsOf_not h]; simp
theorem partsOf_piece : ∀ (n : Nat) (l : Bytes), l.length ≤ n → ∀ x ∈ partsOf l, x.length ≤ l.length ∧ 10 ∉ x
  | n, l, hn, x, hx => by
    by_cases h : 10 ∈ l
    · have hne : l ≠ [] := fun e => by rw [e] at h; simp at h
      have hlt := past_lt (c := 10) hne
      rw [partsOf_mem h, List.mem_cons] at hx
      rcases hx with rfl | hx
      · exact ⟨upto_length_le 10 l, notin_upto 10 l⟩
      · cases n with
        | zero => exact absurd (List.length_eq_zero_iff.1 (by omega)) hne
        | succ n =>
          have := partsOf_piece n (past 10 l) (by omega) x hx
          exact ⟨by omega, this.2⟩
    · rw [partsOf_not h, List.mem_singleton] at hx
      subst hx
      exact ⟨Nat.le_refl _, h⟩
end Go.Pl
set_option maxRecDepth 100000
set_option linter.unusedVariables false
namespace Go.Proofs.YtplagcbifecagaaGreatDoor
open Go Go.Av Go.RowKit Go.Proofs Go.Pl
theorem acall_of_newStrings {f : FuncId} {st : List AObj} {args : List AV} {vals : Array Value} {xs : List Bytes} {T : TypeId} (ha : args = vals.toList.map .v) (hne : xs ≠ [])
    (h : ∀ B0 w0 w, E.L B0 w0 → Below B0 w0 w → Calls E.P f vals w fun e w' => e = .returned (.slice (some ⟨w.heap.size, 0, none⟩) xs.length xs.length) ∧ w' = w.alloc (.cells (xs.map fun l => Value.string ⟨l.toArray⟩).toArray T)) :
    ACall E f args st fun r st' => r = .sl 1 (xs.map fun l => Sv l) none ∧ st' = st := by
  subst ha
  refine ⟨fun B0 w0 G vs w hL hA hR => ?_⟩
  have hv : vs = vals := by
    have hs : vs.size = vals.size := by have := hR.1; simpa using this.symm
    apply Array.ext hs
    intro i h1 h2
    have := hR.2 i (.v vals[i]) vs[i] (by simp [h2]) (by simp [h1])
    generalize vs[i] = y at this
    cases this
    rfl
  subst hv
  refine (h B0 w0 w hL hA.below).mono ?_
  rintro e w' ⟨rfl, rfl⟩
  obtain ⟨hle, hA'⟩ := hA.newPub T (xs.map fun l => Value.string ⟨l.toArray⟩).toArray (0, 0) (xs.map fun l => Value.string ⟨l.toArray⟩) (fun i y hy => by simpa using hy)
  refine ⟨_, _, _, st, rfl, hle, hA', ?_, rfl, rfl⟩
  have hfl : flat (xs.map fun l => Sv l) = xs.map fun l => Sv l := by
    clear hne h hle hA'
    induction xs with
    | nil => rfl
    | cons a xs ih => rw [List.map_cons, flat_cons, ih]; rfl
  have := Rel.sl (G := G.publish w.heap.size (xs.map fun l => Value.string ⟨l.toArray⟩)) 1 (xs.map fun l => Sv l) none w.heap.size 0 xs.length (xs.map fun l => Value.string ⟨l.toArray⟩) (by simp [Gh.publish]) (fun x hx => by
    simp only [List.mem_map] at hx
    obtain ⟨l, _, rfl⟩ := hx
    rfl) (by rw [hfl]; simp) (fun i x y h1 h2 => by
    rw [hfl, List.getElem?_map] at h1
    rw [Nat.zero_add, List.getElem?_map] at h2
    cases hx : xs[i]? with
    | none => rw [hx] at h1; simp at h1
    | some l =>
      rw [hx] at h1 h2
      simp at h1 h2
      subst h1; subst h2
      exact .v _) (fun t ht => by simp at ht) (by simp)
  simpa using this
theorem split10_c (l : List UInt8) (st : List AObj) (hl : l.length < 4294967281) : ACall E 112 [Sv l, Sv [10]] st fun r st' => r = .sl 1 ((partsOf l).map fun x => Sv x) none ∧ st' = st := by
  have hd := Lib.splitB_data ⟨#[10]⟩ 0 (Lib.countB ⟨l.toArray⟩ ⟨#[10]⟩) ⟨l.toArray⟩
  have hs : Lib.splitK [10] 0 (Lib.count l [10]) l = partsOf l := split10 _ l (Nat.le_refl _)
  have hn := Lib.splitB_all ⟨#[10]⟩ (by simp [ByteArray.size]) 0 _ ⟨l.toArray⟩ rfl
  have hd2 : (Lib.splitB ⟨#[10]⟩ 0 (Lib.countB ⟨l.toArray⟩ ⟨#[10]⟩) ⟨l.toArray⟩).map (·.data.toList) = partsOf l := hd.trans hs
  have hlen : (partsOf l).length = Lib.countB ⟨l.toArray⟩ ⟨#[10]⟩ + 1 := by rw [← hd2, List.length_map, hn]
  refine acall_of_newStrings (T := 9) (vals := #[.string ⟨l.toArray⟩, .string ⟨#[10]⟩]) rfl (fun e => by rw [e] at hlen; simp at hlen) fun _ _ w hL hb => (Tryz.strings_Split_shaped ⟨l.toArray⟩ ⟨#[10]⟩ w (hL w hb).shaped (by simpa [ByteArray.size] using hl) (by simp [ByteArray.size])).mono fun e w' ⟨h1, h2⟩ => ?_
  refine ⟨by rw [h1, hlen], ?_⟩
  rw [h2, ← hd2, List.map_map]
  rfl
end Go.Proofs.YtplagcbifecagaaGreatDoor
set_option linter.unusedVariables false
namespace Go.Av
open Go Go.RowKit
section
variable {E : Env} {N : Nat} {ops : Array Oper} {K : AS → Prop} {s : AS} {rest : List Oper} {d : Option Tmp} {T : TypeId} {p : String} {af : Array Edge}
theorem aq_load_bx {x : Operand} {t : TypeId} {sz : Nat} {agg : Bool} {o ver off : Nat} {T' : TypeId} {cs : List AV} {r : AV} (hx : aeval N s x = .bx o ver off) (ho : s.st[o]? = some (.cells ver T' cs)) (ht : tyOf E.P t = some (sz, agg)) (hr : aloadC sz agg off cs = some r)
    (h : AQ E N ops rest K (s.put d r)) : AQ E N ops (⟨d, .load t x, T, p, af, none⟩ :: rest) K s := by
  refine aq_op rfl nofun fun B0 w0 G a w _ hI => ?_
  have he := hI.eval_of hx
  generalize hv : a.eval x = v at he
  cases he with
  | bx _ _ _ b hn hv' hb =>
    obtain ⟨_, h1, h2, h3, c, h4, h5, h6⟩ := hI.agree.ob o _ ho
    have hb := hb h1
    subst hb
    have hlt : (G.ob o).blk < w.heap.size := by
      rcases Nat.lt_or_ge (G.ob o).blk w.heap.size with h' | h'
      · exact h'
      · rw [Array.getElem?_eq_none h'] at h4; simp at h4
    -- the value is read out of the cells, whatever is drawn behind them
    have key : ∀ w', Below w.heap.size w w' → ∃ v, (loadVar t ⟨(G.ob o).blk, off, none⟩).run E.P w' = .ok v w' ∧ Rel G r v := fun w' hw' => by
      have h4' : w'.heap[(G.ob o).blk]? = some (.cells c T' (0, 0)) := by rw [hw'.block _ hlt]; exact h4
      exact run_loadVar_of (w := w') (G := G) (b := (G.ob o).blk) (off := off) (off' := off) ht (fun i x hx hi => by
        obtain ⟨y, hy⟩ := get_of_size hx (Nat.le_of_eq h5)
        refine ⟨y, ?_, h6 i x y hx hy⟩
        simp [World.cell?, h4', show off + (i - off) = i by omega, hy]) hr
    have hsame : ∀ w', Below w.heap.size w w' → ∀ v, (loadVar t ⟨(G.ob o).blk, off, none⟩).run E.P w = .ok v w → (loadVar t ⟨(G.ob o).blk, off, none⟩).run E.P w' = .ok v w' := fun w' hw' v hr1 => by
      obtain ⟨i1, i2⟩ := tyOf_info ht w
      obtain ⟨j1, j2⟩ := tyOf_info ht w'
      have hc : ∀ k, w'.cell? ⟨(G.ob o).blk, k, none⟩ = w.cell? ⟨(G.ob o).blk, k, none⟩ := fun k => by simp [World.cell?, hw'.block _ hlt]
      obtain ⟨v', h1', _⟩ := key w' hw'
      rw [h1']
      congr 1
      cases agg with
      | false =>
        simp only [aloadC, cond_false] at hr
        obtain ⟨y, hy⟩ := get_of_size hr (Nat.le_of_eq h5)
        have e1 : w.cell? ⟨(G.ob o).blk, off, none⟩ = some y := by simp [World.cell?, h4, hy]
        have e2 : w'.cell? ⟨(G.ob o).blk, off, none⟩ = some y := by rw [hc, e1]
        simp [loadVar, i2, run_load, e1] at hr1
        simp [loadVar, j2, run_load, e2] at h1'
        rw [← h1', hr1]
      | true =>
        simp only [aloadC, cond_true] at hr
        cases hb2 : Nat.ble (off + sz) cs.length with
        | false => rw [hb2] at hr; simp at hr
        | true =>
          have hle : off + sz ≤ cs.length := Nat.le_of_ble_eq_true hb2
          have e1 : ∀ j, j < sz → w.cell? ⟨(G.ob o).blk, off + j, none⟩ = some (c.getD (off + j) undef) := fun j hj => by
            have : off + j < c.size := by omega
            simp [World.cell?, h4, this]
          have e2 : ∀ j, j < sz → w'.cell? ⟨(G.ob o).blk, off + j, none⟩ = some (c.getD (off + j) undef) := fun j hj => by rw [hc, e1 j hj]
          have l1 := run_loadCells (P := E.P) (w := w) ⟨(G.ob o).blk, off, none⟩ sz (fun j => c.getD (off + j) undef) (fun j hj => by rw [Addr.add_lit]; exact e1 j hj)
          have l2 := run_loadCells (P := E.P) (w := w') ⟨(G.ob o).blk, off, none⟩ sz (fun j => c.getD (off + j) undef) (fun j hj => by rw [Addr.add_lit]; exact e2 j hj)
          simp [loadVar, i1, i2, l1] at hr1
          simp [loadVar, j1, j2, l2] at h1'
          rw [← h1', hr1]
    obtain ⟨v, hrun, hR⟩ := key w (Below.refl _ _)
    exact ⟨v, r, fun w' hw' => by simp only [execOp, hv, Instr.loadAt, Instr.sureAddr]; simp [hsame w' hw' v hrun], hR, h⟩
theorem aq_callP {f : FuncId} {xs : Array Operand} {ts : Array TypeId} {args : List AV} {r : AV} {v : Value} (hok : EnvOk E) (hrun : ∀ vs w, (callFunc f vs).run E.P w = .ok (.enter f vs) w)
    (hxs : xs.toList.map (aeval N s) = args) (hp : ∀ x ∈ args, Pure x) (hs : Sure r v) (hpr : ∀ G, Rel G r v) (hc : ACall E f args [] fun a st1 => a = r ∧ st1 = [])
    (h : AQ E N ops rest K (s.put d r)) : AQ E N ops (⟨d, .call ⟨.value (.func f), xs, ts⟩, T, p, af, none⟩ :: rest) K s := by
  refine ⟨fun B0 w0 G a w hL hI Q hQ => ?_⟩
  refine ⟨fun _ _ _ _ => trivial, ?_⟩
  simp only [Region.wanted]
  refine ⟨v, fun w' hw' => ?_, ?_⟩
  · have hr : (execOp a.eval ⟨d, .call ⟨.value (.func f), xs, ts⟩, T, p, af, none⟩).run E.P w' = .ok (.enter f (xs.map a.eval)) w' := by
      have he : a.eval (.func f) = .func (.func f) #[] #[] := rfl
      generalize a.eval = ρ at he
      simp [execOp, resolve, Deferred.ofValue, he, invoke, hrun]
    have hrl := relL_map hI xs
    rw [hxs] at hrl
    unfold Oper.quietAtIn
    rw [hr]
    refine ⟨rfl, fun h => by simp [fw, Fence.wide] at h, callsIn_fw ?_⟩
    have hb : Below B0 w0 w' := hI.agree.below.trans (hw'.mono hI.agree.hB)
    have hB : B0 ≤ w'.heap.size := Nat.le_trans hI.agree.hB hw'.size
    have hA' := hI.agree.fresh hw'
    refine (hc.run w'.heap.size w' ⟨G.pub, G.ob, 0⟩ (xs.map a.eval) w' (hok B0 w0 w' hL hb hB) ⟨Below.refl _ _, Nat.le_refl _, rfl, hA'.pub, nofun, nofun⟩ ⟨hrl.1, fun i x y hx hy => ?_⟩).mono ?_
    · exact hp x (List.mem_of_getElem? hx) G _ y (fun b vs hb => ⟨[], by simpa using hb⟩) (hrl.2 i x y hx hy)
    · rintro e w'' ⟨u, G', r', st', rfl, hG, hA, hR, rfl, rfl⟩
      rw [hs G' u hR]
      exact ⟨rfl, hw'.trans (hA.below.mono hw'.size)⟩
  · refine h.run B0 w0 G _ w hL (hI.put (.refl G) hI.agree d (hpr G)) Q fun s' a' hI' hst hK => hQ s' a' hI' ?_ hK
    rw [hst]
    cases d <;> rfl
end
end Go.Av
set_option linter.unusedVariables false
namespace Go.Av
open Go Go.RowKit
theorem acall_pureP {E : Env} {f : FuncId} {args : List AV} {st : List AObj} {P : AV → Prop} (hp : ∀ r, P r → Pure r)
    (h : ACall E f args st fun r st2 => P r ∧ ∃ ext, st2 = st ++ ext) : ACall E f args st fun r st' => P r ∧ st' = st :=
  acall_ret (h.mono fun r st2 ⟨hr, ext, he⟩ => ⟨st, ext, he, rfl, fun _ _ hx => .inl hx, cut_of_pure (hp r hr), hr, rfl⟩)
section
variable {E : Env} {rd : Option Nat} {N : Nat} {ops : Array Oper} {K : AS → Prop} {s : AS} {rest : List Oper} {d : Option Tmp} {T : TypeId} {p : String} {af : Array Edge}
theorem aops_min {x y : Operand} {ts : Array TypeId} {a b : Int} (hx : aeval N s x = Iv a) (hy : aeval N s y = Iv b)
    (h : ∀ c : Int, c ≤ a → c ≤ b → (c = a ∨ c = b) → AOps E rd N ops rest K (s.put d (Iv c))) : AOps E rd N ops (⟨d, .call ⟨.builtin .min, #[x, y], ts⟩, T, p, af, none⟩ :: rest) K s :=
  aops_scalar _ rfl nofun (fun a w he => by simp [execOp, resolve, invoke, builtin, Builtin.min_, Builtin.min2, he _ _ hx, he _ _ hy]) (h (if b < a then b else a) (by split <;> omega) (by split <;> omega) (by split <;> simp))
theorem aq_load_loc {x : Operand} {t : TypeId} {sz : Nat} {agg : Bool} {st loc : List AObj} {k ver off : Nat} {T' : TypeId} {cs : List AV} {r : AV} (hs : s.st = st ++ loc) (hx : aeval N s x = .bx (st.length + k) ver off) (ho : loc[k]? = some (.cells ver T' cs)) (ht : tyOf E.P t = some (sz, agg)) (hr : aloadC sz agg off cs = some r)
    (h : AQ E N ops rest K (s.put d r)) : AQ E N ops (⟨d, .load t x, T, p, af, none⟩ :: rest) K s :=
  aq_load_bx hx (by rw [hs]; exact get_loc ho) ht hr h
end
end Go.Av
set_option maxRecDepth 100000
set_option linter.unusedVariables false
namespace Go.Proofs.YtplagcbifecagaaGreatDoor
open Go Go.Av Go.RowKit Go.Proofs Go.Pl
structure RuleV where
  kind : Int
  key : Bytes
  text : Bytes
  lo : Int
  hi : Int
abbrev FldV := Bytes × Bytes
@[reducible] def fldA (f : FldV) : AV := .ag [Sv f.1, Sv f.2]
@[reducible] def fldsA (l : List FldV) : AV := .sl 2 (l.map fldA) none
def goodR (r : RuleV) : Prop := 1 ≤ r.kind ∧ r.kind ≤ 7 ∧ (r.kind = 6 ∨ keyOk r.key)
instance (r : RuleV) : Decidable (goodR r) := inferInstanceAs (Decidable (_ ∧ _ ∧ _))
def wordsOf (l : Bytes) : List Bytes := if l = [] then [] else partsOf l
theorem pure_strs (xs : List Bytes) : Pure (.sl 1 (xs.map fun x => Sv x) none) := pure_sl fun x hx => by
  simp only [List.mem_map] at hx
  obtain ⟨l, _, rfl⟩ := hx
  intro y hy
  simp [AV.cells] at hy
  subst hy
  exact pure_v _
def withinR (r : RuleV) (n : Int) : Prop := r.lo ≤ n ∧ n ≤ r.hi
instance (r : RuleV) (n : Int) : Decidable (withinR r n) := inferInstanceAs (Decidable (_ ∧ _))
def numberR (r : RuleV) (l : Bytes) : Prop := ∃ n, numZ l = some n ∧ withinR r n
instance (r : RuleV) (l : Bytes) : Decidable (numberR r l) :=
  match h : numZ l with
  | some n => decidable_of_iff (withinR r n) ⟨fun h' => ⟨n, h, h'⟩, fun ⟨m, h1, h2⟩ => by rw [h] at h1; cases h1; exact h2⟩
  | none => .isFalse fun ⟨m, h1, _⟩ => by rw [h] at h1; cases h1
def takesR (r : RuleV) (f : FldV) : Prop :=
  (r.kind = 3 → f.1 = r.key → numberR r f.2) ∧ (r.kind = 4 → f.1 = r.key → f.2 ∈ wordsOf r.text) ∧ (r.kind = 5 → f.1 = r.key → withinR r f.2.length) ∧ (r.kind = 6 → f.1 ∈ wordsOf r.text)
instance (r : RuleV) (f : FldV) : Decidable (takesR r f) := inferInstanceAs (Decidable (_ ∧ _ ∧ _ ∧ _))
end Go.Proofs.YtplagcbifecagaaGreatDoor
set_option maxRecDepth 100000
set_option linter.unusedVariables false
namespace Go.Proofs.YtplagcbifecagaaGreatDoor
open Go Go.Av Go.RowKit Go.Proofs Go.Pl
theorem flds_get {xs : List FldV} {k : Nat} (hk : k < xs.length) : (xs.map fldA)[k]? = some (fldA (xs.getD k ([], []))) := by
  simp [List.getD, hk]
def valsOf (key : Bytes) (xs : List FldV) : List Bytes := (xs.filter fun f => f.1 = key).map Prod.snd
end Go.Proofs.YtplagcbifecagaaGreatDoor
set_option maxRecDepth 100000
set_option linter.unusedVariables false
namespace Go.Proofs.YtplagcbifecagaaGreatDoor
open Go Go.Av Go.RowKit Go.Proofs Go.Pl
def breaksR (r : RuleV) (xs : List FldV) : Prop := goodR r ∧ ((r.kind = 1 ∧ (valsOf r.key xs).length = 0) ∨ (r.kind = 2 ∧ 1 < (valsOf r.key xs).length) ∨ (r.kind ≠ 1 ∧ r.kind ≠ 2 ∧ xs.any (fun f => !decide (takesR r f)) = true))
instance (r : RuleV) (xs : List FldV) : Decidable (breaksR r xs) := inferInstanceAs (Decidable (_ ∧ (_ ∨ _ ∨ _)))
structure FldsB (xs : List FldV) : Prop where
  len : xs.length < 1000000
  val : ∀ f ∈ xs, f.1.length < 4294967281 ∧ f.2.length < 4294967281
end Go.Proofs.YtplagcbifecagaaGreatDoor
set_option maxRecDepth 100000
set_option linter.unusedVariables false
namespace Go.Proofs.YtplagcbifecagaaGreatDoor
open Go Go.Av Go.RowKit Go.Proofs Go.Pl
theorem flds_next {xs : List FldV} {k : Nat} {P : FldV → Prop} (hk : k < xs.length) (h : ∀ f ∈ xs.take k, P f) (h2 : P (xs.getD k ([], []))) : ∀ f ∈ xs.take (k + 1), P f := by
  intro f hf
  rw [List.take_succ_eq_append_getElem hk, List.mem_append, List.mem_singleton] at hf
  rcases hf with hf | rfl
  · exact h f hf
  · simpa [List.getD, hk] using h2
theorem much_c (xs : List FldV) (st : List AObj) (hx : xs.length < 9223372036854775808) : ACall E 44 [fldsA xs] st fun x st' => (∃ b, x = Bv b ∧ (b = false → FldsB xs)) ∧ st' = st := by
  refine acall_pureP (by rintro _ ⟨b, rfl, _⟩; exact pure_v _) (acall_of_awp Tryz.func44 rfl (Nat.le_of_ble_eq_true rfl) ?_)
  have hlen : (xs.map fldA).length = xs.length := by simp
  repeat' (first
    | apply awp_seq
    | apply awp_block
    | apply awp_region
    | apply aops_nil
    | apply aops_move
    | apply aops_assign
    | (apply aops_lenL; exact rfl; exact rfl; exact rfl; exact rfl))
  refine awp_loopG (fun (y : Nat × Int) s => y.1 ≤ xs.length ∧ y.1 ≤ 61 ∧ 0 ≤ y.2 ∧ y.2 ≤ 6000 ∧ (∀ f ∈ xs.take y.1, f.1.length ≤ 6000 ∧ f.2.length ≤ 6000) ∧ StE [(3, Iv y.2), (6, fldsA xs), (7, Iv xs.length), (8, Iv y.1)] st [] s) (fun y => xs.length - y.1) (0, 0) ⟨by simp, by simp, by simp, by simp, by simp, stE_mk0 ⟨rfl, rfl, congrArg (fun n : Nat => Iv (n : Int)) hlen, rfl, trivial⟩ rfl⟩ ?_
  rintro ⟨k, n⟩ _ ⟨hk, hk2, h0, hn, hf, t, ext, rfl⟩
  simp only at hk hk2 h0 hn hf ⊢
  rcases Nat.lt_or_ge k xs.length with hc | hc
  · skip
    repeat' (first
      | apply awp_seq
      | apply awp_block
      | apply awp_region
      | apply aops_nil
      | apply aops_move
      | apply aops_assign
      | (apply aops_cmpI; exact rfl; exact rfl; exact rfl)
      | (apply aops_guard_any; exact rfl; exact rfl; exact rfl; exact rfl)
      | (apply gd_run_n; (first | assumption | omega))
      | (apply gd_skip_d; (first | assumption | omega))
      | (apply gd_split_d <;> intro h)
      | (apply aops_pick_any; exact rfl; first | (apply pk_dt; (first | assumption | omega)) | (apply pk_df; (first | assumption | omega)) | (apply pk_nt; (first | exact rfl | assumption)) | (apply pk_nf; (first | exact rfl | assumption)) | (apply pk_t; (first | exact rfl | assumption)) | (apply pk_f; (first | exact rfl | assumption)))
      | (apply awp_cond_any; exact rfl; first | (apply cd_dt; (first | assumption | omega)) | (apply cd_df; (first | assumption | omega)) | (apply cd_nt; (first | exact rfl | assumption)) | (apply cd_nf; (first | exact rfl | assumption)) | (apply cd_n <;> intro h) | (apply cd_t; (first | exact rfl | assumption)) | (apply cd_f; (first | exact rfl | assumption)) | (apply cd_d <;> intro h) | (apply cd_s <;> intro h))
      | (apply aops_lenS; exact rfl; exact rfl; exact rfl)
      | (apply aops_add; exact rfl; exact rfl; exact wrap_i64 (by omega) (by omega))
      | (apply aops_alloc; exact rfl; exact rfl)
      | (apply aops_fieldAddr_bx; exact rfl; exact rfl; exact rfl)
      | (apply aops_load_pp; exact rfl; exact rfl; exact rfl)
      | (apply aops_load_loc; exact rfl; exact rfl; exact rfl; exact rfl; exact rfl)
      | (apply aops_store_loc; exact rfl; exact rfl; exact rfl; exact rfl; exact rfl; exact rfl; exact rfl; exact rfl; exact rfl; exact rfl; exact rfl)
      | apply awp_skip
      | apply awp_ret
      | (apply aops_indexAddr (n := k); exact rfl; exact rfl; exact rfl; exact rfl; exact rfl; exact flds_get (by omega))
      | (apply aops_min; exact rfl; exact rfl; intro c hc1 hc2 hc3))
    · exact aret_plain rfl (ares_one rfl) ⟨⟨_, rfl, nofun⟩, ext_end _ _ _ _⟩
    · exact aret_plain rfl (ares_one rfl) ⟨⟨_, rfl, nofun⟩, ext_end _ _ _ _⟩
    · exact ⟨(k + 1, _), ⟨by simp only; omega, by simp only; omega, by simp only; omega, by simp only; omega, flds_next (by omega) hf ⟨by omega, by omega⟩, stE_mk ⟨rfl, rfl, rfl, rfl, trivial⟩ rfl⟩, by simp only; omega⟩
  · skip
    repeat' (first
      | apply awp_seq
      | apply awp_region
      | apply aops_nil
      | apply aops_assign
      | (apply aops_cmpI; exact rfl; exact rfl; exact rfl)
      | (apply awp_cond_any; exact rfl; first | (apply cd_dt; (first | assumption | omega)) | (apply cd_df; (first | assumption | omega)) | (apply cd_nt; (first | exact rfl | assumption)) | (apply cd_nf; (first | exact rfl | assumption)) | (apply cd_n <;> intro h) | (apply cd_t; (first | exact rfl | assumption)) | (apply cd_f; (first | exact rfl | assumption)) | (apply cd_d <;> intro h) | (apply cd_s <;> intro h))
      | apply awp_exit
      | apply awp_ret)
    have e : k = xs.length := by omega
    subst e
    rw [List.take_length] at hf
    exact aret_plain rfl (ares_one rfl) ⟨⟨_, rfl, fun _ => ⟨by omega, fun f h => by have := hf f h; omega⟩⟩, ext_end _ _ _ _⟩
end Go.Proofs.YtplagcbifecagaaGreatDoor
set_option linter.unusedVariables false
namespace Go.Av
open Go Go.RowKit Go.WideShapes Go.ChangeShapes Go.Deep
def gW (W : World) : Gh := ⟨fun b => match W.heap[b]? with | some (.cells c _ _) => some c.toList | _ => none, fun _ => ⟨0, 0, 0, false⟩, 0⟩
theorem gW_pub {W : World} {b : Nat} {c : Array Value} {T : TypeId} {fz : Nat × Nat} (h : W.heap[b]? = some (.cells c T fz)) : (gW W).pub b = some c.toList := by
  simp [gW, h]
theorem agree_startW (W : World) : Agree W.heap.size W (gW W) [] W := by
  refine ⟨Below.refl _ _, Nat.le_refl _, rfl, fun b vs h => ?_, fun o x h => by simp at h, fun o o' x x' _ h => by simp at h⟩
  simp only [gW] at h
  split at h
  · rename_i c T fz hb
    cases h
    exact ⟨c, T, fz, hb, fun i y hy => by simpa using hy⟩
  · cases h
theorem calls_of_acallW {E : Env} {f : FuncId} {args : List AV} {vals : Array Value} {b : Bool} {W : World} (h : ACall E f args [] fun r st' => r = Bv b ∧ st' = []) (hL : E.L W.heap.size W) (ha : RelL (gW W) args vals) :
    Calls E.P f vals W fun e w' => e = .returned (.bool b) ∧ Below W.heap.size W w' := by
  refine (h.run W.heap.size W (gW W) vals W hL (agree_startW W) ha).mono ?_
  rintro e w' ⟨v, G', r, st', rfl, _, hA, hr, rfl, _⟩
  cases hr
  exact ⟨rfl, hA.below⟩
theorem relL_nil {G : Gh} : RelL G [] #[] := ⟨rfl, fun i x y h => by simp at h⟩
theorem relL_cons {G : Gh} {a : AV} {us : List AV} {v : Value} {vs : List Value} (h : Rel G a v) (hs : RelL G us vs.toArray) : RelL G (a :: us) (v :: vs).toArray := by
  refine ⟨by simpa using hs.1, fun i x y hx hy => ?_⟩
  cases i with
  | zero => simp at hx hy; subst hx; subst hy; exact h
  | succ i => exact hs.2 i x y (by simpa using hx) (by simpa using hy)
def RelK (G : Gh) (us : List AV) (cs : List Value) : Prop := us.length = cs.length ∧ ∀ (i : Nat) (x : AV) (y : Value), us[i]? = some x → cs[i]? = some y → Rel G x y
theorem relK_one {G : Gh} {a : AV} {v : Value} (h : Rel G a v) : RelK G [a] [v] := ⟨rfl, fun i x y hx hy => by
  cases i with
  | zero => simp at hx hy; subst hx; subst hy; exact h
  | succ i => simp at hx⟩
theorem RelK.one {G : Gh} {a : AV} {v : Value} (h : RelK G [a] [v]) : Rel G a v := h.2 0 a v rfl rfl
def Opn (P : Program) (t : TypeId) (S : AV → Prop) : Prop := ∀ (H : Type) (enc : TypeId × Value → H) (W : World) (fuel : Nat) (cs : List Value) (x : DataW H × List MemPlace),
  DataW.trod enc P W 0 (fun _ => true) true fuel t cs = some x → ∃ a, S a ∧ RelK (gW W) a.cells cs
def IsS (a : AV) : Prop := ∃ l : List UInt8, a = Sv l ∧ l.length ≤ maxLen
def IsI (k : IntKind) (a : AV) : Prop := ∃ n : Int, a = .v (.int k n) ∧ (Lit.int k n).wf = true
def IsSl (sz : Nat) (S : AV → Prop) (a : AV) : Prop := ∃ xs : List AV, a = .sl sz xs none ∧ xs.length ≤ maxLen ∧ ∀ x ∈ xs, S x
def IsAg (Ss : List (AV → Prop)) (a : AV) : Prop := ∃ vs : List AV, a = .ag vs ∧ vs.length = Ss.length ∧ ∀ (i : Nat) (S : AV → Prop) (v : AV), Ss[i]? = some S → vs[i]? = some v → S v
def One (S : AV → Prop) : Prop := ∀ a, S a → a.cells = [a]
theorem one_s : One IsS := by rintro _ ⟨l, rfl, _⟩; rfl
theorem one_i (k : IntKind) : One (IsI k) := by rintro _ ⟨l, rfl, _⟩; rfl
theorem sv_of (s : ByteArray) : Sv s.data.toList = .v (.string s) := by cases s; simp
theorem opn_s {P : Program} {t : TypeId} (hu : P.underlying t = some .string) : Opn P t IsS := by
  intro H enc W fuel cs x h
  obtain ⟨s, rfl, _, hs⟩ := DataW.trod_string hu h
  refine ⟨Sv s.data.toList, ⟨_, rfl, by simpa using hs⟩, relK_one ?_⟩
  rw [sv_of]
  exact .v _
theorem opn_i {P : Program} {t : TypeId} {k : IntKind} (hu : P.underlying t = some (.int k)) : Opn P t (IsI k) := by
  intro H enc W fuel cs x h
  obtain ⟨n, rfl, _, hs⟩ := DataW.trod_int hu h
  exact ⟨_, ⟨n, rfl, hs⟩, relK_one (.v _)⟩
theorem choose_list {n : Nat} {Q : Nat → AV → Prop} (h : ∀ i, i < n → ∃ a, Q i a) : ∃ vs : List AV, vs.length = n ∧ ∀ i v, vs[i]? = some v → Q i v := by
  induction n with
  | zero => exact ⟨[], rfl, fun i v h => by simp at h⟩
  | succ n ih =>
    obtain ⟨vs, hl, hv⟩ := ih fun i hi => h i (by omega)
    obtain ⟨a, ha⟩ := h n (by omega)
    refine ⟨vs ++ [a], by simp [hl], fun i v hi => ?_⟩
    rcases Nat.lt_or_ge i n with hc | hc
    · rw [List.getElem?_append_left (by omega)] at hi
      exact hv i v hi
    · rw [List.getElem?_append_right (by omega)] at hi
      have : i - vs.length = 0 := by
        rcases Nat.eq_zero_or_pos (i - vs.length) with h0 | h0
        · exact h0
        · rw [List.getElem?_eq_none (by simp; omega)] at hi; cases hi
      rw [this] at hi
      simp at hi
      subst hi
      have : i = n := by omega
      subst this
      exact ha
theorem opn_ag {P : Program} {t : TypeId} {fs : Array Field} {Ss : List (AV → Prop)} (hu : P.underlying t = some (.struct fs)) (hone : oneCellFields P fs = true) (hC : P.cellsOf t = fs.size) (hl : Ss.length = fs.size)
    (hS : ∀ (i : Nat) (f : Field) (S : AV → Prop), fs[i]? = some f → Ss[i]? = some S → Opn P f.type S ∧ One S) : Opn P t (IsAg Ss) := by
  intro H enc W fuel cs x h
  obtain ⟨xs, n, _, _, hcl, hxl, hf⟩ := DataW.trod_struct hu h
  have hcs : cs.length = fs.size := hcl.trans hC
  have step : ∀ i, i < fs.size → ∃ a : AV, (∀ S, Ss[i]? = some S → S a) ∧ ∀ y, cs[i]? = some y → Rel (gW W) a y := by
    intro i hi
    have hfi : fs[i]? = some fs[i] := Array.getElem?_eq_getElem hi
    have hSi : Ss[i]? = some (Ss[i]'(by omega)) := List.getElem?_eq_getElem (by omega)
    obtain ⟨hO, h1⟩ := hS i _ _ hfi hSi
    obtain ⟨ho, hk⟩ := hone_of hone i _ hfi
    have ht := hf i _ hfi
    rw [ho, hk] at ht
    have hd : (cs.drop i).take 1 = [cs[i]'(by omega)] := by
      rw [List.drop_eq_getElem_cons (by omega)]
      rfl
    rw [hd, List.getElem?_eq_getElem (by omega)] at ht
    obtain ⟨a, ha, hr⟩ := hO H enc W n _ _ ht
    rw [h1 a ha] at hr
    refine ⟨a, fun S hs => ?_, fun y hy => ?_⟩
    · rw [hSi] at hs; cases hs; exact ha
    · rw [List.getElem?_eq_getElem (by omega)] at hy; cases hy; exact hr.one
  obtain ⟨vs, hvl, hv⟩ := choose_list step
  refine ⟨.ag vs, ⟨vs, rfl, by omega, fun i S v hs hvi => (hv i v hvi).1 S hs⟩, by show vs.length = cs.length; omega, fun i x y hx hy => (hv i x hx).2 y hy⟩
theorem cell_at {W : World} {a : Addr} {n : Nat} {v : Value} (h : W.cell? (a.add n) = some v) : ∃ (c : Array Value) (T : TypeId) (fz : Nat × Nat), W.heap[a.block]? = some (.cells c T fz) ∧ c[a.off + n]? = some v ∧ (n = 0 → a.spot = none) := by
  unfold World.cell? Addr.add at h
  by_cases hn : n = 0
  · subst hn
    simp only [if_true] at h
    split at h
    · rename_i c T fz hb
      split at h
      · cases h
      · rename_i hs
        exact ⟨c, T, fz, hb, by simpa using h, fun _ => by simpa using hs⟩
    · cases h
  · rw [if_neg hn] at h
    simp only at h
    split at h
    · rename_i c T fz hb
      exact ⟨c, T, fz, hb, by simpa using h, fun e => absurd e hn⟩
    · cases h
theorem opn_sl {P : Program} {t e : TypeId} {sz : Nat} {S : AV → Prop} (hu : P.underlying t = some (.slice e)) (hC : P.cellsOf e = sz) (hz : 0 < sz) (hS : Opn P e S) : Opn P t (IsSl sz S) := by
  intro H enc W fuel cs x h
  rcases open_slice hu h with ⟨rfl, _⟩ | ⟨a, len, cap, m, n, D, Pl, rfl, _, hlc, hcm, hm, _, hel⟩
  · exact ⟨.sl sz [] none, ⟨[], rfl, by simp, by simp⟩, relK_one (.sl0 sz none _ _ (by simp))⟩
  · have hm' : len ≤ m := by rw [hm]; simpa using hlc
    rw [hC] at hel
    have step : ∀ i, i < len → ∃ y : AV, S y ∧ y.cells.length = sz ∧ ∀ j, j < sz → ∃ (u : AV) (v : Value), y.cells[j]? = some u ∧ W.cell? (a.add (i * sz + j)) = some v ∧ Rel (gW W) u v := by
      intro i hi
      obtain ⟨cs', hc, ht⟩ := hel i (by omega)
      obtain ⟨_, hcl, hat⟩ := World.cells?_some hc
      obtain ⟨y, hy, hr⟩ := hS H enc W n cs' _ ht
      refine ⟨y, hy, hr.1.trans hcl, fun j hj => ?_⟩
      have h1 : y.cells[j]? = some (y.cells[j]'(by rw [hr.1, hcl]; exact hj)) := List.getElem?_eq_getElem _
      have h2 : cs'[j]? = some (cs'[j]'(by omega)) := List.getElem?_eq_getElem _
      refine ⟨_, _, h1, ?_, hr.2 j _ _ h1 h2⟩
      rw [← Go.Deep.add_add, hat j hj, h2]
    obtain ⟨xs, hxl, hx⟩ := choose_list step
    have hmem : ∀ y ∈ xs, S y ∧ y.cells.length = sz := fun y hy => by
      obtain ⟨i, hi, rfl⟩ := List.mem_iff_getElem.1 hy
      have := hx i xs[i] (List.getElem?_eq_getElem hi)
      exact ⟨this.1, this.2.1⟩
    refine ⟨.sl sz xs none, ⟨xs, rfl, by omega, fun y hy => (hmem y hy).1⟩, relK_one ?_⟩
    rcases Nat.eq_zero_or_pos len with h0 | h0
    · subst h0
      have : xs = [] := List.length_eq_zero_iff.1 hxl
      subst this
      exact .sl0 sz none _ _ (by simp)
    · have hfl : (flat xs).length = len * sz := by rw [flat_length fun y hy => (hmem y hy).2, hxl]
      have at0 : ∀ k, k < len * sz → ∃ (u : AV) (v : Value), (flat xs)[k]? = some u ∧ W.cell? (a.add k) = some v ∧ Rel (gW W) u v := by
        intro k hk
        have hq : k / sz < len := (Nat.div_lt_iff_lt_mul hz).2 hk
        have hr : k % sz < sz := Nat.mod_lt _ hz
        have e : k / sz * sz + k % sz = k := by rw [Nat.mul_comm]; exact Nat.div_add_mod k sz
        have hxi : xs[k / sz]? = some (xs[k / sz]'(by omega)) := List.getElem?_eq_getElem _
        obtain ⟨_, _, hj⟩ := hx _ _ hxi
        obtain ⟨u, v, h1, h2, h3⟩ := hj _ hr
        have := flat_get (sz := sz) (fun y hy => (hmem y hy).2) hxi _ hr
        rw [e] at this h2
        exact ⟨u, v, this.trans h1, h2, h3⟩
      have hpos : 0 < len * sz := Nat.mul_pos h0 hz
      obtain ⟨_, _, _, hc0, _⟩ := at0 0 hpos
      obtain ⟨c, T, fz, hb, _, hspot⟩ := cell_at hc0
      have hin : ∀ k, k < len * sz → ∃ (u : AV) (v : Value), (flat xs)[k]? = some u ∧ c.toList[a.off + k]? = some v ∧ Rel (gW W) u v := by
        intro k hk
        obtain ⟨u, v, h1, h2, h3⟩ := at0 k hk
        obtain ⟨c', T', fz', hb', hv, _⟩ := cell_at h2
        rw [hb] at hb'
        cases hb'
        exact ⟨u, v, h1, by simpa using hv, h3⟩
      obtain ⟨b, off, spot⟩ := a
      have hs := hspot rfl
      simp only at hs hb hin
      subst hs
      rw [← hxl]
      refine .sl sz xs none b off cap c.toList (gW_pub hb) (fun y hy => (hmem y hy).2) ?_ ?_ ?_ (by omega)
      · obtain ⟨_, _, _, hv, _⟩ := hin (len * sz - 1) (by omega)
        have := (List.getElem?_eq_some_iff.1 hv).1
        omega
      · intro i x y hx' hy'
        have hi : i < len * sz := by rw [← hfl]; exact (List.getElem?_eq_some_iff.1 hx').1
        obtain ⟨u, v, h1, h2, h3⟩ := hin i hi
        rw [hx'] at h1
        rw [hy'] at h2
        cases h1
        cases h2
        exact h3
      · intro t ht
        simp at ht
def fieldsOf (P : Program) (t : TypeId) : Array Field := match P.underlying t with | some (.struct fs) => fs | _ => #[]
theorem opn_fields {P : Program} {t : TypeId} {As : List (Option TypeDesc × (AV → Prop))} (hu : P.underlying t = some (.struct (fieldsOf P t))) (hone : oneCellFields P (fieldsOf P t) = true) (hC : P.cellsOf t = (fieldsOf P t).size)
    (hF : (fieldsOf P t).toList.map (fun f => P.underlying f.type) = As.map Prod.fst) (hA : ∀ p ∈ As, (∀ u, P.underlying u = p.1 → Opn P u p.2) ∧ One p.2) : Opn P t (IsAg (As.map Prod.snd)) := by
  have hl : As.length = (fieldsOf P t).size := by have := congrArg List.length hF; simpa using this.symm
  refine opn_ag hu hone hC (by simpa using hl) fun i f S hf hS => ?_
  obtain ⟨p, hp, rfl⟩ : ∃ p, As[i]? = some p ∧ p.2 = S := by simpa using hS
  have h1 : ((fieldsOf P t).toList.map (fun f => P.underlying f.type))[i]? = some (P.underlying f.type) := by simp [hf]
  rw [hF, List.getElem?_map, hp] at h1
  obtain ⟨a, b⟩ := hA p (List.mem_of_getElem? hp)
  exact ⟨a _ (by simpa using h1.symm), b⟩
theorem all_map {α : Type} {g : α → AV} : ∀ {xs : List AV}, (∀ x ∈ xs, ∃ r, x = g r) → ∃ rs : List α, xs = rs.map g
  | [], _ => ⟨[], rfl⟩
  | x :: xs, h => by
    obtain ⟨r, rfl⟩ := h x (by simp)
    obtain ⟨rs, rfl⟩ := all_map (xs := xs) fun y hy => h y (by simp [hy])
    exact ⟨r :: rs, rfl⟩
theorem arg_sl {H : Type} {enc : TypeId × Value → H} {P : Program} {W : World} {r : Reach} {b0 : Nat} {t e : TypeId} {S : AV → Prop} {v : Value} {d : DataW H} {ps : List MemPlace} (hu : P.underlying t = some (.slice e)) (hO : Opn P t S) (h1 : One S) (hval : Value.okWide P W r b0 t v) (hd : DataW.Trod enc P W 0 (fun _ => true) true t v d ps) :
    ∃ a, S a ∧ Rel (gW W) a v := by
  obtain ⟨a, len, cap, rfl⟩ := okWide_slice hu hval
  obtain ⟨fuel, hf⟩ := hd
  obtain ⟨y, hy, hr⟩ := hO H enc W fuel _ _ hf
  rw [h1 y hy] at hr
  exact ⟨y, hy, RelK.one (by simpa [Value.cells] using hr)⟩
theorem arg_same {H : Type} {enc : TypeId × Value → H} {P : Program} {W W' : World} {t : TypeId} (hl : laidOutB P = true) (hr : P.readableRec t = true) (hrow : t < P.types.size) {sp : Nat → Bool} {v : Value} {d : DataW H} {ps : List MemPlace}
    (hd : DataW.Trod enc P W 0 (fun _ => true) true t v d ps) (hb : Below W.heap.size W W') (hlt : ∀ p ∈ ps, p.block < W.heap.size) (hs : ∀ p ∈ ps, sp p.block = true) : DataW.Trod enc P W' 0 sp true t v d ps :=
  Go.WideElems.Trod_stays hl hr hrow hd (fun p hp => hb.same (hlt p hp)) hs
end Go.Av
set_option maxRecDepth 100000
set_option linter.unusedVariables false
namespace Go.Proofs.YtplagcbifecagaaGreatDoor
open Go Go.Av Go.RowKit Go.Proofs Go.Pl
theorem opn_fld : Opn Tryz.prog 58 fun a => ∃ f : FldV, a = fldA f := by
  intro H enc W fuel cs x h
  obtain ⟨a, ⟨vs, rfl, hl, hv⟩, hr⟩ := opn_fields (As := [(some .string, IsS), (some .string, IsS)]) (by kernel_rfl) (by kernel_rfl) (by kernel_rfl) (by kernel_rfl)
    (List.forall_mem_cons.2 ⟨⟨fun _ h => opn_s h, one_s⟩, List.forall_mem_cons.2 ⟨⟨fun _ h => opn_s h, one_s⟩, nofun⟩⟩) H enc W fuel cs x h
  match vs, hl with
  | [v0, v1], _ =>
    obtain ⟨l0, rfl, _⟩ := hv 0 _ _ rfl rfl
    obtain ⟨l1, rfl, _⟩ := hv 1 _ _ rfl rfl
    exact ⟨_, ⟨(l0, l1), rfl⟩, hr⟩
theorem opn_flds {t : TypeId} (hu : Tryz.prog.underlying t = some (.slice 58)) : Opn Tryz.prog t fun a => ∃ xs : List FldV, a = fldsA xs ∧ xs.length ≤ maxLen := by
  intro H enc W fuel cs x h
  obtain ⟨a, ⟨xs, rfl, hl, hx⟩, hr⟩ := opn_sl (sz := 2) hu (by kernel_rfl) (by decide) opn_fld H enc W fuel cs x h
  obtain ⟨rs, rfl⟩ := all_map hx
  exact ⟨_, ⟨rs, rfl, by simpa using hl⟩, hr⟩
theorem one_flds : One fun a => ∃ xs : List FldV, a = fldsA xs ∧ xs.length ≤ maxLen := by rintro _ ⟨xs, rfl, _⟩; rfl
theorem lt_max {n : Nat} (h : n ≤ maxLen) : n < 9223372036854775808 := by unfold maxLen at h; omega
end Go.Proofs.YtplagcbifecagaaGreatDoor
set_option maxRecDepth 100000
set_option linter.unusedVariables false
namespace Go.Proofs.YtplagcbifecagaaGreatDoor
open Go Go.Av Go.RowKit Go.Proofs Go.Pl
structure EditV where
  kind : Int
  id : Int
  fields : List FldV
@[reducible] def editA (e : EditV) : AV := .ag [Iv e.kind, Iv e.id, fldsA e.fields]
def headOf (k : Int) : Bytes := if k = 1 then [32, 114, 101, 112, 108, 97, 99, 101, 32] else if k = 2 then [32, 100, 101, 108, 101, 116, 101, 32] else if k = 3 then [32, 105, 110, 115, 101, 114, 116, 32] else []
def lineE (e : EditV) : Bytes := if 1 ≤ e.kind ∧ e.kind ≤ 3 then headOf e.kind ++ Lib.itoa e.id else []
theorem refLine_c (e : EditV) (st : List AObj) (h1 : -9223372036854775808 ≤ e.id) (h2 : e.id ≤ 9223372036854775807) : ACall E 23 [editA e] st fun r st' => r = Sv (lineE e) ∧ st' = st := by
  refine acall_pure (pure_v _) (acall_of_awp Tryz.func23 rfl (Nat.le_of_ble_eq_true rfl) ?_)
  have hn := Lib.itoa_length_le e.id h1 h2
  repeat' (first
    | apply awp_seq
    | apply awp_region
    | apply aops_nil
    | apply aops_assign
    | (apply aops_cmpI; exact rfl; exact rfl; exact rfl)
    | (apply awp_cond_any; exact rfl; first | (apply cd_dt; (first | assumption | omega)) | (apply cd_df; (first | assumption | omega)) | (apply cd_nt; (first | exact rfl | assumption)) | (apply cd_nf; (first | exact rfl | assumption)) | (apply cd_n <;> intro h) | (apply cd_t; (first | exact rfl | assumption)) | (apply cd_f; (first | exact rfl | assumption)) | (apply cd_d <;> intro h) | (apply cd_s <;> intro h))
    | (apply aops_concat; exact rfl; exact rfl; (first | omega | (simp only [List.length_append, List.length_cons, List.length_nil]; omega) | (simp; omega)))
    | (apply aops_box; exact rfl; exact rfl; exact rfl; exact rfl)
    | (apply aops_fieldAddr_bx; exact rfl; exact rfl; exact rfl)
    | (apply aops_load_loc; exact rfl; exact rfl; exact rfl; exact rfl; exact rfl)
    | apply awp_skip
    | apply awp_ret
    | (apply aops_call1; exact Tryz.call51; exact refFiguresZ_c _ _ h1 h2))
  all_goals refine aret_plain rfl (ares_one rfl) ⟨congrArg (fun l : Bytes => Sv l) (?_ : _ = lineE e), _, rfl⟩
  all_goals simp_all [lineE, headOf]
  all_goals omega
def wordE (k : Int) : Bytes := if k = 1 then [114, 101, 112, 108, 97, 99, 101] else if k = 2 then [100, 101, 108, 101, 116, 101] else if k = 3 then [105, 110, 115, 101, 114, 116] else []
theorem word_c (k : Int) (st : List AObj) : ACall E 49 [Iv k] st fun r st' => r = Sv (wordE k) ∧ st' = st := by
  refine acall_pure (pure_v _) (acall_of_awp Tryz.func49 rfl (Nat.le_of_ble_eq_true rfl) ?_)
  repeat' (first
    | apply awp_seq
    | apply awp_block
    | apply awp_region
    | apply aops_nil
    | apply aops_move
    | apply aops_assign
    | (apply aops_cmpI; exact rfl; exact rfl; exact rfl)
    | (apply awp_cond_any; exact rfl; first | (apply cd_dt; (first | assumption | omega)) | (apply cd_df; (first | assumption | omega)) | (apply cd_nt; (first | exact rfl | assumption)) | (apply cd_nf; (first | exact rfl | assumption)) | (apply cd_n <;> intro h) | (apply cd_t; (first | exact rfl | assumption)) | (apply cd_f; (first | exact rfl | assumption)) | (apply cd_d <;> intro h) | (apply cd_s <;> intro h))
    | apply awp_skip
    | apply awp_ret)
  all_goals refine aret_plain rfl (ares_one rfl) ⟨congrArg (fun l : Bytes => Sv l) (?_ : _ = wordE k), _, rfl⟩
  all_goals simp_all [wordE]
theorem wordE_len (k : Int) : (wordE k).length ≤ 7 := by
  unfold wordE
  repeat' split
  all_goals simp
theorem headOf_word (k : Int) : headOf k = if wordE k = [] then [] else [32] ++ wordE k ++ [32] := by
  unfold headOf wordE
  repeat' split
  all_goals simp_all
theorem wordE_nil (k : Int) : wordE k = [] ↔ ¬ (1 ≤ k ∧ k ≤ 3) := by
  unfold wordE
  repeat' split
  all_goals simp_all
  omega
theorem line_c (e : EditV) (st : List AObj) (h1 : -9223372036854775808 ≤ e.id) (h2 : e.id ≤ 9223372036854775807) : ACall E 22 [editA e] st fun r st' => r = Sv (lineE e) ∧ st' = st := by
  refine acall_pure (pure_v _) (acall_of_awp Tryz.func22 rfl (Nat.le_of_ble_eq_true rfl) ?_)
  have hn := Lib.itoa_length_le e.id h1 h2
  have hw := wordE_len e.kind
  have ho := headOf_word e.kind
  have hz := wordE_nil e.kind
  repeat' (first
    | apply awp_seq
    | apply awp_region
    | apply aops_nil
    | apply aops_move
    | apply aops_assign
    | (apply aops_cmpS; exact rfl; exact rfl; exact rfl)
    | (apply awp_cond_any; exact rfl; first | (apply cd_dt; (first | assumption | omega)) | (apply cd_df; (first | assumption | omega)) | (apply cd_nt; (first | exact rfl | assumption)) | (apply cd_nf; (first | exact rfl | assumption)) | (apply cd_n <;> intro h) | (apply cd_t; (first | exact rfl | assumption)) | (apply cd_f; (first | exact rfl | assumption)) | (apply cd_d <;> intro h) | (apply cd_s <;> intro h))
    | (apply aops_concat; exact rfl; exact rfl; (first | omega | (simp only [List.length_append, List.length_cons, List.length_nil]; omega) | (simp; omega)))
    | (apply aops_box; exact rfl; exact rfl; exact rfl; exact rfl)
    | (apply aops_fieldAddr_bx; exact rfl; exact rfl; exact rfl)
    | (apply aops_load_loc; exact rfl; exact rfl; exact rfl; exact rfl; exact rfl)
    | apply awp_skip
    | apply awp_ret
    | (apply aops_call1; exact Tryz.call49; exact word_c _ _)
    | (apply aops_call1; exact Tryz.call50; exact itoa_c _ _ h1 h2))
  all_goals refine aret_plain rfl (ares_one rfl) ⟨congrArg (fun l : Bytes => Sv l) (?_ : _ = lineE e), _, rfl⟩
  all_goals unfold lineE
  · rw [if_neg (by simp_all)]
  · rw [if_pos (by simp_all), ho, if_neg (by assumption)]
end Go.Proofs.YtplagcbifecagaaGreatDoor
set_option linter.unusedVariables false
namespace Go.Av
open Go Go.RowKit
def noop (o : Oper) : Oper := { o with op := .move (.const undef), guard := none }
section
variable {F : Fence} {n : Nat} {P : Program} {ops ops' : Array Oper} {md : Region.Mode} {C : World → Prop} {Q : Exit → Act → World → Prop} {k : Nat} {o : Oper}
theorem least_unlisted {listed : Array Bool} : ∀ k, listed.getD k true = false → ∃ j, j ≤ k ∧ listed.getD j true = false ∧ ∀ i, i < j → listed.getD i true = true := by
  intro k
  induction k using Nat.strongRecOn with
  | _ k ih =>
    intro h
    by_cases hall : ∀ i, i < k → listed.getD i true = true
    · exact ⟨k, Nat.le_refl _, h, hall⟩
    · have ⟨i, hi⟩ := Classical.not_forall.1 hall
      have ⟨hi1, hi2⟩ := Classical.not_imp.1 hi
      obtain ⟨j, h1, h2, h3⟩ := ih i hi1 (by simpa using hi2)
      exact ⟨j, by omega, h2, h3⟩
theorem getD_false_of {listed : Array Bool} {i : Nat} (h : listed.getD i true = true) (hi : i < listed.size) : listed.getD i false = true := by
  simp [Array.getD, hi] at h ⊢
  exact h
theorem getD_contra {listed : Array Bool} {i : Nat} (h : listed.getD i true = false) (h2 : listed.getD i false = true) : False := by
  unfold Array.getD at h h2
  by_cases hi : i < listed.size
  · rw [dif_pos hi] at h h2
    rw [h] at h2
    cases h2
  · rw [dif_neg hi] at h
    cases h
theorem ready_least {listed : Array Bool} {j : Nat} (hsz : listed.size = ops.size) (hord : ∀ (j : Nat) o, ops[j]? = some o → ∀ e ∈ o.after, e.on < j) (hj : listed.getD j true = false) (hall : ∀ i, i < j → listed.getD i true = true) : j ∈ Region.ready md ops listed := by
  have hlt : j < listed.size := by
    rcases Nat.lt_or_ge j listed.size with h | h
    · exact h
    · simp [Array.getD, Nat.not_lt.2 h] at hj
  rw [mem_ready]
  have ho : ops[j]? = some ops[j] := Array.getElem?_eq_getElem (by omega)
  exact ⟨hj, _, ho, fun e he _ => getD_false_of (hall _ (hord j _ ho e he)) (by have := hord j _ ho e he; omega)⟩
theorem ready_same {listed : Array Bool} (hs : ops.size = ops'.size) (hk : ops[k]? = some o) (hk' : ops'[k]? = some (noop o)) (hoth : ∀ j, j ≠ k → ops'[j]? = ops[j]?) : Region.ready md ops' listed = Region.ready md ops listed := by
  unfold Region.ready
  rw [hs]
  refine List.filter_congr fun i _ => ?_
  by_cases h : i = k
  · subst h; rw [hk, hk']; rfl
  · rw [hoth i h]
theorem yielded_same (hd : o.dst = none) (hk : ops[k]? = some o) (hk' : ops'[k]? = some (noop o)) (hoth : ∀ j, j ≠ k → ops'[j]? = ops[j]?) (t : Array Value) : yielded ops' t = yielded ops t := by
  funext j
  unfold yielded
  by_cases h : j = k
  · subst h; rw [hk, hk']; simp [noop, hd]
  · rw [hoth j h]
theorem wpAnyIn_last (hro : F.round = none) (hsz : ops.size = ops'.size) (hk : ops[k]? = some o) (hk' : ops'[k]? = some (noop o)) (hoth : ∀ j, j ≠ k → ops'[j]? = ops[j]?) (hd : o.dst = none)
    (hord : ∀ (j : Nat) o, ops[j]? = some o → ∀ e ∈ o.after, e.on < j) (hcov : ∀ j, j < ops.size → j ≠ k → ∃ e ∈ o.after, Region.binds md e = true ∧ e.on = j) :
    ∀ (fuel : Nat) (listed : Array Bool) (a : Act) (w : World), C w → listed.size = ops.size → listed.getD k true = false → wpAnyQIn F n P md ops' C (fun a => ∀ w, C w → wpOpIn F n P ops Q k (Q .normal) a w) fuel listed a → wpAnyIn F n P md ops Q fuel listed a w
  | 0, listed, a, w, hC, hs, hun, h => by
    have ⟨j, _, h2, h3⟩ := least_unlisted k hun
    have := ready_least (md := md) hs hord h2 h3
    rw [← ready_same hsz hk hk' hoth, h.1] at this
    cases this
  | fuel + 1, listed, a, w, hC, hs, hun, h => by
    obtain ⟨hq1, hq2⟩ := h
    rw [ready_same hsz hk hk' hoth] at hq1 hq2
    refine ⟨fun h0 => ?_, fun i hi => ?_⟩
    · have ⟨j, _, h2, h3⟩ := least_unlisted k hun
      have := ready_least (md := md) hs hord h2 h3
      rw [h0] at this
      cases this
    · have hqi := hq2 i hi
      by_cases hik : i = k
      · subst hik
        obtain ⟨_, o', ho', hall⟩ := mem_ready.1 hi
        rw [hk] at ho'
        cases ho'
        have hr : Region.ready md ops (listed.setIfInBounds i true) = [] := by
          rw [List.eq_nil_iff_forall_not_mem]
          intro j hj
          obtain ⟨hju, oj, hoj, _⟩ := mem_ready.1 hj
          have hjs : j < ops.size := by
            rcases Nat.lt_or_ge j ops.size with h | h
            · exact h
            · rw [Array.getElem?_eq_none h] at hoj; cases hoj
          by_cases hji : j = i
          · subst hji
            simp [Array.getD, hs, hjs] at hju
          · obtain ⟨e, he, hb, heq⟩ := hcov j hjs hji
            have h5 := hall e he hb
            rw [heq] at h5
            rw [getD_set_ne true (Ne.symm hji)] at hju
            exact getD_contra hju h5
        unfold qOpIn at hqi
        rw [hk'] at hqi
        simp only at hqi
        have hqe := hqi.2
        have hwn : Region.wanted (noop o) (yielded ops' a.tmps) = true := by simp [noop, Region.wanted]
        rw [if_pos hwn] at hqe
        obtain ⟨v, _, hK⟩ := hqe
        have hput : a.put (noop o).dst v = a := by simp [noop, hd, Act.put]
        rw [hput] at hK
        have hQ' : ∀ w, C w → wpOpIn F n P ops Q i (Q .normal) a w := by
          cases fuel with
          | zero => exact hK.2
          | succ fuel => exact hK.1 (by rw [ready_same hsz hk hk' hoth]; exact hr)
        exact wpOpIn_mono (fun a' w' h' => wpAnyIn_done hr h' _) (hQ' w hC)
      · have he : qOpIn F n P ops C i (wpAnyQIn F n P md ops' C (fun a => ∀ w, C w → wpOpIn F n P ops Q k (Q .normal) a w) fuel (listed.setIfInBounds i true)) a := by
          unfold qOpIn at hqi ⊢
          rw [hoth i hik] at hqi
          rw [← yielded_same hd hk hk' hoth]
          exact hqi
        refine wpOpIn_of_qOpIn hro hC (fun a' w' hC' hX => wpAnyIn_last hro hsz hk hk' hoth hd hord hcov fuel _ a' w' hC' (by simpa using hs) ?_ hX) he
        rw [getD_set_ne true hik]
        exact hun
def splitLast {α : Type} : List α → Option (List α × α)
  | [] => none
  | [x] => some ([], x)
  | x :: y :: r => match splitLast (y :: r) with
    | some (l, o) => some (x :: l, o)
    | none => none
theorem splitLast_eq {α : Type} : ∀ {L l : List α} {o : α}, splitLast L = some (l, o) → L = l ++ [o]
  | [], _, _, h => by simp [splitLast] at h
  | [x], _, _, h => by simp [splitLast] at h; obtain ⟨rfl, rfl⟩ := h; rfl
  | x :: y :: r, l, o, h => by
    unfold splitLast at h
    split at h
    · rename_i l' o' he
      simp only [Option.some.injEq, Prod.mk.injEq] at h
      obtain ⟨rfl, rfl⟩ := h
      rw [splitLast_eq he]
      rfl
    · simp at h
def coversB (o : Oper) (k : Nat) : Bool := (List.range k).all fun j => o.after.toList.any fun e => Region.binds .any e && Nat.beq e.on j
def orderedB (ops : List Oper) : Bool := (List.range ops.length).all fun j => match ops[j]? with | some o => o.after.toList.all fun e => Nat.blt e.on j | none => true
end
section
variable {E : Env} {N : Nat} {s : AS}
theorem awp_drawS {id : Nat} {L l : List Oper} {o : Oper} {Q : Exit → AS → Prop} (hsp : splitLast L = some (l, o)) (hd : o.dst = none) (hcov : coversB o l.length = true) (hord : orderedB L = true) (hm : E.P.follows .mixedOrders = true) (hB : Region.lexB .any (l ++ [noop o]).toArray = true)
    (h : AQ E N (l ++ [noop o]).toArray l (fun s' => AOps E none N L.toArray [o] (Q .normal) s') s) : AWp E none N (.region id L.toArray true) Q s := by
  have hLe := splitLast_eq hsp
  subst hLe
  refine ⟨fun B0 w0 G a w hL hI => ?_⟩
  have hB2 := hB
  simp only [Region.lexB, Bool.and_eq_true] at hB2
  have hk : (l ++ [o]).toArray[l.length]? = some o := by simp
  have hk' : (l ++ [noop o]).toArray[l.length]? = some (noop o) := by simp
  have hoth : ∀ j, j ≠ l.length → (l ++ [noop o]).toArray[j]? = (l ++ [o]).toArray[j]? := fun j hj => by
    simp only [List.getElem?_toArray]
    rcases Nat.lt_or_ge j l.length with h | h
    · rw [List.getElem?_append_left h, List.getElem?_append_left h]
    · rw [List.getElem?_eq_none (by simp; omega), List.getElem?_eq_none (by simp; omega)]
  have hordP : ∀ (j : Nat) o', (l ++ [o]).toArray[j]? = some o' → ∀ e ∈ o'.after, e.on < j := fun j o' hj e he => by
    simp only [orderedB, List.all_eq_true, List.mem_range] at hord
    simp only [List.getElem?_toArray] at hj
    have h1 := hord j (lt_of_getElem? hj)
    rw [hj] at h1
    simp only at h1
    have h2 := List.all_eq_true.1 h1 e (by simpa using he)
    exact Nat.le_of_ble_eq_true h2
  have hcovP : ∀ j, j < (l ++ [o]).toArray.size → j ≠ l.length → ∃ e ∈ o.after, Region.binds .any e = true ∧ e.on = j := fun j hj hne => by
    simp only [coversB, List.all_eq_true, List.mem_range] at hcov
    have h1 := hcov j (by simp at hj; omega)
    obtain ⟨e, he, h2⟩ := List.any_eq_true.1 h1
    simp only [Bool.and_eq_true] at h2
    exact ⟨e, by simpa using he, h2.1, Nat.eq_of_beq_eq_true h2.2⟩
  have hBl : Below w.heap.size w { w with drawn := w.drawn + 1 } := ⟨rfl, rfl, rfl, Nat.le_refl _, fun _ _ => rfl⟩
  refine wpIn_region_any hm (wpAnyIn_last (C := fun w' => Below w.heap.size w w') (ops' := (l ++ [noop o]).toArray) (k := l.length) rfl (by simp) hk hk' hoth hd hordP hcovP _ _ _ _ hBl (by simp) (by simp [Array.getD]) ?_)
  have hq : wpQuietIn (fw none) 0 E.P (l ++ [noop o]).toArray (fun w' => Below w.heap.size w w') (fun a => ∀ w', Below w.heap.size w w' → wpOpIn (fw none) 0 E.P (l ++ [o]).toArray (fun e a' w' => ∃ (G' : Gh) (s' : AS), G.le G' ∧ Inv B0 w0 N G' s' a' w' ∧ Q e s') l.length (fun a' w' => ∃ (G' : Gh) (s' : AS), G.le G' ∧ Inv B0 w0 N G' s' a' w' ∧ Q .normal s') a w') (l ++ [noop o]) a := by
    have step : ∀ (l1 : List Oper) (a : Act) (X : Act → Prop), wpQuietIn (fw none) 0 E.P (l ++ [noop o]).toArray (fun w' => Below w.heap.size w w') X l1 a → wpQuietIn (fw none) 0 E.P (l ++ [noop o]).toArray (fun w' => Below w.heap.size w w') X (l1 ++ [noop o]) a := by
      intro l1
      induction l1 with
      | nil =>
        intro a X hX
        refine ⟨fun _ _ _ hf => ?_, ?_⟩
        · simp [Oper.about, noop] at hf
        · have hwn : Region.wanted (noop o) (yielded (l ++ [noop o]).toArray a.tmps) = true := by simp [noop, Region.wanted]
          rw [if_pos hwn]
          refine ⟨undef, fun w' _ => ?_, ?_⟩
          · unfold Oper.quietAtIn
            simp [noop, execOp, Oper.quietUponIn, Act.eval]
          · have hput : a.put (noop o).dst undef = a := by simp [noop, hd, Act.put]
            rw [hput]
            exact hX
      | cons o1 l1 ih =>
        intro a X hX
        refine ⟨hX.1, ?_⟩
        have h2 := hX.2
        split
        · rename_i hw
          rw [if_pos hw] at h2
          obtain ⟨v, h3, h4⟩ := h2
          exact ⟨v, h3, ih _ _ h4⟩
        · rename_i hw
          rw [if_neg hw] at h2
          exact ih _ _ h2
    refine step l a _ (h.run B0 w0 G a w hL hI _ fun s' a' hI' hst hks w' hw' => ?_)
    have hI2 : Inv B0 w0 N G s' a' w' := ⟨hI'.agree.fresh hw', hI'.defers, hI'.size, hI'.tmps⟩
    have hr := hks.run B0 w0 G a' w' hL hI2 (fun e a' w' => ∃ (G' : Gh) (s' : AS), G.le G' ∧ Inv B0 w0 N G' s' a' w' ∧ Q e s') (fun G' s'' a'' w'' hG hI3 hQ => ⟨G', s'', hG, hI3, hQ⟩)
    unfold wpOpIn
    rw [hk]
    exact hr
  have := wpAnyQIn_lex (F := fw none) (n := 0) (C := fun w' => Below w.heap.size w w') (md := .any) hB2.1 (l ++ [noop o]) 0 (Array.replicate (l ++ [noop o]).length false) a (by simp) (by simpa using hB2.2) hq
  simpa using this
variable {ops : Array Oper} {K : AS → Prop} {rest : List Oper} {d : Option Tmp} {T : TypeId} {p : String} {af : Array Edge}
theorem aq_concat {x y : Operand} {t t' : TypeId} {m n : List UInt8} (hx : aeval N s x = Sv m) (hy : aeval N s y = Sv n) (hl : m.length + n.length < 9223372036854775808)
    (h : AQ E N ops rest K (s.put d (Sv (m ++ n)))) : AQ E N ops (⟨d, .binOp .add t x y t', T, p, af, none⟩ :: rest) K s :=
  aq_scalar _ rfl nofun (fun a w he => by
    simp only [execOp, he _ _ hx, he _ _ hy, eqGuard_at_string, binOp, Op.stringOp, size_mk, append_mk, IntKind.max_i64]
    rw [if_neg (by omega)]
    simp) h
theorem aq_cmpS {op : BinOp} {x y : Operand} {t t' : TypeId} {m n : List UInt8} {b : Bool} (hx : aeval N s x = Sv m) (hy : aeval N s y = Sv n) (hb : cmpS op m n = some b)
    (h : AQ E N ops rest K (s.put d (Bv b))) : AQ E N ops (⟨d, .binOp op t x y t', T, p, af, none⟩ :: rest) K s :=
  aq_scalar _ rfl nofun (fun a w he => by
    cases op <;> simp only [cmpS, Option.some.injEq, reduceCtorEq] at hb <;> subst hb <;> simp [execOp, he _ _ hx, he _ _ hy, eqGuard_at_string, binOp, Op.stringOp, beq_list]) h
theorem aq_indexAddr {x y : Operand} {t e : TypeId} {sz : Nat} {agg : Bool} {xs : List AV} {tip : Option Nat} {k : IntKind} {i : Int} {n : Nat} {z : AV} (hx : aeval N s x = .sl sz xs tip) (hy : aeval N s y = .v (.int k i)) (hu : E.P.underlying t = some (.slice e)) (ht : tyOf E.P e = some (sz, agg)) (hi : i = n) (hz : xs[n]? = some z)
    (h : AQ E N ops rest K (s.put d (.pp z.cells))) : AQ E N ops (⟨d, .indexAddr t x y, T, p, af, none⟩ :: rest) K s := by
  refine aq_op rfl nofun fun B0 w0 G a w _ hI => ?_
  subst hi
  have he := hI.eval_of hx
  have hey := hI.evalv hy
  generalize hv : a.eval x = v at he
  have hlt := lt_of_getElem? hz
  cases he with
  | sl0 => simp at hz
  | sl _ _ _ b off cap pub hp hw hlen hrel htip hcap =>
    have hzs : z.cells.length = sz := hw z (List.mem_of_getElem? hz)
    have hfl := flat_length hw
    have hle : (n + 1) * sz ≤ xs.length * sz := Nat.mul_le_mul_right _ hlt
    rw [Nat.succ_mul] at hle
    refine ⟨.pointer (some ⟨b, off + n * sz, none⟩), .pp z.cells, fun w' _ => ?_, ?_, h⟩
    · generalize a.eval = ρ at hv hey
      simp only [execOp, hv, hey]
      simp [Instr.indexAt, asIntOf, run_underlying hu, hlt, (tyOf_info ht w').1, Addr.add_lit]
    · refine .pp _ b _ pub hp (by omega) fun j q r h1 h2 => ?_
      have hj : j < sz := by have := lt_of_getElem? h1; omega
      have hf := flat_get hw hz j hj
      exact hrel (n * sz + j) q r (by rw [hf]; exact h1) (by rw [← h2]; congr 1; omega)
theorem aq_indexAddr_os {x y : Operand} {t e : TypeId} {sz : Nat} {agg : Bool} {o ver off len cp : Nat} {k : IntKind} {i : Int} {n : Nat} (hx : aeval N s x = .os o ver off len cp) (hy : aeval N s y = .v (.int k i)) (hu : E.P.underlying t = some (.slice e)) (ht : tyOf E.P e = some (sz, agg)) (hi : i = n) (hn : n < len)
    (h : AQ E N ops rest K (s.put d (.bx o ver (off + n * sz)))) : AQ E N ops (⟨d, .indexAddr t x y, T, p, af, none⟩ :: rest) K s := by
  refine aq_op rfl nofun fun B0 w0 G a w _ hI => ?_
  subst hi
  have he := hI.eval_of hx
  have hey := hI.evalv hy
  generalize hv : a.eval x = v at he
  cases he with
  | os _ _ _ _ b cap hn' hver hb =>
    refine ⟨.pointer (some ⟨b, off + n * sz, none⟩), _, fun w' _ => ?_, .bx o ver _ b hn' hver hb, h⟩
    generalize a.eval = ρ at hv hey
    simp only [execOp, hv, hey]
    simp [Instr.indexAt, asIntOf, run_underlying hu, hn, (tyOf_info ht w').1, Addr.add_lit]
theorem aq_fieldAddr_bx {t : TypeId} {x : Operand} {f off sz : Nat} {agg : Bool} {o ver q : Nat} (hx : aeval N s x = .bx o ver q) (hf : fieldOf E.P t f = some (off, sz, agg)) (hsz : Nat.beq sz 0 = false)
    (h : AQ E N ops rest K (s.put d (.bx o ver (q + off)))) : AQ E N ops (⟨d, .fieldAddr t x f, T, p, af, none⟩ :: rest) K s := by
  refine aq_op rfl nofun fun B0 w0 G a w _ hI => ?_
  have he := hI.eval_of hx
  generalize hv : a.eval x = v at he
  cases he with
  | bx _ _ _ b hn hv' hb =>
    have hs : sz ≠ 0 := fun e => by subst e; simp at hsz
    exact ⟨_, _, fun w' _ => by simp only [execOp, hv]; simp [run_fieldAt hf hs], .bx o ver _ b hn hv' hb, h⟩
theorem aq_fieldAddr_pp {t : TypeId} {x : Operand} {f off sz : Nat} {agg : Bool} {cs : List AV} (hx : aeval N s x = .pp cs) (hf : fieldOf E.P t f = some (off, sz, agg)) (hsz : Nat.beq sz 0 = false) (hle : Nat.ble off cs.length = true)
    (h : AQ E N ops rest K (s.put d (.pp (cs.drop off)))) : AQ E N ops (⟨d, .fieldAddr t x f, T, p, af, none⟩ :: rest) K s := by
  refine aq_op rfl nofun fun B0 w0 G a w _ hI => ?_
  have he := hI.eval_of hx
  generalize hv : a.eval x = v at he
  cases he with
  | pp _ b q pub hp hlen hrel =>
    have hs : sz ≠ 0 := fun e => by subst e; simp at hsz
    have ho : off ≤ cs.length := Nat.le_of_ble_eq_true hle
    refine ⟨.pointer (some ⟨b, q + off, none⟩), _, fun w' _ => by simp only [execOp, hv]; simp [run_fieldAt hf hs], ?_, h⟩
    exact .pp _ b (q + off) pub hp (by simp; omega) fun i x y h1 h2 => hrel (off + i) x y (by simpa using h1) (by rw [← h2]; congr 1; omega)
theorem aq_load_pp {x : Operand} {t : TypeId} {sz : Nat} {agg : Bool} {cs : List AV} {r : AV} (hx : aeval N s x = .pp cs) (ht : tyOf E.P t = some (sz, agg)) (hr : aloadC sz agg 0 cs = some r)
    (h : AQ E N ops rest K (s.put d r)) : AQ E N ops (⟨d, .load t x, T, p, af, none⟩ :: rest) K s := by
  refine aq_op rfl nofun fun B0 w0 G a w _ hI => ?_
  have he := hI.eval_of hx
  generalize hv : a.eval x = v at he
  cases he with
  | pp _ b off pub hp hlen hrel =>
    obtain ⟨c, T', fz, hc, hcc⟩ := hI.agree.pub b pub hp
    have hlt : b < w.heap.size := hI.agree.pub_lt hp
    have key : ∀ w', Below w.heap.size w w' → ∃ v, (loadVar t ⟨b, off, none⟩).run E.P w' = .ok v w' ∧ Rel G r v := fun w' hw' => by
      have h4' : w'.heap[b]? = some (.cells c T' fz) := by rw [hw'.block _ hlt]; exact hc
      exact run_loadVar_of (w := w') (G := G) (b := b) (off := off) ht (fun i x hx _ => by
        have hi := lt_of_getElem? hx
        have hy : pub[off + i]? = some (pub[off + i]'(by omega)) := List.getElem?_eq_getElem (by omega)
        refine ⟨_, ?_, hrel i x _ hx hy⟩
        simp [World.cell?, h4', hcc _ _ hy]) hr
    have hg : ∀ w', Below w.heap.size w w' → ∀ j, j < cs.length → w'.cell? ⟨b, off + j, none⟩ = some (pub.getD (off + j) undef) := fun w' hw' j hj => by
      have h4' : w'.heap[b]? = some (.cells c T' fz) := by rw [hw'.block _ hlt]; exact hc
      have hlt2 : off + j < pub.length := by omega
      have hy : pub[off + j]? = some (pub.getD (off + j) undef) := by simp [List.getD, hlt2]
      simp [World.cell?, h4', hcc _ _ hy]
    have hsame : ∀ w', Below w.heap.size w w' → ∀ v, (loadVar t ⟨b, off, none⟩).run E.P w = .ok v w → (loadVar t ⟨b, off, none⟩).run E.P w' = .ok v w' := fun w' hw' v hr1 => by
      obtain ⟨i1, i2⟩ := tyOf_info ht w
      obtain ⟨j1, j2⟩ := tyOf_info ht w'
      obtain ⟨v', h1', _⟩ := key w' hw'
      rw [h1']
      congr 1
      cases agg with
      | false =>
        simp only [aloadC, cond_false] at hr
        have h0 := lt_of_getElem? hr
        have e1 := hg w (Below.refl _ _) 0 h0
        have e2 := hg w' hw' 0 h0
        rw [Nat.add_zero] at e1 e2
        simp [loadVar, i2, run_load, e1] at hr1
        simp [loadVar, j2, run_load, e2] at h1'
        rw [← h1', hr1]
      | true =>
        simp only [aloadC, cond_true] at hr
        cases hb2 : Nat.ble (0 + sz) cs.length with
        | false => rw [hb2] at hr; simp at hr
        | true =>
          have hle : 0 + sz ≤ cs.length := Nat.le_of_ble_eq_true hb2
          have l1 := run_loadCells (P := E.P) (w := w) ⟨b, off, none⟩ sz (fun j => pub.getD (off + j) undef) (fun j hj => by rw [Addr.add_lit]; exact hg w (Below.refl _ _) j (by omega))
          have l2 := run_loadCells (P := E.P) (w := w') ⟨b, off, none⟩ sz (fun j => pub.getD (off + j) undef) (fun j hj => by rw [Addr.add_lit]; exact hg w' hw' j (by omega))
          simp [loadVar, i1, i2, l1] at hr1
          simp [loadVar, j1, j2, l2] at h1'
          rw [← h1', hr1]
    obtain ⟨v, hrun, hR⟩ := key w (Below.refl _ _)
    exact ⟨v, r, fun w' hw' => by simp only [execOp, hv, Instr.loadAt, Instr.sureAddr]; simp [hsame w' hw' v hrun], hR, h⟩
theorem aq_sub {x y : Operand} {t t' : TypeId} {k : IntKind} {m n r : Int} (hx : aeval N s x = .v (.int k m)) (hy : aeval N s y = .v (.int k n)) (hr : k.wrap (m - n) = r)
    (h : AQ E N ops rest K (s.put d (.v (.int k r)))) : AQ E N ops (⟨d, .binOp .sub t x y t', T, p, af, none⟩ :: rest) K s :=
  aq_scalar _ rfl nofun (fun a w he => by rw [← hr]; simp [execOp, he _ _ hx, he _ _ hy, eqGuard_at_int, binOp, Op.intArith]) h
theorem aq_span {x y z : Operand} {t : TypeId} {k k' : IntKind} {l : List UInt8} {i j : Nat} (hx : aeval N s x = Sv l) (hy : aeval N s y = .v (.int k' (i : Int))) (hz : aeval N s z = .v (.int k (j : Int))) (hu : E.P.underlying t = some .string) (h1 : i ≤ j) (h2 : j ≤ l.length)
    (h : AQ E N ops rest K (s.put d (Sv ((l.take j).drop i)))) : AQ E N ops (⟨d, .slice t x (some y) (some z) none, T, p, af, none⟩ :: rest) K s :=
  aq_slice (i := i) (j := j) hx hu ⟨_, hy⟩ ⟨_, hz⟩ (by omega) (by omega) (by omega) (by simpa using h)
theorem aq_lenL {x : Operand} {ts : Array TypeId} {t0 e : TypeId} {v : AV} {n : Nat} (hx : aeval N s x = v) (hl : lenA v = some n) (ht : ts[0]? = some t0) (hu : E.P.underlying t0 = some (.slice e))
    (h : AQ E N ops rest K (s.put d (Iv n))) : AQ E N ops (⟨d, .call ⟨.builtin .len, #[x], ts⟩, T, p, af, none⟩ :: rest) K s := by
  refine aq_op rfl nofun fun B0 w0 G a w _ hI => ?_
  have he := hI.eval_of hx
  have key : ∃ b c, a.eval x = .slice b n c := by
    generalize a.eval x = u at he
    cases he <;> simp [lenA] at hl
    case v y =>
      cases u <;> simp at hl
      subst hl
      exact ⟨_, _, rfl⟩
    case sl0 => subst hl; exact ⟨_, _, rfl⟩
    case sl => subst hl; exact ⟨_, _, rfl⟩
    case os => subst hl; exact ⟨_, _, rfl⟩
  obtain ⟨b, c, hv⟩ := key
  refine ⟨.int .i64 n, Iv n, fun w' _ => ?_, .v _, h⟩
  generalize a.eval = ρ at hv
  simp [execOp, resolve, invoke, builtin, Builtin.len_, hv, ht, run_underlying hu, goInt]
theorem aq_load_mid {x : Operand} {t : TypeId} {sz : Nat} {agg : Bool} {st loc ext new : List AObj} {k ver off : Nat} {T' : TypeId} {cs : List AV} {r : AV} (hs : s.st = ((st ++ loc) ++ ext) ++ new) (hx : aeval N s x = .bx (st.length + k) ver off) (ho : loc[k]? = some (.cells ver T' cs)) (ht : tyOf E.P t = some (sz, agg)) (hr : aloadC sz agg off cs = some r)
    (h : AQ E N ops rest K (s.put d r)) : AQ E N ops (⟨d, .load t x, T, p, af, none⟩ :: rest) K s :=
  aq_load_bx hx (by rw [hs]; exact get_mid ho) ht hr h
end
end Go.Av
