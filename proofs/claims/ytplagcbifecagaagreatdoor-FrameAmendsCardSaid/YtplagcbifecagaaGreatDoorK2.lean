/- Contracts and plain facts that the closing text leans on (part 2). No condition of their own beyond those that each states. -/
import Derived.Test.YtplagcbifecagaaGreatDoorK1
import Derived.Laws.Tables
import Derived.Test.YtplagcbifecagaaGreatDoorSh
import Derived.Test.YtplagcbifecagaaGreatDoorRows
import Derived.LaidHandle
import Derived.ProofKit
import Derived.OpenShut
import Derived.ShutString
import Derived.Deep.DeepHandedRow
import Derived.Deep.DeepWitnessRowRef
import Derived.Lib.LaidU8
import Derived.Lib.SmallJoins
import Derived.ChangeSame
import Derived.ChangeAgain
import Derived.Lay
import Derived.Lib.Index
import Derived.Lib.SlTrimSet
import Derived.Shelf.Strings.Prefix
import Derived.Shelf.Strings.Cut
import Derived.Lib.ItoaNum
import Derived.Lib.AtoiAll
import Derived.Lib.Repeat
set_option maxRecDepth 100000
set_option linter.unusedVariables false
set_option linter.unusedSimpArgs false
set_option linter.unusedVariables false
namespace Go.Av
open Go Go.RowKit
theorem fold_set : ∀ (vs : List Value) (off n : Nat) (c : Array Value), off + n + vs.length ≤ c.size →
    ((vs.zipIdx n).foldl (fun (cs : Array Value) (x : Value × Nat) => cs.setIfInBounds (off + x.2) x.1) c).size = c.size ∧
    ∀ k, ((vs.zipIdx n).foldl (fun (cs : Array Value) (x : Value × Nat) => cs.setIfInBounds (off + x.2) x.1) c)[k]? = if off + n ≤ k ∧ k < off + n + vs.length then vs[k - (off + n)]? else c[k]?
  | [], off, n, c, _ => ⟨by simp, fun k => by simp; intro h1 h2; omega⟩
  | v :: vs, off, n, c, h => by
    simp only [List.zipIdx_cons, List.foldl_cons, List.length_cons] at h ⊢
    obtain ⟨h1, h2⟩ := fold_set vs off (n + 1) (c.setIfInBounds (off + n) v) (by simp; omega)
    refine ⟨by rw [h1]; simp, fun k => ?_⟩
    rw [h2 k]
    by_cases hk : k = off + n
    · subst hk
      rw [if_neg (by omega), if_pos (by omega), Array.getElem?_setIfInBounds_self, if_pos (by omega)]
      simp
    · by_cases hr : off + n ≤ k ∧ k < off + n + (vs.length + 1)
      · rw [if_pos (by omega), if_pos hr]
        rw [show k - (off + n) = (k - (off + (n + 1))) + 1 by omega]
        simp
      · rw [if_neg (by omega), if_neg hr]
        rw [Array.getElem?_setIfInBounds, if_neg (by omega)]
def fillA (place : Nat → Option (Nat × Nat)) (cells : List AV) : List (Nat × AV) → Option (List AV)
  | [] => some cells
  | (i, x) :: rest =>
    match place i with
    | none => none
    | some (off, size) => bif x.okc && Nat.beq x.cells.length size && Nat.ble (off + size) cells.length then fillA place (splice cells off x.cells) rest else none
theorem fill_rel {G : Gh} (place : Nat → Option (Nat × Nat)) : ∀ (ps : List (Nat × AV)) (vs : List (Nat × Value)) (cs : List AV) (c : Array Value) (cs' : List AV), ps.length = vs.length → (∀ (i : Nat) (p : Nat × AV) (v : Nat × Value), ps[i]? = some p → vs[i]? = some v → p.1 = v.1 ∧ Rel G p.2 v.2) →
    RelC G cs c → fillA place cs ps = some cs' → ∃ c', Instr.fill place c vs = some c' ∧ RelC G cs' c'
  | [], [], cs, c, cs', _, _, hc, h => by
    simp only [fillA, Option.some.injEq] at h
    subst h
    exact ⟨c, rfl, hc⟩
  | [], v :: vs, _, _, _, hl, _, _, _ => by simp at hl
  | p :: ps, [], _, _, _, hl, _, _, _ => by simp at hl
  | (i, x) :: ps, (j, v) :: vs, cs, c, cs', hl, hr, hc, h => by
    obtain ⟨e, hx⟩ := hr 0 _ _ rfl rfl
    simp only at e hx
    subst e
    simp only [fillA] at h
    simp only [Instr.fill]
    cases hp : place i with
    | none => simp [hp] at h
    | some q =>
      obtain ⟨off, size⟩ := q
      simp only [hp] at h ⊢
      cases hb : (x.okc && Nat.beq x.cells.length size && Nat.ble (off + size) cs.length) with
      | false => simp [hb] at h
      | true =>
        simp only [hb, cond_true] at h
        simp only [Bool.and_eq_true] at hb
        obtain ⟨⟨hok, hsz⟩, hle⟩ := hb
        have hsz := Nat.eq_of_beq_eq_true hsz
        have hle := Nat.le_of_ble_eq_true hle
        have hcx := hx.cells hok
        have hcs : v.cells.size = size := by rw [← hcx.1]; exact hsz
        have hfit : off + v.cells.size ≤ c.size := by rw [hcs, ← hc.1]; exact hle
        rw [if_neg (by simp [hcs]; rw [← hc.1]; exact hle)]
        have hfold : v.cells.zipIdx.foldl (fun cs (x : Value × Nat) => cs.setIfInBounds (off + x.2) x.1) c = (v.cells.toList.zipIdx 0).foldl (fun (cs : Array Value) (x : Value × Nat) => cs.setIfInBounds (off + x.2) x.1) c := by
          rw [← Array.foldl_toList, Array.toList_zipIdx]
        obtain ⟨g1, g2⟩ := fold_set v.cells.toList off 0 c (by simpa using hfit)
        have hnew : RelC G (splice cs off x.cells) ((v.cells.toList.zipIdx 0).foldl (fun (cs : Array Value) (x : Value × Nat) => cs.setIfInBounds (off + x.2) x.1) c) := by
          refine ⟨?_, fun k a y h1 h2 => ?_⟩
          · rw [g1, ← hc.1]
            simp [splice]
            omega
          · rw [g2] at h2
            have e1 : (cs.take off).length = off := by simp; omega
            simp only [splice, List.append_assoc] at h1
            by_cases hk : k < off
            · rw [List.getElem?_append_left (by omega), List.getElem?_take, if_pos hk] at h1
              rw [if_neg (by omega)] at h2
              exact hc.2 k a y h1 h2
            · rw [List.getElem?_append_right (by omega), e1] at h1
              by_cases hk2 : k - off < x.cells.length
              · rw [List.getElem?_append_left hk2] at h1
                rw [if_pos ⟨by omega, by simp; omega⟩] at h2
                exact hcx.2 (k - off) a y h1 (by simpa using h2)
              · rw [List.getElem?_append_right (by omega), List.getElem?_drop] at h1
                rw [if_neg (by simp; omega)] at h2
                rw [show off + x.cells.length + (k - off - x.cells.length) = k by omega] at h1
                exact hc.2 k a y h1 h2
        have := fill_rel place ps vs _ _ cs' (by simpa using hl) (fun i p v h1 h2 => hr (i + 1) p v (by simpa using h1) (by simpa using h2)) hnew h
        rw [← hfold] at this
        exact this
section
variable {E : Env} {rd : Option Nat} {N : Nat} {ops : Array Oper} {K : AS → Prop} {s : AS} {rest : List Oper} {d : Option Tmp} {T : TypeId} {p : String} {af : Array Edge}
def partsA (N : Nat) (s : AS) (parts : Array (Nat × Operand)) : List (Nat × AV) := parts.toList.map fun x => (x.1, aeval N s x.2)
def placesA (P : Program) (t : TypeId) : Option (List (Nat × Nat)) :=
  match P.underlying t with
  | some (.struct fs) => fs.toList.mapM (fun f => (P.info? f.type).map fun i => (f.offset, i.size))
  | _ => none
theorem parts_rel {B0 : Nat} {w0 : World} {G : Gh} {a : Act} {w : World} (hI : Inv B0 w0 N G s a w) (parts : Array (Nat × Operand)) : ∀ (i : Nat) (p : Nat × AV) (v : Nat × Value), (partsA N s parts)[i]? = some p → (parts.toList.map fun x => (x.1, a.eval x.2))[i]? = some v → p.1 = v.1 ∧ Rel G p.2 v.2 := fun i p v h1 h2 => by
  simp only [partsA, List.getElem?_map] at h1 h2
  cases hq : parts.toList[i]? with
  | none => simp [hq] at h1
  | some z => simp [hq] at h1 h2; subst h1; subst h2; exact ⟨rfl, hI.eval _⟩
theorem aops_build {t : TypeId} {parts : Array (Nat × Operand)} {zs cs : List AV} {pl : List (Nat × Nat)} (hz : zeroA E.P t = some zs) (hp : placesA E.P t = some pl) (hf : fillA (pl[·]?) zs (partsA N s parts) = some cs)
    (h : AOps E rd N ops rest K (s.put d (.ag cs))) : AOps E rd N ops (⟨d, .build t parts, T, p, af, none⟩ :: rest) K s := by
  refine aops_cons rfl (aop_of_run nofun fun B0 w0 G a w _ hI => ?_)
  obtain ⟨z, hrun, hr⟩ := zeroA_run hz w
  obtain ⟨c', h1, h2⟩ := fill_rel (pl[·]?) (partsA N s parts) (parts.toList.map fun x => (x.1, a.eval x.2)) zs z.cells cs (by simp [partsA]) (parts_rel hI parts) (hr G) hf
  unfold placesA at hp
  split at hp
  · rename_i fs hu
    refine ⟨.agg c', w, G, .ag cs, s.st, ?_, .refl G, hI.agree, .ag _ _ h2.1 h2.2, h⟩
    generalize a.eval = ρ at h1
    simp [execOp, Instr.build, run_underlying hu, hrun, Array.mapM_eq_mapM_toList, run_places w _ _ hp, h1]
  · simp at hp
def zerosA (P : Program) (e : TypeId) (n : Nat) : Option (List AV) :=
  match P.info? e with
  | some i => bif Nat.beq (n * i.size) 0 then some [] else i.zero.map fun z => (List.range (n * i.size)).map fun k => .v (z.cells[k % z.cells.size]!)
  | none => none
theorem buildSlice_run {B0 : Nat} {w0 : World} {G : Gh} {a : Act} {w : World} (hI : Inv B0 w0 N G s a w) {t e : TypeId} {len sz : Nat} {agg : Bool} {parts : Array (Nat × Operand)} {zs cs : List AV} (hu : E.P.underlying t = some (.slice e)) (ht : tyOf E.P e = some (sz, agg)) (hz : zerosA E.P e len = some zs)
    (hf : fillA (fun i => some (i * sz, sz)) zs (partsA N s parts) = some cs) (hsz : Nat.ble (len * sz) 16777216 = true) :
    ∃ c' : Array Value, (execOp a.eval ⟨d, .buildSlice t len parts, T, p, af, none⟩).run E.P w = .ok (.value (.slice (some ⟨w.heap.size, 0, none⟩) len len)) (w.alloc (.cells c' e)) ∧ RelC G cs c' := by
  have hsizeOf := (tyOf_info ht w).1
  have hsz := Nat.le_of_ble_eq_true hsz
  unfold zerosA at hz
  cases hi : E.P.info? e with
  | none => rw [hi] at hz; simp at hz
  | some i =>
    rw [hi] at hz
    simp only at hz
    have hs : i.size = sz := by simpa [sizeOf, typeInfo, hi] using hsizeOf
    rw [hs] at hz
    -- the array that the run starts from
    have key : ∃ c0 : Array Value, RelC G zs c0 ∧ ∀ (Q : Array Value → Sem Value), ((do
        let zero ← if len * sz = 0 then pure #[] else do pure (← zeroValue e).cells
        Q ((Array.range (len * sz)).map (zero[· % zero.size]!)) : Sem Value)).run E.P w = (Q c0).run E.P w := by
      by_cases h0 : len * sz = 0
      · rw [h0] at hz
        simp at hz
        subst hz
        exact ⟨#[], ⟨rfl, by simp⟩, fun Q => by have e : Array.range 0 = #[] := by simp [Array.range]
                                                simp [h0, e]⟩
      · have : Nat.beq (len * sz) 0 = false := beq_ne h0
        rw [this] at hz
        simp only [cond_false] at hz
        cases hzr : i.zero with
        | none => rw [hzr] at hz; simp at hz
        | some z =>
          rw [hzr] at hz
          simp only [Option.map_some, Option.some.injEq] at hz
          subst hz
          refine ⟨(Array.range (len * sz)).map (z.cells[· % z.cells.size]!), ⟨by simp, fun k x y h1 h2 => ?_⟩, fun Q => by simp [h0, zeroValue, typeInfo, hi, hzr]⟩
          have hk : k < len * sz := by have := lt_of_getElem? h1; simpa using this
          simp [hk] at h1 h2
          subst h1; subst h2
          exact .v _
    obtain ⟨c0, hc0, hrun0⟩ := key
    obtain ⟨c', h1, h2⟩ := fill_rel (fun i => some (i * sz, sz)) (partsA N s parts) (parts.toList.map fun x => (x.1, a.eval x.2)) zs c0 cs (by simp [partsA]) (parts_rel hI parts) hc0 hf
    refine ⟨c', ?_, h2⟩
    · generalize a.eval = ρ at h1
      have hb : ¬ 16777216 < len * sz := by omega
      have hg : ∃ m : String, (execOp ρ ⟨d, .buildSlice t len parts, T, p, af, none⟩).run E.P w = (((do
        let zero ← if len * sz = 0 then pure #[] else do pure (← zeroValue e).cells
        (fun c => (do
        let some cells := Instr.fill (fun i => some (i * sz, sz)) c (parts.map fun x => (x.1, ρ x.2)).toList | stuck m
        pure (Value.slice (some (← newRow e cells)) len len) : Sem Value)) ((Array.range (len * sz)).map (zero[· % zero.size]!)) : Sem Value)).run E.P w).andThen fun v w' => .ok (.value v) w' := by
        apply Exists.intro
        simp only [execOp, Instr.buildSlice]
        simp [run_underlying hu, hsizeOf, hb]
        rfl
      obtain ⟨m, hg⟩ := hg
      have hQ := hrun0 (fun c => do
        let some cells := Instr.fill (fun i => some (i * sz, sz)) c (parts.map fun x => (x.1, ρ x.2)).toList | stuck m
        pure (.slice (some (← newRow e cells)) len len))
      rw [hg, hQ]
      simp [h1, newRow, newObj, Sem.run]
theorem aops_buildSlice {t e : TypeId} {len sz : Nat} {agg : Bool} {parts : Array (Nat × Operand)} {zs cs xs : List AV} (hu : E.P.underlying t = some (.slice e)) (ht : tyOf E.P e = some (sz, agg)) (hz : zerosA E.P e len = some zs)
    (hf : fillA (fun i => some (i * sz, sz)) zs (partsA N s parts) = some cs) (hxs : (partsA N s parts).map Prod.snd = xs) (hlen : xs.length = len) (hfl : flat xs = cs) (hw : xs.all (fun x => Nat.beq x.cells.length sz) = true) (hsz : Nat.ble (len * sz) 16777216 = true)
    (h : AOps E rd N ops rest K (s.put d (.sl sz xs none))) : AOps E rd N ops (⟨d, .buildSlice t len parts, T, p, af, none⟩ :: rest) K s := by
  refine aops_cons rfl (aop_of_run nofun fun B0 w0 G a w _ hI => ?_)
  obtain ⟨c', hrun, h2⟩ := buildSlice_run (d := d) (T := T) (p := p) (af := af) hI hu ht hz hf hsz
  obtain ⟨hle, hA⟩ := hI.agree.newPub e c' (0, 0) c'.toList (fun i y hy => by simpa using hy)
  refine ⟨.slice (some ⟨w.heap.size, 0, none⟩) len len, w.alloc (.cells c' e), _, .sl sz xs none, s.st, hrun, hle, hA, ?_, h⟩
  rw [← hlen]
  cases xs with
  | nil => exact .sl0 sz none _ _ (by simp)
  | cons x0 xr =>
    refine .sl sz _ none w.heap.size 0 _ c'.toList (by simp [Gh.publish]) (fun x hx => ?_) (by rw [hfl, h2.1]; simp) (fun k x y g1 g2 => ?_) (fun t ht => by simp at ht) (Nat.le_refl _)
    · exact Nat.eq_of_beq_eq_true (List.all_eq_true.1 hw x hx)
    · rw [hfl] at g1
      exact (h2.2 k x y g1 (by simpa using g2)).mono hle
end
end Go.Av
set_option linter.unusedVariables false
namespace Go.Av
open Go Go.RowKit
inductive KeptL (n : Nat) : List AObj → List AObj → Prop
  | nil : KeptL n [] []
  | same {l l' : List AObj} (x : AObj) (h : KeptL n l l') : KeptL n (x :: l) (x :: l')
  | cut {l l' : List AObj} {x x' : AObj} (hx : CutOb n x') (h : KeptL n l l') : KeptL n (x :: l) (x' :: l')
  | loop {l l' : List AObj} {ls ls' : LoopState} {pend pend' : Option Code} {N : Nat} {t : Nat → AV} {ps : Array Tmp} {asg body : Code} (h : KeptL n l l') : KeptL n (.loop ls pend N t ps asg body :: l) (.loop ls' pend' N t ps asg body :: l')
theorem keptL_refl (n : Nat) : ∀ l, KeptL n l l
  | [] => .nil
  | x :: l => .same x (keptL_refl n l)
theorem keptL_pre {n : Nat} {l l' : List AObj} (h : KeptL n l l') : ∀ st, KeptL n (st ++ l) (st ++ l')
  | [] => h
  | x :: st => .same x (keptL_pre h st)
theorem KeptL.length {n : Nat} {l l' : List AObj} (h : KeptL n l l') : l'.length = l.length := by
  induction h with
  | nil => rfl
  | _ => simpa
theorem KeptL.get {n : Nat} {l l' : List AObj} (h : KeptL n l l') (hc : ∀ (o : Nat) (x : AObj), l[o]? = some x → CutOb n x) : ∀ (o : Nat) (x : AObj), l'[o]? = some x → CutOb n x := by
  induction h with
  | nil => exact hc
  | same y h ih =>
    intro o x hx
    cases o with
    | zero => exact hc 0 x hx
    | succ o => exact ih (fun o x h => hc (o + 1) x h) o x (by simpa using hx)
  | cut hx' h ih =>
    intro o x hx
    cases o with
    | zero => simp at hx; subst hx; exact hx'
    | succ o => exact ih (fun o x h => hc (o + 1) x h) o x (by simpa using hx)
  | loop h ih =>
    intro o x hx
    cases o with
    | zero => simp at hx; subst hx; have h0 := hc 0 _ rfl; exact h0
    | succ o => exact ih (fun o x h => hc (o + 1) x h) o x (by simpa using hx)
theorem ayield_retL {E : Env} {o : Nat} {xs : List AV} {st : List AObj} {R : Bool → List AObj → Prop}
    (h : AYield E o xs st fun b st2 => ∃ st1 ext, st2 = st1 ++ ext ∧ KeptL st.length st st1 ∧ R b st1) : AYield E o xs st R := by
  refine ⟨fun B0 w0 G vals w hL hA hR => ?_⟩
  obtain ⟨f, tmps, asg, body, h1, h2⟩ := h.run B0 w0 G vals w hL hA hR
  refine ⟨f, tmps, asg, body, h1, h2.mono ?_⟩
  rintro e w' ⟨b, G', st2, he, hG, hA', st1, ext, rfl, hk, hRR⟩
  have hle := hG.cut
  rw [hA.n] at hle
  refine ⟨b, G'.cut st.length, st1, he, hle, ?_, hRR⟩
  have hd := hk.get (fun o x hx => hA.cutOb hx)
  have hl := hk.length
  rw [← hl] at hd ⊢
  exact hA'.drop hd
theorem cutOb_cells {n ver : Nat} {T : TypeId} {cs : List AV} (h : ∀ x ∈ cs, Cut n x) : CutOb n (.cells ver T cs) := h
theorem cutOb_tip {n a b : Nat} {T : TypeId} : CutOb n (.tip a b T) := trivial
theorem cut_bx {n o ver off : Nat} (h : o < n) : Cut n (.bx o ver off) := cut_of_low (.bx o ver off h)
theorem cut_bytes {n tp : Nat} {l : List UInt8} (h : tp < n) : Cut n (.sl 1 (l.map fun c => .v (.int .u8 (c.toNat : Nat))) (some tp)) := by
  refine cut_of_low (.sl 1 _ _ (fun i x hx => ?_) (fun t ht => by simp at ht; omega))
  have := flat_bytes l
  rw [this] at hx
  simp only [List.getElem?_map] at hx
  cases hq : l[i]? with
  | none => simp [hq] at hx
  | some c => simp [hq] at hx; subst hx; exact .v _
def LoopF (F : LoopState → Option Code → AObj) (N : Nat) (t : Nat → AV) (ps : Array Tmp) (asg body : Code) : Prop := ∀ ls pend, F ls pend = AObj.loop ls pend N t ps asg body
theorem keptF {n : Nat} {l l' : List AObj} {F : LoopState → Option Code → AObj} {ls ls' : LoopState} {pend pend' : Option Code} {N : Nat} {t : Nat → AV} {ps : Array Tmp} {asg body : Code} (hF : LoopF F N t ps asg body) (h : KeptL n l l') : KeptL n (F ls pend :: l) (F ls' pend' :: l') := by
  rw [hF, hF]
  exact .loop h
@[reducible] def roundF (o : Nat) (F : LoopState → Option Code → AObj) (R : Bool → List AObj → Prop) : Exit → AS → Prop
  | .normal, s => s.st[o]? = some (F .busy none) ∧ R true (s.st.set o (F .ready none))
  | .ret, s => s.st[o]? = some (F .busy none) ∧ R false (s.st.set o (F .done (some .ret)))
  | .exit id, s => s.st[o]? = some (F .busy none) ∧ R false (s.st.set o (F .done (some (.exit id))))
  | _, _ => False
theorem ayield_F {E : Env} {o N : Nat} {t : Nat → AV} {ps : Array Tmp} {asg body : Code} {st : List AObj} {R : Bool → List AObj → Prop} {xs : List AV} {F : LoopState → Option Code → AObj} (hF : LoopF F N t ps asg body) (ho : st[o]? = some (F .ready none)) (hps : ps.size = xs.length)
    (h : ∀ l, AWp E (some l) N asg (only fun s1 => s1.st[o]? = some (F .ready none) ∧ s1.df = [] ∧ AWp E (some l) N body (roundF o F R) ⟨s1.t, s1.st.set o (F .busy none), []⟩) ⟨setPs t (ps.toList.zip xs), st, []⟩) : AYield E o xs st R := by
  refine ayield_body (N := N) (t := t) (ps := ps) (asg := asg) (body := body) (by rw [ho, hF]) hps fun l => (h l).mono fun e s1 hq => ?_
  cases e with
  | normal =>
    obtain ⟨h1, h2, h3⟩ := hq
    refine ⟨by rw [h1, hF], h2, ?_⟩
    rw [hF] at h3
    refine h3.mono fun e s2 hq2 => ?_
    cases e with
    | normal => obtain ⟨k1, k2⟩ := hq2; exact ⟨by rw [k1, hF], by rw [hF] at k2; exact k2⟩
    | ret => obtain ⟨k1, k2⟩ := hq2; exact ⟨by rw [k1, hF], by rw [hF] at k2; exact k2⟩
    | exit id => obtain ⟨k1, k2⟩ := hq2; exact ⟨by rw [k1, hF], by rw [hF] at k2; exact k2⟩
    | _ => exact hq2.elim
  | _ => exact hq.elim
theorem awp_rangeF {E : Env} {N : Nat} {Q : Exit → AS → Prop} {s : AS} {f : Operand} {ps : Array Tmp} {asg body : Code} {st loc : List AObj} {g : FuncId} {fs cs : List AV} (hst : s.st = st ++ loc) (hx : aeval N s f = .fn (.func g) fs cs)
    (hrun : ∀ vs w, (callFunc g vs).run E.P w = .ok (.enter g vs) w)
    (h : ∀ F, LoopF F N s.t ps asg body → ACall E g (fs ++ [.yd (st.length + (loc.length + 1))] ++ cs) (st ++ (loc ++ [.dfr, F .ready none])) fun _ st' => ∃ ls pend, ls ≠ LoopState.busy ∧ st'[st.length + (loc.length + 1)]? = some (F ls pend) ∧
      match pend with
      | none => Q .normal ⟨s.t, st'.set (st.length + (loc.length + 1)) .dead, (st.length + loc.length) :: s.df⟩
      | some c => AWp E none N c Q ⟨s.t, st'.set (st.length + (loc.length + 1)) .dead, (st.length + loc.length) :: s.df⟩) : AWp E none N (.rangeFunc f ps asg body) Q s :=
  awp_rangeFunc hst hx hrun ((h (fun ls pend => .loop ls pend N s.t ps asg body) (fun _ _ => rfl)).mono fun _ _ ⟨ls, pend, h1, h2, h3⟩ => ⟨ls, pend, h1, h2, h3⟩)
theorem awp_state {E : Env} {rd : Option Nat} {N : Nat} {c : Code} {Q : Exit → AS → Prop} {s : AS} (L : List (Nat × AV)) (st' : List AObj) (df' : List Nat) (h : HasL s.t L) (hst : s.st = st') (hdf : s.df = df') (k : ∀ t, AWp E rd N c Q ⟨puts t L, st', df'⟩) : AWp E rd N c Q s := by
  have := k s.t
  rw [puts_of h, ← hst, ← hdf] at this
  exact this
theorem load_bx_run {E : Env} {B0 : Nat} {w0 : World} {N : Nat} {G : Gh} {s : AS} {a : Act} {w : World} (hI : Inv B0 w0 N G s a w) {x : Operand} {t : TypeId} {sz : Nat} {agg : Bool} {o ver off : Nat} {T' : TypeId} {cs : List AV} {r : AV} (hx : aeval N s x = .bx o ver off) (ho : s.st[o]? = some (.cells ver T' cs)) (ht : tyOf E.P t = some (sz, agg)) (hr : aloadC sz agg off cs = some r) :
    ∃ b v, a.eval x = .pointer (some ⟨b, off, none⟩) ∧ (loadVar t ⟨b, off, none⟩).run E.P w = .ok v w ∧ Rel G r v := by
  have he := hI.eval_of hx
  generalize hv : a.eval x = v at he
  cases he with
  | bx _ _ _ b hn hv' hb =>
    obtain ⟨_, h1, h2, h3, c, h4, h5, h6⟩ := hI.agree.ob o _ ho
    have hb := hb h1
    rw [hb] at h4
    obtain ⟨v, hrun, hR⟩ := run_loadVar_of (w := w) (G := G) (b := b) (off := off) (off' := off) ht (fun i x hx hi => by
      obtain ⟨y, hy⟩ := get_of_size hx (Nat.le_of_eq h5)
      refine ⟨y, ?_, h6 i x y hx hy⟩
      simp [World.cell?, h4, show off + (i - off) = i by omega, hy]) hr
    exact ⟨b, v, rfl, hrun, hR⟩
theorem ares_cell2 {E : Env} {fn : Func} {s : AS} {t u : Tmp} {Ta Tb : TypeId} {o1 v1 f1 sz1 : Nat} {agg1 : Bool} {T1 : TypeId} {cs1 : List AV} {r1 : AV} {o2 v2 f2 sz2 : Nat} {agg2 : Bool} {T2 : TypeId} {cs2 : List AV} {r2 : AV} (hr : fn.results = #[.cell t Ta, .cell u Tb])
    (hx1 : aeval fn.ntmps s (.tmp t) = .bx o1 v1 f1) (ho1 : s.st[o1]? = some (.cells v1 T1 cs1)) (ht1 : tyOf E.P Ta = some (sz1, agg1)) (hl1 : aloadC sz1 agg1 f1 cs1 = some r1)
    (hx2 : aeval fn.ntmps s (.tmp u) = .bx o2 v2 f2) (ho2 : s.st[o2]? = some (.cells v2 T2 cs2)) (ht2 : tyOf E.P Tb = some (sz2, agg2)) (hl2 : aloadC sz2 agg2 f2 cs2 = some r2) : ARes E fn s (.tu [r1, r2]) := by
  refine ⟨fun B0 w0 G a w _ hI => ?_⟩
  obtain ⟨b1, y1, e1, e2, e3⟩ := load_bx_run hI hx1 ho1 ht1 hl1
  obtain ⟨b2, y2, k1, k2, k3⟩ := load_bx_run hI hx2 ho2 ht2 hl2
  simp only [Act.eval, Array.getD_eq_getD_getElem?] at e1 k1
  refine ⟨.tuple #[y1, y2], ?_, rel_tu2 e3 k3⟩
  simp [results, hr, e1, k1, asAddr, e2, k2]
theorem aret_mark_loc {E : Env} {fn : Func} {R : AV → List AObj → Prop} {s : AS} {st loc : List AObj} {k : Nat} {ds : List Nat} (hs : s.st = st ++ loc) (hd : s.df = (st.length + k) :: ds) (ho : loc[k]? = some .dfr) (h : ARet E fn R ⟨s.t, st ++ loc.set k .dead, ds⟩) : ARet E fn R s :=
  aret_mark hd (by rw [hs]; exact get_loc ho) (by rw [hs, set_loc]; exact h)
theorem ares_cell2_loc {E : Env} {fn : Func} {s : AS} {t u : Tmp} {Ta Tb : TypeId} {st loc : List AObj} {k1 v1 f1 sz1 : Nat} {agg1 : Bool} {T1 : TypeId} {cs1 : List AV} {r1 : AV} {k2 v2 f2 sz2 : Nat} {agg2 : Bool} {T2 : TypeId} {cs2 : List AV} {r2 : AV} (hr : fn.results = #[.cell t Ta, .cell u Tb]) (hs : s.st = st ++ loc)
    (hx1 : aeval fn.ntmps s (.tmp t) = .bx (st.length + k1) v1 f1) (ho1 : loc[k1]? = some (.cells v1 T1 cs1)) (ht1 : tyOf E.P Ta = some (sz1, agg1)) (hl1 : aloadC sz1 agg1 f1 cs1 = some r1)
    (hx2 : aeval fn.ntmps s (.tmp u) = .bx (st.length + k2) v2 f2) (ho2 : loc[k2]? = some (.cells v2 T2 cs2)) (ht2 : tyOf E.P Tb = some (sz2, agg2)) (hl2 : aloadC sz2 agg2 f2 cs2 = some r2) : ARes E fn s (.tu [r1, r2]) :=
  ares_cell2 hr hx1 (by rw [hs]; exact get_loc ho1) ht1 hl1 hx2 (by rw [hs]; exact get_loc ho2) ht2 hl2
end Go.Av
set_option linter.unusedVariables false
namespace Go.Av
open Go Go.RowKit
@[reducible] def Wv (x : BitVec 32) : AV := .v (.int .u32 (x.toNat : Nat))
theorem wrap_u32 (n : Nat) : IntKind.u32.wrap (n : Int) = ((n % 4294967296 : Nat) : Int) := by
  simp [IntKind.wrap, IntKind.bits, IntKind.signed]
theorem ofInt_toNat (x : BitVec 32) : BitVec.ofInt 32 (x.toNat : Int) = x := by
  rw [BitVec.ofInt_natCast, BitVec.ofNat_toNat]
  simp
theorem wrap_toNat (x : BitVec 32) : IntKind.u32.wrap (x.toNat : Int) = (x.toNat : Int) := by
  rw [wrap_u32, Nat.mod_eq_of_lt x.isLt]
section
variable {E : Env} {rd : Option Nat} {N : Nat} {ops : Array Oper} {K : AS → Prop} {s : AS} {rest : List Oper} {d : Option Tmp} {T : TypeId} {p : String} {af : Array Edge}
theorem toNat_zero (x : BitVec 32) : ((x.toNat : Nat) : Int) = 0 ↔ x = 0#32 := by
  constructor
  · intro h
    apply BitVec.eq_of_toNat_eq
    simpa using h
  · rintro rfl
    rfl
theorem aops_xor32 {x y : Operand} {t t' : TypeId} {m n : Int} {a b : BitVec 32} (hx : aeval N s x = .v (.int .u32 m)) (hy : aeval N s y = .v (.int .u32 n)) (ha : BitVec.ofInt 32 m = a) (hb : BitVec.ofInt 32 n = b) (h : AOps E rd N ops rest K (s.put d (Wv (a ^^^ b)))) : AOps E rd N ops (⟨d, .binOp .xor t x y t', T, p, af, none⟩ :: rest) K s :=
  aops_xor hx hy (by subst ha; subst hb; simp only [bitOp, IntKind.bits]; rw [wrap_toNat]; rfl) h
theorem aops_and32 {x y : Operand} {t t' : TypeId} {m n : Int} {a b : BitVec 32} (hx : aeval N s x = .v (.int .u32 m)) (hy : aeval N s y = .v (.int .u32 n)) (ha : BitVec.ofInt 32 m = a) (hb : BitVec.ofInt 32 n = b) (h : AOps E rd N ops rest K (s.put d (Wv (a &&& b)))) : AOps E rd N ops (⟨d, .binOp .and t x y t', T, p, af, none⟩ :: rest) K s :=
  aops_and hx hy (by subst ha; subst hb; simp only [bitOp, IntKind.bits]; rw [wrap_toNat]; rfl) h
theorem aops_compl32 {x : Operand} {t : TypeId} {a : BitVec 32} (hx : aeval N s x = Wv a) (h : AOps E rd N ops rest K (s.put d (Wv (~~~ a)))) : AOps E rd N ops (⟨d, .unOp .xor t x, T, p, af, none⟩ :: rest) K s :=
  aops_compl hx (by
    simp only [bitOp, IntKind.bits, IntKind.signed, Bool.false_eq_true, if_false]
    rw [ofInt_toNat]
    have h1 : BitVec.ofInt 32 IntKind.u32.max = BitVec.allOnes 32 := by decide
    have h2 : BitVec.ofInt 32 IntKind.u32.max ^^^ a = ~~~ a := by rw [h1, BitVec.xor_comm, BitVec.xor_allOnes]
    exact (congrArg (fun z : BitVec 32 => IntKind.u32.wrap (z.toNat : Int)) h2).trans (wrap_toNat _)) h
theorem aops_shl32 {x y : Operand} {t t' : TypeId} {yk : IntKind} {a : BitVec 32} {n : Nat} (hx : aeval N s x = Wv a) (hy : aeval N s y = .v (.int yk (n : Int))) (hn : Nat.ble n 32 = true) (h : AOps E rd N ops rest K (s.put d (Wv (a <<< n)))) : AOps E rd N ops (⟨d, .binOp .shl t x y t', T, p, af, none⟩ :: rest) K s :=
  aops_shl hx hy (by omega) (by
    have hn := Nat.le_of_ble_eq_true hn
    have : min (n : Int).toNat IntKind.u32.bits = n := by simp [IntKind.bits]; omega
    rw [this]
    have e : (a.toNat : Int) * 2 ^ n = ((a.toNat * 2 ^ n : Nat) : Int) := by simp
    rw [e, wrap_u32, BitVec.toNat_shiftLeft, Nat.shiftLeft_eq]) h
theorem aops_shr32 {x y : Operand} {t t' : TypeId} {yk : IntKind} {a : BitVec 32} {n : Nat} (hx : aeval N s x = Wv a) (hy : aeval N s y = .v (.int yk (n : Int))) (hn : Nat.ble n 32 = true) (h : AOps E rd N ops rest K (s.put d (Wv (a >>> n)))) : AOps E rd N ops (⟨d, .binOp .shr t x y t', T, p, af, none⟩ :: rest) K s :=
  aops_shr hx hy (by omega) (by
    have hn := Nat.le_of_ble_eq_true hn
    have : min (n : Int).toNat IntKind.u32.bits = n := by simp [IntKind.bits]; omega
    rw [this, BitVec.toNat_ushiftRight, Nat.shiftRight_eq_div_pow]
    have h0 : (0 : Int) ≤ 2 ^ n := by
      have : ((2 ^ n : Nat) : Int) = (2 : Int) ^ n := by simp
      rw [← this]
      exact Int.natCast_nonneg _
    rw [Int.fdiv_eq_ediv_of_nonneg _ h0]
    simp) h
theorem aops_indexA {x y : Operand} {t e : TypeId} {len sz : Nat} {agg : Bool} {k : IntKind} {n : Nat} {cs : List AV} {r : AV} (hx : aeval N s x = .ag cs) (hy : aeval N s y = .v (.int k (n : Int))) (hu : E.P.underlying t = some (.array len e)) (ht : tyOf E.P e = some (sz, agg)) (hn : n < len) (hr : aloadC sz agg (n * sz) cs = some r)
    (h : AOps E rd N ops rest K (s.put d r)) : AOps E rd N ops (⟨d, .index t x y, T, p, af, none⟩ :: rest) K s := by
  refine aops_cons rfl (aop_of_run nofun fun B0 w0 G a w _ hI => ?_)
  have he := hI.eval_of hx
  have hey := hI.evalv hy
  generalize hv : a.eval x = v at he
  cases he with
  | ag _ vs hl hrel =>
    obtain ⟨i1, i2⟩ := tyOf_info ht w
    cases agg with
    | false =>
      simp only [aloadC, cond_false] at hr
      obtain ⟨z, hz⟩ := get_of_size hr (Nat.le_of_eq hl)
      refine ⟨z, w, G, r, s.st, ?_, .refl G, hI.agree, hrel _ r z hr hz, h⟩
      generalize a.eval = ρ at hv hey
      simp only [execOp, hv, hey]
      simp [Instr.index, asIntOf, run_underlying hu, hn, part, i1, i2, hz]
    | true =>
      simp only [aloadC, cond_true] at hr
      cases hb : Nat.ble (n * sz + sz) cs.length with
      | false => rw [hb] at hr; simp at hr
      | true =>
        rw [hb] at hr
        simp only [cond_true, Option.some.injEq] at hr
        have hle : n * sz + sz ≤ cs.length := Nat.le_of_ble_eq_true hb
        refine ⟨.agg (vs.extract (n * sz) (n * sz + sz)), w, G, r, s.st, ?_, .refl G, hI.agree, ?_, h⟩
        · generalize a.eval = ρ at hv hey
          simp only [execOp, hv, hey]
          simp [Instr.index, asIntOf, run_underlying hu, hn, part, i1, i2]
        · subst hr
          refine .ag _ _ (by simp; omega) fun i x y h1 h2 => ?_
          have hi : i < sz := by have := lt_of_getElem? h1; simp at this; omega
          simp [hi, List.getElem?_drop] at h1
          rw [Array.getElem?_extract] at h2
          split at h2
          · exact hrel (n * sz + i) x y h1 h2
          · simp at h2
theorem aops_indexAddrA {x y : Operand} {t e : TypeId} {len sz : Nat} {agg : Bool} {k : IntKind} {n o ver off : Nat} (hx : aeval N s x = .bx o ver off) (hy : aeval N s y = .v (.int k (n : Int))) (hu : E.P.underlying t = some (.array len e)) (ht : tyOf E.P e = some (sz, agg)) (hn : n < len)
    (h : AOps E rd N ops rest K (s.put d (.bx o ver (off + n * sz)))) : AOps E rd N ops (⟨d, .indexAddr t x y, T, p, af, none⟩ :: rest) K s := by
  refine aops_cons rfl (aop_of_run nofun fun B0 w0 G a w _ hI => ?_)
  have he := hI.eval_of hx
  have hey := hI.evalv hy
  generalize hv : a.eval x = v at he
  cases he with
  | bx _ _ _ b hn' hver hb =>
    refine ⟨.pointer (some ⟨b, off + n * sz, none⟩), w, G, _, s.st, ?_, .refl G, hI.agree, .bx o ver _ b hn' hver hb, h⟩
    generalize a.eval = ρ at hv hey
    simp only [execOp, hv, hey]
    simp [Instr.indexAt, asIntOf, run_underlying hu, Instr.sureAddr, hn, (tyOf_info ht w).1, Addr.add_lit]
theorem aops_convW {x : Operand} {t t' : TypeId} {k : IntKind} {n : Nat} {e : TypeDesc} (hx : aeval N s x = .v (.int k (n : Int))) (hs : E.P.underlying t = some e) (hd : E.P.underlying t' = some (.int .u32)) (hn : n < 4294967296)
    (h : AOps E rd N ops rest K (s.put d (Wv (BitVec.ofNat 32 n)))) : AOps E rd N ops (⟨d, .convert t t' x, T, p, af, none⟩ :: rest) K s :=
  aops_convI hx hs hd (by rw [wrap_u32, Nat.mod_eq_of_lt hn, BitVec.toNat_ofNat, Nat.mod_eq_of_lt hn]) h
theorem aops_store_var {x y : Operand} {t : TypeId} {sz : Nat} {agg : Bool} {st loc loc' : List AObj} {k ver off : Nat} {T' : TypeId} {cs xs : List AV} {r : AV} (hs : s.st = st ++ loc) (hx : aeval N s x = .bx (st.length + k) ver off) (hy : aeval N s y = r) (ho : loc[k]? = some (.cells ver T' cs)) (ht : tyOf E.P t = some (sz, agg))
    (hok : r.okc = true) (hc : r.cells = xs) (hsz : Nat.beq xs.length sz = true) (h1 : allOne xs = true) (hfit : off + sz ≤ cs.length) (hl : loc' = loc.set k (.cells ver T' (splice cs off xs)))
    (h : AOps E rd N ops rest K (AS.put ⟨s.t, st ++ loc', s.df⟩ d (.v undef))) : AOps E rd N ops (⟨d, .store t x y, T, p, af, none⟩ :: rest) K s :=
  aops_store_loc hs hx hy ho ht hok hc hsz h1 (Nat.ble_eq_true_of_le hfit) hl h
theorem splice_one {cs : List AV} {off : Nat} {x : AV} (h : off < cs.length) : splice cs off [x] = cs.set off x := by
  rw [List.set_eq_take_append_cons_drop, if_pos h]
  simp [splice]
theorem stA_mk' {t : Nat → AV} {L : List (Nat × AV)} {st st' : List AObj} {df : List Nat} (h : HasL t L) (e : st' = st) : StA L st df ⟨t, st', df⟩ := by
  subst e
  exact stA_mk h
theorem ares_cell1_loc {fn : Func} {t : Tmp} {Ta : TypeId} {st loc : List AObj} {k1 v1 f1 sz1 : Nat} {agg1 : Bool} {T1 : TypeId} {cs1 : List AV} {r1 : AV} (hr : fn.results = #[.cell t Ta]) (hs : s.st = st ++ loc)
    (hx1 : aeval fn.ntmps s (.tmp t) = .bx (st.length + k1) v1 f1) (ho1 : loc[k1]? = some (.cells v1 T1 cs1)) (ht1 : tyOf E.P Ta = some (sz1, agg1)) (hl1 : aloadC sz1 agg1 f1 cs1 = some r1) : ARes E fn s r1 := by
  refine ⟨fun B0 w0 G a w _ hI => ?_⟩
  obtain ⟨b1, y1, e1, e2, e3⟩ := load_bx_run hI hx1 (by rw [hs]; exact get_loc ho1) ht1 hl1
  simp only [Act.eval, Array.getD_eq_getD_getElem?] at e1
  refine ⟨y1, ?_, e3⟩
  simp [results, hr, e1, asAddr, e2]
def arrayPl (P : Program) (t : TypeId) : Option Nat :=
  match P.underlying t with
  | some (.array _ e) => match P.info? e with
    | some i => some i.size
    | none => none
  | _ => none
theorem arrayPl_inv {P : Program} {t : TypeId} {sz : Nat} (h : arrayPl P t = some sz) : ∃ len e i, P.underlying t = some (.array len e) ∧ P.info? e = some i ∧ i.size = sz := by
  unfold arrayPl at h
  split at h
  · rename_i len e hu
    split at h
    · rename_i i hi
      simp only [Option.some.injEq] at h
      exact ⟨len, e, i, hu, hi, h⟩
    · simp at h
  · simp at h
theorem aq_buildA {t : TypeId} {parts : Array (Nat × Operand)} {zs cs : List AV} {sz : Nat} (hz : zeroA E.P t = some zs) (hp : arrayPl E.P t = some sz) (hf : fillA (fun i => some (i * sz, sz)) zs (partsA N s parts) = some cs)
    (h : AQ E N ops rest K (s.put d (.ag cs))) : AQ E N ops (⟨d, .build t parts, T, p, af, none⟩ :: rest) K s := by
  refine aq_op rfl nofun fun B0 w0 G a w _ hI => ?_
  obtain ⟨len, e, i, hu, hi, rfl⟩ := arrayPl_inv hp
  obtain ⟨z, hrun, hr⟩ := zeroA_run hz w
  obtain ⟨c', h1, h2⟩ := fill_rel (fun k => some (k * i.size, i.size)) (partsA N s parts) (parts.toList.map fun x => (x.1, a.eval x.2)) zs z.cells cs (by simp [partsA]) (parts_rel hI parts) (hr G) hf
  have hz' : ∃ ti, E.P.info? t = some ti ∧ ti.zero = some z := by
    unfold zeroValue at hrun
    simp [typeInfo] at hrun
    cases hti : E.P.info? t with
    | none => simp [hti] at hrun
    | some ti =>
      simp [hti] at hrun
      cases htz : ti.zero with
      | none => simp [htz] at hrun
      | some y => simp [htz] at hrun; exact ⟨ti, rfl, by rw [htz, hrun]⟩
  obtain ⟨ti, g1, g2⟩ := hz'
  refine ⟨.agg c', .ag cs, fun w' _ => ?_, .ag _ _ h2.1 h2.2, h⟩
  generalize a.eval = ρ at h1
  simp [execOp, Instr.build, run_underlying hu, zeroValue, typeInfo, g1, g2, sizeOf, hi, h1]
theorem aq_idx {x y : Operand} {t : TypeId} {m : List UInt8} {k : IntKind} {n : Nat} (hx : aeval N s x = Sv m) (hy : aeval N s y = .v (.int k (n : Int))) (hu : E.P.underlying t = some .string) (h1 : n < m.length)
    (h : AQ E N ops rest K (s.put d (Uv (m.getD n 0)))) : AQ E N ops (⟨d, .index t x y, T, p, af, none⟩ :: rest) K s :=
  aq_scalar _ rfl nofun (fun a w he => by
    have hg : (⟨m.toArray⟩ : ByteArray)[n]? = some (m.getD n 0) := by
      simp only [getElem?_def, size_mk, h1, dite_true, List.getD, Option.getD_some]
      rfl
    simp [execOp, Instr.index, he _ _ hx, he _ _ hy, asIntOf, run_underlying hu, hg]) h
theorem aq_convW {x : Operand} {t t' : TypeId} {k : IntKind} {n : Nat} {e : TypeDesc} (hx : aeval N s x = .v (.int k (n : Int))) (hs : E.P.underlying t = some e) (hd : E.P.underlying t' = some (.int .u32)) (hn : n < 4294967296)
    (h : AQ E N ops rest K (s.put d (Wv (BitVec.ofNat 32 n)))) : AQ E N ops (⟨d, .convert t t' x, T, p, af, none⟩ :: rest) K s := by
  have hr : IntKind.u32.wrap (n : Int) = (((BitVec.ofNat 32 n).toNat : Nat) : Int) := by rw [wrap_u32, Nat.mod_eq_of_lt hn, BitVec.toNat_ofNat, Nat.mod_eq_of_lt hn]
  exact aq_scalar _ rfl nofun (fun a w he => by rw [← hr]; simp [execOp, he _ _ hx, convert, run_underlying hs, run_underlying hd, Conv.intToInt]) h
theorem aq_shr4 {x y : Operand} {t t' : TypeId} {yk : IntKind} {c : UInt8} (hx : aeval N s x = Uv c) (hy : aeval N s y = .v (.int yk 4)) (h : AQ E N ops rest K (s.put d (.v (.int .u8 ((c.toNat / 16 : Nat) : Int))))) : AQ E N ops (⟨d, .binOp .shr t x y t', T, p, af, none⟩ :: rest) K s :=
  aq_scalar _ rfl nofun (fun a w he => by
    have : (c.toNat : Int).fdiv (2 ^ (min (4 : Int).toNat IntKind.u8.bits)) = ((c.toNat / 16 : Nat) : Int) := by
      rw [Int.fdiv_eq_ediv_of_nonneg _ (by decide)]
      simp [IntKind.bits]
    rw [← this]
    simp [execOp, he _ _ hx, he _ _ hy, eqGuard_at_int, binOp_shr, Op.shift]) h
theorem aq_and15 {x y : Operand} {t t' : TypeId} {c : UInt8} (hx : aeval N s x = Uv c) (hy : aeval N s y = .v (.int .u8 15)) (h : AQ E N ops rest K (s.put d (.v (.int .u8 ((c.toNat % 16 : Nat) : Int))))) : AQ E N ops (⟨d, .binOp .and t x y t', T, p, af, none⟩ :: rest) K s :=
  aq_and hx hy (by
    simp only [bitOp, IntKind.bits]
    have h1 : BitVec.ofInt 8 (c.toNat : Int) = c.toBitVec := by rw [BitVec.ofInt_natCast]; simp
    have h2 : (BitVec.ofInt 8 (c.toNat : Int) &&& BitVec.ofInt 8 15).toNat = c.toNat % 16 := by
      rw [h1, BitVec.toNat_and]
      exact Nat.and_two_pow_sub_one_eq_mod c.toNat 4
    have h3 : IntKind.u8.wrap ((c.toNat % 16 : Nat) : Int) = ((c.toNat % 16 : Nat) : Int) := by
      simp [IntKind.wrap, IntKind.bits, IntKind.signed]
      omega
    exact (congrArg (fun z : Nat => IntKind.u8.wrap (z : Int)) h2).trans h3) h
theorem aops_shr32z {x y : Operand} {t t' : TypeId} {yk : IntKind} {a : BitVec 32} {m : Int} {n : Nat} (hx : aeval N s x = Wv a) (hy : aeval N s y = .v (.int yk m)) (hm : m = (n : Int)) (hn : n ≤ 32) (h : AOps E rd N ops rest K (s.put d (Wv (a >>> n)))) : AOps E rd N ops (⟨d, .binOp .shr t x y t', T, p, af, none⟩ :: rest) K s :=
  aops_shr32 hx (hm ▸ hy) (Nat.ble_eq_true_of_le hn) h
theorem and15_lt (x : BitVec 32) : (x &&& BitVec.ofInt 32 15).toNat < 16 := by
  rw [BitVec.toNat_and]
  exact Nat.lt_of_le_of_lt Nat.and_le_right (by decide)
theorem aops_addN {x y : Operand} {t t' : TypeId} {k : IntKind} {m n : Nat} (hx : aeval N s x = .v (.int k (m : Int))) (hy : aeval N s y = .v (.int k (n : Int))) (hf : k.wrap ((m + n : Nat) : Int) = ((m + n : Nat) : Int))
    (h : AOps E rd N ops rest K (s.put d (.v (.int k ((m + n : Nat) : Int))))) : AOps E rd N ops (⟨d, .binOp .add t x y t', T, p, af, none⟩ :: rest) K s :=
  aops_add hx hy (by rw [← Int.natCast_add]; exact hf) h
theorem aops_quoN {x y : Operand} {t t' : TypeId} {k : IntKind} {m n : Nat} (hx : aeval N s x = .v (.int k (m : Int))) (hy : aeval N s y = .v (.int k (n : Int))) (hn : n ≠ 0) (hf : k.wrap ((m / n : Nat) : Int) = ((m / n : Nat) : Int))
    (h : AOps E rd N ops rest K (s.put d (.v (.int k ((m / n : Nat) : Int))))) : AOps E rd N ops (⟨d, .binOp .quo t x y t', T, p, af, none⟩ :: rest) K s :=
  aops_quo hx hy (by omega) (by rw [Int.tdiv_eq_ediv_of_nonneg (by omega), ← Int.natCast_ediv]; exact hf) h
theorem aops_remN {x y : Operand} {t t' : TypeId} {k : IntKind} {m n : Nat} (hx : aeval N s x = .v (.int k (m : Int))) (hy : aeval N s y = .v (.int k (n : Int))) (hn : n ≠ 0)
    (h : AOps E rd N ops rest K (s.put d (.v (.int k ((m % n : Nat) : Int))))) : AOps E rd N ops (⟨d, .binOp .rem t x y t', T, p, af, none⟩ :: rest) K s :=
  aops_rem hx hy (by omega) (by rw [Int.tmod_eq_emod_of_nonneg (by omega), ← Int.natCast_emod]; exact h)
theorem wrapU32 {n : Nat} (h : n < 4294967296) : IntKind.u32.wrap (n : Int) = (n : Int) := by
  rw [wrap_u32, Nat.mod_eq_of_lt h]
end
end Go.Av
set_option linter.unusedVariables false
namespace Go.Av
open Go Go.RowKit
section
variable {E : Env} {rd : Option Nat} {N : Nat} {ops : Array Oper} {K : AS → Prop} {s : AS} {rest : List Oper} {d : Option Tmp} {T : TypeId} {p : String} {af : Array Edge}
theorem aops_fromE {x lo : Operand} {t : TypeId} {m r : List UInt8} {k : IntKind} {n : Nat} (hr : m.drop n = r) (hx : aeval N s x = Sv m) (hl : aeval N s lo = .v (.int k (n : Int))) (hu : E.P.underlying t = some .string) (h1 : n ≤ m.length)
    (h : AOps E rd N ops rest K (s.put d (Sv r))) : AOps E rd N ops (⟨d, .slice t x (some lo) none none, T, p, af, none⟩ :: rest) K s :=
  aops_from hx hl hu h1 (by rw [hr]; exact h)
end
end Go.Av
set_option linter.unusedVariables false
namespace Go.Proofs.YtplagcbifecagaaGreatDoor
open Go Go.Av Go.RowKit Go.Proofs
structure Laid (w : World) : Prop where
  shaped : World.ShapedOpen Tryz.prog w
  pow : Lib.TabIs Tryz.prog w "internal/strconv.uint64pow10" .u64 Lib.pow10Tab
  syn : ∃ tp p, World.var? Tryz.prog w "strconv.ErrSyntax" = some #[.iface tp p]
  ran : ∃ tp p, World.var? Tryz.prog w "strconv.ErrRange" = some #[.iface tp p]
  ert : w.cell? ⟨3, 0, none⟩ = some (.iface 225 (.agg #[.pointer (some ⟨9, 25, none⟩)]))
@[reducible] noncomputable def E : Env := ⟨Tryz.prog, fun B0 w0 => ∀ w, Below B0 w0 w → Laid w⟩
theorem contains_c (l m : List UInt8) (st : List AObj) (hl : l.length < 4294967281) : ACall E 164 [Sv l, Sv m] st fun r st' => r = Bv (Lib.contains l m) ∧ st' = st :=
  acall_of_calls (vals := #[.string ⟨l.toArray⟩, .string ⟨m.toArray⟩]) rfl fun _ _ w hL hb => (Tryz.strings_Contains_shaped ⟨l.toArray⟩ ⟨m.toArray⟩ w (hL w hb).shaped (by simpa [ByteArray.size] using hl)).mono fun _ _ ⟨h1, h2⟩ => ⟨h1, below_of_eq h2⟩
theorem hasPrefix_c (l m : List UInt8) (st : List AObj) : ACall E 69 [Sv l, Sv m] st fun r st' => r = Bv (Lib.hasPrefix l m) ∧ st' = st :=
  acall_of_calls (vals := #[.string ⟨l.toArray⟩, .string ⟨m.toArray⟩]) rfl fun _ _ w _ _ => (Tryz.strings_HasPrefix ⟨l.toArray⟩ ⟨m.toArray⟩ w).mono fun _ _ ⟨h1, h2⟩ => ⟨h1, below_of_eq h2⟩
theorem hasSuffix_c (l m : List UInt8) (st : List AObj) (hl : l.length ≤ 9223372036854775807) : ACall E 55 [Sv l, Sv m] st fun r st' => r = Bv (Lib.hasSuffix l m) ∧ st' = st :=
  acall_of_calls (vals := #[.string ⟨l.toArray⟩, .string ⟨m.toArray⟩]) rfl fun _ _ w _ _ => (Tryz.strings_HasSuffix ⟨l.toArray⟩ ⟨m.toArray⟩ w (by simpa [ByteArray.size] using hl)).mono fun _ _ ⟨h1, h2⟩ => ⟨h1, below_of_eq h2⟩
theorem cut_c (l m : List UInt8) (st : List AObj) (hl : l.length < 4294967281) : ACall E 31 [Sv l, Sv m] st fun r st' => r = .tu [Sv (Lib.cut l m).1, Sv (Lib.cut l m).2.1, Bv (Lib.cut l m).2.2] ∧ st' = st :=
  acall_of_calls_tu (vals := #[.string ⟨l.toArray⟩, .string ⟨m.toArray⟩]) (rs := #[.string ⟨(Lib.cut l m).1.toArray⟩, .string ⟨(Lib.cut l m).2.1.toArray⟩, .bool (Lib.cut l m).2.2]) rfl fun _ _ w hL hb => (Tryz.strings_Cut_shaped ⟨l.toArray⟩ ⟨m.toArray⟩ w (hL w hb).shaped (by simpa [ByteArray.size] using hl)).mono fun _ _ ⟨h1, n, h2⟩ => ⟨h1, h2 ▸ below_drewN w n⟩
theorem cutPrefix_c (l m : List UInt8) (st : List AObj) : ACall E 53 [Sv l, Sv m] st fun r st' => r = .tu [Sv (Lib.trimPrefix l m), Bv (Lib.hasPrefix l m)] ∧ st' = st :=
  acall_of_calls_tu (vals := #[.string ⟨l.toArray⟩, .string ⟨m.toArray⟩]) (rs := #[.string ⟨(Lib.trimPrefix l m).toArray⟩, .bool (Lib.hasPrefix l m)]) rfl fun _ _ w _ _ => (Tryz.strings_CutPrefix ⟨l.toArray⟩ ⟨m.toArray⟩ w).mono fun _ _ ⟨h1, h2⟩ => ⟨h1, below_of_eq h2⟩
theorem itoa_c (n : Int) (st : List AObj) (h0 : -9223372036854775808 ≤ n) (h1 : n ≤ 9223372036854775807) : ACall E 50 [Iv n] st fun r st' => r = Sv (Lib.itoa n) ∧ st' = st :=
  acall_of_calls (vals := #[.int .i64 n]) rfl fun _ _ w hL hb => (Tryz.strconv_Itoa n h0 h1 w (hL w hb).pow).mono fun _ _ ⟨h1, k, os, h2⟩ => ⟨h1, h2 ▸ below_grow w k os⟩
theorem repeat_c (l : List UInt8) (c : Nat) (st : List AObj) (h0 : c ≤ 9223372036854775807) (h1 : l.length * c ≤ 140737488355328) : ACall E 98 [Sv l, Iv c] st fun r st' => r = Sv (Lib.repeatL l c) ∧ st' = st :=
  acall_of_calls (vals := #[.string ⟨l.toArray⟩, .int .i64 c]) rfl fun _ _ w _ _ => (Tryz.strings_Repeat ⟨l.toArray⟩ c w h0 (by simpa [ByteArray.size] using h1)).mono fun _ _ ⟨h1, h2⟩ => ⟨h1, h2⟩
theorem trim_c (l m : List UInt8) (st : List AObj) (hl : l.length ≤ 9223372036854775807) (hm : m.length < 4294967281) (ha : ∀ (j : Nat) (b : UInt8), m[j]? = some b → b.toNat < 128) : ACall E 96 [Sv l, Sv m] st fun r st' => r = Sv (Lib.trimS l m) ∧ st' = st :=
  acall_of_calls (vals := #[.string ⟨l.toArray⟩, .string ⟨m.toArray⟩]) rfl fun _ _ w _ _ => (Any.strings_Trim_laid Tryz.lays160t (by kernel_rfl) ⟨l.toArray⟩ ⟨m.toArray⟩ w (by simpa [ByteArray.size] using hl) (by simpa [ByteArray.size] using hm) (by simpa using ha)).mono fun _ _ ⟨h1, h2⟩ => ⟨h1, h2⟩
theorem below_bytes {w w' : World} {T : TypeId} {s : ByteArray} (h : w' = w ∨ ∃ t, w' = Lib.bytesWorld w T t) : Below w.heap.size w w' := by
  rcases h with rfl | ⟨t, rfl⟩
  · exact Below.refl _ _
  · unfold Lib.bytesWorld
    exact Lib.below_freeze ((Below.drew (Below.refl w.heap.size w)).alloc (Nat.le_refl _) _) (p := ⟨w.heap.size, _, none⟩) (Nat.le_refl _) _
theorem acall_of_numErr {f : FuncId} {st : List AObj} {args : List AV} {vals : Array Value} {R : Int → Option (TypeId × Value) → Prop} (ha : args = vals.toList.map .v)
    (h : ∀ B0 w0 w, E.L B0 w0 → Below B0 w0 w → Calls E.P f vals w fun e w' => ∃ n x, e = .returned (.tuple #[.int .i64 n, match x with | none => .nilIface | some (t, y) => .iface t y]) ∧ R n x ∧ Below w.heap.size w w') :
    ACall E f args st fun r st' => st' = st ∧ ∃ n x, r = .tu [Iv n, match x with | none => .v .nilIface | some (t, y) => .ifc t (.v y)] ∧ R n x := by
  subst ha
  refine ⟨fun B0 w0 G vs w hL hA hR => ?_⟩
  have hv : vs = vals := by
    have hs : vs.size = vals.size := by have := hR.1; simpa using this.symm
    apply Array.ext hs
    intro i h1 h2
    have := hR.2 i (.v vals[i]) vs[i] (by simp [h2]) (by simp [h1])
    generalize vs[i] = y at this
    cases this
    rfl
  subst hv
  refine (h B0 w0 w hL hA.below).mono ?_
  rintro e w' ⟨n, x, rfl, hRR, hb⟩
  refine ⟨_, G, _, st, rfl, .refl G, hA.fresh hb, rel_tu2 (.v _) ?_, rfl, n, x, rfl, hRR⟩
  cases x with
  | none => exact .v _
  | some p => exact .ifc _ _ _ (.v _)
theorem atoi_c (l : List UInt8) (st : List AObj) (hl : l.length ≤ 281474976710656) : ACall E 71 [Sv l] st fun r st' => st' = st ∧ ∃ n x, r = .tu [Iv n, match x with | none => .v .nilIface | some (t, y) => .ifc t (.v y)] ∧ match x with | none => Lib.atoiAll l = .ok n | some _ => ∀ v, Lib.atoiAll l ≠ .ok v := by
  refine acall_of_numErr (vals := #[.string ⟨l.toArray⟩]) (R := fun n x => match x with | none => Lib.atoiAll l = .ok n | some _ => ∀ v, Lib.atoiAll l ≠ .ok v) rfl fun B0 w0 w hL hb => ?_
  have hls : (⟨l.toArray⟩ : ByteArray).data.toList = l := rfl
  rcases ho : Lib.atoiAll l with v | _ | _
  ·
    refine (Tryz.strconv_Atoi_ok ⟨l.toArray⟩ (by simp [ByteArray.size]; omega) v (by rw [hls]; exact ho) w).mono ?_
    rintro e w' ⟨rfl, hw⟩
    exact ⟨v, none, rfl, rfl, below_bytes (s := ⟨l.toArray⟩) hw⟩
  ·
    obtain ⟨tp, p, hv⟩ := (hL w hb).syn
    refine (Any.strconv_Atoi_syntax_var Tryz.laysC172 ⟨l.toArray⟩ (by simpa [ByteArray.size] using hl) (by rw [hls]; exact ho) tp p w hv).mono ?_
    rintro e w' ⟨N, rfl, _, _, hw⟩
    exact ⟨_, some (_, _), rfl, by simp, hw⟩
  ·
    obtain ⟨tp, p, hv⟩ := (hL w hb).ran
    refine (Tryz.strconv_Atoi_range_var ⟨l.toArray⟩ (by simpa [ByteArray.size] using hl) (by rw [hls]; exact ho) tp p w hv).mono ?_
    rintro e w' ⟨N, rfl, _, _, hw⟩
    exact ⟨_, some (_, _), rfl, by simp, hw⟩
theorem trimA_c (l m : List UInt8) (st : List AObj) (hl : l.length ≤ 9223372036854775807) (hm : Nat.blt m.length 4294967281 = true) (ha : m.all (fun b => Nat.blt b.toNat 128) = true) : ACall E 96 [Sv l, Sv m] st fun r st' => r = Sv (Lib.trimS l m) ∧ st' = st :=
  trim_c l m st hl (by simpa [Nat.blt_eq] using hm) fun j b h => by
    have := List.all_eq_true.1 ha b (List.mem_of_getElem? h)
    simpa [Nat.blt_eq] using this
end Go.Proofs.YtplagcbifecagaaGreatDoor
set_option linter.unusedVariables false
namespace Go.Av
open Go Go.RowKit Go.WideShapes Go.ChangeShapes
theorem tabIs_of_reads {P : Program} {W : World} {name : String} {k : IntKind} {zs : List Int} {g : Nat} {t e : TypeId} {n : Nat}
    (hg : P.globalNamed name = some g) (hty : (P.globals[g]?).map (·.type) = some t) (ht : P.underlying t = some (.array n e)) (he : P.underlying e = some (.int k)) (hce : P.cellsOf e = 1) (hct : P.cellsOf t = n)
    (h : Lib.VarReads P W name (Lib.tabData k zs)) : Lib.TabIs P W name k zs := by
  obtain ⟨g', t', cs, fuel, p, hg', ht', hvar, hd⟩ := h
  obtain rfl := Option.some.inj (hg.symm.trans hg')
  obtain rfl := Option.some.inj (hty.symm.trans ht')
  unfold Lib.TabIs
  rw [hvar, ← Lib.cells_of_tab ht he hce hct hd]
theorem sent_of_reads {P : Program} {W : World} {name s : String} {d : DataW Unit} {g : Nat} {t : TypeId} {ms : Array (String × TypeId)}
    (hg : P.globalNamed name = some g) (hty : (P.globals[g]?).map (·.type) = some t) (ht : P.underlying t = some (.interface ms))
    (h : Lib.VarReads P W name (.iface s d)) : ∃ tp p, W.var? P name = some #[.iface tp p] := by
  obtain ⟨g', t', cs, fuel, p, hg', ht', hvar, hd⟩ := h
  obtain rfl := Option.some.inj (hg.symm.trans hg')
  obtain rfl := Option.some.inj (hty.symm.trans ht')
  cases fuel with
  | zero => simp [DataW.trod] at hd
  | succ fuel =>
    obtain ⟨l⟩ := cs
    simp only [DataW.trod, ht] at hd
    split at hd
    all_goals simp_all
section
variable {H : Type} {enc : TypeId × Value → H} {P : Program}
theorem post_of_below {f : Func} {s : ChangeSpec} {apart fresh handsOn again : Bool} {W W' : World} {args : Array Value} {v : Value} {ds gs : List (DataW H)} {before pa pv : List MemPlace}
    (hW : DataW.Whole enc P f.params.toList s.vars apart W args.toList ds gs before)
    (hres : ∀ (b : Nat) (sp : Nat → Bool) (hd : Bool), DataW.TrodAll enc P W' b sp hd f.resultTypes.toList (v.resultList f.resultTypes.size) (s.fn H (ds ++ gs)).results [])
    (hargs : ∀ sp : Nat → Bool, (∀ p ∈ before, sp p.block = true) → DataW.TrodAll enc P W' 0 sp true f.params.toList args.toList (s.fn H (ds ++ gs)).args pa)
    (hvars : ∀ sp : Nat → Bool, (∀ p ∈ before, sp p.block = true) → DataW.TrodVars enc P W' sp s.vars (s.fn H (ds ++ gs)).vars pv)
    (hps : before = pa ++ pv) (hb : Below W.heap.size W W')
    (hok : ∀ (j : Nat) (t : TypeId) (r : Value), f.resultTypes[j]? = some t → (v.resultList f.resultTypes.size)[j]? = some r → Value.okWide P W' .any 0 t r) :
    s.post enc P f apart fresh handsOn again W args v W' := by
  have hlt : ∀ p ∈ before, p.block < W.heap.size := fun p hp => hW.lt p hp
  have hold : ∀ p ∈ before, (fun b => decide (b < W.heap.size)) p.block = true := fun p hp => by simpa using hlt p hp
  refine ⟨ds, gs, before, [], pa, pv, hW, hres _ _ _, hargs _ hold, hvars _ hold, World.keptBut_mono (fun p hp => ⟨hp, ?_⟩) (hb.frame (· ∈ before)), fun _ => ?_⟩
  · rw [hps, List.mem_append] at hp
    exact Or.inr hp
  · obtain ⟨_, _, _, _, _, hz, hn⟩ := hW
    refine ⟨hok, _, _, ([] ++ pa) ++ pv, ⟨[] ++ pa, pv, trodAll_append (hargs _ (fun _ _ => rfl)) (hres _ _ _), hvars _ (fun _ _ => rfl), rfl, ?_, ?_⟩, ?_⟩
    · intro b off hp
      have hin : MemPlace.cell b off ∈ before := by rw [hps]; simpa using hp
      rw [hb.frozen (hlt _ hin)]
      exact hz b off hin
    · intro ha
      have := hn ha
      rw [hps] at this
      simpa using this
    · intro p hp _
      rw [hps]
      simpa using hp
end
end Go.Av
set_option maxRecDepth 100000
open Go in
theorem Go.Av.lit_i64 {n : Int} (h : (Lit.int .i64 n).wf = true) : -9223372036854775808 ≤ n ∧ n ≤ 9223372036854775807 := by
  simpa [Lit.wf, IntKind.min, IntKind.max, IntKind.signed, IntKind.bits] using h
namespace Go.Proofs.YtplagcbifecagaaGreatDoor
open Go Go.Av Go.RowKit
theorem oneErr : ((List.range 271).filter fun t => Tryz.prog.rowNamed t [101, 114, 114, 111, 114]) = [25] := by kernel_rfl
theorem rtErr : (Tryz.prog.cutTypes.find? (·.1 == "internal/reflectlite.rtype")).map (·.2) = some 225 := by kernel_rfl
theorem szErr : Tryz.prog.types.size = 271 := by kernel_rfl
theorem hdErr : typeHandle Tryz.prog 25 = .pointer (some ⟨9, 25, none⟩) := by kernel_rfl
theorem gErrT : Tryz.prog.globalNamed "errors.errorType" = some 3 := by kernel_rfl
theorem notErr {l : List (String × DataW Unit)} (h : (l.all fun x => x.1 == "errors.errorType" || x.2.handleName?.isNone) = true) {x : String × DataW Unit} (hx : x ∈ l) (hn : (x.1 == "errors.errorType") = false) : x.2.handleName?.isNone = true := by
  have := List.all_eq_true.1 h x hx
  rw [hn] at this
  simpa using this
theorem laidMet_over {P : Program} {w0 : World} {laid : List (String × DataW Unit)} (args : Array Value) (hf : w0.layFits P laid [] = true) (hi : w0.layIfaces P laid (w0.layVars P laid) = true) :
    laidMet P laid ((w0.layVars P laid).forCall (fun _ _ => 0) ⟨#[], args, []⟩).memory := by
  have e1 : (laid.filter fun x => (laid.map Prod.fst).contains x.1) = laid := List.filter_eq_self.2 fun x hx => List.contains_iff_mem.2 (List.mem_map_of_mem hx)
  have e2 : (laid.filter fun x => !(laid.map Prod.fst).contains x.1) = [] := List.filter_eq_nil_iff.2 fun x hx => by
    rw [List.contains_iff_mem.2 (List.mem_map_of_mem (f := Prod.fst) hx)]
    simp
  have h : laidMet P laid (w0.layVars P laid) := laidMet_layVars (w0 := w0) (laid.map Prod.fst) [] (by rw [e1]) (by rw [e1]; exact hf) (by rw [e1]; exact hi) (by rw [e2]; exact LaidIn.none)
  exact h.of_heap (by simp [World.memory, World.forCall, Input.heap])
noncomputable def baseW (os : Os) : World := { World.holding Tryz.prog os ⟨#[], #[], []⟩ with heap := (World.holding Tryz.prog os ⟨#[], #[], []⟩).heap.modify 3 fun
  | .cells _ t fz => .cells #[.iface 225 (.agg #[.pointer (some ⟨9, 25, none⟩)])] t fz
  | o => o }
theorem laid_of {l : List (String × DataW Unit)} {W : World}
    (hp : (l.filter fun x => x.2.handleName?.isSome) = [("errors.errorType", Rows.laid_errors_errorType)] ∧ (l.all fun x => x.1 == "errors.errorType" || x.2.handleName?.isNone) = true)
    (hL : laidMetH Tryz.prog l W) (hs : W.ShapedOpen Tryz.prog)
    (h1 : ("internal/strconv.uint64pow10", Rows.laid_internal_strconv_uint64pow10) ∈ l) (h2 : ("strconv.ErrSyntax", Rows.laid_strconv_ErrSyntax) ∈ l) (h3 : ("strconv.ErrRange", Rows.laid_strconv_ErrRange) ∈ l) : E.L W.heap.size W := by
  unfold laidMetH at hL
  rw [hp.1] at hL
  simp only at hL
  intro w hb
  obtain ⟨hL, hH⟩ := hL
  have h1 := (List.mem_filter (p := fun x => x.2.handleName?.isNone)).2 ⟨h1, notErr hp.2 h1 (by decide)⟩
  have h2 := (List.mem_filter (p := fun x => x.2.handleName?.isNone)).2 ⟨h2, notErr hp.2 h2 (by decide)⟩
  have h3 := (List.mem_filter (p := fun x => x.2.handleName?.isNone)).2 ⟨h3, notErr hp.2 h3 (by decide)⟩
  obtain ⟨name, u, ty, e1, e2, e3, e4, e5⟩ := hH _ (List.mem_singleton.2 rfl)
  have en : name = [101, 114, 114, 111, 114] := (Option.some.inj e1).symm
  subst en
  obtain rfl := Option.some.inj (rtErr.symm.trans e2)
  have hm : ty ∈ (List.range 271).filter fun t => Tryz.prog.rowNamed t [101, 114, 114, 111, 114] := List.mem_filter.2 ⟨List.mem_range.2 (by rw [← szErr]; exact e3), e4⟩
  rw [oneErr] at hm
  obtain rfl := List.mem_singleton.1 hm
  rw [hdErr] at e5
  have hv := World.var?_cell gErrT (Go.Joins.var_stays gErrT e5 hb (Nat.le_refl _)) 0
  have g1 : Tryz.prog.globalNamed "internal/strconv.uint64pow10" = some 4 := by kernel_rfl
  have g2 : Tryz.prog.globalNamed "strconv.ErrSyntax" = some 1 := by kernel_rfl
  have g3 : Tryz.prog.globalNamed "strconv.ErrRange" = some 2 := by kernel_rfl
  have t1 := tabIs_of_reads (k := .u64) (zs := Lib.pow10Tab) (t := 215) (e := 128) (n := 20) g1 (by kernel_rfl) (by kernel_rfl) (by kernel_rfl) (by kernel_rfl) (by kernel_rfl) (Lib.laidMet.reads hL h1)
  obtain ⟨tp2, p2, v2⟩ := sent_of_reads (t := 25) g2 (by kernel_rfl) rfl (Lib.laidMet.reads hL h2)
  obtain ⟨tp3, p3, v3⟩ := sent_of_reads (t := 25) g3 (by kernel_rfl) rfl (Lib.laidMet.reads hL h3)
  exact ⟨hs.keptBut (hb.frame (fun _ => False)) (fun _ h => h.elim), Go.Joins.var_stays g1 t1 hb (Nat.le_refl _), ⟨tp2, p2, Go.Joins.var_stays g2 v2 hb (Nat.le_refl _)⟩, ⟨tp3, p3, Go.Joins.var_stays g3 v3 hb (Nat.le_refl _)⟩, by simpa using hv⟩
end Go.Proofs.YtplagcbifecagaaGreatDoor
set_option linter.unusedVariables false
namespace Go.Pl
open Go
abbrev Bytes := List UInt8
theorem index_one (l : Bytes) (c : UInt8) : 0 ≤ Lib.index l [c] ↔ c ∈ l := by
  induction l with
  | nil => simp [Lib.index]
  | cons b l ih =>
    have hge := Lib.index_ge l [c]
    unfold Lib.index
    by_cases hb : c = b
    · subst hb
      simp [List.isPrefixOf]
    · have hp : ([c] : Bytes).isPrefixOf (b :: l) = false := by simp [List.isPrefixOf, hb]
      rw [hp]
      by_cases hm : Lib.index l [c] = -1
      · have : c ∉ l := fun h => by have := ih.2 h; omega
        simp [hm, hb, this]
      · have : c ∈ l := ih.1 (by omega)
        simp [hm, this]
        omega
theorem contains_one (l : Bytes) (c : UInt8) : Lib.contains l [c] = decide (c ∈ l) := by
  unfold Lib.contains
  by_cases h : c ∈ l
  · simp [h, (index_one l c).2 h]
  · have : ¬ 0 ≤ Lib.index l [c] := fun h' => h ((index_one l c).1 h')
    simp [h, this]
theorem hasPrefix_one (l : Bytes) (c : UInt8) : Lib.hasPrefix l [c] = decide (l.head? = some c) := by
  cases l with
  | nil => simp [Lib.hasPrefix]
  | cons b l =>
    by_cases h : c = b
    · simp [Lib.hasPrefix, List.isPrefixOf, h]
    · simp [Lib.hasPrefix, List.isPrefixOf, h, Ne.symm h]
def isBlank (c : UInt8) : Prop := c = 32 ∨ c = 9
instance (c : UInt8) : Decidable (isBlank c) := inferInstanceAs (Decidable (c = 32 ∨ c = 9))
def blankL (l : Bytes) : Prop := ∃ c, l.head? = some c ∧ isBlank c
instance (l : Bytes) : Decidable (blankL l) :=
  match l with
  | [] => .isFalse (by rintro ⟨c, h, _⟩; simp at h)
  | c :: r => decidable_of_iff (isBlank c) ⟨fun h => ⟨c, rfl, h⟩, fun ⟨d, h, hd⟩ => by simp at h; subst h; exact hd⟩
def keyOk (l : Bytes) : Prop := l ≠ [] ∧ l.length ≤ 32 ∧ ¬ blankL l ∧ ¬ l.head? = some 35 ∧ 58 ∉ l ∧ 10 ∉ l
instance (l : Bytes) : Decidable (keyOk l) := inferInstanceAs (Decidable (_ ∧ _ ∧ _ ∧ _ ∧ _ ∧ _))
theorem blank_contains (c : UInt8) (l : Bytes) : Lib.contains [32, 9] [c] = decide (blankL (c :: l)) := by
  rw [contains_one]
  have : blankL (c :: l) ↔ isBlank c := ⟨fun ⟨d, h, hd⟩ => by simp at h; subst h; exact hd, fun h => ⟨c, rfl, h⟩⟩
  simp [this, isBlank]
def upto (c : UInt8) (l : Bytes) : Bytes := l.takeWhile (· ≠ c)
def past (c : UInt8) (l : Bytes) : Bytes := l.drop ((upto c l).length + 1)
theorem index_upto (c : UInt8) (l : Bytes) (h : c ∈ l) : Lib.index l [c] = ((upto c l).length : Int) := by
  induction l with
  | nil => simp at h
  | cons b l ih =>
    unfold Lib.index upto
    by_cases hb : b = c
    · subst hb; simp [List.isPrefixOf]
    · have hp : ([c] : Bytes).isPrefixOf (b :: l) = false := by simp [List.isPrefixOf, Ne.symm hb]
      have hl : c ∈ l := by simpa [Ne.symm hb] using h
      have e := ih hl
      rw [hp]
      have : (Lib.index l [c] == -1) = false := by rw [e]; simp
      simp only [this]
      rw [e]
      simp [hb, upto]
theorem take_upto (c : UInt8) (l : Bytes) : l.take (upto c l).length = upto c l := by
  induction l with
  | nil => simp [upto]
  | cons b l ih =>
    by_cases hb : b = c
    · simp [upto, hb]
    · have : upto c (b :: l) = b :: upto c l := by simp [upto, hb]
      rw [this]
      simp [ih]
theorem upto_all {c : UInt8} {l : Bytes} (h : c ∉ l) : upto c l = l := by
  induction l with
  | nil => rfl
  | cons b l ih =>
    have hb : b ≠ c := fun e => h (by simp [e])
    have : upto c (b :: l) = b :: upto c l := by simp [upto, hb]
    rw [this, ih (fun h' => h (by simp [h']))]
theorem upto_length_le (c : UInt8) (l : Bytes) : (upto c l).length ≤ l.length := by
  have := congrArg List.length (take_upto c l)
  simp at this
  omega
theorem upto_length_lt {c : UInt8} {l : Bytes} (h : c ∈ l) : (upto c l).length < l.length := by
  induction l with
  | nil => simp at h
  | cons b l ih =>
    by_cases hb : b = c
    · simp [upto, hb]
    · have : upto c (b :: l) = b :: upto c l := by simp [upto, hb]
      rw [this]
      have := ih (by simpa [Ne.symm hb] using h)
      simp
      omega
theorem past_length (c : UInt8) (l : Bytes) : (past c l).length = l.length - ((upto c l).length + 1) := by simp [past]
theorem cut_one (c : UInt8) (l : Bytes) : Lib.cut l [c] = (upto c l, past c l, decide (c ∈ l)) := by
  unfold Lib.cut
  by_cases h : c ∈ l
  · rw [if_pos ((index_one l c).2 h), index_upto c l h]
    simp [take_upto, past, h]
  · rw [if_neg (fun h' => h ((index_one l c).1 h'))]
    simp [upto_all h, past, h]
theorem past_lt {c : UInt8} {l : Bytes} (h : l ≠ []) : (past c l).length < l.length := by
  rw [past_length]
  have := List.length_pos_iff.2 h
  omega
def linesOf (l : Bytes) : List (Bytes × Bool) :=
  if h : l = [] then [] else (upto 10 l, decide (10 ∈ l)) :: linesOf (past 10 l)
  termination_by l.length
  decreasing_by exact past_lt h
theorem linesOf_nil : linesOf [] = [] := by rw [linesOf]; simp
theorem linesOf_cons {l : Bytes} (h : l ≠ []) : linesOf l = (upto 10 l, decide (10 ∈ l)) :: linesOf (past 10 l) := by rw [linesOf]; simp [h]
def lineEnd (b : Bool) : Bytes := if b then [10] else []
def dedentOf (by' l : Bytes) : Bytes × Bool :=
  if ∀ x ∈ linesOf l, by' <+: x.1 then ((linesOf l).flatMap fun x => x.1.drop by'.length ++ lineEnd x.2, true) else ([], false)
theorem trimPrefix_le (l m : Bytes) : (Lib.trimPrefix l m).length ≤ l.length := by
  unfold Lib.trimPrefix
  split
  · simp
  · exact Nat.le_refl _
theorem hasPrefix_iff (l m : Bytes) : Lib.hasPrefix l m = true ↔ m <+: l := by
  unfold Lib.hasPrefix
  exact List.isPrefixOf_iff_prefix
theorem trimPrefix_of {l m : Bytes} (h : m <+: l) : Lib.trimPrefix l m = l.drop m.length := by
  unfold Lib.trimPrefix
  rw [if_pos ((hasPrefix_iff l m).2 h)]
theorem upto_app {c : UInt8} {a : Bytes} (r : Bytes) (h : c ∉ a) : upto c (a ++ c :: r) = a := by
  induction a with
  | nil => simp [upto]
  | cons b a ih =>
    have hb : b ≠ c := fun e => h (by simp [e])
    have h2 : c ∉ a := fun e => h (by simp [e])
    have e : upto c (b :: (a ++ c :: r)) = b :: upto c (a ++ c :: r) := by simp [upto, hb]
    rw [List.cons_append, e, ih h2]
theorem past_app {c : UInt8} {a : Bytes} (r : Bytes) (h : c ∉ a) : past c (a ++ c :: r) = r := by
  unfold past
  rw [upto_app r h, show a ++ c :: r = (a ++ [c]) ++ r by simp, show a.length + 1 = (a ++ [c]).length by simp, List.drop_left]
theorem upto_past {c : UInt8} {l : Bytes} (h : c ∈ l) : l = upto c l ++ c :: past c l := by
  induction l with
  | nil => simp at h
  | cons b l ih =>
    by_cases hb : b = c
    · subst hb; simp [upto, past]
    · have h2 : c ∈ l := by simpa [Ne.symm hb] using h
      have e1 : upto c (b :: l) = b :: upto c l := by simp [upto, hb]
      have e2 : past c (b :: l) = past c l := by simp [past, e1]
      rw [e1, e2, List.cons_append, ← ih h2]
theorem notin_upto (c : UInt8) (l : Bytes) : c ∉ upto c l := by
  induction l with
  | nil => simp [upto]
  | cons b l ih =>
    by_cases hb : b = c
    · simp [upto, hb]
    · have e1 : upto c (b :: l) = b :: upto c l := by simp [upto, hb]
      rw [e1]
      simp [Ne.symm hb, ih]
def keyPart (l : Bytes) : Bytes := l.takeWhile (· ≠ 58)
def restPart (l : Bytes) : Bytes := l.drop ((keyPart l).length + 1)
def kindOf (l : Bytes) : Int :=
  if 10 ∈ l then 5 else if ∀ c ∈ l, isBlank c then 1 else if l.head? = some 35 then 2 else if blankL l then 3
  else if 58 ∈ l ∧ keyOk (keyPart l) then 4 else 5
theorem dropWhile_nil {α : Type} (p : α → Bool) (l : List α) : l.dropWhile p = [] ↔ ∀ x ∈ l, p x = true := by
  induction l with
  | nil => simp
  | cons a l ih =>
    by_cases h : p a = true
    · simp [h, ih]
    · simp [h]
theorem drop_nil {α : Type} (p : α → Bool) (l : List α) : (l.reverse.dropWhile p).reverse.dropWhile p = [] ↔ ∀ x ∈ l, p x = true := by
  rw [dropWhile_nil]
  constructor
  · intro h x hx
    by_cases hq : ∀ y ∈ l, p y = true
    · exact hq x hx
    · have hr : ¬ ∀ y ∈ l.reverse, p y = true := fun h' => hq fun y hy => h' y (by simpa using hy)
      rw [← dropWhile_nil] at hr
      obtain ⟨a, r, hd⟩ := List.exists_cons_of_ne_nil hr
      have h1 := List.head?_dropWhile_not p l.reverse
      rw [hd] at h1
      have h2 := h a (by simp [hd])
      simp [h2] at h1
  · intro h x hx
    exact h x (by
      have := (List.dropWhile_sublist (l := l.reverse) p).subset (by simpa using hx)
      simpa using this)
theorem trimS_nil (l m : Bytes) : Lib.trimS l m = [] ↔ ∀ c ∈ l, c ∈ m := by
  unfold Lib.trimS Lib.trimLeftS Lib.trimRightS
  rw [drop_nil]
  simp
end Go.Pl
set_option linter.unusedVariables false
namespace Go.Pl
open Go
def goodF (l : Bytes) : Prop := 2 ≤ l.length ∧ l.length ≤ 50000 ∧ l.getLast? = some 10 ∧ (dedentOf [32] l).2 = true
instance (l : Bytes) : Decidable (goodF l) := inferInstanceAs (Decidable (_ ∧ _ ∧ _ ∧ _))
def headF (n : Nat) (fig : Bytes) : Bytes := [37, 97, 109, 101, 110, 100, 32] ++ Lib.itoa n ++ [32] ++ fig ++ [10]
def tailF (n : Nat) : Bytes := [37, 101, 110, 100, 32] ++ Lib.itoa n ++ [10]
theorem nDigits_le : ∀ (k u : Nat), u < 10 ^ (k + 1) → Lib.nDigits u ≤ k + 1
  | 0, u, h => by rw [Lib.nDigits_small (by simpa using h)]; omega
  | k + 1, u, h => by
    by_cases h' : u < 10
    · rw [Lib.nDigits_small h']; omega
    · rw [Lib.nDigits_big h']
      have := nDigits_le k (u / 10) (by rw [Nat.pow_succ] at h; omega)
      omega
theorem itoa_len (n : Nat) (h : n ≤ 9223372036854775807) : (Lib.itoa n).length ≤ 19 := by
  unfold Lib.itoa
  rw [if_neg (by omega), Lib.decDigits_length]
  have : ((n : Int)).toNat = n := by simp
  rw [this]
  exact nDigits_le 18 n (by omega)
theorem hasSuffix_one (l : Bytes) (c : UInt8) : Lib.hasSuffix l [c] = decide (l.getLast? = some c) := by
  have : Lib.hasSuffix l [c] = true ↔ l.getLast? = some c := by
    unfold Lib.hasSuffix
    rw [List.isSuffixOf_iff_suffix, List.singleton_suffix_iff_getLast?_eq_some]
  by_cases h : l.getLast? = some c
  · simp [this.2 h, h]
  · have : ¬ Lib.hasSuffix l [c] = true := fun h' => h (this.1 h')
    simp [this, h]
theorem atoiAll_bounds {l : Bytes} {v : Int} (h : Lib.atoiAll l = .ok v) : -9223372036854775808 ≤ v ∧ v ≤ 9223372036854775807 := by
  unfold Lib.atoiAll at h
  cases l with
  | nil => simp at h
  | cons c r =>
    simp only at h
    split at h
    · simp at h
    · simp at h
    · split at h
      · simp at h
      · split at h
        · simp at h
        · rename_i h1 h2
          simp only [Lib.NumEnd.ok.injEq] at h
          subst h
          by_cases hn : c.toNat = 45
          · simp only [hn, true_and, not_true, if_true] at *
            omega
          · simp only [hn, not_false_iff, true_and, if_false] at *
            omega
def numberF (l : Bytes) : Nat :=
  match Lib.atoiAll l with
  | .ok v => if Lib.itoa v = l ∧ 1 ≤ v ∧ v ≤ 50000 then v.toNat else 0
  | _ => 0
def beginL : Bytes := [37, 97, 109, 101, 110, 100, 32]
def hexL : Bytes := [48, 49, 50, 51, 52, 53, 54, 55, 56, 57, 97, 98, 99, 100, 101, 102]
def hexAll (l : Bytes) : Prop := ∀ c ∈ l, c ∈ hexL
instance (l : Bytes) : Decidable (hexAll l) := inferInstanceAs (Decidable (∀ c ∈ l, c ∈ hexL))
theorem trimS_hex (l : Bytes) : Lib.trimS l [48, 49, 50, 51, 52, 53, 54, 55, 56, 57, 97, 98, 99, 100, 101, 102] = [] ↔ hexAll l := trimS_nil l hexL
def openedF (l : Bytes) : Nat × Bytes × Bool :=
  (numberF (upto 32 (Lib.trimPrefix l beginL)), past 32 (Lib.trimPrefix l beginL),
    decide (beginL <+: l ∧ 32 ∈ Lib.trimPrefix l beginL ∧ 2 ≤ numberF (upto 32 (Lib.trimPrefix l beginL)) ∧ (past 32 (Lib.trimPrefix l beginL)).length = 8 ∧ hexAll (past 32 (Lib.trimPrefix l beginL))))
def openingF (l : Bytes) : Bool :=
  if beginL <+: l then decide (¬ (32 ∈ l.drop 7 ∧ numberF (upto 32 (l.drop 7)) < 2) ∧ ¬ (upto 32 (l.drop 7) ≠ [] ∧ numberF (upto 32 (l.drop 7)) = 0) ∧ (past 32 (l.drop 7)).length ≤ 8 ∧ hexAll (past 32 (l.drop 7)))
  else decide (l <+: beginL)
theorem numberF_none {l : Bytes} (h : ∀ v, Lib.atoiAll l ≠ .ok v) : numberF l = 0 := by
  unfold numberF
  cases ho : Lib.atoiAll l with
  | ok v => exact absurd ho (h v)
  | _ => rfl
theorem numberF_ok {l : Bytes} {v : Int} (h : Lib.atoiAll l = .ok v) : (numberF l : Int) = if Lib.itoa v = l ∧ 1 ≤ v ∧ v ≤ 50000 then v else 0 := by
  unfold numberF
  rw [h]
  simp only
  split
  · omega
  · rfl
theorem numberF_le (l : Bytes) : numberF l ≤ 50000 := by
  unfold numberF
  split
  · split
    · omega
    · omega
  · omega
def lengthF (n : Int) : Int := if n < 2 ∨ 50000 < n then 0 else (headF n.toNat [48, 48, 48, 48, 48, 48, 48, 48]).length + n + (tailF n.toNat).length
theorem hasPrefix_dec (l m : Bytes) : Lib.hasPrefix l m = decide (m <+: l) := by
  by_cases h : m <+: l
  · simp [(hasPrefix_iff l m).2 h, h]
  · have : ¬ Lib.hasPrefix l m = true := fun h' => h ((hasPrefix_iff l m).1 h')
    simp [this, h]
def partlyF (body : Bytes) (lack : Int) : Int :=
  if (dedentOf [32] body).2 = true ∧ ¬ ((body = [] ∨ body.getLast? = some 10) ∧ lack < 2) then 2 else 3
theorem rep8 : Lib.repeatL [48] 8 = [48, 48, 48, 48, 48, 48, 48, 48] := by decide
theorem headF_length (n : Nat) (f : Bytes) : (headF n f).length = (Lib.itoa n).length + f.length + 9 := by simp [headF] <;> omega
theorem tailF_length (n : Nat) : (tailF n).length = (Lib.itoa n).length + 6 := by simp [tailF] <;> omega
theorem decDigits_big {u : Nat} (h : ¬ u < 10) : Lib.decDigits u = Lib.decDigits (u / 10) ++ Lib.decDigits (u % 10) := by
  rw [Lib.decDigits, dif_neg h, Lib.decDigits_one (Nat.mod_lt u (by omega))]
end Go.Pl
set_option linter.unusedVariables false
set_option maxRecDepth 100000
namespace Go.Proofs.YtplagcbifecagaaGreatDoor
open Go Go.Av Go.RowKit Go.Proofs Go.Pl
theorem contains1_c (l : List UInt8) (c : UInt8) (st : List AObj) (hl : l.length < 4294967281) : ACall E 164 [Sv l, Sv [c]] st fun r st' => r = Bv (decide (c ∈ l)) ∧ st' = st := by
  rw [← contains_one]; exact contains_c l [c] st hl
theorem hasPrefix1_c (l : List UInt8) (c : UInt8) (st : List AObj) : ACall E 69 [Sv l, Sv [c]] st fun r st' => r = Bv (decide (l.head? = some c)) ∧ st' = st := by
  rw [← hasPrefix_one]; exact hasPrefix_c l [c] st
theorem blank_c (l : List UInt8) (st : List AObj) : ACall E 165 [Sv l] st fun r st' => r = Bv (decide (blankL l)) ∧ st' = st := by
  refine acall_pure (pure_v _) (acall_of_awp Tryz.func165 rfl (Nat.le_of_ble_eq_true rfl) ?_)
  cases l with
  | nil =>
    repeat' (first
      | apply awp_seq
      | apply awp_region
      | apply aops_nil
      | apply aops_move
      | apply aops_assign
      | (apply aops_cmpS; exact rfl; exact rfl; exact rfl)
      | (apply aops_guard_any; exact rfl; exact rfl; exact rfl; exact rfl)
      | (apply gd_skip_f; (first | exact rfl | assumption))
      | (apply aops_pick_any; exact rfl; first | (apply pk_dt; (first | assumption | omega)) | (apply pk_df; (first | assumption | omega)) | (apply pk_nt; (first | exact rfl | assumption)) | (apply pk_nf; (first | exact rfl | assumption)) | (apply pk_t; (first | exact rfl | assumption)) | (apply pk_f; (first | exact rfl | assumption)))
      | apply awp_ret)
    refine aret_plain rfl (ares_one rfl) ⟨congrArg Bv (?_ : _ = _), _, rfl⟩
    simp [blankL]
  | cons c l =>
    have hne : ¬ (c :: l) = [] := by simp
    repeat' (first
      | apply awp_seq
      | apply awp_region
      | apply aops_nil
      | apply aops_move
      | apply aops_assign
      | (apply aops_cmpS; exact rfl; exact rfl; exact rfl)
      | (apply aops_guard_any; exact rfl; exact rfl; exact rfl; exact rfl)
      | (apply gd_run_d; (first | assumption | omega))
      | (apply aops_pick_any; exact rfl; first | (apply pk_dt; (first | assumption | omega)) | (apply pk_df; (first | assumption | omega)) | (apply pk_nt; (first | exact rfl | assumption)) | (apply pk_nf; (first | exact rfl | assumption)) | (apply pk_t; (first | exact rfl | assumption)) | (apply pk_f; (first | exact rfl | assumption)))
      | apply awp_ret
      | refine aops_sliceS rfl rfl rfl ⟨_, rfl⟩ (by omega) (by omega) (by simp; omega) ?_
      | (apply aops_call1; exact Tryz.call164; exact contains_c _ _ _ (by simp)))
    refine aret_plain rfl (ares_one rfl) ⟨congrArg Bv (?_ : _ = _), _, rfl⟩
    exact blank_contains c l
theorem key_c (l : List UInt8) (st : List AObj) (hl : l.length < 4294967281) : ACall E 145 [Sv l] st fun r st' => r = Bv (decide (keyOk l)) ∧ st' = st := by
  refine acall_pure (pure_v _) (acall_of_awp Tryz.func145 rfl (Nat.le_of_ble_eq_true rfl) ?_)
  repeat' (first
    | apply awp_seq
    | apply awp_region
    | apply aops_nil
    | apply aops_move
    | apply aops_assign
    | (apply aops_cmpI; exact rfl; exact rfl; exact rfl)
    | (apply aops_cmpS; exact rfl; exact rfl; exact rfl)
    | (apply aops_not; exact rfl)
    | (apply aops_guard_any; exact rfl; exact rfl; exact rfl; exact rfl)
    | (apply gd_run_n; (first | assumption | omega))
    | (apply gd_skip_d; (first | assumption | omega))
    | (apply gd_run_nt; (first | exact rfl | assumption))
    | (apply gd_skip_nf; (first | exact rfl | assumption))
    | (apply gd_split_n <;> intro h)
    | (apply gd_skip_t; (first | exact rfl | assumption))
    | (apply gd_split_d <;> intro h)
    | (apply aops_pick_any; exact rfl; first | (apply pk_dt; (first | assumption | omega)) | (apply pk_df; (first | assumption | omega)) | (apply pk_nt; (first | exact rfl | assumption)) | (apply pk_nf; (first | exact rfl | assumption)) | (apply pk_t; (first | exact rfl | assumption)) | (apply pk_f; (first | exact rfl | assumption)))
    | (apply awp_cond_any; exact rfl; first | (apply cd_dt; (first | assumption | omega)) | (apply cd_df; (first | assumption | omega)) | (apply cd_nt; (first | exact rfl | assumption)) | (apply cd_nf; (first | exact rfl | assumption)) | (apply cd_n <;> intro h) | (apply cd_t; (first | exact rfl | assumption)) | (apply cd_f; (first | exact rfl | assumption)) | (apply cd_d <;> intro h) | (apply cd_s <;> intro h))
    | (apply aops_lenS; exact rfl; exact rfl; exact rfl)
    | apply awp_skip
    | apply awp_ret
    | (apply aops_call1; exact Tryz.call164; exact contains1_c _ _ _ hl)
    | (apply aops_call1; exact Tryz.call69; exact hasPrefix1_c _ _ _)
    | (apply aops_call1; exact Tryz.call165; exact blank_c _ _))
  all_goals refine aret_plain rfl (ares_one rfl) ⟨congrArg Bv (?_ : _ = _), _, rfl⟩
  all_goals simp [keyOk, *]
  all_goals omega
end Go.Proofs.YtplagcbifecagaaGreatDoor
set_option linter.unusedVariables false
set_option maxRecDepth 100000
namespace Go.Proofs.YtplagcbifecagaaGreatDoor
open Go Go.Av Go.RowKit Go.Proofs Go.Pl
theorem E_ok : EnvOk E := fun _ _ _ h hb hB _ h2 => h _ (hb.trans (h2.mono hB))
end Go.Proofs.YtplagcbifecagaaGreatDoor
set_option linter.unusedVariables false
set_option maxRecDepth 100000
namespace Go.Proofs
open Go.Shelf Go.RowKit
variable {P : Program} {ρ : Ren}
set_option maxHeartbeats 4000000 in
theorem bstr_exact (L : Lays.n169 P ρ) (X : Builder.Extra P ρ) (b n c : Nat) (ad : Option Addr) (q : Value) (str : ByteArray) (w w2 : World) (c1 : w.drew.cell? ⟨b, 1, none⟩ = some (.slice ad n c))
    (hSD : (Builtin.unsafeSliceData_ #[(ρ.t 37)] (ρ.t 127) #[.slice ad n c]).run P w.drew = .ok q w.drew)
    (hUS : (Builtin.unsafeString_ #[(ρ.t 127), (ρ.t 3)] (ρ.t 9) #[q, .int .i64 n]).run P w.drew = .ok (.string str) w2) :
    Calls P (ρ.f 169) #[.pointer (some ⟨b, 0, none⟩)] w fun e w' => e = .returned (.string str) ∧ w' = w2 := by
  have mixed := L.mixed
  have t72 := L.t72; have a72 := L.a72; have z72 := L.z72; have v72 := L.v72; have u72 := run_underlying L.t72
  have t70 := L.t70; have a70 := L.a70; have z70 := L.z70; have v70 := L.v70; have u70 := run_underlying L.t70
  have t37 := L.t37; have a37 := L.a37; have z37 := L.z37; have v37 := L.v37; have u37 := run_underlying L.t37
  have t127 := L.t127; have a127 := L.a127; have z127 := L.z127; have v127 := L.v127; have u127 := run_underlying L.t127
  have t3 := L.t3; have a3 := L.a3; have z3 := L.z3; have v3 := L.v3; have u3 := run_underlying L.t3
  have t9 := L.t9; have a9 := L.a9; have z9 := L.z9; have v9 := L.v9; have u9 := run_underlying L.t9
  have t5 := X.t5; have a5 := X.a5; have z5 := X.z5; have v5 := X.v5; have u5 := run_underlying X.t5
  go_enter L.f169, Body.n169_ntmps ρ
  go_wp2
  go_region_o
  all_goals (go_wp2; go_ret; exact ⟨rfl, rfl⟩)
end Go.Proofs
namespace Go.Proofs.YtplagcbifecagaaGreatDoor
open Go Go.Av Go.RowKit Go.Proofs
@[reducible] def bldO (ver : Nat) (q : AV) (l : List UInt8) (tp : Nat) : AObj := .cells ver 82 [q, .sl 1 (l.map Uv) (some tp)]
theorem noEscape_run (v : Value) (w : World) : (callFunc 114 #[v]).run E.P w = .ok (.value v) w := by
  have h := run_callFunc_extern (P := E.P) Tryz.func114 (by kernel_rfl) (by kernel_rfl) (by kernel_rfl) (e := Extern.AbiNoEscape.same) (by kernel_rfl) #[v] w
  rw [h, Lib.run_noEscape]
  rfl
theorem check_c (o ver : Nat) (q buf : AV) (st : List AObj) (ho : st[o]? = some (.cells ver 82 [q, buf])) (hq : q = .v (.pointer none) ∨ q = .bx o ver 0) :
    ACall E 79 [.bx o ver 0] st fun r st' => r = .tu [] ∧ st' = st.set o (.cells ver 82 [.bx o ver 0, buf]) := by
  have ho' : (st ++ [])[o]? = some (.cells ver 82 [q, buf]) := by rw [List.append_nil]; exact ho
  refine acall_of_awp Tryz.func79 rfl (Nat.le_of_ble_eq_true rfl) ?_
  rcases hq with rfl | rfl
  · skip
    repeat' (first
      | apply awp_seq
      | apply awp_region
      | apply aops_nil
      | apply aops_move
      | (apply awp_cond_any; exact rfl; first | (apply cd_dt; (first | assumption | omega)) | (apply cd_df; (first | assumption | omega)) | (apply cd_nt; (first | exact rfl | assumption)) | (apply cd_nf; (first | exact rfl | assumption)) | (apply cd_n <;> intro h) | (apply cd_t; (first | exact rfl | assumption)) | (apply cd_f; (first | exact rfl | assumption)) | (apply cd_d <;> intro h) | (apply cd_s <;> intro h))
      | (apply aops_fieldAddr_bx; exact rfl; exact rfl; exact rfl)
      | (apply aops_nilCheck; exact rfl; exact rfl)
      | (apply aops_ptrEqNil; exact rfl; exact rfl; exact rfl)
      | (apply aops_load_bx; exact rfl; exact ho'; exact rfl; exact rfl)
      | (apply aops_store_at; exact rfl; exact rfl; exact ho'; exact rfl; exact rfl; exact rfl; exact rfl; exact rfl; exact rfl)
      | (apply aops_toUnsafe; exact rfl; exact ho'; (simp); exact rfl; exact rfl; kernel_rfl)
      | (apply aops_fromUnsafe; exact rfl; exact ho'; exact rfl; exact rfl; exact rfl; kernel_rfl)
      | (apply aops_noEscape; exact noEscape_run; exact rfl))
    refine aret_plain rfl (ares_zero rfl) ⟨rfl, ?_⟩
    show (st ++ []).set o _ = _
    rw [List.append_nil]
    rfl
  · skip
    repeat' (first
      | apply awp_seq
      | apply awp_region
      | apply aops_nil
      | apply aops_move
      | (apply awp_cond_any; exact rfl; first | (apply cd_dt; (first | assumption | omega)) | (apply cd_df; (first | assumption | omega)) | (apply cd_nt; (first | exact rfl | assumption)) | (apply cd_nf; (first | exact rfl | assumption)) | (apply cd_n <;> intro h) | (apply cd_t; (first | exact rfl | assumption)) | (apply cd_f; (first | exact rfl | assumption)) | (apply cd_d <;> intro h) | (apply cd_s <;> intro h))
      | (apply aops_fieldAddr_bx; exact rfl; exact rfl; exact rfl)
      | (apply aops_nilCheck; exact rfl; exact rfl)
      | (apply aops_ptrEqNil; exact rfl; exact rfl; exact rfl)
      | apply awp_skip
      | (apply aops_load_bx; exact rfl; exact ho'; exact rfl; exact rfl)
      | (apply aops_ptrNeSame; exact rfl; exact rfl; exact ho'; exact rfl; exact rfl))
    refine aret_plain rfl (ares_zero rfl) ⟨rfl, ?_⟩
    show st ++ [] = _
    rw [List.append_nil, set_self ho]
theorem elem_u8 : ElemOk E.P 5 1 1 := ⟨_, _, rfl, rfl, rfl, rfl, rfl⟩
theorem bWrite_c (o ver tp : Nat) (q : AV) (l m : List UInt8) (st : List AObj) (ho : st[o]? = some (bldO ver q l tp)) (ht : st[tp]? = some (.tip l.length 1 5)) (hq : q = .v (.pointer none) ∨ q = .bx o ver 0) (hlen : l.length + m.length ≤ 140737488355328) :
    ACall E 41 [.bx o ver 0, Sv m] st fun r st' => r = .tu [Iv m.length, .v .nilIface] ∧ st' = (st.set o (bldO ver (.bx o ver 0) (l ++ m) tp)).set tp (.tip (l.length + m.length) 1 5) := by
  have hne : tp ≠ o := fun e => by rw [e, ho] at ht; simp at ht
  have ho' : (st ++ [])[o]? = some (bldO ver q l tp) := by rw [List.append_nil]; exact ho
  have ht' : (st ++ [])[tp]? = some (.tip l.length 1 5) := by rw [List.append_nil]; exact ht
  have h2 := get_set (y := .cells ver 82 [.bx o ver 0, .sl 1 (l.map Uv) (some tp)]) ho'
  have h3 := get_set_ne (y := .cells ver 82 [.bx o ver 0, .sl 1 (l.map Uv) (some tp)]) ht' (Ne.symm hne)
  have h4 := get_set_ne (y := .tip (l.length + m.length) 1 5) h2 hne
  have h5 : maxLen = 140737488351232 ∨ True := .inr trivial
  refine acall_of_awp Tryz.func41 rfl (Nat.le_of_ble_eq_true rfl) ?_
  repeat' (first
    | apply awp_seq
    | apply awp_region
    | apply aops_nil
    | apply aops_move
    | apply aops_assign
    | (apply aops_lenS; exact rfl; exact rfl; exact rfl)
    | (apply aops_fieldAddr_bx; exact rfl; exact rfl; exact rfl)
    | (apply aops_nilCheck; exact rfl; exact rfl)
    | apply awp_ret
    | (apply aops_call1; exact Tryz.call79; exact check_c o ver q _ (st ++ []) ho' hq)
    | (apply aops_load_bx; exact rfl; exact h2; exact rfl; exact rfl)
    | (apply aops_appendS; exact rfl; exact rfl; exact h3; (simp); exact rfl; exact rfl; exact elem_u8; (simp only [maxLen]; omega); omega)
    | (apply aops_store_at; exact rfl; exact rfl; exact h4; exact rfl; exact rfl; exact rfl; exact rfl; exact rfl; exact rfl))
  refine aret_plain rfl (ares_two rfl) ⟨rfl, ?_⟩
  show (((st ++ []).set o _).set tp _).set o (.cells ver 82 [.bx o ver 0, .sl 1 (l.map Uv ++ m.map Uv) (some tp)]) = _
  rw [List.append_nil, List.set_comm _ _ hne, List.set_set, ← List.map_append]
theorem bByte_c (o ver tp : Nat) (q : AV) (l : List UInt8) (c : UInt8) (st : List AObj) (ho : st[o]? = some (bldO ver q l tp)) (ht : st[tp]? = some (.tip l.length 1 5)) (hq : q = .v (.pointer none) ∨ q = .bx o ver 0) (hlen : l.length + 1 ≤ 140737488355328) :
    ACall E 93 [.bx o ver 0, Uv c] st fun r st' => r = .v .nilIface ∧ st' = (st.set o (bldO ver (.bx o ver 0) (l ++ [c]) tp)).set tp (.tip (l.length + 1) 1 5) := by
  have hne : tp ≠ o := fun e => by rw [e, ho] at ht; simp at ht
  have ho' : (st ++ [])[o]? = some (bldO ver q l tp) := by rw [List.append_nil]; exact ho
  have ht' : (st ++ [])[tp]? = some (.tip l.length 1 5) := by rw [List.append_nil]; exact ht
  have h2 := get_set (y := .cells ver 82 [.bx o ver 0, .sl 1 (l.map Uv) (some tp)]) ho'
  have h3 := get_set_ne (y := .cells ver 82 [.bx o ver 0, .sl 1 (l.map Uv) (some tp)]) ht' (Ne.symm hne)
  have h4 := get_set_ne (y := .tip (l.length + 1) 1 5) h2 hne
  refine acall_of_awp Tryz.func93 rfl (Nat.le_of_ble_eq_true rfl) ?_
  repeat' (first
    | apply awp_seq
    | apply awp_region
    | apply aops_nil
    | apply aops_move
    | apply aops_assign
    | (apply aops_fieldAddr_bx; exact rfl; exact rfl; exact rfl)
    | (apply aops_buildSlice; exact rfl; exact rfl; exact rfl; exact rfl; exact rfl; exact rfl; exact rfl; exact rfl; exact rfl)
    | (apply aops_nilCheck; exact rfl; exact rfl)
    | apply awp_ret
    | (apply aops_call1; exact Tryz.call79; exact check_c o ver q _ (st ++ []) ho' hq)
    | (apply aops_load_bx; exact rfl; exact h2; exact rfl; exact rfl)
    | (apply aops_append (m := 1); exact rfl; exact rfl; exact h3; (simp); exact rfl; exact rfl; exact elem_u8; exact rfl; exact rfl; (simp only [maxLen]; omega); omega)
    | (apply aops_store_at; exact rfl; exact rfl; exact h4; exact rfl; exact rfl; exact rfl; exact rfl; exact rfl; exact rfl))
  refine aret_plain rfl (ares_one rfl) ⟨rfl, ?_⟩
  show (((st ++ []).set o _).set tp _).set o (.cells ver 82 [.bx o ver 0, .sl 1 (l.map Uv ++ [c].map Uv) (some tp)]) = _
  rw [List.append_nil, List.set_comm _ _ hne, List.set_set, ← List.map_append]
theorem bString_c (o ver tp : Nat) (q : AV) (l : List UInt8) (st : List AObj) (ho : st[o]? = some (bldO ver q l tp)) (ht : st[tp]? = some (.tip l.length 1 5)) :
    ACall E 43 [.bx o ver 0] st fun r st' => r = Sv l ∧ st' = st.set tp .dead := by
  refine ⟨fun B0 w0 G vals w hL hA hR => ?_⟩
  obtain ⟨h0, h1, h2, h3, c, h4, h5, h6⟩ := hA.ob o _ ho
  obtain ⟨g0, g1, g2⟩ := hA.ob tp _ ht
  have hne : tp ≠ o := fun e => by rw [e, ho] at ht; simp at ht
  have hvals : vals = #[.pointer (some ⟨(G.ob o).blk, 0, none⟩)] := by
    have hs : vals.size = 1 := by have := hR.1; simpa using this.symm
    have h := hR.2 0 (.bx o ver 0) vals[0] rfl (by simp [hs])
    apply Array.ext
    · simp [hs]
    · intro i hi1 hi2
      have : i = 0 := by simp at hi2; omega
      subst this
      have e : vals[0] = .pointer (some ⟨(G.ob o).blk, 0, none⟩) := by
        generalize vals[0] = v at h
        cases h with
        | bx _ _ _ b hn e1 e2 => rw [e2 h1]
      simpa using e
  subst hvals
  have hc2 : c.size = 2 := by rw [← h5]; rfl
  have hrel := h6 1 (.sl 1 (l.map Uv) (some tp)) c[1] rfl (by simp [hc2])
  have hcell : w.drew.cell? ⟨(G.ob o).blk, 1, none⟩ = some c[1] := by
    have h4' : w.drew.heap[(G.ob o).blk]? = some (.cells c 82 (0, 0)) := h4
    simp [World.cell?, h4', hc2]
  generalize hv : c[1] = v at hrel hcell
  have hdrew : Below w.heap.size w w.drew := ⟨rfl, rfl, rfl, Nat.le_refl _, fun _ _ => rfl⟩
  have hA1 := (hA.kill tp).fresh hdrew
  have hl : (l.map Uv).length = l.length := by simp
  generalize hxs : l.map Uv = xs at hrel
  cases hrel with
  | sl0 _ _ base cap hto =>
    obtain ⟨_, rfl, rfl⟩ := hto tp rfl
    have hl0 : l = [] := by simpa using hxs
    subst hl0
    refine (bstr_exact Tryz.lays169 Tryz.Builder_Extra_169 (G.ob o).blk 0 0 none (.pointer none) .empty w w.drew hcell rfl (Lib.run_unsafeString_none w.drew _ _ _ none)).mono ?_
    rintro e w' ⟨rfl, rfl⟩
    exact ⟨_, G, Sv [], _, rfl, .refl G, hA1, .v _, rfl, rfl⟩
  | sl _ _ _ b off cap pub hp hw hlen hr hto hcap0 =>
    subst hxs
    rw [hl] at hto hcell
    obtain ⟨_, hn0, _, hcur⟩ := hto tp rfl
    obtain ⟨hb, rfl, hcp, hcm, hcl⟩ := hcur g1
    obtain ⟨hB, c2, vs, e1, e2, e3, e4⟩ := g2 hn0
    rw [hb] at e1 e2 hB
    have hcells : ∀ j x, l[j]? = some x → w.drew.cell? ((⟨b, 0, none⟩ : Addr).add j) = some (.int .u8 x.toNat) := fun j x hx => by
      obtain ⟨c3, T3, fz3, k1, k2⟩ := hA.pub b pub hp
      have k1' : w.drew.heap[b]? = some (.cells c3 T3 fz3) := k1
      have hj : j < (flat (l.map Uv)).length := by rw [flat_bytes]; simpa using lt_of_getElem? hx
      have hy : pub[0 + j]? = some (pub[0 + j]'(by omega)) := List.getElem?_eq_getElem (by omega)
      have hrj := hr j (Uv x) _ (by rw [flat_bytes]; simp [hx]) hy
      have : pub[0 + j]'(by omega) = .int .u8 x.toNat := by
        generalize pub[0 + j]'(by omega) = y at hrj
        cases hrj; rfl
      rw [this] at hy
      rw [Addr.add_lit]
      simp only [World.cell?, k1']
      simpa using k2 _ _ hy
    have hle : l.length ≤ c2.size := by rw [e4, ← hcp]; omega
    have e1' : w.drew.heap[b]? = some (.cells c2 5 (0, 0)) := e1
    have hUS := Lib.run_unsafeString_row (P := E.P) w.drew 124 3 9 5 rfl (by kernel_rfl) b c2.size (by simp [World.shape?, e1']) l (by rintro rfl; exact hn0 rfl) hle (by simp only [maxLen] at hcm; omega) hcells
    have hSD : (Builtin.unsafeSliceData_ #[80] 124 #[.slice (some ⟨b, 0, none⟩) l.length cap]).run E.P w.drew = .ok (.pointer (some ⟨b, 0, none⟩)) w.drew := Lib.run_unsafeSliceData_row _ _ _ _ _ _ (by omega)
    refine (bstr_exact Tryz.lays169 Tryz.Builder_Extra_169 (G.ob o).blk l.length cap (some ⟨b, 0, none⟩) _ _ w _ hcell hSD hUS).mono ?_
    rintro e w' ⟨rfl, rfl⟩
    have hfz : ∃ fz', (w.drew.freeze ⟨b, 0, none⟩ l.length).heap[b]? = some (.cells c2 5 fz') := by
      unfold World.freeze
      rw [if_neg hn0]
      simp [Array.getElem?_modify, e1']
    obtain ⟨fz', hfz⟩ := hfz
    have hoth : ∀ k, k ≠ b → (w.drew.freeze ⟨b, 0, none⟩ l.length).heap[k]? = w.drew.heap[k]? := fun k hk => by
      unfold World.freeze
      rw [if_neg hn0]
      simp [Array.getElem?_modify, Ne.symm hk]
    refine ⟨_, G, Sv l, _, rfl, .refl G, hA1.refroze e1' hfz hoth hB (by unfold World.freeze; rw [if_neg hn0]; simp) (by unfold World.freeze; rw [if_neg hn0]) (by unfold World.freeze; rw [if_neg hn0]) (by unfold World.freeze; rw [if_neg hn0]) (fun k x hx hlv => ?_), .v _, rfl, rfl⟩
    rcases getElem?_set' _ _ _ _ _ hx with ⟨_, e⟩ | ⟨k1, k2⟩
    · subst e; exact hlv.elim
    · have := hA.sep k tp x _ k1 k2 ht hlv hn0
      rwa [hb] at this
theorem bByte_loc (st loc loc' : List AObj) (k kt ver : Nat) (q : AV) (l : List UInt8) (c : UInt8) (hk : loc[k]? = some (bldO ver q l (st.length + kt))) (hkt : loc[kt]? = some (.tip l.length 1 5)) (hq : q = .v (.pointer none) ∨ q = .bx (st.length + k) ver 0)
    (hlen : l.length + 1 ≤ 140737488355328) (hl : loc' = (loc.set k (bldO ver (.bx (st.length + k) ver 0) (l ++ [c]) (st.length + kt))).set kt (.tip (l ++ [c]).length 1 5)) :
    ACall E 93 [.bx (st.length + k) ver 0, Uv c] (st ++ loc) fun r st' => r = .v .nilIface ∧ st' = st ++ loc' := by
  refine (bByte_c (st.length + k) ver (st.length + kt) q l c (st ++ loc) (get_loc hk) (get_loc hkt) hq hlen).mono fun r st' ⟨h1, h2⟩ => ⟨h1, ?_⟩
  rw [h2, set_loc, set_loc, hl, List.length_append]
  rfl
end Go.Proofs.YtplagcbifecagaaGreatDoor
set_option linter.unusedVariables false
set_option maxRecDepth 100000
namespace Go.Proofs.YtplagcbifecagaaGreatDoor
open Go Go.Av Go.RowKit Go.Proofs Go.Pl
theorem cut1_c (l : List UInt8) (c : UInt8) (st : List AObj) (hl : l.length < 4294967281) : ACall E 31 [Sv l, Sv [c]] st fun r st' => r = .tu [Sv (upto c l), Sv (past c l), Bv (decide (c ∈ l))] ∧ st' = st := by
  have := cut_c l [c] st hl
  rw [cut_one] at this
  exact this
@[reducible] def lineA (k : Nat) (text rest : List UInt8) : AV := .ag [Iv k, Iv ((text.length : Int) - rest.length), Sv (upto 10 rest), Bv (decide (10 ∈ rest))]
theorem split1_c (text : List UInt8) (o kb ver n : Nat) (I : Nat → List UInt8 → List AObj → Prop) (D : List AObj → Prop) (st : List AObj) (ht : text.length < 4294967281) (h0 : I 0 text st)
    (hI : ∀ k rest st', I k rest st' → st'.length = n ∧ st'[kb]? = some (.cells ver 9 [Sv text]))
    (hY : ∀ k rest st' own, I k rest st' → rest ≠ [] → rest.length ≤ text.length → AYield E o [lineA k text rest] (st' ++ [own]) fun b st2 => ∃ st3, st2 = st3 ++ [own] ∧ (b = true → I (k + 1) (past 10 rest) st3) ∧ (b = false → D st3)) :
    ACall E 85 [.yd o, .bx kb ver 0] st fun r st' => ∃ st3 ext', st' = st3 ++ ext' ∧ ((∃ k, I k [] st3) ∨ D st3) := by
  refine acall_of_awp Tryz.func85 rfl (Nat.le_of_ble_eq_true rfl) ?_
  obtain ⟨hn, hb⟩ := hI 0 text st h0
  subst hn
  repeat' (first
    | apply awp_seq
    | apply awp_block
    | apply awp_region
    | apply aops_nil
    | apply aops_assign
    | (apply aops_alloc; exact rfl; exact rfl)
    | (apply aops_store_loc; exact rfl; exact rfl; exact rfl; exact rfl; exact rfl; exact rfl; exact rfl; exact rfl; exact rfl; exact rfl; exact rfl)
    | (apply aops_build; exact rfl; exact rfl; exact rfl)
    | (apply aops_load_low; exact rfl; exact rfl; exact hb; exact rfl; exact rfl))
  refine awp_loopG (fun (x : Nat × List UInt8) s => match x with | (k, rest) => ∃ stk at' ta eb, I k rest stk ∧ k + rest.length ≤ text.length ∧ at' = (text.length : Int) - rest.length ∧ StA [(0, .yd o), (1, .bx kb ver 0), (3, .bx (st.length + 0) 0 0), (4, Sv rest)] (stk ++ (.cells 0 102 [Iv k, Iv at', Sv ta, Bv eb] :: [])) [] s) (fun x => x.2.length) (0, text)
    ⟨st, 0, [], false, h0, by simp, by simp, ?_⟩ ?_
  · exact stA_mk ⟨rfl, rfl, rfl, rfl, trivial⟩
  rintro ⟨k, rest⟩ _ ⟨stk, _, ta, eb, hi, hle, rfl, t, rfl⟩
  obtain ⟨hn, hb'⟩ := hI k rest stk hi
  repeat' (first
    | apply awp_seq
    | apply awp_block
    | apply awp_region
    | apply aops_nil
    | apply aops_move
    | apply aops_assign
    | (apply aops_extract; exact rfl; exact rfl)
    | (apply aops_cmpS; exact rfl; exact rfl; exact rfl)
    | (apply awp_cond_any; exact rfl; first | (apply cd_dt; (first | assumption | omega)) | (apply cd_df; (first | assumption | omega)) | (apply cd_nt; (first | exact rfl | assumption)) | (apply cd_nf; (first | exact rfl | assumption)) | (apply cd_n <;> intro h) | (apply cd_t; (first | exact rfl | assumption)) | (apply cd_f; (first | exact rfl | assumption)) | (apply cd_d <;> intro h) | (apply cd_s <;> intro h))
    | (apply aops_fieldAddr_bx; exact rfl; exact rfl; exact rfl)
    | apply awp_skip
    | apply awp_exit
    | (apply aops_call1; exact Tryz.call31; exact cut1_c _ _ _ (by omega))
    | (apply aops_store_locn; exact rfl; assumption; exact rfl; exact rfl; exact rfl; exact rfl; exact rfl; exact rfl; exact rfl; exact rfl; exact rfl; exact rfl)
    | (apply aops_load_locn; exact rfl; assumption; exact rfl; exact rfl; exact rfl; exact rfl))
  · refine aops_callYield rfl ((hY k rest stk _ hi h (by omega)).mono ?_)
    rintro b _ ⟨st3, rfl, h1, h2⟩
    cases b
    · skip
      repeat' (first
        | apply aops_nil
        | (apply aops_not; exact rfl)
        | (apply awp_cond_any; exact rfl; first | (apply cd_dt; (first | assumption | omega)) | (apply cd_df; (first | assumption | omega)) | (apply cd_nt; (first | exact rfl | assumption)) | (apply cd_nf; (first | exact rfl | assumption)) | (apply cd_n <;> intro h) | (apply cd_t; (first | exact rfl | assumption)) | (apply cd_f; (first | exact rfl | assumption)) | (apply cd_d <;> intro h) | (apply cd_s <;> intro h))
        | apply awp_ret)
      refine aret_plain rfl (ares_zero rfl) ⟨st3, _, rfl, .inr (h2 rfl)⟩
    · have hi3 := h1 rfl
      obtain ⟨hn3, hb3⟩ := hI _ _ _ hi3
      have hp := past_length 10 rest
      have hr0 : 0 < rest.length := List.length_pos_iff.2 h
      repeat' (first
        | apply awp_seq
        | apply awp_region
        | apply aops_nil
        | apply aops_move
        | (apply aops_not; exact rfl)
        | (apply awp_cond_any; exact rfl; first | (apply cd_dt; (first | assumption | omega)) | (apply cd_df; (first | assumption | omega)) | (apply cd_nt; (first | exact rfl | assumption)) | (apply cd_nf; (first | exact rfl | assumption)) | (apply cd_n <;> intro h) | (apply cd_t; (first | exact rfl | assumption)) | (apply cd_f; (first | exact rfl | assumption)) | (apply cd_d <;> intro h) | (apply cd_s <;> intro h))
        | (apply aops_lenS; exact rfl; exact rfl; exact rfl)
        | (apply aops_add; exact rfl; exact rfl; exact wrap_i64 (by omega) (by omega))
        | (apply aops_sub; exact rfl; exact rfl; exact wrap_i64 (by omega) (by omega))
        | (apply aops_fieldAddr_bx; exact rfl; exact rfl; exact rfl)
        | apply awp_skip
        | (apply aops_load_low; exact rfl; exact rfl; exact hb3; exact rfl; exact rfl)
        | (apply aops_store_locn; exact rfl; assumption; exact rfl; exact rfl; exact rfl; exact rfl; exact rfl; exact rfl; exact rfl; exact rfl; exact rfl; exact rfl)
        | (apply aops_load_locn; exact rfl; assumption; exact rfl; exact rfl; exact rfl; exact rfl))
      exact ⟨(k + 1, past 10 rest), ⟨st3, _, _, _, hi3, by omega, rfl, stA_mk ⟨rfl, rfl, rfl, rfl, trivial⟩⟩, by simp only; omega⟩
  · have hr : rest = [] := Classical.not_not.1 h
    subst hr
    exact aret_plain rfl (ares_zero rfl) ⟨stk, _, rfl, .inl ⟨k, hi⟩⟩
end Go.Proofs.YtplagcbifecagaaGreatDoor
set_option linter.unusedVariables false
set_option maxRecDepth 100000
namespace Go.Proofs.YtplagcbifecagaaGreatDoor
open Go Go.Av Go.RowKit Go.Proofs Go.Pl
theorem split_c (text : List UInt8) (st st' : List AObj) (n : Nat) (hn : st.length = n) (hst : st ++ [.cells 0 9 [Sv text]] = st') : ACall E 52 [Sv text] st fun r st1 => r = .fn (.func 85) [] [.bx n 0 0] ∧ st1 = st' := by
  subst hn
  subst hst
  refine acall_of_awp Tryz.func52 rfl (Nat.le_of_ble_eq_true rfl) ?_
  repeat' (first
    | apply awp_seq
    | apply awp_region
    | apply aops_nil
    | apply aops_assign
    | apply aops_makeFunc
    | (apply aops_box; exact rfl; exact rfl; exact rfl; exact rfl)
    | apply awp_ret)
  exact aret_plain rfl (ares_one rfl) ⟨rfl, rfl⟩
theorem bWrite_loc (st loc loc' : List AObj) (k kt ver : Nat) (q : AV) (l m : List UInt8) (hk : loc[k]? = some (bldO ver q l (st.length + kt))) (hkt : loc[kt]? = some (.tip l.length 1 5)) (hq : q = .v (.pointer none) ∨ q = .bx (st.length + k) ver 0)
    (hlen : l.length + m.length ≤ 140737488355328) (hl : loc' = (loc.set k (bldO ver (.bx (st.length + k) ver 0) (l ++ m) (st.length + kt))).set kt (.tip (l ++ m).length 1 5)) :
    ACall E 41 [.bx (st.length + k) ver 0, Sv m] (st ++ loc) fun r st' => r = .tu [Iv m.length, .v .nilIface] ∧ st' = st ++ loc' := by
  refine (bWrite_c (st.length + k) ver (st.length + kt) q l m (st ++ loc) (get_loc hk) (get_loc hkt) hq hlen).mono fun r st' ⟨h1, h2⟩ => ⟨h1, ?_⟩
  rw [h2, set_loc, set_loc, hl, List.length_append]
theorem bString_loc (st loc loc' : List AObj) (k kt ver : Nat) (q : AV) (l : List UInt8) (hk : loc[k]? = some (bldO ver q l (st.length + kt))) (hkt : loc[kt]? = some (.tip l.length 1 5)) (hl : loc' = loc.set kt .dead) :
    ACall E 43 [.bx (st.length + k) ver 0] (st ++ loc) fun r st' => r = Sv l ∧ st' = st ++ loc' := by
  refine (bString_c (st.length + k) ver (st.length + kt) q l (st ++ loc) (get_loc hk) (get_loc hkt)).mono fun r st' ⟨h1, h2⟩ => ⟨h1, ?_⟩
  rw [h2, set_loc, hl]
@[reducible] def dedL (st : List AObj) (by' text : List UInt8) (q : AV) (acc : List UInt8) (lp : AObj) : List AObj :=
  [.cells 0 9 [Sv by'], .cells 0 9 [Sv []], .cells 0 4 [Bv false], bldO 0 q acc (st.length + 5), .cells 0 9 [Sv text], .tip acc.length 1 5, .dfr, lp]
theorem dedent_c (text by' : List UInt8) (st : List AObj) (hl : text.length < 4294967281) : ACall E 24 [Sv text, Sv by'] st fun r st' => r = .tu [Sv (dedentOf by' text).1, Bv (dedentOf by' text).2] ∧ st' = st := by
  refine acall_pure (pure_tu2v _ _) (acall_of_awp Tryz.func24 rfl (Nat.le_of_ble_eq_true rfl) ?_)
  repeat' (first
    | apply awp_seq
    | apply awp_region
    | apply aops_nil
    | apply aops_move
    | (apply aops_alloc; exact rfl; exact rfl)
    | (apply aops_box; exact rfl; exact rfl; exact rfl; exact rfl))
  refine aops_call1 Tryz.call52 (split_c text _ (st ++ [.cells 0 9 [Sv by'], .cells 0 9 [Sv []], .cells 0 4 [Bv false], .cells 0 82 [.v (.pointer none), nilSl], .cells 0 9 [Sv text]]) (st.length + 4) ?_ ?_) ?_
  · show (st ++ [_, _, _, _]).length = _
    simp
  · show (st ++ [_, _, _, _]) ++ [_] = _
    rw [List.append_assoc]
    rfl
  repeat' (first
    | apply awp_block
    | apply aops_nil)
  refine awp_tipCell (o := st.length + 3) (j := 1) (sz := 1) (T' := 5) (get_loc rfl) rfl ?_
  refine awp_state [(3, .bx (st.length + 0) 0 0), (4, .bx (st.length + 1) 0 0), (5, .bx (st.length + 2) 0 0), (6, .bx (st.length + 3) 0 0), (11, .fn (.func 85) [] [.bx (st.length + 4) 0 0])]
    (st ++ [.cells 0 9 [Sv by'], .cells 0 9 [Sv []], .cells 0 4 [Bv false], bldO 0 (.v (.pointer none)) [] (st.length + 5), .cells 0 9 [Sv text], .tip 0 1 5]) [] ⟨rfl, rfl, rfl, rfl, rfl, trivial⟩ ?_ rfl (fun t => ?_)
  · show (st ++ [_, _, _, _, _]).set (st.length + 3) (.cells 0 82 [_, .sl 1 [] (some (st ++ [_, _, _, _, _]).length)]) ++ [_] = _
    rw [set_loc, List.append_assoc]
    simp
  refine awp_rangeF (st := st) (loc := [.cells 0 9 [Sv by'], .cells 0 9 [Sv []], .cells 0 4 [Bv false], bldO 0 (.v (.pointer none)) [] (st.length + 5), .cells 0 9 [Sv text], .tip 0 1 5]) rfl rfl Tryz.call85 fun F hF => ?_
  refine ACall.mono (split1_c text (st.length + 7) (st.length + 4) 0 (st.length + 8)
    (fun _ rest st' => ∃ q acc don, (q = .v (.pointer none) ∨ q = .bx (st.length + 3) 0 0) ∧ linesOf text = don ++ linesOf rest ∧ (∀ x ∈ don, by' <+: x.1) ∧ acc = don.flatMap (fun x => x.1.drop by'.length ++ lineEnd x.2) ∧ acc.length + rest.length ≤ text.length ∧ st' = st ++ dedL st by' text q acc (F .ready none))
    (fun st' => (¬ ∀ x ∈ linesOf text, by' <+: x.1) ∧ ∃ q acc, st' = st ++ dedL st by' text q acc (F .done (some .ret)))
    (st ++ dedL st by' text (.v (.pointer none)) [] (F .ready none)) hl ⟨_, [], [], .inl rfl, rfl, by simp, rfl, by simp, rfl⟩ ?_ ?_) ?_
  · rintro k rest _ ⟨q, acc, don, hq, h1, h2, h3, h4, rfl⟩
    exact ⟨by simp, get_loc rfl⟩
  · rintro k rest _ own ⟨q, acc, don, hq, h1, h2, h3, h4, rfl⟩ hne hle
    refine ayield_retL ?_
    rw [List.append_assoc]
    refine ayield_F hF (get_loc rfl) rfl fun l => ?_
    repeat' (first
      | apply awp_region
      | apply aops_nil
      | (apply aops_alloc; exact rfl; exact rfl)
      | (apply aops_store_loc; exact rfl; exact rfl; exact rfl; exact rfl; exact rfl; exact rfl; exact rfl; exact rfl; exact rfl; exact rfl; exact rfl))
    refine ⟨get_loc rfl, rfl, ?_⟩
    refine awp_state [(3, .bx (st.length + 0) 0 0), (4, .bx (st.length + 1) 0 0), (5, .bx (st.length + 2) 0 0), (6, .bx (st.length + 3) 0 0), (7, .bx (st.length + 9) 0 0)]
      (st ++ (dedL st by' text q acc (F .busy none) ++ [own, .cells 0 102 (lineA k text rest).cells])) [] ⟨rfl, rfl, rfl, rfl, rfl, trivial⟩ ?_ rfl (fun t => ?_)
    · show (st ++ (dedL st by' text q acc (F .ready none) ++ [own, _])).set (st.length + 7) _ = _
      rw [set_loc]
      rfl
    have hb1 := trimPrefix_le (upto 10 rest) by'
    have hb2 := upto_length_le 10 rest
    have hmem : (upto 10 rest, decide (10 ∈ rest)) ∈ linesOf text := by rw [h1, linesOf_cons hne]; simp
    have hcons := linesOf_cons hne
    have hpl := past_length 10 rest
    have hlt : 10 ∈ rest → (upto 10 rest).length < rest.length := upto_length_lt
    repeat' (first
      | apply awp_seq
      | apply awp_block
      | apply awp_region
      | apply aops_nil
      | apply aops_move
      | apply aops_assign
      | (apply aops_extract; exact rfl; exact rfl)
      | (apply aops_not; exact rfl)
      | (apply awp_cond_any; exact rfl; first | (apply cd_dt; (first | assumption | omega)) | (apply cd_df; (first | assumption | omega)) | (apply cd_nt; (first | exact rfl | assumption)) | (apply cd_nf; (first | exact rfl | assumption)) | (apply cd_n <;> intro h) | (apply cd_t; (first | exact rfl | assumption)) | (apply cd_f; (first | exact rfl | assumption)) | (apply cd_d <;> intro h) | (apply cd_s <;> intro h))
      | (apply aops_fieldAddr_bx; exact rfl; exact rfl; exact rfl)
      | (apply aops_load_loc; exact rfl; exact rfl; exact rfl; exact rfl; exact rfl)
      | (apply aops_store_loc; exact rfl; exact rfl; exact rfl; exact rfl; exact rfl; exact rfl; exact rfl; exact rfl; exact rfl; exact rfl; exact rfl)
      | apply awp_skip
      | apply awp_ret
      | (apply aops_call1; exact Tryz.call53; exact cutPrefix_c _ _ _)
      | (refine aops_call1 Tryz.call41 (bWrite_loc st _ _ 3 5 0 _ _ _ rfl rfl ?_ ?_ rfl) ?_; (first | exact hq | exact .inr rfl); (first | omega | (simp; omega))))
    · have hno : ¬ ∀ x ∈ linesOf text, by' <+: x.1 := fun hall => by
        have := (hasPrefix_iff _ _).2 (hall _ hmem)
        simp_all
      refine ⟨get_loc rfl, st ++ (dedL st by' text q acc (F .done (some .ret)) ++ [own]), [.cells 0 102 (lineA k text rest).cells], ?_, ?_, st ++ dedL st by' text q acc (F .done (some .ret)), (List.append_assoc _ _ _).symm, nofun, fun _ => ⟨hno, q, acc, rfl⟩⟩
      · show (st ++ _).set (st.length + 7) _ = _
        rw [set_loc, List.append_assoc st]
        rfl
      · exact keptL_pre (.same _ (.same _ (.same _ (.same _ (.same _ (.same _ (.same _ (keptF hF (keptL_refl _ _))))))))) st
    all_goals
      have hpre : by' <+: upto 10 rest := (hasPrefix_iff _ _).1 (by simp_all)
      have htp := trimPrefix_of hpre
    · refine ⟨get_loc rfl, st ++ (dedL st by' text (.bx (st.length + 3) 0 0) (acc ++ Lib.trimPrefix (upto 10 rest) by' ++ [10]) (F .ready none) ++ [own]), [.cells 0 102 (lineA k text rest).cells], ?_, ?_,
        st ++ dedL st by' text (.bx (st.length + 3) 0 0) (acc ++ Lib.trimPrefix (upto 10 rest) by' ++ [10]) (F .ready none), (List.append_assoc _ _ _).symm, fun _ => ⟨_, _, don ++ [(upto 10 rest, true)], .inr rfl, ?_, ?_, ?_, ?_, rfl⟩, nofun⟩
      · show (st ++ _).set (st.length + 7) _ = _
        rw [set_loc, List.append_assoc st]
        rfl
      · refine keptL_pre (.same _ (.same _ (.same _ (.cut (cutOb_cells ?_) (.same _ (.cut cutOb_tip (.same _ (keptF hF (keptL_refl _ _))))))))) st
        intro x hx
        simp only [List.mem_cons, List.not_mem_nil, or_false] at hx
        rcases hx with rfl | rfl
        · exact cut_bx (by simp)
        · exact cut_bytes (by simp)
      · rw [h1, hcons]; simp_all
      · intro x hx
        rcases List.mem_append.1 hx with hx | hx
        · exact h2 x hx
        · simp at hx; subst hx; exact hpre
      · rw [h3, htp]; simp [lineEnd]
      · have := hlt (by assumption)
        simp
        omega
    · refine ⟨get_loc rfl, st ++ (dedL st by' text (.bx (st.length + 3) 0 0) (acc ++ Lib.trimPrefix (upto 10 rest) by') (F .ready none) ++ [own]), [.cells 0 102 (lineA k text rest).cells], ?_, ?_,
        st ++ dedL st by' text (.bx (st.length + 3) 0 0) (acc ++ Lib.trimPrefix (upto 10 rest) by') (F .ready none), (List.append_assoc _ _ _).symm, fun _ => ⟨_, _, don ++ [(upto 10 rest, false)], .inr rfl, ?_, ?_, ?_, ?_, rfl⟩, nofun⟩
      · show (st ++ _).set (st.length + 7) _ = _
        rw [set_loc, List.append_assoc st]
        rfl
      · refine keptL_pre (.same _ (.same _ (.same _ (.cut (cutOb_cells ?_) (.same _ (.cut cutOb_tip (.same _ (keptF hF (keptL_refl _ _))))))))) st
        intro x hx
        simp only [List.mem_cons, List.not_mem_nil, or_false] at hx
        rcases hx with rfl | rfl
        · exact cut_bx (by simp)
        · exact cut_bytes (by simp)
      · rw [h1, hcons]; simp_all
      · intro x hx
        rcases List.mem_append.1 hx with hx | hx
        · exact h2 x hx
        · simp at hx; subst hx; exact hpre
      · rw [h3, htp]; simp [lineEnd]
      · simp
        omega
  · rintro r st' ⟨st3, ext, rfl, ⟨k, q, acc, don, hq, h1, h2, h3, h4, rfl⟩ | ⟨hno, q, acc, rfl⟩⟩
    · refine ⟨.ready, none, nofun, by rw [List.append_assoc]; exact get_loc rfl, ?_⟩
      refine awp_state [(4, .bx (st.length + 1) 0 0), (5, .bx (st.length + 2) 0 0), (6, .bx (st.length + 3) 0 0)] (st ++ (dedL st by' text q acc .dead ++ ext)) [st.length + 6] ⟨rfl, rfl, rfl, trivial⟩ ?_ rfl (fun t => ?_)
      · show ((st ++ _) ++ ext).set (st.length + 7) _ = _
        rw [List.append_assoc, set_loc]
        rfl
      repeat' (first
        | apply awp_seq
        | apply awp_region
        | apply aops_nil
        | (apply aops_store_loc; exact rfl; exact rfl; exact rfl; exact rfl; exact rfl; exact rfl; exact rfl; exact rfl; exact rfl; exact rfl; exact rfl)
        | apply awp_ret
        | (refine aops_call1 Tryz.call43 (bString_loc st _ _ 3 5 0 _ _ rfl rfl rfl) ?_))
      refine aret_mark_loc rfl rfl rfl (aret_plain rfl (ares_cell2_loc rfl rfl rfl rfl rfl rfl rfl rfl rfl rfl) ⟨tu_sb (?_ : _ = _), _, rfl⟩)
      rw [linesOf_nil, List.append_nil] at h1
      unfold dedentOf
      rw [h1, if_pos h2, h3]
    · refine ⟨.done, some .ret, nofun, by rw [List.append_assoc]; exact get_loc rfl, ?_⟩
      refine awp_state [(4, .bx (st.length + 1) 0 0), (5, .bx (st.length + 2) 0 0), (6, .bx (st.length + 3) 0 0)] (st ++ (dedL st by' text q acc .dead ++ ext)) [st.length + 6] ⟨rfl, rfl, rfl, trivial⟩ ?_ rfl (fun t => ?_)
      · show ((st ++ _) ++ ext).set (st.length + 7) _ = _
        rw [List.append_assoc, set_loc]
        rfl
      repeat' (first
        | apply awp_ret)
      refine aret_mark_loc rfl rfl rfl (aret_plain rfl (ares_cell2_loc rfl rfl rfl rfl rfl rfl rfl rfl rfl rfl) ⟨tu_sb (?_ : _ = _), _, rfl⟩)
      unfold dedentOf
      rw [if_neg hno]
end Go.Proofs.YtplagcbifecagaaGreatDoor
set_option linter.unusedVariables false
set_option maxRecDepth 100000
namespace Go.Proofs.YtplagcbifecagaaGreatDoor
open Go Go.Av Go.RowKit Go.Proofs Go.Pl
theorem indented_c (l : List UInt8) (st : List AObj) (hl : l.length < 4294967281) : ACall E 92 [Sv l] st fun r st' => r = Bv (dedentOf [32] l).2 ∧ st' = st := by
  refine acall_pure (pure_v _) (acall_of_awp Tryz.func92 rfl (Nat.le_of_ble_eq_true rfl) ?_)
  repeat' (first
    | apply awp_seq
    | apply awp_region
    | apply aops_nil
    | apply aops_move
    | apply aops_assign
    | (apply aops_extract; exact rfl; exact rfl)
    | apply awp_ret
    | (apply aops_call1; exact Tryz.call24; exact dedent_c _ _ _ hl))
  exact aret_plain rfl (ares_one rfl) ⟨rfl, _, rfl⟩
theorem good_c (l : List UInt8) (st : List AObj) (hl : l.length < 4294967281) : ACall E 58 [Sv l] st fun r st' => r = Bv (decide (goodF l)) ∧ st' = st := by
  refine acall_pure (pure_v _) (acall_of_awp Tryz.func58 rfl (Nat.le_of_ble_eq_true rfl) ?_)
  repeat' (first
    | apply awp_seq
    | apply awp_region
    | apply aops_nil
    | apply aops_move
    | apply aops_assign
    | (apply aops_cmpI; exact rfl; exact rfl; exact rfl)
    | (apply aops_not; exact rfl)
    | (apply aops_guard_any; exact rfl; exact rfl; exact rfl; exact rfl)
    | (apply gd_run_n; (first | assumption | omega))
    | (apply gd_skip_d; (first | assumption | omega))
    | (apply gd_skip_t; (first | exact rfl | assumption))
    | (apply gd_split_d <;> intro h)
    | (apply aops_pick_any; exact rfl; first | (apply pk_dt; (first | assumption | omega)) | (apply pk_df; (first | assumption | omega)) | (apply pk_nt; (first | exact rfl | assumption)) | (apply pk_nf; (first | exact rfl | assumption)) | (apply pk_t; (first | exact rfl | assumption)) | (apply pk_f; (first | exact rfl | assumption)))
    | (apply awp_cond_any; exact rfl; first | (apply cd_dt; (first | assumption | omega)) | (apply cd_df; (first | assumption | omega)) | (apply cd_nt; (first | exact rfl | assumption)) | (apply cd_nf; (first | exact rfl | assumption)) | (apply cd_n <;> intro h) | (apply cd_t; (first | exact rfl | assumption)) | (apply cd_f; (first | exact rfl | assumption)) | (apply cd_d <;> intro h) | (apply cd_s <;> intro h))
    | (apply aops_lenS; exact rfl; exact rfl; exact rfl)
    | apply awp_skip
    | apply awp_ret
    | (apply aops_call1; exact Tryz.call55; exact hasSuffix_c _ _ _ (by omega))
    | (apply aops_call1; exact Tryz.call92; exact indented_c _ _ hl))
  all_goals refine aret_plain rfl (ares_one rfl) ⟨congrArg Bv (?_ : _ = _), _, rfl⟩
  · exact (decide_eq_false fun ⟨a, b, c, d⟩ => by omega).symm
  · exact (decide_eq_false fun ⟨a, b, c, d⟩ => by omega).symm
  · exact (decide_eq_false fun ⟨a, b, c, d⟩ => by simp_all [hasSuffix_one]).symm
  · have e : goodF l ↔ (dedentOf [32] l).2 = true := ⟨fun h => h.2.2.2, fun h => ⟨by omega, by omega, by simp_all [hasSuffix_one], h⟩⟩
    simp [e]
theorem head_c (n : Nat) (l : List UInt8) (st : List AObj) (hn : n ≤ 9223372036854775807) (hl : l.length < 4294967281) : ACall E 59 [Iv n, Sv l] st fun r st' => r = Sv (headF n l) ∧ st' = st := by
  refine acall_pure (pure_v _) (acall_of_awp Tryz.func59 rfl (Nat.le_of_ble_eq_true rfl) ?_)
  have h1 := itoa_len n hn
  repeat' (first
    | apply awp_seq
    | apply awp_region
    | apply aops_nil
    | apply aops_move
    | apply aops_assign
    | (apply aops_concat; exact rfl; exact rfl; (first | omega | (simp only [List.length_append, List.length_cons, List.length_nil]; omega) | (simp; omega)))
    | apply awp_ret
    | (apply aops_call1; exact Tryz.call50; exact itoa_c _ _ (by omega) (by omega)))
  exact aret_plain rfl (ares_one rfl) ⟨rfl, _, rfl⟩
theorem tail_c (n : Nat) (st : List AObj) (hn : n ≤ 9223372036854775807) : ACall E 62 [Iv n] st fun r st' => r = Sv (tailF n) ∧ st' = st := by
  refine acall_pure (pure_v _) (acall_of_awp Tryz.func62 rfl (Nat.le_of_ble_eq_true rfl) ?_)
  have h1 := itoa_len n hn
  repeat' (first
    | apply awp_seq
    | apply awp_region
    | apply aops_nil
    | apply aops_move
    | apply aops_assign
    | (apply aops_concat; exact rfl; exact rfl; (first | omega | (simp only [List.length_append, List.length_cons, List.length_nil]; omega) | (simp; omega)))
    | apply awp_ret
    | (apply aops_call1; exact Tryz.call50; exact itoa_c _ _ (by omega) (by omega)))
  exact aret_plain rfl (ares_one rfl) ⟨rfl, _, rfl⟩
theorem number_c (l : List UInt8) (st : List AObj) (hl : l.length < 4294967281) : ACall E 95 [Sv l] st fun r st' => r = Iv (numberF l) ∧ st' = st := by
  refine acall_pure (pure_v _) (acall_of_awp Tryz.func95 rfl (Nat.le_of_ble_eq_true rfl) ?_)
  repeat' (first
    | apply awp_seq
    | apply awp_region
    | apply aops_nil
    | apply aops_move
    | apply aops_assign)
  refine aops_call Tryz.call71 ((atoi_c l _ (by omega)).mono ?_)
  rintro _ _ ⟨rfl, n, x, rfl, hx⟩
  rcases x with _ | ⟨t', y⟩
  · simp only at hx
    have hb := atoiAll_bounds hx
    repeat' (first
      | apply awp_seq
      | apply awp_region
      | apply aops_nil
      | apply aops_move
      | apply aops_assign
      | (apply aops_extract; exact rfl; exact rfl)
      | (apply aops_cmpI; exact rfl; exact rfl; exact rfl)
      | (apply aops_cmpS; exact rfl; exact rfl; exact rfl)
      | (apply aops_guard_any; exact rfl; exact rfl; exact rfl; exact rfl)
      | (apply gd_run_n; (first | assumption | omega))
      | (apply gd_skip_d; (first | assumption | omega))
      | (apply gd_run_f; (first | exact rfl | assumption))
      | (apply gd_skip_t; (first | exact rfl | assumption))
      | (apply gd_split_d <;> intro h)
      | (apply aops_pick_any; exact rfl; first | (apply pk_dt; (first | assumption | omega)) | (apply pk_df; (first | assumption | omega)) | (apply pk_nt; (first | exact rfl | assumption)) | (apply pk_nf; (first | exact rfl | assumption)) | (apply pk_t; (first | exact rfl | assumption)) | (apply pk_f; (first | exact rfl | assumption)))
      | (apply awp_cond_any; exact rfl; first | (apply cd_dt; (first | assumption | omega)) | (apply cd_df; (first | assumption | omega)) | (apply cd_nt; (first | exact rfl | assumption)) | (apply cd_nf; (first | exact rfl | assumption)) | (apply cd_n <;> intro h) | (apply cd_t; (first | exact rfl | assumption)) | (apply cd_f; (first | exact rfl | assumption)) | (apply cd_d <;> intro h) | (apply cd_s <;> intro h))
      | (apply aops_nilNeNil; exact rfl; exact rfl)
      | apply awp_skip
      | apply awp_ret
      | (apply aops_call1; exact Tryz.call50; exact itoa_c _ _ (by omega) (by omega)))
    all_goals refine aret_plain rfl (ares_one rfl) ⟨congrArg Iv (?_ : _ = _), _, rfl⟩
    all_goals rw [numberF_ok hx]
    · rw [if_neg (by simp_all)]
    · rw [if_neg (by omega)]
    · rw [if_neg (by omega)]
    · rw [if_pos ⟨Classical.not_not.1 (by assumption), by omega, by omega⟩]
  · simp only at hx
    repeat' (first
      | apply awp_seq
      | apply awp_region
      | apply aops_nil
      | apply aops_move
      | apply aops_assign
      | (apply aops_extract; exact rfl; exact rfl)
      | (apply aops_guard_any; exact rfl; exact rfl; exact rfl; exact rfl)
      | (apply gd_skip_t; (first | exact rfl | assumption))
      | (apply aops_pick_any; exact rfl; first | (apply pk_dt; (first | assumption | omega)) | (apply pk_df; (first | assumption | omega)) | (apply pk_nt; (first | exact rfl | assumption)) | (apply pk_nf; (first | exact rfl | assumption)) | (apply pk_t; (first | exact rfl | assumption)) | (apply pk_f; (first | exact rfl | assumption)))
      | (apply awp_cond_any; exact rfl; first | (apply cd_dt; (first | assumption | omega)) | (apply cd_df; (first | assumption | omega)) | (apply cd_nt; (first | exact rfl | assumption)) | (apply cd_nf; (first | exact rfl | assumption)) | (apply cd_n <;> intro h) | (apply cd_t; (first | exact rfl | assumption)) | (apply cd_f; (first | exact rfl | assumption)) | (apply cd_d <;> intro h) | (apply cd_s <;> intro h))
      | (apply aops_errNeNil; exact rfl; exact rfl)
      | apply awp_ret)
    refine aret_plain rfl (ares_one rfl) ⟨congrArg Iv (?_ : _ = _), _, rfl⟩
    rw [numberF_none hx]
    rfl
theorem opened_c (l : List UInt8) (st : List AObj) (hl : l.length < 4294967281) : ACall E 64 [Sv l] st fun r st' => r = .tu [Iv (openedF l).1, Sv (openedF l).2.1, Bv (openedF l).2.2] ∧ st' = st := by
  refine acall_pure (pure_tu3v _ _ _) (acall_of_awp Tryz.func64 rfl (Nat.le_of_ble_eq_true rfl) ?_)
  have hb1 := trimPrefix_le l beginL
  have hb2 := upto_length_le 32 (Lib.trimPrefix l beginL)
  have hb3 := past_length 32 (Lib.trimPrefix l beginL)
  repeat' (first
    | apply awp_seq
    | apply awp_region
    | apply aops_nil
    | apply aops_move
    | apply aops_assign
    | (apply aops_extract; exact rfl; exact rfl)
    | (apply aops_cmpI; exact rfl; exact rfl; exact rfl)
    | (apply aops_cmpS; exact rfl; exact rfl; exact rfl)
    | (apply aops_guard_any; exact rfl; exact rfl; exact rfl; exact rfl)
    | (apply gd_run_d; (first | assumption | omega))
    | (apply gd_skip_n; (first | assumption | omega))
    | (apply gd_run_t; (first | exact rfl | assumption))
    | (apply gd_skip_f; (first | exact rfl | assumption))
    | (apply gd_split_d <;> intro h)
    | (apply gd_split <;> intro h)
    | (apply aops_pick_any; exact rfl; first | (apply pk_dt; (first | assumption | omega)) | (apply pk_df; (first | assumption | omega)) | (apply pk_nt; (first | exact rfl | assumption)) | (apply pk_nf; (first | exact rfl | assumption)) | (apply pk_t; (first | exact rfl | assumption)) | (apply pk_f; (first | exact rfl | assumption)))
    | (apply aops_lenS; exact rfl; exact rfl; exact rfl)
    | apply awp_ret
    | (apply aops_call1; exact Tryz.call53; exact cutPrefix_c l beginL _)
    | (apply aops_call1; exact Tryz.call31; exact cut1_c (Lib.trimPrefix l beginL) 32 _ (by omega))
    | (apply aops_call1; exact Tryz.call95; exact number_c (upto 32 (Lib.trimPrefix l beginL)) _ (by omega))
    | (apply aops_call1; exact Tryz.call96; exact trimA_c _ _ _ (by omega) rfl rfl))
  all_goals refine aret_plain rfl (ares_three rfl) ⟨tu_isb (?_ : _ = _), _, rfl⟩
  all_goals simp only [openedF, Prod.mk.injEq, true_and]
  all_goals clear hb1 hb2 hb3
  all_goals have c3 : (2 : Int) ≤ ↑(numberF (upto 32 (Lib.trimPrefix l beginL))) ↔ 2 ≤ numberF (upto 32 (Lib.trimPrefix l beginL)) := by omega
  all_goals have c4 : (↑(past 32 (Lib.trimPrefix l beginL)).length : Int) = 8 ↔ (past 32 (Lib.trimPrefix l beginL)).length = 8 := by omega
  all_goals simp only [c3, c4, hasPrefix_dec, trimS_hex] at *
  all_goals clear c3 c4
  all_goals simp_all
  all_goals first | (intros; omega) | skip
theorem opening_c (l : List UInt8) (st : List AObj) (hl : l.length < 4294967281) : ACall E 63 [Sv l] st fun r st' => r = Bv (openingF l) ∧ st' = st := by
  refine acall_pure (pure_v _) (acall_of_awp Tryz.func63 rfl (Nat.le_of_ble_eq_true rfl) ?_)
  have hb1 := trimPrefix_le l beginL
  have hb2 := upto_length_le 32 (Lib.trimPrefix l beginL)
  have hb3 := past_length 32 (Lib.trimPrefix l beginL)
  repeat' (first
    | apply awp_seq
    | apply awp_block
    | apply awp_region
    | apply aops_nil
    | apply aops_move
    | apply aops_assign
    | (apply aops_extract; exact rfl; exact rfl)
    | (apply aops_cmpI; exact rfl; exact rfl; exact rfl)
    | (apply aops_cmpS; exact rfl; exact rfl; exact rfl)
    | (apply aops_not; exact rfl)
    | (apply aops_guard_any; exact rfl; exact rfl; exact rfl; exact rfl)
    | (apply gd_run_d; (first | assumption | omega))
    | (apply gd_skip_n; (first | assumption | omega))
    | (apply gd_split_d <;> intro h)
    | (apply aops_pick_any; exact rfl; first | (apply pk_dt; (first | assumption | omega)) | (apply pk_df; (first | assumption | omega)) | (apply pk_nt; (first | exact rfl | assumption)) | (apply pk_nf; (first | exact rfl | assumption)) | (apply pk_t; (first | exact rfl | assumption)) | (apply pk_f; (first | exact rfl | assumption)))
    | (apply awp_cond_any; exact rfl; first | (apply cd_dt; (first | assumption | omega)) | (apply cd_df; (first | assumption | omega)) | (apply cd_nt; (first | exact rfl | assumption)) | (apply cd_nf; (first | exact rfl | assumption)) | (apply cd_n <;> intro h) | (apply cd_t; (first | exact rfl | assumption)) | (apply cd_f; (first | exact rfl | assumption)) | (apply cd_d <;> intro h) | (apply cd_s <;> intro h))
    | (apply aops_lenS; exact rfl; exact rfl; exact rfl)
    | apply awp_skip
    | apply awp_ret
    | (apply aops_call1; exact Tryz.call53; exact cutPrefix_c l beginL _)
    | (apply aops_call1; exact Tryz.call69; exact hasPrefix_c _ _ _)
    | (apply aops_call1; exact Tryz.call31; exact cut1_c (Lib.trimPrefix l beginL) 32 _ (by omega))
    | (apply aops_call1; exact Tryz.call95; exact number_c (upto 32 (Lib.trimPrefix l beginL)) _ (by omega))
    | (apply aops_call1; exact Tryz.call96; exact trimA_c _ _ _ (by omega) rfl rfl))
  all_goals refine aret_plain rfl (ares_one rfl) ⟨congrArg Bv (?_ : _ = _), _, rfl⟩
  all_goals clear hb1 hb2 hb3
  all_goals by_cases hp : beginL <+: l
  all_goals have c1 : (↑(numberF (upto 32 (Lib.trimPrefix l beginL))) : Int) < 2 ↔ numberF (upto 32 (Lib.trimPrefix l beginL)) < 2 := by omega
  all_goals have c2 : (↑(numberF (upto 32 (Lib.trimPrefix l beginL))) : Int) = 0 ↔ numberF (upto 32 (Lib.trimPrefix l beginL)) = 0 := by omega
  all_goals have c4 : (↑(past 32 (Lib.trimPrefix l beginL)).length : Int) ≤ 8 ↔ (past 32 (Lib.trimPrefix l beginL)).length ≤ 8 := by omega
  all_goals simp only [c1, c2, c4, hasPrefix_dec, trimS_hex] at *
  all_goals clear c1 c2 c4
  all_goals try (have e : Lib.trimPrefix l beginL = l.drop 7 := trimPrefix_of hp
                 simp only [e] at *)
  all_goals unfold openingF
  all_goals first | rw [if_pos hp] | rw [if_neg hp]
  all_goals simp_all
  all_goals first | exact Iff.rfl | (intros; omega) | skip
theorem partly_c (l : List UInt8) (n : Int) (st : List AObj) (hl : l.length < 4294967281) : ACall E 65 [Sv l, Iv n] st fun r st' => r = Iv (partlyF l n) ∧ st' = st := by
  refine acall_pure (pure_v _) (acall_of_awp Tryz.func65 rfl (Nat.le_of_ble_eq_true rfl) ?_)
  repeat' (first
    | apply awp_seq
    | apply awp_region
    | apply aops_nil
    | apply aops_move
    | apply aops_assign
    | (apply aops_cmpI; exact rfl; exact rfl; exact rfl)
    | (apply aops_cmpS; exact rfl; exact rfl; exact rfl)
    | (apply aops_not; exact rfl)
    | (apply aops_guard_any; exact rfl; exact rfl; exact rfl; exact rfl)
    | (apply gd_run_n; (first | assumption | omega))
    | (apply gd_skip_d; (first | assumption | omega))
    | (apply aops_guard_undef; exact rfl; exact rfl; exact rfl; exact rfl)
    | (apply gd_run_nf; (first | exact rfl | assumption))
    | (apply gd_skip_nt; (first | exact rfl | assumption))
    | (apply gd_split_n <;> intro h)
    | (apply gd_run_t; (first | exact rfl | assumption))
    | (apply gd_skip_f; (first | exact rfl | assumption))
    | (apply gd_split_d <;> intro h)
    | (apply gd_split <;> intro h)
    | (apply aops_pick_any; exact rfl; first | (apply pk_dt; (first | assumption | omega)) | (apply pk_df; (first | assumption | omega)) | (apply pk_nt; (first | exact rfl | assumption)) | (apply pk_nf; (first | exact rfl | assumption)) | (apply pk_t; (first | exact rfl | assumption)) | (apply pk_f; (first | exact rfl | assumption)))
    | (apply awp_cond_any; exact rfl; first | (apply cd_dt; (first | assumption | omega)) | (apply cd_df; (first | assumption | omega)) | (apply cd_nt; (first | exact rfl | assumption)) | (apply cd_nf; (first | exact rfl | assumption)) | (apply cd_n <;> intro h) | (apply cd_t; (first | exact rfl | assumption)) | (apply cd_f; (first | exact rfl | assumption)) | (apply cd_d <;> intro h) | (apply cd_s <;> intro h))
    | apply awp_skip
    | apply awp_ret
    | (apply aops_call1; exact Tryz.call55; exact hasSuffix_c _ _ _ (by omega))
    | (apply aops_call1; exact Tryz.call92; exact indented_c _ _ hl))
  all_goals refine aret_plain rfl (ares_one rfl) ⟨congrArg Iv (?_ : _ = _), _, rfl⟩
  all_goals simp_all [partlyF, hasSuffix_one]
theorem length_c (n : Int) (st : List AObj) : ACall E 67 [Iv n] st fun r st' => r = Iv (lengthF n) ∧ st' = st := by
  refine acall_pure (pure_v _) (acall_of_awp Tryz.func67 rfl (Nat.le_of_ble_eq_true rfl) ?_)
  by_cases hr : n < 2 ∨ 50000 < n
  · skip
    repeat' (first
      | apply awp_seq
      | apply awp_region
      | apply aops_nil
      | apply aops_move
      | apply aops_assign
      | (apply aops_cmpI; exact rfl; exact rfl; exact rfl)
      | (apply aops_guard_any; exact rfl; exact rfl; exact rfl; exact rfl)
      | (apply gd_run_n; (first | assumption | omega))
      | (apply gd_skip_d; (first | assumption | omega))
      | (apply gd_split_d <;> intro h)
      | (apply aops_pick_any; exact rfl; first | (apply pk_dt; (first | assumption | omega)) | (apply pk_df; (first | assumption | omega)) | (apply pk_nt; (first | exact rfl | assumption)) | (apply pk_nf; (first | exact rfl | assumption)) | (apply pk_t; (first | exact rfl | assumption)) | (apply pk_f; (first | exact rfl | assumption)))
      | (apply awp_cond_any; exact rfl; first | (apply cd_dt; (first | assumption | omega)) | (apply cd_df; (first | assumption | omega)) | (apply cd_nt; (first | exact rfl | assumption)) | (apply cd_nf; (first | exact rfl | assumption)) | (apply cd_n <;> intro h) | (apply cd_t; (first | exact rfl | assumption)) | (apply cd_f; (first | exact rfl | assumption)) | (apply cd_d <;> intro h) | (apply cd_s <;> intro h))
      | apply awp_ret)
    all_goals refine aret_plain rfl (ares_one rfl) ⟨congrArg Iv (?_ : _ = _), _, rfl⟩
    all_goals first | exact (if_pos hr).symm | omega
  · obtain ⟨k, rfl⟩ := Int.eq_ofNat_of_zero_le (by omega : 0 ≤ n)
    have h1 := itoa_len k (by omega)
    have h2 := headF_length k (Lib.repeatL [48] 8)
    have h3 := tailF_length k
    have h4 : (Lib.repeatL [48] 8).length = 8 := by decide
    repeat' (first
      | apply awp_seq
      | apply awp_region
      | apply aops_nil
      | apply aops_move
      | apply aops_assign
      | (apply aops_cmpI; exact rfl; exact rfl; exact rfl)
      | (apply aops_guard_any; exact rfl; exact rfl; exact rfl; exact rfl)
      | (apply gd_run_n; (first | assumption | omega))
      | (apply aops_pick_any; exact rfl; first | (apply pk_dt; (first | assumption | omega)) | (apply pk_df; (first | assumption | omega)) | (apply pk_nt; (first | exact rfl | assumption)) | (apply pk_nf; (first | exact rfl | assumption)) | (apply pk_t; (first | exact rfl | assumption)) | (apply pk_f; (first | exact rfl | assumption)))
      | (apply awp_cond_any; exact rfl; first | (apply cd_dt; (first | assumption | omega)) | (apply cd_df; (first | assumption | omega)) | (apply cd_nt; (first | exact rfl | assumption)) | (apply cd_nf; (first | exact rfl | assumption)) | (apply cd_n <;> intro h) | (apply cd_t; (first | exact rfl | assumption)) | (apply cd_f; (first | exact rfl | assumption)) | (apply cd_d <;> intro h) | (apply cd_s <;> intro h))
      | (apply aops_lenS; exact rfl; exact rfl; exact rfl)
      | (apply aops_add; exact rfl; exact rfl; exact wrap_i64 (by omega) (by omega))
      | apply awp_skip
      | apply awp_ret
      | (apply aops_call1; exact Tryz.call98; exact repeat_c [48] 8 _ (by omega) (by decide))
      | (apply aops_call1; exact Tryz.call59; exact head_c k _ _ (by omega) (by decide))
      | (apply aops_call1; exact Tryz.call62; exact tail_c k _ (by omega)))
    refine aret_plain rfl (ares_one rfl) ⟨congrArg Iv (?_ : _ = _), _, rfl⟩
    unfold lengthF
    rw [if_neg hr, ← rep8]
    rfl
end Go.Proofs.YtplagcbifecagaaGreatDoor
set_option linter.unusedVariables false
set_option maxRecDepth 100000
namespace Go.Proofs.YtplagcbifecagaaGreatDoor
open Go Go.Av Go.RowKit Go.Proofs Go.Pl
def crcBit (x : BitVec 32) : BitVec 32 := if x &&& 2147483648#32 ≠ 0#32 then (x <<< 1) ^^^ 79764919#32 else x <<< 1
def crcBits : Nat → BitVec 32 → BitVec 32
  | 0, x => x
  | n + 1, x => crcBit (crcBits n x)
theorem row_c (x : BitVec 32) (st : List AObj) : ACall E 152 [Wv x] st fun r st' => r = Wv (crcBits 4 (x <<< 28)) ∧ st' = st := by
  refine acall_pure (pure_v _) (acall_of_awp Tryz.func152 rfl (Nat.le_of_ble_eq_true rfl) ?_)
  repeat' (first
    | apply awp_seq
    | apply awp_block
    | apply awp_region
    | apply aops_nil
    | apply aops_move
    | apply aops_assign
    | (apply aops_shl32; exact rfl; exact rfl; exact rfl))
  refine awp_loopG (fun (k : Nat) s => k ≤ 4 ∧ StA [(3, Wv (crcBits k (x <<< 28))), (6, Iv k)] (st ++ []) [] s) (fun k => 4 - k) 0 ⟨by omega, stA_mk ⟨rfl, rfl, trivial⟩⟩ ?_
  rintro k _ ⟨hk, t, rfl⟩
  repeat' (first
    | apply awp_seq
    | apply awp_block
    | apply awp_region
    | apply aops_nil
    | apply aops_move
    | apply aops_assign
    | (apply aops_cmpI; exact rfl; exact rfl; exact rfl)
    | (apply awp_cond_any; exact rfl; first | (apply cd_dt; (first | assumption | omega)) | (apply cd_df; (first | assumption | omega)) | (apply cd_nt; (first | exact rfl | assumption)) | (apply cd_nf; (first | exact rfl | assumption)) | (apply cd_n <;> intro h) | (apply cd_t; (first | exact rfl | assumption)) | (apply cd_f; (first | exact rfl | assumption)) | (apply cd_d <;> intro h) | (apply cd_s <;> intro h))
    | (apply aops_add; exact rfl; exact rfl; exact wrap_i64 (by omega) (by omega))
    | (apply aops_xor32; exact rfl; exact rfl; (first | exact ofInt_toNat _ | exact rfl); first | exact ofInt_toNat _ | exact rfl)
    | (apply aops_and32; exact rfl; exact rfl; (first | exact ofInt_toNat _ | exact rfl); first | exact ofInt_toNat _ | exact rfl)
    | (apply aops_shl32; exact rfl; exact rfl; exact rfl)
    | apply awp_skip
    | apply awp_exit
    | apply awp_ret)
  · refine ⟨k + 1, ⟨by omega, stA_mk ⟨?_, rfl, trivial⟩⟩, by omega⟩
    refine congrArg Wv (?_ : _ = crcBit _)
    unfold crcBit
    rw [if_pos (fun e => by rename_i h; exact h ((toNat_zero _).2 e))]
    rfl
  · refine ⟨k + 1, ⟨by omega, stA_mk ⟨?_, rfl, trivial⟩⟩, by omega⟩
    refine congrArg Wv (?_ : _ = crcBit _)
    unfold crcBit
    rw [if_neg (fun e => by rename_i h; exact h (fun h' => e ((toNat_zero _).1 h')))]
  · have e : k = 4 := by omega
    subst e
    exact aret_plain rfl (ares_one rfl) ⟨rfl, _, rfl⟩
def rowT (i : Nat) : BitVec 32 := crcBits 4 (BitVec.ofNat 32 i <<< 28)
def tabA (k : Nat) : List AV := (List.range 16).map fun i => if i < k then Wv (rowT i) else .v (.int .u32 0)
theorem tabA_length (k : Nat) : (tabA k).length = 16 := by simp [tabA]
theorem tabA_next {k : Nat} (h : k < 16) : (tabA k).set k (Wv (rowT k)) = tabA (k + 1) := by
  apply List.ext_getElem
  · simp [tabA]
  · intro i h1 h2
    simp only [tabA, List.length_map, List.length_range] at h2
    rw [List.getElem_set]
    by_cases e : k = i
    · subst e
      simp [tabA]
    · rw [if_neg e]
      simp only [tabA, List.getElem_map, List.getElem_range]
      by_cases hi : i < k
      · rw [if_pos hi, if_pos (by omega)]
      · rw [if_neg hi, if_neg (by omega)]
theorem tabA_get {i : Nat} (h : i < 16) : (tabA 16)[i]? = some (Wv (rowT i)) := by
  simp [tabA, h]
theorem rows_c (st : List AObj) : ACall E 119 [] st fun r st' => r = .ag (tabA 16) ∧ st' = st := by
  refine acall_pure (pure_ag (fun x hx => ?_)) (acall_of_awp Tryz.func119 rfl (Nat.le_of_ble_eq_true rfl) ?_)
  · simp only [tabA, List.mem_map] at hx
    obtain ⟨i, _, rfl⟩ := hx
    split <;> exact pure_v _
  repeat' (first
    | apply awp_seq
    | apply awp_block
    | apply awp_region
    | apply aops_nil
    | apply aops_move
    | (apply aops_alloc; exact rfl; exact rfl))
  refine awp_loopG (fun (k : Nat) s => k ≤ 16 ∧ StA [(0, .bx (st.length + 0) 0 0), (2, Iv k)] (st ++ [.cells 0 156 (tabA k)]) [] s) (fun k => 16 - k) 0 ⟨by omega, stA_mk' ⟨rfl, rfl, trivial⟩ (by show st ++ [AObj.cells 0 _ _] = _; rfl)⟩ ?_
  rintro k _ ⟨hk, t, rfl⟩
  have hlen := tabA_length k
  repeat' (first
    | apply awp_seq
    | apply awp_block
    | apply awp_region
    | apply aops_nil
    | apply aops_move
    | apply aops_assign
    | (apply aops_cmpI; exact rfl; exact rfl; exact rfl)
    | (apply awp_cond_any; exact rfl; first | (apply cd_dt; (first | assumption | omega)) | (apply cd_df; (first | assumption | omega)) | (apply cd_nt; (first | exact rfl | assumption)) | (apply cd_nf; (first | exact rfl | assumption)) | (apply cd_n <;> intro h) | (apply cd_t; (first | exact rfl | assumption)) | (apply cd_f; (first | exact rfl | assumption)) | (apply cd_d <;> intro h) | (apply cd_s <;> intro h))
    | (apply aops_add; exact rfl; exact rfl; exact wrap_i64 (by omega) (by omega))
    | (apply aops_load_loc; exact rfl; exact rfl; exact rfl; exact rfl; exact rfl)
    | (apply aops_indexAddrA; exact rfl; exact rfl; exact rfl; exact rfl; first | assumption | omega | decide)
    | apply awp_skip
    | apply awp_exit
    | (apply aops_call1; exact Tryz.call152; exact row_c _ _)
    | (apply aops_convW; exact rfl; exact rfl; exact rfl; omega)
    | (apply aops_store_var; exact rfl; exact rfl; exact rfl; exact rfl; exact rfl; exact rfl; exact rfl; exact rfl; exact rfl; (show 0 + k * 1 + 1 ≤ _; omega); exact rfl))
  · refine ⟨k + 1, ⟨by omega, stA_mk' ⟨rfl, rfl, trivial⟩ ?_⟩, by omega⟩
    show st ++ [AObj.cells 0 _ (splice (tabA k) (0 + k * 1) [Wv (rowT k)])] = _
    rw [Nat.zero_add, Nat.mul_one, splice_one (by omega), tabA_next (by omega)]
  · have e : k = 16 := by omega
    subst e
    repeat' (first
      | apply aops_nil
      | (apply aops_store_loc; exact rfl; exact rfl; exact rfl; exact rfl; exact rfl; exact rfl; exact rfl; exact rfl; exact rfl; exact rfl; exact rfl)
      | apply awp_ret)
    exact aret_plain rfl (ares_cell1_loc rfl rfl rfl rfl rfl rfl) ⟨rfl, _, rfl⟩
def crcN (x : BitVec 32) (n : Nat) : BitVec 32 := (x <<< 4) ^^^ rowT ((x >>> 28) ^^^ BitVec.ofNat 32 n).toNat
def crcP (x : BitVec 32) (c : UInt8) : BitVec 32 := crcN (crcN x (c.toNat / 16)) (c.toNat % 16)
def addP (s : BitVec 32) (l : List UInt8) : BitVec 32 := ~~~ (l.foldl crcP (~~~ s))
def stepP (y : BitVec 32) (c : UInt8) : Nat → BitVec 32
  | 0 => y
  | 1 => crcN y (c.toNat / 16)
  | _ => crcP y c
theorem nib_lt (x : BitVec 32) {n : Nat} (h : n < 16) : ((x >>> 28) ^^^ BitVec.ofNat 32 n).toNat < 16 := by
  rw [BitVec.toNat_xor]
  refine Nat.xor_lt_two_pow (n := 4) ?_ ?_
  · rw [BitVec.toNat_ushiftRight, Nat.shiftRight_eq_div_pow]
    have := x.isLt
    omega
  · rw [BitVec.toNat_ofNat]
    omega
theorem tab_load {n : Nat} (h : n < 16) : aloadC 1 false (0 + n * 1) (tabA 16) = some (Wv (rowT n)) := by
  rw [Nat.zero_add, Nat.mul_one]
  exact tabA_get h
theorem add_c (x : BitVec 32) (l : List UInt8) (st : List AObj) (hl : l.length < 4294967281) : ACall E 94 [Wv x, Sv l] st fun r st' => r = Wv (addP x l) ∧ st' = st := by
  refine acall_pure (pure_v _) (acall_of_awp Tryz.func94 rfl (Nat.le_of_ble_eq_true rfl) ?_)
  repeat' (first
    | apply awp_seq
    | apply awp_block
    | apply awp_region
    | apply aops_nil
    | apply aops_move
    | apply aops_assign
    | (apply aops_lenS; exact rfl; exact rfl; exact rfl)
    | (apply aops_alloc; exact rfl; exact rfl)
    | (apply aops_store_loc; exact rfl; exact rfl; exact rfl; exact rfl; exact rfl; exact rfl; exact rfl; exact rfl; exact rfl; exact rfl; exact rfl)
    | (apply aops_compl32; exact rfl)
    | (apply aops_call1; exact Tryz.call119; exact rows_c _))
  refine awp_loopG (fun (k : Nat) s => k ≤ l.length ∧ StA [(1, Sv l), (5, .bx (st.length + 0) 0 0), (6, Wv ((l.take k).foldl crcP (~~~ x))), (14, Iv l.length), (15, Iv k)] (st ++ [.cells 0 156 (tabA 16)]) [] s) (fun k => l.length - k) 0 ⟨by omega, stA_mk' ⟨rfl, rfl, rfl, rfl, rfl, trivial⟩ (by show st ++ [AObj.cells 0 _ _] = _; rfl)⟩ ?_
  rintro k _ ⟨hk, t, rfl⟩
  generalize hx : (l.take k).foldl crcP (~~~ x) = y
  have hc := UInt8.toNat_lt (l.getD k 0)
  repeat' (first
    | apply awp_seq
    | apply awp_block
    | apply awp_region
    | apply aops_nil
    | apply aops_move
    | apply aops_assign
    | (apply aops_cmpI; exact rfl; exact rfl; exact rfl)
    | (apply awp_cond_any; exact rfl; first | (apply cd_dt; (first | assumption | omega)) | (apply cd_df; (first | assumption | omega)) | (apply cd_nt; (first | exact rfl | assumption)) | (apply cd_nf; (first | exact rfl | assumption)) | (apply cd_n <;> intro h) | (apply cd_t; (first | exact rfl | assumption)) | (apply cd_f; (first | exact rfl | assumption)) | (apply cd_d <;> intro h) | (apply cd_s <;> intro h))
    | (apply aops_compl32; exact rfl)
    | (apply awp_draw; exact rfl; kernel_rfl)
    | apply aq_nil
    | (apply aq_idx; exact rfl; exact rfl; exact rfl; first | assumption | omega | (simp; omega))
    | (apply aq_shr4; exact rfl; exact rfl)
    | (apply aq_and15; exact rfl; exact rfl)
    | (apply aq_convW; exact rfl; exact rfl; exact rfl; omega)
    | (apply aq_buildA; exact rfl; exact rfl; exact rfl)
    | apply aq_move
    | apply awp_skip
    | apply awp_exit
    | apply awp_ret)
  · generalize hcc : l.getD k 0 = c at *
    refine awp_loopG (fun (j : Nat) s => j ≤ 2 ∧ StA [(1, Sv l), (5, .bx (st.length + 0) 0 0), (6, Wv (stepP y c j)), (14, Iv l.length), (15, Iv k), (28, .ag [Wv (BitVec.ofNat 32 (c.toNat / 16)), Wv (BitVec.ofNat 32 (c.toNat % 16))]), (29, Iv j)] (st ++ [.cells 0 156 (tabA 16)]) [] s) (fun j => 2 - j) 0 ⟨by omega, stA_mk' ⟨rfl, rfl, rfl, rfl, rfl, rfl, rfl, trivial⟩ rfl⟩ ?_
    rintro j _ ⟨hj, t2, rfl⟩
    have hj3 : j = 0 ∨ j = 1 ∨ j = 2 := by omega
    have hn1 := nib_lt (stepP y c j) (n := c.toNat / 16) (by omega)
    have hn2 := nib_lt (stepP y c j) (n := c.toNat % 16) (by omega)
    generalize hz : stepP y c j = z at hn1 hn2 ⊢
    rcases hj3 with rfl | rfl | rfl
    · skip
      repeat' (first
        | apply awp_seq
        | apply awp_block
        | apply awp_region
        | apply aops_nil
        | apply aops_move
        | apply aops_assign
        | (apply aops_cmpI; exact rfl; exact rfl; exact rfl)
        | (apply awp_cond_any; exact rfl; first | (apply cd_dt; (first | assumption | omega)) | (apply cd_df; (first | assumption | omega)) | (apply cd_nt; (first | exact rfl | assumption)) | (apply cd_nf; (first | exact rfl | assumption)) | (apply cd_n <;> intro h) | (apply cd_t; (first | exact rfl | assumption)) | (apply cd_f; (first | exact rfl | assumption)) | (apply cd_d <;> intro h) | (apply cd_s <;> intro h))
        | (apply aops_add; exact rfl; exact rfl; exact wrap_i64 (by omega) (by omega))
        | (apply aops_xor32; exact rfl; exact rfl; (first | exact ofInt_toNat _ | exact rfl); first | exact ofInt_toNat _ | exact rfl)
        | (apply aops_shl32; exact rfl; exact rfl; exact rfl)
        | (apply aops_shr32; exact rfl; exact rfl; exact rfl)
        | (apply aops_indexA; exact rfl; exact rfl; exact rfl; exact rfl; (first | assumption | omega | decide); exact rfl)
        | (apply aops_indexAddrA; exact rfl; exact rfl; exact rfl; exact rfl; first | assumption | omega | decide)
        | apply awp_skip
        | (apply aops_load_loc; exact rfl; exact rfl; exact rfl; exact rfl; exact tab_load hn1))
      subst hz
      exact ⟨1, ⟨by omega, stA_mk' ⟨rfl, rfl, rfl, rfl, rfl, rfl, rfl, trivial⟩ rfl⟩, by omega⟩
    · skip
      repeat' (first
        | apply awp_seq
        | apply awp_block
        | apply awp_region
        | apply aops_nil
        | apply aops_move
        | apply aops_assign
        | (apply aops_cmpI; exact rfl; exact rfl; exact rfl)
        | (apply awp_cond_any; exact rfl; first | (apply cd_dt; (first | assumption | omega)) | (apply cd_df; (first | assumption | omega)) | (apply cd_nt; (first | exact rfl | assumption)) | (apply cd_nf; (first | exact rfl | assumption)) | (apply cd_n <;> intro h) | (apply cd_t; (first | exact rfl | assumption)) | (apply cd_f; (first | exact rfl | assumption)) | (apply cd_d <;> intro h) | (apply cd_s <;> intro h))
        | (apply aops_add; exact rfl; exact rfl; exact wrap_i64 (by omega) (by omega))
        | (apply aops_xor32; exact rfl; exact rfl; (first | exact ofInt_toNat _ | exact rfl); first | exact ofInt_toNat _ | exact rfl)
        | (apply aops_shl32; exact rfl; exact rfl; exact rfl)
        | (apply aops_shr32; exact rfl; exact rfl; exact rfl)
        | (apply aops_indexA; exact rfl; exact rfl; exact rfl; exact rfl; (first | assumption | omega | decide); exact rfl)
        | (apply aops_indexAddrA; exact rfl; exact rfl; exact rfl; exact rfl; first | assumption | omega | decide)
        | apply awp_skip
        | (apply aops_load_loc; exact rfl; exact rfl; exact rfl; exact rfl; exact tab_load hn2))
      subst hz
      exact ⟨2, ⟨by omega, stA_mk' ⟨rfl, rfl, rfl, rfl, rfl, rfl, rfl, trivial⟩ rfl⟩, by omega⟩
    · skip
      repeat' (first
        | apply awp_seq
        | apply awp_region
        | apply aops_nil
        | apply aops_move
        | (apply aops_cmpI; exact rfl; exact rfl; exact rfl)
        | (apply awp_cond_any; exact rfl; first | (apply cd_dt; (first | assumption | omega)) | (apply cd_df; (first | assumption | omega)) | (apply cd_nt; (first | exact rfl | assumption)) | (apply cd_nf; (first | exact rfl | assumption)) | (apply cd_n <;> intro h) | (apply cd_t; (first | exact rfl | assumption)) | (apply cd_f; (first | exact rfl | assumption)) | (apply cd_d <;> intro h) | (apply cd_s <;> intro h))
        | (apply aops_add; exact rfl; exact rfl; exact wrap_i64 (by omega) (by omega))
        | apply awp_exit)
      subst hz
      refine ⟨k + 1, ⟨by omega, stA_mk' ⟨rfl, rfl, ?_, rfl, rfl, trivial⟩ rfl⟩, by omega⟩
      refine congrArg Wv (?_ : crcP y c = _)
      rw [take_next (by omega), List.foldl_append, hx, hcc]
      rfl
  · have e : k = l.length := by omega
    subst e
    refine aret_plain rfl (ares_one rfl) ⟨congrArg Wv (?_ : _ = _), _, rfl⟩
    unfold addP
    rw [← hx, List.take_length]
theorem sum1_c (l : List UInt8) (st : List AObj) (hl : l.length < 4294967281) : ACall E 61 [.sl 1 [Sv l] none] st fun r st' => r = Wv (addP 0 l) ∧ st' = st := by
  refine acall_pure (pure_v _) (acall_of_awp Tryz.func61 rfl (Nat.le_of_ble_eq_true rfl) ?_)
  repeat' (first
    | apply awp_seq
    | apply awp_block
    | apply awp_region
    | apply aops_nil
    | apply aops_move
    | apply aops_assign
    | (apply aops_lenL; exact rfl; exact rfl; exact rfl; exact rfl))
  refine awp_loopG (fun (k : Nat) s => k ≤ 1 ∧ StA [(3, Wv (if k = 0 then 0 else addP 0 l)), (6, .sl 1 [Sv l] none), (7, Iv 1), (8, Iv k)] (st ++ []) [] s) (fun k => 1 - k) 0 ⟨by omega, stA_mk' ⟨rfl, rfl, rfl, rfl, trivial⟩ rfl⟩ ?_
  rintro k _ ⟨hk, t, rfl⟩
  have hk2 : k = 0 ∨ k = 1 := by omega
  rcases hk2 with rfl | rfl
  · skip
    repeat' (first
      | apply awp_seq
      | apply awp_block
      | apply awp_region
      | apply aops_nil
      | apply aops_move
      | apply aops_assign
      | (apply aops_cmpI; exact rfl; exact rfl; exact rfl)
      | (apply awp_cond_any; exact rfl; first | (apply cd_dt; (first | assumption | omega)) | (apply cd_df; (first | assumption | omega)) | (apply cd_nt; (first | exact rfl | assumption)) | (apply cd_nf; (first | exact rfl | assumption)) | (apply cd_n <;> intro h) | (apply cd_t; (first | exact rfl | assumption)) | (apply cd_f; (first | exact rfl | assumption)) | (apply cd_d <;> intro h) | (apply cd_s <;> intro h))
      | (apply aops_add; exact rfl; exact rfl; exact wrap_i64 (by omega) (by omega))
      | (apply aops_load_pp; exact rfl; exact rfl; exact rfl)
      | apply awp_skip
      | (apply aops_indexAddr; exact rfl; exact rfl; exact rfl; exact rfl; exact (rfl : (0 : Int) = ((0 : Nat) : Int)); exact rfl)
      | (apply aops_call1; exact Tryz.call94; exact add_c 0 _ _ hl))
    exact ⟨1, ⟨by omega, stA_mk' ⟨rfl, rfl, rfl, rfl, trivial⟩ rfl⟩, by omega⟩
  · skip
    repeat' (first
      | apply awp_seq
      | apply awp_region
      | apply aops_nil
      | apply aops_move
      | apply aops_assign
      | (apply aops_cmpI; exact rfl; exact rfl; exact rfl)
      | (apply awp_cond_any; exact rfl; first | (apply cd_dt; (first | assumption | omega)) | (apply cd_df; (first | assumption | omega)) | (apply cd_nt; (first | exact rfl | assumption)) | (apply cd_nf; (first | exact rfl | assumption)) | (apply cd_n <;> intro h) | (apply cd_t; (first | exact rfl | assumption)) | (apply cd_f; (first | exact rfl | assumption)) | (apply cd_d <;> intro h) | (apply cd_s <;> intro h))
      | apply awp_exit
      | apply awp_ret)
    exact aret_plain rfl (ares_one rfl) ⟨rfl, _, rfl⟩
def figP (s : BitVec 32) (j : Nat) : UInt8 := [48, 49, 50, 51, 52, 53, 54, 55, 56, 57, 97, 98, 99, 100, 101, 102].getD ((s >>> (4 * (7 - j))) &&& BitVec.ofInt 32 15).toNat 0
def figsP (s : BitVec 32) (n : Nat) : List UInt8 := (List.range n).map (figP s)
theorem figures_c (x : BitVec 32) (st : List AObj) : ACall E 60 [Wv x] st fun r st' => r = Sv (figsP x 8) ∧ st' = st := by
  refine acall_pure (pure_v _) (acall_of_awp Tryz.func60 rfl (Nat.le_of_ble_eq_true rfl) ?_)
  repeat' (first
    | apply awp_seq
    | apply awp_block
    | apply awp_region
    | apply aops_nil
    | apply aops_assign
    | (apply aops_alloc; exact rfl; exact rfl))
  refine awp_tipCell (o := st.length + 0) (j := 1) (sz := 1) (T' := 5) (get_loc rfl) rfl ?_
  refine awp_loopG (fun (j : Nat) s => j ≤ 8 ∧ ∃ q, (q = .v (.pointer none) ∨ q = .bx (st.length + 0) 0 0) ∧ StA [(0, Wv x), (3, .bx (st.length + 0) 0 0), (4, Iv (7 - (j : Int)))] (st ++ [bldO 0 q (figsP x j) (st.length + 1), .tip (figsP x j).length 1 5]) [] s) (fun j => 8 - j) 0
    ⟨by omega, _, .inl rfl, stA_mk' ⟨rfl, rfl, rfl, trivial⟩ ?_⟩ ?_
  · show (st ++ [_]).set (st.length + 0) (.cells 0 82 [_, .sl 1 [] (some (st ++ [_]).length)]) ++ [_] = _
    rw [set_loc, List.append_assoc]
    simp [figsP]
  rintro j _ ⟨hj, q, hq, t, rfl⟩
  have hf : (figsP x j).length = j := by simp [figsP]
  repeat' (first
    | apply awp_seq
    | apply awp_block
    | apply awp_region
    | apply aops_nil
    | apply aops_move
    | apply aops_assign
    | (apply aops_cmpI; exact rfl; exact rfl; exact rfl)
    | (apply awp_cond_any; exact rfl; first | (apply cd_dt; (first | assumption | omega)) | (apply cd_df; (first | assumption | omega)) | (apply cd_nt; (first | exact rfl | assumption)) | (apply cd_nf; (first | exact rfl | assumption)) | (apply cd_n <;> intro h) | (apply cd_t; (first | exact rfl | assumption)) | (apply cd_f; (first | exact rfl | assumption)) | (apply cd_d <;> intro h) | (apply cd_s <;> intro h))
    | (apply aops_sub; exact rfl; exact rfl; exact wrap_i64 (by omega) (by omega))
    | (apply aops_and32; exact rfl; exact rfl; (first | exact ofInt_toNat _ | exact rfl); first | exact ofInt_toNat _ | exact rfl)
    | apply awp_skip
    | apply awp_exit
    | apply awp_ret
    | (apply aops_mul; exact rfl; exact rfl; exact wrap_i64 (by omega) (by omega))
    | (apply aops_shr32z (n := 4 * (7 - j)); exact rfl; exact rfl; omega; omega)
    | (apply aops_idx; exact rfl; exact rfl; exact rfl; exact and15_lt _)
    | (refine aops_call1 Tryz.call93 (bByte_loc st _ _ 0 1 0 _ _ _ rfl rfl ?_ ?_ rfl) ?_; exact hq; omega)
    | (refine aops_call1 Tryz.call43 (bString_loc st _ _ 0 1 0 _ _ rfl rfl rfl) ?_))
  · have e1 : figsP x j ++ [figP x j] = figsP x (j + 1) := by simp [figsP, List.range_succ]
    refine ⟨j + 1, ⟨by omega, _, .inr rfl, stA_mk' ⟨rfl, rfl, congrArg Iv (by omega : (7 - (j : Int)) - 1 = 7 - ((j + 1 : Nat) : Int)), trivial⟩ ?_⟩, by omega⟩
    show st ++ [bldO 0 _ (figsP x j ++ [figP x j]) (st.length + 1), .tip (figsP x j ++ [figP x j]).length 1 5] = _
    rw [e1]
  · have e : j = 8 := by omega
    subst e
    exact aret_plain rfl (ares_one rfl) ⟨rfl, _, rfl⟩
end Go.Proofs.YtplagcbifecagaaGreatDoor
set_option linter.unusedVariables false
set_option maxRecDepth 100000
namespace Go.Proofs.YtplagcbifecagaaGreatDoor
open Go Go.Av Go.RowKit Go.Proofs Go.Pl
def sumF (l : List UInt8) : List UInt8 := figsP (addP 0 l) 8
theorem sumF_length (l : List UInt8) : (sumF l).length = 8 := by simp [sumF, figsP]
theorem is_c (f l : List UInt8) (st : List AObj) (hl : l.length < 4294967281) : ACall E 97 [Sv f, .sl 1 [Sv l] none] st fun r st' => r = Bv (decide (f = sumF l)) ∧ st' = st := by
  refine acall_pure (pure_v _) (acall_of_awp Tryz.func97 rfl (Nat.le_of_ble_eq_true rfl) ?_)
  repeat' (first
    | apply awp_seq
    | apply awp_region
    | apply aops_nil
    | apply aops_move
    | apply aops_assign
    | (apply aops_cmpS; exact rfl; exact rfl; exact rfl)
    | apply awp_ret
    | (apply aops_call1; exact Tryz.call61; exact sum1_c l _ hl)
    | (apply aops_call1; exact Tryz.call60; exact figures_c _ _))
  exact aret_plain rfl (ares_one rfl) ⟨rfl, _, rfl⟩
def closedF (rest body sums : List UInt8) (size : Int) : Int × List UInt8 × Int :=
  if rest.length < (tailF body.length).length ∧ rest <+: tailF body.length then (2, [], 0)
  else if tailF body.length <+: rest ∧ sums = sumF body then (1, body, size) else (3, [], 0)
theorem closed_c (rest body sums : List UInt8) (size : Int) (st : List AObj) (hb : body.length < 4294967281) : ACall E 66 [Sv rest, Sv body, Sv sums, Iv size] st fun r st' => r = .tu [Iv (closedF rest body sums size).1, Sv (closedF rest body sums size).2.1, Iv (closedF rest body sums size).2.2] ∧ st' = st := by
  refine acall_pure (pure_tu3v _ _ _) (acall_of_awp Tryz.func66 rfl (Nat.le_of_ble_eq_true rfl) ?_)
  repeat' (first
    | apply awp_seq
    | apply awp_block
    | apply awp_region
    | apply aops_nil
    | apply aops_move
    | apply aops_assign
    | (apply aops_cmpI; exact rfl; exact rfl; exact rfl)
    | (apply aops_guard_any; exact rfl; exact rfl; exact rfl; exact rfl)
    | (apply gd_run_d; (first | assumption | omega))
    | (apply gd_skip_n; (first | assumption | omega))
    | (apply gd_run_t; (first | exact rfl | assumption))
    | (apply gd_skip_f; (first | exact rfl | assumption))
    | (apply gd_split_d <;> intro h)
    | (apply gd_split <;> intro h)
    | (apply aops_pick_any; exact rfl; first | (apply pk_dt; (first | assumption | omega)) | (apply pk_df; (first | assumption | omega)) | (apply pk_nt; (first | exact rfl | assumption)) | (apply pk_nf; (first | exact rfl | assumption)) | (apply pk_t; (first | exact rfl | assumption)) | (apply pk_f; (first | exact rfl | assumption)))
    | (apply awp_cond_any; exact rfl; first | (apply cd_dt; (first | assumption | omega)) | (apply cd_df; (first | assumption | omega)) | (apply cd_nt; (first | exact rfl | assumption)) | (apply cd_nf; (first | exact rfl | assumption)) | (apply cd_n <;> intro h) | (apply cd_t; (first | exact rfl | assumption)) | (apply cd_f; (first | exact rfl | assumption)) | (apply cd_d <;> intro h) | (apply cd_s <;> intro h))
    | (apply aops_lenS; exact rfl; exact rfl; exact rfl)
    | (apply aops_buildSlice; exact rfl; exact rfl; exact rfl; exact rfl; exact rfl; exact rfl; exact rfl; exact rfl; exact rfl)
    | apply awp_skip
    | apply awp_ret
    | (apply aops_call1; exact Tryz.call62; exact tail_c body.length _ (by omega))
    | (apply aops_call1; exact Tryz.call69; exact hasPrefix_c _ _ _)
    | (apply aops_call1; exact Tryz.call97; exact is_c sums body _ hb))
  all_goals refine aret_plain rfl (ares_three rfl) ⟨tu_isi (?_ : _ = _), _, rfl⟩
  all_goals show _ = closedF rest body sums size
  all_goals
    have c1 : (↑rest.length : Int) < ↑(tailF body.length).length ↔ rest.length < (tailF body.length).length := by omega
    simp only [c1, hasPrefix_dec, decide_eq_true_eq, decide_eq_false_iff_not] at *
    simp_all [closedF] <;> (intros; omega)
def readF (l : List UInt8) : Int × List UInt8 × Int :=
  if 10 ∈ l then
    if (openedF (upto 10 l)).2.2 = true then
      if (past 10 l).length < (openedF (upto 10 l)).1 then (partlyF (past 10 l) ((openedF (upto 10 l)).1 - (past 10 l).length), [], 0)
      else if goodF ((past 10 l).take (openedF (upto 10 l)).1) then closedF ((past 10 l).drop (openedF (upto 10 l)).1) ((past 10 l).take (openedF (upto 10 l)).1) (openedF (upto 10 l)).2.1 (lengthF (openedF (upto 10 l)).1)
      else (3, [], 0)
    else (3, [], 0)
  else if openingF l = true then (2, [], 0) else (3, [], 0)
theorem read_c (l : List UInt8) (st : List AObj) (hl : l.length < 4294967281) : ACall E 28 [Sv l] st fun r st' => r = .tu [Iv (readF l).1, Sv (readF l).2.1, Iv (readF l).2.2] ∧ st' = st := by
  refine acall_pure (pure_tu3v _ _ _) (acall_of_awp Tryz.func28 rfl (Nat.le_of_ble_eq_true rfl) ?_)
  have hb2 := upto_length_le 10 l
  have hb3 := past_length 10 l
  have hn : (openedF (upto 10 l)).1 ≤ 50000 := numberF_le _
  repeat' (first
    | apply awp_seq
    | apply awp_block
    | apply awp_region
    | apply aops_nil
    | apply aops_move
    | apply aops_assign
    | (apply aops_extract; exact rfl; exact rfl)
    | (apply aops_cmpI; exact rfl; exact rfl; exact rfl)
    | (apply aops_not; exact rfl)
    | (apply awp_cond_any; exact rfl; first | (apply cd_dt; (first | assumption | omega)) | (apply cd_df; (first | assumption | omega)) | (apply cd_nt; (first | exact rfl | assumption)) | (apply cd_nf; (first | exact rfl | assumption)) | (apply cd_n <;> intro h) | (apply cd_t; (first | exact rfl | assumption)) | (apply cd_f; (first | exact rfl | assumption)) | (apply cd_d <;> intro h) | (apply cd_s <;> intro h))
    | (apply aops_lenS; exact rfl; exact rfl; exact rfl)
    | (apply aops_sub; exact rfl; exact rfl; exact wrap_i64 (by omega) (by omega))
    | (apply aops_upto; exact rfl; exact rfl; exact rfl; first | assumption | omega | (simp; omega))
    | (apply awp_draw; exact rfl; kernel_rfl)
    | apply aq_nil
    | apply aq_move
    | apply aq_assign
    | (apply aq_upto; exact rfl; exact rfl; exact rfl; first | assumption | omega | (simp; omega))
    | (apply aq_from; exact rfl; exact rfl; exact rfl; first | assumption | omega | (simp; omega))
    | (apply aq_extract; exact rfl; exact rfl)
    | apply awp_skip
    | apply awp_ret
    | (apply aops_call1; exact Tryz.call31; exact cut1_c l 10 _ hl)
    | (apply aops_call1; exact Tryz.call63; exact opening_c _ _ hl)
    | (apply aops_call1; exact Tryz.call64; exact opened_c (upto 10 l) _ (by omega))
    | (apply aops_call1; exact Tryz.call65; exact partly_c _ _ _ (by omega))
    | (apply aops_call1; exact Tryz.call58; exact good_c ((past 10 l).take (openedF (upto 10 l)).1) _ (by simp; omega))
    | (refine aq_call (vals := [.int .i64 (openedF (upto 10 l)).1]) E_ok Tryz.call67 rfl (sure_v _) (fun _ => .v _) (length_c _ _) ?_)
    | (refine aq_call (vals := [.string ⟨((past 10 l).drop (openedF (upto 10 l)).1).toArray⟩, .string ⟨((past 10 l).take (openedF (upto 10 l)).1).toArray⟩, .string ⟨(openedF (upto 10 l)).2.1.toArray⟩, .int .i64 (lengthF (openedF (upto 10 l)).1)]) E_ok Tryz.call66 rfl sure_tu3 (fun _ => rel_tu3 (.v _) (.v _) (.v _)) (closed_c _ _ _ _ _ (by simp; omega)) ?_))
  all_goals refine aret_plain rfl (ares_three rfl) ⟨tu_isi (?_ : _ = readF l), _, rfl⟩
  all_goals
    have c1 : (↑(past 10 l).length : Int) < ↑(openedF (upto 10 l)).1 ↔ (past 10 l).length < (openedF (upto 10 l)).1 := by omega
    simp only [c1, decide_eq_true_eq, decide_eq_false_iff_not] at *
    clear c1 hb2 hb3 hn hl
  · unfold readF; rw [if_neg (by assumption), if_pos (by assumption)]
  · unfold readF; rw [if_neg (by assumption), if_neg (by simp_all)]
  · unfold readF; rw [if_pos (by assumption), if_neg (by simp_all)]
  · unfold readF; rw [if_pos (by assumption), if_pos (by assumption), if_pos (by assumption)]
  · unfold readF; rw [if_pos (by assumption), if_pos (by assumption), if_neg (by assumption), if_neg (by assumption)]
  · unfold readF; rw [if_pos (by assumption), if_pos (by assumption), if_neg (by assumption), if_pos (by assumption)]
def recF (l : List UInt8) : List UInt8 := headF l.length (sumF l) ++ l ++ tailF l.length
def errForm : AV := .ifc 31 (.v (.int .i64 2))
def recordA (l : List UInt8) : AV := if goodF l then .tu [Sv (recF l), .v .nilIface] else .tu [Sv [], errForm]
theorem recordA_pure (l : List UInt8) : Pure (recordA l) := by
  unfold recordA
  split
  · exact pure_tu2v _ _
  · exact pure_tu (by simp; exact ⟨pure_v _, pure_ifc (pure_v _)⟩)
theorem record_c (l : List UInt8) (st : List AObj) (hl : l.length < 4294967281) : ACall E 27 [Sv l] st fun r st' => r = recordA l ∧ st' = st := by
  refine acall_pure (recordA_pure l) (acall_of_awp Tryz.func27 rfl (Nat.le_of_ble_eq_true rfl) ?_)
  have h1 := itoa_len l.length (by omega)
  have h2 := headF_length l.length (sumF l)
  have h3 := tailF_length l.length
  have h4 := sumF_length l
  repeat' (first
    | apply awp_seq
    | apply awp_region
    | apply aops_nil
    | apply aops_move
    | apply aops_assign
    | (apply aops_not; exact rfl)
    | (apply awp_cond_any; exact rfl; first | (apply cd_dt; (first | assumption | omega)) | (apply cd_df; (first | assumption | omega)) | (apply cd_nt; (first | exact rfl | assumption)) | (apply cd_nf; (first | exact rfl | assumption)) | (apply cd_n <;> intro h) | (apply cd_t; (first | exact rfl | assumption)) | (apply cd_f; (first | exact rfl | assumption)) | (apply cd_d <;> intro h) | (apply cd_s <;> intro h))
    | (apply aops_lenS; exact rfl; exact rfl; exact rfl)
    | (apply aops_concat; exact rfl; exact rfl; (first | omega | (simp only [List.length_append, List.length_cons, List.length_nil]; omega) | (simp; omega)))
    | (apply aops_makeInterface; exact rfl; exact rfl)
    | (apply aops_buildSlice; exact rfl; exact rfl; exact rfl; exact rfl; exact rfl; exact rfl; exact rfl; exact rfl; exact rfl)
    | apply awp_skip
    | apply awp_ret
    | (apply aops_call1; exact Tryz.call58; exact good_c _ _ hl)
    | (apply aops_call1; exact Tryz.call61; exact sum1_c l _ hl)
    | (apply aops_call1; exact Tryz.call60; exact figures_c _ _)
    | (apply aops_call1; exact Tryz.call59; exact head_c l.length (sumF l) _ (by omega) (by omega))
    | (apply aops_call1; exact Tryz.call62; exact tail_c l.length _ (by omega)))
  · have e : AV.tu [Sv [], errForm] = recordA l := by unfold recordA; rw [if_neg (of_decide_eq_false (by assumption))]
    exact aret_plain rfl (ares_two rfl) ⟨e, _, rfl⟩
  · have e : AV.tu [Sv (recF l), .v .nilIface] = recordA l := by unfold recordA; rw [if_pos (of_decide_eq_true (by assumption))]
    exact aret_plain rfl (ares_two rfl) ⟨e, _, rfl⟩
end Go.Proofs.YtplagcbifecagaaGreatDoor
set_option linter.unusedVariables false
set_option maxRecDepth 100000
namespace Go.Proofs.YtplagcbifecagaaGreatDoor
open Go Go.Av Go.RowKit Go.Proofs Go.Pl
def isDig (c : UInt8) : Bool := decide (48 ≤ c.toNat ∧ c.toNat ≤ 57)
end Go.Proofs.YtplagcbifecagaaGreatDoor
set_option maxRecDepth 100000
set_option linter.unusedVariables false
namespace Go.Pl
open Go
theorem decDigits_isdig : ∀ (n u : Nat), u ≤ n → ∀ c ∈ Lib.decDigits u, 48 ≤ c.toNat ∧ c.toNat ≤ 57
  | n, u, hn, c, hc => by
    by_cases h : u < 10
    · rw [Lib.decDigits_one h] at hc
      simp only [List.mem_singleton] at hc
      subst hc
      rw [UInt8.toNat_ofNat']
      omega
    · rw [decDigits_big h, List.mem_append] at hc
      cases n with
      | zero => omega
      | succ n =>
        rcases hc with hc | hc
        · exact decDigits_isdig n (u / 10) (by omega) c hc
        · exact decDigits_isdig n (u % 10) (by omega) c hc
theorem decDigits_pos (u : Nat) : 1 ≤ (Lib.decDigits u).length := by
  rw [Lib.decDigits_length]
  exact Lib.nDigits_pos u
theorem itoa_neg {v : Int} (h : v < 0) : Lib.itoa v = 45 :: Lib.decDigits v.natAbs := by
  unfold Lib.itoa
  rw [if_pos h]
theorem itoa_pos {v : Int} (h : 0 ≤ v) : Lib.itoa v = Lib.decDigits v.toNat := by
  unfold Lib.itoa
  rw [if_neg (by omega)]
def numZ (l : Bytes) : Option Int :=
  match Lib.atoiAll l with
  | .ok v => if Lib.itoa v = l then some v else none
  | _ => none
end Go.Pl
set_option maxRecDepth 100000
set_option linter.unusedVariables false
namespace Go.Proofs.YtplagcbifecagaaGreatDoor
open Go Go.Av Go.RowKit Go.Proofs Go.Pl
theorem itoa_head {l : Bytes} {v : Int} (h : l = Lib.itoa v) : (v < 0 → (l.getD 0 0).toNat = 45 ∧ l.drop 1 = Lib.decDigits v.natAbs) ∧ (0 ≤ v → (l.getD 0 0).toNat ≠ 45 ∧ l = Lib.decDigits v.toNat) := by
  subst h
  refine ⟨fun h => ?_, fun h => ?_⟩
  · rw [itoa_neg h]; exact ⟨rfl, rfl⟩
  · rw [itoa_pos h]
    refine ⟨?_, rfl⟩
    have hp := decDigits_pos v.toNat
    have hd := decDigits_isdig v.toNat v.toNat (Nat.le_refl _)
    cases hl : Lib.decDigits v.toNat with
    | nil => rw [hl] at hp; simp at hp
    | cons c r =>
      rw [hl] at hd
      have := hd c (by simp)
      simp
      omega
def sgn (l : Bytes) : Nat := if (l.getD 0 0).toNat = 45 then 1 else 0
theorem itoa_digits {l : Bytes} {v : Int} (h : l = Lib.itoa v) : l.drop (sgn l) = Lib.decDigits v.natAbs := by
  obtain ⟨h1, h2⟩ := itoa_head h
  unfold sgn
  by_cases hv : v < 0
  · obtain ⟨a, b⟩ := h1 hv
    rw [if_pos a, b]
  · obtain ⟨a, b⟩ := h2 (by omega)
    rw [if_neg a, List.drop_zero, show v.natAbs = v.toNat by omega]
    exact b
end Go.Proofs.YtplagcbifecagaaGreatDoor
set_option linter.unusedVariables false
set_option maxRecDepth 100000
namespace Go.Proofs.YtplagcbifecagaaGreatDoor
open Go Go.Av Go.RowKit Go.Proofs Go.Pl
theorem bit31 (x : BitVec 32) : x &&& 2147483648#32 ≠ 0#32 ↔ x.toNat / 2147483648 = 1 := by
  have e : 2147483648#32 = BitVec.twoPow 32 31 := by decide
  have h := x.isLt
  rw [e, BitVec.and_twoPow, BitVec.getLsbD, Nat.testBit_eq_decide_div_mod_eq]
  by_cases hb : x.toNat / 2 ^ 31 % 2 = 1
  · simp only [hb, decide_true, if_true]
    constructor
    · intro _; omega
    · intro _; decide
  · simp only [hb, decide_false]
    constructor
    · intro h'; exact absurd rfl h'
    · intro h'; omega
theorem msb31 (x : BitVec 32) : x.msb = true ↔ x.toNat / 2147483648 = 1 := by
  rw [BitVec.msb_eq_decide]
  have h := x.isLt
  simp
  omega
theorem crcBit_eq (x : BitVec 32) : crcBit x = (x <<< 1) ^^^ (if x.msb then 79764919#32 else 0#32) := by
  unfold crcBit
  by_cases h : x.msb = true
  · rw [if_pos ((bit31 x).2 ((msb31 x).1 h)), if_pos h]
  · rw [if_neg (fun h' => h ((msb31 x).2 ((bit31 x).1 h'))), if_neg h, BitVec.xor_zero]
theorem crcBit_xor (a b : BitVec 32) : crcBit (a ^^^ b) = crcBit a ^^^ crcBit b := by
  rw [crcBit_eq, crcBit_eq, crcBit_eq, BitVec.msb_xor, BitVec.shiftLeft_xor_distrib]
  cases a.msb <;> cases b.msb <;> simp only [Bool.xor_false, Bool.xor_true, Bool.not_true, Bool.not_false, Bool.false_eq_true, if_true, if_false, BitVec.xor_zero]
  · rw [BitVec.xor_assoc]
  · rw [BitVec.xor_assoc, BitVec.xor_comm (b <<< 1), BitVec.xor_assoc]
  · rw [BitVec.xor_assoc (a <<< 1), BitVec.xor_comm 79764919#32, BitVec.xor_assoc (b <<< 1), BitVec.xor_self, BitVec.xor_zero]
theorem crcBits_xor (n : Nat) (a b : BitVec 32) : crcBits n (a ^^^ b) = crcBits n a ^^^ crcBits n b := by
  induction n with
  | zero => rfl
  | succ n ih => simp only [crcBits, ih, crcBit_xor]
theorem crcBits_low : ∀ (n : Nat) (x : BitVec 32), n ≤ 31 → x.toNat < 2 ^ (32 - n) → crcBits n x = x <<< n
  | 0, x, _, _ => by simp [crcBits]
  | n + 1, x, hn, h => by
    have hp : 2 ^ (32 - n) = 2 * 2 ^ (32 - (n + 1)) := by rw [show 32 - n = (32 - (n + 1)) + 1 by omega, Nat.pow_succ, Nat.mul_comm]
    simp only [crcBits]
    rw [crcBits_low n x (by omega) (by omega), crcBit_eq]
    have hm : (x <<< n).msb = false := by
      cases hb : (x <<< n).msb with
      | false => rfl
      | true =>
        have h1 := (msb31 _).1 hb
        have h2 : (x <<< n).toNat < 2147483648 := by
          rw [BitVec.toNat_shiftLeft, Nat.shiftLeft_eq]
          refine Nat.lt_of_le_of_lt (Nat.mod_le _ _) ?_
          have h3 : x.toNat * 2 ^ n < 2 ^ (32 - (n + 1)) * 2 ^ n := Nat.mul_lt_mul_of_pos_right h (Nat.two_pow_pos n)
          rw [← Nat.pow_add, show 32 - (n + 1) + n = 31 by omega] at h3
          exact h3
        omega
    rw [hm]
    simp only [Bool.false_eq_true, if_false, BitVec.xor_zero]
    rw [← BitVec.shiftLeft_add]
theorem split28 (x : BitVec 32) : x = ((x >>> 28) <<< 28) ^^^ ((x.setWidth 28).setWidth 32) := by
  apply BitVec.eq_of_getLsbD_eq
  intro i hi
  simp only [BitVec.getLsbD_xor, BitVec.getLsbD_shiftLeft, BitVec.getLsbD_ushiftRight, BitVec.getLsbD_setWidth]
  by_cases h : i < 28
  · simp [h, hi]
  · simp [h, hi, show 28 + (i - 28) = i by omega]
theorem crcN_bits (x : BitVec 32) (n : Nat) : crcN x n = crcBits 4 (x ^^^ (BitVec.ofNat 32 n <<< 28)) := by
  have hl : ((x.setWidth 28).setWidth 32).toNat < 2 ^ (32 - 4) := by
    simp only [BitVec.toNat_setWidth]
    exact Nat.lt_of_le_of_lt (Nat.mod_le _ _) (Nat.mod_lt _ (by decide))
  have hs : ((x.setWidth 28).setWidth 32) <<< 4 = x <<< 4 := by
    apply BitVec.eq_of_getLsbD_eq
    intro i hi
    simp only [BitVec.getLsbD_shiftLeft, BitVec.getLsbD_setWidth]
    by_cases h : i < 4
    · simp [h]
    · simp [h, hi, show i - 4 < 28 by omega, show i - 4 < 32 by omega]
  have e : x ^^^ (BitVec.ofNat 32 n <<< 28) = (((x >>> 28) ^^^ BitVec.ofNat 32 n) <<< 28) ^^^ ((x.setWidth 28).setWidth 32) := by
    rw [BitVec.shiftLeft_xor_distrib, BitVec.xor_assoc, BitVec.xor_comm (BitVec.ofNat 32 n <<< 28), ← BitVec.xor_assoc, ← split28 x]
  rw [e, crcBits_xor, crcBits_low 4 _ (by omega) hl, hs, crcN, rowT, BitVec.ofNat_toNat, BitVec.setWidth_eq, BitVec.xor_comm]
theorem crcBits_add (m n : Nat) (x : BitVec 32) : crcBits (m + n) x = crcBits m (crcBits n x) := by
  induction m with
  | zero => simp [crcBits]
  | succ m ih => rw [Nat.succ_add]; simp only [crcBits, ih]
theorem byte_halves (c : UInt8) : BitVec.ofNat 32 c.toNat <<< 24 = (BitVec.ofNat 32 (c.toNat / 16) <<< 28) ^^^ (BitVec.ofNat 32 (c.toNat % 16) <<< 24) := by
  have key : ∀ n : Fin 256, BitVec.ofNat 32 n.val <<< 24 = (BitVec.ofNat 32 (n.val / 16) <<< 28) ^^^ (BitVec.ofNat 32 (n.val % 16) <<< 24) := by decide +kernel
  exact key ⟨c.toNat, UInt8.toNat_lt c⟩
theorem crcP_bits (x : BitVec 32) (c : UInt8) : crcP x c = crcBits 8 (x ^^^ (BitVec.ofNat 32 c.toNat <<< 24)) := by
  have hl : (BitVec.ofNat 32 (c.toNat % 16) <<< 24).toNat < 2 ^ (32 - 4) := by
    have key : ∀ n : Fin 16, (BitVec.ofNat 32 n.val <<< 24).toNat < 2 ^ (32 - 4) := by decide +kernel
    exact key ⟨c.toNat % 16, Nat.mod_lt _ (by decide)⟩
  rw [show (8 : Nat) = 4 + 4 by rfl, crcBits_add, byte_halves, ← BitVec.xor_assoc, crcBits_xor 4 (x ^^^ _), crcBits_low 4 _ (by omega) hl, ← BitVec.shiftLeft_add, crcP, crcN_bits, crcN_bits]
theorem sub_compl (x : BitVec 32) : IntKind.u32.wrap (4294967295 - (x.toNat : Int)) = ((~~~x).toNat : Int) := by
  have h := x.isLt
  have e : (4294967295 - (x.toNat : Int)) = (((~~~x).toNat : Nat) : Int) := by rw [BitVec.toNat_not]; omega
  rw [e]
  exact wrap_toNat _
theorem mul_shl (x : BitVec 32) (k n : Nat) (m : Int) (hm : m = ((2 ^ n : Nat) : Int)) : IntKind.u32.wrap ((x.toNat : Int) * m) = ((x <<< n).toNat : Int) := by
  rw [hm, ← Int.natCast_mul, wrap_u32, BitVec.toNat_shiftLeft, Nat.shiftLeft_eq]
theorem refAdd_c (x : BitVec 32) (l : List UInt8) (st : List AObj) (hl : l.length < 4294967281) : ACall E 91 [Wv x, Sv l] st fun r st' => r = Wv (addP x l) ∧ st' = st := by
  refine acall_pure (pure_v _) (acall_of_awp Tryz.func91 rfl (Nat.le_of_ble_eq_true rfl) ?_)
  repeat' (first
    | apply awp_seq
    | apply awp_block
    | apply awp_region
    | apply aops_nil
    | apply aops_move
    | apply aops_assign
    | (apply aops_sub; exact rfl; exact rfl; exact sub_compl _))
  refine awp_loopG (fun (k : Nat) s => k ≤ l.length ∧ StA [(1, Sv l), (5, Wv ((l.take k).foldl crcP (~~~ x))), (6, Iv k)] (st ++ []) [] s) (fun k => l.length - k) 0 ⟨by omega, stA_mk ⟨rfl, rfl, rfl, trivial⟩⟩ ?_
  rintro k _ ⟨hk, t, rfl⟩
  generalize hx : (l.take k).foldl crcP (~~~ x) = y
  have hc := UInt8.toNat_lt (l.getD k 0)
  repeat' (first
    | apply awp_seq
    | apply awp_block
    | apply awp_region
    | apply aops_nil
    | apply aops_move
    | apply aops_assign
    | (apply aops_cmpI; exact rfl; exact rfl; exact rfl)
    | (apply awp_cond_any; exact rfl; first | (apply cd_dt; (first | assumption | omega)) | (apply cd_df; (first | assumption | omega)) | (apply cd_nt; (first | exact rfl | assumption)) | (apply cd_nf; (first | exact rfl | assumption)) | (apply cd_n <;> intro h) | (apply cd_t; (first | exact rfl | assumption)) | (apply cd_f; (first | exact rfl | assumption)) | (apply cd_d <;> intro h) | (apply cd_s <;> intro h))
    | (apply aops_lenS; exact rfl; exact rfl; exact rfl)
    | (apply aops_idx; exact rfl; exact rfl; exact rfl; first | assumption | omega | (simp; omega))
    | (apply aops_xor32; exact rfl; exact rfl; (first | exact ofInt_toNat _ | exact rfl); first | exact ofInt_toNat _ | exact rfl)
    | apply awp_skip
    | apply awp_exit
    | apply awp_ret
    | (apply aops_convW; exact rfl; exact rfl; exact rfl; omega)
    | (apply aops_mul; exact rfl; exact rfl; exact mul_shl _ 0 24 _ rfl)
    | (apply aops_sub; exact rfl; exact rfl; exact sub_compl _))
  · generalize hcc : l.getD k 0 = c at *
    generalize hz : y ^^^ (BitVec.ofNat 32 c.toNat <<< 24) = z
    refine awp_loopG (fun (j : Nat) s => j ≤ 8 ∧ StA [(1, Sv l), (5, Wv (crcBits j z)), (6, Iv k), (7, Iv j)] (st ++ []) [] s) (fun j => 8 - j) 0 ⟨by omega, stA_mk ⟨rfl, rfl, rfl, rfl, trivial⟩⟩ ?_
    rintro j _ ⟨hj, t2, rfl⟩
    generalize hq : crcBits j z = q
    have hql := q.isLt
    repeat' (first
      | apply awp_seq
      | apply awp_block
      | apply awp_region
      | apply aops_nil
      | apply aops_move
      | apply aops_assign
      | (apply aops_cmpI; exact rfl; exact rfl; exact rfl)
      | (apply awp_cond_any; exact rfl; first | (apply cd_dt; (first | assumption | omega)) | (apply cd_df; (first | assumption | omega)) | (apply cd_nt; (first | exact rfl | assumption)) | (apply cd_nf; (first | exact rfl | assumption)) | (apply cd_n <;> intro h) | (apply cd_t; (first | exact rfl | assumption)) | (apply cd_f; (first | exact rfl | assumption)) | (apply cd_d <;> intro h) | (apply cd_s <;> intro h))
      | (apply aops_add; exact rfl; exact rfl; exact wrap_i64 (by omega) (by omega))
      | (apply aops_xor32; exact rfl; exact rfl; (first | exact ofInt_toNat _ | exact rfl); first | exact ofInt_toNat _ | exact rfl)
      | apply awp_skip
      | apply awp_exit
      | (apply aops_quoN (n := 2147483648); exact rfl; exact rfl; omega; exact wrapU32 (by omega))
      | (apply aops_mul; exact rfl; exact rfl; exact mul_shl _ 0 1 _ rfl))
    · refine ⟨j + 1, ⟨by omega, stA_mk ⟨rfl, ?_, rfl, rfl, trivial⟩⟩, by omega⟩
      refine congrArg Wv (?_ : _ = crcBit _)
      rw [hq]
      unfold crcBit
      rw [if_pos ((bit31 q).2 (by omega))]
      rfl
    · refine ⟨j + 1, ⟨by omega, stA_mk ⟨rfl, ?_, rfl, rfl, trivial⟩⟩, by omega⟩
      refine congrArg Wv (?_ : _ = crcBit _)
      rw [hq]
      unfold crcBit
      rw [if_neg (fun h' => absurd ((bit31 q).1 h') (by omega))]
    · have e : j = 8 := by omega
      subst e
      refine ⟨k + 1, ⟨by omega, stA_mk ⟨rfl, ?_, rfl, trivial⟩⟩, by omega⟩
      refine congrArg Wv (?_ : q = _)
      rw [take_next (by omega), List.foldl_append, hx, hcc]
      show q = crcP y c
      rw [crcP_bits, hz, hq]
  · have e : k = l.length := by omega
    subst e
    refine aret_plain rfl (ares_one rfl) ⟨congrArg Wv (?_ : _ = _), _, rfl⟩
    unfold addP
    rw [← hx, List.take_length]
theorem refSum_c (l : List UInt8) (st : List AObj) (hl : l.length < 4294967281) : ACall E 57 [Sv l] st fun r st' => r = Wv (addP 0 l) ∧ st' = st := by
  refine acall_pure (pure_v _) (acall_of_awp Tryz.func57 rfl (Nat.le_of_ble_eq_true rfl) ?_)
  repeat' (first
    | apply awp_seq
    | apply awp_region
    | apply aops_nil
    | apply aops_move
    | apply aops_assign
    | apply awp_ret
    | (apply aops_call1; exact Tryz.call91; exact refAdd_c 0 _ _ hl))
  exact aret_plain rfl (ares_one rfl) ⟨rfl, _, rfl⟩
theorem figP_val (x : BitVec 32) {j : Nat} (hj : j < 8) : figP x j = hexL.getD ((x >>> (4 * (7 - j))).toNat % 16) 0 := by
  unfold figP
  have e : ((x >>> (4 * (7 - j))) &&& BitVec.ofInt 32 15).toNat = (x >>> (4 * (7 - j))).toNat % 16 := by
    rw [BitVec.toNat_and]
    exact Nat.and_two_pow_sub_one_eq_mod _ 4
  rw [e]
  rfl
theorem hexL_span {n : Nat} (h : n < 16) : (hexL.take (n + 1)).drop n = [hexL.getD n 0] := by
  have key : ∀ i : Fin 16, (hexL.take (i.val + 1)).drop i.val = [hexL.getD i.val 0] := by decide +kernel
  exact key ⟨n, h⟩
theorem figsP_drop (x : BitVec 32) {k : Nat} (h : k < 8) : (figsP x 8).drop (8 - (k + 1)) = figP x (7 - k) :: (figsP x 8).drop (8 - k) := by
  have hlen : (figsP x 8).length = 8 := by simp [figsP]
  rw [List.drop_eq_getElem_cons (by omega), show 8 - (k + 1) + 1 = 8 - k by omega]
  congr 1
  simp [figsP, show 8 - (k + 1) = 7 - k by omega]
theorem refFigs_c (x : BitVec 32) (st : List AObj) : ACall E 56 [Wv x] st fun r st' => r = Sv (figsP x 8) ∧ st' = st := by
  refine acall_pure (pure_v _) (acall_of_awp Tryz.func56 rfl (Nat.le_of_ble_eq_true rfl) ?_)
  have hlen : (figsP x 8).length = 8 := by simp [figsP]
  repeat' (first
    | apply awp_seq
    | apply awp_block
    | apply awp_region
    | apply aops_nil
    | apply aops_assign)
  refine awp_loopG (fun (k : Nat) s => k ≤ 8 ∧ StA [(0, Wv (x >>> (4 * k))), (3, Sv ((figsP x 8).drop (8 - k))), (4, Iv k)] (st ++ []) [] s) (fun k => 8 - k) 0 ⟨by omega, stA_mk ⟨by simp; rfl, by simp [hlen]; rfl, rfl, trivial⟩⟩ ?_
  rintro k _ ⟨hk, t, rfl⟩
  have hn : (x >>> (4 * k)).toNat % 16 < 16 := Nat.mod_lt _ (by decide)
  have hd : ((figsP x 8).drop (8 - k)).length = k := by simp [hlen]; omega
  generalize hq : x >>> (4 * k) = q at *
  have hql := q.isLt
  repeat' (first
    | apply awp_seq
    | apply awp_block
    | apply awp_region
    | apply aops_nil
    | apply aops_move
    | apply aops_assign
    | (apply aops_cmpI; exact rfl; exact rfl; exact rfl)
    | (apply awp_cond_any; exact rfl; first | (apply cd_dt; (first | assumption | omega)) | (apply cd_df; (first | assumption | omega)) | (apply cd_nt; (first | exact rfl | assumption)) | (apply cd_nf; (first | exact rfl | assumption)) | (apply cd_n <;> intro h) | (apply cd_t; (first | exact rfl | assumption)) | (apply cd_f; (first | exact rfl | assumption)) | (apply cd_d <;> intro h) | (apply cd_s <;> intro h))
    | (apply aops_concat; exact rfl; exact rfl; (first | omega | (simp only [List.length_append, List.length_cons, List.length_nil]; omega) | (simp; omega)))
    | (apply aops_add; exact rfl; exact rfl; exact wrap_i64 (by omega) (by omega))
    | (apply aops_span; exact rfl; exact rfl; exact rfl; exact rfl; (first | assumption | omega | (simp; omega)); first | assumption | omega | (simp; omega))
    | apply awp_skip
    | apply awp_exit
    | apply awp_ret
    | (apply aops_remN (n := 16); exact rfl; exact rfl; omega)
    | (apply aops_quoN (n := 16); exact rfl; exact rfl; omega; exact wrapU32 (by omega))
    | (apply aops_addN (n := 1); exact rfl; exact rfl; exact wrapU32 (by omega)))
  · refine ⟨k + 1, ⟨by omega, stA_mk ⟨?_, ?_, rfl, trivial⟩⟩, by omega⟩
    · refine congrArg (fun n : Nat => AV.v (.int .u32 (n : Int))) (?_ : q.toNat / 16 = (x >>> (4 * (k + 1))).toNat)
      rw [show 4 * (k + 1) = 4 * k + 4 by omega, BitVec.shiftRight_add, hq, BitVec.toNat_ushiftRight, Nat.shiftRight_eq_div_pow]
    · refine congrArg Sv (?_ : (hexL.take (q.toNat % 16 + 1)).drop (q.toNat % 16) ++ _ = _)
      rw [figsP_drop x (by omega), hexL_span hn, figP_val x (by omega), show 4 * (7 - (7 - k)) = 4 * k by omega, hq]
      rfl
  · have e : k = 8 := by omega
    subst e
    exact aret_plain rfl (ares_one rfl) ⟨congrArg Sv (by simp), _, rfl⟩
end Go.Proofs.YtplagcbifecagaaGreatDoor
set_option linter.unusedVariables false
set_option maxRecDepth 100000
namespace Go.Pl
open Go
def sp : Bool → Bytes → Bool
  | _, [] => true
  | f, c :: l => (!f || decide (c = 32)) && sp (decide (c = 10)) l
theorem sp_false_past : ∀ l, sp false l = sp true (past 10 l)
  | [] => rfl
  | c :: l => by
    by_cases h : c = 10
    · subst h; simp [sp, past, upto]
    · have e : past 10 (c :: l) = past 10 l := by simp [past, upto, h]
      rw [e, ← sp_false_past l]
      simp [sp, h]
theorem sp_true_line {l : Bytes} (h : l ≠ []) : sp true l = (decide ([32] <+: upto 10 l) && sp true (past 10 l)) := by
  cases l with
  | nil => exact absurd rfl h
  | cons c r =>
    by_cases hc : c = 10
    · subst hc; simp [sp, upto]
    · have e : past 10 (c :: r) = past 10 r := by simp [past, upto, hc]
      have e2 : upto 10 (c :: r) = c :: upto 10 r := by simp [upto, hc]
      rw [e, e2, ← sp_false_past]
      simp [sp, hc, eq_comm]
theorem lines_sp : ∀ (n : Nat) (l : Bytes), l.length ≤ n → ((∀ x ∈ linesOf l, [32] <+: x.1) ↔ sp true l = true)
  | 0, l, h => by
    have : l = [] := List.length_eq_zero_iff.1 (by omega)
    subst this
    simp [linesOf_nil, sp]
  | n + 1, l, h => by
    by_cases hl : l = []
    · subst hl; simp [linesOf_nil, sp]
    · rw [linesOf_cons hl, sp_true_line hl, Bool.and_eq_true, ← lines_sp n (past 10 l) (by have := past_lt (c := 10) hl; omega)]
      simp only [List.mem_cons, forall_eq_or_imp, decide_eq_true_eq]
theorem dedent_sp (l : Bytes) : (dedentOf [32] l).2 = sp true l := by
  unfold dedentOf
  by_cases h : sp true l = true
  · rw [if_pos ((lines_sp _ l (Nat.le_refl _)).2 h), h]
  · rw [if_neg (fun h' => h ((lines_sp _ l (Nat.le_refl _)).1 h'))]
    simp only [Bool.not_eq_true] at h
    rw [h]
theorem goodF_iff (l : Bytes) : goodF l ↔ 2 ≤ l.length ∧ l.length ≤ 50000 ∧ l.getLast? = some 10 ∧ sp true l = true := by
  unfold goodF
  rw [dedent_sp]
theorem decDigits_dig : ∀ (n u : Nat), u ≤ n → ∀ c ∈ Lib.decDigits u, 48 ≤ c.toNat ∧ c.toNat ≤ 57
  | n, u, hn, c, hc => by
    by_cases h : u < 10
    · rw [Lib.decDigits_one h] at hc
      simp only [List.mem_singleton] at hc
      subst hc
      rw [UInt8.toNat_ofNat']
      omega
    · rw [decDigits_big h, List.mem_append] at hc
      cases n with
      | zero => omega
      | succ n =>
        rcases hc with hc | hc
        · exact decDigits_dig n (u / 10) (by omega) c hc
        · exact decDigits_dig n (u % 10) (by omega) c hc
theorem itoa_nat (n : Nat) : Lib.itoa (n : Int) = Lib.decDigits n := by
  unfold Lib.itoa
  rw [if_neg (by omega)]
  simp
theorem itoa_dig (n : Nat) : ∀ c ∈ Lib.itoa (n : Int), 48 ≤ c.toNat ∧ c.toNat ≤ 57 := by
  rw [itoa_nat]
  exact decDigits_dig n n (Nat.le_refl _)
theorem decDigits_ne (u : Nat) : Lib.decDigits u ≠ [] := by
  intro h
  have := congrArg List.length h
  rw [Lib.decDigits_length] at this
  have := Lib.nDigits_pos u
  simp at *
  omega
theorem parse_app : ∀ (a : Nat) (l m : Bytes) (b : Nat), Lib.parseUint10 a l = .ok b → Lib.parseUint10 a (l ++ m) = Lib.parseUint10 b m
  | a, [], m, b, h => by
    simp only [Lib.parseUint10, Lib.NumEnd.ok.injEq] at h
    subst h; rfl
  | a, c :: l, m, b, h => by
    simp only [List.cons_append, Lib.parseUint10] at h ⊢
    split at h
    · rename_i hd
      rw [if_pos hd]
      split at h
      · cases h
      · rename_i h1
        rw [if_neg h1]
        split at h
        · cases h
        · rename_i h2
          rw [if_neg h2]
          exact parse_app _ l m b h
    · cases h
theorem parse_dec : ∀ (n u : Nat), u ≤ n → u < 1000000000000000000 → Lib.parseUint10 0 (Lib.decDigits u) = .ok u
  | n, u, hn, hu => by
    have key : ∀ (a d : Nat), a < 100000000000000000 → d < 10 → Lib.parseUint10 a (Lib.decDigits d) = .ok (a * 10 + d) := by
      intro a d ha hd
      have e : (UInt8.ofNat (48 + d)).toNat = 48 + d := by rw [UInt8.toNat_ofNat']; omega
      rw [Lib.decDigits_one hd]
      simp only [Lib.parseUint10, e]
      rw [if_pos (by omega), if_neg (by omega), if_neg (by omega)]
      congr 1
      omega
    by_cases h : u < 10
    · have := key 0 u (by omega) h
      simpa using this
    · cases n with
      | zero => omega
      | succ n =>
        rw [decDigits_big h, parse_app 0 _ _ (u / 10) (parse_dec n (u / 10) (by omega) (by omega)), key _ _ (by omega) (by omega)]
        congr 1
        omega
theorem atoi_itoa {n : Nat} (h : n < 1000000000000000000) : Lib.atoiAll (Lib.itoa (n : Int)) = .ok (n : Int) := by
  have hp := parse_dec n n (Nat.le_refl _) h
  have hd := decDigits_dig n n (Nat.le_refl _)
  rw [itoa_nat]
  cases hl : Lib.decDigits n with
  | nil => exact absurd hl (decDigits_ne n)
  | cons c r =>
    rw [hl] at hp hd
    have hc := hd c (by simp)
    simp only [Lib.atoiAll]
    have h1 : ¬ (c.toNat = 43 ∨ c.toNat = 45) := by omega
    rw [if_neg h1]
    have hm : Lib.parseMag (c :: r) = .ok n := by unfold Lib.parseMag; rw [if_neg (by simp)]; exact hp
    rw [hm]
    have h2 : ¬ c.toNat = 45 := by omega
    simp only [h2, not_false_iff, true_and, false_and, if_false]
    rw [if_neg (by omega)]
theorem numberF_itoa {n : Nat} (h1 : 1 ≤ n) (h2 : n ≤ 50000) : numberF (Lib.itoa (n : Int)) = n := by
  have := numberF_ok (atoi_itoa (n := n) (by omega))
  rw [if_pos ⟨rfl, by omega, by omega⟩] at this
  omega
end Go.Pl
namespace Go.Proofs.YtplagcbifecagaaGreatDoor
open Go Go.Pl
def head0 (n : Nat) (fig : Bytes) : Bytes := beginL ++ (Lib.itoa n ++ 32 :: fig)
theorem headF_eq (n : Nat) (fig : Bytes) : headF n fig = head0 n fig ++ [10] := by simp [headF, head0, beginL]
theorem notin_itoa (n : Nat) {c : UInt8} (h : ¬ (48 ≤ c.toNat ∧ c.toNat ≤ 57)) : c ∉ Lib.itoa (n : Int) := fun hc => h (itoa_dig n c hc)
theorem hexAll_notin {f : Bytes} (h : hexAll f) {c : UInt8} (hc : c ∉ hexL) : c ∉ f := fun h' => hc (h c h')
theorem head0_no10 (n : Nat) {fig : Bytes} (h : hexAll fig) : 10 ∉ head0 n fig := by
  unfold head0
  simp only [List.mem_append, List.mem_cons, not_or]
  exact ⟨by decide, notin_itoa n (by decide), by decide, hexAll_notin h (by decide)⟩
theorem trim_begin (l : Bytes) : Lib.trimPrefix (beginL ++ l) beginL = l := by
  rw [trimPrefix_of (List.prefix_append _ _), List.drop_left]
theorem openedF_head {n : Nat} {fig : Bytes} (h2 : 2 ≤ n) (hn : n ≤ 50000) (hf : fig.length = 8) (hx : hexAll fig) : openedF (head0 n fig) = (n, fig, true) := by
  unfold openedF head0
  have h32 : 32 ∉ Lib.itoa (n : Int) := notin_itoa n (by decide)
  rw [trim_begin, upto_app fig h32, past_app fig h32, numberF_itoa (by omega) hn]
  rw [decide_eq_true ⟨List.prefix_append _ _, by simp, h2, hf, hx⟩]
theorem readF_head {n : Nat} {fig : Bytes} (r : Bytes) (h2 : 2 ≤ n) (hn : n ≤ 50000) (hf : fig.length = 8) (hx : hexAll fig) :
    readF (head0 n fig ++ 10 :: r) = if r.length < n then (partlyF r ((n : Int) - r.length), [], 0)
      else if goodF (r.take n) then closedF (r.drop n) (r.take n) fig (lengthF n) else (3, [], 0) := by
  have hm : 10 ∈ head0 n fig ++ 10 :: r := by simp
  have h10 := head0_no10 n hx
  unfold readF
  rw [if_pos hm, upto_app r h10, past_app r h10, openedF_head h2 hn hf hx]
  simp only [if_true]
structure RecLike (n : Nat) (fig body : Bytes) : Prop where
  two : 2 ≤ n
  most : n ≤ 50000
  len : body.length = n
  good : goodF body
  figs : fig.length = 8
  hex : hexAll fig
def recL (n : Nat) (fig body : Bytes) : Bytes := head0 n fig ++ 10 :: (body ++ tailF n)
theorem recF_eq (l : Bytes) : recF l = recL l.length (sumF l) l := by
  unfold recF recL
  rw [headF_eq]
  simp
theorem hexAll_figs (s : BitVec 32) : hexAll (figsP s 8) := by
  intro c hc
  simp only [figsP, List.mem_map] at hc
  obtain ⟨j, _, rfl⟩ := hc
  unfold figP
  have h := Go.Av.and15_lt (s >>> (4 * (7 - j)))
  generalize ((s >>> (4 * (7 - j))) &&& BitVec.ofInt 32 15).toNat = k at h
  have key : ∀ i : Fin 16, ([48, 49, 50, 51, 52, 53, 54, 55, 56, 57, 97, 98, 99, 100, 101, 102] : Bytes).getD i.val 0 ∈ hexL := by decide
  exact key ⟨k, h⟩
theorem recLike_of {b : Bytes} (h : goodF b) : RecLike b.length (sumF b) b := ⟨h.1, h.2.1, rfl, h, sumF_length b, hexAll_figs _⟩
theorem recF_length (b : Bytes) (h : goodF b) : ((recF b).length : Int) = lengthF b.length := by
  obtain ⟨g1, g2, _⟩ := h
  unfold recF lengthF
  rw [if_neg (by omega)]
  simp only [List.length_append, headF_length, sumF_length]
  simp
theorem read_rec {b : Bytes} (m : Bytes) (h : goodF b) : readF (recF b ++ m) = (1, b, ((recF b).length : Int)) := by
  have R := recLike_of h
  rw [recF_length b h, recF_eq]
  unfold recL
  rw [List.append_assoc, List.cons_append, List.append_assoc, readF_head _ R.two R.most R.figs R.hex, if_neg (by simp), List.take_left, List.drop_left, if_pos h]
  unfold closedF
  rw [if_neg (by simp; intro h; omega), if_pos ⟨List.prefix_append _ _, rfl⟩]
end Go.Proofs.YtplagcbifecagaaGreatDoor
