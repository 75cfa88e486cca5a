/- Stores, new variables, addresses, parts, tuples, calls. Generic: names no program. -/
import Derived.Test.YtopmpdoigmenmaaDoorAc
set_option linter.unusedVariables false
namespace Go.Av
open Go Go.RowKit

def AV.okc : AV → Bool
  | .v (.agg _) => false
  | _ => true
def AV.one : AV → Bool
  | .v (.agg _) => false
  | .v (.tuple _) => false
  | .ag _ => false
  | .tu _ => false
  | _ => true

def RelC (G : Gh) (cs : List AV) (vs : Array Value) : Prop := cs.length = vs.size ∧ ∀ (i : Nat) (x : AV) (y : Value), cs[i]? = some x → vs[i]? = some y → Rel G x y

theorem RelC.mono {G G' : Gh} (hG : G.le G') {cs : List AV} {vs : Array Value} (h : RelC G cs vs) : RelC G' cs vs := ⟨h.1, fun i x y hx hy => (h.2 i x y hx hy).mono hG⟩
theorem relC_one {G : Gh} {x : AV} {y : Value} (h : Rel G x y) : RelC G [x] #[y] := ⟨rfl, fun i a b ha hb => by
  match i with
  | 0 => simp at ha hb; subst ha; subst hb; exact h
  | i + 1 => simp at ha⟩
theorem Rel.cells {G : Gh} {a : AV} {v : Value} (h : Rel G a v) (hok : a.okc = true) : RelC G a.cells v.cells := by
  cases h with
  | ag cs vs hl h => exact ⟨hl, h⟩
  | v => cases v <;> first | (simp [AV.okc] at hok; done) | exact relC_one (.v _)
  | tu cs vs hl h => exact relC_one (.tu cs vs hl h)
  | ifc t x y h => exact relC_one (.ifc t x y h)
  | fn f a b a' b' h1 h2 h3 h4 => exact relC_one (.fn f a b a' b' h1 h2 h3 h4)
  | sl0 sz tip base cap ht => exact relC_one (.sl0 sz tip base cap ht)
  | sl sz xs tip b off cap pub h1 h2 h3 h4 h5 => exact relC_one (.sl sz xs tip b off cap pub h1 h2 h3 h4 h5)
  | pp cs b off pub h1 h2 h3 => exact relC_one (.pp cs b off pub h1 h2 h3)
  | bx o ver off b h1 h2 h3 => exact relC_one (.bx o ver off b h1 h2 h3)
  | os o ver off len b cap h1 h2 h3 => exact relC_one (.os o ver off len b cap h1 h2 h3)
  | mp o b h1 h2 h3 => exact relC_one (.mp o b h1 h2 h3)
  | yd o b h1 h2 h3 => exact relC_one (.yd o b h1 h2 h3)
theorem Rel.one {G : Gh} {a : AV} {v : Value} (h : Rel G a v) (hok : a.one = true) : v.oneCell' = true := by
  cases h with
  | v => cases v <;> simp_all [AV.one, Value.oneCell']
  | ag => simp [AV.one] at hok
  | tu => simp [AV.one] at hok
  | _ => rfl

section
variable {B0 : Nat} {w0 : World} {G : Gh} {st : List AObj} {w : World}

theorem setRow_old (w : World) (g : Nat) (cs : Array Value) (b : Nat) (h : b ≠ g) : (w.setRow g cs).heap[b]? = w.heap[b]? := by
  simp only [World.setRow, Array.getElem?_modify]
  rw [if_neg (Ne.symm h)]
theorem setRow_size (w : World) (g : Nat) (cs : Array Value) : (w.setRow g cs).heap.size = w.heap.size := by simp [World.setRow]

theorem getElem?_set' {α : Type} (l : List α) (i j : Nat) (a x : α) (h : (l.set i a)[j]? = some x) : (j = i ∧ x = a) ∨ (j ≠ i ∧ l[j]? = some x) := by
  by_cases e : j = i
  · subst e
    rw [List.getElem?_set] at h
    rw [if_pos rfl] at h
    split at h
    · exact .inl ⟨rfl, by simpa using h.symm⟩
    · simp at h
  · rw [List.getElem?_set_ne (Ne.symm e)] at h
    exact .inr ⟨e, h⟩

/-- An object's block is written anew. -/
theorem Agree.setRow (h : Agree B0 w0 G st w) {o ver : Nat} {T : TypeId} {cs cs' : List AV} {c' : Array Value} (ho : st[o]? = some (.cells ver T cs))
    (hl : cs'.length = c'.size) (hr : ∀ (i : Nat) (x : AV) (y : Value), cs'[i]? = some x → c'[i]? = some y → Rel G x y) : Agree B0 w0 G (st.set o (.cells ver T cs')) (w.setRow (G.ob o).blk c') := by
  obtain ⟨h0, h1, h2, h3, c, h4, h5, h6⟩ := h.ob o _ ho
  have hlt := lt_of_getElem? ho
  refine ⟨h.below.trans ⟨rfl, rfl, rfl, by rw [setRow_size]; exact Nat.le_refl _, fun k hk => setRow_old _ _ _ _ (by omega)⟩, by rw [setRow_size]; exact h.hB, by simp [h.n], fun b vs hb => ?_, fun k x hx => ?_, fun k k' x x' hne hx hx' hl1 hl2 => ?_⟩
  · rw [setRow_old _ _ _ _ (fun e => by rw [e, h3] at hb; simp at hb)]
    exact h.pub b vs hb
  · rcases getElem?_set' _ _ _ _ _ hx with ⟨rfl, rfl⟩ | ⟨hne, hx⟩
    · exact ⟨h0, h1, h2, h3, c', setRow_heap w _ c c' T (0, 0) h4, hl, hr⟩
    · refine (h.ob k x hx).mono (.refl G) rfl (fun _ => rfl) (fun hlv => setRow_old _ _ _ _ ?_)
      exact h.sep k o x _ hne hx ho hlv trivial
  · rcases getElem?_set' _ _ _ _ _ hx with ⟨e1, e2⟩ | ⟨_, e2⟩
    · rcases getElem?_set' _ _ _ _ _ hx' with ⟨e3, _⟩ | ⟨_, e4⟩
      · exact absurd (e1.trans e3.symm) hne
      · rw [e1]; exact h.sep o k' _ x' (fun e => hne (e1.trans e)) ho e4 trivial hl2
    · rcases getElem?_set' _ _ _ _ _ hx' with ⟨e3, _⟩ | ⟨_, e4⟩
      · rw [e3]; exact h.sep k o x _ (fun e => hne (e.trans e3.symm)) e2 ho hl1 trivial
      · exact h.sep k k' x x' hne e2 e4 hl1 hl2
end

section
variable {E : Env} {rd : Option Nat} {N : Nat} {ops : Array Oper} {K : AS → Prop} {s : AS} {rest : List Oper} {d : Option Tmp} {T : TypeId} {p : String} {af : Array Edge}

/-- Cells written over. -/
def splice (cs : List AV) (off : Nat) (xs : List AV) : List AV := cs.take off ++ xs ++ cs.drop (off + xs.length)

theorem splice_rel {G : Gh} {cs xs : List AV} {c : Array Value} {vs : List Value} {off : Nat} (hl : cs.length = c.size) (hr : ∀ (i : Nat) (x : AV) (y : Value), cs[i]? = some x → c[i]? = some y → Rel G x y)
    (hx : RelC G xs vs.toArray) (hfit : off + xs.length ≤ cs.length) :
    (splice cs off xs).length = (c.toList.take off ++ vs ++ c.toList.drop (off + vs.length)).toArray.size ∧ ∀ (i : Nat) (x : AV) (y : Value), (splice cs off xs)[i]? = some x → (c.toList.take off ++ vs ++ c.toList.drop (off + vs.length)).toArray[i]? = some y → Rel G x y := by
  have hlen : xs.length = vs.length := by simpa using hx.1
  refine ⟨by simp [splice]; omega, fun i x y h1 h2 => ?_⟩
  simp only [splice, List.getElem?_toArray, List.append_assoc] at h1 h2
  have e1 : (cs.take off).length = off := by simp; omega
  have e2 : (c.toList.take off).length = off := by simp; omega
  by_cases hi : i < off
  · rw [List.getElem?_append_left (by omega), List.getElem?_take, if_pos hi] at h1 h2
    exact hr i x y h1 (by simpa using h2)
  · rw [List.getElem?_append_right (by omega), e1] at h1
    rw [List.getElem?_append_right (by omega), e2] at h2
    by_cases hj : i - off < xs.length
    · rw [List.getElem?_append_left hj] at h1
      rw [List.getElem?_append_left (by omega)] at h2
      exact hx.2 _ x y h1 (by simpa using h2)
    · rw [List.getElem?_append_right (by omega), List.getElem?_drop] at h1 h2
      rw [← hlen] at h2
      exact hr _ x y h1 (by simpa using h2)

theorem aops_store {x y : Operand} {t : TypeId} {sz : Nat} {agg : Bool} {o ver off : Nat} {T' : TypeId} {cs xs : List AV} {r : AV} (hx : aeval N s x = .bx o ver off) (hy : aeval N s y = r) (ho : s.st[o]? = some (.cells ver T' cs)) (ht : tyOf E.P t = some (sz, agg))
    (hok : r.okc = true) (hc : r.cells = xs) (hsz : xs.length = sz) (h1 : ∀ z ∈ xs, z.one = true) (hfit : off + sz ≤ cs.length)
    (h : AOps E rd N ops rest K (AS.put ⟨s.t, s.st.set o (.cells ver T' (splice cs off xs)), s.df⟩ d (.v undef))) : AOps E rd N ops (⟨d, .store t x y, T, p, af, none⟩ :: rest) K s := by
  refine aops_cons rfl (aop_of_skip nofun fun B0 w0 G a w _ hI => ?_)
  have he := hI.eval_of hx
  have hey := hI.eval_of hy
  have hcl := hey.cells hok
  generalize hv : a.eval x = v at he
  generalize hv2 : a.eval y = v2 at hey hcl
  rw [hc] at hcl
  cases he with
  | bx _ _ _ b hn hv' hb =>
    obtain ⟨_, g1, g2, g3, c, g4, g5, g6⟩ := hI.agree.ob o _ ho
    have hb := hb g1
    subst hb
    have hcl' : RelC G xs v2.cells.toList.toArray := by simpa using hcl
    have hlen : v2.cells.size = sz := by rw [← hcl.1]; exact hsz
    have hone : ∀ u ∈ v2.cells.toList, u.oneCell' = true := fun u hu => by
      obtain ⟨i, hi⟩ := List.getElem?_of_mem hu
      obtain ⟨z, hz⟩ := get_of_len hi (Nat.le_of_eq (by simpa using hcl.1.symm))
      exact (hcl.2 i z u hz (by simpa using hi)).one (h1 z (List.mem_of_getElem? hz))
    have hst := run_storeCells_at E.P (G.ob o).blk off T' v2.cells.toList 0 c w g4 (by simp [hlen]; omega) hone
    have hsp := splice_rel (off := off) g5 g6 hcl' (by omega)
    refine ⟨_, G, _, ?_, .refl G, hI.agree.setRow ho hsp.1 hsp.2, h⟩
    simp only [execOp, hv, hv2, Instr.storeAt, Instr.sureAddr]
    simp [storeVar, (tyOf_info ht w).1, hlen, hst]

/-- A variable's zero value, as cells. -/
def zeroA (P : Program) (t : TypeId) : Option (List AV) :=
  match P.info? t with
  | some i => i.zero.map fun z => z.cells.toList.map .v
  | none => none

theorem zeroA_run {P : Program} {t : TypeId} {cs : List AV} (h : zeroA P t = some cs) (w : World) : ∃ z, (zeroValue t).run P w = .ok z w ∧ ∀ G, RelC G cs z.cells := by
  unfold zeroA at h
  split at h
  · rename_i i hi
    cases hz : i.zero with
    | none => rw [hz] at h; simp at h
    | some z =>
      rw [hz] at h
      simp only [Option.map_some, Option.some.injEq] at h
      subst h
      refine ⟨z, by simp [zeroValue, typeInfo, hi, hz], fun G => ⟨by simp, fun i x y hx hy => ?_⟩⟩
      rw [List.getElem?_map] at hx
      simp only [Array.getElem?_toList, hy, Option.map_some, Option.some.injEq] at hx
      subst hx
      exact .v y
  · simp at h

theorem RelC.new {G : Gh} {cs : List AV} {c : Array Value} (h : RelC G cs c) : cs.length = c.size := h.1

theorem rel_bx_new {B0 : Nat} {w0 : World} {G : Gh} {st : List AObj} {w : World} (h : Agree B0 w0 G st w) (cap : Nat) : Rel (G.new 0 w.heap.size cap false) (.bx st.length 0 0) (.pointer (some ⟨w.heap.size, 0, none⟩)) :=
  .bx _ _ _ _ (by simp [Gh.new, h.n]) (Nat.zero_le _) fun _ => by simp [Gh.new, h.n]

theorem aops_alloc {t : TypeId} {st : List AObj} {loc : List AObj} {cs : List AV} (hst : s.st = st ++ loc) (hz : zeroA E.P t = some cs)
    (h : AOps E rd N ops rest K (AS.put ⟨s.t, st ++ (loc ++ [.cells 0 t cs]), s.df⟩ d (.bx (st.length + loc.length) 0 0))) : AOps E rd N ops (⟨d, .alloc t, T, p, af, none⟩ :: rest) K s := by
  refine aops_cons rfl (aop_of_run nofun fun B0 w0 G a w _ hI => ?_)
  obtain ⟨z, hz, hr⟩ := zeroA_run hz w
  have hA := hI.agree.newCells t z.cells cs (hr G).new (hr G).2
  have hp := rel_bx_new hI.agree z.cells.size
  rw [hst] at hA hp
  simp only [List.append_assoc, List.length_append] at hA hp
  exact ⟨_, _, _, _, _, by simp [execOp, Instr.alloc, hz, newVar, newRow, newObj, Sem.run], G.le_new _ _ _ _, hA, hp, h⟩

theorem aops_box {t : TypeId} {x : Operand} {st : List AObj} {loc : List AObj} {r : AV} {cs : List AV} (hst : s.st = st ++ loc) (hx : aeval N s x = r) (hok : r.okc = true) (hc : r.cells = cs)
    (h : AOps E rd N ops rest K (AS.put ⟨s.t, st ++ (loc ++ [.cells 0 t cs]), s.df⟩ d (.bx (st.length + loc.length) 0 0))) : AOps E rd N ops (⟨d, .box t x, T, p, af, none⟩ :: rest) K s := by
  refine aops_cons rfl (aop_of_run nofun fun B0 w0 G a w _ hI => ?_)
  have hr := (hI.eval_of hx).cells hok
  rw [hc] at hr
  have hA := hI.agree.newCells t _ cs hr.new hr.2
  have hp := rel_bx_new hI.agree (a.eval x).cells.size
  rw [hst] at hA hp
  simp only [List.append_assoc, List.length_append] at hA hp
  have hrun : (execOp a.eval ⟨d, .box t x, T, p, af, none⟩).run E.P w = .ok (.value (.pointer (some ⟨w.heap.size, 0, none⟩))) (w.alloc (.cells (a.eval x).cells t)) := by
    generalize a.eval = ρ
    simp [execOp, Instr.box, newVar, newRow, newObj, Sem.run]
  exact ⟨_, _, _, _, _, hrun, G.le_new _ _ _ _, hA, hp, h⟩

/-- A field's place, size and kind. -/
def fieldOf (P : Program) (t : TypeId) (f : Nat) : Option (Nat × Nat × Bool) :=
  match P.underlying t with
  | some (.struct fs) => match fs[f]? with
    | some fd => match tyOf P fd.type with
      | some (sz, agg) => some (fd.offset, sz, agg)
      | none => none
    | none => none
  | _ => none

theorem fieldOf_inv {P : Program} {t : TypeId} {f off sz : Nat} {agg : Bool} (h : fieldOf P t f = some (off, sz, agg)) : ∃ fs fd, P.underlying t = some (.struct fs) ∧ fs[f]? = some fd ∧ fd.offset = off ∧ tyOf P fd.type = some (sz, agg) := by
  unfold fieldOf at h
  split at h
  · rename_i fs hu
    split at h
    · rename_i fd hf
      split at h
      · rename_i sz' agg' ht
        simp only [Option.some.injEq, Prod.mk.injEq] at h
        obtain ⟨rfl, rfl, rfl⟩ := h
        exact ⟨fs, fd, hu, hf, rfl, ht⟩
      · simp at h
    · simp at h
  · simp at h

theorem aops_field {t : TypeId} {x : Operand} {f off sz : Nat} {agg : Bool} {cs : List AV} {r : AV} (hx : aeval N s x = .ag cs) (hf : fieldOf E.P t f = some (off, sz, agg)) (hr : aloadC sz agg off cs = some r)
    (h : AOps E rd N ops rest K (s.put d r)) : AOps E rd N ops (⟨d, .field t x f, T, p, af, none⟩ :: rest) K s := by
  refine aops_cons rfl (aop_of_run nofun fun B0 w0 G a w _ hI => ?_)
  obtain ⟨fs, fd, hu, hfd, hoff, ht⟩ := fieldOf_inv hf
  have he := hI.eval_of hx
  generalize hv : a.eval x = v at he
  cases he with
  | ag _ vs hl hrel =>
    obtain ⟨i1, i2⟩ := tyOf_info ht w
    cases agg with
    | false =>
      simp only [aloadC, cond_false] at hr
      obtain ⟨y, hy⟩ := get_of_size hr (Nat.le_of_eq hl)
      refine ⟨y, w, G, r, s.st, ?_, .refl G, hI.agree, hrel off r y hr hy, h⟩
      simp only [execOp, hv]
      simp [Instr.field, run_underlying hu, hfd, asAgg, part, i2, hoff, hy]
    | true =>
      simp only [aloadC, cond_true] at hr
      cases hb : Nat.ble (off + sz) cs.length with
      | false => rw [hb] at hr; simp at hr
      | true =>
        rw [hb] at hr
        simp only [cond_true, Option.some.injEq] at hr
        have hle : off + sz ≤ cs.length := Nat.le_of_ble_eq_true hb
        refine ⟨.agg (vs.extract off (off + sz)), w, G, r, s.st, ?_, .refl G, hI.agree, ?_, h⟩
        · simp only [execOp, hv]
          simp [Instr.field, run_underlying hu, hfd, asAgg, part, i2, i1, hoff]
        · subst hr
          refine .ag _ _ (by simp; omega) fun i x y h1 h2 => ?_
          have hi : i < sz := by have := lt_of_getElem? h1; simp at this; omega
          simp [hi, List.getElem?_drop] at h1
          rw [Array.getElem?_extract] at h2
          split at h2
          · exact hrel (off + i) x y h1 h2
          · simp at h2

theorem run_fieldAt {P : Program} {t : TypeId} {f off sz : Nat} {agg : Bool} (hf : fieldOf P t f = some (off, sz, agg)) (hsz : sz ≠ 0) (b o : Nat) (w : World) : (Instr.fieldAt t (.pointer (some ⟨b, o, none⟩)) f).run P w = .ok (.pointer (some ⟨b, o + off, none⟩)) w := by
  obtain ⟨fs, fd, hu, hfd, hoff, ht⟩ := fieldOf_inv hf
  obtain ⟨i1, _⟩ := tyOf_info ht w
  simp [Instr.fieldAt, run_underlying hu, hfd, Instr.sureAddr, fieldPlace, i1, hsz, hoff, Addr.add_lit]

theorem aops_fieldAddr_bx {t : TypeId} {x : Operand} {f off sz : Nat} {agg : Bool} {o ver q : Nat} (hx : aeval N s x = .bx o ver q) (hf : fieldOf E.P t f = some (off, sz, agg)) (hsz : Nat.beq sz 0 = false)
    (h : AOps E rd N ops rest K (s.put d (.bx o ver (q + off)))) : AOps E rd N ops (⟨d, .fieldAddr t x f, T, p, af, none⟩ :: rest) K s := by
  refine aops_cons rfl (aop_of_run nofun fun B0 w0 G a w _ hI => ?_)
  have he := hI.eval_of hx
  generalize hv : a.eval x = v at he
  cases he with
  | bx _ _ _ b hn hv' hb =>
    have hs : sz ≠ 0 := fun e => by subst e; simp at hsz
    exact ⟨_, w, G, _, s.st, by simp only [execOp, hv]; simp [run_fieldAt hf hs], .refl G, hI.agree, .bx o ver _ b hn hv' hb, h⟩

theorem aops_fieldAddr_pp {t : TypeId} {x : Operand} {f off sz : Nat} {agg : Bool} {cs : List AV} (hx : aeval N s x = .pp cs) (hf : fieldOf E.P t f = some (off, sz, agg)) (hsz : Nat.beq sz 0 = false) (hle : Nat.ble off cs.length = true)
    (h : AOps E rd N ops rest K (s.put d (.pp (cs.drop off)))) : AOps E rd N ops (⟨d, .fieldAddr t x f, T, p, af, none⟩ :: rest) K s := by
  refine aops_cons rfl (aop_of_run nofun fun B0 w0 G a w _ hI => ?_)
  have he := hI.eval_of hx
  generalize hv : a.eval x = v at he
  cases he with
  | pp _ b q pub hp hlen hrel =>
    have hs : sz ≠ 0 := fun e => by subst e; simp at hsz
    have ho : off ≤ cs.length := Nat.le_of_ble_eq_true hle
    refine ⟨.pointer (some ⟨b, q + off, none⟩), w, G, _, s.st, by simp only [execOp, hv]; simp [run_fieldAt hf hs], .refl G, hI.agree, ?_, h⟩
    exact .pp _ b (q + off) pub hp (by simp; omega) fun i x y h1 h2 => hrel (off + i) x y (by simpa using h1) (by rw [← h2]; congr 1; omega)

theorem aops_extract {x : Operand} {i : Nat} {xs : List AV} {r : AV} (hx : aeval N s x = .tu xs) (hr : xs[i]? = some r)
    (h : AOps E rd N ops rest K (s.put d r)) : AOps E rd N ops (⟨d, .extract x i, T, p, af, none⟩ :: rest) K s := by
  refine aops_cons rfl (aop_of_run nofun fun B0 w0 G a w _ hI => ?_)
  have he := hI.eval_of hx
  generalize hv : a.eval x = v at he
  cases he with
  | tu _ vs hl hrel =>
    obtain ⟨y, hy⟩ := get_of_size hr (Nat.le_of_eq hl)
    refine ⟨y, w, G, r, s.st, ?_, .refl G, hI.agree, hrel i r y hr hy, h⟩
    simp only [execOp, hv]
    simp [Instr.extract, hy]

def isIface : TypeDesc → Bool
  | .interface _ => true
  | _ => false
theorem aops_makeInterface {x : Operand} {t : TypeId} {dsc : TypeDesc} (hu : E.P.underlying t = some dsc) (hd : isIface dsc = false)
    (h : AOps E rd N ops rest K (s.put d (.ifc t (aeval N s x)))) : AOps E rd N ops (⟨d, .makeInterface t x, T, p, af, none⟩ :: rest) K s := by
  refine aops_cons rfl (aop_of_run nofun fun B0 w0 G a w _ hI => ⟨.iface t (a.eval x), w, G, _, s.st, ?_, .refl G, hI.agree, .ifc t _ _ (hI.eval x), h⟩)
  generalize a.eval = ρ
  cases dsc <;> first | (simp [isIface] at hd; done) | simp [execOp, Instr.makeInterface, run_underlying hu]

theorem relL_map {B0 : Nat} {w0 : World} {G : Gh} {a : Act} {w : World} (hI : Inv B0 w0 N G s a w) (xs : Array Operand) : RelL G (xs.toList.map (aeval N s)) (xs.map a.eval) :=
  ⟨by simp, fun i x y hx hy => by
    simp only [List.getElem?_map, Array.getElem?_toList, Array.getElem?_map] at hx hy
    cases hq : xs[i]? with
    | none => simp [hq] at hx
    | some z => simp [hq] at hx hy; subst hx; subst hy; exact hI.eval z⟩

theorem aops_makeFunc {fn : Fn} {xs ys : Array Operand}
    (h : AOps E rd N ops rest K (s.put d (.fn fn (xs.toList.map (aeval N s)) (ys.toList.map (aeval N s))))) : AOps E rd N ops (⟨d, .makeFunc fn xs ys, T, p, af, none⟩ :: rest) K s :=
  aops_cons rfl (aop_of_run nofun fun B0 w0 G a w _ hI => ⟨.func fn (xs.map a.eval) (ys.map a.eval), w, G, _, s.st, by
    generalize a.eval = ρ
    simp [execOp, Instr.makeFunc], .refl G, hI.agree, .fn _ _ _ _ _ (relL_map hI xs).1 (relL_map hI ys).1 (relL_map hI xs).2 (relL_map hI ys).2, h⟩)

/-- A call of a function by its name. -/
theorem aops_call {f : FuncId} {xs : Array Operand} {ts : Array TypeId} (hrun : ∀ vs w, (callFunc f vs).run E.P w = .ok (.enter f vs) w)
    (h : ACall E f (xs.toList.map (aeval N s)) s.st fun r st' => AOps E rd N ops rest K (AS.put ⟨s.t, st', s.df⟩ d r)) : AOps E rd N ops (⟨d, .call ⟨.value (.func f), xs, ts⟩, T, p, af, none⟩ :: rest) K s := by
  refine aops_cons rfl ⟨fun B0 w0 G a w hL hI K' Q hK => ?_⟩
  have hr : (execOp a.eval ⟨d, .call ⟨.value (.func f), xs, ts⟩, T, p, af, none⟩).run E.P w = .ok (.enter f (xs.map a.eval)) w := by
    have he : a.eval (.func f) = .func (.func f) #[] #[] := rfl
    generalize a.eval = ρ at he
    simp [execOp, resolve, Deferred.ofValue, he, invoke, hrun]
  refine ⟨fun _ _ => trivial, ?_⟩
  rw [semAt_eq (fun c h => by simp at h), hr, Oper.uponIn_enter]
  refine ⟨fun h => by simp [fw, Fence.wide] at h, callsIn_fw ((h.run B0 w0 G _ w hL hI.agree (relL_map hI xs)).mono ?_)⟩
  rintro e w' ⟨v, G', r, st', rfl, hG, hA, hR, hk⟩
  exact hK G' _ _ _ hG (hI.put hG hA d hR) hk

/-- A call of a function value. -/
theorem aops_callv {x : Operand} {f : FuncId} {fs cs : List AV} {xs : Array Operand} {ts : Array TypeId} (hx : aeval N s x = .fn (.func f) fs cs) (hrun : ∀ vs w, (callFunc f vs).run E.P w = .ok (.enter f vs) w)
    (h : ACall E f (fs ++ xs.toList.map (aeval N s) ++ cs) s.st fun r st' => AOps E rd N ops rest K (AS.put ⟨s.t, st', s.df⟩ d r)) : AOps E rd N ops (⟨d, .call ⟨.value x, xs, ts⟩, T, p, af, none⟩ :: rest) K s := by
  refine aops_cons rfl ⟨fun B0 w0 G a w hL hI K' Q hK => ?_⟩
  have he := hI.eval_of hx
  generalize hv : a.eval x = v at he
  cases he with
  | fn _ _ _ fs' cs' h1 h2 h3 h4 =>
    have hr : (execOp a.eval ⟨d, .call ⟨.value x, xs, ts⟩, T, p, af, none⟩).run E.P w = .ok (.enter f (fs' ++ xs.map a.eval ++ cs')) w := by
      generalize a.eval = ρ at hv
      simp [execOp, resolve, Deferred.ofValue, hv, invoke, hrun]
    refine ⟨fun _ _ => trivial, ?_⟩
    rw [semAt_eq (fun c h => by simp at h), hr, Oper.uponIn_enter]
    have hxs := relL_map hI xs
    refine ⟨fun h => by simp [fw, Fence.wide] at h, callsIn_fw ((h.run B0 w0 G _ w hL hI.agree ⟨by simp [h1, h2], fun i x y g1 g2 => ?_⟩).mono ?_)⟩
    · rw [Array.getElem?_append] at g2
      by_cases hi : i < (fs' ++ xs.map a.eval).size
      · rw [if_pos hi] at g2
        rw [List.getElem?_append_left (by simp at hi ⊢; omega)] at g1
        rw [Array.getElem?_append] at g2
        by_cases hi2 : i < fs'.size
        · rw [if_pos hi2] at g2
          rw [List.getElem?_append_left (by omega)] at g1
          exact h3 i x y g1 g2
        · rw [if_neg hi2] at g2
          rw [List.getElem?_append_right (by omega), h1] at g1
          exact hxs.2 _ x y g1 g2
      · rw [if_neg hi] at g2
        rw [List.getElem?_append_right (by simp at hi ⊢; omega)] at g1
        refine h4 _ x y g1 ?_
        rw [← g2]
        congr 1
        simp [h1]
    · rintro e w' ⟨v, G', r, st', rfl, hG, hA, hR, hk⟩
      exact hK G' _ _ _ hG (hI.put hG hA d hR) hk
end
end Go.Av
