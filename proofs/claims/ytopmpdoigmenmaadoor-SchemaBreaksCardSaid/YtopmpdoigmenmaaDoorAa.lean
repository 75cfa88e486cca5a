/- Appending on abstract states. Generic: names no program. -/
import Derived.Test.YtopmpdoigmenmaaDoorAp
set_option linter.unusedVariables false
namespace Go.Av
open Go Go.RowKit

/-- An element type: how many cells, how many bytes. -/
structure ElemOk (P : Program) (T : TypeId) (sz bytes : Nat) : Prop where
  ex : ∃ i z, P.info? T = some i ∧ i.zero = some z ∧ i.size = sz ∧ i.bytes = bytes ∧ z.cells.size = sz

theorem agree_append {P : Program} {B0 : Nat} {w0 : World} {G : Gh} {st : List AObj} {w : World} (hA : Agree B0 w0 G st w) {tt u ty T : TypeId} {du : TypeDesc} (htt : P.underlying tt = some (.slice T)) (hu : P.underlying u = some du) (hd : rowLike du)
    {sz bytes : Nat} (hT : ElemOk P T sz bytes) {t n m : Nat} (ht : st[t]? = some (.tip n sz T)) {xs ys : List AV} {v x : Value} (hv : Rel G (.sl sz xs (some t)) v) (hn : xs.length = n) (hm : ys.length = m)
    {news : List Value} (hx : Src P w x m sz news) (hys : ∀ y ∈ ys, y.cells.length = sz) (hrel : ∀ (i : Nat) (a : AV) (b : Value), (flat ys)[i]? = some a → news[i]? = some b → Rel G a b)
    (h63 : n + m ≤ maxLen) (hbytes : (n + m) * bytes ≤ 140737488355328) :
    ∃ v' w' G', (Builtin.append_ #[tt, u] ty #[v, x]).run P w = .ok v' w' ∧ G.le G' ∧ Agree B0 w0 G' (st.set t (.tip (n + m) sz T)) w' ∧ Rel G' (.sl sz (xs ++ ys) (some t)) v' := by
  obtain ⟨i, z, hi, hz, rfl, rfl, hzs⟩ := hT.ex
  obtain ⟨hraw, hver, htip⟩ := hA.ob t _ ht
  have htn : t < G.n := by rw [hA.n]; exact lt_of_getElem? ht
  have hlt : G.n = st.length := hA.n
  have hk := hA.kill t
  have hkt : (st.set t .dead)[t]? = some .dead := get_set_same ht
  have hother : ∀ o x, (st.set t .dead)[o]? = some x → x.live → o ≠ t ∧ st[o]? = some x := fun o x hx hl => by
    rcases getElem?_set' _ _ _ _ _ hx with ⟨_, e⟩ | ⟨h1, h2⟩
    · subst e; exact hl.elim
    · exact ⟨h1, h2⟩
  have hset : (st.set t AObj.dead).set t (.tip (n + m) i.size T) = st.set t (.tip (n + m) i.size T) := by rw [List.set_set]
  have hself : st.set t (.tip n i.size T) = st := by
    apply List.ext_getElem?
    intro k
    by_cases e : t = k
    · subst e; rw [List.getElem?_set_self (lt_of_getElem? ht)]; exact ht.symm
    · rw [List.getElem?_set_ne e]
  -- a new block
  have grow : ∀ (base : Option Addr) (c : Nat) (olds : List Value), (Builtin.firstCells i.size n (.slice base n c)).run P w.drew = .ok olds.toArray w.drew → c < n + m → olds.length = n * i.size → (flat xs).length = n * i.size → (∀ x ∈ xs, x.cells.length = i.size) →
      (∀ (j : Nat) (a : AV) (b : Value), (flat xs)[j]? = some a → olds[j]? = some b → Rel G a b) → Builtin.nextslicecap (n + m) c * i.bytes ≤ 281474976710656 → m ≠ 0 →
      ∃ v' w' G', (Builtin.append_ #[tt, u] ty #[.slice base n c, x]).run P w = .ok v' w' ∧ G.le G' ∧ Agree B0 w0 G' (st.set t (.tip (n + m) i.size T)) w' ∧ Rel G' (.sl i.size (xs ++ ys) (some t)) v' := by
    intro base c olds ho hc hol hfx hwx hrx hfit hm0
    have hrun := run_app_grow (ty := ty) htt hu hd hi hz hx base n c olds ho hc (by simp only [maxLen] at h63; omega) hfit
    have hge := grownCap_ge w (n + m) c T
    have hle := grownCap_le_maxLen w (n + m) c T h63
    generalize grownCap w (n + m) c T = cap at hrun hge hle
    have hsz : (olds.toArray ++ news.toArray ++ Builtin.zeroCells z.cells (cap - (n + m))).size = cap * i.size := by
      simp only [Array.size_append, List.size_toArray, size_zeroCells, hzs, hol, hx.count, ← Nat.add_mul]
      congr 1
      omega
    generalize hcv : olds.toArray ++ news.toArray ++ Builtin.zeroCells z.cells (cap - (n + m)) = c' at hrun hsz
    have hdrew : Below w.heap.size w w.drew := ⟨rfl, rfl, rfl, Nat.le_refl _, fun _ _ => rfl⟩
    have hA1 := hk.fresh hdrew
    have hpre : ∀ (j : Nat) (y : Value), (olds ++ news)[j]? = some y → c'[j]? = some y := fun j y hy => by
      have hj := lt_of_getElem? hy
      rw [← hcv, Array.getElem?_append_left (by simp at hj ⊢; omega), List.append_toArray]
      simpa using hy
    obtain ⟨hle1, hA2⟩ := hA1.newPub T c' (0, 0) (olds ++ news) hpre
    have hnp : G.pub w.heap.size = none := by
      cases hp : G.pub w.heap.size with
      | none => rfl
      | some vs => exact absurd (hA.pub_lt hp) (Nat.lt_irrefl _)
    obtain ⟨hle2, hA3⟩ := hA2.setTip (n' := n + m) (vs := olds ++ news) (k := w.heap.size) (cap := cap * i.size) (sz := i.size) (T := T) hkt (by simpa [Gh.publish] using hraw) (by simpa [Gh.publish] using hver) (by omega) (heap_alloc_new w.drew _) (by simp [Gh.publish]) (by simp [hol, hx.count, Nat.add_mul]) hsz hA.hB (fun o x hx hl => by
      obtain ⟨_, hx'⟩ := hother o x hx hl
      exact Nat.ne_of_lt ((hA.ob o x hx').lt hl))
    rw [hset] at hA3
    refine ⟨_, _, _, hrun, hle1.trans hle2, hA3, ?_⟩
    have hmono : ∀ {a b}, Rel G a b → Rel ((G.publish w.drew.heap.size (olds ++ news)).setOb t ⟨n + m, w.heap.size, cap * i.size, false⟩) a b := fun h => (h.mono hle1).mono hle2
    refine tip_rel (n := n) (m := m) (cap := cap) (k := w.heap.size) (vs := olds) (news := news) (by simp [Gh.setOb]) (by simp [Gh.setOb]) (by simp [Gh.setOb]) hle hge (by simpa [Gh.setOb, Gh.publish] using htn) (by omega) hn hm (by simp [Gh.setOb, Gh.publish]) (fun y hy => ?_) hol hx.count hfx (fun j a b h1 h2 => hmono (hrx j a b h1 h2)) (fun j a b h1 h2 => hmono (hrel j a b h1 h2))
    rcases List.mem_append.1 hy with h | h
    · exact hwx y h
    · exact hys y h
  by_cases hm0 : m = 0
  · subst hm0
    have hy0 : ys = [] := List.eq_nil_of_length_eq_zero hm
    have hn0 : news = [] := List.eq_nil_of_length_eq_zero (by simpa using hx.count)
    subst hy0; subst hn0
    have hle : ∃ base c, v = .slice base n c ∧ n ≤ c := by
      cases hv with
      | sl0 _ _ base cap h => exact ⟨base, cap, by rw [← hn]; rfl, by rw [← hn]; exact Nat.zero_le _⟩
      | sl _ _ _ b off cap pub hp hw hlen hr hto =>
        obtain ⟨_, _, _, h4⟩ := hto t rfl
        exact ⟨_, cap, by rw [hn], by rw [← hn]; exact (h4 (by rw [hver, hn])).2.2.2.2⟩
    obtain ⟨base, c, rfl, hnc⟩ := hle
    refine ⟨_, _, G, run_app_zero htt hu hd hi hx base n c hnc, .refl G, by rw [Nat.add_zero, hself]; exact hA, by rw [List.append_nil]; exact hv⟩
  · cases hv with
    | sl0 _ _ base cap h =>
      obtain ⟨_, rfl, rfl⟩ := h t rfl
      simp only [List.length_nil] at hn
      subst hn
      exact grow none 0 [] (by simp [run_firstCells_none]) (by omega) (by simp) (by simp [flat]) (by simp) (by simp [flat]) (by rw [Nat.zero_add, nextslicecap_zero (by omega)]; have := hbytes; rw [Nat.zero_add] at this; omega) hm0
    | sl _ _ _ b off cap pub hp hw hlen hr hto =>
      obtain ⟨_, hne, _, h4⟩ := hto t rfl
      obtain ⟨hb, rfl, hcp, hcm, hnc⟩ := h4 (by rw [hver, hn])
      rw [hn] at hne hnc
      obtain ⟨hB, c, vs, hc, hp', hvl, hcs⟩ := htip hne
      rw [hb] at hc hp' hB
      rw [hp'] at hp
      simp only [Option.some.injEq] at hp
      subst hp
      have hfx : (flat xs).length = n * i.size := by rw [flat_length hw, hn]
      have hrx : ∀ (j : Nat) (a : AV) (y : Value), (flat xs)[j]? = some a → vs[j]? = some y → Rel G a y := fun j a y h1 h2 => hr j a y h1 (by rw [Nat.zero_add]; exact h2)
      rw [hn]
      by_cases hroom : n + m ≤ cap
      · have hcur : ∀ (j : Nat) (y : Value), vs[j]? = some y → c[j]? = some y := fun j y hy => by
          obtain ⟨c2, T2, fz2, e1, e2⟩ := hA.pub b vs hp'
          rw [hc] at e1
          simp only [Option.some.injEq, Obj.cells.injEq] at e1
          rw [e1.1]
          exact e2 j y hy
        have hfit : n * i.size + news.length ≤ c.size := by rw [hx.count, hcs, ← hcp, ← Nat.add_mul]; exact Nat.mul_le_mul_right _ hroom
        have hrun := run_app_room (ty := ty) htt hu hd hi hx b n cap c hc hroom hfit
        have htake : c.toList.take (n * i.size) = vs := by
          apply List.ext_getElem?
          intro j
          by_cases hj : j < n * i.size
          · rw [List.getElem?_take_of_lt hj]
            have : vs[j]? = some (vs[j]'(by omega)) := List.getElem?_eq_getElem (by omega)
            rw [this]
            have := hcur j _ this
            simpa using this
          · rw [List.getElem?_eq_none (by simp; omega), List.getElem?_eq_none (by omega)]
        have hpre : ∀ (j : Nat) (y : Value), (vs ++ news)[j]? = some y → (c.toList.take (n * i.size) ++ news ++ c.toList.drop (n * i.size + news.length)).toArray[j]? = some y := fun j y hy => by
          rw [htake]
          have := lt_of_getElem? hy
          simp only [List.getElem?_toArray]
          rw [List.getElem?_append_left this]
          exact hy
        have hs : ∀ o x, (st.set t .dead)[o]? = some x → x.live → (G.ob o).blk ≠ b := fun o x hx hl => by
          obtain ⟨h1, h2⟩ := hother o x hx hl
          have := hA.sep o t x _ h1 h2 ht hl hne
          rwa [hb] at this
        obtain ⟨hle1, hA2⟩ := hk.growPub hB hc hp' hpre hs
        have hsz : (c.toList.take (n * i.size) ++ news ++ c.toList.drop (n * i.size + news.length)).toArray.size = cap * i.size := by
          simp
          have : c.size = cap * i.size := by rw [hcs, ← hcp]
          omega
        obtain ⟨hle2, hA3⟩ := hA2.setTip (n' := n + m) (vs := vs ++ news) (k := b) (cap := cap * i.size) (sz := i.size) (T := T) hkt (by simpa [Gh.publish] using hraw) (by simpa [Gh.publish] using hver) (by omega) (setRow_heap w b c _ T (0, 0) hc) (by simp [Gh.publish]) (by simp [hvl, hx.count, Nat.add_mul]) hsz hB (fun o x hx hl => by simpa [Gh.publish] using hs o x hx hl)
        rw [hset] at hA3
        refine ⟨_, _, _, hrun, hle1.trans hle2, hA3, ?_⟩
        have hmono : ∀ {a y}, Rel G a y → Rel ((G.publish b (vs ++ news)).setOb t ⟨n + m, b, cap * i.size, false⟩) a y := fun h => (h.mono hle1).mono hle2
        refine tip_rel (n := n) (m := m) (cap := cap) (k := b) (vs := vs) (news := news) (by simp [Gh.setOb]) (by simp [Gh.setOb]) (by simp [Gh.setOb]) hcm hroom (by simpa [Gh.setOb, Gh.publish] using htn) (by omega) hn hm (by simp [Gh.setOb, Gh.publish]) (fun y hy => ?_) hvl hx.count hfx (fun j a y h1 h2 => hmono (hrx j a y h1 h2)) (fun j a y h1 h2 => hmono (hrel j a y h1 h2))
        rcases List.mem_append.1 hy with h | h
        · exact hw y h
        · exact hys y h
      · refine grow (some ⟨b, 0, none⟩) cap vs ?_ (by omega) hvl hfx hw hrx (growslice_fits (by omega) hbytes) hm0
        refine run_firstCells_some w.drew i.size n ⟨b, 0, none⟩ n cap vs hvl fun j y hy => ?_
        obtain ⟨c2, T2, fz2, e1, e2⟩ := hA.pub b vs hp'
        have e1' : w.drew.heap[b]? = some (.cells c2 T2 fz2) := e1
        rw [Addr.add_lit]
        simp [World.cell?, e1', e2 j y hy]

section
variable {E : Env} {rd : Option Nat} {N : Nat} {ops : Array Oper} {K : AS → Prop} {s : AS} {rest : List Oper} {d : Option Tmp} {T : TypeId} {p : String} {af : Array Edge}

theorem src_slice {P : Program} {G : Gh} {B0 : Nat} {w0 : World} {st : List AObj} {w : World} (hA : Agree B0 w0 G st w) {sz : Nat} {ys : List AV} {tip : Option Nat} {x : Value} (h : Rel G (.sl sz ys tip) x) (hone : ∀ a ∈ flat ys, a.one = true) :
    ∃ news, Src P w x ys.length sz news ∧ (∀ y ∈ ys, y.cells.length = sz) ∧ ∀ (i : Nat) (a : AV) (b : Value), (flat ys)[i]? = some a → news[i]? = some b → Rel G a b := by
  cases h with
  | sl0 _ _ base cap ht =>
    refine ⟨[], ⟨fun w' => by simp [Builtin.lenOf], fun w' _ => ?_, by simp, by simp⟩, by simp, by simp [flat]⟩
    cases base with
    | none => simp [run_firstCells_none]
    | some a => exact run_firstCells_some w' sz 0 a 0 cap [] (by simp) (by simp)
  | sl _ _ _ b off cap pub hp hw hlen hr hto =>
    have hfl := flat_length hw
    have hnl : ((pub.drop off).take (flat ys).length).length = (flat ys).length := by simp; omega
    have hget : ∀ (j : Nat) (y : Value), ((pub.drop off).take (flat ys).length)[j]? = some y → j < (flat ys).length ∧ pub[off + j]? = some y := fun j y hy => by
      have hj := lt_of_getElem? hy
      rw [hnl] at hj
      rw [List.getElem?_take_of_lt hj, List.getElem?_drop] at hy
      exact ⟨hj, hy⟩
    refine ⟨(pub.drop off).take (flat ys).length, ⟨fun w' => by simp [Builtin.lenOf], fun w' hw' => ?_, by rw [hnl, hfl], fun u hu => ?_⟩, hw, fun i a b h1 h2 => hr i a b h1 (hget i b h2).2⟩
    · refine run_firstCells_some w' sz ys.length ⟨b, off, none⟩ ys.length cap _ (by rw [hnl, hfl]) fun j y hy => ?_
      obtain ⟨hj, hy⟩ := hget j y hy
      obtain ⟨c2, T2, fz2, e1, e2⟩ := hA.pub b pub hp
      have e1' : w'.heap[b]? = some (.cells c2 T2 fz2) := by rw [hw'.block b (hA.pub_lt hp)]; exact e1
      rw [Addr.add_lit]
      simp [World.cell?, e1', e2 _ y hy]
    · obtain ⟨j, hj⟩ := List.getElem?_of_mem hu
      obtain ⟨h1, h2⟩ := hget j u hj
      have h3 : (flat ys)[j]? = some (flat ys)[j] := List.getElem?_eq_getElem h1
      exact (hr j _ u h3 h2).one (hone _ (List.getElem_mem h1))

theorem src_string {P : Program} {w : World} (l : List UInt8) : Src P w (.string ⟨l.toArray⟩) l.length 1 (l.map fun b => .int .u8 (b.toNat : Nat)) := by
  refine ⟨fun w' => by simp [Builtin.lenOf, size_mk], fun w' _ => ?_, by simp, fun u hu => ?_⟩
  · have : (⟨l.toArray⟩ : ByteArray).extract 0 l.length = ⟨l.toArray⟩ := by rw [extract_mk]; simp
    simp [Builtin.firstCells, this]
  · simp at hu
    obtain ⟨b, _, rfl⟩ := hu
    rfl

theorem flat_bytes (l : List UInt8) : flat (l.map Uv) = l.map Uv := by
  induction l with
  | nil => rfl
  | cons b l ih => rw [List.map_cons, flat_cons, ih]; rfl

/-- append(a, b...) where a is at its tip. -/
theorem aops_append {x y : Operand} {t u T' : TypeId} {sz bytes o n m : Nat} {xs ys : List AV} {tip : Option Nat} (hx : aeval N s x = .sl sz xs (some o)) (hy : aeval N s y = .sl sz ys tip) (ho : s.st[o]? = some (.tip n sz T')) (hn : xs.length = n)
    (ht : E.P.underlying t = some (.slice T')) (hu : E.P.underlying u = some (.slice T')) (hT : ElemOk E.P T' sz bytes) (hone : allOne (flat ys) = true) (hm : ys.length = m) (h63 : n + m ≤ maxLen) (hb : (n + m) * bytes ≤ 140737488355328)
    (h : AOps E rd N ops rest K (AS.put ⟨s.t, s.st.set o (.tip (n + m) sz T'), s.df⟩ d (.sl sz (xs ++ ys) (some o)))) : AOps E rd N ops (⟨d, .call ⟨.builtin .append, #[x, y], #[t, u]⟩, T, p, af, none⟩ :: rest) K s := by
  refine aops_cons rfl (aop_of_run nofun fun B0 w0 G a w _ hI => ?_)
  obtain ⟨news, h1, h2, h3⟩ := src_slice (P := E.P) hI.agree (hI.eval_of hy) (by simpa [allOne] using hone)
  obtain ⟨v', w', G', e1, e2, e3, e4⟩ := agree_append (ty := T) hI.agree ht hu (.inr ⟨_, rfl⟩) hT ho (hI.eval_of hx) hn hm (hm ▸ h1) h2 h3 h63 hb
  refine ⟨v', w', G', _, _, ?_, e2, e3, e4, h⟩
  generalize a.eval = ρ at e1
  simp [execOp, resolve, invoke, builtin, e1]

/-- append(a, s...) of a string. -/
theorem aops_appendS {x y : Operand} {t u T' : TypeId} {bytes o n : Nat} {xs : List AV} {l : List UInt8} (hx : aeval N s x = .sl 1 xs (some o)) (hy : aeval N s y = Sv l) (ho : s.st[o]? = some (.tip n 1 T')) (hn : xs.length = n)
    (ht : E.P.underlying t = some (.slice T')) (hu : E.P.underlying u = some .string) (hT : ElemOk E.P T' 1 bytes) (h63 : n + l.length ≤ maxLen) (hb : (n + l.length) * bytes ≤ 140737488355328)
    (h : AOps E rd N ops rest K (AS.put ⟨s.t, s.st.set o (.tip (n + l.length) 1 T'), s.df⟩ d (.sl 1 (xs ++ l.map Uv) (some o)))) : AOps E rd N ops (⟨d, .call ⟨.builtin .append, #[x, y], #[t, u]⟩, T, p, af, none⟩ :: rest) K s := by
  refine aops_cons rfl (aop_of_run nofun fun B0 w0 G a w _ hI => ?_)
  have hv := hI.evalv hy
  obtain ⟨v', w', G', e1, e2, e3, e4⟩ := agree_append (ty := T) (m := l.length) (ys := l.map Uv) hI.agree ht hu (.inl rfl) hT ho (hI.eval_of hx) hn (by simp) (src_string (P := E.P) (w := w) l) (by simp [AV.cells]) (fun i a b h1 h2 => by
    rw [flat_bytes] at h1
    simp only [List.getElem?_map] at h1 h2
    cases hq : l[i]? with
    | none => simp [hq] at h1
    | some c => simp [hq] at h1 h2; subst h1; subst h2; exact .v _) h63 hb
  refine ⟨v', w', G', _, _, ?_, e2, e3, e4, h⟩
  generalize a.eval = ρ at e1 hv
  simp [execOp, resolve, invoke, builtin, hv, e1]
end
end Go.Av
