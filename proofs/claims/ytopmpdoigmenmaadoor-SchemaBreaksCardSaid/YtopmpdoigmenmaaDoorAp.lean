/- Appending. Generic: names no program. -/
import Derived.Test.YtopmpdoigmenmaaDoorAq
import Derived.Laws.AppendOwn
set_option linter.unusedVariables false
namespace Go.Av
open Go Go.RowKit

def rowLike (du : TypeDesc) : Prop := du = .string ∨ ∃ e, du = .slice e

/-- What is appended: m elements, these cells. -/
structure Src (P : Program) (w : World) (x : Value) (m size : Nat) (news : List Value) : Prop where
  len : ∀ w', (Builtin.lenOf x).run P w' = .ok m w'
  cells : ∀ w', Below w.heap.size w w' → (Builtin.firstCells size m x).run P w' = .ok news.toArray w'
  count : news.length = m * size
  one : ∀ u ∈ news, u.oneCell' = true

section
variable {P : Program} {w : World} {x : Value} {m : Nat} {news : List Value} {t u ty e : TypeId} {i : TypeInfo} {z : Value} {du : TypeDesc}

theorem run_app_zero (ht : P.underlying t = some (.slice e)) (hu : P.underlying u = some du) (hd : rowLike du) (hi : P.info? e = some i) (hx : Src P w x 0 i.size []) (base : Option Addr) (n c : Nat) (hn : n ≤ c) :
    (Builtin.append_ #[t, u] ty #[.slice base n c, x]).run P w = .ok (.slice base n c) w := by
  have h1 := hx.len
  have h2 := hx.cells w (Below.refl _ _)
  rcases hd with rfl | ⟨e', rfl⟩ <;> cases base <;> simp [Builtin.append_, run_underlying ht, run_underlying hu, sizeOf, typeInfo, hi, h1 w, h2, hn, storeCells]

theorem run_app_room (ht : P.underlying t = some (.slice e)) (hu : P.underlying u = some du) (hd : rowLike du) (hi : P.info? e = some i) (hx : Src P w x m i.size news)
    (g n c : Nat) (cur : Array Value) (hg : w.heap[g]? = some (.cells cur e (0, 0))) (hroom : n + m ≤ c) (hfit : n * i.size + news.length ≤ cur.size) :
    (Builtin.append_ #[t, u] ty #[.slice (some ⟨g, 0, none⟩) n c, x]).run P w = .ok (.slice (some ⟨g, 0, none⟩) (n + m) c) (w.setRow g (cur.toList.take (n * i.size) ++ news ++ cur.toList.drop (n * i.size + news.length)).toArray) := by
  have h1 := hx.len
  have h2 := hx.cells w (Below.refl _ _)
  have hst := run_storeCells_at P g (n * i.size) e news 0 cur w hg (by simpa using hfit) hx.one
  simp only [Nat.add_zero] at hst
  rcases hd with rfl | ⟨e', rfl⟩ <;> simp [Builtin.append_, run_underlying ht, run_underlying hu, sizeOf, typeInfo, hi, h1 w, h2, hroom, Addr.add_lit, hst]

theorem run_app_grow (ht : P.underlying t = some (.slice e)) (hu : P.underlying u = some du) (hd : rowLike du) (hi : P.info? e = some i) (hz : i.zero = some z) (hx : Src P w x m i.size news)
    (base : Option Addr) (n c : Nat) (olds : List Value) (ho : (Builtin.firstCells i.size n (.slice base n c)).run P w.drew = .ok olds.toArray w.drew)
    (hg : c < n + m) (h63 : ((n + m : Nat) : Int) ≤ 9223372036854775807) (hfit : Builtin.nextslicecap (n + m) c * i.bytes ≤ 281474976710656) :
    (Builtin.append_ #[t, u] ty #[.slice base n c, x]).run P w =
      .ok (.slice (some ⟨w.heap.size, 0, none⟩) (n + m) (grownCap w (n + m) c e))
        (w.drew.alloc (.cells (olds.toArray ++ news.toArray ++ Builtin.zeroCells z.cells (grownCap w (n + m) c e - (n + m))) e)) := by
  have h1 := hx.len
  have hn : ¬ (n + m ≤ c) := by omega
  have h63' : ¬ (9223372036854775807 < ((n : Int) + (m : Int))) := by omega
  have h48' : ¬ (281474976710656 < Builtin.nextslicecap (n + m) c * i.bytes) := by omega
  have h2 := hx.cells w.drew ⟨rfl, rfl, rfl, Nat.le_refl _, fun _ _ => rfl⟩
  rcases hd with rfl | ⟨e', rfl⟩ <;>
    (simp [Builtin.append_, run_underlying ht, run_underlying hu, sizeOf, typeInfo, zeroValue, hi, hz, h1 w, hn, h63', h48', Question.forced, ho, h2, newRow, grownCap]; congr 2; apply Array.ext'; simp [List.append_assoc])
end

section
variable {B0 : Nat} {w0 : World} {G : Gh} {st : List AObj} {w : World}

theorem Agree.kill (h : Agree B0 w0 G st w) (o : Nat) : Agree B0 w0 G (st.set o .dead) w := by
  have key : ∀ (k : Nat) (x : AObj), (st.set o .dead)[k]? = some x → x = .dead ∨ st[k]? = some x := fun k x hx => by
    rcases getElem?_set' _ _ _ _ _ hx with ⟨_, e⟩ | ⟨_, e⟩
    · exact .inl e
    · exact .inr e
  refine ⟨h.below, h.hB, by simp [h.n], h.pub, fun k x hx => ?_, fun k k' x x' hne hx hx' hl hl' => ?_⟩
  · rcases key k x hx with rfl | hx
    · trivial
    · exact h.ob k x hx
  · rcases key k x hx with rfl | hx
    · exact hl.elim
    · rcases key k' x' hx' with rfl | hx'
      · exact hl'.elim
      · exact h.sep k k' x x' hne hx hx' hl hl'

/-- Published memory grows at its end. -/
theorem Agree.growPub (h : Agree B0 w0 G st w) {b : Nat} {c c' : Array Value} {T : TypeId} {fz : Nat × Nat} {vs news : List Value} (hB : B0 ≤ b) (hc : w.heap[b]? = some (.cells c T fz)) (hp : G.pub b = some vs)
    (hv : ∀ (i : Nat) (y : Value), (vs ++ news)[i]? = some y → c'[i]? = some y) (hs : ∀ o x, st[o]? = some x → x.live → (G.ob o).blk ≠ b) :
    G.le (G.publish b (vs ++ news)) ∧ Agree B0 w0 (G.publish b (vs ++ news)) st (w.setRow b c') := by
  have hle := G.le_publish b (vs ++ news) vs news (.inr ⟨hp, rfl⟩)
  refine ⟨hle, h.below.trans ⟨rfl, rfl, rfl, by rw [setRow_size]; exact Nat.le_refl _, fun k hk => setRow_old _ _ _ _ (by omega)⟩, by rw [setRow_size]; exact h.hB, h.n, fun k ws hk => ?_, fun o x hx => ?_, h.sep⟩
  · by_cases e : k = b
    · subst e
      simp [Gh.publish] at hk
      subst hk
      exact ⟨c', T, fz, setRow_heap w k c c' T fz hc, hv⟩
    · have hk' : G.pub k = some ws := by simpa [Gh.publish, e] using hk
      rw [setRow_old _ _ _ _ e]
      exact h.pub k ws hk'
  · refine (h.ob o x hx).mono hle rfl (fun hl => ?_) (fun hl => setRow_old _ _ _ _ (hs o x hx hl))
    simp [Gh.publish, hs o x hx hl]

theorem Agree.setTip (h : Agree B0 w0 G st w) {t n n' k cap sz : Nat} {T : TypeId} (ht : st[t]? = some .dead) (hraw : (G.ob t).raw = false) (hver : (G.ob t).ver = n) (hn : n < n')
    {c : Array Value} {vs : List Value} (hc : w.heap[k]? = some (.cells c T (0, 0))) (hp : G.pub k = some vs) (hl : vs.length = n' * sz) (hcap : c.size = cap) (hk : B0 ≤ k) (hs : ∀ o x, st[o]? = some x → x.live → (G.ob o).blk ≠ k) :
    G.le (G.setOb t ⟨n', k, cap, false⟩) ∧ Agree B0 w0 (G.setOb t ⟨n', k, cap, false⟩) (st.set t (.tip n' sz T)) w := by
  have hle := G.le_setOb t ⟨n', k, cap, false⟩ (by rw [hver]; exact hn) hraw
  have hob : ∀ o, o ≠ t → (G.setOb t ⟨n', k, cap, false⟩).ob o = G.ob o := fun o ho => by simp [Gh.setOb, ho]
  have hobt : (G.setOb t ⟨n', k, cap, false⟩).ob t = ⟨n', k, cap, false⟩ := by simp [Gh.setOb]
  refine ⟨hle, h.below, h.hB, by simp [h.n, Gh.setOb], h.pub, fun o x hx => ?_, fun o o' x x' hne hx hx' hl1 hl2 => ?_⟩
  · rcases getElem?_set' _ _ _ _ _ hx with ⟨rfl, rfl⟩ | ⟨ho, hx⟩
    · exact ⟨by rw [hobt], by rw [hobt], fun _ => ⟨by rw [hobt]; exact hk, c, vs, by rw [hobt]; exact hc, by rw [hobt]; exact hp, hl, by rw [hobt]; exact hcap⟩⟩
    · exact (h.ob o x hx).mono hle (hob o ho) (fun _ => rfl) (fun _ => rfl)
  · rcases getElem?_set' _ _ _ _ _ hx with ⟨e1, e2⟩ | ⟨ho, hx⟩
    · rcases getElem?_set' _ _ _ _ _ hx' with ⟨e3, _⟩ | ⟨ho', hx'⟩
      · exact absurd (e1.trans e3.symm) hne
      · rw [e1, hobt, hob o' ho']
        exact (hs o' x' hx' hl2).symm
    · rcases getElem?_set' _ _ _ _ _ hx' with ⟨e3, _⟩ | ⟨ho', hx'⟩
      · rw [e3, hobt, hob o ho]
        exact hs o x hx hl1
      · rw [hob o ho, hob o' ho']
        exact h.sep o o' x x' hne hx hx' hl1 hl2

theorem get_set_same {st : List AObj} {t : Nat} {x y : AObj} (h : st[t]? = some x) : (st.set t y)[t]? = some y := by
  have := lt_of_getElem? h
  simp [this]

theorem tip_rel {t n m sz k cap : Nat} {xs ys : List AV} {vs news : List Value} (ho : (G.ob t).ver = n + m) (hb : (G.ob t).blk = k) (hcp : (G.ob t).cap = cap * sz) (hcap : cap ≤ maxLen) (hfit : n + m ≤ cap) (hG : t < G.n) (h0 : n + m ≠ 0) (hx : xs.length = n) (hy : ys.length = m)
    (hp : G.pub k = some (vs ++ news)) (hw : ∀ x ∈ xs ++ ys, x.cells.length = sz) (hvl : vs.length = n * sz) (hnl : news.length = m * sz) (hfx : (flat xs).length = n * sz)
    (h1 : ∀ (i : Nat) (x : AV) (y : Value), (flat xs)[i]? = some x → vs[i]? = some y → Rel G x y) (h2 : ∀ (i : Nat) (x : AV) (y : Value), (flat ys)[i]? = some x → news[i]? = some y → Rel G x y) : Rel G (.sl sz (xs ++ ys) (some t)) (.slice (some ⟨k, 0, none⟩) (n + m) cap) := by
  have hlen : (xs ++ ys).length = n + m := by simp [hx, hy]
  rw [← hlen]
  have hfy : (flat ys).length = m * sz := by rw [flat_length (fun y hy => hw y (List.mem_append_right _ hy)), hy]
  refine .sl sz (xs ++ ys) (some t) k 0 cap (vs ++ news) hp hw (by rw [flat_append]; simp; omega) (fun i x y g1 g2 => ?_) (fun t' ht' => ?_)
  · rw [flat_append] at g1
    rw [Nat.zero_add] at g2
    by_cases hi : i < n * sz
    · rw [List.getElem?_append_left (by omega)] at g1 g2
      exact h1 i x y g1 g2
    · rw [List.getElem?_append_right (by omega)] at g1 g2
      rw [hfx] at g1
      rw [hvl] at g2
      exact h2 _ x y g1 g2
  · simp only [Option.some.injEq] at ht'
    subst ht'
    refine ⟨hG, by omega, by omega, fun _ => ⟨hb, rfl, hcp.symm, hcap, by omega⟩⟩
end
end Go.Av
