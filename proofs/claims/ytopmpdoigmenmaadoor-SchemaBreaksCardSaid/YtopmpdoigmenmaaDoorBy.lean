/- A string's bytes in a row of the calls' own, and back. Generic: names no program. -/
import Derived.Test.YtopmpdoigmenmaaDoorAt
import Derived.Lib.SlBytesRow
import Derived.Lib.ConvBytes
import Derived.Lib.UnsafeStr
set_option linter.unusedVariables false
namespace Go.Av
open Go Go.RowKit

theorem Agree.newAt {B0 : Nat} {w0 : World} {G : Gh} {st : List AObj} {w w' : World} (h : Agree B0 w0 G st w) (cap : Nat) (raw : Bool) (x : AObj) (hb : Below w.heap.size w w') (hlt : w.heap.size < w'.heap.size) (hx : ObOk B0 (G.new 0 w.heap.size cap raw) w' st.length x) :
    Agree B0 w0 (G.new 0 w.heap.size cap raw) (st ++ [x]) w' := by
  have hle := G.le_new 0 w.heap.size cap raw
  have hold : ∀ o z, st[o]? = some z → (G.new 0 w.heap.size cap raw).ob o = G.ob o := fun o z hz => by
    have := lt_of_getElem? hz
    have := h.n
    simp [Gh.new, show o ≠ G.n by omega]
  have hnew : (G.new 0 w.heap.size cap raw).ob st.length = ⟨0, w.heap.size, cap, raw⟩ := by simp [Gh.new, h.n]
  refine ⟨h.below.trans (hb.mono h.hB), by have := h.hB; omega, by simp [Gh.new, h.n], fun b vs hp => ?_, fun o z hz => ?_, fun o o' z z' hne hz hz' hl hl' => ?_⟩
  · rw [hb.block b (h.pub_lt hp)]; exact h.pub b vs hp
  · rw [getElem?_snoc] at hz
    by_cases ho : o < st.length
    · rw [if_pos ho] at hz
      exact (h.ob o z hz).mono hle (hold o z hz) (fun _ => rfl) (fun hl => hb.block _ ((h.ob o z hz).lt hl))
    · rw [if_neg ho] at hz
      by_cases ho' : o = st.length
      · subst ho'
        rw [if_pos rfl] at hz
        simp only [Option.some.injEq] at hz
        subst hz
        exact hx
      · rw [if_neg ho'] at hz; simp at hz
  · rw [getElem?_snoc] at hz hz'
    by_cases ho : o < st.length
    · rw [if_pos ho] at hz
      by_cases ho2 : o' < st.length
      · rw [if_pos ho2] at hz'
        rw [hold o z hz, hold o' z' hz']; exact h.sep o o' z z' hne hz hz' hl hl'
      · rw [if_neg ho2] at hz'
        by_cases ho3 : o' = st.length
        · subst ho3
          rw [hold o z hz, hnew]
          exact Nat.ne_of_lt ((h.ob o z hz).lt hl)
        · rw [if_neg ho3] at hz'; simp at hz'
    · rw [if_neg ho] at hz
      by_cases ho' : o = st.length
      · subst ho'
        by_cases ho2 : o' < st.length
        · rw [if_pos ho2] at hz'
          rw [hold o' z' hz', hnew]
          exact Nat.ne_of_gt ((h.ob o' z' hz').lt hl')
        · rw [if_neg ho2] at hz'
          by_cases ho3 : o' = st.length
          · omega
          · rw [if_neg ho3] at hz'; simp at hz'
      · rw [if_neg ho'] at hz; simp at hz

theorem below_bytesW (w : World) (e : TypeId) (s : ByteArray) : Below w.heap.size w (Lib.bytesWorld w e s) := by
  unfold Lib.bytesWorld
  exact Lib.below_freeze ((Below.drew (Below.refl w.heap.size w)).alloc (Nat.le_refl _) _) (p := ⟨w.heap.size, _, none⟩) (Nat.le_refl _) _

section
variable {E : Env} {rd : Option Nat} {N : Nat} {ops : Array Oper} {K : AS → Prop} {s : AS} {rest : List Oper} {d : Option Tmp} {T : TypeId} {p : String} {af : Array Edge}
theorem aops_toBytes {x : Operand} {t t' e : TypeId} {l : List UInt8} {u : TypeDesc} (hx : aeval N s x = Sv l) (hs : E.P.underlying t = some u) (hd : E.P.underlying t' = some (.slice e)) (he : E.P.underlying e = some (.int .u8))
    (h : AOps E rd N ops rest K (AS.put ⟨s.t, s.st ++ [.row 0 e (l.map Uv)], s.df⟩ d (.os s.st.length 0 0 l.length))) : AOps E rd N ops (⟨d, .convert t t' x, T, p, af, none⟩ :: rest) K s := by
  refine aops_cons rfl (aop_of_run nofun fun B0 w0 G a w _ hI => ?_)
  have hv := hI.evalv hx
  have hrun := Lib.run_convert_string_bytes (P := E.P) w t t' e ⟨l.toArray⟩ hs hd he
  have hsz : (⟨l.toArray⟩ : ByteArray).size = l.length := by simp [ByteArray.size]
  have hnew : (G.new 0 w.heap.size 0 false).ob s.st.length = ⟨0, w.heap.size, 0, false⟩ := by simp [Gh.new, hI.agree.n]
  rw [hsz] at hrun
  refine ⟨.slice (some ⟨w.heap.size, 0, none⟩) l.length (grownCap w l.length 0 e), _, G.new 0 w.heap.size 0 false, _, _, ?_, G.le_new _ _ _ _, hI.agree.newAt 0 false (.row 0 e (l.map Uv)) (below_bytesW w e ⟨l.toArray⟩) (by rw [Lib.bytesWorld_size]; omega) ?_, ?_, h⟩
  · generalize a.eval = ρ at hv
    simp only [execOp, hv]
    rw [Sem.run_bind, hrun]
    rfl
  · refine ⟨by rw [hnew], by rw [hnew], by rw [hnew]; exact hI.agree.hB, ?_, Lib.bytesCells w e ⟨l.toArray⟩, _, by rw [hnew]; exact Lib.bytesWorld_at_new w e _, Nat.le_refl _, by simp [Lib.bytesCells], fun i x y h1 h2 => ?_⟩
    · rw [hnew]
      cases hp : G.pub w.heap.size with
      | none => exact hp
      | some vs => exact absurd (hI.agree.pub_lt hp) (Nat.lt_irrefl _)
    · have hi : i < l.length := by have := lt_of_getElem? h1; simpa using this
      simp only [Lib.bytesCells] at h2
      rw [Array.getElem?_append] at h2
      simp [hi] at h1 h2
      subst h1; subst h2
      exact .v _
  · exact .os _ _ _ _ _ _ (by rw [← hI.agree.n]; simp [Gh.new]) (by rw [hnew]; exact Nat.le_refl _) (fun _ => by rw [hnew])

theorem row_bytes {B0 : Nat} {w0 : World} {G : Gh} {st : List AObj} {w : World} (h : Agree B0 w0 G st w) {o ver : Nat} {e : TypeId} {l : List UInt8} (ho : st[o]? = some (.row ver e (l.map Uv))) : Lib.Bytes w (G.ob o).blk 0 ⟨l.toArray⟩ := by
  obtain ⟨_, _, _, _, c, fz, h4, _, h6, h7⟩ := h.ob o _ ho
  intro i hi
  have hi' : i < l.length := by simpa [ByteArray.size] using hi
  have hx : (l.map Uv)[i]? = some (Uv l[i]) := by simp [hi']
  obtain ⟨y, hy⟩ := get_of_size hx h6
  have hr := h7 i _ y hx hy
  have : y = .int .u8 (l[i].toNat : Int) := by generalize hq : Uv l[i] = q at hr; cases hr <;> simp_all
  subst this
  rw [Nat.zero_add]
  simp [World.cell?, h4, hy]
  rfl
theorem aops_ofBytes {x : Operand} {t t' e e' : TypeId} {l : List UInt8} {o ver len : Nat} (hx : aeval N s x = .os o ver 0 len) (hl : len = l.length) (ho : s.st[o]? = some (.row ver e' (l.map Uv))) (hs : E.P.underlying t = some (.slice e)) (he : E.P.underlying e = some (.int .u8)) (hd : E.P.underlying t' = some .string)
    (h : AOps E rd N ops rest K (s.put d (Sv l))) : AOps E rd N ops (⟨d, .convert t t' x, T, p, af, none⟩ :: rest) K s := by
  refine aops_cons rfl (aop_of_run nofun fun B0 w0 G a w _ hI => ?_)
  subst hl
  have he' := hI.eval_of hx
  have hb := row_bytes hI.agree ho
  obtain ⟨_, g1, _⟩ := hI.agree.ob o _ ho
  generalize hv : a.eval x = v at he'
  cases he' with
  | os _ _ _ _ b cap hn hver hbb =>
    have := hbb g1
    subst this
    have hrun := Lib.run_convert_whole (P := E.P) w t e t' hs he hd (G.ob o).blk 0 ⟨l.toArray⟩ hb cap
    have hsz : (⟨l.toArray⟩ : ByteArray).size = l.length := by simp [ByteArray.size]
    rw [hsz] at hrun
    refine ⟨.string ⟨l.toArray⟩, w, G, Sv l, s.st, ?_, .refl G, hI.agree, .v _, h⟩
    generalize a.eval = ρ at hv
    simp only [execOp, hv]
    rw [Sem.run_bind, hrun]
    rfl
theorem aops_load_row {x : Operand} {t : TypeId} {o ver off : Nat} {T' : TypeId} {cs : List AV} {r : AV} (hx : aeval N s x = .bx o ver off) (ho : s.st[o]? = some (.row ver T' cs)) (ht : tyOf E.P t = some (1, false)) (hr : cs[off]? = some r)
    (h : AOps E rd N ops rest K (s.put d r)) : AOps E rd N ops (⟨d, .load t x, T, p, af, none⟩ :: rest) K s := by
  refine aops_cons rfl (aop_of_run nofun fun B0 w0 G a w _ hI => ?_)
  have he := hI.eval_of hx
  generalize hv : a.eval x = v at he
  cases he with
  | bx _ _ _ b hn hv' hb =>
    obtain ⟨_, h1, h2, h3, c, fz, h4, h5, h6, h7⟩ := hI.agree.ob o _ ho
    have hb := hb h1
    rw [hb] at h4
    obtain ⟨v, hrun, hR⟩ := run_loadVar_of (w := w) (G := G) (b := b) (off := off) (off' := off) ht (fun i x hx hi => by
      obtain ⟨y, hy⟩ := get_of_size hx h6
      refine ⟨y, ?_, h7 i x y hx hy⟩
      simp [World.cell?, h4, show off + (i - off) = i by omega, hy]) (show aloadC 1 false off cs = some r from hr)
    exact ⟨v, w, G, r, s.st, by simp only [execOp, hv, Instr.loadAt, Instr.sureAddr]; simp [hrun], .refl G, hI.agree, hR, h⟩
/-- A cell of a row written. -/
theorem Agree.setRowAt {B0 : Nat} {w0 : World} {G : Gh} {st : List AObj} {w : World} (h : Agree B0 w0 G st w) {o ver off : Nat} {T : TypeId} {cs : List AV} {r : AV} {v : Value} (ho : st[o]? = some (.row ver T cs)) (hr : Rel G r v) :
    Agree B0 w0 G (st.set o (.row ver T (cs.set off r))) (w.setCell ⟨(G.ob o).blk, off, none⟩ v) := by
  obtain ⟨h0, h1, h2, h3, c, fz, h4, h5, h6, h7⟩ := h.ob o _ ho
  have hlt := lt_of_getElem? ho
  have hsize : (w.setCell ⟨(G.ob o).blk, off, none⟩ v).heap.size = w.heap.size := by simp [World.setCell]
  have hold : ∀ k, k ≠ (G.ob o).blk → (w.setCell ⟨(G.ob o).blk, off, none⟩ v).heap[k]? = w.heap[k]? := fun k hk => Below.heap_setCell w _ v k hk
  have hnew : (w.setCell ⟨(G.ob o).blk, off, none⟩ v).heap[(G.ob o).blk]? = some (.cells (c.setIfInBounds off v) T fz) := by
    simp [World.setCell, Array.getElem?_modify, h4]
  refine ⟨h.below.setCell h2 v, by rw [hsize]; exact h.hB, by simp [h.n], fun b vs hb => ?_, fun k x hx => ?_, fun k k' x x' hne hx hx' hl1 hl2 => ?_⟩
  · rw [hold _ (fun e => by rw [e, h3] at hb; simp at hb)]
    exact h.pub b vs hb
  · rcases getElem?_set' _ _ _ _ _ hx with ⟨rfl, rfl⟩ | ⟨hne, hx⟩
    · refine ⟨h0, h1, h2, h3, _, fz, hnew, by simpa using h5, by simpa using h6, fun i x y g1 g2 => ?_⟩
      rw [List.getElem?_set] at g1
      rw [Array.getElem?_setIfInBounds] at g2
      by_cases e : off = i
      · subst e
        simp only [if_true] at g1 g2
        split at g1
        · split at g2
          · simp at g1 g2; subst g1; subst g2; exact hr
          · simp at g2
        · simp at g1
      · rw [if_neg e] at g1 g2
        exact h7 i x y g1 g2
    · refine (h.ob k x hx).mono (.refl G) rfl (fun _ => rfl) (fun hlv => hold _ ?_)
      exact h.sep k o x _ hne hx ho hlv trivial
  · rcases getElem?_set' _ _ _ _ _ hx with ⟨e1, e2⟩ | ⟨_, e2⟩
    · rcases getElem?_set' _ _ _ _ _ hx' with ⟨e3, _⟩ | ⟨_, e4⟩
      · exact absurd (e1.trans e3.symm) hne
      · rw [e1]; exact h.sep o k' _ x' (fun e => hne (e1.trans e)) ho e4 trivial hl2
    · rcases getElem?_set' _ _ _ _ _ hx' with ⟨e3, _⟩ | ⟨_, e4⟩
      · rw [e3]; exact h.sep k o x _ (fun e => hne (e.trans e3.symm)) e2 ho hl1 trivial
      · exact h.sep k k' x x' hne e2 e4 hl1 hl2
theorem aops_store_row {x y : Operand} {t : TypeId} {o ver off : Nat} {T' : TypeId} {cs : List AV} {v : Value} (hx : aeval N s x = .bx o ver off) (hy : aeval N s y = .v v) (ho : s.st[o]? = some (.row ver T' cs)) (ht : tyOf E.P t = some (1, false))
    (h1 : v.oneCell' = true) (hfit : off < cs.length)
    (h : AOps E rd N ops rest K (AS.put ⟨s.t, s.st.set o (.row ver T' (cs.set off (.v v))), s.df⟩ d (.v undef))) : AOps E rd N ops (⟨d, .store t x y, T, p, af, none⟩ :: rest) K s := by
  refine aops_cons rfl (aop_of_skip nofun fun B0 w0 G a w _ hI => ?_)
  have he := hI.eval_of hx
  have hv2 := hI.evalv hy
  generalize hv : a.eval x = q at he
  cases he with
  | bx _ _ _ b hn hv' hb =>
    obtain ⟨_, g1, g2, g3, c, fz, g4, g5, g6, g7⟩ := hI.agree.ob o _ ho
    have hb := hb g1
    subst hb
    have hlt : off < c.size := by omega
    have hcell : w.cell? ⟨(G.ob o).blk, off, none⟩ = some c[off] := by simp [World.cell?, g4, hlt]
    have hfro : w.frozen? ⟨(G.ob o).blk, off, none⟩ = false := by
      obtain ⟨lo, hi⟩ := fz
      simp only [World.frozen?, g4, Bool.and_eq_false_iff, decide_eq_false_iff_not]
      left
      simp only at g5
      omega
    have hst : (store ⟨(G.ob o).blk, off, none⟩ v).run E.P w = .ok () (w.setCell ⟨(G.ob o).blk, off, none⟩ v) := by
      rw [run_store E.P w _ v _ h1, hcell]
      simp [hfro]
    refine ⟨_, G, _, ?_, .refl G, hI.agree.setRowAt (off := off) ho (.v v), h⟩
    have hcv : v.cells = #[v] := by cases v <;> first | rfl | simp [Value.oneCell'] at h1
    simp only [execOp, hv, hv2, Instr.storeAt, Instr.sureAddr]
    simp [storeVar, (tyOf_info ht w).1, hcv, storeCells, Addr.add_lit, hst]
/-- A byte turned by another one. -/
theorem xor8 (a b : UInt8) : bitOp .xor .u8 (a.toNat : Int) (b.toNat : Int) = ((a ^^^ b).toNat : Int) := by
  simp only [bitOp, IntKind.bits]
  have h1 : BitVec.ofInt 8 (a.toNat : Int) = a.toBitVec := by rw [BitVec.ofInt_natCast]; simp
  have h2 : BitVec.ofInt 8 (b.toNat : Int) = b.toBitVec := by rw [BitVec.ofInt_natCast]; simp
  have h3 : (BitVec.ofInt 8 (a.toNat : Int) ^^^ BitVec.ofInt 8 (b.toNat : Int)).toNat = (a ^^^ b).toNat := by
    rw [h1, h2]; rfl
  have h4 := UInt8.toNat_lt (a ^^^ b)
  have h5 : IntKind.u8.wrap (((a ^^^ b).toNat : Nat) : Int) = (((a ^^^ b).toNat : Nat) : Int) := by
    generalize (a ^^^ b).toNat = n at h4
    simp only [IntKind.wrap, IntKind.bits, IntKind.signed]
    simp
    omega
  exact (congrArg (fun z : Nat => IntKind.u8.wrap (z : Int)) h3).trans h5
end
end Go.Av
