/- Numbers of 32 bits, without sign; arrays. Generic: names no program. -/
import Derived.Test.YtopmpdoigmenmaaDoorAk
set_option linter.unusedVariables false
namespace Go.Av
open Go Go.RowKit

/-- A uint32. -/
@[reducible] def Wv (x : BitVec 32) : AV := .v (.int .u32 (x.toNat : Nat))

theorem wrap_u32 (n : Nat) : IntKind.u32.wrap (n : Int) = ((n % 4294967296 : Nat) : Int) := by
  simp [IntKind.wrap, IntKind.bits, IntKind.signed]
theorem ofInt_toNat (x : BitVec 32) : BitVec.ofInt 32 (x.toNat : Int) = x := by
  rw [BitVec.ofInt_natCast, BitVec.ofNat_toNat]
  simp
theorem wrap_toNat (x : BitVec 32) : IntKind.u32.wrap (x.toNat : Int) = (x.toNat : Int) := by
  rw [wrap_u32, Nat.mod_eq_of_lt x.isLt]

section
variable {E : Env} {rd : Option Nat} {N : Nat} {ops : Array Oper} {K : AS → Prop} {s : AS} {rest : List Oper} {d : Option Tmp} {T : TypeId} {p : String} {af : Array Edge}
theorem toNat_zero (x : BitVec 32) : ((x.toNat : Nat) : Int) = 0 ↔ x = 0#32 := by
  constructor
  · intro h
    apply BitVec.eq_of_toNat_eq
    simpa using h
  · rintro rfl
    rfl
theorem aops_xor32 {x y : Operand} {t t' : TypeId} {m n : Int} {a b : BitVec 32} (hx : aeval N s x = .v (.int .u32 m)) (hy : aeval N s y = .v (.int .u32 n)) (ha : BitVec.ofInt 32 m = a) (hb : BitVec.ofInt 32 n = b) (h : AOps E rd N ops rest K (s.put d (Wv (a ^^^ b)))) : AOps E rd N ops (⟨d, .binOp .xor t x y t', T, p, af, none⟩ :: rest) K s :=
  aops_xor hx hy (by subst ha; subst hb; simp only [bitOp, IntKind.bits]; rw [wrap_toNat]; rfl) h
theorem aops_and32 {x y : Operand} {t t' : TypeId} {m n : Int} {a b : BitVec 32} (hx : aeval N s x = .v (.int .u32 m)) (hy : aeval N s y = .v (.int .u32 n)) (ha : BitVec.ofInt 32 m = a) (hb : BitVec.ofInt 32 n = b) (h : AOps E rd N ops rest K (s.put d (Wv (a &&& b)))) : AOps E rd N ops (⟨d, .binOp .and t x y t', T, p, af, none⟩ :: rest) K s :=
  aops_and hx hy (by subst ha; subst hb; simp only [bitOp, IntKind.bits]; rw [wrap_toNat]; rfl) h
theorem aops_or32 {x y : Operand} {t t' : TypeId} {m n : Int} {a b : BitVec 32} (hx : aeval N s x = .v (.int .u32 m)) (hy : aeval N s y = .v (.int .u32 n)) (ha : BitVec.ofInt 32 m = a) (hb : BitVec.ofInt 32 n = b) (h : AOps E rd N ops rest K (s.put d (Wv (a ||| b)))) : AOps E rd N ops (⟨d, .binOp .or t x y t', T, p, af, none⟩ :: rest) K s :=
  aops_or hx hy (by subst ha; subst hb; simp only [bitOp, IntKind.bits]; rw [wrap_toNat]; rfl) h
theorem aops_compl32 {x : Operand} {t : TypeId} {a : BitVec 32} (hx : aeval N s x = Wv a) (h : AOps E rd N ops rest K (s.put d (Wv (~~~ a)))) : AOps E rd N ops (⟨d, .unOp .xor t x, T, p, af, none⟩ :: rest) K s :=
  aops_compl hx (by
    simp only [bitOp, IntKind.bits, IntKind.signed, Bool.false_eq_true, if_false]
    rw [ofInt_toNat]
    have h1 : BitVec.ofInt 32 IntKind.u32.max = BitVec.allOnes 32 := by decide
    have h2 : BitVec.ofInt 32 IntKind.u32.max ^^^ a = ~~~ a := by rw [h1, BitVec.xor_comm, BitVec.xor_allOnes]
    exact (congrArg (fun z : BitVec 32 => IntKind.u32.wrap (z.toNat : Int)) h2).trans (wrap_toNat _)) h
theorem aops_shl32 {x y : Operand} {t t' : TypeId} {yk : IntKind} {a : BitVec 32} {n : Nat} (hx : aeval N s x = Wv a) (hy : aeval N s y = .v (.int yk (n : Int))) (hn : Nat.ble n 32 = true) (h : AOps E rd N ops rest K (s.put d (Wv (a <<< n)))) : AOps E rd N ops (⟨d, .binOp .shl t x y t', T, p, af, none⟩ :: rest) K s :=
  aops_shl hx hy (by omega) (by
    have hn := Nat.le_of_ble_eq_true hn
    have : min (n : Int).toNat IntKind.u32.bits = n := by simp [IntKind.bits]; omega
    rw [this]
    have e : (a.toNat : Int) * 2 ^ n = ((a.toNat * 2 ^ n : Nat) : Int) := by simp
    rw [e, wrap_u32, BitVec.toNat_shiftLeft, Nat.shiftLeft_eq]) h
theorem aops_shr32 {x y : Operand} {t t' : TypeId} {yk : IntKind} {a : BitVec 32} {n : Nat} (hx : aeval N s x = Wv a) (hy : aeval N s y = .v (.int yk (n : Int))) (hn : Nat.ble n 32 = true) (h : AOps E rd N ops rest K (s.put d (Wv (a >>> n)))) : AOps E rd N ops (⟨d, .binOp .shr t x y t', T, p, af, none⟩ :: rest) K s :=
  aops_shr hx hy (by omega) (by
    have hn := Nat.le_of_ble_eq_true hn
    have : min (n : Int).toNat IntKind.u32.bits = n := by simp [IntKind.bits]; omega
    rw [this, BitVec.toNat_ushiftRight, Nat.shiftRight_eq_div_pow]
    have h0 : (0 : Int) ≤ 2 ^ n := by
      have : ((2 ^ n : Nat) : Int) = (2 : Int) ^ n := by simp
      rw [← this]
      exact Int.natCast_nonneg _
    rw [Int.fdiv_eq_ediv_of_nonneg _ h0]
    simp) h

/-- An element of an array's value. -/
theorem aops_indexA {x y : Operand} {t e : TypeId} {len sz : Nat} {agg : Bool} {k : IntKind} {n : Nat} {cs : List AV} {r : AV} (hx : aeval N s x = .ag cs) (hy : aeval N s y = .v (.int k (n : Int))) (hu : E.P.underlying t = some (.array len e)) (ht : tyOf E.P e = some (sz, agg)) (hn : n < len) (hr : aloadC sz agg (n * sz) cs = some r)
    (h : AOps E rd N ops rest K (s.put d r)) : AOps E rd N ops (⟨d, .index t x y, T, p, af, none⟩ :: rest) K s := by
  refine aops_cons rfl (aop_of_run nofun fun B0 w0 G a w _ hI => ?_)
  have he := hI.eval_of hx
  have hey := hI.evalv hy
  generalize hv : a.eval x = v at he
  cases he with
  | ag _ vs hl hrel =>
    obtain ⟨i1, i2⟩ := tyOf_info ht w
    cases agg with
    | false =>
      simp only [aloadC, cond_false] at hr
      obtain ⟨z, hz⟩ := get_of_size hr (Nat.le_of_eq hl)
      refine ⟨z, w, G, r, s.st, ?_, .refl G, hI.agree, hrel _ r z hr hz, h⟩
      generalize a.eval = ρ at hv hey
      simp only [execOp, hv, hey]
      simp [Instr.index, asIntOf, run_underlying hu, hn, part, i1, i2, hz]
    | true =>
      simp only [aloadC, cond_true] at hr
      cases hb : Nat.ble (n * sz + sz) cs.length with
      | false => rw [hb] at hr; simp at hr
      | true =>
        rw [hb] at hr
        simp only [cond_true, Option.some.injEq] at hr
        have hle : n * sz + sz ≤ cs.length := Nat.le_of_ble_eq_true hb
        refine ⟨.agg (vs.extract (n * sz) (n * sz + sz)), w, G, r, s.st, ?_, .refl G, hI.agree, ?_, h⟩
        · generalize a.eval = ρ at hv hey
          simp only [execOp, hv, hey]
          simp [Instr.index, asIntOf, run_underlying hu, hn, part, i1, i2]
        · subst hr
          refine .ag _ _ (by simp; omega) fun i x y h1 h2 => ?_
          have hi : i < sz := by have := lt_of_getElem? h1; simp at this; omega
          simp [hi, List.getElem?_drop] at h1
          rw [Array.getElem?_extract] at h2
          split at h2
          · exact hrel (n * sz + i) x y h1 h2
          · simp at h2
/-- An element's address in an array variable. -/
theorem aops_indexAddrA {x y : Operand} {t e : TypeId} {len sz : Nat} {agg : Bool} {k : IntKind} {n o ver off : Nat} (hx : aeval N s x = .bx o ver off) (hy : aeval N s y = .v (.int k (n : Int))) (hu : E.P.underlying t = some (.array len e)) (ht : tyOf E.P e = some (sz, agg)) (hn : n < len)
    (h : AOps E rd N ops rest K (s.put d (.bx o ver (off + n * sz)))) : AOps E rd N ops (⟨d, .indexAddr t x y, T, p, af, none⟩ :: rest) K s := by
  refine aops_cons rfl (aop_of_run nofun fun B0 w0 G a w _ hI => ?_)
  have he := hI.eval_of hx
  have hey := hI.evalv hy
  generalize hv : a.eval x = v at he
  cases he with
  | bx _ _ _ b hn' hver hb =>
    refine ⟨.pointer (some ⟨b, off + n * sz, none⟩), w, G, _, s.st, ?_, .refl G, hI.agree, .bx o ver _ b hn' hver hb, h⟩
    generalize a.eval = ρ at hv hey
    simp only [execOp, hv, hey]
    simp [Instr.indexAt, asIntOf, run_underlying hu, Instr.sureAddr, hn, (tyOf_info ht w).1, Addr.add_lit]
/-- A number made one of 32 bits. -/
theorem aops_convW {x : Operand} {t t' : TypeId} {k : IntKind} {n : Nat} {e : TypeDesc} (hx : aeval N s x = .v (.int k (n : Int))) (hs : E.P.underlying t = some e) (hd : E.P.underlying t' = some (.int .u32)) (hn : n < 4294967296)
    (h : AOps E rd N ops rest K (s.put d (Wv (BitVec.ofNat 32 n)))) : AOps E rd N ops (⟨d, .convert t t' x, T, p, af, none⟩ :: rest) K s :=
  aops_convI hx hs hd (by rw [wrap_u32, Nat.mod_eq_of_lt hn, BitVec.toNat_ofNat, Nat.mod_eq_of_lt hn]) h
/-- A store at a place that is counted. -/
theorem aops_store_var {x y : Operand} {t : TypeId} {sz : Nat} {agg : Bool} {st loc loc' : List AObj} {k ver off : Nat} {T' : TypeId} {cs xs : List AV} {r : AV} (hs : s.st = st ++ loc) (hx : aeval N s x = .bx (st.length + k) ver off) (hy : aeval N s y = r) (ho : loc[k]? = some (.cells ver T' cs)) (ht : tyOf E.P t = some (sz, agg))
    (hok : r.okc = true) (hc : r.cells = xs) (hsz : Nat.beq xs.length sz = true) (h1 : allOne xs = true) (hfit : off + sz ≤ cs.length) (hl : loc' = loc.set k (.cells ver T' (splice cs off xs)))
    (h : AOps E rd N ops rest K (AS.put ⟨s.t, st ++ loc', s.df⟩ d (.v undef))) : AOps E rd N ops (⟨d, .store t x y, T, p, af, none⟩ :: rest) K s :=
  aops_store_loc hs hx hy ho ht hok hc hsz h1 (Nat.ble_eq_true_of_le hfit) hl h
theorem splice_one {cs : List AV} {off : Nat} {x : AV} (h : off < cs.length) : splice cs off [x] = cs.set off x := by
  rw [List.set_eq_take_append_cons_drop, if_pos h]
  simp [splice]
theorem stA_mk' {t : Nat → AV} {L : List (Nat × AV)} {st st' : List AObj} {df : List Nat} (h : HasL t L) (e : st' = st) : StA L st df ⟨t, st', df⟩ := by
  subst e
  exact stA_mk h
/-- One result that stands in a variable. -/
theorem ares_cell1_loc {fn : Func} {t : Tmp} {Ta : TypeId} {st loc : List AObj} {k1 v1 f1 sz1 : Nat} {agg1 : Bool} {T1 : TypeId} {cs1 : List AV} {r1 : AV} (hr : fn.results = #[.cell t Ta]) (hs : s.st = st ++ loc)
    (hx1 : aeval fn.ntmps s (.tmp t) = .bx (st.length + k1) v1 f1) (ho1 : loc[k1]? = some (.cells v1 T1 cs1)) (ht1 : tyOf E.P Ta = some (sz1, agg1)) (hl1 : aloadC sz1 agg1 f1 cs1 = some r1) : ARes E fn s r1 := by
  refine ⟨fun B0 w0 G a w _ hI => ?_⟩
  obtain ⟨b1, y1, e1, e2, e3⟩ := load_bx_run hI hx1 (by rw [hs]; exact get_loc ho1) ht1 hl1
  simp only [Act.eval, Array.getD_eq_getD_getElem?] at e1
  refine ⟨y1, ?_, e3⟩
  simp [results, hr, e1, asAddr, e2]

/-- An array's literal. -/
def arrayPl (P : Program) (t : TypeId) : Option Nat :=
  match P.underlying t with
  | some (.array _ e) => match P.info? e with
    | some i => some i.size
    | none => none
  | _ => none
theorem arrayPl_inv {P : Program} {t : TypeId} {sz : Nat} (h : arrayPl P t = some sz) : ∃ len e i, P.underlying t = some (.array len e) ∧ P.info? e = some i ∧ i.size = sz := by
  unfold arrayPl at h
  split at h
  · rename_i len e hu
    split at h
    · rename_i i hi
      simp only [Option.some.injEq] at h
      exact ⟨len, e, i, hu, hi, h⟩
    · simp at h
  · simp at h
theorem aq_buildA {t : TypeId} {parts : Array (Nat × Operand)} {zs cs : List AV} {sz : Nat} (hz : zeroA E.P t = some zs) (hp : arrayPl E.P t = some sz) (hf : fillA (fun i => some (i * sz, sz)) zs (partsA N s parts) = some cs)
    (h : AQ E N ops rest K (s.put d (.ag cs))) : AQ E N ops (⟨d, .build t parts, T, p, af, none⟩ :: rest) K s := by
  refine aq_op rfl nofun fun B0 w0 G a w _ hI => ?_
  obtain ⟨len, e, i, hu, hi, rfl⟩ := arrayPl_inv hp
  obtain ⟨z, hrun, hr⟩ := zeroA_run hz w
  obtain ⟨c', h1, h2⟩ := fill_rel (fun k => some (k * i.size, i.size)) (partsA N s parts) (parts.toList.map fun x => (x.1, a.eval x.2)) zs z.cells cs (by simp [partsA]) (parts_rel hI parts) (hr G) hf
  have hz' : ∃ ti, E.P.info? t = some ti ∧ ti.zero = some z := by
    unfold zeroValue at hrun
    simp [typeInfo] at hrun
    cases hti : E.P.info? t with
    | none => simp [hti] at hrun
    | some ti =>
      simp [hti] at hrun
      cases htz : ti.zero with
      | none => simp [htz] at hrun
      | some y => simp [htz] at hrun; exact ⟨ti, rfl, by rw [htz, hrun]⟩
  obtain ⟨ti, g1, g2⟩ := hz'
  refine ⟨.agg c', .ag cs, fun w' _ => ?_, .ag _ _ h2.1 h2.2, h⟩
  generalize a.eval = ρ at h1
  simp [execOp, Instr.build, run_underlying hu, zeroValue, typeInfo, g1, g2, sizeOf, hi, h1]
theorem aq_idx {x y : Operand} {t : TypeId} {m : List UInt8} {k : IntKind} {n : Nat} (hx : aeval N s x = Sv m) (hy : aeval N s y = .v (.int k (n : Int))) (hu : E.P.underlying t = some .string) (h1 : n < m.length)
    (h : AQ E N ops rest K (s.put d (Uv (m.getD n 0)))) : AQ E N ops (⟨d, .index t x y, T, p, af, none⟩ :: rest) K s :=
  aq_scalar _ rfl nofun (fun a w he => by
    have hg : (⟨m.toArray⟩ : ByteArray)[n]? = some (m.getD n 0) := by
      simp only [getElem?_def, size_mk, h1, dite_true, List.getD, Option.getD_some]
      rfl
    simp [execOp, Instr.index, he _ _ hx, he _ _ hy, asIntOf, run_underlying hu, hg]) h
theorem aq_convW {x : Operand} {t t' : TypeId} {k : IntKind} {n : Nat} {e : TypeDesc} (hx : aeval N s x = .v (.int k (n : Int))) (hs : E.P.underlying t = some e) (hd : E.P.underlying t' = some (.int .u32)) (hn : n < 4294967296)
    (h : AQ E N ops rest K (s.put d (Wv (BitVec.ofNat 32 n)))) : AQ E N ops (⟨d, .convert t t' x, T, p, af, none⟩ :: rest) K s := by
  have hr : IntKind.u32.wrap (n : Int) = (((BitVec.ofNat 32 n).toNat : Nat) : Int) := by rw [wrap_u32, Nat.mod_eq_of_lt hn, BitVec.toNat_ofNat, Nat.mod_eq_of_lt hn]
  exact aq_scalar _ rfl nofun (fun a w he => by rw [← hr]; simp [execOp, he _ _ hx, convert, run_underlying hs, run_underlying hd, Conv.intToInt]) h
/-- A byte's half bytes. -/
theorem aq_shr4 {x y : Operand} {t t' : TypeId} {yk : IntKind} {c : UInt8} (hx : aeval N s x = Uv c) (hy : aeval N s y = .v (.int yk 4)) (h : AQ E N ops rest K (s.put d (.v (.int .u8 ((c.toNat / 16 : Nat) : Int))))) : AQ E N ops (⟨d, .binOp .shr t x y t', T, p, af, none⟩ :: rest) K s :=
  aq_scalar _ rfl nofun (fun a w he => by
    have : (c.toNat : Int).fdiv (2 ^ (min (4 : Int).toNat IntKind.u8.bits)) = ((c.toNat / 16 : Nat) : Int) := by
      rw [Int.fdiv_eq_ediv_of_nonneg _ (by decide)]
      simp [IntKind.bits]
    rw [← this]
    simp [execOp, he _ _ hx, he _ _ hy, eqGuard_at_int, binOp_shr, Op.shift]) h
theorem aq_and15 {x y : Operand} {t t' : TypeId} {c : UInt8} (hx : aeval N s x = Uv c) (hy : aeval N s y = .v (.int .u8 15)) (h : AQ E N ops rest K (s.put d (.v (.int .u8 ((c.toNat % 16 : Nat) : Int))))) : AQ E N ops (⟨d, .binOp .and t x y t', T, p, af, none⟩ :: rest) K s :=
  aq_and hx hy (by
    simp only [bitOp, IntKind.bits]
    have h1 : BitVec.ofInt 8 (c.toNat : Int) = c.toBitVec := by rw [BitVec.ofInt_natCast]; simp
    have h2 : (BitVec.ofInt 8 (c.toNat : Int) &&& BitVec.ofInt 8 15).toNat = c.toNat % 16 := by
      rw [h1, BitVec.toNat_and]
      exact Nat.and_two_pow_sub_one_eq_mod c.toNat 4
    have h3 : IntKind.u8.wrap ((c.toNat % 16 : Nat) : Int) = ((c.toNat % 16 : Nat) : Int) := by
      simp [IntKind.wrap, IntKind.bits, IntKind.signed]
      omega
    exact (congrArg (fun z : Nat => IntKind.u8.wrap (z : Int)) h2).trans h3) h

theorem aops_shr32z {x y : Operand} {t t' : TypeId} {yk : IntKind} {a : BitVec 32} {m : Int} {n : Nat} (hx : aeval N s x = Wv a) (hy : aeval N s y = .v (.int yk m)) (hm : m = (n : Int)) (hn : n ≤ 32) (h : AOps E rd N ops rest K (s.put d (Wv (a >>> n)))) : AOps E rd N ops (⟨d, .binOp .shr t x y t', T, p, af, none⟩ :: rest) K s :=
  aops_shr32 hx (hm ▸ hy) (Nat.ble_eq_true_of_le hn) h
theorem and15_lt (x : BitVec 32) : (x &&& BitVec.ofInt 32 15).toNat < 16 := by
  rw [BitVec.toNat_and]
  exact Nat.lt_of_le_of_lt Nat.and_le_right (by decide)

/-- Sums, quotients and rests of numbers that are not negative, whatever their kind. -/
theorem aops_addN {x y : Operand} {t t' : TypeId} {k : IntKind} {m n : Nat} (hx : aeval N s x = .v (.int k (m : Int))) (hy : aeval N s y = .v (.int k (n : Int))) (hf : k.wrap ((m + n : Nat) : Int) = ((m + n : Nat) : Int))
    (h : AOps E rd N ops rest K (s.put d (.v (.int k ((m + n : Nat) : Int))))) : AOps E rd N ops (⟨d, .binOp .add t x y t', T, p, af, none⟩ :: rest) K s :=
  aops_add hx hy (by rw [← Int.natCast_add]; exact hf) h
theorem aops_quoN {x y : Operand} {t t' : TypeId} {k : IntKind} {m n : Nat} (hx : aeval N s x = .v (.int k (m : Int))) (hy : aeval N s y = .v (.int k (n : Int))) (hn : n ≠ 0) (hf : k.wrap ((m / n : Nat) : Int) = ((m / n : Nat) : Int))
    (h : AOps E rd N ops rest K (s.put d (.v (.int k ((m / n : Nat) : Int))))) : AOps E rd N ops (⟨d, .binOp .quo t x y t', T, p, af, none⟩ :: rest) K s :=
  aops_quo hx hy (by omega) (by rw [Int.tdiv_eq_ediv_of_nonneg (by omega), ← Int.natCast_ediv]; exact hf) h
theorem aops_remN {x y : Operand} {t t' : TypeId} {k : IntKind} {m n : Nat} (hx : aeval N s x = .v (.int k (m : Int))) (hy : aeval N s y = .v (.int k (n : Int))) (hn : n ≠ 0)
    (h : AOps E rd N ops rest K (s.put d (.v (.int k ((m % n : Nat) : Int))))) : AOps E rd N ops (⟨d, .binOp .rem t x y t', T, p, af, none⟩ :: rest) K s :=
  aops_rem hx hy (by omega) (by rw [Int.tmod_eq_emod_of_nonneg (by omega), ← Int.natCast_emod]; exact h)
theorem wrapU64 {n : Nat} (h : n < 18446744073709551616) : IntKind.u64.wrap (n : Int) = (n : Int) := by
  simp [IntKind.wrap, IntKind.bits, IntKind.signed]
  omega
theorem wrapU32 {n : Nat} (h : n < 4294967296) : IntKind.u32.wrap (n : Int) = (n : Int) := by
  rw [wrap_u32, Nat.mod_eq_of_lt h]
end
end Go.Av
