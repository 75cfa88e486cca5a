/- Contracts of Go's library, over this seat's program, out of the shelf's. -/
import Derived.Test.YtopmpdoigmenmaaDoorAu
import Derived.Test.YtopmpdoigmenmaaDoorSh
set_option linter.unusedVariables false
namespace Go.Proofs.YtopmpdoigmenmaaDoor
open Go Go.Av Go.RowKit Go.Proofs

/-- What is known of the library's package-level variables. -/
structure Laid (w : World) : Prop where
  shaped : World.ShapedOpen Tryd.prog w
  pow : Lib.TabIs Tryd.prog w "internal/strconv.uint64pow10" .u64 Lib.pow10Tab
  syn : ∃ tp p, World.var? Tryd.prog w "strconv.ErrSyntax" = some #[.iface tp p]
  ran : ∃ tp p, World.var? Tryd.prog w "strconv.ErrRange" = some #[.iface tp p]
@[reducible] noncomputable def E : Env := ⟨Tryd.prog, fun B0 w0 => ∀ w, Below B0 w0 w → Laid w⟩

theorem contains_c (l m : List UInt8) (st : List AObj) (hl : l.length < 4294967281) : ACall E 20 [Sv l, Sv m] st fun r st' => r = Bv (Lib.contains l m) ∧ st' = st :=
  acall_of_calls (vals := #[.string ⟨l.toArray⟩, .string ⟨m.toArray⟩]) rfl fun _ _ w hL hb => (Tryd.strings_Contains_shaped ⟨l.toArray⟩ ⟨m.toArray⟩ w (hL w hb).shaped (by simpa [ByteArray.size] using hl)).mono fun _ _ ⟨h1, h2⟩ => ⟨h1, below_of_eq h2⟩
theorem hasPrefix_c (l m : List UInt8) (st : List AObj) : ACall E 19 [Sv l, Sv m] st fun r st' => r = Bv (Lib.hasPrefix l m) ∧ st' = st :=
  acall_of_calls (vals := #[.string ⟨l.toArray⟩, .string ⟨m.toArray⟩]) rfl fun _ _ w _ _ => (Tryd.strings_HasPrefix ⟨l.toArray⟩ ⟨m.toArray⟩ w).mono fun _ _ ⟨h1, h2⟩ => ⟨h1, below_of_eq h2⟩
theorem itoa_c (n : Int) (st : List AObj) (h0 : -9223372036854775808 ≤ n) (h1 : n ≤ 9223372036854775807) : ACall E 31 [Iv n] st fun r st' => r = Sv (Lib.itoa n) ∧ st' = st :=
  acall_of_calls (vals := #[.int .i64 n]) rfl fun _ _ w hL hb => (Tryd.strconv_Itoa n h0 h1 w (hL w hb).pow).mono fun _ _ ⟨h1, k, os, h2⟩ => ⟨h1, h2 ▸ below_grow w k os⟩
theorem below_bytes {w w' : World} {T : TypeId} {s : ByteArray} (h : w' = w ∨ ∃ t, w' = Lib.bytesWorld w T t) : Below w.heap.size w w' := by
  rcases h with rfl | ⟨t, rfl⟩
  · exact Below.refl _ _
  · unfold Lib.bytesWorld
    exact Lib.below_freeze ((Below.drew (Below.refl w.heap.size w)).alloc (Nat.le_refl _) _) (p := ⟨w.heap.size, _, none⟩) (Nat.le_refl _) _
/-- A contract over values alone that ends in a number and an error. -/
theorem acall_of_numErr {f : FuncId} {st : List AObj} {args : List AV} {vals : Array Value} {R : Int → Option (TypeId × Value) → Prop} (ha : args = vals.toList.map .v)
    (h : ∀ B0 w0 w, E.L B0 w0 → Below B0 w0 w → Calls E.P f vals w fun e w' => ∃ n x, e = .returned (.tuple #[.int .i64 n, match x with | none => .nilIface | some (t, y) => .iface t y]) ∧ R n x ∧ Below w.heap.size w w') :
    ACall E f args st fun r st' => st' = st ∧ ∃ n x, r = .tu [Iv n, match x with | none => .v .nilIface | some (t, y) => .ifc t (.v y)] ∧ R n x := by
  subst ha
  refine ⟨fun B0 w0 G vs w hL hA hR => ?_⟩
  have hv : vs = vals := by
    have hs : vs.size = vals.size := by have := hR.1; simpa using this.symm
    apply Array.ext hs
    intro i h1 h2
    have := hR.2 i (.v vals[i]) vs[i] (by simp [h2]) (by simp [h1])
    generalize vs[i] = y at this
    cases this
    rfl
  subst hv
  refine (h B0 w0 w hL hA.below).mono ?_
  rintro e w' ⟨n, x, rfl, hRR, hb⟩
  refine ⟨_, G, _, st, rfl, .refl G, hA.fresh hb, rel_tu2 (.v _) ?_, rfl, n, x, rfl, hRR⟩
  cases x with
  | none => exact .v _
  | some p => exact .ifc _ _ _ (.v _)

/-- strconv.Atoi. -/
theorem atoi_c (l : List UInt8) (st : List AObj) (hl : l.length ≤ 281474976710656) : ACall E 30 [Sv l] st fun r st' => st' = st ∧ ∃ n x, r = .tu [Iv n, match x with | none => .v .nilIface | some (t, y) => .ifc t (.v y)] ∧ match x with | none => Lib.atoiAll l = .ok n | some _ => ∀ v, Lib.atoiAll l ≠ .ok v := by
  refine acall_of_numErr (vals := #[.string ⟨l.toArray⟩]) (R := fun n x => match x with | none => Lib.atoiAll l = .ok n | some _ => ∀ v, Lib.atoiAll l ≠ .ok v) rfl fun B0 w0 w hL hb => ?_
  have hls : (⟨l.toArray⟩ : ByteArray).data.toList = l := rfl
  rcases ho : Lib.atoiAll l with v | _ | _
  ·
    refine (Tryd.strconv_Atoi_ok ⟨l.toArray⟩ (by simp [ByteArray.size]; omega) v (by rw [hls]; exact ho) w).mono ?_
    rintro e w' ⟨rfl, hw⟩
    exact ⟨v, none, rfl, rfl, below_bytes (s := ⟨l.toArray⟩) hw⟩
  ·
    obtain ⟨tp, p, hv⟩ := (hL w hb).syn
    refine (Any.strconv_Atoi_syntax_var Tryd.laysC172 ⟨l.toArray⟩ (by simpa [ByteArray.size] using hl) (by rw [hls]; exact ho) tp p w hv).mono ?_
    rintro e w' ⟨N, rfl, _, _, hw⟩
    exact ⟨_, some (_, _), rfl, by simp, hw⟩
  ·
    obtain ⟨tp, p, hv⟩ := (hL w hb).ran
    refine (Tryd.strconv_Atoi_range_var ⟨l.toArray⟩ (by simpa [ByteArray.size] using hl) (by rw [hls]; exact ho) tp p w hv).mono ?_
    rintro e w' ⟨N, rfl, _, _, hw⟩
    exact ⟨_, some (_, _), rfl, by simp, hw⟩
end Go.Proofs.YtopmpdoigmenmaaDoor
