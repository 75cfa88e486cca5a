/- One rule for each operation that touches no memory. Generic: names no program. -/
import Derived.Test.YtopmpdoigmenmaaDoorAw
set_option linter.unusedVariables false
namespace Go.Av
open Go Go.RowKit

abbrev Sv (l : List UInt8) : AV := .v (.string ⟨l.toArray⟩)
abbrev Iv (n : Int) : AV := .v (.int .i64 n)
abbrev Bv (b : Bool) : AV := .v (.bool b)
abbrev nilSl : AV := .v (.slice none 0 0)

theorem toList_mk (l : List UInt8) : (⟨l.toArray⟩ : ByteArray).toList = l := ByteArray.toList_mk l
theorem size_mk (l : List UInt8) : (⟨l.toArray⟩ : ByteArray).size = l.length := by simp [ByteArray.size]
theorem append_mk (a b : List UInt8) : (⟨a.toArray⟩ ++ ⟨b.toArray⟩ : ByteArray) = ⟨(a ++ b).toArray⟩ := by
  apply ByteArray.ext
  simp [ByteArray.data_append]
theorem extract_mk (l : List UInt8) (i j : Nat) : (⟨l.toArray⟩ : ByteArray).extract i j = ⟨((l.take j).drop i).toArray⟩ := by
  apply ByteArray.ext
  simp [ByteArray.data_extract, List.drop_take]

section
variable {E : Env} {rd : Option Nat} {N : Nat} {ops : Array Oper} {K : AS → Prop} {s : AS} {rest : List Oper} {d : Option Tmp} {T : TypeId} {p : String} {af : Array Edge}

theorem Inv.evalv {B0 : Nat} {w0 : World} {G : Gh} {a : Act} {w : World} (h : Inv B0 w0 N G s a w) {x : Operand} {v : Value} (hx : aeval N s x = .v v) : a.eval x = v := by
  have := h.eval x
  rw [hx] at this
  generalize a.eval x = y at this
  cases this
  rfl

theorem aops_assign {x : Operand} (h : AOps E rd N ops rest K (s.put d (aeval N s x))) : AOps E rd N ops (⟨d, .assign x, T, p, af, none⟩ :: rest) K s :=
  aops_cons rfl (aop_of_run nofun fun _ _ G a w _ hI => ⟨a.eval x, w, G, aeval N s x, s.st, by simp [execOp], .refl G, hI.agree, hI.eval x, h⟩)
theorem aops_move {x : Operand} (h : AOps E rd N ops rest K (s.put d (aeval N s x))) : AOps E rd N ops (⟨d, .move x, T, p, af, none⟩ :: rest) K s :=
  aops_cons rfl (aop_of_run nofun fun _ _ G a w _ hI => ⟨a.eval x, w, G, aeval N s x, s.st, by simp [execOp], .refl G, hI.agree, hI.eval x, h⟩)

/-- What an operation of scalars gives, world and store unturned. -/
theorem aops_scalar {op : Op} {g : Option (Nat × Bool)} (r : Value) (hg : g = none) (hnd : ∀ c, op ≠ .defer c) (hr : ∀ (ρ : Operand → Value) (w : World), (∀ x v, aeval N s x = .v v → ρ x = v) → (execOp ρ ⟨d, op, T, p, af, g⟩).run E.P w = .ok (.value r) w)
    (h : AOps E rd N ops rest K (s.put d (.v r))) : AOps E rd N ops (⟨d, op, T, p, af, g⟩ :: rest) K s :=
  aops_cons hg (aop_of_run hnd fun _ _ G a w _ hI => ⟨r, w, G, .v r, s.st, hr a.eval w (fun _ _ hx => hI.evalv hx), .refl G, hI.agree, .v r, h⟩)

theorem aops_add {x y : Operand} {t t' : TypeId} {k : IntKind} {m n r : Int} (hx : aeval N s x = .v (.int k m)) (hy : aeval N s y = .v (.int k n)) (hr : k.wrap (m + n) = r)
    (h : AOps E rd N ops rest K (s.put d (.v (.int k r)))) : AOps E rd N ops (⟨d, .binOp .add t x y t', T, p, af, none⟩ :: rest) K s :=
  aops_scalar _ rfl nofun (fun a w he => by rw [← hr]; simp [execOp, he _ _ hx, he _ _ hy, eqGuard_at_int, binOp, Op.intArith]) h
theorem aops_sub {x y : Operand} {t t' : TypeId} {k : IntKind} {m n r : Int} (hx : aeval N s x = .v (.int k m)) (hy : aeval N s y = .v (.int k n)) (hr : k.wrap (m - n) = r)
    (h : AOps E rd N ops rest K (s.put d (.v (.int k r)))) : AOps E rd N ops (⟨d, .binOp .sub t x y t', T, p, af, none⟩ :: rest) K s :=
  aops_scalar _ rfl nofun (fun a w he => by rw [← hr]; simp [execOp, he _ _ hx, he _ _ hy, eqGuard_at_int, binOp, Op.intArith]) h
theorem aops_mul {x y : Operand} {t t' : TypeId} {k : IntKind} {m n r : Int} (hx : aeval N s x = .v (.int k m)) (hy : aeval N s y = .v (.int k n)) (hr : k.wrap (m * n) = r)
    (h : AOps E rd N ops rest K (s.put d (.v (.int k r)))) : AOps E rd N ops (⟨d, .binOp .mul t x y t', T, p, af, none⟩ :: rest) K s :=
  aops_scalar _ rfl nofun (fun a w he => by rw [← hr]; simp [execOp, he _ _ hx, he _ _ hy, eqGuard_at_int, binOp, Op.intArith]) h
theorem aops_rem {x y : Operand} {t t' : TypeId} {k : IntKind} {m n : Int} (hx : aeval N s x = .v (.int k m)) (hy : aeval N s y = .v (.int k n)) (hn : n ≠ 0)
    (h : AOps E rd N ops rest K (s.put d (.v (.int k (m.tmod n))))) : AOps E rd N ops (⟨d, .binOp .rem t x y t', T, p, af, none⟩ :: rest) K s :=
  aops_scalar _ rfl nofun (fun a w he => by simp [execOp, he _ _ hx, he _ _ hy, eqGuard_at_int, binOp, Op.intDiv, hn]) h
theorem aops_quo {x y : Operand} {t t' : TypeId} {k : IntKind} {m n r : Int} (hx : aeval N s x = .v (.int k m)) (hy : aeval N s y = .v (.int k n)) (hn : n ≠ 0) (hr : k.wrap (m.tdiv n) = r)
    (h : AOps E rd N ops rest K (s.put d (.v (.int k r)))) : AOps E rd N ops (⟨d, .binOp .quo t x y t', T, p, af, none⟩ :: rest) K s :=
  aops_scalar _ rfl nofun (fun a w he => by rw [← hr]; simp [execOp, he _ _ hx, he _ _ hy, eqGuard_at_int, binOp, Op.intDiv, hn]) h
/-- What a bit operation gives. -/
def bitOp (op : BinOp) (k : IntKind) (x y : Int) : Int :=
  match op with
  | .and => k.wrap (BitVec.ofInt k.bits x &&& BitVec.ofInt k.bits y).toNat
  | .or => k.wrap (BitVec.ofInt k.bits x ||| BitVec.ofInt k.bits y).toNat
  | .xor => k.wrap (BitVec.ofInt k.bits x ^^^ BitVec.ofInt k.bits y).toNat
  | _ => 0
theorem aops_and {x y : Operand} {t t' : TypeId} {k : IntKind} {m n r : Int} (hx : aeval N s x = .v (.int k m)) (hy : aeval N s y = .v (.int k n)) (hr : bitOp .and k m n = r)
    (h : AOps E rd N ops rest K (s.put d (.v (.int k r)))) : AOps E rd N ops (⟨d, .binOp .and t x y t', T, p, af, none⟩ :: rest) K s :=
  aops_scalar _ rfl nofun (fun a w he => by rw [← hr]; simp [execOp, he _ _ hx, he _ _ hy, eqGuard_at_int, binOp_and, Op.intBits, bitOp]) h
theorem aops_or {x y : Operand} {t t' : TypeId} {k : IntKind} {m n r : Int} (hx : aeval N s x = .v (.int k m)) (hy : aeval N s y = .v (.int k n)) (hr : bitOp .or k m n = r)
    (h : AOps E rd N ops rest K (s.put d (.v (.int k r)))) : AOps E rd N ops (⟨d, .binOp .or t x y t', T, p, af, none⟩ :: rest) K s :=
  aops_scalar _ rfl nofun (fun a w he => by rw [← hr]; simp [execOp, he _ _ hx, he _ _ hy, eqGuard_at_int, binOp_or, Op.intBits, bitOp]) h
theorem aops_xor {x y : Operand} {t t' : TypeId} {k : IntKind} {m n r : Int} (hx : aeval N s x = .v (.int k m)) (hy : aeval N s y = .v (.int k n)) (hr : bitOp .xor k m n = r)
    (h : AOps E rd N ops rest K (s.put d (.v (.int k r)))) : AOps E rd N ops (⟨d, .binOp .xor t x y t', T, p, af, none⟩ :: rest) K s :=
  aops_scalar _ rfl nofun (fun a w he => by rw [← hr]; simp [execOp, he _ _ hx, he _ _ hy, eqGuard_at_int, binOp_xor, Op.intBits, bitOp]) h
theorem aops_shl {x y : Operand} {t t' : TypeId} {k yk : IntKind} {m n r : Int} (hx : aeval N s x = .v (.int k m)) (hy : aeval N s y = .v (.int yk n)) (hn : 0 ≤ n) (hr : k.wrap (m * 2 ^ (min n.toNat k.bits)) = r)
    (h : AOps E rd N ops rest K (s.put d (.v (.int k r)))) : AOps E rd N ops (⟨d, .binOp .shl t x y t', T, p, af, none⟩ :: rest) K s :=
  aops_scalar _ rfl nofun (fun a w he => by rw [← hr]; simp [execOp, he _ _ hx, he _ _ hy, eqGuard_at_int, binOp_shl, Op.shift, show ¬ n < 0 by omega]) h
theorem aops_shr {x y : Operand} {t t' : TypeId} {k yk : IntKind} {m n r : Int} (hx : aeval N s x = .v (.int k m)) (hy : aeval N s y = .v (.int yk n)) (hn : 0 ≤ n) (hr : m.fdiv (2 ^ (min n.toNat k.bits)) = r)
    (h : AOps E rd N ops rest K (s.put d (.v (.int k r)))) : AOps E rd N ops (⟨d, .binOp .shr t x y t', T, p, af, none⟩ :: rest) K s :=
  aops_scalar _ rfl nofun (fun a w he => by rw [← hr]; simp [execOp, he _ _ hx, he _ _ hy, eqGuard_at_int, binOp_shr, Op.shift, show ¬ n < 0 by omega]) h

/-- What a comparison of integers gives. -/
def cmpI (op : BinOp) (m n : Int) : Option Bool :=
  match op with
  | .eql => some (decide (m = n))
  | .neq => some (decide (¬ m = n))
  | .lss => some (decide (m < n))
  | .leq => some (decide (m ≤ n))
  | .gtr => some (decide (n < m))
  | .geq => some (decide (n ≤ m))
  | _ => none
theorem aops_cmpI {op : BinOp} {x y : Operand} {t t' : TypeId} {k : IntKind} {m n : Int} {b : Bool} (hx : aeval N s x = .v (.int k m)) (hy : aeval N s y = .v (.int k n)) (hb : cmpI op m n = some b)
    (h : AOps E rd N ops rest K (s.put d (Bv b))) : AOps E rd N ops (⟨d, .binOp op t x y t', T, p, af, none⟩ :: rest) K s :=
  aops_scalar _ rfl nofun (fun a w he => by
    cases op <;> simp only [cmpI, Option.some.injEq, reduceCtorEq] at hb <;> subst hb <;> simp [execOp, he _ _ hx, he _ _ hy, eqGuard_at_int, binOp, Op.intCmp, ← Bool.beq_eq_decide_eq, bne]) h

def cmpS (op : BinOp) (m n : List UInt8) : Option Bool :=
  match op with
  | .eql => some (decide (m = n))
  | .neq => some (decide (¬ m = n))
  | .lss => some (Op.bytesLess m n)
  | .leq => some (Op.bytesLess m n || decide (m = n))
  | .gtr => some (!(Op.bytesLess m n || decide (m = n)))
  | .geq => some (!(Op.bytesLess m n))
  | _ => none
theorem beq_list (m n : List UInt8) : (m == n) = decide (m = n) := by
  by_cases h : m = n
  · simp [h]
  · simp [h]
theorem aops_cmpS {op : BinOp} {x y : Operand} {t t' : TypeId} {m n : List UInt8} {b : Bool} (hx : aeval N s x = Sv m) (hy : aeval N s y = Sv n) (hb : cmpS op m n = some b)
    (h : AOps E rd N ops rest K (s.put d (Bv b))) : AOps E rd N ops (⟨d, .binOp op t x y t', T, p, af, none⟩ :: rest) K s :=
  aops_scalar _ rfl nofun (fun a w he => by
    cases op <;> simp only [cmpS, Option.some.injEq, reduceCtorEq] at hb <;> subst hb <;> simp [execOp, he _ _ hx, he _ _ hy, eqGuard_at_string, binOp, Op.stringOp, beq_list]) h
theorem aops_concat {x y : Operand} {t t' : TypeId} {m n : List UInt8} (hx : aeval N s x = Sv m) (hy : aeval N s y = Sv n) (hl : m.length + n.length < 9223372036854775808)
    (h : AOps E rd N ops rest K (s.put d (Sv (m ++ n)))) : AOps E rd N ops (⟨d, .binOp .add t x y t', T, p, af, none⟩ :: rest) K s :=
  aops_scalar _ rfl nofun (fun a w he => by
    simp only [execOp, he _ _ hx, he _ _ hy, eqGuard_at_string, binOp, Op.stringOp, size_mk, append_mk, IntKind.max_i64]
    rw [if_neg (by omega)]
    simp) h
theorem aops_eqB {x y : Operand} {t t' : TypeId} {m n : Bool} (hx : aeval N s x = Bv m) (hy : aeval N s y = Bv n) (hu : E.P.underlying t = some .bool)
    (h : AOps E rd N ops rest K (s.put d (Bv (m == n)))) : AOps E rd N ops (⟨d, .binOp .eql t x y t', T, p, af, none⟩ :: rest) K s :=
  aops_scalar _ rfl nofun (fun a w he => by
    have hq : ∀ d : Nat, (Op.equalIn (d + 1) t (.bool m) (.bool n)).run E.P w = .ok (m == n) w := fun d => by simp [Op.equalIn, run_underlying hu]
    simp only [execOp, he _ _ hx, he _ _ hy, eqGuard_at_bool, binOp]
    simp [Op.equal, Op.maxDepth, hq 9999]) h
theorem aops_neB {x y : Operand} {t t' : TypeId} {m n : Bool} (hx : aeval N s x = Bv m) (hy : aeval N s y = Bv n) (hu : E.P.underlying t = some .bool)
    (h : AOps E rd N ops rest K (s.put d (Bv (!(m == n))))) : AOps E rd N ops (⟨d, .binOp .neq t x y t', T, p, af, none⟩ :: rest) K s :=
  aops_scalar _ rfl nofun (fun a w he => by
    have hq : ∀ d : Nat, (Op.equalIn (d + 1) t (.bool m) (.bool n)).run E.P w = .ok (m == n) w := fun d => by simp [Op.equalIn, run_underlying hu]
    simp only [execOp, he _ _ hx, he _ _ hy, eqGuard_at_bool, binOp]
    simp [Op.equal, Op.maxDepth, hq 9999]) h
theorem aops_not {x : Operand} {t : TypeId} {m : Bool} (hx : aeval N s x = Bv m)
    (h : AOps E rd N ops rest K (s.put d (Bv (!m)))) : AOps E rd N ops (⟨d, .unOp .not t x, T, p, af, none⟩ :: rest) K s :=
  aops_scalar _ rfl nofun (fun a w he => by simp [execOp, he _ _ hx, Op.unary]) h
theorem aops_neg {x : Operand} {t : TypeId} {k : IntKind} {m r : Int} (hx : aeval N s x = .v (.int k m)) (hr : k.wrap (0 - m) = r)
    (h : AOps E rd N ops rest K (s.put d (.v (.int k r)))) : AOps E rd N ops (⟨d, .unOp .neg t x, T, p, af, none⟩ :: rest) K s :=
  aops_scalar _ rfl nofun (fun a w he => by rw [← hr]; simp [execOp, he _ _ hx, Op.unary, Op.intArith]) h
theorem aops_compl {x : Operand} {t : TypeId} {k : IntKind} {m r : Int} (hx : aeval N s x = .v (.int k m)) (hr : bitOp .xor k (if k.signed then -1 else k.max) m = r)
    (h : AOps E rd N ops rest K (s.put d (.v (.int k r)))) : AOps E rd N ops (⟨d, .unOp .xor t x, T, p, af, none⟩ :: rest) K s :=
  aops_scalar _ rfl nofun (fun a w he => by rw [← hr]; simp [execOp, he _ _ hx, Op.unary, Op.intBits, bitOp]) h
theorem aops_convI {x : Operand} {t t' : TypeId} {k k' : IntKind} {m r : Int} {e : TypeDesc} (hx : aeval N s x = .v (.int k m)) (hs : E.P.underlying t = some e) (hd : E.P.underlying t' = some (.int k')) (hr : k'.wrap m = r)
    (h : AOps E rd N ops rest K (s.put d (.v (.int k' r)))) : AOps E rd N ops (⟨d, .convert t t' x, T, p, af, none⟩ :: rest) K s :=
  aops_scalar _ rfl nofun (fun a w he => by rw [← hr]; simp [execOp, he _ _ hx, convert, run_underlying hs, run_underlying hd, Conv.intToInt]) h
theorem aops_lenS {x : Operand} {ts : Array TypeId} {t0 : TypeId} {m : List UInt8} (hx : aeval N s x = Sv m) (ht : ts[0]? = some t0) (hu : E.P.underlying t0 = some .string)
    (h : AOps E rd N ops rest K (s.put d (Iv m.length))) : AOps E rd N ops (⟨d, .call ⟨.builtin .len, #[x], ts⟩, T, p, af, none⟩ :: rest) K s :=
  aops_scalar _ rfl nofun (fun a w he => by simp [execOp, resolve, invoke, builtin, Builtin.len_, he _ _ hx, ht, run_underlying hu, goInt, size_mk]) h
theorem aops_indexS {x y : Operand} {t : TypeId} {m : List UInt8} {k : IntKind} {i : Int} (hx : aeval N s x = Sv m) (hy : aeval N s y = .v (.int k i)) (hu : E.P.underlying t = some .string) (h0 : 0 ≤ i) (h1 : i < m.length)
    (h : AOps E rd N ops rest K (s.put d (.v (.int .u8 ((m.getD i.toNat 0).toNat : Nat))))) : AOps E rd N ops (⟨d, .index t x y, T, p, af, none⟩ :: rest) K s :=
  aops_scalar _ rfl nofun (fun a w he => by
    have hg : (⟨m.toArray⟩ : ByteArray)[i.toNat]? = some (m.getD i.toNat 0) := by
      have hi : i.toNat < m.length := by omega
      simp only [getElem?_def, size_mk, hi, dite_true, List.getD, Option.getD_some]
      rfl
    simp [execOp, Instr.index, he _ _ hx, he _ _ hy, asIntOf, run_underlying hu, h0, hg]) h
end
end Go.Av
