/- Pieces of strings under names of their own. Generic: names no program. -/
import Derived.Test.YtopmpdoigmenmaaDoorAu
set_option linter.unusedVariables false
namespace Go.Av
open Go Go.RowKit
section
variable {E : Env} {rd : Option Nat} {N : Nat} {ops : Array Oper} {K : AS → Prop} {s : AS} {rest : List Oper} {d : Option Tmp} {T : TypeId} {p : String} {af : Array Edge}
theorem aops_fromE {x lo : Operand} {t : TypeId} {m r : List UInt8} {k : IntKind} {n : Nat} (hr : m.drop n = r) (hx : aeval N s x = Sv m) (hl : aeval N s lo = .v (.int k (n : Int))) (hu : E.P.underlying t = some .string) (h1 : n ≤ m.length)
    (h : AOps E rd N ops rest K (s.put d (Sv r))) : AOps E rd N ops (⟨d, .slice t x (some lo) none none, T, p, af, none⟩ :: rest) K s :=
  aops_from hx hl hu h1 (by rw [hr]; exact h)
theorem aops_uptoE {x hi : Operand} {t : TypeId} {m r : List UInt8} {k : IntKind} {n : Nat} (hr : m.take n = r) (hx : aeval N s x = Sv m) (hl : aeval N s hi = .v (.int k (n : Int))) (hu : E.P.underlying t = some .string) (h1 : n ≤ m.length)
    (h : AOps E rd N ops rest K (s.put d (Sv r))) : AOps E rd N ops (⟨d, .slice t x none (some hi) none, T, p, af, none⟩ :: rest) K s :=
  aops_upto hx hl hu h1 (by rw [hr]; exact h)
/-- One truth against itself. -/
theorem aops_eqBS {x y : Operand} {t t' : TypeId} {m : Bool} (hx : aeval N s x = Bv m) (hy : aeval N s y = Bv m) (hu : E.P.underlying t = some .bool)
    (h : AOps E rd N ops rest K (s.put d (Bv true))) : AOps E rd N ops (⟨d, .binOp .eql t x y t', T, p, af, none⟩ :: rest) K s :=
  aops_eqB hx hy hu (by rw [beq_self_eq_true]; exact h)
theorem aops_neBS {x y : Operand} {t t' : TypeId} {m : Bool} (hx : aeval N s x = Bv m) (hy : aeval N s y = Bv m) (hu : E.P.underlying t = some .bool)
    (h : AOps E rd N ops rest K (s.put d (Bv false))) : AOps E rd N ops (⟨d, .binOp .neq t x y t', T, p, af, none⟩ :: rest) K s :=
  aops_neB hx hy hu (by rw [beq_self_eq_true]; exact h)
end
end Go.Av
