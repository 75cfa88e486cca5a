/- Type assertions at a type that is no interface. Generic: names no program. -/
import Derived.Test.YtopmpdoigmenmaaDoorAh
set_option linter.unusedVariables false
namespace Go.Av
open Go Go.RowKit
section
variable {E : Env} {rd : Option Nat} {N : Nat} {ops : Array Oper} {K : AS → Prop} {s : AS} {rest : List Oper} {d : Option Tmp} {T : TypeId} {p : String} {af : Array Edge}

def notIf : TypeDesc → Bool
  | .interface _ => false
  | _ => true
def zeroV (P : Program) (t : TypeId) : Option Value := match P.info? t with | some i => i.zero | none => none
theorem zeroV_run {P : Program} {t : TypeId} {z : Value} (h : zeroV P t = some z) (w : World) : (zeroValue t).run P w = .ok z w := by
  unfold zeroV at h
  split at h
  · rename_i i hi
    simp [zeroValue, typeInfo, hi, h]
  · simp at h
theorem aops_assertHit {x : Operand} {xt t : TypeId} {D : TypeDesc} {y : AV} (hx : aeval N s x = .ifc t y) (hu : E.P.underlying t = some D) (hn : notIf D = true)
    (h : AOps E rd N ops rest K (s.put d (.tu [y, Bv true]))) : AOps E rd N ops (⟨d, .typeAssert x xt t true, T, p, af, none⟩ :: rest) K s := by
  refine aops_cons rfl (aop_of_run nofun fun B0 w0 G a w _ hI => ?_)
  have he := hI.eval_of hx
  generalize hv : a.eval x = v at he
  cases he with
  | ifc _ _ z hz =>
    refine ⟨.tuple #[z, .bool true], w, G, _, s.st, ?_, .refl G, hI.agree, rel_tu2 hz (.v _), h⟩
    generalize a.eval = ρ at hv
    cases D <;> first | (simp [notIf] at hn; done) | simp [execOp, Instr.typeAssert, hv, run_underlying hu]
theorem aops_assertMiss {x : Operand} {xt t u : TypeId} {D : TypeDesc} {y : AV} {z : Value} (hx : aeval N s x = .ifc u y) (hu : E.P.underlying t = some D) (hn : notIf D = true) (hne : Nat.beq u t = false) (hz : zeroV E.P t = some z)
    (h : AOps E rd N ops rest K (s.put d (.tu [.v z, Bv false]))) : AOps E rd N ops (⟨d, .typeAssert x xt t true, T, p, af, none⟩ :: rest) K s := by
  refine aops_cons rfl (aop_of_run nofun fun B0 w0 G a w _ hI => ?_)
  have he := hI.eval_of hx
  generalize hv : a.eval x = v at he
  have hne' : u ≠ t := fun e => by subst e; simp at hne
  have hz' := zeroV_run hz w
  cases he with
  | ifc _ _ q hq =>
    refine ⟨.tuple #[z, .bool false], w, G, _, s.st, ?_, .refl G, hI.agree, rel_tu2 (.v _) (.v _), h⟩
    generalize a.eval = ρ at hv
    cases D <;> first | (simp [notIf] at hn; done) | simp [execOp, Instr.typeAssert, hv, run_underlying hu, hne', hz']
theorem aops_assertNil {x : Operand} {xt t : TypeId} {D : TypeDesc} {z : Value} (hx : aeval N s x = .v .nilIface) (hu : E.P.underlying t = some D) (hn : notIf D = true) (hz : zeroV E.P t = some z)
    (h : AOps E rd N ops rest K (s.put d (.tu [.v z, Bv false]))) : AOps E rd N ops (⟨d, .typeAssert x xt t true, T, p, af, none⟩ :: rest) K s := by
  refine aops_cons rfl (aop_of_run nofun fun B0 w0 G a w _ hI => ?_)
  have hv := hI.evalv hx
  have hz' := zeroV_run hz w
  refine ⟨.tuple #[z, .bool false], w, G, _, s.st, ?_, .refl G, hI.agree, rel_tu2 (.v _) (.v _), h⟩
  generalize a.eval = ρ at hv
  cases D <;> first | (simp [notIf] at hn; done) | simp [execOp, Instr.typeAssert, hv, run_underlying hu, hz']
end
end Go.Av
