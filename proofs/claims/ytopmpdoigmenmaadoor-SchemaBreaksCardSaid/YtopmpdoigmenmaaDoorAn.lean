/- The lesser and the greater of two whole numbers. Generic: names no program. -/
import Derived.Test.YtopmpdoigmenmaaDoorAl
import Derived.Test.YtopmpdoigmenmaaDoorQq
set_option linter.unusedVariables false
namespace Go.Av
open Go Go.RowKit
/-- A pure result that is known by a property alone. -/
theorem acall_pureP {E : Env} {f : FuncId} {args : List AV} {st : List AObj} {P : AV → Prop} (hp : ∀ r, P r → Pure r)
    (h : ACall E f args st fun r st2 => P r ∧ ∃ ext, st2 = st ++ ext) : ACall E f args st fun r st' => P r ∧ st' = st :=
  acall_ret (h.mono fun r st2 ⟨hr, ext, he⟩ => ⟨st, ext, he, rfl, fun _ _ hx => .inl hx, cut_of_pure (hp r hr), hr, rfl⟩)
section
variable {E : Env} {rd : Option Nat} {N : Nat} {ops : Array Oper} {K : AS → Prop} {s : AS} {rest : List Oper} {d : Option Tmp} {T : TypeId} {p : String} {af : Array Edge}
theorem aops_min {x y : Operand} {ts : Array TypeId} {a b : Int} (hx : aeval N s x = Iv a) (hy : aeval N s y = Iv b)
    (h : ∀ c : Int, c ≤ a → c ≤ b → (c = a ∨ c = b) → AOps E rd N ops rest K (s.put d (Iv c))) : AOps E rd N ops (⟨d, .call ⟨.builtin .min, #[x, y], ts⟩, T, p, af, none⟩ :: rest) K s :=
  aops_scalar _ rfl nofun (fun a w he => by simp [execOp, resolve, invoke, builtin, Builtin.min_, Builtin.min2, he _ _ hx, he _ _ hy]) (h (if b < a then b else a) (by split <;> omega) (by split <;> omega) (by split <;> simp))
theorem aq_load_loc {x : Operand} {t : TypeId} {sz : Nat} {agg : Bool} {st loc : List AObj} {k ver off : Nat} {T' : TypeId} {cs : List AV} {r : AV} (hs : s.st = st ++ loc) (hx : aeval N s x = .bx (st.length + k) ver off) (ho : loc[k]? = some (.cells ver T' cs)) (ht : tyOf E.P t = some (sz, agg)) (hr : aloadC sz agg off cs = some r)
    (h : AQ E N ops rest K (s.put d r)) : AQ E N ops (⟨d, .load t x, T, p, af, none⟩ :: rest) K s :=
  aq_load_bx hx (by rw [hs]; exact get_loc ho) ht hr h
end
end Go.Av
