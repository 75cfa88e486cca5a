/- Loops whose rounds make variables of their own; results that are let go. Generic: names no program. -/
import Derived.Test.YtopmpdoigmenmaaDoorBy
set_option linter.unusedVariables false
namespace Go.Av
open Go Go.RowKit

/-- Named slots; the call's lasting objects 'loc'; behind them whatever rounds have left. -/
def StE (L : List (Nat × AV)) (st loc : List AObj) (s : AS) : Prop := ∃ t ext, s = ⟨puts t L, ((st ++ loc) ++ ext) ++ [], []⟩
theorem stE_mk {t : Nat → AV} {L : List (Nat × AV)} {st loc loc' ext new : List AObj} (h : HasL t L) (e : loc' = loc) : StE L st loc ⟨t, ((st ++ loc') ++ ext) ++ new, []⟩ :=
  ⟨t, ext ++ new, by rw [puts_of h, e]; simp⟩
theorem stE_mk0 {t : Nat → AV} {L : List (Nat × AV)} {st loc st' : List AObj} (h : HasL t L) (e : st' = st ++ loc) : StE L st loc ⟨t, st', []⟩ :=
  ⟨t, [], by rw [puts_of h, e]; simp⟩
theorem ext_end (st loc ext new : List AObj) : ∃ x, ((st ++ loc) ++ ext) ++ new = st ++ x := ⟨loc ++ ext ++ new, by simp⟩
theorem get_mid {st loc ext new : List AObj} {k : Nat} {x : AObj} (h : loc[k]? = some x) : (((st ++ loc) ++ ext) ++ new)[st.length + k]? = some x := by
  have hk := lt_of_getElem? h
  rw [List.append_assoc, List.append_assoc, List.getElem?_append_right (Nat.le_add_right _ _), Nat.add_sub_cancel_left, List.getElem?_append_left hk]
  exact h
theorem set_mid {st loc ext new : List AObj} {k : Nat} (x : AObj) (hk : k < loc.length) : (((st ++ loc) ++ ext) ++ new).set (st.length + k) x = ((st ++ loc.set k x) ++ ext) ++ new := by
  rw [List.append_assoc, List.append_assoc, List.set_append_right _ _ (Nat.le_add_right _ _), Nat.add_sub_cancel_left, List.set_append_left _ _ hk]
  simp

theorem rel_noTip {G : Gh} {sz : Nat} {xs : List AV} {tip : Option Nat} {v : Value} (h : Rel G (.sl sz xs tip) v) : Rel G (.sl sz xs none) v := by
  cases h with
  | sl0 _ _ base cap ht => exact .sl0 sz none base cap (by simp)
  | sl _ _ _ b off cap pub hp hw hlen hr ht => exact .sl sz xs none b off cap pub hp hw hlen hr (fun t ht => by simp at ht)
theorem rel_nilSl {G : Gh} {sz : Nat} {v : Value} (h : Rel G nilSl v) : Rel G (.sl sz [] none) v := by
  cases h
  exact .sl0 sz none none 0 (by simp)

section
variable {E : Env} {rd : Option Nat} {N : Nat} {ops : Array Oper} {K : AS → Prop} {s : AS} {rest : List Oper} {d : Option Tmp} {T : TypeId} {p : String} {af : Array Edge}
theorem ares_weak {fn : Func} {r r' : AV} (h : ARes E fn s r) (hw : ∀ (G : Gh) (v : Value), Rel G r v → Rel G r' v) : ARes E fn s r' :=
  ⟨fun B0 w0 G a w hL hI => let ⟨v, h1, h2⟩ := h.run B0 w0 G a w hL hI; ⟨v, h1, hw G v h2⟩⟩
/-- A slice of the call's own, let go. -/
theorem ares_slice {fn : Func} {t : Tmp} {sz : Nat} {xs : List AV} {tip : Option Nat} (hr : fn.results = #[.tmp t]) (hx : aeval fn.ntmps s (.tmp t) = .sl sz xs tip) : ARes E fn s (.sl sz xs none) :=
  ares_weak (ares_one hr) fun G v h => by rw [hx] at h; exact rel_noTip h
theorem ares_nilSl {fn : Func} {t : Tmp} {sz : Nat} (hr : fn.results = #[.tmp t]) (hx : aeval fn.ntmps s (.tmp t) = nilSl) : ARes E fn s (.sl sz [] none) :=
  ares_weak (ares_one hr) fun G v h => by rw [hx] at h; exact rel_nilSl h

theorem aops_append_mid {x y : Operand} {t u T' : TypeId} {sz bytes k n m : Nat} {xs ys zs : List AV} {tip : Option Nat} {st loc ext new : List AObj} (hs : s.st = ((st ++ loc) ++ ext) ++ new) (hx : aeval N s x = .sl sz xs (some (st.length + k))) (hy : aeval N s y = .sl sz ys tip) (ho : loc[k]? = some (.tip n sz T')) (hn : xs.length = n)
    (ht : E.P.underlying t = some (.slice T')) (hu : E.P.underlying u = some (.slice T')) (hT : ElemOk E.P T' sz bytes) (hone : allOne (flat ys) = true) (hm : ys.length = m) (h63 : n + m ≤ maxLen) (hb : (n + m) * bytes ≤ 140737488355328) (hz : xs ++ ys = zs)
    (h : AOps E rd N ops rest K (AS.put ⟨s.t, ((st ++ loc.set k (.tip (n + m) sz T')) ++ ext) ++ new, s.df⟩ d (.sl sz zs (some (st.length + k))))) : AOps E rd N ops (⟨d, .call ⟨.builtin .append, #[x, y], #[t, u]⟩, T, p, af, none⟩ :: rest) K s := by
  subst hz
  have hk := lt_of_getElem? ho
  exact aops_append hx hy (by rw [hs]; exact get_mid ho) hn ht hu hT hone hm h63 hb (by rw [hs, set_mid _ hk]; exact h)
theorem aops_load_mid {x : Operand} {t : TypeId} {sz : Nat} {agg : Bool} {st loc ext new : List AObj} {k ver off : Nat} {T' : TypeId} {cs : List AV} {r : AV} (hs : s.st = ((st ++ loc) ++ ext) ++ new) (hx : aeval N s x = .bx (st.length + k) ver off) (ho : loc[k]? = some (.cells ver T' cs)) (ht : tyOf E.P t = some (sz, agg)) (hr : aloadC sz agg off cs = some r)
    (h : AOps E rd N ops rest K (s.put d r)) : AOps E rd N ops (⟨d, .load t x, T, p, af, none⟩ :: rest) K s :=
  aops_load_bx hx (by rw [hs]; exact get_mid ho) ht hr h
/-- A slice's literal whose parts come to what is said. -/
theorem stE_slots {t : Nat → AV} {L : List (Nat × AV)} {st loc ext new : List AObj} (h : HasL t L) : StE L st loc ⟨t, ((st ++ loc) ++ ext) ++ new, []⟩ := stE_mk h rfl
end
end Go.Av
