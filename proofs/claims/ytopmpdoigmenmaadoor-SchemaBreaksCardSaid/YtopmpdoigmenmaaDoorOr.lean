/- Rules and fields as arguments. -/
import Derived.Test.YtopmpdoigmenmaaDoorOp
import Derived.Test.YtopmpdoigmenmaaDoorSk
set_option maxRecDepth 100000
set_option linter.unusedVariables false
namespace Go.Proofs.YtopmpdoigmenmaaDoor
open Go Go.Av Go.RowKit Go.Proofs Go.Pl
theorem opn_fld : Opn Tryd.prog 36 fun a => ∃ f : FldV, a = fldA f := by
  intro H enc W fuel cs x h
  obtain ⟨a, ⟨vs, rfl, hl, hv⟩, hr⟩ := opn_fields (As := [(some .string, IsS), (some .string, IsS)]) (by kernel_rfl) (by kernel_rfl) (by kernel_rfl) (by kernel_rfl)
    (List.forall_mem_cons.2 ⟨⟨fun _ h => opn_s h, one_s⟩, List.forall_mem_cons.2 ⟨⟨fun _ h => opn_s h, one_s⟩, nofun⟩⟩) H enc W fuel cs x h
  match vs, hl with
  | [v0, v1], _ =>
    obtain ⟨l0, rfl, _⟩ := hv 0 _ _ rfl rfl
    obtain ⟨l1, rfl, _⟩ := hv 1 _ _ rfl rfl
    exact ⟨_, ⟨(l0, l1), rfl⟩, hr⟩
theorem opn_flds {t : TypeId} (hu : Tryd.prog.underlying t = some (.slice 36)) : Opn Tryd.prog t fun a => ∃ xs : List FldV, a = fldsA xs ∧ xs.length ≤ maxLen := by
  intro H enc W fuel cs x h
  obtain ⟨a, ⟨xs, rfl, hl, hx⟩, hr⟩ := opn_sl (sz := 2) hu (by kernel_rfl) (by decide) opn_fld H enc W fuel cs x h
  obtain ⟨rs, rfl⟩ := all_map hx
  exact ⟨_, ⟨rs, rfl, by simpa using hl⟩, hr⟩
theorem opn_rule : Opn Tryd.prog 28 fun a => ∃ r : RuleV, a = ruleA r := by
  intro H enc W fuel cs x h
  obtain ⟨a, ⟨vs, rfl, hl, hv⟩, hr⟩ := opn_fields (As := [(some (.int .i64), IsI .i64), (some .string, IsS), (some .string, IsS), (some (.int .i64), IsI .i64), (some (.int .i64), IsI .i64)]) (by kernel_rfl) (by kernel_rfl) (by kernel_rfl) (by kernel_rfl)
    (List.forall_mem_cons.2 ⟨⟨fun _ h => opn_i h, one_i _⟩, List.forall_mem_cons.2 ⟨⟨fun _ h => opn_s h, one_s⟩, List.forall_mem_cons.2 ⟨⟨fun _ h => opn_s h, one_s⟩, List.forall_mem_cons.2 ⟨⟨fun _ h => opn_i h, one_i _⟩, List.forall_mem_cons.2 ⟨⟨fun _ h => opn_i h, one_i _⟩, nofun⟩⟩⟩⟩⟩) H enc W fuel cs x h
  match vs, hl with
  | [v0, v1, v2, v3, v4], _ =>
    obtain ⟨n0, rfl, _⟩ := hv 0 _ _ rfl rfl
    obtain ⟨l1, rfl, _⟩ := hv 1 _ _ rfl rfl
    obtain ⟨l2, rfl, _⟩ := hv 2 _ _ rfl rfl
    obtain ⟨n3, rfl, _⟩ := hv 3 _ _ rfl rfl
    obtain ⟨n4, rfl, _⟩ := hv 4 _ _ rfl rfl
    exact ⟨_, ⟨⟨n0, l1, l2, n3, n4⟩, rfl⟩, hr⟩
theorem opn_rules {t : TypeId} (hu : Tryd.prog.underlying t = some (.slice 28)) : Opn Tryd.prog t fun a => ∃ xs : List RuleV, a = .sl 5 (xs.map ruleA) none ∧ xs.length ≤ maxLen := by
  intro H enc W fuel cs x h
  obtain ⟨a, ⟨xs, rfl, hl, hx⟩, hr⟩ := opn_sl (sz := 5) hu (by kernel_rfl) (by decide) opn_rule H enc W fuel cs x h
  obtain ⟨rs, rfl⟩ := all_map hx
  exact ⟨_, ⟨rs, rfl, by simpa using hl⟩, hr⟩
theorem one_flds : One fun a => ∃ xs : List FldV, a = fldsA xs ∧ xs.length ≤ maxLen := by rintro _ ⟨xs, rfl, _⟩; rfl
theorem one_rules : One fun a => ∃ xs : List RuleV, a = .sl 5 (xs.map ruleA) none ∧ xs.length ≤ maxLen := by rintro _ ⟨xs, rfl, _⟩; rfl
theorem lt_max {n : Nat} (h : n ≤ maxLen) : n < 9223372036854775808 := by unfold maxLen at h; omega
theorem schemaBreaks_a (rs : List RuleV) (hr : rs.length ≤ maxLen) (xs : List FldV) (hx : xs.length ≤ maxLen) (st : List AObj) : ACall E 3 [.sl 5 (rs.map ruleA) none, fldsA xs] st fun x st' => x = Bv true ∧ st' = st :=
  schemaBreaks_c rs xs st (lt_max hr) (lt_max hx)
end Go.Proofs.YtopmpdoigmenmaaDoor
