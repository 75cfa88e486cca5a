/- Contracts and plain facts that the closing text leans on (part 7). No condition of their own beyond those that each states. -/
import Derived.Test.YtplagcbifecagaaGreatDoorK6
import Derived.Laws.StructEq
set_option maxRecDepth 100000
set_option linter.unusedVariables false
set_option linter.unusedSimpArgs false
set_option linter.unusedVariables false
set_option maxRecDepth 100000
namespace Go.Proofs.YtplagcbifecagaaGreatDoor
open Go Go.Av Go.RowKit Go.Proofs Go.Pl
theorem wrapU64_any (c : Int) : ∃ n : Nat, n < 18446744073709551616 ∧ IntKind.u64.wrap c = (n : Int) := by
  refine ⟨(c % 18446744073709551616).toNat, by omega, ?_⟩
  simp [IntKind.wrap, IntKind.bits, IntKind.signed]
  omega
end Go.Proofs.YtplagcbifecagaaGreatDoor
set_option linter.unusedVariables false
namespace Go.Av
open Go Go.RowKit
section
variable {E : Env} {N : Nat} {ops : Array Oper} {K : AS → Prop} {s : AS} {rest : List Oper} {d : Option Tmp} {T : TypeId} {p : String} {af : Array Edge}
theorem aq_yield {B0 : Nat} {w0 : World} {G : Gh} {a : Act} {w : World} (hI : Inv B0 w0 N G s a w) {oj : Oper} {j e : Nat} {b : Bool} (hj : ops[j]? = some oj) (hd : oj.dst = some e) (hN : Nat.blt e N = true) (hb : s.t e = .v (.bool b)) : yielded ops a.tmps j = some b := by
  have hd' : e < a.tmps.size := by rw [hI.size]; simpa [Nat.blt_eq] using hN
  have hr := hI.tmps e a.tmps[e] (by simp [hd'])
  have hv : a.tmps[e]? = some (.bool b) := by
    rw [hb] at hr
    have : a.tmps[e] = .bool b := by generalize a.tmps[e] = v at hr; cases hr; rfl
    simp [hd', this]
  simp [yielded, hj, hd, hv]
theorem aq_guard_run {op : Op} {oj : Oper} {j e : Nat} {want b : Bool} (hj : ops[j]? = some oj) (hd : oj.dst = some e) (hN : Nat.blt e N = true) (hb : s.t e = .v (.bool b)) (hw : b = want)
    (h : AQ E N ops (⟨d, op, T, p, af, none⟩ :: rest) K s) : AQ E N ops (⟨d, op, T, p, af, some (j, want)⟩ :: rest) K s := by
  refine ⟨fun B0 w0 G a w hL hI Q hQ => ?_⟩
  have hy := aq_yield hI hj hd hN hb
  have h' := h.run B0 w0 G a w hL hI Q hQ
  unfold wpQuietIn at h' ⊢
  refine ⟨fun _ _ _ _ => trivial, ?_⟩
  have h2 := h'.2
  rw [if_pos (by simp [Region.wanted])] at h2
  rw [if_pos (by simp [Region.wanted, hy, hw])]
  exact h2
theorem aq_guard_skip {op : Op} {oj : Oper} {j e : Nat} {want b : Bool} (hj : ops[j]? = some oj) (hd : oj.dst = some e) (hN : Nat.blt e N = true) (hb : s.t e = .v (.bool b)) (hw : b = !want)
    (h : AQ E N ops rest K (s.put d (.v undef))) : AQ E N ops (⟨d, op, T, p, af, some (j, want)⟩ :: rest) K s := by
  refine ⟨fun B0 w0 G a w hL hI Q hQ => ?_⟩
  have hy := aq_yield hI hj hd hN hb
  unfold wpQuietIn
  refine ⟨fun _ _ _ _ => trivial, ?_⟩
  rw [if_neg (by simp [Region.wanted, hy, hw])]
  refine h.run B0 w0 G _ w hL (hI.put (.refl G) hI.agree d (.v _)) Q fun s' a' hI' hst hK => hQ s' a' hI' ?_ hK
  rw [hst]
  cases d <;> rfl
theorem aq_pick_t {c x y : Operand} {b : Bool} (hc : aeval N s c = .v (.bool b)) (hb : b = true) (h : AQ E N ops rest K (s.put d (aeval N s x))) : AQ E N ops (⟨d, .pick c x y, T, p, af, none⟩ :: rest) K s :=
  aq_op rfl nofun fun _ _ G a w _ hI => ⟨a.eval x, aeval N s x, fun w' _ => by
    have := hI.evalv hc
    have hx : a.eval x = a.eval x := rfl
    subst hb
    generalize a.eval = ρ at this
    simp [execOp, this, asBool], hI.eval x, h⟩
theorem aq_pick_f {c x y : Operand} {b : Bool} (hc : aeval N s c = .v (.bool b)) (hb : b = false) (h : AQ E N ops rest K (s.put d (aeval N s y))) : AQ E N ops (⟨d, .pick c x y, T, p, af, none⟩ :: rest) K s :=
  aq_op rfl nofun fun _ _ G a w _ hI => ⟨a.eval y, aeval N s y, fun w' _ => by
    have := hI.evalv hc
    subst hb
    generalize a.eval = ρ at this
    simp [execOp, this, asBool], hI.eval y, h⟩
end
end Go.Av
set_option linter.unusedVariables false
namespace Go.Av
open Go Go.RowKit
section
variable {E : Env} {N : Nat} {s : AS}
variable {ops : Array Oper} {K : AS → Prop} {rest : List Oper} {d : Option Tmp} {T : TypeId} {p : String} {af : Array Edge}
theorem aq_cmpI {op : BinOp} {x y : Operand} {t t' : TypeId} {k : IntKind} {m n : Int} {b : Bool} (hx : aeval N s x = .v (.int k m)) (hy : aeval N s y = .v (.int k n)) (hb : cmpI op m n = some b)
    (h : AQ E N ops rest K (s.put d (Bv b))) : AQ E N ops (⟨d, .binOp op t x y t', T, p, af, none⟩ :: rest) K s :=
  aq_scalar _ rfl nofun (fun a w he => by
    cases op <;> simp only [cmpI, Option.some.injEq, reduceCtorEq] at hb <;> subst hb <;> simp [execOp, he _ _ hx, he _ _ hy, eqGuard_at_int, binOp, Op.intCmp, ← Bool.beq_eq_decide_eq, bne]) h
end
end Go.Av
set_option maxRecDepth 100000
set_option linter.unusedVariables false
namespace Go.Proofs.YtplagcbifecagaaGreatDoor
open Go Go.Av Go.RowKit Go.Proofs Go.Pl
theorem fieldsF : (Tryz.prog.fieldsOf 58).toList = [⟨ "Key", 9, 0, false, "", "", 0⟩, ⟨ "Value", 9, 1, false, "", "", 16⟩] := by kernel_rfl
theorem eqF_run (a b c d : ByteArray) (w : World) : (Op.equalIn 10000 58 (.agg #[.string a, .string b]) (.agg #[.string c, .string d])).run Tryz.prog w = .ok (a.toList == c.toList && b.toList == d.toList) w := by
  rw [run_equalIn_agg w 9999 58 _ _ (by kernel_rfl) (by kernel_rfl), fieldsF]
  have p1 : ∀ (x y : ByteArray) w, (part 9 #[.string x, .string y] 0).run Tryz.prog w = .ok (.string x) w := fun x y w => by kernel_rfl
  have p2 : ∀ (x y : ByteArray) w, (part 9 #[.string x, .string y] 1).run Tryz.prog w = .ok (.string y) w := fun x y w => by kernel_rfl
  have hs : ∀ (x y : ByteArray) w, (Op.equalIn 9999 9 (.string x) (.string y)).run Tryz.prog w = .ok (x.toList == y.toList) w := fun x y w => run_equalIn_string w 9998 9 x y (by kernel_rfl)
  simp only [Op.eqFields, Sem.run_bind, Sem.run_ite, p1, p2, hs, Result.andThen_ok, Sem.run_pure]
  cases hac : (a.toList == c.toList) <;> cases hbd : (b.toList == d.toList) <;> simp
theorem rel_fld {G : Gh} {f : Fld} {v : Value} (h : Rel G (fldA f) v) : v = .agg #[.string ⟨f.1.toArray⟩, .string ⟨f.2.toArray⟩] := by
  cases h with
  | ag _ vs hl h =>
    match vs, hl with
    | ⟨[x, y]⟩, _ =>
      have h1 := h 0 _ x rfl rfl
      have h2 := h 1 _ y rfl rfl
      cases h1
      cases h2
      rfl
theorem neF_val (f g : Fld) (w : World) : (binOp .neq 58 (.agg #[.string ⟨f.1.toArray⟩, .string ⟨f.2.toArray⟩]) (.agg #[.string ⟨g.1.toArray⟩, .string ⟨g.2.toArray⟩])).run Tryz.prog w = .ok (.bool (decide (f ≠ g))) w := by
  rw [run_neq_struct, eqF_run]
  simp only [Result.andThen_ok, ByteArray.toList_eq]
  obtain ⟨a, b⟩ := f
  obtain ⟨c, d⟩ := g
  congr 2
  by_cases h1 : a = c <;> by_cases h2 : b = d <;> simp [h1, h2]
section
variable {N : Nat} {ops : Array Oper} {K : AS → Prop} {s : AS} {rest : List Oper} {d : Option Tmp} {T : TypeId} {p : String} {af : Array Edge}
theorem aq_neF {x y : Operand} {t' : TypeId} {f g : Fld} {b : Bool} (hx : aeval N s x = fldA f) (hy : aeval N s y = fldA g) (hb : decide (f ≠ g) = b)
    (h : AQ E N ops rest K (s.put d (Bv b))) : AQ E N ops (⟨d, .binOp .neq 58 x y t', T, p, af, none⟩ :: rest) K s := by
  subst hb
  refine aq_op rfl nofun fun B0 w0 G a w _ hI => ⟨.bool (decide (f ≠ g)), _, fun w' _ => ?_, .v _, h⟩
  have h1 := rel_fld (hI.eval_of hx)
  have h2 := rel_fld (hI.eval_of hy)
  generalize a.eval = ρ at h1 h2
  have hg : (eqGuard .neq 58 x y (.agg #[.string ⟨f.1.toArray⟩, .string ⟨f.2.toArray⟩]) (.agg #[.string ⟨g.1.toArray⟩, .string ⟨g.2.toArray⟩])).run Tryz.prog w' = .ok () w' := run_eqGuard_agg w' _ _ _ _ _ _ (by kernel_rfl)
  simp [execOp, h1, h2, hg, neF_val]
theorem aq_neI_t {x y : Operand} {t t' : TypeId} {m n : Int} (hx : aeval N s x = Iv m) (hy : aeval N s y = Iv n) (hne : m ≠ n)
    (h : AQ E N ops rest K (s.put d (Bv true))) : AQ E N ops (⟨d, .binOp .neq t x y t', T, p, af, none⟩ :: rest) K s :=
  aq_cmpI hx hy (by simp [cmpI, hne]) h
theorem aq_neI_f {x y : Operand} {t t' : TypeId} {m n : Int} (hx : aeval N s x = Iv m) (hy : aeval N s y = Iv n) (hne : m = n)
    (h : AQ E N ops rest K (s.put d (Bv false))) : AQ E N ops (⟨d, .binOp .neq t x y t', T, p, af, none⟩ :: rest) K s :=
  aq_cmpI hx hy (by simp [cmpI, hne]) h
theorem aq_not {x : Operand} {t : TypeId} {b : Bool} (hx : aeval N s x = Bv b)
    (h : AQ E N ops rest K (s.put d (Bv (!b)))) : AQ E N ops (⟨d, .unOp .not t x, T, p, af, none⟩ :: rest) K s :=
  aq_scalar _ rfl nofun (fun a w he => by simp [execOp, he _ _ hx, Op.unary]) h
end
theorem pure_ff {a b : List Fld} : ∀ x ∈ [fldsA a, fldsA b], Pure x := by
  intro x hx
  simp only [List.mem_cons, List.not_mem_nil, or_false] at hx
  rcases hx with rfl | rfl <;> exact fldsA_pure _
theorem fieldsN_c (a b : List Fld) (st : List AObj) (ha : a.length < 9223372036854775808) : ACall E 38 [fldsA a, fldsA b] st fun r st' => r = Bv (decide (a = b)) ∧ st' = st := by
  refine acall_pure (pure_v _) (acall_of_awp Tryz.func38 rfl (Nat.le_of_ble_eq_true rfl) ?_)
  have hma : (a.map fldA).length = a.length := by simp
  have hmb : (b.map fldA).length = b.length := by simp
  by_cases hl : a.length = b.length
  · skip
    repeat' (first
      | apply awp_seq
      | apply awp_block
      | apply awp_region
      | apply aops_nil
      | apply aops_move
      | apply aops_assign
      | (apply aops_cmpI; exact rfl; exact rfl; exact rfl)
      | (apply awp_cond_any; exact rfl; first | (apply cd_dt; (first | assumption | omega)) | (apply cd_df; (first | assumption | omega)) | (apply cd_nt; (first | exact rfl | assumption)) | (apply cd_nf; (first | exact rfl | assumption)) | (apply cd_n <;> intro h) | (apply cd_t; (first | exact rfl | assumption)) | (apply cd_f; (first | exact rfl | assumption)) | (apply cd_d <;> intro h) | (apply cd_s <;> intro h))
      | (apply aops_lenL; exact rfl; exact rfl; exact rfl; exact rfl)
      | apply awp_skip)
    refine awp_loopG (fun (k : Nat) s => k ≤ a.length ∧ a.take k = b.take k ∧ StE [(0, fldsA a), (1, fldsA b), (12, Iv a.length), (13, Iv k)] st [] s) (fun k => a.length - k) 0 ⟨by omega, by simp, stE_mk0 ⟨rfl, rfl, congrArg (fun n : Nat => Iv (n : Int)) hma, rfl, trivial⟩ rfl⟩ ?_
    rintro k _ ⟨hk, ht, t, ext, rfl⟩
    by_cases hc : k < a.length
    · by_cases he : a.getD k ([], []) = b.getD k ([], [])
      · have hn : decide (a.getD k ([], []) ≠ b.getD k ([], [])) = false := decide_eq_false fun h => h he
        repeat' (first
          | apply awp_seq
          | apply awp_block
          | apply awp_region
          | apply aops_nil
          | apply aops_move
          | apply aops_assign
          | (apply aops_cmpI; exact rfl; exact rfl; exact rfl)
          | (apply awp_cond_any; exact rfl; first | (apply cd_dt; (first | assumption | omega)) | (apply cd_df; (first | assumption | omega)) | (apply cd_nt; (first | exact rfl | assumption)) | (apply cd_nf; (first | exact rfl | assumption)) | (apply cd_n <;> intro h) | (apply cd_t; (first | exact rfl | assumption)) | (apply cd_f; (first | exact rfl | assumption)) | (apply cd_d <;> intro h) | (apply cd_s <;> intro h))
          | (apply aops_add; exact rfl; exact rfl; exact wrap_i64 (by omega) (by omega))
          | (apply awp_draw; exact rfl; kernel_rfl)
          | apply aq_nil
          | (apply aq_load_pp; exact rfl; exact rfl; exact rfl)
          | apply aq_move
          | apply awp_skip
          | (apply aq_indexAddr (n := k); exact rfl; exact rfl; exact rfl; exact rfl; exact rfl; exact flds_get (xs := a) (by omega))
          | (apply aq_indexAddr (n := k); exact rfl; exact rfl; exact rfl; exact rfl; exact rfl; exact flds_get (xs := b) (by omega))
          | (apply aq_neF; exact rfl; exact rfl; exact hn))
        exact ⟨k + 1, ⟨by omega, take_next hl hc ht he, stE_mk ⟨rfl, rfl, rfl, rfl, trivial⟩ rfl⟩, by omega⟩
      · have hn : decide (a.getD k ([], []) ≠ b.getD k ([], [])) = true := decide_eq_true he
        have hab : ¬ a = b := fun e => he (by rw [e])
        repeat' (first
          | apply awp_seq
          | apply awp_block
          | apply awp_region
          | apply aops_nil
          | apply aops_move
          | apply aops_assign
          | (apply aops_cmpI; exact rfl; exact rfl; exact rfl)
          | (apply awp_cond_any; exact rfl; first | (apply cd_dt; (first | assumption | omega)) | (apply cd_df; (first | assumption | omega)) | (apply cd_nt; (first | exact rfl | assumption)) | (apply cd_nf; (first | exact rfl | assumption)) | (apply cd_n <;> intro h) | (apply cd_t; (first | exact rfl | assumption)) | (apply cd_f; (first | exact rfl | assumption)) | (apply cd_d <;> intro h) | (apply cd_s <;> intro h))
          | (apply awp_draw; exact rfl; kernel_rfl)
          | apply aq_nil
          | (apply aq_load_pp; exact rfl; exact rfl; exact rfl)
          | apply aq_move
          | apply awp_skip
          | apply awp_ret
          | (apply aq_indexAddr (n := k); exact rfl; exact rfl; exact rfl; exact rfl; exact rfl; exact flds_get (xs := a) (by omega))
          | (apply aq_indexAddr (n := k); exact rfl; exact rfl; exact rfl; exact rfl; exact rfl; exact flds_get (xs := b) (by omega))
          | (apply aq_neF; exact rfl; exact rfl; exact hn))
        exact aret_plain rfl (ares_one rfl) ⟨congrArg Bv (decide_eq_false hab).symm, ext_end _ _ _ _⟩
    · have hab : a = b := by
        have e : k = a.length := by omega
        rw [e, List.take_length, List.take_of_length_le (by omega)] at ht
        exact ht
      repeat' (first
        | apply awp_seq
        | apply awp_region
        | apply aops_nil
        | apply aops_assign
        | (apply aops_cmpI; exact rfl; exact rfl; exact rfl)
        | (apply awp_cond_any; exact rfl; first | (apply cd_dt; (first | assumption | omega)) | (apply cd_df; (first | assumption | omega)) | (apply cd_nt; (first | exact rfl | assumption)) | (apply cd_nf; (first | exact rfl | assumption)) | (apply cd_n <;> intro h) | (apply cd_t; (first | exact rfl | assumption)) | (apply cd_f; (first | exact rfl | assumption)) | (apply cd_d <;> intro h) | (apply cd_s <;> intro h))
        | apply awp_exit
        | apply awp_ret)
      exact aret_plain rfl (ares_one rfl) ⟨congrArg Bv (decide_eq_true hab).symm, ext_end _ _ _ _⟩
  · have hab : ¬ a = b := fun e => hl (by rw [e])
    repeat' (first
      | apply awp_seq
      | apply awp_region
      | apply aops_nil
      | apply aops_move
      | apply aops_assign
      | (apply aops_cmpI; exact rfl; exact rfl; exact rfl)
      | (apply awp_cond_any; exact rfl; first | (apply cd_dt; (first | assumption | omega)) | (apply cd_df; (first | assumption | omega)) | (apply cd_nt; (first | exact rfl | assumption)) | (apply cd_nf; (first | exact rfl | assumption)) | (apply cd_n <;> intro h) | (apply cd_t; (first | exact rfl | assumption)) | (apply cd_f; (first | exact rfl | assumption)) | (apply cd_d <;> intro h) | (apply cd_s <;> intro h))
      | (apply aops_lenL; exact rfl; exact rfl; exact rfl; exact rfl)
      | apply awp_ret)
    exact aret_plain rfl (ares_one rfl) ⟨congrArg Bv (decide_eq_false hab).symm, _, rfl⟩
end Go.Proofs.YtplagcbifecagaaGreatDoor
set_option maxRecDepth 100000
set_option linter.unusedVariables false
namespace Go.Pl
open Go Go.Proofs Go.Proofs.YtplagcbifecagaaGreatDoor
theorem dec_some {text : Bytes} {b : List EditV} (h : decF text = some b) : eErr b = .no ∧ encF b = text ∧ text.length ≤ 50000 := by
  unfold decF at h
  split at h
  · simp at h
  · split at h
    · simp at h
    · split at h
      · rename_i hc
        cases h
        exact ⟨hc.1, hc.2, by omega⟩
      · simp at h
end Go.Pl
set_option maxRecDepth 100000
set_option linter.unusedVariables false
namespace Go.Proofs.YtplagcbifecagaaGreatDoor
open Go Go.Av Go.RowKit Go.Proofs Go.Pl
noncomputable def sameE (a b : List EditV) : Bool := @decide (a = b) (Classical.propDecidable _)
theorem sameE_t {a b : List EditV} (h : a = b) : sameE a b = true := @decide_eq_true _ (Classical.propDecidable _) h
theorem sameE_f {a b : List EditV} (h : ¬ a = b) : sameE a b = false := @decide_eq_false _ (Classical.propDecidable _) h
theorem edit_eq {x y : EditV} (h1 : x.kind = y.kind) (h2 : x.id = y.id) (h3 : x.fields = y.fields) : x = y := by
  cases x
  cases y
  simp_all
theorem take_nextE {a b : List EditV} {k : Nat} {d : EditV} (hl : a.length = b.length) (hk : k < a.length) (h : a.take k = b.take k) (h2 : a.getD k d = b.getD k d) : a.take (k + 1) = b.take (k + 1) := by
  rw [List.take_succ_eq_append_getElem hk, List.take_succ_eq_append_getElem (by omega), h]
  congr 2
  simpa [List.getD, hk, show k < b.length by omega] using h2
set_option maxHeartbeats 4000000 in
theorem editsN_c (a b : List EditV) (st : List AObj) (ha : a.length < 9223372036854775808) (hf : ∀ x ∈ a, x.fields.length < 9223372036854775808) : ACall E 12 [editsA a, editsA b] st fun r st' => r = Bv (sameE a b) ∧ st' = st := by
  refine acall_pure (pure_v _) (acall_of_awp Tryz.func12 rfl (Nat.le_of_ble_eq_true rfl) ?_)
  have hma : (a.map editA).length = a.length := by simp
  have hmb : (b.map editA).length = b.length := by simp
  by_cases hl : a.length = b.length
  · skip
    repeat' (first
      | (apply door_awp; first | apply awp_seq | apply awp_block | apply awp_region | (apply awp_cond_any; exact rfl; first | (apply cd_dt; (first | assumption | omega)) | (apply cd_df; (first | assumption | omega)) | (apply cd_nt; (first | exact rfl | assumption)) | (apply cd_nf; (first | exact rfl | assumption)) | (apply cd_n <;> intro h) | (apply cd_t; (first | exact rfl | assumption)) | (apply cd_f; (first | exact rfl | assumption)) | (apply cd_d <;> intro h) | (apply cd_s <;> intro h)) | (apply awp_draw; exact rfl; kernel_rfl) | apply awp_skip | apply awp_exit | apply awp_ret)
      | (apply door_guard; first | (apply aops_guard_any; exact rfl; exact rfl; exact rfl; exact rfl) | (apply aops_guard_undef; exact rfl; exact rfl; exact rfl; exact rfl))
      | (apply door_gd; first | (apply gd_run_d; (first | assumption | omega)) | (apply gd_run_n; (first | assumption | omega)) | (apply gd_skip_d; (first | assumption | omega)) | (apply gd_skip_n; (first | assumption | omega)) | (apply gd_run_nt; (first | exact rfl | assumption)) | (apply gd_run_nf; (first | exact rfl | assumption)) | (apply gd_skip_nt; (first | exact rfl | assumption)) | (apply gd_skip_nf; (first | exact rfl | assumption)) | (apply gd_split_n <;> intro h) | (apply gd_run_t; (first | exact rfl | assumption)) | (apply gd_run_f; (first | exact rfl | assumption)) | (apply gd_skip_t; (first | exact rfl | assumption)) | (apply gd_skip_f; (first | exact rfl | assumption)) | (apply gd_split_d <;> intro h) | (apply gd_split <;> intro h))
      | (apply door_aq; first | apply aq_nil | (apply aq_lenL; exact rfl; exact rfl; exact rfl; exact rfl) | (apply aq_sub; exact rfl; exact rfl; exact wrap_i64 (by omega) (by omega)) | (apply aq_span; exact rfl; exact rfl; exact rfl; exact rfl; (first | assumption | omega | (simp; omega)); first | assumption | omega | (simp; omega)) | (apply aq_load_mid; exact rfl; exact rfl; exact rfl; exact rfl; exact rfl) | (apply aq_concat; exact rfl; exact rfl; (first | omega | (simp only [List.length_append, List.length_cons, List.length_nil]; omega) | (simp; omega))) | (apply aq_load_pp; exact rfl; exact rfl; exact rfl) | (apply aq_load_loc; exact rfl; exact rfl; exact rfl; exact rfl; exact rfl) | (apply aq_fieldAddr_pp; exact rfl; exact rfl; exact rfl; exact rfl) | (apply aq_fieldAddr_bx; exact rfl; exact rfl; exact rfl) | (apply aq_idx; exact rfl; exact rfl; exact rfl; first | assumption | omega | (simp; omega)) | (apply aq_shr4; exact rfl; exact rfl) | (apply aq_and15; exact rfl; exact rfl) | (apply aq_convW; exact rfl; exact rfl; exact rfl; omega) | (apply aq_buildA; exact rfl; exact rfl; exact rfl) | apply aq_move | apply aq_assign | (apply aq_add; exact rfl; exact rfl; exact wrap_i64 (by omega) (by omega)) | (apply aq_lenS; exact rfl; exact rfl; exact rfl) | (apply aq_upto; exact rfl; exact rfl; exact rfl; first | assumption | omega | (simp; omega)) | (apply aq_from; exact rfl; exact rfl; exact rfl; first | assumption | omega | (simp; omega)) | (apply aq_extract; exact rfl; exact rfl))
      | (apply door_binOp; first | (apply aops_cmpI; exact rfl; exact rfl; exact rfl) | (apply aops_cmpS; exact rfl; exact rfl; exact rfl) | (apply aops_concat; exact rfl; exact rfl; (first | omega | (simp only [List.length_append, List.length_cons, List.length_nil]; omega) | (simp; omega))) | (apply aops_add; exact rfl; exact rfl; exact wrap_i64 (by omega) (by omega)) | (apply aops_sub; exact rfl; exact rfl; exact wrap_i64 (by omega) (by omega)) | (apply aops_errNeNil; exact rfl; exact rfl) | (apply aops_nilNeNil; exact rfl; exact rfl) | (apply aops_errEqNil; exact rfl; exact rfl) | (apply aops_nilEqNil; exact rfl; exact rfl) | (apply aops_ptrEqNil; exact rfl; exact rfl; exact rfl) | (apply aops_ptrNeNil; exact rfl; exact rfl; exact rfl) | (apply aops_xor32; exact rfl; exact rfl; (first | exact ofInt_toNat _ | exact rfl); first | exact ofInt_toNat _ | exact rfl) | (apply aops_and32; exact rfl; exact rfl; (first | exact ofInt_toNat _ | exact rfl); first | exact ofInt_toNat _ | exact rfl) | (apply aops_or32; exact rfl; exact rfl; (first | exact ofInt_toNat _ | exact rfl); first | exact ofInt_toNat _ | exact rfl) | (apply aops_shl32; exact rfl; exact rfl; exact rfl) | (apply aops_shr32; exact rfl; exact rfl; exact rfl))
      | (apply door_load; first | (apply aops_load_pp; exact rfl; exact rfl; exact rfl) | (apply aops_load_mid; exact rfl; exact rfl; exact rfl; exact rfl; exact rfl) | (apply aops_load_loc; exact rfl; exact rfl; exact rfl; exact rfl; exact rfl))
      | (apply door_unOp; first | (apply aops_not_d; exact rfl) | (apply aops_not; exact rfl) | (apply aops_compl32; exact rfl))
      | (apply door_slice; first | (apply aops_upto; exact rfl; exact rfl; exact rfl; first | assumption | omega | (simp; omega)) | (apply aops_from; exact rfl; exact rfl; exact rfl; first | assumption | omega | (simp; omega)) | (apply aops_span; exact rfl; exact rfl; exact rfl; exact rfl; (first | assumption | omega | (simp; omega)); first | assumption | omega | (simp; omega)) | (apply aops_sliceFrom; exact rfl; exact rfl; exact rfl; exact rfl; (first | assumption | omega | exact Nat.succ_le_succ (Nat.zero_le _) | (simp; omega)); exact rfl))
      | (apply door_call; first | (apply aops_lenS; exact rfl; exact rfl; exact rfl) | (apply aops_lenL; exact rfl; exact rfl; exact rfl; exact rfl))
      | (apply door_fieldAddr; first | (apply aops_fieldAddr_bx; exact rfl; exact rfl; exact rfl) | (apply aops_fieldAddr_pp; exact rfl; exact rfl; exact rfl; exact rfl))
      | (apply door_store; first | (apply aops_store_mid; exact rfl; exact rfl; exact rfl; exact rfl; exact rfl; exact rfl; exact rfl; exact rfl; exact rfl; exact rfl; exact rfl) | (apply aops_store_loc; exact rfl; exact rfl; exact rfl; exact rfl; exact rfl; exact rfl; exact rfl; exact rfl; exact rfl; exact rfl; exact rfl))
      | (apply door_ops; first | apply aops_nil | apply aops_move | apply aops_assign | (apply aops_extract; exact rfl; exact rfl) | (apply aops_pick_any; exact rfl; first | (apply pk_dt; (first | assumption | omega)) | (apply pk_df; (first | assumption | omega)) | (apply pk_nt; (first | exact rfl | assumption)) | (apply pk_nf; (first | exact rfl | assumption)) | (apply pk_t; (first | exact rfl | assumption)) | (apply pk_f; (first | exact rfl | assumption))) | (apply aops_makeInterface; exact rfl; exact rfl) | apply aops_makeFunc | (apply aops_alloc; exact rfl; exact rfl) | (apply aops_box; exact rfl; exact rfl; exact rfl; exact rfl) | (apply aops_field; exact rfl; exact rfl; exact rfl) | (apply aops_idx; exact rfl; exact rfl; exact rfl; first | assumption | omega | (simp; omega)) | (apply aops_build; exact rfl; exact rfl; exact rfl) | (apply aops_buildSlice; exact rfl; exact rfl; exact rfl; exact rfl; exact rfl; exact rfl; exact rfl; exact rfl; exact rfl) | (apply aops_nilCheck; exact rfl; exact rfl) | (apply aops_indexA; exact rfl; exact rfl; exact rfl; exact rfl; (first | assumption | omega | decide); exact rfl) | (apply aops_indexAddrA; exact rfl; exact rfl; exact rfl; exact rfl; first | assumption | omega | decide)))
    refine awp_loopG (fun (k : Nat) s => k ≤ a.length ∧ a.take k = b.take k ∧ StE [(0, editsA a), (1, editsA b), (12, Iv a.length), (13, Iv k)] st [] s) (fun k => a.length - k) 0 ⟨by omega, by simp, stE_mk0 ⟨rfl, rfl, congrArg (fun n : Nat => Iv (n : Int)) hma, rfl, trivial⟩ rfl⟩ ?_
    rintro k _ ⟨hk, ht, t, ext, rfl⟩
    by_cases hc : k < a.length
    · have hfl := hf (a.getD k ⟨0, 0, []⟩) (by simp [List.getD, hc])
      have hne : a.getD k ⟨0, 0, []⟩ ≠ b.getD k ⟨0, 0, []⟩ → ¬ a = b := fun h e => h (by rw [e])
      by_cases h1 : (a.getD k ⟨0, 0, []⟩).kind = (b.getD k ⟨0, 0, []⟩).kind
      · by_cases h2 : (a.getD k ⟨0, 0, []⟩).id = (b.getD k ⟨0, 0, []⟩).id
        · by_cases h3 : (a.getD k ⟨0, 0, []⟩).fields = (b.getD k ⟨0, 0, []⟩).fields
          · skip
            have hF : ∀ st, ACall E 38 [fldsA (a.getD k ⟨0, 0, []⟩).fields, fldsA (b.getD k ⟨0, 0, []⟩).fields] st fun r st' => r = Bv true ∧ st' = st := fun st => by
              have := fieldsN_c (a.getD k ⟨0, 0, []⟩).fields (b.getD k ⟨0, 0, []⟩).fields st hfl
              rw [decide_eq_true h3] at this
              exact this
            repeat' (first
              | (apply door_awp; first | apply awp_seq | apply awp_block | apply awp_region | (apply awp_cond_any; exact rfl; first | (apply cd_dt; (first | assumption | omega)) | (apply cd_df; (first | assumption | omega)) | (apply cd_nt; (first | exact rfl | assumption)) | (apply cd_nf; (first | exact rfl | assumption)) | (apply cd_n <;> intro h) | (apply cd_t; (first | exact rfl | assumption)) | (apply cd_f; (first | exact rfl | assumption)) | (apply cd_d <;> intro h) | (apply cd_s <;> intro h)) | (apply awp_draw; exact rfl; kernel_rfl) | apply awp_skip | apply awp_exit | apply awp_ret)
              | (apply door_guard; first | (apply aops_guard_any; exact rfl; exact rfl; exact rfl; exact rfl) | (apply aops_guard_undef; exact rfl; exact rfl; exact rfl; exact rfl))
              | (apply door_gd; first | (apply gd_run_d; (first | assumption | omega)) | (apply gd_run_n; (first | assumption | omega)) | (apply gd_skip_d; (first | assumption | omega)) | (apply gd_skip_n; (first | assumption | omega)) | (apply gd_run_nt; (first | exact rfl | assumption)) | (apply gd_run_nf; (first | exact rfl | assumption)) | (apply gd_skip_nt; (first | exact rfl | assumption)) | (apply gd_skip_nf; (first | exact rfl | assumption)) | (apply gd_split_n <;> intro h) | (apply gd_run_t; (first | exact rfl | assumption)) | (apply gd_run_f; (first | exact rfl | assumption)) | (apply gd_skip_t; (first | exact rfl | assumption)) | (apply gd_skip_f; (first | exact rfl | assumption)) | (apply gd_split_d <;> intro h) | (apply gd_split <;> intro h))
              | (apply door_aq; first | apply aq_nil | (apply aq_lenL; exact rfl; exact rfl; exact rfl; exact rfl) | (apply aq_sub; exact rfl; exact rfl; exact wrap_i64 (by omega) (by omega)) | (apply aq_span; exact rfl; exact rfl; exact rfl; exact rfl; (first | assumption | omega | (simp; omega)); first | assumption | omega | (simp; omega)) | (apply aq_load_mid; exact rfl; exact rfl; exact rfl; exact rfl; exact rfl) | (apply aq_concat; exact rfl; exact rfl; (first | omega | (simp only [List.length_append, List.length_cons, List.length_nil]; omega) | (simp; omega))) | (apply aq_load_pp; exact rfl; exact rfl; exact rfl) | (apply aq_load_loc; exact rfl; exact rfl; exact rfl; exact rfl; exact rfl) | (apply aq_fieldAddr_pp; exact rfl; exact rfl; exact rfl; exact rfl) | (apply aq_fieldAddr_bx; exact rfl; exact rfl; exact rfl) | (apply aq_idx; exact rfl; exact rfl; exact rfl; first | assumption | omega | (simp; omega)) | (apply aq_shr4; exact rfl; exact rfl) | (apply aq_and15; exact rfl; exact rfl) | (apply aq_convW; exact rfl; exact rfl; exact rfl; omega) | (apply aq_buildA; exact rfl; exact rfl; exact rfl) | apply aq_move | apply aq_assign | (apply aq_add; exact rfl; exact rfl; exact wrap_i64 (by omega) (by omega)) | (apply aq_lenS; exact rfl; exact rfl; exact rfl) | (apply aq_upto; exact rfl; exact rfl; exact rfl; first | assumption | omega | (simp; omega)) | (apply aq_from; exact rfl; exact rfl; exact rfl; first | assumption | omega | (simp; omega)) | (apply aq_extract; exact rfl; exact rfl))
              | (apply door_binOp; first | (apply aops_cmpI; exact rfl; exact rfl; exact rfl) | (apply aops_cmpS; exact rfl; exact rfl; exact rfl) | (apply aops_concat; exact rfl; exact rfl; (first | omega | (simp only [List.length_append, List.length_cons, List.length_nil]; omega) | (simp; omega))) | (apply aops_add; exact rfl; exact rfl; exact wrap_i64 (by omega) (by omega)) | (apply aops_sub; exact rfl; exact rfl; exact wrap_i64 (by omega) (by omega)) | (apply aops_errNeNil; exact rfl; exact rfl) | (apply aops_nilNeNil; exact rfl; exact rfl) | (apply aops_errEqNil; exact rfl; exact rfl) | (apply aops_nilEqNil; exact rfl; exact rfl) | (apply aops_ptrEqNil; exact rfl; exact rfl; exact rfl) | (apply aops_ptrNeNil; exact rfl; exact rfl; exact rfl) | (apply aops_xor32; exact rfl; exact rfl; (first | exact ofInt_toNat _ | exact rfl); first | exact ofInt_toNat _ | exact rfl) | (apply aops_and32; exact rfl; exact rfl; (first | exact ofInt_toNat _ | exact rfl); first | exact ofInt_toNat _ | exact rfl) | (apply aops_or32; exact rfl; exact rfl; (first | exact ofInt_toNat _ | exact rfl); first | exact ofInt_toNat _ | exact rfl) | (apply aops_shl32; exact rfl; exact rfl; exact rfl) | (apply aops_shr32; exact rfl; exact rfl; exact rfl))
              | (apply door_load; first | (apply aops_load_pp; exact rfl; exact rfl; exact rfl) | (apply aops_load_mid; exact rfl; exact rfl; exact rfl; exact rfl; exact rfl) | (apply aops_load_loc; exact rfl; exact rfl; exact rfl; exact rfl; exact rfl))
              | (apply door_unOp; first | (apply aops_not_d; exact rfl) | (apply aops_not; exact rfl) | (apply aops_compl32; exact rfl))
              | (apply door_slice; first | (apply aops_upto; exact rfl; exact rfl; exact rfl; first | assumption | omega | (simp; omega)) | (apply aops_from; exact rfl; exact rfl; exact rfl; first | assumption | omega | (simp; omega)) | (apply aops_span; exact rfl; exact rfl; exact rfl; exact rfl; (first | assumption | omega | (simp; omega)); first | assumption | omega | (simp; omega)) | (apply aops_sliceFrom; exact rfl; exact rfl; exact rfl; exact rfl; (first | assumption | omega | exact Nat.succ_le_succ (Nat.zero_le _) | (simp; omega)); exact rfl))
              | (apply door_call; first | (apply aops_lenS; exact rfl; exact rfl; exact rfl) | (apply aops_lenL; exact rfl; exact rfl; exact rfl; exact rfl))
              | (apply door_fieldAddr; first | (apply aops_fieldAddr_bx; exact rfl; exact rfl; exact rfl) | (apply aops_fieldAddr_pp; exact rfl; exact rfl; exact rfl; exact rfl))
              | (apply door_store; first | (apply aops_store_mid; exact rfl; exact rfl; exact rfl; exact rfl; exact rfl; exact rfl; exact rfl; exact rfl; exact rfl; exact rfl; exact rfl) | (apply aops_store_loc; exact rfl; exact rfl; exact rfl; exact rfl; exact rfl; exact rfl; exact rfl; exact rfl; exact rfl; exact rfl; exact rfl))
              | (apply door_ops; first | apply aops_nil | apply aops_move | apply aops_assign | (apply aops_extract; exact rfl; exact rfl) | (apply aops_pick_any; exact rfl; first | (apply pk_dt; (first | assumption | omega)) | (apply pk_df; (first | assumption | omega)) | (apply pk_nt; (first | exact rfl | assumption)) | (apply pk_nf; (first | exact rfl | assumption)) | (apply pk_t; (first | exact rfl | assumption)) | (apply pk_f; (first | exact rfl | assumption))) | (apply aops_makeInterface; exact rfl; exact rfl) | apply aops_makeFunc | (apply aops_alloc; exact rfl; exact rfl) | (apply aops_box; exact rfl; exact rfl; exact rfl; exact rfl) | (apply aops_field; exact rfl; exact rfl; exact rfl) | (apply aops_idx; exact rfl; exact rfl; exact rfl; first | assumption | omega | (simp; omega)) | (apply aops_build; exact rfl; exact rfl; exact rfl) | (apply aops_buildSlice; exact rfl; exact rfl; exact rfl; exact rfl; exact rfl; exact rfl; exact rfl; exact rfl; exact rfl) | (apply aops_nilCheck; exact rfl; exact rfl) | (apply aops_indexA; exact rfl; exact rfl; exact rfl; exact rfl; (first | assumption | omega | decide); exact rfl) | (apply aops_indexAddrA; exact rfl; exact rfl; exact rfl; exact rfl; first | assumption | omega | decide))
              | (apply aq_indexAddr (n := k); exact rfl; exact rfl; exact rfl; exact rfl; exact rfl; exact edits_get (xs := a) (by omega))
              | (apply aq_indexAddr (n := k); exact rfl; exact rfl; exact rfl; exact rfl; exact rfl; exact edits_get (xs := b) (by omega))
              | (apply aq_neI_f; exact rfl; exact rfl; (first | exact h1 | exact h2))
              | (apply aq_guard_run; exact rfl; exact rfl; exact rfl; exact rfl; exact rfl)
              | (apply aq_guard_skip; exact rfl; exact rfl; exact rfl; exact rfl; exact rfl)
              | (apply aq_pick_t; exact rfl; exact rfl)
              | (apply aq_pick_f; exact rfl; exact rfl)
              | (refine aq_callP (args := [fldsA _, fldsA _]) env_okB Tryz.call38 rfl pure_ff (sure_v _) (fun _ => .v _) (hF _) ?_)
              | (apply aq_not; exact rfl))
            exact ⟨k + 1, ⟨by omega, take_nextE hl hc ht (edit_eq h1 h2 h3), stE_mk ⟨rfl, rfl, rfl, rfl, trivial⟩ rfl⟩, by omega⟩
          · skip
            have hF : ∀ st, ACall E 38 [fldsA (a.getD k ⟨0, 0, []⟩).fields, fldsA (b.getD k ⟨0, 0, []⟩).fields] st fun r st' => r = Bv false ∧ st' = st := fun st => by
              have := fieldsN_c (a.getD k ⟨0, 0, []⟩).fields (b.getD k ⟨0, 0, []⟩).fields st hfl
              rw [decide_eq_false h3] at this
              exact this
            repeat' (first
              | (apply door_awp; first | apply awp_seq | apply awp_block | apply awp_region | (apply awp_cond_any; exact rfl; first | (apply cd_dt; (first | assumption | omega)) | (apply cd_df; (first | assumption | omega)) | (apply cd_nt; (first | exact rfl | assumption)) | (apply cd_nf; (first | exact rfl | assumption)) | (apply cd_n <;> intro h) | (apply cd_t; (first | exact rfl | assumption)) | (apply cd_f; (first | exact rfl | assumption)) | (apply cd_d <;> intro h) | (apply cd_s <;> intro h)) | (apply awp_draw; exact rfl; kernel_rfl) | apply awp_skip | apply awp_exit | apply awp_ret)
              | (apply door_guard; first | (apply aops_guard_any; exact rfl; exact rfl; exact rfl; exact rfl) | (apply aops_guard_undef; exact rfl; exact rfl; exact rfl; exact rfl))
              | (apply door_gd; first | (apply gd_run_d; (first | assumption | omega)) | (apply gd_run_n; (first | assumption | omega)) | (apply gd_skip_d; (first | assumption | omega)) | (apply gd_skip_n; (first | assumption | omega)) | (apply gd_run_nt; (first | exact rfl | assumption)) | (apply gd_run_nf; (first | exact rfl | assumption)) | (apply gd_skip_nt; (first | exact rfl | assumption)) | (apply gd_skip_nf; (first | exact rfl | assumption)) | (apply gd_split_n <;> intro h) | (apply gd_run_t; (first | exact rfl | assumption)) | (apply gd_run_f; (first | exact rfl | assumption)) | (apply gd_skip_t; (first | exact rfl | assumption)) | (apply gd_skip_f; (first | exact rfl | assumption)) | (apply gd_split_d <;> intro h) | (apply gd_split <;> intro h))
              | (apply door_aq; first | apply aq_nil | (apply aq_lenL; exact rfl; exact rfl; exact rfl; exact rfl) | (apply aq_sub; exact rfl; exact rfl; exact wrap_i64 (by omega) (by omega)) | (apply aq_span; exact rfl; exact rfl; exact rfl; exact rfl; (first | assumption | omega | (simp; omega)); first | assumption | omega | (simp; omega)) | (apply aq_load_mid; exact rfl; exact rfl; exact rfl; exact rfl; exact rfl) | (apply aq_concat; exact rfl; exact rfl; (first | omega | (simp only [List.length_append, List.length_cons, List.length_nil]; omega) | (simp; omega))) | (apply aq_load_pp; exact rfl; exact rfl; exact rfl) | (apply aq_load_loc; exact rfl; exact rfl; exact rfl; exact rfl; exact rfl) | (apply aq_fieldAddr_pp; exact rfl; exact rfl; exact rfl; exact rfl) | (apply aq_fieldAddr_bx; exact rfl; exact rfl; exact rfl) | (apply aq_idx; exact rfl; exact rfl; exact rfl; first | assumption | omega | (simp; omega)) | (apply aq_shr4; exact rfl; exact rfl) | (apply aq_and15; exact rfl; exact rfl) | (apply aq_convW; exact rfl; exact rfl; exact rfl; omega) | (apply aq_buildA; exact rfl; exact rfl; exact rfl) | apply aq_move | apply aq_assign | (apply aq_add; exact rfl; exact rfl; exact wrap_i64 (by omega) (by omega)) | (apply aq_lenS; exact rfl; exact rfl; exact rfl) | (apply aq_upto; exact rfl; exact rfl; exact rfl; first | assumption | omega | (simp; omega)) | (apply aq_from; exact rfl; exact rfl; exact rfl; first | assumption | omega | (simp; omega)) | (apply aq_extract; exact rfl; exact rfl))
              | (apply door_binOp; first | (apply aops_cmpI; exact rfl; exact rfl; exact rfl) | (apply aops_cmpS; exact rfl; exact rfl; exact rfl) | (apply aops_concat; exact rfl; exact rfl; (first | omega | (simp only [List.length_append, List.length_cons, List.length_nil]; omega) | (simp; omega))) | (apply aops_add; exact rfl; exact rfl; exact wrap_i64 (by omega) (by omega)) | (apply aops_sub; exact rfl; exact rfl; exact wrap_i64 (by omega) (by omega)) | (apply aops_errNeNil; exact rfl; exact rfl) | (apply aops_nilNeNil; exact rfl; exact rfl) | (apply aops_errEqNil; exact rfl; exact rfl) | (apply aops_nilEqNil; exact rfl; exact rfl) | (apply aops_ptrEqNil; exact rfl; exact rfl; exact rfl) | (apply aops_ptrNeNil; exact rfl; exact rfl; exact rfl) | (apply aops_xor32; exact rfl; exact rfl; (first | exact ofInt_toNat _ | exact rfl); first | exact ofInt_toNat _ | exact rfl) | (apply aops_and32; exact rfl; exact rfl; (first | exact ofInt_toNat _ | exact rfl); first | exact ofInt_toNat _ | exact rfl) | (apply aops_or32; exact rfl; exact rfl; (first | exact ofInt_toNat _ | exact rfl); first | exact ofInt_toNat _ | exact rfl) | (apply aops_shl32; exact rfl; exact rfl; exact rfl) | (apply aops_shr32; exact rfl; exact rfl; exact rfl))
              | (apply door_load; first | (apply aops_load_pp; exact rfl; exact rfl; exact rfl) | (apply aops_load_mid; exact rfl; exact rfl; exact rfl; exact rfl; exact rfl) | (apply aops_load_loc; exact rfl; exact rfl; exact rfl; exact rfl; exact rfl))
              | (apply door_unOp; first | (apply aops_not_d; exact rfl) | (apply aops_not; exact rfl) | (apply aops_compl32; exact rfl))
              | (apply door_slice; first | (apply aops_upto; exact rfl; exact rfl; exact rfl; first | assumption | omega | (simp; omega)) | (apply aops_from; exact rfl; exact rfl; exact rfl; first | assumption | omega | (simp; omega)) | (apply aops_span; exact rfl; exact rfl; exact rfl; exact rfl; (first | assumption | omega | (simp; omega)); first | assumption | omega | (simp; omega)) | (apply aops_sliceFrom; exact rfl; exact rfl; exact rfl; exact rfl; (first | assumption | omega | exact Nat.succ_le_succ (Nat.zero_le _) | (simp; omega)); exact rfl))
              | (apply door_call; first | (apply aops_lenS; exact rfl; exact rfl; exact rfl) | (apply aops_lenL; exact rfl; exact rfl; exact rfl; exact rfl))
              | (apply door_fieldAddr; first | (apply aops_fieldAddr_bx; exact rfl; exact rfl; exact rfl) | (apply aops_fieldAddr_pp; exact rfl; exact rfl; exact rfl; exact rfl))
              | (apply door_store; first | (apply aops_store_mid; exact rfl; exact rfl; exact rfl; exact rfl; exact rfl; exact rfl; exact rfl; exact rfl; exact rfl; exact rfl; exact rfl) | (apply aops_store_loc; exact rfl; exact rfl; exact rfl; exact rfl; exact rfl; exact rfl; exact rfl; exact rfl; exact rfl; exact rfl; exact rfl))
              | (apply door_ops; first | apply aops_nil | apply aops_move | apply aops_assign | (apply aops_extract; exact rfl; exact rfl) | (apply aops_pick_any; exact rfl; first | (apply pk_dt; (first | assumption | omega)) | (apply pk_df; (first | assumption | omega)) | (apply pk_nt; (first | exact rfl | assumption)) | (apply pk_nf; (first | exact rfl | assumption)) | (apply pk_t; (first | exact rfl | assumption)) | (apply pk_f; (first | exact rfl | assumption))) | (apply aops_makeInterface; exact rfl; exact rfl) | apply aops_makeFunc | (apply aops_alloc; exact rfl; exact rfl) | (apply aops_box; exact rfl; exact rfl; exact rfl; exact rfl) | (apply aops_field; exact rfl; exact rfl; exact rfl) | (apply aops_idx; exact rfl; exact rfl; exact rfl; first | assumption | omega | (simp; omega)) | (apply aops_build; exact rfl; exact rfl; exact rfl) | (apply aops_buildSlice; exact rfl; exact rfl; exact rfl; exact rfl; exact rfl; exact rfl; exact rfl; exact rfl; exact rfl) | (apply aops_nilCheck; exact rfl; exact rfl) | (apply aops_indexA; exact rfl; exact rfl; exact rfl; exact rfl; (first | assumption | omega | decide); exact rfl) | (apply aops_indexAddrA; exact rfl; exact rfl; exact rfl; exact rfl; first | assumption | omega | decide))
              | (apply aq_indexAddr (n := k); exact rfl; exact rfl; exact rfl; exact rfl; exact rfl; exact edits_get (xs := a) (by omega))
              | (apply aq_indexAddr (n := k); exact rfl; exact rfl; exact rfl; exact rfl; exact rfl; exact edits_get (xs := b) (by omega))
              | (apply aq_neI_f; exact rfl; exact rfl; (first | exact h1 | exact h2))
              | (apply aq_guard_run; exact rfl; exact rfl; exact rfl; exact rfl; exact rfl)
              | (apply aq_guard_skip; exact rfl; exact rfl; exact rfl; exact rfl; exact rfl)
              | (apply aq_pick_t; exact rfl; exact rfl)
              | (apply aq_pick_f; exact rfl; exact rfl)
              | (refine aq_callP (args := [fldsA _, fldsA _]) env_okB Tryz.call38 rfl pure_ff (sure_v _) (fun _ => .v _) (hF _) ?_)
              | (apply aq_not; exact rfl))
            exact aret_plain rfl (ares_one rfl) ⟨congrArg Bv (sameE_f (hne fun e => h3 (by rw [e]))).symm, ext_end _ _ _ _⟩
        · skip
          repeat' (first
            | (apply door_awp; first | apply awp_seq | apply awp_block | apply awp_region | (apply awp_cond_any; exact rfl; first | (apply cd_dt; (first | assumption | omega)) | (apply cd_df; (first | assumption | omega)) | (apply cd_nt; (first | exact rfl | assumption)) | (apply cd_nf; (first | exact rfl | assumption)) | (apply cd_n <;> intro h) | (apply cd_t; (first | exact rfl | assumption)) | (apply cd_f; (first | exact rfl | assumption)) | (apply cd_d <;> intro h) | (apply cd_s <;> intro h)) | (apply awp_draw; exact rfl; kernel_rfl) | apply awp_skip | apply awp_exit | apply awp_ret)
            | (apply door_guard; first | (apply aops_guard_any; exact rfl; exact rfl; exact rfl; exact rfl) | (apply aops_guard_undef; exact rfl; exact rfl; exact rfl; exact rfl))
            | (apply door_gd; first | (apply gd_run_d; (first | assumption | omega)) | (apply gd_run_n; (first | assumption | omega)) | (apply gd_skip_d; (first | assumption | omega)) | (apply gd_skip_n; (first | assumption | omega)) | (apply gd_run_nt; (first | exact rfl | assumption)) | (apply gd_run_nf; (first | exact rfl | assumption)) | (apply gd_skip_nt; (first | exact rfl | assumption)) | (apply gd_skip_nf; (first | exact rfl | assumption)) | (apply gd_split_n <;> intro h) | (apply gd_run_t; (first | exact rfl | assumption)) | (apply gd_run_f; (first | exact rfl | assumption)) | (apply gd_skip_t; (first | exact rfl | assumption)) | (apply gd_skip_f; (first | exact rfl | assumption)) | (apply gd_split_d <;> intro h) | (apply gd_split <;> intro h))
            | (apply door_aq; first | apply aq_nil | (apply aq_lenL; exact rfl; exact rfl; exact rfl; exact rfl) | (apply aq_sub; exact rfl; exact rfl; exact wrap_i64 (by omega) (by omega)) | (apply aq_span; exact rfl; exact rfl; exact rfl; exact rfl; (first | assumption | omega | (simp; omega)); first | assumption | omega | (simp; omega)) | (apply aq_load_mid; exact rfl; exact rfl; exact rfl; exact rfl; exact rfl) | (apply aq_concat; exact rfl; exact rfl; (first | omega | (simp only [List.length_append, List.length_cons, List.length_nil]; omega) | (simp; omega))) | (apply aq_load_pp; exact rfl; exact rfl; exact rfl) | (apply aq_load_loc; exact rfl; exact rfl; exact rfl; exact rfl; exact rfl) | (apply aq_fieldAddr_pp; exact rfl; exact rfl; exact rfl; exact rfl) | (apply aq_fieldAddr_bx; exact rfl; exact rfl; exact rfl) | (apply aq_idx; exact rfl; exact rfl; exact rfl; first | assumption | omega | (simp; omega)) | (apply aq_shr4; exact rfl; exact rfl) | (apply aq_and15; exact rfl; exact rfl) | (apply aq_convW; exact rfl; exact rfl; exact rfl; omega) | (apply aq_buildA; exact rfl; exact rfl; exact rfl) | apply aq_move | apply aq_assign | (apply aq_add; exact rfl; exact rfl; exact wrap_i64 (by omega) (by omega)) | (apply aq_lenS; exact rfl; exact rfl; exact rfl) | (apply aq_upto; exact rfl; exact rfl; exact rfl; first | assumption | omega | (simp; omega)) | (apply aq_from; exact rfl; exact rfl; exact rfl; first | assumption | omega | (simp; omega)) | (apply aq_extract; exact rfl; exact rfl))
            | (apply door_binOp; first | (apply aops_cmpI; exact rfl; exact rfl; exact rfl) | (apply aops_cmpS; exact rfl; exact rfl; exact rfl) | (apply aops_concat; exact rfl; exact rfl; (first | omega | (simp only [List.length_append, List.length_cons, List.length_nil]; omega) | (simp; omega))) | (apply aops_add; exact rfl; exact rfl; exact wrap_i64 (by omega) (by omega)) | (apply aops_sub; exact rfl; exact rfl; exact wrap_i64 (by omega) (by omega)) | (apply aops_errNeNil; exact rfl; exact rfl) | (apply aops_nilNeNil; exact rfl; exact rfl) | (apply aops_errEqNil; exact rfl; exact rfl) | (apply aops_nilEqNil; exact rfl; exact rfl) | (apply aops_ptrEqNil; exact rfl; exact rfl; exact rfl) | (apply aops_ptrNeNil; exact rfl; exact rfl; exact rfl) | (apply aops_xor32; exact rfl; exact rfl; (first | exact ofInt_toNat _ | exact rfl); first | exact ofInt_toNat _ | exact rfl) | (apply aops_and32; exact rfl; exact rfl; (first | exact ofInt_toNat _ | exact rfl); first | exact ofInt_toNat _ | exact rfl) | (apply aops_or32; exact rfl; exact rfl; (first | exact ofInt_toNat _ | exact rfl); first | exact ofInt_toNat _ | exact rfl) | (apply aops_shl32; exact rfl; exact rfl; exact rfl) | (apply aops_shr32; exact rfl; exact rfl; exact rfl))
            | (apply door_load; first | (apply aops_load_pp; exact rfl; exact rfl; exact rfl) | (apply aops_load_mid; exact rfl; exact rfl; exact rfl; exact rfl; exact rfl) | (apply aops_load_loc; exact rfl; exact rfl; exact rfl; exact rfl; exact rfl))
            | (apply door_unOp; first | (apply aops_not_d; exact rfl) | (apply aops_not; exact rfl) | (apply aops_compl32; exact rfl))
            | (apply door_slice; first | (apply aops_upto; exact rfl; exact rfl; exact rfl; first | assumption | omega | (simp; omega)) | (apply aops_from; exact rfl; exact rfl; exact rfl; first | assumption | omega | (simp; omega)) | (apply aops_span; exact rfl; exact rfl; exact rfl; exact rfl; (first | assumption | omega | (simp; omega)); first | assumption | omega | (simp; omega)) | (apply aops_sliceFrom; exact rfl; exact rfl; exact rfl; exact rfl; (first | assumption | omega | exact Nat.succ_le_succ (Nat.zero_le _) | (simp; omega)); exact rfl))
            | (apply door_call; first | (apply aops_lenS; exact rfl; exact rfl; exact rfl) | (apply aops_lenL; exact rfl; exact rfl; exact rfl; exact rfl))
            | (apply door_fieldAddr; first | (apply aops_fieldAddr_bx; exact rfl; exact rfl; exact rfl) | (apply aops_fieldAddr_pp; exact rfl; exact rfl; exact rfl; exact rfl))
            | (apply door_store; first | (apply aops_store_mid; exact rfl; exact rfl; exact rfl; exact rfl; exact rfl; exact rfl; exact rfl; exact rfl; exact rfl; exact rfl; exact rfl) | (apply aops_store_loc; exact rfl; exact rfl; exact rfl; exact rfl; exact rfl; exact rfl; exact rfl; exact rfl; exact rfl; exact rfl; exact rfl))
            | (apply door_ops; first | apply aops_nil | apply aops_move | apply aops_assign | (apply aops_extract; exact rfl; exact rfl) | (apply aops_pick_any; exact rfl; first | (apply pk_dt; (first | assumption | omega)) | (apply pk_df; (first | assumption | omega)) | (apply pk_nt; (first | exact rfl | assumption)) | (apply pk_nf; (first | exact rfl | assumption)) | (apply pk_t; (first | exact rfl | assumption)) | (apply pk_f; (first | exact rfl | assumption))) | (apply aops_makeInterface; exact rfl; exact rfl) | apply aops_makeFunc | (apply aops_alloc; exact rfl; exact rfl) | (apply aops_box; exact rfl; exact rfl; exact rfl; exact rfl) | (apply aops_field; exact rfl; exact rfl; exact rfl) | (apply aops_idx; exact rfl; exact rfl; exact rfl; first | assumption | omega | (simp; omega)) | (apply aops_build; exact rfl; exact rfl; exact rfl) | (apply aops_buildSlice; exact rfl; exact rfl; exact rfl; exact rfl; exact rfl; exact rfl; exact rfl; exact rfl; exact rfl) | (apply aops_nilCheck; exact rfl; exact rfl) | (apply aops_indexA; exact rfl; exact rfl; exact rfl; exact rfl; (first | assumption | omega | decide); exact rfl) | (apply aops_indexAddrA; exact rfl; exact rfl; exact rfl; exact rfl; first | assumption | omega | decide))
            | (apply aq_indexAddr (n := k); exact rfl; exact rfl; exact rfl; exact rfl; exact rfl; exact edits_get (xs := a) (by omega))
            | (apply aq_indexAddr (n := k); exact rfl; exact rfl; exact rfl; exact rfl; exact rfl; exact edits_get (xs := b) (by omega))
            | (apply aq_neI_f; exact rfl; exact rfl; exact h1)
            | (apply aq_neI_t; exact rfl; exact rfl; exact h2)
            | (apply aq_guard_run; exact rfl; exact rfl; exact rfl; exact rfl; exact rfl)
            | (apply aq_guard_skip; exact rfl; exact rfl; exact rfl; exact rfl; exact rfl)
            | (apply aq_pick_t; exact rfl; exact rfl)
            | (apply aq_pick_f; exact rfl; exact rfl))
          exact aret_plain rfl (ares_one rfl) ⟨congrArg Bv (sameE_f (hne fun e => h2 (by rw [e]))).symm, ext_end _ _ _ _⟩
      · skip
        repeat' (first
          | (apply door_awp; first | apply awp_seq | apply awp_block | apply awp_region | (apply awp_cond_any; exact rfl; first | (apply cd_dt; (first | assumption | omega)) | (apply cd_df; (first | assumption | omega)) | (apply cd_nt; (first | exact rfl | assumption)) | (apply cd_nf; (first | exact rfl | assumption)) | (apply cd_n <;> intro h) | (apply cd_t; (first | exact rfl | assumption)) | (apply cd_f; (first | exact rfl | assumption)) | (apply cd_d <;> intro h) | (apply cd_s <;> intro h)) | (apply awp_draw; exact rfl; kernel_rfl) | apply awp_skip | apply awp_exit | apply awp_ret)
          | (apply door_guard; first | (apply aops_guard_any; exact rfl; exact rfl; exact rfl; exact rfl) | (apply aops_guard_undef; exact rfl; exact rfl; exact rfl; exact rfl))
          | (apply door_gd; first | (apply gd_run_d; (first | assumption | omega)) | (apply gd_run_n; (first | assumption | omega)) | (apply gd_skip_d; (first | assumption | omega)) | (apply gd_skip_n; (first | assumption | omega)) | (apply gd_run_nt; (first | exact rfl | assumption)) | (apply gd_run_nf; (first | exact rfl | assumption)) | (apply gd_skip_nt; (first | exact rfl | assumption)) | (apply gd_skip_nf; (first | exact rfl | assumption)) | (apply gd_split_n <;> intro h) | (apply gd_run_t; (first | exact rfl | assumption)) | (apply gd_run_f; (first | exact rfl | assumption)) | (apply gd_skip_t; (first | exact rfl | assumption)) | (apply gd_skip_f; (first | exact rfl | assumption)) | (apply gd_split_d <;> intro h) | (apply gd_split <;> intro h))
          | (apply door_aq; first | apply aq_nil | (apply aq_lenL; exact rfl; exact rfl; exact rfl; exact rfl) | (apply aq_sub; exact rfl; exact rfl; exact wrap_i64 (by omega) (by omega)) | (apply aq_span; exact rfl; exact rfl; exact rfl; exact rfl; (first | assumption | omega | (simp; omega)); first | assumption | omega | (simp; omega)) | (apply aq_load_mid; exact rfl; exact rfl; exact rfl; exact rfl; exact rfl) | (apply aq_concat; exact rfl; exact rfl; (first | omega | (simp only [List.length_append, List.length_cons, List.length_nil]; omega) | (simp; omega))) | (apply aq_load_pp; exact rfl; exact rfl; exact rfl) | (apply aq_load_loc; exact rfl; exact rfl; exact rfl; exact rfl; exact rfl) | (apply aq_fieldAddr_pp; exact rfl; exact rfl; exact rfl; exact rfl) | (apply aq_fieldAddr_bx; exact rfl; exact rfl; exact rfl) | (apply aq_idx; exact rfl; exact rfl; exact rfl; first | assumption | omega | (simp; omega)) | (apply aq_shr4; exact rfl; exact rfl) | (apply aq_and15; exact rfl; exact rfl) | (apply aq_convW; exact rfl; exact rfl; exact rfl; omega) | (apply aq_buildA; exact rfl; exact rfl; exact rfl) | apply aq_move | apply aq_assign | (apply aq_add; exact rfl; exact rfl; exact wrap_i64 (by omega) (by omega)) | (apply aq_lenS; exact rfl; exact rfl; exact rfl) | (apply aq_upto; exact rfl; exact rfl; exact rfl; first | assumption | omega | (simp; omega)) | (apply aq_from; exact rfl; exact rfl; exact rfl; first | assumption | omega | (simp; omega)) | (apply aq_extract; exact rfl; exact rfl))
          | (apply door_binOp; first | (apply aops_cmpI; exact rfl; exact rfl; exact rfl) | (apply aops_cmpS; exact rfl; exact rfl; exact rfl) | (apply aops_concat; exact rfl; exact rfl; (first | omega | (simp only [List.length_append, List.length_cons, List.length_nil]; omega) | (simp; omega))) | (apply aops_add; exact rfl; exact rfl; exact wrap_i64 (by omega) (by omega)) | (apply aops_sub; exact rfl; exact rfl; exact wrap_i64 (by omega) (by omega)) | (apply aops_errNeNil; exact rfl; exact rfl) | (apply aops_nilNeNil; exact rfl; exact rfl) | (apply aops_errEqNil; exact rfl; exact rfl) | (apply aops_nilEqNil; exact rfl; exact rfl) | (apply aops_ptrEqNil; exact rfl; exact rfl; exact rfl) | (apply aops_ptrNeNil; exact rfl; exact rfl; exact rfl) | (apply aops_xor32; exact rfl; exact rfl; (first | exact ofInt_toNat _ | exact rfl); first | exact ofInt_toNat _ | exact rfl) | (apply aops_and32; exact rfl; exact rfl; (first | exact ofInt_toNat _ | exact rfl); first | exact ofInt_toNat _ | exact rfl) | (apply aops_or32; exact rfl; exact rfl; (first | exact ofInt_toNat _ | exact rfl); first | exact ofInt_toNat _ | exact rfl) | (apply aops_shl32; exact rfl; exact rfl; exact rfl) | (apply aops_shr32; exact rfl; exact rfl; exact rfl))
          | (apply door_load; first | (apply aops_load_pp; exact rfl; exact rfl; exact rfl) | (apply aops_load_mid; exact rfl; exact rfl; exact rfl; exact rfl; exact rfl) | (apply aops_load_loc; exact rfl; exact rfl; exact rfl; exact rfl; exact rfl))
          | (apply door_unOp; first | (apply aops_not_d; exact rfl) | (apply aops_not; exact rfl) | (apply aops_compl32; exact rfl))
          | (apply door_slice; first | (apply aops_upto; exact rfl; exact rfl; exact rfl; first | assumption | omega | (simp; omega)) | (apply aops_from; exact rfl; exact rfl; exact rfl; first | assumption | omega | (simp; omega)) | (apply aops_span; exact rfl; exact rfl; exact rfl; exact rfl; (first | assumption | omega | (simp; omega)); first | assumption | omega | (simp; omega)) | (apply aops_sliceFrom; exact rfl; exact rfl; exact rfl; exact rfl; (first | assumption | omega | exact Nat.succ_le_succ (Nat.zero_le _) | (simp; omega)); exact rfl))
          | (apply door_call; first | (apply aops_lenS; exact rfl; exact rfl; exact rfl) | (apply aops_lenL; exact rfl; exact rfl; exact rfl; exact rfl))
          | (apply door_fieldAddr; first | (apply aops_fieldAddr_bx; exact rfl; exact rfl; exact rfl) | (apply aops_fieldAddr_pp; exact rfl; exact rfl; exact rfl; exact rfl))
          | (apply door_store; first | (apply aops_store_mid; exact rfl; exact rfl; exact rfl; exact rfl; exact rfl; exact rfl; exact rfl; exact rfl; exact rfl; exact rfl; exact rfl) | (apply aops_store_loc; exact rfl; exact rfl; exact rfl; exact rfl; exact rfl; exact rfl; exact rfl; exact rfl; exact rfl; exact rfl; exact rfl))
          | (apply door_ops; first | apply aops_nil | apply aops_move | apply aops_assign | (apply aops_extract; exact rfl; exact rfl) | (apply aops_pick_any; exact rfl; first | (apply pk_dt; (first | assumption | omega)) | (apply pk_df; (first | assumption | omega)) | (apply pk_nt; (first | exact rfl | assumption)) | (apply pk_nf; (first | exact rfl | assumption)) | (apply pk_t; (first | exact rfl | assumption)) | (apply pk_f; (first | exact rfl | assumption))) | (apply aops_makeInterface; exact rfl; exact rfl) | apply aops_makeFunc | (apply aops_alloc; exact rfl; exact rfl) | (apply aops_box; exact rfl; exact rfl; exact rfl; exact rfl) | (apply aops_field; exact rfl; exact rfl; exact rfl) | (apply aops_idx; exact rfl; exact rfl; exact rfl; first | assumption | omega | (simp; omega)) | (apply aops_build; exact rfl; exact rfl; exact rfl) | (apply aops_buildSlice; exact rfl; exact rfl; exact rfl; exact rfl; exact rfl; exact rfl; exact rfl; exact rfl; exact rfl) | (apply aops_nilCheck; exact rfl; exact rfl) | (apply aops_indexA; exact rfl; exact rfl; exact rfl; exact rfl; (first | assumption | omega | decide); exact rfl) | (apply aops_indexAddrA; exact rfl; exact rfl; exact rfl; exact rfl; first | assumption | omega | decide))
          | (apply aq_indexAddr (n := k); exact rfl; exact rfl; exact rfl; exact rfl; exact rfl; exact edits_get (xs := a) (by omega))
          | (apply aq_indexAddr (n := k); exact rfl; exact rfl; exact rfl; exact rfl; exact rfl; exact edits_get (xs := b) (by omega))
          | (apply aq_neI_t; exact rfl; exact rfl; exact h1)
          | (apply aq_guard_run; exact rfl; exact rfl; exact rfl; exact rfl; exact rfl)
          | (apply aq_guard_skip; exact rfl; exact rfl; exact rfl; exact rfl; exact rfl)
          | (apply aq_pick_t; exact rfl; exact rfl)
          | (apply aq_pick_f; exact rfl; exact rfl))
        exact aret_plain rfl (ares_one rfl) ⟨congrArg Bv (sameE_f (hne fun e => h1 (by rw [e]))).symm, ext_end _ _ _ _⟩
    · have hab : a = b := by
        have e : k = a.length := by omega
        rw [e, List.take_length, List.take_of_length_le (by omega)] at ht
        exact ht
      repeat' (first
        | (apply door_awp; first | apply awp_seq | apply awp_block | apply awp_region | (apply awp_cond_any; exact rfl; first | (apply cd_dt; (first | assumption | omega)) | (apply cd_df; (first | assumption | omega)) | (apply cd_nt; (first | exact rfl | assumption)) | (apply cd_nf; (first | exact rfl | assumption)) | (apply cd_n <;> intro h) | (apply cd_t; (first | exact rfl | assumption)) | (apply cd_f; (first | exact rfl | assumption)) | (apply cd_d <;> intro h) | (apply cd_s <;> intro h)) | (apply awp_draw; exact rfl; kernel_rfl) | apply awp_skip | apply awp_exit | apply awp_ret)
        | (apply door_guard; first | (apply aops_guard_any; exact rfl; exact rfl; exact rfl; exact rfl) | (apply aops_guard_undef; exact rfl; exact rfl; exact rfl; exact rfl))
        | (apply door_gd; first | (apply gd_run_d; (first | assumption | omega)) | (apply gd_run_n; (first | assumption | omega)) | (apply gd_skip_d; (first | assumption | omega)) | (apply gd_skip_n; (first | assumption | omega)) | (apply gd_run_nt; (first | exact rfl | assumption)) | (apply gd_run_nf; (first | exact rfl | assumption)) | (apply gd_skip_nt; (first | exact rfl | assumption)) | (apply gd_skip_nf; (first | exact rfl | assumption)) | (apply gd_split_n <;> intro h) | (apply gd_run_t; (first | exact rfl | assumption)) | (apply gd_run_f; (first | exact rfl | assumption)) | (apply gd_skip_t; (first | exact rfl | assumption)) | (apply gd_skip_f; (first | exact rfl | assumption)) | (apply gd_split_d <;> intro h) | (apply gd_split <;> intro h))
        | (apply door_aq; first | apply aq_nil | (apply aq_lenL; exact rfl; exact rfl; exact rfl; exact rfl) | (apply aq_sub; exact rfl; exact rfl; exact wrap_i64 (by omega) (by omega)) | (apply aq_span; exact rfl; exact rfl; exact rfl; exact rfl; (first | assumption | omega | (simp; omega)); first | assumption | omega | (simp; omega)) | (apply aq_load_mid; exact rfl; exact rfl; exact rfl; exact rfl; exact rfl) | (apply aq_concat; exact rfl; exact rfl; (first | omega | (simp only [List.length_append, List.length_cons, List.length_nil]; omega) | (simp; omega))) | (apply aq_load_pp; exact rfl; exact rfl; exact rfl) | (apply aq_load_loc; exact rfl; exact rfl; exact rfl; exact rfl; exact rfl) | (apply aq_fieldAddr_pp; exact rfl; exact rfl; exact rfl; exact rfl) | (apply aq_fieldAddr_bx; exact rfl; exact rfl; exact rfl) | (apply aq_idx; exact rfl; exact rfl; exact rfl; first | assumption | omega | (simp; omega)) | (apply aq_shr4; exact rfl; exact rfl) | (apply aq_and15; exact rfl; exact rfl) | (apply aq_convW; exact rfl; exact rfl; exact rfl; omega) | (apply aq_buildA; exact rfl; exact rfl; exact rfl) | apply aq_move | apply aq_assign | (apply aq_add; exact rfl; exact rfl; exact wrap_i64 (by omega) (by omega)) | (apply aq_lenS; exact rfl; exact rfl; exact rfl) | (apply aq_upto; exact rfl; exact rfl; exact rfl; first | assumption | omega | (simp; omega)) | (apply aq_from; exact rfl; exact rfl; exact rfl; first | assumption | omega | (simp; omega)) | (apply aq_extract; exact rfl; exact rfl))
        | (apply door_binOp; first | (apply aops_cmpI; exact rfl; exact rfl; exact rfl) | (apply aops_cmpS; exact rfl; exact rfl; exact rfl) | (apply aops_concat; exact rfl; exact rfl; (first | omega | (simp only [List.length_append, List.length_cons, List.length_nil]; omega) | (simp; omega))) | (apply aops_add; exact rfl; exact rfl; exact wrap_i64 (by omega) (by omega)) | (apply aops_sub; exact rfl; exact rfl; exact wrap_i64 (by omega) (by omega)) | (apply aops_errNeNil; exact rfl; exact rfl) | (apply aops_nilNeNil; exact rfl; exact rfl) | (apply aops_errEqNil; exact rfl; exact rfl) | (apply aops_nilEqNil; exact rfl; exact rfl) | (apply aops_ptrEqNil; exact rfl; exact rfl; exact rfl) | (apply aops_ptrNeNil; exact rfl; exact rfl; exact rfl) | (apply aops_xor32; exact rfl; exact rfl; (first | exact ofInt_toNat _ | exact rfl); first | exact ofInt_toNat _ | exact rfl) | (apply aops_and32; exact rfl; exact rfl; (first | exact ofInt_toNat _ | exact rfl); first | exact ofInt_toNat _ | exact rfl) | (apply aops_or32; exact rfl; exact rfl; (first | exact ofInt_toNat _ | exact rfl); first | exact ofInt_toNat _ | exact rfl) | (apply aops_shl32; exact rfl; exact rfl; exact rfl) | (apply aops_shr32; exact rfl; exact rfl; exact rfl))
        | (apply door_load; first | (apply aops_load_pp; exact rfl; exact rfl; exact rfl) | (apply aops_load_mid; exact rfl; exact rfl; exact rfl; exact rfl; exact rfl) | (apply aops_load_loc; exact rfl; exact rfl; exact rfl; exact rfl; exact rfl))
        | (apply door_unOp; first | (apply aops_not_d; exact rfl) | (apply aops_not; exact rfl) | (apply aops_compl32; exact rfl))
        | (apply door_slice; first | (apply aops_upto; exact rfl; exact rfl; exact rfl; first | assumption | omega | (simp; omega)) | (apply aops_from; exact rfl; exact rfl; exact rfl; first | assumption | omega | (simp; omega)) | (apply aops_span; exact rfl; exact rfl; exact rfl; exact rfl; (first | assumption | omega | (simp; omega)); first | assumption | omega | (simp; omega)) | (apply aops_sliceFrom; exact rfl; exact rfl; exact rfl; exact rfl; (first | assumption | omega | exact Nat.succ_le_succ (Nat.zero_le _) | (simp; omega)); exact rfl))
        | (apply door_call; first | (apply aops_lenS; exact rfl; exact rfl; exact rfl) | (apply aops_lenL; exact rfl; exact rfl; exact rfl; exact rfl))
        | (apply door_fieldAddr; first | (apply aops_fieldAddr_bx; exact rfl; exact rfl; exact rfl) | (apply aops_fieldAddr_pp; exact rfl; exact rfl; exact rfl; exact rfl))
        | (apply door_store; first | (apply aops_store_mid; exact rfl; exact rfl; exact rfl; exact rfl; exact rfl; exact rfl; exact rfl; exact rfl; exact rfl; exact rfl; exact rfl) | (apply aops_store_loc; exact rfl; exact rfl; exact rfl; exact rfl; exact rfl; exact rfl; exact rfl; exact rfl; exact rfl; exact rfl; exact rfl))
        | (apply door_ops; first | apply aops_nil | apply aops_move | apply aops_assign | (apply aops_extract; exact rfl; exact rfl) | (apply aops_pick_any; exact rfl; first | (apply pk_dt; (first | assumption | omega)) | (apply pk_df; (first | assumption | omega)) | (apply pk_nt; (first | exact rfl | assumption)) | (apply pk_nf; (first | exact rfl | assumption)) | (apply pk_t; (first | exact rfl | assumption)) | (apply pk_f; (first | exact rfl | assumption))) | (apply aops_makeInterface; exact rfl; exact rfl) | apply aops_makeFunc | (apply aops_alloc; exact rfl; exact rfl) | (apply aops_box; exact rfl; exact rfl; exact rfl; exact rfl) | (apply aops_field; exact rfl; exact rfl; exact rfl) | (apply aops_idx; exact rfl; exact rfl; exact rfl; first | assumption | omega | (simp; omega)) | (apply aops_build; exact rfl; exact rfl; exact rfl) | (apply aops_buildSlice; exact rfl; exact rfl; exact rfl; exact rfl; exact rfl; exact rfl; exact rfl; exact rfl; exact rfl) | (apply aops_nilCheck; exact rfl; exact rfl) | (apply aops_indexA; exact rfl; exact rfl; exact rfl; exact rfl; (first | assumption | omega | decide); exact rfl) | (apply aops_indexAddrA; exact rfl; exact rfl; exact rfl; exact rfl; first | assumption | omega | decide)))
      exact aret_plain rfl (ares_one rfl) ⟨congrArg Bv (sameE_t hab).symm, ext_end _ _ _ _⟩
  · have hab : ¬ a = b := fun e => hl (by rw [e])
    repeat' (first
      | (apply door_awp; first | apply awp_seq | apply awp_block | apply awp_region | (apply awp_cond_any; exact rfl; first | (apply cd_dt; (first | assumption | omega)) | (apply cd_df; (first | assumption | omega)) | (apply cd_nt; (first | exact rfl | assumption)) | (apply cd_nf; (first | exact rfl | assumption)) | (apply cd_n <;> intro h) | (apply cd_t; (first | exact rfl | assumption)) | (apply cd_f; (first | exact rfl | assumption)) | (apply cd_d <;> intro h) | (apply cd_s <;> intro h)) | (apply awp_draw; exact rfl; kernel_rfl) | apply awp_skip | apply awp_exit | apply awp_ret)
      | (apply door_guard; first | (apply aops_guard_any; exact rfl; exact rfl; exact rfl; exact rfl) | (apply aops_guard_undef; exact rfl; exact rfl; exact rfl; exact rfl))
      | (apply door_gd; first | (apply gd_run_d; (first | assumption | omega)) | (apply gd_run_n; (first | assumption | omega)) | (apply gd_skip_d; (first | assumption | omega)) | (apply gd_skip_n; (first | assumption | omega)) | (apply gd_run_nt; (first | exact rfl | assumption)) | (apply gd_run_nf; (first | exact rfl | assumption)) | (apply gd_skip_nt; (first | exact rfl | assumption)) | (apply gd_skip_nf; (first | exact rfl | assumption)) | (apply gd_split_n <;> intro h) | (apply gd_run_t; (first | exact rfl | assumption)) | (apply gd_run_f; (first | exact rfl | assumption)) | (apply gd_skip_t; (first | exact rfl | assumption)) | (apply gd_skip_f; (first | exact rfl | assumption)) | (apply gd_split_d <;> intro h) | (apply gd_split <;> intro h))
      | (apply door_aq; first | apply aq_nil | (apply aq_lenL; exact rfl; exact rfl; exact rfl; exact rfl) | (apply aq_sub; exact rfl; exact rfl; exact wrap_i64 (by omega) (by omega)) | (apply aq_span; exact rfl; exact rfl; exact rfl; exact rfl; (first | assumption | omega | (simp; omega)); first | assumption | omega | (simp; omega)) | (apply aq_load_mid; exact rfl; exact rfl; exact rfl; exact rfl; exact rfl) | (apply aq_concat; exact rfl; exact rfl; (first | omega | (simp only [List.length_append, List.length_cons, List.length_nil]; omega) | (simp; omega))) | (apply aq_load_pp; exact rfl; exact rfl; exact rfl) | (apply aq_load_loc; exact rfl; exact rfl; exact rfl; exact rfl; exact rfl) | (apply aq_fieldAddr_pp; exact rfl; exact rfl; exact rfl; exact rfl) | (apply aq_fieldAddr_bx; exact rfl; exact rfl; exact rfl) | (apply aq_idx; exact rfl; exact rfl; exact rfl; first | assumption | omega | (simp; omega)) | (apply aq_shr4; exact rfl; exact rfl) | (apply aq_and15; exact rfl; exact rfl) | (apply aq_convW; exact rfl; exact rfl; exact rfl; omega) | (apply aq_buildA; exact rfl; exact rfl; exact rfl) | apply aq_move | apply aq_assign | (apply aq_add; exact rfl; exact rfl; exact wrap_i64 (by omega) (by omega)) | (apply aq_lenS; exact rfl; exact rfl; exact rfl) | (apply aq_upto; exact rfl; exact rfl; exact rfl; first | assumption | omega | (simp; omega)) | (apply aq_from; exact rfl; exact rfl; exact rfl; first | assumption | omega | (simp; omega)) | (apply aq_extract; exact rfl; exact rfl))
      | (apply door_binOp; first | (apply aops_cmpI; exact rfl; exact rfl; exact rfl) | (apply aops_cmpS; exact rfl; exact rfl; exact rfl) | (apply aops_concat; exact rfl; exact rfl; (first | omega | (simp only [List.length_append, List.length_cons, List.length_nil]; omega) | (simp; omega))) | (apply aops_add; exact rfl; exact rfl; exact wrap_i64 (by omega) (by omega)) | (apply aops_sub; exact rfl; exact rfl; exact wrap_i64 (by omega) (by omega)) | (apply aops_errNeNil; exact rfl; exact rfl) | (apply aops_nilNeNil; exact rfl; exact rfl) | (apply aops_errEqNil; exact rfl; exact rfl) | (apply aops_nilEqNil; exact rfl; exact rfl) | (apply aops_ptrEqNil; exact rfl; exact rfl; exact rfl) | (apply aops_ptrNeNil; exact rfl; exact rfl; exact rfl) | (apply aops_xor32; exact rfl; exact rfl; (first | exact ofInt_toNat _ | exact rfl); first | exact ofInt_toNat _ | exact rfl) | (apply aops_and32; exact rfl; exact rfl; (first | exact ofInt_toNat _ | exact rfl); first | exact ofInt_toNat _ | exact rfl) | (apply aops_or32; exact rfl; exact rfl; (first | exact ofInt_toNat _ | exact rfl); first | exact ofInt_toNat _ | exact rfl) | (apply aops_shl32; exact rfl; exact rfl; exact rfl) | (apply aops_shr32; exact rfl; exact rfl; exact rfl))
      | (apply door_load; first | (apply aops_load_pp; exact rfl; exact rfl; exact rfl) | (apply aops_load_mid; exact rfl; exact rfl; exact rfl; exact rfl; exact rfl) | (apply aops_load_loc; exact rfl; exact rfl; exact rfl; exact rfl; exact rfl))
      | (apply door_unOp; first | (apply aops_not_d; exact rfl) | (apply aops_not; exact rfl) | (apply aops_compl32; exact rfl))
      | (apply door_slice; first | (apply aops_upto; exact rfl; exact rfl; exact rfl; first | assumption | omega | (simp; omega)) | (apply aops_from; exact rfl; exact rfl; exact rfl; first | assumption | omega | (simp; omega)) | (apply aops_span; exact rfl; exact rfl; exact rfl; exact rfl; (first | assumption | omega | (simp; omega)); first | assumption | omega | (simp; omega)) | (apply aops_sliceFrom; exact rfl; exact rfl; exact rfl; exact rfl; (first | assumption | omega | exact Nat.succ_le_succ (Nat.zero_le _) | (simp; omega)); exact rfl))
      | (apply door_call; first | (apply aops_lenS; exact rfl; exact rfl; exact rfl) | (apply aops_lenL; exact rfl; exact rfl; exact rfl; exact rfl))
      | (apply door_fieldAddr; first | (apply aops_fieldAddr_bx; exact rfl; exact rfl; exact rfl) | (apply aops_fieldAddr_pp; exact rfl; exact rfl; exact rfl; exact rfl))
      | (apply door_store; first | (apply aops_store_mid; exact rfl; exact rfl; exact rfl; exact rfl; exact rfl; exact rfl; exact rfl; exact rfl; exact rfl; exact rfl; exact rfl) | (apply aops_store_loc; exact rfl; exact rfl; exact rfl; exact rfl; exact rfl; exact rfl; exact rfl; exact rfl; exact rfl; exact rfl; exact rfl))
      | (apply door_ops; first | apply aops_nil | apply aops_move | apply aops_assign | (apply aops_extract; exact rfl; exact rfl) | (apply aops_pick_any; exact rfl; first | (apply pk_dt; (first | assumption | omega)) | (apply pk_df; (first | assumption | omega)) | (apply pk_nt; (first | exact rfl | assumption)) | (apply pk_nf; (first | exact rfl | assumption)) | (apply pk_t; (first | exact rfl | assumption)) | (apply pk_f; (first | exact rfl | assumption))) | (apply aops_makeInterface; exact rfl; exact rfl) | apply aops_makeFunc | (apply aops_alloc; exact rfl; exact rfl) | (apply aops_box; exact rfl; exact rfl; exact rfl; exact rfl) | (apply aops_field; exact rfl; exact rfl; exact rfl) | (apply aops_idx; exact rfl; exact rfl; exact rfl; first | assumption | omega | (simp; omega)) | (apply aops_build; exact rfl; exact rfl; exact rfl) | (apply aops_buildSlice; exact rfl; exact rfl; exact rfl; exact rfl; exact rfl; exact rfl; exact rfl; exact rfl; exact rfl) | (apply aops_nilCheck; exact rfl; exact rfl) | (apply aops_indexA; exact rfl; exact rfl; exact rfl; exact rfl; (first | assumption | omega | decide); exact rfl) | (apply aops_indexAddrA; exact rfl; exact rfl; exact rfl; exact rfl; first | assumption | omega | decide)))
    exact aret_plain rfl (ares_one rfl) ⟨congrArg Bv (sameE_f hab).symm, _, rfl⟩
end Go.Proofs.YtplagcbifecagaaGreatDoor
set_option maxRecDepth 100000
set_option linter.unusedVariables false
namespace Go.Av
open Go Go.RowKit
section
variable {E : Env} {rd : Option Nat} {N : Nat} {ops : Array Oper} {K : AS → Prop} {s : AS} {rest : List Oper} {d : Option Tmp} {T : TypeId} {p : String} {af : Array Edge}
theorem aops_max {x y : Operand} {ts : Array TypeId} {a b : Int} (hx : aeval N s x = Iv a) (hy : aeval N s y = Iv b)
    (h : ∀ c : Int, a ≤ c → b ≤ c → (c = a ∨ c = b) → AOps E rd N ops rest K (s.put d (Iv c))) : AOps E rd N ops (⟨d, .call ⟨.builtin .max, #[x, y], ts⟩, T, p, af, none⟩ :: rest) K s :=
  aops_scalar _ rfl nofun (fun a w he => by simp [execOp, resolve, invoke, builtin, Builtin.max_, Builtin.max2, he _ _ hx, he _ _ hy]) (h (if b > a then b else a) (by split <;> omega) (by split <;> omega) (by split <;> simp))
end
end Go.Av
namespace Go.Proofs.YtplagcbifecagaaGreatDoor
open Go Go.Av Go.RowKit Go.Proofs Go.Pl
def lastEnd : Bytes → Nat
  | [] => 0
  | c :: r => if 10 ∈ r then lastEnd r + 1 else if c = 10 then 1 else 0
theorem lastEnd_none : ∀ {l : Bytes}, 10 ∉ l → lastEnd l = 0
  | [], _ => rfl
  | c :: r, h => by
    simp only [List.mem_cons, not_or] at h
    unfold lastEnd
    rw [if_neg h.2, if_neg (fun e => h.1 e.symm)]
theorem lastEnd_at : ∀ {l : Bytes} {k : Nat}, l[k]? = some 10 → 10 ∉ l.drop (k + 1) → lastEnd l = k + 1
  | [], k, h, _ => by simp at h
  | c :: r, 0, h, h2 => by
    simp at h h2
    unfold lastEnd
    rw [if_neg h2, if_pos h]
  | c :: r, k + 1, h, h2 => by
    simp only [List.getElem?_cons_succ] at h
    simp only [List.drop_succ_cons] at h2
    unfold lastEnd
    rw [if_pos (List.mem_of_getElem? h), lastEnd_at h h2]
theorem lastEnd_le : ∀ (l : Bytes), lastEnd l ≤ l.length
  | [] => Nat.le_refl _
  | c :: r => by
    have := lastEnd_le r
    unfold lastEnd
    split
    · simp; omega
    · split <;> simp
theorem notin_drop {l : Bytes} {k : Nat} (hk : k < l.length) (h : 10 ∉ l.drop (k + 1)) (h2 : ¬ ((l.getD k 0).toNat : Int) = 10) : 10 ∉ l.drop k := by
  rw [List.drop_eq_getElem_cons hk]
  intro hm
  rcases List.mem_cons.1 hm with e | hm
  · have : l.getD k 0 = l[k] := by simp [List.getD, hk]
    rw [this, ← e] at h2
    exact h2 rfl
  · exact h hm
theorem lastByte_c (l : Bytes) (st : List AObj) (hl : l.length < 4294967281) : ACall E 99 [Sv l, Uv 10] st fun r st' => r = Iv ((lastEnd l : Int) - 1) ∧ st' = st := by
  refine acall_pure (pure_v _) (acall_of_awp Tryz.func99 rfl (Nat.le_of_ble_eq_true rfl) ?_)
  repeat' (first
    | (apply door_awp; first | apply awp_seq | apply awp_block | apply awp_region | (apply awp_cond_any; exact rfl; first | (apply cd_dt; (first | assumption | omega)) | (apply cd_df; (first | assumption | omega)) | (apply cd_nt; (first | exact rfl | assumption)) | (apply cd_nf; (first | exact rfl | assumption)) | (apply cd_n <;> intro h) | (apply cd_t; (first | exact rfl | assumption)) | (apply cd_f; (first | exact rfl | assumption)) | (apply cd_d <;> intro h) | (apply cd_s <;> intro h)) | (apply awp_draw; exact rfl; kernel_rfl) | apply awp_skip | apply awp_exit | apply awp_ret)
    | (apply door_guard; first | (apply aops_guard_any; exact rfl; exact rfl; exact rfl; exact rfl) | (apply aops_guard_undef; exact rfl; exact rfl; exact rfl; exact rfl))
    | (apply door_gd; first | (apply gd_run_d; (first | assumption | omega)) | (apply gd_run_n; (first | assumption | omega)) | (apply gd_skip_d; (first | assumption | omega)) | (apply gd_skip_n; (first | assumption | omega)) | (apply gd_run_nt; (first | exact rfl | assumption)) | (apply gd_run_nf; (first | exact rfl | assumption)) | (apply gd_skip_nt; (first | exact rfl | assumption)) | (apply gd_skip_nf; (first | exact rfl | assumption)) | (apply gd_split_n <;> intro h) | (apply gd_run_t; (first | exact rfl | assumption)) | (apply gd_run_f; (first | exact rfl | assumption)) | (apply gd_skip_t; (first | exact rfl | assumption)) | (apply gd_skip_f; (first | exact rfl | assumption)) | (apply gd_split_d <;> intro h) | (apply gd_split <;> intro h))
    | (apply door_aq; first | apply aq_nil | (apply aq_lenL; exact rfl; exact rfl; exact rfl; exact rfl) | (apply aq_sub; exact rfl; exact rfl; exact wrap_i64 (by omega) (by omega)) | (apply aq_span; exact rfl; exact rfl; exact rfl; exact rfl; (first | assumption | omega | (simp; omega)); first | assumption | omega | (simp; omega)) | (apply aq_load_mid; exact rfl; exact rfl; exact rfl; exact rfl; exact rfl) | (apply aq_concat; exact rfl; exact rfl; (first | omega | (simp only [List.length_append, List.length_cons, List.length_nil]; omega) | (simp; omega))) | (apply aq_load_pp; exact rfl; exact rfl; exact rfl) | (apply aq_load_loc; exact rfl; exact rfl; exact rfl; exact rfl; exact rfl) | (apply aq_fieldAddr_pp; exact rfl; exact rfl; exact rfl; exact rfl) | (apply aq_fieldAddr_bx; exact rfl; exact rfl; exact rfl) | (apply aq_idx; exact rfl; exact rfl; exact rfl; first | assumption | omega | (simp; omega)) | (apply aq_shr4; exact rfl; exact rfl) | (apply aq_and15; exact rfl; exact rfl) | (apply aq_convW; exact rfl; exact rfl; exact rfl; omega) | (apply aq_buildA; exact rfl; exact rfl; exact rfl) | apply aq_move | apply aq_assign | (apply aq_add; exact rfl; exact rfl; exact wrap_i64 (by omega) (by omega)) | (apply aq_lenS; exact rfl; exact rfl; exact rfl) | (apply aq_upto; exact rfl; exact rfl; exact rfl; first | assumption | omega | (simp; omega)) | (apply aq_from; exact rfl; exact rfl; exact rfl; first | assumption | omega | (simp; omega)) | (apply aq_extract; exact rfl; exact rfl))
    | (apply door_binOp; first | (apply aops_cmpI; exact rfl; exact rfl; exact rfl) | (apply aops_cmpS; exact rfl; exact rfl; exact rfl) | (apply aops_concat; exact rfl; exact rfl; (first | omega | (simp only [List.length_append, List.length_cons, List.length_nil]; omega) | (simp; omega))) | (apply aops_add; exact rfl; exact rfl; exact wrap_i64 (by omega) (by omega)) | (apply aops_sub; exact rfl; exact rfl; exact wrap_i64 (by omega) (by omega)) | (apply aops_errNeNil; exact rfl; exact rfl) | (apply aops_nilNeNil; exact rfl; exact rfl) | (apply aops_errEqNil; exact rfl; exact rfl) | (apply aops_nilEqNil; exact rfl; exact rfl) | (apply aops_ptrEqNil; exact rfl; exact rfl; exact rfl) | (apply aops_ptrNeNil; exact rfl; exact rfl; exact rfl) | (apply aops_xor32; exact rfl; exact rfl; (first | exact ofInt_toNat _ | exact rfl); first | exact ofInt_toNat _ | exact rfl) | (apply aops_and32; exact rfl; exact rfl; (first | exact ofInt_toNat _ | exact rfl); first | exact ofInt_toNat _ | exact rfl) | (apply aops_or32; exact rfl; exact rfl; (first | exact ofInt_toNat _ | exact rfl); first | exact ofInt_toNat _ | exact rfl) | (apply aops_shl32; exact rfl; exact rfl; exact rfl) | (apply aops_shr32; exact rfl; exact rfl; exact rfl))
    | (apply door_load; first | (apply aops_load_pp; exact rfl; exact rfl; exact rfl) | (apply aops_load_mid; exact rfl; exact rfl; exact rfl; exact rfl; exact rfl) | (apply aops_load_loc; exact rfl; exact rfl; exact rfl; exact rfl; exact rfl))
    | (apply door_unOp; first | (apply aops_not_d; exact rfl) | (apply aops_not; exact rfl) | (apply aops_compl32; exact rfl))
    | (apply door_slice; first | (apply aops_upto; exact rfl; exact rfl; exact rfl; first | assumption | omega | (simp; omega)) | (apply aops_from; exact rfl; exact rfl; exact rfl; first | assumption | omega | (simp; omega)) | (apply aops_span; exact rfl; exact rfl; exact rfl; exact rfl; (first | assumption | omega | (simp; omega)); first | assumption | omega | (simp; omega)) | (apply aops_sliceFrom; exact rfl; exact rfl; exact rfl; exact rfl; (first | assumption | omega | exact Nat.succ_le_succ (Nat.zero_le _) | (simp; omega)); exact rfl))
    | (apply door_call; first | (apply aops_lenS; exact rfl; exact rfl; exact rfl) | (apply aops_lenL; exact rfl; exact rfl; exact rfl; exact rfl))
    | (apply door_fieldAddr; first | (apply aops_fieldAddr_bx; exact rfl; exact rfl; exact rfl) | (apply aops_fieldAddr_pp; exact rfl; exact rfl; exact rfl; exact rfl))
    | (apply door_store; first | (apply aops_store_mid; exact rfl; exact rfl; exact rfl; exact rfl; exact rfl; exact rfl; exact rfl; exact rfl; exact rfl; exact rfl; exact rfl) | (apply aops_store_loc; exact rfl; exact rfl; exact rfl; exact rfl; exact rfl; exact rfl; exact rfl; exact rfl; exact rfl; exact rfl; exact rfl))
    | (apply door_ops; first | apply aops_nil | apply aops_move | apply aops_assign | (apply aops_extract; exact rfl; exact rfl) | (apply aops_pick_any; exact rfl; first | (apply pk_dt; (first | assumption | omega)) | (apply pk_df; (first | assumption | omega)) | (apply pk_nt; (first | exact rfl | assumption)) | (apply pk_nf; (first | exact rfl | assumption)) | (apply pk_t; (first | exact rfl | assumption)) | (apply pk_f; (first | exact rfl | assumption))) | (apply aops_makeInterface; exact rfl; exact rfl) | apply aops_makeFunc | (apply aops_alloc; exact rfl; exact rfl) | (apply aops_box; exact rfl; exact rfl; exact rfl; exact rfl) | (apply aops_field; exact rfl; exact rfl; exact rfl) | (apply aops_idx; exact rfl; exact rfl; exact rfl; first | assumption | omega | (simp; omega)) | (apply aops_build; exact rfl; exact rfl; exact rfl) | (apply aops_buildSlice; exact rfl; exact rfl; exact rfl; exact rfl; exact rfl; exact rfl; exact rfl; exact rfl; exact rfl) | (apply aops_nilCheck; exact rfl; exact rfl) | (apply aops_indexA; exact rfl; exact rfl; exact rfl; exact rfl; (first | assumption | omega | decide); exact rfl) | (apply aops_indexAddrA; exact rfl; exact rfl; exact rfl; exact rfl; first | assumption | omega | decide)))
  refine awp_loopG (fun (k : Nat) s => k ≤ l.length ∧ 10 ∉ l.drop k ∧ StE [(0, Sv l), (1, Uv 10), (5, Iv ((k : Int) - 1))] st [] s) (fun k => k) l.length ⟨by omega, by simp, stE_mk0 ⟨rfl, rfl, rfl, trivial⟩ rfl⟩ ?_
  rintro k _ ⟨hk, hn, t, ext, rfl⟩
  rcases Nat.eq_zero_or_pos k with h0 | h0
  · subst h0
    repeat' (first
      | (apply door_awp; first | apply awp_seq | apply awp_block | apply awp_region | (apply awp_cond_any; exact rfl; first | (apply cd_dt; (first | assumption | omega)) | (apply cd_df; (first | assumption | omega)) | (apply cd_nt; (first | exact rfl | assumption)) | (apply cd_nf; (first | exact rfl | assumption)) | (apply cd_n <;> intro h) | (apply cd_t; (first | exact rfl | assumption)) | (apply cd_f; (first | exact rfl | assumption)) | (apply cd_d <;> intro h) | (apply cd_s <;> intro h)) | (apply awp_draw; exact rfl; kernel_rfl) | apply awp_skip | apply awp_exit | apply awp_ret)
      | (apply door_guard; first | (apply aops_guard_any; exact rfl; exact rfl; exact rfl; exact rfl) | (apply aops_guard_undef; exact rfl; exact rfl; exact rfl; exact rfl))
      | (apply door_gd; first | (apply gd_run_d; (first | assumption | omega)) | (apply gd_run_n; (first | assumption | omega)) | (apply gd_skip_d; (first | assumption | omega)) | (apply gd_skip_n; (first | assumption | omega)) | (apply gd_run_nt; (first | exact rfl | assumption)) | (apply gd_run_nf; (first | exact rfl | assumption)) | (apply gd_skip_nt; (first | exact rfl | assumption)) | (apply gd_skip_nf; (first | exact rfl | assumption)) | (apply gd_split_n <;> intro h) | (apply gd_run_t; (first | exact rfl | assumption)) | (apply gd_run_f; (first | exact rfl | assumption)) | (apply gd_skip_t; (first | exact rfl | assumption)) | (apply gd_skip_f; (first | exact rfl | assumption)) | (apply gd_split_d <;> intro h) | (apply gd_split <;> intro h))
      | (apply door_aq; first | apply aq_nil | (apply aq_lenL; exact rfl; exact rfl; exact rfl; exact rfl) | (apply aq_sub; exact rfl; exact rfl; exact wrap_i64 (by omega) (by omega)) | (apply aq_span; exact rfl; exact rfl; exact rfl; exact rfl; (first | assumption | omega | (simp; omega)); first | assumption | omega | (simp; omega)) | (apply aq_load_mid; exact rfl; exact rfl; exact rfl; exact rfl; exact rfl) | (apply aq_concat; exact rfl; exact rfl; (first | omega | (simp only [List.length_append, List.length_cons, List.length_nil]; omega) | (simp; omega))) | (apply aq_load_pp; exact rfl; exact rfl; exact rfl) | (apply aq_load_loc; exact rfl; exact rfl; exact rfl; exact rfl; exact rfl) | (apply aq_fieldAddr_pp; exact rfl; exact rfl; exact rfl; exact rfl) | (apply aq_fieldAddr_bx; exact rfl; exact rfl; exact rfl) | (apply aq_idx; exact rfl; exact rfl; exact rfl; first | assumption | omega | (simp; omega)) | (apply aq_shr4; exact rfl; exact rfl) | (apply aq_and15; exact rfl; exact rfl) | (apply aq_convW; exact rfl; exact rfl; exact rfl; omega) | (apply aq_buildA; exact rfl; exact rfl; exact rfl) | apply aq_move | apply aq_assign | (apply aq_add; exact rfl; exact rfl; exact wrap_i64 (by omega) (by omega)) | (apply aq_lenS; exact rfl; exact rfl; exact rfl) | (apply aq_upto; exact rfl; exact rfl; exact rfl; first | assumption | omega | (simp; omega)) | (apply aq_from; exact rfl; exact rfl; exact rfl; first | assumption | omega | (simp; omega)) | (apply aq_extract; exact rfl; exact rfl))
      | (apply door_binOp; first | (apply aops_cmpI; exact rfl; exact rfl; exact rfl) | (apply aops_cmpS; exact rfl; exact rfl; exact rfl) | (apply aops_concat; exact rfl; exact rfl; (first | omega | (simp only [List.length_append, List.length_cons, List.length_nil]; omega) | (simp; omega))) | (apply aops_add; exact rfl; exact rfl; exact wrap_i64 (by omega) (by omega)) | (apply aops_sub; exact rfl; exact rfl; exact wrap_i64 (by omega) (by omega)) | (apply aops_errNeNil; exact rfl; exact rfl) | (apply aops_nilNeNil; exact rfl; exact rfl) | (apply aops_errEqNil; exact rfl; exact rfl) | (apply aops_nilEqNil; exact rfl; exact rfl) | (apply aops_ptrEqNil; exact rfl; exact rfl; exact rfl) | (apply aops_ptrNeNil; exact rfl; exact rfl; exact rfl) | (apply aops_xor32; exact rfl; exact rfl; (first | exact ofInt_toNat _ | exact rfl); first | exact ofInt_toNat _ | exact rfl) | (apply aops_and32; exact rfl; exact rfl; (first | exact ofInt_toNat _ | exact rfl); first | exact ofInt_toNat _ | exact rfl) | (apply aops_or32; exact rfl; exact rfl; (first | exact ofInt_toNat _ | exact rfl); first | exact ofInt_toNat _ | exact rfl) | (apply aops_shl32; exact rfl; exact rfl; exact rfl) | (apply aops_shr32; exact rfl; exact rfl; exact rfl))
      | (apply door_load; first | (apply aops_load_pp; exact rfl; exact rfl; exact rfl) | (apply aops_load_mid; exact rfl; exact rfl; exact rfl; exact rfl; exact rfl) | (apply aops_load_loc; exact rfl; exact rfl; exact rfl; exact rfl; exact rfl))
      | (apply door_unOp; first | (apply aops_not_d; exact rfl) | (apply aops_not; exact rfl) | (apply aops_compl32; exact rfl))
      | (apply door_slice; first | (apply aops_upto; exact rfl; exact rfl; exact rfl; first | assumption | omega | (simp; omega)) | (apply aops_from; exact rfl; exact rfl; exact rfl; first | assumption | omega | (simp; omega)) | (apply aops_span; exact rfl; exact rfl; exact rfl; exact rfl; (first | assumption | omega | (simp; omega)); first | assumption | omega | (simp; omega)) | (apply aops_sliceFrom; exact rfl; exact rfl; exact rfl; exact rfl; (first | assumption | omega | exact Nat.succ_le_succ (Nat.zero_le _) | (simp; omega)); exact rfl))
      | (apply door_call; first | (apply aops_lenS; exact rfl; exact rfl; exact rfl) | (apply aops_lenL; exact rfl; exact rfl; exact rfl; exact rfl))
      | (apply door_fieldAddr; first | (apply aops_fieldAddr_bx; exact rfl; exact rfl; exact rfl) | (apply aops_fieldAddr_pp; exact rfl; exact rfl; exact rfl; exact rfl))
      | (apply door_store; first | (apply aops_store_mid; exact rfl; exact rfl; exact rfl; exact rfl; exact rfl; exact rfl; exact rfl; exact rfl; exact rfl; exact rfl; exact rfl) | (apply aops_store_loc; exact rfl; exact rfl; exact rfl; exact rfl; exact rfl; exact rfl; exact rfl; exact rfl; exact rfl; exact rfl; exact rfl))
      | (apply door_ops; first | apply aops_nil | apply aops_move | apply aops_assign | (apply aops_extract; exact rfl; exact rfl) | (apply aops_pick_any; exact rfl; first | (apply pk_dt; (first | assumption | omega)) | (apply pk_df; (first | assumption | omega)) | (apply pk_nt; (first | exact rfl | assumption)) | (apply pk_nf; (first | exact rfl | assumption)) | (apply pk_t; (first | exact rfl | assumption)) | (apply pk_f; (first | exact rfl | assumption))) | (apply aops_makeInterface; exact rfl; exact rfl) | apply aops_makeFunc | (apply aops_alloc; exact rfl; exact rfl) | (apply aops_box; exact rfl; exact rfl; exact rfl; exact rfl) | (apply aops_field; exact rfl; exact rfl; exact rfl) | (apply aops_idx; exact rfl; exact rfl; exact rfl; first | assumption | omega | (simp; omega)) | (apply aops_build; exact rfl; exact rfl; exact rfl) | (apply aops_buildSlice; exact rfl; exact rfl; exact rfl; exact rfl; exact rfl; exact rfl; exact rfl; exact rfl; exact rfl) | (apply aops_nilCheck; exact rfl; exact rfl) | (apply aops_indexA; exact rfl; exact rfl; exact rfl; exact rfl; (first | assumption | omega | decide); exact rfl) | (apply aops_indexAddrA; exact rfl; exact rfl; exact rfl; exact rfl; first | assumption | omega | decide)))
    exact aret_plain rfl (ares_one rfl) ⟨congrArg Iv (by rw [lastEnd_none (by simpa using hn)]; rfl), ext_end _ _ _ _⟩
  · obtain ⟨k, rfl⟩ : ∃ j, k = j + 1 := ⟨k - 1, by omega⟩
    by_cases h10 : ((l.getD k 0).toNat : Int) = 10
    · have hat := lastEnd_at (get_of_D (c := 10) (by omega) h10) hn
      repeat' (first
        | (apply door_awp; first | apply awp_seq | apply awp_block | apply awp_region | (apply awp_cond_any; exact rfl; first | (apply cd_dt; (first | assumption | omega)) | (apply cd_df; (first | assumption | omega)) | (apply cd_nt; (first | exact rfl | assumption)) | (apply cd_nf; (first | exact rfl | assumption)) | (apply cd_n <;> intro h) | (apply cd_t; (first | exact rfl | assumption)) | (apply cd_f; (first | exact rfl | assumption)) | (apply cd_d <;> intro h) | (apply cd_s <;> intro h)) | (apply awp_draw; exact rfl; kernel_rfl) | apply awp_skip | apply awp_exit | apply awp_ret)
        | (apply door_guard; first | (apply aops_guard_any; exact rfl; exact rfl; exact rfl; exact rfl) | (apply aops_guard_undef; exact rfl; exact rfl; exact rfl; exact rfl))
        | (apply door_gd; first | (apply gd_run_d; (first | assumption | omega)) | (apply gd_run_n; (first | assumption | omega)) | (apply gd_skip_d; (first | assumption | omega)) | (apply gd_skip_n; (first | assumption | omega)) | (apply gd_run_nt; (first | exact rfl | assumption)) | (apply gd_run_nf; (first | exact rfl | assumption)) | (apply gd_skip_nt; (first | exact rfl | assumption)) | (apply gd_skip_nf; (first | exact rfl | assumption)) | (apply gd_split_n <;> intro h) | (apply gd_run_t; (first | exact rfl | assumption)) | (apply gd_run_f; (first | exact rfl | assumption)) | (apply gd_skip_t; (first | exact rfl | assumption)) | (apply gd_skip_f; (first | exact rfl | assumption)) | (apply gd_split_d <;> intro h) | (apply gd_split <;> intro h))
        | (apply door_aq; first | apply aq_nil | (apply aq_lenL; exact rfl; exact rfl; exact rfl; exact rfl) | (apply aq_sub; exact rfl; exact rfl; exact wrap_i64 (by omega) (by omega)) | (apply aq_span; exact rfl; exact rfl; exact rfl; exact rfl; (first | assumption | omega | (simp; omega)); first | assumption | omega | (simp; omega)) | (apply aq_load_mid; exact rfl; exact rfl; exact rfl; exact rfl; exact rfl) | (apply aq_concat; exact rfl; exact rfl; (first | omega | (simp only [List.length_append, List.length_cons, List.length_nil]; omega) | (simp; omega))) | (apply aq_load_pp; exact rfl; exact rfl; exact rfl) | (apply aq_load_loc; exact rfl; exact rfl; exact rfl; exact rfl; exact rfl) | (apply aq_fieldAddr_pp; exact rfl; exact rfl; exact rfl; exact rfl) | (apply aq_fieldAddr_bx; exact rfl; exact rfl; exact rfl) | (apply aq_idx; exact rfl; exact rfl; exact rfl; first | assumption | omega | (simp; omega)) | (apply aq_shr4; exact rfl; exact rfl) | (apply aq_and15; exact rfl; exact rfl) | (apply aq_convW; exact rfl; exact rfl; exact rfl; omega) | (apply aq_buildA; exact rfl; exact rfl; exact rfl) | apply aq_move | apply aq_assign | (apply aq_add; exact rfl; exact rfl; exact wrap_i64 (by omega) (by omega)) | (apply aq_lenS; exact rfl; exact rfl; exact rfl) | (apply aq_upto; exact rfl; exact rfl; exact rfl; first | assumption | omega | (simp; omega)) | (apply aq_from; exact rfl; exact rfl; exact rfl; first | assumption | omega | (simp; omega)) | (apply aq_extract; exact rfl; exact rfl))
        | (apply door_binOp; first | (apply aops_cmpI; exact rfl; exact rfl; exact rfl) | (apply aops_cmpS; exact rfl; exact rfl; exact rfl) | (apply aops_concat; exact rfl; exact rfl; (first | omega | (simp only [List.length_append, List.length_cons, List.length_nil]; omega) | (simp; omega))) | (apply aops_add; exact rfl; exact rfl; exact wrap_i64 (by omega) (by omega)) | (apply aops_sub; exact rfl; exact rfl; exact wrap_i64 (by omega) (by omega)) | (apply aops_errNeNil; exact rfl; exact rfl) | (apply aops_nilNeNil; exact rfl; exact rfl) | (apply aops_errEqNil; exact rfl; exact rfl) | (apply aops_nilEqNil; exact rfl; exact rfl) | (apply aops_ptrEqNil; exact rfl; exact rfl; exact rfl) | (apply aops_ptrNeNil; exact rfl; exact rfl; exact rfl) | (apply aops_xor32; exact rfl; exact rfl; (first | exact ofInt_toNat _ | exact rfl); first | exact ofInt_toNat _ | exact rfl) | (apply aops_and32; exact rfl; exact rfl; (first | exact ofInt_toNat _ | exact rfl); first | exact ofInt_toNat _ | exact rfl) | (apply aops_or32; exact rfl; exact rfl; (first | exact ofInt_toNat _ | exact rfl); first | exact ofInt_toNat _ | exact rfl) | (apply aops_shl32; exact rfl; exact rfl; exact rfl) | (apply aops_shr32; exact rfl; exact rfl; exact rfl))
        | (apply door_load; first | (apply aops_load_pp; exact rfl; exact rfl; exact rfl) | (apply aops_load_mid; exact rfl; exact rfl; exact rfl; exact rfl; exact rfl) | (apply aops_load_loc; exact rfl; exact rfl; exact rfl; exact rfl; exact rfl))
        | (apply door_unOp; first | (apply aops_not_d; exact rfl) | (apply aops_not; exact rfl) | (apply aops_compl32; exact rfl))
        | (apply door_slice; first | (apply aops_upto; exact rfl; exact rfl; exact rfl; first | assumption | omega | (simp; omega)) | (apply aops_from; exact rfl; exact rfl; exact rfl; first | assumption | omega | (simp; omega)) | (apply aops_span; exact rfl; exact rfl; exact rfl; exact rfl; (first | assumption | omega | (simp; omega)); first | assumption | omega | (simp; omega)) | (apply aops_sliceFrom; exact rfl; exact rfl; exact rfl; exact rfl; (first | assumption | omega | exact Nat.succ_le_succ (Nat.zero_le _) | (simp; omega)); exact rfl))
        | (apply door_call; first | (apply aops_lenS; exact rfl; exact rfl; exact rfl) | (apply aops_lenL; exact rfl; exact rfl; exact rfl; exact rfl))
        | (apply door_fieldAddr; first | (apply aops_fieldAddr_bx; exact rfl; exact rfl; exact rfl) | (apply aops_fieldAddr_pp; exact rfl; exact rfl; exact rfl; exact rfl))
        | (apply door_store; first | (apply aops_store_mid; exact rfl; exact rfl; exact rfl; exact rfl; exact rfl; exact rfl; exact rfl; exact rfl; exact rfl; exact rfl; exact rfl) | (apply aops_store_loc; exact rfl; exact rfl; exact rfl; exact rfl; exact rfl; exact rfl; exact rfl; exact rfl; exact rfl; exact rfl; exact rfl))
        | (apply door_ops; first | apply aops_nil | apply aops_move | apply aops_assign | (apply aops_extract; exact rfl; exact rfl) | (apply aops_pick_any; exact rfl; first | (apply pk_dt; (first | assumption | omega)) | (apply pk_df; (first | assumption | omega)) | (apply pk_nt; (first | exact rfl | assumption)) | (apply pk_nf; (first | exact rfl | assumption)) | (apply pk_t; (first | exact rfl | assumption)) | (apply pk_f; (first | exact rfl | assumption))) | (apply aops_makeInterface; exact rfl; exact rfl) | apply aops_makeFunc | (apply aops_alloc; exact rfl; exact rfl) | (apply aops_box; exact rfl; exact rfl; exact rfl; exact rfl) | (apply aops_field; exact rfl; exact rfl; exact rfl) | (apply aops_idx; exact rfl; exact rfl; exact rfl; first | assumption | omega | (simp; omega)) | (apply aops_build; exact rfl; exact rfl; exact rfl) | (apply aops_buildSlice; exact rfl; exact rfl; exact rfl; exact rfl; exact rfl; exact rfl; exact rfl; exact rfl; exact rfl) | (apply aops_nilCheck; exact rfl; exact rfl) | (apply aops_indexA; exact rfl; exact rfl; exact rfl; exact rfl; (first | assumption | omega | decide); exact rfl) | (apply aops_indexAddrA; exact rfl; exact rfl; exact rfl; exact rfl; first | assumption | omega | decide))
        | (apply aops_idx (n := k); exact rfl; exact (congrArg Iv (by omega)); exact rfl; omega))
      exact aret_plain rfl (ares_one rfl) ⟨congrArg Iv (by rw [hat]), ext_end _ _ _ _⟩
    · skip
      repeat' (first
        | (apply door_awp; first | apply awp_seq | apply awp_block | apply awp_region | (apply awp_cond_any; exact rfl; first | (apply cd_dt; (first | assumption | omega)) | (apply cd_df; (first | assumption | omega)) | (apply cd_nt; (first | exact rfl | assumption)) | (apply cd_nf; (first | exact rfl | assumption)) | (apply cd_n <;> intro h) | (apply cd_t; (first | exact rfl | assumption)) | (apply cd_f; (first | exact rfl | assumption)) | (apply cd_d <;> intro h) | (apply cd_s <;> intro h)) | (apply awp_draw; exact rfl; kernel_rfl) | apply awp_skip | apply awp_exit | apply awp_ret)
        | (apply door_guard; first | (apply aops_guard_any; exact rfl; exact rfl; exact rfl; exact rfl) | (apply aops_guard_undef; exact rfl; exact rfl; exact rfl; exact rfl))
        | (apply door_gd; first | (apply gd_run_d; (first | assumption | omega)) | (apply gd_run_n; (first | assumption | omega)) | (apply gd_skip_d; (first | assumption | omega)) | (apply gd_skip_n; (first | assumption | omega)) | (apply gd_run_nt; (first | exact rfl | assumption)) | (apply gd_run_nf; (first | exact rfl | assumption)) | (apply gd_skip_nt; (first | exact rfl | assumption)) | (apply gd_skip_nf; (first | exact rfl | assumption)) | (apply gd_split_n <;> intro h) | (apply gd_run_t; (first | exact rfl | assumption)) | (apply gd_run_f; (first | exact rfl | assumption)) | (apply gd_skip_t; (first | exact rfl | assumption)) | (apply gd_skip_f; (first | exact rfl | assumption)) | (apply gd_split_d <;> intro h) | (apply gd_split <;> intro h))
        | (apply door_aq; first | apply aq_nil | (apply aq_lenL; exact rfl; exact rfl; exact rfl; exact rfl) | (apply aq_sub; exact rfl; exact rfl; exact wrap_i64 (by omega) (by omega)) | (apply aq_span; exact rfl; exact rfl; exact rfl; exact rfl; (first | assumption | omega | (simp; omega)); first | assumption | omega | (simp; omega)) | (apply aq_load_mid; exact rfl; exact rfl; exact rfl; exact rfl; exact rfl) | (apply aq_concat; exact rfl; exact rfl; (first | omega | (simp only [List.length_append, List.length_cons, List.length_nil]; omega) | (simp; omega))) | (apply aq_load_pp; exact rfl; exact rfl; exact rfl) | (apply aq_load_loc; exact rfl; exact rfl; exact rfl; exact rfl; exact rfl) | (apply aq_fieldAddr_pp; exact rfl; exact rfl; exact rfl; exact rfl) | (apply aq_fieldAddr_bx; exact rfl; exact rfl; exact rfl) | (apply aq_idx; exact rfl; exact rfl; exact rfl; first | assumption | omega | (simp; omega)) | (apply aq_shr4; exact rfl; exact rfl) | (apply aq_and15; exact rfl; exact rfl) | (apply aq_convW; exact rfl; exact rfl; exact rfl; omega) | (apply aq_buildA; exact rfl; exact rfl; exact rfl) | apply aq_move | apply aq_assign | (apply aq_add; exact rfl; exact rfl; exact wrap_i64 (by omega) (by omega)) | (apply aq_lenS; exact rfl; exact rfl; exact rfl) | (apply aq_upto; exact rfl; exact rfl; exact rfl; first | assumption | omega | (simp; omega)) | (apply aq_from; exact rfl; exact rfl; exact rfl; first | assumption | omega | (simp; omega)) | (apply aq_extract; exact rfl; exact rfl))
        | (apply door_binOp; first | (apply aops_cmpI; exact rfl; exact rfl; exact rfl) | (apply aops_cmpS; exact rfl; exact rfl; exact rfl) | (apply aops_concat; exact rfl; exact rfl; (first | omega | (simp only [List.length_append, List.length_cons, List.length_nil]; omega) | (simp; omega))) | (apply aops_add; exact rfl; exact rfl; exact wrap_i64 (by omega) (by omega)) | (apply aops_sub; exact rfl; exact rfl; exact wrap_i64 (by omega) (by omega)) | (apply aops_errNeNil; exact rfl; exact rfl) | (apply aops_nilNeNil; exact rfl; exact rfl) | (apply aops_errEqNil; exact rfl; exact rfl) | (apply aops_nilEqNil; exact rfl; exact rfl) | (apply aops_ptrEqNil; exact rfl; exact rfl; exact rfl) | (apply aops_ptrNeNil; exact rfl; exact rfl; exact rfl) | (apply aops_xor32; exact rfl; exact rfl; (first | exact ofInt_toNat _ | exact rfl); first | exact ofInt_toNat _ | exact rfl) | (apply aops_and32; exact rfl; exact rfl; (first | exact ofInt_toNat _ | exact rfl); first | exact ofInt_toNat _ | exact rfl) | (apply aops_or32; exact rfl; exact rfl; (first | exact ofInt_toNat _ | exact rfl); first | exact ofInt_toNat _ | exact rfl) | (apply aops_shl32; exact rfl; exact rfl; exact rfl) | (apply aops_shr32; exact rfl; exact rfl; exact rfl))
        | (apply door_load; first | (apply aops_load_pp; exact rfl; exact rfl; exact rfl) | (apply aops_load_mid; exact rfl; exact rfl; exact rfl; exact rfl; exact rfl) | (apply aops_load_loc; exact rfl; exact rfl; exact rfl; exact rfl; exact rfl))
        | (apply door_unOp; first | (apply aops_not_d; exact rfl) | (apply aops_not; exact rfl) | (apply aops_compl32; exact rfl))
        | (apply door_slice; first | (apply aops_upto; exact rfl; exact rfl; exact rfl; first | assumption | omega | (simp; omega)) | (apply aops_from; exact rfl; exact rfl; exact rfl; first | assumption | omega | (simp; omega)) | (apply aops_span; exact rfl; exact rfl; exact rfl; exact rfl; (first | assumption | omega | (simp; omega)); first | assumption | omega | (simp; omega)) | (apply aops_sliceFrom; exact rfl; exact rfl; exact rfl; exact rfl; (first | assumption | omega | exact Nat.succ_le_succ (Nat.zero_le _) | (simp; omega)); exact rfl))
        | (apply door_call; first | (apply aops_lenS; exact rfl; exact rfl; exact rfl) | (apply aops_lenL; exact rfl; exact rfl; exact rfl; exact rfl))
        | (apply door_fieldAddr; first | (apply aops_fieldAddr_bx; exact rfl; exact rfl; exact rfl) | (apply aops_fieldAddr_pp; exact rfl; exact rfl; exact rfl; exact rfl))
        | (apply door_store; first | (apply aops_store_mid; exact rfl; exact rfl; exact rfl; exact rfl; exact rfl; exact rfl; exact rfl; exact rfl; exact rfl; exact rfl; exact rfl) | (apply aops_store_loc; exact rfl; exact rfl; exact rfl; exact rfl; exact rfl; exact rfl; exact rfl; exact rfl; exact rfl; exact rfl; exact rfl))
        | (apply door_ops; first | apply aops_nil | apply aops_move | apply aops_assign | (apply aops_extract; exact rfl; exact rfl) | (apply aops_pick_any; exact rfl; first | (apply pk_dt; (first | assumption | omega)) | (apply pk_df; (first | assumption | omega)) | (apply pk_nt; (first | exact rfl | assumption)) | (apply pk_nf; (first | exact rfl | assumption)) | (apply pk_t; (first | exact rfl | assumption)) | (apply pk_f; (first | exact rfl | assumption))) | (apply aops_makeInterface; exact rfl; exact rfl) | apply aops_makeFunc | (apply aops_alloc; exact rfl; exact rfl) | (apply aops_box; exact rfl; exact rfl; exact rfl; exact rfl) | (apply aops_field; exact rfl; exact rfl; exact rfl) | (apply aops_idx; exact rfl; exact rfl; exact rfl; first | assumption | omega | (simp; omega)) | (apply aops_build; exact rfl; exact rfl; exact rfl) | (apply aops_buildSlice; exact rfl; exact rfl; exact rfl; exact rfl; exact rfl; exact rfl; exact rfl; exact rfl; exact rfl) | (apply aops_nilCheck; exact rfl; exact rfl) | (apply aops_indexA; exact rfl; exact rfl; exact rfl; exact rfl; (first | assumption | omega | decide); exact rfl) | (apply aops_indexAddrA; exact rfl; exact rfl; exact rfl; exact rfl; first | assumption | omega | decide))
        | (apply aops_idx (n := k); exact rfl; exact (congrArg Iv (by omega)); exact rfl; omega))
      exact ⟨k, ⟨by omega, notin_drop (by omega) hn h10, stE_mk ⟨rfl, rfl, congrArg Iv (by omega), trivial⟩ rfl⟩, by omega⟩
theorem lastIndex10_c (l : Bytes) (st : List AObj) (hl : l.length < 4294967281) : ACall E 68 [Sv l, Sv [10]] st fun r st' => r = Iv ((lastEnd l : Int) - 1) ∧ st' = st := by
  refine acall_pure (pure_v _) (acall_of_awp Tryz.func68 rfl (Nat.le_of_ble_eq_true rfl) ?_)
  repeat' (first
    | (apply door_awp; first | apply awp_seq | apply awp_block | apply awp_region | (apply awp_cond_any; exact rfl; first | (apply cd_dt; (first | assumption | omega)) | (apply cd_df; (first | assumption | omega)) | (apply cd_nt; (first | exact rfl | assumption)) | (apply cd_nf; (first | exact rfl | assumption)) | (apply cd_n <;> intro h) | (apply cd_t; (first | exact rfl | assumption)) | (apply cd_f; (first | exact rfl | assumption)) | (apply cd_d <;> intro h) | (apply cd_s <;> intro h)) | (apply awp_draw; exact rfl; kernel_rfl) | apply awp_skip | apply awp_exit | apply awp_ret)
    | (apply door_guard; first | (apply aops_guard_any; exact rfl; exact rfl; exact rfl; exact rfl) | (apply aops_guard_undef; exact rfl; exact rfl; exact rfl; exact rfl))
    | (apply door_gd; first | (apply gd_run_d; (first | assumption | omega)) | (apply gd_run_n; (first | assumption | omega)) | (apply gd_skip_d; (first | assumption | omega)) | (apply gd_skip_n; (first | assumption | omega)) | (apply gd_run_nt; (first | exact rfl | assumption)) | (apply gd_run_nf; (first | exact rfl | assumption)) | (apply gd_skip_nt; (first | exact rfl | assumption)) | (apply gd_skip_nf; (first | exact rfl | assumption)) | (apply gd_split_n <;> intro h) | (apply gd_run_t; (first | exact rfl | assumption)) | (apply gd_run_f; (first | exact rfl | assumption)) | (apply gd_skip_t; (first | exact rfl | assumption)) | (apply gd_skip_f; (first | exact rfl | assumption)) | (apply gd_split_d <;> intro h) | (apply gd_split <;> intro h))
    | (apply door_aq; first | apply aq_nil | (apply aq_lenL; exact rfl; exact rfl; exact rfl; exact rfl) | (apply aq_sub; exact rfl; exact rfl; exact wrap_i64 (by omega) (by omega)) | (apply aq_span; exact rfl; exact rfl; exact rfl; exact rfl; (first | assumption | omega | (simp; omega)); first | assumption | omega | (simp; omega)) | (apply aq_load_mid; exact rfl; exact rfl; exact rfl; exact rfl; exact rfl) | (apply aq_concat; exact rfl; exact rfl; (first | omega | (simp only [List.length_append, List.length_cons, List.length_nil]; omega) | (simp; omega))) | (apply aq_load_pp; exact rfl; exact rfl; exact rfl) | (apply aq_load_loc; exact rfl; exact rfl; exact rfl; exact rfl; exact rfl) | (apply aq_fieldAddr_pp; exact rfl; exact rfl; exact rfl; exact rfl) | (apply aq_fieldAddr_bx; exact rfl; exact rfl; exact rfl) | (apply aq_idx; exact rfl; exact rfl; exact rfl; first | assumption | omega | (simp; omega)) | (apply aq_shr4; exact rfl; exact rfl) | (apply aq_and15; exact rfl; exact rfl) | (apply aq_convW; exact rfl; exact rfl; exact rfl; omega) | (apply aq_buildA; exact rfl; exact rfl; exact rfl) | apply aq_move | apply aq_assign | (apply aq_add; exact rfl; exact rfl; exact wrap_i64 (by omega) (by omega)) | (apply aq_lenS; exact rfl; exact rfl; exact rfl) | (apply aq_upto; exact rfl; exact rfl; exact rfl; first | assumption | omega | (simp; omega)) | (apply aq_from; exact rfl; exact rfl; exact rfl; first | assumption | omega | (simp; omega)) | (apply aq_extract; exact rfl; exact rfl))
    | (apply door_binOp; first | (apply aops_cmpI; exact rfl; exact rfl; exact rfl) | (apply aops_cmpS; exact rfl; exact rfl; exact rfl) | (apply aops_concat; exact rfl; exact rfl; (first | omega | (simp only [List.length_append, List.length_cons, List.length_nil]; omega) | (simp; omega))) | (apply aops_add; exact rfl; exact rfl; exact wrap_i64 (by omega) (by omega)) | (apply aops_sub; exact rfl; exact rfl; exact wrap_i64 (by omega) (by omega)) | (apply aops_errNeNil; exact rfl; exact rfl) | (apply aops_nilNeNil; exact rfl; exact rfl) | (apply aops_errEqNil; exact rfl; exact rfl) | (apply aops_nilEqNil; exact rfl; exact rfl) | (apply aops_ptrEqNil; exact rfl; exact rfl; exact rfl) | (apply aops_ptrNeNil; exact rfl; exact rfl; exact rfl) | (apply aops_xor32; exact rfl; exact rfl; (first | exact ofInt_toNat _ | exact rfl); first | exact ofInt_toNat _ | exact rfl) | (apply aops_and32; exact rfl; exact rfl; (first | exact ofInt_toNat _ | exact rfl); first | exact ofInt_toNat _ | exact rfl) | (apply aops_or32; exact rfl; exact rfl; (first | exact ofInt_toNat _ | exact rfl); first | exact ofInt_toNat _ | exact rfl) | (apply aops_shl32; exact rfl; exact rfl; exact rfl) | (apply aops_shr32; exact rfl; exact rfl; exact rfl))
    | (apply door_load; first | (apply aops_load_pp; exact rfl; exact rfl; exact rfl) | (apply aops_load_mid; exact rfl; exact rfl; exact rfl; exact rfl; exact rfl) | (apply aops_load_loc; exact rfl; exact rfl; exact rfl; exact rfl; exact rfl))
    | (apply door_unOp; first | (apply aops_not_d; exact rfl) | (apply aops_not; exact rfl) | (apply aops_compl32; exact rfl))
    | (apply door_slice; first | (apply aops_upto; exact rfl; exact rfl; exact rfl; first | assumption | omega | (simp; omega)) | (apply aops_from; exact rfl; exact rfl; exact rfl; first | assumption | omega | (simp; omega)) | (apply aops_span; exact rfl; exact rfl; exact rfl; exact rfl; (first | assumption | omega | (simp; omega)); first | assumption | omega | (simp; omega)) | (apply aops_sliceFrom; exact rfl; exact rfl; exact rfl; exact rfl; (first | assumption | omega | exact Nat.succ_le_succ (Nat.zero_le _) | (simp; omega)); exact rfl))
    | (apply door_call; first | (apply aops_lenS; exact rfl; exact rfl; exact rfl) | (apply aops_lenL; exact rfl; exact rfl; exact rfl; exact rfl))
    | (apply door_fieldAddr; first | (apply aops_fieldAddr_bx; exact rfl; exact rfl; exact rfl) | (apply aops_fieldAddr_pp; exact rfl; exact rfl; exact rfl; exact rfl))
    | (apply door_store; first | (apply aops_store_mid; exact rfl; exact rfl; exact rfl; exact rfl; exact rfl; exact rfl; exact rfl; exact rfl; exact rfl; exact rfl; exact rfl) | (apply aops_store_loc; exact rfl; exact rfl; exact rfl; exact rfl; exact rfl; exact rfl; exact rfl; exact rfl; exact rfl; exact rfl; exact rfl))
    | (apply door_ops; first | apply aops_nil | apply aops_move | apply aops_assign | (apply aops_extract; exact rfl; exact rfl) | (apply aops_pick_any; exact rfl; first | (apply pk_dt; (first | assumption | omega)) | (apply pk_df; (first | assumption | omega)) | (apply pk_nt; (first | exact rfl | assumption)) | (apply pk_nf; (first | exact rfl | assumption)) | (apply pk_t; (first | exact rfl | assumption)) | (apply pk_f; (first | exact rfl | assumption))) | (apply aops_makeInterface; exact rfl; exact rfl) | apply aops_makeFunc | (apply aops_alloc; exact rfl; exact rfl) | (apply aops_box; exact rfl; exact rfl; exact rfl; exact rfl) | (apply aops_field; exact rfl; exact rfl; exact rfl) | (apply aops_idx; exact rfl; exact rfl; exact rfl; first | assumption | omega | (simp; omega)) | (apply aops_build; exact rfl; exact rfl; exact rfl) | (apply aops_buildSlice; exact rfl; exact rfl; exact rfl; exact rfl; exact rfl; exact rfl; exact rfl; exact rfl; exact rfl) | (apply aops_nilCheck; exact rfl; exact rfl) | (apply aops_indexA; exact rfl; exact rfl; exact rfl; exact rfl; (first | assumption | omega | decide); exact rfl) | (apply aops_indexAddrA; exact rfl; exact rfl; exact rfl; exact rfl; first | assumption | omega | decide))
    | (apply aops_idx (n := 0); exact rfl; exact rfl; exact rfl; exact Nat.zero_lt_one)
    | (apply aops_call1; exact Tryz.call99; exact lastByte_c _ _ hl))
  exact aret_plain rfl (ares_one rfl) ⟨rfl, _, rfl⟩
theorem whole_c (l : Bytes) (n : Nat) (st : List AObj) (hl : l.length < 4294967281) (hn : n ≤ l.length) : ACall E 29 [Sv l, Iv n] st fun r st' => r = Iv (lastEnd (l.take n)) ∧ st' = st := by
  refine acall_pure (pure_v _) (acall_of_awp Tryz.func29 rfl (Nat.le_of_ble_eq_true rfl) ?_)
  have ht : (l.take n).length < 4294967281 := by rw [List.length_take]; omega
  have hle := lastEnd_le (l.take n)
  repeat' (first
    | (apply door_awp; first | apply awp_seq | apply awp_block | apply awp_region | (apply awp_cond_any; exact rfl; first | (apply cd_dt; (first | assumption | omega)) | (apply cd_df; (first | assumption | omega)) | (apply cd_nt; (first | exact rfl | assumption)) | (apply cd_nf; (first | exact rfl | assumption)) | (apply cd_n <;> intro h) | (apply cd_t; (first | exact rfl | assumption)) | (apply cd_f; (first | exact rfl | assumption)) | (apply cd_d <;> intro h) | (apply cd_s <;> intro h)) | (apply awp_draw; exact rfl; kernel_rfl) | apply awp_skip | apply awp_exit | apply awp_ret)
    | (apply door_guard; first | (apply aops_guard_any; exact rfl; exact rfl; exact rfl; exact rfl) | (apply aops_guard_undef; exact rfl; exact rfl; exact rfl; exact rfl))
    | (apply door_gd; first | (apply gd_run_d; (first | assumption | omega)) | (apply gd_run_n; (first | assumption | omega)) | (apply gd_skip_d; (first | assumption | omega)) | (apply gd_skip_n; (first | assumption | omega)) | (apply gd_run_nt; (first | exact rfl | assumption)) | (apply gd_run_nf; (first | exact rfl | assumption)) | (apply gd_skip_nt; (first | exact rfl | assumption)) | (apply gd_skip_nf; (first | exact rfl | assumption)) | (apply gd_split_n <;> intro h) | (apply gd_run_t; (first | exact rfl | assumption)) | (apply gd_run_f; (first | exact rfl | assumption)) | (apply gd_skip_t; (first | exact rfl | assumption)) | (apply gd_skip_f; (first | exact rfl | assumption)) | (apply gd_split_d <;> intro h) | (apply gd_split <;> intro h))
    | (apply door_aq; first | apply aq_nil | (apply aq_lenL; exact rfl; exact rfl; exact rfl; exact rfl) | (apply aq_sub; exact rfl; exact rfl; exact wrap_i64 (by omega) (by omega)) | (apply aq_span; exact rfl; exact rfl; exact rfl; exact rfl; (first | assumption | omega | (simp; omega)); first | assumption | omega | (simp; omega)) | (apply aq_load_mid; exact rfl; exact rfl; exact rfl; exact rfl; exact rfl) | (apply aq_concat; exact rfl; exact rfl; (first | omega | (simp only [List.length_append, List.length_cons, List.length_nil]; omega) | (simp; omega))) | (apply aq_load_pp; exact rfl; exact rfl; exact rfl) | (apply aq_load_loc; exact rfl; exact rfl; exact rfl; exact rfl; exact rfl) | (apply aq_fieldAddr_pp; exact rfl; exact rfl; exact rfl; exact rfl) | (apply aq_fieldAddr_bx; exact rfl; exact rfl; exact rfl) | (apply aq_idx; exact rfl; exact rfl; exact rfl; first | assumption | omega | (simp; omega)) | (apply aq_shr4; exact rfl; exact rfl) | (apply aq_and15; exact rfl; exact rfl) | (apply aq_convW; exact rfl; exact rfl; exact rfl; omega) | (apply aq_buildA; exact rfl; exact rfl; exact rfl) | apply aq_move | apply aq_assign | (apply aq_add; exact rfl; exact rfl; exact wrap_i64 (by omega) (by omega)) | (apply aq_lenS; exact rfl; exact rfl; exact rfl) | (apply aq_upto; exact rfl; exact rfl; exact rfl; first | assumption | omega | (simp; omega)) | (apply aq_from; exact rfl; exact rfl; exact rfl; first | assumption | omega | (simp; omega)) | (apply aq_extract; exact rfl; exact rfl))
    | (apply door_binOp; first | (apply aops_cmpI; exact rfl; exact rfl; exact rfl) | (apply aops_cmpS; exact rfl; exact rfl; exact rfl) | (apply aops_concat; exact rfl; exact rfl; (first | omega | (simp only [List.length_append, List.length_cons, List.length_nil]; omega) | (simp; omega))) | (apply aops_add; exact rfl; exact rfl; exact wrap_i64 (by omega) (by omega)) | (apply aops_sub; exact rfl; exact rfl; exact wrap_i64 (by omega) (by omega)) | (apply aops_errNeNil; exact rfl; exact rfl) | (apply aops_nilNeNil; exact rfl; exact rfl) | (apply aops_errEqNil; exact rfl; exact rfl) | (apply aops_nilEqNil; exact rfl; exact rfl) | (apply aops_ptrEqNil; exact rfl; exact rfl; exact rfl) | (apply aops_ptrNeNil; exact rfl; exact rfl; exact rfl) | (apply aops_xor32; exact rfl; exact rfl; (first | exact ofInt_toNat _ | exact rfl); first | exact ofInt_toNat _ | exact rfl) | (apply aops_and32; exact rfl; exact rfl; (first | exact ofInt_toNat _ | exact rfl); first | exact ofInt_toNat _ | exact rfl) | (apply aops_or32; exact rfl; exact rfl; (first | exact ofInt_toNat _ | exact rfl); first | exact ofInt_toNat _ | exact rfl) | (apply aops_shl32; exact rfl; exact rfl; exact rfl) | (apply aops_shr32; exact rfl; exact rfl; exact rfl))
    | (apply door_load; first | (apply aops_load_pp; exact rfl; exact rfl; exact rfl) | (apply aops_load_mid; exact rfl; exact rfl; exact rfl; exact rfl; exact rfl) | (apply aops_load_loc; exact rfl; exact rfl; exact rfl; exact rfl; exact rfl))
    | (apply door_unOp; first | (apply aops_not_d; exact rfl) | (apply aops_not; exact rfl) | (apply aops_compl32; exact rfl))
    | (apply door_slice; first | (apply aops_upto; exact rfl; exact rfl; exact rfl; first | assumption | omega | (simp; omega)) | (apply aops_from; exact rfl; exact rfl; exact rfl; first | assumption | omega | (simp; omega)) | (apply aops_span; exact rfl; exact rfl; exact rfl; exact rfl; (first | assumption | omega | (simp; omega)); first | assumption | omega | (simp; omega)) | (apply aops_sliceFrom; exact rfl; exact rfl; exact rfl; exact rfl; (first | assumption | omega | exact Nat.succ_le_succ (Nat.zero_le _) | (simp; omega)); exact rfl))
    | (apply door_call; first | (apply aops_lenS; exact rfl; exact rfl; exact rfl) | (apply aops_lenL; exact rfl; exact rfl; exact rfl; exact rfl))
    | (apply door_fieldAddr; first | (apply aops_fieldAddr_bx; exact rfl; exact rfl; exact rfl) | (apply aops_fieldAddr_pp; exact rfl; exact rfl; exact rfl; exact rfl))
    | (apply door_store; first | (apply aops_store_mid; exact rfl; exact rfl; exact rfl; exact rfl; exact rfl; exact rfl; exact rfl; exact rfl; exact rfl; exact rfl; exact rfl) | (apply aops_store_loc; exact rfl; exact rfl; exact rfl; exact rfl; exact rfl; exact rfl; exact rfl; exact rfl; exact rfl; exact rfl; exact rfl))
    | (apply door_ops; first | apply aops_nil | apply aops_move | apply aops_assign | (apply aops_extract; exact rfl; exact rfl) | (apply aops_pick_any; exact rfl; first | (apply pk_dt; (first | assumption | omega)) | (apply pk_df; (first | assumption | omega)) | (apply pk_nt; (first | exact rfl | assumption)) | (apply pk_nf; (first | exact rfl | assumption)) | (apply pk_t; (first | exact rfl | assumption)) | (apply pk_f; (first | exact rfl | assumption))) | (apply aops_makeInterface; exact rfl; exact rfl) | apply aops_makeFunc | (apply aops_alloc; exact rfl; exact rfl) | (apply aops_box; exact rfl; exact rfl; exact rfl; exact rfl) | (apply aops_field; exact rfl; exact rfl; exact rfl) | (apply aops_idx; exact rfl; exact rfl; exact rfl; first | assumption | omega | (simp; omega)) | (apply aops_build; exact rfl; exact rfl; exact rfl) | (apply aops_buildSlice; exact rfl; exact rfl; exact rfl; exact rfl; exact rfl; exact rfl; exact rfl; exact rfl; exact rfl) | (apply aops_nilCheck; exact rfl; exact rfl) | (apply aops_indexA; exact rfl; exact rfl; exact rfl; exact rfl; (first | assumption | omega | decide); exact rfl) | (apply aops_indexAddrA; exact rfl; exact rfl; exact rfl; exact rfl; first | assumption | omega | decide)))
  refine aops_min rfl rfl fun c hc1 hc2 hc3 => ?_
  obtain rfl : c = n := by omega
  refine aops_max rfl rfl fun c hd1 hd2 hd3 => ?_
  obtain rfl : c = n := by omega
  repeat' (first
    | (apply door_awp; first | apply awp_seq | apply awp_block | apply awp_region | (apply awp_cond_any; exact rfl; first | (apply cd_dt; (first | assumption | omega)) | (apply cd_df; (first | assumption | omega)) | (apply cd_nt; (first | exact rfl | assumption)) | (apply cd_nf; (first | exact rfl | assumption)) | (apply cd_n <;> intro h) | (apply cd_t; (first | exact rfl | assumption)) | (apply cd_f; (first | exact rfl | assumption)) | (apply cd_d <;> intro h) | (apply cd_s <;> intro h)) | (apply awp_draw; exact rfl; kernel_rfl) | apply awp_skip | apply awp_exit | apply awp_ret)
    | (apply door_guard; first | (apply aops_guard_any; exact rfl; exact rfl; exact rfl; exact rfl) | (apply aops_guard_undef; exact rfl; exact rfl; exact rfl; exact rfl))
    | (apply door_gd; first | (apply gd_run_d; (first | assumption | omega)) | (apply gd_run_n; (first | assumption | omega)) | (apply gd_skip_d; (first | assumption | omega)) | (apply gd_skip_n; (first | assumption | omega)) | (apply gd_run_nt; (first | exact rfl | assumption)) | (apply gd_run_nf; (first | exact rfl | assumption)) | (apply gd_skip_nt; (first | exact rfl | assumption)) | (apply gd_skip_nf; (first | exact rfl | assumption)) | (apply gd_split_n <;> intro h) | (apply gd_run_t; (first | exact rfl | assumption)) | (apply gd_run_f; (first | exact rfl | assumption)) | (apply gd_skip_t; (first | exact rfl | assumption)) | (apply gd_skip_f; (first | exact rfl | assumption)) | (apply gd_split_d <;> intro h) | (apply gd_split <;> intro h))
    | (apply door_aq; first | apply aq_nil | (apply aq_lenL; exact rfl; exact rfl; exact rfl; exact rfl) | (apply aq_sub; exact rfl; exact rfl; exact wrap_i64 (by omega) (by omega)) | (apply aq_span; exact rfl; exact rfl; exact rfl; exact rfl; (first | assumption | omega | (simp; omega)); first | assumption | omega | (simp; omega)) | (apply aq_load_mid; exact rfl; exact rfl; exact rfl; exact rfl; exact rfl) | (apply aq_concat; exact rfl; exact rfl; (first | omega | (simp only [List.length_append, List.length_cons, List.length_nil]; omega) | (simp; omega))) | (apply aq_load_pp; exact rfl; exact rfl; exact rfl) | (apply aq_load_loc; exact rfl; exact rfl; exact rfl; exact rfl; exact rfl) | (apply aq_fieldAddr_pp; exact rfl; exact rfl; exact rfl; exact rfl) | (apply aq_fieldAddr_bx; exact rfl; exact rfl; exact rfl) | (apply aq_idx; exact rfl; exact rfl; exact rfl; first | assumption | omega | (simp; omega)) | (apply aq_shr4; exact rfl; exact rfl) | (apply aq_and15; exact rfl; exact rfl) | (apply aq_convW; exact rfl; exact rfl; exact rfl; omega) | (apply aq_buildA; exact rfl; exact rfl; exact rfl) | apply aq_move | apply aq_assign | (apply aq_add; exact rfl; exact rfl; exact wrap_i64 (by omega) (by omega)) | (apply aq_lenS; exact rfl; exact rfl; exact rfl) | (apply aq_upto; exact rfl; exact rfl; exact rfl; first | assumption | omega | (simp; omega)) | (apply aq_from; exact rfl; exact rfl; exact rfl; first | assumption | omega | (simp; omega)) | (apply aq_extract; exact rfl; exact rfl))
    | (apply door_binOp; first | (apply aops_cmpI; exact rfl; exact rfl; exact rfl) | (apply aops_cmpS; exact rfl; exact rfl; exact rfl) | (apply aops_concat; exact rfl; exact rfl; (first | omega | (simp only [List.length_append, List.length_cons, List.length_nil]; omega) | (simp; omega))) | (apply aops_add; exact rfl; exact rfl; exact wrap_i64 (by omega) (by omega)) | (apply aops_sub; exact rfl; exact rfl; exact wrap_i64 (by omega) (by omega)) | (apply aops_errNeNil; exact rfl; exact rfl) | (apply aops_nilNeNil; exact rfl; exact rfl) | (apply aops_errEqNil; exact rfl; exact rfl) | (apply aops_nilEqNil; exact rfl; exact rfl) | (apply aops_ptrEqNil; exact rfl; exact rfl; exact rfl) | (apply aops_ptrNeNil; exact rfl; exact rfl; exact rfl) | (apply aops_xor32; exact rfl; exact rfl; (first | exact ofInt_toNat _ | exact rfl); first | exact ofInt_toNat _ | exact rfl) | (apply aops_and32; exact rfl; exact rfl; (first | exact ofInt_toNat _ | exact rfl); first | exact ofInt_toNat _ | exact rfl) | (apply aops_or32; exact rfl; exact rfl; (first | exact ofInt_toNat _ | exact rfl); first | exact ofInt_toNat _ | exact rfl) | (apply aops_shl32; exact rfl; exact rfl; exact rfl) | (apply aops_shr32; exact rfl; exact rfl; exact rfl))
    | (apply door_load; first | (apply aops_load_pp; exact rfl; exact rfl; exact rfl) | (apply aops_load_mid; exact rfl; exact rfl; exact rfl; exact rfl; exact rfl) | (apply aops_load_loc; exact rfl; exact rfl; exact rfl; exact rfl; exact rfl))
    | (apply door_unOp; first | (apply aops_not_d; exact rfl) | (apply aops_not; exact rfl) | (apply aops_compl32; exact rfl))
    | (apply door_slice; first | (apply aops_upto; exact rfl; exact rfl; exact rfl; first | assumption | omega | (simp; omega)) | (apply aops_from; exact rfl; exact rfl; exact rfl; first | assumption | omega | (simp; omega)) | (apply aops_span; exact rfl; exact rfl; exact rfl; exact rfl; (first | assumption | omega | (simp; omega)); first | assumption | omega | (simp; omega)) | (apply aops_sliceFrom; exact rfl; exact rfl; exact rfl; exact rfl; (first | assumption | omega | exact Nat.succ_le_succ (Nat.zero_le _) | (simp; omega)); exact rfl))
    | (apply door_call; first | (apply aops_lenS; exact rfl; exact rfl; exact rfl) | (apply aops_lenL; exact rfl; exact rfl; exact rfl; exact rfl))
    | (apply door_fieldAddr; first | (apply aops_fieldAddr_bx; exact rfl; exact rfl; exact rfl) | (apply aops_fieldAddr_pp; exact rfl; exact rfl; exact rfl; exact rfl))
    | (apply door_store; first | (apply aops_store_mid; exact rfl; exact rfl; exact rfl; exact rfl; exact rfl; exact rfl; exact rfl; exact rfl; exact rfl; exact rfl; exact rfl) | (apply aops_store_loc; exact rfl; exact rfl; exact rfl; exact rfl; exact rfl; exact rfl; exact rfl; exact rfl; exact rfl; exact rfl; exact rfl))
    | (apply door_ops; first | apply aops_nil | apply aops_move | apply aops_assign | (apply aops_extract; exact rfl; exact rfl) | (apply aops_pick_any; exact rfl; first | (apply pk_dt; (first | assumption | omega)) | (apply pk_df; (first | assumption | omega)) | (apply pk_nt; (first | exact rfl | assumption)) | (apply pk_nf; (first | exact rfl | assumption)) | (apply pk_t; (first | exact rfl | assumption)) | (apply pk_f; (first | exact rfl | assumption))) | (apply aops_makeInterface; exact rfl; exact rfl) | apply aops_makeFunc | (apply aops_alloc; exact rfl; exact rfl) | (apply aops_box; exact rfl; exact rfl; exact rfl; exact rfl) | (apply aops_field; exact rfl; exact rfl; exact rfl) | (apply aops_idx; exact rfl; exact rfl; exact rfl; first | assumption | omega | (simp; omega)) | (apply aops_build; exact rfl; exact rfl; exact rfl) | (apply aops_buildSlice; exact rfl; exact rfl; exact rfl; exact rfl; exact rfl; exact rfl; exact rfl; exact rfl; exact rfl) | (apply aops_nilCheck; exact rfl; exact rfl) | (apply aops_indexA; exact rfl; exact rfl; exact rfl; exact rfl; (first | assumption | omega | decide); exact rfl) | (apply aops_indexAddrA; exact rfl; exact rfl; exact rfl; exact rfl; first | assumption | omega | decide))
    | (apply aops_upto (j := n); exact rfl; exact rfl; exact rfl; exact hn)
    | (apply aops_call1; exact Tryz.call68; exact lastIndex10_c _ _ ht))
  exact aret_plain rfl (ares_one rfl) ⟨congrArg Iv (by omega), _, rfl⟩
end Go.Proofs.YtplagcbifecagaaGreatDoor
set_option maxRecDepth 100000
set_option linter.unusedVariables false
namespace Go.Pl
open Go Go.Proofs Go.Proofs.YtplagcbifecagaaGreatDoor
section
variable {M : Bytes → Prop} {C D : List Bytes} {u : Bytes}
def HeadNot (M : Bytes → Prop) (C : List Bytes) : Prop := ∀ v C', C = v :: C' → ¬ M v
theorem split_eq (hu : ¬ M u) (hC : HeadNot M C) : ∀ (a b : List Bytes), (∀ s ∈ a, M s) → (∀ s ∈ b, M s) → a ++ u :: D <+: b ++ C → a = b ∧ u :: D <+: C
  | [], [], _, _, h => ⟨rfl, h⟩
  | [], s :: b, _, hb, h => by
    have := (List.cons_prefix_cons.1 h).1
    exact absurd (hb s (by simp)) (this ▸ hu)
  | s :: a, [], ha, _, h => by
    cases C with
    | nil => simp at h
    | cons v C' =>
      have := (List.cons_prefix_cons.1 h).1
      exact absurd (ha s (by simp)) (this ▸ hC v C' rfl)
  | s :: a, s' :: b, ha, hb, h => by
    obtain ⟨rfl, h2⟩ := List.cons_prefix_cons.1 h
    obtain ⟨rfl, h3⟩ := split_eq hu hC a b (fun x hx => ha x (by simp [hx])) (fun x hx => hb x (by simp [hx])) h2
    exact ⟨rfl, h3⟩
theorem pre_eq (hC : HeadNot M C) : ∀ (a b : List Bytes), (∀ s ∈ a, M s) → a <+: b ++ C → a <+: b
  | [], b, _, _ => List.nil_prefix
  | s :: a, [], ha, h => by
    cases C with
    | nil => simp at h
    | cons v C' =>
      have := (List.cons_prefix_cons.1 h).1
      exact absurd (ha s (by simp)) (this ▸ hC v C' rfl)
  | s :: a, s' :: b, ha, h => by
    obtain ⟨rfl, h2⟩ := List.cons_prefix_cons.1 h
    exact List.cons_prefix_cons.2 ⟨rfl, pre_eq hC a b (fun x hx => ha x (by simp [hx])) h2⟩
end
theorem blocks_pre {α : Type} {M : Bytes → Prop} {h : α → Bytes} {t : α → List Bytes} : ∀ (bs cs : List α), (∀ x ∈ bs, ¬ M (h x) ∧ ∀ s ∈ t x, M s) → (∀ x ∈ cs, ¬ M (h x) ∧ ∀ s ∈ t x, M s) →
    (∀ x ∈ bs, ∀ y ∈ cs, h x = h y → t x = t y → x = y) → bs ≠ [] → (bs.flatMap fun x => h x :: t x) <+: (cs.flatMap fun x => h x :: t x) →
    ∃ p x y q, bs = p ++ [x] ∧ cs = p ++ y :: q ∧ h x = h y ∧ t x <+: t y
  | [], _, _, _, _, hne, _ => absurd rfl hne
  | x :: bs, [], _, _, _, _, hp => by simp at hp
  | x :: bs, y :: cs, hb, hc, hi, _, hp => by
    rw [List.flatMap_cons, List.flatMap_cons, List.cons_append, List.cons_append] at hp
    obtain ⟨hh, hp⟩ := List.cons_prefix_cons.1 hp
    have hC : HeadNot M (cs.flatMap fun x => h x :: t x) := fun v C' e => by
      cases cs with
      | nil => simp at e
      | cons z r =>
        rw [List.flatMap_cons, List.cons_append] at e
        have := (List.cons.inj e).1
        rw [← this]
        exact (hc z (by simp)).1
    cases bs with
    | nil =>
      rw [List.flatMap_nil, List.append_nil] at hp
      exact ⟨[], x, y, cs, rfl, rfl, hh, pre_eq hC _ _ (hb x (by simp)).2 hp⟩
    | cons x2 r =>
      have e : ((x2 :: r).flatMap fun x => h x :: t x) = h x2 :: (t x2 ++ r.flatMap fun x => h x :: t x) := by rw [List.flatMap_cons, List.cons_append]
      rw [e] at hp
      obtain ⟨ht, hp2⟩ := split_eq (hb x2 (by simp)).1 hC _ _ (hb x (by simp)).2 (hc y (by simp)).2 hp
      obtain rfl := hi x (by simp) y (by simp) hh ht
      rw [← e] at hp2
      obtain ⟨p, x', y', q, e1, e2, e3, e4⟩ := blocks_pre (x2 :: r) cs (fun z hz => hb z (List.mem_cons_of_mem _ hz)) (fun z hz => hc z (List.mem_cons_of_mem _ hz)) (fun z hz w hw => hi z (List.mem_cons_of_mem _ hz) w (List.mem_cons_of_mem _ hw)) (by simp) hp2
      exact ⟨x :: p, x', y', q, by rw [e1]; rfl, by rw [e2]; rfl, e3, e4⟩
theorem map_pre {α β : Type} {f : α → β} (hf : ∀ a b, f a = f b → a = b) : ∀ {l m : List α}, l.map f <+: m.map f → l <+: m
  | [], _, _ => List.nil_prefix
  | a :: l, [], h => by simp at h
  | a :: l, b :: m, h => by
    rw [List.map_cons, List.map_cons] at h
    obtain ⟨h1, h2⟩ := List.cons_prefix_cons.1 h
    exact List.cons_prefix_cons.2 ⟨hf _ _ h1, map_pre hf h2⟩
theorem text_pre : ∀ {A B : List Bytes} {R : Bytes}, (∀ s ∈ A, 10 ∉ s) → (∀ s ∈ B, 10 ∉ s) → textF A ++ R = textF B → A <+: B
  | [], _, _, _, _, _ => List.nil_prefix
  | s :: A, [], R, _, _, h => by
    rw [textF_cons] at h
    simp [textF] at h
  | s :: A, t :: B, R, hA, hB, h => by
    rw [textF_cons, textF_cons, List.append_assoc, List.cons_append] at h
    have h1 := congrArg (upto 10) h
    have h2 := congrArg (past 10) h
    rw [upto_app _ (hA s (by simp)), upto_app _ (hB t (by simp))] at h1
    rw [past_app _ (hA s (by simp)), past_app _ (hB t (by simp))] at h2
    exact List.cons_prefix_cons.2 ⟨h1, text_pre (fun x hx => hA x (by simp [hx])) (fun x hx => hB x (by simp [hx])) h2⟩
theorem stuffF_inj {s t : Bytes} (h : stuffF s = stuffF t) : s = t := by
  unfold stuffF at h
  split at h <;> split at h
  · exact (List.cons.inj h).2
  · rename_i h2
    exact absurd (.inr (by rw [← h]; rfl)) h2
  · rename_i h1 _
    exact absurd (.inr (by rw [h]; rfl)) h1
  · exact h
def joinP : List Bytes → Bytes
  | [] => []
  | p :: ps => p ++ ps.flatMap fun s => 10 :: s
theorem join_parts : ∀ (n : Nat) (v : Bytes), v.length ≤ n → joinP (partsOf v) = v
  | n, v, hn => by
    by_cases h : 10 ∈ v
    · have hlt : (past 10 v).length < v.length := past_lt (fun e => by rw [e] at h; simp at h)
      cases n with
      | zero => omega
      | succ n =>
        have ih := join_parts n (past 10 v) (by omega)
        rw [partsOf_mem h]
        cases hp : partsOf (past 10 v) with
        | nil => rw [partsOf] at hp; split at hp <;> simp at hp
        | cons p ps =>
          rw [hp] at ih
          have e : upto 10 v ++ 10 :: past 10 v = v := (upto_past h).symm
          simp only [joinP, List.flatMap_cons]
          simp only [joinP] at ih
          rw [List.cons_append, ih, e]
    · rw [partsOf_not h]
      simp [joinP]
theorem join_pre {p : Bytes} {ps qs : List Bytes} (h : ps <+: qs) : joinP (p :: ps) <+: joinP (p :: qs) := by
  obtain ⟨r, rfl⟩ := h
  exact ⟨r.flatMap fun s => 10 :: s, by simp [joinP]⟩
theorem headLine_inj {k k' p p' : Bytes} (hk : 58 ∉ k) (hk' : 58 ∉ k') (h : headLine k p = headLine k' p') : k = k' ∧ p = p' := by
  have e : ∀ (k p : Bytes), headLine k p = k ++ 58 :: (if p = [] then [] else [32] ++ p) := fun k p => by unfold headLine; simp
  rw [e, e] at h
  have h1 := congrArg (upto 58) h
  have h2 := congrArg (past 58) h
  rw [upto_app _ hk, upto_app _ hk'] at h1
  rw [past_app _ hk, past_app _ hk'] at h2
  refine ⟨h1, ?_⟩
  split at h2 <;> split at h2
  · simp_all
  · simp at h2
  · simp at h2
  · simpa using h2
def FldPre (fs gs : List Fld) : Prop := fs.length ≤ gs.length ∧ ∀ i, i < fs.length → (fs.getD i ([], [])).1 = (gs.getD i ([], [])).1 ∧ (fs.getD i ([], [])).2 <+: (gs.getD i ([], [])).2
theorem linesF_val {f g : Fld} (hf : goodFld f) (hg : goodFld g) (h1 : headLine f.1 ((partsOf f.2).headD []) = headLine g.1 ((partsOf g.2).headD [])) (h2 : ((partsOf f.2).tail.map fun s => [32] ++ stuffF s) <+: ((partsOf g.2).tail.map fun s => [32] ++ stuffF s)) : f.1 = g.1 ∧ f.2 <+: g.2 := by
  obtain ⟨hk, hp⟩ := headLine_inj hf.1.2.2.2.2.1 hg.1.2.2.2.2.1 h1
  refine ⟨hk, ?_⟩
  have h3 := map_pre (fun a b h => stuffF_inj (List.append_cancel_left h)) h2
  have e : ∀ v : Bytes, joinP ((partsOf v).headD [] :: (partsOf v).tail) = v := fun v => by
    have h := join_parts _ v (Nat.le_refl _)
    cases hv : partsOf v with
    | nil => rw [partsOf] at hv; split at hv <;> simp at hv
    | cons p ps => rw [hv] at h; exact h
  have := join_pre (p := (partsOf f.2).headD []) h3
  rw [e] at this
  rw [hp, e] at this
  exact this
theorem linesF_inj {f g : Fld} (hf : goodFld f) (hg : goodFld g) (h : linesF f = linesF g) : f = g := by
  have h1 := linesF_unfold hf
  rw [h, linesF_unfold hg] at h1
  exact (Prod.mk.inj h1).1.symm
theorem flds_pre {fs gs : List Fld} (hf : ∀ f ∈ fs, goodFld f) (hg : ∀ f ∈ gs, goodFld f) (h : fs.flatMap linesF <+: gs.flatMap linesF) : FldPre fs gs := by
  by_cases h0 : fs = []
  · subst h0
    exact ⟨by simp, by simp⟩
  have hk : ∀ f, goodFld f → ¬ kindOf (headLine f.1 ((partsOf f.2).headD [])) = 3 ∧ ∀ s ∈ ((partsOf f.2).tail.map fun s => [32] ++ stuffF s), kindOf s = 3 := fun f hf => by
    obtain ⟨hd, mr, hl, h4, h3⟩ := linesF_kinds hf
    unfold linesF at hl
    obtain ⟨e1, e2⟩ := List.cons.inj hl
    rw [e1, e2]
    exact ⟨by omega, h3⟩
  obtain ⟨p, x, y, q, e1, e2, e3, e4⟩ := blocks_pre (M := fun s => kindOf s = 3) (h := fun f : Fld => headLine f.1 ((partsOf f.2).headD [])) (t := fun f : Fld => (partsOf f.2).tail.map fun s => [32] ++ stuffF s) fs gs
    (fun f h => hk f (hf f h)) (fun f h => hk f (hg f h)) (fun f hf' g hg' h1 h2 => linesF_inj (hf f hf') (hg g hg') (by unfold linesF; rw [h1, h2])) h0 h
  subst e1
  subst e2
  obtain ⟨v1, v2⟩ := linesF_val (hf x (by simp)) (hg y (by simp)) e3 e4
  refine ⟨by simp, fun i hi => ?_⟩
  simp only [List.length_append, List.length_cons, List.length_nil] at hi
  by_cases hc : i < p.length
  · have a1 : (p ++ [x]).getD i ([], []) = p.getD i ([], []) := by simp [List.getD, List.getElem?_append_left hc]
    have a2 : (p ++ y :: q).getD i ([], []) = p.getD i ([], []) := by simp [List.getD, List.getElem?_append_left hc]
    rw [a1, a2]
    exact ⟨rfl, List.prefix_refl _⟩
  · obtain rfl : i = p.length := by omega
    have a1 : (p ++ [x]).getD p.length ([], []) = x := by simp [List.getD]
    have a2 : (p ++ y :: q).getD p.length ([], []) = y := by simp [List.getD]
    rw [a1, a2]
    exact ⟨v1, v2⟩
theorem body_fields {x y : EditV} (hx : EncG x) (hy : EncG y) (h : bodyL x = bodyL y) : x.fields = y.fields := by
  have e : ∀ z : EditV, EncG z → fldsOf (textF (bodyL z)) = (z.fields, true) := fun z hz => by
    have := fldsOf_indent hz.len hz.good
    rw [foldF_text, indent_text (flds_no10 hz.good)] at this
    exact this
  have h1 := e x hx
  rw [h, e y hy] at h1
  exact (Prod.mk.inj h1).1.symm
def CutOf (b' b : List EditV) : Prop := ∃ p x y q, b' = p ++ [x] ∧ b = p ++ y :: q ∧ x.kind = y.kind ∧ x.id = y.id ∧ FldPre x.fields y.fields
theorem cut_pre {b' b : List EditV} {R : Bytes} (hG' : ∀ x ∈ b', EncG x) (hG : ∀ x ∈ b, EncG x) (hne : b' ≠ []) (h : encF b' ++ R = encF b) : CutOf b' b := by
  rw [encF_text hG', encF_text hG] at h
  have hno : ∀ c : List EditV, (∀ x ∈ c, EncG x) → ∀ s ∈ encL c, 10 ∉ s := fun c hc s hs => by
    obtain ⟨x, hx, hs⟩ := List.mem_flatMap.1 hs
    rcases List.mem_cons.1 hs with rfl | hs
    · exact line_no10 x
    · exact body_no10 (hc x hx).good s hs
  have hp := text_pre (hno b' hG') (hno b hG) h
  have hk : ∀ x, EncG x → ¬ [32, 32] <+: lineE x ∧ ∀ s ∈ bodyL x, [32, 32] <+: s := fun x hx => ⟨line_notInd hx.kind, fun s hs => (bodyL_ind hx.good s hs).2⟩
  have hid : ∀ x y, EncG x → EncG y → lineE x = lineE y → x.kind = y.kind ∧ x.id = y.id := fun x y hx hy e => by
    have h1 := begE_line hx.kind hx.id1 hx.id2
    rw [e, begE_line hy.kind hy.id1 hy.id2] at h1
    have := Option.some.inj h1
    exact ⟨(Prod.mk.inj this).1.symm, (Prod.mk.inj this).2.symm⟩
  obtain ⟨p, x, y, q, e1, e2, e3, e4⟩ := blocks_pre (M := fun s => [32, 32] <+: s) (h := lineE) (t := bodyL) b' b (fun x hx => hk x (hG' x hx)) (fun x hx => hk x (hG x hx))
    (fun x hx y hy h1 h2 => by
      obtain ⟨a1, a2⟩ := hid x y (hG' x hx) (hG y hy) h1
      exact edit_eq a1 a2 (body_fields (hG' x hx) (hG y hy) h2)) hne hp
  have hx := hG' x (by rw [e1]; simp)
  have hy := hG y (by rw [e2]; simp)
  obtain ⟨a1, a2⟩ := hid x y hx hy e3
  refine ⟨p, x, y, q, e1, e2, a1, a2, flds_pre hx.good hy.good ?_⟩
  exact map_pre (fun a b h => List.append_cancel_left h) e4
end Go.Pl
set_option maxRecDepth 100000
set_option linter.unusedVariables false
namespace Go.Av
open Go Go.RowKit
section
variable {E : Env} {N : Nat} {ops : Array Oper} {K : AS → Prop} {s : AS} {rest : List Oper} {d : Option Tmp} {T : TypeId} {p : String} {af : Array Edge}
theorem aq_sliceL {x : Operand} {t e : TypeId} {lo hi : Option Operand} {sz : Nat} {agg : Bool} {xs ys : List AV} {tip : Option Nat} {i j : Nat} (hx : aeval N s x = .sl sz xs tip) (hu : E.P.underlying t = some (.slice e)) (ht : tyOf E.P e = some (sz, agg))
    (hlo : match lo with | none => i = 0 | some y => ∃ k, aeval N s y = .v (.int k (i : Int))) (hhi : match hi with | none => j = xs.length | some y => ∃ k, aeval N s y = .v (.int k (j : Int))) (h1 : i ≤ j) (h2 : j ≤ xs.length) (hy : (xs.take j).drop i = ys)
    (h : AQ E N ops rest K (s.put d (.sl sz ys none))) : AQ E N ops (⟨d, .slice t x lo hi none, T, p, af, none⟩ :: rest) K s := by
  subst hy
  refine aq_op rfl nofun fun B0 w0 G a w _ hI => ?_
  have he := hI.eval_of hx
  generalize hv : a.eval x = v at he
  have hsl : ∃ b len cap, v = .slice b len cap := by cases he <;> exact ⟨_, _, _, rfl⟩
  obtain ⟨b, len, cap, rfl⟩ := hsl
  obtain ⟨hl, hlc, hr⟩ := rel_sliceL he h1 h2
  refine ⟨_, _, fun w' _ => ?_, hr, h⟩
  have hrun := run_sliceL hu ht b len cap (lo.map a.eval) (hi.map a.eval) i j w' (by
    cases lo with
    | none => exact hlo
    | some y => obtain ⟨k, hy⟩ := hlo; exact ⟨k, hI.evalv hy⟩) (by
    cases hi with
    | none => simp only at hhi; simp only [Option.map_none]; omega
    | some y => obtain ⟨k, hy⟩ := hhi; exact ⟨⟨k, hI.evalv hy⟩, by omega⟩) h1
  generalize a.eval = ρ at hv hrun
  simp only [execOp, hv]
  simp [Instr.sliceAt, run_underlying hu, hrun]
theorem aq_sliceUp {x y : Operand} {t e : TypeId} {sz : Nat} {agg : Bool} {xs ys : List AV} {tip : Option Nat} {k : IntKind} {j : Nat} (hx : aeval N s x = .sl sz xs tip) (hy : aeval N s y = .v (.int k (j : Int))) (hu : E.P.underlying t = some (.slice e)) (ht : tyOf E.P e = some (sz, agg)) (h1 : j ≤ xs.length) (hz : xs.take j = ys)
    (h : AQ E N ops rest K (s.put d (.sl sz ys none))) : AQ E N ops (⟨d, .slice t x none (some y) none, T, p, af, none⟩ :: rest) K s :=
  aq_sliceL (i := 0) (j := j) hx hu ht rfl ⟨k, hy⟩ (Nat.zero_le _) h1 hz h
end
end Go.Av
namespace Go.Proofs.YtplagcbifecagaaGreatDoor
open Go Go.Av Go.RowKit Go.Proofs Go.Pl
theorem decP_B : ∀ (ps : List Bytes) (acc b : List EditV), (∀ x ∈ acc, EdB x) → decP ps acc = some b → ∀ x ∈ b, EdB x
  | [], acc, b, h, e => by
    rw [decP] at e
    cases e
    exact h
  | p :: r, acc, b, h, e => by
    rw [decP] at e
    split at e
    · simp at e
    · rename_i k n hb
      split at e
      · refine decP_B r _ b (fun x hx => ?_) e
        rcases List.mem_append.1 hx with hx | hx
        · exact h x hx
        · obtain rfl := List.mem_singleton.1 hx
          exact edB_of (begE_id hb).1 (begE_id hb).2 (fldsOf_good _)
      · simp at e
theorem decF_B {text : Bytes} {b : List EditV} (h : decF text = some b) : ∀ x ∈ b, EdB x := by
  unfold decF at h
  split at h
  · simp at h
  · split at h
    · simp at h
    · rename_i c hc
      split at h
      · cases h
        exact decP_B _ _ _ (by simp) hc
      · simp at h
theorem dec_cut {b b' : List EditV} {n : Nat} (he : eErr b = .no) (hB : ∀ x ∈ b, EdB x) (h : decF ((encF b).take n) = some b') : CutOf b' b ∧ ∀ x ∈ b', EdB x := by
  have hB' := decF_B h
  obtain ⟨he', ht, _⟩ := dec_some h
  obtain ⟨_, _, hg⟩ := eErr_no he
  obtain ⟨h1, _, hg'⟩ := eErr_no he'
  refine ⟨cut_pre (R := (encF b).drop n) (fun x hx => encG_of (hg' x hx) (hB' x hx)) (fun x hx => encG_of (hg x hx) (hB x hx)) (fun e => by rw [e] at h1; simp at h1) ?_, hB'⟩
  rw [ht, List.take_append_drop]
end Go.Proofs.YtplagcbifecagaaGreatDoor
set_option maxRecDepth 100000
set_option linter.unusedVariables false
namespace Go.Proofs.YtplagcbifecagaaGreatDoor
open Go Go.Av Go.RowKit Go.Proofs Go.Pl
theorem pure_ee {a b : List EditV} : ∀ x ∈ [editsA a, editsA b], Pure x := by
  intro x hx
  simp only [List.mem_cons, List.not_mem_nil, or_false] at hx
  rcases hx with rfl | rfl <;> exact editsA_pure _
theorem cut_take {p : List EditV} {x : EditV} {q : List EditV} : ((p ++ x :: q).map editA).take p.length = p.map editA := by simp
theorem cut_get {p : List EditV} {x : EditV} {q : List EditV} : ((p ++ x :: q).map editA)[p.length]? = some (editA x) := by simp
set_option maxHeartbeats 8000000 in
theorem amendCuts_c (b : List EditV) (cut : Int) (st : List AObj) (hA : ArgE b) : ACall E 7 [editsA b, Iv cut] st fun r st' => r = Bv true ∧ st' = st := by
  refine acall_pure (pure_v _) (acall_of_awp Tryz.func7 rfl (Nat.le_of_ble_eq_true rfl) ?_)
  repeat' (first
    | (apply door_awp; first | apply awp_seq | apply awp_block | apply awp_region | (apply awp_cond_any; exact rfl; first | (apply cd_dt; (first | assumption | omega)) | (apply cd_df; (first | assumption | omega)) | (apply cd_nt; (first | exact rfl | assumption)) | (apply cd_nf; (first | exact rfl | assumption)) | (apply cd_n <;> intro h) | (apply cd_t; (first | exact rfl | assumption)) | (apply cd_f; (first | exact rfl | assumption)) | (apply cd_d <;> intro h) | (apply cd_s <;> intro h)) | (apply awp_draw; exact rfl; kernel_rfl) | apply awp_skip | apply awp_exit | apply awp_ret)
    | (apply door_guard; first | (apply aops_guard_any; exact rfl; exact rfl; exact rfl; exact rfl) | (apply aops_guard_undef; exact rfl; exact rfl; exact rfl; exact rfl))
    | (apply door_gd; first | (apply gd_run_d; (first | assumption | omega)) | (apply gd_run_n; (first | assumption | omega)) | (apply gd_skip_d; (first | assumption | omega)) | (apply gd_skip_n; (first | assumption | omega)) | (apply gd_run_nt; (first | exact rfl | assumption)) | (apply gd_run_nf; (first | exact rfl | assumption)) | (apply gd_skip_nt; (first | exact rfl | assumption)) | (apply gd_skip_nf; (first | exact rfl | assumption)) | (apply gd_split_n <;> intro h) | (apply gd_run_t; (first | exact rfl | assumption)) | (apply gd_run_f; (first | exact rfl | assumption)) | (apply gd_skip_t; (first | exact rfl | assumption)) | (apply gd_skip_f; (first | exact rfl | assumption)) | (apply gd_split_d <;> intro h) | (apply gd_split <;> intro h))
    | (apply door_aq; first | apply aq_nil | (apply aq_lenL; exact rfl; exact rfl; exact rfl; exact rfl) | (apply aq_sub; exact rfl; exact rfl; exact wrap_i64 (by omega) (by omega)) | (apply aq_span; exact rfl; exact rfl; exact rfl; exact rfl; (first | assumption | omega | (simp; omega)); first | assumption | omega | (simp; omega)) | (apply aq_load_mid; exact rfl; exact rfl; exact rfl; exact rfl; exact rfl) | (apply aq_concat; exact rfl; exact rfl; (first | omega | (simp only [List.length_append, List.length_cons, List.length_nil]; omega) | (simp; omega))) | (apply aq_load_pp; exact rfl; exact rfl; exact rfl) | (apply aq_load_loc; exact rfl; exact rfl; exact rfl; exact rfl; exact rfl) | (apply aq_fieldAddr_pp; exact rfl; exact rfl; exact rfl; exact rfl) | (apply aq_fieldAddr_bx; exact rfl; exact rfl; exact rfl) | (apply aq_idx; exact rfl; exact rfl; exact rfl; first | assumption | omega | (simp; omega)) | (apply aq_shr4; exact rfl; exact rfl) | (apply aq_and15; exact rfl; exact rfl) | (apply aq_convW; exact rfl; exact rfl; exact rfl; omega) | (apply aq_buildA; exact rfl; exact rfl; exact rfl) | apply aq_move | apply aq_assign | (apply aq_add; exact rfl; exact rfl; exact wrap_i64 (by omega) (by omega)) | (apply aq_lenS; exact rfl; exact rfl; exact rfl) | (apply aq_upto; exact rfl; exact rfl; exact rfl; first | assumption | omega | (simp; omega)) | (apply aq_from; exact rfl; exact rfl; exact rfl; first | assumption | omega | (simp; omega)) | (apply aq_extract; exact rfl; exact rfl))
    | (apply door_binOp; first | (apply aops_cmpI; exact rfl; exact rfl; exact rfl) | (apply aops_cmpS; exact rfl; exact rfl; exact rfl) | (apply aops_concat; exact rfl; exact rfl; (first | omega | (simp only [List.length_append, List.length_cons, List.length_nil]; omega) | (simp; omega))) | (apply aops_add; exact rfl; exact rfl; exact wrap_i64 (by omega) (by omega)) | (apply aops_sub; exact rfl; exact rfl; exact wrap_i64 (by omega) (by omega)) | (apply aops_errNeNil; exact rfl; exact rfl) | (apply aops_nilNeNil; exact rfl; exact rfl) | (apply aops_errEqNil; exact rfl; exact rfl) | (apply aops_nilEqNil; exact rfl; exact rfl) | (apply aops_ptrEqNil; exact rfl; exact rfl; exact rfl) | (apply aops_ptrNeNil; exact rfl; exact rfl; exact rfl) | (apply aops_xor32; exact rfl; exact rfl; (first | exact ofInt_toNat _ | exact rfl); first | exact ofInt_toNat _ | exact rfl) | (apply aops_and32; exact rfl; exact rfl; (first | exact ofInt_toNat _ | exact rfl); first | exact ofInt_toNat _ | exact rfl) | (apply aops_or32; exact rfl; exact rfl; (first | exact ofInt_toNat _ | exact rfl); first | exact ofInt_toNat _ | exact rfl) | (apply aops_shl32; exact rfl; exact rfl; exact rfl) | (apply aops_shr32; exact rfl; exact rfl; exact rfl))
    | (apply door_load; first | (apply aops_load_pp; exact rfl; exact rfl; exact rfl) | (apply aops_load_mid; exact rfl; exact rfl; exact rfl; exact rfl; exact rfl) | (apply aops_load_loc; exact rfl; exact rfl; exact rfl; exact rfl; exact rfl))
    | (apply door_unOp; first | (apply aops_not_d; exact rfl) | (apply aops_not; exact rfl) | (apply aops_compl32; exact rfl))
    | (apply door_slice; first | (apply aops_upto; exact rfl; exact rfl; exact rfl; first | assumption | omega | (simp; omega)) | (apply aops_from; exact rfl; exact rfl; exact rfl; first | assumption | omega | (simp; omega)) | (apply aops_span; exact rfl; exact rfl; exact rfl; exact rfl; (first | assumption | omega | (simp; omega)); first | assumption | omega | (simp; omega)) | (apply aops_sliceFrom; exact rfl; exact rfl; exact rfl; exact rfl; (first | assumption | omega | exact Nat.succ_le_succ (Nat.zero_le _) | (simp; omega)); exact rfl))
    | (apply door_call; first | (apply aops_lenS; exact rfl; exact rfl; exact rfl) | (apply aops_lenL; exact rfl; exact rfl; exact rfl; exact rfl))
    | (apply door_fieldAddr; first | (apply aops_fieldAddr_bx; exact rfl; exact rfl; exact rfl) | (apply aops_fieldAddr_pp; exact rfl; exact rfl; exact rfl; exact rfl))
    | (apply door_store; first | (apply aops_store_mid; exact rfl; exact rfl; exact rfl; exact rfl; exact rfl; exact rfl; exact rfl; exact rfl; exact rfl; exact rfl; exact rfl) | (apply aops_store_loc; exact rfl; exact rfl; exact rfl; exact rfl; exact rfl; exact rfl; exact rfl; exact rfl; exact rfl; exact rfl; exact rfl))
    | (apply door_ops; first | apply aops_nil | apply aops_move | apply aops_assign | (apply aops_extract; exact rfl; exact rfl) | (apply aops_pick_any; exact rfl; first | (apply pk_dt; (first | assumption | omega)) | (apply pk_df; (first | assumption | omega)) | (apply pk_nt; (first | exact rfl | assumption)) | (apply pk_nf; (first | exact rfl | assumption)) | (apply pk_t; (first | exact rfl | assumption)) | (apply pk_f; (first | exact rfl | assumption))) | (apply aops_makeInterface; exact rfl; exact rfl) | apply aops_makeFunc | (apply aops_alloc; exact rfl; exact rfl) | (apply aops_box; exact rfl; exact rfl; exact rfl; exact rfl) | (apply aops_field; exact rfl; exact rfl; exact rfl) | (apply aops_idx; exact rfl; exact rfl; exact rfl; first | assumption | omega | (simp; omega)) | (apply aops_build; exact rfl; exact rfl; exact rfl) | (apply aops_buildSlice; exact rfl; exact rfl; exact rfl; exact rfl; exact rfl; exact rfl; exact rfl; exact rfl; exact rfl) | (apply aops_nilCheck; exact rfl; exact rfl) | (apply aops_indexA; exact rfl; exact rfl; exact rfl; exact rfl; (first | assumption | omega | decide); exact rfl) | (apply aops_indexAddrA; exact rfl; exact rfl; exact rfl; exact rfl; first | assumption | omega | decide))
    | (apply aops_call1; exact Tryz.call8; exact alive10_c _))
  refine aops_call Tryz.call14 ((heavy_c b _ hA.1 fun x hx => (hA.2 x hx).1).mono ?_)
  rintro _ _ ⟨⟨r, rfl, hr⟩, rfl⟩
  show AOps _ _ _ _ _ _ _
  cases r
  rotate_left
  · skip
    repeat' (first
      | (apply door_awp; first | apply awp_seq | apply awp_block | apply awp_region | (apply awp_cond_any; exact rfl; first | (apply cd_dt; (first | assumption | omega)) | (apply cd_df; (first | assumption | omega)) | (apply cd_nt; (first | exact rfl | assumption)) | (apply cd_nf; (first | exact rfl | assumption)) | (apply cd_n <;> intro h) | (apply cd_t; (first | exact rfl | assumption)) | (apply cd_f; (first | exact rfl | assumption)) | (apply cd_d <;> intro h) | (apply cd_s <;> intro h)) | (apply awp_draw; exact rfl; kernel_rfl) | apply awp_skip | apply awp_exit | apply awp_ret)
      | (apply door_guard; first | (apply aops_guard_any; exact rfl; exact rfl; exact rfl; exact rfl) | (apply aops_guard_undef; exact rfl; exact rfl; exact rfl; exact rfl))
      | (apply door_gd; first | (apply gd_run_d; (first | assumption | omega)) | (apply gd_run_n; (first | assumption | omega)) | (apply gd_skip_d; (first | assumption | omega)) | (apply gd_skip_n; (first | assumption | omega)) | (apply gd_run_nt; (first | exact rfl | assumption)) | (apply gd_run_nf; (first | exact rfl | assumption)) | (apply gd_skip_nt; (first | exact rfl | assumption)) | (apply gd_skip_nf; (first | exact rfl | assumption)) | (apply gd_split_n <;> intro h) | (apply gd_run_t; (first | exact rfl | assumption)) | (apply gd_run_f; (first | exact rfl | assumption)) | (apply gd_skip_t; (first | exact rfl | assumption)) | (apply gd_skip_f; (first | exact rfl | assumption)) | (apply gd_split_d <;> intro h) | (apply gd_split <;> intro h))
      | (apply door_aq; first | apply aq_nil | (apply aq_lenL; exact rfl; exact rfl; exact rfl; exact rfl) | (apply aq_sub; exact rfl; exact rfl; exact wrap_i64 (by omega) (by omega)) | (apply aq_span; exact rfl; exact rfl; exact rfl; exact rfl; (first | assumption | omega | (simp; omega)); first | assumption | omega | (simp; omega)) | (apply aq_load_mid; exact rfl; exact rfl; exact rfl; exact rfl; exact rfl) | (apply aq_concat; exact rfl; exact rfl; (first | omega | (simp only [List.length_append, List.length_cons, List.length_nil]; omega) | (simp; omega))) | (apply aq_load_pp; exact rfl; exact rfl; exact rfl) | (apply aq_load_loc; exact rfl; exact rfl; exact rfl; exact rfl; exact rfl) | (apply aq_fieldAddr_pp; exact rfl; exact rfl; exact rfl; exact rfl) | (apply aq_fieldAddr_bx; exact rfl; exact rfl; exact rfl) | (apply aq_idx; exact rfl; exact rfl; exact rfl; first | assumption | omega | (simp; omega)) | (apply aq_shr4; exact rfl; exact rfl) | (apply aq_and15; exact rfl; exact rfl) | (apply aq_convW; exact rfl; exact rfl; exact rfl; omega) | (apply aq_buildA; exact rfl; exact rfl; exact rfl) | apply aq_move | apply aq_assign | (apply aq_add; exact rfl; exact rfl; exact wrap_i64 (by omega) (by omega)) | (apply aq_lenS; exact rfl; exact rfl; exact rfl) | (apply aq_upto; exact rfl; exact rfl; exact rfl; first | assumption | omega | (simp; omega)) | (apply aq_from; exact rfl; exact rfl; exact rfl; first | assumption | omega | (simp; omega)) | (apply aq_extract; exact rfl; exact rfl))
      | (apply door_binOp; first | (apply aops_cmpI; exact rfl; exact rfl; exact rfl) | (apply aops_cmpS; exact rfl; exact rfl; exact rfl) | (apply aops_concat; exact rfl; exact rfl; (first | omega | (simp only [List.length_append, List.length_cons, List.length_nil]; omega) | (simp; omega))) | (apply aops_add; exact rfl; exact rfl; exact wrap_i64 (by omega) (by omega)) | (apply aops_sub; exact rfl; exact rfl; exact wrap_i64 (by omega) (by omega)) | (apply aops_errNeNil; exact rfl; exact rfl) | (apply aops_nilNeNil; exact rfl; exact rfl) | (apply aops_errEqNil; exact rfl; exact rfl) | (apply aops_nilEqNil; exact rfl; exact rfl) | (apply aops_ptrEqNil; exact rfl; exact rfl; exact rfl) | (apply aops_ptrNeNil; exact rfl; exact rfl; exact rfl) | (apply aops_xor32; exact rfl; exact rfl; (first | exact ofInt_toNat _ | exact rfl); first | exact ofInt_toNat _ | exact rfl) | (apply aops_and32; exact rfl; exact rfl; (first | exact ofInt_toNat _ | exact rfl); first | exact ofInt_toNat _ | exact rfl) | (apply aops_or32; exact rfl; exact rfl; (first | exact ofInt_toNat _ | exact rfl); first | exact ofInt_toNat _ | exact rfl) | (apply aops_shl32; exact rfl; exact rfl; exact rfl) | (apply aops_shr32; exact rfl; exact rfl; exact rfl))
      | (apply door_load; first | (apply aops_load_pp; exact rfl; exact rfl; exact rfl) | (apply aops_load_mid; exact rfl; exact rfl; exact rfl; exact rfl; exact rfl) | (apply aops_load_loc; exact rfl; exact rfl; exact rfl; exact rfl; exact rfl))
      | (apply door_unOp; first | (apply aops_not_d; exact rfl) | (apply aops_not; exact rfl) | (apply aops_compl32; exact rfl))
      | (apply door_slice; first | (apply aops_upto; exact rfl; exact rfl; exact rfl; first | assumption | omega | (simp; omega)) | (apply aops_from; exact rfl; exact rfl; exact rfl; first | assumption | omega | (simp; omega)) | (apply aops_span; exact rfl; exact rfl; exact rfl; exact rfl; (first | assumption | omega | (simp; omega)); first | assumption | omega | (simp; omega)) | (apply aops_sliceFrom; exact rfl; exact rfl; exact rfl; exact rfl; (first | assumption | omega | exact Nat.succ_le_succ (Nat.zero_le _) | (simp; omega)); exact rfl))
      | (apply door_call; first | (apply aops_lenS; exact rfl; exact rfl; exact rfl) | (apply aops_lenL; exact rfl; exact rfl; exact rfl; exact rfl))
      | (apply door_fieldAddr; first | (apply aops_fieldAddr_bx; exact rfl; exact rfl; exact rfl) | (apply aops_fieldAddr_pp; exact rfl; exact rfl; exact rfl; exact rfl))
      | (apply door_store; first | (apply aops_store_mid; exact rfl; exact rfl; exact rfl; exact rfl; exact rfl; exact rfl; exact rfl; exact rfl; exact rfl; exact rfl; exact rfl) | (apply aops_store_loc; exact rfl; exact rfl; exact rfl; exact rfl; exact rfl; exact rfl; exact rfl; exact rfl; exact rfl; exact rfl; exact rfl))
      | (apply door_ops; first | apply aops_nil | apply aops_move | apply aops_assign | (apply aops_extract; exact rfl; exact rfl) | (apply aops_pick_any; exact rfl; first | (apply pk_dt; (first | assumption | omega)) | (apply pk_df; (first | assumption | omega)) | (apply pk_nt; (first | exact rfl | assumption)) | (apply pk_nf; (first | exact rfl | assumption)) | (apply pk_t; (first | exact rfl | assumption)) | (apply pk_f; (first | exact rfl | assumption))) | (apply aops_makeInterface; exact rfl; exact rfl) | apply aops_makeFunc | (apply aops_alloc; exact rfl; exact rfl) | (apply aops_box; exact rfl; exact rfl; exact rfl; exact rfl) | (apply aops_field; exact rfl; exact rfl; exact rfl) | (apply aops_idx; exact rfl; exact rfl; exact rfl; first | assumption | omega | (simp; omega)) | (apply aops_build; exact rfl; exact rfl; exact rfl) | (apply aops_buildSlice; exact rfl; exact rfl; exact rfl; exact rfl; exact rfl; exact rfl; exact rfl; exact rfl; exact rfl) | (apply aops_nilCheck; exact rfl; exact rfl) | (apply aops_indexA; exact rfl; exact rfl; exact rfl; exact rfl; (first | assumption | omega | decide); exact rfl) | (apply aops_indexAddrA; exact rfl; exact rfl; exact rfl; exact rfl; first | assumption | omega | decide)))
    exact aret_plain rfl (ares_one rfl) ⟨rfl, _, rfl⟩
  have hLb := hr rfl
  clear hr
  have hB := light_B hA hLb
  by_cases he : eErr b = .no
  · obtain ⟨hb1, hb40, hg⟩ := eErr_no he
    have hG : ∀ y ∈ b, EncG y := fun y hy => encG_of (hg y hy) (hB y hy)
    have hS := encL_sp (b := b) (fun e => by subst e; simp at hb1) hG
    have ht := encF_text hG
    have hlen := encF_len b hB hg
    have hh := text_head hS
    rw [← ht] at hh
    have hpos : 0 < (encF b).length := lt_of_getElem? hh
    have hen := fun st => encode0_c b st hB he
    have hdc := fun (n : Nat) (b' : List EditV) => dec_cut (n := n) (b' := b') he hB
    generalize encF b = s at hlen hpos hen hdc
    by_cases hbig : 50000 < s.length
    · skip
      repeat' (first
        | (apply door_awp; first | apply awp_seq | apply awp_block | apply awp_region | (apply awp_cond_any; exact rfl; first | (apply cd_dt; (first | assumption | omega)) | (apply cd_df; (first | assumption | omega)) | (apply cd_nt; (first | exact rfl | assumption)) | (apply cd_nf; (first | exact rfl | assumption)) | (apply cd_n <;> intro h) | (apply cd_t; (first | exact rfl | assumption)) | (apply cd_f; (first | exact rfl | assumption)) | (apply cd_d <;> intro h) | (apply cd_s <;> intro h)) | (apply awp_draw; exact rfl; kernel_rfl) | apply awp_skip | apply awp_exit | apply awp_ret)
        | (apply door_guard; first | (apply aops_guard_any; exact rfl; exact rfl; exact rfl; exact rfl) | (apply aops_guard_undef; exact rfl; exact rfl; exact rfl; exact rfl))
        | (apply door_gd; first | (apply gd_run_d; (first | assumption | omega)) | (apply gd_run_n; (first | assumption | omega)) | (apply gd_skip_d; (first | assumption | omega)) | (apply gd_skip_n; (first | assumption | omega)) | (apply gd_run_nt; (first | exact rfl | assumption)) | (apply gd_run_nf; (first | exact rfl | assumption)) | (apply gd_skip_nt; (first | exact rfl | assumption)) | (apply gd_skip_nf; (first | exact rfl | assumption)) | (apply gd_split_n <;> intro h) | (apply gd_run_t; (first | exact rfl | assumption)) | (apply gd_run_f; (first | exact rfl | assumption)) | (apply gd_skip_t; (first | exact rfl | assumption)) | (apply gd_skip_f; (first | exact rfl | assumption)) | (apply gd_split_d <;> intro h) | (apply gd_split <;> intro h))
        | (apply door_aq; first | apply aq_nil | (apply aq_lenL; exact rfl; exact rfl; exact rfl; exact rfl) | (apply aq_sub; exact rfl; exact rfl; exact wrap_i64 (by omega) (by omega)) | (apply aq_span; exact rfl; exact rfl; exact rfl; exact rfl; (first | assumption | omega | (simp; omega)); first | assumption | omega | (simp; omega)) | (apply aq_load_mid; exact rfl; exact rfl; exact rfl; exact rfl; exact rfl) | (apply aq_concat; exact rfl; exact rfl; (first | omega | (simp only [List.length_append, List.length_cons, List.length_nil]; omega) | (simp; omega))) | (apply aq_load_pp; exact rfl; exact rfl; exact rfl) | (apply aq_load_loc; exact rfl; exact rfl; exact rfl; exact rfl; exact rfl) | (apply aq_fieldAddr_pp; exact rfl; exact rfl; exact rfl; exact rfl) | (apply aq_fieldAddr_bx; exact rfl; exact rfl; exact rfl) | (apply aq_idx; exact rfl; exact rfl; exact rfl; first | assumption | omega | (simp; omega)) | (apply aq_shr4; exact rfl; exact rfl) | (apply aq_and15; exact rfl; exact rfl) | (apply aq_convW; exact rfl; exact rfl; exact rfl; omega) | (apply aq_buildA; exact rfl; exact rfl; exact rfl) | apply aq_move | apply aq_assign | (apply aq_add; exact rfl; exact rfl; exact wrap_i64 (by omega) (by omega)) | (apply aq_lenS; exact rfl; exact rfl; exact rfl) | (apply aq_upto; exact rfl; exact rfl; exact rfl; first | assumption | omega | (simp; omega)) | (apply aq_from; exact rfl; exact rfl; exact rfl; first | assumption | omega | (simp; omega)) | (apply aq_extract; exact rfl; exact rfl))
        | (apply door_binOp; first | (apply aops_cmpI; exact rfl; exact rfl; exact rfl) | (apply aops_cmpS; exact rfl; exact rfl; exact rfl) | (apply aops_concat; exact rfl; exact rfl; (first | omega | (simp only [List.length_append, List.length_cons, List.length_nil]; omega) | (simp; omega))) | (apply aops_add; exact rfl; exact rfl; exact wrap_i64 (by omega) (by omega)) | (apply aops_sub; exact rfl; exact rfl; exact wrap_i64 (by omega) (by omega)) | (apply aops_errNeNil; exact rfl; exact rfl) | (apply aops_nilNeNil; exact rfl; exact rfl) | (apply aops_errEqNil; exact rfl; exact rfl) | (apply aops_nilEqNil; exact rfl; exact rfl) | (apply aops_ptrEqNil; exact rfl; exact rfl; exact rfl) | (apply aops_ptrNeNil; exact rfl; exact rfl; exact rfl) | (apply aops_xor32; exact rfl; exact rfl; (first | exact ofInt_toNat _ | exact rfl); first | exact ofInt_toNat _ | exact rfl) | (apply aops_and32; exact rfl; exact rfl; (first | exact ofInt_toNat _ | exact rfl); first | exact ofInt_toNat _ | exact rfl) | (apply aops_or32; exact rfl; exact rfl; (first | exact ofInt_toNat _ | exact rfl); first | exact ofInt_toNat _ | exact rfl) | (apply aops_shl32; exact rfl; exact rfl; exact rfl) | (apply aops_shr32; exact rfl; exact rfl; exact rfl))
        | (apply door_load; first | (apply aops_load_pp; exact rfl; exact rfl; exact rfl) | (apply aops_load_mid; exact rfl; exact rfl; exact rfl; exact rfl; exact rfl) | (apply aops_load_loc; exact rfl; exact rfl; exact rfl; exact rfl; exact rfl))
        | (apply door_unOp; first | (apply aops_not_d; exact rfl) | (apply aops_not; exact rfl) | (apply aops_compl32; exact rfl))
        | (apply door_slice; first | (apply aops_upto; exact rfl; exact rfl; exact rfl; first | assumption | omega | (simp; omega)) | (apply aops_from; exact rfl; exact rfl; exact rfl; first | assumption | omega | (simp; omega)) | (apply aops_span; exact rfl; exact rfl; exact rfl; exact rfl; (first | assumption | omega | (simp; omega)); first | assumption | omega | (simp; omega)) | (apply aops_sliceFrom; exact rfl; exact rfl; exact rfl; exact rfl; (first | assumption | omega | exact Nat.succ_le_succ (Nat.zero_le _) | (simp; omega)); exact rfl))
        | (apply door_call; first | (apply aops_lenS; exact rfl; exact rfl; exact rfl) | (apply aops_lenL; exact rfl; exact rfl; exact rfl; exact rfl))
        | (apply door_fieldAddr; first | (apply aops_fieldAddr_bx; exact rfl; exact rfl; exact rfl) | (apply aops_fieldAddr_pp; exact rfl; exact rfl; exact rfl; exact rfl))
        | (apply door_store; first | (apply aops_store_mid; exact rfl; exact rfl; exact rfl; exact rfl; exact rfl; exact rfl; exact rfl; exact rfl; exact rfl; exact rfl; exact rfl) | (apply aops_store_loc; exact rfl; exact rfl; exact rfl; exact rfl; exact rfl; exact rfl; exact rfl; exact rfl; exact rfl; exact rfl; exact rfl))
        | (apply door_ops; first | apply aops_nil | apply aops_move | apply aops_assign | (apply aops_extract; exact rfl; exact rfl) | (apply aops_pick_any; exact rfl; first | (apply pk_dt; (first | assumption | omega)) | (apply pk_df; (first | assumption | omega)) | (apply pk_nt; (first | exact rfl | assumption)) | (apply pk_nf; (first | exact rfl | assumption)) | (apply pk_t; (first | exact rfl | assumption)) | (apply pk_f; (first | exact rfl | assumption))) | (apply aops_makeInterface; exact rfl; exact rfl) | apply aops_makeFunc | (apply aops_alloc; exact rfl; exact rfl) | (apply aops_box; exact rfl; exact rfl; exact rfl; exact rfl) | (apply aops_field; exact rfl; exact rfl; exact rfl) | (apply aops_idx; exact rfl; exact rfl; exact rfl; first | assumption | omega | (simp; omega)) | (apply aops_build; exact rfl; exact rfl; exact rfl) | (apply aops_buildSlice; exact rfl; exact rfl; exact rfl; exact rfl; exact rfl; exact rfl; exact rfl; exact rfl; exact rfl) | (apply aops_nilCheck; exact rfl; exact rfl) | (apply aops_indexA; exact rfl; exact rfl; exact rfl; exact rfl; (first | assumption | omega | decide); exact rfl) | (apply aops_indexAddrA; exact rfl; exact rfl; exact rfl; exact rfl; first | assumption | omega | decide))
        | (apply aops_call1; exact Tryz.call13; exact hen _))
      exact aret_plain rfl (ares_one rfl) ⟨rfl, _, rfl⟩
    obtain ⟨u, hu1, hu2⟩ := wrapU64_any cut
    have hm1 : u % s.length < s.length := Nat.mod_lt _ hpos
    have hle := lastEnd_le (s.take (u % s.length))
    rw [List.length_take] at hle
    have hwh : ∀ st, ACall E 29 [Sv s, Iv ((u % s.length : Nat) : Int)] st fun r st' => r = Iv (lastEnd (s.take (u % s.length)) : Nat) ∧ st' = st := fun st => whole_c s (u % s.length) st (by omega) (by omega)
    generalize lastEnd (s.take (u % s.length)) = n at hle hwh
    have hn : n < s.length := by omega
    have hdl : (s.take n).length < 1000000 := by rw [List.length_take]; omega
    have hde := fun st => decode_c (s.take n) st hdl
    cases hd : decF (s.take n) with
    | none =>
      rw [hd] at hde
      have hde2 : ∀ st, ACall E 9 [Sv (s.take n)] st fun r st' => r = .tu [editsA [], .ifc 31 (Iv 2)] ∧ st' = st := hde
      repeat' (first
        | (apply door_awp; first | apply awp_seq | apply awp_block | apply awp_region | (apply awp_cond_any; exact rfl; first | (apply cd_dt; (first | assumption | omega)) | (apply cd_df; (first | assumption | omega)) | (apply cd_nt; (first | exact rfl | assumption)) | (apply cd_nf; (first | exact rfl | assumption)) | (apply cd_n <;> intro h) | (apply cd_t; (first | exact rfl | assumption)) | (apply cd_f; (first | exact rfl | assumption)) | (apply cd_d <;> intro h) | (apply cd_s <;> intro h)) | (apply awp_draw; exact rfl; kernel_rfl) | apply awp_skip | apply awp_exit | apply awp_ret)
        | (apply door_guard; first | (apply aops_guard_any; exact rfl; exact rfl; exact rfl; exact rfl) | (apply aops_guard_undef; exact rfl; exact rfl; exact rfl; exact rfl))
        | (apply door_gd; first | (apply gd_run_d; (first | assumption | omega)) | (apply gd_run_n; (first | assumption | omega)) | (apply gd_skip_d; (first | assumption | omega)) | (apply gd_skip_n; (first | assumption | omega)) | (apply gd_run_nt; (first | exact rfl | assumption)) | (apply gd_run_nf; (first | exact rfl | assumption)) | (apply gd_skip_nt; (first | exact rfl | assumption)) | (apply gd_skip_nf; (first | exact rfl | assumption)) | (apply gd_split_n <;> intro h) | (apply gd_run_t; (first | exact rfl | assumption)) | (apply gd_run_f; (first | exact rfl | assumption)) | (apply gd_skip_t; (first | exact rfl | assumption)) | (apply gd_skip_f; (first | exact rfl | assumption)) | (apply gd_split_d <;> intro h) | (apply gd_split <;> intro h))
        | (apply door_aq; first | apply aq_nil | (apply aq_lenL; exact rfl; exact rfl; exact rfl; exact rfl) | (apply aq_sub; exact rfl; exact rfl; exact wrap_i64 (by omega) (by omega)) | (apply aq_span; exact rfl; exact rfl; exact rfl; exact rfl; (first | assumption | omega | (simp; omega)); first | assumption | omega | (simp; omega)) | (apply aq_load_mid; exact rfl; exact rfl; exact rfl; exact rfl; exact rfl) | (apply aq_concat; exact rfl; exact rfl; (first | omega | (simp only [List.length_append, List.length_cons, List.length_nil]; omega) | (simp; omega))) | (apply aq_load_pp; exact rfl; exact rfl; exact rfl) | (apply aq_load_loc; exact rfl; exact rfl; exact rfl; exact rfl; exact rfl) | (apply aq_fieldAddr_pp; exact rfl; exact rfl; exact rfl; exact rfl) | (apply aq_fieldAddr_bx; exact rfl; exact rfl; exact rfl) | (apply aq_idx; exact rfl; exact rfl; exact rfl; first | assumption | omega | (simp; omega)) | (apply aq_shr4; exact rfl; exact rfl) | (apply aq_and15; exact rfl; exact rfl) | (apply aq_convW; exact rfl; exact rfl; exact rfl; omega) | (apply aq_buildA; exact rfl; exact rfl; exact rfl) | apply aq_move | apply aq_assign | (apply aq_add; exact rfl; exact rfl; exact wrap_i64 (by omega) (by omega)) | (apply aq_lenS; exact rfl; exact rfl; exact rfl) | (apply aq_upto; exact rfl; exact rfl; exact rfl; first | assumption | omega | (simp; omega)) | (apply aq_from; exact rfl; exact rfl; exact rfl; first | assumption | omega | (simp; omega)) | (apply aq_extract; exact rfl; exact rfl))
        | (apply door_binOp; first | (apply aops_cmpI; exact rfl; exact rfl; exact rfl) | (apply aops_cmpS; exact rfl; exact rfl; exact rfl) | (apply aops_concat; exact rfl; exact rfl; (first | omega | (simp only [List.length_append, List.length_cons, List.length_nil]; omega) | (simp; omega))) | (apply aops_add; exact rfl; exact rfl; exact wrap_i64 (by omega) (by omega)) | (apply aops_sub; exact rfl; exact rfl; exact wrap_i64 (by omega) (by omega)) | (apply aops_errNeNil; exact rfl; exact rfl) | (apply aops_nilNeNil; exact rfl; exact rfl) | (apply aops_errEqNil; exact rfl; exact rfl) | (apply aops_nilEqNil; exact rfl; exact rfl) | (apply aops_ptrEqNil; exact rfl; exact rfl; exact rfl) | (apply aops_ptrNeNil; exact rfl; exact rfl; exact rfl) | (apply aops_xor32; exact rfl; exact rfl; (first | exact ofInt_toNat _ | exact rfl); first | exact ofInt_toNat _ | exact rfl) | (apply aops_and32; exact rfl; exact rfl; (first | exact ofInt_toNat _ | exact rfl); first | exact ofInt_toNat _ | exact rfl) | (apply aops_or32; exact rfl; exact rfl; (first | exact ofInt_toNat _ | exact rfl); first | exact ofInt_toNat _ | exact rfl) | (apply aops_shl32; exact rfl; exact rfl; exact rfl) | (apply aops_shr32; exact rfl; exact rfl; exact rfl))
        | (apply door_load; first | (apply aops_load_pp; exact rfl; exact rfl; exact rfl) | (apply aops_load_mid; exact rfl; exact rfl; exact rfl; exact rfl; exact rfl) | (apply aops_load_loc; exact rfl; exact rfl; exact rfl; exact rfl; exact rfl))
        | (apply door_unOp; first | (apply aops_not_d; exact rfl) | (apply aops_not; exact rfl) | (apply aops_compl32; exact rfl))
        | (apply door_slice; first | (apply aops_upto; exact rfl; exact rfl; exact rfl; first | assumption | omega | (simp; omega)) | (apply aops_from; exact rfl; exact rfl; exact rfl; first | assumption | omega | (simp; omega)) | (apply aops_span; exact rfl; exact rfl; exact rfl; exact rfl; (first | assumption | omega | (simp; omega)); first | assumption | omega | (simp; omega)) | (apply aops_sliceFrom; exact rfl; exact rfl; exact rfl; exact rfl; (first | assumption | omega | exact Nat.succ_le_succ (Nat.zero_le _) | (simp; omega)); exact rfl))
        | (apply door_call; first | (apply aops_lenS; exact rfl; exact rfl; exact rfl) | (apply aops_lenL; exact rfl; exact rfl; exact rfl; exact rfl))
        | (apply door_fieldAddr; first | (apply aops_fieldAddr_bx; exact rfl; exact rfl; exact rfl) | (apply aops_fieldAddr_pp; exact rfl; exact rfl; exact rfl; exact rfl))
        | (apply door_store; first | (apply aops_store_mid; exact rfl; exact rfl; exact rfl; exact rfl; exact rfl; exact rfl; exact rfl; exact rfl; exact rfl; exact rfl; exact rfl) | (apply aops_store_loc; exact rfl; exact rfl; exact rfl; exact rfl; exact rfl; exact rfl; exact rfl; exact rfl; exact rfl; exact rfl; exact rfl))
        | (apply door_ops; first | apply aops_nil | apply aops_move | apply aops_assign | (apply aops_extract; exact rfl; exact rfl) | (apply aops_pick_any; exact rfl; first | (apply pk_dt; (first | assumption | omega)) | (apply pk_df; (first | assumption | omega)) | (apply pk_nt; (first | exact rfl | assumption)) | (apply pk_nf; (first | exact rfl | assumption)) | (apply pk_t; (first | exact rfl | assumption)) | (apply pk_f; (first | exact rfl | assumption))) | (apply aops_makeInterface; exact rfl; exact rfl) | apply aops_makeFunc | (apply aops_alloc; exact rfl; exact rfl) | (apply aops_box; exact rfl; exact rfl; exact rfl; exact rfl) | (apply aops_field; exact rfl; exact rfl; exact rfl) | (apply aops_idx; exact rfl; exact rfl; exact rfl; first | assumption | omega | (simp; omega)) | (apply aops_build; exact rfl; exact rfl; exact rfl) | (apply aops_buildSlice; exact rfl; exact rfl; exact rfl; exact rfl; exact rfl; exact rfl; exact rfl; exact rfl; exact rfl) | (apply aops_nilCheck; exact rfl; exact rfl) | (apply aops_indexA; exact rfl; exact rfl; exact rfl; exact rfl; (first | assumption | omega | decide); exact rfl) | (apply aops_indexAddrA; exact rfl; exact rfl; exact rfl; exact rfl; first | assumption | omega | decide))
        | (apply aops_call1; exact Tryz.call13; exact hen _)
        | (apply aops_call1; exact Tryz.call29; exact hwh _)
        | (apply aops_call1; exact Tryz.call9; exact hde2 _)
        | (apply aops_convI; exact rfl; exact rfl; exact rfl; exact hu2)
        | (apply aops_convI; exact rfl; exact rfl; exact rfl; exact wrapU64 (by omega))
        | (apply aops_convI; exact rfl; exact rfl; exact rfl; exact wrap_i64 (by omega) (by omega))
        | (apply aops_remN; exact rfl; exact rfl; omega))
      exact aret_plain rfl (ares_one rfl) ⟨rfl, _, rfl⟩
    | some b' =>
      obtain ⟨⟨p, x, y, q, rfl, rfl, hk, hid, hfl, hfv⟩, hB'⟩ := hdc n b' hd
      rw [hd] at hde
      have hde2 : ∀ st, ACall E 9 [Sv (s.take n)] st fun r st' => r = .tu [editsA (p ++ [x]), .v .nilIface] ∧ st' = st := hde
      have hl1 : ((p ++ [x]).map editA).length = p.length + 1 := by simp
      have hl2 : ((p ++ y :: q).map editA).length = p.length + 1 + q.length := by simp; omega
      simp only [List.length_append, List.length_cons] at hb40
      have hgx : ((p ++ [x]).map editA)[p.length]? = some (editA x) := cut_get
      have hgy : ((p ++ y :: q).map editA)[p.length]? = some (editA y) := cut_get
      have hyf := (hA.2 y (by simp)).1
      have hed : ∀ st, ACall E 12 [editsA p, editsA p] st fun r st' => r = Bv true ∧ st' = st := fun st => by
        have := editsN_c p p st (by omega) (fun z hz => (hA.2 z (by simp [hz])).1)
        rw [sameE_t rfl] at this
        exact this
      have hmf : (x.fields.map fldA).length = x.fields.length := by simp
      have hmg : (y.fields.map fldA).length = y.fields.length := by simp
      repeat' (first
        | (apply door_awp; first | apply awp_seq | apply awp_block | apply awp_region | (apply awp_cond_any; exact rfl; first | (apply cd_dt; (first | assumption | omega)) | (apply cd_df; (first | assumption | omega)) | (apply cd_nt; (first | exact rfl | assumption)) | (apply cd_nf; (first | exact rfl | assumption)) | (apply cd_n <;> intro h) | (apply cd_t; (first | exact rfl | assumption)) | (apply cd_f; (first | exact rfl | assumption)) | (apply cd_d <;> intro h) | (apply cd_s <;> intro h)) | (apply awp_draw; exact rfl; kernel_rfl) | apply awp_skip | apply awp_exit | apply awp_ret)
        | (apply door_guard; first | (apply aops_guard_any; exact rfl; exact rfl; exact rfl; exact rfl) | (apply aops_guard_undef; exact rfl; exact rfl; exact rfl; exact rfl))
        | (apply door_gd; first | (apply gd_run_d; (first | assumption | omega)) | (apply gd_run_n; (first | assumption | omega)) | (apply gd_skip_d; (first | assumption | omega)) | (apply gd_skip_n; (first | assumption | omega)) | (apply gd_run_nt; (first | exact rfl | assumption)) | (apply gd_run_nf; (first | exact rfl | assumption)) | (apply gd_skip_nt; (first | exact rfl | assumption)) | (apply gd_skip_nf; (first | exact rfl | assumption)) | (apply gd_split_n <;> intro h) | (apply gd_run_t; (first | exact rfl | assumption)) | (apply gd_run_f; (first | exact rfl | assumption)) | (apply gd_skip_t; (first | exact rfl | assumption)) | (apply gd_skip_f; (first | exact rfl | assumption)) | (apply gd_split_d <;> intro h) | (apply gd_split <;> intro h))
        | (apply door_aq; first | apply aq_nil | (apply aq_lenL; exact rfl; exact rfl; exact rfl; exact rfl) | (apply aq_sub; exact rfl; exact rfl; exact wrap_i64 (by omega) (by omega)) | (apply aq_span; exact rfl; exact rfl; exact rfl; exact rfl; (first | assumption | omega | (simp; omega)); first | assumption | omega | (simp; omega)) | (apply aq_load_mid; exact rfl; exact rfl; exact rfl; exact rfl; exact rfl) | (apply aq_concat; exact rfl; exact rfl; (first | omega | (simp only [List.length_append, List.length_cons, List.length_nil]; omega) | (simp; omega))) | (apply aq_load_pp; exact rfl; exact rfl; exact rfl) | (apply aq_load_loc; exact rfl; exact rfl; exact rfl; exact rfl; exact rfl) | (apply aq_fieldAddr_pp; exact rfl; exact rfl; exact rfl; exact rfl) | (apply aq_fieldAddr_bx; exact rfl; exact rfl; exact rfl) | (apply aq_idx; exact rfl; exact rfl; exact rfl; first | assumption | omega | (simp; omega)) | (apply aq_shr4; exact rfl; exact rfl) | (apply aq_and15; exact rfl; exact rfl) | (apply aq_convW; exact rfl; exact rfl; exact rfl; omega) | (apply aq_buildA; exact rfl; exact rfl; exact rfl) | apply aq_move | apply aq_assign | (apply aq_add; exact rfl; exact rfl; exact wrap_i64 (by omega) (by omega)) | (apply aq_lenS; exact rfl; exact rfl; exact rfl) | (apply aq_upto; exact rfl; exact rfl; exact rfl; first | assumption | omega | (simp; omega)) | (apply aq_from; exact rfl; exact rfl; exact rfl; first | assumption | omega | (simp; omega)) | (apply aq_extract; exact rfl; exact rfl))
        | (apply door_binOp; first | (apply aops_cmpI; exact rfl; exact rfl; exact rfl) | (apply aops_cmpS; exact rfl; exact rfl; exact rfl) | (apply aops_concat; exact rfl; exact rfl; (first | omega | (simp only [List.length_append, List.length_cons, List.length_nil]; omega) | (simp; omega))) | (apply aops_add; exact rfl; exact rfl; exact wrap_i64 (by omega) (by omega)) | (apply aops_sub; exact rfl; exact rfl; exact wrap_i64 (by omega) (by omega)) | (apply aops_errNeNil; exact rfl; exact rfl) | (apply aops_nilNeNil; exact rfl; exact rfl) | (apply aops_errEqNil; exact rfl; exact rfl) | (apply aops_nilEqNil; exact rfl; exact rfl) | (apply aops_ptrEqNil; exact rfl; exact rfl; exact rfl) | (apply aops_ptrNeNil; exact rfl; exact rfl; exact rfl) | (apply aops_xor32; exact rfl; exact rfl; (first | exact ofInt_toNat _ | exact rfl); first | exact ofInt_toNat _ | exact rfl) | (apply aops_and32; exact rfl; exact rfl; (first | exact ofInt_toNat _ | exact rfl); first | exact ofInt_toNat _ | exact rfl) | (apply aops_or32; exact rfl; exact rfl; (first | exact ofInt_toNat _ | exact rfl); first | exact ofInt_toNat _ | exact rfl) | (apply aops_shl32; exact rfl; exact rfl; exact rfl) | (apply aops_shr32; exact rfl; exact rfl; exact rfl))
        | (apply door_load; first | (apply aops_load_pp; exact rfl; exact rfl; exact rfl) | (apply aops_load_mid; exact rfl; exact rfl; exact rfl; exact rfl; exact rfl) | (apply aops_load_loc; exact rfl; exact rfl; exact rfl; exact rfl; exact rfl))
        | (apply door_unOp; first | (apply aops_not_d; exact rfl) | (apply aops_not; exact rfl) | (apply aops_compl32; exact rfl))
        | (apply door_slice; first | (apply aops_upto; exact rfl; exact rfl; exact rfl; first | assumption | omega | (simp; omega)) | (apply aops_from; exact rfl; exact rfl; exact rfl; first | assumption | omega | (simp; omega)) | (apply aops_span; exact rfl; exact rfl; exact rfl; exact rfl; (first | assumption | omega | (simp; omega)); first | assumption | omega | (simp; omega)) | (apply aops_sliceFrom; exact rfl; exact rfl; exact rfl; exact rfl; (first | assumption | omega | exact Nat.succ_le_succ (Nat.zero_le _) | (simp; omega)); exact rfl))
        | (apply door_call; first | (apply aops_lenS; exact rfl; exact rfl; exact rfl) | (apply aops_lenL; exact rfl; exact rfl; exact rfl; exact rfl))
        | (apply door_fieldAddr; first | (apply aops_fieldAddr_bx; exact rfl; exact rfl; exact rfl) | (apply aops_fieldAddr_pp; exact rfl; exact rfl; exact rfl; exact rfl))
        | (apply door_store; first | (apply aops_store_mid; exact rfl; exact rfl; exact rfl; exact rfl; exact rfl; exact rfl; exact rfl; exact rfl; exact rfl; exact rfl; exact rfl) | (apply aops_store_loc; exact rfl; exact rfl; exact rfl; exact rfl; exact rfl; exact rfl; exact rfl; exact rfl; exact rfl; exact rfl; exact rfl))
        | (apply door_ops; first | apply aops_nil | apply aops_move | apply aops_assign | (apply aops_extract; exact rfl; exact rfl) | (apply aops_pick_any; exact rfl; first | (apply pk_dt; (first | assumption | omega)) | (apply pk_df; (first | assumption | omega)) | (apply pk_nt; (first | exact rfl | assumption)) | (apply pk_nf; (first | exact rfl | assumption)) | (apply pk_t; (first | exact rfl | assumption)) | (apply pk_f; (first | exact rfl | assumption))) | (apply aops_makeInterface; exact rfl; exact rfl) | apply aops_makeFunc | (apply aops_alloc; exact rfl; exact rfl) | (apply aops_box; exact rfl; exact rfl; exact rfl; exact rfl) | (apply aops_field; exact rfl; exact rfl; exact rfl) | (apply aops_idx; exact rfl; exact rfl; exact rfl; first | assumption | omega | (simp; omega)) | (apply aops_build; exact rfl; exact rfl; exact rfl) | (apply aops_buildSlice; exact rfl; exact rfl; exact rfl; exact rfl; exact rfl; exact rfl; exact rfl; exact rfl; exact rfl) | (apply aops_nilCheck; exact rfl; exact rfl) | (apply aops_indexA; exact rfl; exact rfl; exact rfl; exact rfl; (first | assumption | omega | decide); exact rfl) | (apply aops_indexAddrA; exact rfl; exact rfl; exact rfl; exact rfl; first | assumption | omega | decide))
        | (apply aops_call1; exact Tryz.call13; exact hen _)
        | (apply aops_call1; exact Tryz.call29; exact hwh _)
        | (apply aops_call1; exact Tryz.call9; exact hde2 _)
        | (apply aops_convI; exact rfl; exact rfl; exact rfl; exact hu2)
        | (apply aops_convI; exact rfl; exact rfl; exact rfl; exact wrapU64 (by omega))
        | (apply aops_convI; exact rfl; exact rfl; exact rfl; exact wrap_i64 (by omega) (by omega))
        | (apply aops_remN; exact rfl; exact rfl; omega)
        | (apply aq_sliceUp (j := p.length); exact rfl; exact (congrArg Iv (by omega)); exact rfl; exact rfl; (simp; try omega); exact cut_take)
        | (refine aq_callP (args := [editsA p, editsA p]) env_okB Tryz.call12 rfl pure_ee (sure_v _) (fun _ => .v _) (hed _) ?_)
        | (apply aq_not; exact rfl)
        | (apply aq_indexAddr (n := p.length); exact rfl; exact rfl; exact rfl; exact rfl; omega; (first | exact hgx | exact hgy))
        | (apply aops_indexAddr (n := p.length); exact rfl; exact rfl; exact rfl; exact rfl; omega; (first | exact hgx | exact hgy))
        | (apply aq_neI_f; exact rfl; exact rfl; (first | exact hk | exact hid))
        | (apply aq_cmpI (b := false); exact rfl; exact rfl; (simp only [cmpI, Option.some.injEq, decide_eq_false_iff_not]; omega))
        | (apply aq_guard_run; exact rfl; exact rfl; exact rfl; exact rfl; exact rfl)
        | (apply aq_guard_skip; exact rfl; exact rfl; exact rfl; exact rfl; exact rfl)
        | (apply aq_pick_t; exact rfl; exact rfl)
        | (apply aq_pick_f; exact rfl; exact rfl))
      refine awp_loopG (fun (k : Nat) z => k ≤ x.fields.length ∧ StE [(0, editsA (p ++ y :: q)), (9, Iv p.length), (129, fldsA x.fields), (130, Iv x.fields.length), (131, Iv k)] st [] z) (fun k => x.fields.length - k) 0 ⟨by omega, stE_mk0 ⟨rfl, congrArg Iv (by omega), rfl, congrArg (fun n : Nat => Iv (n : Int)) hmf, rfl, trivial⟩ rfl⟩ ?_
      rintro k _ ⟨hk', t, ext, rfl⟩
      by_cases hc : k < x.fields.length
      · obtain ⟨hv1, hv2⟩ := hfv k hc
        have hv3 := hv2.length_le
        have hv4 := List.prefix_iff_eq_take.1 hv2
        have hne1 : cmpS .neq (x.fields.getD k ([], [])).1 (y.fields.getD k ([], [])).1 = some false := by rw [hv1]; simp [cmpS]
        have hne2 : cmpS .neq (x.fields.getD k ([], [])).2 ((y.fields.getD k ([], [])).2.take (x.fields.getD k ([], [])).2.length) = some false := by
          rw [← hv4]
          simp [cmpS]
        repeat' (first
          | (apply door_awp; first | apply awp_seq | apply awp_block | apply awp_region | (apply awp_cond_any; exact rfl; first | (apply cd_dt; (first | assumption | omega)) | (apply cd_df; (first | assumption | omega)) | (apply cd_nt; (first | exact rfl | assumption)) | (apply cd_nf; (first | exact rfl | assumption)) | (apply cd_n <;> intro h) | (apply cd_t; (first | exact rfl | assumption)) | (apply cd_f; (first | exact rfl | assumption)) | (apply cd_d <;> intro h) | (apply cd_s <;> intro h)) | (apply awp_draw; exact rfl; kernel_rfl) | apply awp_skip | apply awp_exit | apply awp_ret)
          | (apply door_guard; first | (apply aops_guard_any; exact rfl; exact rfl; exact rfl; exact rfl) | (apply aops_guard_undef; exact rfl; exact rfl; exact rfl; exact rfl))
          | (apply door_gd; first | (apply gd_run_d; (first | assumption | omega)) | (apply gd_run_n; (first | assumption | omega)) | (apply gd_skip_d; (first | assumption | omega)) | (apply gd_skip_n; (first | assumption | omega)) | (apply gd_run_nt; (first | exact rfl | assumption)) | (apply gd_run_nf; (first | exact rfl | assumption)) | (apply gd_skip_nt; (first | exact rfl | assumption)) | (apply gd_skip_nf; (first | exact rfl | assumption)) | (apply gd_split_n <;> intro h) | (apply gd_run_t; (first | exact rfl | assumption)) | (apply gd_run_f; (first | exact rfl | assumption)) | (apply gd_skip_t; (first | exact rfl | assumption)) | (apply gd_skip_f; (first | exact rfl | assumption)) | (apply gd_split_d <;> intro h) | (apply gd_split <;> intro h))
          | (apply door_aq; first | apply aq_nil | (apply aq_lenL; exact rfl; exact rfl; exact rfl; exact rfl) | (apply aq_sub; exact rfl; exact rfl; exact wrap_i64 (by omega) (by omega)) | (apply aq_span; exact rfl; exact rfl; exact rfl; exact rfl; (first | assumption | omega | (simp; omega)); first | assumption | omega | (simp; omega)) | (apply aq_load_mid; exact rfl; exact rfl; exact rfl; exact rfl; exact rfl) | (apply aq_concat; exact rfl; exact rfl; (first | omega | (simp only [List.length_append, List.length_cons, List.length_nil]; omega) | (simp; omega))) | (apply aq_load_pp; exact rfl; exact rfl; exact rfl) | (apply aq_load_loc; exact rfl; exact rfl; exact rfl; exact rfl; exact rfl) | (apply aq_fieldAddr_pp; exact rfl; exact rfl; exact rfl; exact rfl) | (apply aq_fieldAddr_bx; exact rfl; exact rfl; exact rfl) | (apply aq_idx; exact rfl; exact rfl; exact rfl; first | assumption | omega | (simp; omega)) | (apply aq_shr4; exact rfl; exact rfl) | (apply aq_and15; exact rfl; exact rfl) | (apply aq_convW; exact rfl; exact rfl; exact rfl; omega) | (apply aq_buildA; exact rfl; exact rfl; exact rfl) | apply aq_move | apply aq_assign | (apply aq_add; exact rfl; exact rfl; exact wrap_i64 (by omega) (by omega)) | (apply aq_lenS; exact rfl; exact rfl; exact rfl) | (apply aq_upto; exact rfl; exact rfl; exact rfl; first | assumption | omega | (simp; omega)) | (apply aq_from; exact rfl; exact rfl; exact rfl; first | assumption | omega | (simp; omega)) | (apply aq_extract; exact rfl; exact rfl))
          | (apply door_binOp; first | (apply aops_cmpI; exact rfl; exact rfl; exact rfl) | (apply aops_cmpS; exact rfl; exact rfl; exact rfl) | (apply aops_concat; exact rfl; exact rfl; (first | omega | (simp only [List.length_append, List.length_cons, List.length_nil]; omega) | (simp; omega))) | (apply aops_add; exact rfl; exact rfl; exact wrap_i64 (by omega) (by omega)) | (apply aops_sub; exact rfl; exact rfl; exact wrap_i64 (by omega) (by omega)) | (apply aops_errNeNil; exact rfl; exact rfl) | (apply aops_nilNeNil; exact rfl; exact rfl) | (apply aops_errEqNil; exact rfl; exact rfl) | (apply aops_nilEqNil; exact rfl; exact rfl) | (apply aops_ptrEqNil; exact rfl; exact rfl; exact rfl) | (apply aops_ptrNeNil; exact rfl; exact rfl; exact rfl) | (apply aops_xor32; exact rfl; exact rfl; (first | exact ofInt_toNat _ | exact rfl); first | exact ofInt_toNat _ | exact rfl) | (apply aops_and32; exact rfl; exact rfl; (first | exact ofInt_toNat _ | exact rfl); first | exact ofInt_toNat _ | exact rfl) | (apply aops_or32; exact rfl; exact rfl; (first | exact ofInt_toNat _ | exact rfl); first | exact ofInt_toNat _ | exact rfl) | (apply aops_shl32; exact rfl; exact rfl; exact rfl) | (apply aops_shr32; exact rfl; exact rfl; exact rfl))
          | (apply door_load; first | (apply aops_load_pp; exact rfl; exact rfl; exact rfl) | (apply aops_load_mid; exact rfl; exact rfl; exact rfl; exact rfl; exact rfl) | (apply aops_load_loc; exact rfl; exact rfl; exact rfl; exact rfl; exact rfl))
          | (apply door_unOp; first | (apply aops_not_d; exact rfl) | (apply aops_not; exact rfl) | (apply aops_compl32; exact rfl))
          | (apply door_slice; first | (apply aops_upto; exact rfl; exact rfl; exact rfl; first | assumption | omega | (simp; omega)) | (apply aops_from; exact rfl; exact rfl; exact rfl; first | assumption | omega | (simp; omega)) | (apply aops_span; exact rfl; exact rfl; exact rfl; exact rfl; (first | assumption | omega | (simp; omega)); first | assumption | omega | (simp; omega)) | (apply aops_sliceFrom; exact rfl; exact rfl; exact rfl; exact rfl; (first | assumption | omega | exact Nat.succ_le_succ (Nat.zero_le _) | (simp; omega)); exact rfl))
          | (apply door_call; first | (apply aops_lenS; exact rfl; exact rfl; exact rfl) | (apply aops_lenL; exact rfl; exact rfl; exact rfl; exact rfl))
          | (apply door_fieldAddr; first | (apply aops_fieldAddr_bx; exact rfl; exact rfl; exact rfl) | (apply aops_fieldAddr_pp; exact rfl; exact rfl; exact rfl; exact rfl))
          | (apply door_store; first | (apply aops_store_mid; exact rfl; exact rfl; exact rfl; exact rfl; exact rfl; exact rfl; exact rfl; exact rfl; exact rfl; exact rfl; exact rfl) | (apply aops_store_loc; exact rfl; exact rfl; exact rfl; exact rfl; exact rfl; exact rfl; exact rfl; exact rfl; exact rfl; exact rfl; exact rfl))
          | (apply door_ops; first | apply aops_nil | apply aops_move | apply aops_assign | (apply aops_extract; exact rfl; exact rfl) | (apply aops_pick_any; exact rfl; first | (apply pk_dt; (first | assumption | omega)) | (apply pk_df; (first | assumption | omega)) | (apply pk_nt; (first | exact rfl | assumption)) | (apply pk_nf; (first | exact rfl | assumption)) | (apply pk_t; (first | exact rfl | assumption)) | (apply pk_f; (first | exact rfl | assumption))) | (apply aops_makeInterface; exact rfl; exact rfl) | apply aops_makeFunc | (apply aops_alloc; exact rfl; exact rfl) | (apply aops_box; exact rfl; exact rfl; exact rfl; exact rfl) | (apply aops_field; exact rfl; exact rfl; exact rfl) | (apply aops_idx; exact rfl; exact rfl; exact rfl; first | assumption | omega | (simp; omega)) | (apply aops_build; exact rfl; exact rfl; exact rfl) | (apply aops_buildSlice; exact rfl; exact rfl; exact rfl; exact rfl; exact rfl; exact rfl; exact rfl; exact rfl; exact rfl) | (apply aops_nilCheck; exact rfl; exact rfl) | (apply aops_indexA; exact rfl; exact rfl; exact rfl; exact rfl; (first | assumption | omega | decide); exact rfl) | (apply aops_indexAddrA; exact rfl; exact rfl; exact rfl; exact rfl; first | assumption | omega | decide))
          | (apply aops_indexAddr (n := k); exact rfl; exact rfl; exact rfl; exact rfl; exact rfl; exact flds_get (xs := x.fields) (by omega))
          | (apply aops_indexAddr (n := p.length); exact rfl; exact rfl; exact rfl; exact rfl; exact rfl; exact hgy)
          | (apply aops_indexAddr (n := k); exact rfl; exact rfl; exact rfl; exact rfl; exact rfl; exact flds_get (xs := y.fields) (by omega))
          | (apply aq_load_loc; exact rfl; exact rfl; exact rfl; exact rfl; exact rfl)
          | (apply aq_cmpS (b := false); exact rfl; exact rfl; (first | exact hne1 | exact hne2))
          | (apply aq_cmpI (b := false); exact rfl; exact rfl; (simp only [cmpI, Option.some.injEq, decide_eq_false_iff_not]; omega))
          | (apply aq_upto; exact rfl; exact rfl; exact rfl; omega)
          | (apply aq_guard_run; exact rfl; exact rfl; exact rfl; exact rfl; exact rfl)
          | (apply aq_guard_skip; exact rfl; exact rfl; exact rfl; exact rfl; exact rfl)
          | (apply aq_pick_t; exact rfl; exact rfl)
          | (apply aq_pick_f; exact rfl; exact rfl))
        exact ⟨k + 1, ⟨by omega, stE_mk ⟨rfl, rfl, rfl, rfl, rfl, trivial⟩ rfl⟩, by omega⟩
      · skip
        repeat' (first
          | (apply door_awp; first | apply awp_seq | apply awp_block | apply awp_region | (apply awp_cond_any; exact rfl; first | (apply cd_dt; (first | assumption | omega)) | (apply cd_df; (first | assumption | omega)) | (apply cd_nt; (first | exact rfl | assumption)) | (apply cd_nf; (first | exact rfl | assumption)) | (apply cd_n <;> intro h) | (apply cd_t; (first | exact rfl | assumption)) | (apply cd_f; (first | exact rfl | assumption)) | (apply cd_d <;> intro h) | (apply cd_s <;> intro h)) | (apply awp_draw; exact rfl; kernel_rfl) | apply awp_skip | apply awp_exit | apply awp_ret)
          | (apply door_guard; first | (apply aops_guard_any; exact rfl; exact rfl; exact rfl; exact rfl) | (apply aops_guard_undef; exact rfl; exact rfl; exact rfl; exact rfl))
          | (apply door_gd; first | (apply gd_run_d; (first | assumption | omega)) | (apply gd_run_n; (first | assumption | omega)) | (apply gd_skip_d; (first | assumption | omega)) | (apply gd_skip_n; (first | assumption | omega)) | (apply gd_run_nt; (first | exact rfl | assumption)) | (apply gd_run_nf; (first | exact rfl | assumption)) | (apply gd_skip_nt; (first | exact rfl | assumption)) | (apply gd_skip_nf; (first | exact rfl | assumption)) | (apply gd_split_n <;> intro h) | (apply gd_run_t; (first | exact rfl | assumption)) | (apply gd_run_f; (first | exact rfl | assumption)) | (apply gd_skip_t; (first | exact rfl | assumption)) | (apply gd_skip_f; (first | exact rfl | assumption)) | (apply gd_split_d <;> intro h) | (apply gd_split <;> intro h))
          | (apply door_aq; first | apply aq_nil | (apply aq_lenL; exact rfl; exact rfl; exact rfl; exact rfl) | (apply aq_sub; exact rfl; exact rfl; exact wrap_i64 (by omega) (by omega)) | (apply aq_span; exact rfl; exact rfl; exact rfl; exact rfl; (first | assumption | omega | (simp; omega)); first | assumption | omega | (simp; omega)) | (apply aq_load_mid; exact rfl; exact rfl; exact rfl; exact rfl; exact rfl) | (apply aq_concat; exact rfl; exact rfl; (first | omega | (simp only [List.length_append, List.length_cons, List.length_nil]; omega) | (simp; omega))) | (apply aq_load_pp; exact rfl; exact rfl; exact rfl) | (apply aq_load_loc; exact rfl; exact rfl; exact rfl; exact rfl; exact rfl) | (apply aq_fieldAddr_pp; exact rfl; exact rfl; exact rfl; exact rfl) | (apply aq_fieldAddr_bx; exact rfl; exact rfl; exact rfl) | (apply aq_idx; exact rfl; exact rfl; exact rfl; first | assumption | omega | (simp; omega)) | (apply aq_shr4; exact rfl; exact rfl) | (apply aq_and15; exact rfl; exact rfl) | (apply aq_convW; exact rfl; exact rfl; exact rfl; omega) | (apply aq_buildA; exact rfl; exact rfl; exact rfl) | apply aq_move | apply aq_assign | (apply aq_add; exact rfl; exact rfl; exact wrap_i64 (by omega) (by omega)) | (apply aq_lenS; exact rfl; exact rfl; exact rfl) | (apply aq_upto; exact rfl; exact rfl; exact rfl; first | assumption | omega | (simp; omega)) | (apply aq_from; exact rfl; exact rfl; exact rfl; first | assumption | omega | (simp; omega)) | (apply aq_extract; exact rfl; exact rfl))
          | (apply door_binOp; first | (apply aops_cmpI; exact rfl; exact rfl; exact rfl) | (apply aops_cmpS; exact rfl; exact rfl; exact rfl) | (apply aops_concat; exact rfl; exact rfl; (first | omega | (simp only [List.length_append, List.length_cons, List.length_nil]; omega) | (simp; omega))) | (apply aops_add; exact rfl; exact rfl; exact wrap_i64 (by omega) (by omega)) | (apply aops_sub; exact rfl; exact rfl; exact wrap_i64 (by omega) (by omega)) | (apply aops_errNeNil; exact rfl; exact rfl) | (apply aops_nilNeNil; exact rfl; exact rfl) | (apply aops_errEqNil; exact rfl; exact rfl) | (apply aops_nilEqNil; exact rfl; exact rfl) | (apply aops_ptrEqNil; exact rfl; exact rfl; exact rfl) | (apply aops_ptrNeNil; exact rfl; exact rfl; exact rfl) | (apply aops_xor32; exact rfl; exact rfl; (first | exact ofInt_toNat _ | exact rfl); first | exact ofInt_toNat _ | exact rfl) | (apply aops_and32; exact rfl; exact rfl; (first | exact ofInt_toNat _ | exact rfl); first | exact ofInt_toNat _ | exact rfl) | (apply aops_or32; exact rfl; exact rfl; (first | exact ofInt_toNat _ | exact rfl); first | exact ofInt_toNat _ | exact rfl) | (apply aops_shl32; exact rfl; exact rfl; exact rfl) | (apply aops_shr32; exact rfl; exact rfl; exact rfl))
          | (apply door_load; first | (apply aops_load_pp; exact rfl; exact rfl; exact rfl) | (apply aops_load_mid; exact rfl; exact rfl; exact rfl; exact rfl; exact rfl) | (apply aops_load_loc; exact rfl; exact rfl; exact rfl; exact rfl; exact rfl))
          | (apply door_unOp; first | (apply aops_not_d; exact rfl) | (apply aops_not; exact rfl) | (apply aops_compl32; exact rfl))
          | (apply door_slice; first | (apply aops_upto; exact rfl; exact rfl; exact rfl; first | assumption | omega | (simp; omega)) | (apply aops_from; exact rfl; exact rfl; exact rfl; first | assumption | omega | (simp; omega)) | (apply aops_span; exact rfl; exact rfl; exact rfl; exact rfl; (first | assumption | omega | (simp; omega)); first | assumption | omega | (simp; omega)) | (apply aops_sliceFrom; exact rfl; exact rfl; exact rfl; exact rfl; (first | assumption | omega | exact Nat.succ_le_succ (Nat.zero_le _) | (simp; omega)); exact rfl))
          | (apply door_call; first | (apply aops_lenS; exact rfl; exact rfl; exact rfl) | (apply aops_lenL; exact rfl; exact rfl; exact rfl; exact rfl))
          | (apply door_fieldAddr; first | (apply aops_fieldAddr_bx; exact rfl; exact rfl; exact rfl) | (apply aops_fieldAddr_pp; exact rfl; exact rfl; exact rfl; exact rfl))
          | (apply door_store; first | (apply aops_store_mid; exact rfl; exact rfl; exact rfl; exact rfl; exact rfl; exact rfl; exact rfl; exact rfl; exact rfl; exact rfl; exact rfl) | (apply aops_store_loc; exact rfl; exact rfl; exact rfl; exact rfl; exact rfl; exact rfl; exact rfl; exact rfl; exact rfl; exact rfl; exact rfl))
          | (apply door_ops; first | apply aops_nil | apply aops_move | apply aops_assign | (apply aops_extract; exact rfl; exact rfl) | (apply aops_pick_any; exact rfl; first | (apply pk_dt; (first | assumption | omega)) | (apply pk_df; (first | assumption | omega)) | (apply pk_nt; (first | exact rfl | assumption)) | (apply pk_nf; (first | exact rfl | assumption)) | (apply pk_t; (first | exact rfl | assumption)) | (apply pk_f; (first | exact rfl | assumption))) | (apply aops_makeInterface; exact rfl; exact rfl) | apply aops_makeFunc | (apply aops_alloc; exact rfl; exact rfl) | (apply aops_box; exact rfl; exact rfl; exact rfl; exact rfl) | (apply aops_field; exact rfl; exact rfl; exact rfl) | (apply aops_idx; exact rfl; exact rfl; exact rfl; first | assumption | omega | (simp; omega)) | (apply aops_build; exact rfl; exact rfl; exact rfl) | (apply aops_buildSlice; exact rfl; exact rfl; exact rfl; exact rfl; exact rfl; exact rfl; exact rfl; exact rfl; exact rfl) | (apply aops_nilCheck; exact rfl; exact rfl) | (apply aops_indexA; exact rfl; exact rfl; exact rfl; exact rfl; (first | assumption | omega | decide); exact rfl) | (apply aops_indexAddrA; exact rfl; exact rfl; exact rfl; exact rfl; first | assumption | omega | decide)))
        exact aret_plain rfl (ares_one rfl) ⟨rfl, ext_end _ _ _ _⟩
  · have h0 : (eErr b).code ≠ 0 := fun h => he ((eErr_code b).1 h)
    cases hg : eErr b with
    | no => exact absurd hg he
    | num n =>
      repeat' (first
        | (apply door_awp; first | apply awp_seq | apply awp_block | apply awp_region | (apply awp_cond_any; exact rfl; first | (apply cd_dt; (first | assumption | omega)) | (apply cd_df; (first | assumption | omega)) | (apply cd_nt; (first | exact rfl | assumption)) | (apply cd_nf; (first | exact rfl | assumption)) | (apply cd_n <;> intro h) | (apply cd_t; (first | exact rfl | assumption)) | (apply cd_f; (first | exact rfl | assumption)) | (apply cd_d <;> intro h) | (apply cd_s <;> intro h)) | (apply awp_draw; exact rfl; kernel_rfl) | apply awp_skip | apply awp_exit | apply awp_ret)
        | (apply door_guard; first | (apply aops_guard_any; exact rfl; exact rfl; exact rfl; exact rfl) | (apply aops_guard_undef; exact rfl; exact rfl; exact rfl; exact rfl))
        | (apply door_gd; first | (apply gd_run_d; (first | assumption | omega)) | (apply gd_run_n; (first | assumption | omega)) | (apply gd_skip_d; (first | assumption | omega)) | (apply gd_skip_n; (first | assumption | omega)) | (apply gd_run_nt; (first | exact rfl | assumption)) | (apply gd_run_nf; (first | exact rfl | assumption)) | (apply gd_skip_nt; (first | exact rfl | assumption)) | (apply gd_skip_nf; (first | exact rfl | assumption)) | (apply gd_split_n <;> intro h) | (apply gd_run_t; (first | exact rfl | assumption)) | (apply gd_run_f; (first | exact rfl | assumption)) | (apply gd_skip_t; (first | exact rfl | assumption)) | (apply gd_skip_f; (first | exact rfl | assumption)) | (apply gd_split_d <;> intro h) | (apply gd_split <;> intro h))
        | (apply door_aq; first | apply aq_nil | (apply aq_lenL; exact rfl; exact rfl; exact rfl; exact rfl) | (apply aq_sub; exact rfl; exact rfl; exact wrap_i64 (by omega) (by omega)) | (apply aq_span; exact rfl; exact rfl; exact rfl; exact rfl; (first | assumption | omega | (simp; omega)); first | assumption | omega | (simp; omega)) | (apply aq_load_mid; exact rfl; exact rfl; exact rfl; exact rfl; exact rfl) | (apply aq_concat; exact rfl; exact rfl; (first | omega | (simp only [List.length_append, List.length_cons, List.length_nil]; omega) | (simp; omega))) | (apply aq_load_pp; exact rfl; exact rfl; exact rfl) | (apply aq_load_loc; exact rfl; exact rfl; exact rfl; exact rfl; exact rfl) | (apply aq_fieldAddr_pp; exact rfl; exact rfl; exact rfl; exact rfl) | (apply aq_fieldAddr_bx; exact rfl; exact rfl; exact rfl) | (apply aq_idx; exact rfl; exact rfl; exact rfl; first | assumption | omega | (simp; omega)) | (apply aq_shr4; exact rfl; exact rfl) | (apply aq_and15; exact rfl; exact rfl) | (apply aq_convW; exact rfl; exact rfl; exact rfl; omega) | (apply aq_buildA; exact rfl; exact rfl; exact rfl) | apply aq_move | apply aq_assign | (apply aq_add; exact rfl; exact rfl; exact wrap_i64 (by omega) (by omega)) | (apply aq_lenS; exact rfl; exact rfl; exact rfl) | (apply aq_upto; exact rfl; exact rfl; exact rfl; first | assumption | omega | (simp; omega)) | (apply aq_from; exact rfl; exact rfl; exact rfl; first | assumption | omega | (simp; omega)) | (apply aq_extract; exact rfl; exact rfl))
        | (apply door_binOp; first | (apply aops_cmpI; exact rfl; exact rfl; exact rfl) | (apply aops_cmpS; exact rfl; exact rfl; exact rfl) | (apply aops_concat; exact rfl; exact rfl; (first | omega | (simp only [List.length_append, List.length_cons, List.length_nil]; omega) | (simp; omega))) | (apply aops_add; exact rfl; exact rfl; exact wrap_i64 (by omega) (by omega)) | (apply aops_sub; exact rfl; exact rfl; exact wrap_i64 (by omega) (by omega)) | (apply aops_errNeNil; exact rfl; exact rfl) | (apply aops_nilNeNil; exact rfl; exact rfl) | (apply aops_errEqNil; exact rfl; exact rfl) | (apply aops_nilEqNil; exact rfl; exact rfl) | (apply aops_ptrEqNil; exact rfl; exact rfl; exact rfl) | (apply aops_ptrNeNil; exact rfl; exact rfl; exact rfl) | (apply aops_xor32; exact rfl; exact rfl; (first | exact ofInt_toNat _ | exact rfl); first | exact ofInt_toNat _ | exact rfl) | (apply aops_and32; exact rfl; exact rfl; (first | exact ofInt_toNat _ | exact rfl); first | exact ofInt_toNat _ | exact rfl) | (apply aops_or32; exact rfl; exact rfl; (first | exact ofInt_toNat _ | exact rfl); first | exact ofInt_toNat _ | exact rfl) | (apply aops_shl32; exact rfl; exact rfl; exact rfl) | (apply aops_shr32; exact rfl; exact rfl; exact rfl))
        | (apply door_load; first | (apply aops_load_pp; exact rfl; exact rfl; exact rfl) | (apply aops_load_mid; exact rfl; exact rfl; exact rfl; exact rfl; exact rfl) | (apply aops_load_loc; exact rfl; exact rfl; exact rfl; exact rfl; exact rfl))
        | (apply door_unOp; first | (apply aops_not_d; exact rfl) | (apply aops_not; exact rfl) | (apply aops_compl32; exact rfl))
        | (apply door_slice; first | (apply aops_upto; exact rfl; exact rfl; exact rfl; first | assumption | omega | (simp; omega)) | (apply aops_from; exact rfl; exact rfl; exact rfl; first | assumption | omega | (simp; omega)) | (apply aops_span; exact rfl; exact rfl; exact rfl; exact rfl; (first | assumption | omega | (simp; omega)); first | assumption | omega | (simp; omega)) | (apply aops_sliceFrom; exact rfl; exact rfl; exact rfl; exact rfl; (first | assumption | omega | exact Nat.succ_le_succ (Nat.zero_le _) | (simp; omega)); exact rfl))
        | (apply door_call; first | (apply aops_lenS; exact rfl; exact rfl; exact rfl) | (apply aops_lenL; exact rfl; exact rfl; exact rfl; exact rfl))
        | (apply door_fieldAddr; first | (apply aops_fieldAddr_bx; exact rfl; exact rfl; exact rfl) | (apply aops_fieldAddr_pp; exact rfl; exact rfl; exact rfl; exact rfl))
        | (apply door_store; first | (apply aops_store_mid; exact rfl; exact rfl; exact rfl; exact rfl; exact rfl; exact rfl; exact rfl; exact rfl; exact rfl; exact rfl; exact rfl) | (apply aops_store_loc; exact rfl; exact rfl; exact rfl; exact rfl; exact rfl; exact rfl; exact rfl; exact rfl; exact rfl; exact rfl; exact rfl))
        | (apply door_ops; first | apply aops_nil | apply aops_move | apply aops_assign | (apply aops_extract; exact rfl; exact rfl) | (apply aops_pick_any; exact rfl; first | (apply pk_dt; (first | assumption | omega)) | (apply pk_df; (first | assumption | omega)) | (apply pk_nt; (first | exact rfl | assumption)) | (apply pk_nf; (first | exact rfl | assumption)) | (apply pk_t; (first | exact rfl | assumption)) | (apply pk_f; (first | exact rfl | assumption))) | (apply aops_makeInterface; exact rfl; exact rfl) | apply aops_makeFunc | (apply aops_alloc; exact rfl; exact rfl) | (apply aops_box; exact rfl; exact rfl; exact rfl; exact rfl) | (apply aops_field; exact rfl; exact rfl; exact rfl) | (apply aops_idx; exact rfl; exact rfl; exact rfl; first | assumption | omega | (simp; omega)) | (apply aops_build; exact rfl; exact rfl; exact rfl) | (apply aops_buildSlice; exact rfl; exact rfl; exact rfl; exact rfl; exact rfl; exact rfl; exact rfl; exact rfl; exact rfl) | (apply aops_nilCheck; exact rfl; exact rfl) | (apply aops_indexA; exact rfl; exact rfl; exact rfl; exact rfl; (first | assumption | omega | decide); exact rfl) | (apply aops_indexAddrA; exact rfl; exact rfl; exact rfl; exact rfl; first | assumption | omega | decide))
        | (apply aops_call1; exact Tryz.call13; exact encode1_c b _ (.num n) hB hA.1 hg (by rw [← hg]; exact h0)))
      exact aret_plain rfl (ares_one rfl) ⟨rfl, _, rfl⟩
    | at' i n =>
      repeat' (first
        | (apply door_awp; first | apply awp_seq | apply awp_block | apply awp_region | (apply awp_cond_any; exact rfl; first | (apply cd_dt; (first | assumption | omega)) | (apply cd_df; (first | assumption | omega)) | (apply cd_nt; (first | exact rfl | assumption)) | (apply cd_nf; (first | exact rfl | assumption)) | (apply cd_n <;> intro h) | (apply cd_t; (first | exact rfl | assumption)) | (apply cd_f; (first | exact rfl | assumption)) | (apply cd_d <;> intro h) | (apply cd_s <;> intro h)) | (apply awp_draw; exact rfl; kernel_rfl) | apply awp_skip | apply awp_exit | apply awp_ret)
        | (apply door_guard; first | (apply aops_guard_any; exact rfl; exact rfl; exact rfl; exact rfl) | (apply aops_guard_undef; exact rfl; exact rfl; exact rfl; exact rfl))
        | (apply door_gd; first | (apply gd_run_d; (first | assumption | omega)) | (apply gd_run_n; (first | assumption | omega)) | (apply gd_skip_d; (first | assumption | omega)) | (apply gd_skip_n; (first | assumption | omega)) | (apply gd_run_nt; (first | exact rfl | assumption)) | (apply gd_run_nf; (first | exact rfl | assumption)) | (apply gd_skip_nt; (first | exact rfl | assumption)) | (apply gd_skip_nf; (first | exact rfl | assumption)) | (apply gd_split_n <;> intro h) | (apply gd_run_t; (first | exact rfl | assumption)) | (apply gd_run_f; (first | exact rfl | assumption)) | (apply gd_skip_t; (first | exact rfl | assumption)) | (apply gd_skip_f; (first | exact rfl | assumption)) | (apply gd_split_d <;> intro h) | (apply gd_split <;> intro h))
        | (apply door_aq; first | apply aq_nil | (apply aq_lenL; exact rfl; exact rfl; exact rfl; exact rfl) | (apply aq_sub; exact rfl; exact rfl; exact wrap_i64 (by omega) (by omega)) | (apply aq_span; exact rfl; exact rfl; exact rfl; exact rfl; (first | assumption | omega | (simp; omega)); first | assumption | omega | (simp; omega)) | (apply aq_load_mid; exact rfl; exact rfl; exact rfl; exact rfl; exact rfl) | (apply aq_concat; exact rfl; exact rfl; (first | omega | (simp only [List.length_append, List.length_cons, List.length_nil]; omega) | (simp; omega))) | (apply aq_load_pp; exact rfl; exact rfl; exact rfl) | (apply aq_load_loc; exact rfl; exact rfl; exact rfl; exact rfl; exact rfl) | (apply aq_fieldAddr_pp; exact rfl; exact rfl; exact rfl; exact rfl) | (apply aq_fieldAddr_bx; exact rfl; exact rfl; exact rfl) | (apply aq_idx; exact rfl; exact rfl; exact rfl; first | assumption | omega | (simp; omega)) | (apply aq_shr4; exact rfl; exact rfl) | (apply aq_and15; exact rfl; exact rfl) | (apply aq_convW; exact rfl; exact rfl; exact rfl; omega) | (apply aq_buildA; exact rfl; exact rfl; exact rfl) | apply aq_move | apply aq_assign | (apply aq_add; exact rfl; exact rfl; exact wrap_i64 (by omega) (by omega)) | (apply aq_lenS; exact rfl; exact rfl; exact rfl) | (apply aq_upto; exact rfl; exact rfl; exact rfl; first | assumption | omega | (simp; omega)) | (apply aq_from; exact rfl; exact rfl; exact rfl; first | assumption | omega | (simp; omega)) | (apply aq_extract; exact rfl; exact rfl))
        | (apply door_binOp; first | (apply aops_cmpI; exact rfl; exact rfl; exact rfl) | (apply aops_cmpS; exact rfl; exact rfl; exact rfl) | (apply aops_concat; exact rfl; exact rfl; (first | omega | (simp only [List.length_append, List.length_cons, List.length_nil]; omega) | (simp; omega))) | (apply aops_add; exact rfl; exact rfl; exact wrap_i64 (by omega) (by omega)) | (apply aops_sub; exact rfl; exact rfl; exact wrap_i64 (by omega) (by omega)) | (apply aops_errNeNil; exact rfl; exact rfl) | (apply aops_nilNeNil; exact rfl; exact rfl) | (apply aops_errEqNil; exact rfl; exact rfl) | (apply aops_nilEqNil; exact rfl; exact rfl) | (apply aops_ptrEqNil; exact rfl; exact rfl; exact rfl) | (apply aops_ptrNeNil; exact rfl; exact rfl; exact rfl) | (apply aops_xor32; exact rfl; exact rfl; (first | exact ofInt_toNat _ | exact rfl); first | exact ofInt_toNat _ | exact rfl) | (apply aops_and32; exact rfl; exact rfl; (first | exact ofInt_toNat _ | exact rfl); first | exact ofInt_toNat _ | exact rfl) | (apply aops_or32; exact rfl; exact rfl; (first | exact ofInt_toNat _ | exact rfl); first | exact ofInt_toNat _ | exact rfl) | (apply aops_shl32; exact rfl; exact rfl; exact rfl) | (apply aops_shr32; exact rfl; exact rfl; exact rfl))
        | (apply door_load; first | (apply aops_load_pp; exact rfl; exact rfl; exact rfl) | (apply aops_load_mid; exact rfl; exact rfl; exact rfl; exact rfl; exact rfl) | (apply aops_load_loc; exact rfl; exact rfl; exact rfl; exact rfl; exact rfl))
        | (apply door_unOp; first | (apply aops_not_d; exact rfl) | (apply aops_not; exact rfl) | (apply aops_compl32; exact rfl))
        | (apply door_slice; first | (apply aops_upto; exact rfl; exact rfl; exact rfl; first | assumption | omega | (simp; omega)) | (apply aops_from; exact rfl; exact rfl; exact rfl; first | assumption | omega | (simp; omega)) | (apply aops_span; exact rfl; exact rfl; exact rfl; exact rfl; (first | assumption | omega | (simp; omega)); first | assumption | omega | (simp; omega)) | (apply aops_sliceFrom; exact rfl; exact rfl; exact rfl; exact rfl; (first | assumption | omega | exact Nat.succ_le_succ (Nat.zero_le _) | (simp; omega)); exact rfl))
        | (apply door_call; first | (apply aops_lenS; exact rfl; exact rfl; exact rfl) | (apply aops_lenL; exact rfl; exact rfl; exact rfl; exact rfl))
        | (apply door_fieldAddr; first | (apply aops_fieldAddr_bx; exact rfl; exact rfl; exact rfl) | (apply aops_fieldAddr_pp; exact rfl; exact rfl; exact rfl; exact rfl))
        | (apply door_store; first | (apply aops_store_mid; exact rfl; exact rfl; exact rfl; exact rfl; exact rfl; exact rfl; exact rfl; exact rfl; exact rfl; exact rfl; exact rfl) | (apply aops_store_loc; exact rfl; exact rfl; exact rfl; exact rfl; exact rfl; exact rfl; exact rfl; exact rfl; exact rfl; exact rfl; exact rfl))
        | (apply door_ops; first | apply aops_nil | apply aops_move | apply aops_assign | (apply aops_extract; exact rfl; exact rfl) | (apply aops_pick_any; exact rfl; first | (apply pk_dt; (first | assumption | omega)) | (apply pk_df; (first | assumption | omega)) | (apply pk_nt; (first | exact rfl | assumption)) | (apply pk_nf; (first | exact rfl | assumption)) | (apply pk_t; (first | exact rfl | assumption)) | (apply pk_f; (first | exact rfl | assumption))) | (apply aops_makeInterface; exact rfl; exact rfl) | apply aops_makeFunc | (apply aops_alloc; exact rfl; exact rfl) | (apply aops_box; exact rfl; exact rfl; exact rfl; exact rfl) | (apply aops_field; exact rfl; exact rfl; exact rfl) | (apply aops_idx; exact rfl; exact rfl; exact rfl; first | assumption | omega | (simp; omega)) | (apply aops_build; exact rfl; exact rfl; exact rfl) | (apply aops_buildSlice; exact rfl; exact rfl; exact rfl; exact rfl; exact rfl; exact rfl; exact rfl; exact rfl; exact rfl) | (apply aops_nilCheck; exact rfl; exact rfl) | (apply aops_indexA; exact rfl; exact rfl; exact rfl; exact rfl; (first | assumption | omega | decide); exact rfl) | (apply aops_indexAddrA; exact rfl; exact rfl; exact rfl; exact rfl; first | assumption | omega | decide))
        | (apply aops_call1; exact Tryz.call13; exact encode1_c b _ (.at' i n) hB hA.1 hg (by rw [← hg]; exact h0)))
      exact aret_plain rfl (ares_one rfl) ⟨rfl, _, rfl⟩
theorem amendCuts_a (b : List EditV) (hb : ArgE b) (cut : Int) (hc : -9223372036854775808 ≤ cut ∧ cut ≤ 9223372036854775807) (st : List AObj) : ACall E 7 [editsA b, Iv cut] st fun r st' => r = Bv true ∧ st' = st :=
  amendCuts_c b cut st hb
end Go.Proofs.YtplagcbifecagaaGreatDoor
