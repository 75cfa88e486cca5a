/- Check sums: the document's answer. -/
import Derived.Test.YtopmpdoigmenmaaGreatDoorFs
import Derived.Test.YtopmpdoigmenmaaGreatDoorTn
set_option linter.unusedVariables false
set_option maxRecDepth 100000
namespace Go.Proofs.YtopmpdoigmenmaaGreatDoor
open Go Go.Av Go.RowKit Go.Proofs Go.Pl

theorem bit31 (x : BitVec 32) : x &&& 2147483648#32 ≠ 0#32 ↔ x.toNat / 2147483648 = 1 := by
  have e : 2147483648#32 = BitVec.twoPow 32 31 := by decide
  have h := x.isLt
  rw [e, BitVec.and_twoPow, BitVec.getLsbD, Nat.testBit_eq_decide_div_mod_eq]
  by_cases hb : x.toNat / 2 ^ 31 % 2 = 1
  · simp only [hb, decide_true, if_true]
    constructor
    · intro _; omega
    · intro _; decide
  · simp only [hb, decide_false]
    constructor
    · intro h'; exact absurd rfl h'
    · intro h'; omega
theorem msb31 (x : BitVec 32) : x.msb = true ↔ x.toNat / 2147483648 = 1 := by
  rw [BitVec.msb_eq_decide]
  have h := x.isLt
  simp
  omega
theorem crcBit_eq (x : BitVec 32) : crcBit x = (x <<< 1) ^^^ (if x.msb then 79764919#32 else 0#32) := by
  unfold crcBit
  by_cases h : x.msb = true
  · rw [if_pos ((bit31 x).2 ((msb31 x).1 h)), if_pos h]
  · rw [if_neg (fun h' => h ((msb31 x).2 ((bit31 x).1 h'))), if_neg h, BitVec.xor_zero]
theorem crcBit_xor (a b : BitVec 32) : crcBit (a ^^^ b) = crcBit a ^^^ crcBit b := by
  rw [crcBit_eq, crcBit_eq, crcBit_eq, BitVec.msb_xor, BitVec.shiftLeft_xor_distrib]
  cases a.msb <;> cases b.msb <;> simp only [Bool.xor_false, Bool.xor_true, Bool.not_true, Bool.not_false, Bool.false_eq_true, if_true, if_false, BitVec.xor_zero]
  · rw [BitVec.xor_assoc]
  · rw [BitVec.xor_assoc, BitVec.xor_comm (b <<< 1), BitVec.xor_assoc]
  · rw [BitVec.xor_assoc (a <<< 1), BitVec.xor_comm 79764919#32, BitVec.xor_assoc (b <<< 1), BitVec.xor_self, BitVec.xor_zero]
theorem crcBits_xor (n : Nat) (a b : BitVec 32) : crcBits n (a ^^^ b) = crcBits n a ^^^ crcBits n b := by
  induction n with
  | zero => rfl
  | succ n ih => simp only [crcBits, ih, crcBit_xor]
theorem crcBits_low : ∀ (n : Nat) (x : BitVec 32), n ≤ 31 → x.toNat < 2 ^ (32 - n) → crcBits n x = x <<< n
  | 0, x, _, _ => by simp [crcBits]
  | n + 1, x, hn, h => by
    have hp : 2 ^ (32 - n) = 2 * 2 ^ (32 - (n + 1)) := by rw [show 32 - n = (32 - (n + 1)) + 1 by omega, Nat.pow_succ, Nat.mul_comm]
    simp only [crcBits]
    rw [crcBits_low n x (by omega) (by omega), crcBit_eq]
    have hm : (x <<< n).msb = false := by
      cases hb : (x <<< n).msb with
      | false => rfl
      | true =>
        have h1 := (msb31 _).1 hb
        have h2 : (x <<< n).toNat < 2147483648 := by
          rw [BitVec.toNat_shiftLeft, Nat.shiftLeft_eq]
          refine Nat.lt_of_le_of_lt (Nat.mod_le _ _) ?_
          have h3 : x.toNat * 2 ^ n < 2 ^ (32 - (n + 1)) * 2 ^ n := Nat.mul_lt_mul_of_pos_right h (Nat.two_pow_pos n)
          rw [← Nat.pow_add, show 32 - (n + 1) + n = 31 by omega] at h3
          exact h3
        omega
    rw [hm]
    simp only [Bool.false_eq_true, if_false, BitVec.xor_zero]
    rw [← BitVec.shiftLeft_add]
theorem split28 (x : BitVec 32) : x = ((x >>> 28) <<< 28) ^^^ ((x.setWidth 28).setWidth 32) := by
  apply BitVec.eq_of_getLsbD_eq
  intro i hi
  simp only [BitVec.getLsbD_xor, BitVec.getLsbD_shiftLeft, BitVec.getLsbD_ushiftRight, BitVec.getLsbD_setWidth]
  by_cases h : i < 28
  · simp [h, hi]
  · simp [h, hi, show 28 + (i - 28) = i by omega]
theorem crcN_bits (x : BitVec 32) (n : Nat) : crcN x n = crcBits 4 (x ^^^ (BitVec.ofNat 32 n <<< 28)) := by
  have hl : ((x.setWidth 28).setWidth 32).toNat < 2 ^ (32 - 4) := by
    simp only [BitVec.toNat_setWidth]
    exact Nat.lt_of_le_of_lt (Nat.mod_le _ _) (Nat.mod_lt _ (by decide))
  have hs : ((x.setWidth 28).setWidth 32) <<< 4 = x <<< 4 := by
    apply BitVec.eq_of_getLsbD_eq
    intro i hi
    simp only [BitVec.getLsbD_shiftLeft, BitVec.getLsbD_setWidth]
    by_cases h : i < 4
    · simp [h]
    · simp [h, hi, show i - 4 < 28 by omega, show i - 4 < 32 by omega]
  have e : x ^^^ (BitVec.ofNat 32 n <<< 28) = (((x >>> 28) ^^^ BitVec.ofNat 32 n) <<< 28) ^^^ ((x.setWidth 28).setWidth 32) := by
    rw [BitVec.shiftLeft_xor_distrib, BitVec.xor_assoc, BitVec.xor_comm (BitVec.ofNat 32 n <<< 28), ← BitVec.xor_assoc, ← split28 x]
  rw [e, crcBits_xor, crcBits_low 4 _ (by omega) hl, hs, crcN, rowT, BitVec.ofNat_toNat, BitVec.setWidth_eq, BitVec.xor_comm]
theorem crcBits_add (m n : Nat) (x : BitVec 32) : crcBits (m + n) x = crcBits m (crcBits n x) := by
  induction m with
  | zero => simp [crcBits]
  | succ m ih => rw [Nat.succ_add]; simp only [crcBits, ih]
theorem byte_halves (c : UInt8) : BitVec.ofNat 32 c.toNat <<< 24 = (BitVec.ofNat 32 (c.toNat / 16) <<< 28) ^^^ (BitVec.ofNat 32 (c.toNat % 16) <<< 24) := by
  have key : ∀ n : Fin 256, BitVec.ofNat 32 n.val <<< 24 = (BitVec.ofNat 32 (n.val / 16) <<< 28) ^^^ (BitVec.ofNat 32 (n.val % 16) <<< 24) := by decide +kernel
  exact key ⟨c.toNat, UInt8.toNat_lt c⟩
theorem crcP_bits (x : BitVec 32) (c : UInt8) : crcP x c = crcBits 8 (x ^^^ (BitVec.ofNat 32 c.toNat <<< 24)) := by
  have hl : (BitVec.ofNat 32 (c.toNat % 16) <<< 24).toNat < 2 ^ (32 - 4) := by
    have key : ∀ n : Fin 16, (BitVec.ofNat 32 n.val <<< 24).toNat < 2 ^ (32 - 4) := by decide +kernel
    exact key ⟨c.toNat % 16, Nat.mod_lt _ (by decide)⟩
  rw [show (8 : Nat) = 4 + 4 by rfl, crcBits_add, byte_halves, ← BitVec.xor_assoc, crcBits_xor 4 (x ^^^ _), crcBits_low 4 _ (by omega) hl, ← BitVec.shiftLeft_add, crcP, crcN_bits, crcN_bits]

theorem sub_compl (x : BitVec 32) : IntKind.u32.wrap (4294967295 - (x.toNat : Int)) = ((~~~x).toNat : Int) := by
  have h := x.isLt
  have e : (4294967295 - (x.toNat : Int)) = (((~~~x).toNat : Nat) : Int) := by rw [BitVec.toNat_not]; omega
  rw [e]
  exact wrap_toNat _
theorem mul_shl (x : BitVec 32) (k n : Nat) (m : Int) (hm : m = ((2 ^ n : Nat) : Int)) : IntKind.u32.wrap ((x.toNat : Int) * m) = ((x <<< n).toNat : Int) := by
  rw [hm, ← Int.natCast_mul, wrap_u32, BitVec.toNat_shiftLeft, Nat.shiftLeft_eq]
theorem refAdd_c (x : BitVec 32) (l : List UInt8) (st : List AObj) (hl : l.length < 4294967281) : ACall E 45 [Wv x, Sv l] st fun r st' => r = Wv (addP x l) ∧ st' = st := by
  refine acall_pure (pure_v _) (acall_of_awp Tryz.func45 rfl (Nat.le_of_ble_eq_true rfl) ?_)
  repeat' (first
    | apply awp_seq
    | apply awp_block
    | apply awp_region
    | apply aops_nil
    | apply aops_move
    | apply aops_assign
    | (apply aops_extract; exact rfl; exact rfl)
    | (apply aops_cmpI; exact rfl; exact rfl; exact rfl)
    | (apply aops_cmpS; exact rfl; exact rfl; exact rfl)
    | (apply aops_not_d; exact rfl)
    | (apply aops_not; exact rfl)
    | (apply aops_guard_any; exact rfl; exact rfl; exact rfl; exact rfl)
    | (apply gd_run_d; (first | assumption | omega))
    | (apply gd_run_n; (first | assumption | omega))
    | (apply gd_skip_d; (first | assumption | omega))
    | (apply gd_skip_n; (first | assumption | omega))
    | (apply aops_guard_undef; exact rfl; exact rfl; exact rfl; exact rfl)
    | (apply gd_run_nt; (first | exact rfl | assumption))
    | (apply gd_run_nf; (first | exact rfl | assumption))
    | (apply gd_skip_nt; (first | exact rfl | assumption))
    | (apply gd_skip_nf; (first | exact rfl | assumption))
    | (apply gd_split_n <;> intro h)
    | (apply gd_run_t; (first | exact rfl | assumption))
    | (apply gd_run_f; (first | exact rfl | assumption))
    | (apply gd_skip_t; (first | exact rfl | assumption))
    | (apply gd_skip_f; (first | exact rfl | assumption))
    | (apply gd_split_d <;> intro h)
    | (apply gd_split <;> intro h)
    | (apply aops_pick_any; exact rfl; first | (apply pk_dt; (first | assumption | omega)) | (apply pk_df; (first | assumption | omega)) | (apply pk_nt; (first | exact rfl | assumption)) | (apply pk_nf; (first | exact rfl | assumption)) | (apply pk_t; (first | exact rfl | assumption)) | (apply pk_f; (first | exact rfl | assumption)))
    | (apply awp_cond_any; exact rfl; first | (apply cd_dt; (first | assumption | omega)) | (apply cd_df; (first | assumption | omega)) | (apply cd_nt; (first | exact rfl | assumption)) | (apply cd_nf; (first | exact rfl | assumption)) | (apply cd_n <;> intro h) | (apply cd_t; (first | exact rfl | assumption)) | (apply cd_f; (first | exact rfl | assumption)) | (apply cd_d <;> intro h) | (apply cd_s <;> intro h))
    | (apply aops_lenS; exact rfl; exact rfl; exact rfl)
    | (apply aops_lenL; exact rfl; exact rfl; exact rfl; exact rfl)
    | (apply aops_concat; exact rfl; exact rfl; (first | omega | (simp only [List.length_append, List.length_cons, List.length_nil]; omega) | (simp; omega)))
    | (apply aops_add; exact rfl; exact rfl; exact wrap_i64 (by omega) (by omega))
    | (apply aops_sub; exact rfl; exact rfl; exact wrap_i64 (by omega) (by omega))
    | (apply aops_errNeNil; exact rfl; exact rfl)
    | (apply aops_nilNeNil; exact rfl; exact rfl)
    | (apply aops_errEqNil; exact rfl; exact rfl)
    | (apply aops_nilEqNil; exact rfl; exact rfl)
    | (apply aops_makeInterface; exact rfl; exact rfl)
    | apply aops_makeFunc
    | (apply aops_alloc; exact rfl; exact rfl)
    | (apply aops_box; exact rfl; exact rfl; exact rfl; exact rfl)
    | (apply aops_field; exact rfl; exact rfl; exact rfl)
    | (apply aops_fieldAddr_bx; exact rfl; exact rfl; exact rfl)
    | (apply aops_fieldAddr_pp; exact rfl; exact rfl; exact rfl; exact rfl)
    | (apply aops_load_pp; exact rfl; exact rfl; exact rfl)
    | (apply aops_load_loc; exact rfl; exact rfl; exact rfl; exact rfl; exact rfl)
    | (apply aops_store_loc; exact rfl; exact rfl; exact rfl; exact rfl; exact rfl; exact rfl; exact rfl; exact rfl; exact rfl; exact rfl; exact rfl)
    | (apply aops_idx; exact rfl; exact rfl; exact rfl; first | assumption | omega | (simp; omega))
    | (apply aops_upto; exact rfl; exact rfl; exact rfl; first | assumption | omega | (simp; omega))
    | (apply aops_from; exact rfl; exact rfl; exact rfl; first | assumption | omega | (simp; omega))
    | (apply aops_span; exact rfl; exact rfl; exact rfl; exact rfl; (first | assumption | omega | (simp; omega)); first | assumption | omega | (simp; omega))
    | (apply aops_build; exact rfl; exact rfl; exact rfl)
    | (apply aops_buildSlice; exact rfl; exact rfl; exact rfl; exact rfl; exact rfl; exact rfl; exact rfl; exact rfl; exact rfl)
    | (apply aops_nilCheck; exact rfl; exact rfl)
    | (apply aops_ptrEqNil; exact rfl; exact rfl; exact rfl)
    | (apply aops_ptrNeNil; exact rfl; exact rfl; exact rfl)
    | (apply aops_xor32; exact rfl; exact rfl; (first | exact ofInt_toNat _ | exact rfl); first | exact ofInt_toNat _ | exact rfl)
    | (apply aops_and32; exact rfl; exact rfl; (first | exact ofInt_toNat _ | exact rfl); first | exact ofInt_toNat _ | exact rfl)
    | (apply aops_or32; exact rfl; exact rfl; (first | exact ofInt_toNat _ | exact rfl); first | exact ofInt_toNat _ | exact rfl)
    | (apply aops_compl32; exact rfl)
    | (apply aops_shl32; exact rfl; exact rfl; exact rfl)
    | (apply aops_shr32; exact rfl; exact rfl; exact rfl)
    | (apply aops_indexA; exact rfl; exact rfl; exact rfl; exact rfl; (first | assumption | omega | decide); exact rfl)
    | (apply aops_indexAddrA; exact rfl; exact rfl; exact rfl; exact rfl; first | assumption | omega | decide)
    | (apply awp_draw; exact rfl; kernel_rfl)
    | apply aq_nil
    | (apply aq_idx; exact rfl; exact rfl; exact rfl; first | assumption | omega | (simp; omega))
    | (apply aq_shr4; exact rfl; exact rfl)
    | (apply aq_and15; exact rfl; exact rfl)
    | (apply aq_convW; exact rfl; exact rfl; exact rfl; omega)
    | (apply aq_buildA; exact rfl; exact rfl; exact rfl)
    | apply aq_move
    | apply aq_assign
    | (apply aq_add; exact rfl; exact rfl; exact wrap_i64 (by omega) (by omega))
    | (apply aq_lenS; exact rfl; exact rfl; exact rfl)
    | (apply aq_upto; exact rfl; exact rfl; exact rfl; first | assumption | omega | (simp; omega))
    | (apply aq_from; exact rfl; exact rfl; exact rfl; first | assumption | omega | (simp; omega))
    | (apply aq_extract; exact rfl; exact rfl)
    | apply awp_skip
    | apply awp_exit
    | apply awp_ret
    | (apply aops_sub; exact rfl; exact rfl; exact sub_compl _))
  refine awp_loopG (fun (k : Nat) s => k ≤ l.length ∧ StA [(1, Sv l), (5, Wv ((l.take k).foldl crcP (~~~ x))), (6, Iv k)] (st ++ []) [] s) (fun k => l.length - k) 0 ⟨by omega, stA_mk ⟨rfl, rfl, rfl, trivial⟩⟩ ?_
  rintro k _ ⟨hk, t, rfl⟩
  generalize hx : (l.take k).foldl crcP (~~~ x) = y
  have hc := UInt8.toNat_lt (l.getD k 0)
  repeat' (first
    | apply awp_seq
    | apply awp_block
    | apply awp_region
    | apply aops_nil
    | apply aops_move
    | apply aops_assign
    | (apply aops_extract; exact rfl; exact rfl)
    | (apply aops_cmpI; exact rfl; exact rfl; exact rfl)
    | (apply aops_cmpS; exact rfl; exact rfl; exact rfl)
    | (apply aops_not_d; exact rfl)
    | (apply aops_not; exact rfl)
    | (apply aops_guard_any; exact rfl; exact rfl; exact rfl; exact rfl)
    | (apply gd_run_d; (first | assumption | omega))
    | (apply gd_run_n; (first | assumption | omega))
    | (apply gd_skip_d; (first | assumption | omega))
    | (apply gd_skip_n; (first | assumption | omega))
    | (apply aops_guard_undef; exact rfl; exact rfl; exact rfl; exact rfl)
    | (apply gd_run_nt; (first | exact rfl | assumption))
    | (apply gd_run_nf; (first | exact rfl | assumption))
    | (apply gd_skip_nt; (first | exact rfl | assumption))
    | (apply gd_skip_nf; (first | exact rfl | assumption))
    | (apply gd_split_n <;> intro h)
    | (apply gd_run_t; (first | exact rfl | assumption))
    | (apply gd_run_f; (first | exact rfl | assumption))
    | (apply gd_skip_t; (first | exact rfl | assumption))
    | (apply gd_skip_f; (first | exact rfl | assumption))
    | (apply gd_split_d <;> intro h)
    | (apply gd_split <;> intro h)
    | (apply aops_pick_any; exact rfl; first | (apply pk_dt; (first | assumption | omega)) | (apply pk_df; (first | assumption | omega)) | (apply pk_nt; (first | exact rfl | assumption)) | (apply pk_nf; (first | exact rfl | assumption)) | (apply pk_t; (first | exact rfl | assumption)) | (apply pk_f; (first | exact rfl | assumption)))
    | (apply awp_cond_any; exact rfl; first | (apply cd_dt; (first | assumption | omega)) | (apply cd_df; (first | assumption | omega)) | (apply cd_nt; (first | exact rfl | assumption)) | (apply cd_nf; (first | exact rfl | assumption)) | (apply cd_n <;> intro h) | (apply cd_t; (first | exact rfl | assumption)) | (apply cd_f; (first | exact rfl | assumption)) | (apply cd_d <;> intro h) | (apply cd_s <;> intro h))
    | (apply aops_lenS; exact rfl; exact rfl; exact rfl)
    | (apply aops_lenL; exact rfl; exact rfl; exact rfl; exact rfl)
    | (apply aops_concat; exact rfl; exact rfl; (first | omega | (simp only [List.length_append, List.length_cons, List.length_nil]; omega) | (simp; omega)))
    | (apply aops_add; exact rfl; exact rfl; exact wrap_i64 (by omega) (by omega))
    | (apply aops_sub; exact rfl; exact rfl; exact wrap_i64 (by omega) (by omega))
    | (apply aops_errNeNil; exact rfl; exact rfl)
    | (apply aops_nilNeNil; exact rfl; exact rfl)
    | (apply aops_errEqNil; exact rfl; exact rfl)
    | (apply aops_nilEqNil; exact rfl; exact rfl)
    | (apply aops_makeInterface; exact rfl; exact rfl)
    | apply aops_makeFunc
    | (apply aops_alloc; exact rfl; exact rfl)
    | (apply aops_box; exact rfl; exact rfl; exact rfl; exact rfl)
    | (apply aops_field; exact rfl; exact rfl; exact rfl)
    | (apply aops_fieldAddr_bx; exact rfl; exact rfl; exact rfl)
    | (apply aops_fieldAddr_pp; exact rfl; exact rfl; exact rfl; exact rfl)
    | (apply aops_load_pp; exact rfl; exact rfl; exact rfl)
    | (apply aops_load_loc; exact rfl; exact rfl; exact rfl; exact rfl; exact rfl)
    | (apply aops_store_loc; exact rfl; exact rfl; exact rfl; exact rfl; exact rfl; exact rfl; exact rfl; exact rfl; exact rfl; exact rfl; exact rfl)
    | (apply aops_idx; exact rfl; exact rfl; exact rfl; first | assumption | omega | (simp; omega))
    | (apply aops_upto; exact rfl; exact rfl; exact rfl; first | assumption | omega | (simp; omega))
    | (apply aops_from; exact rfl; exact rfl; exact rfl; first | assumption | omega | (simp; omega))
    | (apply aops_span; exact rfl; exact rfl; exact rfl; exact rfl; (first | assumption | omega | (simp; omega)); first | assumption | omega | (simp; omega))
    | (apply aops_build; exact rfl; exact rfl; exact rfl)
    | (apply aops_buildSlice; exact rfl; exact rfl; exact rfl; exact rfl; exact rfl; exact rfl; exact rfl; exact rfl; exact rfl)
    | (apply aops_nilCheck; exact rfl; exact rfl)
    | (apply aops_ptrEqNil; exact rfl; exact rfl; exact rfl)
    | (apply aops_ptrNeNil; exact rfl; exact rfl; exact rfl)
    | (apply aops_xor32; exact rfl; exact rfl; (first | exact ofInt_toNat _ | exact rfl); first | exact ofInt_toNat _ | exact rfl)
    | (apply aops_and32; exact rfl; exact rfl; (first | exact ofInt_toNat _ | exact rfl); first | exact ofInt_toNat _ | exact rfl)
    | (apply aops_or32; exact rfl; exact rfl; (first | exact ofInt_toNat _ | exact rfl); first | exact ofInt_toNat _ | exact rfl)
    | (apply aops_compl32; exact rfl)
    | (apply aops_shl32; exact rfl; exact rfl; exact rfl)
    | (apply aops_shr32; exact rfl; exact rfl; exact rfl)
    | (apply aops_indexA; exact rfl; exact rfl; exact rfl; exact rfl; (first | assumption | omega | decide); exact rfl)
    | (apply aops_indexAddrA; exact rfl; exact rfl; exact rfl; exact rfl; first | assumption | omega | decide)
    | (apply awp_draw; exact rfl; kernel_rfl)
    | apply aq_nil
    | (apply aq_idx; exact rfl; exact rfl; exact rfl; first | assumption | omega | (simp; omega))
    | (apply aq_shr4; exact rfl; exact rfl)
    | (apply aq_and15; exact rfl; exact rfl)
    | (apply aq_convW; exact rfl; exact rfl; exact rfl; omega)
    | (apply aq_buildA; exact rfl; exact rfl; exact rfl)
    | apply aq_move
    | apply aq_assign
    | (apply aq_add; exact rfl; exact rfl; exact wrap_i64 (by omega) (by omega))
    | (apply aq_lenS; exact rfl; exact rfl; exact rfl)
    | (apply aq_upto; exact rfl; exact rfl; exact rfl; first | assumption | omega | (simp; omega))
    | (apply aq_from; exact rfl; exact rfl; exact rfl; first | assumption | omega | (simp; omega))
    | (apply aq_extract; exact rfl; exact rfl)
    | apply awp_skip
    | apply awp_exit
    | apply awp_ret
    | (apply aops_convW; exact rfl; exact rfl; exact rfl; omega)
    | (apply aops_mul; exact rfl; exact rfl; exact mul_shl _ 0 24 _ rfl)
    | (apply aops_sub; exact rfl; exact rfl; exact sub_compl _))
  · generalize hcc : l.getD k 0 = c at *
    generalize hz : y ^^^ (BitVec.ofNat 32 c.toNat <<< 24) = z
    refine awp_loopG (fun (j : Nat) s => j ≤ 8 ∧ StA [(1, Sv l), (5, Wv (crcBits j z)), (6, Iv k), (7, Iv j)] (st ++ []) [] s) (fun j => 8 - j) 0 ⟨by omega, stA_mk ⟨rfl, rfl, rfl, rfl, trivial⟩⟩ ?_
    rintro j _ ⟨hj, t2, rfl⟩
    generalize hq : crcBits j z = q
    have hql := q.isLt
    repeat' (first
      | apply awp_seq
      | apply awp_block
      | apply awp_region
      | apply aops_nil
      | apply aops_move
      | apply aops_assign
      | (apply aops_extract; exact rfl; exact rfl)
      | (apply aops_cmpI; exact rfl; exact rfl; exact rfl)
      | (apply aops_cmpS; exact rfl; exact rfl; exact rfl)
      | (apply aops_not_d; exact rfl)
      | (apply aops_not; exact rfl)
      | (apply aops_guard_any; exact rfl; exact rfl; exact rfl; exact rfl)
      | (apply gd_run_d; (first | assumption | omega))
      | (apply gd_run_n; (first | assumption | omega))
      | (apply gd_skip_d; (first | assumption | omega))
      | (apply gd_skip_n; (first | assumption | omega))
      | (apply aops_guard_undef; exact rfl; exact rfl; exact rfl; exact rfl)
      | (apply gd_run_nt; (first | exact rfl | assumption))
      | (apply gd_run_nf; (first | exact rfl | assumption))
      | (apply gd_skip_nt; (first | exact rfl | assumption))
      | (apply gd_skip_nf; (first | exact rfl | assumption))
      | (apply gd_split_n <;> intro h)
      | (apply gd_run_t; (first | exact rfl | assumption))
      | (apply gd_run_f; (first | exact rfl | assumption))
      | (apply gd_skip_t; (first | exact rfl | assumption))
      | (apply gd_skip_f; (first | exact rfl | assumption))
      | (apply gd_split_d <;> intro h)
      | (apply gd_split <;> intro h)
      | (apply aops_pick_any; exact rfl; first | (apply pk_dt; (first | assumption | omega)) | (apply pk_df; (first | assumption | omega)) | (apply pk_nt; (first | exact rfl | assumption)) | (apply pk_nf; (first | exact rfl | assumption)) | (apply pk_t; (first | exact rfl | assumption)) | (apply pk_f; (first | exact rfl | assumption)))
      | (apply awp_cond_any; exact rfl; first | (apply cd_dt; (first | assumption | omega)) | (apply cd_df; (first | assumption | omega)) | (apply cd_nt; (first | exact rfl | assumption)) | (apply cd_nf; (first | exact rfl | assumption)) | (apply cd_n <;> intro h) | (apply cd_t; (first | exact rfl | assumption)) | (apply cd_f; (first | exact rfl | assumption)) | (apply cd_d <;> intro h) | (apply cd_s <;> intro h))
      | (apply aops_lenS; exact rfl; exact rfl; exact rfl)
      | (apply aops_lenL; exact rfl; exact rfl; exact rfl; exact rfl)
      | (apply aops_concat; exact rfl; exact rfl; (first | omega | (simp only [List.length_append, List.length_cons, List.length_nil]; omega) | (simp; omega)))
      | (apply aops_add; exact rfl; exact rfl; exact wrap_i64 (by omega) (by omega))
      | (apply aops_sub; exact rfl; exact rfl; exact wrap_i64 (by omega) (by omega))
      | (apply aops_errNeNil; exact rfl; exact rfl)
      | (apply aops_nilNeNil; exact rfl; exact rfl)
      | (apply aops_errEqNil; exact rfl; exact rfl)
      | (apply aops_nilEqNil; exact rfl; exact rfl)
      | (apply aops_makeInterface; exact rfl; exact rfl)
      | apply aops_makeFunc
      | (apply aops_alloc; exact rfl; exact rfl)
      | (apply aops_box; exact rfl; exact rfl; exact rfl; exact rfl)
      | (apply aops_field; exact rfl; exact rfl; exact rfl)
      | (apply aops_fieldAddr_bx; exact rfl; exact rfl; exact rfl)
      | (apply aops_fieldAddr_pp; exact rfl; exact rfl; exact rfl; exact rfl)
      | (apply aops_load_pp; exact rfl; exact rfl; exact rfl)
      | (apply aops_load_loc; exact rfl; exact rfl; exact rfl; exact rfl; exact rfl)
      | (apply aops_store_loc; exact rfl; exact rfl; exact rfl; exact rfl; exact rfl; exact rfl; exact rfl; exact rfl; exact rfl; exact rfl; exact rfl)
      | (apply aops_idx; exact rfl; exact rfl; exact rfl; first | assumption | omega | (simp; omega))
      | (apply aops_upto; exact rfl; exact rfl; exact rfl; first | assumption | omega | (simp; omega))
      | (apply aops_from; exact rfl; exact rfl; exact rfl; first | assumption | omega | (simp; omega))
      | (apply aops_span; exact rfl; exact rfl; exact rfl; exact rfl; (first | assumption | omega | (simp; omega)); first | assumption | omega | (simp; omega))
      | (apply aops_build; exact rfl; exact rfl; exact rfl)
      | (apply aops_buildSlice; exact rfl; exact rfl; exact rfl; exact rfl; exact rfl; exact rfl; exact rfl; exact rfl; exact rfl)
      | (apply aops_nilCheck; exact rfl; exact rfl)
      | (apply aops_ptrEqNil; exact rfl; exact rfl; exact rfl)
      | (apply aops_ptrNeNil; exact rfl; exact rfl; exact rfl)
      | (apply aops_xor32; exact rfl; exact rfl; (first | exact ofInt_toNat _ | exact rfl); first | exact ofInt_toNat _ | exact rfl)
      | (apply aops_and32; exact rfl; exact rfl; (first | exact ofInt_toNat _ | exact rfl); first | exact ofInt_toNat _ | exact rfl)
      | (apply aops_or32; exact rfl; exact rfl; (first | exact ofInt_toNat _ | exact rfl); first | exact ofInt_toNat _ | exact rfl)
      | (apply aops_compl32; exact rfl)
      | (apply aops_shl32; exact rfl; exact rfl; exact rfl)
      | (apply aops_shr32; exact rfl; exact rfl; exact rfl)
      | (apply aops_indexA; exact rfl; exact rfl; exact rfl; exact rfl; (first | assumption | omega | decide); exact rfl)
      | (apply aops_indexAddrA; exact rfl; exact rfl; exact rfl; exact rfl; first | assumption | omega | decide)
      | (apply awp_draw; exact rfl; kernel_rfl)
      | apply aq_nil
      | (apply aq_idx; exact rfl; exact rfl; exact rfl; first | assumption | omega | (simp; omega))
      | (apply aq_shr4; exact rfl; exact rfl)
      | (apply aq_and15; exact rfl; exact rfl)
      | (apply aq_convW; exact rfl; exact rfl; exact rfl; omega)
      | (apply aq_buildA; exact rfl; exact rfl; exact rfl)
      | apply aq_move
      | apply aq_assign
      | (apply aq_add; exact rfl; exact rfl; exact wrap_i64 (by omega) (by omega))
      | (apply aq_lenS; exact rfl; exact rfl; exact rfl)
      | (apply aq_upto; exact rfl; exact rfl; exact rfl; first | assumption | omega | (simp; omega))
      | (apply aq_from; exact rfl; exact rfl; exact rfl; first | assumption | omega | (simp; omega))
      | (apply aq_extract; exact rfl; exact rfl)
      | apply awp_skip
      | apply awp_exit
      | apply awp_ret
      | (apply aops_quoN (n := 2147483648); exact rfl; exact rfl; omega; exact wrapU32 (by omega))
      | (apply aops_mul; exact rfl; exact rfl; exact mul_shl _ 0 1 _ rfl))
    · refine ⟨j + 1, ⟨by omega, stA_mk ⟨rfl, ?_, rfl, rfl, trivial⟩⟩, by omega⟩
      refine congrArg Wv (?_ : _ = crcBit _)
      rw [hq]
      unfold crcBit
      rw [if_pos ((bit31 q).2 (by omega))]
      rfl
    · refine ⟨j + 1, ⟨by omega, stA_mk ⟨rfl, ?_, rfl, rfl, trivial⟩⟩, by omega⟩
      refine congrArg Wv (?_ : _ = crcBit _)
      rw [hq]
      unfold crcBit
      rw [if_neg (fun h' => absurd ((bit31 q).1 h') (by omega))]
    · have e : j = 8 := by omega
      subst e
      refine ⟨k + 1, ⟨by omega, stA_mk ⟨rfl, ?_, rfl, trivial⟩⟩, by omega⟩
      refine congrArg Wv (?_ : q = _)
      rw [take_next (by omega), List.foldl_append, hx, hcc]
      show q = crcP y c
      rw [crcP_bits, hz, hq]
  · have e : k = l.length := by omega
    subst e
    refine aret_plain rfl (ares_one rfl) ⟨congrArg Wv (?_ : _ = _), _, rfl⟩
    unfold addP
    rw [← hx, List.take_length]
theorem refSum_c (l : List UInt8) (st : List AObj) (hl : l.length < 4294967281) : ACall E 21 [Sv l] st fun r st' => r = Wv (addP 0 l) ∧ st' = st := by
  refine acall_pure (pure_v _) (acall_of_awp Tryz.func21 rfl (Nat.le_of_ble_eq_true rfl) ?_)
  repeat' (first
    | apply awp_seq
    | apply awp_block
    | apply awp_region
    | apply aops_nil
    | apply aops_move
    | apply aops_assign
    | (apply aops_extract; exact rfl; exact rfl)
    | (apply aops_cmpI; exact rfl; exact rfl; exact rfl)
    | (apply aops_cmpS; exact rfl; exact rfl; exact rfl)
    | (apply aops_not_d; exact rfl)
    | (apply aops_not; exact rfl)
    | (apply aops_guard_any; exact rfl; exact rfl; exact rfl; exact rfl)
    | (apply gd_run_d; (first | assumption | omega))
    | (apply gd_run_n; (first | assumption | omega))
    | (apply gd_skip_d; (first | assumption | omega))
    | (apply gd_skip_n; (first | assumption | omega))
    | (apply aops_guard_undef; exact rfl; exact rfl; exact rfl; exact rfl)
    | (apply gd_run_nt; (first | exact rfl | assumption))
    | (apply gd_run_nf; (first | exact rfl | assumption))
    | (apply gd_skip_nt; (first | exact rfl | assumption))
    | (apply gd_skip_nf; (first | exact rfl | assumption))
    | (apply gd_split_n <;> intro h)
    | (apply gd_run_t; (first | exact rfl | assumption))
    | (apply gd_run_f; (first | exact rfl | assumption))
    | (apply gd_skip_t; (first | exact rfl | assumption))
    | (apply gd_skip_f; (first | exact rfl | assumption))
    | (apply gd_split_d <;> intro h)
    | (apply gd_split <;> intro h)
    | (apply aops_pick_any; exact rfl; first | (apply pk_dt; (first | assumption | omega)) | (apply pk_df; (first | assumption | omega)) | (apply pk_nt; (first | exact rfl | assumption)) | (apply pk_nf; (first | exact rfl | assumption)) | (apply pk_t; (first | exact rfl | assumption)) | (apply pk_f; (first | exact rfl | assumption)))
    | (apply awp_cond_any; exact rfl; first | (apply cd_dt; (first | assumption | omega)) | (apply cd_df; (first | assumption | omega)) | (apply cd_nt; (first | exact rfl | assumption)) | (apply cd_nf; (first | exact rfl | assumption)) | (apply cd_n <;> intro h) | (apply cd_t; (first | exact rfl | assumption)) | (apply cd_f; (first | exact rfl | assumption)) | (apply cd_d <;> intro h) | (apply cd_s <;> intro h))
    | (apply aops_lenS; exact rfl; exact rfl; exact rfl)
    | (apply aops_lenL; exact rfl; exact rfl; exact rfl; exact rfl)
    | (apply aops_concat; exact rfl; exact rfl; (first | omega | (simp only [List.length_append, List.length_cons, List.length_nil]; omega) | (simp; omega)))
    | (apply aops_add; exact rfl; exact rfl; exact wrap_i64 (by omega) (by omega))
    | (apply aops_sub; exact rfl; exact rfl; exact wrap_i64 (by omega) (by omega))
    | (apply aops_errNeNil; exact rfl; exact rfl)
    | (apply aops_nilNeNil; exact rfl; exact rfl)
    | (apply aops_errEqNil; exact rfl; exact rfl)
    | (apply aops_nilEqNil; exact rfl; exact rfl)
    | (apply aops_makeInterface; exact rfl; exact rfl)
    | apply aops_makeFunc
    | (apply aops_alloc; exact rfl; exact rfl)
    | (apply aops_box; exact rfl; exact rfl; exact rfl; exact rfl)
    | (apply aops_field; exact rfl; exact rfl; exact rfl)
    | (apply aops_fieldAddr_bx; exact rfl; exact rfl; exact rfl)
    | (apply aops_fieldAddr_pp; exact rfl; exact rfl; exact rfl; exact rfl)
    | (apply aops_load_pp; exact rfl; exact rfl; exact rfl)
    | (apply aops_load_loc; exact rfl; exact rfl; exact rfl; exact rfl; exact rfl)
    | (apply aops_store_loc; exact rfl; exact rfl; exact rfl; exact rfl; exact rfl; exact rfl; exact rfl; exact rfl; exact rfl; exact rfl; exact rfl)
    | (apply aops_idx; exact rfl; exact rfl; exact rfl; first | assumption | omega | (simp; omega))
    | (apply aops_upto; exact rfl; exact rfl; exact rfl; first | assumption | omega | (simp; omega))
    | (apply aops_from; exact rfl; exact rfl; exact rfl; first | assumption | omega | (simp; omega))
    | (apply aops_span; exact rfl; exact rfl; exact rfl; exact rfl; (first | assumption | omega | (simp; omega)); first | assumption | omega | (simp; omega))
    | (apply aops_build; exact rfl; exact rfl; exact rfl)
    | (apply aops_buildSlice; exact rfl; exact rfl; exact rfl; exact rfl; exact rfl; exact rfl; exact rfl; exact rfl; exact rfl)
    | (apply aops_nilCheck; exact rfl; exact rfl)
    | (apply aops_ptrEqNil; exact rfl; exact rfl; exact rfl)
    | (apply aops_ptrNeNil; exact rfl; exact rfl; exact rfl)
    | (apply aops_xor32; exact rfl; exact rfl; (first | exact ofInt_toNat _ | exact rfl); first | exact ofInt_toNat _ | exact rfl)
    | (apply aops_and32; exact rfl; exact rfl; (first | exact ofInt_toNat _ | exact rfl); first | exact ofInt_toNat _ | exact rfl)
    | (apply aops_or32; exact rfl; exact rfl; (first | exact ofInt_toNat _ | exact rfl); first | exact ofInt_toNat _ | exact rfl)
    | (apply aops_compl32; exact rfl)
    | (apply aops_shl32; exact rfl; exact rfl; exact rfl)
    | (apply aops_shr32; exact rfl; exact rfl; exact rfl)
    | (apply aops_indexA; exact rfl; exact rfl; exact rfl; exact rfl; (first | assumption | omega | decide); exact rfl)
    | (apply aops_indexAddrA; exact rfl; exact rfl; exact rfl; exact rfl; first | assumption | omega | decide)
    | (apply awp_draw; exact rfl; kernel_rfl)
    | apply aq_nil
    | (apply aq_idx; exact rfl; exact rfl; exact rfl; first | assumption | omega | (simp; omega))
    | (apply aq_shr4; exact rfl; exact rfl)
    | (apply aq_and15; exact rfl; exact rfl)
    | (apply aq_convW; exact rfl; exact rfl; exact rfl; omega)
    | (apply aq_buildA; exact rfl; exact rfl; exact rfl)
    | apply aq_move
    | apply aq_assign
    | (apply aq_add; exact rfl; exact rfl; exact wrap_i64 (by omega) (by omega))
    | (apply aq_lenS; exact rfl; exact rfl; exact rfl)
    | (apply aq_upto; exact rfl; exact rfl; exact rfl; first | assumption | omega | (simp; omega))
    | (apply aq_from; exact rfl; exact rfl; exact rfl; first | assumption | omega | (simp; omega))
    | (apply aq_extract; exact rfl; exact rfl)
    | apply awp_skip
    | apply awp_exit
    | apply awp_ret
    | (apply aops_call1; exact Tryz.call45; exact refAdd_c 0 _ _ hl))
  exact aret_plain rfl (ares_one rfl) ⟨rfl, _, rfl⟩
theorem figP_val (x : BitVec 32) {j : Nat} (hj : j < 8) : figP x j = hexL.getD ((x >>> (4 * (7 - j))).toNat % 16) 0 := by
  unfold figP
  have e : ((x >>> (4 * (7 - j))) &&& BitVec.ofInt 32 15).toNat = (x >>> (4 * (7 - j))).toNat % 16 := by
    rw [BitVec.toNat_and]
    exact Nat.and_two_pow_sub_one_eq_mod _ 4
  rw [e]
  rfl
theorem hexL_span {n : Nat} (h : n < 16) : (hexL.take (n + 1)).drop n = [hexL.getD n 0] := by
  have key : ∀ i : Fin 16, (hexL.take (i.val + 1)).drop i.val = [hexL.getD i.val 0] := by decide +kernel
  exact key ⟨n, h⟩
theorem figsP_drop (x : BitVec 32) {k : Nat} (h : k < 8) : (figsP x 8).drop (8 - (k + 1)) = figP x (7 - k) :: (figsP x 8).drop (8 - k) := by
  have hlen : (figsP x 8).length = 8 := by simp [figsP]
  rw [List.drop_eq_getElem_cons (by omega), show 8 - (k + 1) + 1 = 8 - k by omega]
  congr 1
  simp [figsP, show 8 - (k + 1) = 7 - k by omega]
theorem refFigs_c (x : BitVec 32) (st : List AObj) : ACall E 20 [Wv x] st fun r st' => r = Sv (figsP x 8) ∧ st' = st := by
  refine acall_pure (pure_v _) (acall_of_awp Tryz.func20 rfl (Nat.le_of_ble_eq_true rfl) ?_)
  have hlen : (figsP x 8).length = 8 := by simp [figsP]
  repeat' (first
    | apply awp_seq
    | apply awp_block
    | apply awp_region
    | apply aops_nil
    | apply aops_move
    | apply aops_assign
    | (apply aops_extract; exact rfl; exact rfl)
    | (apply aops_cmpI; exact rfl; exact rfl; exact rfl)
    | (apply aops_cmpS; exact rfl; exact rfl; exact rfl)
    | (apply aops_not_d; exact rfl)
    | (apply aops_not; exact rfl)
    | (apply aops_guard_any; exact rfl; exact rfl; exact rfl; exact rfl)
    | (apply gd_run_d; (first | assumption | omega))
    | (apply gd_run_n; (first | assumption | omega))
    | (apply gd_skip_d; (first | assumption | omega))
    | (apply gd_skip_n; (first | assumption | omega))
    | (apply aops_guard_undef; exact rfl; exact rfl; exact rfl; exact rfl)
    | (apply gd_run_nt; (first | exact rfl | assumption))
    | (apply gd_run_nf; (first | exact rfl | assumption))
    | (apply gd_skip_nt; (first | exact rfl | assumption))
    | (apply gd_skip_nf; (first | exact rfl | assumption))
    | (apply gd_split_n <;> intro h)
    | (apply gd_run_t; (first | exact rfl | assumption))
    | (apply gd_run_f; (first | exact rfl | assumption))
    | (apply gd_skip_t; (first | exact rfl | assumption))
    | (apply gd_skip_f; (first | exact rfl | assumption))
    | (apply gd_split_d <;> intro h)
    | (apply gd_split <;> intro h)
    | (apply aops_pick_any; exact rfl; first | (apply pk_dt; (first | assumption | omega)) | (apply pk_df; (first | assumption | omega)) | (apply pk_nt; (first | exact rfl | assumption)) | (apply pk_nf; (first | exact rfl | assumption)) | (apply pk_t; (first | exact rfl | assumption)) | (apply pk_f; (first | exact rfl | assumption)))
    | (apply awp_cond_any; exact rfl; first | (apply cd_dt; (first | assumption | omega)) | (apply cd_df; (first | assumption | omega)) | (apply cd_nt; (first | exact rfl | assumption)) | (apply cd_nf; (first | exact rfl | assumption)) | (apply cd_n <;> intro h) | (apply cd_t; (first | exact rfl | assumption)) | (apply cd_f; (first | exact rfl | assumption)) | (apply cd_d <;> intro h) | (apply cd_s <;> intro h))
    | (apply aops_lenS; exact rfl; exact rfl; exact rfl)
    | (apply aops_lenL; exact rfl; exact rfl; exact rfl; exact rfl)
    | (apply aops_concat; exact rfl; exact rfl; (first | omega | (simp only [List.length_append, List.length_cons, List.length_nil]; omega) | (simp; omega)))
    | (apply aops_add; exact rfl; exact rfl; exact wrap_i64 (by omega) (by omega))
    | (apply aops_sub; exact rfl; exact rfl; exact wrap_i64 (by omega) (by omega))
    | (apply aops_errNeNil; exact rfl; exact rfl)
    | (apply aops_nilNeNil; exact rfl; exact rfl)
    | (apply aops_errEqNil; exact rfl; exact rfl)
    | (apply aops_nilEqNil; exact rfl; exact rfl)
    | (apply aops_makeInterface; exact rfl; exact rfl)
    | apply aops_makeFunc
    | (apply aops_alloc; exact rfl; exact rfl)
    | (apply aops_box; exact rfl; exact rfl; exact rfl; exact rfl)
    | (apply aops_field; exact rfl; exact rfl; exact rfl)
    | (apply aops_fieldAddr_bx; exact rfl; exact rfl; exact rfl)
    | (apply aops_fieldAddr_pp; exact rfl; exact rfl; exact rfl; exact rfl)
    | (apply aops_load_pp; exact rfl; exact rfl; exact rfl)
    | (apply aops_load_loc; exact rfl; exact rfl; exact rfl; exact rfl; exact rfl)
    | (apply aops_store_loc; exact rfl; exact rfl; exact rfl; exact rfl; exact rfl; exact rfl; exact rfl; exact rfl; exact rfl; exact rfl; exact rfl)
    | (apply aops_idx; exact rfl; exact rfl; exact rfl; first | assumption | omega | (simp; omega))
    | (apply aops_upto; exact rfl; exact rfl; exact rfl; first | assumption | omega | (simp; omega))
    | (apply aops_from; exact rfl; exact rfl; exact rfl; first | assumption | omega | (simp; omega))
    | (apply aops_span; exact rfl; exact rfl; exact rfl; exact rfl; (first | assumption | omega | (simp; omega)); first | assumption | omega | (simp; omega))
    | (apply aops_build; exact rfl; exact rfl; exact rfl)
    | (apply aops_buildSlice; exact rfl; exact rfl; exact rfl; exact rfl; exact rfl; exact rfl; exact rfl; exact rfl; exact rfl)
    | (apply aops_nilCheck; exact rfl; exact rfl)
    | (apply aops_ptrEqNil; exact rfl; exact rfl; exact rfl)
    | (apply aops_ptrNeNil; exact rfl; exact rfl; exact rfl)
    | (apply aops_xor32; exact rfl; exact rfl; (first | exact ofInt_toNat _ | exact rfl); first | exact ofInt_toNat _ | exact rfl)
    | (apply aops_and32; exact rfl; exact rfl; (first | exact ofInt_toNat _ | exact rfl); first | exact ofInt_toNat _ | exact rfl)
    | (apply aops_or32; exact rfl; exact rfl; (first | exact ofInt_toNat _ | exact rfl); first | exact ofInt_toNat _ | exact rfl)
    | (apply aops_compl32; exact rfl)
    | (apply aops_shl32; exact rfl; exact rfl; exact rfl)
    | (apply aops_shr32; exact rfl; exact rfl; exact rfl)
    | (apply aops_indexA; exact rfl; exact rfl; exact rfl; exact rfl; (first | assumption | omega | decide); exact rfl)
    | (apply aops_indexAddrA; exact rfl; exact rfl; exact rfl; exact rfl; first | assumption | omega | decide)
    | (apply awp_draw; exact rfl; kernel_rfl)
    | apply aq_nil
    | (apply aq_idx; exact rfl; exact rfl; exact rfl; first | assumption | omega | (simp; omega))
    | (apply aq_shr4; exact rfl; exact rfl)
    | (apply aq_and15; exact rfl; exact rfl)
    | (apply aq_convW; exact rfl; exact rfl; exact rfl; omega)
    | (apply aq_buildA; exact rfl; exact rfl; exact rfl)
    | apply aq_move
    | apply aq_assign
    | (apply aq_add; exact rfl; exact rfl; exact wrap_i64 (by omega) (by omega))
    | (apply aq_lenS; exact rfl; exact rfl; exact rfl)
    | (apply aq_upto; exact rfl; exact rfl; exact rfl; first | assumption | omega | (simp; omega))
    | (apply aq_from; exact rfl; exact rfl; exact rfl; first | assumption | omega | (simp; omega))
    | (apply aq_extract; exact rfl; exact rfl)
    | apply awp_skip
    | apply awp_exit
    | apply awp_ret)
  refine awp_loopG (fun (k : Nat) s => k ≤ 8 ∧ StA [(0, Wv (x >>> (4 * k))), (3, Sv ((figsP x 8).drop (8 - k))), (4, Iv k)] (st ++ []) [] s) (fun k => 8 - k) 0 ⟨by omega, stA_mk ⟨by simp; rfl, by simp [hlen]; rfl, rfl, trivial⟩⟩ ?_
  rintro k _ ⟨hk, t, rfl⟩
  have hn : (x >>> (4 * k)).toNat % 16 < 16 := Nat.mod_lt _ (by decide)
  have hd : ((figsP x 8).drop (8 - k)).length = k := by simp [hlen]; omega
  generalize hq : x >>> (4 * k) = q at *
  have hql := q.isLt
  repeat' (first
    | apply awp_seq
    | apply awp_block
    | apply awp_region
    | apply aops_nil
    | apply aops_move
    | apply aops_assign
    | (apply aops_extract; exact rfl; exact rfl)
    | (apply aops_cmpI; exact rfl; exact rfl; exact rfl)
    | (apply aops_cmpS; exact rfl; exact rfl; exact rfl)
    | (apply aops_not_d; exact rfl)
    | (apply aops_not; exact rfl)
    | (apply aops_guard_any; exact rfl; exact rfl; exact rfl; exact rfl)
    | (apply gd_run_d; (first | assumption | omega))
    | (apply gd_run_n; (first | assumption | omega))
    | (apply gd_skip_d; (first | assumption | omega))
    | (apply gd_skip_n; (first | assumption | omega))
    | (apply aops_guard_undef; exact rfl; exact rfl; exact rfl; exact rfl)
    | (apply gd_run_nt; (first | exact rfl | assumption))
    | (apply gd_run_nf; (first | exact rfl | assumption))
    | (apply gd_skip_nt; (first | exact rfl | assumption))
    | (apply gd_skip_nf; (first | exact rfl | assumption))
    | (apply gd_split_n <;> intro h)
    | (apply gd_run_t; (first | exact rfl | assumption))
    | (apply gd_run_f; (first | exact rfl | assumption))
    | (apply gd_skip_t; (first | exact rfl | assumption))
    | (apply gd_skip_f; (first | exact rfl | assumption))
    | (apply gd_split_d <;> intro h)
    | (apply gd_split <;> intro h)
    | (apply aops_pick_any; exact rfl; first | (apply pk_dt; (first | assumption | omega)) | (apply pk_df; (first | assumption | omega)) | (apply pk_nt; (first | exact rfl | assumption)) | (apply pk_nf; (first | exact rfl | assumption)) | (apply pk_t; (first | exact rfl | assumption)) | (apply pk_f; (first | exact rfl | assumption)))
    | (apply awp_cond_any; exact rfl; first | (apply cd_dt; (first | assumption | omega)) | (apply cd_df; (first | assumption | omega)) | (apply cd_nt; (first | exact rfl | assumption)) | (apply cd_nf; (first | exact rfl | assumption)) | (apply cd_n <;> intro h) | (apply cd_t; (first | exact rfl | assumption)) | (apply cd_f; (first | exact rfl | assumption)) | (apply cd_d <;> intro h) | (apply cd_s <;> intro h))
    | (apply aops_lenS; exact rfl; exact rfl; exact rfl)
    | (apply aops_lenL; exact rfl; exact rfl; exact rfl; exact rfl)
    | (apply aops_concat; exact rfl; exact rfl; (first | omega | (simp only [List.length_append, List.length_cons, List.length_nil]; omega) | (simp; omega)))
    | (apply aops_add; exact rfl; exact rfl; exact wrap_i64 (by omega) (by omega))
    | (apply aops_sub; exact rfl; exact rfl; exact wrap_i64 (by omega) (by omega))
    | (apply aops_errNeNil; exact rfl; exact rfl)
    | (apply aops_nilNeNil; exact rfl; exact rfl)
    | (apply aops_errEqNil; exact rfl; exact rfl)
    | (apply aops_nilEqNil; exact rfl; exact rfl)
    | (apply aops_makeInterface; exact rfl; exact rfl)
    | apply aops_makeFunc
    | (apply aops_alloc; exact rfl; exact rfl)
    | (apply aops_box; exact rfl; exact rfl; exact rfl; exact rfl)
    | (apply aops_field; exact rfl; exact rfl; exact rfl)
    | (apply aops_fieldAddr_bx; exact rfl; exact rfl; exact rfl)
    | (apply aops_fieldAddr_pp; exact rfl; exact rfl; exact rfl; exact rfl)
    | (apply aops_load_pp; exact rfl; exact rfl; exact rfl)
    | (apply aops_load_loc; exact rfl; exact rfl; exact rfl; exact rfl; exact rfl)
    | (apply aops_store_loc; exact rfl; exact rfl; exact rfl; exact rfl; exact rfl; exact rfl; exact rfl; exact rfl; exact rfl; exact rfl; exact rfl)
    | (apply aops_idx; exact rfl; exact rfl; exact rfl; first | assumption | omega | (simp; omega))
    | (apply aops_upto; exact rfl; exact rfl; exact rfl; first | assumption | omega | (simp; omega))
    | (apply aops_from; exact rfl; exact rfl; exact rfl; first | assumption | omega | (simp; omega))
    | (apply aops_span; exact rfl; exact rfl; exact rfl; exact rfl; (first | assumption | omega | (simp; omega)); first | assumption | omega | (simp; omega))
    | (apply aops_build; exact rfl; exact rfl; exact rfl)
    | (apply aops_buildSlice; exact rfl; exact rfl; exact rfl; exact rfl; exact rfl; exact rfl; exact rfl; exact rfl; exact rfl)
    | (apply aops_nilCheck; exact rfl; exact rfl)
    | (apply aops_ptrEqNil; exact rfl; exact rfl; exact rfl)
    | (apply aops_ptrNeNil; exact rfl; exact rfl; exact rfl)
    | (apply aops_xor32; exact rfl; exact rfl; (first | exact ofInt_toNat _ | exact rfl); first | exact ofInt_toNat _ | exact rfl)
    | (apply aops_and32; exact rfl; exact rfl; (first | exact ofInt_toNat _ | exact rfl); first | exact ofInt_toNat _ | exact rfl)
    | (apply aops_or32; exact rfl; exact rfl; (first | exact ofInt_toNat _ | exact rfl); first | exact ofInt_toNat _ | exact rfl)
    | (apply aops_compl32; exact rfl)
    | (apply aops_shl32; exact rfl; exact rfl; exact rfl)
    | (apply aops_shr32; exact rfl; exact rfl; exact rfl)
    | (apply aops_indexA; exact rfl; exact rfl; exact rfl; exact rfl; (first | assumption | omega | decide); exact rfl)
    | (apply aops_indexAddrA; exact rfl; exact rfl; exact rfl; exact rfl; first | assumption | omega | decide)
    | (apply awp_draw; exact rfl; kernel_rfl)
    | apply aq_nil
    | (apply aq_idx; exact rfl; exact rfl; exact rfl; first | assumption | omega | (simp; omega))
    | (apply aq_shr4; exact rfl; exact rfl)
    | (apply aq_and15; exact rfl; exact rfl)
    | (apply aq_convW; exact rfl; exact rfl; exact rfl; omega)
    | (apply aq_buildA; exact rfl; exact rfl; exact rfl)
    | apply aq_move
    | apply aq_assign
    | (apply aq_add; exact rfl; exact rfl; exact wrap_i64 (by omega) (by omega))
    | (apply aq_lenS; exact rfl; exact rfl; exact rfl)
    | (apply aq_upto; exact rfl; exact rfl; exact rfl; first | assumption | omega | (simp; omega))
    | (apply aq_from; exact rfl; exact rfl; exact rfl; first | assumption | omega | (simp; omega))
    | (apply aq_extract; exact rfl; exact rfl)
    | apply awp_skip
    | apply awp_exit
    | apply awp_ret
    | (apply aops_remN (n := 16); exact rfl; exact rfl; omega)
    | (apply aops_quoN (n := 16); exact rfl; exact rfl; omega; exact wrapU32 (by omega))
    | (apply aops_addN (n := 1); exact rfl; exact rfl; exact wrapU32 (by omega))
    | (apply aops_span (i := q.toNat % 16) (j := q.toNat % 16 + 1); exact rfl; exact rfl; exact rfl; exact rfl; omega; (show q.toNat % 16 + 1 ≤ 16; omega)))
  · refine ⟨k + 1, ⟨by omega, stA_mk ⟨?_, ?_, rfl, trivial⟩⟩, by omega⟩
    · refine congrArg (fun n : Nat => AV.v (.int .u32 (n : Int))) (?_ : q.toNat / 16 = (x >>> (4 * (k + 1))).toNat)
      rw [show 4 * (k + 1) = 4 * k + 4 by omega, BitVec.shiftRight_add, hq, BitVec.toNat_ushiftRight, Nat.shiftRight_eq_div_pow]
    · refine congrArg Sv (?_ : (hexL.take (q.toNat % 16 + 1)).drop (q.toNat % 16) ++ _ = _)
      rw [figsP_drop x (by omega), hexL_span hn, figP_val x (by omega), show 4 * (7 - (7 - k)) = 4 * k by omega, hq]
      rfl
  · have e : k = 8 := by omega
    subst e
    exact aret_plain rfl (ares_one rfl) ⟨congrArg Sv (by simp), _, rfl⟩
end Go.Proofs.YtopmpdoigmenmaaGreatDoor
