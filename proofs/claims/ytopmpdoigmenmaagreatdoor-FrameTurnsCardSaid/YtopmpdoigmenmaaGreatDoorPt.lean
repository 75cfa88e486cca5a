/- Plain facts on check sums: a text with one byte changed has another one. No walk. -/
import Derived.Test.YtopmpdoigmenmaaGreatDoorSr
import Derived.Test.YtopmpdoigmenmaaGreatDoorPp
set_option maxRecDepth 100000
set_option linter.unusedVariables false
namespace Go.Proofs.YtopmpdoigmenmaaGreatDoor
open Go Go.Pl

theorem crcBit_zero {z : BitVec 32} (h : crcBit z = 0#32) : z = 0#32 := by
  rw [crcBit_eq] at h
  cases hm : z.msb with
  | true =>
    rw [hm] at h
    simp only [if_true] at h
    have := congrArg (fun x : BitVec 32 => x.getLsbD 0) h
    simp at this
  | false =>
    rw [hm] at h
    simp only [Bool.false_eq_true, if_false, BitVec.xor_zero] at h
    apply BitVec.eq_of_getLsbD_eq
    intro i hi
    by_cases h31 : i = 31
    · subst h31
      have : z.msb = z.getLsbD 31 := BitVec.msb_eq_getLsbD_last z
      rw [← this, hm]
      simp
    · have := congrArg (fun x : BitVec 32 => x.getLsbD (i + 1)) h
      simp [show i + 1 < 32 by omega] at this
      have e : z.getLsbD i = z[i] := BitVec.getLsbD_eq_getElem hi
      rw [e]
      simpa using this
theorem crcBits_zero : ∀ (n : Nat) {z : BitVec 32}, crcBits n z = 0#32 → z = 0#32
  | 0, z, h => h
  | n + 1, z, h => crcBits_zero n (crcBit_zero h)
theorem xor_zero_iff {a b : BitVec 32} (h : a ^^^ b = 0#32) : a = b := by
  have := congrArg (fun x => x ^^^ b) h
  simpa [BitVec.xor_assoc] using this
theorem crcBits_inj {n : Nat} {a b : BitVec 32} (h : crcBits n a = crcBits n b) : a = b := by
  apply xor_zero_iff
  apply crcBits_zero n
  rw [crcBits_xor, h, BitVec.xor_self]
theorem crcP_injL {x y : BitVec 32} {c : UInt8} (h : crcP x c = crcP y c) : x = y := by
  rw [crcP_bits, crcP_bits] at h
  have := crcBits_inj h
  have e := congrArg (fun z => z ^^^ (BitVec.ofNat 32 c.toNat <<< 24)) this
  simpa [BitVec.xor_assoc] using e
theorem crcP_injR {x : BitVec 32} {c d : UInt8} (h : crcP x c = crcP x d) : c = d := by
  rw [crcP_bits, crcP_bits] at h
  have := crcBits_inj h
  have e := congrArg (fun z => x ^^^ z) this
  simp only [← BitVec.xor_assoc, BitVec.xor_self, BitVec.zero_xor] at e
  have e2 := congrArg BitVec.toNat e
  simp only [BitVec.toNat_shiftLeft, BitVec.toNat_ofNat, Nat.shiftLeft_eq] at e2
  have h1 := UInt8.toNat_lt c
  have h2 := UInt8.toNat_lt d
  apply UInt8.toNat_inj.1
  omega
theorem foldl_inj : ∀ (r : Bytes) {x y : BitVec 32}, r.foldl crcP x = r.foldl crcP y → x = y
  | [], _, _, h => h
  | c :: r, _, _, h => crcP_injL (foldl_inj r h)
theorem addP_turn {s : BitVec 32} {a r : Bytes} {c d : UInt8} (h : addP s (a ++ c :: r) = addP s (a ++ d :: r)) : c = d := by
  unfold addP at h
  have h2 := congrArg (fun z => ~~~ z) h
  simp only [BitVec.not_not, List.foldl_append, List.foldl_cons] at h2
  exact crcP_injR (foldl_inj r h2)
theorem hexL_inj {i j : Nat} (hi : i < 16) (hj : j < 16) (h : hexL.getD i 0 = hexL.getD j 0) : i = j := by
  have key : ∀ a b : Fin 16, hexL.getD a.val 0 = hexL.getD b.val 0 → a = b := by decide +kernel
  have := key ⟨i, hi⟩ ⟨j, hj⟩ h
  simpa using this
theorem figsP_inj {x y : BitVec 32} (h : figsP x 8 = figsP y 8) : x = y := by
  have key : ∀ m, m < 8 → x.toNat / 2 ^ (4 * m) % 16 = y.toNat / 2 ^ (4 * m) % 16 := fun m hm => by
    have e := congrArg (fun l : Bytes => l[7 - m]?) h
    simp [figsP, show 7 - m < 8 by omega] at e
    rw [figP_val x (by omega), figP_val y (by omega), show 4 * (7 - (7 - m)) = 4 * m by omega] at e
    have := hexL_inj (Nat.mod_lt _ (by decide)) (Nat.mod_lt _ (by decide)) e
    simpa [BitVec.toNat_ushiftRight, Nat.shiftRight_eq_div_pow] using this
  apply BitVec.eq_of_toNat_eq
  have hx := x.isLt
  have hy := y.isLt
  have k0 := key 0 (by decide)
  have k1 := key 1 (by decide)
  have k2 := key 2 (by decide)
  have k3 := key 3 (by decide)
  have k4 := key 4 (by decide)
  have k5 := key 5 (by decide)
  have k6 := key 6 (by decide)
  have k7 := key 7 (by decide)
  simp only [Nat.reduceMul, Nat.reducePow] at *
  omega
/-- A record with one byte of its body changed. -/
theorem read_turned {a r : Bytes} {c d : UInt8} (h : goodF (a ++ c :: r)) (hne : c ≠ d) : readF (head0 (a ++ c :: r).length (sumF (a ++ c :: r)) ++ 10 :: ((a ++ d :: r) ++ tailF (a ++ c :: r).length)) = (3, [], 0) := by
  have R := recLike_of h
  have hl : (a ++ d :: r).length = (a ++ c :: r).length := by simp
  rw [readF_head _ R.two R.most R.figs R.hex, if_neg (by simp), ← hl, List.take_left, List.drop_left]
  by_cases hg : goodF (a ++ d :: r)
  · rw [if_pos hg]
    unfold closedF
    rw [if_neg (by intro h; omega), if_neg ?_]
    rintro ⟨_, h2⟩
    exact hne (addP_turn (figsP_inj h2))
  · rw [if_neg hg]
end Go.Proofs.YtopmpdoigmenmaaGreatDoor
