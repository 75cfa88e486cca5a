/- Strings with counted bounds: their bytes and pieces. Generic: names no program. -/
import Derived.Test.YtopmpdoigmenmaaDoorAf
set_option linter.unusedVariables false
namespace Go.Av
open Go Go.RowKit

/-- A byte. -/
@[reducible] def Uv (c : UInt8) : AV := .v (.int .u8 (c.toNat : Nat))

section
variable {E : Env} {rd : Option Nat} {N : Nat} {ops : Array Oper} {K : AS → Prop} {s : AS} {rest : List Oper} {d : Option Tmp} {T : TypeId} {p : String} {af : Array Edge}

theorem aops_idx {x y : Operand} {t : TypeId} {m : List UInt8} {k : IntKind} {n : Nat} (hx : aeval N s x = Sv m) (hy : aeval N s y = .v (.int k (n : Int))) (hu : E.P.underlying t = some .string) (h1 : n < m.length)
    (h : AOps E rd N ops rest K (s.put d (Uv (m.getD n 0)))) : AOps E rd N ops (⟨d, .index t x y, T, p, af, none⟩ :: rest) K s :=
  aops_indexS hx hy hu (by omega) (by omega) (by simpa using h)
theorem aops_upto {x z : Operand} {t : TypeId} {k : IntKind} {l : List UInt8} {j : Nat} (hx : aeval N s x = Sv l) (hz : aeval N s z = .v (.int k (j : Int))) (hu : E.P.underlying t = some .string) (h2 : j ≤ l.length)
    (h : AOps E rd N ops rest K (s.put d (Sv (l.take j)))) : AOps E rd N ops (⟨d, .slice t x none (some z) none, T, p, af, none⟩ :: rest) K s :=
  aops_sliceS (i := 0) (j := j) hx hu rfl ⟨_, hz⟩ (by omega) (by omega) (by omega) (by simpa using h)
theorem aops_from {x z : Operand} {t : TypeId} {k : IntKind} {l : List UInt8} {i : Nat} (hx : aeval N s x = Sv l) (hz : aeval N s z = .v (.int k (i : Int))) (hu : E.P.underlying t = some .string) (h2 : i ≤ l.length)
    (h : AOps E rd N ops rest K (s.put d (Sv (l.drop i)))) : AOps E rd N ops (⟨d, .slice t x (some z) none none, T, p, af, none⟩ :: rest) K s :=
  aops_sliceS (i := i) (j := l.length) hx hu ⟨_, hz⟩ rfl (by omega) (by omega) (by omega) (by simpa using h)
theorem aops_span {x y z : Operand} {t : TypeId} {k k' : IntKind} {l : List UInt8} {i j : Nat} (hx : aeval N s x = Sv l) (hy : aeval N s y = .v (.int k' (i : Int))) (hz : aeval N s z = .v (.int k (j : Int))) (hu : E.P.underlying t = some .string) (h1 : i ≤ j) (h2 : j ≤ l.length)
    (h : AOps E rd N ops rest K (s.put d (Sv ((l.take j).drop i)))) : AOps E rd N ops (⟨d, .slice t x (some y) (some z) none, T, p, af, none⟩ :: rest) K s :=
  aops_sliceS (i := i) (j := j) hx hu ⟨_, hy⟩ ⟨_, hz⟩ (by omega) (by omega) (by omega) (by simpa using h)
end

theorem u8i (c : UInt8) (n : Nat) (h : n < 256) : ((c.toNat : Nat) : Int) = (OfNat.ofNat n : Int) ↔ c = (OfNat.ofNat n : UInt8) := by
  constructor
  · intro h'
    have e : c.toNat = n := by
      have : (OfNat.ofNat n : Int) = (n : Int) := rfl
      omega
    subst e
    exact (UInt8.ofNat_toNat (x := c)).symm
  · intro h'
    subst h'
    show ((n % 256 : Nat) : Int) = (n : Int)
    rw [Nat.mod_eq_of_lt h]
theorem u8le (c : UInt8) (n : Nat) (h : n < 256) : (OfNat.ofNat n : Int) ≤ ((c.toNat : Nat) : Int) ↔ (OfNat.ofNat n : UInt8) ≤ c := by
  rw [UInt8.le_iff_toNat_le]
  show (n : Int) ≤ _ ↔ n % 256 ≤ _
  rw [Nat.mod_eq_of_lt h]
  omega
theorem u8ge (c : UInt8) (n : Nat) (h : n < 256) : ((c.toNat : Nat) : Int) ≤ (OfNat.ofNat n : Int) ↔ c ≤ (OfNat.ofNat n : UInt8) := by
  rw [UInt8.le_iff_toNat_le]
  show _ ≤ (n : Int) ↔ _ ≤ n % 256
  rw [Nat.mod_eq_of_lt h]
  omega
theorem u8lt (c : UInt8) (n : Nat) (h : n < 256) : ((c.toNat : Nat) : Int) < (OfNat.ofNat n : Int) ↔ c < (OfNat.ofNat n : UInt8) := by
  rw [UInt8.lt_iff_toNat_lt]
  show _ < (n : Int) ↔ _ < n % 256
  rw [Nat.mod_eq_of_lt h]
  omega
theorem u8_9 (c : UInt8) : ((c.toNat : Nat) : Int) = 9 ↔ c = 9 := u8i c 9 (by decide)
theorem u8_10 (c : UInt8) : ((c.toNat : Nat) : Int) = 10 ↔ c = 10 := u8i c 10 (by decide)
theorem u8_32 (c : UInt8) : ((c.toNat : Nat) : Int) = 32 ↔ c = 32 := u8i c 32 (by decide)
theorem u8_35 (c : UInt8) : ((c.toNat : Nat) : Int) = 35 ↔ c = 35 := u8i c 35 (by decide)
theorem u8_37 (c : UInt8) : ((c.toNat : Nat) : Int) = 37 ↔ c = 37 := u8i c 37 (by decide)
theorem u8_45 (c : UInt8) : ((c.toNat : Nat) : Int) = 45 ↔ c = 45 := u8i c 45 (by decide)
theorem u8_48 (c : UInt8) : ((c.toNat : Nat) : Int) = 48 ↔ c = 48 := u8i c 48 (by decide)
theorem u8_57 (c : UInt8) : ((c.toNat : Nat) : Int) = 57 ↔ c = 57 := u8i c 57 (by decide)
theorem u8_58 (c : UInt8) : ((c.toNat : Nat) : Int) = 58 ↔ c = 58 := u8i c 58 (by decide)
theorem u8_97 (c : UInt8) : ((c.toNat : Nat) : Int) = 97 ↔ c = 97 := u8i c 97 (by decide)
theorem u8_102 (c : UInt8) : ((c.toNat : Nat) : Int) = 102 ↔ c = 102 := u8i c 102 (by decide)
theorem take_next {l : List UInt8} {k : Nat} (h : k < l.length) : l.take (k + 1) = l.take k ++ [l.getD k 0] := by
  rw [List.take_add_one, List.getD, List.getElem?_eq_getElem h]
  rfl
theorem notin_next {l : List UInt8} {k : Nat} {c : UInt8} (hk : k < l.length) (h : c ∉ l.take k) (hc : ¬ l.getD k 0 = c) : c ∉ l.take (k + 1) := by
  rw [take_next hk, List.mem_append]
  rintro (h' | h')
  · exact h h'
  · exact hc (by simp at h'; exact h'.symm)
theorem all_next {l : List UInt8} {k : Nat} {p : UInt8 → Prop} (hk : k < l.length) : (∀ c ∈ l.take (k + 1), p c) ↔ (∀ c ∈ l.take k, p c) ∧ p (l.getD k 0) := by
  rw [take_next hk]
  constructor
  · exact fun h => ⟨fun c hc => h c (List.mem_append_left _ hc), h _ (by simp)⟩
  · rintro ⟨h, h'⟩ c hc
    rcases List.mem_append.1 hc with hc | hc
    · exact h c hc
    · simp at hc; subst hc; simpa using h'
theorem getD_of {l : List UInt8} {k : Nat} (h : k < l.length) : l.getD k 0 ∈ l := by
  rw [List.getD, List.getElem?_eq_getElem h]
  exact List.getElem_mem h
theorem drop_next {l : List UInt8} {k : Nat} (h : k < l.length) : l.drop k = l.getD k 0 :: l.drop (k + 1) := by
  rw [List.getD, List.getElem?_eq_getElem h]
  exact List.drop_eq_getElem_cons h
theorem pure_tu2v (x y : Value) : Pure (.tu [.v x, .v y]) := pure_tu (by simp; exact ⟨pure_v _, pure_v _⟩)
theorem pure_tu3v (x y z : Value) : Pure (.tu [.v x, .v y, .v z]) := pure_tu (by simp; exact ⟨pure_v _, pure_v _, pure_v _⟩)
theorem tu_ssb {a a' b b' : List UInt8} {c c' : Bool} (h : (a, b, c) = (a', b', c')) : AV.tu [Sv a, Sv b, Bv c] = .tu [Sv a', Sv b', Bv c'] := by
  simp only [Prod.mk.injEq] at h
  rw [h.1, h.2.1, h.2.2]
theorem tu_sb {a a' : List UInt8} {c c' : Bool} (h : (a, c) = (a', c')) : AV.tu [Sv a, Bv c] = .tu [Sv a', Bv c'] := by
  simp only [Prod.mk.injEq] at h
  rw [h.1, h.2]
theorem tu_ib {a a' : Int} {c c' : Bool} (h : (a, c) = (a', c')) : AV.tu [Iv a, Bv c] = .tu [Iv a', Bv c'] := by
  simp only [Prod.mk.injEq] at h
  rw [h.1, h.2]
theorem tu_isi {a a' c c' : Int} {b b' : List UInt8} (h : (a, b, c) = (a', b', c')) : AV.tu [Iv a, Sv b, Iv c] = .tu [Iv a', Sv b', Iv c'] := by
  simp only [Prod.mk.injEq] at h
  rw [h.1, h.2.1, h.2.2]
theorem tu_isb {a a' : Int} {b b' : List UInt8} {c c' : Bool} (h : (a, b, c) = (a', b', c')) : AV.tu [Iv a, Sv b, Bv c] = .tu [Iv a', Sv b', Bv c'] := by
  simp only [Prod.mk.injEq] at h
  rw [h.1, h.2.1, h.2.2]
theorem tu_ss {a a' b b' : List UInt8} (h : (a, b) = (a', b')) : AV.tu [Sv a, Sv b] = .tu [Sv a', Sv b'] := by
  simp only [Prod.mk.injEq] at h
  rw [h.1, h.2]
end Go.Av
