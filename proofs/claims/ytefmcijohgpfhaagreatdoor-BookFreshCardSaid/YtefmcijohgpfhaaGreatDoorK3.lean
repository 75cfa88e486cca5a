/- Contracts and plain facts that the closing text leans on (part 3). No condition of their own beyond those that each states. -/
import Derived.Test.YtefmcijohgpfhaaGreatDoorK2
import Derived.Lib.SplitLaws
import Derived.Shelf.Strings.SplitShaped
import Derived.Deep.Slices
import Derived.Deep.Fields
import Derived.WideKeyArgs
import Derived.Lib.ItoaLen
set_option maxRecDepth 100000
set_option linter.unusedVariables false
set_option linter.unusedSimpArgs false
set_option linter.unusedVariables false
set_option maxRecDepth 100000
namespace Go.Proofs.YtefmcijohgpfhaaGreatDoor
open Go Go.Av Go.RowKit Go.Proofs Go.Pl
def sumF (l : List UInt8) : List UInt8 := qb3 (addP 0 l) 8
theorem qlw (l : List UInt8) : (sumF l).length = 8 := by simp [sumF, qb3]
theorem is_c (f l : List UInt8) (st : List AObj) (hl : l.length < 4294967281) : qt E 168 [Sv f, .sl 1 [Sv l] none] st fun r st' => r = Bv (decide (f = sumF l)) ∧ st' = st := by
 refine zg (zi _) (qv Tryz.func168 rfl (Nat.le_of_ble_eq_true rfl) ?_)
 repeat' (first
  | apply qj
  | apply qc
  | apply qg
  | apply qh
  | apply qb
  | (apply z0; (iterate 3 exact rfl))
  | apply qq
  | (apply qf; exact Tryz.call102; exact q5b l _ hl)
  | (apply qf; exact Tryz.call101; exact q0m _ _))
 exact qi rfl (zf rfl) ⟨rfl, _, rfl⟩
def qa5 (rest body sums : List UInt8) (size : Int) : Int × List UInt8 × Int :=
 if rest.length < (qdk body.length).length ∧ rest <+: qdk body.length then (2, [], 0)
 else if qdk body.length <+: rest ∧ sums = sumF body then (1, body, size) else (3, [], 0)
theorem q1j (rest body sums : List UInt8) (size : Int) (st : List AObj) (hb : body.length < 4294967281) : qt E 142 [Sv rest, Sv body, Sv sums, Iv size] st fun r st' => r = .tu [Iv (qa5 rest body sums size).1, Sv (qa5 rest body sums size).2.1, Iv (qa5 rest body sums size).2.2] ∧ st' = st := by
 refine zg (qdz _ _ _) (qv Tryz.func142 rfl (Nat.le_of_ble_eq_true rfl) ?_)
 repeat' (first
  | apply qj
  | apply qp
  | apply qc
  | apply qg
  | apply qh
  | apply qb
  | (apply qm; (iterate 3 exact rfl))
  | (apply qo; (iterate 4 exact rfl))
  | (apply vh; (first | assumption | omega))
  | (apply ko; (first | assumption | omega))
  | (apply kg; (first | exact rfl | assumption))
  | (apply ju; (first | exact rfl | assumption))
  | (apply je <;> intro h)
  | (apply vm <;> intro h)
  | (apply qr; exact rfl; first | (apply jn; (first | assumption | omega)) | (apply jq; (first | assumption | omega)) | (apply jo; (first | exact rfl | assumption)) | (apply jr; (first | exact rfl | assumption)) | (apply pk_t; (first | exact rfl | assumption)) | (apply pk_f; (first | exact rfl | assumption)))
  | (apply qe; exact rfl; first | (apply q5; (first | assumption | omega)) | (apply q6; (first | assumption | omega)) | (apply q7; (first | exact rfl | assumption)) | (apply q8; (first | exact rfl | assumption)) | (apply cd_n <;> intro h) | (apply cd_t; (first | exact rfl | assumption)) | (apply cd_f; (first | exact rfl | assumption)) | (apply cd_d <;> intro h) | (apply cd_s <;> intro h))
  | (apply z2; (iterate 3 exact rfl))
  | (apply zr; (iterate 9 exact rfl))
  | apply qs
  | apply qq
  | (apply qf; exact Tryz.call103; exact q0y body.length _ (by omega))
  | (apply qf; exact Tryz.call73; exact qdf _ _ _)
  | (apply qf; exact Tryz.call168; exact is_c sums body _ hb))
 all_goals refine qi rfl (qb6 rfl) ⟨q0t (?_ : _ = _), _, rfl⟩
 all_goals show _ = qa5 rest body sums size
 all_goals
  have c1 : (↑rest.length : Int) < ↑(qdk body.length).length ↔ rest.length < (qdk body.length).length := by omega
  simp only [c1, qfn, decide_eq_true_eq, decide_eq_false_iff_not] at *
  simp_all [qa5] <;> (intros; omega)
theorem q1h (l : List UInt8) (st : List AObj) (hl : l.length < 4294967281) : qt E 97 [Sv l] st fun r st' => r = Bv (decide (l.head? = some 37 ∧ q9 l = 5)) ∧ st' = st := by
 refine zg (zi _) (qv Tryz.func97 rfl (Nat.le_of_ble_eq_true rfl) ?_)
 repeat' (first
  | (apply wh; first | apply qj | apply qp | apply qc | (apply qe; exact rfl; first | (apply q5; (first | assumption | omega)) | (apply q6; (first | assumption | omega)) | (apply q7; (first | exact rfl | assumption)) | (apply q8; (first | exact rfl | assumption)) | (apply cd_n <;> intro h) | (apply cd_t; (first | exact rfl | assumption)) | (apply cd_f; (first | exact rfl | assumption)) | (apply cd_d <;> intro h) | (apply cd_s <;> intro h)) | (apply v4; exact rfl; kernel_rfl) | apply qs | apply z6 | apply qq)
  | (apply vc; first | (apply qo; (iterate 4 exact rfl)) | (apply zw; (iterate 4 exact rfl)))
  | (apply wu; first | (apply vh; (first | assumption | omega)) | (apply jv; (first | assumption | omega)) | (apply jt; (first | assumption | omega)) | (apply ko; (first | assumption | omega)) | (apply vo; (first | exact rfl | assumption)) | (apply j3; (first | exact rfl | assumption)) | (apply jx; (first | exact rfl | assumption)) | (apply kr; (first | exact rfl | assumption)) | (apply kj <;> intro h) | (apply kg; (first | exact rfl | assumption)) | (apply vn; (first | exact rfl | assumption)) | (apply jw; (first | exact rfl | assumption)) | (apply ju; (first | exact rfl | assumption)) | (apply je <;> intro h) | (apply vm <;> intro h))
  | (apply wx; first | apply w7 | (apply wy; (iterate 4 exact rfl)) | (apply xu; exact rfl; exact rfl; exact ql (by omega) (by omega)) | (apply ww; (iterate 4 exact rfl); (first | assumption | omega | (simp; omega)); first | assumption | omega | (simp; omega)) | (apply ke; (iterate 5 exact rfl)) | (apply vp; exact rfl; exact rfl; (first | omega | (simp only [List.length_append, List.length_cons, List.length_nil]; omega) | (simp; omega))) | (apply kp; (iterate 3 exact rfl)) | (apply j7; (iterate 5 exact rfl)) | (apply jb; (iterate 4 exact rfl)) | (apply ja; (iterate 3 exact rfl)) | (apply xk; (iterate 3 exact rfl); first | assumption | omega | (simp; omega)) | (apply wq; exact rfl; exact rfl) | (apply wc; exact rfl; exact rfl) | (apply wb; (iterate 3 exact rfl); omega) | (apply vq; (iterate 3 exact rfl)) | apply wg | apply vk | (apply xo; exact rfl; exact rfl; exact ql (by omega) (by omega)) | (apply wv; (iterate 3 exact rfl)) | (apply wl; (iterate 3 exact rfl); first | assumption | omega | (simp; omega)) | (apply wn; (iterate 3 exact rfl); first | assumption | omega | (simp; omega)) | (apply kv; exact rfl; exact rfl))
  | (apply vb; first | (apply qm; (iterate 3 exact rfl)) | (apply z0; (iterate 3 exact rfl)) | (apply zq; exact rfl; exact rfl; (first | omega | (simp only [List.length_append, List.length_cons, List.length_nil]; omega) | (simp; omega))) | (apply zy; exact rfl; exact rfl; exact ql (by omega) (by omega)) | (apply vl; exact rfl; exact rfl; exact ql (by omega) (by omega)) | (apply zo; exact rfl; exact rfl) | (apply zl; exact rfl; exact rfl) | (apply z8; exact rfl; exact rfl) | (apply jg; exact rfl; exact rfl) | (apply jd; (iterate 3 exact rfl)) | (apply ji; (iterate 3 exact rfl)) | (apply ka; exact rfl; exact rfl; (first | exact qd _ | exact rfl); first | exact qd _ | exact rfl) | (apply km; exact rfl; exact rfl; (first | exact qd _ | exact rfl); first | exact qd _ | exact rfl) | (apply vv; exact rfl; exact rfl; (first | exact qd _ | exact rfl); first | exact qd _ | exact rfl) | (apply j5; (iterate 3 exact rfl)) | (apply kc; (iterate 3 exact rfl)))
  | (apply vr; first | (apply zc; (iterate 3 exact rfl)) | (apply jk; (iterate 5 exact rfl)) | (apply ze; (iterate 5 exact rfl)))
  | (apply vw; first | (apply ku; exact rfl) | (apply z7; exact rfl) | (apply jl; exact rfl))
  | (apply vd; first | (apply vf; (iterate 3 exact rfl); first | assumption | omega | (simp; omega)) | (apply kf; (iterate 3 exact rfl); first | assumption | omega | (simp; omega)) | (apply vj; (iterate 4 exact rfl); (first | assumption | omega | (simp; omega)); first | assumption | omega | (simp; omega)) | (apply jc; (iterate 4 exact rfl); (first | assumption | omega | exact Nat.succ_le_succ (Nat.zero_le _) | (simp; omega)); exact rfl))
  | (apply vz; first | (apply z2; (iterate 3 exact rfl)) | (apply zk; (iterate 4 exact rfl)))
  | (apply jh; first | (apply qu; (iterate 3 exact rfl)) | (apply zn; (iterate 4 exact rfl)))
  | (apply va; first | (apply zm; (iterate 11 exact rfl)) | (apply za; (iterate 11 exact rfl)))
  | (apply we; first | apply qg | apply qh | apply qb | (apply qx; exact rfl; exact rfl) | (apply qr; exact rfl; first | (apply jn; (first | assumption | omega)) | (apply jq; (first | assumption | omega)) | (apply jo; (first | exact rfl | assumption)) | (apply jr; (first | exact rfl | assumption)) | (apply pk_t; (first | exact rfl | assumption)) | (apply pk_f; (first | exact rfl | assumption))) | (apply qy; exact rfl; exact rfl) | apply jj | (apply zj; exact rfl; exact rfl) | (apply j4; (iterate 4 exact rfl)) | (apply kh; (iterate 3 exact rfl)) | (apply j6; (iterate 3 exact rfl); first | assumption | omega | (simp; omega)) | (apply zt; (iterate 3 exact rfl)) | (apply zr; (iterate 9 exact rfl)) | (apply zv; exact rfl; exact rfl) | (apply jy; (iterate 4 exact rfl); (first | assumption | omega | decide); exact rfl) | (apply zx; (iterate 4 exact rfl); first | assumption | omega | decide))
  | (apply qf; exact Tryz.call73; exact qel _ _ _)
  | (apply qf; exact Tryz.call132; exact qgo _ _ hl))
 all_goals refine qi rfl (zf rfl) ⟨congrArg Bv (?_ : _ = _), _, rfl⟩
 all_goals simp_all
def kq (l : List UInt8) : Int × List UInt8 × Int :=
 if 10 ∈ l then
  if (kw (upto 10 l)).2.2 = true then
   if (past 10 l).length < (kw (upto 10 l)).1 then (qc2 (past 10 l) ((kw (upto 10 l)).1 - (past 10 l).length), [], 0)
   else if qbk ((past 10 l).take (kw (upto 10 l)).1) then qa5 ((past 10 l).drop (kw (upto 10 l)).1) ((past 10 l).take (kw (upto 10 l)).1) (kw (upto 10 l)).2.1 (qet (kw (upto 10 l)).1)
   else (3, [], 0)
  else (3, [], 0)
 else if qdp l = true then (2, [], 0) else (3, [], 0)
theorem q4t (l : List UInt8) (st : List AObj) (hl : l.length < 4294967281) : qt E 98 [Sv l] st fun r st' => r = .tu [Iv (kq l).1, Sv (kq l).2.1, Iv (kq l).2.2] ∧ st' = st := by
 refine zg (qdz _ _ _) (qv Tryz.func98 rfl (Nat.le_of_ble_eq_true rfl) ?_)
 have hb2 := wt 10 l
 have hb3 := wr 10 l
 have hn : (kw (upto 10 l)).1 ≤ 50000 := qbz _
 repeat' (first
  | apply qj
  | apply qp
  | apply qc
  | apply qg
  | apply qh
  | apply qb
  | (apply qx; exact rfl; exact rfl)
  | (apply qm; (iterate 3 exact rfl))
  | (apply z7; exact rfl)
  | (apply qe; exact rfl; first | (apply q5; (first | assumption | omega)) | (apply q6; (first | assumption | omega)) | (apply q7; (first | exact rfl | assumption)) | (apply q8; (first | exact rfl | assumption)) | (apply cd_n <;> intro h) | (apply cd_t; (first | exact rfl | assumption)) | (apply cd_f; (first | exact rfl | assumption)) | (apply cd_d <;> intro h) | (apply cd_s <;> intro h))
  | (apply z2; (iterate 3 exact rfl))
  | (apply vl; exact rfl; exact rfl; exact ql (by omega) (by omega))
  | (apply vf; (iterate 3 exact rfl); first | assumption | omega | (simp; omega))
  | (apply v4; exact rfl; kernel_rfl)
  | apply w7
  | apply wg
  | apply vk
  | (apply wl; (iterate 3 exact rfl); first | assumption | omega | (simp; omega))
  | (apply wn; (iterate 3 exact rfl); first | assumption | omega | (simp; omega))
  | (apply kv; exact rfl; exact rfl)
  | apply qs
  | apply qq
  | (apply qf; exact Tryz.call36; exact qgq l 10 _ hl)
  | (apply qf; exact Tryz.call139; exact qya _ _ hl)
  | (apply qf; exact Tryz.call140; exact q1e (upto 10 l) _ (by omega))
  | (apply qf; exact Tryz.call141; exact q01 _ _ _ (by omega))
  | (apply qf; exact Tryz.call99; exact q5d ((past 10 l).take (kw (upto 10 l)).1) _ (by simp; omega))
  | (refine qvx (vals := [.int .i64 (kw (upto 10 l)).1]) E_ok Tryz.call143 rfl (qm7 _) (fun _ => .v _) (q12 _ _) ?_)
  | (refine qvx (vals := [.string ⟨((past 10 l).drop (kw (upto 10 l)).1).toArray⟩, .string ⟨((past 10 l).take (kw (upto 10 l)).1).toArray⟩, .string ⟨(kw (upto 10 l)).2.1.toArray⟩, .int .i64 (qet (kw (upto 10 l)).1)]) E_ok Tryz.call142 rfl q1r (fun _ => qph (.v _) (.v _) (.v _)) (q1j _ _ _ _ _ (by simp; omega)) ?_))
 all_goals refine qi rfl (qb6 rfl) ⟨q0t (?_ : _ = kq l), _, rfl⟩
 all_goals
  have c1 : (↑(past 10 l).length : Int) < ↑(kw (upto 10 l)).1 ↔ (past 10 l).length < (kw (upto 10 l)).1 := by omega
  simp only [c1, decide_eq_true_eq, decide_eq_false_iff_not] at *
  clear c1 hb2 hb3 hn hl
 ·unfold kq; rw [if_neg (by assumption), if_pos (by assumption)]
 ·unfold kq; rw [if_neg (by assumption), if_neg (by simp_all)]
 ·unfold kq; rw [if_pos (by assumption), if_neg (by simp_all)]
 ·unfold kq; rw [if_pos (by assumption), if_pos (by assumption), if_pos (by assumption)]
 ·unfold kq; rw [if_pos (by assumption), if_pos (by assumption), if_neg (by assumption), if_neg (by assumption)]
 ·unfold kq; rw [if_pos (by assumption), if_pos (by assumption), if_neg (by assumption), if_pos (by assumption)]
def recF (l : List UInt8) : List UInt8 := qis l.length (sumF l) ++ l ++ qdk l.length
end Go.Proofs.YtefmcijohgpfhaaGreatDoor
set_option linter.unusedVariables false
set_option maxRecDepth 100000
namespace Go.Proofs.YtefmcijohgpfhaaGreatDoor
open Go Go.Av Go.RowKit Go.Proofs Go.Pl
theorem qi4 : ∀ (n u : Nat), u < n → u < 18446744073709551616 → ∀ st, qt E 121 [.v (.int .u64 (u : Int))] st fun r st' => r = Sv (Lib.decDigits u) ∧ st' = st
 | 0, _, h, _, _ => absurd h (Nat.not_lt_zero _)
 | n + 1, u, hu, h64, st => by
  refine zg (zi _) (qv Tryz.func121 rfl (Nat.le_of_ble_eq_true rfl) ?_)
  have hl1 := qgd (u := u / 10) (by omega)
  have hl2 := qgd (u := u % 10) (by omega)
  by_cases h10 : u < 10
  ·skip
   repeat' (first
    | apply qj
    | apply qc
    | apply qg
    | apply qh
    | apply qb
    | (apply qm; (iterate 3 exact rfl))
    | (apply qe; exact rfl; first | (apply q5; (first | assumption | omega)) | (apply q6; (first | assumption | omega)) | (apply q7; (first | exact rfl | assumption)) | (apply q8; (first | exact rfl | assumption)) | (apply cd_n <;> intro h) | (apply cd_t; (first | exact rfl | assumption)) | (apply cd_f; (first | exact rfl | assumption)) | (apply cd_d <;> intro h) | (apply cd_s <;> intro h))
    | (apply vj; (iterate 4 exact rfl); (first | assumption | omega | (simp; omega)); first | assumption | omega | (simp; omega))
    | apply qq
    | (apply qzp (n := 1); exact rfl; exact rfl; exact qpi (by omega)))
   exact qi rfl (zf rfl) ⟨congrArg Sv (qt5 h10), _, rfl⟩
  ·have ih1 := qi4 n (u / 10) (by omega) (by omega)
   have ih2 := qi4 n (u % 10) (by omega) (by omega)
   repeat' (first
    | apply qj
    | apply qc
    | apply qg
    | apply qh
    | apply qb
    | (apply qm; (iterate 3 exact rfl))
    | (apply qe; exact rfl; first | (apply q5; (first | assumption | omega)) | (apply q6; (first | assumption | omega)) | (apply q7; (first | exact rfl | assumption)) | (apply q8; (first | exact rfl | assumption)) | (apply cd_n <;> intro h) | (apply cd_t; (first | exact rfl | assumption)) | (apply cd_f; (first | exact rfl | assumption)) | (apply cd_d <;> intro h) | (apply cd_s <;> intro h))
    | (apply zq; exact rfl; exact rfl; (first | omega | (simp only [List.length_append, List.length_cons, List.length_nil]; omega) | (simp; omega)))
    | apply qs
    | apply qq
    | (apply qy7 (n := 10); exact rfl; exact rfl; omega; exact qpi (by omega))
    | (apply q0a (n := 10); exact rfl; exact rfl; omega)
    | (apply qf; exact Tryz.call121; exact ih1 _)
    | (apply qf; exact Tryz.call121; exact ih2 _))
   exact qi rfl (zf rfl) ⟨congrArg Sv (qa6 h10).symm, _, rfl⟩
theorem qsg (k : Nat) (st : List AObj) (hk : k ≤ 9223372036854775807) : qt E 82 [Iv k] st fun r st' => r = Sv (Lib.itoa k) ∧ st' = st := by
 refine zg (zi _) (qv Tryz.func82 rfl (Nat.le_of_ble_eq_true rfl) ?_)
 have hneg : ¬ (k : Int) < 0 := by omega
 repeat' (first
  | apply qj
  | apply qc
  | apply qg
  | apply qh
  | apply qb
  | (apply qm; (iterate 3 exact rfl))
  | (apply qe; exact rfl; first | (apply q5; (first | assumption | omega)) | (apply q6; (first | assumption | omega)) | (apply q7; (first | exact rfl | assumption)) | (apply q8; (first | exact rfl | assumption)) | (apply cd_n <;> intro h) | (apply cd_t; (first | exact rfl | assumption)) | (apply cd_f; (first | exact rfl | assumption)) | (apply cd_d <;> intro h) | (apply cd_s <;> intro h))
  | apply qs
  | apply qq
  | (apply qi7; (iterate 3 exact rfl); exact qpi (by omega))
  | (apply qf; exact Tryz.call121; exact qi4 (k + 1) k (by omega) (by omega) _))
 exact qi rfl (zf rfl) ⟨congrArg Sv (by unfold Lib.itoa; rw [if_neg hneg]; simp), _, rfl⟩
end Go.Proofs.YtefmcijohgpfhaaGreatDoor
set_option linter.unusedVariables false
set_option maxRecDepth 100000
namespace Go.Proofs.YtefmcijohgpfhaaGreatDoor
open Go Go.Av Go.RowKit Go.Proofs Go.Pl
def qnv (c : UInt8) : Bool := decide (48 ≤ c.toNat ∧ c.toNat ≤ 57)
end Go.Proofs.YtefmcijohgpfhaaGreatDoor
set_option maxRecDepth 100000
set_option linter.unusedVariables false
namespace Go.Pl
open Go
theorem yo : ∀ (n u : Nat), u ≤ n → ∀ c ∈ Lib.decDigits u, 48 ≤ c.toNat ∧ c.toNat ≤ 57
 | n, u, hn, c, hc => by
  by_cases h : u < 10
  ·rw [Lib.decDigits_one h] at hc
   simp only [List.mem_singleton] at hc
   subst hc
   rw [UInt8.toNat_ofNat']
   omega
  ·rw [qa6 h, List.mem_append] at hc
   cases n with
   | zero => omega
   | succ n =>
    rcases hc with hc | hc
    ·exact yo n (u / 10) (by omega) c hc
    ·exact yo n (u % 10) (by omega) c hc
theorem qfo (u : Nat) : 1 ≤ (Lib.decDigits u).length := by
 rw [Lib.decDigits_length]
 exact Lib.nDigits_pos u
theorem qgv {v : Int} (h : v < 0) : Lib.itoa v = 45 :: Lib.decDigits v.natAbs := by
 unfold Lib.itoa
 rw [if_pos h]
theorem qgl {v : Int} (h : 0 ≤ v) : Lib.itoa v = Lib.decDigits v.toNat := by
 unfold Lib.itoa
 rw [if_neg (by omega)]
theorem qhg {v : Int} (h1 : -9223372036854775808 ≤ v) (h2 : v ≤ 9223372036854775807) : (Lib.itoa v).length ≤ 20 := by
 by_cases h : v < 0
 ·rw [qgv h, List.length_cons, Lib.decDigits_length]
  have := qef 18 v.natAbs (by omega)
  omega
 ·rw [qgl (by omega), Lib.decDigits_length]
  have := qef 18 v.toNat (by omega)
  omega
theorem qpp : ∀ (a : Nat) (l m : qa) (b : Nat), Lib.parseUint10 a l = .ok b → Lib.parseUint10 a (l ++ m) = Lib.parseUint10 b m
 | a, [], m, b, h => by
  simp only [Lib.parseUint10, Lib.NumEnd.ok.injEq] at h
  subst h; rfl
 | a, c :: l, m, b, h => by
  simp only [List.cons_append, Lib.parseUint10] at h ⊢
  split at h
  ·rename_i hd
   rw [if_pos hd]
   split at h
   ·cases h
   ·rename_i h1
    rw [if_neg h1]
    split at h
    ·cases h
    ·rename_i h2
     rw [if_neg h2]
     exact qpp _ l m b h
  ·cases h
theorem qil : ∀ (n u : Nat), u ≤ n → u ≤ 9223372036854775808 → Lib.parseUint10 0 (Lib.decDigits u) = .ok u
 | n, u, hn, hu => by
  have key : ∀ (a d : Nat), a ≤ 922337203685477580 → d < 10 → Lib.parseUint10 a (Lib.decDigits d) = .ok (a * 10 + d) := by
   intro a d ha hd
   have e : (UInt8.ofNat (48 + d)).toNat = 48 + d := by rw [UInt8.toNat_ofNat']; omega
   rw [Lib.decDigits_one hd]
   simp only [Lib.parseUint10, e]
   rw [if_pos (by omega), if_neg (by omega), if_neg (by omega)]
   congr 1
   omega
  by_cases h : u < 10
  ·have := key 0 u (by omega) h
   simpa using this
  ·cases n with
   | zero => omega
   | succ n =>
    rw [qa6 h, qpp 0 _ _ (u / 10) (qil n (u / 10) (by omega) (by omega)), key _ _ (by omega) (by omega)]
    congr 1
    omega
theorem qir {v : Int} (h1 : -9223372036854775808 ≤ v) (h2 : v ≤ 9223372036854775807) : Lib.atoiAll (Lib.itoa v) = .ok v := by
 by_cases h : v < 0
 ·have hp := qil v.natAbs v.natAbs (Nat.le_refl _) (by omega)
  rw [qgv h]
  have hm : Lib.parseMag (Lib.decDigits v.natAbs) = .ok v.natAbs := by
   unfold Lib.parseMag
   rw [if_neg (fun e => by have := qfo v.natAbs; rw [e] at this; simp at this)]
   exact hp
  have e45 : (45 : UInt8).toNat = 45 := rfl
  simp only [Lib.atoiAll, e45]
  rw [if_pos (Or.inr trivial), hm]
  simp only [not_true, false_and, if_false, true_and]
  rw [if_neg (by omega)]
  simp only [if_true]
  congr 1
  omega
 ·have hp := qil v.toNat v.toNat (Nat.le_refl _) (by omega)
  have hd := yo v.toNat v.toNat (Nat.le_refl _)
  rw [qgl (by omega)]
  cases hl : Lib.decDigits v.toNat with
  | nil => have := qfo v.toNat; rw [hl] at this; simp at this
  | cons c r =>
   rw [hl] at hp hd
   have hc := hd c (by simp)
   simp only [Lib.atoiAll]
   have g1 : ¬ (c.toNat = 43 ∨ c.toNat = 45) := by omega
   rw [if_neg g1]
   have hm : Lib.parseMag (c :: r) = .ok v.toNat := by unfold Lib.parseMag; rw [if_neg (by simp)]; exact hp
   rw [hm]
   have g2 : ¬ c.toNat = 45 := by omega
   simp only [g2, not_false_iff, true_and, false_and, if_false]
   rw [if_neg (by omega)]
   congr 1
   omega
def numZ (l : qa) : Option Int :=
 match Lib.atoiAll l with
 | .ok v => if Lib.itoa v = l then some v else none
 | _ => none
theorem qzx {v : Int} (h1 : -9223372036854775808 ≤ v) (h2 : v ≤ 9223372036854775807) : numZ (Lib.itoa v) = some v := by
 unfold numZ
 rw [qir h1 h2]
 simp
theorem qy8 {l : qa} {v : Int} (h : numZ l = some v) : l = Lib.itoa v ∧ -9223372036854775808 ≤ v ∧ v ≤ 9223372036854775807 := by
 unfold numZ at h
 split at h
 ·rename_i u hu
  split at h
  ·rename_i he
   simp only [Option.some.injEq] at h
   subst h
   exact ⟨he.symm, atoiAll_bounds hu⟩
  ·simp at h
 ·simp at h
end Go.Pl
set_option maxRecDepth 100000
set_option linter.unusedVariables false
namespace Go.Proofs.YtefmcijohgpfhaaGreatDoor
open Go Go.Av Go.RowKit Go.Proofs Go.Pl
theorem q0i {l : qa} {v : Int} (h : l = Lib.itoa v) : (v < 0 → (l.getD 0 0).toNat = 45 ∧ l.drop 1 = Lib.decDigits v.natAbs) ∧ (0 ≤ v → (l.getD 0 0).toNat ≠ 45 ∧ l = Lib.decDigits v.toNat) := by
 subst h
 refine ⟨fun h => ?_, fun h => ?_⟩
 ·rw [qgv h]; exact ⟨rfl, rfl⟩
 ·rw [qgl h]
  refine ⟨?_, rfl⟩
  have hp := qfo v.toNat
  have hd := yo v.toNat v.toNat (Nat.le_refl _)
  cases hl : Lib.decDigits v.toNat with
  | nil => rw [hl] at hp; simp at hp
  | cons c r =>
   rw [hl] at hd
   have := hd c (by simp)
   simp
   omega
def sgn (l : qa) : Nat := if (l.getD 0 0).toNat = 45 then 1 else 0
theorem qlk {l : qa} {v : Int} (h : l = Lib.itoa v) : l.drop (sgn l) = Lib.decDigits v.natAbs := by
 obtain ⟨h1, h2⟩ := q0i h
 unfold sgn
 by_cases hv : v < 0
 ·obtain ⟨a, b⟩ := h1 hv
  rw [if_pos a, b]
 ·obtain ⟨a, b⟩ := h2 (by omega)
  rw [if_neg a, List.drop_zero, show v.natAbs = v.toNat by omega]
  exact b
end Go.Proofs.YtefmcijohgpfhaaGreatDoor
set_option linter.unusedVariables false
set_option maxRecDepth 100000
namespace Go.Pl
open Go
def sp : Bool → qa → Bool
 | _, [] => true
 | f, c :: l => (!f || decide (c = 32)) && sp (decide (c = 10)) l
theorem qjp : ∀ l, sp false l = sp true (past 10 l)
 | [] => rfl
 | c :: l => by
  by_cases h : c = 10
  ·subst h; simp [sp, past, upto]
  ·have e : past 10 (c :: l) = past 10 l := by simp [past, upto, h]
   rw [e, ← qjp l]
   simp [sp, h]
theorem qsf {l : qa} (h : l ≠ []) : sp true l = (decide ([32] <+: upto 10 l) && sp true (past 10 l)) := by
 cases l with
 | nil => exact absurd rfl h
 | cons c r =>
  by_cases hc : c = 10
  ·subst hc; simp [sp, upto]
  ·have e : past 10 (c :: r) = past 10 r := by simp [past, upto, hc]
   have e2 : upto 10 (c :: r) = c :: upto 10 r := by simp [upto, hc]
   rw [e, e2, ← qjp]
   simp [sp, hc, eq_comm]
theorem qit : ∀ (n : Nat) (l : qa), l.length ≤ n → ((∀ x ∈ jm l, [32] <+: x.1) ↔ sp true l = true)
 | 0, l, h => by
  have : l = [] := List.length_eq_zero_iff.1 (by omega)
  subst this
  simp [x7, sp]
 | n + 1, l, h => by
  by_cases hl : l = []
  ·subst hl; simp [x7, sp]
  ·rw [x4 hl, qsf hl, Bool.and_eq_true, ← qit n (past 10 l) (by have := ye (c := 10) hl; omega)]
   simp only [List.mem_cons, forall_eq_or_imp, decide_eq_true_eq]
theorem qg7 (l : qa) : (wz [32] l).2 = sp true l := by
 unfold wz
 by_cases h : sp true l = true
 ·rw [if_pos ((qit _ l (Nat.le_refl _)).2 h), h]
 ·rw [if_neg (fun h' => h ((qit _ l (Nat.le_refl _)).1 h'))]
  simp only [Bool.not_eq_true] at h
  rw [h]
def qg4 (f : Bool) (l : qa) : Bool := match l.getLast? with | none => f | some c => decide (c = 10)
theorem qxz (f : Bool) (c : UInt8) (l : qa) : qg4 f (c :: l) = qg4 (decide (c = 10)) l := by
 cases l with
 | nil => simp [qg4]
 | cons b l =>
  unfold qg4
  rw [List.getLast?_cons_cons]
  cases hb : (b :: l).getLast? with
  | none => simp at hb
  | some x => rfl
theorem qsw : ∀ (f : Bool) (l m : qa), sp f (l ++ m) = (sp f l && sp (qg4 f l) m)
 | f, [], m => by simp [sp, qg4]
 | f, c :: l, m => by
  simp only [List.cons_append, sp]
  rw [qsw _ l m, qxz, Bool.and_assoc]
theorem qpz (l : qa) : qbk l ↔ 2 ≤ l.length ∧ l.length ≤ 50000 ∧ l.getLast? = some 10 ∧ sp true l = true := by
 unfold qbk
 rw [qg7]
theorem qdo : ∀ (n u : Nat), u ≤ n → ∀ c ∈ Lib.decDigits u, 48 ≤ c.toNat ∧ c.toNat ≤ 57
 | n, u, hn, c, hc => by
  by_cases h : u < 10
  ·rw [Lib.decDigits_one h] at hc
   simp only [List.mem_singleton] at hc
   subst hc
   rw [UInt8.toNat_ofNat']
   omega
  ·rw [qa6 h, List.mem_append] at hc
   cases n with
   | zero => omega
   | succ n =>
    rcases hc with hc | hc
    ·exact qdo n (u / 10) (by omega) c hc
    ·exact qdo n (u % 10) (by omega) c hc
theorem qjj (n : Nat) : Lib.itoa (n : Int) = Lib.decDigits n := by
 unfold Lib.itoa
 rw [if_neg (by omega)]
 simp
theorem q13 (n : Nat) : ∀ c ∈ Lib.itoa (n : Int), 48 ≤ c.toNat ∧ c.toNat ≤ 57 := by
 rw [qjj]
 exact qdo n n (Nat.le_refl _)
theorem qtk (u : Nat) : Lib.decDigits u ≠ [] := by
 intro h
 have := congrArg List.length h
 rw [Lib.decDigits_length] at this
 have := Lib.nDigits_pos u
 simp at *
 omega
theorem qqg : ∀ (a : Nat) (l m : qa) (b : Nat), Lib.parseUint10 a l = .ok b → Lib.parseUint10 a (l ++ m) = Lib.parseUint10 b m
 | a, [], m, b, h => by
  simp only [Lib.parseUint10, Lib.NumEnd.ok.injEq] at h
  subst h; rfl
 | a, c :: l, m, b, h => by
  simp only [List.cons_append, Lib.parseUint10] at h ⊢
  split at h
  ·rename_i hd
   rw [if_pos hd]
   split at h
   ·cases h
   ·rename_i h1
    rw [if_neg h1]
    split at h
    ·cases h
    ·rename_i h2
     rw [if_neg h2]
     exact qqg _ l m b h
  ·cases h
theorem qp5 : ∀ (n u : Nat), u ≤ n → u < 1000000000000000000 → Lib.parseUint10 0 (Lib.decDigits u) = .ok u
 | n, u, hn, hu => by
  have key : ∀ (a d : Nat), a < 100000000000000000 → d < 10 → Lib.parseUint10 a (Lib.decDigits d) = .ok (a * 10 + d) := by
   intro a d ha hd
   have e : (UInt8.ofNat (48 + d)).toNat = 48 + d := by rw [UInt8.toNat_ofNat']; omega
   rw [Lib.decDigits_one hd]
   simp only [Lib.parseUint10, e]
   rw [if_pos (by omega), if_neg (by omega), if_neg (by omega)]
   congr 1
   omega
  by_cases h : u < 10
  ·have := key 0 u (by omega) h
   simpa using this
  ·cases n with
   | zero => omega
   | succ n =>
    rw [qa6 h, qqg 0 _ _ (u / 10) (qp5 n (u / 10) (by omega) (by omega)), key _ _ (by omega) (by omega)]
    congr 1
    omega
theorem qyi {n : Nat} (h : n < 1000000000000000000) : Lib.atoiAll (Lib.itoa (n : Int)) = .ok (n : Int) := by
 have hp := qp5 n n (Nat.le_refl _) h
 have hd := qdo n n (Nat.le_refl _)
 rw [qjj]
 cases hl : Lib.decDigits n with
 | nil => exact absurd hl (qtk n)
 | cons c r =>
  rw [hl] at hp hd
  have hc := hd c (by simp)
  simp only [Lib.atoiAll]
  have h1 : ¬ (c.toNat = 43 ∨ c.toNat = 45) := by omega
  rw [if_neg h1]
  have hm : Lib.parseMag (c :: r) = .ok n := by unfold Lib.parseMag; rw [if_neg (by simp)]; exact hp
  rw [hm]
  have h2 : ¬ c.toNat = 45 := by omega
  simp only [h2, not_false_iff, true_and, false_and, if_false]
  rw [if_neg (by omega)]
theorem qks {n : Nat} (h1 : 1 ≤ n) (h2 : n ≤ 50000) : xg (Lib.itoa (n : Int)) = n := by
 have := qn0 (qyi (n := n) (by omega))
 rw [if_pos ⟨rfl, by omega, by omega⟩] at this
 omega
theorem qe2 {l : qa} {n : Nat} (h : xg l = n) (hn : 1 ≤ n) : l = Lib.itoa (n : Int) := by
 unfold xg at h
 split at h
 ·split at h
  ·rename_i v _ hv
   have : v = (n : Int) := by omega
   rw [← this, hv.1]
  ·omega
 ·omega
end Go.Pl
namespace Go.Proofs.YtefmcijohgpfhaaGreatDoor
open Go Go.Pl
def x9 (n : Nat) (fig : qa) : qa := ki ++ (Lib.itoa n ++ 32 :: fig)
theorem q04 (n : Nat) (fig : qa) : qis n fig = x9 n fig ++ [10] := by simp [qis, x9, ki]
theorem qjl (n : Nat) {c : UInt8} (h : ¬ (48 ≤ c.toNat ∧ c.toNat ≤ 57)) : c ∉ Lib.itoa (n : Int) := fun hc => h (q13 n c hc)
theorem qkl {f : qa} (h : qaj f) {c : UInt8} (hc : c ∉ hexL) : c ∉ f := fun h' => hc (h c h')
theorem qc3 (n : Nat) {fig : qa} (h : qaj fig) : 10 ∉ x9 n fig := by
 unfold x9
 simp only [List.mem_append, List.mem_cons, not_or]
 exact ⟨by decide, qjl n (by decide), by decide, qkl h (by decide)⟩
theorem qji (l : qa) : Lib.trimPrefix (ki ++ l) ki = l := by
 rw [qcb (List.prefix_append _ _), List.drop_left]
theorem qss {n : Nat} {fig : qa} (h2 : 2 ≤ n) (hn : n ≤ 50000) (hf : fig.length = 8) (hx : qaj fig) : kw (x9 n fig) = (n, fig, true) := by
 unfold kw x9
 have h32 : 32 ∉ Lib.itoa (n : Int) := qjl n (by decide)
 rw [qji, ym fig h32, y4 fig h32, qks (by omega) hn]
 rw [decide_eq_true ⟨List.prefix_append _ _, by simp, h2, hf, hx⟩]
theorem qwr {n : Nat} {fig : qa} (r : qa) (h2 : 2 ≤ n) (hn : n ≤ 50000) (hf : fig.length = 8) (hx : qaj fig) :
  kq (x9 n fig ++ 10 :: r) = if r.length < n then (qc2 r ((n : Int) - r.length), [], 0)
   else if qbk (r.take n) then qa5 (r.drop n) (r.take n) fig (qet n) else (3, [], 0) := by
 have hm : 10 ∈ x9 n fig ++ 10 :: r := by simp
 have h10 := qc3 n hx
 unfold kq
 rw [if_pos hm, ym r h10, y4 r h10, qss h2 hn hf hx]
 simp only [if_true]
structure qvn (n : Nat) (fig body : qa) : Prop where
 two : 2 ≤ n
 most : n ≤ 50000
 len : body.length = n
 good : qbk body
 figs : fig.length = 8
 hex : qaj fig
def recL (n : Nat) (fig body : qa) : qa := x9 n fig ++ 10 :: (body ++ qdk n)
theorem qh0 (l : qa) : recF l = recL l.length (sumF l) l := by
 unfold recF recL
 rw [q04]
 simp
theorem qp4 {l a b : qa} (h : l <+: a ++ b) : l <+: a ∨ ∃ r, l = a ++ r ∧ r <+: b := by
 rcases Nat.le_total l.length a.length with hl | hl
 ·exact .inl (List.prefix_of_prefix_length_le h (List.prefix_append _ _) hl)
 ·obtain ⟨r, hr⟩ := List.prefix_of_prefix_length_le (List.prefix_append a b) h hl
  exact .inr ⟨r, hr.symm, by rw [← hr] at h; exact (List.prefix_append_right_inj a).1 h⟩
theorem qpd {a b : qa} {c : UInt8} (h : a <+: b) (hc : c ∉ b) : c ∉ a := fun h' => hc (h.subset h')
theorem qwk (f : qa) (hl : f.length ≤ 8) (hx : qaj f) : ∃ g : qa, g.length = 8 ∧ qaj g ∧ f <+: g :=
 ⟨f ++ List.replicate (8 - f.length) 48, by simp; omega, fun c hc => by
  rw [List.mem_append, List.mem_replicate] at hc
  rcases hc with hc | ⟨_, rfl⟩
  ·exact hx c hc
  ·decide, List.prefix_append _ _⟩
theorem qo2 : ∀ (k : Nat), sp false (List.replicate k 97 ++ [10]) = true
 | 0 => by simp [sp]
 | k + 1 => by rw [List.replicate_succ, List.cons_append]; simp only [sp]; exact by simpa using qo2 k
theorem qr9 {n : Nat} {r : qa} (hn : n ≤ 50000) (hlt : r.length < n) (h2 : 2 ≤ n) (hp : qc2 r ((n : Int) - r.length) = 2) : ∃ body : qa, body.length = n ∧ qbk body ∧ r <+: body := by
 unfold qc2 at hp
 split at hp
 ·rename_i h
  obtain ⟨hs, hfr⟩ := h
  rw [qg7] at hs
  by_cases hf : r = [] ∨ r.getLast? = some 10
  ·have hk : r.length + 2 ≤ n := by
    rcases Nat.lt_or_ge (r.length + 1) n with h | h
    ·omega
    ·exact absurd ⟨hf, by omega⟩ hfr
   refine ⟨r ++ (32 :: (List.replicate (n - r.length - 2) 97 ++ [10])), by simp; omega, ?_, List.prefix_append _ _⟩
   rw [qpz]
   refine ⟨by simp; omega, by simp; omega, by simp [List.getLast?_append, List.getLast?_cons], ?_⟩
   rw [qsw, hs]
   simp only [sp, Bool.true_and]
   have := qo2 (n - r.length - 2)
   simpa using this
  ·refine ⟨r ++ (List.replicate (n - r.length - 1) 97 ++ [10]), by simp; omega, ?_, List.prefix_append _ _⟩
   rw [qpz]
   refine ⟨by simp; omega, by simp; omega, by simp [List.getLast?_append], ?_⟩
   rw [qsw, hs]
   have e : qg4 true r = false := by
    unfold qg4
    cases hq : r.getLast? with
    | none => exact absurd (.inl (List.getLast?_eq_none_iff.1 hq)) hf
    | some c =>
     refine decide_eq_false fun h => hf (.inr ?_)
     rw [hq, h]
   rw [e, qo2]
   rfl
 ·simp at hp
theorem qfe {n : Nat} (h2 : 2 ≤ n) (hn : n ≤ 50000) : ∃ body : qa, body.length = n ∧ qbk body := by
 obtain ⟨b, h1, h3, _⟩ := qr9 (n := n) (r := []) hn (by simp; omega) h2 (by
  unfold qc2
  rw [qg7]
  rw [if_pos ⟨rfl, by rintro ⟨_, h⟩; simp at h; omega⟩])
 exact ⟨b, h1, h3⟩
theorem qfp {a b c : qa} (h : a <+: b) : a <+: b ++ c := h.trans (List.prefix_append _ _)
theorem qfd {n : Nat} {fig body l : qa} (h : l <+: x9 n fig) : l <+: recL n fig body ∧ l.length < (recL n fig body).length := by
 refine ⟨qfp h, ?_⟩
 have := h.length_le
 unfold recL
 simp
 omega
theorem q3o {l : qa} (h : (kq l).1 = 2) : ∃ n fig body, qvn n fig body ∧ l <+: recL n fig body ∧ l.length < (recL n fig body).length := by
 unfold kq at h
 split at h
 ·rename_i h10
  split at h
  ·rename_i ho
   generalize hr : past 10 l = r at *
   have hl := y7 h10
   rw [hr] at hl
   generalize hu : upto 10 l = u at *
   -- the first line
   have hop : u = x9 (kw u).1 (kw u).2.1 ∧ 2 ≤ (kw u).1 ∧ (kw u).1 ≤ 50000 ∧ (kw u).2.1.length = 8 ∧ qaj (kw u).2.1 := by
    simp only [kw, decide_eq_true_eq] at ho ⊢
    obtain ⟨o1, o2, o3, o4, o5⟩ := ho
    refine ⟨?_, o3, qbz _, o4, o5⟩
    obtain ⟨t, rfl⟩ := o1
    rw [qji] at *
    have := qe2 rfl (Nat.le_trans (by decide) o3)
    unfold x9
    rw [← this, ← y7 o2]
   generalize (kw u).1 = n at *
   generalize (kw u).2.1 = fig at *
   obtain ⟨rfl, h2, hn, hf, hx⟩ := hop
   split at h
   ·rename_i hlt
    obtain ⟨body, b1, b2, b3⟩ := qr9 hn hlt h2 h
    refine ⟨n, fig, body, ⟨h2, hn, b1, b2, hf, hx⟩, ?_, ?_⟩
    ·rw [hl]
     unfold recL
     rw [List.prefix_append_right_inj, List.cons_prefix_cons]
     exact ⟨rfl, qfp b3⟩
    ·rw [hl]
     unfold recL
     have := b3.length_le
     have := qkw n
     simp
     omega
   ·rename_i hge
    split at h
    ·rename_i hg
     have hlen : (r.take n).length = n := by simp; omega
     refine ⟨n, fig, r.take n, ⟨h2, hn, hlen, hg, hf, hx⟩, ?_⟩
     unfold qa5 at h
     rw [hlen] at h
     split at h
     ·rename_i hc
      rw [hl]
      unfold recL
      constructor
      ·rw [List.prefix_append_right_inj, List.cons_prefix_cons]
       refine ⟨rfl, ?_⟩
       conv => lhs; rw [← List.take_append_drop n r]
       rw [List.prefix_append_right_inj]
       exact hc.2
      ·have := hc.1
       simp at this ⊢
       omega
     ·split at h <;> simp at h
    ·simp at h
  ·simp at h
 ·rename_i h10
  split at h
  ·rename_i ho
   unfold qdp at ho
   split at ho
   ·rename_i hb
    obtain ⟨t, rfl⟩ := hb
    have ed : (ki ++ t).drop 7 = t := by rw [show (7 : Nat) = ki.length by rfl, List.drop_left]
    rw [ed] at ho
    obtain ⟨o1, o2, o3, o4⟩ := of_decide_eq_true ho
    by_cases h32 : 32 ∈ t
    ·have hn2 : 2 ≤ xg (upto 32 t) := by
      rcases Nat.lt_or_ge (xg (upto 32 t)) 2 with h | h
      ·exact absurd ⟨h32, h⟩ o1
      ·exact h
     obtain ⟨fig, f1, f2, f3⟩ := qwk _ o3 o4
     obtain ⟨body, b1, b2⟩ := qfe hn2 (qbz _)
     refine ⟨_, fig, body, ⟨hn2, qbz _, b1, b2, f1, f2⟩, qfd ?_⟩
     unfold x9
     rw [List.prefix_append_right_inj]
     conv => lhs; rw [y7 h32]
     rw [qe2 (l := upto 32 t) rfl (by omega)]
     rw [qks (by omega) (qbz _), List.prefix_append_right_inj, List.cons_prefix_cons]
     exact ⟨rfl, f3⟩
    ·rw [qca h32] at o2
     by_cases ht : t = []
     ·subst ht
      obtain ⟨body, b1, b2⟩ := qfe (n := 2) (by omega) (by omega)
      refine ⟨2, List.replicate 8 48, body, ⟨by omega, by omega, b1, b2, by simp, by decide⟩, qfd ?_⟩
      unfold x9
      simp
     ·have hpos : 1 ≤ xg t := by
       rcases Nat.eq_zero_or_pos (xg t) with h | h
       ·exact absurd ⟨ht, h⟩ o2
       ·exact h
      have hle := qbz t
      have ht2 := qe2 (l := t) rfl hpos
      generalize xg t = m at *
      subst ht2
      by_cases hm : m = 1
      ·subst hm
       obtain ⟨body, b1, b2⟩ := qfe (n := 10) (by omega) (by omega)
       refine ⟨10, List.replicate 8 48, body, ⟨by omega, by omega, b1, b2, by simp, by decide⟩, qfd ?_⟩
       unfold x9
       rw [List.prefix_append_right_inj]
       have e1 : Lib.itoa ((1 : Nat) : Int) = [49] := by rw [qjj, Lib.decDigits_one (by decide)]; rfl
       have e2 : Lib.itoa ((10 : Nat) : Int) = [49, 48] := by rw [qjj, qa6 (by decide), Lib.decDigits_one (by decide), Lib.decDigits_one (by decide)]; rfl
       rw [e1, e2]
       exact ⟨_, rfl⟩
      ·obtain ⟨body, b1, b2⟩ := qfe (n := m) (by omega) (by omega)
       refine ⟨m, List.replicate 8 48, body, ⟨by omega, by omega, b1, b2, by simp, by decide⟩, qfd ?_⟩
       unfold x9
       rw [List.prefix_append_right_inj]
       exact List.prefix_append _ _
   ·rename_i hb
    have hp := of_decide_eq_true ho
    obtain ⟨body, b1, b2⟩ := qfe (n := 2) (by omega) (by omega)
    refine ⟨2, List.replicate 8 48, body, ⟨by omega, by omega, b1, b2, by simp, by decide⟩, qfd ?_⟩
    unfold x9
    exact qfp hp
  ·simp at h
theorem qlg (s : BitVec 32) : qaj (qb3 s 8) := by
 intro c hc
 simp only [qb3, List.mem_map] at hc
 obtain ⟨j, _, rfl⟩ := hc
 unfold figP
 have h := Go.Av.and15_lt (s >>> (4 * (7 - j)))
 generalize ((s >>> (4 * (7 - j))) &&& BitVec.ofInt 32 15).toNat = k at h
 have key : ∀ i : Fin 16, ([48, 49, 50, 51, 52, 53, 54, 55, 56, 57, 97, 98, 99, 100, 101, 102] : qa).getD i.val 0 ∈ hexL := by decide
 exact key ⟨k, h⟩
theorem qx0 {b : qa} (h : qbk b) : qvn b.length (sumF b) b := ⟨h.1, h.2.1, rfl, h, qlw b, qlg _⟩
theorem qlq (b : qa) (h : qbk b) : ((recF b).length : Int) = qet b.length := by
 obtain ⟨g1, g2, _⟩ := h
 unfold recF qet
 rw [if_neg (by omega)]
 simp only [List.length_append, qjw, qlw]
 simp
theorem q1f {b : qa} (m : qa) (h : qbk b) : kq (recF b ++ m) = (1, b, ((recF b).length : Int)) := by
 have R := qx0 h
 rw [qlq b h, qh0]
 unfold recL
 rw [List.append_assoc, List.cons_append, List.append_assoc, qwr _ R.two R.most R.figs R.hex, if_neg (by simp), List.take_left, List.drop_left, if_pos h]
 unfold qa5
 rw [if_neg (by simp; intro h; omega), if_pos ⟨List.prefix_append _ _, rfl⟩]
end Go.Proofs.YtefmcijohgpfhaaGreatDoor
set_option maxRecDepth 100000
set_option linter.unusedVariables false
namespace Go.Proofs.YtefmcijohgpfhaaGreatDoor
open Go Go.Pl
theorem q4p {l : qa} (h1 : 10 ∈ l → (kw (upto 10 l)).2.2 = false) (h2 : 10 ∉ l → qdp l = false) : kq l = (3, [], 0) := by
 unfold kq
 by_cases h : 10 ∈ l
 ·rw [if_pos h, if_neg (by rw [h1 h]; simp)]
 ·rw [if_neg h, if_neg (by rw [h2 h]; simp)]
theorem R2 {l : qa} (hl : l.length ≤ 7) (h : ¬ l <+: ki) : kq l = (3, [], 0) := by
 refine q4p (fun h10 => decide_eq_false fun h' => ?_) (fun h10 => ?_)
 ·have := h'.1.length_le
  have := qc9 h10
  have e : ki.length = 7 := rfl
  omega
 ·unfold qdp
  by_cases hb : ki <+: l
  ·have := hb.eq_of_length_le hl
   exact absurd (this ▸ List.prefix_refl _) h
  ·rw [if_neg hb]; exact decide_eq_false h
theorem q3e {p : UInt8 → Bool} (s : qa) : s.take (s.takeWhile p).length = s.takeWhile p := by
 induction s with
 | nil => rfl
 | cons b s ih =>
  by_cases h : p b = true
  ·rw [List.takeWhile_cons_of_pos h]; simp [ih]
  ·rw [List.takeWhile_cons_of_neg h]; rfl
theorem q5c {p : UInt8 → Bool} {l m : qa} (hm : m <+: l) (h : ∀ c ∈ m, p c = true) : m.length ≤ (l.takeWhile p).length := by
 obtain ⟨r, rfl⟩ := hm
 rw [List.takeWhile_append_of_pos h]
 simp
end Go.Proofs.YtefmcijohgpfhaaGreatDoor
set_option maxRecDepth 100000
set_option linter.unusedVariables false
namespace Go.Proofs.YtefmcijohgpfhaaGreatDoor
open Go Go.Av Go.RowKit Go.Proofs Go.Pl
structure q27 (l S : qa) (K n : Nat) : Prop where
 hl : l = ki ++ S
 hK : (S.takeWhile qnv).length = K
 hD : S.take K = Lib.itoa (n : Int)
 h1 : 1 ≤ n
 h2 : n ≤ 50000
theorem q27.split {l S : qa} {K n : Nat} (A : q27 l S K n) (h : K < S.length) : S = Lib.itoa (n : Int) ++ S.getD K 0 :: S.drop (K + 1) ∧ qnv (S.getD K 0) = false := by
 have e : S = S.take K ++ S.getD K 0 :: S.drop (K + 1) := by
  conv => lhs; rw [← List.take_append_drop K S]
  rw [List.drop_eq_getElem_cons h]
  congr 2
  simp [List.getD, h]
 refine ⟨by rw [← A.hD]; exact e, ?_⟩
 cases hc : qnv (S.getD K 0) with
 | false => rfl
 | true =>
  have hp : S.take (K + 1) <+: S := List.take_prefix _ _
  have := q5c (p := qnv) hp (fun c hc' => by
   rw [qfl h, List.mem_append, List.mem_singleton] at hc'
   rcases hc' with hc' | rfl
   ·rw [← A.hK, q3e] at hc'
    have ha := List.all_takeWhile (p := qnv) (l := S)
    rw [List.all_eq_true] at ha
    exact ha c hc'
   ·exact hc)
  rw [A.hK] at this
  simp at this
  omega
end Go.Proofs.YtefmcijohgpfhaaGreatDoor
set_option linter.unusedVariables false
namespace Go.Av
open Go Go.RowKit
def StE (L : List (Nat × AV)) (st loc : List AObj) (s : AS) : Prop := ∃ t ext, s = ⟨puts t L, ((st ++ loc) ++ ext) ++ [], []⟩
theorem qal {t : Nat → AV} {L : List (Nat × AV)} {st loc loc' ext new : List AObj} (h : HasL t L) (e : loc' = loc) : StE L st loc ⟨t, ((st ++ loc') ++ ext) ++ new, []⟩ :=
 ⟨t, ext ++ new, by rw [qih h, e]; simp⟩
theorem qci {t : Nat → AV} {L : List (Nat × AV)} {st loc st' : List AObj} (h : HasL t L) (e : st' = st ++ loc) : StE L st loc ⟨t, st', []⟩ :=
 ⟨t, [], by rw [qih h, e]; simp⟩
theorem xh (st loc ext new : List AObj) : ∃ x, ((st ++ loc) ++ ext) ++ new = st ++ x := ⟨loc ++ ext ++ new, by simp⟩
theorem qch {st loc ext new : List AObj} {k : Nat} {x : AObj} (h : loc[k]? = some x) : (((st ++ loc) ++ ext) ++ new)[st.length + k]? = some x := by
 have hk := lt_of_getElem? h
 rw [List.append_assoc, List.append_assoc, List.getElem?_append_right (Nat.le_add_right _ _), Nat.add_sub_cancel_left, List.getElem?_append_left hk]
 exact h
theorem qgb {st loc ext new : List AObj} {k : Nat} (x : AObj) (hk : k < loc.length) : (((st ++ loc) ++ ext) ++ new).set (st.length + k) x = ((st ++ loc.set k x) ++ ext) ++ new := by
 rw [List.append_assoc, List.append_assoc, List.set_append_right _ _ (Nat.le_add_right _ _), Nat.add_sub_cancel_left, List.set_append_left _ _ hk]
 simp
theorem qhh {G : Gh} {sz : Nat} {xs : List AV} {tip : Option Nat} {v : Value} (h : Rel G (.sl sz xs tip) v) : Rel G (.sl sz xs none) v := by
 cases h with
 | sl0 _ _ base cap ht => exact .sl0 sz none base cap (by simp)
 | sl _ _ _ b off cap pub hp hw hlen hr ht hcap => exact .sl sz xs none b off cap pub hp hw hlen hr (fun t ht => by simp at ht) hcap
theorem qcu {G : Gh} {sz : Nat} {v : Value} (h : Rel G j9 v) : Rel G (.sl sz [] none) v := by
 cases h
 exact .sl0 sz none none 0 (by simp)
section
variable {E : Env} {rd : Option Nat} {N : Nat} {ops : Array Oper} {K : AS → Prop} {s : AS} {rest : List Oper} {d : Option Tmp} {T : TypeId} {p : String} {af : Array Edge}
theorem yw {fn : Func} {r r' : AV} (h : ARes E fn s r) (hw : ∀ (G : Gh) (v : Value), Rel G r v → Rel G r' v) : ARes E fn s r' :=
 ⟨fun B0 w0 G a w hL hI => let ⟨v, h1, h2⟩ := h.run B0 w0 G a w hL hI; ⟨v, h1, hw G v h2⟩⟩
theorem qol {fn : Func} {t : Tmp} {sz : Nat} {xs : List AV} {tip : Option Nat} (hr : fn.results = #[.tmp t]) (hx : qk fn.ntmps s (.tmp t) = .sl sz xs tip) : ARes E fn s (.sl sz xs none) :=
 yw (zf hr) fun G v h => by rw [hx] at h; exact qhh h
theorem qbf {x y : Operand} {t u T' : TypeId} {sz bytes k n m : Nat} {xs ys zs : List AV} {tip : Option Nat} {st loc ext new : List AObj} (hs : s.st = ((st ++ loc) ++ ext) ++ new) (hx : qk N s x = .sl sz xs (some (st.length + k))) (hy : qk N s y = .sl sz ys tip) (ho : loc[k]? = some (.tip n sz T')) (hn : xs.length = n)
  (ht : E.P.underlying t = some (.slice T')) (hu : E.P.underlying u = some (.slice T')) (hT : qdj E.P T' sz bytes) (hone : ya (flat ys) = true) (hm : ys.length = m) (h63 : n + m ≤ maxLen) (hb : (n + m) * bytes ≤ 140737488355328) (hz : xs ++ ys = zs)
  (h : AOps E rd N ops rest K (AS.put ⟨s.t, ((st ++ loc.set k (.tip (n + m) sz T')) ++ ext) ++ new, s.df⟩ d (.sl sz zs (some (st.length + k))))) : AOps E rd N ops (⟨d, .call ⟨.builtin .append, #[x, y], #[t, u]⟩, T, p, af, none⟩ :: rest) K s := by
 subst hz
 have hk := lt_of_getElem? ho
 exact qlv hx hy (by rw [hs]; exact qch ho) hn ht hu hT hone hm h63 hb (by rw [hs, qgb _ hk]; exact h)
theorem jk {x : Operand} {t : TypeId} {sz : Nat} {agg : Bool} {st loc ext new : List AObj} {k ver off : Nat} {T' : TypeId} {cs : List AV} {r : AV} (hs : s.st = ((st ++ loc) ++ ext) ++ new) (hx : qk N s x = .bx (st.length + k) ver off) (ho : loc[k]? = some (.cells ver T' cs)) (ht : tyOf E.P t = some (sz, agg)) (hr : wd sz agg off cs = some r)
  (h : AOps E rd N ops rest K (s.put d r)) : AOps E rd N ops (⟨d, .load t x, T, p, af, none⟩ :: rest) K s :=
 w6 hx (by rw [hs]; exact qch ho) ht hr h
end
end Go.Av
set_option linter.unusedVariables false
namespace Go.Pl
open Go
def js (l : qa) : List qa :=
 if h : 10 ∈ l then upto 10 l :: js (past 10 l) else [l]
 termination_by l.length
 decreasing_by exact ye (fun e => by rw [e] at h; simp at h)
theorem qbo {l : qa} (h : 10 ∈ l) : js l = upto 10 l :: js (past 10 l) := by rw [js, dif_pos h]
theorem qbn {l : qa} (h : 10 ∉ l) : js l = [l] := by rw [js, dif_neg h]
theorem qvi : ∀ (n : Nat) (l : qa), l.length ≤ n → Lib.splitK [10] 0 (Lib.count l [10]) l = js l
 | n, l, hn => by
  by_cases h : 10 ∈ l
  ·have hi := qoa 10 l h
   have hne : l ≠ [] := fun e => by rw [e] at h; simp at h
   have hlt := ye (c := 10) hne
   rw [qbo h, Lib.count_hit (i := (upto 10 l).length) (by simp) hi, Nat.add_comm, Lib.splitK]
   rw [if_neg (by rw [hi]; simp), hi]
   cases n with
   | zero => exact absurd (List.length_eq_zero_iff.1 (by omega)) hne
   | succ n =>
    have := qvi n (past 10 l) (by omega)
    simp only [Int.toNat_natCast, Nat.add_zero, List.length_cons, List.length_nil, Nat.zero_add, qgz]
    rw [show List.drop ((upto 10 l).length + 1) l = past 10 l from rfl, this]
  ·have hi : Lib.index l [10] = -1 := by
    have := Lib.index_ge l [10]
    have h2 : ¬ 0 ≤ Lib.index l [10] := fun h' => h ((qco l 10).1 h')
    omega
   rw [qbn h, Lib.count_miss hi]
   rfl
theorem qfr : ∀ (n : Nat) (l : qa), l.length ≤ n → (js l).length ≤ l.length + 1
 | n, l, hn => by
  by_cases h : 10 ∈ l
  ·have hne : l ≠ [] := fun e => by rw [e] at h; simp at h
   have hlt := ye (c := 10) hne
   rw [qbo h]
   cases n with
   | zero => exact absurd (List.length_eq_zero_iff.1 (by omega)) hne
   | succ n =>
    have := qfr n (past 10 l) (by omega)
    simp only [List.length_cons]
    omega
  ·rw [qbn h]; simp
theorem qfq : ∀ (n : Nat) (l : qa), l.length ≤ n → ∀ x ∈ js l, x.length ≤ l.length ∧ 10 ∉ x
 | n, l, hn, x, hx => by
  by_cases h : 10 ∈ l
  ·have hne : l ≠ [] := fun e => by rw [e] at h; simp at h
   have hlt := ye (c := 10) hne
   rw [qbo h, List.mem_cons] at hx
   rcases hx with rfl | hx
   ·exact ⟨wt 10 l, qbe 10 l⟩
   ·cases n with
    | zero => exact absurd (List.length_eq_zero_iff.1 (by omega)) hne
    | succ n =>
     have := qfq n (past 10 l) (by omega) x hx
     exact ⟨by omega, this.2⟩
  ·rw [qbn h, List.mem_singleton] at hx
   subst hx
   exact ⟨Nat.le_refl _, h⟩
end Go.Pl
set_option maxRecDepth 100000
set_option linter.unusedVariables false
namespace Go.Proofs.YtefmcijohgpfhaaGreatDoor
open Go Go.Av Go.RowKit Go.Proofs Go.Pl
theorem qjv {f : FuncId} {st : List AObj} {args : List AV} {vals : Array Value} {xs : List qa} {T : TypeId} (ha : args = vals.toList.map .v) (hne : xs ≠ [])
  (h : ∀ B0 w0 w, E.L B0 w0 → Below B0 w0 w → Calls E.P f vals w fun e w' => e = .returned (.slice (some ⟨w.heap.size, 0, none⟩) xs.length xs.length) ∧ w' = w.alloc (.cells (xs.map fun l => Value.string ⟨l.toArray⟩).toArray T)) :
  qt E f args st fun r st' => r = .sl 1 (xs.map fun l => Sv l) none ∧ st' = st := by
 subst ha
 refine ⟨fun B0 w0 G vs w hL hA hR => ?_⟩
 have hv : vs = vals := by
  have hs : vs.size = vals.size := by have := hR.1; simpa using this.symm
  apply Array.ext hs
  intro i h1 h2
  have := hR.2 i (.v vals[i]) vs[i] (by simp [h2]) (by simp [h1])
  generalize vs[i] = y at this
  cases this
  rfl
 subst hv
 refine (h B0 w0 w hL hA.below).mono ?_
 rintro e w' ⟨rfl, rfl⟩
 obtain ⟨hle, hA'⟩ := hA.newPub T (xs.map fun l => Value.string ⟨l.toArray⟩).toArray (0, 0) (xs.map fun l => Value.string ⟨l.toArray⟩) (fun i y hy => by simpa using hy)
 refine ⟨_, _, _, st, rfl, hle, hA', ?_, rfl, rfl⟩
 have hfl : flat (xs.map fun l => Sv l) = xs.map fun l => Sv l := by
  clear hne h hle hA'
  induction xs with
  | nil => rfl
  | cons a xs ih => rw [List.map_cons, qd4, ih]; rfl
 have := Rel.sl (G := G.publish w.heap.size (xs.map fun l => Value.string ⟨l.toArray⟩)) 1 (xs.map fun l => Sv l) none w.heap.size 0 xs.length (xs.map fun l => Value.string ⟨l.toArray⟩) (by simp [Gh.publish]) (fun x hx => by
  simp only [List.mem_map] at hx
  obtain ⟨l, _, rfl⟩ := hx
  rfl) (by rw [hfl]; simp) (fun i x y h1 h2 => by
  rw [hfl, List.getElem?_map] at h1
  rw [Nat.zero_add, List.getElem?_map] at h2
  cases hx : xs[i]? with
  | none => rw [hx] at h1; simp at h1
  | some l =>
   rw [hx] at h1 h2
   simp at h1 h2
   subst h1; subst h2
   exact .v _) (fun t ht => by simp at ht) (by simp)
 simpa using this
theorem qy0 (l : List UInt8) (st : List AObj) (hl : l.length < 4294967281) : qt E 125 [Sv l, Sv [10]] st fun r st' => r = .sl 1 ((js l).map fun x => Sv x) none ∧ st' = st := by
 have hd := Lib.splitB_data ⟨#[10]⟩ 0 (Lib.countB ⟨l.toArray⟩ ⟨#[10]⟩) ⟨l.toArray⟩
 have hs : Lib.splitK [10] 0 (Lib.count l [10]) l = js l := qvi _ l (Nat.le_refl _)
 have hn := Lib.splitB_all ⟨#[10]⟩ (by simp [ByteArray.size]) 0 _ ⟨l.toArray⟩ rfl
 have hd2 : (Lib.splitB ⟨#[10]⟩ 0 (Lib.countB ⟨l.toArray⟩ ⟨#[10]⟩) ⟨l.toArray⟩).map (·.data.toList) = js l := hd.trans hs
 have hlen : (js l).length = Lib.countB ⟨l.toArray⟩ ⟨#[10]⟩ + 1 := by rw [← hd2, List.length_map, hn]
 refine qjv (T := 9) (vals := #[.string ⟨l.toArray⟩, .string ⟨#[10]⟩]) rfl (fun e => by rw [e] at hlen; simp at hlen) fun _ _ w hL hb => (Tryz.strings_Split_shaped ⟨l.toArray⟩ ⟨#[10]⟩ w (hL w hb).shaped (by simpa [ByteArray.size] using hl) (by simp [ByteArray.size])).mono fun e w' ⟨h1, h2⟩ => ?_
 refine ⟨by rw [h1, hlen], ?_⟩
 rw [h2, ← hd2, List.map_map]
 rfl
end Go.Proofs.YtefmcijohgpfhaaGreatDoor
set_option linter.unusedVariables false
namespace Go.Av
open Go Go.RowKit
section
variable {E : Env} {N : Nat} {ops : Array Oper} {K : AS → Prop} {s : AS} {rest : List Oper} {d : Option Tmp} {T : TypeId} {p : String} {af : Array Edge}
theorem qoh {x : Operand} {t : TypeId} {sz : Nat} {agg : Bool} {o ver off : Nat} {T' : TypeId} {cs : List AV} {r : AV} (hx : qk N s x = .bx o ver off) (ho : s.st[o]? = some (.cells ver T' cs)) (ht : tyOf E.P t = some (sz, agg)) (hr : wd sz agg off cs = some r)
  (h : AQ E N ops rest K (s.put d r)) : AQ E N ops (⟨d, .load t x, T, p, af, none⟩ :: rest) K s := by
 refine qdl rfl nofun fun B0 w0 G a w _ hI => ?_
 have he := hI.eval_of hx
 generalize hv : a.eval x = v at he
 cases he with
 | bx _ _ _ b hn hv' hb =>
  obtain ⟨_, h1, h2, h3, c, h4, h5, h6⟩ := hI.agree.ob o _ ho
  have hb := hb h1
  subst hb
  have hlt : (G.ob o).blk < w.heap.size := by
   rcases Nat.lt_or_ge (G.ob o).blk w.heap.size with h' | h'
   ·exact h'
   ·rw [Array.getElem?_eq_none h'] at h4; simp at h4
  -- the value is read out of the cells, whatever is drawn behind them
  have key : ∀ w', Below w.heap.size w w' → ∃ v, (loadVar t ⟨(G.ob o).blk, off, none⟩).run E.P w' = .ok v w' ∧ Rel G r v := fun w' hw' => by
   have h4' : w'.heap[(G.ob o).blk]? = some (.cells c T' (0, 0)) := by rw [hw'.block _ hlt]; exact h4
   exact qat (w := w') (G := G) (b := (G.ob o).blk) (off := off) (off' := off) ht (fun i x hx hi => by
    obtain ⟨y, hy⟩ := xx hx (Nat.le_of_eq h5)
    refine ⟨y, ?_, h6 i x y hx hy⟩
    simp [World.cell?, h4', show off + (i - off) = i by omega, hy]) hr
  have hsame : ∀ w', Below w.heap.size w w' → ∀ v, (loadVar t ⟨(G.ob o).blk, off, none⟩).run E.P w = .ok v w → (loadVar t ⟨(G.ob o).blk, off, none⟩).run E.P w' = .ok v w' := fun w' hw' v hr1 => by
   obtain ⟨i1, i2⟩ := xz ht w
   obtain ⟨j1, j2⟩ := xz ht w'
   have hc : ∀ k, w'.cell? ⟨(G.ob o).blk, k, none⟩ = w.cell? ⟨(G.ob o).blk, k, none⟩ := fun k => by simp [World.cell?, hw'.block _ hlt]
   obtain ⟨v', h1', _⟩ := key w' hw'
   rw [h1']
   congr 1
   cases agg with
   | false =>
    simp only [wd, cond_false] at hr
    obtain ⟨y, hy⟩ := xx hr (Nat.le_of_eq h5)
    have e1 : w.cell? ⟨(G.ob o).blk, off, none⟩ = some y := by simp [World.cell?, h4, hy]
    have e2 : w'.cell? ⟨(G.ob o).blk, off, none⟩ = some y := by rw [hc, e1]
    simp [loadVar, i2, run_load, e1] at hr1
    simp [loadVar, j2, run_load, e2] at h1'
    rw [← h1', hr1]
   | true =>
    simp only [wd, cond_true] at hr
    cases hb2 : Nat.ble (off + sz) cs.length with
    | false => rw [hb2] at hr; simp at hr
    | true =>
     have hle : off + sz ≤ cs.length := Nat.le_of_ble_eq_true hb2
     have e1 : ∀ j, j < sz → w.cell? ⟨(G.ob o).blk, off + j, none⟩ = some (c.getD (off + j) undef) := fun j hj => by
      have : off + j < c.size := by omega
      simp [World.cell?, h4, this]
     have e2 : ∀ j, j < sz → w'.cell? ⟨(G.ob o).blk, off + j, none⟩ = some (c.getD (off + j) undef) := fun j hj => by rw [hc, e1 j hj]
     have l1 := run_loadCells (P := E.P) (w := w) ⟨(G.ob o).blk, off, none⟩ sz (fun j => c.getD (off + j) undef) (fun j hj => by rw [Addr.add_lit]; exact e1 j hj)
     have l2 := run_loadCells (P := E.P) (w := w') ⟨(G.ob o).blk, off, none⟩ sz (fun j => c.getD (off + j) undef) (fun j hj => by rw [Addr.add_lit]; exact e2 j hj)
     simp [loadVar, i1, i2, l1] at hr1
     simp [loadVar, j1, j2, l2] at h1'
     rw [← h1', hr1]
  obtain ⟨v, hrun, hR⟩ := key w (Below.refl _ _)
  exact ⟨v, r, fun w' hw' => by simp only [execOp, hv, Instr.loadAt, Instr.sureAddr]; simp [hsame w' hw' v hrun], hR, h⟩
end
end Go.Av
set_option linter.unusedVariables false
namespace Go.Av
open Go Go.RowKit
section
variable {E : Env} {rd : Option Nat} {N : Nat} {ops : Array Oper} {K : AS → Prop} {s : AS} {rest : List Oper} {d : Option Tmp} {T : TypeId} {p : String} {af : Array Edge}
theorem j7 {x : Operand} {t : TypeId} {sz : Nat} {agg : Bool} {st loc : List AObj} {k ver off : Nat} {T' : TypeId} {cs : List AV} {r : AV} (hs : s.st = st ++ loc) (hx : qk N s x = .bx (st.length + k) ver off) (ho : loc[k]? = some (.cells ver T' cs)) (ht : tyOf E.P t = some (sz, agg)) (hr : wd sz agg off cs = some r)
  (h : AQ E N ops rest K (s.put d r)) : AQ E N ops (⟨d, .load t x, T, p, af, none⟩ :: rest) K s :=
 qoh hx (by rw [hs]; exact vg ho) ht hr h
end
end Go.Av
set_option maxRecDepth 100000
set_option linter.unusedVariables false
namespace Go.Proofs.YtefmcijohgpfhaaGreatDoor
open Go Go.Av Go.RowKit Go.Proofs Go.Pl
structure qe1 where
 kind : Int
 key : qa
 text : qa
 lo : Int
 hi : Int
abbrev FldV := qa × qa
@[reducible] def fldA (f : FldV) : AV := .ag [Sv f.1, Sv f.2]
@[reducible] def qa1 (l : List FldV) : AV := .sl 2 (l.map fldA) none
def q2x (r : qe1) : Prop := 1 ≤ r.kind ∧ r.kind ≤ 7 ∧ (r.kind = 6 ∨ qaf r.key)
instance (r : qe1) : Decidable (q2x r) := inferInstanceAs (Decidable (_ ∧ _ ∧ _))
def qv1 (l : qa) : List qa := if l = [] then [] else js l
theorem q0r (xs : List qa) : Pure (.sl 1 (xs.map fun x => Sv x) none) := qdv fun x hx => by
 simp only [List.mem_map] at hx
 obtain ⟨l, _, rfl⟩ := hx
 intro y hy
 simp [AV.cells] at hy
 subst hy
 exact zi _
def qky (r : qe1) (n : Int) : Prop := r.lo ≤ n ∧ n ≤ r.hi
instance (r : qe1) (n : Int) : Decidable (qky r n) := inferInstanceAs (Decidable (_ ∧ _))
def qvw (r : qe1) (l : qa) : Prop := ∃ n, numZ l = some n ∧ qky r n
instance (r : qe1) (l : qa) : Decidable (qvw r l) :=
 match h : numZ l with
 | some n => decidable_of_iff (qky r n) ⟨fun h' => ⟨n, h, h'⟩, fun ⟨m, h1, h2⟩ => by rw [h] at h1; cases h1; exact h2⟩
 | none => .isFalse fun ⟨m, h1, _⟩ => by rw [h] at h1; cases h1
def qyy (r : qe1) (f : FldV) : Prop :=
 (r.kind = 3 → f.1 = r.key → qvw r f.2) ∧ (r.kind = 4 → f.1 = r.key → f.2 ∈ qv1 r.text) ∧ (r.kind = 5 → f.1 = r.key → qky r f.2.length) ∧ (r.kind = 6 → f.1 ∈ qv1 r.text)
instance (r : qe1) (f : FldV) : Decidable (qyy r f) := inferInstanceAs (Decidable (_ ∧ _ ∧ _ ∧ _))
end Go.Proofs.YtefmcijohgpfhaaGreatDoor
set_option maxRecDepth 100000
set_option linter.unusedVariables false
namespace Go.Proofs.YtefmcijohgpfhaaGreatDoor
open Go Go.Av Go.RowKit Go.Proofs Go.Pl
def q0f (key : qa) (xs : List FldV) : List qa := (xs.filter fun f => f.1 = key).map Prod.snd
end Go.Proofs.YtefmcijohgpfhaaGreatDoor
set_option maxRecDepth 100000
set_option linter.unusedVariables false
namespace Go.Proofs.YtefmcijohgpfhaaGreatDoor
open Go Go.Av Go.RowKit Go.Proofs Go.Pl
def q38 (r : qe1) (xs : List FldV) : Prop := q2x r ∧ ((r.kind = 1 ∧ (q0f r.key xs).length = 0) ∨ (r.kind = 2 ∧ 1 < (q0f r.key xs).length) ∨ (r.kind ≠ 1 ∧ r.kind ≠ 2 ∧ xs.any (fun f => !decide (qyy r f)) = true))
instance (r : qe1) (xs : List FldV) : Decidable (q38 r xs) := inferInstanceAs (Decidable (_ ∧ (_ ∨ _ ∨ _)))
end Go.Proofs.YtefmcijohgpfhaaGreatDoor
set_option linter.unusedVariables false
namespace Go.Av
open Go Go.RowKit Go.WideShapes Go.ChangeShapes Go.Deep
def RelK (G : Gh) (us : List AV) (cs : List Value) : Prop := us.length = cs.length ∧ ∀ (i : Nat) (x : AV) (y : Value), us[i]? = some x → cs[i]? = some y → Rel G x y
theorem RelK.one {G : Gh} {a : AV} {v : Value} (h : RelK G [a] [v]) : Rel G a v := h.2 0 a v rfl rfl
end Go.Av
set_option maxRecDepth 100000
set_option linter.unusedVariables false
namespace Go.Proofs.YtefmcijohgpfhaaGreatDoor
open Go Go.Av Go.RowKit Go.Proofs Go.Pl
structure z1 where
 kind : Int
 id : Int
 fields : List FldV
@[reducible] def qb7 (e : z1) : AV := .ag [Iv e.kind, Iv e.id, qa1 e.fields]
def qbd (k : Int) : qa := if k = 1 then [32, 114, 101, 112, 108, 97, 99, 101, 32] else if k = 2 then [32, 100, 101, 108, 101, 116, 101, 32] else if k = 3 then [32, 105, 110, 115, 101, 114, 116, 32] else []
def xi (e : z1) : qa := if 1 ≤ e.kind ∧ e.kind ≤ 3 then qbd e.kind ++ Lib.itoa e.id else []
def qbj (k : Int) : qa := if k = 1 then [114, 101, 112, 108, 97, 99, 101] else if k = 2 then [100, 101, 108, 101, 116, 101] else if k = 3 then [105, 110, 115, 101, 114, 116] else []
theorem qn9 (k : Int) (st : List AObj) : qt E 75 [Iv k] st fun r st' => r = Sv (qbj k) ∧ st' = st := by
 refine zg (zi _) (qv Tryz.func75 rfl (Nat.le_of_ble_eq_true rfl) ?_)
 repeat' (first
  | apply qj
  | apply qp
  | apply qc
  | apply qg
  | apply qh
  | apply qb
  | (apply qm; (iterate 3 exact rfl))
  | (apply qe; exact rfl; first | (apply q5; (first | assumption | omega)) | (apply q6; (first | assumption | omega)) | (apply q7; (first | exact rfl | assumption)) | (apply q8; (first | exact rfl | assumption)) | (apply cd_n <;> intro h) | (apply cd_t; (first | exact rfl | assumption)) | (apply cd_f; (first | exact rfl | assumption)) | (apply cd_d <;> intro h) | (apply cd_s <;> intro h))
  | apply qs
  | apply qq)
 all_goals refine qi rfl (zf rfl) ⟨congrArg (fun l : qa => Sv l) (?_ : _ = qbj k), _, rfl⟩
 all_goals simp_all [qbj]
theorem qzi (k : Int) : (qbj k).length ≤ 7 := by
 unfold qbj
 repeat' split
 all_goals simp
theorem qu9 (k : Int) : qbd k = if qbj k = [] then [] else [32] ++ qbj k ++ [32] := by
 unfold qbd qbj
 repeat' split
 all_goals simp_all
theorem q0w (k : Int) : qbj k = [] ↔ ¬ (1 ≤ k ∧ k ≤ 3) := by
 unfold qbj
 repeat' split
 all_goals simp_all
 omega
theorem q5h (e : z1) (st : List AObj) (h1 : -9223372036854775808 ≤ e.id) (h2 : e.id ≤ 9223372036854775807) : qt E 48 [qb7 e] st fun r st' => r = Sv (xi e) ∧ st' = st := by
 refine zg (zi _) (qv Tryz.func48 rfl (Nat.le_of_ble_eq_true rfl) ?_)
 have hn := Lib.itoa_length_le e.id h1 h2
 have hw := qzi e.kind
 have ho := qu9 e.kind
 have hz := q0w e.kind
 repeat' (first
  | apply qj
  | apply qc
  | apply qg
  | apply qh
  | apply qb
  | (apply z0; (iterate 3 exact rfl))
  | (apply qe; exact rfl; first | (apply q5; (first | assumption | omega)) | (apply q6; (first | assumption | omega)) | (apply q7; (first | exact rfl | assumption)) | (apply q8; (first | exact rfl | assumption)) | (apply cd_n <;> intro h) | (apply cd_t; (first | exact rfl | assumption)) | (apply cd_f; (first | exact rfl | assumption)) | (apply cd_d <;> intro h) | (apply cd_s <;> intro h))
  | (apply zq; exact rfl; exact rfl; (first | omega | (simp only [List.length_append, List.length_cons, List.length_nil]; omega) | (simp; omega)))
  | (apply j4; (iterate 4 exact rfl))
  | (apply qu; (iterate 3 exact rfl))
  | (apply ze; (iterate 5 exact rfl))
  | apply qs
  | apply qq
  | (apply qf; exact Tryz.call75; exact qn9 _ _)
  | (apply qf; exact Tryz.call87; exact qj3 _ _ h1 h2))
 all_goals refine qi rfl (zf rfl) ⟨congrArg (fun l : qa => Sv l) (?_ : _ = xi e), _, rfl⟩
 all_goals unfold xi
 ·rw [if_neg (by simp_all)]
 ·rw [if_pos (by simp_all), ho, if_neg (by assumption)]
end Go.Proofs.YtefmcijohgpfhaaGreatDoor
set_option linter.unusedVariables false
namespace Go.Av
open Go Go.RowKit
def noop (o : Oper) : Oper := { o with op := .move (.const undef), guard := none }
section
variable {F : Fence} {n : Nat} {P : Program} {ops ops' : Array Oper} {md : Region.Mode} {C : World → Prop} {Q : Exit → Act → World → Prop} {k : Nat} {o : Oper}
theorem qh4 {listed : Array Bool} : ∀ k, listed.getD k true = false → ∃ j, j ≤ k ∧ listed.getD j true = false ∧ ∀ i, i < j → listed.getD i true = true := by
 intro k
 induction k using Nat.strongRecOn with
 | _ k ih =>
  intro h
  by_cases hall : ∀ i, i < k → listed.getD i true = true
  ·exact ⟨k, Nat.le_refl _, h, hall⟩
  ·have ⟨i, hi⟩ := Classical.not_forall.1 hall
   have ⟨hi1, hi2⟩ := Classical.not_imp.1 hi
   obtain ⟨j, h1, h2, h3⟩ := ih i hi1 (by simpa using hi2)
   exact ⟨j, by omega, h2, h3⟩
theorem qqz {listed : Array Bool} {i : Nat} (h : listed.getD i true = true) (hi : i < listed.size) : listed.getD i false = true := by
 simp [Array.getD, hi] at h ⊢
 exact h
theorem qun {listed : Array Bool} {i : Nat} (h : listed.getD i true = false) (h2 : listed.getD i false = true) : False := by
 unfold Array.getD at h h2
 by_cases hi : i < listed.size
 ·rw [dif_pos hi] at h h2
  rw [h] at h2
  cases h2
 ·rw [dif_neg hi] at h
  cases h
theorem qlx {listed : Array Bool} {j : Nat} (hsz : listed.size = ops.size) (hord : ∀ (j : Nat) o, ops[j]? = some o → ∀ e ∈ o.after, e.on < j) (hj : listed.getD j true = false) (hall : ∀ i, i < j → listed.getD i true = true) : j ∈ Region.ready md ops listed := by
 have hlt : j < listed.size := by
  rcases Nat.lt_or_ge j listed.size with h | h
  ·exact h
  ·simp [Array.getD, Nat.not_lt.2 h] at hj
 rw [mem_ready]
 have ho : ops[j]? = some ops[j] := Array.getElem?_eq_getElem (by omega)
 exact ⟨hj, _, ho, fun e he _ => qqz (hall _ (hord j _ ho e he)) (by have := hord j _ ho e he; omega)⟩
theorem qi1 {listed : Array Bool} (hs : ops.size = ops'.size) (hk : ops[k]? = some o) (hk' : ops'[k]? = some (noop o)) (hoth : ∀ j, j ≠ k → ops'[j]? = ops[j]?) : Region.ready md ops' listed = Region.ready md ops listed := by
 unfold Region.ready
 rw [hs]
 refine List.filter_congr fun i _ => ?_
 by_cases h : i = k
 ·subst h; rw [hk, hk']; rfl
 ·rw [hoth i h]
theorem qr8 (hd : o.dst = none) (hk : ops[k]? = some o) (hk' : ops'[k]? = some (noop o)) (hoth : ∀ j, j ≠ k → ops'[j]? = ops[j]?) (t : Array Value) : yielded ops' t = yielded ops t := by
 funext j
 unfold yielded
 by_cases h : j = k
 ·subst h; rw [hk, hk']; simp [noop, hd]
 ·rw [hoth j h]
theorem qj5 (hro : F.round = none) (hsz : ops.size = ops'.size) (hk : ops[k]? = some o) (hk' : ops'[k]? = some (noop o)) (hoth : ∀ j, j ≠ k → ops'[j]? = ops[j]?) (hd : o.dst = none)
  (hord : ∀ (j : Nat) o, ops[j]? = some o → ∀ e ∈ o.after, e.on < j) (hcov : ∀ j, j < ops.size → j ≠ k → ∃ e ∈ o.after, Region.binds md e = true ∧ e.on = j) :
  ∀ (fuel : Nat) (listed : Array Bool) (a : Act) (w : World), C w → listed.size = ops.size → listed.getD k true = false → wpAnyQIn F n P md ops' C (fun a => ∀ w, C w → wpOpIn F n P ops Q k (Q .normal) a w) fuel listed a → wpAnyIn F n P md ops Q fuel listed a w
 | 0, listed, a, w, hC, hs, hun, h => by
  have ⟨j, _, h2, h3⟩ := qh4 k hun
  have := qlx (md := md) hs hord h2 h3
  rw [← qi1 hsz hk hk' hoth, h.1] at this
  cases this
 | fuel + 1, listed, a, w, hC, hs, hun, h => by
  obtain ⟨hq1, hq2⟩ := h
  rw [qi1 hsz hk hk' hoth] at hq1 hq2
  refine ⟨fun h0 => ?_, fun i hi => ?_⟩
  ·have ⟨j, _, h2, h3⟩ := qh4 k hun
   have := qlx (md := md) hs hord h2 h3
   rw [h0] at this
   cases this
  ·have hqi := hq2 i hi
   by_cases hik : i = k
   ·subst hik
    obtain ⟨_, o', ho', hall⟩ := mem_ready.1 hi
    rw [hk] at ho'
    cases ho'
    have hr : Region.ready md ops (listed.setIfInBounds i true) = [] := by
     rw [List.eq_nil_iff_forall_not_mem]
     intro j hj
     obtain ⟨hju, oj, hoj, _⟩ := mem_ready.1 hj
     have hjs : j < ops.size := by
      rcases Nat.lt_or_ge j ops.size with h | h
      ·exact h
      ·rw [Array.getElem?_eq_none h] at hoj; cases hoj
     by_cases hji : j = i
     ·subst hji
      simp [Array.getD, hs, hjs] at hju
     ·obtain ⟨e, he, hb, heq⟩ := hcov j hjs hji
      have h5 := hall e he hb
      rw [heq] at h5
      rw [getD_set_ne true (Ne.symm hji)] at hju
      exact qun hju h5
    unfold qOpIn at hqi
    rw [hk'] at hqi
    simp only at hqi
    have hqe := hqi.2
    have hwn : Region.wanted (noop o) (yielded ops' a.tmps) = true := by simp [noop, Region.wanted]
    rw [if_pos hwn] at hqe
    obtain ⟨v, _, hK⟩ := hqe
    have hput : a.put (noop o).dst v = a := by simp [noop, hd, Act.put]
    rw [hput] at hK
    have hQ' : ∀ w, C w → wpOpIn F n P ops Q i (Q .normal) a w := by
     cases fuel with
     | zero => exact hK.2
     | succ fuel => exact hK.1 (by rw [qi1 hsz hk hk' hoth]; exact hr)
    exact wpOpIn_mono (fun a' w' h' => wpAnyIn_done hr h' _) (hQ' w hC)
   ·have he : qOpIn F n P ops C i (wpAnyQIn F n P md ops' C (fun a => ∀ w, C w → wpOpIn F n P ops Q k (Q .normal) a w) fuel (listed.setIfInBounds i true)) a := by
     unfold qOpIn at hqi ⊢
     rw [hoth i hik] at hqi
     rw [← qr8 hd hk hk' hoth]
     exact hqi
    refine wpOpIn_of_qOpIn hro hC (fun a' w' hC' hX => qj5 hro hsz hk hk' hoth hd hord hcov fuel _ a' w' hC' (by simpa using hs) ?_ hX) he
    rw [getD_set_ne true hik]
    exact hun
def qd3 {α : Type} : List α → Option (List α × α)
 | [] => none
 | [x] => some ([], x)
 | x :: y :: r => match qd3 (y :: r) with
  | some (l, o) => some (x :: l, o)
  | none => none
theorem qjx {α : Type} : ∀ {L l : List α} {o : α}, qd3 L = some (l, o) → L = l ++ [o]
 | [], _, _, h => by simp [qd3] at h
 | [x], _, _, h => by simp [qd3] at h; obtain ⟨rfl, rfl⟩ := h; rfl
 | x :: y :: r, l, o, h => by
  unfold qd3 at h
  split at h
  ·rename_i l' o' he
   simp only [Option.some.injEq, Prod.mk.injEq] at h
   obtain ⟨rfl, rfl⟩ := h
   rw [qjx he]
   rfl
  ·simp at h
def qvq (o : Oper) (k : Nat) : Bool := (List.range k).all fun j => o.after.toList.any fun e => Region.binds .any e && Nat.beq e.on j
def qtl (ops : List Oper) : Bool := (List.range ops.length).all fun j => match ops[j]? with | some o => o.after.toList.all fun e => Nat.blt e.on j | none => true
end
section
variable {E : Env} {N : Nat} {s : AS}
theorem qzb {id : Nat} {L l : List Oper} {o : Oper} {Q : Exit → AS → Prop} (hsp : qd3 L = some (l, o)) (hd : o.dst = none) (hcov : qvq o l.length = true) (hord : qtl L = true) (hm : E.P.follows .mixedOrders = true) (hB : Region.lexB .any (l ++ [noop o]).toArray = true)
  (h : AQ E N (l ++ [noop o]).toArray l (fun s' => AOps E none N L.toArray [o] (Q .normal) s') s) : AWp E none N (.region id L.toArray true) Q s := by
 have hLe := qjx hsp
 subst hLe
 refine ⟨fun B0 w0 G a w hL hI => ?_⟩
 have hB2 := hB
 simp only [Region.lexB, Bool.and_eq_true] at hB2
 have hk : (l ++ [o]).toArray[l.length]? = some o := by simp
 have hk' : (l ++ [noop o]).toArray[l.length]? = some (noop o) := by simp
 have hoth : ∀ j, j ≠ l.length → (l ++ [noop o]).toArray[j]? = (l ++ [o]).toArray[j]? := fun j hj => by
  simp only [List.getElem?_toArray]
  rcases Nat.lt_or_ge j l.length with h | h
  ·rw [List.getElem?_append_left h, List.getElem?_append_left h]
  ·rw [List.getElem?_eq_none (by simp; omega), List.getElem?_eq_none (by simp; omega)]
 have hordP : ∀ (j : Nat) o', (l ++ [o]).toArray[j]? = some o' → ∀ e ∈ o'.after, e.on < j := fun j o' hj e he => by
  simp only [qtl, List.all_eq_true, List.mem_range] at hord
  simp only [List.getElem?_toArray] at hj
  have h1 := hord j (lt_of_getElem? hj)
  rw [hj] at h1
  simp only at h1
  have h2 := List.all_eq_true.1 h1 e (by simpa using he)
  exact Nat.le_of_ble_eq_true h2
 have hcovP : ∀ j, j < (l ++ [o]).toArray.size → j ≠ l.length → ∃ e ∈ o.after, Region.binds .any e = true ∧ e.on = j := fun j hj hne => by
  simp only [qvq, List.all_eq_true, List.mem_range] at hcov
  have h1 := hcov j (by simp at hj; omega)
  obtain ⟨e, he, h2⟩ := List.any_eq_true.1 h1
  simp only [Bool.and_eq_true] at h2
  exact ⟨e, by simpa using he, h2.1, Nat.eq_of_beq_eq_true h2.2⟩
 have hBl : Below w.heap.size w { w with drawn := w.drawn + 1 } := ⟨rfl, rfl, rfl, Nat.le_refl _, fun _ _ => rfl⟩
 refine wpIn_region_any hm (qj5 (C := fun w' => Below w.heap.size w w') (ops' := (l ++ [noop o]).toArray) (k := l.length) rfl (by simp) hk hk' hoth hd hordP hcovP _ _ _ _ hBl (by simp) (by simp [Array.getD]) ?_)
 have hq : wpQuietIn (fw none) 0 E.P (l ++ [noop o]).toArray (fun w' => Below w.heap.size w w') (fun a => ∀ w', Below w.heap.size w w' → wpOpIn (fw none) 0 E.P (l ++ [o]).toArray (fun e a' w' => ∃ (G' : Gh) (s' : AS), G.le G' ∧ Inv B0 w0 N G' s' a' w' ∧ Q e s') l.length (fun a' w' => ∃ (G' : Gh) (s' : AS), G.le G' ∧ Inv B0 w0 N G' s' a' w' ∧ Q .normal s') a w') (l ++ [noop o]) a := by
  have step : ∀ (l1 : List Oper) (a : Act) (X : Act → Prop), wpQuietIn (fw none) 0 E.P (l ++ [noop o]).toArray (fun w' => Below w.heap.size w w') X l1 a → wpQuietIn (fw none) 0 E.P (l ++ [noop o]).toArray (fun w' => Below w.heap.size w w') X (l1 ++ [noop o]) a := by
   intro l1
   induction l1 with
   | nil =>
    intro a X hX
    refine ⟨fun _ _ _ hf => ?_, ?_⟩
    ·simp [Oper.about, noop] at hf
    ·have hwn : Region.wanted (noop o) (yielded (l ++ [noop o]).toArray a.tmps) = true := by simp [noop, Region.wanted]
     rw [if_pos hwn]
     refine ⟨undef, fun w' _ => ?_, ?_⟩
     ·unfold Oper.quietAtIn
      simp [noop, execOp, Oper.quietUponIn, Act.eval]
     ·have hput : a.put (noop o).dst undef = a := by simp [noop, hd, Act.put]
      rw [hput]
      exact hX
   | cons o1 l1 ih =>
    intro a X hX
    refine ⟨hX.1, ?_⟩
    have h2 := hX.2
    split
    ·rename_i hw
     rw [if_pos hw] at h2
     obtain ⟨v, h3, h4⟩ := h2
     exact ⟨v, h3, ih _ _ h4⟩
    ·rename_i hw
     rw [if_neg hw] at h2
     exact ih _ _ h2
  refine step l a _ (h.run B0 w0 G a w hL hI _ fun s' a' hI' hst hks w' hw' => ?_)
  have hI2 : Inv B0 w0 N G s' a' w' := ⟨hI'.agree.fresh hw', hI'.defers, hI'.size, hI'.tmps⟩
  have hr := hks.run B0 w0 G a' w' hL hI2 (fun e a' w' => ∃ (G' : Gh) (s' : AS), G.le G' ∧ Inv B0 w0 N G' s' a' w' ∧ Q e s') (fun G' s'' a'' w'' hG hI3 hQ => ⟨G', s'', hG, hI3, hQ⟩)
  unfold wpOpIn
  rw [hk]
  exact hr
 have := wpAnyQIn_lex (F := fw none) (n := 0) (C := fun w' => Below w.heap.size w w') (md := .any) hB2.1 (l ++ [noop o]) 0 (Array.replicate (l ++ [noop o]).length false) a (by simp) (by simpa using hB2.2) hq
 simpa using this
variable {ops : Array Oper} {K : AS → Prop} {rest : List Oper} {d : Option Tmp} {T : TypeId} {p : String} {af : Array Edge}
theorem vp {x y : Operand} {t t' : TypeId} {m n : List UInt8} (hx : qk N s x = Sv m) (hy : qk N s y = Sv n) (hl : m.length + n.length < 9223372036854775808)
  (h : AQ E N ops rest K (s.put d (Sv (m ++ n)))) : AQ E N ops (⟨d, .binOp .add t x y t', T, p, af, none⟩ :: rest) K s :=
 qa8 _ rfl nofun (fun a w he => by
  simp only [execOp, he _ _ hx, he _ _ hy, eqGuard_at_string, binOp, Op.stringOp, qar, qqa, IntKind.max_i64]
  rw [if_neg (by omega)]
  simp) h
theorem qsk {x y : Operand} {t e : TypeId} {sz : Nat} {agg : Bool} {xs : List AV} {tip : Option Nat} {k : IntKind} {i : Int} {n : Nat} {z : AV} (hx : qk N s x = .sl sz xs tip) (hy : qk N s y = .v (.int k i)) (hu : E.P.underlying t = some (.slice e)) (ht : tyOf E.P e = some (sz, agg)) (hi : i = n) (hz : xs[n]? = some z)
  (h : AQ E N ops rest K (s.put d (.pp z.cells))) : AQ E N ops (⟨d, .indexAddr t x y, T, p, af, none⟩ :: rest) K s := by
 refine qdl rfl nofun fun B0 w0 G a w _ hI => ?_
 subst hi
 have he := hI.eval_of hx
 have hey := hI.evalv hy
 generalize hv : a.eval x = v at he
 have hlt := lt_of_getElem? hz
 cases he with
 | sl0 => simp at hz
 | sl _ _ _ b off cap pub hp hw hlen hrel htip hcap =>
  have hzs : z.cells.length = sz := hw z (List.mem_of_getElem? hz)
  have hfl := yz hw
  have hle : (n + 1) * sz ≤ xs.length * sz := Nat.mul_le_mul_right _ hlt
  rw [Nat.succ_mul] at hle
  refine ⟨.pointer (some ⟨b, off + n * sz, none⟩), .pp z.cells, fun w' _ => ?_, ?_, h⟩
  ·generalize a.eval = ρ at hv hey
   simp only [execOp, hv, hey]
   simp [Instr.indexAt, asIntOf, run_underlying hu, hlt, (xz ht w').1, Addr.add_lit]
  ·refine .pp _ b _ pub hp (by omega) fun j q r h1 h2 => ?_
   have hj : j < sz := by have := lt_of_getElem? h1; omega
   have hf := ql5 hw hz j hj
   exact hrel (n * sz + j) q r (by rw [hf]; exact h1) (by rw [← h2]; congr 1; omega)
theorem qnk {x y : Operand} {t e : TypeId} {sz : Nat} {agg : Bool} {o ver off len cp : Nat} {k : IntKind} {i : Int} {n : Nat} (hx : qk N s x = .os o ver off len cp) (hy : qk N s y = .v (.int k i)) (hu : E.P.underlying t = some (.slice e)) (ht : tyOf E.P e = some (sz, agg)) (hi : i = n) (hn : n < len)
  (h : AQ E N ops rest K (s.put d (.bx o ver (off + n * sz)))) : AQ E N ops (⟨d, .indexAddr t x y, T, p, af, none⟩ :: rest) K s := by
 refine qdl rfl nofun fun B0 w0 G a w _ hI => ?_
 subst hi
 have he := hI.eval_of hx
 have hey := hI.evalv hy
 generalize hv : a.eval x = v at he
 cases he with
 | os _ _ _ _ b cap hn' hver hb =>
  refine ⟨.pointer (some ⟨b, off + n * sz, none⟩), _, fun w' _ => ?_, .bx o ver _ b hn' hver hb, h⟩
  generalize a.eval = ρ at hv hey
  simp only [execOp, hv, hey]
  simp [Instr.indexAt, asIntOf, run_underlying hu, hn, (xz ht w').1, Addr.add_lit]
theorem ja {t : TypeId} {x : Operand} {f off sz : Nat} {agg : Bool} {o ver q : Nat} (hx : qk N s x = .bx o ver q) (hf : qa4 E.P t f = some (off, sz, agg)) (hsz : Nat.beq sz 0 = false)
  (h : AQ E N ops rest K (s.put d (.bx o ver (q + off)))) : AQ E N ops (⟨d, .fieldAddr t x f, T, p, af, none⟩ :: rest) K s := by
 refine qdl rfl nofun fun B0 w0 G a w _ hI => ?_
 have he := hI.eval_of hx
 generalize hv : a.eval x = v at he
 cases he with
 | bx _ _ _ b hn hv' hb =>
  have hs : sz ≠ 0 := fun e => by subst e; simp at hsz
  exact ⟨_, _, fun w' _ => by simp only [execOp, hv]; simp [qe5 hf hs], .bx o ver _ b hn hv' hb, h⟩
theorem jb {t : TypeId} {x : Operand} {f off sz : Nat} {agg : Bool} {cs : List AV} (hx : qk N s x = .pp cs) (hf : qa4 E.P t f = some (off, sz, agg)) (hsz : Nat.beq sz 0 = false) (hle : Nat.ble off cs.length = true)
  (h : AQ E N ops rest K (s.put d (.pp (cs.drop off)))) : AQ E N ops (⟨d, .fieldAddr t x f, T, p, af, none⟩ :: rest) K s := by
 refine qdl rfl nofun fun B0 w0 G a w _ hI => ?_
 have he := hI.eval_of hx
 generalize hv : a.eval x = v at he
 cases he with
 | pp _ b q pub hp hlen hrel =>
  have hs : sz ≠ 0 := fun e => by subst e; simp at hsz
  have ho : off ≤ cs.length := Nat.le_of_ble_eq_true hle
  refine ⟨.pointer (some ⟨b, q + off, none⟩), _, fun w' _ => by simp only [execOp, hv]; simp [qe5 hf hs], ?_, h⟩
  exact .pp _ b (q + off) pub hp (by simp; omega) fun i x y h1 h2 => hrel (off + i) x y (by simpa using h1) (by rw [← h2]; congr 1; omega)
theorem kp {x : Operand} {t : TypeId} {sz : Nat} {agg : Bool} {cs : List AV} {r : AV} (hx : qk N s x = .pp cs) (ht : tyOf E.P t = some (sz, agg)) (hr : wd sz agg 0 cs = some r)
  (h : AQ E N ops rest K (s.put d r)) : AQ E N ops (⟨d, .load t x, T, p, af, none⟩ :: rest) K s := by
 refine qdl rfl nofun fun B0 w0 G a w _ hI => ?_
 have he := hI.eval_of hx
 generalize hv : a.eval x = v at he
 cases he with
 | pp _ b off pub hp hlen hrel =>
  obtain ⟨c, T', fz, hc, hcc⟩ := hI.agree.pub b pub hp
  have hlt : b < w.heap.size := hI.agree.pub_lt hp
  have key : ∀ w', Below w.heap.size w w' → ∃ v, (loadVar t ⟨b, off, none⟩).run E.P w' = .ok v w' ∧ Rel G r v := fun w' hw' => by
   have h4' : w'.heap[b]? = some (.cells c T' fz) := by rw [hw'.block _ hlt]; exact hc
   exact qat (w := w') (G := G) (b := b) (off := off) ht (fun i x hx _ => by
    have hi := lt_of_getElem? hx
    have hy : pub[off + i]? = some (pub[off + i]'(by omega)) := List.getElem?_eq_getElem (by omega)
    refine ⟨_, ?_, hrel i x _ hx hy⟩
    simp [World.cell?, h4', hcc _ _ hy]) hr
  have hg : ∀ w', Below w.heap.size w w' → ∀ j, j < cs.length → w'.cell? ⟨b, off + j, none⟩ = some (pub.getD (off + j) undef) := fun w' hw' j hj => by
   have h4' : w'.heap[b]? = some (.cells c T' fz) := by rw [hw'.block _ hlt]; exact hc
   have hlt2 : off + j < pub.length := by omega
   have hy : pub[off + j]? = some (pub.getD (off + j) undef) := by simp [List.getD, hlt2]
   simp [World.cell?, h4', hcc _ _ hy]
  have hsame : ∀ w', Below w.heap.size w w' → ∀ v, (loadVar t ⟨b, off, none⟩).run E.P w = .ok v w → (loadVar t ⟨b, off, none⟩).run E.P w' = .ok v w' := fun w' hw' v hr1 => by
   obtain ⟨i1, i2⟩ := xz ht w
   obtain ⟨j1, j2⟩ := xz ht w'
   obtain ⟨v', h1', _⟩ := key w' hw'
   rw [h1']
   congr 1
   cases agg with
   | false =>
    simp only [wd, cond_false] at hr
    have h0 := lt_of_getElem? hr
    have e1 := hg w (Below.refl _ _) 0 h0
    have e2 := hg w' hw' 0 h0
    rw [Nat.add_zero] at e1 e2
    simp [loadVar, i2, run_load, e1] at hr1
    simp [loadVar, j2, run_load, e2] at h1'
    rw [← h1', hr1]
   | true =>
    simp only [wd, cond_true] at hr
    cases hb2 : Nat.ble (0 + sz) cs.length with
    | false => rw [hb2] at hr; simp at hr
    | true =>
     have hle : 0 + sz ≤ cs.length := Nat.le_of_ble_eq_true hb2
     have l1 := run_loadCells (P := E.P) (w := w) ⟨b, off, none⟩ sz (fun j => pub.getD (off + j) undef) (fun j hj => by rw [Addr.add_lit]; exact hg w (Below.refl _ _) j (by omega))
     have l2 := run_loadCells (P := E.P) (w := w') ⟨b, off, none⟩ sz (fun j => pub.getD (off + j) undef) (fun j hj => by rw [Addr.add_lit]; exact hg w' hw' j (by omega))
     simp [loadVar, i1, i2, l1] at hr1
     simp [loadVar, j1, j2, l2] at h1'
     rw [← h1', hr1]
  obtain ⟨v, hrun, hR⟩ := key w (Below.refl _ _)
  exact ⟨v, r, fun w' hw' => by simp only [execOp, hv, Instr.loadAt, Instr.sureAddr]; simp [hsame w' hw' v hrun], hR, h⟩
theorem xu {x y : Operand} {t t' : TypeId} {k : IntKind} {m n r : Int} (hx : qk N s x = .v (.int k m)) (hy : qk N s y = .v (.int k n)) (hr : k.wrap (m - n) = r)
  (h : AQ E N ops rest K (s.put d (.v (.int k r)))) : AQ E N ops (⟨d, .binOp .sub t x y t', T, p, af, none⟩ :: rest) K s :=
 qa8 _ rfl nofun (fun a w he => by rw [← hr]; simp [execOp, he _ _ hx, he _ _ hy, eqGuard_at_int, binOp, Op.intArith]) h
theorem ww {x y z : Operand} {t : TypeId} {k k' : IntKind} {l : List UInt8} {i j : Nat} (hx : qk N s x = Sv l) (hy : qk N s y = .v (.int k' (i : Int))) (hz : qk N s z = .v (.int k (j : Int))) (hu : E.P.underlying t = some .string) (h1 : i ≤ j) (h2 : j ≤ l.length)
  (h : AQ E N ops rest K (s.put d (Sv ((l.take j).drop i)))) : AQ E N ops (⟨d, .slice t x (some y) (some z) none, T, p, af, none⟩ :: rest) K s :=
 qmm (i := i) (j := j) hx hu ⟨_, hy⟩ ⟨_, hz⟩ (by omega) (by omega) (by omega) (by simpa using h)
theorem wy {x : Operand} {ts : Array TypeId} {t0 e : TypeId} {v : AV} {n : Nat} (hx : qk N s x = v) (hl : lenA v = some n) (ht : ts[0]? = some t0) (hu : E.P.underlying t0 = some (.slice e))
  (h : AQ E N ops rest K (s.put d (Iv n))) : AQ E N ops (⟨d, .call ⟨.builtin .len, #[x], ts⟩, T, p, af, none⟩ :: rest) K s := by
 refine qdl rfl nofun fun B0 w0 G a w _ hI => ?_
 have he := hI.eval_of hx
 have key : ∃ b c, a.eval x = .slice b n c := by
  generalize a.eval x = u at he
  cases he <;> simp [lenA] at hl
  case v y =>
   cases u <;> simp at hl
   subst hl
   exact ⟨_, _, rfl⟩
  case sl0 => subst hl; exact ⟨_, _, rfl⟩
  case sl => subst hl; exact ⟨_, _, rfl⟩
  case os => subst hl; exact ⟨_, _, rfl⟩
 obtain ⟨b, c, hv⟩ := key
 refine ⟨.int .i64 n, Iv n, fun w' _ => ?_, .v _, h⟩
 generalize a.eval = ρ at hv
 simp [execOp, resolve, invoke, builtin, Builtin.len_, hv, ht, run_underlying hu, goInt]
theorem ke {x : Operand} {t : TypeId} {sz : Nat} {agg : Bool} {st loc ext new : List AObj} {k ver off : Nat} {T' : TypeId} {cs : List AV} {r : AV} (hs : s.st = ((st ++ loc) ++ ext) ++ new) (hx : qk N s x = .bx (st.length + k) ver off) (ho : loc[k]? = some (.cells ver T' cs)) (ht : tyOf E.P t = some (sz, agg)) (hr : wd sz agg off cs = some r)
  (h : AQ E N ops rest K (s.put d r)) : AQ E N ops (⟨d, .load t x, T, p, af, none⟩ :: rest) K s :=
 qoh hx (by rw [hs]; exact qch ho) ht hr h
end
end Go.Av
set_option linter.unusedVariables false
namespace Go.Av
open Go Go.RowKit
section
variable {B0 : Nat} {w0 : World} {G : Gh} {st : List AObj} {w : World}
theorem jf.pubOb (h : jf B0 w0 G st w) {o ver : Nat} {T : TypeId} {cs : List AV} (ho : st[o]? = some (.cells ver T cs)) :
  ∃ vs : List Value, G.le (G.publish (G.ob o).blk vs) ∧ jf B0 w0 (G.publish (G.ob o).blk vs) (st.set o .dead) w ∧ (G.ob o).ver = ver ∧ (G.publish (G.ob o).blk vs).pub (G.ob o).blk = some vs ∧ cs.length = vs.length ∧
   ∀ (i : Nat) (x : AV) (y : Value), cs[i]? = some x → vs[i]? = some y → Rel (G.publish (G.ob o).blk vs) x y := by
 obtain ⟨h0, h1, h2, h3, c, h4, h5, h6⟩ := h.ob o _ ho
 have hle : G.le (G.publish (G.ob o).blk c.toList) := G.le_publish _ _ [] [] (.inl h3)
 refine ⟨c.toList, hle, ?_, h1, by simp [Gh.publish], by simpa using h5, fun i x y hx hy => (h6 i x y hx (by simpa using hy)).mono hle⟩
 have key : ∀ (k : Nat) (x : AObj), (st.set o .dead)[k]? = some x → x = .dead ∨ (k ≠ o ∧ st[k]? = some x) := fun k x hx => by
  rcases getElem?_set' _ _ _ _ _ hx with ⟨_, e⟩ | e
  ·exact .inl e
  ·exact .inr e
 refine ⟨h.below, h.hB, by simp [h.n, Gh.publish], fun b vs hb => ?_, fun k x hx => ?_, fun k k' x x' hne hx hx' hl hl' => ?_⟩
 ·simp only [Gh.publish] at hb
  by_cases e : b = (G.ob o).blk
  ·rw [if_pos e] at hb
   cases hb
   subst e
   exact ⟨c, T, (0, 0), h4, fun i y hy => by simpa using hy⟩
  ·rw [if_neg e] at hb
   exact h.pub b vs hb
 ·rcases key k x hx with rfl | ⟨hk, hx⟩
  ·trivial
  ·refine (h.ob k x hx).mono hle rfl (fun hl => ?_) (fun _ => rfl)
   have := h.sep k o x _ hk hx ho hl trivial
   simp [Gh.publish, this]
 ·rcases key k x hx with rfl | ⟨hk, hx⟩
  ·exact hl.elim
  ·rcases key k' x' hx' with rfl | ⟨hk', hx'⟩
   ·exact hl'.elim
   ·exact h.sep k k' x x' hne hx hx' hl hl'
end
section
variable {E : Env} {rd : Option Nat} {N : Nat} {ops : Array Oper} {K : AS → Prop} {s : AS} {rest : List Oper} {d : Option Tmp} {T : TypeId} {p : String} {af : Array Edge}
theorem Inv.pub {B0 : Nat} {w0 : World} {G : Gh} {a : Act} {w : World} (h : Inv B0 w0 N G s a w) {i o ver : Nat} {T' : TypeId} {cs : List AV} (hi : s.t i = .bx o ver 0) (ho : s.st[o]? = some (.cells ver T' cs)) :
  ∃ G', G.le G' ∧ Inv B0 w0 N G' ⟨Av.put s.t i (.pp cs), s.st.set o .dead, s.df⟩ a w := by
 obtain ⟨vs, hle, hA, hv, hp, hl, hr⟩ := h.agree.pubOb ho
 refine ⟨_, hle, hA, h.defers_mono hle, h.size, fun j y hy => ?_⟩
 have hj := h.tmps j y hy
 by_cases e : j = i
 ·subst e
  simp only [qai]
  rw [hi] at hj
  cases hj with
  | bx _ _ _ b hn hv' hb =>
   have hb := hb hv
   subst hb
   exact .pp cs _ 0 vs hp (by omega) fun k x y hx hy => hr k x y hx (by simpa using hy)
 ·simp only
  rw [qcd _ _ _ _ e]
  exact hj.mono hle
theorem zm {x y : Operand} {t : TypeId} {sz : Nat} {agg : Bool} {st loc loc' ext new : List AObj} {k ver off : Nat} {T' : TypeId} {cs xs : List AV} {r : AV} (hs : s.st = ((st ++ loc) ++ ext) ++ new) (hx : qk N s x = .bx (st.length + k) ver off) (hy : qk N s y = r) (ho : loc[k]? = some (.cells ver T' cs)) (ht : tyOf E.P t = some (sz, agg))
  (hok : r.okc = true) (hc : r.cells = xs) (hsz : Nat.beq xs.length sz = true) (h1 : ya xs = true) (hfit : Nat.ble (off + sz) cs.length = true) (hl : loc' = loc.set k (.cells ver T' (yt cs off xs)))
  (h : AOps E rd N ops rest K (AS.put ⟨s.t, ((st ++ loc') ++ ext) ++ new, s.df⟩ d (.v undef))) : AOps E rd N ops (⟨d, .store t x y, T, p, af, none⟩ :: rest) K s := by
 have hk := lt_of_getElem? ho
 exact y8 hx hy (by rw [hs]; exact qch ho) ht hok hc hsz h1 hfit (by rw [hs, qgb _ hk, ← hl]; exact h)
end
theorem qcq {α : Type} (l : List α) (a : α) : (l ++ [a]).length = l.length + 1 := by simp
theorem qd6 {α : Type} (l : List α) (a : α) : Iv ((l.length : Int) + 1) = Iv ((l ++ [a]).length : Nat) := by rw [qcq]; rfl
theorem qmh {α : Type} (l : List α) (a : α) : Iv ((l.length : Int) + 1 + 1) = Iv (((l ++ [a]).length : Nat) + 1) := by rw [qcq]; rfl
theorem qso {α : Type} {sz : Nat} {tip : Option Nat} (x0 : AV) (g : α → AV) (pre : List α) (a : α) (v : AV) (h : v = g a) : AV.sl sz ((x0 :: pre.map g) ++ [v]) tip = AV.sl sz (x0 :: (pre ++ [a]).map g) tip := by rw [List.map_append, h]; rfl
theorem quq {E : Env} {rd : Option Nat} {N : Nat} {ops : Array Oper} {K : AS → Prop} {s : AS} {rest : List Oper} {d : Option Tmp} {T : TypeId} {p : String} {af : Array Edge} {t : TypeId} {st loc : List AObj} {cs : List AV} {n : Nat} (hst : s.st = st ++ loc) (hn : st.length = n) (hz : qf7 E.P t = some cs)
  (h : AOps E rd N ops rest K (AS.put ⟨s.t, st ++ (loc ++ [.cells 0 t cs]), s.df⟩ d (.bx (n + loc.length) 0 0))) : AOps E rd N ops (⟨d, .alloc t, T, p, af, none⟩ :: rest) K s := by
 subst hn
 exact zj hst hz h
theorem qap {E : Env} {rd : Option Nat} {N : Nat} {c : Code} {Q : Exit → AS → Prop} {s : AS} {α : Type} (xs : List α) (I : List α → AS → Prop) (h0 : I [] s) (hend : ∀ s, I xs s → AWp E rd N c (qq7 (fun _ => False) Q) s)
  (hstep : ∀ pre a rest s, xs = pre ++ a :: rest → I pre s → AWp E rd N c (qq7 (fun s' => I (pre ++ [a]) s') Q) s) : AWp E rd N (.loop c) Q s := by
 refine xc (fun (x : List α × List α) s => xs = x.1 ++ x.2 ∧ I x.1 s) (fun x => x.2.length) ([], xs) ⟨rfl, h0⟩ ?_
 rintro ⟨pre, rest⟩ s ⟨hx, hi⟩
 cases rest with
 | nil =>
  simp only [List.append_nil] at hx
  subst hx
  refine (hend s hi).mono fun e s' h => ?_
  cases e with
  | normal => exact h.elim
  | _ => exact h
 | cons a rest =>
  refine (hstep pre a rest s hx hi).mono fun e s' h => ?_
  cases e with
  | normal => exact ⟨(pre ++ [a], rest), ⟨by rw [hx]; simp, h⟩, by simp⟩
  | _ => exact h
theorem qqy {E : Env} {fn : Func} {R : AV → List AObj → Prop} {s : AS} {st loc ext new : List AObj} {k : Nat} {ds : List Nat} (hs : s.st = ((st ++ loc) ++ ext) ++ new) (hd : s.df = (st.length + k) :: ds) (ho : loc[k]? = some .dfr) (h : ARet E fn R ⟨s.t, ((st ++ loc.set k .dead) ++ ext) ++ new, ds⟩) : ARet E fn R s :=
 qkd hd (by rw [hs]; exact qch ho) (by rw [hs, qgb _ (lt_of_getElem? ho)]; exact h)
@[reducible] def qzl (F : LoopState → Option Code → AObj) (st : List AObj) (own : AObj) (I : List AObj → Prop) (D : Code → List AObj → Prop) : Exit → AS → Prop
 | .normal, s => ∃ l ext new, s.st = ((st ++ (l ++ [.dfr, F .busy none, own])) ++ ext) ++ new ∧ I l
 | .ret, s => ∃ l ext new, s.st = ((st ++ (l ++ [.dfr, F .busy none, own])) ++ ext) ++ new ∧ D .ret l
 | .exit id, s => ∃ l ext new, s.st = ((st ++ (l ++ [.dfr, F .busy none, own])) ++ ext) ++ new ∧ D (.exit id) l
 | _, _ => False
theorem quz {E : Env} {o : Nat} {xs : List AV} {st st' : List AObj} {R : Bool → List AObj → Prop} (e : st = st') (h : qam E o xs st R) : qam E o xs st' R := e ▸ h
theorem qc0 {st l ext : List AObj} {a b c : AObj} {n : Nat} (hl : l.length = n) : (((st ++ (l ++ [a, b, c])) ++ ext))[st.length + (n + 1)]? = some b := by
 subst hl
 rw [List.append_assoc, List.append_assoc, List.getElem?_append_right (by omega), Nat.add_sub_cancel_left, List.getElem?_append_right (by omega)]
 simp
theorem qdw {st l ext : List AObj} {a b c y : AObj} {n : Nat} (hl : l.length = n) : ((st ++ (l ++ [a, b, c])) ++ ext).set (st.length + (n + 1)) y = (st ++ (l ++ [a, y, c])) ++ ext := by
 subst hl
 rw [List.append_assoc, List.append_assoc, List.set_append_right _ _ (by omega), Nat.add_sub_cancel_left, List.set_append_right _ _ (by omega)]
 simp
theorem q2g {E : Env} {N : Nat} {t : Nat → AV} {ps : Array Tmp} {asg body : Code} {st l ext : List AObj} {own : AObj} {n : Nat} {xs : List AV} {F : LoopState → Option Code → AObj} {I : List AObj → Prop} {D : Code → List AObj → Prop} (hF : qiy F N t ps asg body) (hl : l.length = n) (hps : ps.size = xs.length)
  (hI : ∀ l, I l → l.length = n) (hD : ∀ c l, D c l → l.length = n)
  (h : ∀ rd, AWp E (some rd) N asg (only fun s1 => ∃ new, s1.st = ((st ++ (l ++ [.dfr, F .ready none, own])) ++ ext) ++ new ∧ s1.df = [] ∧ AWp E (some rd) N body (qzl F st own I D) ⟨s1.t, ((st ++ (l ++ [.dfr, F .busy none, own])) ++ ext) ++ new, []⟩) ⟨qhf t (ps.toList.zip xs), ((st ++ (l ++ [.dfr, F .ready none, own])) ++ ext) ++ [], []⟩) :
  qam E (st.length + (n + 1)) xs ((st ++ (l ++ [.dfr, F .ready none, own])) ++ ext) fun b st2 => ∃ l' ext', (b = true → st2 = (st ++ (l' ++ [.dfr, F .ready none, own])) ++ ext' ∧ I l') ∧ (b = false → ∃ c, st2 = (st ++ (l' ++ [.dfr, F .done (some c), own])) ++ ext' ∧ D c l') := by
 refine qm1 hF (qc0 hl) hps fun rd => ?_
 have h := h rd
 rw [List.append_nil] at h
 refine h.mono fun e s1 hq => ?_
 cases e with
 | normal =>
  obtain ⟨new, h1, h2, h3⟩ := hq
  refine ⟨by rw [h1, List.append_assoc]; exact qc0 hl, h2, ?_⟩
  have e : s1.st.set (st.length + (n + 1)) (F .busy none) = ((st ++ (l ++ [.dfr, F .busy none, own])) ++ ext) ++ new := by
   rw [h1, List.append_assoc, qdw hl, List.append_assoc _ ext]
  rw [e]
  refine h3.mono fun e s2 hq2 => ?_
  cases e with
  | normal =>
   obtain ⟨l', ext', new', k1, k2⟩ := hq2
   exact ⟨by rw [k1, List.append_assoc]; exact qc0 (hI _ k2), l', ext' ++ new', fun _ => ⟨by rw [k1, List.append_assoc, qdw (hI _ k2)], k2⟩, nofun⟩
  | ret =>
   obtain ⟨l', ext', new', k1, k2⟩ := hq2
   exact ⟨by rw [k1, List.append_assoc]; exact qc0 (hD _ _ k2), l', ext' ++ new', nofun, fun _ => ⟨_, by rw [k1, List.append_assoc, qdw (hD _ _ k2)], k2⟩⟩
  | exit id =>
   obtain ⟨l', ext', new', k1, k2⟩ := hq2
   exact ⟨by rw [k1, List.append_assoc]; exact qc0 (hD _ _ k2), l', ext' ++ new', nofun, fun _ => ⟨_, by rw [k1, List.append_assoc, qdw (hD _ _ k2)], k2⟩⟩
  | _ => exact hq2.elim
 | _ => exact hq.elim
end Go.Av
set_option linter.unusedVariables false
namespace Go.Pl
open Go Go.Proofs
abbrev Fld := qa × qa
def qdq (s : qa) : Prop := ∀ c ∈ s, x6 c
instance (s : qa) : Decidable (qdq s) := inferInstanceAs (Decidable (∀ c ∈ s, x6 c))
def yi (s : qa) : qa := if qdq s ∨ s.head? = some 46 then 46 :: s else s
def xf (key p : qa) : qa := key ++ [58] ++ if p = [] then [] else [32] ++ p
def vt (f : Fld) : List qa := xf f.1 ((js f.2).headD []) :: (js f.2).tail.map fun s => [32] ++ yi s
def jp (ls : List qa) : qa := ls.flatMap fun s => s ++ [10]
def xq (xs : List Fld) : qa := xs.flatMap fun f => jp (vt f)
def xd (f : Fld) : Int := if ¬ qaf f.1 then 5 else if 1000 < f.2.length then 6 else 0
def wj (f : Fld) : Prop := qaf f.1 ∧ f.2.length ≤ 1000
instance (f : Fld) : Decidable (wj f) := inferInstanceAs (Decidable (_ ∧ _))
theorem qcg (f : Fld) : xd f = 0 ↔ wj f := by
 unfold xd wj
 by_cases h : qaf f.1
 ·by_cases h2 : 1000 < f.2.length
  ·simp [h, h2]
  ·simp [h, h2]; omega
 ·simp [h]
def wi (c : UInt8) (l : qa) : qa := if l.head? = some c then l.drop 1 else l
theorem qpm (c : UInt8) (l : qa) : Lib.trimPrefix l [c] = wi c l := by
 unfold Lib.trimPrefix wi
 rw [qjr]
 simp
def qbl (l : qa) (r : List qa) : qa := wi 32 (ve l) ++ r.flatMap fun s => [10] ++ wi 46 (s.drop 1)
def qmf (ls : List qa) : Prop := ls ≠ [] ∧ q9 (ls.headD []) = 4 ∧ ∀ s ∈ ls.tail, q9 s = 3
instance (ls : List qa) : Decidable (qmf ls) := inferInstanceAs (Decidable (_ ∧ _ ∧ _))
def j8 (ls : List qa) : Fld × Int :=
 if qmf ls then
  if 1000 < (qbl (ls.headD []) ls.tail).length then (([], []), 6) else ((jz (ls.headD []), qbl (ls.headD []) ls.tail), 0)
 else (([], []), 2)
theorem qjd (l : qa) : js l ≠ [] := by
 by_cases h : 10 ∈ l
 ·rw [qbo h]; simp
 ·rw [qbn h]; simp
theorem qos (l : qa) : js l = (js l).headD [] :: (js l).tail := by
 cases h : js l with
 | nil => exact absurd h (qjd l)
 | cons a r => rfl
theorem qi3 : ∀ (n : Nat) (l : qa), l.length ≤ n → (js l).headD [] ++ (js l).tail.flatMap (fun s => [10] ++ s) = l
 | n, l, hn => by
  by_cases h : 10 ∈ l
  ·rw [qbo h]
   have hne : l ≠ [] := fun e => by subst e; simp at h
   have hlt := ye (c := 10) hne
   cases n with
   | zero => omega
   | succ n =>
    have ih := qi3 n (past 10 l) (by omega)
    simp only [List.headD_cons, List.tail_cons]
    rw [qos (past 10 l)]
    simp only [List.flatMap_cons]
    rw [List.append_assoc, ih]
    have := y7 h
    simp [← this]
  ·rw [qbn h]; simp
theorem qeg (l : qa) : ∀ x ∈ js l, 10 ∉ x := fun x hx => (qfq l.length l (Nat.le_refl _) x hx).2
theorem qlo (l : qa) : ∀ x ∈ js l, x.length ≤ l.length := fun x hx => (qfq l.length l (Nat.le_refl _) x hx).1
theorem qml (l : qa) : (js l).headD [] ∈ js l := by
 have h := qjd l
 cases e : js l with
 | nil => exact absurd e h
 | cons a r => simp
theorem quw (s : qa) : wi 46 (yi s) = s := by
 unfold yi wi
 by_cases h : qdq s ∨ s.head? = some 46
 ·rw [if_pos h]; simp
 ·rw [if_neg h, if_neg (fun h' => h (.inr h'))]
theorem qpj (s : qa) : ¬ qdq (yi s) := by
 unfold yi
 by_cases h : qdq s ∨ s.head? = some 46
 ·rw [if_pos h]
  intro h'
  have := h' 46 (by simp)
  revert this; decide
 ·rw [if_neg h]
  exact fun h' => h (.inl h')
theorem qn3 {s : qa} (h : 10 ∉ s) : 10 ∉ yi s := by
 unfold yi
 split
 ·simp [h]
 ·exact h
theorem qpw (s : qa) : (yi s).length ≤ s.length + 1 := by
 unfold yi
 split <;> simp
theorem qp0 (s : qa) (h : 10 ∉ s) : q9 ([32] ++ yi s) = 3 := by
 have hn := qn3 h
 have hb := qpj s
 unfold q9
 have h10 : 10 ∉ ([32] ++ yi s) := by simp [hn]
 rw [if_neg h10, if_neg (fun h' => hb fun c hc => h' c (by simp [hc])), if_neg (by simp), if_pos ⟨32, by simp, .inl rfl⟩]
theorem qhq {k r : qa} (h : 58 ∉ k) : jz (k ++ [58] ++ r) = k := by
 unfold jz
 induction k with
 | nil => simp
 | cons a k ih =>
  simp only [List.mem_cons, not_or] at h
  have : (58 : UInt8) ≠ a := h.1
  simp only [List.cons_append, List.takeWhile_cons]
  rw [if_pos (by simpa using fun e => this e.symm)]
  rw [ih h.2]
theorem qr7 {k r : qa} (h : 58 ∉ k) : ve (k ++ [58] ++ r) = r := by
 unfold ve
 rw [qhq h]
 rw [List.drop_append_of_le_length (by simp)]
 simp
theorem qhb {k : qa} (h : qaf k) : ∃ c, k.head? = some c ∧ ¬ x6 c ∧ c ≠ 35 := by
 obtain ⟨h1, h2, h3, h4, h5, h6⟩ := h
 cases k with
 | nil => exact absurd rfl h1
 | cons a r => exact ⟨a, rfl, fun hb => h3 ⟨a, rfl, hb⟩, fun e => h4 (by simp [e])⟩
theorem qqf {k p : qa} (h : qaf k) (hp : 10 ∉ p) : q9 (xf k p) = 4 := by
 obtain ⟨c, hc, hb, h35⟩ := qhb h
 have hk10 : 10 ∉ k := h.2.2.2.2.2
 have hk58 : 58 ∉ k := h.2.2.2.2.1
 have hh : (xf k p).head? = some c := by
  unfold xf
  cases k with
  | nil => simp at hc
  | cons a r => simpa using hc
 have e : xf k p = k ++ [58] ++ (if p = [] then [] else [32] ++ p) := rfl
 have h10 : 10 ∉ xf k p := by
  rw [e]
  split <;> simp [hk10, hp]
 have hmem : c ∈ xf k p := List.mem_of_head? hh
 unfold q9
 rw [if_neg h10, if_neg (fun h' => hb (h' c hmem)), if_neg (by rw [hh]; simpa using h35), if_neg (fun ⟨d, hd, hd'⟩ => by rw [hh] at hd; cases hd; exact hb hd')]
 rw [if_pos]
 refine ⟨by rw [e]; simp, ?_⟩
 rw [e, qhq hk58]
 exact h
theorem qz6 (k p : qa) (h : 58 ∉ k) : wi 32 (ve (xf k p)) = p := by
 unfold xf
 rw [qr7 h]
 by_cases hp : p = []
 ·rw [if_pos hp]; simp [wi, hp]
 ·rw [if_neg hp]; simp [wi]
theorem qqt {f : Fld} (h : wj f) : j8 (vt f) = (f, 0) := by
 obtain ⟨hk, hv⟩ := h
 have hk58 : 58 ∉ f.1 := hk.2.2.2.2.1
 have h10 := qeg f.2
 have hval : qbl (xf f.1 ((js f.2).headD [])) ((js f.2).tail.map fun s => [32] ++ yi s) = f.2 := by
  unfold qbl
  rw [qz6 _ _ hk58]
  have : ((js f.2).tail.map fun s => [32] ++ yi s).flatMap (fun s => [10] ++ wi 46 (s.drop 1)) = (js f.2).tail.flatMap (fun s => [10] ++ s) := by
   rw [List.flatMap_map]
   congr 1
   funext s
   simp [quw]
  rw [this, qi3 _ _ (Nat.le_refl _)]
 unfold j8 vt
 rw [if_pos]
 ·simp only [List.headD_cons, List.tail_cons]
  refine (if_neg (by rw [hval]; omega)).trans ?_
  have : jz (xf f.1 ((js f.2).headD [])) = f.1 := qhq hk58
  rw [this, hval]
 ·refine ⟨by simp, ?_, ?_⟩
  ·simp only [List.headD_cons]
   exact qqf hk (h10 _ (qml _))
  ·intro s hs
   simp only [List.tail_cons, List.mem_map] at hs
   obtain ⟨x, hx, rfl⟩ := hs
   exact qp0 x (h10 x (List.mem_of_mem_tail hx))
end Go.Pl
set_option linter.unusedVariables false
namespace Go.Av
open Go Go.RowKit
section
variable {E : Env} {rd : Option Nat} {N : Nat} {ops : Array Oper} {K : AS → Prop} {s : AS} {rest : List Oper} {d : Option Tmp} {T : TypeId} {p : String} {af : Array Edge}
theorem qab {t e : TypeId} {len sz : Nat} {agg : Bool} {parts : Array (Nat × Operand)} {zs cs : List AV} {st loc : List AObj} (hst : s.st = st ++ loc) (hu : E.P.underlying t = some (.slice e)) (ht : tyOf E.P e = some (sz, agg)) (hz : qee E.P e len = some zs)
  (hf : qb4 (fun i => some (i * sz, sz)) zs (xl N s parts) = some cs) (hsz : Nat.ble (len * sz) 16777216 = true)
  (h : AOps E rd N ops rest K (AS.put ⟨s.t, st ++ (loc ++ [.cells 0 e cs]), s.df⟩ d (.os (st.length + loc.length) 0 0 len len))) : AOps E rd N ops (⟨d, .buildSlice t len parts, T, p, af, none⟩ :: rest) K s := by
 refine z4 rfl (zz nofun fun B0 w0 G a w _ hI => ?_)
 obtain ⟨c', hrun, h2⟩ := qic (d := d) (T := T) (p := p) (af := af) hI hu ht hz hf hsz
 have hA := hI.agree.newCells e c' cs h2.1 h2.2
 have hn := hI.agree.n
 rw [hst] at hA hn
 simp only [List.append_assoc, List.length_append] at hA hn
 exact ⟨_, _, _, _, _, hrun, G.le_new _ _ _ _, hA, .os _ _ _ _ _ _ (by simp [Gh.new, hn]) (Nat.zero_le _) (fun _ => by simp [Gh.new, hn]), h⟩
theorem jf.ownTip {B0 : Nat} {w0 : World} {G : Gh} {st : List AObj} {w : World} (h : jf B0 w0 G st w) {o sz len cap : Nat} {T : TypeId} {cs : List AV} {xs : List AV} (ho : st[o]? = some (.cells 0 T cs)) (hc : cs.length = cap * sz) (hlen : xs.length = len) (h0 : 0 < len) (hle : len ≤ cap) (hcm : cap ≤ maxLen) (hw : ∀ x ∈ xs, x.cells.length = sz) (hfl : flat xs = cs.take (len * sz)) :
  ∃ G', G.le G' ∧ jf B0 w0 G' (st.set o (.tip len sz T)) w ∧ Rel G' (.sl sz xs (some o)) (.slice (some ⟨(G.ob o).blk, 0, none⟩) len cap) := by
 subst hlen
 have hon := lt_of_getElem? ho
 obtain ⟨g0, g1, g2, g3, c, g4, g5, g6⟩ := h.ob o _ ho
 have hle1 : G.le (G.publish (G.ob o).blk (c.toList.take (xs.length * sz))) := G.le_publish _ _ [] [] (.inl g3)
 -- dead, published
 have key : ∀ (k : Nat) (x : AObj), (st.set o .dead)[k]? = some x → x = .dead ∨ (k ≠ o ∧ st[k]? = some x) := fun k x hx => by
  rcases getElem?_set' _ _ _ _ _ hx with ⟨_, e⟩ | e
  ·exact .inl e
  ·exact .inr e
 have hA1 : jf B0 w0 (G.publish (G.ob o).blk (c.toList.take (xs.length * sz))) (st.set o .dead) w := by
  refine ⟨h.below, h.hB, by simp [h.n, Gh.publish], fun b vs hb => ?_, fun k x hx => ?_, fun k k' x x' hne hx hx' hl hl' => ?_⟩
  ·simp only [Gh.publish] at hb
   by_cases e : b = (G.ob o).blk
   ·rw [if_pos e] at hb
    cases hb
    subst e
    refine ⟨c, T, (0, 0), g4, fun i y hy => ?_⟩
    rw [List.getElem?_take] at hy
    split at hy
    ·simpa using hy
    ·simp at hy
   ·rw [if_neg e] at hb
    exact h.pub b vs hb
  ·rcases key k x hx with rfl | ⟨hk, hx⟩
   ·trivial
   ·refine (h.ob k x hx).mono hle1 rfl (fun hl => ?_) (fun _ => rfl)
    have := h.sep k o x _ hk hx ho hl trivial
    simp [Gh.publish, this]
  ·rcases key k x hx with rfl | ⟨hk, hx⟩
   ·exact hl.elim
   ·rcases key k' x' hx' with rfl | ⟨hk', hx'⟩
    ·exact hl'.elim
    ·exact h.sep k k' x x' hne hx hx' hl hl'
 have hvl : (c.toList.take (xs.length * sz)).length = xs.length * sz := by
  have : xs.length * sz ≤ cap * sz := Nat.mul_le_mul_right _ hle
  simp
  omega
 obtain ⟨hle2, hA2⟩ := hA1.setTip (t := o) (n := 0) (n' := xs.length) (k := (G.ob o).blk) (cap := c.size) (sz := sz) (T := T) (c := c) (vs := c.toList.take (xs.length * sz)) (by simp [hon]) g0 g1 h0 g4 (by simp [Gh.publish]) hvl rfl g2 (fun k x hx hl => by
  rcases key k x hx with rfl | ⟨hk, hx⟩
  ·exact hl.elim
  ·exact h.sep k o x _ hk hx ho hl trivial)
 rw [List.set_set] at hA2
 refine ⟨_, hle1.trans hle2, hA2, ?_⟩
 have hgn : o < G.n := by rw [h.n]; exact hon
 refine .sl sz xs (some o) (G.ob o).blk 0 cap (c.toList.take (xs.length * sz)) (by simp [Gh.setOb, Gh.publish]) hw (by rw [hfl, hvl]; simp; omega) (fun i x y h1 h2 => ?_) (fun t ht => ?_) (by omega)
 ·rw [hfl] at h1
  rw [Nat.zero_add] at h2
  rw [List.getElem?_take] at h1 h2
  split at h1
  ·rename_i hi
   rw [if_pos hi] at h2
   exact ((g6 i x y h1 (by simpa using h2)).mono hle1).mono hle2
  ·simp at h1
 ·simp only [Option.some.injEq] at ht
  subst ht
  refine ⟨by simpa [Gh.setOb, Gh.publish] using hgn, by omega, by simp [Gh.setOb], fun _ => ⟨by simp [Gh.setOb], rfl, by simp [Gh.setOb, ← g5, hc], hcm, by omega⟩⟩
theorem Inv.osTip {B0 : Nat} {w0 : World} {G : Gh} {a : Act} {w : World} (h : Inv B0 w0 N G s a w) {i o sz len cap : Nat} {T' : TypeId} {cs xs : List AV} (hi : s.t i = .os o 0 0 len cap) (ho : s.st[o]? = some (.cells 0 T' cs)) (hc : cs.length = cap * sz) (hlen : xs.length = len) (h0 : 0 < len) (hle : len ≤ cap) (hcm : cap ≤ maxLen) (hw : ∀ x ∈ xs, x.cells.length = sz) (hfl : flat xs = cs.take (len * sz)) :
  ∃ G', G.le G' ∧ Inv B0 w0 N G' ⟨Av.put s.t i (.sl sz xs (some o)), s.st.set o (.tip len sz T'), s.df⟩ a w := by
 obtain ⟨G', hG, hA, hR⟩ := h.agree.ownTip ho hc hlen h0 hle hcm hw hfl
 obtain ⟨_, g1, _⟩ := h.agree.ob o _ ho
 refine ⟨G', hG, hA, h.defers_mono hG, h.size, fun j y hy => ?_⟩
 have hj := h.tmps j y hy
 by_cases e : j = i
 ·subst e
  simp only [qai]
  rw [hi] at hj
  cases hj with
  | os _ _ _ _ b _ hn hv hb =>
   have hb := hb g1
   subst hb
   exact hR
 ·simp only
  rw [qcd _ _ _ _ e]
  exact hj.mono hG
theorem qkn {c : Code} {Q : Exit → AS → Prop} (i : Nat) {o sz len cap : Nat} {T' : TypeId} {cs xs : List AV} (hi : s.t i = .os o 0 0 len cap) (ho : s.st[o]? = some (.cells 0 T' cs)) (hc : cs.length = cap * sz) (hlen : xs.length = len) (h0 : 0 < len) (hle : len ≤ cap) (hcm : cap ≤ maxLen) (hw : ∀ x ∈ xs, x.cells.length = sz) (hfl : flat xs = cs.take (len * sz))
  (h : AWp E rd N c Q ⟨Av.put s.t i (.sl sz xs (some o)), s.st.set o (.tip len sz T'), s.df⟩) : AWp E rd N c Q s :=
 ⟨fun B0 w0 G a w hL hI => let ⟨G1, h1, h2⟩ := hI.osTip hi ho hc hlen h0 hle hcm hw hfl; wpIn_mono (h.run B0 w0 _ a w hL h2) fun _ _ _ ⟨G', s', hG, k1, k2⟩ => ⟨G', s', h1.trans hG, k1, k2⟩⟩
theorem qxl {l : List Oper} (i : Nat) {o sz len cap : Nat} {T' : TypeId} {cs xs : List AV} (hi : s.t i = .os o 0 0 len cap) (ho : s.st[o]? = some (.cells 0 T' cs)) (hc : cs.length = cap * sz) (hlen : xs.length = len) (h0 : 0 < len) (hle : len ≤ cap) (hcm : cap ≤ maxLen) (hw : ∀ x ∈ xs, x.cells.length = sz) (hfl : flat xs = cs.take (len * sz))
  (h : AOps E rd N ops l K ⟨Av.put s.t i (.sl sz xs (some o)), s.st.set o (.tip len sz T'), s.df⟩) : AOps E rd N ops l K s :=
 ⟨fun B0 w0 G a w hL hI Q hQ => let ⟨G1, h1, h2⟩ := hI.osTip hi ho hc hlen h0 hle hcm hw hfl; h.run B0 w0 _ a w hL h2 Q fun G' s' a' w' hG k1 k2 => hQ G' s' a' w' (h1.trans hG) k1 k2⟩
theorem qzy {l : List Oper} (i : Nat) {x r : AV} (hi : s.t i = x) (hw : ∀ G v, Rel G x v → Rel G r v) (h : AOps E rd N ops l K ⟨Av.put s.t i r, s.st, s.df⟩) : AOps E rd N ops l K s :=
 ⟨fun B0 w0 G a w hL hI Q hQ => h.run B0 w0 G a w hL ⟨hI.agree, hI.defers, hI.size, fun j y hy => by
  have hj := hI.tmps j y hy
  by_cases e : j = i
  ·subst e; simp only [qai]; rw [hi] at hj; exact hw G y hj
  ·simp only; rw [qcd _ _ _ _ e]; exact hj⟩ Q hQ⟩
theorem qn7 {P : Program} {t e : TypeId} {sz : Nat} {agg : Bool} (hu : P.underlying t = some (.slice e)) (ht : tyOf P e = some (sz, agg)) (a : Option Addr) (len cap : Nat) (lo hi : Option Value) (i j : Nat) (w : World)
  (hlo : match lo with | none => i = 0 | some v => ∃ k, v = .int k (i : Int)) (hhi : match hi with | none => j = len | some v => (∃ k, v = .int k (j : Int)) ∧ j ≤ cap) (h1 : i ≤ j) :
  (Instr.slice t (.slice a len cap) lo hi none).run P w = .ok (.slice (if cap = i then a else a.map (·.add (i * sz))) (j - i) (cap - i)) w := by
 have hs := (xz ht w).1
 cases lo with
 | none =>
  simp only at hlo
  subst hlo
  cases hi with
  | none =>
   simp only at hhi
   subst hhi
   simp [Instr.slice, run_underlying hu, Instr.sliceBounds, hs]
  | some v =>
   obtain ⟨⟨k, rfl⟩, h2⟩ := hhi
   simp [Instr.slice, run_underlying hu, Instr.sliceBounds, Instr.sliceBound, asIntOf, hs, h2]
 | some u =>
  obtain ⟨k', rfl⟩ := hlo
  cases hi with
  | none =>
   simp only at hhi
   subst hhi
   simp [Instr.slice, run_underlying hu, Instr.sliceBounds, Instr.sliceBound, asIntOf, hs, h1]
  | some v =>
   obtain ⟨⟨k, rfl⟩, h2⟩ := hhi
   simp [Instr.slice, run_underlying hu, Instr.sliceBounds, Instr.sliceBound, asIntOf, hs, h1, h2]
theorem qoq {G : Gh} {sz : Nat} {xs : List AV} {tip : Option Nat} {a : Option Addr} {len cap : Nat} (h : Rel G (.sl sz xs tip) (.slice a len cap)) {i j : Nat} (h1 : i ≤ j) (h2 : j ≤ xs.length) :
  len = xs.length ∧ len ≤ cap ∧ Rel G (.sl sz ((xs.take j).drop i) none) (.slice (if cap = i then a else a.map (·.add (i * sz))) (j - i) (cap - i)) := by
 cases h with
 | sl0 =>
  simp at h2
  subst h2
  have : i = 0 := by omega
  subst this
  refine ⟨rfl, Nat.zero_le _, ?_⟩
  simp
  exact .sl0 sz none _ _ (by simp)
 | sl _ _ _ b off cap pub hp hw hlen hr ht hcap =>
  refine ⟨rfl, hcap, ?_⟩
  have hl : ((xs.take j).drop i).length = j - i := by simp; omega
  by_cases hji : j = i
  ·subst hji
   have e : (xs.take j).drop j = [] := List.length_eq_zero_iff.1 (by rw [hl]; omega)
   rw [e, Nat.sub_self]
   exact .sl0 sz none _ _ (by simp)
  ·have hne : cap ≠ i := by omega
   rw [if_neg hne]
   simp only [Option.map_some]
   have hadd : Addr.add ⟨b, off, none⟩ (i * sz) = ⟨b, off + i * sz, none⟩ := Addr.add_lit ..
   rw [hadd, ← hl]
   have hw' : ∀ x ∈ (xs.take j).drop i, x.cells.length = sz := fun x hx => hw x (List.mem_of_mem_take (List.mem_of_mem_drop hx))
   have hfx : (flat xs).length = xs.length * sz := yz hw
   have hsplit : flat xs = flat (xs.take i) ++ flat ((xs.take j).drop i) ++ flat (xs.drop j) := by
    have e : xs.take i ++ (xs.take j).drop i = xs.take j := by
     conv => rhs; rw [← List.take_append_drop i (xs.take j), List.take_take, Nat.min_eq_left h1]
    rw [← qfa, ← qfa, e, List.take_append_drop]
   have hti : (flat (xs.take i)).length = i * sz := by
    rw [yz (fun x hx => hw x (List.mem_of_mem_take hx)), List.length_take, Nat.min_eq_left (by omega)]
   have hmid : (flat ((xs.take j).drop i)).length = (j - i) * sz := by rw [yz hw', hl]
   refine .sl sz _ none b (off + i * sz) (cap - i) pub hp hw' ?_ (fun k x y hx hy => ?_) (fun t ht => by simp at ht) (by rw [hl]; omega)
   ·have := congrArg List.length hsplit
    simp only [List.length_append] at this
    omega
   ·refine hr (i * sz + k) x y ?_ (by rw [← hy]; congr 1; omega)
    have hk := lt_of_getElem? hx
    rw [hsplit, List.append_assoc, List.getElem?_append_right (by omega), hti, Nat.add_sub_cancel_left, List.getElem?_append_left hk]
    exact hx
theorem qu1 {x : Operand} {t e : TypeId} {lo hi : Option Operand} {sz : Nat} {agg : Bool} {xs ys : List AV} {tip : Option Nat} {i j : Nat} (hx : qk N s x = .sl sz xs tip) (hu : E.P.underlying t = some (.slice e)) (ht : tyOf E.P e = some (sz, agg))
  (hlo : match lo with | none => i = 0 | some y => ∃ k, qk N s y = .v (.int k (i : Int))) (hhi : match hi with | none => j = xs.length | some y => ∃ k, qk N s y = .v (.int k (j : Int))) (h1 : i ≤ j) (h2 : j ≤ xs.length) (hy : (xs.take j).drop i = ys)
  (h : AOps E rd N ops rest K (s.put d (.sl sz ys none))) : AOps E rd N ops (⟨d, .slice t x lo hi none, T, p, af, none⟩ :: rest) K s := by
 subst hy
 refine z4 rfl (zz nofun fun B0 w0 G a w _ hI => ?_)
 have he := hI.eval_of hx
 generalize hv : a.eval x = v at he
 have hsl : ∃ b len cap, v = .slice b len cap := by cases he <;> exact ⟨_, _, _, rfl⟩
 obtain ⟨b, len, cap, rfl⟩ := hsl
 obtain ⟨hl, hlc, hr⟩ := qoq he h1 h2
 refine ⟨_, w, G, _, s.st, ?_, .refl G, hI.agree, hr, h⟩
 have hrun := qn7 hu ht b len cap (lo.map a.eval) (hi.map a.eval) i j w (by
  cases lo with
  | none => exact hlo
  | some y => obtain ⟨k, hy⟩ := hlo; exact ⟨k, hI.evalv hy⟩) (by
  cases hi with
  | none => simp only at hhi; simp only [Option.map_none]; omega
  | some y => obtain ⟨k, hy⟩ := hhi; exact ⟨⟨k, hI.evalv hy⟩, by omega⟩) h1
 generalize a.eval = ρ at hv hrun
 simp only [execOp, hv]
 simp [Instr.sliceAt, run_underlying hu, hrun]
theorem jc {x y : Operand} {t e : TypeId} {sz : Nat} {agg : Bool} {xs ys : List AV} {tip : Option Nat} {k : IntKind} {i : Nat} (hx : qk N s x = .sl sz xs tip) (hy : qk N s y = .v (.int k (i : Int))) (hu : E.P.underlying t = some (.slice e)) (ht : tyOf E.P e = some (sz, agg)) (h1 : i ≤ xs.length) (hz : xs.drop i = ys)
  (h : AOps E rd N ops rest K (s.put d (.sl sz ys none))) : AOps E rd N ops (⟨d, .slice t x (some y) none none, T, p, af, none⟩ :: rest) K s :=
 qu1 (i := i) (j := xs.length) hx hu ht ⟨k, hy⟩ rfl h1 (Nat.le_refl _) (by rw [List.take_length]; exact hz) h
end
end Go.Av
set_option linter.unusedVariables false
namespace Go.Av
open Go Go.RowKit
structure Chg (N : Nat) (s s' : AS) : Prop where
 run : ∀ (B0 : Nat) (w0 : World) (G : Gh) (a : Act) (w : World), Inv B0 w0 N G s a w → ∃ G', G.le G' ∧ Inv B0 w0 N G' s' a w
theorem Chg.trans {N : Nat} {s s' s'' : AS} (h : Chg N s s') (k : Chg N s' s'') : Chg N s s'' := ⟨fun B0 w0 G a w hI => let ⟨G1, h1, h2⟩ := h.run B0 w0 G a w hI; let ⟨G2, k1, k2⟩ := k.run B0 w0 G1 a w h2; ⟨G2, h1.trans k1, k2⟩⟩
end Go.Av
set_option linter.unusedVariables false
set_option maxRecDepth 100000
namespace Go.Proofs.YtefmcijohgpfhaaGreatDoor
open Go Go.Av Go.RowKit Go.Proofs Go.Pl
theorem qy2 (text : List UInt8) (o kb ver n : Nat) (I : Nat → List UInt8 → List AObj → Prop) (D : List AObj → Prop) (st l0 : List AObj) (ht : text.length < 4294967281) (h0 : I 0 text l0)
  (hI : ∀ k rest l, I k rest l → l.length = n ∧ (st ++ l)[kb]? = some (.cells ver 9 [Sv text]))
  (hY : ∀ k rest l own ext, I k rest l → rest ≠ [] → rest.length ≤ text.length → qam E o [qc4 k text rest] (st ++ (l ++ own :: ext)) fun b st2 => ∃ l' ext', st2 = st ++ (l' ++ own :: ext') ∧ (b = true → I (k + 1) (past 10 rest) l') ∧ (b = false → D l' ∧ l'.length = n)) :
  qt E 113 [.yd o, .bx kb ver 0] (st ++ l0) fun r st' => ∃ l own ext', st' = st ++ (l ++ own :: ext') ∧ ((∃ k, I k [] l) ∨ D l) := by
 refine qv Tryz.func113 rfl (Nat.le_of_ble_eq_true rfl) ?_
 obtain ⟨hn, hb⟩ := hI 0 text l0 h0
 repeat' (first
  | apply qj
  | apply qp
  | apply qc
  | apply qg
  | apply qb
  | (apply zj; exact rfl; exact rfl)
  | (apply za; (iterate 11 exact rfl))
  | (apply zt; (iterate 3 exact rfl))
  | (apply qcc; exact rfl; exact rfl; exact hb; exact rfl; exact rfl))
 refine xc (fun (x : Nat × List UInt8) s => match x with | (k, rest) => ∃ l at' ta eb ext, I k rest l ∧ k + rest.length ≤ text.length ∧ at' = (text.length : Int) - rest.length ∧ StA [(0, .yd o), (1, .bx kb ver 0), (3, .bx ((st ++ l0).length + 0) 0 0), (4, Sv rest)] ((st ++ l) ++ (.cells 0 129 [Iv k, Iv at', Sv ta, Bv eb] :: ext)) [] s) (fun x => x.2.length) (0, text)
  ⟨l0, 0, [], false, [], h0, by simp, by simp, ?_⟩ ?_
 ·exact x2 ⟨rfl, rfl, rfl, rfl, trivial⟩
 rintro ⟨k, rest⟩ _ ⟨l, _, ta, eb, ext, hi, hle, rfl, t, rfl⟩
 obtain ⟨hn', hb'⟩ := hI k rest l hi
 have hq : (st ++ l).length = (st ++ l0).length := by simp [hn, hn']
 repeat' (first
  | apply qj
  | apply qp
  | apply qc
  | apply qg
  | apply qh
  | apply qb
  | (apply qx; exact rfl; exact rfl)
  | (apply z0; (iterate 3 exact rfl))
  | (apply qe; exact rfl; first | (apply q5; (first | assumption | omega)) | (apply q6; (first | assumption | omega)) | (apply q7; (first | exact rfl | assumption)) | (apply q8; (first | exact rfl | assumption)) | (apply cd_n <;> intro h) | (apply cd_t; (first | exact rfl | assumption)) | (apply cd_f; (first | exact rfl | assumption)) | (apply cd_d <;> intro h) | (apply cd_s <;> intro h))
  | (apply qu; (iterate 3 exact rfl))
  | apply qs
  | apply z6
  | (apply qf; exact Tryz.call36; exact qgq _ _ _ (by omega))
  | (apply qba; exact rfl; exact hq; (iterate 10 exact rfl))
  | (apply qbq; exact rfl; exact hq; (iterate 4 exact rfl)))
 ·refine qem rfl (quz (List.append_assoc st l (_ :: ext)).symm ((hY k rest l _ ext hi h (by omega)).mono ?_))
  rintro b _ ⟨l', ext', rfl, h1, h2⟩
  cases b
  ·skip
   rw [← List.append_assoc]
   repeat' (first
    | apply qg
    | (apply z7; exact rfl)
    | (apply qe; exact rfl; first | (apply q5; (first | assumption | omega)) | (apply q6; (first | assumption | omega)) | (apply q7; (first | exact rfl | assumption)) | (apply q8; (first | exact rfl | assumption)) | (apply cd_n <;> intro h) | (apply cd_t; (first | exact rfl | assumption)) | (apply cd_f; (first | exact rfl | assumption)) | (apply cd_d <;> intro h) | (apply cd_s <;> intro h))
    | apply qq)
   refine qi rfl (qa7 rfl) ⟨l', _, ext', List.append_assoc _ _ _, .inr (h2 rfl).1⟩
  ·have hi3 := h1 rfl
   obtain ⟨hn3, hb3⟩ := hI _ _ _ hi3
   have hp := wr 10 rest
   have hr0 : 0 < rest.length := List.length_pos_iff.2 h
   have hq3 : (st ++ l').length = (st ++ l0).length := by simp [hn, hn3]
   rw [← List.append_assoc]
   repeat' (first
    | apply qj
    | apply qc
    | apply qg
    | apply qh
    | (apply z7; exact rfl)
    | (apply qe; exact rfl; first | (apply q5; (first | assumption | omega)) | (apply q6; (first | assumption | omega)) | (apply q7; (first | exact rfl | assumption)) | (apply q8; (first | exact rfl | assumption)) | (apply cd_n <;> intro h) | (apply cd_t; (first | exact rfl | assumption)) | (apply cd_f; (first | exact rfl | assumption)) | (apply cd_d <;> intro h) | (apply cd_s <;> intro h))
    | (apply z2; (iterate 3 exact rfl))
    | (apply zy; exact rfl; exact rfl; exact ql (by omega) (by omega))
    | (apply vl; exact rfl; exact rfl; exact ql (by omega) (by omega))
    | (apply qu; (iterate 3 exact rfl))
    | apply qs
    | (apply qcc; exact rfl; exact rfl; exact hb3; exact rfl; exact rfl)
    | (apply qba; exact rfl; exact hq3; (iterate 10 exact rfl))
    | (apply qbq; exact rfl; exact hq3; (iterate 4 exact rfl)))
   exact ⟨(k + 1, past 10 rest), ⟨l', _, _, _, _, hi3, by omega, rfl, x2 ⟨rfl, rfl, rfl, rfl, trivial⟩⟩, by simp only; omega⟩
 ·have hr : rest = [] := Classical.not_not.1 h
  subst hr
  exact qi rfl (qa7 rfl) ⟨l, _, ext, List.append_assoc _ _ _, .inl ⟨k, hi⟩⟩
theorem qpn {N : Nat} {Q : Exit → AS → Prop} {s : AS} {f : Operand} {p : Tmp} {asg body : Code} {st loc : List AObj} {kb ver : Nat} (text : List UInt8) (hst : s.st = st ++ loc) (hx : qk N s f = .fn (.func 113) [] [.bx (st.length + kb) ver 0]) (ht : text.length < 4294967281)
  (I : Nat → List UInt8 → List AObj → Prop) (D : Code → List AObj → Prop) (h0 : I 0 text loc)
  (hI : ∀ k rest l, I k rest l → l.length = loc.length ∧ l[kb]? = some (.cells ver 9 [Sv text])) (hD : ∀ c l, D c l → l.length = loc.length)
  (hb : ∀ F own rd k rest l ext m, qiy F N s.t #[p] asg body → I k rest l → rest ≠ [] → rest.length ≤ text.length → ((st ++ (l ++ [.dfr, F .ready none, own])) ++ ext).length = m → ((st ++ (l ++ [.dfr, F .busy none, own])) ++ ext).length = m →
   AWp E (some rd) N asg (only fun s1 => ∃ new, s1.st = ((st ++ (l ++ [.dfr, F .ready none, own])) ++ ext) ++ new ∧ s1.df = [] ∧ AWp E (some rd) N body (qzl F st own (I (k + 1) (past 10 rest)) D) ⟨s1.t, ((st ++ (l ++ [.dfr, F .busy none, own])) ++ ext) ++ new, []⟩) ⟨put s.t p (qc4 k text rest), ((st ++ (l ++ [.dfr, F .ready none, own])) ++ ext) ++ [], []⟩)
  (hn : ∀ k l ext, I k [] l → Q .normal ⟨s.t, ((st ++ (l ++ [.dfr, .dead])) ++ ext) ++ [], (st.length + loc.length) :: s.df⟩)
  (hd : ∀ c l ext, D c l → AWp E none N c Q ⟨s.t, ((st ++ (l ++ [.dfr, .dead])) ++ ext) ++ [], (st.length + loc.length) :: s.df⟩) : AWp E none N (.rangeFunc f #[p] asg body) Q s := by
 refine qiv hst hx Tryz.call113 fun F hF => ?_
 refine qt.mono (qy2 text (st.length + (loc.length + 1)) (st.length + kb) ver (loc.length + 2) (fun k rest l => ∃ l1, l = l1 ++ [.dfr, F .ready none] ∧ I k rest l1) (fun l => ∃ l1 c, l = l1 ++ [.dfr, F .done (some c)] ∧ D c l1) st (loc ++ [.dfr, F .ready none]) ht ⟨loc, rfl, h0⟩ ?_ ?_) ?_
 ·rintro k rest _ ⟨l, rfl, hi⟩
  obtain ⟨h1, h2⟩ := hI k rest l hi
  exact ⟨by simp [h1], vg (by rw [List.getElem?_append_left (lt_of_getElem? h2)]; exact h2)⟩
 ·rintro k rest _ own ext ⟨l, rfl, hi⟩ hne hle
  obtain ⟨h1, h2⟩ := hI k rest l hi
  have hy := q2g (E := E) (st := st) (l := l) (ext := ext) (own := own) (n := loc.length) (xs := [qc4 k text rest]) (I := I (k + 1) (past 10 rest)) (D := D) hF h1 rfl (fun l hl => (hI _ _ l hl).1) hD (fun rd => hb F own rd k rest l ext _ hF hi hne hle rfl (by simp))
  have e : (st ++ (l ++ [.dfr, F .ready none, own])) ++ ext = st ++ ((l ++ [.dfr, F .ready none]) ++ own :: ext) := by simp
  rw [e] at hy
  refine hy.mono ?_
  rintro b st2 ⟨l', ext', g1, g2⟩
  cases b with
  | true =>
   obtain ⟨rfl, g⟩ := g1 rfl
   exact ⟨l' ++ [.dfr, F .ready none], ext', by simp, fun _ => ⟨l', rfl, g⟩, nofun⟩
  | false =>
   obtain ⟨c, rfl, g⟩ := g2 rfl
   exact ⟨l' ++ [.dfr, F .done (some c)], ext', by simp, nofun, fun _ => ⟨⟨l', c, rfl, g⟩, by simp [hD c l' g]⟩⟩
 ·rintro r _ ⟨_, own, ext, rfl, ⟨k, l, rfl, hi⟩ | ⟨l, c, rfl, hdl⟩⟩
  ·have h1 := (hI _ _ _ hi).1
   have e : st ++ ((l ++ [.dfr, F .ready none]) ++ own :: ext) = (st ++ (l ++ [.dfr, F .ready none, own])) ++ ext := by simp
   rw [e]
   refine ⟨.ready, none, nofun, qc0 h1, ?_⟩
   rw [qdw h1]
   have := hn k l (own :: ext) hi
   simpa using this
  ·have h1 := hD _ _ hdl
   have e : st ++ ((l ++ [.dfr, F .done (some c)]) ++ own :: ext) = (st ++ (l ++ [.dfr, F .done (some c), own])) ++ ext := by simp
   rw [e]
   refine ⟨.done, some c, nofun, qc0 h1, ?_⟩
   rw [qdw h1]
   have := hd c l (own :: ext) hdl
   simpa using this
end Go.Proofs.YtefmcijohgpfhaaGreatDoor
set_option linter.unusedVariables false
set_option maxRecDepth 100000
namespace Go.Proofs.YtefmcijohgpfhaaGreatDoor
open Go Go.Av Go.RowKit Go.Proofs Go.Pl
abbrev Ss (xs : List qa) : AV := .sl 1 (xs.map fun x => Sv x) none
theorem qgm (l m : List UInt8) (st : List AObj) : qt E 96 [Sv l, Sv m] st fun r st' => r = Sv (Lib.trimPrefix l m) ∧ st' = st :=
 qac (vals := #[.string ⟨l.toArray⟩, .string ⟨m.toArray⟩]) rfl fun _ _ w _ _ => (Tryz.strings_TrimPrefix ⟨l.toArray⟩ ⟨m.toArray⟩ w).mono fun _ _ ⟨h1, h2⟩ => ⟨h1, qde h2⟩
theorem qvj (l : List UInt8) (c : UInt8) (st : List AObj) : qt E 96 [Sv l, Sv [c]] st fun r st' => r = Sv (wi c l) ∧ st' = st := by
 rw [← qpm]
 exact qgm _ _ _
theorem qxy {B0 : Nat} {w0 : World} {G : Gh} {st : List AObj} {w : World} (hA : jf B0 w0 G st w) {xs : List qa} {tip : Option Nat} {v : Value} (h : Rel G (.sl 1 (xs.map fun x => Sv x) tip) v) :
  (xs = [] ∧ ∃ a c, v = .slice a 0 c) ∨ ∃ b off cap, v = .slice (some ⟨b, off, none⟩) xs.length cap ∧ b < w.heap.size ∧ xs.length ≤ cap ∧ ∀ (j : Nat) (x : qa), xs[j]? = some x → w.cell? ⟨b, off + j, none⟩ = some (.string ⟨x.toArray⟩) := by
 generalize hq : xs.map (fun x => Sv x) = q at h
 cases h with
 | sl0 sz tip base cap ht => exact .inl ⟨by simpa using hq, base, cap, rfl⟩
 | sl _ _ _ b off cap pub hp hw hlen hr ht hcap =>
  subst hq
  obtain ⟨c, T, fz, hc, hcc⟩ := hA.pub b pub hp
  refine .inr ⟨b, off, cap, by simp, hA.pub_lt hp, by simpa using hcap, fun j x hx => ?_⟩
  have hfl : flat (xs.map fun x => Sv x) = xs.map fun x => Sv x := by
   clear hx hr hlen hw ht hcap
   induction xs with
   | nil => rfl
   | cons a xs ih => rw [List.map_cons, qd4, ih]; rfl
  have hj := lt_of_getElem? hx
  rw [hfl] at hlen
  simp only [List.length_map] at hlen
  have hy : pub[off + j]? = some (pub[off + j]'(by omega)) := List.getElem?_eq_getElem (by omega)
  have hrj := hr j (Sv x) _ (by rw [hfl, List.getElem?_map, hx]; rfl) hy
  generalize hz : pub[off + j]'(by omega) = z at hrj hy
  generalize hSx : Sv x = sx at hrj
  cases hrj <;> simp_all
  subst_vars
  simp [World.cell?, hc, hcc _ _ hy]
theorem qyk (xs : List qa) (tip : Option Nat) (sep : qa) (st : List AObj) (hN : xs.length ≤ 140737488355328) (hl : (Lib.join xs sep).length ≤ 140737488355328) : qt E 88 [.sl 1 (xs.map fun x => Sv x) tip, Sv sep] st fun r st' => r = Sv (Lib.join xs sep) ∧ st' = st := by
 refine ⟨fun B0 w0 G vs w hL hA hR => ?_⟩
 have hs : vs.size = 2 := by have := hR.1; simpa using this.symm
 have e0 : vs[0]? = some vs[0] := by simp [hs]
 have e1 : vs[1]? = some vs[1] := by simp [hs]
 have h0 := hR.2 0 _ _ rfl e0
 have h1 := hR.2 1 _ _ rfl e1
 have hv1 : vs[1] = .string ⟨sep.toArray⟩ := by generalize vs[1] = y at h1; cases h1; rfl
 have hvs : vs = #[vs[0], .string ⟨sep.toArray⟩] := by
  apply Array.ext (by simp [hs])
  intro i g1 g2
  match i with
  | 0 => rfl
  | 1 => exact hv1
  | i + 2 => simp [hs] at g1; omega
 rw [hvs]
 rcases qxy hA h0 with ⟨hx, a, c, hv⟩ | ⟨b, off, cap, hv, hb, hcap, hcell⟩
 ·rw [hv]
  subst hx
  refine (Tryz.strings_Join_none a c ⟨sep.toArray⟩ w).mono ?_
  rintro e w' ⟨rfl, rfl⟩
  exact ⟨_, G, Sv [], st, rfl, .refl G, hA, .v _, rfl, rfl⟩
 ·rw [hv]
  have hm : (xs.map fun l : qa => (⟨l.toArray⟩ : ByteArray)).map (·.data.toList) = xs := by simp [List.map_map, Function.comp_def]
  have hc := Tryz.strings_Join b off cap (xs.map fun l => ⟨l.toArray⟩) ⟨sep.toArray⟩ w (fun j x hx => by
   rw [List.getElem?_map] at hx
   cases hq : xs[j]? with
   | none => rw [hq] at hx; simp at hx
   | some y => rw [hq] at hx; simp at hx; subst hx; exact hcell j y hq) hb (by simpa using hN) (by simpa using hcap) (by rw [hm]; simpa using hl)
  rw [hm] at hc
  simp only [List.length_map] at hc
  refine hc.mono ?_
  rintro e w' ⟨rfl, hbw⟩
  exact ⟨_, G, Sv _, st, rfl, .refl G, hA.fresh hbw, .v _, rfl, rfl⟩
def Weak (x r : AV) : Prop := ∀ (G : Gh) (v : Value), Rel G x v → Rel G r v
theorem qbb (x : AV) : Weak x x := fun _ _ h => h
theorem qeh (sz : Nat) (xs : List AV) (tip : Option Nat) : Weak (.sl sz xs tip) (.sl sz xs none) := fun _ _ h => qhh h
theorem qed (sz : Nat) : Weak j9 (.sl sz [] none) := fun _ _ h => qcu h
theorem qds {x y x' y' : AV} (h1 : Weak x x') (h2 : Weak y y') : Weak (.tu [x, y]) (.tu [x', y']) := fun G v h => by
 cases h with
 | tu _ vs hl hr =>
  refine .tu _ vs hl fun i a b ha hb => ?_
  match i with
  | 0 => simp at ha; subst ha; exact h1 G b (hr 0 x b rfl hb)
  | 1 => simp at ha; subst ha; exact h2 G b (hr 1 y b rfl hb)
  | i + 2 => simp at ha
theorem q35 {xs ys : List AV} (hl : xs.length = ys.length) (h : ∀ (i : Nat) (x y : AV), xs[i]? = some x → ys[i]? = some y → Weak x y) : Weak (.ag xs) (.ag ys) := fun G v hr => by
 cases hr with
 | ag _ vs hl' hr =>
  refine .ag _ vs (by omega) fun i a b ha hb => ?_
  have hi := lt_of_getElem? ha
  exact h i _ a (List.getElem?_eq_getElem (by omega)) ha G b (hr i _ b (List.getElem?_eq_getElem (by omega)) hb)
theorem qw0 {fn : Func} {s : AS} {t u : Tmp} {x y x' y' : AV} (hr : fn.results = #[.tmp t, .tmp u]) (hx : qk fn.ntmps s (.tmp t) = x) (hy : qk fn.ntmps s (.tmp u) = y) (h1 : Weak x x') (h2 : Weak y y') : ARes E fn s (.tu [x', y']) :=
 yw (yj hr) (by rw [hx, hy]; exact qds h1 h2)
theorem qoi {fn : Func} {s : AS} {t : Tmp} {x x' : AV} (hr : fn.results = #[.tmp t]) (hx : qk fn.ntmps s (.tmp t) = x) (h1 : Weak x x') : ARes E fn s x' :=
 yw (zf hr) (by rw [hx]; exact h1)
def errN (n : Int) : AV := if n = 0 then .v .nilIface else .ifc 31 (Iv n)
theorem qg5 (n : Int) : Pure (errN n) := by
 unfold errN
 split
 ·exact zi _
 ·exact qb9 (zi _)
theorem qh7 {n : Int} (h : n ≠ 0) : errN n = .ifc 31 (Iv n) := if_neg h
end Go.Proofs.YtefmcijohgpfhaaGreatDoor
set_option maxRecDepth 100000
set_option linter.unusedVariables false
namespace Go.Proofs.YtefmcijohgpfhaaGreatDoor
open Go Go.Av Go.RowKit Go.Proofs Go.Pl
theorem qlu (f : FldV) (st : List AObj) (hl : f.1.length < 4294967281) : qt E 124 [fldA f] st fun r st' => r = errN (xd f) ∧ st' = st := by
 refine zg (qg5 _) (qv Tryz.func124 rfl (Nat.le_of_ble_eq_true rfl) ?_)
 repeat' (first
  | apply qj
  | apply qp
  | apply qc
  | apply qg
  | apply qb
  | (apply qm; (iterate 3 exact rfl))
  | (apply z7; exact rfl)
  | (apply qe; exact rfl; first | (apply q5; (first | assumption | omega)) | (apply q6; (first | assumption | omega)) | (apply q7; (first | exact rfl | assumption)) | (apply q8; (first | exact rfl | assumption)) | (apply cd_n <;> intro h) | (apply cd_t; (first | exact rfl | assumption)) | (apply cd_f; (first | exact rfl | assumption)) | (apply cd_d <;> intro h) | (apply cd_s <;> intro h))
  | (apply z2; (iterate 3 exact rfl))
  | (apply qy; exact rfl; exact rfl)
  | (apply j4; (iterate 4 exact rfl))
  | (apply qu; (iterate 3 exact rfl))
  | (apply ze; (iterate 5 exact rfl))
  | apply qs
  | apply qq
  | (apply qf; exact Tryz.call159; exact q23 _ _ hl))
 all_goals refine qi rfl (zf rfl) ⟨(?_ : _ = _), _, rfl⟩
 ·have e : xd f = 5 := if_pos (by simp_all)
  rw [e]; rfl
 ·have e : xd f = 6 := (if_neg (by simp_all)).trans (if_pos (by omega))
  rw [e]; rfl
 ·have e : xd f = 0 := (if_neg (by simp_all)).trans (if_neg (by omega))
  rw [e]; rfl
theorem qgu (f : FldV) (st : List AObj) (hl : f.1.length < 4294967281) (h : xd f = 0) : qt E 124 [fldA f] st fun r st' => r = .v .nilIface ∧ st' = st := by
 have := qlu f st hl
 rw [h] at this
 exact this
theorem qgk (f : FldV) (st : List AObj) (hl : f.1.length < 4294967281) (h : xd f ≠ 0) : qt E 124 [fldA f] st fun r st' => r = .ifc 31 (Iv (xd f)) ∧ st' = st := by
 have := qlu f st hl
 rw [qh7 h] at this
 exact this
theorem q0x (s : List UInt8) (st : List AObj) (hl : s.length < 4294967281) : qt E 126 [Sv s] st fun r st' => r = Sv (yi s) ∧ st' = st := by
 refine zg (zi _) (qv Tryz.func126 rfl (Nat.le_of_ble_eq_true rfl) ?_)
 have hb : Lib.trimS s [32, 9] = [] ↔ qdq s := by rw [qkf]; simp [x6, qdq]
 repeat' (first
  | apply qj
  | apply qc
  | apply qg
  | apply qh
  | apply qb
  | (apply z0; (iterate 3 exact rfl))
  | (apply qo; (iterate 4 exact rfl))
  | (apply jv; (first | assumption | omega))
  | (apply jt; (first | assumption | omega))
  | (apply je <;> intro h)
  | (apply qr; exact rfl; first | (apply jn; (first | assumption | omega)) | (apply jq; (first | assumption | omega)) | (apply jo; (first | exact rfl | assumption)) | (apply jr; (first | exact rfl | assumption)) | (apply pk_t; (first | exact rfl | assumption)) | (apply pk_f; (first | exact rfl | assumption)))
  | (apply qe; exact rfl; first | (apply q5; (first | assumption | omega)) | (apply q6; (first | assumption | omega)) | (apply q7; (first | exact rfl | assumption)) | (apply q8; (first | exact rfl | assumption)) | (apply cd_n <;> intro h) | (apply cd_t; (first | exact rfl | assumption)) | (apply cd_f; (first | exact rfl | assumption)) | (apply cd_d <;> intro h) | (apply cd_s <;> intro h))
  | (apply zq; exact rfl; exact rfl; (first | omega | (simp only [List.length_append, List.length_cons, List.length_nil]; omega) | (simp; omega)))
  | apply qs
  | apply qq
  | (apply qf; exact Tryz.call161; exact qpf _ _ _ (by omega) rfl rfl)
  | (apply qf; exact Tryz.call73; exact qel _ _ _))
 all_goals refine qi rfl (zf rfl) ⟨congrArg (fun l : qa => Sv l) (?_ : _ = yi s), _, rfl⟩
 all_goals unfold yi
 all_goals simp_all
theorem qov (xs : List qa) : Pure (Ss xs) := q0r xs
theorem qx5 (l p : qa) (r : List qa) (st : List AObj) (hl : l.length < 4294967281) (h : js l = p :: r) : qt E 125 [Sv l, Sv [10]] st fun x st' => x = .sl 1 (Sv p :: r.map fun x => Sv x) none ∧ st' = st := by
 have := qy0 l st hl
 rw [h] at this
 exact this
def qgn (f : FldV) : AV := .tu [Ss (if xd f = 0 then vt f else []), errN (xd f)]
theorem qux (f : FldV) : Pure (qgn f) := qd7 fun x hx => by
 simp only [List.mem_cons, List.not_mem_nil, or_false] at hx
 rcases hx with rfl | rfl
 ·exact qov _
 ·exact qg5 _
set_option maxHeartbeats 2000000 in
theorem qlm (f : FldV) (st : List AObj) (hl : f.1.length < 4294967281) (hv : f.2.length < 1000000) : qt E 85 [fldA f] st fun r st' => r = qgn f ∧ st' = st := by
 refine zg (qux _) (qv Tryz.func85 rfl (Nat.le_of_ble_eq_true rfl) ?_)
 by_cases hc : xd f = 0
 ·obtain ⟨p, r, hp⟩ : ∃ p r, js f.2 = p :: r := ⟨_, _, qos f.2⟩
  have hpl : p.length ≤ f.2.length := qlo f.2 p (by rw [hp]; simp)
  have hrl : ∀ x ∈ r, x.length ≤ f.2.length := fun x hx => qlo f.2 x (by rw [hp]; simp [hx])
  have hrn : r.length ≤ f.2.length := by have := qfr _ f.2 (Nat.le_refl _); rw [hp] at this; simpa using this
  repeat' (first
   | (apply qab; (iterate 6 exact rfl))
   | (apply qzb; (iterate 5 exact rfl); kernel_rfl)
   | apply qj
   | apply qp
   | apply qc
   | apply qg
   | apply qh
   | apply qb
   | (apply z0; (iterate 3 exact rfl))
   | (apply qe; exact rfl; first | (apply q5; (first | assumption | omega)) | (apply q6; (first | assumption | omega)) | (apply q7; (first | exact rfl | assumption)) | (apply q8; (first | exact rfl | assumption)) | (apply cd_n <;> intro h) | (apply cd_t; (first | exact rfl | assumption)) | (apply cd_f; (first | exact rfl | assumption)) | (apply cd_d <;> intro h) | (apply cd_s <;> intro h))
   | (apply zk; (iterate 4 exact rfl))
   | (apply zq; exact rfl; exact rfl; (first | omega | (simp only [List.length_append, List.length_cons, List.length_nil]; omega) | (simp; omega)))
   | (apply zl; exact rfl; exact rfl)
   | (apply j4; (iterate 4 exact rfl))
   | (apply qu; (iterate 3 exact rfl))
   | (apply zc; (iterate 3 exact rfl))
   | (apply ze; (iterate 5 exact rfl))
   | (apply za; (iterate 11 exact rfl))
   | (apply jc; (iterate 4 exact rfl); (first | assumption | omega | exact Nat.succ_le_succ (Nat.zero_le _) | (simp; omega)); exact rfl)
   | apply w7
   | (apply vp; exact rfl; exact rfl; (first | omega | (simp only [List.length_append, List.length_cons, List.length_nil]; omega) | (simp; omega)))
   | (apply kp; (iterate 3 exact rfl))
   | (apply j7; (iterate 5 exact rfl))
   | apply wg
   | apply qs
   | (apply qf; exact Tryz.call124; exact qgu _ _ hl hc)
   | (apply qf; exact Tryz.call125; exact qx5 _ _ _ _ (by omega) hp)
   | (apply q4 (n := 0); (iterate 6 exact rfl))
   | (apply qsk (n := 0); (iterate 6 exact rfl))
   | (apply qnk (n := 0); (iterate 5 exact rfl); omega))
  all_goals refine qkn 6 (o := st.length + 1) (sz := 1) (len := 1) (cap := 1) (xs := [Sv (xf f.1 p)]) (T' := 9) rfl (vg rfl) rfl rfl (by omega) (Nat.le_refl _) (by decide) (by simp [AV.cells]) ?_ ?_
  ·exact congrArg (fun l : qa => [Sv l]) (by unfold xf; rw [if_neg h] : xf f.1 p = f.1 ++ [58] ++ ([32] ++ p))
  rotate_left
  ·exact congrArg (fun l : qa => [Sv l]) (by unfold xf; rw [if_pos (Classical.not_not.1 h), List.append_nil] : xf f.1 p = f.1 ++ [58])
  all_goals
   have hre : qgn f = .tu [Ss (xf f.1 p :: r.map fun s => [32] ++ yi s), .v .nilIface] := by
    unfold qgn vt
    rw [if_pos hc, hc, hp]
    rfl
   rw [hre]
   have hst : ∀ s, (yi s).length ≤ s.length + 1 := qpw
   refine qap r (fun pre s => StE [(6, .sl 1 (Sv (xf f.1 p) :: pre.map (fun s => Sv ([32] ++ yi s))) (some (st.length + 1))), (35, .sl 1 (r.map fun x => Sv x) none), (36, Iv r.length), (37, Iv pre.length)] st [.cells 0 69 [Sv f.1, Sv f.2], .tip (pre.length + 1) 1 9] s) (qci ⟨rfl, rfl, congrArg (fun n : Nat => Iv (n : Int)) (List.length_map ..), rfl, trivial⟩ (yf st _ 1 _)) ?_ ?_
   ·rintro _ ⟨t, ext, rfl⟩
    repeat' (first
     | apply qj
     | apply qc
     | apply qg
     | apply qh
     | apply qb
     | (apply qm; (iterate 3 exact rfl))
     | (apply qe; exact rfl; first | (apply q5; (first | assumption | omega)) | (apply q6; (first | assumption | omega)) | (apply q7; (first | exact rfl | assumption)) | (apply q8; (first | exact rfl | assumption)) | (apply cd_n <;> intro h) | (apply cd_t; (first | exact rfl | assumption)) | (apply cd_f; (first | exact rfl | assumption)) | (apply cd_d <;> intro h) | (apply cd_s <;> intro h))
     | apply z6
     | apply qq)
    refine qi rfl (qw0 rfl rfl rfl (qeh _ _ _) (qbb _)) ⟨?_, xh _ _ _ _⟩
    simp only [Ss, List.map_cons, List.map_map]
    rfl
   ·rintro pre a rest _ hr ⟨t, ext, rfl⟩
    have hlen : r.length = pre.length + (rest.length + 1) := by rw [hr]; simp
    have hget : (r.map fun x => Sv x)[pre.length]? = some (Sv a) := by rw [hr]; simp
    have ha : a.length ≤ f.2.length := hrl a (by rw [hr]; simp)
    have hsa := hst a
    repeat' (first
     | apply qj
     | apply qp
     | apply qc
     | apply qg
     | apply qh
     | apply qb
     | (apply qm; (iterate 3 exact rfl))
     | (apply qe; exact rfl; first | (apply q5; (first | assumption | omega)) | (apply q6; (first | assumption | omega)) | (apply q7; (first | exact rfl | assumption)) | (apply q8; (first | exact rfl | assumption)) | (apply cd_n <;> intro h) | (apply cd_t; (first | exact rfl | assumption)) | (apply cd_f; (first | exact rfl | assumption)) | (apply cd_d <;> intro h) | (apply cd_s <;> intro h))
     | (apply zq; exact rfl; exact rfl; (first | omega | (simp only [List.length_append, List.length_cons, List.length_nil]; omega) | (simp; omega)))
     | (apply zy; exact rfl; exact rfl; exact ql (by omega) (by omega))
     | (apply zc; (iterate 3 exact rfl))
     | (apply zr; (iterate 9 exact rfl))
     | apply qs
     | (apply qf; exact Tryz.call126; exact q0x _ _ (by omega))
     | (apply q4 (n := pre.length); (iterate 5 exact rfl); exact hget)
     | (apply qbf (n := pre.length + 1) (m := 1) (sz := 1) (bytes := 16); (iterate 4 exact rfl); simp; exact rfl; exact rfl; exact ⟨⟨_, _, rfl, rfl, rfl, rfl, rfl⟩⟩; exact rfl; exact rfl; (unfold maxLen; omega); omega; exact rfl))
    refine qal ⟨?_, rfl, rfl, ?_, trivial⟩ ?_
    ·exact qso _ (fun s => Sv ([32] ++ yi s)) pre a _ rfl
    ·exact qd6 pre a
    ·rw [qcq pre a]; rfl
 ·skip
  repeat' (first
   | apply qj
   | apply qc
   | apply qg
   | apply qh
   | apply qb
   | (apply qe; exact rfl; first | (apply q5; (first | assumption | omega)) | (apply q6; (first | assumption | omega)) | (apply q7; (first | exact rfl | assumption)) | (apply q8; (first | exact rfl | assumption)) | (apply cd_n <;> intro h) | (apply cd_t; (first | exact rfl | assumption)) | (apply cd_f; (first | exact rfl | assumption)) | (apply cd_d <;> intro h) | (apply cd_s <;> intro h))
   | (apply zo; exact rfl; exact rfl)
   | (apply j4; (iterate 4 exact rfl))
   | (apply ze; (iterate 5 exact rfl))
   | apply qq
   | (apply qf; exact Tryz.call124; exact qgk _ _ hl hc))
  refine qi rfl (yw (r' := .tu [Ss [], .ifc 31 (Iv (xd f))]) (yj rfl) (qds (qed _) (qbb _))) ⟨?_, _, rfl⟩
  unfold qgn
  rw [if_neg hc, qh7 hc]
end Go.Proofs.YtefmcijohgpfhaaGreatDoor
set_option linter.unusedVariables false
set_option maxRecDepth 100000
namespace Go.Proofs.YtefmcijohgpfhaaGreatDoor
open Go Go.Av Go.RowKit Go.Proofs Go.Pl
theorem qhu {rd : Option Nat} {N : Nat} {ops : Array Oper} {K : AS → Prop} {s : AS} {rest : List Oper} {d : Option Tmp} {T : TypeId} {p : String} {af : Array Edge} {st loc : List AObj} (hst : s.st = st ++ loc)
  (h : AOps E rd N ops rest K (AS.put ⟨s.t, st ++ (loc ++ [bldO 0 (.v (.pointer none)) [] (st.length + (loc.length + 1)), .tip 0 1 5]), s.df⟩ d (.bx (st.length + loc.length) 0 0))) : AOps E rd N ops (⟨d, .alloc 93, T, p, af, none⟩ :: rest) K s := by
 refine zj hst rfl ?_
 have e : ∀ (t : Nat → AV) (st' : List AObj) (df : List Nat) (x : AV), (AS.put ⟨t, st', df⟩ d x).st = st' := fun t st' df x => by cases d <;> rfl
 have e2 : ∀ (t : Nat → AV) (st' st2 : List AObj) (df : List Nat) (x : AV), (⟨(AS.put ⟨t, st', df⟩ d x).t, st2, (AS.put ⟨t, st', df⟩ d x).df⟩ : AS) = AS.put ⟨t, st2, df⟩ d x := fun t st' st2 df x => by cases d <;> rfl
 refine qrg (o := st.length + loc.length) (j := 1) (sz := 1) (T' := 5) (T1 := 93) (ver := 0) (cs := [.v (.pointer none), j9]) ?_ rfl ?_
 ·rw [e, ← List.append_assoc, List.getElem?_append_right (by simp)]
  simp
  rfl
 ·rw [e, e2]
  have hx : (st ++ (loc ++ [AObj.cells 0 93 [.v (.pointer none), j9]])).set (st.length + loc.length) (.cells 0 93 ([AV.v (.pointer none), j9].set 1 (.sl 1 [] (some (st ++ (loc ++ [AObj.cells 0 93 [.v (.pointer none), j9]])).length)))) ++ [AObj.tip 0 1 5]
    = st ++ (loc ++ [bldO 0 (.v (.pointer none)) [] (st.length + (loc.length + 1)), .tip 0 1 5]) := by
   rw [yf, List.append_assoc, List.set_append_right _ _ (Nat.le_refl _)]
   simp
  have h' := h
  rw [← hx] at h'
  exact h'
theorem qix (st loc ext new loc' : List AObj) (k kt ver : Nat) (q : AV) (l m : List UInt8) (hk : loc[k]? = some (bldO ver q l (st.length + kt))) (hkt : loc[kt]? = some (.tip l.length 1 5)) (hq : q = .v (.pointer none) ∨ q = .bx (st.length + k) ver 0)
  (hlen : l.length + m.length ≤ 140737488355328) (hl : loc' = (loc.set k (bldO ver (.bx (st.length + k) ver 0) (l ++ m) (st.length + kt))).set kt (.tip (l ++ m).length 1 5)) :
  qt E 47 [.bx (st.length + k) ver 0, Sv m] (((st ++ loc) ++ ext) ++ new) fun r st' => r = .tu [Iv m.length, .v .nilIface] ∧ st' = ((st ++ loc') ++ ext) ++ new := by
 refine (qs0 (st.length + k) ver (st.length + kt) q l m _ (qch hk) (qch hkt) hq hlen).mono fun r st' ⟨h1, h2⟩ => ⟨h1, ?_⟩
 have hk1 := lt_of_getElem? hk
 have hk2 := lt_of_getElem? hkt
 rw [h2, qgb _ hk1, qgb _ (by simpa using hk2), hl, List.length_append]
theorem qho (st loc ext new loc' : List AObj) (k kt ver : Nat) (q : AV) (l : List UInt8) (hk : loc[k]? = some (bldO ver q l (st.length + kt))) (hkt : loc[kt]? = some (.tip l.length 1 5)) (hl : loc' = loc.set kt .dead) :
  qt E 50 [.bx (st.length + k) ver 0] (((st ++ loc) ++ ext) ++ new) fun r st' => r = Sv l ∧ st' = ((st ++ loc') ++ ext) ++ new := by
 refine (qp8 (st.length + k) ver (st.length + kt) q l _ (qch hk) (qch hkt)).mono fun r st' ⟨h1, h2⟩ => ⟨h1, ?_⟩
 rw [h2, qgb _ (lt_of_getElem? hkt), hl]
end Go.Proofs.YtefmcijohgpfhaaGreatDoor
set_option maxRecDepth 100000
set_option linter.unusedVariables false
namespace Go.Proofs.YtefmcijohgpfhaaGreatDoor
open Go Go.Av Go.RowKit Go.Proofs Go.Pl
theorem qsh : ∀ (r : List qa), (jp (r.map fun s => [32] ++ yi s)).length ≤ 3 * (r.flatMap fun s => [10] ++ s).length
 | [] => by simp [jp]
 | a :: r => by
  have ih := qsh r
  have := qpw a
  simp only [jp, List.map_cons, List.flatMap_cons, List.length_append, List.length_cons, List.length_nil] at ih ⊢
  omega
theorem qdx (a b : List qa) : jp (a ++ b) = jp a ++ jp b := by simp [jp]
theorem qjy (s : qa) : jp [s] = s ++ [10] := by simp [jp]
theorem ql4 : ∀ (l : List qa), l.length ≤ (jp l).length
 | [] => by simp
 | a :: r => by
  have ih := ql4 r
  simp only [jp, List.flatMap_cons, List.length_append, List.length_cons, List.length_nil] at ih ⊢
  omega
theorem qzt (a b : List Fld) : xq (a ++ b) = xq a ++ xq b := by simp [xq]
theorem qzk (f : Fld) : xq [f] = jp (vt f) := by simp [xq]
theorem qnh {f : Fld} (h : wj f) : (jp (vt f)).length ≤ 5000 := by
 obtain ⟨hk, hv⟩ := h
 have h1 := qsh (js f.2).tail
 have h2 := congrArg List.length (qi3 _ f.2 (Nat.le_refl _))
 have h3 : (xf f.1 ((js f.2).headD [])).length ≤ 32 + 2 + ((js f.2).headD []).length := by
  have := hk.2.1
  unfold xf
  split <;> simp <;> omega
 have e : vt f = [xf f.1 ((js f.2).headD [])] ++ (js f.2).tail.map fun s => [32] ++ yi s := rfl
 rw [e, qdx, qjy]
 simp only [List.length_append, List.length_cons, List.length_nil] at h2 ⊢
 omega
theorem qg0 : ∀ (xs : List Fld), (∀ f ∈ xs, wj f) → (xq xs).length ≤ 5000 * xs.length
 | [], _ => by simp [xq]
 | f :: r, h => by
  have ih := qg0 r fun x hx => h x (by simp [hx])
  have h1 := qnh (h f (by simp))
  have e : xq (f :: r) = jp (vt f) ++ xq r := by simp [xq]
  rw [e, List.length_append, List.length_cons]
  omega
def errF : List Fld → Int
 | [] => 0
 | f :: r => if xd f ≠ 0 then xd f else errF r
theorem qj2 : ∀ (xs : List Fld), errF xs = 0 ↔ ∀ f ∈ xs, wj f
 | [] => by simp [errF]
 | f :: r => by
  have ih := qj2 r
  unfold errF
  by_cases h : xd f ≠ 0
  ·rw [if_pos h]
   have hg : ¬ wj f := fun hg => h ((qcg f).2 hg)
   simp [h, hg]
  ·have hg := (qcg f).1 (Classical.not_not.1 h)
   rw [if_neg h, ih]
   simp [hg]
theorem qvt : ∀ {pre : List Fld} {f : Fld} {r : List Fld}, (∀ x ∈ pre, wj x) → xd f ≠ 0 → errF (pre ++ f :: r) = xd f
 | [], f, r, _, h => by simp [errF, h]
 | x :: pre, f, r, hp, h => by
  have := (qcg x).2 (hp x (by simp))
  simp only [List.cons_append, errF, this]
  rw [if_neg (by simp)]
  exact qvt (fun y hy => hp y (by simp [hy])) h
theorem qs9 (f : FldV) (st : List AObj) (hl : f.1.length < 4294967281) (hv : f.2.length < 1000000) (h : xd f = 0) : qt E 85 [fldA f] st fun r st' => r = .tu [Ss (vt f), .v .nilIface] ∧ st' = st := by
 have := qlm f st hl hv
 unfold qgn at this
 rw [if_pos h, h] at this
 exact this
theorem qs7 (f : FldV) (st : List AObj) (hl : f.1.length < 4294967281) (hv : f.2.length < 1000000) (h : xd f ≠ 0) : qt E 85 [fldA f] st fun r st' => r = .tu [Ss [], .ifc 31 (Iv (xd f))] ∧ st' = st := by
 have := qlm f st hl hv
 unfold qgn at this
 rw [if_neg h, qh7 h] at this
 exact this
def qnx (xs : List Fld) : AV := .tu [Sv (if errF xs = 0 then xq xs else []), errN (errF xs)]
theorem qxa (xs : List Fld) : Pure (qnx xs) := qd7 fun x hx => by
 simp only [List.mem_cons, List.not_mem_nil, or_false] at hx
 rcases hx with rfl | rfl
 ·exact zi _
 ·exact qg5 _
structure q20 (xs : List FldV) : Prop where
 len : xs.length < 1000000
 val : ∀ f ∈ xs, f.1.length < 4294967281 ∧ f.2.length < 1000000
set_option maxHeartbeats 2000000 in
theorem q5m (xs : List FldV) (st : List AObj) (hx : q20 xs) : qt E 46 [qa1 xs] st fun r st' => r = qnx xs ∧ st' = st := by
 refine zg (qxa _) (qv Tryz.func46 rfl (Nat.le_of_ble_eq_true rfl) ?_)
 have hxl := hx.len
 repeat' (first
  | (apply qhu; exact rfl)
  | apply qj
  | apply qp
  | apply qc
  | apply qg
  | apply qh
  | apply qb
  | (apply zk; (iterate 4 exact rfl)))
 refine qap xs (fun pre s => (∀ f ∈ pre, wj f) ∧ ∃ q, (q = .v (.pointer none) ∨ q = .bx (st.length + 0) 0 0) ∧ StE [(4, .bx (st.length + 0) 0 0), (11, qa1 xs), (12, Iv xs.length), (13, Iv pre.length)] st [bldO 0 q (xq pre) (st.length + 1), .tip (xq pre).length 1 5] s) ⟨by simp, _, .inl rfl, qci ⟨rfl, rfl, congrArg (fun n : Nat => Iv (n : Int)) (List.length_map ..), rfl, trivial⟩ rfl⟩ ?_ ?_
 ·rintro _ ⟨hg, q, hq, t, ext, rfl⟩
  repeat' (first
   | apply qj
   | apply qc
   | apply qg
   | apply qb
   | (apply qm; (iterate 3 exact rfl))
   | (apply qe; exact rfl; first | (apply q5; (first | assumption | omega)) | (apply q6; (first | assumption | omega)) | (apply q7; (first | exact rfl | assumption)) | (apply q8; (first | exact rfl | assumption)) | (apply cd_n <;> intro h) | (apply cd_t; (first | exact rfl | assumption)) | (apply cd_f; (first | exact rfl | assumption)) | (apply cd_d <;> intro h) | (apply cd_s <;> intro h))
   | apply z6
   | apply qq
   | (refine qf Tryz.call50 (qho st _ _ _ _ 0 1 0 _ _ rfl rfl rfl) ?_))
  refine qi rfl (yj rfl) ⟨?_, xh _ _ _ _⟩
  unfold qnx
  have h0 := (qj2 xs).2 hg
  rw [if_pos h0, h0]
  rfl
 ·rintro pre f rest _ hr ⟨hg, q, hq, t, ext, rfl⟩
  have hlen : xs.length = pre.length + (rest.length + 1) := by rw [hr]; simp
  have hget : (xs.map fldA)[pre.length]? = some (fldA f) := by rw [hr]; simp
  obtain ⟨hf1, hf2⟩ := hx.val f (by rw [hr]; simp)
  by_cases hc : xd f = 0
  ·have hgf := (qcg f).1 hc
   have hb1 := qg0 pre hg
   have hb2 := qnh hgf
   repeat' (first
    | apply qj
    | apply qp
    | apply qc
    | apply qg
    | apply qh
    | apply qb
    | (apply qx; exact rfl; exact rfl)
    | (apply qm; (iterate 3 exact rfl))
    | (apply qe; exact rfl; first | (apply q5; (first | assumption | omega)) | (apply q6; (first | assumption | omega)) | (apply q7; (first | exact rfl | assumption)) | (apply q8; (first | exact rfl | assumption)) | (apply cd_n <;> intro h) | (apply cd_t; (first | exact rfl | assumption)) | (apply cd_f; (first | exact rfl | assumption)) | (apply cd_d <;> intro h) | (apply cd_s <;> intro h))
    | (apply zk; (iterate 4 exact rfl))
    | (apply zl; exact rfl; exact rfl)
    | (apply zj; exact rfl; exact rfl)
    | (apply zc; (iterate 3 exact rfl))
    | (apply ze; (iterate 5 exact rfl))
    | (apply za; (iterate 11 exact rfl))
    | apply qs
    | (apply qf; exact Tryz.call85; exact qs9 _ _ hf1 hf2 hc)
    | (apply q4 (n := pre.length); (iterate 5 exact rfl); exact hget))
   refine qap (vt f) (fun lp s => ∃ q, (q = .v (.pointer none) ∨ q = .bx (st.length + 0) 0 0) ∧ StE [(4, .bx (st.length + 0) 0 0), (11, qa1 xs), (12, Iv xs.length), (13, Iv pre.length), (25, Ss (vt f)), (26, Iv (vt f).length), (27, Iv lp.length)] st [bldO 0 q (xq pre ++ jp lp) (st.length + 1), .tip (xq pre ++ jp lp).length 1 5] s) ⟨_, hq, qal ⟨rfl, rfl, rfl, rfl, rfl, congrArg (fun n : Nat => Iv (n : Int)) (List.length_map ..), rfl, trivial⟩ (by simp [jp])⟩ ?_ ?_
   ·rintro _ ⟨q, hq, t, ext, rfl⟩
    repeat' (first
     | apply qj
     | apply qc
     | apply qg
     | apply qh
     | (apply qm; (iterate 3 exact rfl))
     | (apply qe; exact rfl; first | (apply q5; (first | assumption | omega)) | (apply q6; (first | assumption | omega)) | (apply q7; (first | exact rfl | assumption)) | (apply q8; (first | exact rfl | assumption)) | (apply cd_n <;> intro h) | (apply cd_t; (first | exact rfl | assumption)) | (apply cd_f; (first | exact rfl | assumption)) | (apply cd_d <;> intro h) | (apply cd_s <;> intro h))
     | (apply zy; exact rfl; exact rfl; exact ql (by omega) (by omega))
     | apply z6)
    refine ⟨fun x hx => ?_, q, hq, qal ⟨rfl, rfl, rfl, ?_, trivial⟩ ?_⟩
    ·rcases List.mem_append.1 hx with hx | hx
     ·exact hg x hx
     ·simp at hx; subst hx; exact hgf
    ·rw [qcq pre f]; rfl
    ·rw [qzt, qzk]
   ·rintro lp a lr _ hlr ⟨q, hq, t, ext, rfl⟩
    have hlen2 : (vt f).length = lp.length + (lr.length + 1) := by rw [hlr]; simp
    have hget2 : ((vt f).map fun x => Sv x)[lp.length]? = some (Sv a) := by rw [hlr]; simp
    have hb3 : (jp lp).length + (a.length + 1) ≤ 5000 := by
     rw [hlr, qdx] at hb2
     have : a :: lr = [a] ++ lr := rfl
     rw [this, qdx, qjy] at hb2
     simp only [List.length_append, List.length_cons, List.length_nil] at hb2
     omega
    have hct := ql4 lp
    repeat' (first
     | apply qj
     | apply qp
     | apply qc
     | apply qg
     | apply qh
     | apply qb
     | (apply qm; (iterate 3 exact rfl))
     | (apply qe; exact rfl; first | (apply q5; (first | assumption | omega)) | (apply q6; (first | assumption | omega)) | (apply q7; (first | exact rfl | assumption)) | (apply q8; (first | exact rfl | assumption)) | (apply cd_n <;> intro h) | (apply cd_t; (first | exact rfl | assumption)) | (apply cd_f; (first | exact rfl | assumption)) | (apply cd_d <;> intro h) | (apply cd_s <;> intro h))
     | (apply zq; exact rfl; exact rfl; (first | omega | (simp only [List.length_append, List.length_cons, List.length_nil]; omega) | (simp; omega)))
     | (apply zc; (iterate 3 exact rfl))
     | apply qs
     | (apply q4 (n := lp.length); (iterate 5 exact rfl); exact hget2))
    refine qf Tryz.call47 (qix st _ _ _ _ 0 1 0 _ _ _ rfl rfl ?_ ?_ rfl) ?_; (exact hq); (simp only [List.length_append, List.length_cons, List.length_nil]; omega)
    repeat' (first
     | apply qc
     | apply qg
     | apply qh
     | (apply zy; exact rfl; exact rfl; exact ql (by omega) (by omega)))
    refine ⟨_, .inr rfl, qal ⟨rfl, rfl, rfl, rfl, rfl, rfl, ?_, trivial⟩ ?_⟩
    ·rw [qcq lp a]; rfl
    ·have e : xq pre ++ jp (lp ++ [a]) = (xq pre ++ jp lp) ++ (a ++ [10]) := by rw [qdx, qjy, List.append_assoc]
     rw [e]; rfl
  ·skip
   repeat' (first
    | apply qj
    | apply qp
    | apply qc
    | apply qg
    | apply qh
    | apply qb
    | (apply qx; exact rfl; exact rfl)
    | (apply qm; (iterate 3 exact rfl))
    | (apply qe; exact rfl; first | (apply q5; (first | assumption | omega)) | (apply q6; (first | assumption | omega)) | (apply q7; (first | exact rfl | assumption)) | (apply q8; (first | exact rfl | assumption)) | (apply cd_n <;> intro h) | (apply cd_t; (first | exact rfl | assumption)) | (apply cd_f; (first | exact rfl | assumption)) | (apply cd_d <;> intro h) | (apply cd_s <;> intro h))
    | (apply zo; exact rfl; exact rfl)
    | (apply zj; exact rfl; exact rfl)
    | (apply zc; (iterate 3 exact rfl))
    | (apply ze; (iterate 5 exact rfl))
    | (apply za; (iterate 11 exact rfl))
    | apply qs
    | apply qq
    | (apply qf; exact Tryz.call85; exact qs7 _ _ hf1 hf2 hc)
    | (apply q4 (n := pre.length); (iterate 5 exact rfl); exact hget))
   refine qi rfl (yj rfl) ⟨?_, xh _ _ _ _⟩
   unfold qnx
   have h0 : errF xs = xd f := by rw [hr]; exact qvt hg hc
   rw [h0, if_neg hc, qh7 hc]
   rfl
end Go.Proofs.YtefmcijohgpfhaaGreatDoor
set_option maxRecDepth 100000
set_option linter.unusedVariables false
namespace Go.Proofs.YtefmcijohgpfhaaGreatDoor
open Go Go.Av Go.RowKit Go.Proofs Go.Pl
theorem qei : ∀ (n : Nat) (l : qa) (c : UInt8), l.length ≤ n → c ≠ 10 → js (l ++ [c]) = (js l).set ((js l).length - 1) ((js l).getD ((js l).length - 1) [] ++ [c])
 | n, l, c, hn, hc => by
  by_cases h : 10 ∈ l
  ·have hne : l ≠ [] := fun e => by subst e; simp at h
   have hlt := ye (c := 10) hne
   cases n with
   | zero => omega
   | succ n =>
    have ih := qei n (past 10 l) c (by omega) hc
    have e := y7 h
    have e2 : l ++ [c] = upto 10 l ++ 10 :: (past 10 l ++ [c]) := (congrArg (· ++ [c]) e).trans (by simp)
    have hp := qjd (past 10 l)
    have hpl : 0 < (js (past 10 l)).length := List.length_pos_iff.2 hp
    rw [qbo (by simp [h]), qbo h, e2, ym _ (qbe 10 l), y4 _ (qbe 10 l), ih]
    have e3 : (upto 10 l :: js (past 10 l)).length - 1 = (js (past 10 l)).length - 1 + 1 := by simp; omega
    rw [e3, List.set_cons_succ]
    simp
  ·have h2 : 10 ∉ l ++ [c] := by simp [h, Ne.symm hc]
   rw [qbn h, qbn h2]
   simp
end Go.Proofs.YtefmcijohgpfhaaGreatDoor
set_option linter.unusedVariables false
namespace Go.Av
open Go Go.RowKit
@[reducible] def qon (K : Act → World → Prop) : Exit → Act → World → Prop
 | .normal, a, w => K a w
 | _, _, _ => False
structure AZ (E : Env) (N : Nat) (ops : Array Oper) (fuel : Nat) (listed : Array Bool) (K : AS → Prop) (s : AS) : Prop where
 run : ∀ (B0 : Nat) (w0 : World) (G : Gh) (a : Act) (w : World), E.L B0 w0 → Inv B0 w0 N G s a w → ∀ K' : Act → World → Prop, (∀ G' s' a' w', G.le G' → Inv B0 w0 N G' s' a' w' → K s' → K' a' w') → wpAnyIn (fw none) 0 E.P .any ops (qon K') fuel listed a w
section
variable {E : Env} {N : Nat} {ops : Array Oper} {K : AS → Prop} {s : AS} {fuel : Nat} {listed : Array Bool}
theorem qyv {id : Nat} {Q : Exit → AS → Prop} {n : Nat} (hm : E.P.follows .mixedOrders = true) (hn : ops.size = n) (h : AZ E N ops n (Array.replicate n false) (Q .normal) s) : AWp E none N (.region id ops true) Q s := by
 subst hn
 refine ⟨fun B0 w0 G a w hL hI => ?_⟩
 have hBl : Below w.heap.size w { w with drawn := w.drawn + 1 } := ⟨rfl, rfl, rfl, Nat.le_refl _, fun _ _ => rfl⟩
 have hI2 : Inv B0 w0 N G s a { w with drawn := w.drawn + 1 } := ⟨hI.agree.fresh hBl, hI.defers, hI.size, hI.tmps⟩
 have := h.run B0 w0 G a _ hL hI2 (fun a' w' => ∃ (G' : Gh) (s' : AS), G.le G' ∧ Inv B0 w0 N G' s' a' w' ∧ Q .normal s') fun G' s' a' w' hG hI' hk => ⟨G', s', hG, hI', hk⟩
 refine wpIn_mono (wpIn_region_any hm this) fun e a' w' hq => ?_
 cases e with
 | normal => exact hq
 | _ => exact hq.elim
theorem qv3 (hr : Region.ready .any ops listed = []) (h : K s) : AZ E N ops fuel listed K s :=
 ⟨fun B0 w0 G a w hL hI K' hK => wpAnyIn_done hr (hK G s a w (.refl G) hI h) fuel⟩
theorem qt7 {F : Fence} {n : Nat} {P : Program} {o : Oper} {a : Act} {w : World} {next X Y : Act → World → Prop} (h : o.wpIn F n P a w next (qon X)) : o.wpIn F n P a w next (qon Y) := by
 unfold Oper.wpIn at *
 refine ⟨h.1, ?_⟩
 have h := h.2
 generalize (o.semAt F.round a.eval).run P w = r at *
 cases r with
 | ok x w' =>
  cases x <;> simp only [Oper.uponIn] at h ⊢
  case value u => exact h
  case skip => exact h
  case defer d => exact h
  case enter f args =>
   refine ⟨h.1, CallsIn.mono h.2 fun e w'' he => ?_⟩
   cases e with
   | returned u => exact he
   | panicked c => exact he.elim
   | outgrown => exact absurd he (by simp [LetsOut])
  case row row args => exact h
  case round l f tmps assign body =>
   refine ⟨h.1, RoundIn.mono h.2 fun e w'' he => ?_⟩
   cases e with
   | returned u => exact he
   | panicked c => exact he.elim
   | outgrown => exact absurd he (by simp [LetsOut])
 | halt x w' =>
  cases x <;> simp only [Oper.uponIn] at h ⊢
  case panic u => exact h.elim
def qra (P : Nat → Prop) : List Nat → Prop
 | [] => True
 | i :: r => P i ∧ qra P r
theorem qp2 {P : Nat → Prop} : ∀ {l : List Nat}, qra P l → ∀ i ∈ l, P i
 | [], _, _, h => by simp at h
 | j :: l, h, i, hi => by
  rcases List.mem_cons.1 hi with rfl | hi
  ·exact h.1
  ·exact qp2 h.2 i hi
theorem q4w (rs : List Nat) (hr : Region.ready .any ops listed = rs) (hne : Nat.blt 0 rs.length = true)
  (h : qra (fun i => ∃ o, ops[i]? = some o ∧ AOps E none N ops [o] (AZ E N ops fuel (listed.setIfInBounds i true) K) s) rs) : AZ E N ops (fuel + 1) listed K s := by
 refine ⟨fun B0 w0 G a w hL hI K' hK => wpAnyIn_all hr (fun e => by subst e; simp at hne) fun i hi => ?_⟩
 obtain ⟨o, ho, h⟩ := qp2 h i hi
 have hrun := h.run B0 w0 G a w hL hI (qon fun a' w' => wpAnyIn (fw none) 0 E.P .any ops (qon K') fuel (listed.setIfInBounds i true) a' w') fun G' s' a' w' hG hI' hk => hk.run B0 w0 G' a' w' hL hI' K' fun G2 s2 a2 w2 hG2 hI2 hk2 => hK G2 s2 a2 w2 (hG.trans hG2) hI2 hk2
 unfold wpOpIn
 rw [ho]
 simp only [wpListIn] at hrun ⊢
 split
 ·rename_i hw
  rw [if_pos hw] at hrun
  exact qt7 hrun
 ·rename_i hw
  rw [if_neg hw] at hrun
  exact hrun
variable {d : Option Tmp} {T : TypeId} {p : String} {af : Array Edge}
end
end Go.Av
set_option maxRecDepth 100000
set_option linter.unusedVariables false
namespace Go.Proofs.YtefmcijohgpfhaaGreatDoor
open Go Go.Av Go.RowKit Go.Proofs Go.Pl
theorem qfi {l : qa} : q9 l = 4 ↔ 10 ∉ l ∧ 58 ∈ l ∧ qaf (jz l) := by
 unfold q9
 by_cases h10 : 10 ∈ l
 ·simp [h10]
 ·rw [if_neg h10]
  constructor
  ·intro h
   split at h
   ·simp at h
   ·split at h
    ·simp at h
    ·split at h
     ·simp at h
     ·split at h
      ·rename_i hk; exact ⟨h10, hk.1, hk.2⟩
      ·simp at h
  ·rintro ⟨_, h58, hk⟩
   obtain ⟨c, hc, hb, h35⟩ := qhb hk
   have hh : l.head? = some c := by
    cases l with
    | nil => simp at h58
    | cons a r =>
     unfold jz at hc
     rw [List.takeWhile_cons] at hc
     split at hc
     ·simpa using hc
     ·simp at hc
   have hmem : c ∈ l := List.mem_of_head? hh
   rw [if_neg (fun h' => hb (h' c hmem)), if_neg (by rw [hh]; simpa using h35), if_neg (fun ⟨d, hd, hd'⟩ => by rw [hh] at hd; cases hd; exact hb hd'), if_pos ⟨h58, hk⟩]
theorem qq3 {s : qa} (h : q9 s = 3) : s ≠ [] := fun e => by subst e; revert h; decide
theorem qx8 (l : qa) (st : List AObj) (hl : l.length < 4294967281) (h : q9 l = 4) : qt E 196 [Sv l] st fun r st' => r = .tu [Sv (jz l), Sv (ve l), Bv true] ∧ st' = st := by
 refine zg (qdz _ _ _) (qv Tryz.func196 rfl (Nat.le_of_ble_eq_true rfl) ?_)
 have hc : Lib.cut l [58] = (jz l, ve l, true) := by rw [qqo, if_pos (qfi.1 h).2.1]
 repeat' (first
  | apply qj
  | apply qc
  | apply qg
  | apply qh
  | apply qb
  | (apply qx; exact rfl; exact rfl)
  | (apply qm; (iterate 3 exact rfl))
  | (apply qe; exact rfl; first | (apply q5; (first | assumption | omega)) | (apply q6; (first | assumption | omega)) | (apply q7; (first | exact rfl | assumption)) | (apply q8; (first | exact rfl | assumption)) | (apply cd_n <;> intro h) | (apply cd_t; (first | exact rfl | assumption)) | (apply cd_f; (first | exact rfl | assumption)) | (apply cd_d <;> intro h) | (apply cd_s <;> intro h))
  | apply qs
  | apply qq
  | (apply qf; exact Tryz.call132; exact qgo _ _ hl)
  | (apply qf; exact Tryz.call36; exact qnr _ _ _ hl))
 refine qi rfl (qb6 rfl) ⟨qrt (?_ : _ = _), _, rfl⟩
 rw [hc]
theorem quu (l : qa) (st : List AObj) (hl : l.length < 4294967281) (h : q9 l ≠ 4) : qt E 196 [Sv l] st fun r st' => r = .tu [Sv [], Sv [], Bv false] ∧ st' = st := by
 refine zg (qdz _ _ _) (qv Tryz.func196 rfl (Nat.le_of_ble_eq_true rfl) ?_)
 repeat' (first
  | apply qj
  | apply qc
  | apply qg
  | apply qh
  | apply qb
  | (apply qm; (iterate 3 exact rfl))
  | (apply qe; exact rfl; first | (apply q5; (first | assumption | omega)) | (apply q6; (first | assumption | omega)) | (apply q7; (first | exact rfl | assumption)) | (apply q8; (first | exact rfl | assumption)) | (apply cd_n <;> intro h) | (apply cd_t; (first | exact rfl | assumption)) | (apply cd_f; (first | exact rfl | assumption)) | (apply cd_d <;> intro h) | (apply cd_s <;> intro h))
  | apply qq
  | (apply qf; exact Tryz.call132; exact qgo _ _ hl))
 exact qi rfl (qb6 rfl) ⟨rfl, _, rfl⟩
theorem qvk {fn : Func} {s : AS} {t u : Tmp} {Ta : TypeId} {o1 v1 f1 sz1 : Nat} {agg1 : Bool} {T1 : TypeId} {cs1 : List AV} {r1 : AV} (hr : fn.results = #[.cell t Ta, .tmp u]) (hx1 : qk fn.ntmps s (.tmp t) = .bx o1 v1 f1) (ho1 : s.st[o1]? = some (.cells v1 T1 cs1)) (ht1 : tyOf E.P Ta = some (sz1, agg1)) (hl1 : wd sz1 agg1 f1 cs1 = some r1) :
  ARes E fn s (.tu [r1, qk fn.ntmps s (.tmp u)]) := by
 refine ⟨fun B0 w0 G a w hL hI => ?_⟩
 obtain ⟨b, v, h1, h2, h3⟩ := qe4 hI hx1 ho1 ht1 hl1
 have hu := hI.rd u
 refine ⟨.tuple #[v, a.tmps.getD u undef], ?_, qd0 h3 hu⟩
 simp only [Act.eval, Array.getD_eq_getD_getElem?] at h1
 simp [results, hr, h1, asAddr, h2]
def qd8 (ls : List qa) : AV := .tu [fldA (j8 ls).1, errN (j8 ls).2]
theorem qto (ls : List qa) : Pure (qd8 ls) := qd7 fun x hx => by
 simp only [List.mem_cons, List.not_mem_nil, or_false] at hx
 rcases hx with rfl | rfl
 ·exact qhy fun x hx => by
   simp only [List.mem_cons, List.not_mem_nil, or_false] at hx
   rcases hx with rfl | rfl <;> exact zi _
 ·exact qg5 _
theorem yu {fn : Func} {s : AS} {t u : Tmp} {Ta : TypeId} {st loc ext new : List AObj} {k1 v1 f1 sz1 : Nat} {agg1 : Bool} {T1 : TypeId} {cs1 : List AV} {r1 : AV} (hr : fn.results = #[.cell t Ta, .tmp u]) (hs : s.st = ((st ++ loc) ++ ext) ++ new) (hx1 : qk fn.ntmps s (.tmp t) = .bx (st.length + k1) v1 f1) (ho1 : loc[k1]? = some (.cells v1 T1 cs1)) (ht1 : tyOf E.P Ta = some (sz1, agg1)) (hl1 : wd sz1 agg1 f1 cs1 = some r1) :
  ARes E fn s (.tu [r1, qk fn.ntmps s (.tmp u)]) := qvk hr hx1 (by rw [hs]; exact qch ho1) ht1 hl1
theorem qe7 {fn : Func} {s : AS} {t u : Tmp} {Ta : TypeId} {st loc : List AObj} {k1 v1 f1 sz1 : Nat} {agg1 : Bool} {T1 : TypeId} {cs1 : List AV} {r1 : AV} (hr : fn.results = #[.cell t Ta, .tmp u]) (hs : s.st = st ++ loc) (hx1 : qk fn.ntmps s (.tmp t) = .bx (st.length + k1) v1 f1) (ho1 : loc[k1]? = some (.cells v1 T1 cs1)) (ht1 : tyOf E.P Ta = some (sz1, agg1)) (hl1 : wd sz1 agg1 f1 cs1 = some r1) :
  ARes E fn s (.tu [r1, qk fn.ntmps s (.tmp u)]) := qvk hr hx1 (by rw [hs]; exact vg ho1) ht1 hl1
structure LsB (ls : List qa) : Prop where
 len : ls.length < 1000000
 val : ∀ s ∈ ls, s.length < 1000000
theorem qmi : ∀ (r : List qa), (∀ s ∈ r, s.length < 1000000) → (r.flatMap fun s => [10] ++ wi 46 (s.drop 1)).length ≤ 1000001 * r.length
 | [], _ => by simp
 | a :: r, h => by
  have ih := qmi r fun s hs => h s (by simp [hs])
  have ha := h a (by simp)
  have ht : (wi 46 (a.drop 1)).length ≤ a.length := by unfold wi; split <;> simp <;> omega
  simp only [List.flatMap_cons, List.length_append, List.length_cons, List.length_nil]
  omega
theorem qzh (v : qa) (r : List qa) : Lib.join (v :: r.map fun s => wi 46 (s.drop 1)) [10] = v ++ r.flatMap fun s => [10] ++ wi 46 (s.drop 1) := by
 rw [Lib.join_cons]
 unfold Lib.joinTail
 rw [List.map_map, List.flatMap_def]
 rfl
theorem qo1 (xs : List qa) (tip : Option Nat) (sep v : qa) (st : List AObj) (h : Lib.join xs sep = v) (hN : xs.length ≤ 140737488355328) (hl : v.length ≤ 140737488355328) : qt E 88 [.sl 1 (xs.map fun x => Sv x) tip, Sv sep] st fun r st' => r = Sv v ∧ st' = st := by
 subst h
 exact qyk xs tip sep st hN hl
set_option maxHeartbeats 4000000 in
theorem qkr (ls : List qa) (st : List AObj) (hB : LsB ls) : qt E 166 [Ss ls] st fun r st' => r = qd8 ls ∧ st' = st := by
 refine zg (qto _) (qv Tryz.func166 rfl (Nat.le_of_ble_eq_true rfl) ?_)
 have hL := hB.len
 have hml : (ls.map fun x => Sv x).length = ls.length := by simp
 cases ls with
 | nil =>
  repeat' (first
   | apply qj
   | apply qc
   | apply qg
   | apply qh
   | apply qb
   | (apply qm; (iterate 3 exact rfl))
   | (apply qe; exact rfl; first | (apply q5; (first | assumption | omega)) | (apply q6; (first | assumption | omega)) | (apply q7; (first | exact rfl | assumption)) | (apply q8; (first | exact rfl | assumption)) | (apply cd_n <;> intro h) | (apply cd_t; (first | exact rfl | assumption)) | (apply cd_f; (first | exact rfl | assumption)) | (apply cd_d <;> intro h) | (apply cd_s <;> intro h))
   | (apply zk; (iterate 4 exact rfl))
   | (apply qy; exact rfl; exact rfl)
   | (apply zj; exact rfl; exact rfl)
   | (apply za; (iterate 11 exact rfl))
   | (apply zt; (iterate 3 exact rfl))
   | apply qq)
  exact qi rfl (qe7 rfl rfl rfl rfl rfl rfl) ⟨rfl, _, rfl⟩
 | cons l r =>
  have hl := hB.val l (by simp)
  by_cases h4 : q9 l = 4
  ·have hk := qfi.1 h4
   have htr : (wi 32 (ve l)).length ≤ l.length := by unfold wi ve; split <;> simp <;> omega
   simp only [List.length_cons] at hL
   repeat' (first
    | (apply qab; (iterate 6 exact rfl))
    | apply qj
    | apply qp
    | apply qc
    | apply qg
    | apply qh
    | apply qb
    | (apply qx; exact rfl; exact rfl)
    | (apply qm; (iterate 3 exact rfl))
    | (apply z7; exact rfl)
    | (apply qe; exact rfl; first | (apply q5; (first | assumption | omega)) | (apply q6; (first | assumption | omega)) | (apply q7; (first | exact rfl | assumption)) | (apply q8; (first | exact rfl | assumption)) | (apply cd_n <;> intro h) | (apply cd_t; (first | exact rfl | assumption)) | (apply cd_f; (first | exact rfl | assumption)) | (apply cd_d <;> intro h) | (apply cd_s <;> intro h))
    | (apply zk; (iterate 4 exact rfl))
    | (apply zj; exact rfl; exact rfl)
    | (apply zc; (iterate 3 exact rfl))
    | (apply jc; (iterate 4 exact rfl); (first | assumption | omega | exact Nat.succ_le_succ (Nat.zero_le _) | (simp; omega)); exact rfl)
    | apply qs
    | (apply qf; exact Tryz.call196; exact qx8 _ _ (by omega) h4)
    | (apply qf; exact Tryz.call96; exact qvj _ _ _)
    | (apply q4 (n := 0); (iterate 6 exact rfl)))
   refine qkn 7 (o := st.length + 1) (sz := 1) (len := 1) (cap := 1) (xs := [Sv (wi 32 (ve l))]) (T' := 9) rfl (vg rfl) rfl rfl (by omega) (Nat.le_refl _) (by decide) (by simp [AV.cells]) rfl ?_
   have hrm : (r.map fun x => Sv x).length = r.length := by simp
   refine qap r (fun pre s => (∀ x ∈ pre, q9 x = 3) ∧ StE [(2, .bx (st.length + 0) 0 0), (4, Sv (jz l)), (7, .sl 1 (Sv (wi 32 (ve l)) :: pre.map (fun s => Sv (wi 46 (s.drop 1)))) (some (st.length + 1))), (33, .sl 1 (r.map fun x => Sv x) none), (34, Iv r.length), (35, Iv pre.length)] st [.cells 0 69 [Sv [], Sv []], .tip (pre.length + 1) 1 9] s) ⟨by simp, qci ⟨rfl, rfl, rfl, rfl, congrArg (fun n : Nat => Iv (n : Int)) hrm, rfl, trivial⟩ (yf st _ 1 _)⟩ ?_ ?_
   ·rintro _ ⟨h3, t, ext, rfl⟩
    have hok : qmf (l :: r) := ⟨by simp, h4, h3⟩
    have hjl := qmi r fun s hs => hB.val s (by simp [hs])
    have hj := qzh (wi 32 (ve l)) r
    have hjv : Lib.join (wi 32 (ve l) :: r.map fun s => wi 46 (s.drop 1)) [10] = qbl l r := hj
    have hvl : (qbl l r).length ≤ 140737488355328 := by
     unfold qbl
     rw [List.length_append]
     omega
    have hmm : (Sv (wi 32 (ve l)) :: r.map fun s => Sv (wi 46 (s.drop 1))) = (wi 32 (ve l) :: r.map fun s => wi 46 (s.drop 1)).map fun x => Sv x := by simp [List.map_map]
    rw [hmm]
    have hkl : (jz l).length < 4294967281 := by have := hk.2.2.2.1; omega
    have hun : j8 (l :: r) = if 1000 < (qbl l r).length then (([], []), 6) else ((jz l, qbl l r), 0) := if_pos hok
    by_cases hv : 1000 < (qbl l r).length
    ·have hcf : xd (jz l, qbl l r) = 6 := (if_neg (by simpa using hk.2.2)).trans (if_pos hv)
     repeat' (first
      | apply qj
      | apply qc
      | apply qg
      | apply qh
      | (apply qm; (iterate 3 exact rfl))
      | (apply qe; exact rfl; first | (apply q5; (first | assumption | omega)) | (apply q6; (first | assumption | omega)) | (apply q7; (first | exact rfl | assumption)) | (apply q8; (first | exact rfl | assumption)) | (apply cd_n <;> intro h) | (apply cd_t; (first | exact rfl | assumption)) | (apply cd_f; (first | exact rfl | assumption)) | (apply cd_d <;> intro h) | (apply cd_s <;> intro h))
      | apply z6)
     refine qf Tryz.call88 (qo1 (wi 32 (ve l) :: r.map fun s : qa => wi 46 (s.drop 1)) _ _ _ _ hjv ?_ hvl) ?_
     ·simp; omega
     repeat' (first
      | apply qj
      | apply qc
      | apply qg
      | apply qh
      | apply qb
      | (apply qe; exact rfl; first | (apply q5; (first | assumption | omega)) | (apply q6; (first | assumption | omega)) | (apply q7; (first | exact rfl | assumption)) | (apply q8; (first | exact rfl | assumption)) | (apply cd_n <;> intro h) | (apply cd_t; (first | exact rfl | assumption)) | (apply cd_f; (first | exact rfl | assumption)) | (apply cd_d <;> intro h) | (apply cd_s <;> intro h))
      | (apply zo; exact rfl; exact rfl)
      | (apply zj; exact rfl; exact rfl)
      | (apply zm; (iterate 11 exact rfl))
      | (apply ze; (iterate 5 exact rfl))
      | (apply za; (iterate 11 exact rfl))
      | (apply zt; (iterate 3 exact rfl))
      | apply qq
      | (apply qf; exact Tryz.call124; exact qgk (jz l, qbl l r) _ hkl (by rw [hcf]; decide)))
     refine qi rfl (yu rfl rfl rfl rfl rfl rfl) ⟨?_, xh _ _ _ _⟩
     unfold qd8
     rw [hun, if_pos hv]
     exact congrArg (fun n : Int => AV.tu [fldA ([], []), .ifc 31 (Iv n)]) hcf
    ·have hcf : xd (jz l, qbl l r) = 0 := (if_neg (by simpa using hk.2.2)).trans (if_neg hv)
     repeat' (first
      | apply qj
      | apply qc
      | apply qg
      | apply qh
      | apply qb
      | (apply qm; (iterate 3 exact rfl))
      | (apply qe; exact rfl; first | (apply q5; (first | assumption | omega)) | (apply q6; (first | assumption | omega)) | (apply q7; (first | exact rfl | assumption)) | (apply q8; (first | exact rfl | assumption)) | (apply cd_n <;> intro h) | (apply cd_t; (first | exact rfl | assumption)) | (apply cd_f; (first | exact rfl | assumption)) | (apply cd_d <;> intro h) | (apply cd_s <;> intro h))
      | (apply zl; exact rfl; exact rfl)
      | (apply zj; exact rfl; exact rfl)
      | (apply zm; (iterate 11 exact rfl))
      | (apply ze; (iterate 5 exact rfl))
      | (apply za; (iterate 11 exact rfl))
      | (apply zt; (iterate 3 exact rfl))
      | apply qs
      | apply z6
      | apply qq
      | (refine qf Tryz.call88 (qo1 (wi 32 (ve l) :: r.map fun s : qa => wi 46 (s.drop 1)) _ _ _ _ hjv ?_ hvl) ?_; (simp; omega))
      | (apply qf; exact Tryz.call124; exact qgu (jz l, qbl l r) _ hkl hcf))
     refine qi rfl (yu rfl rfl rfl rfl rfl rfl) ⟨?_, xh _ _ _ _⟩
     unfold qd8
     rw [hun, if_neg hv]
     rfl
   ·rintro pre a rest _ hr ⟨h3, t, ext, rfl⟩
    have hrlen : r.length = pre.length + (rest.length + 1) := by rw [hr]; simp
    have hget : (r.map fun x => Sv x)[pre.length]? = some (Sv a) := by rw [hr]; simp
    have ha := hB.val a (by rw [hr]; simp)
    by_cases hka : q9 a = 3
    ·have hpos : 1 ≤ a.length := List.length_pos_iff.2 (qq3 hka)
     repeat' (first
      | apply qj
      | apply qp
      | apply qc
      | apply qg
      | apply qh
      | apply qb
      | (apply qm; (iterate 3 exact rfl))
      | (apply qe; exact rfl; first | (apply q5; (first | assumption | omega)) | (apply q6; (first | assumption | omega)) | (apply q7; (first | exact rfl | assumption)) | (apply q8; (first | exact rfl | assumption)) | (apply cd_n <;> intro h) | (apply cd_t; (first | exact rfl | assumption)) | (apply cd_f; (first | exact rfl | assumption)) | (apply cd_d <;> intro h) | (apply cd_s <;> intro h))
      | (apply zy; exact rfl; exact rfl; exact ql (by omega) (by omega))
      | (apply zc; (iterate 3 exact rfl))
      | (apply kf; (iterate 3 exact rfl); first | assumption | omega | (simp; omega))
      | (apply zr; (iterate 9 exact rfl))
      | apply qs
      | (apply qf; exact Tryz.call132; exact qgo _ _ (by omega))
      | (apply qf; exact Tryz.call96; exact qvj _ _ _)
      | (apply q4 (n := pre.length); (iterate 5 exact rfl); exact hget)
      | (apply qbf (n := pre.length + 1) (m := 1) (sz := 1) (bytes := 16); (iterate 4 exact rfl); simp; exact rfl; exact rfl; exact ⟨⟨_, _, rfl, rfl, rfl, rfl, rfl⟩⟩; exact rfl; exact rfl; (unfold maxLen; omega); omega; exact rfl))
     refine ⟨fun x hx => ?_, qal ⟨rfl, rfl, ?_, rfl, rfl, ?_, trivial⟩ ?_⟩
     ·rcases List.mem_append.1 hx with hx | hx
      ·exact h3 x hx
      ·simp at hx; subst hx; exact hka
     ·exact qso _ (fun s : qa => Sv (wi 46 (s.drop 1))) pre a _ rfl
     ·exact qd6 pre a
     ·rw [qcq pre a]; rfl
    ·skip
     repeat' (first
      | apply qj
      | apply qp
      | apply qc
      | apply qg
      | apply qh
      | apply qb
      | (apply qm; (iterate 3 exact rfl))
      | (apply qe; exact rfl; first | (apply q5; (first | assumption | omega)) | (apply q6; (first | assumption | omega)) | (apply q7; (first | exact rfl | assumption)) | (apply q8; (first | exact rfl | assumption)) | (apply cd_n <;> intro h) | (apply cd_t; (first | exact rfl | assumption)) | (apply cd_f; (first | exact rfl | assumption)) | (apply cd_d <;> intro h) | (apply cd_s <;> intro h))
      | (apply qy; exact rfl; exact rfl)
      | (apply zc; (iterate 3 exact rfl))
      | (apply zm; (iterate 11 exact rfl))
      | (apply zt; (iterate 3 exact rfl))
      | apply qs
      | apply qq
      | (apply qf; exact Tryz.call132; exact qgo _ _ (by omega))
      | (apply q4 (n := pre.length); (iterate 5 exact rfl); exact hget))
     have hno : j8 (l :: r) = (([], []), 2) := if_neg fun h => hka (h.2.2 a (by rw [hr]; simp))
     refine qi rfl (yu rfl rfl rfl rfl rfl rfl) ⟨?_, xh _ _ _ _⟩
     unfold qd8
     rw [hno]
     rfl
  ·have hno : j8 (l :: r) = (([], []), 2) := if_neg fun h => h4 h.2.1
   simp only [List.length_cons] at hL
   repeat' (first
    | apply qj
    | apply qc
    | apply qg
    | apply qh
    | apply qb
    | (apply qx; exact rfl; exact rfl)
    | (apply qm; (iterate 3 exact rfl))
    | (apply z7; exact rfl)
    | (apply qe; exact rfl; first | (apply q5; (first | assumption | omega)) | (apply q6; (first | assumption | omega)) | (apply q7; (first | exact rfl | assumption)) | (apply q8; (first | exact rfl | assumption)) | (apply cd_n <;> intro h) | (apply cd_t; (first | exact rfl | assumption)) | (apply cd_f; (first | exact rfl | assumption)) | (apply cd_d <;> intro h) | (apply cd_s <;> intro h))
    | (apply zk; (iterate 4 exact rfl))
    | (apply qy; exact rfl; exact rfl)
    | (apply zj; exact rfl; exact rfl)
    | (apply zc; (iterate 3 exact rfl))
    | (apply za; (iterate 11 exact rfl))
    | (apply zt; (iterate 3 exact rfl))
    | apply qs
    | apply qq
    | (apply qf; exact Tryz.call196; exact quu _ _ (by omega) h4)
    | (apply q4 (n := 0); (iterate 6 exact rfl)))
   refine qi rfl (qe7 rfl rfl rfl rfl rfl rfl) ⟨?_, _, rfl⟩
   unfold qd8
   rw [hno]
   rfl
end Go.Proofs.YtefmcijohgpfhaaGreatDoor
