/- Contracts and plain facts that the closing text leans on (part 4). No condition of their own beyond those that each states. -/
import Derived.Test.YtefmcijohgpfhaaGreatDoorK3
set_option maxRecDepth 100000
set_option linter.unusedVariables false
set_option linter.unusedSimpArgs false
set_option maxRecDepth 100000
set_option linter.unusedVariables false
namespace Go.Proofs.YtefmcijohgpfhaaGreatDoor
open Go Go.Av Go.RowKit Go.Proofs Go.Pl
theorem qzn (l : qa) (st : List AObj) (hl : l.length < 4294967281) (h : q9 l = 4) : qt E 81 [Sv l] st fun r st' => r = .tu [Sv (jz l), Sv (ve l), Bv true] ∧ st' = st := by
 have := qtq l st hl
 have e : qdn l = (jz l, ve l, true) := if_pos (qfi.1 h)
 rw [e] at this
 exact this
theorem qen {s : qa} (h : q9 s = 3) : 2 ≤ s.length ∧ 10 ∉ s := by
 have h10 : 10 ∉ s := fun h' => by unfold q9 at h; rw [if_pos h'] at h; simp at h
 refine ⟨?_, h10⟩
 unfold q9 at h
 rw [if_neg h10] at h
 split at h
 ·simp at h
 ·rename_i hb
  split at h
  ·simp at h
  ·split at h
   ·rename_i hbl
    obtain ⟨c, hc, hcb⟩ := hbl
    match s, hc with
    | [a], hc =>
     simp at hc
     subst hc
     exact absurd (by simpa using hcb) hb
    | a :: b :: r, _ => simp
   ·split at h <;> simp at h
def y0 (ls : List qa) : AV := .tu [fldA (j8 ls).1, Iv (j8 ls).2]
theorem qnm (ls : List qa) : Pure (y0 ls) := qd7 fun x hx => by
 simp only [List.mem_cons, List.not_mem_nil, or_false] at hx
 rcases hx with rfl | rfl
 ·exact qhy fun x hx => by
   simp only [List.mem_cons, List.not_mem_nil, or_false] at hx
   rcases hx with rfl | rfl <;> exact zi _
 ·exact zi _
def accU (l : qa) (pre : List qa) : qa := wi 32 (ve l) ++ pre.flatMap fun s => [10] ++ wi 46 (s.drop 1)
theorem qp9 (l : qa) (pre : List qa) (a : qa) : accU l (pre ++ [a]) = (accU l pre ++ [10]) ++ wi 46 (a.drop 1) := by
 unfold accU
 rw [List.flatMap_append]
 simp
theorem qew (l : qa) (pre : List qa) (h : ∀ s ∈ pre, s.length < 1000000) : (accU l pre).length ≤ l.length + 1000001 * pre.length := by
 have htr : (wi 32 (ve l)).length ≤ l.length := by unfold wi ve; split <;> simp <;> omega
 have := qmi pre h
 unfold accU
 rw [List.length_append]
 omega
theorem qk2 (c : UInt8) : ((c.toNat : Nat) : Int) = 46 ↔ c = 46 := u8i c 46 (by omega)
theorem qcz {α : Type} {P : α → Prop} {pre : List α} {a : α} (h : ∀ x ∈ pre, P x) (ha : P a) : ∀ x ∈ pre ++ [a], P x := fun x hx => by
 rcases List.mem_append.1 hx with hx | hx
 ·exact h x hx
 ·simp at hx; subst hx; exact ha
theorem qmr {l : qa} {pre : List qa} {a : qa} (h1 : (a.drop 1).head? = some ((a.drop 1).getD 0 0)) (h2 : (a.drop 1).getD 0 0 = 46) : (accU l pre ++ [10]) ++ (a.drop 1).drop 1 = accU l (pre ++ [a]) := by
 rw [qp9]
 congr 1
 unfold wi
 rw [h1, h2, if_pos rfl]
theorem qik {l : qa} {pre : List qa} {a : qa} (h1 : (a.drop 1).head? = some ((a.drop 1).getD 0 0)) (h2 : (a.drop 1).getD 0 0 ≠ 46) : (accU l pre ++ [10]) ++ a.drop 1 = accU l (pre ++ [a]) := by
 rw [qp9]
 congr 1
 unfold wi
 rw [h1, if_neg (fun h => h2 (by simpa using h))]
set_option maxHeartbeats 8000000 in
theorem qlh (ls : List qa) (st : List AObj) (hB : LsB ls) : qt E 41 [Ss ls] st fun r st' => r = y0 ls ∧ st' = st := by
 refine zg (qnm _) (qv Tryz.func41 rfl (Nat.le_of_ble_eq_true rfl) ?_)
 have hL := hB.len
 have hml : (ls.map fun x => Sv x).length = ls.length := by simp
 cases ls with
 | nil =>
  repeat' (first
   | apply qj
   | apply qc
   | apply qg
   | apply qh
   | apply qb
   | (apply qm; (iterate 3 exact rfl))
   | (apply qo; (iterate 4 exact rfl))
   | (apply jw; (first | exact rfl | assumption))
   | (apply qr; exact rfl; first | (apply jn; (first | assumption | omega)) | (apply jq; (first | assumption | omega)) | (apply jo; (first | exact rfl | assumption)) | (apply jr; (first | exact rfl | assumption)) | (apply pk_t; (first | exact rfl | assumption)) | (apply pk_f; (first | exact rfl | assumption)))
   | (apply qe; exact rfl; first | (apply q5; (first | assumption | omega)) | (apply q6; (first | assumption | omega)) | (apply q7; (first | exact rfl | assumption)) | (apply q8; (first | exact rfl | assumption)) | (apply cd_n <;> intro h) | (apply cd_t; (first | exact rfl | assumption)) | (apply cd_f; (first | exact rfl | assumption)) | (apply cd_d <;> intro h) | (apply cd_s <;> intro h))
   | (apply zk; (iterate 4 exact rfl))
   | (apply zj; exact rfl; exact rfl)
   | (apply za; (iterate 11 exact rfl))
   | (apply zt; (iterate 3 exact rfl))
   | apply qq)
  exact qi rfl (qe7 rfl rfl rfl rfl rfl rfl) ⟨rfl, _, rfl⟩
 | cons l r =>
  have hl := hB.val l (by simp)
  simp only [List.length_cons] at hL hml
  by_cases h4 : q9 l = 4
  ·have hk := qfi.1 h4
   have hh : ∀ v : qa, 0 < v.length → v.head? = some (v.getD 0 0) := fun v hv => by cases v with | nil => simp at hv | cons a b => rfl
   repeat' (first
    | apply qj
    | apply qp
    | apply qc
    | apply qg
    | apply qh
    | apply qb
    | (apply qx; exact rfl; exact rfl)
    | (apply qm; (iterate 3 exact rfl))
    | (apply qo; (iterate 4 exact rfl))
    | (apply vh; (first | assumption | omega))
    | (apply jv; (first | assumption | omega))
    | (apply ko; (first | assumption | omega))
    | (apply je <;> intro h)
    | (apply qr; exact rfl; first | (apply jn; (first | assumption | omega)) | (apply jq; (first | assumption | omega)) | (apply jo; (first | exact rfl | assumption)) | (apply jr; (first | exact rfl | assumption)) | (apply pk_t; (first | exact rfl | assumption)) | (apply pk_f; (first | exact rfl | assumption)))
    | (apply qe; exact rfl; first | (apply q5; (first | assumption | omega)) | (apply q6; (first | assumption | omega)) | (apply q7; (first | exact rfl | assumption)) | (apply q8; (first | exact rfl | assumption)) | (apply cd_n <;> intro h) | (apply cd_t; (first | exact rfl | assumption)) | (apply cd_f; (first | exact rfl | assumption)) | (apply cd_d <;> intro h) | (apply cd_s <;> intro h))
    | (apply z2; (iterate 3 exact rfl))
    | (apply zk; (iterate 4 exact rfl))
    | (apply zj; exact rfl; exact rfl)
    | (apply zc; (iterate 3 exact rfl))
    | (apply j6; (iterate 3 exact rfl); first | assumption | omega | (simp; omega))
    | (apply kf; (iterate 3 exact rfl); first | assumption | omega | (simp; omega))
    | apply qs
    | (apply qf; exact Tryz.call80; exact qa9 _ _ (by omega))
    | (apply qf; exact Tryz.call81; exact qzn _ _ (by omega) h4)
    | (apply q4 (n := 0); (iterate 6 exact rfl)))
   all_goals refine qap r (fun pre s => (∀ x ∈ pre, q9 x = 3) ∧ StE [(0, Ss (l :: r)), (2, .bx (st.length + 0) 0 0), (4, Sv (jz l)), (5, Sv (accU l pre)), (7, Iv (pre.length + 1))] st [.cells 0 69 [Sv [], Sv []]] s) ⟨by simp, qci ⟨rfl, rfl, rfl, congrArg (fun l : qa => Sv l) ?_, rfl, trivial⟩ rfl⟩ ?_ ?_
   ·have h1 : 0 < (ve l).length := by omega
    have h2 : (ve l).getD 0 0 = 32 := (qw6 _).1 (by assumption)
    show (ve l).drop 1 = accU l []
    unfold accU wi
    rw [hh _ h1, h2]
    simp
   rotate_left 2
   ·have h1 : 0 < (ve l).length := by omega
    have h2 : (ve l).getD 0 0 ≠ 32 := fun h' => absurd ((qw6 _).2 h') (by assumption)
    show ve l = accU l []
    unfold accU wi
    rw [hh _ h1, if_neg (fun h3 => h2 (by simpa using h3))]
    simp
   rotate_left 2
   ·have h1 : ve l = [] := List.length_eq_zero_iff.1 (by omega)
    show ve l = accU l []
    unfold accU wi
    rw [h1]
    simp
   rotate_left 2
   ·rintro _ ⟨h3, t, ext, rfl⟩
    have hal := qew l r fun s hs => hB.val s (by simp [hs])
    have hun : j8 (l :: r) = if 1000 < (accU l r).length then (([], []), 6) else ((jz l, accU l r), 0) := if_pos ⟨by simp, h4, h3⟩
    repeat' (first
     | apply qj
     | apply qc
     | apply qg
     | apply qh
     | apply qb
     | (apply qm; (iterate 3 exact rfl))
     | (apply qe; exact rfl; first | (apply q5; (first | assumption | omega)) | (apply q6; (first | assumption | omega)) | (apply q7; (first | exact rfl | assumption)) | (apply q8; (first | exact rfl | assumption)) | (apply cd_n <;> intro h) | (apply cd_t; (first | exact rfl | assumption)) | (apply cd_f; (first | exact rfl | assumption)) | (apply cd_d <;> intro h) | (apply cd_s <;> intro h))
     | (apply z2; (iterate 3 exact rfl))
     | (apply zk; (iterate 4 exact rfl))
     | (apply zm; (iterate 11 exact rfl))
     | (apply zt; (iterate 3 exact rfl))
     | apply qs
     | apply z6
     | apply qq)
    all_goals refine qi rfl (yu rfl rfl rfl rfl rfl rfl) ⟨?_, xh _ _ _ _⟩
    all_goals unfold y0
    ·rw [hun, if_pos (by omega)]; rfl
    ·rw [hun, if_neg (by omega)]; rfl
   ·rintro pre a rest _ hr ⟨h3, t, ext, rfl⟩
    have hrlen : r.length = pre.length + (rest.length + 1) := by rw [hr]; simp
    have hget : (Sv l :: r.map fun x => Sv x)[pre.length + 1]? = some (Sv a) := by rw [hr]; simp
    have ha := hB.val a (by rw [hr]; simp)
    have hal := qew l pre fun s hs => hB.val s (by rw [hr]; simp [hs])
    by_cases hka : q9 a = 3
    ·obtain ⟨h2, _⟩ := qen hka
     have hd1 : (a.drop 1).length = a.length - 1 := by simp
     repeat' (first
      | apply qj
      | apply qp
      | apply qc
      | apply qg
      | apply qh
      | apply qb
      | (apply qm; (iterate 3 exact rfl))
      | (apply qe; exact rfl; first | (apply q5; (first | assumption | omega)) | (apply q6; (first | assumption | omega)) | (apply q7; (first | exact rfl | assumption)) | (apply q8; (first | exact rfl | assumption)) | (apply cd_n <;> intro h) | (apply cd_t; (first | exact rfl | assumption)) | (apply cd_f; (first | exact rfl | assumption)) | (apply cd_d <;> intro h) | (apply cd_s <;> intro h))
      | (apply zk; (iterate 4 exact rfl))
      | (apply zq; exact rfl; exact rfl; (first | omega | (simp only [List.length_append, List.length_cons, List.length_nil]; omega) | (simp; omega)))
      | (apply zy; exact rfl; exact rfl; exact ql (by omega) (by omega))
      | (apply zc; (iterate 3 exact rfl))
      | (apply j6; (iterate 3 exact rfl); first | assumption | omega | (simp; omega))
      | (apply kf; (iterate 3 exact rfl); first | assumption | omega | (simp; omega))
      | apply qs
      | (apply qf; exact Tryz.call80; exact qa9 _ _ (by omega))
      | (apply q4 (n := pre.length + 1); (iterate 5 exact rfl); exact hget))
     all_goals refine ⟨fun x hx => ?_, qal ⟨rfl, rfl, rfl, ?_, qmh pre a, trivial⟩ rfl⟩
     ·exact qcz h3 hka x hx
     ·exact congrArg (fun l : qa => Sv l) (qmr (hh _ (by omega)) ((qk2 _).1 (by assumption)) : (accU l pre ++ [10]) ++ (a.drop 1).drop 1 = accU l (pre ++ [a]))
     ·exact qcz h3 hka x hx
     ·exact congrArg (fun l : qa => Sv l) (qik (hh _ (by omega)) (fun h' => absurd ((qk2 _).2 h') (by assumption)) : (accU l pre ++ [10]) ++ a.drop 1 = accU l (pre ++ [a]))
    ·have hno : j8 (l :: r) = (([], []), 2) := if_neg fun h => hka (h.2.2 a (by rw [hr]; simp))
     repeat' (first
      | apply qj
      | apply qp
      | apply qc
      | apply qg
      | apply qh
      | apply qb
      | (apply qm; (iterate 3 exact rfl))
      | (apply qe; exact rfl; first | (apply q5; (first | assumption | omega)) | (apply q6; (first | assumption | omega)) | (apply q7; (first | exact rfl | assumption)) | (apply q8; (first | exact rfl | assumption)) | (apply cd_n <;> intro h) | (apply cd_t; (first | exact rfl | assumption)) | (apply cd_f; (first | exact rfl | assumption)) | (apply cd_d <;> intro h) | (apply cd_s <;> intro h))
      | (apply zk; (iterate 4 exact rfl))
      | (apply zc; (iterate 3 exact rfl))
      | (apply zm; (iterate 11 exact rfl))
      | (apply zt; (iterate 3 exact rfl))
      | apply qs
      | apply qq
      | (apply qf; exact Tryz.call80; exact qa9 _ _ (by omega))
      | (apply q4 (n := pre.length + 1); (iterate 5 exact rfl); exact hget))
     refine qi rfl (yu rfl rfl rfl rfl rfl rfl) ⟨?_, xh _ _ _ _⟩
     unfold y0
     rw [hno]
     rfl
   ·rintro _ ⟨h3, t, ext, rfl⟩
    have hal := qew l r fun s hs => hB.val s (by simp [hs])
    have hun : j8 (l :: r) = if 1000 < (accU l r).length then (([], []), 6) else ((jz l, accU l r), 0) := if_pos ⟨by simp, h4, h3⟩
    repeat' (first
     | apply qj
     | apply qc
     | apply qg
     | apply qh
     | apply qb
     | (apply qm; (iterate 3 exact rfl))
     | (apply qe; exact rfl; first | (apply q5; (first | assumption | omega)) | (apply q6; (first | assumption | omega)) | (apply q7; (first | exact rfl | assumption)) | (apply q8; (first | exact rfl | assumption)) | (apply cd_n <;> intro h) | (apply cd_t; (first | exact rfl | assumption)) | (apply cd_f; (first | exact rfl | assumption)) | (apply cd_d <;> intro h) | (apply cd_s <;> intro h))
     | (apply z2; (iterate 3 exact rfl))
     | (apply zk; (iterate 4 exact rfl))
     | (apply zm; (iterate 11 exact rfl))
     | (apply zt; (iterate 3 exact rfl))
     | apply qs
     | apply z6
     | apply qq)
    all_goals refine qi rfl (yu rfl rfl rfl rfl rfl rfl) ⟨?_, xh _ _ _ _⟩
    all_goals unfold y0
    ·rw [hun, if_pos (by omega)]; rfl
    ·rw [hun, if_neg (by omega)]; rfl
   ·rintro pre a rest _ hr ⟨h3, t, ext, rfl⟩
    have hrlen : r.length = pre.length + (rest.length + 1) := by rw [hr]; simp
    have hget : (Sv l :: r.map fun x => Sv x)[pre.length + 1]? = some (Sv a) := by rw [hr]; simp
    have ha := hB.val a (by rw [hr]; simp)
    have hal := qew l pre fun s hs => hB.val s (by rw [hr]; simp [hs])
    by_cases hka : q9 a = 3
    ·obtain ⟨h2, _⟩ := qen hka
     have hd1 : (a.drop 1).length = a.length - 1 := by simp
     repeat' (first
      | apply qj
      | apply qp
      | apply qc
      | apply qg
      | apply qh
      | apply qb
      | (apply qm; (iterate 3 exact rfl))
      | (apply qe; exact rfl; first | (apply q5; (first | assumption | omega)) | (apply q6; (first | assumption | omega)) | (apply q7; (first | exact rfl | assumption)) | (apply q8; (first | exact rfl | assumption)) | (apply cd_n <;> intro h) | (apply cd_t; (first | exact rfl | assumption)) | (apply cd_f; (first | exact rfl | assumption)) | (apply cd_d <;> intro h) | (apply cd_s <;> intro h))
      | (apply zk; (iterate 4 exact rfl))
      | (apply zq; exact rfl; exact rfl; (first | omega | (simp only [List.length_append, List.length_cons, List.length_nil]; omega) | (simp; omega)))
      | (apply zy; exact rfl; exact rfl; exact ql (by omega) (by omega))
      | (apply zc; (iterate 3 exact rfl))
      | (apply j6; (iterate 3 exact rfl); first | assumption | omega | (simp; omega))
      | (apply kf; (iterate 3 exact rfl); first | assumption | omega | (simp; omega))
      | apply qs
      | (apply qf; exact Tryz.call80; exact qa9 _ _ (by omega))
      | (apply q4 (n := pre.length + 1); (iterate 5 exact rfl); exact hget))
     all_goals refine ⟨fun x hx => ?_, qal ⟨rfl, rfl, rfl, ?_, qmh pre a, trivial⟩ rfl⟩
     ·exact qcz h3 hka x hx
     ·exact congrArg (fun l : qa => Sv l) (qmr (hh _ (by omega)) ((qk2 _).1 (by assumption)) : (accU l pre ++ [10]) ++ (a.drop 1).drop 1 = accU l (pre ++ [a]))
     ·exact qcz h3 hka x hx
     ·exact congrArg (fun l : qa => Sv l) (qik (hh _ (by omega)) (fun h' => absurd ((qk2 _).2 h') (by assumption)) : (accU l pre ++ [10]) ++ a.drop 1 = accU l (pre ++ [a]))
    ·have hno : j8 (l :: r) = (([], []), 2) := if_neg fun h => hka (h.2.2 a (by rw [hr]; simp))
     repeat' (first
      | apply qj
      | apply qp
      | apply qc
      | apply qg
      | apply qh
      | apply qb
      | (apply qm; (iterate 3 exact rfl))
      | (apply qe; exact rfl; first | (apply q5; (first | assumption | omega)) | (apply q6; (first | assumption | omega)) | (apply q7; (first | exact rfl | assumption)) | (apply q8; (first | exact rfl | assumption)) | (apply cd_n <;> intro h) | (apply cd_t; (first | exact rfl | assumption)) | (apply cd_f; (first | exact rfl | assumption)) | (apply cd_d <;> intro h) | (apply cd_s <;> intro h))
      | (apply zk; (iterate 4 exact rfl))
      | (apply zc; (iterate 3 exact rfl))
      | (apply zm; (iterate 11 exact rfl))
      | (apply zt; (iterate 3 exact rfl))
      | apply qs
      | apply qq
      | (apply qf; exact Tryz.call80; exact qa9 _ _ (by omega))
      | (apply q4 (n := pre.length + 1); (iterate 5 exact rfl); exact hget))
     refine qi rfl (yu rfl rfl rfl rfl rfl rfl) ⟨?_, xh _ _ _ _⟩
     unfold y0
     rw [hno]
     rfl
   ·rintro _ ⟨h3, t, ext, rfl⟩
    have hal := qew l r fun s hs => hB.val s (by simp [hs])
    have hun : j8 (l :: r) = if 1000 < (accU l r).length then (([], []), 6) else ((jz l, accU l r), 0) := if_pos ⟨by simp, h4, h3⟩
    repeat' (first
     | apply qj
     | apply qc
     | apply qg
     | apply qh
     | apply qb
     | (apply qm; (iterate 3 exact rfl))
     | (apply qe; exact rfl; first | (apply q5; (first | assumption | omega)) | (apply q6; (first | assumption | omega)) | (apply q7; (first | exact rfl | assumption)) | (apply q8; (first | exact rfl | assumption)) | (apply cd_n <;> intro h) | (apply cd_t; (first | exact rfl | assumption)) | (apply cd_f; (first | exact rfl | assumption)) | (apply cd_d <;> intro h) | (apply cd_s <;> intro h))
     | (apply z2; (iterate 3 exact rfl))
     | (apply zk; (iterate 4 exact rfl))
     | (apply zm; (iterate 11 exact rfl))
     | (apply zt; (iterate 3 exact rfl))
     | apply qs
     | apply z6
     | apply qq)
    all_goals refine qi rfl (yu rfl rfl rfl rfl rfl rfl) ⟨?_, xh _ _ _ _⟩
    all_goals unfold y0
    ·rw [hun, if_pos (by omega)]; rfl
    ·rw [hun, if_neg (by omega)]; rfl
   ·rintro pre a rest _ hr ⟨h3, t, ext, rfl⟩
    have hrlen : r.length = pre.length + (rest.length + 1) := by rw [hr]; simp
    have hget : (Sv l :: r.map fun x => Sv x)[pre.length + 1]? = some (Sv a) := by rw [hr]; simp
    have ha := hB.val a (by rw [hr]; simp)
    have hal := qew l pre fun s hs => hB.val s (by rw [hr]; simp [hs])
    by_cases hka : q9 a = 3
    ·obtain ⟨h2, _⟩ := qen hka
     have hd1 : (a.drop 1).length = a.length - 1 := by simp
     repeat' (first
      | apply qj
      | apply qp
      | apply qc
      | apply qg
      | apply qh
      | apply qb
      | (apply qm; (iterate 3 exact rfl))
      | (apply qe; exact rfl; first | (apply q5; (first | assumption | omega)) | (apply q6; (first | assumption | omega)) | (apply q7; (first | exact rfl | assumption)) | (apply q8; (first | exact rfl | assumption)) | (apply cd_n <;> intro h) | (apply cd_t; (first | exact rfl | assumption)) | (apply cd_f; (first | exact rfl | assumption)) | (apply cd_d <;> intro h) | (apply cd_s <;> intro h))
      | (apply zk; (iterate 4 exact rfl))
      | (apply zq; exact rfl; exact rfl; (first | omega | (simp only [List.length_append, List.length_cons, List.length_nil]; omega) | (simp; omega)))
      | (apply zy; exact rfl; exact rfl; exact ql (by omega) (by omega))
      | (apply zc; (iterate 3 exact rfl))
      | (apply j6; (iterate 3 exact rfl); first | assumption | omega | (simp; omega))
      | (apply kf; (iterate 3 exact rfl); first | assumption | omega | (simp; omega))
      | apply qs
      | (apply qf; exact Tryz.call80; exact qa9 _ _ (by omega))
      | (apply q4 (n := pre.length + 1); (iterate 5 exact rfl); exact hget))
     all_goals refine ⟨fun x hx => ?_, qal ⟨rfl, rfl, rfl, ?_, qmh pre a, trivial⟩ rfl⟩
     ·exact qcz h3 hka x hx
     ·exact congrArg (fun l : qa => Sv l) (qmr (hh _ (by omega)) ((qk2 _).1 (by assumption)) : (accU l pre ++ [10]) ++ (a.drop 1).drop 1 = accU l (pre ++ [a]))
     ·exact qcz h3 hka x hx
     ·exact congrArg (fun l : qa => Sv l) (qik (hh _ (by omega)) (fun h' => absurd ((qk2 _).2 h') (by assumption)) : (accU l pre ++ [10]) ++ a.drop 1 = accU l (pre ++ [a]))
    ·have hno : j8 (l :: r) = (([], []), 2) := if_neg fun h => hka (h.2.2 a (by rw [hr]; simp))
     repeat' (first
      | apply qj
      | apply qp
      | apply qc
      | apply qg
      | apply qh
      | apply qb
      | (apply qm; (iterate 3 exact rfl))
      | (apply qe; exact rfl; first | (apply q5; (first | assumption | omega)) | (apply q6; (first | assumption | omega)) | (apply q7; (first | exact rfl | assumption)) | (apply q8; (first | exact rfl | assumption)) | (apply cd_n <;> intro h) | (apply cd_t; (first | exact rfl | assumption)) | (apply cd_f; (first | exact rfl | assumption)) | (apply cd_d <;> intro h) | (apply cd_s <;> intro h))
      | (apply zk; (iterate 4 exact rfl))
      | (apply zc; (iterate 3 exact rfl))
      | (apply zm; (iterate 11 exact rfl))
      | (apply zt; (iterate 3 exact rfl))
      | apply qs
      | apply qq
      | (apply qf; exact Tryz.call80; exact qa9 _ _ (by omega))
      | (apply q4 (n := pre.length + 1); (iterate 5 exact rfl); exact hget))
     refine qi rfl (yu rfl rfl rfl rfl rfl rfl) ⟨?_, xh _ _ _ _⟩
     unfold y0
     rw [hno]
     rfl
  ·have hno : j8 (l :: r) = (([], []), 2) := if_neg fun h => h4 h.2.1
   repeat' (first
    | apply qj
    | apply qc
    | apply qg
    | apply qh
    | apply qb
    | (apply qm; (iterate 3 exact rfl))
    | (apply qo; (iterate 4 exact rfl))
    | (apply jv; (first | assumption | omega))
    | (apply qr; exact rfl; first | (apply jn; (first | assumption | omega)) | (apply jq; (first | assumption | omega)) | (apply jo; (first | exact rfl | assumption)) | (apply jr; (first | exact rfl | assumption)) | (apply pk_t; (first | exact rfl | assumption)) | (apply pk_f; (first | exact rfl | assumption)))
    | (apply qe; exact rfl; first | (apply q5; (first | assumption | omega)) | (apply q6; (first | assumption | omega)) | (apply q7; (first | exact rfl | assumption)) | (apply q8; (first | exact rfl | assumption)) | (apply cd_n <;> intro h) | (apply cd_t; (first | exact rfl | assumption)) | (apply cd_f; (first | exact rfl | assumption)) | (apply cd_d <;> intro h) | (apply cd_s <;> intro h))
    | (apply zk; (iterate 4 exact rfl))
    | (apply zj; exact rfl; exact rfl)
    | (apply zc; (iterate 3 exact rfl))
    | (apply za; (iterate 11 exact rfl))
    | (apply zt; (iterate 3 exact rfl))
    | apply qq
    | (apply qf; exact Tryz.call80; exact qa9 _ _ (by omega))
    | (apply q4 (n := 0); (iterate 6 exact rfl)))
   refine qi rfl (qe7 rfl rfl rfl rfl rfl rfl) ⟨?_, _, rfl⟩
   unfold y0
   rw [hno]
   rfl
end Go.Proofs.YtefmcijohgpfhaaGreatDoor
set_option maxRecDepth 100000
set_option linter.unusedVariables false
namespace Go.Pl
open Go Go.Proofs
structure LnV where
 no : Nat
 at' : Nat
 text : qa
 ended : Bool
def xb (k a : Nat) (l : qa) : List LnV := if h : l = [] then [] else ⟨k, a, upto 10 l, decide (10 ∈ l)⟩ :: xb (k + 1) (a + (upto 10 l).length + 1) (past 10 l)
 termination_by l.length
 decreasing_by exact ye h
def lns (l : qa) : List LnV := xb 0 0 l
theorem qas (k a : Nat) : xb k a [] = [] := by unfold xb; simp
theorem qa0 {k a : Nat} {l : qa} (h : l ≠ []) : xb k a l = ⟨k, a, upto 10 l, decide (10 ∈ l)⟩ :: xb (k + 1) (a + (upto 10 l).length + 1) (past 10 l) := by
 conv => lhs; unfold xb
 rw [dif_neg h]
def whole (l : qa) : Prop := l = [] ∨ l.getLast? = some 10
theorem qww {l : qa} (h : whole l) (hne : l ≠ []) : 10 ∈ l ∧ whole (past 10 l) := by
 have hl : l.getLast? = some 10 := h.resolve_left hne
 have h10 : 10 ∈ l := List.mem_of_getLast? hl
 refine ⟨h10, ?_⟩
 by_cases hp : past 10 l = []
 ·exact .inl hp
 ·refine .inr ?_
  have e := y7 h10
  rw [e] at hl
  rw [List.getLast?_append, List.getLast?_cons] at hl
  cases hg : (past 10 l).getLast? with
  | none => exact absurd (List.getLast?_eq_none_iff.1 hg) hp
  | some c => rw [hg] at hl; simpa using hl
theorem qpb : ∀ (n : Nat) (d x : qa) (k a : Nat), d.length ≤ n → whole d → xb k a (d ++ x) = xb k a d ++ xb (k + (xb k a d).length) (a + d.length) x
 | n, d, x, k, a, hn, hw => by
  by_cases hd : d = []
  ·subst hd
   simp [qas]
  ·obtain ⟨h10, hw'⟩ := qww hw hd
   have e := y7 h10
   have hlt := ye (c := 10) hd
   cases n with
   | zero => omega
   | succ n =>
    have e2 : d ++ x = upto 10 d ++ 10 :: (past 10 d ++ x) := (congrArg (· ++ x) e).trans (by simp)
    have hu : upto 10 (d ++ x) = upto 10 d := by rw [e2]; exact ym _ (qbe 10 d)
    have hp : past 10 (d ++ x) = past 10 d ++ x := by rw [e2]; exact y4 _ (qbe 10 d)
    have hdl : d.length = (upto 10 d).length + 1 + (past 10 d).length := by
     have := congrArg List.length e
     simp at this
     omega
    rw [qa0 (l := d ++ x) (by simp [hd]), qa0 hd, hu, hp, qpb n (past 10 d) x _ _ (by omega) hw']
    have h1 : 10 ∈ d ++ x := by simp [h10]
    simp only [h1, h10, List.cons_append, List.length_cons]
    congr 2
    have e3 : ∀ m : Nat, k + 1 + m = k + (m + 1) := fun m => by omega
    rw [e3]
    congr 1
    omega
theorem q3g {c : qa} (k a : Nat) (h : 10 ∉ c) : xb k a (c ++ [10]) = [⟨k, a, c, true⟩] := by
 rw [qa0 (by simp), ym [] h, y4 [] h, qas]
 simp
theorem q08 {c : qa} (k a : Nat) (h : 10 ∉ c) (hne : c ≠ []) : xb k a c = [⟨k, a, c, false⟩] := by
 rw [qa0 hne, qca h]
 have : past 10 c = [] := by
  unfold past
  rw [qca h]
  simp
 rw [this, qas]
 simp [h]
theorem qfg : ∀ (n : Nat) (l : qa) (k a : Nat), l.length ≤ n → (xb k a l).length ≤ l.length
 | n, l, k, a, hn => by
  by_cases h : l = []
  ·subst h; simp [qas]
  ·have hlt := ye (c := 10) h
   cases n with
   | zero => omega
   | succ n =>
    rw [qa0 h, List.length_cons]
    have := qfg n (past 10 l) (k + 1) (a + (upto 10 l).length + 1) (by omega)
    omega
theorem qqk : ∀ (n : Nat) (l : qa) (k a : Nat), l.length ≤ n → (xb k a l).map (fun x => (x.text, x.ended)) = jm l
 | n, l, k, a, hn => by
  by_cases h : l = []
  ·subst h; simp [qas, x7]
  ·have hlt := ye (c := 10) h
   cases n with
   | zero => omega
   | succ n => rw [qa0 h, x4 h, List.map_cons, qqk n _ _ _ (by omega)]
end Go.Pl
namespace Go.Proofs.YtefmcijohgpfhaaGreatDoor
open Go Go.Av Go.RowKit Go.Proofs Go.Pl
@[reducible] def lnA (x : LnV) : AV := .ag [Iv x.no, Iv x.at', Sv x.text, Bv x.ended]
@[reducible] def lnsA (xs : List LnV) : AV := .sl 4 (xs.map lnA) none
theorem q2i (xs : List LnV) : Pure (lnsA xs) := qdv fun x hx => by
 simp only [List.mem_map] at hx
 obtain ⟨f, _, rfl⟩ := hx
 intro y hy
 simp [AV.cells] at hy
 rcases hy with rfl | rfl | rfl | rfl <;> exact zi _
set_option maxHeartbeats 4000000 in
theorem qwy (l : qa) (st : List AObj) (hl : l.length < 100000000) : qt E 39 [Sv l] st fun r st' => r = lnsA (lns l) ∧ st' = st := by
 refine zg (q2i _) (qv Tryz.func39 rfl (Nat.le_of_ble_eq_true rfl) ?_)
 repeat' (first
  | (apply wh; first | apply qj | apply qp | apply qc | (apply qe; exact rfl; first | (apply q5; (first | assumption | omega)) | (apply q6; (first | assumption | omega)) | (apply q7; (first | exact rfl | assumption)) | (apply q8; (first | exact rfl | assumption)) | (apply cd_n <;> intro h) | (apply cd_t; (first | exact rfl | assumption)) | (apply cd_f; (first | exact rfl | assumption)) | (apply cd_d <;> intro h) | (apply cd_s <;> intro h)) | (apply v4; exact rfl; kernel_rfl) | apply qs | apply z6 | apply qq)
  | (apply vc; first | (apply qo; (iterate 4 exact rfl)) | (apply zw; (iterate 4 exact rfl)))
  | (apply wu; first | (apply vh; (first | assumption | omega)) | (apply jv; (first | assumption | omega)) | (apply jt; (first | assumption | omega)) | (apply ko; (first | assumption | omega)) | (apply vo; (first | exact rfl | assumption)) | (apply j3; (first | exact rfl | assumption)) | (apply jx; (first | exact rfl | assumption)) | (apply kr; (first | exact rfl | assumption)) | (apply kj <;> intro h) | (apply kg; (first | exact rfl | assumption)) | (apply vn; (first | exact rfl | assumption)) | (apply jw; (first | exact rfl | assumption)) | (apply ju; (first | exact rfl | assumption)) | (apply je <;> intro h) | (apply vm <;> intro h))
  | (apply wx; first | apply w7 | (apply wy; (iterate 4 exact rfl)) | (apply xu; exact rfl; exact rfl; exact ql (by omega) (by omega)) | (apply ww; (iterate 4 exact rfl); (first | assumption | omega | (simp; omega)); first | assumption | omega | (simp; omega)) | (apply ke; (iterate 5 exact rfl)) | (apply vp; exact rfl; exact rfl; (first | omega | (simp only [List.length_append, List.length_cons, List.length_nil]; omega) | (simp; omega))) | (apply kp; (iterate 3 exact rfl)) | (apply j7; (iterate 5 exact rfl)) | (apply jb; (iterate 4 exact rfl)) | (apply ja; (iterate 3 exact rfl)) | (apply xk; (iterate 3 exact rfl); first | assumption | omega | (simp; omega)) | (apply wq; exact rfl; exact rfl) | (apply wc; exact rfl; exact rfl) | (apply wb; (iterate 3 exact rfl); omega) | (apply vq; (iterate 3 exact rfl)) | apply wg | apply vk | (apply xo; exact rfl; exact rfl; exact ql (by omega) (by omega)) | (apply wv; (iterate 3 exact rfl)) | (apply wl; (iterate 3 exact rfl); first | assumption | omega | (simp; omega)) | (apply wn; (iterate 3 exact rfl); first | assumption | omega | (simp; omega)) | (apply kv; exact rfl; exact rfl))
  | (apply vb; first | (apply qm; (iterate 3 exact rfl)) | (apply z0; (iterate 3 exact rfl)) | (apply zq; exact rfl; exact rfl; (first | omega | (simp only [List.length_append, List.length_cons, List.length_nil]; omega) | (simp; omega))) | (apply zy; exact rfl; exact rfl; exact ql (by omega) (by omega)) | (apply vl; exact rfl; exact rfl; exact ql (by omega) (by omega)) | (apply zo; exact rfl; exact rfl) | (apply zl; exact rfl; exact rfl) | (apply z8; exact rfl; exact rfl) | (apply jg; exact rfl; exact rfl) | (apply jd; (iterate 3 exact rfl)) | (apply ji; (iterate 3 exact rfl)) | (apply ka; exact rfl; exact rfl; (first | exact qd _ | exact rfl); first | exact qd _ | exact rfl) | (apply km; exact rfl; exact rfl; (first | exact qd _ | exact rfl); first | exact qd _ | exact rfl) | (apply vv; exact rfl; exact rfl; (first | exact qd _ | exact rfl); first | exact qd _ | exact rfl) | (apply j5; (iterate 3 exact rfl)) | (apply kc; (iterate 3 exact rfl)))
  | (apply vr; first | (apply zc; (iterate 3 exact rfl)) | (apply jk; (iterate 5 exact rfl)) | (apply ze; (iterate 5 exact rfl)))
  | (apply vw; first | (apply ku; exact rfl) | (apply z7; exact rfl) | (apply jl; exact rfl))
  | (apply vd; first | (apply vf; (iterate 3 exact rfl); first | assumption | omega | (simp; omega)) | (apply kf; (iterate 3 exact rfl); first | assumption | omega | (simp; omega)) | (apply vj; (iterate 4 exact rfl); (first | assumption | omega | (simp; omega)); first | assumption | omega | (simp; omega)) | (apply jc; (iterate 4 exact rfl); (first | assumption | omega | exact Nat.succ_le_succ (Nat.zero_le _) | (simp; omega)); exact rfl))
  | (apply vz; first | (apply z2; (iterate 3 exact rfl)) | (apply zk; (iterate 4 exact rfl)))
  | (apply jh; first | (apply qu; (iterate 3 exact rfl)) | (apply zn; (iterate 4 exact rfl)))
  | (apply va; first | (apply zm; (iterate 11 exact rfl)) | (apply za; (iterate 11 exact rfl)))
  | (apply we; first | apply qg | apply qh | apply qb | (apply qx; exact rfl; exact rfl) | (apply qr; exact rfl; first | (apply jn; (first | assumption | omega)) | (apply jq; (first | assumption | omega)) | (apply jo; (first | exact rfl | assumption)) | (apply jr; (first | exact rfl | assumption)) | (apply pk_t; (first | exact rfl | assumption)) | (apply pk_f; (first | exact rfl | assumption))) | (apply qy; exact rfl; exact rfl) | apply jj | (apply zj; exact rfl; exact rfl) | (apply j4; (iterate 4 exact rfl)) | (apply kh; (iterate 3 exact rfl)) | (apply j6; (iterate 3 exact rfl); first | assumption | omega | (simp; omega)) | (apply zt; (iterate 3 exact rfl)) | (apply zr; (iterate 9 exact rfl)) | (apply zv; exact rfl; exact rfl) | (apply jy; (iterate 4 exact rfl); (first | assumption | omega | decide); exact rfl) | (apply zx; (iterate 4 exact rfl); first | assumption | omega | decide)))
 refine qx7 (i := 3) (sz := 4) (T' := 82) rfl ?_
 refine qap l (fun pre s => ∃ d c, pre = d ++ c ∧ whole d ∧ 10 ∉ c ∧ StE [(0, Sv l), (3, .sl 4 ((lns d).map lnA) (some (st.length + 0))), (4, Iv d.length), (5, Iv pre.length)] st [.tip (lns d).length 4 82] s) ⟨[], [], rfl, .inl rfl, by simp, qci ⟨rfl, ?_, rfl, rfl, trivial⟩ ?_⟩ ?_ ?_
 ·rw [show lns [] = [] from qas 0 0]; simp; rfl
 ·rw [show lns [] = [] from qas 0 0]; show (st ++ []) ++ [AObj.tip 0 4 _] = _; simp
 ·rintro _ ⟨d, c, hdc, hw, hc, t, ext, rfl⟩
  have hll : l.length = d.length + c.length := by rw [hdc]; simp
  have hcnt := qfg _ d 0 0 (Nat.le_refl _)
  have hcnt' : (lns d).length ≤ d.length := hcnt
  have hml : ((lns d).map lnA).length = (lns d).length := by simp
  have happ : lns l = lns d ++ xb (lns d).length d.length c := by
   unfold lns
   rw [hdc, qpb _ d c 0 0 (Nat.le_refl _) hw]
   simp
  have hfrom : l.drop d.length = c := by rw [hdc]; simp
  repeat' (first
   | (apply wh; first | apply qj | apply qp | apply qc | (apply qe; exact rfl; first | (apply q5; (first | assumption | omega)) | (apply q6; (first | assumption | omega)) | (apply q7; (first | exact rfl | assumption)) | (apply q8; (first | exact rfl | assumption)) | (apply cd_n <;> intro h) | (apply cd_t; (first | exact rfl | assumption)) | (apply cd_f; (first | exact rfl | assumption)) | (apply cd_d <;> intro h) | (apply cd_s <;> intro h)) | (apply v4; exact rfl; kernel_rfl) | apply qs | apply z6 | apply qq)
   | (apply vc; first | (apply qo; (iterate 4 exact rfl)) | (apply zw; (iterate 4 exact rfl)))
   | (apply wu; first | (apply vh; (first | assumption | omega)) | (apply jv; (first | assumption | omega)) | (apply jt; (first | assumption | omega)) | (apply ko; (first | assumption | omega)) | (apply vo; (first | exact rfl | assumption)) | (apply j3; (first | exact rfl | assumption)) | (apply jx; (first | exact rfl | assumption)) | (apply kr; (first | exact rfl | assumption)) | (apply kj <;> intro h) | (apply kg; (first | exact rfl | assumption)) | (apply vn; (first | exact rfl | assumption)) | (apply jw; (first | exact rfl | assumption)) | (apply ju; (first | exact rfl | assumption)) | (apply je <;> intro h) | (apply vm <;> intro h))
   | (apply wx; first | apply w7 | (apply wy; (iterate 4 exact rfl)) | (apply xu; exact rfl; exact rfl; exact ql (by omega) (by omega)) | (apply ww; (iterate 4 exact rfl); (first | assumption | omega | (simp; omega)); first | assumption | omega | (simp; omega)) | (apply ke; (iterate 5 exact rfl)) | (apply vp; exact rfl; exact rfl; (first | omega | (simp only [List.length_append, List.length_cons, List.length_nil]; omega) | (simp; omega))) | (apply kp; (iterate 3 exact rfl)) | (apply j7; (iterate 5 exact rfl)) | (apply jb; (iterate 4 exact rfl)) | (apply ja; (iterate 3 exact rfl)) | (apply xk; (iterate 3 exact rfl); first | assumption | omega | (simp; omega)) | (apply wq; exact rfl; exact rfl) | (apply wc; exact rfl; exact rfl) | (apply wb; (iterate 3 exact rfl); omega) | (apply vq; (iterate 3 exact rfl)) | apply wg | apply vk | (apply xo; exact rfl; exact rfl; exact ql (by omega) (by omega)) | (apply wv; (iterate 3 exact rfl)) | (apply wl; (iterate 3 exact rfl); first | assumption | omega | (simp; omega)) | (apply wn; (iterate 3 exact rfl); first | assumption | omega | (simp; omega)) | (apply kv; exact rfl; exact rfl))
   | (apply vb; first | (apply qm; (iterate 3 exact rfl)) | (apply z0; (iterate 3 exact rfl)) | (apply zq; exact rfl; exact rfl; (first | omega | (simp only [List.length_append, List.length_cons, List.length_nil]; omega) | (simp; omega))) | (apply zy; exact rfl; exact rfl; exact ql (by omega) (by omega)) | (apply vl; exact rfl; exact rfl; exact ql (by omega) (by omega)) | (apply zo; exact rfl; exact rfl) | (apply zl; exact rfl; exact rfl) | (apply z8; exact rfl; exact rfl) | (apply jg; exact rfl; exact rfl) | (apply jd; (iterate 3 exact rfl)) | (apply ji; (iterate 3 exact rfl)) | (apply ka; exact rfl; exact rfl; (first | exact qd _ | exact rfl); first | exact qd _ | exact rfl) | (apply km; exact rfl; exact rfl; (first | exact qd _ | exact rfl); first | exact qd _ | exact rfl) | (apply vv; exact rfl; exact rfl; (first | exact qd _ | exact rfl); first | exact qd _ | exact rfl) | (apply j5; (iterate 3 exact rfl)) | (apply kc; (iterate 3 exact rfl)))
   | (apply vr; first | (apply zc; (iterate 3 exact rfl)) | (apply jk; (iterate 5 exact rfl)) | (apply ze; (iterate 5 exact rfl)))
   | (apply vw; first | (apply ku; exact rfl) | (apply z7; exact rfl) | (apply jl; exact rfl))
   | (apply vd; first | (apply vf; (iterate 3 exact rfl); first | assumption | omega | (simp; omega)) | (apply kf; (iterate 3 exact rfl); first | assumption | omega | (simp; omega)) | (apply vj; (iterate 4 exact rfl); (first | assumption | omega | (simp; omega)); first | assumption | omega | (simp; omega)) | (apply jc; (iterate 4 exact rfl); (first | assumption | omega | exact Nat.succ_le_succ (Nat.zero_le _) | (simp; omega)); exact rfl))
   | (apply vz; first | (apply z2; (iterate 3 exact rfl)) | (apply zk; (iterate 4 exact rfl)))
   | (apply jh; first | (apply qu; (iterate 3 exact rfl)) | (apply zn; (iterate 4 exact rfl)))
   | (apply va; first | (apply zm; (iterate 11 exact rfl)) | (apply za; (iterate 11 exact rfl)))
   | (apply we; first | apply qg | apply qh | apply qb | (apply qx; exact rfl; exact rfl) | (apply qr; exact rfl; first | (apply jn; (first | assumption | omega)) | (apply jq; (first | assumption | omega)) | (apply jo; (first | exact rfl | assumption)) | (apply jr; (first | exact rfl | assumption)) | (apply pk_t; (first | exact rfl | assumption)) | (apply pk_f; (first | exact rfl | assumption))) | (apply qy; exact rfl; exact rfl) | apply jj | (apply zj; exact rfl; exact rfl) | (apply j4; (iterate 4 exact rfl)) | (apply kh; (iterate 3 exact rfl)) | (apply j6; (iterate 3 exact rfl); first | assumption | omega | (simp; omega)) | (apply zt; (iterate 3 exact rfl)) | (apply zr; (iterate 9 exact rfl)) | (apply zv; exact rfl; exact rfl) | (apply jy; (iterate 4 exact rfl); (first | assumption | omega | decide); exact rfl) | (apply zx; (iterate 4 exact rfl); first | assumption | omega | decide))
   | (apply qbf (n := (lns d).length) (m := 1) (sz := 4) (bytes := 40); (iterate 4 exact rfl); exact hml; exact rfl; exact rfl; exact ⟨⟨_, _, rfl, rfl, rfl, rfl, rfl⟩⟩; exact rfl; exact rfl; (unfold maxLen; omega); omega; exact rfl))
  ·have hne : c ≠ [] := fun e => by subst e; simp at hll; omega
   have e : AV.sl 4 ((lns d).map lnA ++ [AV.ag [Iv ((lns d).map lnA).length, Iv d.length, Sv (l.drop d.length), Bv false]]) none = AV.sl 4 ((lns l).map lnA) none := by
    rw [happ, q08 _ _ hc hne, hml, hfrom, List.map_append]
    rfl
   exact qi rfl (qol rfl rfl) ⟨e, xh _ _ _ _⟩
  ·have hce : c = [] := List.length_eq_zero_iff.1 (by omega)
   refine qi rfl (qol rfl rfl) ⟨?_, xh _ _ _ _⟩
   rw [happ, hce, qas, List.append_nil]
 ·rintro pre a rest _ hr ⟨d, c, hdc, hw, hc, t, ext, rfl⟩
  have hlen : l.length = pre.length + (rest.length + 1) := by rw [hr]; simp
  have hpl : pre.length = d.length + c.length := by rw [hdc]; simp
  have hget : l.getD pre.length 0 = a := by rw [hr]; simp
  have hcnt := qfg _ d 0 0 (Nat.le_refl _)
  have hcnt' : (lns d).length ≤ d.length := hcnt
  have hml : ((lns d).map lnA).length = (lns d).length := by simp
  have hsp : (l.take pre.length).drop d.length = c := by rw [hr, List.take_left' rfl, hdc, List.drop_left' rfl]
  repeat' (first
   | (apply wh; first | apply qj | apply qp | apply qc | (apply qe; exact rfl; first | (apply q5; (first | assumption | omega)) | (apply q6; (first | assumption | omega)) | (apply q7; (first | exact rfl | assumption)) | (apply q8; (first | exact rfl | assumption)) | (apply cd_n <;> intro h) | (apply cd_t; (first | exact rfl | assumption)) | (apply cd_f; (first | exact rfl | assumption)) | (apply cd_d <;> intro h) | (apply cd_s <;> intro h)) | (apply v4; exact rfl; kernel_rfl) | apply qs | apply z6 | apply qq)
   | (apply vc; first | (apply qo; (iterate 4 exact rfl)) | (apply zw; (iterate 4 exact rfl)))
   | (apply wu; first | (apply vh; (first | assumption | omega)) | (apply jv; (first | assumption | omega)) | (apply jt; (first | assumption | omega)) | (apply ko; (first | assumption | omega)) | (apply vo; (first | exact rfl | assumption)) | (apply j3; (first | exact rfl | assumption)) | (apply jx; (first | exact rfl | assumption)) | (apply kr; (first | exact rfl | assumption)) | (apply kj <;> intro h) | (apply kg; (first | exact rfl | assumption)) | (apply vn; (first | exact rfl | assumption)) | (apply jw; (first | exact rfl | assumption)) | (apply ju; (first | exact rfl | assumption)) | (apply je <;> intro h) | (apply vm <;> intro h))
   | (apply wx; first | apply w7 | (apply wy; (iterate 4 exact rfl)) | (apply xu; exact rfl; exact rfl; exact ql (by omega) (by omega)) | (apply ww; (iterate 4 exact rfl); (first | assumption | omega | (simp; omega)); first | assumption | omega | (simp; omega)) | (apply ke; (iterate 5 exact rfl)) | (apply vp; exact rfl; exact rfl; (first | omega | (simp only [List.length_append, List.length_cons, List.length_nil]; omega) | (simp; omega))) | (apply kp; (iterate 3 exact rfl)) | (apply j7; (iterate 5 exact rfl)) | (apply jb; (iterate 4 exact rfl)) | (apply ja; (iterate 3 exact rfl)) | (apply xk; (iterate 3 exact rfl); first | assumption | omega | (simp; omega)) | (apply wq; exact rfl; exact rfl) | (apply wc; exact rfl; exact rfl) | (apply wb; (iterate 3 exact rfl); omega) | (apply vq; (iterate 3 exact rfl)) | apply wg | apply vk | (apply xo; exact rfl; exact rfl; exact ql (by omega) (by omega)) | (apply wv; (iterate 3 exact rfl)) | (apply wl; (iterate 3 exact rfl); first | assumption | omega | (simp; omega)) | (apply wn; (iterate 3 exact rfl); first | assumption | omega | (simp; omega)) | (apply kv; exact rfl; exact rfl))
   | (apply vb; first | (apply qm; (iterate 3 exact rfl)) | (apply z0; (iterate 3 exact rfl)) | (apply zq; exact rfl; exact rfl; (first | omega | (simp only [List.length_append, List.length_cons, List.length_nil]; omega) | (simp; omega))) | (apply zy; exact rfl; exact rfl; exact ql (by omega) (by omega)) | (apply vl; exact rfl; exact rfl; exact ql (by omega) (by omega)) | (apply zo; exact rfl; exact rfl) | (apply zl; exact rfl; exact rfl) | (apply z8; exact rfl; exact rfl) | (apply jg; exact rfl; exact rfl) | (apply jd; (iterate 3 exact rfl)) | (apply ji; (iterate 3 exact rfl)) | (apply ka; exact rfl; exact rfl; (first | exact qd _ | exact rfl); first | exact qd _ | exact rfl) | (apply km; exact rfl; exact rfl; (first | exact qd _ | exact rfl); first | exact qd _ | exact rfl) | (apply vv; exact rfl; exact rfl; (first | exact qd _ | exact rfl); first | exact qd _ | exact rfl) | (apply j5; (iterate 3 exact rfl)) | (apply kc; (iterate 3 exact rfl)))
   | (apply vr; first | (apply zc; (iterate 3 exact rfl)) | (apply jk; (iterate 5 exact rfl)) | (apply ze; (iterate 5 exact rfl)))
   | (apply vw; first | (apply ku; exact rfl) | (apply z7; exact rfl) | (apply jl; exact rfl))
   | (apply vd; first | (apply vf; (iterate 3 exact rfl); first | assumption | omega | (simp; omega)) | (apply kf; (iterate 3 exact rfl); first | assumption | omega | (simp; omega)) | (apply vj; (iterate 4 exact rfl); (first | assumption | omega | (simp; omega)); first | assumption | omega | (simp; omega)) | (apply jc; (iterate 4 exact rfl); (first | assumption | omega | exact Nat.succ_le_succ (Nat.zero_le _) | (simp; omega)); exact rfl))
   | (apply vz; first | (apply z2; (iterate 3 exact rfl)) | (apply zk; (iterate 4 exact rfl)))
   | (apply jh; first | (apply qu; (iterate 3 exact rfl)) | (apply zn; (iterate 4 exact rfl)))
   | (apply va; first | (apply zm; (iterate 11 exact rfl)) | (apply za; (iterate 11 exact rfl)))
   | (apply we; first | apply qg | apply qh | apply qb | (apply qx; exact rfl; exact rfl) | (apply qr; exact rfl; first | (apply jn; (first | assumption | omega)) | (apply jq; (first | assumption | omega)) | (apply jo; (first | exact rfl | assumption)) | (apply jr; (first | exact rfl | assumption)) | (apply pk_t; (first | exact rfl | assumption)) | (apply pk_f; (first | exact rfl | assumption))) | (apply qy; exact rfl; exact rfl) | apply jj | (apply zj; exact rfl; exact rfl) | (apply j4; (iterate 4 exact rfl)) | (apply kh; (iterate 3 exact rfl)) | (apply j6; (iterate 3 exact rfl); first | assumption | omega | (simp; omega)) | (apply zt; (iterate 3 exact rfl)) | (apply zr; (iterate 9 exact rfl)) | (apply zv; exact rfl; exact rfl) | (apply jy; (iterate 4 exact rfl); (first | assumption | omega | decide); exact rfl) | (apply zx; (iterate 4 exact rfl); first | assumption | omega | decide))
   | (apply qbf (n := (lns d).length) (m := 1) (sz := 4) (bytes := 40); (iterate 4 exact rfl); exact hml; exact rfl; exact rfl; exact ⟨⟨_, _, rfl, rfl, rfl, rfl, rfl⟩⟩; exact rfl; exact rfl; (unfold maxLen; omega); omega; exact rfl))
  ·have ha : a = 10 := by have h := (qf1 _).1 (by assumption : ((l.getD pre.length 0).toNat : Int) = 10); rw [hget] at h; exact h
   have happ : lns (d ++ (c ++ [10])) = lns d ++ [⟨(lns d).length, d.length, c, true⟩] := by
    unfold lns
    rw [qpb _ d (c ++ [10]) 0 0 (Nat.le_refl _) hw, q3g _ _ hc]
    simp
   refine ⟨d ++ (c ++ [10]), [], by rw [ha, hdc]; simp, .inr (by simp), by simp, qal ⟨rfl, ?_, ?_, qd6 pre a, trivial⟩ ?_⟩
   ·have e : AV.sl 4 ((lns d).map lnA ++ [AV.ag [Iv ((lns d).map lnA).length, Iv d.length, Sv ((l.take pre.length).drop d.length), Bv true]]) (some (st.length + 0)) = AV.sl 4 ((lns (d ++ (c ++ [10]))).map lnA) (some (st.length + 0)) := by
     rw [happ, hml, hsp, List.map_append]
     rfl
    exact e
   ·have e : Iv ((pre.length : Int) + 1) = Iv ((d ++ (c ++ [10])).length : Nat) := by
     have : (d ++ (c ++ [10])).length = pre.length + 1 := by simp; omega
     rw [this]
     rfl
    exact e
   ·rw [happ, qcq]; rfl
  ·have ha : a ≠ 10 := fun e => absurd (by rw [hget]; exact (qf1 _).2 e : ((l.getD pre.length 0).toNat : Int) = 10) (by assumption)
   exact ⟨d, c ++ [a], by rw [hdc]; simp, hw, by simp [hc, Ne.symm ha], qal ⟨rfl, rfl, rfl, qd6 pre a, trivial⟩ rfl⟩
end Go.Proofs.YtefmcijohgpfhaaGreatDoor
set_option maxRecDepth 100000
set_option linter.unusedVariables false
namespace Go.Pl
open Go Go.Proofs
def indF (by' : qa) (ls : List (qa × Bool)) : qa := ls.flatMap fun x => by' ++ x.1 ++ y6 x.2
def qav (by' l : qa) : qa := indF by' (jm l)
theorem qru (by' : qa) (a b : List (qa × Bool)) : indF by' (a ++ b) = indF by' a ++ indF by' b := by simp [indF]
theorem qsr (by' : qa) (x : qa × Bool) : indF by' [x] = by' ++ x.1 ++ y6 x.2 := by simp [indF]
def lsum (ls : List (qa × Bool)) : Nat := (ls.map fun x => x.1.length + (y6 x.2).length).sum
theorem qfj : ∀ (n : Nat) (l : qa), l.length ≤ n → lsum (jm l) = l.length ∧ (jm l).length ≤ l.length
 | n, l, hn => by
  by_cases h : l = []
  ·subst h; simp [x7, lsum]
  ·have hlt := ye (c := 10) h
   cases n with
   | zero => omega
   | succ n =>
    obtain ⟨h1, h2⟩ := qfj n (past 10 l) (by omega)
    rw [x4 h]
    unfold lsum at h1 ⊢
    simp only [List.map_cons, List.sum_cons, List.length_cons]
    rw [h1]
    have hp := wr 10 l
    have hu := wt 10 l
    by_cases h10 : 10 ∈ l
    ·have := qc9 h10
     simp [h10, y6]
     omega
    ·have hu2 : (upto 10 l).length = l.length := by rw [qca h10]
     have hpos := List.length_pos_iff.2 h
     simp [h10, y6]
     omega
theorem qmo (by' : qa) : ∀ (ls : List (qa × Bool)), (indF by' ls).length = lsum ls + by'.length * ls.length
 | [] => by simp [indF, lsum]
 | x :: r => by
  have ih := qmo by' r
  simp only [indF, lsum, List.flatMap_cons, List.length_append, List.map_cons, List.sum_cons, List.length_cons] at ih ⊢
  rw [ih, Nat.mul_add]
  omega
theorem q2j (a b : List (qa × Bool)) : lsum (a ++ b) = lsum a + lsum b := by simp [lsum]
end Go.Pl
namespace Go.Proofs.YtefmcijohgpfhaaGreatDoor
open Go Go.Av Go.RowKit Go.Proofs Go.Pl
theorem q00 (text : List UInt8) (st loc : List AObj) (n : Nat) (hn : loc.length = n) : qt E 72 [Sv text] (st ++ loc) fun r st1 => r = .fn (.func 113) [] [.bx (st.length + n) 0 0] ∧ st1 = st ++ (loc ++ [.cells 0 9 [Sv text]]) :=
 qo6 text (st ++ loc) _ (st.length + n) (by simp [hn]) (by rw [List.append_assoc])
theorem qz5 (b sep : qa) (st : List AObj) (hl : b.length ≤ 140737488355328) : qt E 88 [.sl 1 [Sv b] none, Sv sep] st fun r st' => r = Sv b ∧ st' = st :=
 qo1 [b] none sep b st (by simp [Lib.join, List.intercalate]) (by simp) hl
theorem q4k {st a b ext : List AObj} {m : Nat} (h : ((st ++ a) ++ ext).length = m) (e : b.length = a.length) : ((st ++ b) ++ ext).length = m := by
 simp only [List.length_append] at h ⊢
 omega
set_option maxHeartbeats 2000000 in
theorem q1y (text by' : qa) (st : List AObj) (hl : text.length < 100000000) (hb : by'.length < 1000) : qt E 49 [Sv text, .sl 1 [Sv by'] none] st fun r st' => r = Sv (qav by' text) ∧ st' = st := by
 refine zg (zi _) (qv Tryz.func49 rfl (Nat.le_of_ble_eq_true rfl) ?_)
 obtain ⟨hsum, hcnt⟩ := qfj _ text (Nat.le_refl _)
 repeat' (first
  | (apply qhu; exact rfl)
  | apply qj
  | apply qp
  | apply qc
  | apply qg
  | apply qh
  | apply qb
  | (apply zj; exact rfl; exact rfl)
  | (apply za; (iterate 11 exact rfl))
  | (apply qf; exact Tryz.call88; exact qz5 _ _ _ (by omega))
  | (refine qf Tryz.call72 (q00 _ _ _ _ rfl) ?_))
 refine qpn (st := st) text rfl rfl (by omega) (fun k rest l => ∃ q don, (q = .v (.pointer none) ∨ q = .bx (st.length + 0) 0 0) ∧ jm text = don ++ jm rest ∧ l = [bldO 0 q (indF by' don) (st.length + 1), .tip (indF by' don).length 1 5, .cells 0 9 [Sv by'], .cells 0 9 [Sv text]]) (fun _ _ => False)
  ⟨_, [], .inl rfl, rfl, rfl⟩ (fun k rest l ⟨q, don, _, _, e⟩ => by subst e; exact ⟨rfl, rfl⟩) (fun _ _ h => h.elim) ?_ ?_ (fun _ _ _ h => h.elim)
 ·rintro F own rd k rest _ ext m hF ⟨q, don, hq, hd, rfl⟩ hne hle hm1 hm2
  have hmem : jm rest = (upto 10 rest, decide (10 ∈ rest)) :: jm (past 10 rest) := x4 hne
  have hu := wt 10 rest
  have hlen := qmo by' (don ++ [(upto 10 rest, decide (10 ∈ rest))])
  have he : jm text = (don ++ [(upto 10 rest, decide (10 ∈ rest))]) ++ jm (past 10 rest) := by rw [hd, hmem]; simp
  have hs2 : lsum (don ++ [(upto 10 rest, decide (10 ∈ rest))]) + lsum (jm (past 10 rest)) = text.length := by rw [← q2j, ← he]; exact hsum
  have hc2 : (don ++ [(upto 10 rest, decide (10 ∈ rest))]).length + (jm (past 10 rest)).length ≤ text.length := by rw [← List.length_append, ← he]; exact hcnt
  have hm : by'.length * (don ++ [(upto 10 rest, decide (10 ∈ rest))]).length ≤ 1000 * 100000000 := Nat.mul_le_mul (by omega) (by omega)
  rw [qru, qsr] at hlen
  simp only [List.length_append] at hlen hm hc2
  repeat' (first
   | (apply quq; exact rfl; assumption; exact rfl)
   | (apply qba; exact rfl; assumption; (iterate 10 exact rfl))
   | apply qc
   | apply qg)
  refine ⟨_, rfl, rfl, ?_⟩
  repeat' (first
   | apply qj
   | apply qp
   | apply qc
   | apply qg
   | (apply qe; exact rfl; first | (apply q5; (first | assumption | omega)) | (apply q6; (first | assumption | omega)) | (apply q7; (first | exact rfl | assumption)) | (apply q8; (first | exact rfl | assumption)) | (apply cd_n <;> intro h) | (apply cd_t; (first | exact rfl | assumption)) | (apply cd_f; (first | exact rfl | assumption)) | (apply cd_d <;> intro h) | (apply cd_s <;> intro h))
   | (apply zq; exact rfl; exact rfl; (first | omega | (simp only [List.length_append, List.length_cons, List.length_nil]; omega) | (simp; omega)))
   | (apply qu; (iterate 3 exact rfl))
   | (apply jk; (iterate 5 exact rfl))
   | apply qs
   | (apply qbq; exact rfl; exact q4k hm2 rfl; (iterate 4 exact rfl))
   | (refine qf Tryz.call47 (qix st _ _ _ _ 0 1 0 _ _ _ rfl rfl ?_ ?_ rfl) ?_; (first | exact hq | exact .inr rfl); (simp only [List.length_append, List.length_cons, List.length_nil]; omega)))
  all_goals
   have hx : indF by' (don ++ [(upto 10 rest, decide (10 ∈ rest))]) = (indF by' don ++ (by' ++ upto 10 rest)) ++ y6 (decide (10 ∈ rest)) := by
    rw [qru, qsr]; simp
   refine ⟨[bldO 0 (.bx (st.length + 0) 0 0) (indF by' (don ++ [(upto 10 rest, decide (10 ∈ rest))])) (st.length + 1), .tip (indF by' (don ++ [(upto 10 rest, decide (10 ∈ rest))])).length 1 5, .cells 0 9 [Sv by'], .cells 0 9 [Sv text]], ext, [.cells 0 129 (qc4 k text rest).cells], ?_, _, _, .inr rfl, he, rfl⟩
  ·have h10 : 10 ∈ rest := by simp_all
   rw [hx, show y6 (decide (10 ∈ rest)) = [10] by simp [h10, y6]]
   rfl
  ·have h10 : 10 ∉ rest := by simp_all
   have hx2 : indF by' (don ++ [(upto 10 rest, decide (10 ∈ rest))]) = indF by' don ++ (by' ++ upto 10 rest) := by
    rw [hx]; simp [h10, y6]
   rw [hx2]
   rfl
 ·rintro k _ ext ⟨q, don, hq, hd, rfl⟩
  repeat' (first
   | apply qj
   | apply qc
   | apply qg
   | apply qb
   | apply qq
   | (refine qf Tryz.call50 (qho st _ _ _ _ 0 1 0 _ _ rfl rfl rfl) ?_))
  refine qqy (k := 4) rfl rfl rfl (qi rfl (zf rfl) ⟨congrArg (fun l : qa => Sv l) (?_ : _ = qav by' text), xh _ _ _ _⟩)
  rw [x7, List.append_nil] at hd
  unfold qav
  rw [hd]
end Go.Proofs.YtefmcijohgpfhaaGreatDoor
set_option maxRecDepth 100000
set_option linter.unusedVariables false
namespace Go.Pl
open Go Go.Proofs
def qb2 (x : LnV) : qa × Bool := (x.text, x.ended)
theorem q0g (l : qa) : (lns l).map qb2 = jm l := qqk _ l 0 0 (Nat.le_refl _)
end Go.Pl
set_option linter.unusedVariables false
namespace Go.Av
open Go Go.RowKit
def TipC (b : Nat) (st : List AObj) (sz : Nat) (T : TypeId) (xs : List AV) (c : AV) : Prop := (xs = [] ∧ c = j9) ∨ ∃ t, c = .sl sz xs (some t) ∧ st[t]? = some (.tip xs.length sz T) ∧ b ≤ t
structure Fr (st st' : List AObj) (t : Nat) : Prop where
 len : st.length ≤ st'.length
 same : ∀ k, k ≠ t → k < st.length → st'[k]? = st[k]?
theorem q1n (b : Nat) (st : List AObj) (sz : Nat) (T : TypeId) : TipC b st sz T [] j9 := .inl ⟨rfl, rfl⟩
theorem qgi {b : Nat} {st l : List AObj} {sz : Nat} {T : TypeId} {xs : List AV} {c : AV} (h : TipC b st sz T xs c) : TipC b (st ++ l) sz T xs c := by
 rcases h with h | ⟨t, h1, h2, h3⟩
 ·exact .inl h
 ·exact .inr ⟨t, h1, by rw [List.getElem?_append_left (lt_of_getElem? h2)]; exact h2, h3⟩
section
variable {E : Env} {rd : Option Nat} {N : Nat} {ops : Array Oper} {K : AS → Prop} {s : AS} {rest : List Oper} {d : Option Tmp} {T : TypeId} {p : String} {af : Array Edge}
theorem qt3 {x y : Operand} {t u T' : TypeId} {sz bytes b : Nat} {xs ys : List AV} {tip : Option Nat} {c : AV} {st : List AObj} (hst : s.st = st) (hx : qk N s x = c) (hc : TipC b st sz T' xs c) (hb : b ≤ st.length) (hy : qk N s y = .sl sz ys tip)
  (ht : E.P.underlying t = some (.slice T')) (hu : E.P.underlying u = some (.slice T')) (hT : qdj E.P T' sz bytes) (hone : ya (flat ys) = true) (h63 : xs.length + ys.length ≤ maxLen) (hby : (xs.length + ys.length) * bytes ≤ 140737488355328)
  (h : ∀ t1 st', st'[t1]? = some (.tip (xs ++ ys).length sz T') → b ≤ t1 → Fr st st' t1 → (c = .sl sz xs (some t1) ∨ st.length ≤ t1) → AOps E rd N ops rest K (AS.put ⟨s.t, st', s.df⟩ d (.sl sz (xs ++ ys) (some t1)))) : AOps E rd N ops (⟨d, .call ⟨.builtin .append, #[x, y], #[t, u]⟩, T, p, af, none⟩ :: rest) K s := by
 subst hst
 refine z4 rfl (zz nofun fun B0 w0 G a w _ hI => ?_)
 rcases hc with ⟨hxs, hcn⟩ | ⟨t1, h1, h2, h3⟩
 ·subst hxs
  have hle := G.le_new 0 0 0 false
  have hA := hI.agree.newTip sz T'
  have hv : a.eval x = .slice none 0 0 := hI.evalv (hx.trans hcn)
  have hn := hI.agree.n
  obtain ⟨news, k1, k2, k3⟩ := qcr (P := E.P) hA ((hI.eval_of hy).mono hle) (by simpa [ya] using hone)
  have hr : Rel (G.new 0 0 0 false) (.sl sz [] (some s.st.length)) (a.eval x) := by
   rw [hv]
   exact .sl0 sz _ none 0 fun t ht => by simp only [Option.some.injEq] at ht; subst ht; exact ⟨by simp [Gh.new, hn], rfl, rfl⟩
  obtain ⟨v', w', G', e1, e2, e3, e4⟩ := qbs (ty := T) hA ht hu (.inr ⟨_, rfl⟩) hT (t := s.st.length) (n := 0) (by simp) hr rfl rfl k1 k2 k3 (by simpa using h63) (by simpa using hby)
  refine ⟨v', w', G', _, _, ?_, hle.trans e2, e3, e4, h s.st.length _ ?_ hb ⟨by simp, fun k hk hlt => ?_⟩ (.inr (Nat.le_refl _))⟩
  ·generalize a.eval = ρ at e1
   simp [execOp, resolve, invoke, builtin, e1]
  ·simp
  ·rw [List.getElem?_set_ne (Ne.symm hk), List.getElem?_append_left hlt]
 ·obtain ⟨news, k1, k2, k3⟩ := qcr (P := E.P) hI.agree (hI.eval_of hy) (by simpa [ya] using hone)
  obtain ⟨v', w', G', e1, e2, e3, e4⟩ := qbs (ty := T) hI.agree ht hu (.inr ⟨_, rfl⟩) hT h2 (hI.eval_of (hx.trans h1)) rfl rfl k1 k2 k3 h63 hby
  refine ⟨v', w', G', _, _, ?_, e2, e3, e4, h t1 _ ?_ h3 ⟨by simp, fun k hk hlt => ?_⟩ (.inl h1)⟩
  ·generalize a.eval = ρ at e1
   simp [execOp, resolve, invoke, builtin, e1]
  ·rw [List.length_append]
   exact x3 h2
  ·rw [List.getElem?_set_ne (Ne.symm hk)]
theorem qhl {t : TypeId} {x : Operand} {r : AV} {cs : List AV} (hx : qk N s x = r) (hok : r.okc = true) (hc : r.cells = cs)
  (h : AOps E rd N ops rest K (s.put d (.pp cs))) : AOps E rd N ops (⟨d, .box t x, T, p, af, none⟩ :: rest) K s := by
 refine z4 rfl (zz nofun fun B0 w0 G a w _ hI => ?_)
 have hr := (hI.eval_of hx).cells hok
 rw [hc] at hr
 obtain ⟨hle, hA⟩ := hI.agree.newPub t (a.eval x).cells (0, 0) (a.eval x).cells.toList (fun i y hy => by simpa using hy)
 have hrun : (execOp a.eval ⟨d, .box t x, T, p, af, none⟩).run E.P w = .ok (.value (.pointer (some ⟨w.heap.size, 0, none⟩))) (w.alloc (.cells (a.eval x).cells t)) := by
  generalize a.eval = ρ
  simp [execOp, Instr.box, newVar, newRow, newObj, Sem.run]
 refine ⟨_, _, _, .pp cs, s.st, hrun, hle, hA, .pp cs w.heap.size 0 (a.eval x).cells.toList (by simp [Gh.publish]) (by rw [hr.1]; simp) fun i x y hx hy => (hr.2 i x y hx (by simpa using hy)).mono hle, h⟩
end
theorem qlj {E : Env} {f : FuncId} {x x' : AV} {us : List AV} {st : List AObj} {R : AV → List AObj → Prop} (hw : ∀ G v, Rel G x v → Rel G x' v) (h : qt E f (x' :: us) st R) : qt E f (x :: us) st R :=
 ⟨fun B0 w0 G vals w hL hA hR => h.run B0 w0 G vals w hL hA ⟨by have := hR.1; simpa using this, fun i a b ha hb => by
  cases i with
  | zero => simp at ha; subst ha; exact hw G b (hR.2 0 x b rfl hb)
  | succ i => exact hR.2 (i + 1) a b (by simpa using ha) hb⟩⟩
theorem qb1 {st l : List AObj} {o : Nat} {x : AObj} (h : st[o]? = some x) : (st ++ l)[o]? = some x := by
 rw [List.getElem?_append_left (lt_of_getElem? h)]; exact h
theorem qa3 {st : List AObj} {x : AObj} : (st ++ [x])[st.length]? = some x := by simp
section
variable {E : Env} {rd : Option Nat} {N : Nat} {ops : Array Oper} {K : AS → Prop} {s : AS} {rest : List Oper} {d : Option Tmp} {T : TypeId} {p : String} {af : Array Edge}
theorem qhx {t : TypeId} {st : List AObj} {cs : List AV} (hst : s.st = st) (hz : qf7 E.P t = some cs)
  (h : AOps E rd N ops rest K (AS.put ⟨s.t, st ++ [.cells 0 t cs], s.df⟩ d (.bx st.length 0 0))) : AOps E rd N ops (⟨d, .alloc t, T, p, af, none⟩ :: rest) K s :=
 zj (loc := []) (by rw [hst]; simp) hz h
theorem q0e {t : TypeId} {x : Operand} {st : List AObj} {r : AV} {cs : List AV} (hst : s.st = st) (hx : qk N s x = r) (hok : r.okc = true) (hc : r.cells = cs)
  (h : AOps E rd N ops rest K (AS.put ⟨s.t, st ++ [.cells 0 t cs], s.df⟩ d (.bx st.length 0 0))) : AOps E rd N ops (⟨d, .box t x, T, p, af, none⟩ :: rest) K s :=
 j4 (loc := []) (by rw [hst]; simp) hx hok hc h
end
theorem qob {st st' : List AObj} (hl : st.length ≤ st'.length) (h : ∀ k, k < st.length → st'[k]? = st[k]?) : ∃ ext, st' = st ++ ext := by
 refine ⟨st'.drop st.length, ?_⟩
 apply List.ext_getElem?
 intro k
 by_cases hk : k < st.length
 ·rw [h k hk, List.getElem?_append_left hk]
 ·rw [List.getElem?_append_right (by omega), List.getElem?_drop]
  congr 1
  omega
end Go.Av
set_option linter.unusedVariables false
namespace Go.Proofs.YtefmcijohgpfhaaGreatDoor
open Go Go.Av Go.RowKit Go.Proofs
def qgj (x : Option AObj) : Prop := ∀ n sz T, x ≠ some (.tip n sz T)
theorem qbv {ver : Nat} {T : TypeId} {cs : List AV} {x : Option AObj} (h : x = some (.cells ver T cs)) : qgj x := fun n sz T' e => by
 rw [h] at e
 simp at e
end Go.Proofs.YtefmcijohgpfhaaGreatDoor
set_option maxRecDepth 100000
set_option linter.unusedVariables false
namespace Go.Proofs.YtefmcijohgpfhaaGreatDoor
open Go Go.Av Go.RowKit Go.Proofs Go.Pl
structure Ext (n : Nat) (S S' : List AObj) : Prop where
 len : S.length ≤ S'.length
 low : ∀ k, k < n → S'[k]? = S[k]?
 tips : ∀ (t m sz : Nat) (T : TypeId), S[t]? = some (AObj.tip m sz T) → S'[t]? = S[t]?
theorem qv4 {n : Nat} {S l : List AObj} (h : n ≤ S.length) : Ext n S (S ++ l) := ⟨by simp, fun k hk => List.getElem?_append_left (by omega), fun t m sz T ht => List.getElem?_append_left (lt_of_getElem? ht)⟩
theorem qc5 {n o : Nat} {S : List AObj} {x : AObj} (h : n ≤ o) (hn : qgj S[o]?) : Ext n S (S.set o x) := ⟨by simp, fun k hk => List.getElem?_set_ne (by omega), fun t m sz T ht => List.getElem?_set_ne (fun e => by subst e; exact hn _ _ _ ht)⟩
theorem Ext.weak {n m : Nat} {S S' : List AObj} (h : Ext n S S') (hm : m ≤ n) : Ext m S S' := ⟨h.len, fun k hk => h.low k (by omega), h.tips⟩
theorem Ext.trans {n : Nat} {S S' S'' : List AObj} (h : Ext n S S') (k : Ext n S' S'') : Ext n S S'' := ⟨Nat.le_trans h.len k.len, fun i hi => (k.low i hi).trans (h.low i hi), fun t m sz T ht => (k.tips t m sz T ((h.tips t m sz T ht).trans ht)).trans (h.tips t m sz T ht)⟩
theorem q0b (text : List UInt8) (o kb ver n m : Nat) (I : Nat → List UInt8 → List AObj → Prop) (D : List AObj → Prop) (S : List AObj) (hm : S.length = m) (hn : n ≤ m) (ht : text.length < 4294967281) (h0 : I 0 text S)
  (hI : ∀ k rest S', I k rest S' → S'[kb]? = some (.cells ver 9 [Sv text]))
  (hst : ∀ k rest S' S'', Ext n S' S'' → I k rest S' → I k rest S'')
  (hY : ∀ k rest S' cs, I k rest S' → S'[m]? = some (.cells 0 129 cs) → rest ≠ [] → rest.length ≤ text.length → qam E o [qc4 k text rest] S' fun b S'' => S''[m]? = some (.cells 0 129 cs) ∧ (b = true → I (k + 1) (past 10 rest) S'') ∧ (b = false → D S'')) :
  qt E 113 [.yd o, .bx kb ver 0] S fun r S' => (∃ k, I k [] S') ∨ D S' := by
 subst hm
 refine qv Tryz.func113 rfl (Nat.le_of_ble_eq_true rfl) ?_
 have hb := hI 0 text S h0
 repeat' (first
  | (apply wh; first | apply qj | apply qp | apply qc | (apply qe; exact rfl; first | (apply q5; (first | assumption | omega)) | (apply q6; (first | assumption | omega)) | (apply q7; (first | exact rfl | assumption)) | (apply q8; (first | exact rfl | assumption)) | (apply cd_n <;> intro h) | (apply cd_t; (first | exact rfl | assumption)) | (apply cd_f; (first | exact rfl | assumption)) | (apply cd_d <;> intro h) | (apply cd_s <;> intro h)) | (apply v4; exact rfl; kernel_rfl) | apply qs | apply z6 | apply qq)
  | (apply vc; first | (apply qo; (iterate 4 exact rfl)) | (apply zw; (iterate 4 exact rfl)))
  | (apply wu; first | (apply vh; (first | assumption | omega)) | (apply jv; (first | assumption | omega)) | (apply jt; (first | assumption | omega)) | (apply ko; (first | assumption | omega)) | (apply vo; (first | exact rfl | assumption)) | (apply j3; (first | exact rfl | assumption)) | (apply jx; (first | exact rfl | assumption)) | (apply kr; (first | exact rfl | assumption)) | (apply kj <;> intro h) | (apply kg; (first | exact rfl | assumption)) | (apply vn; (first | exact rfl | assumption)) | (apply jw; (first | exact rfl | assumption)) | (apply ju; (first | exact rfl | assumption)) | (apply je <;> intro h) | (apply vm <;> intro h))
  | (apply wx; first | apply w7 | (apply wy; (iterate 4 exact rfl)) | (apply xu; exact rfl; exact rfl; exact ql (by omega) (by omega)) | (apply ww; (iterate 4 exact rfl); (first | assumption | omega | (simp; omega)); first | assumption | omega | (simp; omega)) | (apply ke; (iterate 5 exact rfl)) | (apply vp; exact rfl; exact rfl; (first | omega | (simp only [List.length_append, List.length_cons, List.length_nil]; omega) | (simp; omega))) | (apply kp; (iterate 3 exact rfl)) | (apply j7; (iterate 5 exact rfl)) | (apply jb; (iterate 4 exact rfl)) | (apply ja; (iterate 3 exact rfl)) | (apply xk; (iterate 3 exact rfl); first | assumption | omega | (simp; omega)) | (apply wq; exact rfl; exact rfl) | (apply wc; exact rfl; exact rfl) | (apply wb; (iterate 3 exact rfl); omega) | (apply vq; (iterate 3 exact rfl)) | apply wg | apply vk | (apply xo; exact rfl; exact rfl; exact ql (by omega) (by omega)) | (apply wv; (iterate 3 exact rfl)) | (apply wl; (iterate 3 exact rfl); first | assumption | omega | (simp; omega)) | (apply wn; (iterate 3 exact rfl); first | assumption | omega | (simp; omega)) | (apply kv; exact rfl; exact rfl))
  | (apply vb; first | (apply qm; (iterate 3 exact rfl)) | (apply z0; (iterate 3 exact rfl)) | (apply zq; exact rfl; exact rfl; (first | omega | (simp only [List.length_append, List.length_cons, List.length_nil]; omega) | (simp; omega))) | (apply zy; exact rfl; exact rfl; exact ql (by omega) (by omega)) | (apply vl; exact rfl; exact rfl; exact ql (by omega) (by omega)) | (apply zo; exact rfl; exact rfl) | (apply zl; exact rfl; exact rfl) | (apply z8; exact rfl; exact rfl) | (apply jg; exact rfl; exact rfl) | (apply jd; (iterate 3 exact rfl)) | (apply ji; (iterate 3 exact rfl)) | (apply ka; exact rfl; exact rfl; (first | exact qd _ | exact rfl); first | exact qd _ | exact rfl) | (apply km; exact rfl; exact rfl; (first | exact qd _ | exact rfl); first | exact qd _ | exact rfl) | (apply vv; exact rfl; exact rfl; (first | exact qd _ | exact rfl); first | exact qd _ | exact rfl) | (apply j5; (iterate 3 exact rfl)) | (apply kc; (iterate 3 exact rfl)))
  | (apply vr; first | (apply zc; (iterate 3 exact rfl)) | (apply jk; (iterate 5 exact rfl)) | (apply ze; (iterate 5 exact rfl)))
  | (apply vw; first | (apply ku; exact rfl) | (apply z7; exact rfl) | (apply jl; exact rfl))
  | (apply vd; first | (apply vf; (iterate 3 exact rfl); first | assumption | omega | (simp; omega)) | (apply kf; (iterate 3 exact rfl); first | assumption | omega | (simp; omega)) | (apply vj; (iterate 4 exact rfl); (first | assumption | omega | (simp; omega)); first | assumption | omega | (simp; omega)) | (apply jc; (iterate 4 exact rfl); (first | assumption | omega | exact Nat.succ_le_succ (Nat.zero_le _) | (simp; omega)); exact rfl))
  | (apply vz; first | (apply z2; (iterate 3 exact rfl)) | (apply zk; (iterate 4 exact rfl)))
  | (apply jh; first | (apply qu; (iterate 3 exact rfl)) | (apply zn; (iterate 4 exact rfl)))
  | (apply va; first | (apply zm; (iterate 11 exact rfl)) | (apply za; (iterate 11 exact rfl)))
  | (apply we; first | apply qg | apply qh | apply qb | (apply qx; exact rfl; exact rfl) | (apply qr; exact rfl; first | (apply jn; (first | assumption | omega)) | (apply jq; (first | assumption | omega)) | (apply jo; (first | exact rfl | assumption)) | (apply jr; (first | exact rfl | assumption)) | (apply pk_t; (first | exact rfl | assumption)) | (apply pk_f; (first | exact rfl | assumption))) | (apply qy; exact rfl; exact rfl) | apply jj | (apply zj; exact rfl; exact rfl) | (apply j4; (iterate 4 exact rfl)) | (apply kh; (iterate 3 exact rfl)) | (apply j6; (iterate 3 exact rfl); first | assumption | omega | (simp; omega)) | (apply zt; (iterate 3 exact rfl)) | (apply zr; (iterate 9 exact rfl)) | (apply zv; exact rfl; exact rfl) | (apply jy; (iterate 4 exact rfl); (first | assumption | omega | decide); exact rfl) | (apply zx; (iterate 4 exact rfl); first | assumption | omega | decide))
  | (apply qcc; exact rfl; exact rfl; exact hb; exact rfl; exact rfl))
 refine xc (fun (x : Nat × List UInt8) s => match x with | (k, rest) => ∃ S' at' ta eb, I k rest S' ∧ k + rest.length ≤ text.length ∧ at' = (text.length : Int) - rest.length ∧ S'[S.length]? = some (.cells 0 129 [Iv k, Iv at', Sv ta, Bv eb]) ∧ StA [(0, .yd o), (1, .bx kb ver 0), (3, .bx S.length 0 0), (4, Sv rest)] S' [] s) (fun x => x.2.length) (0, text)
  ⟨_, 0, [], false, hst _ _ _ _ (qv4 hn) h0, by simp, by simp, vg (k := 0) rfl, x2 ⟨rfl, rfl, rfl, rfl, trivial⟩⟩ ?_
 rintro ⟨k, rest⟩ _ ⟨S', _, ta, eb, hi, hle, rfl, hown, t, rfl⟩
 have hb' := hI k rest S' hi
 repeat' (first
  | (apply wh; first | apply qj | apply qp | apply qc | (apply qe; exact rfl; first | (apply q5; (first | assumption | omega)) | (apply q6; (first | assumption | omega)) | (apply q7; (first | exact rfl | assumption)) | (apply q8; (first | exact rfl | assumption)) | (apply cd_n <;> intro h) | (apply cd_t; (first | exact rfl | assumption)) | (apply cd_f; (first | exact rfl | assumption)) | (apply cd_d <;> intro h) | (apply cd_s <;> intro h)) | (apply v4; exact rfl; kernel_rfl) | apply qs | apply z6 | apply qq)
  | (apply vc; first | (apply qo; (iterate 4 exact rfl)) | (apply zw; (iterate 4 exact rfl)))
  | (apply wu; first | (apply vh; (first | assumption | omega)) | (apply jv; (first | assumption | omega)) | (apply jt; (first | assumption | omega)) | (apply ko; (first | assumption | omega)) | (apply vo; (first | exact rfl | assumption)) | (apply j3; (first | exact rfl | assumption)) | (apply jx; (first | exact rfl | assumption)) | (apply kr; (first | exact rfl | assumption)) | (apply kj <;> intro h) | (apply kg; (first | exact rfl | assumption)) | (apply vn; (first | exact rfl | assumption)) | (apply jw; (first | exact rfl | assumption)) | (apply ju; (first | exact rfl | assumption)) | (apply je <;> intro h) | (apply vm <;> intro h))
  | (apply wx; first | apply w7 | (apply wy; (iterate 4 exact rfl)) | (apply xu; exact rfl; exact rfl; exact ql (by omega) (by omega)) | (apply ww; (iterate 4 exact rfl); (first | assumption | omega | (simp; omega)); first | assumption | omega | (simp; omega)) | (apply ke; (iterate 5 exact rfl)) | (apply vp; exact rfl; exact rfl; (first | omega | (simp only [List.length_append, List.length_cons, List.length_nil]; omega) | (simp; omega))) | (apply kp; (iterate 3 exact rfl)) | (apply j7; (iterate 5 exact rfl)) | (apply jb; (iterate 4 exact rfl)) | (apply ja; (iterate 3 exact rfl)) | (apply xk; (iterate 3 exact rfl); first | assumption | omega | (simp; omega)) | (apply wq; exact rfl; exact rfl) | (apply wc; exact rfl; exact rfl) | (apply wb; (iterate 3 exact rfl); omega) | (apply vq; (iterate 3 exact rfl)) | apply wg | apply vk | (apply xo; exact rfl; exact rfl; exact ql (by omega) (by omega)) | (apply wv; (iterate 3 exact rfl)) | (apply wl; (iterate 3 exact rfl); first | assumption | omega | (simp; omega)) | (apply wn; (iterate 3 exact rfl); first | assumption | omega | (simp; omega)) | (apply kv; exact rfl; exact rfl))
  | (apply vb; first | (apply qm; (iterate 3 exact rfl)) | (apply z0; (iterate 3 exact rfl)) | (apply zq; exact rfl; exact rfl; (first | omega | (simp only [List.length_append, List.length_cons, List.length_nil]; omega) | (simp; omega))) | (apply zy; exact rfl; exact rfl; exact ql (by omega) (by omega)) | (apply vl; exact rfl; exact rfl; exact ql (by omega) (by omega)) | (apply zo; exact rfl; exact rfl) | (apply zl; exact rfl; exact rfl) | (apply z8; exact rfl; exact rfl) | (apply jg; exact rfl; exact rfl) | (apply jd; (iterate 3 exact rfl)) | (apply ji; (iterate 3 exact rfl)) | (apply ka; exact rfl; exact rfl; (first | exact qd _ | exact rfl); first | exact qd _ | exact rfl) | (apply km; exact rfl; exact rfl; (first | exact qd _ | exact rfl); first | exact qd _ | exact rfl) | (apply vv; exact rfl; exact rfl; (first | exact qd _ | exact rfl); first | exact qd _ | exact rfl) | (apply j5; (iterate 3 exact rfl)) | (apply kc; (iterate 3 exact rfl)))
  | (apply vr; first | (apply zc; (iterate 3 exact rfl)) | (apply jk; (iterate 5 exact rfl)) | (apply ze; (iterate 5 exact rfl)))
  | (apply vw; first | (apply ku; exact rfl) | (apply z7; exact rfl) | (apply jl; exact rfl))
  | (apply vd; first | (apply vf; (iterate 3 exact rfl); first | assumption | omega | (simp; omega)) | (apply kf; (iterate 3 exact rfl); first | assumption | omega | (simp; omega)) | (apply vj; (iterate 4 exact rfl); (first | assumption | omega | (simp; omega)); first | assumption | omega | (simp; omega)) | (apply jc; (iterate 4 exact rfl); (first | assumption | omega | exact Nat.succ_le_succ (Nat.zero_le _) | (simp; omega)); exact rfl))
  | (apply vz; first | (apply z2; (iterate 3 exact rfl)) | (apply zk; (iterate 4 exact rfl)))
  | (apply jh; first | (apply qu; (iterate 3 exact rfl)) | (apply zn; (iterate 4 exact rfl)))
  | (apply va; first | (apply zm; (iterate 11 exact rfl)) | (apply za; (iterate 11 exact rfl)))
  | (apply we; first | apply qg | apply qh | apply qb | (apply qx; exact rfl; exact rfl) | (apply qr; exact rfl; first | (apply jn; (first | assumption | omega)) | (apply jq; (first | assumption | omega)) | (apply jo; (first | exact rfl | assumption)) | (apply jr; (first | exact rfl | assumption)) | (apply pk_t; (first | exact rfl | assumption)) | (apply pk_f; (first | exact rfl | assumption))) | (apply qy; exact rfl; exact rfl) | apply jj | (apply zj; exact rfl; exact rfl) | (apply j4; (iterate 4 exact rfl)) | (apply kh; (iterate 3 exact rfl)) | (apply j6; (iterate 3 exact rfl); first | assumption | omega | (simp; omega)) | (apply zt; (iterate 3 exact rfl)) | (apply zr; (iterate 9 exact rfl)) | (apply zv; exact rfl; exact rfl) | (apply jy; (iterate 4 exact rfl); (first | assumption | omega | decide); exact rfl) | (apply zx; (iterate 4 exact rfl); first | assumption | omega | decide))
  | (apply qf; exact Tryz.call36; exact qgq _ _ _ (by omega))
  | (apply w6; exact rfl; (focus first | assumption | (repeat' (first | assumption | exact qa3 | exact vg rfl | apply x3 | apply w8 | omega | apply qb1))); exact rfl; exact rfl)
  | (apply y8; exact rfl; exact rfl; (focus first | assumption | (repeat' (first | assumption | exact qa3 | exact vg rfl | apply x3 | apply w8 | omega | apply qb1))); (iterate 6 exact rfl)))
 ·have e1 : Ext n S' ((S'.set S.length (.cells 0 129 [Iv k, Iv ((text.length : Int) - rest.length), Sv (upto 10 rest), Bv eb])).set S.length (.cells 0 129 [Iv k, Iv ((text.length : Int) - rest.length), Sv (upto 10 rest), Bv (decide (10 ∈ rest))])) :=
   (qc5 hn (qbv hown)).trans (qc5 hn (qbv (x3 hown)))
  apply qem (o := o) rfl
  refine qam.mono (hY k rest _ _ (hst _ _ _ _ e1 hi) (x3 (x3 hown)) h (by omega)) ?_
  rintro b S2 ⟨hown2, h1, h2⟩
  show AOps _ _ _ _ _ _ _
  cases b
  ·skip
   repeat' (first
    | (apply wh; first | apply qj | apply qp | apply qc | (apply qe; exact rfl; first | (apply q5; (first | assumption | omega)) | (apply q6; (first | assumption | omega)) | (apply q7; (first | exact rfl | assumption)) | (apply q8; (first | exact rfl | assumption)) | (apply cd_n <;> intro h) | (apply cd_t; (first | exact rfl | assumption)) | (apply cd_f; (first | exact rfl | assumption)) | (apply cd_d <;> intro h) | (apply cd_s <;> intro h)) | (apply v4; exact rfl; kernel_rfl) | apply qs | apply z6 | apply qq)
    | (apply vc; first | (apply qo; (iterate 4 exact rfl)) | (apply zw; (iterate 4 exact rfl)))
    | (apply wu; first | (apply vh; (first | assumption | omega)) | (apply jv; (first | assumption | omega)) | (apply jt; (first | assumption | omega)) | (apply ko; (first | assumption | omega)) | (apply vo; (first | exact rfl | assumption)) | (apply j3; (first | exact rfl | assumption)) | (apply jx; (first | exact rfl | assumption)) | (apply kr; (first | exact rfl | assumption)) | (apply kj <;> intro h) | (apply kg; (first | exact rfl | assumption)) | (apply vn; (first | exact rfl | assumption)) | (apply jw; (first | exact rfl | assumption)) | (apply ju; (first | exact rfl | assumption)) | (apply je <;> intro h) | (apply vm <;> intro h))
    | (apply wx; first | apply w7 | (apply wy; (iterate 4 exact rfl)) | (apply xu; exact rfl; exact rfl; exact ql (by omega) (by omega)) | (apply ww; (iterate 4 exact rfl); (first | assumption | omega | (simp; omega)); first | assumption | omega | (simp; omega)) | (apply ke; (iterate 5 exact rfl)) | (apply vp; exact rfl; exact rfl; (first | omega | (simp only [List.length_append, List.length_cons, List.length_nil]; omega) | (simp; omega))) | (apply kp; (iterate 3 exact rfl)) | (apply j7; (iterate 5 exact rfl)) | (apply jb; (iterate 4 exact rfl)) | (apply ja; (iterate 3 exact rfl)) | (apply xk; (iterate 3 exact rfl); first | assumption | omega | (simp; omega)) | (apply wq; exact rfl; exact rfl) | (apply wc; exact rfl; exact rfl) | (apply wb; (iterate 3 exact rfl); omega) | (apply vq; (iterate 3 exact rfl)) | apply wg | apply vk | (apply xo; exact rfl; exact rfl; exact ql (by omega) (by omega)) | (apply wv; (iterate 3 exact rfl)) | (apply wl; (iterate 3 exact rfl); first | assumption | omega | (simp; omega)) | (apply wn; (iterate 3 exact rfl); first | assumption | omega | (simp; omega)) | (apply kv; exact rfl; exact rfl))
    | (apply vb; first | (apply qm; (iterate 3 exact rfl)) | (apply z0; (iterate 3 exact rfl)) | (apply zq; exact rfl; exact rfl; (first | omega | (simp only [List.length_append, List.length_cons, List.length_nil]; omega) | (simp; omega))) | (apply zy; exact rfl; exact rfl; exact ql (by omega) (by omega)) | (apply vl; exact rfl; exact rfl; exact ql (by omega) (by omega)) | (apply zo; exact rfl; exact rfl) | (apply zl; exact rfl; exact rfl) | (apply z8; exact rfl; exact rfl) | (apply jg; exact rfl; exact rfl) | (apply jd; (iterate 3 exact rfl)) | (apply ji; (iterate 3 exact rfl)) | (apply ka; exact rfl; exact rfl; (first | exact qd _ | exact rfl); first | exact qd _ | exact rfl) | (apply km; exact rfl; exact rfl; (first | exact qd _ | exact rfl); first | exact qd _ | exact rfl) | (apply vv; exact rfl; exact rfl; (first | exact qd _ | exact rfl); first | exact qd _ | exact rfl) | (apply j5; (iterate 3 exact rfl)) | (apply kc; (iterate 3 exact rfl)))
    | (apply vr; first | (apply zc; (iterate 3 exact rfl)) | (apply jk; (iterate 5 exact rfl)) | (apply ze; (iterate 5 exact rfl)))
    | (apply vw; first | (apply ku; exact rfl) | (apply z7; exact rfl) | (apply jl; exact rfl))
    | (apply vd; first | (apply vf; (iterate 3 exact rfl); first | assumption | omega | (simp; omega)) | (apply kf; (iterate 3 exact rfl); first | assumption | omega | (simp; omega)) | (apply vj; (iterate 4 exact rfl); (first | assumption | omega | (simp; omega)); first | assumption | omega | (simp; omega)) | (apply jc; (iterate 4 exact rfl); (first | assumption | omega | exact Nat.succ_le_succ (Nat.zero_le _) | (simp; omega)); exact rfl))
    | (apply vz; first | (apply z2; (iterate 3 exact rfl)) | (apply zk; (iterate 4 exact rfl)))
    | (apply jh; first | (apply qu; (iterate 3 exact rfl)) | (apply zn; (iterate 4 exact rfl)))
    | (apply va; first | (apply zm; (iterate 11 exact rfl)) | (apply za; (iterate 11 exact rfl)))
    | (apply we; first | apply qg | apply qh | apply qb | (apply qx; exact rfl; exact rfl) | (apply qr; exact rfl; first | (apply jn; (first | assumption | omega)) | (apply jq; (first | assumption | omega)) | (apply jo; (first | exact rfl | assumption)) | (apply jr; (first | exact rfl | assumption)) | (apply pk_t; (first | exact rfl | assumption)) | (apply pk_f; (first | exact rfl | assumption))) | (apply qy; exact rfl; exact rfl) | apply jj | (apply zj; exact rfl; exact rfl) | (apply j4; (iterate 4 exact rfl)) | (apply kh; (iterate 3 exact rfl)) | (apply j6; (iterate 3 exact rfl); first | assumption | omega | (simp; omega)) | (apply zt; (iterate 3 exact rfl)) | (apply zr; (iterate 9 exact rfl)) | (apply zv; exact rfl; exact rfl) | (apply jy; (iterate 4 exact rfl); (first | assumption | omega | decide); exact rfl) | (apply zx; (iterate 4 exact rfl); first | assumption | omega | decide)))
   exact qi rfl (qa7 rfl) (.inr (h2 rfl))
  ·have hi3 := h1 rfl
   have hb3 := hI _ _ _ hi3
   have hp := wr 10 rest
   have hr0 : 0 < rest.length := List.length_pos_iff.2 h
   have hkb : kb ≠ S.length := fun e => by
    rw [e, hown2] at hb3
    simp at hb3
   repeat' (first
    | (apply wh; first | apply qj | apply qp | apply qc | (apply qe; exact rfl; first | (apply q5; (first | assumption | omega)) | (apply q6; (first | assumption | omega)) | (apply q7; (first | exact rfl | assumption)) | (apply q8; (first | exact rfl | assumption)) | (apply cd_n <;> intro h) | (apply cd_t; (first | exact rfl | assumption)) | (apply cd_f; (first | exact rfl | assumption)) | (apply cd_d <;> intro h) | (apply cd_s <;> intro h)) | (apply v4; exact rfl; kernel_rfl) | apply qs | apply z6 | apply qq)
    | (apply vc; first | (apply qo; (iterate 4 exact rfl)) | (apply zw; (iterate 4 exact rfl)))
    | (apply wu; first | (apply vh; (first | assumption | omega)) | (apply jv; (first | assumption | omega)) | (apply jt; (first | assumption | omega)) | (apply ko; (first | assumption | omega)) | (apply vo; (first | exact rfl | assumption)) | (apply j3; (first | exact rfl | assumption)) | (apply jx; (first | exact rfl | assumption)) | (apply kr; (first | exact rfl | assumption)) | (apply kj <;> intro h) | (apply kg; (first | exact rfl | assumption)) | (apply vn; (first | exact rfl | assumption)) | (apply jw; (first | exact rfl | assumption)) | (apply ju; (first | exact rfl | assumption)) | (apply je <;> intro h) | (apply vm <;> intro h))
    | (apply wx; first | apply w7 | (apply wy; (iterate 4 exact rfl)) | (apply xu; exact rfl; exact rfl; exact ql (by omega) (by omega)) | (apply ww; (iterate 4 exact rfl); (first | assumption | omega | (simp; omega)); first | assumption | omega | (simp; omega)) | (apply ke; (iterate 5 exact rfl)) | (apply vp; exact rfl; exact rfl; (first | omega | (simp only [List.length_append, List.length_cons, List.length_nil]; omega) | (simp; omega))) | (apply kp; (iterate 3 exact rfl)) | (apply j7; (iterate 5 exact rfl)) | (apply jb; (iterate 4 exact rfl)) | (apply ja; (iterate 3 exact rfl)) | (apply xk; (iterate 3 exact rfl); first | assumption | omega | (simp; omega)) | (apply wq; exact rfl; exact rfl) | (apply wc; exact rfl; exact rfl) | (apply wb; (iterate 3 exact rfl); omega) | (apply vq; (iterate 3 exact rfl)) | apply wg | apply vk | (apply xo; exact rfl; exact rfl; exact ql (by omega) (by omega)) | (apply wv; (iterate 3 exact rfl)) | (apply wl; (iterate 3 exact rfl); first | assumption | omega | (simp; omega)) | (apply wn; (iterate 3 exact rfl); first | assumption | omega | (simp; omega)) | (apply kv; exact rfl; exact rfl))
    | (apply vb; first | (apply qm; (iterate 3 exact rfl)) | (apply z0; (iterate 3 exact rfl)) | (apply zq; exact rfl; exact rfl; (first | omega | (simp only [List.length_append, List.length_cons, List.length_nil]; omega) | (simp; omega))) | (apply zy; exact rfl; exact rfl; exact ql (by omega) (by omega)) | (apply vl; exact rfl; exact rfl; exact ql (by omega) (by omega)) | (apply zo; exact rfl; exact rfl) | (apply zl; exact rfl; exact rfl) | (apply z8; exact rfl; exact rfl) | (apply jg; exact rfl; exact rfl) | (apply jd; (iterate 3 exact rfl)) | (apply ji; (iterate 3 exact rfl)) | (apply ka; exact rfl; exact rfl; (first | exact qd _ | exact rfl); first | exact qd _ | exact rfl) | (apply km; exact rfl; exact rfl; (first | exact qd _ | exact rfl); first | exact qd _ | exact rfl) | (apply vv; exact rfl; exact rfl; (first | exact qd _ | exact rfl); first | exact qd _ | exact rfl) | (apply j5; (iterate 3 exact rfl)) | (apply kc; (iterate 3 exact rfl)))
    | (apply vr; first | (apply zc; (iterate 3 exact rfl)) | (apply jk; (iterate 5 exact rfl)) | (apply ze; (iterate 5 exact rfl)))
    | (apply vw; first | (apply ku; exact rfl) | (apply z7; exact rfl) | (apply jl; exact rfl))
    | (apply vd; first | (apply vf; (iterate 3 exact rfl); first | assumption | omega | (simp; omega)) | (apply kf; (iterate 3 exact rfl); first | assumption | omega | (simp; omega)) | (apply vj; (iterate 4 exact rfl); (first | assumption | omega | (simp; omega)); first | assumption | omega | (simp; omega)) | (apply jc; (iterate 4 exact rfl); (first | assumption | omega | exact Nat.succ_le_succ (Nat.zero_le _) | (simp; omega)); exact rfl))
    | (apply vz; first | (apply z2; (iterate 3 exact rfl)) | (apply zk; (iterate 4 exact rfl)))
    | (apply jh; first | (apply qu; (iterate 3 exact rfl)) | (apply zn; (iterate 4 exact rfl)))
    | (apply va; first | (apply zm; (iterate 11 exact rfl)) | (apply za; (iterate 11 exact rfl)))
    | (apply we; first | apply qg | apply qh | apply qb | (apply qx; exact rfl; exact rfl) | (apply qr; exact rfl; first | (apply jn; (first | assumption | omega)) | (apply jq; (first | assumption | omega)) | (apply jo; (first | exact rfl | assumption)) | (apply jr; (first | exact rfl | assumption)) | (apply pk_t; (first | exact rfl | assumption)) | (apply pk_f; (first | exact rfl | assumption))) | (apply qy; exact rfl; exact rfl) | apply jj | (apply zj; exact rfl; exact rfl) | (apply j4; (iterate 4 exact rfl)) | (apply kh; (iterate 3 exact rfl)) | (apply j6; (iterate 3 exact rfl); first | assumption | omega | (simp; omega)) | (apply zt; (iterate 3 exact rfl)) | (apply zr; (iterate 9 exact rfl)) | (apply zv; exact rfl; exact rfl) | (apply jy; (iterate 4 exact rfl); (first | assumption | omega | decide); exact rfl) | (apply zx; (iterate 4 exact rfl); first | assumption | omega | decide))
    | (apply w6; exact rfl; exact w8 hb3 (Ne.symm hkb); exact rfl; exact rfl)
    | (apply w6; exact rfl; (focus first | assumption | (repeat' (first | assumption | exact qa3 | exact vg rfl | apply x3 | apply w8 | omega | apply qb1))); exact rfl; exact rfl)
    | (apply y8; exact rfl; exact rfl; (focus first | assumption | (repeat' (first | assumption | exact qa3 | exact vg rfl | apply x3 | apply w8 | omega | apply qb1))); (iterate 6 exact rfl)))
   have e2 : Ext n S2 _ := (qc5 hn (qbv hown2)).trans (qc5 (x := .cells 0 129 [Iv ((k : Int) + 1), Iv ((text.length : Int) - (past 10 rest).length), Sv (upto 10 rest), Bv (decide (10 ∈ rest))]) hn (qbv (x3 (y := .cells 0 129 [Iv ((k : Int) + 1), Iv ((text.length : Int) - rest.length), Sv (upto 10 rest), Bv (decide (10 ∈ rest))]) hown2)))
   exact ⟨(k + 1, past 10 rest), ⟨_, _, _, _, hst _ _ _ _ e2 hi3, by omega, rfl, x3 (x3 hown2), x2 ⟨rfl, rfl, rfl, rfl, trivial⟩⟩, by simp only; omega⟩
 ·have hr : rest = [] := Classical.not_not.1 h
  subst hr
  exact qi rfl (qa7 rfl) (.inl ⟨k, hi⟩)
structure ItC (g : FuncId) (T : TypeId) (cs : List AV) {ι : Type} (Y : ι → Option (AV × ι)) (i0 : ι) : Prop where
 run : ∀ (o kb n m : Nat) (I : ι → List AObj → Prop) (D : List AObj → Prop) (S : List AObj), S.length = m → n ≤ m → I i0 S →
  (∀ i S', I i S' → S'[kb]? = some (.cells 0 T cs)) → (∀ i S' S'', Ext n S' S'' → I i S' → I i S'') →
  (∀ i x j S' (own : List AObj), I i S' → (∀ k y, own[k]? = some y → S'[m + k]? = some y ∧ qgj (some y)) → Y i = some (x, j) → qam E o [x] S' fun b S'' => (∀ k y, own[k]? = some y → S''[m + k]? = some y) ∧ (b = true → I j S'') ∧ (b = false → D S'')) →
  qt E g [.yd o, .bx kb 0 0] S fun r S' => (∃ i, Y i = none ∧ I i S') ∨ D S'
def qjz (text : List UInt8) : Nat × List UInt8 → Option (AV × (Nat × List UInt8))
 | (k, rest) => if rest = [] ∨ text.length < rest.length then none else some (qc4 k text rest, (k + 1, past 10 rest))
theorem q2e (text : List UInt8) (ht : text.length < 4294967281) : ItC 113 9 [Sv text] (qjz text) (0, text) := ⟨fun o kb n m I D S hm hn h0 hI hst hY => by
 refine (q0b text o kb 0 n m (fun k rest S => I (k, rest) S ∧ rest.length ≤ text.length) D S hm hn ht ⟨h0, Nat.le_refl _⟩ (fun k rest S' h => hI _ _ h.1) (fun k rest S' S'' hE h => ⟨hst _ _ _ hE h.1, h.2⟩) (fun k rest S' cs hi hown hne hle => ?_)).mono ?_
 ·refine (hY (k, rest) (qc4 k text rest) (k + 1, past 10 rest) S' [.cells 0 129 cs] hi.1 (fun j y hy => ?_) (if_neg fun h => h.elim hne (by omega))).mono fun b S'' ⟨h1, h2, h3⟩ => ⟨by have := h1 0 _ rfl; simpa using this, fun hb => ⟨h2 hb, by have := wr 10 rest; omega⟩, h3⟩
  match j with
  | 0 =>
   simp only [List.getElem?_cons_zero, Option.some.injEq] at hy
   subst hy
   exact ⟨hown, qbv rfl⟩
  | j + 1 => simp at hy
 ·rintro r S' (⟨k, h⟩ | h)
  ·exact .inl ⟨(k, []), by simp [qjz], h.1⟩
  ·exact .inr h⟩
@[reducible] def q4z (n : Nat) (F : LoopState → Option Code → AObj) (own : List AObj) (I : List AObj → Prop) (D : Code → List AObj → Prop) : Exit → AS → Prop
 | .normal, s => s.st[n]? = some .dfr ∧ s.st[n + 1]? = some (F .busy none) ∧ (∀ k y, own[k]? = some y → s.st[n + 2 + k]? = some y) ∧ I s.st
 | .ret, s => s.st[n]? = some .dfr ∧ s.st[n + 1]? = some (F .busy none) ∧ (∀ k y, own[k]? = some y → s.st[n + 2 + k]? = some y) ∧ D .ret s.st
 | .exit id, s => s.st[n]? = some .dfr ∧ s.st[n + 1]? = some (F .busy none) ∧ (∀ k y, own[k]? = some y → s.st[n + 2 + k]? = some y) ∧ D (.exit id) s.st
 | _, _ => False
theorem qgc {N : Nat} {t : Nat → AV} {ps : Array Tmp} {asg body : Code} {F : LoopState → Option Code → AObj} (hF : qiy F N t ps asg body) (ls : LoopState) (pend : Option Code) {x : Option AObj} (h : x = some (F ls pend)) : qgj x := fun n sz T' e => by
 rw [h, hF] at e
 simp at e
theorem qrh {N : Nat} {Q : Exit → AS → Prop} {s : AS} {f : Operand} {p : Tmp} {asg body : Code} {S0 : List AObj} {kb : Nat} {g : FuncId} {T : TypeId} {cs : List AV} {ι : Type} {Y : ι → Option (AV × ι)} {i0 : ι} (hit : ItC g T cs Y i0) (hst : s.st = S0) (hx : qk N s f = .fn (.func g) [] [.bx kb 0 0])
  (hrun : ∀ vs w, (callFunc g vs).run E.P w = .ok (.enter g vs) w)
  (I : ι → List AObj → Prop) (D : Code → List AObj → Prop) (h0 : I i0 S0)
  (hI : ∀ i S, I i S → S[kb]? = some (.cells 0 T cs))
  (hs1 : ∀ i S S', Ext S0.length S S' → I i S → I i S') (hs2 : ∀ c S S', Ext S0.length S S' → D c S → D c S')
  (hb : ∀ F (own : List AObj) rd i x j S, qiy F N s.t #[p] asg body → I i S → Y i = some (x, j) → S[S0.length]? = some .dfr → S[S0.length + 1]? = some (F .ready none) → (∀ k y, own[k]? = some y → S[S0.length + 2 + k]? = some y ∧ qgj (some y)) →
   AWp E (some rd) N asg (only fun s1 => s1.st[S0.length + 1]? = some (F .ready none) ∧ s1.df = [] ∧ AWp E (some rd) N body (q4z S0.length F own (I j) D) ⟨s1.t, s1.st.set (S0.length + 1) (F .busy none), []⟩) ⟨put s.t p x, S, []⟩)
  (hn : ∀ i S, Y i = none → I i S → S[S0.length]? = some .dfr → Q .normal ⟨s.t, S, S0.length :: s.df⟩)
  (hd : ∀ c S, D c S → S[S0.length]? = some .dfr → AWp E none N c Q ⟨s.t, S, S0.length :: s.df⟩) : AWp E none N (.rangeFunc f #[p] asg body) Q s := by
 refine qiv (st := S0) (loc := []) (by rw [hst]; simp) hx hrun fun F hF => ?_
 have hl : (S0 ++ ([] ++ [AObj.dfr, F .ready none])).length = S0.length + 2 := by simp
 have g1 : (S0 ++ ([] ++ [AObj.dfr, F .ready none]))[S0.length]? = some .dfr := by simp
 have g2 : (S0 ++ ([] ++ [AObj.dfr, F .ready none]))[S0.length + 1]? = some (F .ready none) := by simp
 have hz : S0.length + (([] : List AObj).length + 1) = S0.length + 1 := by simp
 rw [hz, show S0.length + ([] : List AObj).length = S0.length from rfl]
 refine qt.mono (hit.run (S0.length + 1) kb (S0.length + 2) (S0.length + 2) (fun i S => I i S ∧ S[S0.length]? = some .dfr ∧ S[S0.length + 1]? = some (F .ready none)) (fun S => ∃ c, D c S ∧ S[S0.length]? = some .dfr ∧ S[S0.length + 1]? = some (F .done (some c))) (S0 ++ ([] ++ [.dfr, F .ready none])) hl (Nat.le_refl _) ⟨hs1 _ _ _ (qv4 (Nat.le_refl _)) h0, g1, g2⟩ (fun i S h => hI i S h.1) (fun i S S' hE h => ⟨hs1 _ _ _ (hE.weak (by omega)) h.1, (hE.low _ (by omega)).trans h.2.1, (hE.low _ (by omega)).trans h.2.2⟩) ?_) ?_
 ·rintro i x j S' own ⟨hi, hd1, hf1⟩ hown hy
  refine qm1 hF hf1 rfl fun rd => ?_
  refine (hb F own rd i x j S' hF hi hy hd1 hf1 hown).mono fun e s1 hq => ?_
  have fin : ∀ {S : List AObj} {z : AObj}, (∀ k y, own[k]? = some y → S[S0.length + 2 + k]? = some y) → ∀ k y, own[k]? = some y → (S.set (S0.length + 1) z)[S0.length + 2 + k]? = some y := fun h k y hk => w8 (h k y hk) (by omega)
  cases e with
  | normal =>
   obtain ⟨q1, q2, q3⟩ := hq
   refine ⟨q1, q2, q3.mono fun e s2 hq2 => ?_⟩
   cases e with
   | normal =>
    obtain ⟨k1, k2, k3, k4⟩ := hq2
    exact ⟨k2, fin k3, fun _ => ⟨hs1 _ _ _ (qc5 (by omega) (qgc hF _ _ k2)) k4, w8 k1 (by omega), x3 k2⟩, nofun⟩
   | ret =>
    obtain ⟨k1, k2, k3, k4⟩ := hq2
    exact ⟨k2, fin k3, nofun, fun _ => ⟨_, hs2 _ _ _ (qc5 (by omega) (qgc hF _ _ k2)) k4, w8 k1 (by omega), x3 k2⟩⟩
   | exit id =>
    obtain ⟨k1, k2, k3, k4⟩ := hq2
    exact ⟨k2, fin k3, nofun, fun _ => ⟨_, hs2 _ _ _ (qc5 (by omega) (qgc hF _ _ k2)) k4, w8 k1 (by omega), x3 k2⟩⟩
   | _ => exact hq2.elim
  | _ => exact hq.elim
 ·rintro r S' (⟨i, hy, hi, hd1, hf1⟩ | ⟨c, hi, hd1, hf1⟩)
  ·exact ⟨.ready, none, nofun, hf1, hn i _ hy (hs1 _ _ _ (qc5 (by omega) (qgc hF _ _ hf1)) hi) (w8 hd1 (by omega))⟩
  ·exact ⟨.done, some c, nofun, hf1, hd c _ (hs2 _ _ _ (qc5 (by omega) (qgc hF _ _ hf1)) hi) (w8 hd1 (by omega))⟩
end Go.Proofs.YtefmcijohgpfhaaGreatDoor
set_option linter.unusedVariables false
namespace Go.Av
open Go Go.RowKit
theorem qna {P : Program} {B0 : Nat} {w0 : World} {G : Gh} {st : List AObj} {w : World} (hA : jf B0 w0 G st w) {tt u ty T : TypeId} {du : TypeDesc} (htt : P.underlying tt = some (.slice T)) (hu : P.underlying u = some du) (hd : qhz du)
  {sz bytes : Nat} (hT : qdj P T sz bytes) {t n m : Nat} (ht : st[t]? = some (.tip n sz T)) {xs ys : List AV} {x : Value} (hn : xs.length = n) (hm : ys.length = m)
  {news : List Value} (hx : Src P w x m sz news) (hys : ∀ y ∈ ys, y.cells.length = sz) (hrel : ∀ (i : Nat) (a : AV) (b : Value), (flat ys)[i]? = some a → news[i]? = some b → Rel G a b)
  (h63 : n + m ≤ maxLen) (base : Option Addr) (c : Nat) (olds : List Value) (ho : (Builtin.firstCells sz n (.slice base n c)).run P w.drew = .ok olds.toArray w.drew) (hc : c < n + m) (hol : olds.length = n * sz) (hfx : (flat xs).length = n * sz) (hwx : ∀ x ∈ xs, x.cells.length = sz)
  (hrx : ∀ (j : Nat) (a : AV) (b : Value), (flat xs)[j]? = some a → olds[j]? = some b → Rel G a b) (hfit : Builtin.nextslicecap (n + m) c * bytes ≤ 281474976710656) (hm0 : m ≠ 0) :
  ∃ v' w' G', (Builtin.append_ #[tt, u] ty #[.slice base n c, x]).run P w = .ok v' w' ∧ G.le G' ∧ jf B0 w0 G' (st.set t (.tip (n + m) sz T)) w' ∧ Rel G' (.sl sz (xs ++ ys) (some t)) v' := by
 obtain ⟨i, z, hi, hz, rfl, rfl, hzs⟩ := hT.ex
 obtain ⟨hraw, hver, htip⟩ := hA.ob t _ ht
 have htn : t < G.n := by rw [hA.n]; exact lt_of_getElem? ht
 have hlt : G.n = st.length := hA.n
 have hk := hA.kill t
 have hkt : (st.set t .dead)[t]? = some .dead := qgh ht
 have hother : ∀ o x, (st.set t .dead)[o]? = some x → x.live → o ≠ t ∧ st[o]? = some x := fun o x hx hl => by
  rcases getElem?_set' _ _ _ _ _ hx with ⟨_, e⟩ | ⟨h1, h2⟩
  ·subst e; exact hl.elim
  ·exact ⟨h1, h2⟩
 have hset : (st.set t AObj.dead).set t (.tip (n + m) i.size T) = st.set t (.tip (n + m) i.size T) := by rw [List.set_set]
 have hself : st.set t (.tip n i.size T) = st := by
  apply List.ext_getElem?
  intro k
  by_cases e : t = k
  ·subst e; rw [List.getElem?_set_self (lt_of_getElem? ht)]; exact ht.symm
  ·rw [List.getElem?_set_ne e]
 have hrun := qkg (ty := ty) htt hu hd hi hz hx base n c olds ho hc (by simp only [maxLen] at h63; omega) hfit
 have hge := grownCap_ge w (n + m) c T
 have hle := grownCap_le_maxLen w (n + m) c T h63
 generalize grownCap w (n + m) c T = cap at hrun hge hle
 have hsz : (olds.toArray ++ news.toArray ++ Builtin.zeroCells z.cells (cap - (n + m))).size = cap * i.size := by
  simp only [Array.size_append, List.size_toArray, size_zeroCells, hzs, hol, hx.count, ← Nat.add_mul]
  congr 1
  omega
 generalize hcv : olds.toArray ++ news.toArray ++ Builtin.zeroCells z.cells (cap - (n + m)) = c' at hrun hsz
 have hdrew : Below w.heap.size w w.drew := ⟨rfl, rfl, rfl, Nat.le_refl _, fun _ _ => rfl⟩
 have hA1 := hk.fresh hdrew
 have hpre : ∀ (j : Nat) (y : Value), (olds ++ news)[j]? = some y → c'[j]? = some y := fun j y hy => by
  have hj := lt_of_getElem? hy
  rw [← hcv, Array.getElem?_append_left (by simp at hj ⊢; omega), List.append_toArray]
  simpa using hy
 obtain ⟨hle1, hA2⟩ := hA1.newPub T c' (0, 0) (olds ++ news) hpre
 have hnp : G.pub w.heap.size = none := by
  cases hp : G.pub w.heap.size with
  | none => rfl
  | some vs => exact absurd (hA.pub_lt hp) (Nat.lt_irrefl _)
 obtain ⟨hle2, hA3⟩ := hA2.setTip (n' := n + m) (vs := olds ++ news) (k := w.heap.size) (cap := cap * i.size) (sz := i.size) (T := T) hkt (by simpa [Gh.publish] using hraw) (by simpa [Gh.publish] using hver) (by omega) (qau w.drew _) (by simp [Gh.publish]) (by simp [hol, hx.count, Nat.add_mul]) hsz hA.hB (fun o x hx hl => by
  obtain ⟨_, hx'⟩ := hother o x hx hl
  exact Nat.ne_of_lt ((hA.ob o x hx').lt hl))
 rw [hset] at hA3
 refine ⟨_, _, _, hrun, hle1.trans hle2, hA3, ?_⟩
 have hmono : ∀ {a b}, Rel G a b → Rel ((G.publish w.drew.heap.size (olds ++ news)).setOb t ⟨n + m, w.heap.size, cap * i.size, false⟩) a b := fun h => (h.mono hle1).mono hle2
 refine qo8 (n := n) (m := m) (cap := cap) (k := w.heap.size) (vs := olds) (news := news) (by simp [Gh.setOb]) (by simp [Gh.setOb]) (by simp [Gh.setOb]) hle hge (by simpa [Gh.setOb, Gh.publish] using htn) (by omega) hn hm (by simp [Gh.setOb, Gh.publish]) (fun y hy => ?_) hol hx.count hfx (fun j a b h1 h2 => hmono (hrx j a b h1 h2)) (fun j a b h1 h2 => hmono (hrel j a b h1 h2))
 rcases List.mem_append.1 hy with h | h
 ·exact hwx y h
 ·exact hys y h
def TipO (b : Nat) (st : List AObj) (sz : Nat) (T : TypeId) (xs : List AV) (c : AV) : Prop := TipC b st sz T xs c ∨ (xs = [] ∧ ∃ o v f, c = .os o v f 0 0)
theorem q07 (b : Nat) (st : List AObj) (sz : Nat) (T : TypeId) : TipO b st sz T [] j9 := .inl (q1n ..)
theorem q32 (b : Nat) (st : List AObj) (sz : Nat) (T : TypeId) (o v f : Nat) : TipO b st sz T [] (.os o v f 0 0) := .inr ⟨rfl, _, _, _, rfl⟩
theorem q4c {G : Gh} {o v f : Nat} {sz : Nat} {x : Value} (h : Rel G (.os o v f 0 0) x) : Rel G (.sl sz [] none) x := by
 cases h with
 | os _ _ _ _ b _ hn hv h => exact .sl0 sz none _ _ (by simp)
section
variable {E : Env} {rd : Option Nat} {N : Nat} {ops : Array Oper} {K : AS → Prop} {s : AS} {rest : List Oper} {d : Option Tmp} {T : TypeId} {p : String} {af : Array Edge}
theorem qkq {x y : Operand} {t u T' : TypeId} {sz bytes b : Nat} {xs ys : List AV} {tip : Option Nat} {c : AV} {st : List AObj} (hst : s.st = st) (hx : qk N s x = c) (hy : qk N s y = .sl sz ys tip)
  (ht : E.P.underlying t = some (.slice T')) (hu : E.P.underlying u = some (.slice T')) (hT : qdj E.P T' sz bytes) (hc : TipO b st sz T' xs c) (hb : b ≤ st.length) (hone : ya (flat ys) = true) (h63 : xs.length + ys.length ≤ maxLen) (hby : (xs.length + ys.length) * bytes ≤ 140737488355328)
  (h : ∀ c' st' t1, TipO b st' sz T' (xs ++ ys) c' → Fr st st' t1 → b ≤ t1 → (c = .sl sz xs (some t1) ∨ st.length ≤ t1) → AOps E rd N ops rest K (AS.put ⟨s.t, st', s.df⟩ d c')) : AOps E rd N ops (⟨d, .call ⟨.builtin .append, #[x, y], #[t, u]⟩, T, p, af, none⟩ :: rest) K s := by
 rcases hc with hc | ⟨hxs, o, ver, f, hco⟩
 ·refine qt3 hst hx hc hb hy ht hu hT hone h63 hby fun t1 st' g1 g2 g3 g4 => h _ st' t1 (.inl (.inr ⟨t1, rfl, g1, g2⟩)) g3 g2 g4
 ·subst hst
  subst hxs
  refine z4 rfl (zz nofun fun B0 w0 G a w _ hI => ?_)
  have he := hI.eval_of (hx.trans hco)
  obtain ⟨news, k1, k2, k3⟩ := qcr (P := E.P) hI.agree (hI.eval_of hy) (by simpa [ya] using hone)
  have hex := hT.ex
  obtain ⟨i, z, hi, hz, hsz, hbt, hzs⟩ := hex
  generalize hv : a.eval x = v at he
  cases he with
  | os _ _ _ _ blk _ hn hvv hbb =>
   by_cases hm0 : ys.length = 0
   ·have hy0 : ys = [] := List.eq_nil_of_length_eq_zero hm0
    subst hy0
    have hk1' : Src E.P w (a.eval y) 0 i.size [] := by
     have : news = [] := List.eq_nil_of_length_eq_zero (by simpa using k1.count)
     rw [hsz]
     rw [this] at k1
     exact k1
    refine ⟨_, w, G, _, s.st, ?_, .refl G, hI.agree, .os o ver f 0 blk 0 hn hvv hbb, h _ s.st s.st.length (.inr ⟨rfl, o, ver, f, rfl⟩) ⟨Nat.le_refl _, fun _ _ _ => rfl⟩ hb (.inr (Nat.le_refl _))⟩
    have := qgf (ty := T) ht hu (.inr ⟨_, rfl⟩) hi hk1' (some ⟨blk, f, none⟩) 0 0 (Nat.le_refl _)
    generalize a.eval = ρ at hv this
    simp [execOp, resolve, invoke, builtin, hv, this]
   ·have hle := G.le_new 0 0 0 false
    have hA := hI.agree.newTip sz T'
    have hz63 : 0 + ys.length ≤ maxLen := by simpa using h63
    obtain ⟨v', w', G', e1, e2, e3, e4⟩ := qna (ty := T) hA ht hu (.inr ⟨_, rfl⟩) hT (t := s.st.length) (n := 0) (xs := []) (by simp) rfl rfl k1 k2 (fun i a b h1 h2 => (k3 i a b h1 h2).mono hle) hz63 (some ⟨blk, f, none⟩) 0 []
     (run_firstCells_some w.drew sz 0 ⟨blk, f, none⟩ 0 0 [] (by simp) (by simp)) (by omega) (by simp) (by simp [flat]) (by simp) (by simp [flat]) (by rw [Nat.zero_add, nextslicecap_zero (by omega)]; have := hby; simp at this; omega) hm0
    refine ⟨v', w', G', _, _, ?_, hle.trans e2, e3, e4, h _ _ s.st.length (.inl (.inr ⟨s.st.length, rfl, ?_, hb⟩)) ⟨by simp, fun k hk hlt => ?_⟩ hb (.inr (Nat.le_refl _))⟩
    ·generalize a.eval = ρ at e1 hv
     simp [execOp, resolve, invoke, builtin, hv, e1]
    ·simp
    ·rw [List.getElem?_set_ne (Ne.symm hk), List.getElem?_append_left hlt]
end
theorem qn {α : Type} {g : α → AV} {l : List α} (h : ∀ a, ya (g a).cells = true) : ya (flat (l.map g)) = true := by
 induction l with
 | nil => rfl
 | cons a r ih =>
  have h1 := h a
  unfold ya flat at *
  rw [List.map_cons, List.flatMap_cons, List.all_append, h1, ih]
  rfl
theorem qm4 {b : Nat} {st : List AObj} {sz : Nat} {T : TypeId} {xs : List AV} {c : AV} (h : TipO b st sz T xs c) : ∀ G v, Rel G c v → Rel G (.sl sz xs none) v := by
 rcases h with (⟨rfl, rfl⟩ | ⟨t, rfl, _⟩) | ⟨rfl, o, v, f, rfl⟩
 ·exact fun G v h => qcu h
 ·exact fun G v h => qhh h
 ·exact fun G v h => q4c h
end Go.Av
set_option linter.unusedVariables false
namespace Go.Av
open Go Go.RowKit
def qdy (o : Oper) : Bool := match o.op with
 | .defer _ => false
 | _ => true
theorem qod {o : Oper} (h : qdy o = true) : ∀ c, o.op ≠ .defer c := fun c e => by
 unfold qdy at h
 rw [e] at h
 simp at h
theorem q0j {P : Program} {ops : Array Oper} {Q : Exit → Act → World → Prop} {l i : Nat} {K : Act → World → Prop} {a : Act} {w : World} (hnd : ∀ o, ops[i]? = some o → qdy o = true) (h : wpOpIn (fw none) 0 P ops Q i K a w) : wpOpIn (fw (some l)) 0 P ops Q i K a w := by
 unfold wpOpIn at *
 cases ho : ops[i]? with
 | none => simp only [ho] at h ⊢; exact h
 | some o =>
  simp only [ho] at h ⊢
  split
  ·rename_i hw
   rw [if_pos hw] at h
   unfold Oper.wpIn at *
   rw [qdr (rd := none) (qod (hnd o ho))] at h
   rw [qdr (rd := some l) (qod (hnd o ho))]
   exact h
  ·rename_i hw
   rw [if_neg hw] at h
   exact h
theorem qom {P : Program} {ops : Array Oper} {Q : Exit → Act → World → Prop} {l : Nat} {md : Region.Mode} (hnd : ops.all qdy = true) : ∀ (fuel : Nat) (listed : Array Bool) (a : Act) (w : World), wpAnyIn (fw none) 0 P md ops Q fuel listed a w → wpAnyIn (fw (some l)) 0 P md ops Q fuel listed a w
 | 0, _, _, _, h => h
 | fuel + 1, listed, a, w, h => ⟨h.1, fun i hi => q0j (fun o ho => by
   rw [Array.all_eq_true] at hnd
   obtain ⟨h1, h2⟩ := Array.getElem?_eq_some_iff.1 ho
   rw [← h2]
   exact hnd i h1) (wpOpIn_mono (fun a w => qom hnd fuel _ a w) (h.2 i hi))⟩
theorem qxi {E : Env} {rd : Option Nat} {N : Nat} {ops : Array Oper} {s : AS} {id : Nat} {Q : Exit → AS → Prop} {n : Nat} (hm : E.P.follows .mixedOrders = true) (hd : ops.all qdy = true) (hn : ops.size = n) (h : AZ E N ops n (Array.replicate n false) (Q .normal) s) : AWp E rd N (.region id ops true) Q s := by
 cases rd with
 | none => exact qyv hm hn h
 | some l =>
  subst hn
  refine ⟨fun B0 w0 G a w hL hI => ?_⟩
  have hBl : Below w.heap.size w { w with drawn := w.drawn + 1 } := ⟨rfl, rfl, rfl, Nat.le_refl _, fun _ _ => rfl⟩
  have hI2 : Inv B0 w0 N G s a { w with drawn := w.drawn + 1 } := ⟨hI.agree.fresh hBl, hI.defers, hI.size, hI.tmps⟩
  have := h.run B0 w0 G a _ hL hI2 (fun a' w' => ∃ (G' : Gh) (s' : AS), G.le G' ∧ Inv B0 w0 N G' s' a' w' ∧ Q .normal s') fun G' s' a' w' hG hI' hk => ⟨G', s', hG, hI', hk⟩
  refine wpIn_mono (wpIn_region_any hm (qom hd _ _ _ _ this)) fun e a' w' hq => ?_
  cases e with
  | normal => exact hq
  | _ => exact hq.elim
end Go.Av
set_option linter.unusedVariables false
namespace Go.Av
open Go Go.RowKit
def qck (o : Oper) : List Nat := (o.after.toList.filter fun e => Region.binds .any e).map (·.on)
def addL (L : Nat → Bool) (i : Nat) : Nat → Bool := fun k => Nat.beq k i || L k
def qfh : Nat → List Oper → Bool
 | _, [] => true
 | i, o :: r => (qck o).all (fun j => Nat.blt j i) && qfh (i + 1) r
def qj6 (E : Env) (N : Nat) (ops : Array Oper) (J : (Nat → Bool) → AS → Prop) : Nat → List Oper → Prop
 | _, [] => True
 | i, o :: r => (∀ L s, L i = false → (∀ j, (qck o).contains j = true → L j = true) → J L s → AOps E none N ops [o] (J (addL L i)) s) ∧ qj6 E N ops J (i + 1) r
theorem qnj {E : Env} {N : Nat} {ops : Array Oper} {J : (Nat → Bool) → AS → Prop} : ∀ {l : List Oper} {i0 k : Nat} {o : Oper}, qj6 E N ops J i0 l → l[k]? = some o →
  ∀ L s, L (i0 + k) = false → (∀ j, (qck o).contains j = true → L j = true) → J L s → AOps E none N ops [o] (J (addL L (i0 + k))) s
 | [], _, _, _, _, h => by simp at h
 | o' :: r, i0, 0, o, hs, h => by
  simp only [List.getElem?_cons_zero, Option.some.injEq] at h
  subst h
  exact hs.1
 | o' :: r, i0, k + 1, o, hs, h => by
  have := qnj hs.2 (by simpa using h)
  rw [show i0 + 1 + k = i0 + (k + 1) by omega] at this
  exact this
theorem qoo : ∀ {l : List Oper} {i0 k : Nat} {o : Oper}, qfh i0 l = true → l[k]? = some o → ∀ j ∈ qck o, j < i0 + k
 | [], _, _, _, _, h => by simp at h
 | o' :: r, i0, 0, o, hs, h => by
  simp only [List.getElem?_cons_zero, Option.some.injEq] at h
  subst h
  simp only [qfh, Bool.and_eq_true] at hs
  intro j hj
  have := List.all_eq_true.1 hs.1 j hj
  simpa [Nat.blt_eq] using this
 | o' :: r, i0, k + 1, o, hs, h => by
  simp only [qfh, Bool.and_eq_true] at hs
  have := qoo hs.2 (show r[k]? = some o by simpa using h)
  intro j hj
  have := this j hj
  omega
def lof (listed : Array Bool) : Nat → Bool := fun k => listed.getD k false
theorem q3r {listed : Array Bool} {i : Nat} (hi : i < listed.size) : lof (listed.setIfInBounds i true) = addL (lof listed) i := by
 funext k
 unfold lof addL
 by_cases h : k = i
 ·subst h
  simp [Array.getD, hi]
 ·have hb : Nat.beq k i = false := wm h
  rw [hb, Bool.false_or]
  simp only [Array.getD_eq_getD_getElem?, Array.getElem?_setIfInBounds]
  rw [if_neg (fun e => h e.symm)]
theorem qqm : ∀ {l : List Bool} {i : Nat}, l[i]? = some false → (l.set i true).count false + 1 = l.count false
 | [], _, h => by simp at h
 | b :: l, 0, h => by
  simp only [List.getElem?_cons_zero, Option.some.injEq] at h
  subst h
  simp
 | b :: l, i + 1, h => by
  have := qqm (l := l) (i := i) (by simpa using h)
  rw [List.set_cons_succ, List.count_cons, List.count_cons]
  omega
theorem qkj {l : List Oper} {listed : Array Bool} {i : Nat} : i ∈ Region.ready .any l.toArray listed ↔ listed.getD i true = false ∧ ∃ o, l[i]? = some o ∧ ∀ j ∈ qck o, lof listed j = true := by
 unfold Region.ready
 simp only [List.mem_filter, List.mem_range, Bool.and_eq_true, Bool.not_eq_true', List.size_toArray, List.getElem?_toArray]
 constructor
 ·rintro ⟨h1, h2, h3⟩
  refine ⟨h2, l[i], List.getElem?_eq_getElem h1, fun j hj => ?_⟩
  rw [List.getElem?_eq_getElem h1] at h3
  simp only [Option.map_some, Option.getD_some] at h3
  unfold qck at hj
  obtain ⟨e, he, rfl⟩ := List.mem_map.1 hj
  obtain ⟨he1, he2⟩ := List.mem_filter.1 he
  have := Array.all_eq_true'.1 h3 e (by simpa using he1)
  rw [he2] at this
  simpa [lof] using this
 ·rintro ⟨h2, o, ho, h3⟩
  refine ⟨lt_of_getElem? ho, h2, ?_⟩
  rw [ho]
  simp only [Option.map_some, Option.getD_some]
  rw [Array.all_eq_true']
  intro e he
  cases hb : Region.binds .any e with
  | false => rfl
  | true =>
   have := h3 e.on (by
    unfold qck
    exact List.mem_map.2 ⟨e, List.mem_filter.2 ⟨by simpa using he, hb⟩, rfl⟩)
   simpa [lof] using this
theorem qs4 {P : Nat → Prop} : ∀ {l : List Nat}, (∀ i ∈ l, P i) → qra P l
 | [], _ => trivial
 | i :: r, h => ⟨h i (by simp), qs4 fun j hj => h j (by simp [hj])⟩
theorem AOps.mono' {E : Env} {rd : Option Nat} {N : Nat} {ops : Array Oper} {K K' : AS → Prop} {s : AS} {l : List Oper} (h : AOps E rd N ops l K' s) (hk : ∀ s, K' s → K s) : AOps E rd N ops l K s :=
 ⟨fun B0 w0 G a w hL hI Q hQ => h.run B0 w0 G a w hL hI Q fun G' s' a' w' hG hI' hK => hQ G' s' a' w' hG hI' (hk _ hK)⟩
theorem az_J {E : Env} {N : Nat} {l : List Oper} {J : (Nat → Bool) → AS → Prop} {K : AS → Prop} (hd : qfh 0 l = true) (hs : qj6 E N l.toArray J 0 l) (hend : ∀ L s, (∀ i, i < l.length → L i = true) → J L s → K s) :
  ∀ (fuel : Nat) (listed : Array Bool) (s : AS), listed.size = l.length → listed.toList.count false ≤ fuel → J (lof listed) s → AZ E N l.toArray fuel listed K s := by
 intro fuel
 induction fuel with
 | zero =>
  intro listed s hsz hc hJ
  have hall : ∀ i, i < l.length → lof listed i = true := fun i hi => by
   have h0 : listed.toList.count false = 0 := by omega
   have hi' : i < listed.size := by omega
   have hlo : lof listed i = listed[i] := by simp [lof, hi']
   rw [hlo]
   cases hb : listed[i] with
   | true => rfl
   | false => exact absurd (by rw [← hb]; simp) (List.count_eq_zero.1 h0)
  have hr : Region.ready .any l.toArray listed = [] := by
   rw [List.eq_nil_iff_forall_not_mem]
   intro i hi
   obtain ⟨h1, o, ho, _⟩ := qkj.1 hi
   have hi' := lt_of_getElem? ho
   have := hall i hi'
   unfold lof at this
   have hi2 : i < listed.size := by omega
   simp only [Array.getD, hi2, dite_true] at this h1
   rw [this] at h1
   simp at h1
  exact qv3 hr (hend _ s hall hJ)
 | succ fuel ih =>
  intro listed s hsz hc hJ
  by_cases hr : Region.ready .any l.toArray listed = []
  ·refine qv3 hr (hend _ s (fun i => ?_) hJ)
   induction i using Nat.strongRecOn with
   | _ i ihi =>
    intro hi
    cases hb : lof listed i with
    | true => rfl
    | false =>
     exfalso
     have hm : i ∈ Region.ready .any l.toArray listed := by
      refine qkj.2 ⟨?_, l[i], List.getElem?_eq_getElem hi, fun j hj => ?_⟩
      ·have hi2 : i < listed.size := by omega
       unfold lof at hb
       simp only [Array.getD, hi2, dite_true] at hb ⊢
       exact hb
      ·have := qoo hd (List.getElem?_eq_getElem hi) j hj
       exact ihi j (by omega) (by omega)
     rw [hr] at hm
     simp at hm
  ·refine q4w _ rfl ?_ (qs4 fun i hi => ?_)
   ·cases h : Region.ready .any l.toArray listed with
    | nil => exact absurd h hr
    | cons a r => rfl
   ·obtain ⟨h1, o, ho, h3⟩ := qkj.1 hi
    have hil := lt_of_getElem? ho
    have hi2 : i < listed.size := by omega
    refine ⟨o, by simpa using ho, ?_⟩
    have hl : lof listed i = false := by
     unfold lof
     simp only [Array.getD, hi2, dite_true] at h1 ⊢
     exact h1
    have := qnj hs ho (lof listed) s (by rw [Nat.zero_add]; exact hl) (fun j hj => h3 j (by simpa using hj)) hJ
    rw [Nat.zero_add] at this
    refine this.mono' fun s' hJ' => ih _ s' (by simpa using hsz) ?_ (by rw [q3r hi2]; exact hJ')
    have hg : listed.toList[i]? = some false := by
     have : listed[i] = false := by
      simp only [Array.getD, hi2, dite_true] at h1
      exact h1
     simp [hi2, this]
    have := qqm hg
    rw [Array.toList_setIfInBounds]
    omega
theorem qzc {E : Env} {rd : Option Nat} {N : Nat} {s : AS} {id : Nat} {l : List Oper} {Q : Exit → AS → Prop} (hm : E.P.follows .mixedOrders = true) (hnd : l.toArray.all qdy = true) (hd : qfh 0 l = true) (J : (Nat → Bool) → AS → Prop)
  (h0 : J (fun _ => false) s) (hend : ∀ L s, (∀ i, i < l.length → L i = true) → J L s → Q .normal s) (hs : qj6 E N l.toArray J 0 l) : AWp E rd N (.region id l.toArray true) Q s := by
 refine qxi hm hnd (n := l.length) (by simp) (az_J hd hs hend _ _ _ (by simp) ?_ ?_)
 ·simp only [Array.toList_replicate, List.count_replicate]
  split <;> omega
 ·have : lof (Array.replicate l.length false) = fun _ => false := by
   funext k
   unfold lof
   simp only [Array.getD_eq_getD_getElem?, Array.getElem?_replicate]
   split <;> rfl
  rw [this]
  exact h0
end Go.Av
set_option linter.unusedVariables false
namespace Go.Av
open Go Go.RowKit
inductive SV where
 | a (x : AV)
 | i (n : Int)
 | s (l : List UInt8)
 | tt
 | ff
 | b (c : Bool)
 | p (q : Prop) (h : Decidable q)
 | bx (k off : Nat)
 | tp (k : Nat)
 | ag (cs : List SV)
 | tu (cs : List SV)
 | fn (f : Fn) (xs ys : List SV)
 | ifc (t : TypeId) (x : SV)
def bxAt : AV → Nat → AV
 | .bx o v _, off => .bx o v off
 | .os o v _ _ _, off => .bx o v off
 | _, off => .bx 0 0 off
def tpAt (x : AV) : AV := bif x.one then x else Bv false
mutual
def SV.ev (ρ : Nat → AV) : SV → AV
 | .a x => x
 | .i n => Iv n
 | .s l => Sv l
 | .tt => Bv true
 | .ff => Bv false
 | .b c => Bv c
 | .p q h => Bv (@decide q h)
 | .bx k off => bxAt (ρ k) off
 | .tp k => tpAt (ρ k)
 | .ag cs => .ag (SV.evs ρ cs)
 | .tu cs => .tu (SV.evs ρ cs)
 | .fn f xs ys => .fn f (SV.evs ρ xs) (SV.evs ρ ys)
 | .ifc t x => .ifc t (SV.ev ρ x)
def SV.evs (ρ : Nat → AV) : List SV → List AV
 | [] => []
 | x :: r => SV.ev ρ x :: SV.evs ρ r
end
mutual
def SV.all (f : Nat → Bool) : SV → Bool
 | .bx k _ => f k
 | .tp k => f k
 | .ag cs => SV.alls f cs
 | .tu cs => SV.alls f cs
 | .fn _ xs ys => SV.alls f xs && SV.alls f ys
 | .ifc _ x => SV.all f x
 | _ => true
def SV.alls (f : Nat → Bool) : List SV → Bool
 | [] => true
 | x :: r => SV.all f x && SV.alls f r
end
theorem yg (ρ : Nat → AV) : ∀ l : List SV, SV.evs ρ l = l.map (SV.ev ρ)
 | [] => rfl
 | x :: r => by rw [SV.evs, yg ρ r]; rfl
mutual
theorem qb5 {f : Nat → Bool} {ρ ρ' : Nat → AV} (h : ∀ k, f k = true → ρ' k = ρ k) : ∀ v : SV, v.all f = true → v.ev ρ' = v.ev ρ
 | .a _, _ => rfl
 | .i _, _ => rfl
 | .s _, _ => rfl
 | .tt, _ => rfl
 | .ff, _ => rfl
 | .b _, _ => rfl
 | .p _ _, _ => rfl
 | .bx k off, hv => by simp only [SV.all] at hv; simp only [SV.ev, h k hv]
 | .tp k, hv => by simp only [SV.all] at hv; simp only [SV.ev, h k hv]
 | .ag cs, hv => by simp only [SV.all] at hv; simp only [SV.ev, qby h cs hv]
 | .tu cs, hv => by simp only [SV.all] at hv; simp only [SV.ev, qby h cs hv]
 | .fn f xs ys, hv => by simp only [SV.all, Bool.and_eq_true] at hv; simp only [SV.ev, qby h xs hv.1, qby h ys hv.2]
 | .ifc t x, hv => by simp only [SV.all] at hv; simp only [SV.ev, qb5 h x hv]
theorem qby {f : Nat → Bool} {ρ ρ' : Nat → AV} (h : ∀ k, f k = true → ρ' k = ρ k) : ∀ l : List SV, SV.alls f l = true → SV.evs ρ' l = SV.evs ρ l
 | [], _ => rfl
 | x :: r, hv => by simp only [SV.alls, Bool.and_eq_true] at hv; simp only [SV.evs, qb5 h x hv.1, qby h r hv.2]
end
mutual
theorem all_mono {f g : Nat → Bool} (h : ∀ k, f k = true → g k = true) : ∀ v : SV, v.all f = true → v.all g = true
 | .a _, _ => rfl
 | .i _, _ => rfl
 | .s _, _ => rfl
 | .tt, _ => rfl
 | .ff, _ => rfl
 | .b _, _ => rfl
 | .p _ _, _ => rfl
 | .bx k off, hv => h k hv
 | .tp k, hv => h k hv
 | .ag cs, hv => qd5 h cs hv
 | .tu cs, hv => qd5 h cs hv
 | .fn f xs ys, hv => by simp only [SV.all, Bool.and_eq_true] at hv ⊢; exact ⟨qd5 h xs hv.1, qd5 h ys hv.2⟩
 | .ifc t x, hv => all_mono h x hv
theorem qd5 {f g : Nat → Bool} (h : ∀ k, f k = true → g k = true) : ∀ l : List SV, SV.alls f l = true → SV.alls g l = true
 | [], _ => rfl
 | x :: r, hv => by simp only [SV.alls, Bool.and_eq_true] at hv ⊢; exact ⟨all_mono h x hv.1, qd5 h r hv.2⟩
end
inductive SR where
 | cells (T : TypeId) (cs : List SV)
 | tip (sz : Nat) (T : TypeId) (xs : List AV)
 | own (sz : Nat) (T : TypeId) (xs : List AV)
def SR.all (f : Nat → Bool) : SR → Bool
 | .cells _ cs => SV.alls f cs
 | .tip _ _ _ => true
 | .own _ _ _ => true
structure qno (c : AV) : Prop where
 val : ∀ (G : Gh) (v : Value), Rel G c v → ∃ base, v = .slice base 0 0
 one : c.one = true
 len : lenA c = some 0
 bx : ∀ (o ver off len cap : Nat), c ≠ .os o ver off len (cap + 1)
 nb : ∀ (o ver off : Nat), c ≠ .bx o ver off
 ns : ∀ (sz : Nat) (xs : List AV) (t : Nat), c ≠ .sl sz xs (some t)
theorem q2q (base : Option Addr) : qno (.v (.slice base 0 0)) := ⟨fun G v h => by cases h; exact ⟨base, rfl⟩, rfl, rfl, by simp, by simp, by simp⟩
def OwnS (S : List AObj) (sz : Nat) (T : TypeId) (xs : List AV) (c : AV) : Prop :=
 (xs = [] ∧ qno c) ∨ ∃ o ver cap pad, c = .os o ver 0 xs.length (cap + 1) ∧ S[o]? = some (.cells ver T (flat xs ++ pad)) ∧ (flat xs ++ pad).length = (cap + 1) * sz ∧ (∀ x ∈ xs, x.cells.length = sz) ∧ xs.length ≤ cap + 1 ∧ cap + 1 ≤ maxLen
def SR.ok (ρ : Nat → AV) (S : List AObj) (c : AV) : SR → Prop
 | .cells T cs => ∃ o v, c = .bx o v 0 ∧ S[o]? = some (.cells v T (SV.evs ρ cs)) ∧ v = 0
 | .tip sz T xs => TipO 0 S sz T xs c
 | .own sz T xs => OwnS S sz T xs c
theorem SR.all_mono {f g : Nat → Bool} (h : ∀ k, f k = true → g k = true) : ∀ r : SR, r.all f = true → r.all g = true
 | .cells _ cs, hr => qd5 h cs hr
 | .tip _ _ _, _ => rfl
 | .own _ _ _, _ => rfl
def kl : AV → Option Nat
 | .bx o _ _ => some o
 | .sl _ _ (some t) => some t
 | .os o _ _ _ (_ + 1) => some o
 | _ => none
theorem OwnS.loc {S : List AObj} {sz : Nat} {T : TypeId} {xs : List AV} {c : AV} (h : OwnS S sz T xs c) {o : Nat} (ho : kl c = some o) : ∃ ver cap pad, c = .os o ver 0 xs.length (cap + 1) ∧ S[o]? = some (.cells ver T (flat xs ++ pad)) ∧ (flat xs ++ pad).length = (cap + 1) * sz ∧ (∀ x ∈ xs, x.cells.length = sz) ∧ xs.length ≤ cap + 1 ∧ cap + 1 ≤ maxLen := by
 rcases h with ⟨_, h⟩ | ⟨o', ver, cap, pad, rfl, h⟩
 ·unfold kl at ho
  split at ho
  ·exact absurd rfl (h.nb _ _ _)
  ·exact absurd rfl (h.ns _ _ _)
  ·exact absurd rfl (h.bx _ _ _ _ _)
  ·simp at ho
 ·simp only [kl, Option.some.injEq] at ho
  subst ho
  exact ⟨ver, cap, pad, rfl, h⟩
theorem qno.loc {c : AV} (h : qno c) : kl c = none := by
 unfold kl
 split
 ·exact absurd rfl (h.nb _ _ _)
 ·exact absurd rfl (h.ns _ _ _)
 ·exact absurd rfl (h.bx _ _ _ _ _)
 ·rfl
theorem OwnS.of {S S' : List AObj} {sz : Nat} {T : TypeId} {xs : List AV} {c : AV} (h : OwnS S sz T xs c) (hs : ∀ o, kl c = some o → S'[o]? = S[o]?) : OwnS S' sz T xs c := by
 rcases h with h | ⟨o, ver, cap, pad, rfl, h1, h2⟩
 ·exact .inl h
 ·exact .inr ⟨o, ver, cap, pad, rfl, (hs o rfl).trans h1, h2⟩
theorem SR.ok_lt {ρ : Nat → AV} {S : List AObj} {c : AV} {r : SR} (h : r.ok ρ S c) {o : Nat} (ho : kl c = some o) : o < S.length := by
 cases r with
 | cells T cs =>
  obtain ⟨o', v, rfl, h, _⟩ := h
  simp only [kl, Option.some.injEq] at ho
  subst ho
  exact lt_of_getElem? h
 | tip sz T xs =>
  rcases h with (⟨_, rfl⟩ | ⟨t, rfl, ht, _⟩) | ⟨_, o', v, f, rfl⟩
  ·simp [kl] at ho
  ·simp only [kl, Option.some.injEq] at ho
   subst ho
   exact lt_of_getElem? ht
  ·simp [kl] at ho
 | own sz T xs =>
  obtain ⟨_, _, _, _, h, _⟩ := OwnS.loc h ho
  exact lt_of_getElem? h
theorem SR.ok_of {ρ ρ' : Nat → AV} {S S' : List AObj} {c : AV} {r : SR} {f : Nat → Bool} (hf : r.all f = true) (hr : ∀ k, f k = true → ρ' k = ρ k) (h : r.ok ρ S c) (hs : ∀ o, kl c = some o → S'[o]? = S[o]?) : r.ok ρ' S' c := by
 cases r with
 | cells T cs =>
  obtain ⟨o, v, rfl, h, h0⟩ := h
  refine ⟨o, v, rfl, ?_, h0⟩
  rw [hs o rfl, qby hr cs hf]
  exact h
 | tip sz T xs =>
  rcases h with (⟨h1, h2⟩ | ⟨t, rfl, ht, h0⟩) | h
  ·exact .inl (.inl ⟨h1, h2⟩)
  ·exact .inl (.inr ⟨t, rfl, (hs t rfl).trans ht, h0⟩)
  ·exact .inr h
 | own sz T xs => exact OwnS.of h hs
structure SatF (S : List AObj) (ρ : Nat → AV) (H : Nat → Option SR) : Prop where
 ok : ∀ k r, H k = some r → r.ok ρ S (ρ k)
 sep : ∀ k k' r r', k ≠ k' → H k = some r → H k' = some r' → ∀ o, kl (ρ k) = some o → kl (ρ k') ≠ some o
def lkS {α : Type} : List (Nat × α) → Nat → Option α
 | [], _ => none
 | (i, v) :: r, k => bif Nat.beq i k then some v else lkS r k
theorem qcs {α : Type} : ∀ (l r : List (Nat × α)) (k : Nat), lkS (l ++ r) k = match lkS l k with | some v => some v | none => lkS r k
 | [], _, _ => rfl
 | (i, v) :: l, r, k => by
  simp only [List.cons_append, lkS]
  cases Nat.beq i k
  ·simp only [cond_false]; exact qcs l r k
  ·rfl
def hpF (hp : List (Nat × Option SR)) (k : Nat) : Option SR := match lkS hp k with | some r => r | none => none
def chF (ch : List (Nat × Option SR)) (H : Nat → Option SR) (k : Nat) : Option SR := match lkS ch k with | some r => r | none => H k
theorem qv0 (ch hp : List (Nat × Option SR)) : hpF (ch ++ hp) = chF ch (hpF hp) := by
 funext k
 unfold hpF chF
 rw [qcs]
 cases lkS ch k <;> rfl
def memN (ks : List Nat) (k : Nat) : Bool := ks.any (Nat.beq k)
def resF (ks : List Nat) (H : Nat → Option SR) (k : Nat) : Option SR := bif memN ks k then H k else none
theorem yp {ks : List Nat} {H : Nat → Option SR} {k : Nat} {r : SR} (h : resF ks H k = some r) : memN ks k = true ∧ H k = some r := by
 unfold resF at h
 cases hm : memN ks k with
 | true => rw [hm] at h; exact ⟨rfl, h⟩
 | false => rw [hm] at h; simp at h
theorem SatF.res {S : List AObj} {ρ : Nat → AV} {H : Nat → Option SR} (h : SatF S ρ H) (ks : List Nat) : SatF S ρ (resF ks H) :=
 ⟨fun k r hk => h.ok k r (yp hk).2, fun k k' r r' hne h1 h2 => h.sep k k' r r' hne (yp h1).2 (yp h2).2⟩
structure Ef where
 val : SV
 ks : List Nat
 ch : List (Nat × Option SR)
 nx : Nat
def Ef.wf (e : Ef) (nx : Nat) : Bool := Nat.ble nx e.nx && e.val.all (fun k => Nat.blt k e.nx) && e.ch.all (fun p => Nat.blt p.1 e.nx && (memN e.ks p.1 || Nat.ble nx p.1) && match p.2 with | some r => r.all (fun k => Nat.blt k e.nx) | none => true)
def SlOk (ρ : Nat → AV) (t : Nat → AV) (sl : List (Nat × SV)) : Prop := ∀ d v, lkS sl d = some v → t d = v.ev ρ
structure qfv (ρ : Nat → AV) (S : List AObj) (nx : Nat) (H : Nat → Option SR) (e : Ef) (ρ' : Nat → AV) (S' : List AObj) : Prop where
 old : ∀ k, (k < nx ∨ e.nx ≤ k) → ρ' k = ρ k
 sat : SatF S' ρ' (chF e.ch (resF e.ks H))
 len : S.length ≤ S'.length
 fr : ∀ j, j < S.length → (∀ k r, resF e.ks H k = some r → kl (ρ k) ≠ some j) → S'[j]? = S[j]?
 loc : ∀ k r, chF e.ch (resF e.ks H) k = some r → ∀ o, kl (ρ' k) = some o → S.length ≤ o ∨ ∃ k' r', resF e.ks H k' = some r' ∧ kl (ρ k') = some o
def Loc (E : Env) (N : Nat) (ops : Array Oper) (o : Oper) (nx : Nat) (sl : List (Nat × SV)) (H : Nat → Option SR) (e : Ef) : Prop :=
 ∀ (df : List Nat) (rd : Option Nat) (K : AS → Prop) (rest : List Oper) (ρ : Nat → AV) (t : Nat → AV) (S : List AObj), SlOk ρ t sl → SatF S ρ (resF e.ks H) →
  (∀ ρ' S', qfv ρ S nx H e ρ' S' → AOps E rd N ops rest K (AS.put ⟨t, S', df⟩ o.dst (e.val.ev ρ'))) → AOps E rd N ops (o :: rest) K ⟨t, S, df⟩
structure Conf where
 sl : List (Nat × SV)
 hp : List (Nat × Option SR)
 nx : Nat
def Conf.app (C : Conf) (d : Option Tmp) (e : Ef) : Conf := ⟨match d with | some d => (d, e.val) :: C.sl | none => C.sl, e.ch ++ C.hp, e.nx⟩
structure SatR (S0 : List AObj) (F : Nat → Prop) (C : Conf) (ρ : Nat → AV) (t : Nat → AV) (S : List AObj) : Prop where
 sl : SlOk ρ t C.sl
 hp : SatF S ρ (hpF C.hp)
 own : ∀ k r, hpF C.hp k = some r → ∀ o, kl (ρ k) = some o → S0.length ≤ o ∨ F o
 low : ∀ j, j < S0.length → ¬ F j → S[j]? = S0[j]?
 len : S0.length ≤ S.length
 wsl : ∀ d v, lkS C.sl d = some v → v.all (fun k => Nat.blt k C.nx) = true
 whp : ∀ k r, hpF C.hp k = some r → k < C.nx ∧ r.all (fun k => Nat.blt k C.nx) = true
structure Bs where
 S0 : List AObj
 F : Nat → Prop
 ρ0 : Nat → AV
 n0 : Nat
 dz : Prop
structure Frm (B : Bs) (C : Conf) (ρ : Nat → AV) (df : List Nat) (S : List AObj) : Prop where
 dm : ∀ d ∈ df, S[d]? = some .dfr ∧ B.S0.length ≤ d
 nd : df.Nodup
 rig : ∀ k, k < B.n0 → ρ k = B.ρ0 k
 le : B.n0 ≤ C.nx
 dz : B.dz → df = []
def SatC (B : Bs) (C : Conf) (s : AS) : Prop := ∃ ρ, Frm B C ρ s.df s.st ∧ SatR B.S0 B.F C ρ s.t s.st
theorem SR.ok_dfr {ρ : Nat → AV} {S : List AObj} {c : AV} {r : SR} (h : r.ok ρ S c) {o : Nat} (ho : kl c = some o) : S[o]? ≠ some .dfr := by
 cases r with
 | cells T cs =>
  obtain ⟨o', v, rfl, h, _⟩ := h
  simp only [kl, Option.some.injEq] at ho
  subst ho
  rw [h]
  simp
 | tip sz T xs =>
  rcases h with (⟨_, rfl⟩ | ⟨t, rfl, ht, _⟩) | ⟨_, o', v, f, rfl⟩
  ·simp [kl] at ho
  ·simp only [kl, Option.some.injEq] at ho
   subst ho
   rw [ht]
   simp
  ·simp [kl] at ho
 | own sz T xs =>
  obtain ⟨_, _, _, _, h, _⟩ := OwnS.loc h ho
  rw [h]
  simp
theorem xm {a b : Nat} (h : Nat.blt a b = true) : a < b := by simpa [Nat.blt_eq] using h
theorem qbm {a b : Nat} (h : a < b) : Nat.blt a b = true := by simpa [Nat.blt_eq] using h
theorem qer {e : Ef} {nx : Nat} (h : e.wf nx = true) : nx ≤ e.nx ∧ e.val.all (fun k => Nat.blt k e.nx) = true ∧ ∀ p ∈ e.ch, p.1 < e.nx ∧ (memN e.ks p.1 = true ∨ nx ≤ p.1) ∧ ∀ r, p.2 = some r → r.all (fun k => Nat.blt k e.nx) = true := by
 simp only [Ef.wf, Bool.and_eq_true] at h
 refine ⟨Nat.le_of_ble_eq_true h.1.1, h.1.2, fun p hp => ?_⟩
 have := List.all_eq_true.1 h.2 p hp
 simp only [Bool.and_eq_true, Bool.or_eq_true] at this
 refine ⟨xm this.1.1, this.1.2.imp_right Nat.le_of_ble_eq_true, fun r hr => ?_⟩
 have h3 := this.2
 rw [hr] at h3
 exact h3
theorem xw {α : Type} : ∀ {l : List (Nat × α)} {k : Nat} {v : α}, lkS l k = some v → (k, v) ∈ l
 | [], _, _, h => by simp [lkS] at h
 | (i, x) :: r, k, v, h => by
  unfold lkS at h
  cases hb : Nat.beq i k with
  | true =>
   rw [hb] at h
   simp only [cond_true, Option.some.injEq] at h
   have := Nat.eq_of_beq_eq_true hb
   subst this
   subst h
   simp
  | false =>
   rw [hb] at h
   exact List.mem_cons_of_mem _ (xw h)
theorem SatR.stepG {S0 : List AObj} {F : Nat → Prop} {C : Conf} {ρ ρ' t : Nat → AV} {S S' : List AObj} {e : Ef} {d : Option Tmp} {nx NX : Nat} (h : SatR S0 F C ρ t S) (hN : C.nx ≤ NX) (w2 : e.val.all (fun k => Nat.blt k NX) = true) (w3 : ∀ p ∈ e.ch, p.1 < NX ∧ ∀ r, p.2 = some r → r.all (fun k => Nat.blt k NX) = true)
  (a1 : ∀ d v, lkS C.sl d = some v → v.all (fun k => Nat.blt k nx || Nat.ble e.nx k) = true) (a2 : ∀ k r, hpF C.hp k = some r → (k < nx ∨ e.nx ≤ k) ∧ r.all (fun k => Nat.blt k nx || Nat.ble e.nx k) = true) (hp : qfv ρ S nx (hpF C.hp) e ρ' S') :
  SatR S0 F ⟨match d with | some d => (d, e.val) :: C.sl | none => C.sl, e.ch ++ C.hp, NX⟩ ρ' (AS.put ⟨t, S', []⟩ d (e.val.ev ρ')).t S' := by
 have hav : ∀ k, (Nat.blt k nx || Nat.ble e.nx k) = true → ρ' k = ρ k := fun k hk => by
  rcases Bool.or_eq_true_iff.1 hk with hk | hk
  ·exact hp.old k (.inl (xm hk))
  ·exact hp.old k (.inr (Nat.le_of_ble_eq_true hk))
 have hev : ∀ d v, lkS C.sl d = some v → v.ev ρ' = v.ev ρ := fun d v hd => qb5 hav v (a1 d v hd)
 have hres : ∀ k r, hpF C.hp k = some r → memN e.ks k = true → resF e.ks (hpF C.hp) k = some r := fun k r h1 h2 => by unfold resF; rw [h2]; exact h1
 -- what lies at a name behind the operation
 have key : ∀ k r, hpF (e.ch ++ C.hp) k = some r → chF e.ch (resF e.ks (hpF C.hp)) k = some r ∨ (memN e.ks k = false ∧ lkS e.ch k = none ∧ hpF C.hp k = some r) := fun k r hk => by
  rw [qv0] at hk
  unfold chF at hk ⊢
  cases hl : lkS e.ch k with
  | some x => rw [hl] at hk; exact .inl hk
  | none =>
   rw [hl] at hk
   simp only at hk ⊢
   cases hm : memN e.ks k with
   | true => exact .inl (hres k r hk hm)
   | false => exact .inr ⟨rfl, trivial, hk⟩
 have hst : ∀ k r, memN e.ks k = false → hpF C.hp k = some r → ∀ o, kl (ρ k) = some o → S'[o]? = S[o]? ∧ o < S.length := fun k r hm hk o ho => by
  have hlt := SR.ok_lt (h.hp.ok k r hk) ho
  refine ⟨hp.fr o hlt fun k' r' hk' => ?_, hlt⟩
  obtain ⟨hm', hk'⟩ := yp hk'
  have hne : k ≠ k' := fun e => by subst e; rw [hm] at hm'; simp at hm'
  exact h.hp.sep k k' r r' hne hk hk' o ho
 have hρ : ∀ k r, hpF C.hp k = some r → ρ' k = ρ k := fun k r hk => hp.old k (a2 k r hk).1
 have sepx : ∀ k k' r r', memN e.ks k = false → hpF C.hp k = some r → chF e.ch (resF e.ks (hpF C.hp)) k' = some r' → ∀ o, kl (ρ' k) = some o → kl (ρ' k') ≠ some o := fun k k' r r' hm hk hk' o ho ho' => by
  rw [hρ k r hk] at ho
  obtain ⟨_, hlt⟩ := hst k r hm hk o ho
  rcases hp.loc k' r' hk' o ho' with h1 | ⟨k2, r2, h2, h3⟩
  ·omega
  ·obtain ⟨hm2, hk2⟩ := yp h2
   have hne : k ≠ k2 := fun e => by subst e; rw [hm] at hm2; simp at hm2
   exact h.hp.sep k k2 r r2 hne hk hk2 o ho h3
 refine ⟨?_, ⟨?_, ?_⟩, ?_, ?_, Nat.le_trans h.len hp.len, ?_, ?_⟩
 ·cases d with
  | none => exact fun x v hx => (h.sl x v hx).trans (hev x v hx).symm
  | some d =>
   intro x v hx
   simp only [lkS] at hx
   by_cases hd : x = d
   ·subst hd
    have hb : Nat.beq x x = true := by simp
    rw [hb] at hx
    simp only [cond_true, Option.some.injEq] at hx
    subst hx
    exact qai _ _ _
   ·rw [wm (fun e => hd e.symm)] at hx
    simp only [cond_false] at hx
    exact (qcd _ _ _ _ hd).trans ((h.sl x v hx).trans (hev x v hx).symm)
 ·intro k r hk
  rcases key k r hk with h1 | ⟨hm, _, h1⟩
  ·exact hp.sat.ok k r h1
  ·rw [hρ k r h1]
   exact SR.ok_of (a2 k r h1).2 hav (h.hp.ok k r h1) fun o ho => (hst k r hm h1 o ho).1
 ·intro k k' r r' hne hk hk' o ho
  rcases key k r hk with h1 | ⟨hm, _, h1⟩
  ·rcases key k' r' hk' with h2 | ⟨hm2, _, h2⟩
   ·exact hp.sat.sep k k' r r' hne h1 h2 o ho
   ·exact fun ho' => sepx k' k r' r hm2 h2 h1 o ho' ho
  ·rcases key k' r' hk' with h2 | ⟨hm2, _, h2⟩
   ·exact sepx k k' r r' hm h1 h2 o ho
   ·rw [hρ k r h1] at ho
    rw [hρ k' r' h2]
    exact h.hp.sep k k' r r' hne h1 h2 o ho
 ·intro k r hk o ho
  rcases key k r hk with h1 | ⟨hm, _, h1⟩
  ·rcases hp.loc k r h1 o ho with h2 | ⟨k', r', h2, h3⟩
   ·exact .inl (Nat.le_trans h.len h2)
   ·exact h.own k' r' (yp h2).2 o h3
  ·rw [hρ k r h1] at ho
   exact h.own k r h1 o ho
 ·intro j hj hF
  refine (hp.fr j (Nat.lt_of_lt_of_le hj h.len) fun k r hk ho => ?_).trans (h.low j hj hF)
  rcases h.own k r (yp hk).2 j ho with h1 | h1
  ·omega
  ·exact hF h1
 ·intro x v hx
  have hold : lkS C.sl x = some v → v.all (fun k => Nat.blt k NX) = true := fun hx => all_mono (fun k hk => qbm (by have := xm hk; omega)) v (h.wsl x v hx)
  cases d with
  | none => exact hold hx
  | some d =>
   simp only [lkS] at hx
   cases hb : Nat.beq d x with
   | true =>
    rw [hb] at hx
    simp only [cond_true, Option.some.injEq] at hx
    subst hx
    exact w2
   | false =>
    rw [hb] at hx
    exact hold hx
 ·intro k r hk
  have hold : hpF C.hp k = some r → k < NX ∧ r.all (fun k => Nat.blt k NX) = true := fun hk => ⟨by have := (h.whp k r hk).1; omega, SR.all_mono (fun k hk => qbm (by have := xm hk; omega)) r (h.whp k r hk).2⟩
  rcases key k r hk with h1 | ⟨_, _, h1⟩
  ·unfold chF at h1
   cases hl : lkS e.ch k with
   | some x =>
    rw [hl] at h1
    simp only at h1
    obtain ⟨h2, h3⟩ := w3 _ (xw hl)
    exact ⟨h2, h3 r h1⟩
   | none =>
    rw [hl] at h1
    exact hold (yp h1).2
  ·exact hold h1
theorem SatR.step {S0 : List AObj} {F : Nat → Prop} {C : Conf} {ρ ρ' t : Nat → AV} {S S' : List AObj} {e : Ef} {d : Option Tmp} (h : SatR S0 F C ρ t S) (hw : e.wf C.nx = true) (hp : qfv ρ S C.nx (hpF C.hp) e ρ' S') :
  SatR S0 F (C.app d e) ρ' (AS.put ⟨t, S', []⟩ d (e.val.ev ρ')).t S' := by
 obtain ⟨w1, w2, w3⟩ := qer hw
 exact h.stepG w1 w2 (fun p hp => ⟨(w3 p hp).1, (w3 p hp).2.2⟩) (fun d v hd => all_mono (fun k hk => by rw [hk]; rfl) v (h.wsl d v hd)) (fun k r hk => ⟨.inl (h.whp k r hk).1, SR.all_mono (fun k hk => by rw [hk]; rfl) r (h.whp k r hk).2⟩) hp
theorem Frm.nx {B : Bs} {C C' : Conf} {ρ : Nat → AV} {S : List AObj} {df : List Nat} (h : Frm B C ρ df S) (hn : B.n0 ≤ C'.nx) : Frm B C' ρ df S := ⟨h.dm, h.nd, h.rig, hn, h.dz⟩
theorem Frm.stepG {B : Bs} {C C' : Conf} {ρ ρ' : Nat → AV} {S S' : List AObj} {df : List Nat} {e : Ef} {nx : Nat} {H : Nat → Option SR} (h : Frm B C ρ df S) (hS : SatF S ρ H) (hp : qfv ρ S nx H e ρ' S') (hn : B.n0 ≤ nx) (hn' : B.n0 ≤ C'.nx) : Frm B C' ρ' df S' := by
 refine ⟨fun x hx => ?_, h.nd, fun k hk => ?_, hn', h.dz⟩
 ·have hm := h.dm x hx
  refine ⟨?_, hm.2⟩
  rw [hp.fr x (lt_of_getElem? hm.1) fun k r hk hl => ?_]
  ·exact hm.1
  ·exact SR.ok_dfr (hS.ok k r (yp hk).2) hl hm.1
 ·rw [hp.old k (.inl (Nat.lt_of_lt_of_le hk hn))]
  exact h.rig k hk
theorem Frm.step {B : Bs} {C : Conf} {ρ ρ' : Nat → AV} {S S' : List AObj} {df : List Nat} {e : Ef} {d : Option Tmp} (h : Frm B C ρ df S) (hS : SatF S ρ (hpF C.hp)) (hw : e.wf C.nx = true) (hp : qfv ρ S C.nx (hpF C.hp) e ρ' S') : Frm B (C.app d e) ρ' df S' :=
 h.stepG hS hp h.le (Nat.le_trans h.le (qer hw).1)
theorem SatR.dead {S0 : List AObj} {F : Nat → Prop} {C : Conf} {ρ t : Nat → AV} {S : List AObj} {d : Nat} (h : SatR S0 F C ρ t S) (hd : S[d]? = some .dfr) (hl : S0.length ≤ d) : SatR S0 F C ρ t (S.set d .dead) := by
 refine ⟨h.sl, ⟨fun k r hk => ?_, h.hp.sep⟩, h.own, fun j hj hF => ?_, by simpa using h.len, h.wsl, h.whp⟩
 ·refine SR.ok_of (f := fun _ => true) (SR.all_mono (fun _ _ => rfl) r (h.whp k r hk).2) (fun _ _ => rfl) (h.hp.ok k r hk) fun o ho => ?_
  have hne : d ≠ o := fun e => SR.ok_dfr (h.hp.ok k r hk) ho (e ▸ hd)
  rw [List.getElem?_set_ne hne]
 ·rw [List.getElem?_set_ne (by omega)]
  exact h.low j hj hF
theorem SR.ok_ct {ρ : Nat → AV} {S : List AObj} {c : AV} {r : SR} (h : r.ok ρ S c) {o : Nat} (ho : kl c = some o) : (∃ T cs v, S[o]? = some (.cells v T cs) ∧ ∃ T' cs', r = .cells T' cs') ∨ (∃ m sz T, S[o]? = some (.tip m sz T)) ∨ ∃ sz T xs, r = .own sz T xs := by
 cases r with
 | cells T cs =>
  obtain ⟨o', v, rfl, h, _⟩ := h
  simp only [kl, Option.some.injEq] at ho
  subst ho
  exact .inl ⟨_, _, _, h, _, _, rfl⟩
 | tip sz T xs =>
  rcases h with (⟨_, rfl⟩ | ⟨t, rfl, ht, _⟩) | ⟨_, o', v, f, rfl⟩
  ·simp [kl] at ho
  ·simp only [kl, Option.some.injEq] at ho
   subst ho
   exact .inr (.inl ⟨_, _, _, ht⟩)
  ·simp [kl] at ho
 | own sz T xs => exact .inr (.inr ⟨_, _, _, rfl⟩)
def qcj (hp : List (Nat × Option SR)) (ρ : Nat → AV) (o : Nat) : Prop := ∃ k r, hpF hp k = some r ∧ kl (ρ k) = some o
theorem SatR.rebase {S0 : List AObj} {F : Nat → Prop} {C : Conf} {ρ t : Nat → AV} {S S' : List AObj} (h : SatR S0 F C ρ t S) (hs : ∀ o, qcj C.hp ρ o → S'[o]? = S[o]?) : SatR S' (qcj C.hp ρ) C ρ t S' :=
 ⟨h.sl, ⟨fun k r hk => SR.ok_of (f := fun _ => true) (SR.all_mono (fun _ _ => rfl) r (h.whp k r hk).2) (fun _ _ => rfl) (h.hp.ok k r hk) fun o ho => hs o ⟨k, r, hk, ho⟩, h.hp.sep⟩,
  fun k r hk o ho => .inr ⟨k, r, hk, ho⟩, fun _ _ _ => rfl, Nat.le_refl _, h.wsl, h.whp⟩
end Go.Av
set_option linter.unusedVariables false
namespace Go.Av
open Go Go.RowKit
def Wk (x r : AV) : Prop := ∀ (G : Gh) (v : Value), Rel G x v → Rel G r v
theorem x5 (x : AV) : Wk x x := fun _ _ h => h
theorem q5x {x y : AV} (h : x = y) : Wk x y := h ▸ x5 x
theorem q05 (sz : Nat) (xs : List AV) (tip : Option Nat) : Wk (.sl sz xs tip) (.sl sz xs none) := fun _ _ h => qhh h
theorem qxh {xs ys : List AV} (hl : xs.length = ys.length) (h : ∀ (i : Nat) (x y : AV), xs[i]? = some x → ys[i]? = some y → Wk x y) : Wk (.ag xs) (.ag ys) := fun G v hr => by
 cases hr with
 | ag _ vs hl' hr =>
  refine .ag _ vs (by omega) fun i y b hy hb => ?_
  have hi := lt_of_getElem? hy
  have hx : xs[i]? = some (xs[i]'(by omega)) := List.getElem?_eq_getElem (by omega)
  exact h i _ y hx hy G b (hr i _ b hx hb)
theorem q29 {xs ys : List AV} (hl : xs.length = ys.length) (h : ∀ (i : Nat) (x y : AV), xs[i]? = some x → ys[i]? = some y → Wk x y) : Wk (.tu xs) (.tu ys) := fun G v hr => by
 cases hr with
 | tu _ vs hl' hr =>
  refine .tu _ vs (by omega) fun i y b hy hb => ?_
  have hi := lt_of_getElem? hy
  have hx : xs[i]? = some (xs[i]'(by omega)) := List.getElem?_eq_getElem (by omega)
  exact h i _ y hx hy G b (hr i _ b hx hb)
theorem q41 {t : TypeId} {x y : AV} (h : Wk x y) : Wk (.ifc t x) (.ifc t y) := fun G v hr => by
 cases hr with
 | ifc _ _ z hz => exact .ifc t y z (h G z hz)
theorem q51 {f : Fn} {a b c d : List AV} (h1 : a.length = c.length) (h2 : ∀ (i : Nat) (x y : AV), a[i]? = some x → c[i]? = some y → Wk x y) (h3 : b.length = d.length) (h4 : ∀ (i : Nat) (x y : AV), b[i]? = some x → d[i]? = some y → Wk x y) : Wk (.fn f a b) (.fn f c d) := fun G v hr => by
 cases hr with
 | fn _ _ _ a' b' g1 g2 g3 g4 =>
  refine .fn f c d a' b' (by omega) (by omega) (fun i x y hx hy => ?_) (fun i x y hx hy => ?_)
  ·have hi : i < a.length := by have := lt_of_getElem? hx; omega
   have hz : a[i]? = some a[i] := List.getElem?_eq_getElem hi
   exact h2 i _ x hz hx G y (g3 i _ y hz hy)
  ·have hi : i < b.length := by have := lt_of_getElem? hx; omega
   have hz : b[i]? = some b[i] := List.getElem?_eq_getElem hi
   exact h4 i _ x hz hx G y (g4 i _ y hz hy)
mutual
def frz (H : Nat → Option SR) : SV → Option AV
 | .a x => some x
 | .i n => some (Iv n)
 | .s l => some (Sv l)
 | .tt => some (Bv true)
 | .ff => some (Bv false)
 | .b c => some (Bv c)
 | .p q h => some (Bv (@decide q h))
 | .bx _ _ => none
 | .tp k => match H k with
  | some (.tip sz _ xs) => some (.sl sz xs none)
  | _ => none
 | .ag cs => match frzs H cs with
  | some l => some (.ag l)
  | none => none
 | .tu cs => match frzs H cs with
  | some l => some (.tu l)
  | none => none
 | .fn f xs ys => match frzs H xs, frzs H ys with
  | some a, some b => some (.fn f a b)
  | _, _ => none
 | .ifc t x => match frz H x with
  | some y => some (.ifc t y)
  | none => none
def frzs (H : Nat → Option SR) : List SV → Option (List AV)
 | [] => some []
 | x :: r => match frz H x, frzs H r with
  | some y, some l => some (y :: l)
  | _, _ => none
end
theorem qzm {x : AV} (h : x.one = true) : x.cells = [x] := by
 cases x <;> first | rfl | simp [AV.one] at h
theorem qox {b : Nat} {S : List AObj} {sz : Nat} {T : TypeId} {xs : List AV} {c : AV} (h : TipO b S sz T xs c) : Wk (tpAt c) (.sl sz xs none) ∧ c.one = true := by
 have h1 : c.one = true := by rcases h with (⟨_, rfl⟩ | ⟨t, rfl, _⟩) | ⟨_, o, v, f, rfl⟩ <;> rfl
 refine ⟨?_, h1⟩
 unfold tpAt
 rw [h1]
 exact qm4 h
mutual
theorem qku {S : List AObj} {ρ : Nat → AV} {H : Nat → Option SR} (hS : SatF S ρ H) : ∀ (v : SV) (x : AV), frz H v = some x → Wk (v.ev ρ) x
 | .a y, x, h => by simp only [frz, Option.some.injEq] at h; subst h; exact x5 _
 | .i y, x, h => by simp only [frz, Option.some.injEq] at h; subst h; exact x5 _
 | .s y, x, h => by simp only [frz, Option.some.injEq] at h; subst h; exact x5 _
 | .tt, x, h => by simp only [frz, Option.some.injEq] at h; subst h; exact x5 _
 | .ff, x, h => by simp only [frz, Option.some.injEq] at h; subst h; exact x5 _
 | .b y, x, h => by simp only [frz, Option.some.injEq] at h; subst h; exact x5 _
 | .p q d, x, h => by simp only [frz, Option.some.injEq] at h; subst h; exact x5 _
 | .bx _ _, x, h => by simp [frz] at h
 | .tp k, x, h => by
  simp only [frz] at h
  split at h
  ·rename_i sz T xs hk
   simp only [Option.some.injEq] at h
   subst h
   exact (qox (hS.ok k _ hk)).1
  ·simp at h
 | .ag cs, x, h => by
  simp only [frz] at h
  split at h
  ·rename_i l hl
   simp only [Option.some.injEq] at h
   subst h
   obtain ⟨h1, h2⟩ := qep hS cs l hl
   exact qxh h1 h2
  ·simp at h
 | .tu cs, x, h => by
  simp only [frz] at h
  split at h
  ·rename_i l hl
   simp only [Option.some.injEq] at h
   subst h
   obtain ⟨h1, h2⟩ := qep hS cs l hl
   exact q29 h1 h2
  ·simp at h
 | .fn f xs ys, x, h => by
  simp only [frz] at h
  split at h
  ·rename_i a b ha hb
   simp only [Option.some.injEq] at h
   subst h
   obtain ⟨h1, h2⟩ := qep hS xs a ha
   obtain ⟨h3, h4⟩ := qep hS ys b hb
   exact q51 h1 h2 h3 h4
  ·simp at h
 | .ifc t y, x, h => by
  simp only [frz] at h
  split at h
  ·rename_i z hz
   simp only [Option.some.injEq] at h
   subst h
   exact q41 (qku hS y z hz)
  ·simp at h
theorem qep {S : List AObj} {ρ : Nat → AV} {H : Nat → Option SR} (hS : SatF S ρ H) : ∀ (l : List SV) (ys : List AV), frzs H l = some ys → (SV.evs ρ l).length = ys.length ∧ ∀ (i : Nat) (x y : AV), (SV.evs ρ l)[i]? = some x → ys[i]? = some y → Wk x y
 | [], ys, h => by simp only [frzs, Option.some.injEq] at h; subst h; exact ⟨rfl, by simp [SV.evs]⟩
 | v :: r, ys, h => by
  simp only [frzs] at h
  split at h
  ·rename_i y l hy hl
   simp only [Option.some.injEq] at h
   subst h
   obtain ⟨h1, h2⟩ := qep hS r l hl
   have h3 := qku hS v y hy
   refine ⟨by simp [SV.evs, h1], fun i a b ha hb => ?_⟩
   cases i with
   | zero => simp [SV.evs] at ha hb; subst ha; subst hb; exact h3
   | succ i => exact h2 i a b (by simpa [SV.evs] using ha) (by simpa using hb)
  ·simp at h
end
mutual
def SV.ks : SV → List Nat
 | .bx k _ => [k]
 | .tp k => [k]
 | .ag cs => SV.kss cs
 | .tu cs => SV.kss cs
 | .fn _ xs ys => SV.kss xs ++ SV.kss ys
 | .ifc _ x => SV.ks x
 | _ => []
def SV.kss : List SV → List Nat
 | [] => []
 | x :: r => SV.ks x ++ SV.kss r
end
mutual
def nf : AV → SV
 | .v (.int .i64 n) => .i n
 | .v (.string ⟨⟨l⟩⟩) => .s l
 | .v (.bool c) => .b c
 | .ag cs => .ag (nfs cs)
 | .tu cs => .tu (nfs cs)
 | x => .a x
def nfs : List AV → List SV
 | [] => []
 | x :: r => nf x :: nfs r
end
mutual
theorem qkx (ρ : Nat → AV) : ∀ x : AV, (nf x).ev ρ = x
 | .v x => by
  unfold nf
  split <;> first | rfl | (rename_i h; cases h; done) | (rename_i h; cases h; rfl)
 | .ag cs => by simp only [nf, SV.ev, qgs ρ cs]
 | .tu cs => by simp only [nf, SV.ev, qgs ρ cs]
 | .ifc _ _ => rfl
 | .fn _ _ _ => rfl
 | .sl _ _ _ => rfl
 | .pp _ => rfl
 | .bx _ _ _ => rfl
 | .os _ _ _ _ _ => rfl
 | .mp _ => rfl
 | .yd _ => rfl
theorem qgs (ρ : Nat → AV) : ∀ l : List AV, SV.evs ρ (nfs l) = l
 | [] => rfl
 | x :: r => by simp only [nfs, SV.evs, qkx ρ x, qgs ρ r]
end
mutual
theorem q5a {f : Nat → Bool} : ∀ x : AV, (nf x).all f = true
 | .v x => by unfold nf; split <;> first | rfl | (rename_i h; cases h)
 | .ag cs => by simp only [nf, SV.all]; exact qk8 cs
 | .tu cs => by simp only [nf, SV.all]; exact qk8 cs
 | .ifc _ _ => rfl
 | .fn _ _ _ => rfl
 | .sl _ _ _ => rfl
 | .pp _ => rfl
 | .bx _ _ _ => rfl
 | .os _ _ _ _ _ => rfl
 | .mp _ => rfl
 | .yd _ => rfl
theorem qk8 {f : Nat → Bool} : ∀ l : List AV, SV.alls f (nfs l) = true
 | [] => rfl
 | x :: r => by simp only [nfs, SV.alls, q5a x, qk8 r]; rfl
end
def cst : Value → SV
 | .bool true => .tt
 | .bool false => .ff
 | x => nf (.v x)
theorem q5j (ρ : Nat → AV) (x : Value) : (cst x).ev ρ = .v x := by
 unfold cst
 split
 ·rfl
 ·rfl
 ·exact qkx ρ _
def SV.cells : SV → List SV
 | .ag cs => cs
 | .a x => nfs x.cells
 | v => [v]
theorem qmj (ρ : Nat → AV) (v : SV) : SV.evs ρ v.cells = (v.ev ρ).cells := by
 cases v with
 | a x => exact qgs ρ _
 | bx k off => simp only [SV.cells, SV.evs, SV.ev]; cases ρ k <;> rfl
 | tp k => simp only [SV.cells, SV.evs, SV.ev, tpAt]; cases h : (ρ k).one <;> first | rfl | (simp only [cond_true]; exact (qzm h).symm)
 | _ => rfl
def SV.okc : SV → Bool
 | .a x => x.okc
 | _ => true
theorem qrz (ρ : Nat → AV) (v : SV) (h : v.okc = true) : (v.ev ρ).okc = true := by
 cases v with
 | a x => exact h
 | bx k off => simp only [SV.ev]; cases ρ k <;> rfl
 | tp k =>
  simp only [SV.ev, tpAt]
  cases h : (ρ k).one
  ·rfl
  ·simp only [cond_true]
   cases hk : ρ k with
   | v x => rw [hk] at h; cases x <;> first | rfl | simp [AV.one] at h
   | _ => rfl
 | _ => rfl
def SV.one : SV → Bool
 | .a x => x.one
 | .ag _ => false
 | .tu _ => false
 | _ => true
theorem q3u (ρ : Nat → AV) (v : SV) (h : v.one = true) : (v.ev ρ).one = true := by
 cases v with
 | a x => exact h
 | bx k off => simp only [SV.ev]; cases ρ k <;> rfl
 | tp k => simp only [SV.ev, tpAt]; cases h : (ρ k).one <;> first | rfl | exact h
 | ag _ => simp [SV.one] at h
 | tu _ => simp [SV.one] at h
 | _ => rfl
def ones (l : List SV) : Bool := l.all SV.one
theorem qvd (ρ : Nat → AV) : ∀ l : List SV, ones l = true → ∀ z ∈ SV.evs ρ l, z.one = true
 | [], _, z, hz => by simp [SV.evs] at hz
 | x :: r, h, z, hz => by
  simp only [ones, List.all_cons, Bool.and_eq_true] at h
  simp only [SV.evs, List.mem_cons] at hz
  rcases hz with rfl | hz
  ·exact q3u ρ x h.1
  ·exact qvd ρ r h.2 z hz
def sval (N : Nat) (sl : List (Nat × SV)) : Operand → Option SV
 | .tmp i => bif Nat.blt i N then lkS sl i else none
 | .const x => some (cst x)
 | .global g => some (.a (.v (.pointer (some ⟨g, 0, none⟩))))
 | .func f => some (.a (.fn (.func f) [] []))
theorem zp {N : Nat} {sl : List (Nat × SV)} {ρ t : Nat → AV} {S : List AObj} {df : List Nat} (h : SlOk ρ t sl) {x : Operand} {v : SV} (hx : sval N sl x = some v) : qk N ⟨t, S, df⟩ x = v.ev ρ := by
 cases x with
 | tmp i =>
  simp only [sval] at hx
  simp only [qk]
  cases hb : Nat.blt i N with
  | true => rw [hb] at hx; exact h i v hx
  | false => rw [hb] at hx; simp at hx
 | const x => simp only [sval, Option.some.injEq] at hx; subst hx; exact (q5j ρ x).symm
 | global g => simp only [sval, Option.some.injEq] at hx; subst hx; rfl
 | func f => simp only [sval, Option.some.injEq] at hx; subst hx; rfl
def qjh (N : Nat) (sl : List (Nat × SV)) : List Operand → Option (List SV)
 | [] => some []
 | x :: r => match sval N sl x, qjh N sl r with
  | some v, some l => some (v :: l)
  | _, _ => none
theorem qiu {N : Nat} {sl : List (Nat × SV)} {ρ t : Nat → AV} {S : List AObj} {df : List Nat} (h : SlOk ρ t sl) : ∀ {xs : List Operand} {l : List SV}, qjh N sl xs = some l → xs.map (qk N ⟨t, S, df⟩) = SV.evs ρ l
 | [], l, hx => by simp only [qjh, Option.some.injEq] at hx; subst hx; rfl
 | x :: r, l, hx => by
  simp only [qjh] at hx
  split at hx
  ·rename_i v l' h1 h2
   simp only [Option.some.injEq] at hx
   subst hx
   simp only [List.map_cons, SV.evs, zp h h1, qiu h h2]
  ·simp at hx
section
variable {E : Env} {N : Nat} {ops : Array Oper} {o : Oper} {nx : Nat} {sl : List (Nat × SV)} {H : Nat → Option SR}
theorem qaw {v : SV} {ks : List Nat} (h : ∀ (df : List Nat) (rd : Option Nat) (K : AS → Prop) (rest : List Oper) (ρ t : Nat → AV) (S : List AObj), SlOk ρ t sl → SatF S ρ (resF ks H) → AOps E rd N ops rest K (AS.put ⟨t, S, df⟩ o.dst (v.ev ρ)) → AOps E rd N ops (o :: rest) K ⟨t, S, df⟩) :
  Loc E N ops o nx sl H ⟨v, ks, [], nx⟩ := fun df rd K rest ρ t S hs hS hk =>
 h df rd K rest ρ t S hs hS (hk ρ S ⟨fun _ _ => rfl, ⟨fun k r hk => hS.ok k r hk, fun k k' r r' hne h1 h2 => hS.sep k k' r r' hne h1 h2⟩, Nat.le_refl _, fun _ _ _ => rfl, fun k r hk o ho => .inr ⟨k, r, hk, ho⟩⟩)
theorem vi {v : SV} (h : ∀ (df : List Nat) (rd : Option Nat) (K : AS → Prop) (rest : List Oper) (ρ t : Nat → AV) (S : List AObj), SlOk ρ t sl → AOps E rd N ops rest K (AS.put ⟨t, S, df⟩ o.dst (v.ev ρ)) → AOps E rd N ops (o :: rest) K ⟨t, S, df⟩) :
  Loc E N ops o nx sl H ⟨v, [], [], nx⟩ := qaw fun df rd K rest ρ t S hs _ hk => h df rd K rest ρ t S hs hk
def upd (ρ : Nat → AV) (n : Nat) (c : AV) : Nat → AV := fun k => bif Nat.beq k n then c else ρ k
theorem yn (ρ : Nat → AV) (n : Nat) (c : AV) : upd ρ n c n = c := by simp [upd]
theorem qan (ρ : Nat → AV) {n k : Nat} (c : AV) (h : k ≠ n) : upd ρ n c k = ρ k := by simp [upd, wm h]
theorem qla {v : SV} {r : SR} {ks : List Nat} (hks : ∀ k r, resF ks H k = some r → k ≠ nx ∧ r.all (fun k => !Nat.beq k nx) = true) (h : ∀ (df : List Nat) (rd : Option Nat) (K : AS → Prop) (rest : List Oper) (ρ t : Nat → AV) (S : List AObj), SlOk ρ t sl → SatF S ρ (resF ks H) →
   (∀ c l, r.ok (upd ρ nx c) (S ++ l) c → (∀ o, kl c = some o → S.length ≤ o) → AOps E rd N ops rest K (AS.put ⟨t, S ++ l, df⟩ o.dst (v.ev (upd ρ nx c)))) → AOps E rd N ops (o :: rest) K ⟨t, S, df⟩) :
  Loc E N ops o nx sl H ⟨v, ks, [(nx, some r)], nx + 1⟩ := fun df rd K rest ρ t S hs hS hk => by
 refine h df rd K rest ρ t S hs hS fun c l hc hl => hk _ _ ⟨fun k hk => qan _ _ (by simp only at hk; omega), ?_, by simp, fun j hj _ => List.getElem?_append_left hj, ?_⟩
 ·have key : ∀ k r', chF [(nx, some r)] (resF ks H) k = some r' → (k = nx ∧ r' = r) ∨ (k ≠ nx ∧ resF ks H k = some r') := fun k r' hk => by
   simp only [chF, lkS] at hk
   by_cases e : nx = k
   ·subst e
    have : Nat.beq nx nx = true := by simp
    rw [this] at hk
    simp only [cond_true, Option.some.injEq] at hk
    exact .inl ⟨rfl, hk.symm⟩
   ·rw [wm e] at hk
    exact .inr ⟨fun h => e h.symm, hk⟩
  refine ⟨fun k r' hk => ?_, fun k k' r1 r2 hne h1 h2 o ho => ?_⟩
  ·rcases key k r' hk with ⟨rfl, rfl⟩ | ⟨h1, h2⟩
   ·rw [yn]; exact hc
   ·rw [qan _ _ h1]
    have h3 := hS.ok k r' h2
    exact SR.ok_of (hks k r' h2).2 (fun k hk => qan _ _ (fun e => by subst e; simp at hk)) h3 fun o ho => List.getElem?_append_left (SR.ok_lt h3 ho)
  ·rcases key k r1 h1 with ⟨rfl, rfl⟩ | ⟨g1, g2⟩
   ·rcases key k' r2 h2 with ⟨rfl, rfl⟩ | ⟨f1, f2⟩
    ·exact absurd rfl hne
    ·rw [yn] at ho
     rw [qan _ _ f1]
     intro ho'
     have := SR.ok_lt (hS.ok k' r2 f2) ho'
     have := hl o ho
     omega
   ·rcases key k' r2 h2 with ⟨rfl, rfl⟩ | ⟨f1, f2⟩
    ·rw [qan _ _ g1] at ho
     rw [yn]
     intro ho'
     have := SR.ok_lt (hS.ok k r1 g2) ho
     have := hl o ho'
     omega
    ·rw [qan _ _ g1] at ho
     rw [qan _ _ f1]
     exact hS.sep k k' r1 r2 hne g2 f2 o ho
 ·intro k r' hk o ho
  simp only [chF, lkS] at hk
  by_cases e : nx = k
  ·subst e
   rw [yn] at ho
   exact .inl (hl o ho)
  ·rw [wm e] at hk
   rw [qan _ _ (fun h => e h.symm)] at ho
   exact .inr ⟨k, r', hk, ho⟩
end
end Go.Av
set_option linter.unusedVariables false
namespace Go.Av
open Go Go.RowKit
section
variable {E : Env} {N : Nat} {ops : Array Oper} {nx : Nat} {sl : List (Nat × SV)} {H : Nat → Option SR} {k : Ef → Prop} {d : Option Tmp} {T : TypeId} {p : String} {af : Array Edge}
def xy (nx : Nat) (v : SV) : Ef := ⟨v, [], [], nx⟩
def mvW (nx : Nat) (k : Ef → Prop) : Option SV → Prop
 | some v => k (xy nx v)
 | none => False
theorem q4g {x : Operand} (h : mvW nx k (sval N sl x)) : ∃ e, Loc E N ops ⟨d, .move x, T, p, af, none⟩ nx sl H e ∧ k e := by
 cases hv : sval N sl x with
 | none => rw [hv] at h; exact h.elim
 | some v => rw [hv] at h; exact ⟨_, vi fun df rd K rest ρ t S hs hk => qh (by rw [zp hs hv]; exact hk), h⟩
theorem qzd {x : Operand} (h : mvW nx k (sval N sl x)) : ∃ e, Loc E N ops ⟨d, .assign x, T, p, af, none⟩ nx sl H e ∧ k e := by
 cases hv : sval N sl x with
 | none => rw [hv] at h; exact h.elim
 | some v => rw [hv] at h; exact ⟨_, vi fun df rd K rest ρ t S hs hk => qb (by rw [zp hs hv]; exact hk), h⟩
def wayW (x y : Prop) : SV → Prop
 | .tt => x
 | .ff => y
 | .p q _ => (q → x) ∧ (¬ q → y)
 | .b c => (c = true → x) ∧ (c = false → y)
 | _ => False
theorem qzs {x y : Prop} {v : SV} (h : wayW x y v) : ∃ c : Bool, (∀ ρ, v.ev ρ = Bv c) ∧ ((c = true ∧ x) ∨ (c = false ∧ y)) := by
 cases v with
 | tt => exact ⟨true, fun _ => rfl, .inl ⟨rfl, h⟩⟩
 | ff => exact ⟨false, fun _ => rfl, .inr ⟨rfl, h⟩⟩
 | p q i =>
  by_cases hq : q
  ·exact ⟨_, fun _ => rfl, .inl ⟨by simp [hq], h.1 hq⟩⟩
  ·exact ⟨_, fun _ => rfl, .inr ⟨by simp [hq], h.2 hq⟩⟩
 | b c =>
  cases c with
  | true => exact ⟨true, fun _ => rfl, .inl ⟨rfl, h.1 rfl⟩⟩
  | false => exact ⟨false, fun _ => rfl, .inr ⟨rfl, h.2 rfl⟩⟩
 | _ => exact h.elim
def qx6 (N : Nat) (sl : List (Nat × SV)) (nx : Nat) (k : Ef → Prop) (c x y : Operand) : Prop :=
 match sval N sl c with
 | some v => wayW (mvW nx k (sval N sl x)) (mvW nx k (sval N sl y)) v
 | none => False
theorem q3p {c x y : Operand} (h : qx6 N sl nx k c x y) : ∃ e, Loc E N ops ⟨d, .pick c x y, T, p, af, none⟩ nx sl H e ∧ k e := by
 unfold qx6 at h
 split at h
 ·rename_i v hv
  obtain ⟨b, hb, h⟩ := qzs h
  rcases h with ⟨hc, h⟩ | ⟨hc, h⟩
  ·cases hx : sval N sl x with
   | none => rw [hx] at h; exact h.elim
   | some u => rw [hx] at h; exact ⟨_, vi fun df rd K rest ρ t S hs hk => qls ((zp hs hv).trans (hb ρ)) hc (by rw [zp hs hx]; exact hk), h⟩
  ·cases hx : sval N sl y with
   | none => rw [hx] at h; exact h.elim
   | some u => rw [hx] at h; exact ⟨_, vi fun df rd K rest ρ t S hs hk => qlz ((zp hs hv).trans (hb ρ)) hc (by rw [zp hs hx]; exact hk), h⟩
 ·exact h.elim
def qtm (P : Program) (nx : Nat) (k : Ef → Prop) (t : TypeId) : Prop :=
 match qf7 P t with
 | some cs => k ⟨.bx nx 0, [], [(nx, some (.cells t (nfs cs)))], nx + 1⟩
 | none => False
theorem qi9 (k : Nat) : resF [] H k = none := rfl
theorem qdu (k : Nat) : resF [k] H k = H k := by simp [resF, memN]
theorem q1b {t : TypeId} (h : qtm E.P nx k t) : ∃ e, Loc E N ops ⟨d, .alloc t, T, p, af, none⟩ nx sl H e ∧ k e := by
 unfold qtm at h
 split at h
 ·rename_i cs hz
  refine ⟨_, qla (fun k r hk => by rw [qi9] at hk; simp at hk) fun df rd K rest ρ t' S hs _ hk => qhx rfl hz ?_, h⟩
  have := hk (.bx S.length 0 0) [.cells 0 t cs] ⟨S.length, 0, rfl, by rw [qgs]; exact qa3, rfl⟩ (fun o ho => by simp only [kl, Option.some.injEq] at ho; omega)
  simpa only [SV.ev, yn, bxAt] using this
 ·exact h.elim
theorem qwv {rd : Option Nat} {K : AS → Prop} {rest : List Oper} {s : AS} {t : TypeId} {x : Operand} {r : AV} {cs : List AV} (hx : Wk (qk N s x) r) (hok : r.okc = true) (hc : r.cells = cs)
  (h : AOps E rd N ops rest K (s.put d (.pp cs))) : AOps E rd N ops (⟨d, .box t x, T, p, af, none⟩ :: rest) K s := by
 refine z4 rfl (zz nofun fun B0 w0 G a w _ hI => ?_)
 have hr := (hx _ _ (hI.eval x)).cells hok
 rw [hc] at hr
 obtain ⟨hle, hA⟩ := hI.agree.newPub t (a.eval x).cells (0, 0) (a.eval x).cells.toList (fun i y hy => by simpa using hy)
 have hrun : (execOp a.eval ⟨d, .box t x, T, p, af, none⟩).run E.P w = .ok (.value (.pointer (some ⟨w.heap.size, 0, none⟩))) (w.alloc (.cells (a.eval x).cells t)) := by
  generalize a.eval = ρ
  simp [execOp, Instr.box, newVar, newRow, newObj, Sem.run]
 refine ⟨_, _, _, .pp cs, s.st, hrun, hle, hA, .pp cs w.heap.size 0 (a.eval x).cells.toList (by simp [Gh.publish]) (by rw [hr.1]; simp) fun i x y hx hy => (hr.2 i x y hx (by simpa using hy)).mono hle, h⟩
def qnz (bxs : List Nat) : Option Tmp → Bool
 | some d => memN bxs d
 | none => false
def boxW (bxs : List Nat) (H : Nat → Option SR) (nx : Nat) (k : Ef → Prop) (d : Option Tmp) (t : TypeId) : Option SV → Prop
 | some v => bif qnz bxs d then (bif v.okc && v.all (fun k => !Nat.beq k nx) then k ⟨.bx nx 0, [], [(nx, some (.cells t v.cells))], nx + 1⟩ else False)
  else match frz (resF v.ks H) v with
   | some y => bif y.okc then k ⟨.a (.pp y.cells), v.ks, [], nx⟩ else False
   | none => False
 | none => False
theorem qyp {f : Nat → Bool} : ∀ v : SV, v.all f = true → SV.alls f v.cells = true
 | .ag cs, h => h
 | .a x, _ => qk8 _
 | .i _, _ => rfl
 | .s _, _ => rfl
 | .tt, _ => rfl
 | .ff, _ => rfl
 | .b _, _ => rfl
 | .p _ _, _ => rfl
 | .bx k _, h => by simpa [SV.cells, SV.alls] using h
 | .tp k, h => by simpa [SV.cells, SV.alls] using h
 | .tu cs, h => by simpa [SV.cells, SV.alls] using h
 | .fn _ _ _, h => by simpa [SV.cells, SV.alls] using h
 | .ifc _ _, h => by simpa [SV.cells, SV.alls] using h
theorem q5g {bxs : List Nat} {t : TypeId} {x : Operand} (h : boxW bxs H nx k d t (sval N sl x)) : ∃ e, Loc E N ops ⟨d, .box t x, T, p, af, none⟩ nx sl H e ∧ k e := by
 cases hv : sval N sl x with
 | none => rw [hv] at h; exact h.elim
 | some v =>
  rw [hv] at h
  unfold boxW at h
  cases hb : qnz bxs d with
  | true =>
   rw [hb] at h
   simp only [cond_true] at h
   cases hc : (v.okc && v.all (fun k => !Nat.beq k nx)) with
   | false => rw [hc] at h; exact h.elim
   | true =>
    rw [hc] at h
    simp only [Bool.and_eq_true] at hc
    refine ⟨_, qla (fun k r hk => by rw [qi9] at hk; simp at hk) fun df rd K rest ρ t' S hs _ hk => q0e rfl (zp hs hv) (qrz ρ v hc.1) (qmj ρ v).symm ?_, h⟩
    have he : SV.evs (upd ρ nx (.bx S.length 0 0)) v.cells = SV.evs ρ v.cells := qby (f := fun k => !Nat.beq k nx) (fun k hk => qan _ _ (fun e => by subst e; simp at hk)) _ (qyp v hc.2)
    have := hk (.bx S.length 0 0) [.cells 0 t (SV.evs ρ v.cells)] ⟨S.length, 0, rfl, by rw [he]; exact qa3, rfl⟩ (fun o ho => by simp only [kl, Option.some.injEq] at ho; omega)
    simpa only [SV.ev, yn, bxAt] using this
  | false =>
   rw [hb] at h
   simp only [cond_false] at h
   split at h
   ·rename_i y hy
    cases hc : y.okc with
    | false => rw [hc] at h; exact h.elim
    | true =>
     rw [hc] at h
     exact ⟨_, qaw (v := .a (.pp y.cells)) fun df rd K rest ρ t' S hs hS hk => qwv (by rw [zp hs hv]; exact qku hS v y hy) hc rfl hk, h⟩
   ·exact h.elim
def spl {α : Type} (cs : List α) (off : Nat) (xs : List α) : List α := cs.take off ++ xs ++ cs.drop (off + xs.length)
theorem qy6 (ρ : Nat → AV) (cs xs : List SV) (off : Nat) : SV.evs ρ (spl cs off xs) = yt (SV.evs ρ cs) off (SV.evs ρ xs) := by
 simp [spl, yt, yg]
def qnl (place : Nat → Option (Nat × Nat)) (cells : List SV) : List (Nat × SV) → Option (List SV)
 | [] => some cells
 | (i, x) :: rest =>
  match place i with
  | none => none
  | some (off, size) => bif x.okc && Nat.beq x.cells.length size && Nat.ble (off + size) cells.length then qnl place (spl cells off x.cells) rest else none
theorem qrs (ρ : Nat → AV) (place : Nat → Option (Nat × Nat)) : ∀ (ps : List (Nat × SV)) (cells cs : List SV), qnl place cells ps = some cs → qb4 place (SV.evs ρ cells) (ps.map fun q => (q.1, q.2.ev ρ)) = some (SV.evs ρ cs)
 | [], cells, cs, h => by simp only [qnl, Option.some.injEq] at h; subst h; rfl
 | (i, x) :: rest, cells, cs, h => by
  simp only [qnl] at h
  simp only [List.map_cons, qb4]
  cases hp : place i with
  | none => rw [hp] at h; simp at h
  | some q =>
   obtain ⟨off, size⟩ := q
   rw [hp] at h
   simp only at h ⊢
   cases hb : (x.okc && Nat.beq x.cells.length size && Nat.ble (off + size) cells.length) with
   | false => rw [hb] at h; simp at h
   | true =>
    rw [hb] at h
    simp only [Bool.and_eq_true] at hb
    have hl : ∀ l : List SV, (SV.evs ρ l).length = l.length := fun l => by simp [yg]
    rw [qrz ρ x hb.1.1, ← qmj, hl, hl, hb.1.2, hb.2, ← qy6]
    exact qrs ρ place rest _ cs h
def qk6 (N : Nat) (sl : List (Nat × SV)) : List (Nat × Operand) → Option (List (Nat × SV))
 | [] => some []
 | (i, x) :: r => match sval N sl x, qk6 N sl r with
  | some v, some l => some ((i, v) :: l)
  | _, _ => none
theorem qgp {ρ t : Nat → AV} {S : List AObj} {df : List Nat} (h : SlOk ρ t sl) : ∀ {xs : List (Nat × Operand)} {l : List (Nat × SV)}, qk6 N sl xs = some l → (xs.map fun x => (x.1, qk N ⟨t, S, df⟩ x.2)) = l.map fun q => (q.1, q.2.ev ρ)
 | [], l, hx => by simp only [qk6, Option.some.injEq] at hx; subst hx; rfl
 | (i, x) :: r, l, hx => by
  simp only [qk6] at hx
  split at hx
  ·rename_i v l' h1 h2
   simp only [Option.some.injEq] at hx
   subst hx
   simp only [List.map_cons, zp h h1, qgp h h2]
  ·simp at hx
def qse (P : Program) (N : Nat) (sl : List (Nat × SV)) (nx : Nat) (k : Ef → Prop) (t : TypeId) (parts : Array (Nat × Operand)) : Prop :=
 match qf7 P t, qou P t, qk6 N sl parts.toList with
 | some zs, some pl, some ps => (match qnl (pl[·]?) (nfs zs) ps with
  | some cs => k (xy nx (.ag cs))
  | none => False)
 | _, _, _ => False
theorem q2b {t : TypeId} {parts : Array (Nat × Operand)} (h : qse E.P N sl nx k t parts) : ∃ e, Loc E N ops ⟨d, .build t parts, T, p, af, none⟩ nx sl H e ∧ k e := by
 unfold qse at h
 split at h
 ·rename_i zs pl ps hz hp hs
  split at h
  ·rename_i cs hf
   refine ⟨_, vi (v := .ag cs) fun df rd K rest ρ t' S ho hk => zt hz hp (cs := SV.evs ρ cs) ?_ hk, h⟩
   have := qrs ρ _ _ _ _ hf
   rw [qgs] at this
   unfold xl
   rw [qgp ho hs]
   exact this
  ·exact h.elim
 ·exact h.elim
def qin (sz : Nat) (agg : Bool) (off : Nat) (cs : List SV) : Option SV :=
 bif agg then (bif Nat.ble (off + sz) cs.length then some (.ag ((cs.drop off).take sz)) else none) else cs[off]?
theorem qmn (ρ : Nat → AV) {sz : Nat} {agg : Bool} {off : Nat} {cs : List SV} {v : SV} (h : qin sz agg off cs = some v) : wd sz agg off (SV.evs ρ cs) = some (v.ev ρ) := by
 unfold qin at h
 unfold wd
 cases agg with
 | true =>
  simp only [cond_true] at h ⊢
  rw [yg, List.length_map]
  cases hb : Nat.ble (off + sz) cs.length with
  | false => rw [hb] at h; simp at h
  | true =>
   rw [hb] at h
   simp only [cond_true, Option.some.injEq] at h ⊢
   subst h
   simp [SV.ev, yg]
 | false =>
  simp only [cond_false] at h ⊢
  rw [yg, List.getElem?_map, h]
  rfl
def optW (nx : Nat) (ks : List Nat) (k : Ef → Prop) : Option SV → Prop
 | some v => k ⟨v, ks, [], nx⟩
 | none => False
def qv9 (P : Program) (H : Nat → Option SR) (nx : Nat) (k : Ef → Prop) (t : TypeId) : Option SV → Prop
 | some (.bx b off) => (match H b, tyOf P t with
  | some (.cells _ cs), some (sz, agg) => optW nx [b] k (qin sz agg off cs)
  | _, _ => False)
 | some (.a (.pp cs)) => (match tyOf P t with
  | some (sz, agg) => (match wd sz agg 0 cs with
   | some r => k (xy nx (nf r))
   | none => False)
  | none => False)
 | _ => False
theorem q3w {t : TypeId} {x : Operand} (h : qv9 E.P H nx k t (sval N sl x)) : ∃ e, Loc E N ops ⟨d, .load t x, T, p, af, none⟩ nx sl H e ∧ k e := by
 unfold qv9 at h
 split at h
 ·rename_i b off hv
  split at h
  ·rename_i T' cs sz agg hH ht
   cases hl : qin sz agg off cs with
   | none => rw [hl] at h; exact h.elim
   | some v =>
    rw [hl] at h
    refine ⟨_, qaw fun df rd K rest ρ t' S hs hS hk => ?_, h⟩
    obtain ⟨o, ver, h1, h2, h0⟩ := hS.ok b _ ((qdu b).trans hH)
    exact w6 (o := o) (ver := ver) (off := off) ((zp hs hv).trans (by simp only [SV.ev, h1, bxAt])) h2 ht (qmn ρ hl) hk
  ·exact h.elim
 ·rename_i cs hv
  split at h
  ·rename_i sz agg ht
   split at h
   ·rename_i r hr
    exact ⟨_, vi fun df rd K rest ρ t' S hs hk => zc (zp hs hv) ht hr (by rw [← qkx ρ r]; exact hk), h⟩
   ·exact h.elim
  ·exact h.elim
 ·exact h.elim
def qrw (P : Program) (H : Nat → Option SR) (nx : Nat) (k : Ef → Prop) (t : TypeId) : Option SV → Option SV → Prop
 | some (.bx b off), some v => (match H b, tyOf P t with
  | some (.cells T cs), some (sz, agg) => bif v.okc && Nat.beq v.cells.length sz && ones v.cells && Nat.ble (off + sz) cs.length then k ⟨.a (.v undef), [b], [(b, some (.cells T (spl cs off v.cells)))], nx⟩ else False
  | _, _ => False)
 | _, _ => False
theorem q09 {t : TypeId} {x y : Operand} (h : qrw E.P H nx k t (sval N sl x) (sval N sl y)) : ∃ e, Loc E N ops ⟨d, .store t x y, T, p, af, none⟩ nx sl H e ∧ k e := by
 unfold qrw at h
 split at h
 ·rename_i b off v hv hy
  split at h
  ·rename_i T' cs sz agg hH ht
   cases hb : (v.okc && Nat.beq v.cells.length sz && ones v.cells && Nat.ble (off + sz) cs.length) with
   | false => rw [hb] at h; exact h.elim
   | true =>
    rw [hb] at h
    simp only [Bool.and_eq_true] at hb
    refine ⟨_, fun df rd K rest ρ t' S hs hS hk => ?_, h⟩
    obtain ⟨o, ver, h1, h2, h0⟩ := hS.ok b _ ((qdu b).trans hH)
    have hl : ∀ l : List SV, (SV.evs ρ l).length = l.length := fun l => by simp [yg]
    refine qio (o := o) (ver := ver) (off := off) (xs := SV.evs ρ v.cells) ((zp hs hv).trans (by simp only [SV.ev, h1, bxAt])) (zp hs hy) h2 ht (qrz ρ v hb.1.1.1) (qmj ρ v).symm (by rw [hl]; exact Nat.eq_of_beq_eq_true hb.1.1.2) (qvd ρ _ hb.1.2) (by rw [hl]; exact Nat.le_of_ble_eq_true hb.2) ?_
    rw [← qy6]
    have key : ∀ k r, chF [(b, some (.cells T' (spl cs off v.cells)))] (resF [b] H) k = some r → k = b ∧ r = .cells T' (spl cs off v.cells) := fun k r hk => by
     simp only [chF, lkS] at hk
     by_cases e : b = k
     ·subst e
      have : Nat.beq b b = true := by simp
      rw [this] at hk
      simp only [cond_true, Option.some.injEq] at hk
      exact ⟨rfl, hk.symm⟩
     ·rw [wm e] at hk
      have := (yp hk).1
      simp only [memN, List.any_cons, List.any_nil, Bool.or_false] at this
      exact absurd (Nat.eq_of_beq_eq_true this).symm e
    refine hk ρ _ ⟨fun _ _ => rfl, ⟨fun k r hk => ?_, fun k k' r r' hne g1 g2 => ?_⟩, by simp, fun j hj hne => ?_, fun k r hk o' ho' => ?_⟩
    ·obtain ⟨rfl, rfl⟩ := key k r hk
     exact ⟨o, ver, h1, qgh h2, h0⟩
    ·exact absurd ((key k r g1).1.trans (key k' r' g2).1.symm) hne
    ·have := hne b _ ((qdu b).trans hH)
     rw [h1] at this
     exact List.getElem?_set_ne (fun e => this (by rw [e]; rfl))
    ·obtain ⟨rfl, rfl⟩ := key k r hk
     exact .inr ⟨k, _, (qdu k).trans hH, ho'⟩
  ·exact h.elim
 ·exact h.elim
def qrd (nx : Nat) (k : Ef → Prop) : Option SV → Prop
 | some (.bx b off) => k (xy nx (.bx b off))
 | some (.a (.pp cs)) => k (xy nx (.a (.pp cs)))
 | _ => False
theorem q1a {x : Operand} (h : qrd nx k (sval N sl x)) : ∃ e, Loc E N ops ⟨d, .nilCheck x, T, p, af, none⟩ nx sl H e ∧ k e := by
 unfold qrd at h
 split at h
 ·rename_i b off hv
  exact ⟨_, vi fun df rd K rest ρ t' S hs hk => zv (zp hs hv) (by simp only [SV.ev]; cases ρ b <;> rfl) hk, h⟩
 ·rename_i cs hv
  exact ⟨_, vi fun df rd K rest ρ t' S hs hk => zv (zp hs hv) rfl hk, h⟩
 ·exact h.elim
end
end Go.Av
