/- Contracts and plain facts that the closing text leans on (part 4). No condition of their own beyond those that each states. -/
import Derived.Test.YtefmcijohgpfhaaGreatDoorK3
set_option maxRecDepth 100000
set_option linter.unusedVariables false
set_option linter.unusedSimpArgs false
set_option maxRecDepth 100000
set_option linter.unusedVariables false
namespace Go.Proofs.YtefmcijohgpfhaaGreatDoor
open Go Go.Av Go.RowKit Go.Proofs Go.Pl
theorem qj6 {l : qa} : qx l = 4 ↔ 10 ∉ l ∧ 58 ∈ l ∧ qb5 (jm l) := by
 unfold qx
 by_cases h10 : 10 ∈ l
 ·simp [h10]
 ·rw [if_neg h10]
  constructor
  ·intro h
   split at h
   ·simp at h
   ·split at h
    ·simp at h
    ·split at h
     ·simp at h
     ·split at h
      ·rename_i hk; exact ⟨h10, hk.1, hk.2⟩
      ·simp at h
  ·rintro ⟨_, h58, hk⟩
   obtain ⟨c, hc, hb, h35⟩ := qgt hk
   have hh : l.head? = some c := by
    cases l with
    | nil => simp at h58
    | cons a r =>
     unfold jm at hc
     rw [List.takeWhile_cons] at hc
     split at hc
     ·simpa using hc
     ·simp at hc
   have hmem : c ∈ l := List.mem_of_head? hh
   rw [if_neg (fun h' => hb (h' c hmem)), if_neg (by rw [hh]; simpa using h35), if_neg (fun ⟨d, hd, hd'⟩ => by rw [hh] at hd; cases hd; exact hb hd'), if_pos ⟨h58, hk⟩]
theorem qp9 {s : qa} (h : qx s = 3) : s ≠ [] := fun e => by subst e; revert h; decide
theorem qv5 (l : qa) (st : List AObj) (hl : l.length < 4294967281) (h : qx l = 4) : qm E 196 [Sv l] st fun r st' => r = .tu [Sv (jm l), Sv (ve l), Bv true] ∧ st' = st := by
 refine q8 (qeu _ _ _) (qq Tryz.func196 rfl (Nat.le_of_ble_eq_true rfl) ?_)
 have hc : Lib.cut l [58] = (jm l, ve l, true) := by rw [qpt, if_pos (qj6.1 h).2.1]
 repeat' (first
  | apply qj
  | apply qb
  | apply qg
  | apply qh
  | apply qc
  | (apply zb; exact rfl; exact rfl)
  | (apply qo; (iterate 3 exact rfl))
  | (apply qd; exact rfl; first | (apply qy; (first | assumption | omega)) | (apply q4; (first | assumption | omega)) | (apply q5; (first | exact rfl | assumption)) | (apply qz; (first | exact rfl | assumption)) | (apply cd_n <;> intro h) | (apply cd_t; (first | exact rfl | assumption)) | (apply cd_f; (first | exact rfl | assumption)) | (apply cd_d <;> intro h) | (apply cd_s <;> intro h))
  | apply qv
  | apply qs
  | (apply qe; exact Tryz.call132; exact qfw _ _ hl)
  | (apply qe; exact Tryz.call36; exact qna _ _ _ hl))
 refine qk rfl (qdk rfl) ⟨q5h (?_ : _ = _), _, rfl⟩
 rw [hc]
theorem qtu (l : qa) (st : List AObj) (hl : l.length < 4294967281) (h : qx l ≠ 4) : qm E 196 [Sv l] st fun r st' => r = .tu [Sv [], Sv [], Bv false] ∧ st' = st := by
 refine q8 (qeu _ _ _) (qq Tryz.func196 rfl (Nat.le_of_ble_eq_true rfl) ?_)
 repeat' (first
  | apply qj
  | apply qb
  | apply qg
  | apply qh
  | apply qc
  | (apply qo; (iterate 3 exact rfl))
  | (apply qd; exact rfl; first | (apply qy; (first | assumption | omega)) | (apply q4; (first | assumption | omega)) | (apply q5; (first | exact rfl | assumption)) | (apply qz; (first | exact rfl | assumption)) | (apply cd_n <;> intro h) | (apply cd_t; (first | exact rfl | assumption)) | (apply cd_f; (first | exact rfl | assumption)) | (apply cd_d <;> intro h) | (apply cd_s <;> intro h))
  | apply qs
  | (apply qe; exact Tryz.call132; exact qfw _ _ hl))
 exact qk rfl (qdk rfl) ⟨rfl, _, rfl⟩
theorem qu3 {fn : Func} {s : AS} {t u : Tmp} {Ta : TypeId} {o1 v1 f1 sz1 : Nat} {agg1 : Bool} {T1 : TypeId} {cs1 : List AV} {r1 : AV} (hr : fn.results = #[.cell t Ta, .tmp u]) (hx1 : qf fn.ntmps s (.tmp t) = .bx o1 v1 f1) (ho1 : s.st[o1]? = some (.cells v1 T1 cs1)) (ht1 : tyOf E.P Ta = some (sz1, agg1)) (hl1 : jj sz1 agg1 f1 cs1 = some r1) :
  ARes E fn s (.tu [r1, qf fn.ntmps s (.tmp u)]) := by
 refine ⟨fun B0 w0 G a w hL hI => ?_⟩
 obtain ⟨b, v, h1, h2, h3⟩ := qeg hI hx1 ho1 ht1 hl1
 have hu := hI.rd u
 refine ⟨.tuple #[v, a.tmps.getD u undef], ?_, qhw h3 hu⟩
 simp only [Act.eval, Array.getD_eq_getD_getElem?] at h1
 simp [results, hr, h1, asAddr, h2]
def qc9 (ls : List qa) : AV := .tu [fldA (jf ls).1, errN (jf ls).2]
theorem qsm (ls : List qa) : Pure (qc9 ls) := qd0 fun x hx => by
 simp only [List.mem_cons, List.not_mem_nil, or_false] at hx
 rcases hx with rfl | rfl
 ·exact qku fun x hx => by
   simp only [List.mem_cons, List.not_mem_nil, or_false] at hx
   rcases hx with rfl | rfl <;> exact zd _
 ·exact qgv _
theorem qcj {fn : Func} {s : AS} {t u : Tmp} {Ta : TypeId} {st loc ext new : List AObj} {k1 v1 f1 sz1 : Nat} {agg1 : Bool} {T1 : TypeId} {cs1 : List AV} {r1 : AV} (hr : fn.results = #[.cell t Ta, .tmp u]) (hs : s.st = ((st ++ loc) ++ ext) ++ new) (hx1 : qf fn.ntmps s (.tmp t) = .bx (st.length + k1) v1 f1) (ho1 : loc[k1]? = some (.cells v1 T1 cs1)) (ht1 : tyOf E.P Ta = some (sz1, agg1)) (hl1 : jj sz1 agg1 f1 cs1 = some r1) :
  ARes E fn s (.tu [r1, qf fn.ntmps s (.tmp u)]) := qu3 hr hx1 (by rw [hs]; exact qa9 ho1) ht1 hl1
theorem qlh {fn : Func} {s : AS} {t u : Tmp} {Ta : TypeId} {st loc : List AObj} {k1 v1 f1 sz1 : Nat} {agg1 : Bool} {T1 : TypeId} {cs1 : List AV} {r1 : AV} (hr : fn.results = #[.cell t Ta, .tmp u]) (hs : s.st = st ++ loc) (hx1 : qf fn.ntmps s (.tmp t) = .bx (st.length + k1) v1 f1) (ho1 : loc[k1]? = some (.cells v1 T1 cs1)) (ht1 : tyOf E.P Ta = some (sz1, agg1)) (hl1 : jj sz1 agg1 f1 cs1 = some r1) :
  ARes E fn s (.tu [r1, qf fn.ntmps s (.tmp u)]) := qu3 hr hx1 (by rw [hs]; exact z2 ho1) ht1 hl1
structure LsB (ls : List qa) : Prop where
 len : ls.length < 1000000
 val : ∀ s ∈ ls, s.length < 1000000
theorem qqy : ∀ (r : List qa), (∀ s ∈ r, s.length < 1000000) → (r.flatMap fun s => [10] ++ kf 46 (s.drop 1)).length ≤ 1000001 * r.length
 | [], _ => by simp
 | a :: r, h => by
  have ih := qqy r fun s hs => h s (by simp [hs])
  have ha := h a (by simp)
  have ht : (kf 46 (a.drop 1)).length ≤ a.length := by unfold kf; split <;> simp <;> omega
  simp only [List.flatMap_cons, List.length_append, List.length_cons, List.length_nil]
  omega
theorem q0b (v : qa) (r : List qa) : Lib.join (v :: r.map fun s => kf 46 (s.drop 1)) [10] = v ++ r.flatMap fun s => [10] ++ kf 46 (s.drop 1) := by
 rw [Lib.join_cons]
 unfold Lib.joinTail
 rw [List.map_map, List.flatMap_def]
 rfl
theorem qou (xs : List qa) (tip : Option Nat) (sep v : qa) (st : List AObj) (h : Lib.join xs sep = v) (hN : xs.length ≤ 140737488355328) (hl : v.length ≤ 140737488355328) : qm E 88 [.sl 1 (xs.map fun x => Sv x) tip, Sv sep] st fun r st' => r = Sv v ∧ st' = st := by
 subst h
 exact qyk xs tip sep st hN hl
set_option maxHeartbeats 4000000 in
theorem qkd (ls : List qa) (st : List AObj) (hB : LsB ls) : qm E 166 [Ss ls] st fun r st' => r = qc9 ls ∧ st' = st := by
 refine q8 (qsm _) (qq Tryz.func166 rfl (Nat.le_of_ble_eq_true rfl) ?_)
 have hL := hB.len
 have hml : (ls.map fun x => Sv x).length = ls.length := by simp
 cases ls with
 | nil =>
  repeat' (first
   | apply qj
   | apply qb
   | apply qg
   | apply qh
   | apply qc
   | (apply qo; (iterate 3 exact rfl))
   | (apply qd; exact rfl; first | (apply qy; (first | assumption | omega)) | (apply q4; (first | assumption | omega)) | (apply q5; (first | exact rfl | assumption)) | (apply qz; (first | exact rfl | assumption)) | (apply cd_n <;> intro h) | (apply cd_t; (first | exact rfl | assumption)) | (apply cd_f; (first | exact rfl | assumption)) | (apply cd_d <;> intro h) | (apply cd_s <;> intro h))
   | (apply zx; (iterate 4 exact rfl))
   | (apply zg; exact rfl; exact rfl)
   | (apply zq; exact rfl; exact rfl)
   | (apply zj; (iterate 11 exact rfl))
   | (apply js; (iterate 3 exact rfl))
   | apply qs)
  exact qk rfl (qlh rfl rfl rfl rfl rfl rfl) ⟨rfl, _, rfl⟩
 | cons l r =>
  have hl := hB.val l (by simp)
  by_cases h4 : qx l = 4
  ·have hk := qj6.1 h4
   have htr : (kf 32 (ve l)).length ≤ l.length := by unfold kf ve; split <;> simp <;> omega
   simp only [List.length_cons] at hL
   repeat' (first
    | (apply x9; (iterate 6 exact rfl))
    | apply qj
    | apply qt
    | apply qb
    | apply qg
    | apply qh
    | apply qc
    | (apply zb; exact rfl; exact rfl)
    | (apply qo; (iterate 3 exact rfl))
    | (apply z7; exact rfl)
    | (apply qd; exact rfl; first | (apply qy; (first | assumption | omega)) | (apply q4; (first | assumption | omega)) | (apply q5; (first | exact rfl | assumption)) | (apply qz; (first | exact rfl | assumption)) | (apply cd_n <;> intro h) | (apply cd_t; (first | exact rfl | assumption)) | (apply cd_f; (first | exact rfl | assumption)) | (apply cd_d <;> intro h) | (apply cd_s <;> intro h))
    | (apply zx; (iterate 4 exact rfl))
    | (apply zq; exact rfl; exact rfl)
    | (apply zt; (iterate 3 exact rfl))
    | (apply xb; (iterate 4 exact rfl); (first | assumption | omega | exact Nat.succ_le_succ (Nat.zero_le _) | (simp; omega)); exact rfl)
    | apply qv
    | (apply qe; exact Tryz.call196; exact qv5 _ _ (by omega) h4)
    | (apply qe; exact Tryz.call96; exact quu _ _ _)
    | (apply z0 (n := 0); (iterate 6 exact rfl)))
   refine qpw 7 (o := st.length + 1) (sz := 1) (len := 1) (cap := 1) (xs := [Sv (kf 32 (ve l))]) (T' := 9) rfl (z2 rfl) rfl rfl (by omega) (Nat.le_refl _) (by decide) (by simp [AV.cells]) rfl ?_
   have hrm : (r.map fun x => Sv x).length = r.length := by simp
   refine qam r (fun pre s => (∀ x ∈ pre, qx x = 3) ∧ StE [(2, .bx (st.length + 0) 0 0), (4, Sv (jm l)), (7, .sl 1 (Sv (kf 32 (ve l)) :: pre.map (fun s => Sv (kf 46 (s.drop 1)))) (some (st.length + 1))), (33, .sl 1 (r.map fun x => Sv x) none), (34, Iv r.length), (35, Iv pre.length)] st [.cells 0 69 [Sv [], Sv []], .tip (pre.length + 1) 1 9] s) ⟨by simp, qb6 ⟨rfl, rfl, rfl, rfl, congrArg (fun n : Nat => Iv (n : Int)) hrm, rfl, trivial⟩ (vv st _ 1 _)⟩ ?_ ?_
   ·rintro _ ⟨h3, t, ext, rfl⟩
    have hok : qmu (l :: r) := ⟨by simp, h4, h3⟩
    have hjl := qqy r fun s hs => hB.val s (by simp [hs])
    have hj := q0b (kf 32 (ve l)) r
    have hjv : Lib.join (kf 32 (ve l) :: r.map fun s => kf 46 (s.drop 1)) [10] = yx l r := hj
    have hvl : (yx l r).length ≤ 140737488355328 := by
     unfold yx
     rw [List.length_append]
     omega
    have hmm : (Sv (kf 32 (ve l)) :: r.map fun s => Sv (kf 46 (s.drop 1))) = (kf 32 (ve l) :: r.map fun s => kf 46 (s.drop 1)).map fun x => Sv x := by simp [List.map_map]
    rw [hmm]
    have hkl : (jm l).length < 4294967281 := by have := hk.2.2.2.1; omega
    have hun : jf (l :: r) = if 1000 < (yx l r).length then (([], []), 6) else ((jm l, yx l r), 0) := if_pos hok
    by_cases hv : 1000 < (yx l r).length
    ·have hcf : jz (jm l, yx l r) = 6 := (if_neg (by simpa using hk.2.2)).trans (if_pos hv)
     repeat' (first
      | apply qj
      | apply qb
      | apply qg
      | apply qh
      | (apply qo; (iterate 3 exact rfl))
      | (apply qd; exact rfl; first | (apply qy; (first | assumption | omega)) | (apply q4; (first | assumption | omega)) | (apply q5; (first | exact rfl | assumption)) | (apply qz; (first | exact rfl | assumption)) | (apply cd_n <;> intro h) | (apply cd_t; (first | exact rfl | assumption)) | (apply cd_f; (first | exact rfl | assumption)) | (apply cd_d <;> intro h) | (apply cd_s <;> intro h))
      | apply jk)
     refine qe Tryz.call88 (qou (kf 32 (ve l) :: r.map fun s : qa => kf 46 (s.drop 1)) _ _ _ _ hjv ?_ hvl) ?_
     ·simp; omega
     repeat' (first
      | apply qj
      | apply qb
      | apply qg
      | apply qh
      | apply qc
      | (apply qd; exact rfl; first | (apply qy; (first | assumption | omega)) | (apply q4; (first | assumption | omega)) | (apply q5; (first | exact rfl | assumption)) | (apply qz; (first | exact rfl | assumption)) | (apply cd_n <;> intro h) | (apply cd_t; (first | exact rfl | assumption)) | (apply cd_f; (first | exact rfl | assumption)) | (apply cd_d <;> intro h) | (apply cd_s <;> intro h))
      | (apply jc; exact rfl; exact rfl)
      | (apply zq; exact rfl; exact rfl)
      | (apply va; (iterate 11 exact rfl))
      | (apply zm; (iterate 5 exact rfl))
      | (apply zj; (iterate 11 exact rfl))
      | (apply js; (iterate 3 exact rfl))
      | apply qs
      | (apply qe; exact Tryz.call124; exact qgc (jm l, yx l r) _ hkl (by rw [hcf]; decide)))
     refine qk rfl (qcj rfl rfl rfl rfl rfl rfl) ⟨?_, vc _ _ _ _⟩
     unfold qc9
     rw [hun, if_pos hv]
     exact congrArg (fun n : Int => AV.tu [fldA ([], []), .ifc 31 (Iv n)]) hcf
    ·have hcf : jz (jm l, yx l r) = 0 := (if_neg (by simpa using hk.2.2)).trans (if_neg hv)
     repeat' (first
      | apply qj
      | apply qb
      | apply qg
      | apply qh
      | apply qc
      | (apply qo; (iterate 3 exact rfl))
      | (apply qd; exact rfl; first | (apply qy; (first | assumption | omega)) | (apply q4; (first | assumption | omega)) | (apply q5; (first | exact rfl | assumption)) | (apply qz; (first | exact rfl | assumption)) | (apply cd_n <;> intro h) | (apply cd_t; (first | exact rfl | assumption)) | (apply cd_f; (first | exact rfl | assumption)) | (apply cd_d <;> intro h) | (apply cd_s <;> intro h))
      | (apply z6; exact rfl; exact rfl)
      | (apply zq; exact rfl; exact rfl)
      | (apply va; (iterate 11 exact rfl))
      | (apply zm; (iterate 5 exact rfl))
      | (apply zj; (iterate 11 exact rfl))
      | (apply js; (iterate 3 exact rfl))
      | apply qv
      | apply jk
      | apply qs
      | (refine qe Tryz.call88 (qou (kf 32 (ve l) :: r.map fun s : qa => kf 46 (s.drop 1)) _ _ _ _ hjv ?_ hvl) ?_; (simp; omega))
      | (apply qe; exact Tryz.call124; exact qfs (jm l, yx l r) _ hkl hcf))
     refine qk rfl (qcj rfl rfl rfl rfl rfl rfl) ⟨?_, vc _ _ _ _⟩
     unfold qc9
     rw [hun, if_neg hv]
     rfl
   ·rintro pre a rest _ hr ⟨h3, t, ext, rfl⟩
    have hrlen : r.length = pre.length + (rest.length + 1) := by rw [hr]; simp
    have hget : (r.map fun x => Sv x)[pre.length]? = some (Sv a) := by rw [hr]; simp
    have ha := hB.val a (by rw [hr]; simp)
    by_cases hka : qx a = 3
    ·have hpos : 1 ≤ a.length := List.length_pos_iff.2 (qp9 hka)
     repeat' (first
      | apply qj
      | apply qt
      | apply qb
      | apply qg
      | apply qh
      | apply qc
      | (apply qo; (iterate 3 exact rfl))
      | (apply qd; exact rfl; first | (apply qy; (first | assumption | omega)) | (apply q4; (first | assumption | omega)) | (apply q5; (first | exact rfl | assumption)) | (apply qz; (first | exact rfl | assumption)) | (apply cd_n <;> intro h) | (apply cd_t; (first | exact rfl | assumption)) | (apply cd_f; (first | exact rfl | assumption)) | (apply cd_d <;> intro h) | (apply cd_s <;> intro h))
      | (apply jh; exact rfl; exact rfl; exact zl (by omega) (by omega))
      | (apply zt; (iterate 3 exact rfl))
      | (apply qbr; (iterate 3 exact rfl); first | assumption | omega | (simp; omega))
      | (apply jt; (iterate 9 exact rfl))
      | apply qv
      | (apply qe; exact Tryz.call132; exact qfw _ _ (by omega))
      | (apply qe; exact Tryz.call96; exact quu _ _ _)
      | (apply z0 (n := pre.length); (iterate 5 exact rfl); exact hget)
      | (apply qgo (n := pre.length + 1) (m := 1) (sz := 1) (bytes := 16); (iterate 4 exact rfl); simp; exact rfl; exact rfl; exact ⟨⟨_, _, rfl, rfl, rfl, rfl, rfl⟩⟩; exact rfl; exact rfl; (unfold maxLen; omega); omega; exact rfl))
     refine ⟨fun x hx => ?_, qa5 ⟨rfl, rfl, ?_, rfl, rfl, ?_, trivial⟩ ?_⟩
     ·rcases List.mem_append.1 hx with hx | hx
      ·exact h3 x hx
      ·simp at hx; subst hx; exact hka
     ·exact qti _ (fun s : qa => Sv (kf 46 (s.drop 1))) pre a _ rfl
     ·exact qfl pre a
     ·rw [qd2 pre a]; rfl
    ·skip
     repeat' (first
      | apply qj
      | apply qt
      | apply qb
      | apply qg
      | apply qh
      | apply qc
      | (apply qo; (iterate 3 exact rfl))
      | (apply qd; exact rfl; first | (apply qy; (first | assumption | omega)) | (apply q4; (first | assumption | omega)) | (apply q5; (first | exact rfl | assumption)) | (apply qz; (first | exact rfl | assumption)) | (apply cd_n <;> intro h) | (apply cd_t; (first | exact rfl | assumption)) | (apply cd_f; (first | exact rfl | assumption)) | (apply cd_d <;> intro h) | (apply cd_s <;> intro h))
      | (apply zg; exact rfl; exact rfl)
      | (apply zt; (iterate 3 exact rfl))
      | (apply va; (iterate 11 exact rfl))
      | (apply js; (iterate 3 exact rfl))
      | apply qv
      | apply qs
      | (apply qe; exact Tryz.call132; exact qfw _ _ (by omega))
      | (apply z0 (n := pre.length); (iterate 5 exact rfl); exact hget))
     have hno : jf (l :: r) = (([], []), 2) := if_neg fun h => hka (h.2.2 a (by rw [hr]; simp))
     refine qk rfl (qcj rfl rfl rfl rfl rfl rfl) ⟨?_, vc _ _ _ _⟩
     unfold qc9
     rw [hno]
     rfl
  ·have hno : jf (l :: r) = (([], []), 2) := if_neg fun h => h4 h.2.1
   simp only [List.length_cons] at hL
   repeat' (first
    | apply qj
    | apply qb
    | apply qg
    | apply qh
    | apply qc
    | (apply zb; exact rfl; exact rfl)
    | (apply qo; (iterate 3 exact rfl))
    | (apply z7; exact rfl)
    | (apply qd; exact rfl; first | (apply qy; (first | assumption | omega)) | (apply q4; (first | assumption | omega)) | (apply q5; (first | exact rfl | assumption)) | (apply qz; (first | exact rfl | assumption)) | (apply cd_n <;> intro h) | (apply cd_t; (first | exact rfl | assumption)) | (apply cd_f; (first | exact rfl | assumption)) | (apply cd_d <;> intro h) | (apply cd_s <;> intro h))
    | (apply zx; (iterate 4 exact rfl))
    | (apply zg; exact rfl; exact rfl)
    | (apply zq; exact rfl; exact rfl)
    | (apply zt; (iterate 3 exact rfl))
    | (apply zj; (iterate 11 exact rfl))
    | (apply js; (iterate 3 exact rfl))
    | apply qv
    | apply qs
    | (apply qe; exact Tryz.call196; exact qtu _ _ (by omega) h4)
    | (apply z0 (n := 0); (iterate 6 exact rfl)))
   refine qk rfl (qlh rfl rfl rfl rfl rfl rfl) ⟨?_, _, rfl⟩
   unfold qc9
   rw [hno]
   rfl
end Go.Proofs.YtefmcijohgpfhaaGreatDoor
set_option maxRecDepth 100000
set_option linter.unusedVariables false
namespace Go.Proofs.YtefmcijohgpfhaaGreatDoor
open Go Go.Av Go.RowKit Go.Proofs Go.Pl
theorem qth {α : Type} {P : α → Prop} {pre : List α} {a : α} (h : ∀ x ∈ pre, P x) (ha : P a) : ∀ x ∈ pre ++ [a], P x := fun x hx => by
 rcases List.mem_append.1 hx with hx | hx
 ·exact h x hx
 ·simp at hx; subst hx; exact ha
end Go.Proofs.YtefmcijohgpfhaaGreatDoor
set_option maxRecDepth 100000
set_option linter.unusedVariables false
namespace Go.Pl
open Go Go.Proofs
structure LnV where
 no : Nat
 at' : Nat
 text : qa
 ended : Bool
def wg (k a : Nat) (l : qa) : List LnV := if h : l = [] then [] else ⟨k, a, upto 10 l, decide (10 ∈ l)⟩ :: wg (k + 1) (a + (upto 10 l).length + 1) (past 10 l)
 termination_by l.length
 decreasing_by exact wo h
def lns (l : qa) : List LnV := wg 0 0 l
theorem qh0 (k a : Nat) : wg k a [] = [] := by unfold wg; simp
theorem qfy {k a : Nat} {l : qa} (h : l ≠ []) : wg k a l = ⟨k, a, upto 10 l, decide (10 ∈ l)⟩ :: wg (k + 1) (a + (upto 10 l).length + 1) (past 10 l) := by
 conv => lhs; unfold wg
 rw [dif_neg h]
def whole (l : qa) : Prop := l = [] ∨ l.getLast? = some 10
theorem qp7 : ∀ (n : Nat) (l : qa) (k a : Nat), l.length ≤ n → (wg k a l).length ≤ l.length
 | n, l, k, a, hn => by
  by_cases h : l = []
  ·subst h; simp [qh0]
  ·have hlt := wo (c := 10) h
   cases n with
   | zero => omega
   | succ n =>
    rw [qfy h, List.length_cons]
    have := qp7 n (past 10 l) (k + 1) (a + (upto 10 l).length + 1) (by omega)
    omega
end Go.Pl
set_option maxRecDepth 100000
set_option linter.unusedVariables false
namespace Go.Pl
open Go Go.Proofs
def indF (by' : qa) (ls : List (qa × Bool)) : qa := ls.flatMap fun x => by' ++ x.1 ++ wp x.2
def x2 (by' l : qa) : qa := indF by' (zu l)
theorem qss (by' : qa) (a b : List (qa × Bool)) : indF by' (a ++ b) = indF by' a ++ indF by' b := by simp [indF]
theorem qte (by' : qa) (x : qa × Bool) : indF by' [x] = by' ++ x.1 ++ wp x.2 := by simp [indF]
def lsum (ls : List (qa × Bool)) : Nat := (ls.map fun x => x.1.length + (wp x.2).length).sum
theorem qeo : ∀ (n : Nat) (l : qa), l.length ≤ n → lsum (zu l) = l.length ∧ (zu l).length ≤ l.length
 | n, l, hn => by
  by_cases h : l = []
  ·subst h; simp [vz, lsum]
  ·have hlt := wo (c := 10) h
   cases n with
   | zero => omega
   | succ n =>
    obtain ⟨h1, h2⟩ := qeo n (past 10 l) (by omega)
    rw [v6 h]
    unfold lsum at h1 ⊢
    simp only [List.map_cons, List.sum_cons, List.length_cons]
    rw [h1]
    have hp := jy 10 l
    have hu := kl 10 l
    by_cases h10 : 10 ∈ l
    ·have := qb7 h10
     simp [h10, wp]
     omega
    ·have hu2 : (upto 10 l).length = l.length := by rw [ye h10]
     have hpos := List.length_pos_iff.2 h
     simp [h10, wp]
     omega
theorem ql4 (by' : qa) : ∀ (ls : List (qa × Bool)), (indF by' ls).length = lsum ls + by'.length * ls.length
 | [] => by simp [indF, lsum]
 | x :: r => by
  have ih := ql4 by' r
  simp only [indF, lsum, List.flatMap_cons, List.length_append, List.map_cons, List.sum_cons, List.length_cons] at ih ⊢
  rw [ih, Nat.mul_add]
  omega
theorem q0s (a b : List (qa × Bool)) : lsum (a ++ b) = lsum a + lsum b := by simp [lsum]
end Go.Pl
namespace Go.Proofs.YtefmcijohgpfhaaGreatDoor
open Go Go.Av Go.RowKit Go.Proofs Go.Pl
theorem qyv (text : List UInt8) (st loc : List AObj) (n : Nat) (hn : loc.length = n) : qm E 72 [Sv text] (st ++ loc) fun r st1 => r = .fn (.func 113) [] [.bx (st.length + n) 0 0] ∧ st1 = st ++ (loc ++ [.cells 0 9 [Sv text]]) :=
 qoo text (st ++ loc) _ (st.length + n) (by simp [hn]) (by rw [List.append_assoc])
theorem qy3 (b sep : qa) (st : List AObj) (hl : b.length ≤ 140737488355328) : qm E 88 [.sl 1 [Sv b] none, Sv sep] st fun r st' => r = Sv b ∧ st' = st :=
 qou [b] none sep b st (by simp [Lib.join, List.intercalate]) (by simp) hl
theorem q5f {st a b ext : List AObj} {m : Nat} (h : ((st ++ a) ++ ext).length = m) (e : b.length = a.length) : ((st ++ b) ++ ext).length = m := by
 simp only [List.length_append] at h ⊢
 omega
set_option maxHeartbeats 2000000 in
theorem q0l (text by' : qa) (st : List AObj) (hl : text.length < 100000000) (hb : by'.length < 1000) : qm E 49 [Sv text, .sl 1 [Sv by'] none] st fun r st' => r = Sv (x2 by' text) ∧ st' = st := by
 refine q8 (zd _) (qq Tryz.func49 rfl (Nat.le_of_ble_eq_true rfl) ?_)
 obtain ⟨hsum, hcnt⟩ := qeo _ text (Nat.le_refl _)
 repeat' (first
  | (apply qha; exact rfl)
  | apply qj
  | apply qt
  | apply qb
  | apply qg
  | apply qh
  | apply qc
  | (apply zq; exact rfl; exact rfl)
  | (apply zj; (iterate 11 exact rfl))
  | (apply qe; exact Tryz.call88; exact qy3 _ _ _ (by omega))
  | (refine qe Tryz.call72 (qyv _ _ _ _ rfl) ?_))
 refine qo7 (st := st) text rfl rfl (by omega) (fun k rest l => ∃ q don, (q = .v (.pointer none) ∨ q = .bx (st.length + 0) 0 0) ∧ zu text = don ++ zu rest ∧ l = [bldO 0 q (indF by' don) (st.length + 1), .tip (indF by' don).length 1 5, .cells 0 9 [Sv by'], .cells 0 9 [Sv text]]) (fun _ _ => False)
  ⟨_, [], .inl rfl, rfl, rfl⟩ (fun k rest l ⟨q, don, _, _, e⟩ => by subst e; exact ⟨rfl, rfl⟩) (fun _ _ h => h.elim) ?_ ?_ (fun _ _ _ h => h.elim)
 ·rintro F own rd k rest _ ext m hF ⟨q, don, hq, hd, rfl⟩ hne hle hm1 hm2
  have hmem : zu rest = (upto 10 rest, decide (10 ∈ rest)) :: zu (past 10 rest) := v6 hne
  have hu := kl 10 rest
  have hlen := ql4 by' (don ++ [(upto 10 rest, decide (10 ∈ rest))])
  have he : zu text = (don ++ [(upto 10 rest, decide (10 ∈ rest))]) ++ zu (past 10 rest) := by rw [hd, hmem]; simp
  have hs2 : lsum (don ++ [(upto 10 rest, decide (10 ∈ rest))]) + lsum (zu (past 10 rest)) = text.length := by rw [← q0s, ← he]; exact hsum
  have hc2 : (don ++ [(upto 10 rest, decide (10 ∈ rest))]).length + (zu (past 10 rest)).length ≤ text.length := by rw [← List.length_append, ← he]; exact hcnt
  have hm : by'.length * (don ++ [(upto 10 rest, decide (10 ∈ rest))]).length ≤ 1000 * 100000000 := Nat.mul_le_mul (by omega) (by omega)
  rw [qss, qte] at hlen
  simp only [List.length_append] at hlen hm hc2
  repeat' (first
   | (apply qto; exact rfl; assumption; exact rfl)
   | (apply yu; exact rfl; assumption; (iterate 10 exact rfl))
   | apply qb
   | apply qg)
  refine ⟨_, rfl, rfl, ?_⟩
  repeat' (first
   | apply qj
   | apply qt
   | apply qb
   | apply qg
   | (apply qd; exact rfl; first | (apply qy; (first | assumption | omega)) | (apply q4; (first | assumption | omega)) | (apply q5; (first | exact rfl | assumption)) | (apply qz; (first | exact rfl | assumption)) | (apply cd_n <;> intro h) | (apply cd_t; (first | exact rfl | assumption)) | (apply cd_f; (first | exact rfl | assumption)) | (apply cd_d <;> intro h) | (apply cd_s <;> intro h))
   | (apply ji; exact rfl; exact rfl; (first | omega | (simp only [List.length_append, List.length_cons, List.length_nil]; omega) | (simp; omega)))
   | (apply q9; (iterate 3 exact rfl))
   | (apply yi; (iterate 5 exact rfl))
   | apply qv
   | (apply qac; exact rfl; exact q5f hm2 rfl; (iterate 4 exact rfl))
   | (refine qe Tryz.call47 (qit st _ _ _ _ 0 1 0 _ _ _ rfl rfl ?_ ?_ rfl) ?_; (first | exact hq | exact .inr rfl); (simp only [List.length_append, List.length_cons, List.length_nil]; omega)))
  all_goals
   have hx : indF by' (don ++ [(upto 10 rest, decide (10 ∈ rest))]) = (indF by' don ++ (by' ++ upto 10 rest)) ++ wp (decide (10 ∈ rest)) := by
    rw [qss, qte]; simp
   refine ⟨[bldO 0 (.bx (st.length + 0) 0 0) (indF by' (don ++ [(upto 10 rest, decide (10 ∈ rest))])) (st.length + 1), .tip (indF by' (don ++ [(upto 10 rest, decide (10 ∈ rest))])).length 1 5, .cells 0 9 [Sv by'], .cells 0 9 [Sv text]], ext, [.cells 0 129 (qb3 k text rest).cells], ?_, _, _, .inr rfl, he, rfl⟩
  ·have h10 : 10 ∈ rest := by simp_all
   rw [hx, show wp (decide (10 ∈ rest)) = [10] by simp [h10, wp]]
   rfl
  ·have h10 : 10 ∉ rest := by simp_all
   have hx2 : indF by' (don ++ [(upto 10 rest, decide (10 ∈ rest))]) = indF by' don ++ (by' ++ upto 10 rest) := by
    rw [hx]; simp [h10, wp]
   rw [hx2]
   rfl
 ·rintro k _ ext ⟨q, don, hq, hd, rfl⟩
  repeat' (first
   | apply qj
   | apply qb
   | apply qg
   | apply qc
   | apply qs
   | (refine qe Tryz.call50 (qhb st _ _ _ _ 0 1 0 _ _ rfl rfl rfl) ?_))
  refine qqk (k := 4) rfl rfl rfl (qk rfl (ze rfl) ⟨congrArg (fun l : qa => Sv l) (?_ : _ = x2 by' text), vc _ _ _ _⟩)
  rw [vz, List.append_nil] at hd
  unfold x2
  rw [hd]
end Go.Proofs.YtefmcijohgpfhaaGreatDoor
set_option maxRecDepth 100000
set_option linter.unusedVariables false
namespace Go.Pl
open Go Go.Proofs
def qw6 (x : LnV) : qa × Bool := (x.text, x.ended)
end Go.Pl
set_option linter.unusedVariables false
namespace Go.Av
open Go Go.RowKit
def TipC (b : Nat) (st : List AObj) (sz : Nat) (T : TypeId) (xs : List AV) (c : AV) : Prop := (xs = [] ∧ c = zv) ∨ ∃ t, c = .sl sz xs (some t) ∧ st[t]? = some (.tip xs.length sz T) ∧ b ≤ t
structure Fr (st st' : List AObj) (t : Nat) : Prop where
 len : st.length ≤ st'.length
 same : ∀ k, k ≠ t → k < st.length → st'[k]? = st[k]?
theorem q2i (b : Nat) (st : List AObj) (sz : Nat) (T : TypeId) : TipC b st sz T [] zv := .inl ⟨rfl, rfl⟩
theorem qfq {b : Nat} {st l : List AObj} {sz : Nat} {T : TypeId} {xs : List AV} {c : AV} (h : TipC b st sz T xs c) : TipC b (st ++ l) sz T xs c := by
 rcases h with h | ⟨t, h1, h2, h3⟩
 ·exact .inl h
 ·exact .inr ⟨t, h1, by rw [List.getElem?_append_left (lt_of_getElem? h2)]; exact h2, h3⟩
section
variable {E : Env} {rd : Option Nat} {N : Nat} {ops : Array Oper} {K : AS → Prop} {s : AS} {rest : List Oper} {d : Option Tmp} {T : TypeId} {p : String} {af : Array Edge}
theorem qr6 {x y : Operand} {t u T' : TypeId} {sz bytes b : Nat} {xs ys : List AV} {tip : Option Nat} {c : AV} {st : List AObj} (hst : s.st = st) (hx : qf N s x = c) (hc : TipC b st sz T' xs c) (hb : b ≤ st.length) (hy : qf N s y = .sl sz ys tip)
  (ht : E.P.underlying t = some (.slice T')) (hu : E.P.underlying u = some (.slice T')) (hT : qcc E.P T' sz bytes) (hone : vj (flat ys) = true) (h63 : xs.length + ys.length ≤ maxLen) (hby : (xs.length + ys.length) * bytes ≤ 140737488355328)
  (h : ∀ t1 st', st'[t1]? = some (.tip (xs ++ ys).length sz T') → b ≤ t1 → Fr st st' t1 → (c = .sl sz xs (some t1) ∨ st.length ≤ t1) → AOps E rd N ops rest K (AS.put ⟨s.t, st', s.df⟩ d (.sl sz (xs ++ ys) (some t1)))) : AOps E rd N ops (⟨d, .call ⟨.builtin .append, #[x, y], #[t, u]⟩, T, p, af, none⟩ :: rest) K s := by
 subst hst
 refine zi rfl (zh nofun fun B0 w0 G a w _ hI => ?_)
 rcases hc with ⟨hxs, hcn⟩ | ⟨t1, h1, h2, h3⟩
 ·subst hxs
  have hle := G.le_new 0 0 0 false
  have hA := hI.agree.newTip sz T'
  have hv : a.eval x = .slice none 0 0 := hI.evalv (hx.trans hcn)
  have hn := hI.agree.n
  obtain ⟨news, k1, k2, k3⟩ := qbj (P := E.P) hA ((hI.eval_of hy).mono hle) (by simpa [vj] using hone)
  have hr : Rel (G.new 0 0 0 false) (.sl sz [] (some s.st.length)) (a.eval x) := by
   rw [hv]
   exact .sl0 sz _ none 0 fun t ht => by simp only [Option.some.injEq] at ht; subst ht; exact ⟨by simp [Gh.new, hn], rfl, rfl⟩
  obtain ⟨v', w', G', e1, e2, e3, e4⟩ := qag (ty := T) hA ht hu (.inr ⟨_, rfl⟩) hT (t := s.st.length) (n := 0) (by simp) hr rfl rfl k1 k2 k3 (by simpa using h63) (by simpa using hby)
  refine ⟨v', w', G', _, _, ?_, hle.trans e2, e3, e4, h s.st.length _ ?_ hb ⟨by simp, fun k hk hlt => ?_⟩ (.inr (Nat.le_refl _))⟩
  ·generalize a.eval = ρ at e1
   simp [execOp, resolve, invoke, builtin, e1]
  ·simp
  ·rw [List.getElem?_set_ne (Ne.symm hk), List.getElem?_append_left hlt]
 ·obtain ⟨news, k1, k2, k3⟩ := qbj (P := E.P) hI.agree (hI.eval_of hy) (by simpa [vj] using hone)
  obtain ⟨v', w', G', e1, e2, e3, e4⟩ := qag (ty := T) hI.agree ht hu (.inr ⟨_, rfl⟩) hT h2 (hI.eval_of (hx.trans h1)) rfl rfl k1 k2 k3 h63 hby
  refine ⟨v', w', G', _, _, ?_, e2, e3, e4, h t1 _ ?_ h3 ⟨by simp, fun k hk hlt => ?_⟩ (.inl h1)⟩
  ·generalize a.eval = ρ at e1
   simp [execOp, resolve, invoke, builtin, e1]
  ·rw [List.length_append]
   exact ku h2
  ·rw [List.getElem?_set_ne (Ne.symm hk)]
theorem qgk {t : TypeId} {x : Operand} {r : AV} {cs : List AV} (hx : qf N s x = r) (hok : r.okc = true) (hc : r.cells = cs)
  (h : AOps E rd N ops rest K (s.put d (.pp cs))) : AOps E rd N ops (⟨d, .box t x, T, p, af, none⟩ :: rest) K s := by
 refine zi rfl (zh nofun fun B0 w0 G a w _ hI => ?_)
 have hr := (hI.eval_of hx).cells hok
 rw [hc] at hr
 obtain ⟨hle, hA⟩ := hI.agree.newPub t (a.eval x).cells (0, 0) (a.eval x).cells.toList (fun i y hy => by simpa using hy)
 have hrun : (execOp a.eval ⟨d, .box t x, T, p, af, none⟩).run E.P w = .ok (.value (.pointer (some ⟨w.heap.size, 0, none⟩))) (w.alloc (.cells (a.eval x).cells t)) := by
  generalize a.eval = ρ
  simp [execOp, Instr.box, newVar, newRow, newObj, Sem.run]
 refine ⟨_, _, _, .pp cs, s.st, hrun, hle, hA, .pp cs w.heap.size 0 (a.eval x).cells.toList (by simp [Gh.publish]) (by rw [hr.1]; simp) fun i x y hx hy => (hr.2 i x y hx (by simpa using hy)).mono hle, h⟩
end
theorem qlq {E : Env} {f : FuncId} {x x' : AV} {us : List AV} {st : List AObj} {R : AV → List AObj → Prop} (hw : ∀ G v, Rel G x v → Rel G x' v) (h : qm E f (x' :: us) st R) : qm E f (x :: us) st R :=
 ⟨fun B0 w0 G vals w hL hA hR => h.run B0 w0 G vals w hL hA ⟨by have := hR.1; simpa using this, fun i a b ha hb => by
  cases i with
  | zero => simp at ha; subst ha; exact hw G b (hR.2 0 x b rfl hb)
  | succ i => exact hR.2 (i + 1) a b (by simpa using ha) hb⟩⟩
theorem qap {st l : List AObj} {o : Nat} {x : AObj} (h : st[o]? = some x) : (st ++ l)[o]? = some x := by
 rw [List.getElem?_append_left (lt_of_getElem? h)]; exact h
theorem yg {st : List AObj} {x : AObj} : (st ++ [x])[st.length]? = some x := by simp
section
variable {E : Env} {rd : Option Nat} {N : Nat} {ops : Array Oper} {K : AS → Prop} {s : AS} {rest : List Oper} {d : Option Tmp} {T : TypeId} {p : String} {af : Array Edge}
theorem qg3 {t : TypeId} {st : List AObj} {cs : List AV} (hst : s.st = st) (hz : qe9 E.P t = some cs)
  (h : AOps E rd N ops rest K (AS.put ⟨s.t, st ++ [.cells 0 t cs], s.df⟩ d (.bx st.length 0 0))) : AOps E rd N ops (⟨d, .alloc t, T, p, af, none⟩ :: rest) K s :=
 zq (loc := []) (by rw [hst]; simp) hz h
theorem qz9 {t : TypeId} {x : Operand} {st : List AObj} {r : AV} {cs : List AV} (hst : s.st = st) (hx : qf N s x = r) (hok : r.okc = true) (hc : r.cells = cs)
  (h : AOps E rd N ops rest K (AS.put ⟨s.t, st ++ [.cells 0 t cs], s.df⟩ d (.bx st.length 0 0))) : AOps E rd N ops (⟨d, .box t x, T, p, af, none⟩ :: rest) K s :=
 vi (loc := []) (by rw [hst]; simp) hx hok hc h
end
theorem qm5 {st st' : List AObj} (hl : st.length ≤ st'.length) (h : ∀ k, k < st.length → st'[k]? = st[k]?) : ∃ ext, st' = st ++ ext := by
 refine ⟨st'.drop st.length, ?_⟩
 apply List.ext_getElem?
 intro k
 by_cases hk : k < st.length
 ·rw [h k hk, List.getElem?_append_left hk]
 ·rw [List.getElem?_append_right (by omega), List.getElem?_drop]
  congr 1
  omega
end Go.Av
set_option linter.unusedVariables false
namespace Go.Proofs.YtefmcijohgpfhaaGreatDoor
open Go Go.Av Go.RowKit Go.Proofs
def qf3 (x : Option AObj) : Prop := ∀ n sz T, x ≠ some (.tip n sz T)
theorem qad {ver : Nat} {T : TypeId} {cs : List AV} {x : Option AObj} (h : x = some (.cells ver T cs)) : qf3 x := fun n sz T' e => by
 rw [h] at e
 simp at e
end Go.Proofs.YtefmcijohgpfhaaGreatDoor
set_option maxRecDepth 100000
set_option linter.unusedVariables false
namespace Go.Proofs.YtefmcijohgpfhaaGreatDoor
open Go Go.Av Go.RowKit Go.Proofs Go.Pl
structure Ext (n : Nat) (S S' : List AObj) : Prop where
 len : S.length ≤ S'.length
 low : ∀ k, k < n → S'[k]? = S[k]?
 tips : ∀ (t m sz : Nat) (T : TypeId), S[t]? = some (AObj.tip m sz T) → S'[t]? = S[t]?
theorem qu9 {n : Nat} {S l : List AObj} (h : n ≤ S.length) : Ext n S (S ++ l) := ⟨by simp, fun k hk => List.getElem?_append_left (by omega), fun t m sz T ht => List.getElem?_append_left (lt_of_getElem? ht)⟩
theorem qb1 {n o : Nat} {S : List AObj} {x : AObj} (h : n ≤ o) (hn : qf3 S[o]?) : Ext n S (S.set o x) := ⟨by simp, fun k hk => List.getElem?_set_ne (by omega), fun t m sz T ht => List.getElem?_set_ne (fun e => by subst e; exact hn _ _ _ ht)⟩
theorem Ext.weak {n m : Nat} {S S' : List AObj} (h : Ext n S S') (hm : m ≤ n) : Ext m S S' := ⟨h.len, fun k hk => h.low k (by omega), h.tips⟩
theorem Ext.trans {n : Nat} {S S' S'' : List AObj} (h : Ext n S S') (k : Ext n S' S'') : Ext n S S'' := ⟨Nat.le_trans h.len k.len, fun i hi => (k.low i hi).trans (h.low i hi), fun t m sz T ht => (k.tips t m sz T ((h.tips t m sz T ht).trans ht)).trans (h.tips t m sz T ht)⟩
theorem qxp (text : List UInt8) (o kb ver n m : Nat) (I : Nat → List UInt8 → List AObj → Prop) (D : List AObj → Prop) (S : List AObj) (hm : S.length = m) (hn : n ≤ m) (ht : text.length < 4294967281) (h0 : I 0 text S)
  (hI : ∀ k rest S', I k rest S' → S'[kb]? = some (.cells ver 9 [Sv text]))
  (hst : ∀ k rest S' S'', Ext n S' S'' → I k rest S' → I k rest S'')
  (hY : ∀ k rest S' cs, I k rest S' → S'[m]? = some (.cells 0 129 cs) → rest ≠ [] → rest.length ≤ text.length → xu E o [qb3 k text rest] S' fun b S'' => S''[m]? = some (.cells 0 129 cs) ∧ (b = true → I (k + 1) (past 10 rest) S'') ∧ (b = false → D S'')) :
  qm E 113 [.yd o, .bx kb ver 0] S fun r S' => (∃ k, I k [] S') ∨ D S' := by
 subst hm
 refine qq Tryz.func113 rfl (Nat.le_of_ble_eq_true rfl) ?_
 have hb := hI 0 text S h0
 repeat' (first
  | (apply qgd; first | apply qj | apply qt | apply qb | (apply qd; exact rfl; first | (apply qy; (first | assumption | omega)) | (apply q4; (first | assumption | omega)) | (apply q5; (first | exact rfl | assumption)) | (apply qz; (first | exact rfl | assumption)) | (apply cd_n <;> intro h) | (apply cd_t; (first | exact rfl | assumption)) | (apply cd_f; (first | exact rfl | assumption)) | (apply cd_d <;> intro h) | (apply cd_s <;> intro h)) | (apply xa; exact rfl; kernel_rfl) | apply qv | apply jk | apply qs)
  | (apply qdi; first | (apply za; (iterate 4 exact rfl)) | (apply wb; (iterate 4 exact rfl)))
  | (apply qhv; first | (apply qay; (first | assumption | omega)) | (apply wk; (first | assumption | omega)) | (apply ww; (first | assumption | omega)) | (apply qak; (first | assumption | omega)) | (apply qc6; (first | exact rfl | assumption)) | (apply wu; (first | exact rfl | assumption)) | (apply xd; (first | exact rfl | assumption)) | (apply qb4; (first | exact rfl | assumption)) | (apply qat <;> intro h) | (apply yc; (first | exact rfl | assumption)) | (apply qax; (first | exact rfl | assumption)) | (apply wr; (first | exact rfl | assumption)) | (apply xf; (first | exact rfl | assumption)) | (apply vg <;> intro h) | (apply qa1 <;> intro h))
  | (apply qhz; first | apply ym | (apply qhl; (iterate 4 exact rfl)) | (apply qj4; exact rfl; exact rfl; exact zl (by omega) (by omega)) | (apply qhr; (iterate 4 exact rfl); (first | assumption | omega | (simp; omega)); first | assumption | omega | (simp; omega)) | (apply qcd; (iterate 5 exact rfl)) | (apply qcv; exact rfl; exact rfl; (first | omega | (simp only [List.length_append, List.length_cons, List.length_nil]; omega) | (simp; omega))) | (apply v8; (iterate 3 exact rfl)) | (apply qba; (iterate 5 exact rfl)) | (apply vh; (iterate 4 exact rfl)) | (apply yl; (iterate 3 exact rfl)) | (apply qho; (iterate 3 exact rfl); first | assumption | omega | (simp; omega)) | (apply qfo; exact rfl; exact rfl) | (apply qdx; exact rfl; exact rfl) | (apply qdw; (iterate 3 exact rfl); omega) | (apply qc4; (iterate 3 exact rfl)) | apply xm | apply qc1 | (apply qj9; exact rfl; exact rfl; exact zl (by omega) (by omega)) | (apply qhq; (iterate 3 exact rfl)) | (apply qfp; (iterate 3 exact rfl); first | assumption | omega | (simp; omega)) | (apply qfk; (iterate 3 exact rfl); first | assumption | omega | (simp; omega)) | (apply qb9; exact rfl; exact rfl))
  | (apply qdm; first | (apply qo; (iterate 3 exact rfl)) | (apply z4; (iterate 3 exact rfl)) | (apply ji; exact rfl; exact rfl; (first | omega | (simp only [List.length_append, List.length_cons, List.length_nil]; omega) | (simp; omega))) | (apply jh; exact rfl; exact rfl; exact zl (by omega) (by omega)) | (apply y7; exact rfl; exact rfl; exact zl (by omega) (by omega)) | (apply jc; exact rfl; exact rfl) | (apply z6; exact rfl; exact rfl) | (apply xt; exact rfl; exact rfl) | (apply xn; exact rfl; exact rfl) | (apply wt; (iterate 3 exact rfl)) | (apply yh; (iterate 3 exact rfl)) | (apply yq; exact rfl; exact rfl; (first | exact zc _ | exact rfl); first | exact zc _ | exact rfl) | (apply qas; exact rfl; exact rfl; (first | exact zc _ | exact rfl); first | exact zc _ | exact rfl) | (apply qev; exact rfl; exact rfl; (first | exact zc _ | exact rfl); first | exact zc _ | exact rfl) | (apply xw; (iterate 3 exact rfl)) | (apply y0; (iterate 3 exact rfl)))
  | (apply qer; first | (apply zt; (iterate 3 exact rfl)) | (apply yi; (iterate 5 exact rfl)) | (apply zm; (iterate 5 exact rfl)))
  | (apply qeq; first | (apply qbz; exact rfl) | (apply z7; exact rfl) | (apply x7; exact rfl))
  | (apply qdl; first | (apply qbt; (iterate 3 exact rfl); first | assumption | omega | (simp; omega)) | (apply qbr; (iterate 3 exact rfl); first | assumption | omega | (simp; omega)) | (apply qc2; (iterate 4 exact rfl); (first | assumption | omega | (simp; omega)); first | assumption | omega | (simp; omega)) | (apply xb; (iterate 4 exact rfl); (first | assumption | omega | exact Nat.succ_le_succ (Nat.zero_le _) | (simp; omega)); exact rfl))
  | (apply qet; first | (apply j5; (iterate 3 exact rfl)) | (apply zx; (iterate 4 exact rfl)))
  | (apply qae; first | (apply q9; (iterate 3 exact rfl)) | (apply vn; (iterate 4 exact rfl)))
  | (apply qdd; first | (apply va; (iterate 11 exact rfl)) | (apply zj; (iterate 11 exact rfl)))
  | (apply qf9; first | apply qg | apply qh | apply qc | (apply zb; exact rfl; exact rfl) | (apply zf; exact rfl; first | (apply j9; (first | assumption | omega)) | (apply ke; (first | assumption | omega)) | (apply kg; (first | exact rfl | assumption)) | (apply kh; (first | exact rfl | assumption)) | (apply pk_t; (first | exact rfl | assumption)) | (apply pk_f; (first | exact rfl | assumption))) | (apply zg; exact rfl; exact rfl) | apply xo | (apply zq; exact rfl; exact rfl) | (apply vi; (iterate 4 exact rfl)) | (apply qar; (iterate 3 exact rfl)) | (apply qcr; (iterate 3 exact rfl); first | assumption | omega | (simp; omega)) | (apply js; (iterate 3 exact rfl)) | (apply jt; (iterate 9 exact rfl)) | (apply ki; exact rfl; exact rfl) | (apply y6; (iterate 4 exact rfl); (first | assumption | omega | decide); exact rfl) | (apply vu; (iterate 4 exact rfl); first | assumption | omega | decide))
  | (apply qa3; exact rfl; exact rfl; exact hb; exact rfl; exact rfl))
 refine vq (fun (x : Nat × List UInt8) s => match x with | (k, rest) => ∃ S' at' ta eb, I k rest S' ∧ k + rest.length ≤ text.length ∧ at' = (text.length : Int) - rest.length ∧ S'[S.length]? = some (.cells 0 129 [Iv k, Iv at', Sv ta, Bv eb]) ∧ StA [(0, .yd o), (1, .bx kb ver 0), (3, .bx S.length 0 0), (4, Sv rest)] S' [] s) (fun x => x.2.length) (0, text)
  ⟨_, 0, [], false, hst _ _ _ _ (qu9 hn) h0, by simp, by simp, z2 (k := 0) rfl, qab ⟨rfl, rfl, rfl, rfl, trivial⟩⟩ ?_
 rintro ⟨k, rest⟩ _ ⟨S', _, ta, eb, hi, hle, rfl, hown, t, rfl⟩
 have hb' := hI k rest S' hi
 repeat' (first
  | (apply qgd; first | apply qj | apply qt | apply qb | (apply qd; exact rfl; first | (apply qy; (first | assumption | omega)) | (apply q4; (first | assumption | omega)) | (apply q5; (first | exact rfl | assumption)) | (apply qz; (first | exact rfl | assumption)) | (apply cd_n <;> intro h) | (apply cd_t; (first | exact rfl | assumption)) | (apply cd_f; (first | exact rfl | assumption)) | (apply cd_d <;> intro h) | (apply cd_s <;> intro h)) | (apply xa; exact rfl; kernel_rfl) | apply qv | apply jk | apply qs)
  | (apply qdi; first | (apply za; (iterate 4 exact rfl)) | (apply wb; (iterate 4 exact rfl)))
  | (apply qhv; first | (apply qay; (first | assumption | omega)) | (apply wk; (first | assumption | omega)) | (apply ww; (first | assumption | omega)) | (apply qak; (first | assumption | omega)) | (apply qc6; (first | exact rfl | assumption)) | (apply wu; (first | exact rfl | assumption)) | (apply xd; (first | exact rfl | assumption)) | (apply qb4; (first | exact rfl | assumption)) | (apply qat <;> intro h) | (apply yc; (first | exact rfl | assumption)) | (apply qax; (first | exact rfl | assumption)) | (apply wr; (first | exact rfl | assumption)) | (apply xf; (first | exact rfl | assumption)) | (apply vg <;> intro h) | (apply qa1 <;> intro h))
  | (apply qhz; first | apply ym | (apply qhl; (iterate 4 exact rfl)) | (apply qj4; exact rfl; exact rfl; exact zl (by omega) (by omega)) | (apply qhr; (iterate 4 exact rfl); (first | assumption | omega | (simp; omega)); first | assumption | omega | (simp; omega)) | (apply qcd; (iterate 5 exact rfl)) | (apply qcv; exact rfl; exact rfl; (first | omega | (simp only [List.length_append, List.length_cons, List.length_nil]; omega) | (simp; omega))) | (apply v8; (iterate 3 exact rfl)) | (apply qba; (iterate 5 exact rfl)) | (apply vh; (iterate 4 exact rfl)) | (apply yl; (iterate 3 exact rfl)) | (apply qho; (iterate 3 exact rfl); first | assumption | omega | (simp; omega)) | (apply qfo; exact rfl; exact rfl) | (apply qdx; exact rfl; exact rfl) | (apply qdw; (iterate 3 exact rfl); omega) | (apply qc4; (iterate 3 exact rfl)) | apply xm | apply qc1 | (apply qj9; exact rfl; exact rfl; exact zl (by omega) (by omega)) | (apply qhq; (iterate 3 exact rfl)) | (apply qfp; (iterate 3 exact rfl); first | assumption | omega | (simp; omega)) | (apply qfk; (iterate 3 exact rfl); first | assumption | omega | (simp; omega)) | (apply qb9; exact rfl; exact rfl))
  | (apply qdm; first | (apply qo; (iterate 3 exact rfl)) | (apply z4; (iterate 3 exact rfl)) | (apply ji; exact rfl; exact rfl; (first | omega | (simp only [List.length_append, List.length_cons, List.length_nil]; omega) | (simp; omega))) | (apply jh; exact rfl; exact rfl; exact zl (by omega) (by omega)) | (apply y7; exact rfl; exact rfl; exact zl (by omega) (by omega)) | (apply jc; exact rfl; exact rfl) | (apply z6; exact rfl; exact rfl) | (apply xt; exact rfl; exact rfl) | (apply xn; exact rfl; exact rfl) | (apply wt; (iterate 3 exact rfl)) | (apply yh; (iterate 3 exact rfl)) | (apply yq; exact rfl; exact rfl; (first | exact zc _ | exact rfl); first | exact zc _ | exact rfl) | (apply qas; exact rfl; exact rfl; (first | exact zc _ | exact rfl); first | exact zc _ | exact rfl) | (apply qev; exact rfl; exact rfl; (first | exact zc _ | exact rfl); first | exact zc _ | exact rfl) | (apply xw; (iterate 3 exact rfl)) | (apply y0; (iterate 3 exact rfl)))
  | (apply qer; first | (apply zt; (iterate 3 exact rfl)) | (apply yi; (iterate 5 exact rfl)) | (apply zm; (iterate 5 exact rfl)))
  | (apply qeq; first | (apply qbz; exact rfl) | (apply z7; exact rfl) | (apply x7; exact rfl))
  | (apply qdl; first | (apply qbt; (iterate 3 exact rfl); first | assumption | omega | (simp; omega)) | (apply qbr; (iterate 3 exact rfl); first | assumption | omega | (simp; omega)) | (apply qc2; (iterate 4 exact rfl); (first | assumption | omega | (simp; omega)); first | assumption | omega | (simp; omega)) | (apply xb; (iterate 4 exact rfl); (first | assumption | omega | exact Nat.succ_le_succ (Nat.zero_le _) | (simp; omega)); exact rfl))
  | (apply qet; first | (apply j5; (iterate 3 exact rfl)) | (apply zx; (iterate 4 exact rfl)))
  | (apply qae; first | (apply q9; (iterate 3 exact rfl)) | (apply vn; (iterate 4 exact rfl)))
  | (apply qdd; first | (apply va; (iterate 11 exact rfl)) | (apply zj; (iterate 11 exact rfl)))
  | (apply qf9; first | apply qg | apply qh | apply qc | (apply zb; exact rfl; exact rfl) | (apply zf; exact rfl; first | (apply j9; (first | assumption | omega)) | (apply ke; (first | assumption | omega)) | (apply kg; (first | exact rfl | assumption)) | (apply kh; (first | exact rfl | assumption)) | (apply pk_t; (first | exact rfl | assumption)) | (apply pk_f; (first | exact rfl | assumption))) | (apply zg; exact rfl; exact rfl) | apply xo | (apply zq; exact rfl; exact rfl) | (apply vi; (iterate 4 exact rfl)) | (apply qar; (iterate 3 exact rfl)) | (apply qcr; (iterate 3 exact rfl); first | assumption | omega | (simp; omega)) | (apply js; (iterate 3 exact rfl)) | (apply jt; (iterate 9 exact rfl)) | (apply ki; exact rfl; exact rfl) | (apply y6; (iterate 4 exact rfl); (first | assumption | omega | decide); exact rfl) | (apply vu; (iterate 4 exact rfl); first | assumption | omega | decide))
  | (apply qe; exact Tryz.call36; exact qfr _ _ _ (by omega))
  | (apply jv; exact rfl; (focus first | assumption | (repeat' (first | assumption | exact yg | exact z2 rfl | apply ku | apply jx | omega | apply qap))); exact rfl; exact rfl)
  | (apply wv; exact rfl; exact rfl; (focus first | assumption | (repeat' (first | assumption | exact yg | exact z2 rfl | apply ku | apply jx | omega | apply qap))); (iterate 6 exact rfl)))
 ·have e1 : Ext n S' ((S'.set S.length (.cells 0 129 [Iv k, Iv ((text.length : Int) - rest.length), Sv (upto 10 rest), Bv eb])).set S.length (.cells 0 129 [Iv k, Iv ((text.length : Int) - rest.length), Sv (upto 10 rest), Bv (decide (10 ∈ rest))])) :=
   (qb1 hn (qad hown)).trans (qb1 hn (qad (ku hown)))
  apply qdy (o := o) rfl
  refine xu.mono (hY k rest _ _ (hst _ _ _ _ e1 hi) (ku (ku hown)) h (by omega)) ?_
  rintro b S2 ⟨hown2, h1, h2⟩
  show AOps _ _ _ _ _ _ _
  cases b
  ·skip
   repeat' (first
    | (apply qgd; first | apply qj | apply qt | apply qb | (apply qd; exact rfl; first | (apply qy; (first | assumption | omega)) | (apply q4; (first | assumption | omega)) | (apply q5; (first | exact rfl | assumption)) | (apply qz; (first | exact rfl | assumption)) | (apply cd_n <;> intro h) | (apply cd_t; (first | exact rfl | assumption)) | (apply cd_f; (first | exact rfl | assumption)) | (apply cd_d <;> intro h) | (apply cd_s <;> intro h)) | (apply xa; exact rfl; kernel_rfl) | apply qv | apply jk | apply qs)
    | (apply qdi; first | (apply za; (iterate 4 exact rfl)) | (apply wb; (iterate 4 exact rfl)))
    | (apply qhv; first | (apply qay; (first | assumption | omega)) | (apply wk; (first | assumption | omega)) | (apply ww; (first | assumption | omega)) | (apply qak; (first | assumption | omega)) | (apply qc6; (first | exact rfl | assumption)) | (apply wu; (first | exact rfl | assumption)) | (apply xd; (first | exact rfl | assumption)) | (apply qb4; (first | exact rfl | assumption)) | (apply qat <;> intro h) | (apply yc; (first | exact rfl | assumption)) | (apply qax; (first | exact rfl | assumption)) | (apply wr; (first | exact rfl | assumption)) | (apply xf; (first | exact rfl | assumption)) | (apply vg <;> intro h) | (apply qa1 <;> intro h))
    | (apply qhz; first | apply ym | (apply qhl; (iterate 4 exact rfl)) | (apply qj4; exact rfl; exact rfl; exact zl (by omega) (by omega)) | (apply qhr; (iterate 4 exact rfl); (first | assumption | omega | (simp; omega)); first | assumption | omega | (simp; omega)) | (apply qcd; (iterate 5 exact rfl)) | (apply qcv; exact rfl; exact rfl; (first | omega | (simp only [List.length_append, List.length_cons, List.length_nil]; omega) | (simp; omega))) | (apply v8; (iterate 3 exact rfl)) | (apply qba; (iterate 5 exact rfl)) | (apply vh; (iterate 4 exact rfl)) | (apply yl; (iterate 3 exact rfl)) | (apply qho; (iterate 3 exact rfl); first | assumption | omega | (simp; omega)) | (apply qfo; exact rfl; exact rfl) | (apply qdx; exact rfl; exact rfl) | (apply qdw; (iterate 3 exact rfl); omega) | (apply qc4; (iterate 3 exact rfl)) | apply xm | apply qc1 | (apply qj9; exact rfl; exact rfl; exact zl (by omega) (by omega)) | (apply qhq; (iterate 3 exact rfl)) | (apply qfp; (iterate 3 exact rfl); first | assumption | omega | (simp; omega)) | (apply qfk; (iterate 3 exact rfl); first | assumption | omega | (simp; omega)) | (apply qb9; exact rfl; exact rfl))
    | (apply qdm; first | (apply qo; (iterate 3 exact rfl)) | (apply z4; (iterate 3 exact rfl)) | (apply ji; exact rfl; exact rfl; (first | omega | (simp only [List.length_append, List.length_cons, List.length_nil]; omega) | (simp; omega))) | (apply jh; exact rfl; exact rfl; exact zl (by omega) (by omega)) | (apply y7; exact rfl; exact rfl; exact zl (by omega) (by omega)) | (apply jc; exact rfl; exact rfl) | (apply z6; exact rfl; exact rfl) | (apply xt; exact rfl; exact rfl) | (apply xn; exact rfl; exact rfl) | (apply wt; (iterate 3 exact rfl)) | (apply yh; (iterate 3 exact rfl)) | (apply yq; exact rfl; exact rfl; (first | exact zc _ | exact rfl); first | exact zc _ | exact rfl) | (apply qas; exact rfl; exact rfl; (first | exact zc _ | exact rfl); first | exact zc _ | exact rfl) | (apply qev; exact rfl; exact rfl; (first | exact zc _ | exact rfl); first | exact zc _ | exact rfl) | (apply xw; (iterate 3 exact rfl)) | (apply y0; (iterate 3 exact rfl)))
    | (apply qer; first | (apply zt; (iterate 3 exact rfl)) | (apply yi; (iterate 5 exact rfl)) | (apply zm; (iterate 5 exact rfl)))
    | (apply qeq; first | (apply qbz; exact rfl) | (apply z7; exact rfl) | (apply x7; exact rfl))
    | (apply qdl; first | (apply qbt; (iterate 3 exact rfl); first | assumption | omega | (simp; omega)) | (apply qbr; (iterate 3 exact rfl); first | assumption | omega | (simp; omega)) | (apply qc2; (iterate 4 exact rfl); (first | assumption | omega | (simp; omega)); first | assumption | omega | (simp; omega)) | (apply xb; (iterate 4 exact rfl); (first | assumption | omega | exact Nat.succ_le_succ (Nat.zero_le _) | (simp; omega)); exact rfl))
    | (apply qet; first | (apply j5; (iterate 3 exact rfl)) | (apply zx; (iterate 4 exact rfl)))
    | (apply qae; first | (apply q9; (iterate 3 exact rfl)) | (apply vn; (iterate 4 exact rfl)))
    | (apply qdd; first | (apply va; (iterate 11 exact rfl)) | (apply zj; (iterate 11 exact rfl)))
    | (apply qf9; first | apply qg | apply qh | apply qc | (apply zb; exact rfl; exact rfl) | (apply zf; exact rfl; first | (apply j9; (first | assumption | omega)) | (apply ke; (first | assumption | omega)) | (apply kg; (first | exact rfl | assumption)) | (apply kh; (first | exact rfl | assumption)) | (apply pk_t; (first | exact rfl | assumption)) | (apply pk_f; (first | exact rfl | assumption))) | (apply zg; exact rfl; exact rfl) | apply xo | (apply zq; exact rfl; exact rfl) | (apply vi; (iterate 4 exact rfl)) | (apply qar; (iterate 3 exact rfl)) | (apply qcr; (iterate 3 exact rfl); first | assumption | omega | (simp; omega)) | (apply js; (iterate 3 exact rfl)) | (apply jt; (iterate 9 exact rfl)) | (apply ki; exact rfl; exact rfl) | (apply y6; (iterate 4 exact rfl); (first | assumption | omega | decide); exact rfl) | (apply vu; (iterate 4 exact rfl); first | assumption | omega | decide)))
   exact qk rfl (yo rfl) (.inr (h2 rfl))
  ·have hi3 := h1 rfl
   have hb3 := hI _ _ _ hi3
   have hp := jy 10 rest
   have hr0 : 0 < rest.length := List.length_pos_iff.2 h
   have hkb : kb ≠ S.length := fun e => by
    rw [e, hown2] at hb3
    simp at hb3
   repeat' (first
    | (apply qgd; first | apply qj | apply qt | apply qb | (apply qd; exact rfl; first | (apply qy; (first | assumption | omega)) | (apply q4; (first | assumption | omega)) | (apply q5; (first | exact rfl | assumption)) | (apply qz; (first | exact rfl | assumption)) | (apply cd_n <;> intro h) | (apply cd_t; (first | exact rfl | assumption)) | (apply cd_f; (first | exact rfl | assumption)) | (apply cd_d <;> intro h) | (apply cd_s <;> intro h)) | (apply xa; exact rfl; kernel_rfl) | apply qv | apply jk | apply qs)
    | (apply qdi; first | (apply za; (iterate 4 exact rfl)) | (apply wb; (iterate 4 exact rfl)))
    | (apply qhv; first | (apply qay; (first | assumption | omega)) | (apply wk; (first | assumption | omega)) | (apply ww; (first | assumption | omega)) | (apply qak; (first | assumption | omega)) | (apply qc6; (first | exact rfl | assumption)) | (apply wu; (first | exact rfl | assumption)) | (apply xd; (first | exact rfl | assumption)) | (apply qb4; (first | exact rfl | assumption)) | (apply qat <;> intro h) | (apply yc; (first | exact rfl | assumption)) | (apply qax; (first | exact rfl | assumption)) | (apply wr; (first | exact rfl | assumption)) | (apply xf; (first | exact rfl | assumption)) | (apply vg <;> intro h) | (apply qa1 <;> intro h))
    | (apply qhz; first | apply ym | (apply qhl; (iterate 4 exact rfl)) | (apply qj4; exact rfl; exact rfl; exact zl (by omega) (by omega)) | (apply qhr; (iterate 4 exact rfl); (first | assumption | omega | (simp; omega)); first | assumption | omega | (simp; omega)) | (apply qcd; (iterate 5 exact rfl)) | (apply qcv; exact rfl; exact rfl; (first | omega | (simp only [List.length_append, List.length_cons, List.length_nil]; omega) | (simp; omega))) | (apply v8; (iterate 3 exact rfl)) | (apply qba; (iterate 5 exact rfl)) | (apply vh; (iterate 4 exact rfl)) | (apply yl; (iterate 3 exact rfl)) | (apply qho; (iterate 3 exact rfl); first | assumption | omega | (simp; omega)) | (apply qfo; exact rfl; exact rfl) | (apply qdx; exact rfl; exact rfl) | (apply qdw; (iterate 3 exact rfl); omega) | (apply qc4; (iterate 3 exact rfl)) | apply xm | apply qc1 | (apply qj9; exact rfl; exact rfl; exact zl (by omega) (by omega)) | (apply qhq; (iterate 3 exact rfl)) | (apply qfp; (iterate 3 exact rfl); first | assumption | omega | (simp; omega)) | (apply qfk; (iterate 3 exact rfl); first | assumption | omega | (simp; omega)) | (apply qb9; exact rfl; exact rfl))
    | (apply qdm; first | (apply qo; (iterate 3 exact rfl)) | (apply z4; (iterate 3 exact rfl)) | (apply ji; exact rfl; exact rfl; (first | omega | (simp only [List.length_append, List.length_cons, List.length_nil]; omega) | (simp; omega))) | (apply jh; exact rfl; exact rfl; exact zl (by omega) (by omega)) | (apply y7; exact rfl; exact rfl; exact zl (by omega) (by omega)) | (apply jc; exact rfl; exact rfl) | (apply z6; exact rfl; exact rfl) | (apply xt; exact rfl; exact rfl) | (apply xn; exact rfl; exact rfl) | (apply wt; (iterate 3 exact rfl)) | (apply yh; (iterate 3 exact rfl)) | (apply yq; exact rfl; exact rfl; (first | exact zc _ | exact rfl); first | exact zc _ | exact rfl) | (apply qas; exact rfl; exact rfl; (first | exact zc _ | exact rfl); first | exact zc _ | exact rfl) | (apply qev; exact rfl; exact rfl; (first | exact zc _ | exact rfl); first | exact zc _ | exact rfl) | (apply xw; (iterate 3 exact rfl)) | (apply y0; (iterate 3 exact rfl)))
    | (apply qer; first | (apply zt; (iterate 3 exact rfl)) | (apply yi; (iterate 5 exact rfl)) | (apply zm; (iterate 5 exact rfl)))
    | (apply qeq; first | (apply qbz; exact rfl) | (apply z7; exact rfl) | (apply x7; exact rfl))
    | (apply qdl; first | (apply qbt; (iterate 3 exact rfl); first | assumption | omega | (simp; omega)) | (apply qbr; (iterate 3 exact rfl); first | assumption | omega | (simp; omega)) | (apply qc2; (iterate 4 exact rfl); (first | assumption | omega | (simp; omega)); first | assumption | omega | (simp; omega)) | (apply xb; (iterate 4 exact rfl); (first | assumption | omega | exact Nat.succ_le_succ (Nat.zero_le _) | (simp; omega)); exact rfl))
    | (apply qet; first | (apply j5; (iterate 3 exact rfl)) | (apply zx; (iterate 4 exact rfl)))
    | (apply qae; first | (apply q9; (iterate 3 exact rfl)) | (apply vn; (iterate 4 exact rfl)))
    | (apply qdd; first | (apply va; (iterate 11 exact rfl)) | (apply zj; (iterate 11 exact rfl)))
    | (apply qf9; first | apply qg | apply qh | apply qc | (apply zb; exact rfl; exact rfl) | (apply zf; exact rfl; first | (apply j9; (first | assumption | omega)) | (apply ke; (first | assumption | omega)) | (apply kg; (first | exact rfl | assumption)) | (apply kh; (first | exact rfl | assumption)) | (apply pk_t; (first | exact rfl | assumption)) | (apply pk_f; (first | exact rfl | assumption))) | (apply zg; exact rfl; exact rfl) | apply xo | (apply zq; exact rfl; exact rfl) | (apply vi; (iterate 4 exact rfl)) | (apply qar; (iterate 3 exact rfl)) | (apply qcr; (iterate 3 exact rfl); first | assumption | omega | (simp; omega)) | (apply js; (iterate 3 exact rfl)) | (apply jt; (iterate 9 exact rfl)) | (apply ki; exact rfl; exact rfl) | (apply y6; (iterate 4 exact rfl); (first | assumption | omega | decide); exact rfl) | (apply vu; (iterate 4 exact rfl); first | assumption | omega | decide))
    | (apply jv; exact rfl; exact jx hb3 (Ne.symm hkb); exact rfl; exact rfl)
    | (apply jv; exact rfl; (focus first | assumption | (repeat' (first | assumption | exact yg | exact z2 rfl | apply ku | apply jx | omega | apply qap))); exact rfl; exact rfl)
    | (apply wv; exact rfl; exact rfl; (focus first | assumption | (repeat' (first | assumption | exact yg | exact z2 rfl | apply ku | apply jx | omega | apply qap))); (iterate 6 exact rfl)))
   have e2 : Ext n S2 _ := (qb1 hn (qad hown2)).trans (qb1 (x := .cells 0 129 [Iv ((k : Int) + 1), Iv ((text.length : Int) - (past 10 rest).length), Sv (upto 10 rest), Bv (decide (10 ∈ rest))]) hn (qad (ku (y := .cells 0 129 [Iv ((k : Int) + 1), Iv ((text.length : Int) - rest.length), Sv (upto 10 rest), Bv (decide (10 ∈ rest))]) hown2)))
   exact ⟨(k + 1, past 10 rest), ⟨_, _, _, _, hst _ _ _ _ e2 hi3, by omega, rfl, ku (ku hown2), qab ⟨rfl, rfl, rfl, rfl, trivial⟩⟩, by simp only; omega⟩
 ·have hr : rest = [] := Classical.not_not.1 h
  subst hr
  exact qk rfl (yo rfl) (.inl ⟨k, hi⟩)
structure ItC (g : FuncId) (T : TypeId) (cs : List AV) {ι : Type} (Y : ι → Option (AV × ι)) (i0 : ι) : Prop where
 run : ∀ (o kb n m : Nat) (I : ι → List AObj → Prop) (D : List AObj → Prop) (S : List AObj), S.length = m → n ≤ m → I i0 S →
  (∀ i S', I i S' → S'[kb]? = some (.cells 0 T cs)) → (∀ i S' S'', Ext n S' S'' → I i S' → I i S'') →
  (∀ i x j S' (own : List AObj), I i S' → (∀ k y, own[k]? = some y → S'[m + k]? = some y ∧ qf3 (some y)) → Y i = some (x, j) → xu E o [x] S' fun b S'' => (∀ k y, own[k]? = some y → S''[m + k]? = some y) ∧ (b = true → I j S'') ∧ (b = false → D S'')) →
  qm E g [.yd o, .bx kb 0 0] S fun r S' => (∃ i, Y i = none ∧ I i S') ∨ D S'
def qjp (text : List UInt8) : Nat × List UInt8 → Option (AV × (Nat × List UInt8))
 | (k, rest) => if rest = [] ∨ text.length < rest.length then none else some (qb3 k text rest, (k + 1, past 10 rest))
theorem q0k (text : List UInt8) (ht : text.length < 4294967281) : ItC 113 9 [Sv text] (qjp text) (0, text) := ⟨fun o kb n m I D S hm hn h0 hI hst hY => by
 refine (qxp text o kb 0 n m (fun k rest S => I (k, rest) S ∧ rest.length ≤ text.length) D S hm hn ht ⟨h0, Nat.le_refl _⟩ (fun k rest S' h => hI _ _ h.1) (fun k rest S' S'' hE h => ⟨hst _ _ _ hE h.1, h.2⟩) (fun k rest S' cs hi hown hne hle => ?_)).mono ?_
 ·refine (hY (k, rest) (qb3 k text rest) (k + 1, past 10 rest) S' [.cells 0 129 cs] hi.1 (fun j y hy => ?_) (if_neg fun h => h.elim hne (by omega))).mono fun b S'' ⟨h1, h2, h3⟩ => ⟨by have := h1 0 _ rfl; simpa using this, fun hb => ⟨h2 hb, by have := jy 10 rest; omega⟩, h3⟩
  match j with
  | 0 =>
   simp only [List.getElem?_cons_zero, Option.some.injEq] at hy
   subst hy
   exact ⟨hown, qad rfl⟩
  | j + 1 => simp at hy
 ·rintro r S' (⟨k, h⟩ | h)
  ·exact .inl ⟨(k, []), by simp [qjp], h.1⟩
  ·exact .inr h⟩
@[reducible] def q4z (n : Nat) (F : LoopState → Option Code → AObj) (own : List AObj) (I : List AObj → Prop) (D : Code → List AObj → Prop) : Exit → AS → Prop
 | .normal, s => s.st[n]? = some .dfr ∧ s.st[n + 1]? = some (F .busy none) ∧ (∀ k y, own[k]? = some y → s.st[n + 2 + k]? = some y) ∧ I s.st
 | .ret, s => s.st[n]? = some .dfr ∧ s.st[n + 1]? = some (F .busy none) ∧ (∀ k y, own[k]? = some y → s.st[n + 2 + k]? = some y) ∧ D .ret s.st
 | .exit id, s => s.st[n]? = some .dfr ∧ s.st[n + 1]? = some (F .busy none) ∧ (∀ k y, own[k]? = some y → s.st[n + 2 + k]? = some y) ∧ D (.exit id) s.st
 | _, _ => False
theorem qge {N : Nat} {t : Nat → AV} {ps : Array Tmp} {asg body : Code} {F : LoopState → Option Code → AObj} (hF : qi1 F N t ps asg body) (ls : LoopState) (pend : Option Code) {x : Option AObj} (h : x = some (F ls pend)) : qf3 x := fun n sz T' e => by
 rw [h, hF] at e
 simp at e
theorem qru {N : Nat} {Q : Exit → AS → Prop} {s : AS} {f : Operand} {p : Tmp} {asg body : Code} {S0 : List AObj} {kb : Nat} {g : FuncId} {T : TypeId} {cs : List AV} {ι : Type} {Y : ι → Option (AV × ι)} {i0 : ι} (hit : ItC g T cs Y i0) (hst : s.st = S0) (hx : qf N s f = .fn (.func g) [] [.bx kb 0 0])
  (hrun : ∀ vs w, (callFunc g vs).run E.P w = .ok (.enter g vs) w)
  (I : ι → List AObj → Prop) (D : Code → List AObj → Prop) (h0 : I i0 S0)
  (hI : ∀ i S, I i S → S[kb]? = some (.cells 0 T cs))
  (hs1 : ∀ i S S', Ext S0.length S S' → I i S → I i S') (hs2 : ∀ c S S', Ext S0.length S S' → D c S → D c S')
  (hb : ∀ F (own : List AObj) rd i x j S, qi1 F N s.t #[p] asg body → I i S → Y i = some (x, j) → S[S0.length]? = some .dfr → S[S0.length + 1]? = some (F .ready none) → (∀ k y, own[k]? = some y → S[S0.length + 2 + k]? = some y ∧ qf3 (some y)) →
   AWp E (some rd) N asg (only fun s1 => s1.st[S0.length + 1]? = some (F .ready none) ∧ s1.df = [] ∧ AWp E (some rd) N body (q4z S0.length F own (I j) D) ⟨s1.t, s1.st.set (S0.length + 1) (F .busy none), []⟩) ⟨put s.t p x, S, []⟩)
  (hn : ∀ i S, Y i = none → I i S → S[S0.length]? = some .dfr → Q .normal ⟨s.t, S, S0.length :: s.df⟩)
  (hd : ∀ c S, D c S → S[S0.length]? = some .dfr → AWp E none N c Q ⟨s.t, S, S0.length :: s.df⟩) : AWp E none N (.rangeFunc f #[p] asg body) Q s := by
 refine qii (st := S0) (loc := []) (by rw [hst]; simp) hx hrun fun F hF => ?_
 have hl : (S0 ++ ([] ++ [AObj.dfr, F .ready none])).length = S0.length + 2 := by simp
 have g1 : (S0 ++ ([] ++ [AObj.dfr, F .ready none]))[S0.length]? = some .dfr := by simp
 have g2 : (S0 ++ ([] ++ [AObj.dfr, F .ready none]))[S0.length + 1]? = some (F .ready none) := by simp
 have hz : S0.length + (([] : List AObj).length + 1) = S0.length + 1 := by simp
 rw [hz, show S0.length + ([] : List AObj).length = S0.length from rfl]
 refine qm.mono (hit.run (S0.length + 1) kb (S0.length + 2) (S0.length + 2) (fun i S => I i S ∧ S[S0.length]? = some .dfr ∧ S[S0.length + 1]? = some (F .ready none)) (fun S => ∃ c, D c S ∧ S[S0.length]? = some .dfr ∧ S[S0.length + 1]? = some (F .done (some c))) (S0 ++ ([] ++ [.dfr, F .ready none])) hl (Nat.le_refl _) ⟨hs1 _ _ _ (qu9 (Nat.le_refl _)) h0, g1, g2⟩ (fun i S h => hI i S h.1) (fun i S S' hE h => ⟨hs1 _ _ _ (hE.weak (by omega)) h.1, (hE.low _ (by omega)).trans h.2.1, (hE.low _ (by omega)).trans h.2.2⟩) ?_) ?_
 ·rintro i x j S' own ⟨hi, hd1, hf1⟩ hown hy
  refine qmi hF hf1 rfl fun rd => ?_
  refine (hb F own rd i x j S' hF hi hy hd1 hf1 hown).mono fun e s1 hq => ?_
  have fin : ∀ {S : List AObj} {z : AObj}, (∀ k y, own[k]? = some y → S[S0.length + 2 + k]? = some y) → ∀ k y, own[k]? = some y → (S.set (S0.length + 1) z)[S0.length + 2 + k]? = some y := fun h k y hk => jx (h k y hk) (by omega)
  cases e with
  | normal =>
   obtain ⟨q1, q2, q3⟩ := hq
   refine ⟨q1, q2, q3.mono fun e s2 hq2 => ?_⟩
   cases e with
   | normal =>
    obtain ⟨k1, k2, k3, k4⟩ := hq2
    exact ⟨k2, fin k3, fun _ => ⟨hs1 _ _ _ (qb1 (by omega) (qge hF _ _ k2)) k4, jx k1 (by omega), ku k2⟩, nofun⟩
   | ret =>
    obtain ⟨k1, k2, k3, k4⟩ := hq2
    exact ⟨k2, fin k3, nofun, fun _ => ⟨_, hs2 _ _ _ (qb1 (by omega) (qge hF _ _ k2)) k4, jx k1 (by omega), ku k2⟩⟩
   | exit id =>
    obtain ⟨k1, k2, k3, k4⟩ := hq2
    exact ⟨k2, fin k3, nofun, fun _ => ⟨_, hs2 _ _ _ (qb1 (by omega) (qge hF _ _ k2)) k4, jx k1 (by omega), ku k2⟩⟩
   | _ => exact hq2.elim
  | _ => exact hq.elim
 ·rintro r S' (⟨i, hy, hi, hd1, hf1⟩ | ⟨c, hi, hd1, hf1⟩)
  ·exact ⟨.ready, none, nofun, hf1, hn i _ hy (hs1 _ _ _ (qb1 (by omega) (qge hF _ _ hf1)) hi) (jx hd1 (by omega))⟩
  ·exact ⟨.done, some c, nofun, hf1, hd c _ (hs2 _ _ _ (qb1 (by omega) (qge hF _ _ hf1)) hi) (jx hd1 (by omega))⟩
end Go.Proofs.YtefmcijohgpfhaaGreatDoor
set_option linter.unusedVariables false
namespace Go.Av
open Go Go.RowKit
theorem qn1 {P : Program} {B0 : Nat} {w0 : World} {G : Gh} {st : List AObj} {w : World} (hA : zk B0 w0 G st w) {tt u ty T : TypeId} {du : TypeDesc} (htt : P.underlying tt = some (.slice T)) (hu : P.underlying u = some du) (hd : qhu du)
  {sz bytes : Nat} (hT : qcc P T sz bytes) {t n m : Nat} (ht : st[t]? = some (.tip n sz T)) {xs ys : List AV} {x : Value} (hn : xs.length = n) (hm : ys.length = m)
  {news : List Value} (hx : Src P w x m sz news) (hys : ∀ y ∈ ys, y.cells.length = sz) (hrel : ∀ (i : Nat) (a : AV) (b : Value), (flat ys)[i]? = some a → news[i]? = some b → Rel G a b)
  (h63 : n + m ≤ maxLen) (base : Option Addr) (c : Nat) (olds : List Value) (ho : (Builtin.firstCells sz n (.slice base n c)).run P w.drew = .ok olds.toArray w.drew) (hc : c < n + m) (hol : olds.length = n * sz) (hfx : (flat xs).length = n * sz) (hwx : ∀ x ∈ xs, x.cells.length = sz)
  (hrx : ∀ (j : Nat) (a : AV) (b : Value), (flat xs)[j]? = some a → olds[j]? = some b → Rel G a b) (hfit : Builtin.nextslicecap (n + m) c * bytes ≤ 281474976710656) (hm0 : m ≠ 0) :
  ∃ v' w' G', (Builtin.append_ #[tt, u] ty #[.slice base n c, x]).run P w = .ok v' w' ∧ G.le G' ∧ zk B0 w0 G' (st.set t (.tip (n + m) sz T)) w' ∧ Rel G' (.sl sz (xs ++ ys) (some t)) v' := by
 obtain ⟨i, z, hi, hz, rfl, rfl, hzs⟩ := hT.ex
 obtain ⟨hraw, hver, htip⟩ := hA.ob t _ ht
 have htn : t < G.n := by rw [hA.n]; exact lt_of_getElem? ht
 have hlt : G.n = st.length := hA.n
 have hk := hA.kill t
 have hkt : (st.set t .dead)[t]? = some .dead := qfv ht
 have hother : ∀ o x, (st.set t .dead)[o]? = some x → x.live → o ≠ t ∧ st[o]? = some x := fun o x hx hl => by
  rcases getElem?_set' _ _ _ _ _ hx with ⟨_, e⟩ | ⟨h1, h2⟩
  ·subst e; exact hl.elim
  ·exact ⟨h1, h2⟩
 have hset : (st.set t AObj.dead).set t (.tip (n + m) i.size T) = st.set t (.tip (n + m) i.size T) := by rw [List.set_set]
 have hself : st.set t (.tip n i.size T) = st := by
  apply List.ext_getElem?
  intro k
  by_cases e : t = k
  ·subst e; rw [List.getElem?_set_self (lt_of_getElem? ht)]; exact ht.symm
  ·rw [List.getElem?_set_ne e]
 have hrun := qjw (ty := ty) htt hu hd hi hz hx base n c olds ho hc (by simp only [maxLen] at h63; omega) hfit
 have hge := grownCap_ge w (n + m) c T
 have hle := grownCap_le_maxLen w (n + m) c T h63
 generalize grownCap w (n + m) c T = cap at hrun hge hle
 have hsz : (olds.toArray ++ news.toArray ++ Builtin.zeroCells z.cells (cap - (n + m))).size = cap * i.size := by
  simp only [Array.size_append, List.size_toArray, size_zeroCells, hzs, hol, hx.count, ← Nat.add_mul]
  congr 1
  omega
 generalize hcv : olds.toArray ++ news.toArray ++ Builtin.zeroCells z.cells (cap - (n + m)) = c' at hrun hsz
 have hdrew : Below w.heap.size w w.drew := ⟨rfl, rfl, rfl, Nat.le_refl _, fun _ _ => rfl⟩
 have hA1 := hk.fresh hdrew
 have hpre : ∀ (j : Nat) (y : Value), (olds ++ news)[j]? = some y → c'[j]? = some y := fun j y hy => by
  have hj := lt_of_getElem? hy
  rw [← hcv, Array.getElem?_append_left (by simp at hj ⊢; omega), List.append_toArray]
  simpa using hy
 obtain ⟨hle1, hA2⟩ := hA1.newPub T c' (0, 0) (olds ++ news) hpre
 have hnp : G.pub w.heap.size = none := by
  cases hp : G.pub w.heap.size with
  | none => rfl
  | some vs => exact absurd (hA.pub_lt hp) (Nat.lt_irrefl _)
 obtain ⟨hle2, hA3⟩ := hA2.setTip (n' := n + m) (vs := olds ++ news) (k := w.heap.size) (cap := cap * i.size) (sz := i.size) (T := T) hkt (by simpa [Gh.publish] using hraw) (by simpa [Gh.publish] using hver) (by omega) (xz w.drew _) (by simp [Gh.publish]) (by simp [hol, hx.count, Nat.add_mul]) hsz hA.hB (fun o x hx hl => by
  obtain ⟨_, hx'⟩ := hother o x hx hl
  exact Nat.ne_of_lt ((hA.ob o x hx').lt hl))
 rw [hset] at hA3
 refine ⟨_, _, _, hrun, hle1.trans hle2, hA3, ?_⟩
 have hmono : ∀ {a b}, Rel G a b → Rel ((G.publish w.drew.heap.size (olds ++ news)).setOb t ⟨n + m, w.heap.size, cap * i.size, false⟩) a b := fun h => (h.mono hle1).mono hle2
 refine qoy (n := n) (m := m) (cap := cap) (k := w.heap.size) (vs := olds) (news := news) (by simp [Gh.setOb]) (by simp [Gh.setOb]) (by simp [Gh.setOb]) hle hge (by simpa [Gh.setOb, Gh.publish] using htn) (by omega) hn hm (by simp [Gh.setOb, Gh.publish]) (fun y hy => ?_) hol hx.count hfx (fun j a b h1 h2 => hmono (hrx j a b h1 h2)) (fun j a b h1 h2 => hmono (hrel j a b h1 h2))
 rcases List.mem_append.1 hy with h | h
 ·exact hwx y h
 ·exact hys y h
def TipO (b : Nat) (st : List AObj) (sz : Nat) (T : TypeId) (xs : List AV) (c : AV) : Prop := TipC b st sz T xs c ∨ (xs = [] ∧ ∃ o v f, c = .os o v f 0 0)
theorem q2h (b : Nat) (st : List AObj) (sz : Nat) (T : TypeId) : TipO b st sz T [] zv := .inl (q2i ..)
theorem q3f (b : Nat) (st : List AObj) (sz : Nat) (T : TypeId) (o v f : Nat) : TipO b st sz T [] (.os o v f 0 0) := .inr ⟨rfl, _, _, _, rfl⟩
theorem q3o {G : Gh} {o v f : Nat} {sz : Nat} {x : Value} (h : Rel G (.os o v f 0 0) x) : Rel G (.sl sz [] none) x := by
 cases h with
 | os _ _ _ _ b _ hn hv h => exact .sl0 sz none _ _ (by simp)
section
variable {E : Env} {rd : Option Nat} {N : Nat} {ops : Array Oper} {K : AS → Prop} {s : AS} {rest : List Oper} {d : Option Tmp} {T : TypeId} {p : String} {af : Array Edge}
theorem qjt {x y : Operand} {t u T' : TypeId} {sz bytes b : Nat} {xs ys : List AV} {tip : Option Nat} {c : AV} {st : List AObj} (hst : s.st = st) (hx : qf N s x = c) (hy : qf N s y = .sl sz ys tip)
  (ht : E.P.underlying t = some (.slice T')) (hu : E.P.underlying u = some (.slice T')) (hT : qcc E.P T' sz bytes) (hc : TipO b st sz T' xs c) (hb : b ≤ st.length) (hone : vj (flat ys) = true) (h63 : xs.length + ys.length ≤ maxLen) (hby : (xs.length + ys.length) * bytes ≤ 140737488355328)
  (h : ∀ c' st' t1, TipO b st' sz T' (xs ++ ys) c' → Fr st st' t1 → b ≤ t1 → (c = .sl sz xs (some t1) ∨ st.length ≤ t1) → AOps E rd N ops rest K (AS.put ⟨s.t, st', s.df⟩ d c')) : AOps E rd N ops (⟨d, .call ⟨.builtin .append, #[x, y], #[t, u]⟩, T, p, af, none⟩ :: rest) K s := by
 rcases hc with hc | ⟨hxs, o, ver, f, hco⟩
 ·refine qr6 hst hx hc hb hy ht hu hT hone h63 hby fun t1 st' g1 g2 g3 g4 => h _ st' t1 (.inl (.inr ⟨t1, rfl, g1, g2⟩)) g3 g2 g4
 ·subst hst
  subst hxs
  refine zi rfl (zh nofun fun B0 w0 G a w _ hI => ?_)
  have he := hI.eval_of (hx.trans hco)
  obtain ⟨news, k1, k2, k3⟩ := qbj (P := E.P) hI.agree (hI.eval_of hy) (by simpa [vj] using hone)
  have hex := hT.ex
  obtain ⟨i, z, hi, hz, hsz, hbt, hzs⟩ := hex
  generalize hv : a.eval x = v at he
  cases he with
  | os _ _ _ _ blk _ hn hvv hbb =>
   by_cases hm0 : ys.length = 0
   ·have hy0 : ys = [] := List.eq_nil_of_length_eq_zero hm0
    subst hy0
    have hk1' : Src E.P w (a.eval y) 0 i.size [] := by
     have : news = [] := List.eq_nil_of_length_eq_zero (by simpa using k1.count)
     rw [hsz]
     rw [this] at k1
     exact k1
    refine ⟨_, w, G, _, s.st, ?_, .refl G, hI.agree, .os o ver f 0 blk 0 hn hvv hbb, h _ s.st s.st.length (.inr ⟨rfl, o, ver, f, rfl⟩) ⟨Nat.le_refl _, fun _ _ _ => rfl⟩ hb (.inr (Nat.le_refl _))⟩
    have := qgb (ty := T) ht hu (.inr ⟨_, rfl⟩) hi hk1' (some ⟨blk, f, none⟩) 0 0 (Nat.le_refl _)
    generalize a.eval = ρ at hv this
    simp [execOp, resolve, invoke, builtin, hv, this]
   ·have hle := G.le_new 0 0 0 false
    have hA := hI.agree.newTip sz T'
    have hz63 : 0 + ys.length ≤ maxLen := by simpa using h63
    obtain ⟨v', w', G', e1, e2, e3, e4⟩ := qn1 (ty := T) hA ht hu (.inr ⟨_, rfl⟩) hT (t := s.st.length) (n := 0) (xs := []) (by simp) rfl rfl k1 k2 (fun i a b h1 h2 => (k3 i a b h1 h2).mono hle) hz63 (some ⟨blk, f, none⟩) 0 []
     (run_firstCells_some w.drew sz 0 ⟨blk, f, none⟩ 0 0 [] (by simp) (by simp)) (by omega) (by simp) (by simp [flat]) (by simp) (by simp [flat]) (by rw [Nat.zero_add, nextslicecap_zero (by omega)]; have := hby; simp at this; omega) hm0
    refine ⟨v', w', G', _, _, ?_, hle.trans e2, e3, e4, h _ _ s.st.length (.inl (.inr ⟨s.st.length, rfl, ?_, hb⟩)) ⟨by simp, fun k hk hlt => ?_⟩ hb (.inr (Nat.le_refl _))⟩
    ·generalize a.eval = ρ at e1 hv
     simp [execOp, resolve, invoke, builtin, hv, e1]
    ·simp
    ·rw [List.getElem?_set_ne (Ne.symm hk), List.getElem?_append_left hlt]
end
theorem qi {α : Type} {g : α → AV} {l : List α} (h : ∀ a, vj (g a).cells = true) : vj (flat (l.map g)) = true := by
 induction l with
 | nil => rfl
 | cons a r ih =>
  have h1 := h a
  unfold vj flat at *
  rw [List.map_cons, List.flatMap_cons, List.all_append, h1, ih]
  rfl
theorem qma {b : Nat} {st : List AObj} {sz : Nat} {T : TypeId} {xs : List AV} {c : AV} (h : TipO b st sz T xs c) : ∀ G v, Rel G c v → Rel G (.sl sz xs none) v := by
 rcases h with (⟨rfl, rfl⟩ | ⟨t, rfl, _⟩) | ⟨rfl, o, v, f, rfl⟩
 ·exact fun G v h => qbu h
 ·exact fun G v h => qji h
 ·exact fun G v h => q3o h
end Go.Av
set_option linter.unusedVariables false
namespace Go.Av
open Go Go.RowKit
def qc5 (o : Oper) : Bool := match o.op with
 | .defer _ => false
 | _ => true
theorem qm1 {o : Oper} (h : qc5 o = true) : ∀ c, o.op ≠ .defer c := fun c e => by
 unfold qc5 at h
 rw [e] at h
 simp at h
theorem qy9 {P : Program} {ops : Array Oper} {Q : Exit → Act → World → Prop} {l i : Nat} {K : Act → World → Prop} {a : Act} {w : World} (hnd : ∀ o, ops[i]? = some o → qc5 o = true) (h : wpOpIn (fw none) 0 P ops Q i K a w) : wpOpIn (fw (some l)) 0 P ops Q i K a w := by
 unfold wpOpIn at *
 cases ho : ops[i]? with
 | none => simp only [ho] at h ⊢; exact h
 | some o =>
  simp only [ho] at h ⊢
  split
  ·rename_i hw
   rw [if_pos hw] at h
   unfold Oper.wpIn at *
   rw [qct (rd := none) (qm1 (hnd o ho))] at h
   rw [qct (rd := some l) (qm1 (hnd o ho))]
   exact h
  ·rename_i hw
   rw [if_neg hw] at h
   exact h
theorem qol {P : Program} {ops : Array Oper} {Q : Exit → Act → World → Prop} {l : Nat} {md : Region.Mode} (hnd : ops.all qc5 = true) : ∀ (fuel : Nat) (listed : Array Bool) (a : Act) (w : World), wpAnyIn (fw none) 0 P md ops Q fuel listed a w → wpAnyIn (fw (some l)) 0 P md ops Q fuel listed a w
 | 0, _, _, _, h => h
 | fuel + 1, listed, a, w, h => ⟨h.1, fun i hi => qy9 (fun o ho => by
   rw [Array.all_eq_true] at hnd
   obtain ⟨h1, h2⟩ := Array.getElem?_eq_some_iff.1 ho
   rw [← h2]
   exact hnd i h1) (wpOpIn_mono (fun a w => qol hnd fuel _ a w) (h.2 i hi))⟩
theorem qxc {E : Env} {rd : Option Nat} {N : Nat} {ops : Array Oper} {s : AS} {id : Nat} {Q : Exit → AS → Prop} {n : Nat} (hm : E.P.follows .mixedOrders = true) (hd : ops.all qc5 = true) (hn : ops.size = n) (h : AZ E N ops n (Array.replicate n false) (Q .normal) s) : AWp E rd N (.region id ops true) Q s := by
 cases rd with
 | none => exact qz6 hm hn h
 | some l =>
  subst hn
  refine ⟨fun B0 w0 G a w hL hI => ?_⟩
  have hBl : Below w.heap.size w { w with drawn := w.drawn + 1 } := ⟨rfl, rfl, rfl, Nat.le_refl _, fun _ _ => rfl⟩
  have hI2 : Inv B0 w0 N G s a { w with drawn := w.drawn + 1 } := ⟨hI.agree.fresh hBl, hI.defers, hI.size, hI.tmps⟩
  have := h.run B0 w0 G a _ hL hI2 (fun a' w' => ∃ (G' : Gh) (s' : AS), G.le G' ∧ Inv B0 w0 N G' s' a' w' ∧ Q .normal s') fun G' s' a' w' hG hI' hk => ⟨G', s', hG, hI', hk⟩
  refine wpIn_mono (wpIn_region_any hm (qol hd _ _ _ _ this)) fun e a' w' hq => ?_
  cases e with
  | normal => exact hq
  | _ => exact hq.elim
end Go.Av
set_option linter.unusedVariables false
namespace Go.Av
open Go Go.RowKit
def qbf (o : Oper) : List Nat := (o.after.toList.filter fun e => Region.binds .any e).map (·.on)
def addL (L : Nat → Bool) (i : Nat) : Nat → Bool := fun k => Nat.beq k i || L k
def qep : Nat → List Oper → Bool
 | _, [] => true
 | i, o :: r => (qbf o).all (fun j => Nat.blt j i) && qep (i + 1) r
def qka (E : Env) (N : Nat) (ops : Array Oper) (J : (Nat → Bool) → AS → Prop) : Nat → List Oper → Prop
 | _, [] => True
 | i, o :: r => (∀ L s, L i = false → (∀ j, (qbf o).contains j = true → L j = true) → J L s → AOps E none N ops [o] (J (addL L i)) s) ∧ qka E N ops J (i + 1) r
theorem qnq {E : Env} {N : Nat} {ops : Array Oper} {J : (Nat → Bool) → AS → Prop} : ∀ {l : List Oper} {i0 k : Nat} {o : Oper}, qka E N ops J i0 l → l[k]? = some o →
  ∀ L s, L (i0 + k) = false → (∀ j, (qbf o).contains j = true → L j = true) → J L s → AOps E none N ops [o] (J (addL L (i0 + k))) s
 | [], _, _, _, _, h => by simp at h
 | o' :: r, i0, 0, o, hs, h => by
  simp only [List.getElem?_cons_zero, Option.some.injEq] at h
  subst h
  exact hs.1
 | o' :: r, i0, k + 1, o, hs, h => by
  have := qnq hs.2 (by simpa using h)
  rw [show i0 + 1 + k = i0 + (k + 1) by omega] at this
  exact this
theorem qnl : ∀ {l : List Oper} {i0 k : Nat} {o : Oper}, qep i0 l = true → l[k]? = some o → ∀ j ∈ qbf o, j < i0 + k
 | [], _, _, _, _, h => by simp at h
 | o' :: r, i0, 0, o, hs, h => by
  simp only [List.getElem?_cons_zero, Option.some.injEq] at h
  subst h
  simp only [qep, Bool.and_eq_true] at hs
  intro j hj
  have := List.all_eq_true.1 hs.1 j hj
  simpa [Nat.blt_eq] using this
 | o' :: r, i0, k + 1, o, hs, h => by
  simp only [qep, Bool.and_eq_true] at hs
  have := qnl hs.2 (show r[k]? = some o by simpa using h)
  intro j hj
  have := this j hj
  omega
def lof (listed : Array Bool) : Nat → Bool := fun k => listed.getD k false
theorem q25 {listed : Array Bool} {i : Nat} (hi : i < listed.size) : lof (listed.setIfInBounds i true) = addL (lof listed) i := by
 funext k
 unfold lof addL
 by_cases h : k = i
 ·subst h
  simp [Array.getD, hi]
 ·have hb : Nat.beq k i = false := jo h
  rw [hb, Bool.false_or]
  simp only [Array.getD_eq_getD_getElem?, Array.getElem?_setIfInBounds]
  rw [if_neg (fun e => h e.symm)]
theorem qp0 : ∀ {l : List Bool} {i : Nat}, l[i]? = some false → (l.set i true).count false + 1 = l.count false
 | [], _, h => by simp at h
 | b :: l, 0, h => by
  simp only [List.getElem?_cons_zero, Option.some.injEq] at h
  subst h
  simp
 | b :: l, i + 1, h => by
  have := qp0 (l := l) (i := i) (by simpa using h)
  rw [List.set_cons_succ, List.count_cons, List.count_cons]
  omega
theorem qkr {l : List Oper} {listed : Array Bool} {i : Nat} : i ∈ Region.ready .any l.toArray listed ↔ listed.getD i true = false ∧ ∃ o, l[i]? = some o ∧ ∀ j ∈ qbf o, lof listed j = true := by
 unfold Region.ready
 simp only [List.mem_filter, List.mem_range, Bool.and_eq_true, Bool.not_eq_true', List.size_toArray, List.getElem?_toArray]
 constructor
 ·rintro ⟨h1, h2, h3⟩
  refine ⟨h2, l[i], List.getElem?_eq_getElem h1, fun j hj => ?_⟩
  rw [List.getElem?_eq_getElem h1] at h3
  simp only [Option.map_some, Option.getD_some] at h3
  unfold qbf at hj
  obtain ⟨e, he, rfl⟩ := List.mem_map.1 hj
  obtain ⟨he1, he2⟩ := List.mem_filter.1 he
  have := Array.all_eq_true'.1 h3 e (by simpa using he1)
  rw [he2] at this
  simpa [lof] using this
 ·rintro ⟨h2, o, ho, h3⟩
  refine ⟨lt_of_getElem? ho, h2, ?_⟩
  rw [ho]
  simp only [Option.map_some, Option.getD_some]
  rw [Array.all_eq_true']
  intro e he
  cases hb : Region.binds .any e with
  | false => rfl
  | true =>
   have := h3 e.on (by
    unfold qbf
    exact List.mem_map.2 ⟨e, List.mem_filter.2 ⟨by simpa using he, hb⟩, rfl⟩)
   simpa [lof] using this
theorem qqz {P : Nat → Prop} : ∀ {l : List Nat}, (∀ i ∈ l, P i) → qqs P l
 | [], _ => trivial
 | i :: r, h => ⟨h i (by simp), qqz fun j hj => h j (by simp [hj])⟩
theorem AOps.mono' {E : Env} {rd : Option Nat} {N : Nat} {ops : Array Oper} {K K' : AS → Prop} {s : AS} {l : List Oper} (h : AOps E rd N ops l K' s) (hk : ∀ s, K' s → K s) : AOps E rd N ops l K s :=
 ⟨fun B0 w0 G a w hL hI Q hQ => h.run B0 w0 G a w hL hI Q fun G' s' a' w' hG hI' hK => hQ G' s' a' w' hG hI' (hk _ hK)⟩
theorem az_J {E : Env} {N : Nat} {l : List Oper} {J : (Nat → Bool) → AS → Prop} {K : AS → Prop} (hd : qep 0 l = true) (hs : qka E N l.toArray J 0 l) (hend : ∀ L s, (∀ i, i < l.length → L i = true) → J L s → K s) :
  ∀ (fuel : Nat) (listed : Array Bool) (s : AS), listed.size = l.length → listed.toList.count false ≤ fuel → J (lof listed) s → AZ E N l.toArray fuel listed K s := by
 intro fuel
 induction fuel with
 | zero =>
  intro listed s hsz hc hJ
  have hall : ∀ i, i < l.length → lof listed i = true := fun i hi => by
   have h0 : listed.toList.count false = 0 := by omega
   have hi' : i < listed.size := by omega
   have hlo : lof listed i = listed[i] := by simp [lof, hi']
   rw [hlo]
   cases hb : listed[i] with
   | true => rfl
   | false => exact absurd (by rw [← hb]; simp) (List.count_eq_zero.1 h0)
  have hr : Region.ready .any l.toArray listed = [] := by
   rw [List.eq_nil_iff_forall_not_mem]
   intro i hi
   obtain ⟨h1, o, ho, _⟩ := qkr.1 hi
   have hi' := lt_of_getElem? ho
   have := hall i hi'
   unfold lof at this
   have hi2 : i < listed.size := by omega
   simp only [Array.getD, hi2, dite_true] at this h1
   rw [this] at h1
   simp at h1
  exact qvc hr (hend _ s hall hJ)
 | succ fuel ih =>
  intro listed s hsz hc hJ
  by_cases hr : Region.ready .any l.toArray listed = []
  ·refine qvc hr (hend _ s (fun i => ?_) hJ)
   induction i using Nat.strongRecOn with
   | _ i ihi =>
    intro hi
    cases hb : lof listed i with
    | true => rfl
    | false =>
     exfalso
     have hm : i ∈ Region.ready .any l.toArray listed := by
      refine qkr.2 ⟨?_, l[i], List.getElem?_eq_getElem hi, fun j hj => ?_⟩
      ·have hi2 : i < listed.size := by omega
       unfold lof at hb
       simp only [Array.getD, hi2, dite_true] at hb ⊢
       exact hb
      ·have := qnl hd (List.getElem?_eq_getElem hi) j hj
       exact ihi j (by omega) (by omega)
     rw [hr] at hm
     simp at hm
  ·refine q5a _ rfl ?_ (qqz fun i hi => ?_)
   ·cases h : Region.ready .any l.toArray listed with
    | nil => exact absurd h hr
    | cons a r => rfl
   ·obtain ⟨h1, o, ho, h3⟩ := qkr.1 hi
    have hil := lt_of_getElem? ho
    have hi2 : i < listed.size := by omega
    refine ⟨o, by simpa using ho, ?_⟩
    have hl : lof listed i = false := by
     unfold lof
     simp only [Array.getD, hi2, dite_true] at h1 ⊢
     exact h1
    have := qnq hs ho (lof listed) s (by rw [Nat.zero_add]; exact hl) (fun j hj => h3 j (by simpa using hj)) hJ
    rw [Nat.zero_add] at this
    refine this.mono' fun s' hJ' => ih _ s' (by simpa using hsz) ?_ (by rw [q25 hi2]; exact hJ')
    have hg : listed.toList[i]? = some false := by
     have : listed[i] = false := by
      simp only [Array.getD, hi2, dite_true] at h1
      exact h1
     simp [hi2, this]
    have := qp0 hg
    rw [Array.toList_setIfInBounds]
    omega
theorem qzd {E : Env} {rd : Option Nat} {N : Nat} {s : AS} {id : Nat} {l : List Oper} {Q : Exit → AS → Prop} (hm : E.P.follows .mixedOrders = true) (hnd : l.toArray.all qc5 = true) (hd : qep 0 l = true) (J : (Nat → Bool) → AS → Prop)
  (h0 : J (fun _ => false) s) (hend : ∀ L s, (∀ i, i < l.length → L i = true) → J L s → Q .normal s) (hs : qka E N l.toArray J 0 l) : AWp E rd N (.region id l.toArray true) Q s := by
 refine qxc hm hnd (n := l.length) (by simp) (az_J hd hs hend _ _ _ (by simp) ?_ ?_)
 ·simp only [Array.toList_replicate, List.count_replicate]
  split <;> omega
 ·have : lof (Array.replicate l.length false) = fun _ => false := by
   funext k
   unfold lof
   simp only [Array.getD_eq_getD_getElem?, Array.getElem?_replicate]
   split <;> rfl
  rw [this]
  exact h0
end Go.Av
set_option linter.unusedVariables false
namespace Go.Av
open Go Go.RowKit
inductive SV where
 | a (x : AV)
 | i (n : Int)
 | s (l : List UInt8)
 | tt
 | ff
 | b (c : Bool)
 | p (q : Prop) (h : Decidable q)
 | bx (k off : Nat)
 | tp (k : Nat)
 | ag (cs : List SV)
 | tu (cs : List SV)
 | fn (f : Fn) (xs ys : List SV)
 | ifc (t : TypeId) (x : SV)
def bxAt : AV → Nat → AV
 | .bx o v _, off => .bx o v off
 | .os o v _ _ _, off => .bx o v off
 | _, off => .bx 0 0 off
def tpAt (x : AV) : AV := bif x.one then x else Bv false
mutual
def SV.ev (ρ : Nat → AV) : SV → AV
 | .a x => x
 | .i n => Iv n
 | .s l => Sv l
 | .tt => Bv true
 | .ff => Bv false
 | .b c => Bv c
 | .p q h => Bv (@decide q h)
 | .bx k off => bxAt (ρ k) off
 | .tp k => tpAt (ρ k)
 | .ag cs => .ag (SV.evs ρ cs)
 | .tu cs => .tu (SV.evs ρ cs)
 | .fn f xs ys => .fn f (SV.evs ρ xs) (SV.evs ρ ys)
 | .ifc t x => .ifc t (SV.ev ρ x)
def SV.evs (ρ : Nat → AV) : List SV → List AV
 | [] => []
 | x :: r => SV.ev ρ x :: SV.evs ρ r
end
mutual
def SV.all (f : Nat → Bool) : SV → Bool
 | .bx k _ => f k
 | .tp k => f k
 | .ag cs => SV.alls f cs
 | .tu cs => SV.alls f cs
 | .fn _ xs ys => SV.alls f xs && SV.alls f ys
 | .ifc _ x => SV.all f x
 | _ => true
def SV.alls (f : Nat → Bool) : List SV → Bool
 | [] => true
 | x :: r => SV.all f x && SV.alls f r
end
theorem vk (ρ : Nat → AV) : ∀ l : List SV, SV.evs ρ l = l.map (SV.ev ρ)
 | [] => rfl
 | x :: r => by rw [SV.evs, vk ρ r]; rfl
mutual
theorem qan {f : Nat → Bool} {ρ ρ' : Nat → AV} (h : ∀ k, f k = true → ρ' k = ρ k) : ∀ v : SV, v.all f = true → v.ev ρ' = v.ev ρ
 | .a _, _ => rfl
 | .i _, _ => rfl
 | .s _, _ => rfl
 | .tt, _ => rfl
 | .ff, _ => rfl
 | .b _, _ => rfl
 | .p _ _, _ => rfl
 | .bx k off, hv => by simp only [SV.all] at hv; simp only [SV.ev, h k hv]
 | .tp k, hv => by simp only [SV.all] at hv; simp only [SV.ev, h k hv]
 | .ag cs, hv => by simp only [SV.all] at hv; simp only [SV.ev, qai h cs hv]
 | .tu cs, hv => by simp only [SV.all] at hv; simp only [SV.ev, qai h cs hv]
 | .fn f xs ys, hv => by simp only [SV.all, Bool.and_eq_true] at hv; simp only [SV.ev, qai h xs hv.1, qai h ys hv.2]
 | .ifc t x, hv => by simp only [SV.all] at hv; simp only [SV.ev, qan h x hv]
theorem qai {f : Nat → Bool} {ρ ρ' : Nat → AV} (h : ∀ k, f k = true → ρ' k = ρ k) : ∀ l : List SV, SV.alls f l = true → SV.evs ρ' l = SV.evs ρ l
 | [], _ => rfl
 | x :: r, hv => by simp only [SV.alls, Bool.and_eq_true] at hv; simp only [SV.evs, qan h x hv.1, qai h r hv.2]
end
mutual
theorem all_mono {f g : Nat → Bool} (h : ∀ k, f k = true → g k = true) : ∀ v : SV, v.all f = true → v.all g = true
 | .a _, _ => rfl
 | .i _, _ => rfl
 | .s _, _ => rfl
 | .tt, _ => rfl
 | .ff, _ => rfl
 | .b _, _ => rfl
 | .p _ _, _ => rfl
 | .bx k off, hv => h k hv
 | .tp k, hv => h k hv
 | .ag cs, hv => qc0 h cs hv
 | .tu cs, hv => qc0 h cs hv
 | .fn f xs ys, hv => by simp only [SV.all, Bool.and_eq_true] at hv ⊢; exact ⟨qc0 h xs hv.1, qc0 h ys hv.2⟩
 | .ifc t x, hv => all_mono h x hv
theorem qc0 {f g : Nat → Bool} (h : ∀ k, f k = true → g k = true) : ∀ l : List SV, SV.alls f l = true → SV.alls g l = true
 | [], _ => rfl
 | x :: r, hv => by simp only [SV.alls, Bool.and_eq_true] at hv ⊢; exact ⟨all_mono h x hv.1, qc0 h r hv.2⟩
end
inductive SR where
 | cells (T : TypeId) (cs : List SV)
 | tip (sz : Nat) (T : TypeId) (xs : List AV)
 | own (sz : Nat) (T : TypeId) (xs : List AV)
def SR.all (f : Nat → Bool) : SR → Bool
 | .cells _ cs => SV.alls f cs
 | .tip _ _ _ => true
 | .own _ _ _ => true
structure qok (c : AV) : Prop where
 val : ∀ (G : Gh) (v : Value), Rel G c v → ∃ base, v = .slice base 0 0
 one : c.one = true
 len : lenA c = some 0
 bx : ∀ (o ver off len cap : Nat), c ≠ .os o ver off len (cap + 1)
 nb : ∀ (o ver off : Nat), c ≠ .bx o ver off
 ns : ∀ (sz : Nat) (xs : List AV) (t : Nat), c ≠ .sl sz xs (some t)
theorem q00 (base : Option Addr) : qok (.v (.slice base 0 0)) := ⟨fun G v h => by cases h; exact ⟨base, rfl⟩, rfl, rfl, by simp, by simp, by simp⟩
def OwnS (S : List AObj) (sz : Nat) (T : TypeId) (xs : List AV) (c : AV) : Prop :=
 (xs = [] ∧ qok c) ∨ ∃ o ver cap pad, c = .os o ver 0 xs.length (cap + 1) ∧ S[o]? = some (.cells ver T (flat xs ++ pad)) ∧ (flat xs ++ pad).length = (cap + 1) * sz ∧ (∀ x ∈ xs, x.cells.length = sz) ∧ xs.length ≤ cap + 1 ∧ cap + 1 ≤ maxLen
def SR.ok (ρ : Nat → AV) (S : List AObj) (c : AV) : SR → Prop
 | .cells T cs => ∃ o v, c = .bx o v 0 ∧ S[o]? = some (.cells v T (SV.evs ρ cs)) ∧ v = 0
 | .tip sz T xs => TipO 0 S sz T xs c
 | .own sz T xs => OwnS S sz T xs c
theorem SR.all_mono {f g : Nat → Bool} (h : ∀ k, f k = true → g k = true) : ∀ r : SR, r.all f = true → r.all g = true
 | .cells _ cs, hr => qc0 h cs hr
 | .tip _ _ _, _ => rfl
 | .own _ _ _, _ => rfl
def zw : AV → Option Nat
 | .bx o _ _ => some o
 | .sl _ _ (some t) => some t
 | .os o _ _ _ (_ + 1) => some o
 | _ => none
theorem OwnS.loc {S : List AObj} {sz : Nat} {T : TypeId} {xs : List AV} {c : AV} (h : OwnS S sz T xs c) {o : Nat} (ho : zw c = some o) : ∃ ver cap pad, c = .os o ver 0 xs.length (cap + 1) ∧ S[o]? = some (.cells ver T (flat xs ++ pad)) ∧ (flat xs ++ pad).length = (cap + 1) * sz ∧ (∀ x ∈ xs, x.cells.length = sz) ∧ xs.length ≤ cap + 1 ∧ cap + 1 ≤ maxLen := by
 rcases h with ⟨_, h⟩ | ⟨o', ver, cap, pad, rfl, h⟩
 ·unfold zw at ho
  split at ho
  ·exact absurd rfl (h.nb _ _ _)
  ·exact absurd rfl (h.ns _ _ _)
  ·exact absurd rfl (h.bx _ _ _ _ _)
  ·simp at ho
 ·simp only [zw, Option.some.injEq] at ho
  subst ho
  exact ⟨ver, cap, pad, rfl, h⟩
theorem qok.loc {c : AV} (h : qok c) : zw c = none := by
 unfold zw
 split
 ·exact absurd rfl (h.nb _ _ _)
 ·exact absurd rfl (h.ns _ _ _)
 ·exact absurd rfl (h.bx _ _ _ _ _)
 ·rfl
theorem OwnS.of {S S' : List AObj} {sz : Nat} {T : TypeId} {xs : List AV} {c : AV} (h : OwnS S sz T xs c) (hs : ∀ o, zw c = some o → S'[o]? = S[o]?) : OwnS S' sz T xs c := by
 rcases h with h | ⟨o, ver, cap, pad, rfl, h1, h2⟩
 ·exact .inl h
 ·exact .inr ⟨o, ver, cap, pad, rfl, (hs o rfl).trans h1, h2⟩
theorem SR.ok_lt {ρ : Nat → AV} {S : List AObj} {c : AV} {r : SR} (h : r.ok ρ S c) {o : Nat} (ho : zw c = some o) : o < S.length := by
 cases r with
 | cells T cs =>
  obtain ⟨o', v, rfl, h, _⟩ := h
  simp only [zw, Option.some.injEq] at ho
  subst ho
  exact lt_of_getElem? h
 | tip sz T xs =>
  rcases h with (⟨_, rfl⟩ | ⟨t, rfl, ht, _⟩) | ⟨_, o', v, f, rfl⟩
  ·simp [zw] at ho
  ·simp only [zw, Option.some.injEq] at ho
   subst ho
   exact lt_of_getElem? ht
  ·simp [zw] at ho
 | own sz T xs =>
  obtain ⟨_, _, _, _, h, _⟩ := OwnS.loc h ho
  exact lt_of_getElem? h
theorem SR.ok_of {ρ ρ' : Nat → AV} {S S' : List AObj} {c : AV} {r : SR} {f : Nat → Bool} (hf : r.all f = true) (hr : ∀ k, f k = true → ρ' k = ρ k) (h : r.ok ρ S c) (hs : ∀ o, zw c = some o → S'[o]? = S[o]?) : r.ok ρ' S' c := by
 cases r with
 | cells T cs =>
  obtain ⟨o, v, rfl, h, h0⟩ := h
  refine ⟨o, v, rfl, ?_, h0⟩
  rw [hs o rfl, qai hr cs hf]
  exact h
 | tip sz T xs =>
  rcases h with (⟨h1, h2⟩ | ⟨t, rfl, ht, h0⟩) | h
  ·exact .inl (.inl ⟨h1, h2⟩)
  ·exact .inl (.inr ⟨t, rfl, (hs t rfl).trans ht, h0⟩)
  ·exact .inr h
 | own sz T xs => exact OwnS.of h hs
structure SatF (S : List AObj) (ρ : Nat → AV) (H : Nat → Option SR) : Prop where
 ok : ∀ k r, H k = some r → r.ok ρ S (ρ k)
 sep : ∀ k k' r r', k ≠ k' → H k = some r → H k' = some r' → ∀ o, zw (ρ k) = some o → zw (ρ k') ≠ some o
def lkS {α : Type} : List (Nat × α) → Nat → Option α
 | [], _ => none
 | (i, v) :: r, k => bif Nat.beq i k then some v else lkS r k
theorem qbo {α : Type} : ∀ (l r : List (Nat × α)) (k : Nat), lkS (l ++ r) k = match lkS l k with | some v => some v | none => lkS r k
 | [], _, _ => rfl
 | (i, v) :: l, r, k => by
  simp only [List.cons_append, lkS]
  cases Nat.beq i k
  ·simp only [cond_false]; exact qbo l r k
  ·rfl
def hpF (hp : List (Nat × Option SR)) (k : Nat) : Option SR := match lkS hp k with | some r => r | none => none
def chF (ch : List (Nat × Option SR)) (H : Nat → Option SR) (k : Nat) : Option SR := match lkS ch k with | some r => r | none => H k
theorem quz (ch hp : List (Nat × Option SR)) : hpF (ch ++ hp) = chF ch (hpF hp) := by
 funext k
 unfold hpF chF
 rw [qbo]
 cases lkS ch k <;> rfl
def memN (ks : List Nat) (k : Nat) : Bool := ks.any (Nat.beq k)
def resF (ks : List Nat) (H : Nat → Option SR) (k : Nat) : Option SR := bif memN ks k then H k else none
theorem vr {ks : List Nat} {H : Nat → Option SR} {k : Nat} {r : SR} (h : resF ks H k = some r) : memN ks k = true ∧ H k = some r := by
 unfold resF at h
 cases hm : memN ks k with
 | true => rw [hm] at h; exact ⟨rfl, h⟩
 | false => rw [hm] at h; simp at h
theorem SatF.res {S : List AObj} {ρ : Nat → AV} {H : Nat → Option SR} (h : SatF S ρ H) (ks : List Nat) : SatF S ρ (resF ks H) :=
 ⟨fun k r hk => h.ok k r (vr hk).2, fun k k' r r' hne h1 h2 => h.sep k k' r r' hne (vr h1).2 (vr h2).2⟩
structure Ef where
 val : SV
 ks : List Nat
 ch : List (Nat × Option SR)
 nx : Nat
def Ef.wf (e : Ef) (nx : Nat) : Bool := Nat.ble nx e.nx && e.val.all (fun k => Nat.blt k e.nx) && e.ch.all (fun p => Nat.blt p.1 e.nx && (memN e.ks p.1 || Nat.ble nx p.1) && match p.2 with | some r => r.all (fun k => Nat.blt k e.nx) | none => true)
def SlOk (ρ : Nat → AV) (t : Nat → AV) (sl : List (Nat × SV)) : Prop := ∀ d v, lkS sl d = some v → t d = v.ev ρ
structure qfb (ρ : Nat → AV) (S : List AObj) (nx : Nat) (H : Nat → Option SR) (e : Ef) (ρ' : Nat → AV) (S' : List AObj) : Prop where
 old : ∀ k, (k < nx ∨ e.nx ≤ k) → ρ' k = ρ k
 sat : SatF S' ρ' (chF e.ch (resF e.ks H))
 len : S.length ≤ S'.length
 fr : ∀ j, j < S.length → (∀ k r, resF e.ks H k = some r → zw (ρ k) ≠ some j) → S'[j]? = S[j]?
 loc : ∀ k r, chF e.ch (resF e.ks H) k = some r → ∀ o, zw (ρ' k) = some o → S.length ≤ o ∨ ∃ k' r', resF e.ks H k' = some r' ∧ zw (ρ k') = some o
def Loc (E : Env) (N : Nat) (ops : Array Oper) (o : Oper) (nx : Nat) (sl : List (Nat × SV)) (H : Nat → Option SR) (e : Ef) : Prop :=
 ∀ (df : List Nat) (rd : Option Nat) (K : AS → Prop) (rest : List Oper) (ρ : Nat → AV) (t : Nat → AV) (S : List AObj), SlOk ρ t sl → SatF S ρ (resF e.ks H) →
  (∀ ρ' S', qfb ρ S nx H e ρ' S' → AOps E rd N ops rest K (AS.put ⟨t, S', df⟩ o.dst (e.val.ev ρ'))) → AOps E rd N ops (o :: rest) K ⟨t, S, df⟩
structure Conf where
 sl : List (Nat × SV)
 hp : List (Nat × Option SR)
 nx : Nat
def Conf.app (C : Conf) (d : Option Tmp) (e : Ef) : Conf := ⟨match d with | some d => (d, e.val) :: C.sl | none => C.sl, e.ch ++ C.hp, e.nx⟩
structure SatR (S0 : List AObj) (F : Nat → Prop) (C : Conf) (ρ : Nat → AV) (t : Nat → AV) (S : List AObj) : Prop where
 sl : SlOk ρ t C.sl
 hp : SatF S ρ (hpF C.hp)
 own : ∀ k r, hpF C.hp k = some r → ∀ o, zw (ρ k) = some o → S0.length ≤ o ∨ F o
 low : ∀ j, j < S0.length → ¬ F j → S[j]? = S0[j]?
 len : S0.length ≤ S.length
 wsl : ∀ d v, lkS C.sl d = some v → v.all (fun k => Nat.blt k C.nx) = true
 whp : ∀ k r, hpF C.hp k = some r → k < C.nx ∧ r.all (fun k => Nat.blt k C.nx) = true
structure Bs where
 S0 : List AObj
 F : Nat → Prop
 ρ0 : Nat → AV
 n0 : Nat
 dz : Prop
structure Frm (B : Bs) (C : Conf) (ρ : Nat → AV) (df : List Nat) (S : List AObj) : Prop where
 dm : ∀ d ∈ df, S[d]? = some .dfr ∧ B.S0.length ≤ d
 nd : df.Nodup
 rig : ∀ k, k < B.n0 → ρ k = B.ρ0 k
 le : B.n0 ≤ C.nx
 dz : B.dz → df = []
def SatC (B : Bs) (C : Conf) (s : AS) : Prop := ∃ ρ, Frm B C ρ s.df s.st ∧ SatR B.S0 B.F C ρ s.t s.st
theorem SR.ok_dfr {ρ : Nat → AV} {S : List AObj} {c : AV} {r : SR} (h : r.ok ρ S c) {o : Nat} (ho : zw c = some o) : S[o]? ≠ some .dfr := by
 cases r with
 | cells T cs =>
  obtain ⟨o', v, rfl, h, _⟩ := h
  simp only [zw, Option.some.injEq] at ho
  subst ho
  rw [h]
  simp
 | tip sz T xs =>
  rcases h with (⟨_, rfl⟩ | ⟨t, rfl, ht, _⟩) | ⟨_, o', v, f, rfl⟩
  ·simp [zw] at ho
  ·simp only [zw, Option.some.injEq] at ho
   subst ho
   rw [ht]
   simp
  ·simp [zw] at ho
 | own sz T xs =>
  obtain ⟨_, _, _, _, h, _⟩ := OwnS.loc h ho
  rw [h]
  simp
theorem j7 {a b : Nat} (h : Nat.blt a b = true) : a < b := by simpa [Nat.blt_eq] using h
theorem yy {a b : Nat} (h : a < b) : Nat.blt a b = true := by simpa [Nat.blt_eq] using h
theorem qds {e : Ef} {nx : Nat} (h : e.wf nx = true) : nx ≤ e.nx ∧ e.val.all (fun k => Nat.blt k e.nx) = true ∧ ∀ p ∈ e.ch, p.1 < e.nx ∧ (memN e.ks p.1 = true ∨ nx ≤ p.1) ∧ ∀ r, p.2 = some r → r.all (fun k => Nat.blt k e.nx) = true := by
 simp only [Ef.wf, Bool.and_eq_true] at h
 refine ⟨Nat.le_of_ble_eq_true h.1.1, h.1.2, fun p hp => ?_⟩
 have := List.all_eq_true.1 h.2 p hp
 simp only [Bool.and_eq_true, Bool.or_eq_true] at this
 refine ⟨j7 this.1.1, this.1.2.imp_right Nat.le_of_ble_eq_true, fun r hr => ?_⟩
 have h3 := this.2
 rw [hr] at h3
 exact h3
theorem kj {α : Type} : ∀ {l : List (Nat × α)} {k : Nat} {v : α}, lkS l k = some v → (k, v) ∈ l
 | [], _, _, h => by simp [lkS] at h
 | (i, x) :: r, k, v, h => by
  unfold lkS at h
  cases hb : Nat.beq i k with
  | true =>
   rw [hb] at h
   simp only [cond_true, Option.some.injEq] at h
   have := Nat.eq_of_beq_eq_true hb
   subst this
   subst h
   simp
  | false =>
   rw [hb] at h
   exact List.mem_cons_of_mem _ (kj h)
theorem SatR.stepG {S0 : List AObj} {F : Nat → Prop} {C : Conf} {ρ ρ' t : Nat → AV} {S S' : List AObj} {e : Ef} {d : Option Tmp} {nx NX : Nat} (h : SatR S0 F C ρ t S) (hN : C.nx ≤ NX) (w2 : e.val.all (fun k => Nat.blt k NX) = true) (w3 : ∀ p ∈ e.ch, p.1 < NX ∧ ∀ r, p.2 = some r → r.all (fun k => Nat.blt k NX) = true)
  (a1 : ∀ d v, lkS C.sl d = some v → v.all (fun k => Nat.blt k nx || Nat.ble e.nx k) = true) (a2 : ∀ k r, hpF C.hp k = some r → (k < nx ∨ e.nx ≤ k) ∧ r.all (fun k => Nat.blt k nx || Nat.ble e.nx k) = true) (hp : qfb ρ S nx (hpF C.hp) e ρ' S') :
  SatR S0 F ⟨match d with | some d => (d, e.val) :: C.sl | none => C.sl, e.ch ++ C.hp, NX⟩ ρ' (AS.put ⟨t, S', []⟩ d (e.val.ev ρ')).t S' := by
 have hav : ∀ k, (Nat.blt k nx || Nat.ble e.nx k) = true → ρ' k = ρ k := fun k hk => by
  rcases Bool.or_eq_true_iff.1 hk with hk | hk
  ·exact hp.old k (.inl (j7 hk))
  ·exact hp.old k (.inr (Nat.le_of_ble_eq_true hk))
 have hev : ∀ d v, lkS C.sl d = some v → v.ev ρ' = v.ev ρ := fun d v hd => qan hav v (a1 d v hd)
 have hres : ∀ k r, hpF C.hp k = some r → memN e.ks k = true → resF e.ks (hpF C.hp) k = some r := fun k r h1 h2 => by unfold resF; rw [h2]; exact h1
 -- what lies at a name behind the operation
 have key : ∀ k r, hpF (e.ch ++ C.hp) k = some r → chF e.ch (resF e.ks (hpF C.hp)) k = some r ∨ (memN e.ks k = false ∧ lkS e.ch k = none ∧ hpF C.hp k = some r) := fun k r hk => by
  rw [quz] at hk
  unfold chF at hk ⊢
  cases hl : lkS e.ch k with
  | some x => rw [hl] at hk; exact .inl hk
  | none =>
   rw [hl] at hk
   simp only at hk ⊢
   cases hm : memN e.ks k with
   | true => exact .inl (hres k r hk hm)
   | false => exact .inr ⟨rfl, trivial, hk⟩
 have hst : ∀ k r, memN e.ks k = false → hpF C.hp k = some r → ∀ o, zw (ρ k) = some o → S'[o]? = S[o]? ∧ o < S.length := fun k r hm hk o ho => by
  have hlt := SR.ok_lt (h.hp.ok k r hk) ho
  refine ⟨hp.fr o hlt fun k' r' hk' => ?_, hlt⟩
  obtain ⟨hm', hk'⟩ := vr hk'
  have hne : k ≠ k' := fun e => by subst e; rw [hm] at hm'; simp at hm'
  exact h.hp.sep k k' r r' hne hk hk' o ho
 have hρ : ∀ k r, hpF C.hp k = some r → ρ' k = ρ k := fun k r hk => hp.old k (a2 k r hk).1
 have sepx : ∀ k k' r r', memN e.ks k = false → hpF C.hp k = some r → chF e.ch (resF e.ks (hpF C.hp)) k' = some r' → ∀ o, zw (ρ' k) = some o → zw (ρ' k') ≠ some o := fun k k' r r' hm hk hk' o ho ho' => by
  rw [hρ k r hk] at ho
  obtain ⟨_, hlt⟩ := hst k r hm hk o ho
  rcases hp.loc k' r' hk' o ho' with h1 | ⟨k2, r2, h2, h3⟩
  ·omega
  ·obtain ⟨hm2, hk2⟩ := vr h2
   have hne : k ≠ k2 := fun e => by subst e; rw [hm] at hm2; simp at hm2
   exact h.hp.sep k k2 r r2 hne hk hk2 o ho h3
 refine ⟨?_, ⟨?_, ?_⟩, ?_, ?_, Nat.le_trans h.len hp.len, ?_, ?_⟩
 ·cases d with
  | none => exact fun x v hx => (h.sl x v hx).trans (hev x v hx).symm
  | some d =>
   intro x v hx
   simp only [lkS] at hx
   by_cases hd : x = d
   ·subst hd
    have hb : Nat.beq x x = true := by simp
    rw [hb] at hx
    simp only [cond_true, Option.some.injEq] at hx
    subst hx
    exact xp _ _ _
   ·rw [jo (fun e => hd e.symm)] at hx
    simp only [cond_false] at hx
    exact (qa4 _ _ _ _ hd).trans ((h.sl x v hx).trans (hev x v hx).symm)
 ·intro k r hk
  rcases key k r hk with h1 | ⟨hm, _, h1⟩
  ·exact hp.sat.ok k r h1
  ·rw [hρ k r h1]
   exact SR.ok_of (a2 k r h1).2 hav (h.hp.ok k r h1) fun o ho => (hst k r hm h1 o ho).1
 ·intro k k' r r' hne hk hk' o ho
  rcases key k r hk with h1 | ⟨hm, _, h1⟩
  ·rcases key k' r' hk' with h2 | ⟨hm2, _, h2⟩
   ·exact hp.sat.sep k k' r r' hne h1 h2 o ho
   ·exact fun ho' => sepx k' k r' r hm2 h2 h1 o ho' ho
  ·rcases key k' r' hk' with h2 | ⟨hm2, _, h2⟩
   ·exact sepx k k' r r' hm h1 h2 o ho
   ·rw [hρ k r h1] at ho
    rw [hρ k' r' h2]
    exact h.hp.sep k k' r r' hne h1 h2 o ho
 ·intro k r hk o ho
  rcases key k r hk with h1 | ⟨hm, _, h1⟩
  ·rcases hp.loc k r h1 o ho with h2 | ⟨k', r', h2, h3⟩
   ·exact .inl (Nat.le_trans h.len h2)
   ·exact h.own k' r' (vr h2).2 o h3
  ·rw [hρ k r h1] at ho
   exact h.own k r h1 o ho
 ·intro j hj hF
  refine (hp.fr j (Nat.lt_of_lt_of_le hj h.len) fun k r hk ho => ?_).trans (h.low j hj hF)
  rcases h.own k r (vr hk).2 j ho with h1 | h1
  ·omega
  ·exact hF h1
 ·intro x v hx
  have hold : lkS C.sl x = some v → v.all (fun k => Nat.blt k NX) = true := fun hx => all_mono (fun k hk => yy (by have := j7 hk; omega)) v (h.wsl x v hx)
  cases d with
  | none => exact hold hx
  | some d =>
   simp only [lkS] at hx
   cases hb : Nat.beq d x with
   | true =>
    rw [hb] at hx
    simp only [cond_true, Option.some.injEq] at hx
    subst hx
    exact w2
   | false =>
    rw [hb] at hx
    exact hold hx
 ·intro k r hk
  have hold : hpF C.hp k = some r → k < NX ∧ r.all (fun k => Nat.blt k NX) = true := fun hk => ⟨by have := (h.whp k r hk).1; omega, SR.all_mono (fun k hk => yy (by have := j7 hk; omega)) r (h.whp k r hk).2⟩
  rcases key k r hk with h1 | ⟨_, _, h1⟩
  ·unfold chF at h1
   cases hl : lkS e.ch k with
   | some x =>
    rw [hl] at h1
    simp only at h1
    obtain ⟨h2, h3⟩ := w3 _ (kj hl)
    exact ⟨h2, h3 r h1⟩
   | none =>
    rw [hl] at h1
    exact hold (vr h1).2
  ·exact hold h1
theorem SatR.step {S0 : List AObj} {F : Nat → Prop} {C : Conf} {ρ ρ' t : Nat → AV} {S S' : List AObj} {e : Ef} {d : Option Tmp} (h : SatR S0 F C ρ t S) (hw : e.wf C.nx = true) (hp : qfb ρ S C.nx (hpF C.hp) e ρ' S') :
  SatR S0 F (C.app d e) ρ' (AS.put ⟨t, S', []⟩ d (e.val.ev ρ')).t S' := by
 obtain ⟨w1, w2, w3⟩ := qds hw
 exact h.stepG w1 w2 (fun p hp => ⟨(w3 p hp).1, (w3 p hp).2.2⟩) (fun d v hd => all_mono (fun k hk => by rw [hk]; rfl) v (h.wsl d v hd)) (fun k r hk => ⟨.inl (h.whp k r hk).1, SR.all_mono (fun k hk => by rw [hk]; rfl) r (h.whp k r hk).2⟩) hp
theorem Frm.nx {B : Bs} {C C' : Conf} {ρ : Nat → AV} {S : List AObj} {df : List Nat} (h : Frm B C ρ df S) (hn : B.n0 ≤ C'.nx) : Frm B C' ρ df S := ⟨h.dm, h.nd, h.rig, hn, h.dz⟩
theorem Frm.stepG {B : Bs} {C C' : Conf} {ρ ρ' : Nat → AV} {S S' : List AObj} {df : List Nat} {e : Ef} {nx : Nat} {H : Nat → Option SR} (h : Frm B C ρ df S) (hS : SatF S ρ H) (hp : qfb ρ S nx H e ρ' S') (hn : B.n0 ≤ nx) (hn' : B.n0 ≤ C'.nx) : Frm B C' ρ' df S' := by
 refine ⟨fun x hx => ?_, h.nd, fun k hk => ?_, hn', h.dz⟩
 ·have hm := h.dm x hx
  refine ⟨?_, hm.2⟩
  rw [hp.fr x (lt_of_getElem? hm.1) fun k r hk hl => ?_]
  ·exact hm.1
  ·exact SR.ok_dfr (hS.ok k r (vr hk).2) hl hm.1
 ·rw [hp.old k (.inl (Nat.lt_of_lt_of_le hk hn))]
  exact h.rig k hk
theorem Frm.step {B : Bs} {C : Conf} {ρ ρ' : Nat → AV} {S S' : List AObj} {df : List Nat} {e : Ef} {d : Option Tmp} (h : Frm B C ρ df S) (hS : SatF S ρ (hpF C.hp)) (hw : e.wf C.nx = true) (hp : qfb ρ S C.nx (hpF C.hp) e ρ' S') : Frm B (C.app d e) ρ' df S' :=
 h.stepG hS hp h.le (Nat.le_trans h.le (qds hw).1)
theorem SatR.dead {S0 : List AObj} {F : Nat → Prop} {C : Conf} {ρ t : Nat → AV} {S : List AObj} {d : Nat} (h : SatR S0 F C ρ t S) (hd : S[d]? = some .dfr) (hl : S0.length ≤ d) : SatR S0 F C ρ t (S.set d .dead) := by
 refine ⟨h.sl, ⟨fun k r hk => ?_, h.hp.sep⟩, h.own, fun j hj hF => ?_, by simpa using h.len, h.wsl, h.whp⟩
 ·refine SR.ok_of (f := fun _ => true) (SR.all_mono (fun _ _ => rfl) r (h.whp k r hk).2) (fun _ _ => rfl) (h.hp.ok k r hk) fun o ho => ?_
  have hne : d ≠ o := fun e => SR.ok_dfr (h.hp.ok k r hk) ho (e ▸ hd)
  rw [List.getElem?_set_ne hne]
 ·rw [List.getElem?_set_ne (by omega)]
  exact h.low j hj hF
theorem SR.ok_ct {ρ : Nat → AV} {S : List AObj} {c : AV} {r : SR} (h : r.ok ρ S c) {o : Nat} (ho : zw c = some o) : (∃ T cs v, S[o]? = some (.cells v T cs) ∧ ∃ T' cs', r = .cells T' cs') ∨ (∃ m sz T, S[o]? = some (.tip m sz T)) ∨ ∃ sz T xs, r = .own sz T xs := by
 cases r with
 | cells T cs =>
  obtain ⟨o', v, rfl, h, _⟩ := h
  simp only [zw, Option.some.injEq] at ho
  subst ho
  exact .inl ⟨_, _, _, h, _, _, rfl⟩
 | tip sz T xs =>
  rcases h with (⟨_, rfl⟩ | ⟨t, rfl, ht, _⟩) | ⟨_, o', v, f, rfl⟩
  ·simp [zw] at ho
  ·simp only [zw, Option.some.injEq] at ho
   subst ho
   exact .inr (.inl ⟨_, _, _, ht⟩)
  ·simp [zw] at ho
 | own sz T xs => exact .inr (.inr ⟨_, _, _, rfl⟩)
def qbc (hp : List (Nat × Option SR)) (ρ : Nat → AV) (o : Nat) : Prop := ∃ k r, hpF hp k = some r ∧ zw (ρ k) = some o
theorem SatR.rebase {S0 : List AObj} {F : Nat → Prop} {C : Conf} {ρ t : Nat → AV} {S S' : List AObj} (h : SatR S0 F C ρ t S) (hs : ∀ o, qbc C.hp ρ o → S'[o]? = S[o]?) : SatR S' (qbc C.hp ρ) C ρ t S' :=
 ⟨h.sl, ⟨fun k r hk => SR.ok_of (f := fun _ => true) (SR.all_mono (fun _ _ => rfl) r (h.whp k r hk).2) (fun _ _ => rfl) (h.hp.ok k r hk) fun o ho => hs o ⟨k, r, hk, ho⟩, h.hp.sep⟩,
  fun k r hk o ho => .inr ⟨k, r, hk, ho⟩, fun _ _ _ => rfl, Nat.le_refl _, h.wsl, h.whp⟩
end Go.Av
set_option linter.unusedVariables false
namespace Go.Av
open Go Go.RowKit
def Wk (x r : AV) : Prop := ∀ (G : Gh) (v : Value), Rel G x v → Rel G r v
theorem vb (x : AV) : Wk x x := fun _ _ h => h
theorem q51 {x y : AV} (h : x = y) : Wk x y := h ▸ vb x
theorem q1q (sz : Nat) (xs : List AV) (tip : Option Nat) : Wk (.sl sz xs tip) (.sl sz xs none) := fun _ _ h => qji h
theorem qvo {xs ys : List AV} (hl : xs.length = ys.length) (h : ∀ (i : Nat) (x y : AV), xs[i]? = some x → ys[i]? = some y → Wk x y) : Wk (.ag xs) (.ag ys) := fun G v hr => by
 cases hr with
 | ag _ vs hl' hr =>
  refine .ag _ vs (by omega) fun i y b hy hb => ?_
  have hi := lt_of_getElem? hy
  have hx : xs[i]? = some (xs[i]'(by omega)) := List.getElem?_eq_getElem (by omega)
  exact h i _ y hx hy G b (hr i _ b hx hb)
theorem q2k {xs ys : List AV} (hl : xs.length = ys.length) (h : ∀ (i : Nat) (x y : AV), xs[i]? = some x → ys[i]? = some y → Wk x y) : Wk (.tu xs) (.tu ys) := fun G v hr => by
 cases hr with
 | tu _ vs hl' hr =>
  refine .tu _ vs (by omega) fun i y b hy hb => ?_
  have hi := lt_of_getElem? hy
  have hx : xs[i]? = some (xs[i]'(by omega)) := List.getElem?_eq_getElem (by omega)
  exact h i _ y hx hy G b (hr i _ b hx hb)
theorem q4y {t : TypeId} {x y : AV} (h : Wk x y) : Wk (.ifc t x) (.ifc t y) := fun G v hr => by
 cases hr with
 | ifc _ _ z hz => exact .ifc t y z (h G z hz)
mutual
def frz (H : Nat → Option SR) : SV → Option AV
 | .a x => some x
 | .i n => some (Iv n)
 | .s l => some (Sv l)
 | .tt => some (Bv true)
 | .ff => some (Bv false)
 | .b c => some (Bv c)
 | .p q h => some (Bv (@decide q h))
 | .bx _ _ => none
 | .tp k => match H k with
  | some (.tip sz _ xs) => some (.sl sz xs none)
  | _ => none
 | .ag cs => match frzs H cs with
  | some l => some (.ag l)
  | none => none
 | .tu cs => match frzs H cs with
  | some l => some (.tu l)
  | none => none
 | .fn _ _ _ => none
 | .ifc t x => match frz H x with
  | some y => some (.ifc t y)
  | none => none
def frzs (H : Nat → Option SR) : List SV → Option (List AV)
 | [] => some []
 | x :: r => match frz H x, frzs H r with
  | some y, some l => some (y :: l)
  | _, _ => none
end
theorem qzv {x : AV} (h : x.one = true) : x.cells = [x] := by
 cases x <;> first | rfl | simp [AV.one] at h
theorem qov {b : Nat} {S : List AObj} {sz : Nat} {T : TypeId} {xs : List AV} {c : AV} (h : TipO b S sz T xs c) : Wk (tpAt c) (.sl sz xs none) ∧ c.one = true := by
 have h1 : c.one = true := by rcases h with (⟨_, rfl⟩ | ⟨t, rfl, _⟩) | ⟨_, o, v, f, rfl⟩ <;> rfl
 refine ⟨?_, h1⟩
 unfold tpAt
 rw [h1]
 exact qma h
mutual
theorem qju {S : List AObj} {ρ : Nat → AV} {H : Nat → Option SR} (hS : SatF S ρ H) : ∀ (v : SV) (x : AV), frz H v = some x → Wk (v.ev ρ) x
 | .a y, x, h => by simp only [frz, Option.some.injEq] at h; subst h; exact vb _
 | .i y, x, h => by simp only [frz, Option.some.injEq] at h; subst h; exact vb _
 | .s y, x, h => by simp only [frz, Option.some.injEq] at h; subst h; exact vb _
 | .tt, x, h => by simp only [frz, Option.some.injEq] at h; subst h; exact vb _
 | .ff, x, h => by simp only [frz, Option.some.injEq] at h; subst h; exact vb _
 | .b y, x, h => by simp only [frz, Option.some.injEq] at h; subst h; exact vb _
 | .p q d, x, h => by simp only [frz, Option.some.injEq] at h; subst h; exact vb _
 | .bx _ _, x, h => by simp [frz] at h
 | .tp k, x, h => by
  simp only [frz] at h
  split at h
  ·rename_i sz T xs hk
   simp only [Option.some.injEq] at h
   subst h
   exact (qov (hS.ok k _ hk)).1
  ·simp at h
 | .ag cs, x, h => by
  simp only [frz] at h
  split at h
  ·rename_i l hl
   simp only [Option.some.injEq] at h
   subst h
   obtain ⟨h1, h2⟩ := qhs hS cs l hl
   exact qvo h1 h2
  ·simp at h
 | .tu cs, x, h => by
  simp only [frz] at h
  split at h
  ·rename_i l hl
   simp only [Option.some.injEq] at h
   subst h
   obtain ⟨h1, h2⟩ := qhs hS cs l hl
   exact q2k h1 h2
  ·simp at h
 | .fn _ _ _, x, h => by simp [frz] at h
 | .ifc t y, x, h => by
  simp only [frz] at h
  split at h
  ·rename_i z hz
   simp only [Option.some.injEq] at h
   subst h
   exact q4y (qju hS y z hz)
  ·simp at h
theorem qhs {S : List AObj} {ρ : Nat → AV} {H : Nat → Option SR} (hS : SatF S ρ H) : ∀ (l : List SV) (ys : List AV), frzs H l = some ys → (SV.evs ρ l).length = ys.length ∧ ∀ (i : Nat) (x y : AV), (SV.evs ρ l)[i]? = some x → ys[i]? = some y → Wk x y
 | [], ys, h => by simp only [frzs, Option.some.injEq] at h; subst h; exact ⟨rfl, by simp [SV.evs]⟩
 | v :: r, ys, h => by
  simp only [frzs] at h
  split at h
  ·rename_i y l hy hl
   simp only [Option.some.injEq] at h
   subst h
   obtain ⟨h1, h2⟩ := qhs hS r l hl
   have h3 := qju hS v y hy
   refine ⟨by simp [SV.evs, h1], fun i a b ha hb => ?_⟩
   cases i with
   | zero => simp [SV.evs] at ha hb; subst ha; subst hb; exact h3
   | succ i => exact h2 i a b (by simpa [SV.evs] using ha) (by simpa using hb)
  ·simp at h
end
mutual
def SV.ks : SV → List Nat
 | .bx k _ => [k]
 | .tp k => [k]
 | .ag cs => SV.kss cs
 | .tu cs => SV.kss cs
 | .fn _ xs ys => SV.kss xs ++ SV.kss ys
 | .ifc _ x => SV.ks x
 | _ => []
def SV.kss : List SV → List Nat
 | [] => []
 | x :: r => SV.ks x ++ SV.kss r
end
mutual
def nf : AV → SV
 | .v (.int .i64 n) => .i n
 | .v (.string ⟨⟨l⟩⟩) => .s l
 | .v (.bool c) => .b c
 | .ag cs => .ag (nfs cs)
 | .tu cs => .tu (nfs cs)
 | x => .a x
def nfs : List AV → List SV
 | [] => []
 | x :: r => nf x :: nfs r
end
mutual
theorem qk3 (ρ : Nat → AV) : ∀ x : AV, (nf x).ev ρ = x
 | .v x => by
  unfold nf
  split <;> first | rfl | (rename_i h; cases h; done) | (rename_i h; cases h; rfl)
 | .ag cs => by simp only [nf, SV.ev, qf6 ρ cs]
 | .tu cs => by simp only [nf, SV.ev, qf6 ρ cs]
 | .ifc _ _ => rfl
 | .fn _ _ _ => rfl
 | .sl _ _ _ => rfl
 | .pp _ => rfl
 | .bx _ _ _ => rfl
 | .os _ _ _ _ _ => rfl
 | .mp _ => rfl
 | .yd _ => rfl
theorem qf6 (ρ : Nat → AV) : ∀ l : List AV, SV.evs ρ (nfs l) = l
 | [] => rfl
 | x :: r => by simp only [nfs, SV.evs, qk3 ρ x, qf6 ρ r]
end
mutual
theorem q5p {f : Nat → Bool} : ∀ x : AV, (nf x).all f = true
 | .v x => by unfold nf; split <;> first | rfl | (rename_i h; cases h)
 | .ag cs => by simp only [nf, SV.all]; exact qkt cs
 | .tu cs => by simp only [nf, SV.all]; exact qkt cs
 | .ifc _ _ => rfl
 | .fn _ _ _ => rfl
 | .sl _ _ _ => rfl
 | .pp _ => rfl
 | .bx _ _ _ => rfl
 | .os _ _ _ _ _ => rfl
 | .mp _ => rfl
 | .yd _ => rfl
theorem qkt {f : Nat → Bool} : ∀ l : List AV, SV.alls f (nfs l) = true
 | [] => rfl
 | x :: r => by simp only [nfs, SV.alls, q5p x, qkt r]; rfl
end
def cst : Value → SV
 | .bool true => .tt
 | .bool false => .ff
 | x => nf (.v x)
theorem q43 (ρ : Nat → AV) (x : Value) : (cst x).ev ρ = .v x := by
 unfold cst
 split
 ·rfl
 ·rfl
 ·exact qk3 ρ _
def SV.cells : SV → List SV
 | .ag cs => cs
 | .a x => nfs x.cells
 | v => [v]
theorem ql6 (ρ : Nat → AV) (v : SV) : SV.evs ρ v.cells = (v.ev ρ).cells := by
 cases v with
 | a x => exact qf6 ρ _
 | bx k off => simp only [SV.cells, SV.evs, SV.ev]; cases ρ k <;> rfl
 | tp k => simp only [SV.cells, SV.evs, SV.ev, tpAt]; cases h : (ρ k).one <;> first | rfl | (simp only [cond_true]; exact (qzv h).symm)
 | _ => rfl
def SV.okc : SV → Bool
 | .a x => x.okc
 | _ => true
theorem qs4 (ρ : Nat → AV) (v : SV) (h : v.okc = true) : (v.ev ρ).okc = true := by
 cases v with
 | a x => exact h
 | bx k off => simp only [SV.ev]; cases ρ k <;> rfl
 | tp k =>
  simp only [SV.ev, tpAt]
  cases h : (ρ k).one
  ·rfl
  ·simp only [cond_true]
   cases hk : ρ k with
   | v x => rw [hk] at h; cases x <;> first | rfl | simp [AV.one] at h
   | _ => rfl
 | _ => rfl
def SV.one : SV → Bool
 | .a x => x.one
 | .ag _ => false
 | .tu _ => false
 | _ => true
theorem q3r (ρ : Nat → AV) (v : SV) (h : v.one = true) : (v.ev ρ).one = true := by
 cases v with
 | a x => exact h
 | bx k off => simp only [SV.ev]; cases ρ k <;> rfl
 | tp k => simp only [SV.ev, tpAt]; cases h : (ρ k).one <;> first | rfl | exact h
 | ag _ => simp [SV.one] at h
 | tu _ => simp [SV.one] at h
 | _ => rfl
def ones (l : List SV) : Bool := l.all SV.one
theorem qvh (ρ : Nat → AV) : ∀ l : List SV, ones l = true → ∀ z ∈ SV.evs ρ l, z.one = true
 | [], _, z, hz => by simp [SV.evs] at hz
 | x :: r, h, z, hz => by
  simp only [ones, List.all_cons, Bool.and_eq_true] at h
  simp only [SV.evs, List.mem_cons] at hz
  rcases hz with rfl | hz
  ·exact q3r ρ x h.1
  ·exact qvh ρ r h.2 z hz
def sval (N : Nat) (sl : List (Nat × SV)) : Operand → Option SV
 | .tmp i => bif Nat.blt i N then lkS sl i else none
 | .const x => some (cst x)
 | .global g => some (.a (.v (.pointer (some ⟨g, 0, none⟩))))
 | .func f => some (.a (.fn (.func f) [] []))
theorem q6 {N : Nat} {sl : List (Nat × SV)} {ρ t : Nat → AV} {S : List AObj} {df : List Nat} (h : SlOk ρ t sl) {x : Operand} {v : SV} (hx : sval N sl x = some v) : qf N ⟨t, S, df⟩ x = v.ev ρ := by
 cases x with
 | tmp i =>
  simp only [sval] at hx
  simp only [qf]
  cases hb : Nat.blt i N with
  | true => rw [hb] at hx; exact h i v hx
  | false => rw [hb] at hx; simp at hx
 | const x => simp only [sval, Option.some.injEq] at hx; subst hx; exact (q43 ρ x).symm
 | global g => simp only [sval, Option.some.injEq] at hx; subst hx; rfl
 | func f => simp only [sval, Option.some.injEq] at hx; subst hx; rfl
def qip (N : Nat) (sl : List (Nat × SV)) : List Operand → Option (List SV)
 | [] => some []
 | x :: r => match sval N sl x, qip N sl r with
  | some v, some l => some (v :: l)
  | _, _ => none
theorem qi2 {N : Nat} {sl : List (Nat × SV)} {ρ t : Nat → AV} {S : List AObj} {df : List Nat} (h : SlOk ρ t sl) : ∀ {xs : List Operand} {l : List SV}, qip N sl xs = some l → xs.map (qf N ⟨t, S, df⟩) = SV.evs ρ l
 | [], l, hx => by simp only [qip, Option.some.injEq] at hx; subst hx; rfl
 | x :: r, l, hx => by
  simp only [qip] at hx
  split at hx
  ·rename_i v l' h1 h2
   simp only [Option.some.injEq] at hx
   subst hx
   simp only [List.map_cons, SV.evs, q6 h h1, qi2 h h2]
  ·simp at hx
section
variable {E : Env} {N : Nat} {ops : Array Oper} {o : Oper} {nx : Nat} {sl : List (Nat × SV)} {H : Nat → Option SR}
theorem x8 {v : SV} {ks : List Nat} (h : ∀ (df : List Nat) (rd : Option Nat) (K : AS → Prop) (rest : List Oper) (ρ t : Nat → AV) (S : List AObj), SlOk ρ t sl → SatF S ρ (resF ks H) → AOps E rd N ops rest K (AS.put ⟨t, S, df⟩ o.dst (v.ev ρ)) → AOps E rd N ops (o :: rest) K ⟨t, S, df⟩) :
  Loc E N ops o nx sl H ⟨v, ks, [], nx⟩ := fun df rd K rest ρ t S hs hS hk =>
 h df rd K rest ρ t S hs hS (hk ρ S ⟨fun _ _ => rfl, ⟨fun k r hk => hS.ok k r hk, fun k k' r r' hne h1 h2 => hS.sep k k' r r' hne h1 h2⟩, Nat.le_refl _, fun _ _ _ => rfl, fun k r hk o ho => .inr ⟨k, r, hk, ho⟩⟩)
theorem z1 {v : SV} (h : ∀ (df : List Nat) (rd : Option Nat) (K : AS → Prop) (rest : List Oper) (ρ t : Nat → AV) (S : List AObj), SlOk ρ t sl → AOps E rd N ops rest K (AS.put ⟨t, S, df⟩ o.dst (v.ev ρ)) → AOps E rd N ops (o :: rest) K ⟨t, S, df⟩) :
  Loc E N ops o nx sl H ⟨v, [], [], nx⟩ := x8 fun df rd K rest ρ t S hs _ hk => h df rd K rest ρ t S hs hk
def upd (ρ : Nat → AV) (n : Nat) (c : AV) : Nat → AV := fun k => bif Nat.beq k n then c else ρ k
theorem vo (ρ : Nat → AV) (n : Nat) (c : AV) : upd ρ n c n = c := by simp [upd]
theorem xv (ρ : Nat → AV) {n k : Nat} (c : AV) (h : k ≠ n) : upd ρ n c k = ρ k := by simp [upd, jo h]
theorem qk0 {v : SV} {r : SR} {ks : List Nat} (hks : ∀ k r, resF ks H k = some r → k ≠ nx ∧ r.all (fun k => !Nat.beq k nx) = true) (h : ∀ (df : List Nat) (rd : Option Nat) (K : AS → Prop) (rest : List Oper) (ρ t : Nat → AV) (S : List AObj), SlOk ρ t sl → SatF S ρ (resF ks H) →
   (∀ c l, r.ok (upd ρ nx c) (S ++ l) c → (∀ o, zw c = some o → S.length ≤ o) → AOps E rd N ops rest K (AS.put ⟨t, S ++ l, df⟩ o.dst (v.ev (upd ρ nx c)))) → AOps E rd N ops (o :: rest) K ⟨t, S, df⟩) :
  Loc E N ops o nx sl H ⟨v, ks, [(nx, some r)], nx + 1⟩ := fun df rd K rest ρ t S hs hS hk => by
 refine h df rd K rest ρ t S hs hS fun c l hc hl => hk _ _ ⟨fun k hk => xv _ _ (by simp only at hk; omega), ?_, by simp, fun j hj _ => List.getElem?_append_left hj, ?_⟩
 ·have key : ∀ k r', chF [(nx, some r)] (resF ks H) k = some r' → (k = nx ∧ r' = r) ∨ (k ≠ nx ∧ resF ks H k = some r') := fun k r' hk => by
   simp only [chF, lkS] at hk
   by_cases e : nx = k
   ·subst e
    have : Nat.beq nx nx = true := by simp
    rw [this] at hk
    simp only [cond_true, Option.some.injEq] at hk
    exact .inl ⟨rfl, hk.symm⟩
   ·rw [jo e] at hk
    exact .inr ⟨fun h => e h.symm, hk⟩
  refine ⟨fun k r' hk => ?_, fun k k' r1 r2 hne h1 h2 o ho => ?_⟩
  ·rcases key k r' hk with ⟨rfl, rfl⟩ | ⟨h1, h2⟩
   ·rw [vo]; exact hc
   ·rw [xv _ _ h1]
    have h3 := hS.ok k r' h2
    exact SR.ok_of (hks k r' h2).2 (fun k hk => xv _ _ (fun e => by subst e; simp at hk)) h3 fun o ho => List.getElem?_append_left (SR.ok_lt h3 ho)
  ·rcases key k r1 h1 with ⟨rfl, rfl⟩ | ⟨g1, g2⟩
   ·rcases key k' r2 h2 with ⟨rfl, rfl⟩ | ⟨f1, f2⟩
    ·exact absurd rfl hne
    ·rw [vo] at ho
     rw [xv _ _ f1]
     intro ho'
     have := SR.ok_lt (hS.ok k' r2 f2) ho'
     have := hl o ho
     omega
   ·rcases key k' r2 h2 with ⟨rfl, rfl⟩ | ⟨f1, f2⟩
    ·rw [xv _ _ g1] at ho
     rw [vo]
     intro ho'
     have := SR.ok_lt (hS.ok k r1 g2) ho
     have := hl o ho'
     omega
    ·rw [xv _ _ g1] at ho
     rw [xv _ _ f1]
     exact hS.sep k k' r1 r2 hne g2 f2 o ho
 ·intro k r' hk o ho
  simp only [chF, lkS] at hk
  by_cases e : nx = k
  ·subst e
   rw [vo] at ho
   exact .inl (hl o ho)
  ·rw [jo e] at hk
   rw [xv _ _ (fun h => e h.symm)] at ho
   exact .inr ⟨k, r', hk, ho⟩
end
end Go.Av
set_option linter.unusedVariables false
namespace Go.Av
open Go Go.RowKit
section
variable {E : Env} {N : Nat} {ops : Array Oper} {nx : Nat} {sl : List (Nat × SV)} {H : Nat → Option SR} {k : Ef → Prop} {d : Option Tmp} {T : TypeId} {p : String} {af : Array Edge}
def ko (nx : Nat) (v : SV) : Ef := ⟨v, [], [], nx⟩
def mvW (nx : Nat) (k : Ef → Prop) : Option SV → Prop
 | some v => k (ko nx v)
 | none => False
theorem q4f {x : Operand} (h : mvW nx k (sval N sl x)) : ∃ e, Loc E N ops ⟨d, .move x, T, p, af, none⟩ nx sl H e ∧ k e := by
 cases hv : sval N sl x with
 | none => rw [hv] at h; exact h.elim
 | some v => rw [hv] at h; exact ⟨_, z1 fun df rd K rest ρ t S hs hk => qh (by rw [q6 hs hv]; exact hk), h⟩
theorem qzx {x : Operand} (h : mvW nx k (sval N sl x)) : ∃ e, Loc E N ops ⟨d, .assign x, T, p, af, none⟩ nx sl H e ∧ k e := by
 cases hv : sval N sl x with
 | none => rw [hv] at h; exact h.elim
 | some v => rw [hv] at h; exact ⟨_, z1 fun df rd K rest ρ t S hs hk => qc (by rw [q6 hs hv]; exact hk), h⟩
def wayW (x y : Prop) : SV → Prop
 | .tt => x
 | .ff => y
 | .p q _ => (q → x) ∧ (¬ q → y)
 | .b c => (c = true → x) ∧ (c = false → y)
 | _ => False
theorem qxl {x y : Prop} {v : SV} (h : wayW x y v) : ∃ c : Bool, (∀ ρ, v.ev ρ = Bv c) ∧ ((c = true ∧ x) ∨ (c = false ∧ y)) := by
 cases v with
 | tt => exact ⟨true, fun _ => rfl, .inl ⟨rfl, h⟩⟩
 | ff => exact ⟨false, fun _ => rfl, .inr ⟨rfl, h⟩⟩
 | p q i =>
  by_cases hq : q
  ·exact ⟨_, fun _ => rfl, .inl ⟨by simp [hq], h.1 hq⟩⟩
  ·exact ⟨_, fun _ => rfl, .inr ⟨by simp [hq], h.2 hq⟩⟩
 | b c =>
  cases c with
  | true => exact ⟨true, fun _ => rfl, .inl ⟨rfl, h.1 rfl⟩⟩
  | false => exact ⟨false, fun _ => rfl, .inr ⟨rfl, h.2 rfl⟩⟩
 | _ => exact h.elim
def qwv (N : Nat) (sl : List (Nat × SV)) (nx : Nat) (k : Ef → Prop) (c x y : Operand) : Prop :=
 match sval N sl c with
 | some v => wayW (mvW nx k (sval N sl x)) (mvW nx k (sval N sl y)) v
 | none => False
theorem q3m {c x y : Operand} (h : qwv N sl nx k c x y) : ∃ e, Loc E N ops ⟨d, .pick c x y, T, p, af, none⟩ nx sl H e ∧ k e := by
 unfold qwv at h
 split at h
 ·rename_i v hv
  obtain ⟨b, hb, h⟩ := qxl h
  rcases h with ⟨hc, h⟩ | ⟨hc, h⟩
  ·cases hx : sval N sl x with
   | none => rw [hx] at h; exact h.elim
   | some u => rw [hx] at h; exact ⟨_, z1 fun df rd K rest ρ t S hs hk => qlb ((q6 hs hv).trans (hb ρ)) hc (by rw [q6 hs hx]; exact hk), h⟩
  ·cases hx : sval N sl y with
   | none => rw [hx] at h; exact h.elim
   | some u => rw [hx] at h; exact ⟨_, z1 fun df rd K rest ρ t S hs hk => qk9 ((q6 hs hv).trans (hb ρ)) hc (by rw [q6 hs hx]; exact hk), h⟩
 ·exact h.elim
def qra (P : Program) (nx : Nat) (k : Ef → Prop) (t : TypeId) : Prop :=
 match qe9 P t with
 | some cs => k ⟨.bx nx 0, [], [(nx, some (.cells t (nfs cs)))], nx + 1⟩
 | none => False
theorem qio (k : Nat) : resF [] H k = none := rfl
theorem qcp (k : Nat) : resF [k] H k = H k := by simp [resF, memN]
theorem q0t {t : TypeId} (h : qra E.P nx k t) : ∃ e, Loc E N ops ⟨d, .alloc t, T, p, af, none⟩ nx sl H e ∧ k e := by
 unfold qra at h
 split at h
 ·rename_i cs hz
  refine ⟨_, qk0 (fun k r hk => by rw [qio] at hk; simp at hk) fun df rd K rest ρ t' S hs _ hk => qg3 rfl hz ?_, h⟩
  have := hk (.bx S.length 0 0) [.cells 0 t cs] ⟨S.length, 0, rfl, by rw [qf6]; exact yg, rfl⟩ (fun o ho => by simp only [zw, Option.some.injEq] at ho; omega)
  simpa only [SV.ev, vo, bxAt] using this
 ·exact h.elim
theorem qwx {rd : Option Nat} {K : AS → Prop} {rest : List Oper} {s : AS} {t : TypeId} {x : Operand} {r : AV} {cs : List AV} (hx : Wk (qf N s x) r) (hok : r.okc = true) (hc : r.cells = cs)
  (h : AOps E rd N ops rest K (s.put d (.pp cs))) : AOps E rd N ops (⟨d, .box t x, T, p, af, none⟩ :: rest) K s := by
 refine zi rfl (zh nofun fun B0 w0 G a w _ hI => ?_)
 have hr := (hx _ _ (hI.eval x)).cells hok
 rw [hc] at hr
 obtain ⟨hle, hA⟩ := hI.agree.newPub t (a.eval x).cells (0, 0) (a.eval x).cells.toList (fun i y hy => by simpa using hy)
 have hrun : (execOp a.eval ⟨d, .box t x, T, p, af, none⟩).run E.P w = .ok (.value (.pointer (some ⟨w.heap.size, 0, none⟩))) (w.alloc (.cells (a.eval x).cells t)) := by
  generalize a.eval = ρ
  simp [execOp, Instr.box, newVar, newRow, newObj, Sem.run]
 refine ⟨_, _, _, .pp cs, s.st, hrun, hle, hA, .pp cs w.heap.size 0 (a.eval x).cells.toList (by simp [Gh.publish]) (by rw [hr.1]; simp) fun i x y hx hy => (hr.2 i x y hx (by simpa using hy)).mono hle, h⟩
def qn5 (bxs : List Nat) : Option Tmp → Bool
 | some d => memN bxs d
 | none => false
def boxW (bxs : List Nat) (H : Nat → Option SR) (nx : Nat) (k : Ef → Prop) (d : Option Tmp) (t : TypeId) : Option SV → Prop
 | some v => bif qn5 bxs d then (bif v.okc && v.all (fun k => !Nat.beq k nx) then k ⟨.bx nx 0, [], [(nx, some (.cells t v.cells))], nx + 1⟩ else False)
  else match frz (resF v.ks H) v with
   | some y => bif y.okc then k ⟨.a (.pp y.cells), v.ks, [], nx⟩ else False
   | none => False
 | none => False
theorem qyj {f : Nat → Bool} : ∀ v : SV, v.all f = true → SV.alls f v.cells = true
 | .ag cs, h => h
 | .a x, _ => qkt _
 | .i _, _ => rfl
 | .s _, _ => rfl
 | .tt, _ => rfl
 | .ff, _ => rfl
 | .b _, _ => rfl
 | .p _ _, _ => rfl
 | .bx k _, h => by simpa [SV.cells, SV.alls] using h
 | .tp k, h => by simpa [SV.cells, SV.alls] using h
 | .tu cs, h => by simpa [SV.cells, SV.alls] using h
 | .fn _ _ _, h => by simpa [SV.cells, SV.alls] using h
 | .ifc _ _, h => by simpa [SV.cells, SV.alls] using h
theorem q5m {bxs : List Nat} {t : TypeId} {x : Operand} (h : boxW bxs H nx k d t (sval N sl x)) : ∃ e, Loc E N ops ⟨d, .box t x, T, p, af, none⟩ nx sl H e ∧ k e := by
 cases hv : sval N sl x with
 | none => rw [hv] at h; exact h.elim
 | some v =>
  rw [hv] at h
  unfold boxW at h
  cases hb : qn5 bxs d with
  | true =>
   rw [hb] at h
   simp only [cond_true] at h
   cases hc : (v.okc && v.all (fun k => !Nat.beq k nx)) with
   | false => rw [hc] at h; exact h.elim
   | true =>
    rw [hc] at h
    simp only [Bool.and_eq_true] at hc
    refine ⟨_, qk0 (fun k r hk => by rw [qio] at hk; simp at hk) fun df rd K rest ρ t' S hs _ hk => qz9 rfl (q6 hs hv) (qs4 ρ v hc.1) (ql6 ρ v).symm ?_, h⟩
    have he : SV.evs (upd ρ nx (.bx S.length 0 0)) v.cells = SV.evs ρ v.cells := qai (f := fun k => !Nat.beq k nx) (fun k hk => xv _ _ (fun e => by subst e; simp at hk)) _ (qyj v hc.2)
    have := hk (.bx S.length 0 0) [.cells 0 t (SV.evs ρ v.cells)] ⟨S.length, 0, rfl, by rw [he]; exact yg, rfl⟩ (fun o ho => by simp only [zw, Option.some.injEq] at ho; omega)
    simpa only [SV.ev, vo, bxAt] using this
  | false =>
   rw [hb] at h
   simp only [cond_false] at h
   split at h
   ·rename_i y hy
    cases hc : y.okc with
    | false => rw [hc] at h; exact h.elim
    | true =>
     rw [hc] at h
     exact ⟨_, x8 (v := .a (.pp y.cells)) fun df rd K rest ρ t' S hs hS hk => qwx (by rw [q6 hs hv]; exact qju hS v y hy) hc rfl hk, h⟩
   ·exact h.elim
def spl {α : Type} (cs : List α) (off : Nat) (xs : List α) : List α := cs.take off ++ xs ++ cs.drop (off + xs.length)
theorem qzh (ρ : Nat → AV) (cs xs : List SV) (off : Nat) : SV.evs ρ (spl cs off xs) = vw (SV.evs ρ cs) off (SV.evs ρ xs) := by
 simp [spl, vw, vk]
def qnd (place : Nat → Option (Nat × Nat)) (cells : List SV) : List (Nat × SV) → Option (List SV)
 | [] => some cells
 | (i, x) :: rest =>
  match place i with
  | none => none
  | some (off, size) => bif x.okc && Nat.beq x.cells.length size && Nat.ble (off + size) cells.length then qnd place (spl cells off x.cells) rest else none
theorem qsp (ρ : Nat → AV) (place : Nat → Option (Nat × Nat)) : ∀ (ps : List (Nat × SV)) (cells cs : List SV), qnd place cells ps = some cs → qaz place (SV.evs ρ cells) (ps.map fun q => (q.1, q.2.ev ρ)) = some (SV.evs ρ cs)
 | [], cells, cs, h => by simp only [qnd, Option.some.injEq] at h; subst h; rfl
 | (i, x) :: rest, cells, cs, h => by
  simp only [qnd] at h
  simp only [List.map_cons, qaz]
  cases hp : place i with
  | none => rw [hp] at h; simp at h
  | some q =>
   obtain ⟨off, size⟩ := q
   rw [hp] at h
   simp only at h ⊢
   cases hb : (x.okc && Nat.beq x.cells.length size && Nat.ble (off + size) cells.length) with
   | false => rw [hb] at h; simp at h
   | true =>
    rw [hb] at h
    simp only [Bool.and_eq_true] at hb
    have hl : ∀ l : List SV, (SV.evs ρ l).length = l.length := fun l => by simp [vk]
    rw [qs4 ρ x hb.1.1, ← ql6, hl, hl, hb.1.2, hb.2, ← qzh]
    exact qsp ρ place rest _ cs h
def qk5 (N : Nat) (sl : List (Nat × SV)) : List (Nat × Operand) → Option (List (Nat × SV))
 | [] => some []
 | (i, x) :: r => match sval N sl x, qk5 N sl r with
  | some v, some l => some ((i, v) :: l)
  | _, _ => none
theorem qf0 {ρ t : Nat → AV} {S : List AObj} {df : List Nat} (h : SlOk ρ t sl) : ∀ {xs : List (Nat × Operand)} {l : List (Nat × SV)}, qk5 N sl xs = some l → (xs.map fun x => (x.1, qf N ⟨t, S, df⟩ x.2)) = l.map fun q => (q.1, q.2.ev ρ)
 | [], l, hx => by simp only [qk5, Option.some.injEq] at hx; subst hx; rfl
 | (i, x) :: r, l, hx => by
  simp only [qk5] at hx
  split at hx
  ·rename_i v l' h1 h2
   simp only [Option.some.injEq] at hx
   subst hx
   simp only [List.map_cons, q6 h h1, qf0 h h2]
  ·simp at hx
def qr3 (P : Program) (N : Nat) (sl : List (Nat × SV)) (nx : Nat) (k : Ef → Prop) (t : TypeId) (parts : Array (Nat × Operand)) : Prop :=
 match qe9 P t, qpa P t, qk5 N sl parts.toList with
 | some zs, some pl, some ps => (match qnd (pl[·]?) (nfs zs) ps with
  | some cs => k (ko nx (.ag cs))
  | none => False)
 | _, _, _ => False
theorem q10 {t : TypeId} {parts : Array (Nat × Operand)} (h : qr3 E.P N sl nx k t parts) : ∃ e, Loc E N ops ⟨d, .build t parts, T, p, af, none⟩ nx sl H e ∧ k e := by
 unfold qr3 at h
 split at h
 ·rename_i zs pl ps hz hp hs
  split at h
  ·rename_i cs hf
   refine ⟨_, z1 (v := .ag cs) fun df rd K rest ρ t' S ho hk => js hz hp (cs := SV.evs ρ cs) ?_ hk, h⟩
   have := qsp ρ _ _ _ _ hf
   rw [qf6] at this
   unfold j8
   rw [qf0 ho hs]
   exact this
  ·exact h.elim
 ·exact h.elim
def qin (sz : Nat) (agg : Bool) (off : Nat) (cs : List SV) : Option SV :=
 bif agg then (bif Nat.ble (off + sz) cs.length then some (.ag ((cs.drop off).take sz)) else none) else cs[off]?
theorem qmt (ρ : Nat → AV) {sz : Nat} {agg : Bool} {off : Nat} {cs : List SV} {v : SV} (h : qin sz agg off cs = some v) : jj sz agg off (SV.evs ρ cs) = some (v.ev ρ) := by
 unfold qin at h
 unfold jj
 cases agg with
 | true =>
  simp only [cond_true] at h ⊢
  rw [vk, List.length_map]
  cases hb : Nat.ble (off + sz) cs.length with
  | false => rw [hb] at h; simp at h
  | true =>
   rw [hb] at h
   simp only [cond_true, Option.some.injEq] at h ⊢
   subst h
   simp [SV.ev, vk]
 | false =>
  simp only [cond_false] at h ⊢
  rw [vk, List.getElem?_map, h]
  rfl
def optW (nx : Nat) (ks : List Nat) (k : Ef → Prop) : Option SV → Prop
 | some v => k ⟨v, ks, [], nx⟩
 | none => False
def qwo (P : Program) (H : Nat → Option SR) (nx : Nat) (k : Ef → Prop) (t : TypeId) : Option SV → Prop
 | some (.bx b off) => (match H b, tyOf P t with
  | some (.cells _ cs), some (sz, agg) => optW nx [b] k (qin sz agg off cs)
  | _, _ => False)
 | some (.a (.pp cs)) => (match tyOf P t with
  | some (sz, agg) => (match jj sz agg 0 cs with
   | some r => k (ko nx (nf r))
   | none => False)
  | none => False)
 | _ => False
theorem q3i {t : TypeId} {x : Operand} (h : qwo E.P H nx k t (sval N sl x)) : ∃ e, Loc E N ops ⟨d, .load t x, T, p, af, none⟩ nx sl H e ∧ k e := by
 unfold qwo at h
 split at h
 ·rename_i b off hv
  split at h
  ·rename_i T' cs sz agg hH ht
   cases hl : qin sz agg off cs with
   | none => rw [hl] at h; exact h.elim
   | some v =>
    rw [hl] at h
    refine ⟨_, x8 fun df rd K rest ρ t' S hs hS hk => ?_, h⟩
    obtain ⟨o, ver, h1, h2, h0⟩ := hS.ok b _ ((qcp b).trans hH)
    exact jv (o := o) (ver := ver) (off := off) ((q6 hs hv).trans (by simp only [SV.ev, h1, bxAt])) h2 ht (qmt ρ hl) hk
  ·exact h.elim
 ·rename_i cs hv
  split at h
  ·rename_i sz agg ht
   split at h
   ·rename_i r hr
    exact ⟨_, z1 fun df rd K rest ρ t' S hs hk => zt (q6 hs hv) ht hr (by rw [← qk3 ρ r]; exact hk), h⟩
   ·exact h.elim
  ·exact h.elim
 ·exact h.elim
def qsq (P : Program) (H : Nat → Option SR) (nx : Nat) (k : Ef → Prop) (t : TypeId) : Option SV → Option SV → Prop
 | some (.bx b off), some v => (match H b, tyOf P t with
  | some (.cells T cs), some (sz, agg) => bif v.okc && Nat.beq v.cells.length sz && ones v.cells && Nat.ble (off + sz) cs.length then k ⟨.a (.v undef), [b], [(b, some (.cells T (spl cs off v.cells)))], nx⟩ else False
  | _, _ => False)
 | _, _ => False
theorem q2c {t : TypeId} {x y : Operand} (h : qsq E.P H nx k t (sval N sl x) (sval N sl y)) : ∃ e, Loc E N ops ⟨d, .store t x y, T, p, af, none⟩ nx sl H e ∧ k e := by
 unfold qsq at h
 split at h
 ·rename_i b off v hv hy
  split at h
  ·rename_i T' cs sz agg hH ht
   cases hb : (v.okc && Nat.beq v.cells.length sz && ones v.cells && Nat.ble (off + sz) cs.length) with
   | false => rw [hb] at h; exact h.elim
   | true =>
    rw [hb] at h
    simp only [Bool.and_eq_true] at hb
    refine ⟨_, fun df rd K rest ρ t' S hs hS hk => ?_, h⟩
    obtain ⟨o, ver, h1, h2, h0⟩ := hS.ok b _ ((qcp b).trans hH)
    have hl : ∀ l : List SV, (SV.evs ρ l).length = l.length := fun l => by simp [vk]
    refine qiq (o := o) (ver := ver) (off := off) (xs := SV.evs ρ v.cells) ((q6 hs hv).trans (by simp only [SV.ev, h1, bxAt])) (q6 hs hy) h2 ht (qs4 ρ v hb.1.1.1) (ql6 ρ v).symm (by rw [hl]; exact Nat.eq_of_beq_eq_true hb.1.1.2) (qvh ρ _ hb.1.2) (by rw [hl]; exact Nat.le_of_ble_eq_true hb.2) ?_
    rw [← qzh]
    have key : ∀ k r, chF [(b, some (.cells T' (spl cs off v.cells)))] (resF [b] H) k = some r → k = b ∧ r = .cells T' (spl cs off v.cells) := fun k r hk => by
     simp only [chF, lkS] at hk
     by_cases e : b = k
     ·subst e
      have : Nat.beq b b = true := by simp
      rw [this] at hk
      simp only [cond_true, Option.some.injEq] at hk
      exact ⟨rfl, hk.symm⟩
     ·rw [jo e] at hk
      have := (vr hk).1
      simp only [memN, List.any_cons, List.any_nil, Bool.or_false] at this
      exact absurd (Nat.eq_of_beq_eq_true this).symm e
    refine hk ρ _ ⟨fun _ _ => rfl, ⟨fun k r hk => ?_, fun k k' r r' hne g1 g2 => ?_⟩, by simp, fun j hj hne => ?_, fun k r hk o' ho' => ?_⟩
    ·obtain ⟨rfl, rfl⟩ := key k r hk
     exact ⟨o, ver, h1, qfv h2, h0⟩
    ·exact absurd ((key k r g1).1.trans (key k' r' g2).1.symm) hne
    ·have := hne b _ ((qcp b).trans hH)
     rw [h1] at this
     exact List.getElem?_set_ne (fun e => this (by rw [e]; rfl))
    ·obtain ⟨rfl, rfl⟩ := key k r hk
     exact .inr ⟨k, _, (qcp k).trans hH, ho'⟩
  ·exact h.elim
 ·exact h.elim
def qq3 (nx : Nat) (k : Ef → Prop) : Option SV → Prop
 | some (.bx b off) => k (ko nx (.bx b off))
 | some (.a (.pp cs)) => k (ko nx (.a (.pp cs)))
 | _ => False
theorem q1n {x : Operand} (h : qq3 nx k (sval N sl x)) : ∃ e, Loc E N ops ⟨d, .nilCheck x, T, p, af, none⟩ nx sl H e ∧ k e := by
 unfold qq3 at h
 split at h
 ·rename_i b off hv
  exact ⟨_, z1 fun df rd K rest ρ t' S hs hk => ki (q6 hs hv) (by simp only [SV.ev]; cases ρ b <;> rfl) hk, h⟩
 ·rename_i cs hv
  exact ⟨_, z1 fun df rd K rest ρ t' S hs hk => ki (q6 hs hv) rfl hk, h⟩
 ·exact h.elim
end
end Go.Av
set_option linter.unusedVariables false
namespace Go.Av
open Go Go.RowKit
def qed : SV → Option (IntKind × Int)
 | .i n => some (.i64, n)
 | .a (.v (.int k n)) => some (k, n)
 | _ => none
theorem qbq {v : SV} {k : IntKind} {n : Int} (h : qed v = some (k, n)) (ρ : Nat → AV) : v.ev ρ = .v (.int k n) := by
 unfold qed at h
 split at h
 ·simp only [Option.some.injEq, Prod.mk.injEq] at h; obtain ⟨rfl, rfl⟩ := h; rfl
 ·simp only [Option.some.injEq, Prod.mk.injEq] at h; obtain ⟨rfl, rfl⟩ := h; rfl
 ·simp at h
def cmpW (op : BinOp) (m n : Int) (k : SV → Prop) : Prop :=
 match op with
 | .eql => k (.p (m = n) inferInstance)
 | .neq => k (.p (¬ m = n) inferInstance)
 | .lss => k (.p (m < n) inferInstance)
 | .leq => k (.p (m ≤ n) inferInstance)
 | .gtr => k (.p (n < m) inferInstance)
 | .geq => k (.p (n ≤ m) inferInstance)
 | _ => False
theorem q3d {op : BinOp} {m n : Int} {k : SV → Prop} (h : cmpW op m n k) : ∃ v b, cmpI op m n = some b ∧ (∀ ρ, SV.ev ρ v = Bv b) ∧ k v := by
 cases op <;> first | exact h.elim | exact ⟨_, _, rfl, fun _ => rfl, h⟩
def rngW (r : Int) (k : SV → Prop) : Prop := (-9223372036854775808 ≤ r ∧ r ≤ 9223372036854775807) ∧ k (.i r)
def arW (kd : IntKind) (r : Int) (k : SV → Prop) : Prop :=
 match kd with
 | .i64 => rngW r k
 | kd => k (.a (.v (.int kd (kd.wrap r))))
theorem qm7 {kd : IntKind} {r : Int} {k : SV → Prop} (h : arW kd r k) : ∃ v, (∀ ρ, SV.ev ρ v = .v (.int kd (kd.wrap r))) ∧ k v := by
 cases kd <;> first | exact ⟨.i r, fun ρ => by rw [zl h.1.1 h.1.2]; rfl, h.2⟩ | exact ⟨_, fun _ => rfl, h⟩
def remW (kd : IntKind) (r : Int) (k : SV → Prop) : Prop :=
 match kd with
 | .i64 => k (.i r)
 | kd => k (.a (.v (.int kd r)))
theorem q4a {kd : IntKind} {r : Int} {k : SV → Prop} (h : remW kd r k) : ∃ v, (∀ ρ, SV.ev ρ v = .v (.int kd r)) ∧ k v := by
 cases kd <;> exact ⟨_, fun _ => rfl, h⟩
def intW (op : BinOp) (kd : IntKind) (m n : Int) (k : SV → Prop) : Prop :=
 match op with
 | .add => arW kd (m + n) k
 | .sub => arW kd (m - n) k
 | .mul => arW kd (m * n) k
 | .quo => n ≠ 0 ∧ arW kd (m.tdiv n) k
 | .rem => n ≠ 0 ∧ remW kd (m.tmod n) k
 | op => cmpW op m n k
def strW (op : BinOp) (m n : List UInt8) (k : SV → Prop) : Prop :=
 match op with
 | .add => m.length + n.length < 9223372036854775808 ∧ k (.s (m ++ n))
 | .eql => k (.p (m = n) inferInstance)
 | .neq => k (.p (¬ m = n) inferInstance)
 | op => match cmpS op m n with
  | some b => k (.b b)
  | none => False
def qog : SV → Option Bool
 | .tt => some true
 | .ff => some false
 | .b c => some c
 | .p q h => some (@decide q h)
 | _ => none
theorem qgf {v : SV} {b : Bool} (h : qog v = some b) (ρ : Nat → AV) : v.ev ρ = Bv b := by
 unfold qog at h
 split at h <;> first | (simp only [Option.some.injEq] at h; subst h; rfl) | simp at h
def nilQ : SV → Option Bool
 | .ifc _ _ => some false
 | .a (.ifc _ _) => some false
 | .a (.v .nilIface) => some true
 | _ => none
def nilP : SV → Option Bool
 | .bx _ _ => some false
 | .a (.pp _) => some false
 | .a (.bx _ _ _) => some false
 | .a (.v (.pointer none)) => some true
 | _ => none
def tf : Bool → SV
 | true => .tt
 | false => .ff
def eqW (op : BinOp) (b : Bool) (k : SV → Prop) : Prop :=
 match op with
 | .eql => k (tf b)
 | .neq => k (tf (!b))
 | _ => False
def qs6 : Option TypeDesc → Bool
 | some (.interface _) => true
 | _ => false
def qsn : Option TypeDesc → Bool
 | some (.pointer _) => true
 | _ => false
def binW (P : Program) (op : BinOp) (t : TypeId) (y : Operand) (k : SV → Prop) (vx vy : SV) : Prop :=
 match y with
 | .const .nilIface => (match nilQ vx with
  | some b => bif qs6 (P.underlying t) then eqW op b k else False
  | none => False)
 | .const (.pointer none) => (match nilP vx with
  | some b => bif qsn (P.underlying t) then eqW op b k else False
  | none => False)
 | _ => match qed vx, qed vy with
  | some (kd, m), some (kd', n) => bif decide (kd = kd') then intW op kd m n k else False
  | _, _ => match vx, vy with
   | .s m, .s n => strW op m n k
   | vx, vy => match qog vx, qog vy, P.underlying t, op with
    | some a, some b, some .bool, .eql => k (.b (a == b))
    | some a, some b, some .bool, .neq => k (.b (!(a == b)))
    | _, _, _, _ => False
section
variable {E : Env} {N : Nat} {ops : Array Oper} {nx : Nat} {sl : List (Nat × SV)} {H : Nat → Option SR} {k : Ef → Prop} {d : Option Tmp} {T : TypeId} {p : String} {af : Array Edge}
def Rule (E : Env) (N : Nat) (ops : Array Oper) (o : Oper) (sl : List (Nat × SV)) (v : SV) : Prop := ∀ (df : List Nat) (rd : Option Nat) (K : AS → Prop) (rest : List Oper) (ρ t : Nat → AV) (S : List AObj), SlOk ρ t sl → AOps E rd N ops rest K (AS.put ⟨t, S, df⟩ o.dst (v.ev ρ)) → AOps E rd N ops (o :: rest) K ⟨t, S, df⟩
theorem q5o {op : BinOp} {t t' : TypeId} {x y : Operand} {vx vy : SV} {kd : IntKind} {m n : Int} {q : SV → Prop} (hx : sval N sl x = some vx) (hy : sval N sl y = some vy) (h1 : qed vx = some (kd, m)) (h2 : qed vy = some (kd, n)) (h : intW op kd m n q) :
  ∃ v, Rule E N ops ⟨d, .binOp op t x y t', T, p, af, none⟩ sl v ∧ q v := by
 have e1 : ∀ {ρ t : Nat → AV} {S : List AObj} {df : List Nat}, SlOk ρ t sl → qf N ⟨t, S, df⟩ x = .v (.int kd m) := fun hs => (q6 hs hx).trans (qbq h1 _)
 have e2 : ∀ {ρ t : Nat → AV} {S : List AObj} {df : List Nat}, SlOk ρ t sl → qf N ⟨t, S, df⟩ y = .v (.int kd n) := fun hs => (q6 hs hy).trans (qbq h2 _)
 have cmp : cmpW op m n q → ∃ v, Rule E N ops ⟨d, .binOp op t x y t', T, p, af, none⟩ sl v ∧ q v := fun h => by
  obtain ⟨v, b, hb, hv, hq⟩ := q3d h
  exact ⟨v, fun df rd K rest ρ t S hs hk => qo (e1 hs) (e2 hs) hb (by rw [← hv ρ]; exact hk), hq⟩
 cases op with
 | add =>
  obtain ⟨v, hv, hq⟩ := qm7 h
  exact ⟨v, fun df rd K rest ρ t S hs hk => jh (e1 hs) (e2 hs) rfl (by rw [← hv ρ]; exact hk), hq⟩
 | sub =>
  obtain ⟨v, hv, hq⟩ := qm7 h
  exact ⟨v, fun df rd K rest ρ t S hs hk => y7 (e1 hs) (e2 hs) rfl (by rw [← hv ρ]; exact hk), hq⟩
 | mul =>
  obtain ⟨v, hv, hq⟩ := qm7 h
  exact ⟨v, fun df rd K rest ρ t S hs hk => qrp (e1 hs) (e2 hs) rfl (by rw [← hv ρ]; exact hk), hq⟩
 | quo =>
  obtain ⟨hn, h⟩ := h
  obtain ⟨v, hv, hq⟩ := qm7 h
  exact ⟨v, fun df rd K rest ρ t S hs hk => q0o (e1 hs) (e2 hs) hn rfl (by rw [← hv ρ]; exact hk), hq⟩
 | rem =>
  obtain ⟨hn, h⟩ := h
  obtain ⟨v, hv, hq⟩ := q4a h
  exact ⟨v, fun df rd K rest ρ t S hs hk => q11 (e1 hs) (e2 hs) hn (by rw [← hv ρ]; exact hk), hq⟩
 | _ => exact cmp h
theorem q4v {op : BinOp} {t t' : TypeId} {x y : Operand} {m n : List UInt8} {q : SV → Prop} (hx : sval N sl x = some (.s m)) (hy : sval N sl y = some (.s n)) (h : strW op m n q) : ∃ v, Rule E N ops ⟨d, .binOp op t x y t', T, p, af, none⟩ sl v ∧ q v := by
 have cmp : (match cmpS op m n with | some b => q (.b b) | none => False) → ∃ v, Rule E N ops ⟨d, .binOp op t x y t', T, p, af, none⟩ sl v ∧ q v := fun h => by
  cases hc : cmpS op m n with
  | none => rw [hc] at h; exact h.elim
  | some b => rw [hc] at h; exact ⟨.b b, fun df rd K rest ρ t S hs hk => z4 (q6 hs hx) (q6 hs hy) hc hk, h⟩
 cases op with
 | add => exact ⟨.s (m ++ n), fun df rd K rest ρ t S hs hk => ji (q6 hs hx) (q6 hs hy) h.1 hk, h.2⟩
 | eql => exact ⟨.p (m = n) inferInstance, fun df rd K rest ρ t S hs hk => z4 (b := decide (m = n)) (q6 hs hx) (q6 hs hy) rfl hk, h⟩
 | neq => exact ⟨.p (¬ m = n) inferInstance, fun df rd K rest ρ t S hs hk => z4 (b := decide (¬ m = n)) (q6 hs hx) (q6 hs hy) rfl hk, h⟩
 | _ => exact cmp h
theorem q2x (ρ : Nat → AV) (b : Bool) : (tf b).ev ρ = Bv b := by cases b <;> rfl
theorem q42 {op : BinOp} {t t' : TypeId} {x y : Operand} {vx vy : SV} {q : SV → Prop} (hx : sval N sl x = some vx) (hy : sval N sl y = some vy) (h : binW E.P op t y q vx vy) : ∃ v, Rule E N ops ⟨d, .binOp op t x y t', T, p, af, none⟩ sl v ∧ q v := by
 unfold binW at h
 split at h
 ·split at h
  ·rename_i b hb
   cases hu : qs6 (E.P.underlying t) with
   | false => rw [hu] at h; exact h.elim
   | true =>
    rw [hu] at h
    have hu' : ∃ ms, E.P.underlying t = some (.interface ms) := by
     unfold qs6 at hu
     split at hu
     ·rename_i ms he; exact ⟨ms, he⟩
     ·simp at hu
    obtain ⟨ms, hu'⟩ := hu'
    simp only [cond_true] at h
    have hcase : (∃ (u : TypeId) (z : (Nat → AV) → AV), ∀ ρ, vx.ev ρ = .ifc u (z ρ)) ∧ b = false ∨ (∀ ρ, vx.ev ρ = .v .nilIface) ∧ b = true := by
     unfold nilQ at hb
     split at hb <;> simp only [Option.some.injEq, reduceCtorEq] at hb <;> subst hb
     ·rename_i u z; exact .inl ⟨⟨u, fun ρ => z.ev ρ, fun _ => rfl⟩, rfl⟩
     ·rename_i u z; exact .inl ⟨⟨u, fun _ => z, fun _ => rfl⟩, rfl⟩
     ·exact .inr ⟨fun _ => rfl, rfl⟩
    rcases hcase with ⟨⟨u, z, hz⟩, rfl⟩ | ⟨hz, rfl⟩
    ·cases op with
     | eql => exact ⟨.ff, fun df rd K rest ρ t S hs hk => xt ((q6 hs hx).trans (hz ρ)) hu' hk, h⟩
     | neq => exact ⟨.tt, fun df rd K rest ρ t S hs hk => jc ((q6 hs hx).trans (hz ρ)) hu' hk, h⟩
     | _ => exact h.elim
    ·cases op with
     | eql => exact ⟨.tt, fun df rd K rest ρ t S hs hk => xn ((q6 hs hx).trans (hz ρ)) hu' hk, h⟩
     | neq => exact ⟨.ff, fun df rd K rest ρ t S hs hk => z6 ((q6 hs hx).trans (hz ρ)) hu' hk, h⟩
     | _ => exact h.elim
  ·exact h.elim
 ·split at h
  ·rename_i b hb
   cases hu : qsn (E.P.underlying t) with
   | false => rw [hu] at h; exact h.elim
   | true =>
    rw [hu] at h
    have hu' : ∃ ms, E.P.underlying t = some (.pointer ms) := by
     unfold qsn at hu
     split at hu
     ·rename_i ms he; exact ⟨ms, he⟩
     ·simp at hu
    obtain ⟨ms, hu'⟩ := hu'
    simp only [cond_true] at h
    have hcase : ∀ ρ, qaf (vx.ev ρ) = some b := fun ρ => by
     unfold nilP at hb
     split at hb <;> simp only [Option.some.injEq, reduceCtorEq] at hb <;> subst hb
     ·rename_i kk off; simp only [SV.ev]; cases ρ kk <;> rfl
     ·rfl
     ·rfl
     ·rfl
    cases op with
    | eql => exact ⟨tf b, fun df rd K rest ρ t S hs hk => wt (b := b) rfl (by rw [q6 hs hx]; exact hcase ρ) hu' (by rw [← q2x ρ]; exact hk), h⟩
    | neq => exact ⟨tf (!b), fun df rd K rest ρ t S hs hk => yh (b := b) rfl (by rw [q6 hs hx]; exact hcase ρ) hu' (by rw [← q2x ρ]; exact hk), h⟩
    | _ => exact h.elim
  ·exact h.elim
 ·split at h
  ·rename_i kd m kd' n h1 h2
   cases hd : decide (kd = kd') with
   | false => rw [hd] at h; exact h.elim
   | true =>
    rw [hd] at h
    have : kd = kd' := of_decide_eq_true hd
    subst this
    exact q5o hx hy h1 h2 h
  ·split at h
   ·exact q4v hx hy h
   ·split at h
    ·rename_i a b h1 h2 h3
     exact ⟨.b (a == b), fun df rd K rest ρ t S hs hk => q1v ((q6 hs hx).trans (qgf h1 ρ)) ((q6 hs hy).trans (qgf h2 ρ)) h3 hk, h⟩
    ·rename_i a b h1 h2 h3
     exact ⟨.b (!(a == b)), fun df rd K rest ρ t S hs hk => q1l ((q6 hs hx).trans (qgf h1 ρ)) ((q6 hs hy).trans (qgf h2 ρ)) h3 hk, h⟩
    ·exact h.elim
def notW (nx : Nat) (k : Ef → Prop) : Option SV → Prop
 | some .tt => k (ko nx .ff)
 | some .ff => k (ko nx .tt)
 | some (.b c) => k (ko nx (.b (!c)))
 | some (.p q h) => k (ko nx (.p (¬ q) (@instDecidableNot q h)))
 | _ => False
theorem q4o {t : TypeId} {x : Operand} (h : notW nx k (sval N sl x)) : ∃ e, Loc E N ops ⟨d, .unOp .not t x, T, p, af, none⟩ nx sl H e ∧ k e := by
 unfold notW at h
 split at h
 ·rename_i hv; exact ⟨_, z1 (v := .ff) fun df rd K rest ρ t' S hs hk => z7 (m := true) (q6 hs hv) hk, h⟩
 ·rename_i hv; exact ⟨_, z1 (v := .tt) fun df rd K rest ρ t' S hs hk => z7 (m := false) (q6 hs hv) hk, h⟩
 ·rename_i c hv; exact ⟨_, z1 (v := .b (!c)) fun df rd K rest ρ t' S hs hk => z7 (q6 hs hv) hk, h⟩
 ·rename_i q i hv; exact ⟨_, z1 (v := .p (¬ q) (@instDecidableNot q i)) fun df rd K rest ρ t' S hs hk => qbz (q := q) (q6 hs hv) hk, h⟩
 ·exact h.elim
def qwi (P : Program) (t t' : TypeId) (nx : Nat) (k : Ef → Prop) : Option SV → Prop
 | some v => (match qed v, P.underlying t, P.underlying t' with
  | some (_, m), some _, some (.int kd) => (match kd with
   | .i64 => (-9223372036854775808 ≤ m ∧ m ≤ 9223372036854775807) ∧ k (ko nx (.i m))
   | kd => k (ko nx (.a (.v (.int kd (kd.wrap m))))))
  | _, _, _ => False)
 | none => False
theorem q34 {t t' : TypeId} {x : Operand} (h : qwi E.P t t' nx k (sval N sl x)) : ∃ e, Loc E N ops ⟨d, .convert t t' x, T, p, af, none⟩ nx sl H e ∧ k e := by
 unfold qwi at h
 split at h
 ·rename_i v hv
  split at h
  ·rename_i kk m e kd h1 h2 h3
   have : ∃ v, (∀ ρ, SV.ev ρ v = .v (.int kd (kd.wrap m))) ∧ k (ko nx v) := by
    cases kd <;> first | exact ⟨.i m, fun ρ => by rw [zl h.1.1 h.1.2]; rfl, h.2⟩ | exact ⟨_, fun _ => rfl, h⟩
   obtain ⟨u, hu, hk⟩ := this
   exact ⟨_, z1 fun df rd K rest ρ t' S hs hk => qnb ((q6 hs hv).trans (qbq h1 ρ)) h2 h3 rfl (by rw [← hu ρ]; exact hk), hk⟩
  ·exact h.elim
 ·exact h.elim
def qsl (P : Program) (t : TypeId) (nx : Nat) (k : Ef → Prop) : Option SV → Prop
 | some v => (match P.underlying t with
  | some dsc => bif qkx dsc then False else k (ko nx (.ifc t v))
  | none => False)
 | none => False
theorem q0j {t : TypeId} {x : Operand} (h : qsl E.P t nx k (sval N sl x)) : ∃ e, Loc E N ops ⟨d, .makeInterface t x, T, p, af, none⟩ nx sl H e ∧ k e := by
 unfold qsl at h
 split at h
 ·rename_i v hv
  split at h
  ·rename_i dsc hd
   cases hi : qkx dsc with
   | true => rw [hi] at h; exact h.elim
   | false => rw [hi] at h; exact ⟨_, z1 fun df rd K rest ρ t' S hs hk => zg hd hi (by rw [q6 hs hv]; exact hk), h⟩
  ·exact h.elim
 ·exact h.elim
def qwb (N : Nat) (sl : List (Nat × SV)) (fn : Fn) (xs ys : Array Operand) (nx : Nat) (k : Ef → Prop) : Prop :=
 match qip N sl xs.toList, qip N sl ys.toList with
 | some a, some b => k (ko nx (.fn fn a b))
 | _, _ => False
theorem q3u {fn : Fn} {xs ys : Array Operand} (h : qwb N sl fn xs ys nx k) : ∃ e, Loc E N ops ⟨d, .makeFunc fn xs ys, T, p, af, none⟩ nx sl H e ∧ k e := by
 unfold qwb at h
 split at h
 ·rename_i a b ha hb
  exact ⟨_, z1 fun df rd K rest ρ t' S hs hk => xo (by rw [qi2 hs ha, qi2 hs hb]; exact hk), h⟩
 ·exact h.elim
def qib (P : Program) (t : TypeId) (f : Nat) (nx : Nat) (k : Ef → Prop) : Option SV → Prop
 | some (.bx b off) => (match yj P t f with
  | some (o, sz, _) => bif Nat.beq sz 0 then False else k (ko nx (.bx b (off + o)))
  | none => False)
 | some (.a (.pp cs)) => (match yj P t f with
  | some (o, sz, _) => bif !Nat.beq sz 0 && Nat.ble o cs.length then k (ko nx (.a (.pp (cs.drop o)))) else False
  | none => False)
 | _ => False
theorem q1s (x : AV) (off o : Nat) : ∃ a b, bxAt x off = .bx a b off ∧ bxAt x (off + o) = .bx a b (off + o) := by
 cases x <;> exact ⟨_, _, rfl, rfl⟩
theorem qse {t : TypeId} {f : Nat} {x : Operand} (h : qib E.P t f nx k (sval N sl x)) : ∃ e, Loc E N ops ⟨d, .fieldAddr t x f, T, p, af, none⟩ nx sl H e ∧ k e := by
 unfold qib at h
 split at h
 ·rename_i b off hv
  split at h
  ·rename_i o sz agg hf
   cases hz : Nat.beq sz 0 with
   | true => rw [hz] at h; exact h.elim
   | false =>
    rw [hz] at h
    refine ⟨_, z1 fun df rd K rest ρ t' S hs hk => ?_, h⟩
    obtain ⟨a1, b1, g1, g2⟩ := q1s (ρ b) off o
    exact q9 ((q6 hs hv).trans g1) hf hz (by rw [← g2]; exact hk)
  ·exact h.elim
 ·rename_i cs hv
  split at h
  ·rename_i o sz agg hf
   cases hz : (!Nat.beq sz 0 && Nat.ble o cs.length) with
   | false => rw [hz] at h; exact h.elim
   | true =>
    rw [hz] at h
    simp only [Bool.and_eq_true, Bool.not_eq_true'] at hz
    exact ⟨_, z1 (v := .a (.pp (cs.drop o))) fun df rd K rest ρ t' S hs hk => vn (q6 hs hv) hf hz.1 hz.2 hk, h⟩
  ·exact h.elim
 ·exact h.elim
def qr4 (P : Program) (t : TypeId) (f : Nat) (nx : Nat) (k : Ef → Prop) : Option SV → Prop
 | some (.ag cs) => (match yj P t f with
  | some (o, sz, agg) => optW nx [] k (qin sz agg o cs)
  | none => False)
 | some (.a (.ag cs)) => (match yj P t f with
  | some (o, sz, agg) => (match jj sz agg o cs with
   | some r => k (ko nx (nf r))
   | none => False)
  | none => False)
 | _ => False
theorem q13 {t : TypeId} {f : Nat} {x : Operand} (h : qr4 E.P t f nx k (sval N sl x)) : ∃ e, Loc E N ops ⟨d, .field t x f, T, p, af, none⟩ nx sl H e ∧ k e := by
 unfold qr4 at h
 split at h
 ·rename_i cs hv
  split at h
  ·rename_i o sz agg hf
   cases hl : qin sz agg o cs with
   | none => rw [hl] at h; exact h.elim
   | some v =>
    rw [hl] at h
    exact ⟨_, z1 fun df rd K rest ρ t' S hs hk => qar (q6 hs hv) hf (qmt ρ hl) hk, h⟩
  ·exact h.elim
 ·rename_i cs hv
  split at h
  ·rename_i o sz agg hf
   split at h
   ·rename_i r hr
    exact ⟨_, z1 fun df rd K rest ρ t' S hs hk => qar (q6 hs hv) hf hr (by rw [← qk3 ρ r]; exact hk), h⟩
   ·exact h.elim
  ·exact h.elim
 ·exact h.elim
def ql3 (i : Nat) (nx : Nat) (k : Ef → Prop) : Option SV → Prop
 | some (.tu vs) => optW nx [] k vs[i]?
 | some (.a (.tu vs)) => (match vs[i]? with
  | some r => k (ko nx (nf r))
  | none => False)
 | _ => False
theorem qw4 {i : Nat} {x : Operand} (h : ql3 i nx k (sval N sl x)) : ∃ e, Loc E N ops ⟨d, .extract x i, T, p, af, none⟩ nx sl H e ∧ k e := by
 unfold ql3 at h
 split at h
 ·rename_i vs hv
  cases hl : vs[i]? with
  | none => rw [hl] at h; exact h.elim
  | some v =>
   rw [hl] at h
   exact ⟨_, z1 fun df rd K rest ρ t' S hs hk => zb (xs := SV.evs ρ vs) (q6 hs hv) (by rw [vk, List.getElem?_map, hl]; rfl) hk, h⟩
 ·rename_i vs hv
  split at h
  ·rename_i r hr
   exact ⟨_, z1 fun df rd K rest ρ t' S hs hk => zb (q6 hs hv) hr (by rw [← qk3 ρ r]; exact hk), h⟩
  ·exact h.elim
 ·exact h.elim
def qh5 (H : Nat → Option SR) (sz : Nat) : SV → Option (List AV × List Nat)
 | .a (.sl z xs _) => bif Nat.beq z sz then some (xs, []) else none
 | .a (.v (.slice none 0 0)) => some ([], [])
 | .tp b => (match H b with
  | some (.tip z _ xs) => bif Nat.beq z sz then some (xs, [b]) else none
  | _ => none)
 | _ => none
theorem qd5 {S : List AObj} {ρ : Nat → AV} {v : SV} {sz : Nat} {xs : List AV} {ks : List Nat} (h : qh5 H sz v = some (xs, ks)) (hS : SatF S ρ (resF ks H)) : Wk (v.ev ρ) (.sl sz xs none) := by
 unfold qh5 at h
 split at h
 ·rename_i z ys tip
  cases hz : Nat.beq z sz with
  | false => rw [hz] at h; simp at h
  | true =>
   rw [hz] at h
   simp only [cond_true, Option.some.injEq, Prod.mk.injEq] at h
   obtain ⟨rfl, rfl⟩ := h
   rw [← Nat.eq_of_beq_eq_true hz]
   exact q1q _ _ _
 ·simp only [Option.some.injEq, Prod.mk.injEq] at h
  obtain ⟨rfl, rfl⟩ := h
  exact fun _ _ h => qbu h
 ·rename_i b
  split at h
  ·rename_i z T' ys hb
   cases hz : Nat.beq z sz with
   | false => rw [hz] at h; simp at h
   | true =>
    rw [hz] at h
    simp only [cond_true, Option.some.injEq, Prod.mk.injEq] at h
    obtain ⟨rfl, rfl⟩ := h
    rw [← Nat.eq_of_beq_eq_true hz]
    exact (qov (hS.ok b _ ((qcp b).trans hb))).1
  ·simp at h
 ·simp at h
end
end Go.Av
set_option linter.unusedVariables false
namespace Go.Av
open Go Go.RowKit
section
variable {E : Env} {rd : Option Nat} {N : Nat} {ops : Array Oper} {K : AS → Prop} {s : AS} {rest : List Oper} {d : Option Tmp} {T : TypeId} {p : String} {af : Array Edge}
theorem qdr {x : Operand} {t e : TypeId} {lo hi : Option Operand} {sz : Nat} {agg : Bool} {xs : List AV} {i j : Nat} (hx : Wk (qf N s x) (.sl sz xs none)) (hu : E.P.underlying t = some (.slice e)) (ht : tyOf E.P e = some (sz, agg))
  (hlo : match lo with | none => i = 0 | some y => ∃ k, qf N s y = .v (.int k (i : Int))) (hhi : match hi with | none => j = xs.length | some y => ∃ k, qf N s y = .v (.int k (j : Int))) (h1 : i ≤ j) (h2 : j ≤ xs.length)
  (h : AOps E rd N ops rest K (s.put d (.sl sz ((xs.take j).drop i) none))) : AOps E rd N ops (⟨d, .slice t x lo hi none, T, p, af, none⟩ :: rest) K s := by
 refine zi rfl (zh nofun fun B0 w0 G a w _ hI => ?_)
 have he := hx _ _ (hI.eval x)
 generalize hv : a.eval x = v at he
 have hsl : ∃ b len cap, v = .slice b len cap := by cases he <;> exact ⟨_, _, _, rfl⟩
 obtain ⟨b, len, cap, rfl⟩ := hsl
 obtain ⟨hl, hlc, hr⟩ := qnt he h1 h2
 refine ⟨_, w, G, _, s.st, ?_, .refl G, hI.agree, hr, h⟩
 have hrun := qnw hu ht b len cap (lo.map a.eval) (hi.map a.eval) i j w (by
  cases lo with
  | none => exact hlo
  | some y => obtain ⟨k, hy⟩ := hlo; exact ⟨k, hI.evalv hy⟩) (by
  cases hi with
  | none => simp only at hhi; simp only [Option.map_none]; omega
  | some y => obtain ⟨k, hy⟩ := hhi; exact ⟨⟨k, hI.evalv hy⟩, by omega⟩) h1
 generalize a.eval = ρ at hv hrun
 simp only [execOp, hv]
 simp [Instr.sliceAt, run_underlying hu, hrun]
theorem qmy {x y : Operand} {t e : TypeId} {sz : Nat} {agg : Bool} {xs : List AV} {k : IntKind} {i : Int} {n : Nat} {z : AV} (hx : Wk (qf N s x) (.sl sz xs none)) (hy : qf N s y = .v (.int k i)) (hu : E.P.underlying t = some (.slice e)) (ht : tyOf E.P e = some (sz, agg)) (hi : i = n) (hz : xs[n]? = some z)
  (h : AOps E rd N ops rest K (s.put d (.pp z.cells))) : AOps E rd N ops (⟨d, .indexAddr t x y, T, p, af, none⟩ :: rest) K s := by
 refine zi rfl (zh nofun fun B0 w0 G a w _ hI => ?_)
 subst hi
 have he := hx _ _ (hI.eval x)
 have hey := hI.evalv hy
 generalize hv : a.eval x = v at he
 have hlt := lt_of_getElem? hz
 cases he with
 | sl0 => simp at hz
 | sl _ _ _ b off cap pub hp hw hlen hrel htip hcap =>
  have hzs : z.cells.length = sz := hw z (List.mem_of_getElem? hz)
  have hfl := v4 hw
  have hle : (n + 1) * sz ≤ xs.length * sz := Nat.mul_le_mul_right _ hlt
  rw [Nat.succ_mul] at hle
  refine ⟨.pointer (some ⟨b, off + n * sz, none⟩), w, G, .pp z.cells, s.st, ?_, .refl G, hI.agree, ?_, h⟩
  ·generalize a.eval = ρ at hv hey
   simp only [execOp, hv, hey]
   simp [Instr.indexAt, asIntOf, run_underlying hu, hlt, (kr ht w).1, Addr.add_lit]
  ·refine .pp _ b _ pub hp (by omega) fun j q r h1 h2 => ?_
   have hj : j < sz := by have := lt_of_getElem? h1; omega
   have hf := qia hw hz j hj
   exact hrel (n * sz + j) q r (by rw [hf]; exact h1) (by rw [← h2]; congr 1; omega)
theorem qsg {x y : Operand} {t u T' : TypeId} {sz bytes : Nat} {xs ys : List AV} {c : AV} (hx : qf N s x = c) (hy : Wk (qf N s y) (.sl sz ys none))
  (ht : E.P.underlying t = some (.slice T')) (hu : E.P.underlying u = some (.slice T')) (hT : qcc E.P T' sz bytes) (hc : TipO 0 s.st sz T' xs c) (hone : vj (flat ys) = true) (h63 : xs.length + ys.length ≤ maxLen) (hby : (xs.length + ys.length) * bytes ≤ 140737488355328)
  (h : ∀ c' st' t1, TipO 0 st' sz T' (xs ++ ys) c' → Fr s.st st' t1 → (c = .sl sz xs (some t1) ∨ s.st.length ≤ t1) → (∀ o, zw c' = some o → o = t1) → AOps E rd N ops rest K (AS.put ⟨s.t, st', s.df⟩ d c')) : AOps E rd N ops (⟨d, .call ⟨.builtin .append, #[x, y], #[t, u]⟩, T, p, af, none⟩ :: rest) K s := by
 refine zi rfl (zh nofun fun B0 w0 G a w _ hI => ?_)
 have hyr : Rel G (.sl sz ys none) (a.eval y) := hy _ _ (hI.eval y)
 rcases hc with (⟨hxs, hcn⟩ | ⟨t1, h1, h2, h3⟩) | ⟨hxs, o, ver, f, hco⟩
 ·subst hxs
  have hle := G.le_new 0 0 0 false
  have hA := hI.agree.newTip sz T'
  have hv : a.eval x = .slice none 0 0 := hI.evalv (hx.trans hcn)
  have hn := hI.agree.n
  obtain ⟨news, k1, k2, k3⟩ := qbj (P := E.P) hA (hyr.mono hle) (by simpa [vj] using hone)
  have hr : Rel (G.new 0 0 0 false) (.sl sz [] (some s.st.length)) (a.eval x) := by
   rw [hv]
   exact .sl0 sz _ none 0 fun t ht => by simp only [Option.some.injEq] at ht; subst ht; exact ⟨by simp [Gh.new, hn], rfl, rfl⟩
  obtain ⟨v', w', G', e1, e2, e3, e4⟩ := qag (ty := T) hA ht hu (.inr ⟨_, rfl⟩) hT (t := s.st.length) (n := 0) (by simp) hr rfl rfl k1 k2 k3 (by simpa using h63) (by simpa using hby)
  refine ⟨v', w', G', _, _, ?_, hle.trans e2, e3, e4, h _ _ s.st.length (.inl (.inr ⟨s.st.length, rfl, ?_, Nat.zero_le _⟩)) ⟨by simp, fun k hk hlt => ?_⟩ (.inr (Nat.le_refl _)) (fun o ho => by simp only [zw, Option.some.injEq] at ho; exact ho.symm)⟩
  ·generalize a.eval = ρ at e1
   simp [execOp, resolve, invoke, builtin, e1]
  ·simp
  ·rw [List.getElem?_set_ne (Ne.symm hk), List.getElem?_append_left hlt]
 ·obtain ⟨news, k1, k2, k3⟩ := qbj (P := E.P) hI.agree hyr (by simpa [vj] using hone)
  obtain ⟨v', w', G', e1, e2, e3, e4⟩ := qag (ty := T) hI.agree ht hu (.inr ⟨_, rfl⟩) hT h2 (hI.eval_of (hx.trans h1)) rfl rfl k1 k2 k3 h63 hby
  refine ⟨v', w', G', _, _, ?_, e2, e3, e4, h _ _ t1 (.inl (.inr ⟨t1, rfl, ?_, Nat.zero_le _⟩)) ⟨by simp, fun k hk hlt => ?_⟩ (.inl h1) (fun o ho => by simp only [zw, Option.some.injEq] at ho; exact ho.symm)⟩
  ·generalize a.eval = ρ at e1
   simp [execOp, resolve, invoke, builtin, e1]
  ·rw [List.length_append]
   exact ku h2
  ·rw [List.getElem?_set_ne (Ne.symm hk)]
 ·subst hxs
  have he := hI.eval_of (hx.trans hco)
  obtain ⟨news, k1, k2, k3⟩ := qbj (P := E.P) hI.agree hyr (by simpa [vj] using hone)
  have hex := hT.ex
  obtain ⟨i, z, hi, hz, hsz, hbt, hzs⟩ := hex
  generalize hv : a.eval x = v at he
  cases he with
  | os _ _ _ _ blk _ hn hvv hbb =>
   by_cases hm0 : ys.length = 0
   ·have hy0 : ys = [] := List.eq_nil_of_length_eq_zero hm0
    subst hy0
    have hk1' : Src E.P w (a.eval y) 0 i.size [] := by
     have : news = [] := List.eq_nil_of_length_eq_zero (by simpa using k1.count)
     rw [hsz]
     rw [this] at k1
     exact k1
    refine ⟨_, w, G, _, s.st, ?_, .refl G, hI.agree, .os o ver f 0 blk 0 hn hvv hbb, h _ s.st s.st.length (.inr ⟨rfl, o, ver, f, rfl⟩) ⟨Nat.le_refl _, fun _ _ _ => rfl⟩ (.inr (Nat.le_refl _)) (fun o ho => by simp [zw] at ho)⟩
    have := qgb (ty := T) ht hu (.inr ⟨_, rfl⟩) hi hk1' (some ⟨blk, f, none⟩) 0 0 (Nat.le_refl _)
    generalize a.eval = ρ at hv this
    simp [execOp, resolve, invoke, builtin, hv, this]
   ·have hle := G.le_new 0 0 0 false
    have hA := hI.agree.newTip sz T'
    have hz63 : 0 + ys.length ≤ maxLen := by simpa using h63
    obtain ⟨v', w', G', e1, e2, e3, e4⟩ := qn1 (ty := T) hA ht hu (.inr ⟨_, rfl⟩) hT (t := s.st.length) (n := 0) (xs := []) (by simp) rfl rfl k1 k2 (fun i a b h1 h2 => (k3 i a b h1 h2).mono hle) hz63 (some ⟨blk, f, none⟩) 0 []
     (run_firstCells_some w.drew sz 0 ⟨blk, f, none⟩ 0 0 [] (by simp) (by simp)) (by omega) (by simp) (by simp [flat]) (by simp) (by simp [flat]) (by rw [Nat.zero_add, nextslicecap_zero (by omega)]; have := hby; simp at this; omega) hm0
    refine ⟨v', w', G', _, _, ?_, hle.trans e2, e3, e4, h _ _ s.st.length (.inl (.inr ⟨s.st.length, rfl, ?_, Nat.zero_le _⟩)) ⟨by simp, fun k hk hlt => ?_⟩ (.inr (Nat.le_refl _)) (fun o ho => by simp only [zw, Option.some.injEq] at ho; exact ho.symm)⟩
    ·generalize a.eval = ρ at e1 hv
     simp [execOp, resolve, invoke, builtin, hv, e1]
    ·simp
    ·rw [List.getElem?_set_ne (Ne.symm hk), List.getElem?_append_left hlt]
theorem ql0 {t e : TypeId} {len sz : Nat} {agg : Bool} {parts : Array (Nat × Operand)} {zs cs xs : List AV} (ps : List (Nat × AV)) (hpl : (j8 N s parts).length = ps.length) (hps : ∀ (i : Nat) (q p : Nat × AV), (j8 N s parts)[i]? = some q → ps[i]? = some p → q.1 = p.1 ∧ Wk q.2 p.2)
    (hu : E.P.underlying t = some (.slice e)) (ht : tyOf E.P e = some (sz, agg)) (hz : qde E.P e len = some zs)
    (hf : qaz (fun i => some (i * sz, sz)) zs ps = some cs) (hlen : xs.length = len) (hfl : flat xs = cs) (hw : ∀ x ∈ xs, x.cells.length = sz) (hsz : Nat.ble (len * sz) 16777216 = true)
    (h : AOps E rd N ops rest K (s.put d (.sl sz xs none))) : AOps E rd N ops (⟨d, .buildSlice t len parts, T, p, af, none⟩ :: rest) K s := by
  refine zi rfl (zh nofun fun B0 w0 G a w _ hI => ?_)
  have hparts : ∀ (i : Nat) (p : Nat × AV) (v : Nat × Value), ps[i]? = some p → (parts.toList.map fun x => (x.1, a.eval x.2))[i]? = some v → p.1 = v.1 ∧ Rel G p.2 v.2 := fun i p v hp hv => by
    have hi : i < (j8 N s parts).length := by rw [hpl]; exact lt_of_getElem? hp
    have hq : (j8 N s parts)[i]? = some (j8 N s parts)[i] := List.getElem?_eq_getElem hi
    obtain ⟨h1, h2⟩ := hps i _ p hq hp
    obtain ⟨h3, h4⟩ := qgr hI parts i _ v hq hv
    exact ⟨h1.symm.trans h3, h2 _ _ h4⟩
  have hsizeOf := (kr ht w).1
  have hsz := Nat.le_of_ble_eq_true hsz
  have hrunE : ∃ c' : Array Value, (execOp a.eval ⟨d, .buildSlice t len parts, T, p, af, none⟩).run E.P w = .ok (.value (.slice (some ⟨w.heap.size, 0, none⟩) len len)) (w.alloc (.cells c' e)) ∧ RelC G cs c' := by
    unfold qde at hz
    cases hi : E.P.info? e with
    | none => rw [hi] at hz; simp at hz
    | some i =>
      rw [hi] at hz
      simp only at hz
      have hs : i.size = sz := by simpa [sizeOf, typeInfo, hi] using hsizeOf
      rw [hs] at hz
      have key : ∃ c0 : Array Value, RelC G zs c0 ∧ ∀ (Q : Array Value → Sem Value), ((do
          let zero ← if len * sz = 0 then pure #[] else do pure (← zeroValue e).cells
          Q ((Array.range (len * sz)).map (zero[· % zero.size]!)) : Sem Value)).run E.P w = (Q c0).run E.P w := by
        by_cases h0 : len * sz = 0
        · rw [h0] at hz
          simp at hz
          subst hz
          exact ⟨#[], ⟨rfl, by simp⟩, fun Q => by have e : Array.range 0 = #[] := by simp [Array.range]
                                                  simp [h0, e]⟩
        · have : Nat.beq (len * sz) 0 = false := jo h0
          rw [this] at hz
          simp only [cond_false] at hz
          cases hzr : i.zero with
          | none => rw [hzr] at hz; simp at hz
          | some z =>
            rw [hzr] at hz
            simp only [Option.map_some, Option.some.injEq] at hz
            subst hz
            refine ⟨(Array.range (len * sz)).map (z.cells[· % z.cells.size]!), ⟨by simp, fun k x y h1 h2 => ?_⟩, fun Q => by simp [h0, zeroValue, typeInfo, hi, hzr]⟩
            have hk : k < len * sz := by have := lt_of_getElem? h1; simpa using this
            simp [hk] at h1 h2
            subst h1; subst h2
            exact .v _
      obtain ⟨c0, hc0, hrun0⟩ := key
      obtain ⟨c', h1, h2⟩ := qft (fun i => some (i * sz, sz)) ps (parts.toList.map fun x => (x.1, a.eval x.2)) zs c0 cs (by rw [← hpl]; simp [j8]) hparts hc0 hf
      refine ⟨c', ?_, h2⟩
      generalize a.eval = ρ at h1
      have hb : ¬ 16777216 < len * sz := by omega
      have hg : ∃ m : String, (execOp ρ ⟨d, .buildSlice t len parts, T, p, af, none⟩).run E.P w = (((do
        let zero ← if len * sz = 0 then pure #[] else do pure (← zeroValue e).cells
        (fun c => (do
        let some cells := Instr.fill (fun i => some (i * sz, sz)) c (parts.map fun x => (x.1, ρ x.2)).toList | stuck m
        pure (Value.slice (some (← newRow e cells)) len len) : Sem Value)) ((Array.range (len * sz)).map (zero[· % zero.size]!)) : Sem Value)).run E.P w).andThen fun v w' => .ok (.value v) w' := by
        apply Exists.intro
        simp only [execOp, Instr.buildSlice]
        simp [run_underlying hu, hsizeOf, hb]
        rfl
      obtain ⟨m, hg⟩ := hg
      have hQ := hrun0 (fun c => do
        let some cells := Instr.fill (fun i => some (i * sz, sz)) c (parts.map fun x => (x.1, ρ x.2)).toList | stuck m
        pure (.slice (some (← newRow e cells)) len len))
      rw [hg, hQ]
      simp [h1, newRow, newObj, Sem.run]
  obtain ⟨c', hrun, h2⟩ := hrunE
  obtain ⟨hle, hA⟩ := hI.agree.newPub e c' (0, 0) c'.toList (fun i y hy => by simpa using hy)
  refine ⟨.slice (some ⟨w.heap.size, 0, none⟩) len len, w.alloc (.cells c' e), _, .sl sz xs none, s.st, hrun, hle, hA, ?_, h⟩
  rw [← hlen]
  cases xs with
  | nil => exact .sl0 sz none _ _ (by simp)
  | cons x0 xr =>
    refine .sl sz _ none w.heap.size 0 _ c'.toList (by simp [Gh.publish]) hw (by rw [hfl, h2.1]; simp) (fun k x y g1 g2 => ?_) (fun t ht => by simp at ht) (Nat.le_refl _)
    rw [hfl] at g1
    exact (h2.2 k x y g1 (by simpa using g2)).mono hle
end
def jb {α : Type} : Nat → List α → List (Nat × α)
 | _, [] => []
 | i, x :: r => (i, x) :: jb (i + 1) r
theorem ql5 {sz : Nat} : ∀ (ys : List AV) (k : Nat) (done zs : List AV), (∀ y ∈ ys, y.okc = true ∧ y.cells.length = sz) → done.length = k * sz → zs.length = ys.length * sz →
  qaz (fun i => some (i * sz, sz)) (done ++ zs) (jb k ys) = some (done ++ flat ys)
 | [], k, done, zs, _, _, hz => by
  have : zs = [] := List.eq_nil_of_length_eq_zero (by simpa using hz)
  subst this
  rfl
 | y :: r, k, done, zs, hy, hd, hz => by
  obtain ⟨h1, h2⟩ := hy y (by simp)
  simp only [List.length_cons, Nat.succ_mul] at hz
  simp only [jb, qaz, h1, h2]
  have hb : Nat.beq sz sz = true := by simp
  have hl : Nat.ble (k * sz + sz) (done ++ zs).length = true := Nat.ble_eq_true_of_le (by simp; omega)
  rw [hb, hl]
  have e : vw (done ++ zs) (k * sz) y.cells = (done ++ y.cells) ++ zs.drop sz := by
   unfold vw
   rw [← hd, List.take_left, h2, List.drop_append]
   simp
  simp only [Bool.and_self, cond_true]
  rw [e, ql5 r (k + 1) (done ++ y.cells) (zs.drop sz) (fun y' hy' => hy y' (by simp [hy'])) (by simp [hd, h2, Nat.succ_mul]) (by simp; omega)]
  simp [flat]
def qhn (P : Program) : Nat → TypeId → List (Option Nat)
 | 0, _ => [none]
 | n + 1, t => match P.underlying t with
  | some (.struct fs) => fs.toList.flatMap fun f => qhn P n f.type
  | some (.slice e) => (match tyOf P e with
   | some (sz, _) => [some sz]
   | none => [none])
  | _ => [none]
def nrm1 : Option Nat → AV → AV
 | some sz, .v (.slice none 0 0) => .sl sz [] none
 | _, x => x
def nrmL : List (Option Nat) → List AV → List AV
 | k :: r, x :: s => nrm1 k x :: nrmL r s
 | _, l => l
def nrmT (P : Program) (t : TypeId) (x : AV) : AV :=
 match x with
 | .ag cs => .ag (nrmL (qhn P 4 t) cs)
 | .v (.slice none 0 0) => (match qhn P 1 t with
  | [k] => nrm1 k (.v (.slice none 0 0))
  | _ => .v (.slice none 0 0))
 | x => x
def zipT (P : Program) : List TypeId → List AV → List AV
 | t :: r, x :: s => nrmT P t x :: zipT P r s
 | _, l => l
theorem qvi (k : Option Nat) (x : AV) : Wk x (nrm1 k x) := by
 unfold nrm1
 split
 ·exact fun _ _ h => qbu h
 ·exact vb _
theorem qvb : ∀ (ks : List (Option Nat)) (l : List AV), l.length = (nrmL ks l).length ∧ ∀ (i : Nat) (x y : AV), l[i]? = some x → (nrmL ks l)[i]? = some y → Wk x y
 | [], l => ⟨by simp [nrmL], fun i x y hx hy => by simp only [nrmL] at hy; rw [hx] at hy; simp only [Option.some.injEq] at hy; subst hy; exact vb _⟩
 | k :: r, [] => ⟨by simp [nrmL], fun i x y hx => by simp at hx⟩
 | k :: r, z :: s => by
  obtain ⟨h1, h2⟩ := qvb r s
  refine ⟨by simp [nrmL, h1], fun i x y hx hy => ?_⟩
  simp only [nrmL] at hy
  cases i with
  | zero => simp at hx hy; subst hx; subst hy; exact qvi k _
  | succ i => exact h2 i x y (by simpa using hx) (by simpa using hy)
theorem q38 (P : Program) (t : TypeId) (x : AV) : Wk x (nrmT P t x) := by
 unfold nrmT
 split
 ·obtain ⟨h1, h2⟩ := qvb (qhn P 4 t) (by assumption)
  exact qvo h1 h2
 ·split
  ·exact qvi _ _
  ·exact vb _
 ·exact vb _
theorem qu0 (P : Program) : ∀ (ts : List TypeId) (l : List AV), l.length = (zipT P ts l).length ∧ ∀ (i : Nat) (x y : AV), l[i]? = some x → (zipT P ts l)[i]? = some y → Wk x y
 | [], l => ⟨by simp [zipT], fun i x y hx hy => by simp only [zipT] at hy; rw [hx] at hy; simp only [Option.some.injEq] at hy; subst hy; exact vb _⟩
 | t :: r, [] => ⟨by simp [zipT], fun i x y hx => by simp at hx⟩
 | t :: r, z :: s => by
  obtain ⟨h1, h2⟩ := qu0 P r s
  refine ⟨by simp [zipT, h1], fun i x y hx hy => ?_⟩
  simp only [zipT] at hy
  cases i with
  | zero => simp at hx hy; subst hx; subst hy; exact q38 P t _
  | succ i => exact h2 i x y (by simpa using hx) (by simpa using hy)
def qn2 : AV → Bool
 | .v (.slice none 0 0) => true
 | _ => false
theorem qpy {x : AV} (h : qn2 x = true) : x = zv := by
 unfold qn2 at h
 split at h
 ·rfl
 ·simp at h
def fcN (n : Nat) (k : Nat → Prop) : Prop :=
 bif Nat.beq n 1 then k 1 else bif Nat.beq n 2 then k 2 else bif Nat.beq n 3 then k 3 else bif Nat.beq n 4 then k 4 else bif Nat.beq n 5 then k 5 else k n
theorem qj7 (n : Nat) (k : Nat → Prop) : fcN n k = k n := by
 unfold fcN
 by_cases h1 : n = 1
 ·subst h1; rfl
 rw [jo h1]
 by_cases h2 : n = 2
 ·subst h2; rfl
 rw [jo h2]
 by_cases h3 : n = 3
 ·subst h3; rfl
 rw [jo h3]
 by_cases h4 : n = 4
 ·subst h4; rfl
 rw [jo h4]
 by_cases h5 : n = 5
 ·subst h5; rfl
 rw [jo h5]
 rfl
def qoa : List (Option Nat) → List AV → (List AV → Prop) → Prop
 | c :: r, x :: s, k => (match qn2 x, c with
  | true, some sz => fcN sz fun sz => qoa r s fun l => k (.sl sz [] none :: l)
  | _, _ => qoa r s fun l => k (x :: l))
 | _, l, k => k l
def qwj : List AV → Bool
 | [] => false
 | x :: r => qn2 x || qwj r
def nrmK (P : Program) (t : TypeId) (x : AV) (k : AV → Prop) : Prop :=
 match qwj x.cells with
 | false => k x
 | true => (match x with
  | .ag cs => qoa (qhn P 4 t) cs fun l => k (.ag l)
  | x => (match qhn P 1 t with
   | [some sz] => fcN sz fun sz => k (.sl sz [] none)
   | _ => k x))
def WkL (l m : List AV) : Prop := l.length = m.length ∧ ∀ (i : Nat) (x y : AV), l[i]? = some x → m[i]? = some y → Wk x y
theorem qkw : WkL [] [] := ⟨rfl, fun i x y h => by simp at h⟩
theorem qfx {x y : AV} {l m : List AV} (h : Wk x y) (hl : WkL l m) : WkL (x :: l) (y :: m) := ⟨by simp [hl.1], fun i a b ha hb => by
 cases i with
 | zero => simp at ha hb; subst ha; subst hb; exact h
 | succ i => exact hl.2 i a b (by simpa using ha) (by simpa using hb)⟩
theorem qmm : ∀ l : List AV, WkL l l
 | [] => qkw
 | x :: r => qfx (vb x) (qmm r)
theorem qmv : ∀ (cs : List (Option Nat)) (l : List AV) (k : List AV → Prop), qoa cs l k → ∃ m, WkL l m ∧ k m
 | [], l, k, h => ⟨l, qmm l, by cases l <;> exact h⟩
 | c :: r, [], k, h => ⟨[], qkw, h⟩
 | c :: r, x :: s, k, h => by
  simp only [qoa] at h
  split at h
  ·rename_i sz hx
   rw [qj7] at h
   obtain ⟨m, h1, h2⟩ := qmv r s _ h
   exact ⟨_, qfx (by rw [qpy hx]; exact fun _ _ h => qbu h) h1, h2⟩
  ·obtain ⟨m, h1, h2⟩ := qmv r s _ h
   exact ⟨_, qfx (vb x) h1, h2⟩
theorem qot {P : Program} {t : TypeId} {x : AV} {k : AV → Prop} (h : nrmK P t x k) : ∃ y, Wk x y ∧ k y := by
 unfold nrmK at h
 split at h
 ·exact ⟨x, vb x, h⟩
 ·rename_i hn
  split at h
  ·rename_i cs
   obtain ⟨m, h1, h2⟩ := qmv _ _ _ h
   exact ⟨_, qvo h1.1 h1.2, h2⟩
  ·rename_i hx
   split at h
   ·rename_i sz _
    rw [qj7] at h
    have : x = zv := by
     have hc : x.cells = [x] := by cases x <;> first | rfl | exact absurd rfl (hx _)
     rw [hc] at hn
     simp only [qwj, Bool.or_false] at hn
     exact qpy hn
    exact ⟨_, by rw [this]; exact fun _ _ h => qbu h, h⟩
   ·exact ⟨x, vb x, h⟩
def qxd (P : Program) (t : TypeId) : List AV → (List AV → Prop) → Prop
 | [], k => k []
 | x :: r, k => nrmK P t x fun x => qxd P t r fun r => k (x :: r)
theorem qq2 {P : Program} {t : TypeId} : ∀ {l : List AV} {k : List AV → Prop}, qxd P t l k → ∃ m, WkL l m ∧ k m
 | [], k, h => ⟨[], qkw, h⟩
 | x :: r, k, h => by
  obtain ⟨y, h1, h2⟩ := qot h
  obtain ⟨m, h3, h4⟩ := qq2 h2
  exact ⟨_, qfx h1 h3, h4⟩
def zipK (P : Program) : List TypeId → List AV → (List AV → Prop) → Prop
 | t :: r, x :: s, k => nrmK P t x fun x => zipK P r s fun l => k (x :: l)
 | _, l, k => k l
theorem qu5 {P : Program} : ∀ {ts : List TypeId} {l : List AV} {k : List AV → Prop}, zipK P ts l k → ∃ m, WkL l m ∧ k m
 | [], l, k, h => ⟨l, qmm l, by cases l <;> exact h⟩
 | t :: r, [], k, h => ⟨[], qkw, h⟩
 | t :: r, x :: s, k, h => by
  obtain ⟨y, h1, h2⟩ := qot h
  obtain ⟨m, h3, h4⟩ := qu5 h2
  exact ⟨_, qfx h1 h3, h4⟩
def qwy (P : Program) (T : TypeId) : Option (Nat × Nat) :=
 match P.info? T with
 | some i => (match i.zero with
  | some z => bif Nat.beq z.cells.size i.size then some (i.size, i.bytes) else none
  | none => none)
 | none => none
theorem q0h {P : Program} {T : TypeId} {sz bytes : Nat} (h : qwy P T = some (sz, bytes)) : qcc P T sz bytes := by
 unfold qwy at h
 split at h
 ·rename_i i hi
  split at h
  ·rename_i z hz
   cases hb : Nat.beq z.cells.size i.size with
   | false => rw [hb] at h; simp at h
   | true =>
    rw [hb] at h
    simp only [cond_true, Option.some.injEq, Prod.mk.injEq] at h
    exact ⟨i, z, hi, hz, h.1, h.2, (Nat.eq_of_beq_eq_true hb).trans h.1⟩
  ·simp at h
 ·simp at h
end Go.Av
