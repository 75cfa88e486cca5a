/- Contracts and plain facts that the closing text leans on (part 4). No condition of their own beyond those that each states. -/
import Derived.Test.YtefmcijohgpfhaaGreatDoorK3
set_option maxRecDepth 100000
set_option linter.unusedVariables false
set_option linter.unusedSimpArgs false
set_option maxRecDepth 100000
set_option linter.unusedVariables false
namespace Go.Proofs.YtefmcijohgpfhaaGreatDoor
open Go Go.Av Go.RowKit Go.Proofs Go.Pl
theorem qda {l : qk} : jf l = 4 ↔ 10 ∉ l ∧ 58 ∈ l ∧ xl (j7 l) := by
 unfold jf
 by_cases h10 : 10 ∈ l
 ·simp [h10]
 ·rw [if_neg h10]
  constructor
  ·intro h
   split at h
   ·simp at h
   ·split at h
    ·simp at h
    ·split at h
     ·simp at h
     ·split at h
      ·rename_i hk; exact ⟨h10, hk.1, hk.2⟩
      ·simp at h
  ·rintro ⟨_, h58, hk⟩
   obtain ⟨c, hc, hb, h35⟩ := qet hk
   have hh : l.head? = some c := by
    cases l with
    | nil => simp at h58
    | cons a r =>
     unfold j7 at hc
     rw [List.takeWhile_cons] at hc
     split at hc
     ·simpa using hc
     ·simp at hc
   have hmem : c ∈ l := List.mem_of_head? hh
   rw [if_neg (fun h' => hb (h' c hmem)), if_neg (by rw [hh]; simpa using h35), if_neg (fun ⟨d, hd, hd'⟩ => by rw [hh] at hd; cases hd; exact hb hd'), if_pos ⟨h58, hk⟩]
theorem qmj {s : qk} (h : jf s = 3) : s ≠ [] := fun e => by subst e; revert h; decide
theorem qqu (l : qk) (st : List AObj) (hl : l.length < 4294967281) (h : jf l = 4) : zr E 196 [Sv l] st fun r st' => r = .tu [Sv (j7 l), Sv (kk l), Bv true] ∧ st' = st := by
 refine z4 (qg7 _ _ _) (zp Tryz.func196 rfl (Nat.le_of_ble_eq_true rfl) ?_)
 have hc : Lib.cut l [58] = (j7 l, kk l, true) := by rw [qlw, if_pos (qda.1 h).2.1]
 repeat' (first
  | apply qr
  | apply qe
  | apply qa
  | apply qn
  | apply qf
  | (apply z1; exact rfl; exact rfl)
  | (apply qt; (iterate 3 exact rfl))
  | (apply qg; exact rfl; first | (apply zd; (first | assumption | omega)) | (apply zf; (first | assumption | omega)) | (apply ze; (first | exact rfl | assumption)) | (apply zg; (first | exact rfl | assumption)) | (apply cd_n <;> intro h) | (apply cd_t; (first | exact rfl | assumption)) | (apply cd_f; (first | exact rfl | assumption)) | (apply cd_d <;> intro h) | (apply cd_s <;> intro h))
  | apply q8
  | apply q9
  | (apply qi; exact Tryz.call132; exact qhv _ _ hl)
  | (apply qi; exact Tryz.call36; exact qrk _ _ _ hl))
 refine qs rfl (qdh rfl) ⟨qmw (?_ : _ = _), _, rfl⟩
 rw [hc]
theorem qog (l : qk) (st : List AObj) (hl : l.length < 4294967281) (h : jf l ≠ 4) : zr E 196 [Sv l] st fun r st' => r = .tu [Sv [], Sv [], Bv false] ∧ st' = st := by
 refine z4 (qg7 _ _ _) (zp Tryz.func196 rfl (Nat.le_of_ble_eq_true rfl) ?_)
 repeat' (first
  | apply qr
  | apply qe
  | apply qa
  | apply qn
  | apply qf
  | (apply qt; (iterate 3 exact rfl))
  | (apply qg; exact rfl; first | (apply zd; (first | assumption | omega)) | (apply zf; (first | assumption | omega)) | (apply ze; (first | exact rfl | assumption)) | (apply zg; (first | exact rfl | assumption)) | (apply cd_n <;> intro h) | (apply cd_t; (first | exact rfl | assumption)) | (apply cd_f; (first | exact rfl | assumption)) | (apply cd_d <;> intro h) | (apply cd_s <;> intro h))
  | apply q9
  | (apply qi; exact Tryz.call132; exact qhv _ _ hl))
 exact qs rfl (qdh rfl) ⟨rfl, _, rfl⟩
theorem qp3 {fn : Func} {s : AS} {t u : Tmp} {Ta : TypeId} {o1 v1 f1 sz1 : Nat} {agg1 : Bool} {T1 : TypeId} {cs1 : List AV} {r1 : AV} (hr : fn.results = #[.cell t Ta, .tmp u]) (hx1 : qz fn.ntmps s (.tmp t) = .bx o1 v1 f1) (ho1 : s.st[o1]? = some (.cells v1 T1 cs1)) (ht1 : tyOf E.P Ta = some (sz1, agg1)) (hl1 : vq sz1 agg1 f1 cs1 = some r1) :
  ARes E fn s (.tu [r1, qz fn.ntmps s (.tmp u)]) := by
 refine ⟨fun B0 w0 G a w hL hI => ?_⟩
 obtain ⟨b, v, h1, h2, h3⟩ := qe6 hI hx1 ho1 ht1 hl1
 have hu := hI.rd u
 refine ⟨.tuple #[v, a.tmps.getD u undef], ?_, qdv h3 hu⟩
 simp only [Act.eval, Array.getD_eq_getD_getElem?] at h1
 simp [results, hr, h1, asAddr, h2]
def qbr (ls : List qk) : AV := .tu [fldA (jq ls).1, errN (jq ls).2]
theorem qm8 (ls : List qk) : Pure (qbr ls) := qcg fun x hx => by
 simp only [List.mem_cons, List.not_mem_nil, or_false] at hx
 rcases hx with rfl | rfl
 ·exact qku fun x hx => by
   simp only [List.mem_cons, List.not_mem_nil, or_false] at hx
   rcases hx with rfl | rfl <;> exact jn _
 ·exact qe0 _
theorem wq {fn : Func} {s : AS} {t u : Tmp} {Ta : TypeId} {st loc ext new : List AObj} {k1 v1 f1 sz1 : Nat} {agg1 : Bool} {T1 : TypeId} {cs1 : List AV} {r1 : AV} (hr : fn.results = #[.cell t Ta, .tmp u]) (hs : s.st = ((st ++ loc) ++ ext) ++ new) (hx1 : qz fn.ntmps s (.tmp t) = .bx (st.length + k1) v1 f1) (ho1 : loc[k1]? = some (.cells v1 T1 cs1)) (ht1 : tyOf E.P Ta = some (sz1, agg1)) (hl1 : vq sz1 agg1 f1 cs1 = some r1) :
  ARes E fn s (.tu [r1, qz fn.ntmps s (.tmp u)]) := qp3 hr hx1 (by rw [hs]; exact xw ho1) ht1 hl1
theorem qc0 {fn : Func} {s : AS} {t u : Tmp} {Ta : TypeId} {st loc : List AObj} {k1 v1 f1 sz1 : Nat} {agg1 : Bool} {T1 : TypeId} {cs1 : List AV} {r1 : AV} (hr : fn.results = #[.cell t Ta, .tmp u]) (hs : s.st = st ++ loc) (hx1 : qz fn.ntmps s (.tmp t) = .bx (st.length + k1) v1 f1) (ho1 : loc[k1]? = some (.cells v1 T1 cs1)) (ht1 : tyOf E.P Ta = some (sz1, agg1)) (hl1 : vq sz1 agg1 f1 cs1 = some r1) :
  ARes E fn s (.tu [r1, qz fn.ntmps s (.tmp u)]) := qp3 hr hx1 (by rw [hs]; exact zw ho1) ht1 hl1
structure LsB (ls : List qk) : Prop where
 len : ls.length < 1000000
 val : ∀ s ∈ ls, s.length < 1000000
theorem qja : ∀ (r : List qk), (∀ s ∈ r, s.length < 1000000) → (r.flatMap fun s => [10] ++ vh 46 (s.drop 1)).length ≤ 1000001 * r.length
 | [], _ => by simp
 | a :: r, h => by
  have ih := qja r fun s hs => h s (by simp [hs])
  have ha := h a (by simp)
  have ht : (vh 46 (a.drop 1)).length ≤ a.length := by unfold vh; split <;> simp <;> omega
  simp only [List.flatMap_cons, List.length_append, List.length_cons, List.length_nil]
  omega
theorem qs9 (v : qk) (r : List qk) : Lib.join (v :: r.map fun s => vh 46 (s.drop 1)) [10] = v ++ r.flatMap fun s => [10] ++ vh 46 (s.drop 1) := by
 rw [Lib.join_cons]
 unfold Lib.joinTail
 rw [List.map_map, List.flatMap_def]
 rfl
theorem qk6 (xs : List qk) (tip : Option Nat) (sep v : qk) (st : List AObj) (h : Lib.join xs sep = v) (hN : xs.length ≤ 140737488355328) (hl : v.length ≤ 140737488355328) : zr E 88 [.sl 1 (xs.map fun x => Sv x) tip, Sv sep] st fun r st' => r = Sv v ∧ st' = st := by
 subst h
 exact qr4 xs tip sep st hN hl
set_option maxHeartbeats 4000000 in
theorem qhp (ls : List qk) (st : List AObj) (hB : LsB ls) : zr E 166 [Ss ls] st fun r st' => r = qbr ls ∧ st' = st := by
 refine z4 (qm8 _) (zp Tryz.func166 rfl (Nat.le_of_ble_eq_true rfl) ?_)
 have hL := hB.len
 have hml : (ls.map fun x => Sv x).length = ls.length := by simp
 cases ls with
 | nil =>
  repeat' (first
   | apply qr
   | apply qe
   | apply qa
   | apply qn
   | apply qf
   | (apply qt; (iterate 3 exact rfl))
   | (apply qg; exact rfl; first | (apply zd; (first | assumption | omega)) | (apply zf; (first | assumption | omega)) | (apply ze; (first | exact rfl | assumption)) | (apply zg; (first | exact rfl | assumption)) | (apply cd_n <;> intro h) | (apply cd_t; (first | exact rfl | assumption)) | (apply cd_f; (first | exact rfl | assumption)) | (apply cd_d <;> intro h) | (apply cd_s <;> intro h))
   | (apply zo; (iterate 4 exact rfl))
   | (apply z7; exact rfl; exact rfl)
   | (apply jh; exact rfl; exact rfl)
   | (apply q6; (iterate 11 exact rfl))
   | (apply j6; (iterate 3 exact rfl))
   | apply q9)
  exact qs rfl (qc0 rfl rfl rfl rfl rfl rfl) ⟨rfl, _, rfl⟩
 | cons l r =>
  have hl := hB.val l (by simp)
  by_cases h4 : jf l = 4
  ·have hk := qda.1 h4
   have htr : (vh 32 (kk l)).length ≤ l.length := by unfold vh kk; split <;> simp <;> omega
   simp only [List.length_cons] at hL
   repeat' (first
    | (apply xd; (iterate 6 exact rfl))
    | apply qr
    | apply q7
    | apply qe
    | apply qa
    | apply qn
    | apply qf
    | (apply z1; exact rfl; exact rfl)
    | (apply qt; (iterate 3 exact rfl))
    | (apply kd; exact rfl)
    | (apply qg; exact rfl; first | (apply zd; (first | assumption | omega)) | (apply zf; (first | assumption | omega)) | (apply ze; (first | exact rfl | assumption)) | (apply zg; (first | exact rfl | assumption)) | (apply cd_n <;> intro h) | (apply cd_t; (first | exact rfl | assumption)) | (apply cd_f; (first | exact rfl | assumption)) | (apply cd_d <;> intro h) | (apply cd_s <;> intro h))
    | (apply zo; (iterate 4 exact rfl))
    | (apply jh; exact rfl; exact rfl)
    | (apply qv; (iterate 3 exact rfl))
    | (apply qae; (iterate 4 exact rfl); (first | assumption | omega | exact Nat.succ_le_succ (Nat.zero_le _) | (simp; omega)); exact rfl)
    | apply q8
    | (apply qi; exact Tryz.call196; exact qqu _ _ (by omega) h4)
    | (apply qi; exact Tryz.call96; exact qpq _ _ _)
    | (apply zy (n := 0); (iterate 6 exact rfl)))
   refine qhz 7 (o := st.length + 1) (sz := 1) (len := 1) (cap := 1) (xs := [Sv (vh 32 (kk l))]) (T' := 9) rfl (zw rfl) rfl rfl (by omega) (Nat.le_refl _) (by decide) (by simp [AV.cells]) rfl ?_
   have hrm : (r.map fun x => Sv x).length = r.length := by simp
   refine vz r (fun pre s => (∀ x ∈ pre, jf x = 3) ∧ StE [(2, .bx (st.length + 0) 0 0), (4, Sv (j7 l)), (7, .sl 1 (Sv (vh 32 (kk l)) :: pre.map (fun s => Sv (vh 46 (s.drop 1)))) (some (st.length + 1))), (33, .sl 1 (r.map fun x => Sv x) none), (34, Iv r.length), (35, Iv pre.length)] st [.cells 0 69 [Sv [], Sv []], .tip (pre.length + 1) 1 9] s) ⟨by simp, we ⟨rfl, rfl, rfl, rfl, congrArg (fun n : Nat => Iv (n : Int)) hrm, rfl, trivial⟩ (wu st _ 1 _)⟩ ?_ ?_
   ·rintro _ ⟨h3, t, ext, rfl⟩
    have hok : qi4 (l :: r) := ⟨by simp, h4, h3⟩
    have hjl := qja r fun s hs => hB.val s (by simp [hs])
    have hj := qs9 (vh 32 (kk l)) r
    have hjv : Lib.join (vh 32 (kk l) :: r.map fun s => vh 46 (s.drop 1)) [10] = yr l r := hj
    have hvl : (yr l r).length ≤ 140737488355328 := by
     unfold yr
     rw [List.length_append]
     omega
    have hmm : (Sv (vh 32 (kk l)) :: r.map fun s => Sv (vh 46 (s.drop 1))) = (vh 32 (kk l) :: r.map fun s => vh 46 (s.drop 1)).map fun x => Sv x := by simp [List.map_map]
    rw [hmm]
    have hkl : (j7 l).length < 4294967281 := by have := hk.2.2.2.1; omega
    have hun : jq (l :: r) = if 1000 < (yr l r).length then (([], []), 6) else ((j7 l, yr l r), 0) := if_pos hok
    by_cases hv : 1000 < (yr l r).length
    ·have hcf : ve (j7 l, yr l r) = 6 := (if_neg (by simpa using hk.2.2)).trans (if_pos hv)
     repeat' (first
      | apply qr
      | apply qe
      | apply qa
      | apply qn
      | (apply qt; (iterate 3 exact rfl))
      | (apply qg; exact rfl; first | (apply zd; (first | assumption | omega)) | (apply zf; (first | assumption | omega)) | (apply ze; (first | exact rfl | assumption)) | (apply zg; (first | exact rfl | assumption)) | (apply cd_n <;> intro h) | (apply cd_t; (first | exact rfl | assumption)) | (apply cd_f; (first | exact rfl | assumption)) | (apply cd_d <;> intro h) | (apply cd_s <;> intro h))
      | apply jp)
     refine qi Tryz.call88 (qk6 (vh 32 (kk l) :: r.map fun s : qk => vh 46 (s.drop 1)) _ _ _ _ hjv ?_ hvl) ?_
     ·simp; omega
     repeat' (first
      | apply qr
      | apply qe
      | apply qa
      | apply qn
      | apply qf
      | (apply qg; exact rfl; first | (apply zd; (first | assumption | omega)) | (apply zf; (first | assumption | omega)) | (apply ze; (first | exact rfl | assumption)) | (apply zg; (first | exact rfl | assumption)) | (apply cd_n <;> intro h) | (apply cd_t; (first | exact rfl | assumption)) | (apply cd_f; (first | exact rfl | assumption)) | (apply cd_d <;> intro h) | (apply cd_s <;> intro h))
      | (apply ku; exact rfl; exact rfl)
      | (apply jh; exact rfl; exact rfl)
      | (apply zm; (iterate 11 exact rfl))
      | (apply qx; (iterate 5 exact rfl))
      | (apply q6; (iterate 11 exact rfl))
      | (apply j6; (iterate 3 exact rfl))
      | apply q9
      | (apply qi; exact Tryz.call124; exact qea (j7 l, yr l r) _ hkl (by rw [hcf]; decide)))
     refine qs rfl (wq rfl rfl rfl rfl rfl rfl) ⟨?_, kg _ _ _ _⟩
     unfold qbr
     rw [hun, if_pos hv]
     exact congrArg (fun n : Int => AV.tu [fldA ([], []), .ifc 31 (Iv n)]) hcf
    ·have hcf : ve (j7 l, yr l r) = 0 := (if_neg (by simpa using hk.2.2)).trans (if_neg hv)
     repeat' (first
      | apply qr
      | apply qe
      | apply qa
      | apply qn
      | apply qf
      | (apply qt; (iterate 3 exact rfl))
      | (apply qg; exact rfl; first | (apply zd; (first | assumption | omega)) | (apply zf; (first | assumption | omega)) | (apply ze; (first | exact rfl | assumption)) | (apply zg; (first | exact rfl | assumption)) | (apply cd_n <;> intro h) | (apply cd_t; (first | exact rfl | assumption)) | (apply cd_f; (first | exact rfl | assumption)) | (apply cd_d <;> intro h) | (apply cd_s <;> intro h))
      | (apply j3; exact rfl; exact rfl)
      | (apply jh; exact rfl; exact rfl)
      | (apply zm; (iterate 11 exact rfl))
      | (apply qx; (iterate 5 exact rfl))
      | (apply q6; (iterate 11 exact rfl))
      | (apply j6; (iterate 3 exact rfl))
      | apply q8
      | apply jp
      | apply q9
      | (refine qi Tryz.call88 (qk6 (vh 32 (kk l) :: r.map fun s : qk => vh 46 (s.drop 1)) _ _ _ _ hjv ?_ hvl) ?_; (simp; omega))
      | (apply qi; exact Tryz.call124; exact qek (j7 l, yr l r) _ hkl hcf))
     refine qs rfl (wq rfl rfl rfl rfl rfl rfl) ⟨?_, kg _ _ _ _⟩
     unfold qbr
     rw [hun, if_neg hv]
     rfl
   ·rintro pre a rest _ hr ⟨h3, t, ext, rfl⟩
    have hrlen : r.length = pre.length + (rest.length + 1) := by rw [hr]; simp
    have hget : (r.map fun x => Sv x)[pre.length]? = some (Sv a) := by rw [hr]; simp
    have ha := hB.val a (by rw [hr]; simp)
    by_cases hka : jf a = 3
    ·have hpos : 1 ≤ a.length := List.length_pos_iff.2 (qmj hka)
     repeat' (first
      | apply qr
      | apply q7
      | apply qe
      | apply qa
      | apply qn
      | apply qf
      | (apply qt; (iterate 3 exact rfl))
      | (apply qg; exact rfl; first | (apply zd; (first | assumption | omega)) | (apply zf; (first | assumption | omega)) | (apply ze; (first | exact rfl | assumption)) | (apply zg; (first | exact rfl | assumption)) | (apply cd_n <;> intro h) | (apply cd_t; (first | exact rfl | assumption)) | (apply cd_f; (first | exact rfl | assumption)) | (apply cd_d <;> intro h) | (apply cd_s <;> intro h))
      | (apply jj; exact rfl; exact rfl; exact z2 (by omega) (by omega))
      | (apply qv; (iterate 3 exact rfl))
      | (apply kr; (iterate 3 exact rfl); first | assumption | omega | (simp; omega))
      | (apply qj; (iterate 9 exact rfl))
      | apply q8
      | (apply qi; exact Tryz.call132; exact qhv _ _ (by omega))
      | (apply qi; exact Tryz.call96; exact qpq _ _ _)
      | (apply zy (n := pre.length); (iterate 5 exact rfl); exact hget)
      | (apply xx (n := pre.length + 1) (m := 1) (sz := 1) (bytes := 16); (iterate 4 exact rfl); simp; exact rfl; exact rfl; exact ⟨⟨_, _, rfl, rfl, rfl, rfl, rfl⟩⟩; exact rfl; exact rfl; (unfold maxLen; omega); omega; exact rfl))
     refine ⟨fun x hx => ?_, vm ⟨rfl, rfl, ?_, rfl, rfl, ?_, trivial⟩ ?_⟩
     ·rcases List.mem_append.1 hx with hx | hx
      ·exact h3 x hx
      ·simp at hx; subst hx; exact hka
     ·exact qef _ (fun s : qk => Sv (vh 46 (s.drop 1))) pre a _ rfl
     ·exact xh pre a
     ·rw [xf pre a]; rfl
    ·skip
     repeat' (first
      | apply qr
      | apply q7
      | apply qe
      | apply qa
      | apply qn
      | apply qf
      | (apply qt; (iterate 3 exact rfl))
      | (apply qg; exact rfl; first | (apply zd; (first | assumption | omega)) | (apply zf; (first | assumption | omega)) | (apply ze; (first | exact rfl | assumption)) | (apply zg; (first | exact rfl | assumption)) | (apply cd_n <;> intro h) | (apply cd_t; (first | exact rfl | assumption)) | (apply cd_f; (first | exact rfl | assumption)) | (apply cd_d <;> intro h) | (apply cd_s <;> intro h))
      | (apply z7; exact rfl; exact rfl)
      | (apply qv; (iterate 3 exact rfl))
      | (apply zm; (iterate 11 exact rfl))
      | (apply j6; (iterate 3 exact rfl))
      | apply q8
      | apply q9
      | (apply qi; exact Tryz.call132; exact qhv _ _ (by omega))
      | (apply zy (n := pre.length); (iterate 5 exact rfl); exact hget))
     have hno : jq (l :: r) = (([], []), 2) := if_neg fun h => hka (h.2.2 a (by rw [hr]; simp))
     refine qs rfl (wq rfl rfl rfl rfl rfl rfl) ⟨?_, kg _ _ _ _⟩
     unfold qbr
     rw [hno]
     rfl
  ·have hno : jq (l :: r) = (([], []), 2) := if_neg fun h => h4 h.2.1
   simp only [List.length_cons] at hL
   repeat' (first
    | apply qr
    | apply qe
    | apply qa
    | apply qn
    | apply qf
    | (apply z1; exact rfl; exact rfl)
    | (apply qt; (iterate 3 exact rfl))
    | (apply kd; exact rfl)
    | (apply qg; exact rfl; first | (apply zd; (first | assumption | omega)) | (apply zf; (first | assumption | omega)) | (apply ze; (first | exact rfl | assumption)) | (apply zg; (first | exact rfl | assumption)) | (apply cd_n <;> intro h) | (apply cd_t; (first | exact rfl | assumption)) | (apply cd_f; (first | exact rfl | assumption)) | (apply cd_d <;> intro h) | (apply cd_s <;> intro h))
    | (apply zo; (iterate 4 exact rfl))
    | (apply z7; exact rfl; exact rfl)
    | (apply jh; exact rfl; exact rfl)
    | (apply qv; (iterate 3 exact rfl))
    | (apply q6; (iterate 11 exact rfl))
    | (apply j6; (iterate 3 exact rfl))
    | apply q8
    | apply q9
    | (apply qi; exact Tryz.call196; exact qog _ _ (by omega) h4)
    | (apply zy (n := 0); (iterate 6 exact rfl)))
   refine qs rfl (qc0 rfl rfl rfl rfl rfl rfl) ⟨?_, _, rfl⟩
   unfold qbr
   rw [hno]
   rfl
end Go.Proofs.YtefmcijohgpfhaaGreatDoor
set_option maxRecDepth 100000
set_option linter.unusedVariables false
namespace Go.Proofs.YtefmcijohgpfhaaGreatDoor
open Go Go.Av Go.RowKit Go.Proofs Go.Pl
theorem qsd (l : qk) (st : List AObj) (hl : l.length < 4294967281) (h : jf l = 4) : zr E 81 [Sv l] st fun r st' => r = .tu [Sv (j7 l), Sv (kk l), Bv true] ∧ st' = st := by
 have := qnj l st hl
 have e : qbl l = (j7 l, kk l, true) := if_pos (qda.1 h)
 rw [e] at this
 exact this
theorem qcf {s : qk} (h : jf s = 3) : 2 ≤ s.length ∧ 10 ∉ s := by
 have h10 : 10 ∉ s := fun h' => by unfold jf at h; rw [if_pos h'] at h; simp at h
 refine ⟨?_, h10⟩
 unfold jf at h
 rw [if_neg h10] at h
 split at h
 ·simp at h
 ·rename_i hb
  split at h
  ·simp at h
  ·split at h
   ·rename_i hbl
    obtain ⟨c, hc, hcb⟩ := hbl
    match s, hc with
    | [a], hc =>
     simp at hc
     subst hc
     exact absurd (by simpa using hcb) hb
    | a :: b :: r, _ => simp
   ·split at h <;> simp at h
def xj (ls : List qk) : AV := .tu [fldA (jq ls).1, Iv (jq ls).2]
theorem qji (ls : List qk) : Pure (xj ls) := qcg fun x hx => by
 simp only [List.mem_cons, List.not_mem_nil, or_false] at hx
 rcases hx with rfl | rfl
 ·exact qku fun x hx => by
   simp only [List.mem_cons, List.not_mem_nil, or_false] at hx
   rcases hx with rfl | rfl <;> exact jn _
 ·exact jn _
def accU (l : qk) (pre : List qk) : qk := vh 32 (kk l) ++ pre.flatMap fun s => [10] ++ vh 46 (s.drop 1)
theorem qlq (l : qk) (pre : List qk) (a : qk) : accU l (pre ++ [a]) = (accU l pre ++ [10]) ++ vh 46 (a.drop 1) := by
 unfold accU
 rw [List.flatMap_append]
 simp
theorem qcn (l : qk) (pre : List qk) (h : ∀ s ∈ pre, s.length < 1000000) : (accU l pre).length ≤ l.length + 1000001 * pre.length := by
 have htr : (vh 32 (kk l)).length ≤ l.length := by unfold vh kk; split <;> simp <;> omega
 have := qja pre h
 unfold accU
 rw [List.length_append]
 omega
theorem qii (c : UInt8) : ((c.toNat : Nat) : Int) = 46 ↔ c = 46 := u8i c 46 (by omega)
theorem qa2 {α : Type} {P : α → Prop} {pre : List α} {a : α} (h : ∀ x ∈ pre, P x) (ha : P a) : ∀ x ∈ pre ++ [a], P x := fun x hx => by
 rcases List.mem_append.1 hx with hx | hx
 ·exact h x hx
 ·simp at hx; subst hx; exact ha
theorem qiy {l : qk} {pre : List qk} {a : qk} (h1 : (a.drop 1).head? = some ((a.drop 1).getD 0 0)) (h2 : (a.drop 1).getD 0 0 = 46) : (accU l pre ++ [10]) ++ (a.drop 1).drop 1 = accU l (pre ++ [a]) := by
 rw [qlq]
 congr 1
 unfold vh
 rw [h1, h2, if_pos rfl]
theorem qf8 {l : qk} {pre : List qk} {a : qk} (h1 : (a.drop 1).head? = some ((a.drop 1).getD 0 0)) (h2 : (a.drop 1).getD 0 0 ≠ 46) : (accU l pre ++ [10]) ++ a.drop 1 = accU l (pre ++ [a]) := by
 rw [qlq]
 congr 1
 unfold vh
 rw [h1, if_neg (fun h => h2 (by simpa using h))]
set_option maxHeartbeats 8000000 in
theorem qpg (ls : List qk) (st : List AObj) (hB : LsB ls) : zr E 41 [Ss ls] st fun r st' => r = xj ls ∧ st' = st := by
 refine z4 (qji _) (zp Tryz.func41 rfl (Nat.le_of_ble_eq_true rfl) ?_)
 have hL := hB.len
 have hml : (ls.map fun x => Sv x).length = ls.length := by simp
 cases ls with
 | nil =>
  repeat' (first
   | apply qr
   | apply qe
   | apply qa
   | apply qn
   | apply qf
   | (apply qt; (iterate 3 exact rfl))
   | (apply zh; (iterate 4 exact rfl))
   | (apply x6; (first | exact rfl | assumption))
   | (apply zk; exact rfl; first | (apply jx; (first | assumption | omega)) | (apply jw; (first | assumption | omega)) | (apply jy; (first | exact rfl | assumption)) | (apply jv; (first | exact rfl | assumption)) | (apply pk_t; (first | exact rfl | assumption)) | (apply pk_f; (first | exact rfl | assumption)))
   | (apply qg; exact rfl; first | (apply zd; (first | assumption | omega)) | (apply zf; (first | assumption | omega)) | (apply ze; (first | exact rfl | assumption)) | (apply zg; (first | exact rfl | assumption)) | (apply cd_n <;> intro h) | (apply cd_t; (first | exact rfl | assumption)) | (apply cd_f; (first | exact rfl | assumption)) | (apply cd_d <;> intro h) | (apply cd_s <;> intro h))
   | (apply zo; (iterate 4 exact rfl))
   | (apply jh; exact rfl; exact rfl)
   | (apply q6; (iterate 11 exact rfl))
   | (apply j6; (iterate 3 exact rfl))
   | apply q9)
  exact qs rfl (qc0 rfl rfl rfl rfl rfl rfl) ⟨rfl, _, rfl⟩
 | cons l r =>
  have hl := hB.val l (by simp)
  simp only [List.length_cons] at hL hml
  by_cases h4 : jf l = 4
  ·have hk := qda.1 h4
   have hh : ∀ v : qk, 0 < v.length → v.head? = some (v.getD 0 0) := fun v hv => by cases v with | nil => simp at hv | cons a b => rfl
   repeat' (first
    | apply qr
    | apply q7
    | apply qe
    | apply qa
    | apply qn
    | apply qf
    | (apply z1; exact rfl; exact rfl)
    | (apply qt; (iterate 3 exact rfl))
    | (apply zh; (iterate 4 exact rfl))
    | (apply xc; (first | assumption | omega))
    | (apply ko; (first | assumption | omega))
    | (apply yz; (first | assumption | omega))
    | (apply wc <;> intro h)
    | (apply zk; exact rfl; first | (apply jx; (first | assumption | omega)) | (apply jw; (first | assumption | omega)) | (apply jy; (first | exact rfl | assumption)) | (apply jv; (first | exact rfl | assumption)) | (apply pk_t; (first | exact rfl | assumption)) | (apply pk_f; (first | exact rfl | assumption)))
    | (apply qg; exact rfl; first | (apply zd; (first | assumption | omega)) | (apply zf; (first | assumption | omega)) | (apply ze; (first | exact rfl | assumption)) | (apply zg; (first | exact rfl | assumption)) | (apply cd_n <;> intro h) | (apply cd_t; (first | exact rfl | assumption)) | (apply cd_f; (first | exact rfl | assumption)) | (apply cd_d <;> intro h) | (apply cd_s <;> intro h))
    | (apply j4; (iterate 3 exact rfl))
    | (apply zo; (iterate 4 exact rfl))
    | (apply jh; exact rfl; exact rfl)
    | (apply qv; (iterate 3 exact rfl))
    | (apply wb; (iterate 3 exact rfl); first | assumption | omega | (simp; omega))
    | (apply kr; (iterate 3 exact rfl); first | assumption | omega | (simp; omega))
    | apply q8
    | (apply qi; exact Tryz.call80; exact x4 _ _ (by omega))
    | (apply qi; exact Tryz.call81; exact qsd _ _ (by omega) h4)
    | (apply zy (n := 0); (iterate 6 exact rfl)))
   all_goals refine vz r (fun pre s => (∀ x ∈ pre, jf x = 3) ∧ StE [(0, Ss (l :: r)), (2, .bx (st.length + 0) 0 0), (4, Sv (j7 l)), (5, Sv (accU l pre)), (7, Iv (pre.length + 1))] st [.cells 0 69 [Sv [], Sv []]] s) ⟨by simp, we ⟨rfl, rfl, rfl, congrArg (fun l : qk => Sv l) ?_, rfl, trivial⟩ rfl⟩ ?_ ?_
   ·have h1 : 0 < (kk l).length := by omega
    have h2 : (kk l).getD 0 0 = 32 := (qrj _).1 (by assumption)
    show (kk l).drop 1 = accU l []
    unfold accU vh
    rw [hh _ h1, h2]
    simp
   rotate_left 2
   ·have h1 : 0 < (kk l).length := by omega
    have h2 : (kk l).getD 0 0 ≠ 32 := fun h' => absurd ((qrj _).2 h') (by assumption)
    show kk l = accU l []
    unfold accU vh
    rw [hh _ h1, if_neg (fun h3 => h2 (by simpa using h3))]
    simp
   rotate_left 2
   ·have h1 : kk l = [] := List.length_eq_zero_iff.1 (by omega)
    show kk l = accU l []
    unfold accU vh
    rw [h1]
    simp
   rotate_left 2
   ·rintro _ ⟨h3, t, ext, rfl⟩
    have hal := qcn l r fun s hs => hB.val s (by simp [hs])
    have hun : jq (l :: r) = if 1000 < (accU l r).length then (([], []), 6) else ((j7 l, accU l r), 0) := if_pos ⟨by simp, h4, h3⟩
    repeat' (first
     | apply qr
     | apply qe
     | apply qa
     | apply qn
     | apply qf
     | (apply qt; (iterate 3 exact rfl))
     | (apply qg; exact rfl; first | (apply zd; (first | assumption | omega)) | (apply zf; (first | assumption | omega)) | (apply ze; (first | exact rfl | assumption)) | (apply zg; (first | exact rfl | assumption)) | (apply cd_n <;> intro h) | (apply cd_t; (first | exact rfl | assumption)) | (apply cd_f; (first | exact rfl | assumption)) | (apply cd_d <;> intro h) | (apply cd_s <;> intro h))
     | (apply j4; (iterate 3 exact rfl))
     | (apply zo; (iterate 4 exact rfl))
     | (apply zm; (iterate 11 exact rfl))
     | (apply j6; (iterate 3 exact rfl))
     | apply q8
     | apply jp
     | apply q9)
    all_goals refine qs rfl (wq rfl rfl rfl rfl rfl rfl) ⟨?_, kg _ _ _ _⟩
    all_goals unfold xj
    ·rw [hun, if_pos (by omega)]; rfl
    ·rw [hun, if_neg (by omega)]; rfl
   ·rintro pre a rest _ hr ⟨h3, t, ext, rfl⟩
    have hrlen : r.length = pre.length + (rest.length + 1) := by rw [hr]; simp
    have hget : (Sv l :: r.map fun x => Sv x)[pre.length + 1]? = some (Sv a) := by rw [hr]; simp
    have ha := hB.val a (by rw [hr]; simp)
    have hal := qcn l pre fun s hs => hB.val s (by rw [hr]; simp [hs])
    by_cases hka : jf a = 3
    ·obtain ⟨h2, _⟩ := qcf hka
     have hd1 : (a.drop 1).length = a.length - 1 := by simp
     repeat' (first
      | apply qr
      | apply q7
      | apply qe
      | apply qa
      | apply qn
      | apply qf
      | (apply qt; (iterate 3 exact rfl))
      | (apply qg; exact rfl; first | (apply zd; (first | assumption | omega)) | (apply zf; (first | assumption | omega)) | (apply ze; (first | exact rfl | assumption)) | (apply zg; (first | exact rfl | assumption)) | (apply cd_n <;> intro h) | (apply cd_t; (first | exact rfl | assumption)) | (apply cd_f; (first | exact rfl | assumption)) | (apply cd_d <;> intro h) | (apply cd_s <;> intro h))
      | (apply zo; (iterate 4 exact rfl))
      | (apply kl; exact rfl; exact rfl; (first | omega | (simp only [List.length_append, List.length_cons, List.length_nil]; omega) | (simp; omega)))
      | (apply jj; exact rfl; exact rfl; exact z2 (by omega) (by omega))
      | (apply qv; (iterate 3 exact rfl))
      | (apply wb; (iterate 3 exact rfl); first | assumption | omega | (simp; omega))
      | (apply kr; (iterate 3 exact rfl); first | assumption | omega | (simp; omega))
      | apply q8
      | (apply qi; exact Tryz.call80; exact x4 _ _ (by omega))
      | (apply zy (n := pre.length + 1); (iterate 5 exact rfl); exact hget))
     all_goals refine ⟨fun x hx => ?_, vm ⟨rfl, rfl, rfl, ?_, qcm pre a, trivial⟩ rfl⟩
     ·exact qa2 h3 hka x hx
     ·exact congrArg (fun l : qk => Sv l) (qiy (hh _ (by omega)) ((qii _).1 (by assumption)) : (accU l pre ++ [10]) ++ (a.drop 1).drop 1 = accU l (pre ++ [a]))
     ·exact qa2 h3 hka x hx
     ·exact congrArg (fun l : qk => Sv l) (qf8 (hh _ (by omega)) (fun h' => absurd ((qii _).2 h') (by assumption)) : (accU l pre ++ [10]) ++ a.drop 1 = accU l (pre ++ [a]))
    ·have hno : jq (l :: r) = (([], []), 2) := if_neg fun h => hka (h.2.2 a (by rw [hr]; simp))
     repeat' (first
      | apply qr
      | apply q7
      | apply qe
      | apply qa
      | apply qn
      | apply qf
      | (apply qt; (iterate 3 exact rfl))
      | (apply qg; exact rfl; first | (apply zd; (first | assumption | omega)) | (apply zf; (first | assumption | omega)) | (apply ze; (first | exact rfl | assumption)) | (apply zg; (first | exact rfl | assumption)) | (apply cd_n <;> intro h) | (apply cd_t; (first | exact rfl | assumption)) | (apply cd_f; (first | exact rfl | assumption)) | (apply cd_d <;> intro h) | (apply cd_s <;> intro h))
      | (apply zo; (iterate 4 exact rfl))
      | (apply qv; (iterate 3 exact rfl))
      | (apply zm; (iterate 11 exact rfl))
      | (apply j6; (iterate 3 exact rfl))
      | apply q8
      | apply q9
      | (apply qi; exact Tryz.call80; exact x4 _ _ (by omega))
      | (apply zy (n := pre.length + 1); (iterate 5 exact rfl); exact hget))
     refine qs rfl (wq rfl rfl rfl rfl rfl rfl) ⟨?_, kg _ _ _ _⟩
     unfold xj
     rw [hno]
     rfl
   ·rintro _ ⟨h3, t, ext, rfl⟩
    have hal := qcn l r fun s hs => hB.val s (by simp [hs])
    have hun : jq (l :: r) = if 1000 < (accU l r).length then (([], []), 6) else ((j7 l, accU l r), 0) := if_pos ⟨by simp, h4, h3⟩
    repeat' (first
     | apply qr
     | apply qe
     | apply qa
     | apply qn
     | apply qf
     | (apply qt; (iterate 3 exact rfl))
     | (apply qg; exact rfl; first | (apply zd; (first | assumption | omega)) | (apply zf; (first | assumption | omega)) | (apply ze; (first | exact rfl | assumption)) | (apply zg; (first | exact rfl | assumption)) | (apply cd_n <;> intro h) | (apply cd_t; (first | exact rfl | assumption)) | (apply cd_f; (first | exact rfl | assumption)) | (apply cd_d <;> intro h) | (apply cd_s <;> intro h))
     | (apply j4; (iterate 3 exact rfl))
     | (apply zo; (iterate 4 exact rfl))
     | (apply zm; (iterate 11 exact rfl))
     | (apply j6; (iterate 3 exact rfl))
     | apply q8
     | apply jp
     | apply q9)
    all_goals refine qs rfl (wq rfl rfl rfl rfl rfl rfl) ⟨?_, kg _ _ _ _⟩
    all_goals unfold xj
    ·rw [hun, if_pos (by omega)]; rfl
    ·rw [hun, if_neg (by omega)]; rfl
   ·rintro pre a rest _ hr ⟨h3, t, ext, rfl⟩
    have hrlen : r.length = pre.length + (rest.length + 1) := by rw [hr]; simp
    have hget : (Sv l :: r.map fun x => Sv x)[pre.length + 1]? = some (Sv a) := by rw [hr]; simp
    have ha := hB.val a (by rw [hr]; simp)
    have hal := qcn l pre fun s hs => hB.val s (by rw [hr]; simp [hs])
    by_cases hka : jf a = 3
    ·obtain ⟨h2, _⟩ := qcf hka
     have hd1 : (a.drop 1).length = a.length - 1 := by simp
     repeat' (first
      | apply qr
      | apply q7
      | apply qe
      | apply qa
      | apply qn
      | apply qf
      | (apply qt; (iterate 3 exact rfl))
      | (apply qg; exact rfl; first | (apply zd; (first | assumption | omega)) | (apply zf; (first | assumption | omega)) | (apply ze; (first | exact rfl | assumption)) | (apply zg; (first | exact rfl | assumption)) | (apply cd_n <;> intro h) | (apply cd_t; (first | exact rfl | assumption)) | (apply cd_f; (first | exact rfl | assumption)) | (apply cd_d <;> intro h) | (apply cd_s <;> intro h))
      | (apply zo; (iterate 4 exact rfl))
      | (apply kl; exact rfl; exact rfl; (first | omega | (simp only [List.length_append, List.length_cons, List.length_nil]; omega) | (simp; omega)))
      | (apply jj; exact rfl; exact rfl; exact z2 (by omega) (by omega))
      | (apply qv; (iterate 3 exact rfl))
      | (apply wb; (iterate 3 exact rfl); first | assumption | omega | (simp; omega))
      | (apply kr; (iterate 3 exact rfl); first | assumption | omega | (simp; omega))
      | apply q8
      | (apply qi; exact Tryz.call80; exact x4 _ _ (by omega))
      | (apply zy (n := pre.length + 1); (iterate 5 exact rfl); exact hget))
     all_goals refine ⟨fun x hx => ?_, vm ⟨rfl, rfl, rfl, ?_, qcm pre a, trivial⟩ rfl⟩
     ·exact qa2 h3 hka x hx
     ·exact congrArg (fun l : qk => Sv l) (qiy (hh _ (by omega)) ((qii _).1 (by assumption)) : (accU l pre ++ [10]) ++ (a.drop 1).drop 1 = accU l (pre ++ [a]))
     ·exact qa2 h3 hka x hx
     ·exact congrArg (fun l : qk => Sv l) (qf8 (hh _ (by omega)) (fun h' => absurd ((qii _).2 h') (by assumption)) : (accU l pre ++ [10]) ++ a.drop 1 = accU l (pre ++ [a]))
    ·have hno : jq (l :: r) = (([], []), 2) := if_neg fun h => hka (h.2.2 a (by rw [hr]; simp))
     repeat' (first
      | apply qr
      | apply q7
      | apply qe
      | apply qa
      | apply qn
      | apply qf
      | (apply qt; (iterate 3 exact rfl))
      | (apply qg; exact rfl; first | (apply zd; (first | assumption | omega)) | (apply zf; (first | assumption | omega)) | (apply ze; (first | exact rfl | assumption)) | (apply zg; (first | exact rfl | assumption)) | (apply cd_n <;> intro h) | (apply cd_t; (first | exact rfl | assumption)) | (apply cd_f; (first | exact rfl | assumption)) | (apply cd_d <;> intro h) | (apply cd_s <;> intro h))
      | (apply zo; (iterate 4 exact rfl))
      | (apply qv; (iterate 3 exact rfl))
      | (apply zm; (iterate 11 exact rfl))
      | (apply j6; (iterate 3 exact rfl))
      | apply q8
      | apply q9
      | (apply qi; exact Tryz.call80; exact x4 _ _ (by omega))
      | (apply zy (n := pre.length + 1); (iterate 5 exact rfl); exact hget))
     refine qs rfl (wq rfl rfl rfl rfl rfl rfl) ⟨?_, kg _ _ _ _⟩
     unfold xj
     rw [hno]
     rfl
   ·rintro _ ⟨h3, t, ext, rfl⟩
    have hal := qcn l r fun s hs => hB.val s (by simp [hs])
    have hun : jq (l :: r) = if 1000 < (accU l r).length then (([], []), 6) else ((j7 l, accU l r), 0) := if_pos ⟨by simp, h4, h3⟩
    repeat' (first
     | apply qr
     | apply qe
     | apply qa
     | apply qn
     | apply qf
     | (apply qt; (iterate 3 exact rfl))
     | (apply qg; exact rfl; first | (apply zd; (first | assumption | omega)) | (apply zf; (first | assumption | omega)) | (apply ze; (first | exact rfl | assumption)) | (apply zg; (first | exact rfl | assumption)) | (apply cd_n <;> intro h) | (apply cd_t; (first | exact rfl | assumption)) | (apply cd_f; (first | exact rfl | assumption)) | (apply cd_d <;> intro h) | (apply cd_s <;> intro h))
     | (apply j4; (iterate 3 exact rfl))
     | (apply zo; (iterate 4 exact rfl))
     | (apply zm; (iterate 11 exact rfl))
     | (apply j6; (iterate 3 exact rfl))
     | apply q8
     | apply jp
     | apply q9)
    all_goals refine qs rfl (wq rfl rfl rfl rfl rfl rfl) ⟨?_, kg _ _ _ _⟩
    all_goals unfold xj
    ·rw [hun, if_pos (by omega)]; rfl
    ·rw [hun, if_neg (by omega)]; rfl
   ·rintro pre a rest _ hr ⟨h3, t, ext, rfl⟩
    have hrlen : r.length = pre.length + (rest.length + 1) := by rw [hr]; simp
    have hget : (Sv l :: r.map fun x => Sv x)[pre.length + 1]? = some (Sv a) := by rw [hr]; simp
    have ha := hB.val a (by rw [hr]; simp)
    have hal := qcn l pre fun s hs => hB.val s (by rw [hr]; simp [hs])
    by_cases hka : jf a = 3
    ·obtain ⟨h2, _⟩ := qcf hka
     have hd1 : (a.drop 1).length = a.length - 1 := by simp
     repeat' (first
      | apply qr
      | apply q7
      | apply qe
      | apply qa
      | apply qn
      | apply qf
      | (apply qt; (iterate 3 exact rfl))
      | (apply qg; exact rfl; first | (apply zd; (first | assumption | omega)) | (apply zf; (first | assumption | omega)) | (apply ze; (first | exact rfl | assumption)) | (apply zg; (first | exact rfl | assumption)) | (apply cd_n <;> intro h) | (apply cd_t; (first | exact rfl | assumption)) | (apply cd_f; (first | exact rfl | assumption)) | (apply cd_d <;> intro h) | (apply cd_s <;> intro h))
      | (apply zo; (iterate 4 exact rfl))
      | (apply kl; exact rfl; exact rfl; (first | omega | (simp only [List.length_append, List.length_cons, List.length_nil]; omega) | (simp; omega)))
      | (apply jj; exact rfl; exact rfl; exact z2 (by omega) (by omega))
      | (apply qv; (iterate 3 exact rfl))
      | (apply wb; (iterate 3 exact rfl); first | assumption | omega | (simp; omega))
      | (apply kr; (iterate 3 exact rfl); first | assumption | omega | (simp; omega))
      | apply q8
      | (apply qi; exact Tryz.call80; exact x4 _ _ (by omega))
      | (apply zy (n := pre.length + 1); (iterate 5 exact rfl); exact hget))
     all_goals refine ⟨fun x hx => ?_, vm ⟨rfl, rfl, rfl, ?_, qcm pre a, trivial⟩ rfl⟩
     ·exact qa2 h3 hka x hx
     ·exact congrArg (fun l : qk => Sv l) (qiy (hh _ (by omega)) ((qii _).1 (by assumption)) : (accU l pre ++ [10]) ++ (a.drop 1).drop 1 = accU l (pre ++ [a]))
     ·exact qa2 h3 hka x hx
     ·exact congrArg (fun l : qk => Sv l) (qf8 (hh _ (by omega)) (fun h' => absurd ((qii _).2 h') (by assumption)) : (accU l pre ++ [10]) ++ a.drop 1 = accU l (pre ++ [a]))
    ·have hno : jq (l :: r) = (([], []), 2) := if_neg fun h => hka (h.2.2 a (by rw [hr]; simp))
     repeat' (first
      | apply qr
      | apply q7
      | apply qe
      | apply qa
      | apply qn
      | apply qf
      | (apply qt; (iterate 3 exact rfl))
      | (apply qg; exact rfl; first | (apply zd; (first | assumption | omega)) | (apply zf; (first | assumption | omega)) | (apply ze; (first | exact rfl | assumption)) | (apply zg; (first | exact rfl | assumption)) | (apply cd_n <;> intro h) | (apply cd_t; (first | exact rfl | assumption)) | (apply cd_f; (first | exact rfl | assumption)) | (apply cd_d <;> intro h) | (apply cd_s <;> intro h))
      | (apply zo; (iterate 4 exact rfl))
      | (apply qv; (iterate 3 exact rfl))
      | (apply zm; (iterate 11 exact rfl))
      | (apply j6; (iterate 3 exact rfl))
      | apply q8
      | apply q9
      | (apply qi; exact Tryz.call80; exact x4 _ _ (by omega))
      | (apply zy (n := pre.length + 1); (iterate 5 exact rfl); exact hget))
     refine qs rfl (wq rfl rfl rfl rfl rfl rfl) ⟨?_, kg _ _ _ _⟩
     unfold xj
     rw [hno]
     rfl
  ·have hno : jq (l :: r) = (([], []), 2) := if_neg fun h => h4 h.2.1
   repeat' (first
    | apply qr
    | apply qe
    | apply qa
    | apply qn
    | apply qf
    | (apply qt; (iterate 3 exact rfl))
    | (apply zh; (iterate 4 exact rfl))
    | (apply ko; (first | assumption | omega))
    | (apply zk; exact rfl; first | (apply jx; (first | assumption | omega)) | (apply jw; (first | assumption | omega)) | (apply jy; (first | exact rfl | assumption)) | (apply jv; (first | exact rfl | assumption)) | (apply pk_t; (first | exact rfl | assumption)) | (apply pk_f; (first | exact rfl | assumption)))
    | (apply qg; exact rfl; first | (apply zd; (first | assumption | omega)) | (apply zf; (first | assumption | omega)) | (apply ze; (first | exact rfl | assumption)) | (apply zg; (first | exact rfl | assumption)) | (apply cd_n <;> intro h) | (apply cd_t; (first | exact rfl | assumption)) | (apply cd_f; (first | exact rfl | assumption)) | (apply cd_d <;> intro h) | (apply cd_s <;> intro h))
    | (apply zo; (iterate 4 exact rfl))
    | (apply jh; exact rfl; exact rfl)
    | (apply qv; (iterate 3 exact rfl))
    | (apply q6; (iterate 11 exact rfl))
    | (apply j6; (iterate 3 exact rfl))
    | apply q9
    | (apply qi; exact Tryz.call80; exact x4 _ _ (by omega))
    | (apply zy (n := 0); (iterate 6 exact rfl)))
   refine qs rfl (qc0 rfl rfl rfl rfl rfl rfl) ⟨?_, _, rfl⟩
   unfold xj
   rw [hno]
   rfl
end Go.Proofs.YtefmcijohgpfhaaGreatDoor
set_option maxRecDepth 100000
set_option linter.unusedVariables false
namespace Go.Pl
open Go Go.Proofs
structure LnV where
 no : Nat
 at' : Nat
 text : qk
 ended : Bool
def va (k a : Nat) (l : qk) : List LnV := if h : l = [] then [] else ⟨k, a, upto 10 l, decide (10 ∈ l)⟩ :: va (k + 1) (a + (upto 10 l).length + 1) (past 10 l)
 termination_by l.length
 decreasing_by exact xv h
def lns (l : qk) : List LnV := va 0 0 l
theorem ye (k a : Nat) : va k a [] = [] := by unfold va; simp
theorem yf {k a : Nat} {l : qk} (h : l ≠ []) : va k a l = ⟨k, a, upto 10 l, decide (10 ∈ l)⟩ :: va (k + 1) (a + (upto 10 l).length + 1) (past 10 l) := by
 conv => lhs; unfold va
 rw [dif_neg h]
def whole (l : qk) : Prop := l = [] ∨ l.getLast? = some 10
theorem qqr {l : qk} (h : whole l) (hne : l ≠ []) : 10 ∈ l ∧ whole (past 10 l) := by
 have hl : l.getLast? = some 10 := h.resolve_left hne
 have h10 : 10 ∈ l := List.mem_of_getLast? hl
 refine ⟨h10, ?_⟩
 by_cases hp : past 10 l = []
 ·exact .inl hp
 ·refine .inr ?_
  have e := qc3 h10
  rw [e] at hl
  rw [List.getLast?_append, List.getLast?_cons] at hl
  cases hg : (past 10 l).getLast? with
  | none => exact absurd (List.getLast?_eq_none_iff.1 hg) hp
  | some c => rw [hg] at hl; simpa using hl
theorem qko : ∀ (n : Nat) (d x : qk) (k a : Nat), d.length ≤ n → whole d → va k a (d ++ x) = va k a d ++ va (k + (va k a d).length) (a + d.length) x
 | n, d, x, k, a, hn, hw => by
  by_cases hd : d = []
  ·subst hd
   simp [ye]
  ·obtain ⟨h10, hw'⟩ := qqr hw hd
   have e := qc3 h10
   have hlt := xv (c := 10) hd
   cases n with
   | zero => omega
   | succ n =>
    have e2 : d ++ x = upto 10 d ++ 10 :: (past 10 d ++ x) := (congrArg (· ++ x) e).trans (by simp)
    have hu : upto 10 (d ++ x) = upto 10 d := by rw [e2]; exact yn _ (qai 10 d)
    have hp : past 10 (d ++ x) = past 10 d ++ x := by rw [e2]; exact y4 _ (qai 10 d)
    have hdl : d.length = (upto 10 d).length + 1 + (past 10 d).length := by
     have := congrArg List.length e
     simp at this
     omega
    rw [yf (l := d ++ x) (by simp [hd]), yf hd, hu, hp, qko n (past 10 d) x _ _ (by omega) hw']
    have h1 : 10 ∈ d ++ x := by simp [h10]
    simp only [h1, h10, List.cons_append, List.length_cons]
    congr 2
    have e3 : ∀ m : Nat, k + 1 + m = k + (m + 1) := fun m => by omega
    rw [e3]
    congr 1
    omega
theorem qvv {c : qk} (k a : Nat) (h : 10 ∉ c) : va k a (c ++ [10]) = [⟨k, a, c, true⟩] := by
 rw [yf (by simp), yn [] h, y4 [] h, ye]
 simp
theorem quw {c : qk} (k a : Nat) (h : 10 ∉ c) (hne : c ≠ []) : va k a c = [⟨k, a, c, false⟩] := by
 rw [yf hne, qd5 h]
 have : past 10 c = [] := by
  unfold past
  rw [qd5 h]
  simp
 rw [this, ye]
 simp [h]
theorem qbq : ∀ (n : Nat) (l : qk) (k a : Nat), l.length ≤ n → (va k a l).length ≤ l.length
 | n, l, k, a, hn => by
  by_cases h : l = []
  ·subst h; simp [ye]
  ·have hlt := xv (c := 10) h
   cases n with
   | zero => omega
   | succ n =>
    rw [yf h, List.length_cons]
    have := qbq n (past 10 l) (k + 1) (a + (upto 10 l).length + 1) (by omega)
    omega
theorem ql5 : ∀ (n : Nat) (l : qk) (k a : Nat), l.length ≤ n → (va k a l).map (fun x => (x.text, x.ended)) = kh l
 | n, l, k, a, hn => by
  by_cases h : l = []
  ·subst h; simp [ye, ya]
  ·have hlt := xv (c := 10) h
   cases n with
   | zero => omega
   | succ n => rw [yf h, ym h, List.map_cons, ql5 n _ _ _ (by omega)]
end Go.Pl
namespace Go.Proofs.YtefmcijohgpfhaaGreatDoor
open Go Go.Av Go.RowKit Go.Proofs Go.Pl
@[reducible] def lnA (x : LnV) : AV := .ag [Iv x.no, Iv x.at', Sv x.text, Bv x.ended]
@[reducible] def lnsA (xs : List LnV) : AV := .sl 4 (xs.map lnA) none
theorem qun (xs : List LnV) : Pure (lnsA xs) := qdz fun x hx => by
 simp only [List.mem_map] at hx
 obtain ⟨f, _, rfl⟩ := hx
 intro y hy
 simp [AV.cells] at hy
 rcases hy with rfl | rfl | rfl | rfl <;> exact jn _
set_option maxHeartbeats 4000000 in
theorem qjy (l : qk) (st : List AObj) (hl : l.length < 100000000) : zr E 39 [Sv l] st fun r st' => r = lnsA (lns l) ∧ st' = st := by
 refine z4 (qun _) (zp Tryz.func39 rfl (Nat.le_of_ble_eq_true rfl) ?_)
 repeat' (first
  | (apply qi0; first | apply qr | apply q7 | apply qe | (apply qg; exact rfl; first | (apply zd; (first | assumption | omega)) | (apply zf; (first | assumption | omega)) | (apply ze; (first | exact rfl | assumption)) | (apply zg; (first | exact rfl | assumption)) | (apply cd_n <;> intro h) | (apply cd_t; (first | exact rfl | assumption)) | (apply cd_f; (first | exact rfl | assumption)) | (apply cd_d <;> intro h) | (apply cd_s <;> intro h)) | (apply yh; exact rfl; kernel_rfl) | apply q8 | apply jp | apply q9)
  | (apply qgm; first | (apply zh; (iterate 4 exact rfl)) | (apply wt; (iterate 4 exact rfl)))
  | (apply qkx; first | (apply xc; (first | assumption | omega)) | (apply ko; (first | assumption | omega)) | (apply vo; (first | assumption | omega)) | (apply yz; (first | assumption | omega)) | (apply qc9; (first | exact rfl | assumption)) | (apply xq; (first | exact rfl | assumption)) | (apply qam; (first | exact rfl | assumption)) | (apply qb3; (first | exact rfl | assumption)) | (apply qdn <;> intro h) | (apply yg; (first | exact rfl | assumption)) | (apply qa1; (first | exact rfl | assumption)) | (apply x6; (first | exact rfl | assumption)) | (apply qaf; (first | exact rfl | assumption)) | (apply wc <;> intro h) | (apply qec <;> intro h))
  | (apply qk1; first | apply y8 | (apply qh6; (iterate 4 exact rfl)) | (apply qj0; exact rfl; exact rfl; exact z2 (by omega) (by omega)) | (apply qif; (iterate 4 exact rfl); (first | assumption | omega | (simp; omega)); first | assumption | omega | (simp; omega)) | (apply qc1; (iterate 5 exact rfl)) | (apply qb0; exact rfl; exact rfl; (first | omega | (simp only [List.length_append, List.length_cons, List.length_nil]; omega) | (simp; omega))) | (apply w8; (iterate 3 exact rfl)) | (apply qcw; (iterate 5 exact rfl)) | (apply wk; (iterate 4 exact rfl)) | (apply qb8; (iterate 3 exact rfl)) | (apply qn0; (iterate 3 exact rfl); first | assumption | omega | (simp; omega)) | (apply qk8; exact rfl; exact rfl) | (apply qjb; exact rfl; exact rfl) | (apply qi8; (iterate 3 exact rfl); omega) | (apply qhg; (iterate 3 exact rfl)) | apply yc | apply qc7 | (apply qh0; exact rfl; exact rfl; exact z2 (by omega) (by omega)) | (apply qkz; (iterate 3 exact rfl)) | (apply qib; (iterate 3 exact rfl); first | assumption | omega | (simp; omega)) | (apply qh5; (iterate 3 exact rfl); first | assumption | omega | (simp; omega)) | (apply qgd; exact rfl; exact rfl))
  | (apply qf7; first | (apply qt; (iterate 3 exact rfl)) | (apply kw; (iterate 3 exact rfl)) | (apply kl; exact rfl; exact rfl; (first | omega | (simp only [List.length_append, List.length_cons, List.length_nil]; omega) | (simp; omega))) | (apply jj; exact rfl; exact rfl; exact z2 (by omega) (by omega)) | (apply w7; exact rfl; exact rfl; exact z2 (by omega) (by omega)) | (apply ku; exact rfl; exact rfl) | (apply j3; exact rfl; exact rfl) | (apply xa; exact rfl; exact rfl) | (apply xz; exact rfl; exact rfl) | (apply yp; (iterate 3 exact rfl)) | (apply qdb; (iterate 3 exact rfl)) | (apply qgc; exact rfl; exact rfl; (first | exact vg _ | exact rfl); first | exact vg _ | exact rfl) | (apply qf1; exact rfl; exact rfl; (first | exact vg _ | exact rfl); first | exact vg _ | exact rfl) | (apply qhs; exact rfl; exact rfl; (first | exact vg _ | exact rfl); first | exact vg _ | exact rfl) | (apply qf0; (iterate 3 exact rfl)) | (apply qgh; (iterate 3 exact rfl)))
  | (apply qh2; first | (apply qv; (iterate 3 exact rfl)) | (apply zb; (iterate 5 exact rfl)) | (apply qx; (iterate 5 exact rfl)))
  | (apply qhx; first | (apply qgk; exact rfl) | (apply kd; exact rfl) | (apply qd4; exact rfl))
  | (apply qgb; first | (apply qbv; (iterate 3 exact rfl); first | assumption | omega | (simp; omega)) | (apply kr; (iterate 3 exact rfl); first | assumption | omega | (simp; omega)) | (apply zz; (iterate 4 exact rfl); (first | assumption | omega | (simp; omega)); first | assumption | omega | (simp; omega)) | (apply qae; (iterate 4 exact rfl); (first | assumption | omega | exact Nat.succ_le_succ (Nat.zero_le _) | (simp; omega)); exact rfl))
  | (apply qg9; first | (apply j4; (iterate 3 exact rfl)) | (apply zo; (iterate 4 exact rfl)))
  | (apply qcj; first | (apply za; (iterate 3 exact rfl)) | (apply vt; (iterate 4 exact rfl)))
  | (apply qfx; first | (apply zm; (iterate 11 exact rfl)) | (apply q6; (iterate 11 exact rfl)))
  | (apply qi6; first | apply qa | apply qn | apply qf | (apply z1; exact rfl; exact rfl) | (apply zk; exact rfl; first | (apply jx; (first | assumption | omega)) | (apply jw; (first | assumption | omega)) | (apply jy; (first | exact rfl | assumption)) | (apply jv; (first | exact rfl | assumption)) | (apply pk_t; (first | exact rfl | assumption)) | (apply pk_f; (first | exact rfl | assumption))) | (apply z7; exact rfl; exact rfl) | apply qbi | (apply jh; exact rfl; exact rfl) | (apply ky; (iterate 4 exact rfl)) | (apply qft; (iterate 3 exact rfl)) | (apply wb; (iterate 3 exact rfl); first | assumption | omega | (simp; omega)) | (apply j6; (iterate 3 exact rfl)) | (apply qj; (iterate 9 exact rfl)) | (apply ki; exact rfl; exact rfl) | (apply qfb; (iterate 4 exact rfl); (first | assumption | omega | decide); exact rfl) | (apply qca; (iterate 4 exact rfl); first | assumption | omega | decide)))
 refine qq6 (i := 3) (sz := 4) (T' := 82) rfl ?_
 refine vz l (fun pre s => ∃ d c, pre = d ++ c ∧ whole d ∧ 10 ∉ c ∧ StE [(0, Sv l), (3, .sl 4 ((lns d).map lnA) (some (st.length + 0))), (4, Iv d.length), (5, Iv pre.length)] st [.tip (lns d).length 4 82] s) ⟨[], [], rfl, .inl rfl, by simp, we ⟨rfl, ?_, rfl, rfl, trivial⟩ ?_⟩ ?_ ?_
 ·rw [show lns [] = [] from ye 0 0]; simp; rfl
 ·rw [show lns [] = [] from ye 0 0]; show (st ++ []) ++ [AObj.tip 0 4 _] = _; simp
 ·rintro _ ⟨d, c, hdc, hw, hc, t, ext, rfl⟩
  have hll : l.length = d.length + c.length := by rw [hdc]; simp
  have hcnt := qbq _ d 0 0 (Nat.le_refl _)
  have hcnt' : (lns d).length ≤ d.length := hcnt
  have hml : ((lns d).map lnA).length = (lns d).length := by simp
  have happ : lns l = lns d ++ va (lns d).length d.length c := by
   unfold lns
   rw [hdc, qko _ d c 0 0 (Nat.le_refl _) hw]
   simp
  have hfrom : l.drop d.length = c := by rw [hdc]; simp
  repeat' (first
   | (apply qi0; first | apply qr | apply q7 | apply qe | (apply qg; exact rfl; first | (apply zd; (first | assumption | omega)) | (apply zf; (first | assumption | omega)) | (apply ze; (first | exact rfl | assumption)) | (apply zg; (first | exact rfl | assumption)) | (apply cd_n <;> intro h) | (apply cd_t; (first | exact rfl | assumption)) | (apply cd_f; (first | exact rfl | assumption)) | (apply cd_d <;> intro h) | (apply cd_s <;> intro h)) | (apply yh; exact rfl; kernel_rfl) | apply q8 | apply jp | apply q9)
   | (apply qgm; first | (apply zh; (iterate 4 exact rfl)) | (apply wt; (iterate 4 exact rfl)))
   | (apply qkx; first | (apply xc; (first | assumption | omega)) | (apply ko; (first | assumption | omega)) | (apply vo; (first | assumption | omega)) | (apply yz; (first | assumption | omega)) | (apply qc9; (first | exact rfl | assumption)) | (apply xq; (first | exact rfl | assumption)) | (apply qam; (first | exact rfl | assumption)) | (apply qb3; (first | exact rfl | assumption)) | (apply qdn <;> intro h) | (apply yg; (first | exact rfl | assumption)) | (apply qa1; (first | exact rfl | assumption)) | (apply x6; (first | exact rfl | assumption)) | (apply qaf; (first | exact rfl | assumption)) | (apply wc <;> intro h) | (apply qec <;> intro h))
   | (apply qk1; first | apply y8 | (apply qh6; (iterate 4 exact rfl)) | (apply qj0; exact rfl; exact rfl; exact z2 (by omega) (by omega)) | (apply qif; (iterate 4 exact rfl); (first | assumption | omega | (simp; omega)); first | assumption | omega | (simp; omega)) | (apply qc1; (iterate 5 exact rfl)) | (apply qb0; exact rfl; exact rfl; (first | omega | (simp only [List.length_append, List.length_cons, List.length_nil]; omega) | (simp; omega))) | (apply w8; (iterate 3 exact rfl)) | (apply qcw; (iterate 5 exact rfl)) | (apply wk; (iterate 4 exact rfl)) | (apply qb8; (iterate 3 exact rfl)) | (apply qn0; (iterate 3 exact rfl); first | assumption | omega | (simp; omega)) | (apply qk8; exact rfl; exact rfl) | (apply qjb; exact rfl; exact rfl) | (apply qi8; (iterate 3 exact rfl); omega) | (apply qhg; (iterate 3 exact rfl)) | apply yc | apply qc7 | (apply qh0; exact rfl; exact rfl; exact z2 (by omega) (by omega)) | (apply qkz; (iterate 3 exact rfl)) | (apply qib; (iterate 3 exact rfl); first | assumption | omega | (simp; omega)) | (apply qh5; (iterate 3 exact rfl); first | assumption | omega | (simp; omega)) | (apply qgd; exact rfl; exact rfl))
   | (apply qf7; first | (apply qt; (iterate 3 exact rfl)) | (apply kw; (iterate 3 exact rfl)) | (apply kl; exact rfl; exact rfl; (first | omega | (simp only [List.length_append, List.length_cons, List.length_nil]; omega) | (simp; omega))) | (apply jj; exact rfl; exact rfl; exact z2 (by omega) (by omega)) | (apply w7; exact rfl; exact rfl; exact z2 (by omega) (by omega)) | (apply ku; exact rfl; exact rfl) | (apply j3; exact rfl; exact rfl) | (apply xa; exact rfl; exact rfl) | (apply xz; exact rfl; exact rfl) | (apply yp; (iterate 3 exact rfl)) | (apply qdb; (iterate 3 exact rfl)) | (apply qgc; exact rfl; exact rfl; (first | exact vg _ | exact rfl); first | exact vg _ | exact rfl) | (apply qf1; exact rfl; exact rfl; (first | exact vg _ | exact rfl); first | exact vg _ | exact rfl) | (apply qhs; exact rfl; exact rfl; (first | exact vg _ | exact rfl); first | exact vg _ | exact rfl) | (apply qf0; (iterate 3 exact rfl)) | (apply qgh; (iterate 3 exact rfl)))
   | (apply qh2; first | (apply qv; (iterate 3 exact rfl)) | (apply zb; (iterate 5 exact rfl)) | (apply qx; (iterate 5 exact rfl)))
   | (apply qhx; first | (apply qgk; exact rfl) | (apply kd; exact rfl) | (apply qd4; exact rfl))
   | (apply qgb; first | (apply qbv; (iterate 3 exact rfl); first | assumption | omega | (simp; omega)) | (apply kr; (iterate 3 exact rfl); first | assumption | omega | (simp; omega)) | (apply zz; (iterate 4 exact rfl); (first | assumption | omega | (simp; omega)); first | assumption | omega | (simp; omega)) | (apply qae; (iterate 4 exact rfl); (first | assumption | omega | exact Nat.succ_le_succ (Nat.zero_le _) | (simp; omega)); exact rfl))
   | (apply qg9; first | (apply j4; (iterate 3 exact rfl)) | (apply zo; (iterate 4 exact rfl)))
   | (apply qcj; first | (apply za; (iterate 3 exact rfl)) | (apply vt; (iterate 4 exact rfl)))
   | (apply qfx; first | (apply zm; (iterate 11 exact rfl)) | (apply q6; (iterate 11 exact rfl)))
   | (apply qi6; first | apply qa | apply qn | apply qf | (apply z1; exact rfl; exact rfl) | (apply zk; exact rfl; first | (apply jx; (first | assumption | omega)) | (apply jw; (first | assumption | omega)) | (apply jy; (first | exact rfl | assumption)) | (apply jv; (first | exact rfl | assumption)) | (apply pk_t; (first | exact rfl | assumption)) | (apply pk_f; (first | exact rfl | assumption))) | (apply z7; exact rfl; exact rfl) | apply qbi | (apply jh; exact rfl; exact rfl) | (apply ky; (iterate 4 exact rfl)) | (apply qft; (iterate 3 exact rfl)) | (apply wb; (iterate 3 exact rfl); first | assumption | omega | (simp; omega)) | (apply j6; (iterate 3 exact rfl)) | (apply qj; (iterate 9 exact rfl)) | (apply ki; exact rfl; exact rfl) | (apply qfb; (iterate 4 exact rfl); (first | assumption | omega | decide); exact rfl) | (apply qca; (iterate 4 exact rfl); first | assumption | omega | decide))
   | (apply xx (n := (lns d).length) (m := 1) (sz := 4) (bytes := 40); (iterate 4 exact rfl); exact hml; exact rfl; exact rfl; exact ⟨⟨_, _, rfl, rfl, rfl, rfl, rfl⟩⟩; exact rfl; exact rfl; (unfold maxLen; omega); omega; exact rfl))
  ·have hne : c ≠ [] := fun e => by subst e; simp at hll; omega
   have e : AV.sl 4 ((lns d).map lnA ++ [AV.ag [Iv ((lns d).map lnA).length, Iv d.length, Sv (l.drop d.length), Bv false]]) none = AV.sl 4 ((lns l).map lnA) none := by
    rw [happ, quw _ _ hc hne, hml, hfrom, List.map_append]
    rfl
   exact qs rfl (qjs rfl rfl) ⟨e, kg _ _ _ _⟩
  ·have hce : c = [] := List.length_eq_zero_iff.1 (by omega)
   refine qs rfl (qjs rfl rfl) ⟨?_, kg _ _ _ _⟩
   rw [happ, hce, ye, List.append_nil]
 ·rintro pre a rest _ hr ⟨d, c, hdc, hw, hc, t, ext, rfl⟩
  have hlen : l.length = pre.length + (rest.length + 1) := by rw [hr]; simp
  have hpl : pre.length = d.length + c.length := by rw [hdc]; simp
  have hget : l.getD pre.length 0 = a := by rw [hr]; simp
  have hcnt := qbq _ d 0 0 (Nat.le_refl _)
  have hcnt' : (lns d).length ≤ d.length := hcnt
  have hml : ((lns d).map lnA).length = (lns d).length := by simp
  have hsp : (l.take pre.length).drop d.length = c := by rw [hr, List.take_left' rfl, hdc, List.drop_left' rfl]
  repeat' (first
   | (apply qi0; first | apply qr | apply q7 | apply qe | (apply qg; exact rfl; first | (apply zd; (first | assumption | omega)) | (apply zf; (first | assumption | omega)) | (apply ze; (first | exact rfl | assumption)) | (apply zg; (first | exact rfl | assumption)) | (apply cd_n <;> intro h) | (apply cd_t; (first | exact rfl | assumption)) | (apply cd_f; (first | exact rfl | assumption)) | (apply cd_d <;> intro h) | (apply cd_s <;> intro h)) | (apply yh; exact rfl; kernel_rfl) | apply q8 | apply jp | apply q9)
   | (apply qgm; first | (apply zh; (iterate 4 exact rfl)) | (apply wt; (iterate 4 exact rfl)))
   | (apply qkx; first | (apply xc; (first | assumption | omega)) | (apply ko; (first | assumption | omega)) | (apply vo; (first | assumption | omega)) | (apply yz; (first | assumption | omega)) | (apply qc9; (first | exact rfl | assumption)) | (apply xq; (first | exact rfl | assumption)) | (apply qam; (first | exact rfl | assumption)) | (apply qb3; (first | exact rfl | assumption)) | (apply qdn <;> intro h) | (apply yg; (first | exact rfl | assumption)) | (apply qa1; (first | exact rfl | assumption)) | (apply x6; (first | exact rfl | assumption)) | (apply qaf; (first | exact rfl | assumption)) | (apply wc <;> intro h) | (apply qec <;> intro h))
   | (apply qk1; first | apply y8 | (apply qh6; (iterate 4 exact rfl)) | (apply qj0; exact rfl; exact rfl; exact z2 (by omega) (by omega)) | (apply qif; (iterate 4 exact rfl); (first | assumption | omega | (simp; omega)); first | assumption | omega | (simp; omega)) | (apply qc1; (iterate 5 exact rfl)) | (apply qb0; exact rfl; exact rfl; (first | omega | (simp only [List.length_append, List.length_cons, List.length_nil]; omega) | (simp; omega))) | (apply w8; (iterate 3 exact rfl)) | (apply qcw; (iterate 5 exact rfl)) | (apply wk; (iterate 4 exact rfl)) | (apply qb8; (iterate 3 exact rfl)) | (apply qn0; (iterate 3 exact rfl); first | assumption | omega | (simp; omega)) | (apply qk8; exact rfl; exact rfl) | (apply qjb; exact rfl; exact rfl) | (apply qi8; (iterate 3 exact rfl); omega) | (apply qhg; (iterate 3 exact rfl)) | apply yc | apply qc7 | (apply qh0; exact rfl; exact rfl; exact z2 (by omega) (by omega)) | (apply qkz; (iterate 3 exact rfl)) | (apply qib; (iterate 3 exact rfl); first | assumption | omega | (simp; omega)) | (apply qh5; (iterate 3 exact rfl); first | assumption | omega | (simp; omega)) | (apply qgd; exact rfl; exact rfl))
   | (apply qf7; first | (apply qt; (iterate 3 exact rfl)) | (apply kw; (iterate 3 exact rfl)) | (apply kl; exact rfl; exact rfl; (first | omega | (simp only [List.length_append, List.length_cons, List.length_nil]; omega) | (simp; omega))) | (apply jj; exact rfl; exact rfl; exact z2 (by omega) (by omega)) | (apply w7; exact rfl; exact rfl; exact z2 (by omega) (by omega)) | (apply ku; exact rfl; exact rfl) | (apply j3; exact rfl; exact rfl) | (apply xa; exact rfl; exact rfl) | (apply xz; exact rfl; exact rfl) | (apply yp; (iterate 3 exact rfl)) | (apply qdb; (iterate 3 exact rfl)) | (apply qgc; exact rfl; exact rfl; (first | exact vg _ | exact rfl); first | exact vg _ | exact rfl) | (apply qf1; exact rfl; exact rfl; (first | exact vg _ | exact rfl); first | exact vg _ | exact rfl) | (apply qhs; exact rfl; exact rfl; (first | exact vg _ | exact rfl); first | exact vg _ | exact rfl) | (apply qf0; (iterate 3 exact rfl)) | (apply qgh; (iterate 3 exact rfl)))
   | (apply qh2; first | (apply qv; (iterate 3 exact rfl)) | (apply zb; (iterate 5 exact rfl)) | (apply qx; (iterate 5 exact rfl)))
   | (apply qhx; first | (apply qgk; exact rfl) | (apply kd; exact rfl) | (apply qd4; exact rfl))
   | (apply qgb; first | (apply qbv; (iterate 3 exact rfl); first | assumption | omega | (simp; omega)) | (apply kr; (iterate 3 exact rfl); first | assumption | omega | (simp; omega)) | (apply zz; (iterate 4 exact rfl); (first | assumption | omega | (simp; omega)); first | assumption | omega | (simp; omega)) | (apply qae; (iterate 4 exact rfl); (first | assumption | omega | exact Nat.succ_le_succ (Nat.zero_le _) | (simp; omega)); exact rfl))
   | (apply qg9; first | (apply j4; (iterate 3 exact rfl)) | (apply zo; (iterate 4 exact rfl)))
   | (apply qcj; first | (apply za; (iterate 3 exact rfl)) | (apply vt; (iterate 4 exact rfl)))
   | (apply qfx; first | (apply zm; (iterate 11 exact rfl)) | (apply q6; (iterate 11 exact rfl)))
   | (apply qi6; first | apply qa | apply qn | apply qf | (apply z1; exact rfl; exact rfl) | (apply zk; exact rfl; first | (apply jx; (first | assumption | omega)) | (apply jw; (first | assumption | omega)) | (apply jy; (first | exact rfl | assumption)) | (apply jv; (first | exact rfl | assumption)) | (apply pk_t; (first | exact rfl | assumption)) | (apply pk_f; (first | exact rfl | assumption))) | (apply z7; exact rfl; exact rfl) | apply qbi | (apply jh; exact rfl; exact rfl) | (apply ky; (iterate 4 exact rfl)) | (apply qft; (iterate 3 exact rfl)) | (apply wb; (iterate 3 exact rfl); first | assumption | omega | (simp; omega)) | (apply j6; (iterate 3 exact rfl)) | (apply qj; (iterate 9 exact rfl)) | (apply ki; exact rfl; exact rfl) | (apply qfb; (iterate 4 exact rfl); (first | assumption | omega | decide); exact rfl) | (apply qca; (iterate 4 exact rfl); first | assumption | omega | decide))
   | (apply xx (n := (lns d).length) (m := 1) (sz := 4) (bytes := 40); (iterate 4 exact rfl); exact hml; exact rfl; exact rfl; exact ⟨⟨_, _, rfl, rfl, rfl, rfl, rfl⟩⟩; exact rfl; exact rfl; (unfold maxLen; omega); omega; exact rfl))
  ·have ha : a = 10 := by have h := (qb4 _).1 (by assumption : ((l.getD pre.length 0).toNat : Int) = 10); rw [hget] at h; exact h
   have happ : lns (d ++ (c ++ [10])) = lns d ++ [⟨(lns d).length, d.length, c, true⟩] := by
    unfold lns
    rw [qko _ d (c ++ [10]) 0 0 (Nat.le_refl _) hw, qvv _ _ hc]
    simp
   refine ⟨d ++ (c ++ [10]), [], by rw [ha, hdc]; simp, .inr (by simp), by simp, vm ⟨rfl, ?_, ?_, xh pre a, trivial⟩ ?_⟩
   ·have e : AV.sl 4 ((lns d).map lnA ++ [AV.ag [Iv ((lns d).map lnA).length, Iv d.length, Sv ((l.take pre.length).drop d.length), Bv true]]) (some (st.length + 0)) = AV.sl 4 ((lns (d ++ (c ++ [10]))).map lnA) (some (st.length + 0)) := by
     rw [happ, hml, hsp, List.map_append]
     rfl
    exact e
   ·have e : Iv ((pre.length : Int) + 1) = Iv ((d ++ (c ++ [10])).length : Nat) := by
     have : (d ++ (c ++ [10])).length = pre.length + 1 := by simp; omega
     rw [this]
     rfl
    exact e
   ·rw [happ, xf]; rfl
  ·have ha : a ≠ 10 := fun e => absurd (by rw [hget]; exact (qb4 _).2 e : ((l.getD pre.length 0).toNat : Int) = 10) (by assumption)
   exact ⟨d, c ++ [a], by rw [hdc]; simp, hw, by simp [hc, Ne.symm ha], vm ⟨rfl, rfl, rfl, xh pre a, trivial⟩ rfl⟩
end Go.Proofs.YtefmcijohgpfhaaGreatDoor
set_option maxRecDepth 100000
set_option linter.unusedVariables false
namespace Go.Pl
open Go Go.Proofs
def indF (by' : qk) (ls : List (qk × Bool)) : qk := ls.flatMap fun x => by' ++ x.1 ++ wd x.2
def wm (by' l : qk) : qk := indF by' (kh l)
theorem qgf (by' : qk) (a b : List (qk × Bool)) : indF by' (a ++ b) = indF by' a ++ indF by' b := by simp [indF]
theorem qgl (by' : qk) (x : qk × Bool) : indF by' [x] = by' ++ x.1 ++ wd x.2 := by simp [indF]
def lsum (ls : List (qk × Bool)) : Nat := (ls.map fun x => x.1.length + (wd x.2).length).sum
theorem qbx : ∀ (n : Nat) (l : qk), l.length ≤ n → lsum (kh l) = l.length ∧ (kh l).length ≤ l.length
 | n, l, hn => by
  by_cases h : l = []
  ·subst h; simp [ya, lsum]
  ·have hlt := xv (c := 10) h
   cases n with
   | zero => omega
   | succ n =>
    obtain ⟨h1, h2⟩ := qbx n (past 10 l) (by omega)
    rw [ym h]
    unfold lsum at h1 ⊢
    simp only [List.map_cons, List.sum_cons, List.length_cons]
    rw [h1]
    have hp := xk 10 l
    have hu := wv 10 l
    by_cases h10 : 10 ∈ l
    ·have := qa7 h10
     simp [h10, wd]
     omega
    ·have hu2 : (upto 10 l).length = l.length := by rw [qd5 h10]
     have hpos := List.length_pos_iff.2 h
     simp [h10, wd]
     omega
theorem qfz (by' : qk) : ∀ (ls : List (qk × Bool)), (indF by' ls).length = lsum ls + by'.length * ls.length
 | [] => by simp [indF, lsum]
 | x :: r => by
  have ih := qfz by' r
  simp only [indF, lsum, List.flatMap_cons, List.length_append, List.map_cons, List.sum_cons, List.length_cons] at ih ⊢
  rw [ih, Nat.mul_add]
  omega
theorem qnq (a b : List (qk × Bool)) : lsum (a ++ b) = lsum a + lsum b := by simp [lsum]
end Go.Pl
namespace Go.Proofs.YtefmcijohgpfhaaGreatDoor
open Go Go.Av Go.RowKit Go.Proofs Go.Pl
theorem qhf (text : List UInt8) (st loc : List AObj) (n : Nat) (hn : loc.length = n) : zr E 72 [Sv text] (st ++ loc) fun r st1 => r = .fn (.func 113) [] [.bx (st.length + n) 0 0] ∧ st1 = st ++ (loc ++ [.cells 0 9 [Sv text]]) :=
 qp8 text (st ++ loc) _ (st.length + n) (by simp [hn]) (by rw [List.append_assoc])
theorem qsl (b sep : qk) (st : List AObj) (hl : b.length ≤ 140737488355328) : zr E 88 [.sl 1 [Sv b] none, Sv sep] st fun r st' => r = Sv b ∧ st' = st :=
 qk6 [b] none sep b st (by simp [Lib.join, List.intercalate]) (by simp) hl
theorem qwf {st a b ext : List AObj} {m : Nat} (h : ((st ++ a) ++ ext).length = m) (e : b.length = a.length) : ((st ++ b) ++ ext).length = m := by
 simp only [List.length_append] at h ⊢
 omega
set_option maxHeartbeats 2000000 in
theorem qt6 (text by' : qk) (st : List AObj) (hl : text.length < 100000000) (hb : by'.length < 1000) : zr E 49 [Sv text, .sl 1 [Sv by'] none] st fun r st' => r = Sv (wm by' text) ∧ st' = st := by
 refine z4 (jn _) (zp Tryz.func49 rfl (Nat.le_of_ble_eq_true rfl) ?_)
 obtain ⟨hsum, hcnt⟩ := qbx _ text (Nat.le_refl _)
 repeat' (first
  | (apply qe9; exact rfl)
  | apply qr
  | apply q7
  | apply qe
  | apply qa
  | apply qn
  | apply qf
  | (apply jh; exact rfl; exact rfl)
  | (apply q6; (iterate 11 exact rfl))
  | (apply qi; exact Tryz.call88; exact qsl _ _ _ (by omega))
  | (refine qi Tryz.call72 (qhf _ _ _ _ rfl) ?_))
 refine qkq (st := st) text rfl rfl (by omega) (fun k rest l => ∃ q don, (q = .v (.pointer none) ∨ q = .bx (st.length + 0) 0 0) ∧ kh text = don ++ kh rest ∧ l = [bldO 0 q (indF by' don) (st.length + 1), .tip (indF by' don).length 1 5, .cells 0 9 [Sv by'], .cells 0 9 [Sv text]]) (fun _ _ => False)
  ⟨_, [], .inl rfl, rfl, rfl⟩ (fun k rest l ⟨q, don, _, _, e⟩ => by subst e; exact ⟨rfl, rfl⟩) (fun _ _ h => h.elim) ?_ ?_ (fun _ _ _ h => h.elim)
 ·rintro F own rd k rest _ ext m hF ⟨q, don, hq, hd, rfl⟩ hne hle hm1 hm2
  have hmem : kh rest = (upto 10 rest, decide (10 ∈ rest)) :: kh (past 10 rest) := ym hne
  have hu := wv 10 rest
  have hlen := qfz by' (don ++ [(upto 10 rest, decide (10 ∈ rest))])
  have he : kh text = (don ++ [(upto 10 rest, decide (10 ∈ rest))]) ++ kh (past 10 rest) := by rw [hd, hmem]; simp
  have hs2 : lsum (don ++ [(upto 10 rest, decide (10 ∈ rest))]) + lsum (kh (past 10 rest)) = text.length := by rw [← qnq, ← he]; exact hsum
  have hc2 : (don ++ [(upto 10 rest, decide (10 ∈ rest))]).length + (kh (past 10 rest)).length ≤ text.length := by rw [← List.length_append, ← he]; exact hcnt
  have hm : by'.length * (don ++ [(upto 10 rest, decide (10 ∈ rest))]).length ≤ 1000 * 100000000 := Nat.mul_le_mul (by omega) (by omega)
  rw [qgf, qgl] at hlen
  simp only [List.length_append] at hlen hm hc2
  repeat' (first
   | (apply qpn; exact rfl; assumption; exact rfl)
   | (apply yq; exact rfl; assumption; (iterate 10 exact rfl))
   | apply qe
   | apply qa)
  refine ⟨_, rfl, rfl, ?_⟩
  repeat' (first
   | apply qr
   | apply q7
   | apply qe
   | apply qa
   | (apply qg; exact rfl; first | (apply zd; (first | assumption | omega)) | (apply zf; (first | assumption | omega)) | (apply ze; (first | exact rfl | assumption)) | (apply zg; (first | exact rfl | assumption)) | (apply cd_n <;> intro h) | (apply cd_t; (first | exact rfl | assumption)) | (apply cd_f; (first | exact rfl | assumption)) | (apply cd_d <;> intro h) | (apply cd_s <;> intro h))
   | (apply kl; exact rfl; exact rfl; (first | omega | (simp only [List.length_append, List.length_cons, List.length_nil]; omega) | (simp; omega)))
   | (apply za; (iterate 3 exact rfl))
   | (apply zb; (iterate 5 exact rfl))
   | apply q8
   | (apply qac; exact rfl; exact qwf hm2 rfl; (iterate 4 exact rfl))
   | (refine qi Tryz.call47 (qgn st _ _ _ _ 0 1 0 _ _ _ rfl rfl ?_ ?_ rfl) ?_; (first | exact hq | exact .inr rfl); (simp only [List.length_append, List.length_cons, List.length_nil]; omega)))
  all_goals
   have hx : indF by' (don ++ [(upto 10 rest, decide (10 ∈ rest))]) = (indF by' don ++ (by' ++ upto 10 rest)) ++ wd (decide (10 ∈ rest)) := by
    rw [qgf, qgl]; simp
   refine ⟨[bldO 0 (.bx (st.length + 0) 0 0) (indF by' (don ++ [(upto 10 rest, decide (10 ∈ rest))])) (st.length + 1), .tip (indF by' (don ++ [(upto 10 rest, decide (10 ∈ rest))])).length 1 5, .cells 0 9 [Sv by'], .cells 0 9 [Sv text]], ext, [.cells 0 129 (qau k text rest).cells], ?_, _, _, .inr rfl, he, rfl⟩
  ·have h10 : 10 ∈ rest := by simp_all
   rw [hx, show wd (decide (10 ∈ rest)) = [10] by simp [h10, wd]]
   rfl
  ·have h10 : 10 ∉ rest := by simp_all
   have hx2 : indF by' (don ++ [(upto 10 rest, decide (10 ∈ rest))]) = indF by' don ++ (by' ++ upto 10 rest) := by
    rw [hx]; simp [h10, wd]
   rw [hx2]
   rfl
 ·rintro k _ ext ⟨q, don, hq, hd, rfl⟩
  repeat' (first
   | apply qr
   | apply qe
   | apply qa
   | apply qf
   | apply q9
   | (refine qi Tryz.call50 (qfc st _ _ _ _ 0 1 0 _ _ rfl rfl rfl) ?_))
  refine qmb (k := 4) rfl rfl rfl (qs rfl (zt rfl) ⟨congrArg (fun l : qk => Sv l) (?_ : _ = wm by' text), kg _ _ _ _⟩)
  rw [ya, List.append_nil] at hd
  unfold wm
  rw [hd]
end Go.Proofs.YtefmcijohgpfhaaGreatDoor
set_option maxRecDepth 100000
set_option linter.unusedVariables false
namespace Go.Pl
open Go Go.Proofs
def xm (x : LnV) : qk × Bool := (x.text, x.ended)
theorem qlf (l : qk) : (lns l).map xm = kh l := ql5 _ l 0 0 (Nat.le_refl _)
end Go.Pl
namespace Go.Proofs.YtefmcijohgpfhaaGreatDoor
open Go Go.Av Go.RowKit Go.Proofs Go.Pl
set_option maxHeartbeats 2000000 in
theorem qol (text by' : qk) (st : List AObj) (hl : text.length < 100000000) (hb : by'.length < 1000) : zr E 54 [Sv text, Sv by'] st fun r st' => r = Sv (wm by' text) ∧ st' = st := by
 refine z4 (jn _) (zp Tryz.func54 rfl (Nat.le_of_ble_eq_true rfl) ?_)
 obtain ⟨hsum, hcnt⟩ := qbx _ text (Nat.le_refl _)
 have hp := qlf text
 have hpl : (lns text).length = (kh text).length := by rw [← hp, List.length_map]
 have hml : ((lns text).map lnA).length = (lns text).length := by simp
 repeat' (first
  | apply qr
  | apply q7
  | apply qe
  | apply qa
  | apply qn
  | apply qf
  | (apply zo; (iterate 4 exact rfl))
  | (apply qi; exact Tryz.call39; exact qjy _ _ hl))
 refine vz (lns text) (fun pre s => StE [(1, Sv by'), (5, Sv (indF by' (pre.map xm))), (9, lnsA (lns text)), (10, Iv (lns text).length), (11, Iv pre.length)] st [] s) (we ⟨rfl, rfl, rfl, congrArg (fun n : Nat => Iv (n : Int)) hml, rfl, trivial⟩ rfl) ?_ ?_
 ·rintro _ ⟨t, ext, rfl⟩
  repeat' (first
   | apply qr
   | apply qe
   | apply qa
   | apply qn
   | apply qf
   | (apply qt; (iterate 3 exact rfl))
   | (apply qg; exact rfl; first | (apply zd; (first | assumption | omega)) | (apply zf; (first | assumption | omega)) | (apply ze; (first | exact rfl | assumption)) | (apply zg; (first | exact rfl | assumption)) | (apply cd_n <;> intro h) | (apply cd_t; (first | exact rfl | assumption)) | (apply cd_f; (first | exact rfl | assumption)) | (apply cd_d <;> intro h) | (apply cd_s <;> intro h))
   | apply jp
   | apply q9)
  refine qs rfl (zt rfl) ⟨congrArg (fun l : qk => Sv l) (?_ : indF by' ((lns text).map xm) = _), kg _ _ _ _⟩
  rw [hp]
  rfl
 ·rintro pre a rest _ hr ⟨t, ext, rfl⟩
  have hlen : (lns text).length = pre.length + (rest.length + 1) := by rw [hr]; simp
  have hget : ((lns text).map lnA)[pre.length]? = some (lnA a) := by rw [hr]; simp
  have he : kh text = (pre.map xm ++ [xm a]) ++ rest.map xm := by rw [← hp, hr]; simp
  have hs2 : lsum (pre.map xm ++ [xm a]) + lsum (rest.map xm) = text.length := by rw [← qnq, ← he]; exact hsum
  have hil := qfz by' (pre.map xm ++ [xm a])
  have hm : by'.length * (pre.map xm ++ [xm a]).length ≤ 1000 * 100000000 := Nat.mul_le_mul (by omega) (by rw [List.length_append, List.length_map]; simp; omega)
  rw [qgf, qgl] at hil
  have e1 : (xm a).1 = a.text := rfl
  have e2 : (xm a).2 = a.ended := rfl
  rw [e1, e2] at hil
  simp only [List.length_append] at hil hm
  have hx : indF by' ((pre ++ [a]).map xm) = ((indF by' (pre.map xm) ++ by') ++ a.text) ++ wd a.ended := by
   rw [List.map_append, List.map_singleton, qgf, qgl, e1, e2]; simp
  cases hae : a.ended
  ·have hx2 : indF by' ((pre ++ [a]).map xm) = (indF by' (pre.map xm) ++ by') ++ a.text := by rw [hx, hae]; simp [wd]
   rw [hae] at hil
   repeat' (first
    | apply qr
    | apply q7
    | apply qe
    | apply qa
    | apply qn
    | apply qf
    | (apply qt; (iterate 3 exact rfl))
    | (apply qg; exact rfl; first | (apply zd; (first | assumption | omega)) | (apply zf; (first | assumption | omega)) | (apply ze; (first | exact rfl | assumption)) | (apply zg; (first | exact rfl | assumption)) | (apply cd_n <;> intro h) | (apply cd_t; (first | exact rfl | assumption)) | (apply cd_f; (first | exact rfl | assumption)) | (apply cd_d <;> intro h) | (apply cd_s <;> intro h))
    | (apply kl; exact rfl; exact rfl; (first | omega | (simp only [List.length_append, List.length_cons, List.length_nil]; omega) | (simp; omega)))
    | (apply jj; exact rfl; exact rfl; exact z2 (by omega) (by omega))
    | (apply jh; exact rfl; exact rfl)
    | (apply za; (iterate 3 exact rfl))
    | (apply qv; (iterate 3 exact rfl))
    | (apply qx; (iterate 5 exact rfl))
    | (apply q6; (iterate 11 exact rfl))
    | apply q8
    | (apply zy (n := pre.length); (iterate 5 exact rfl); exact hget))
   exact vm ⟨rfl, congrArg (fun l : qk => Sv l) hx2.symm, rfl, rfl, xh pre a, trivial⟩ rfl
  ·have hx2 : indF by' ((pre ++ [a]).map xm) = ((indF by' (pre.map xm) ++ by') ++ a.text) ++ [10] := by rw [hx, hae]; simp [wd]
   rw [hae] at hil
   have hle : (wd true).length = 1 := rfl
   repeat' (first
    | apply qr
    | apply q7
    | apply qe
    | apply qa
    | apply qn
    | apply qf
    | (apply qt; (iterate 3 exact rfl))
    | (apply qg; exact rfl; first | (apply zd; (first | assumption | omega)) | (apply zf; (first | assumption | omega)) | (apply ze; (first | exact rfl | assumption)) | (apply zg; (first | exact rfl | assumption)) | (apply cd_n <;> intro h) | (apply cd_t; (first | exact rfl | assumption)) | (apply cd_f; (first | exact rfl | assumption)) | (apply cd_d <;> intro h) | (apply cd_s <;> intro h))
    | (apply kl; exact rfl; exact rfl; (first | omega | (simp only [List.length_append, List.length_cons, List.length_nil]; omega) | (simp; omega)))
    | (apply jj; exact rfl; exact rfl; exact z2 (by omega) (by omega))
    | (apply jh; exact rfl; exact rfl)
    | (apply za; (iterate 3 exact rfl))
    | (apply qv; (iterate 3 exact rfl))
    | (apply qx; (iterate 5 exact rfl))
    | (apply q6; (iterate 11 exact rfl))
    | apply q8
    | (apply zy (n := pre.length); (iterate 5 exact rfl); exact hget))
   exact vm ⟨rfl, congrArg (fun l : qk => Sv l) hx2.symm, rfl, rfl, xh pre a, trivial⟩ rfl
end Go.Proofs.YtefmcijohgpfhaaGreatDoor
set_option linter.unusedVariables false
namespace Go.Av
open Go Go.RowKit
def TipC (b : Nat) (st : List AObj) (sz : Nat) (T : TypeId) (xs : List AV) (c : AV) : Prop := (xs = [] ∧ c = jm) ∨ ∃ t, c = .sl sz xs (some t) ∧ st[t]? = some (.tip xs.length sz T) ∧ b ≤ t
structure Fr (st st' : List AObj) (t : Nat) : Prop where
 len : st.length ≤ st'.length
 same : ∀ k, k ≠ t → k < st.length → st'[k]? = st[k]?
theorem qa5 (b : Nat) (st : List AObj) (sz : Nat) (T : TypeId) : TipC b st sz T [] jm := .inl ⟨rfl, rfl⟩
theorem qd9 {b : Nat} {st l : List AObj} {sz : Nat} {T : TypeId} {xs : List AV} {c : AV} (h : TipC b st sz T xs c) : TipC b (st ++ l) sz T xs c := by
 rcases h with h | ⟨t, h1, h2, h3⟩
 ·exact .inl h
 ·exact .inr ⟨t, h1, by rw [List.getElem?_append_left (lt_of_getElem? h2)]; exact h2, h3⟩
theorem kv {b o : Nat} {st : List AObj} {sz : Nat} {T : TypeId} {xs : List AV} {c : AV} {x : AObj} (ho : o < b) (h : TipC b st sz T xs c) : TipC b (st.set o x) sz T xs c := by
 rcases h with h | ⟨t, h1, h2, h3⟩
 ·exact .inl h
 ·exact .inr ⟨t, h1, qh h2 (by omega), h3⟩
theorem qkr {b t0 : Nat} {st st' : List AObj} {sz : Nat} {T : TypeId} {xs : List AV} {c : AV} (hf : Fr st st' t0) (hne : ∀ t, c = .sl sz xs (some t) → t ≠ t0) (h : TipC b st sz T xs c) : TipC b st' sz T xs c := by
 rcases h with h | ⟨t, h1, h2, h3⟩
 ·exact .inl h
 ·exact .inr ⟨t, h1, by rw [hf.same t (hne t h1) (lt_of_getElem? h2)]; exact h2, h3⟩
theorem x3 {b t0 : Nat} {st st' : List AObj} {sz sz0 : Nat} {T T0 : TypeId} {xs xs0 : List AV} {c c0 : AV} (hf : Fr st st' t0) (h0 : TipC b st sz0 T0 xs0 c0) (hid : c0 = .sl sz0 xs0 (some t0) ∨ st.length ≤ t0) (hd : (Nat.beq sz sz0 && Nat.beq T T0) = false) (h : TipC b st sz T xs c) : TipC b st' sz T xs c := by
 refine qkr hf (fun t ht e => ?_) h
 subst e
 rcases h with ⟨_, hc⟩ | ⟨t1, h1, h2, h3⟩
 ·rw [hc] at ht; simp at ht
 ·rw [ht] at h1
  simp only [AV.sl.injEq, Option.some.injEq, true_and] at h1
  subst h1
  rcases hid with hid | hid
  ·rcases h0 with ⟨_, hc⟩ | ⟨t2, k1, k2, k3⟩
   ·rw [hc] at hid; simp at hid
   ·rw [hid] at k1
    simp only [AV.sl.injEq, Option.some.injEq, true_and] at k1
    subst k1
    rw [h2] at k2
    simp only [Option.some.injEq, AObj.tip.injEq] at k2
    obtain ⟨_, rfl, rfl⟩ := k2
    simp at hd
  ·have := lt_of_getElem? h2
   omega
section
variable {E : Env} {rd : Option Nat} {N : Nat} {ops : Array Oper} {K : AS → Prop} {s : AS} {rest : List Oper} {d : Option Tmp} {T : TypeId} {p : String} {af : Array Edge}
theorem zq {x y : Operand} {t u T' : TypeId} {sz bytes b : Nat} {xs ys : List AV} {tip : Option Nat} {c : AV} {st : List AObj} (hst : s.st = st) (hx : qz N s x = c) (hc : TipC b st sz T' xs c) (hb : b ≤ st.length) (hy : qz N s y = .sl sz ys tip)
  (ht : E.P.underlying t = some (.slice T')) (hu : E.P.underlying u = some (.slice T')) (hT : qax E.P T' sz bytes) (hone : wg (flat ys) = true) (h63 : xs.length + ys.length ≤ maxLen) (hby : (xs.length + ys.length) * bytes ≤ 140737488355328)
  (h : ∀ t1 st', st'[t1]? = some (.tip (xs ++ ys).length sz T') → b ≤ t1 → Fr st st' t1 → (c = .sl sz xs (some t1) ∨ st.length ≤ t1) → AOps E rd N ops rest K (AS.put ⟨s.t, st', s.df⟩ d (.sl sz (xs ++ ys) (some t1)))) : AOps E rd N ops (⟨d, .call ⟨.builtin .append, #[x, y], #[t, u]⟩, T, p, af, none⟩ :: rest) K s := by
 subst hst
 refine jk rfl (ji nofun fun B0 w0 G a w _ hI => ?_)
 rcases hc with ⟨hxs, hcn⟩ | ⟨t1, h1, h2, h3⟩
 ·subst hxs
  have hle := G.le_new 0 0 0 false
  have hA := hI.agree.newTip sz T'
  have hv : a.eval x = .slice none 0 0 := hI.evalv (hx.trans hcn)
  have hn := hI.agree.n
  obtain ⟨news, k1, k2, k3⟩ := qc2 (P := E.P) hA ((hI.eval_of hy).mono hle) (by simpa [wg] using hone)
  have hr : Rel (G.new 0 0 0 false) (.sl sz [] (some s.st.length)) (a.eval x) := by
   rw [hv]
   exact .sl0 sz _ none 0 fun t ht => by simp only [Option.some.injEq] at ht; subst ht; exact ⟨by simp [Gh.new, hn], rfl, rfl⟩
  obtain ⟨v', w', G', e1, e2, e3, e4⟩ := qb2 (ty := T) hA ht hu (.inr ⟨_, rfl⟩) hT (t := s.st.length) (n := 0) (by simp) hr rfl rfl k1 k2 k3 (by simpa using h63) (by simpa using hby)
  refine ⟨v', w', G', _, _, ?_, hle.trans e2, e3, e4, h s.st.length _ ?_ hb ⟨by simp, fun k hk hlt => ?_⟩ (.inr (Nat.le_refl _))⟩
  ·generalize a.eval = ρ at e1
   simp [execOp, resolve, invoke, builtin, e1]
  ·simp
  ·rw [List.getElem?_set_ne (Ne.symm hk), List.getElem?_append_left hlt]
 ·obtain ⟨news, k1, k2, k3⟩ := qc2 (P := E.P) hI.agree (hI.eval_of hy) (by simpa [wg] using hone)
  obtain ⟨v', w', G', e1, e2, e3, e4⟩ := qb2 (ty := T) hI.agree ht hu (.inr ⟨_, rfl⟩) hT h2 (hI.eval_of (hx.trans h1)) rfl rfl k1 k2 k3 h63 hby
  refine ⟨v', w', G', _, _, ?_, e2, e3, e4, h t1 _ ?_ h3 ⟨by simp, fun k hk hlt => ?_⟩ (.inl h1)⟩
  ·generalize a.eval = ρ at e1
   simp [execOp, resolve, invoke, builtin, e1]
  ·rw [List.length_append]
   exact zn h2
  ·rw [List.getElem?_set_ne (Ne.symm hk)]
theorem qeq {t : TypeId} {x : Operand} {r : AV} {cs : List AV} (hx : qz N s x = r) (hok : r.okc = true) (hc : r.cells = cs)
  (h : AOps E rd N ops rest K (s.put d (.pp cs))) : AOps E rd N ops (⟨d, .box t x, T, p, af, none⟩ :: rest) K s := by
 refine jk rfl (ji nofun fun B0 w0 G a w _ hI => ?_)
 have hr := (hI.eval_of hx).cells hok
 rw [hc] at hr
 obtain ⟨hle, hA⟩ := hI.agree.newPub t (a.eval x).cells (0, 0) (a.eval x).cells.toList (fun i y hy => by simpa using hy)
 have hrun : (execOp a.eval ⟨d, .box t x, T, p, af, none⟩).run E.P w = .ok (.value (.pointer (some ⟨w.heap.size, 0, none⟩))) (w.alloc (.cells (a.eval x).cells t)) := by
  generalize a.eval = ρ
  simp [execOp, Instr.box, newVar, newRow, newObj, Sem.run]
 refine ⟨_, _, _, .pp cs, s.st, hrun, hle, hA, .pp cs w.heap.size 0 (a.eval x).cells.toList (by simp [Gh.publish]) (by rw [hr.1]; simp) fun i x y hx hy => (hr.2 i x y hx (by simpa using hy)).mono hle, h⟩
end
theorem qiq {E : Env} {f : FuncId} {x x' : AV} {us : List AV} {st : List AObj} {R : AV → List AObj → Prop} (hw : ∀ G v, Rel G x v → Rel G x' v) (h : zr E f (x' :: us) st R) : zr E f (x :: us) st R :=
 ⟨fun B0 w0 G vals w hL hA hR => h.run B0 w0 G vals w hL hA ⟨by have := hR.1; simpa using this, fun i a b ha hb => by
  cases i with
  | zero => simp at ha; subst ha; exact hw G b (hR.2 0 x b rfl hb)
  | succ i => exact hR.2 (i + 1) a b (by simpa using ha) hb⟩⟩
theorem z6 {st l : List AObj} {o : Nat} {x : AObj} (h : st[o]? = some x) : (st ++ l)[o]? = some x := by
 rw [List.getElem?_append_left (lt_of_getElem? h)]; exact h
theorem jl {st : List AObj} {x : AObj} : (st ++ [x])[st.length]? = some x := by simp
section
variable {E : Env} {rd : Option Nat} {N : Nat} {ops : Array Oper} {K : AS → Prop} {s : AS} {rest : List Oper} {d : Option Tmp} {T : TypeId} {p : String} {af : Array Edge}
theorem x7 {t : TypeId} {st : List AObj} {cs : List AV} (hst : s.st = st) (hz : qdq E.P t = some cs)
  (h : AOps E rd N ops rest K (AS.put ⟨s.t, st ++ [.cells 0 t cs], s.df⟩ d (.bx st.length 0 0))) : AOps E rd N ops (⟨d, .alloc t, T, p, af, none⟩ :: rest) K s :=
 jh (loc := []) (by rw [hst]; simp) hz h
end
theorem qcb {st st' : List AObj} (hl : st.length ≤ st'.length) (h : ∀ k, k < st.length → st'[k]? = st[k]?) : ∃ ext, st' = st ++ ext := by
 refine ⟨st'.drop st.length, ?_⟩
 apply List.ext_getElem?
 intro k
 by_cases hk : k < st.length
 ·rw [h k hk, List.getElem?_append_left hk]
 ·rw [List.getElem?_append_right (by omega), List.getElem?_drop]
  congr 1
  omega
end Go.Av
set_option maxRecDepth 100000
set_option linter.unusedVariables false
namespace Go.Pl
open Go Go.Proofs
structure wl where
 kind : Int
 raw : qk
 fields : List Fld
structure PSt where
 lines : List qk
 frm : Int
 full : Bool
 items : List wl
 block : List qk
 fields : List Fld
 records : Int
def vn (p : PSt) : Option (Int × Int) × PSt :=
 if p.lines = [] then (none, p)
 else if (jq p.lines).2 ≠ 0 then (some (p.frm, (jq p.lines).2), p)
 else if p.full = true then (some (p.frm, 11), p)
 else (none, { p with lines := [], fields := p.fields ++ [(jq p.lines).1] })
end Go.Pl
namespace Go.Proofs.YtefmcijohgpfhaaGreatDoor
open Go Go.Av Go.RowKit Go.Proofs Go.Pl
@[reducible] def zu (x : wl) : AV := .ag [Iv x.kind, Sv x.raw, jd x.fields]
@[reducible] def qfo (xs : List wl) : AV := .sl 3 (xs.map zu) none
@[reducible] def parC (c1 c2 c3 c4 : AV) (p : PSt) : List AV := [c1, Iv p.frm, Bv p.full, c2, c3, c4, Iv p.records]
@[reducible] def parO (c1 c2 c3 c4 : AV) (p : PSt) : AObj := .cells 0 148 (parC c1 c2 c3 c4 p)
structure ParS (b o : Nat) (p : PSt) (st : List AObj) (c1 c2 c3 c4 : AV) : Prop where
 lt : o < b
 le : b ≤ st.length
 ob : st[o]? = some (parO c1 c2 c3 c4 p)
 h1 : TipC b st 1 9 (p.lines.map fun x => Sv x) c1
 h2 : TipC b st 3 152 (p.items.map zu) c2
 h3 : TipC b st 1 9 (p.block.map fun x => Sv x) c3
 h4 : TipC b st 2 69 (p.fields.map fldA) c4
 ne : ∀ t xs ys, c1 = .sl 1 xs (some t) → c3 = .sl 1 ys (some t) → False
def Par (b o : Nat) (p : PSt) (st : List AObj) : Prop := ∃ c1 c2 c3 c4, ParS b o p st c1 c2 c3 c4
def qb1 (x : Option AObj) : Prop := ∀ n sz T, x ≠ some (.tip n sz T)
structure Keep (b o : Nat) (st st' : List AObj) : Prop where
 len : st.length ≤ st'.length
 same : ∀ k, k ≠ o → k < st.length → (k < b ∨ qb1 st[k]?) → st'[k]? = st[k]?
theorem Keep.trans {b o : Nat} {st st' st'' : List AObj} (h : Keep b o st st') (k : Keep b o st' st'') : Keep b o st st'' := ⟨Nat.le_trans h.len k.len, fun i hne hi hc => by
 have e := h.same i hne hi hc
 refine (k.same i hne (Nat.lt_of_lt_of_le hi h.len) ?_).trans e
 rw [e]
 exact hc⟩
theorem wy {b o : Nat} {st l : List AObj} (hb : b ≤ st.length) : Keep b o st (st ++ l) := ⟨by simp, fun k _ hk _ => List.getElem?_append_left hk⟩
theorem jc {b o : Nat} {st : List AObj} {x : AObj} : Keep b o st (st.set o x) := ⟨by simp, fun k hne _ _ => List.getElem?_set_ne (Ne.symm hne)⟩
theorem j9 {b o t sz : Nat} {T : TypeId} {xs : List AV} {c : AV} {st st' : List AObj} (hf : Fr st st' t) (hb : b ≤ st.length) (ht : b ≤ t) (h0 : TipC b st sz T xs c) (hid : c = .sl sz xs (some t) ∨ st.length ≤ t) : Keep b o st st' := ⟨hf.len, fun k _ hk hc => hf.same k (fun e => by
 subst e
 rcases hc with hc | hc
 ·omega
 ·rcases hid with hid | hid
  ·rcases h0 with ⟨_, h⟩ | ⟨t2, k1, k2, _⟩
   ·rw [h] at hid; simp at hid
   ·rw [hid] at k1
    simp only [AV.sl.injEq, Option.some.injEq, true_and] at k1
    subst k1
    exact hc _ _ _ k2
  ·omega) hk⟩
def qcc (a n : Int) : AV := .ifc 103 (.pp [Iv a, .ifc 31 (Iv n)])
def errP : Option (Int × Int) → AV
 | none => .v .nilIface
 | some (a, n) => qcc a n
theorem qe5 (a n : Int) : Pure (qcc a n) := qbm (qvq fun x hx => by
 simp only [List.mem_cons, List.not_mem_nil, or_false] at hx
 rcases hx with rfl | rfl
 ·exact jn _
 ·exact qbm (jn _))
theorem qel (a n : Int) (st : List AObj) : zr E 134 [Iv a, .ifc 31 (Iv n)] st fun r st' => r = qcc a n ∧ st' = st := by
 refine z4 (qe5 a n) (zp Tryz.func134 rfl (Nat.le_of_ble_eq_true rfl) ?_)
 repeat' (first
  | (apply qeq; (iterate 3 exact rfl))
  | apply qr
  | apply qe
  | apply qa
  | apply qn
  | apply qf
  | (apply z7; exact rfl; exact rfl)
  | (apply j6; (iterate 3 exact rfl))
  | apply q9)
 exact qs rfl (zt rfl) ⟨rfl, _, rfl⟩
theorem qkj (ls : List qk) (t : Option Nat) (st : List AObj) (hB : LsB ls) (h : (jq ls).2 = 0) : zr E 166 [.sl 1 (ls.map fun x => Sv x) t] st fun r st' => r = .tu [fldA (jq ls).1, .v .nilIface] ∧ st' = st := by
 have := qhp ls st hB
 unfold qbr at this
 rw [h] at this
 exact qiq (qdg _ _ _) this
theorem qqs (ls : List qk) (t : Option Nat) (st : List AObj) (hB : LsB ls) (h : (jq ls).2 ≠ 0) : zr E 166 [.sl 1 (ls.map fun x => Sv x) t] st fun r st' => r = .tu [fldA (jq ls).1, .ifc 31 (Iv (jq ls).2)] ∧ st' = st := by
 have := qhp ls st hB
 unfold qbr at this
 rw [qfg h] at this
 exact qiq (qdg _ _ _) this
theorem qld {b : Nat} {st : List AObj} {sz : Nat} {T : TypeId} {xs : List AV} {c : AV} (h : TipC b st sz T xs c) (hne : xs ≠ []) : ∃ t, c = .sl sz xs (some t) := by
 rcases h with ⟨h, _⟩ | ⟨t, h, _⟩
 ·exact absurd h hne
 ·exact ⟨t, h⟩
theorem qeh {b : Nat} {st : List AObj} {sz : Nat} {T : TypeId} {xs : List AV} {c : AV} (h : TipC b st sz T xs c) : lenA c = some xs.length := by
 rcases h with ⟨rfl, rfl⟩ | ⟨t, rfl, _⟩ <;> rfl
structure PB (n : Nat) (p : PSt) : Prop where
 small : n < 900000
 lines : p.lines.length ≤ n
 linesV : ∀ s ∈ p.lines, s.length < 1000000
 items : p.items.length ≤ n
 block : p.block.length ≤ n
 blockV : ∀ s ∈ p.block, s.length < 1000000
 fields : p.fields.length ≤ n
 rec0 : 0 ≤ p.records
 rec1 : p.records ≤ n
theorem PB.ls {n : Nat} {p : PSt} (h : PB n p) : LsB p.lines := ⟨by have := h.lines; have := h.small; omega, h.linesV⟩
theorem ParS.pre {b o : Nat} {p : PSt} {st l : List AObj} {c1 c2 c3 c4 : AV} (P : ParS b o p st c1 c2 c3 c4) : ParS b o p (st ++ l) c1 c2 c3 c4 :=
 ⟨P.lt, by have := P.le; simp; omega, z6 P.ob, qd9 P.h1, qd9 P.h2, qd9 P.h3, qd9 P.h4, P.ne⟩
theorem qed {b o t : Nat} {st : List AObj} {sz : Nat} {T : TypeId} {xs : List AV} (hlt : o < b) (g1 : st[t]? = some (.tip xs.length sz T)) (g2 : b ≤ t) : TipC b st sz T xs (.sl sz xs (some t)) := .inr ⟨t, rfl, g1, g2⟩
theorem qg5 {b o t : Nat} {p : PSt} {x : Fld} {st st' : List AObj} {c1 c2 c3 c4 : AV} {X : AObj} (P : ParS b o p st c1 c2 c3 c4) (g1 : st'[t]? = some (.tip (p.fields.map fldA ++ [fldA x]).length 2 69)) (g2 : b ≤ t) (g3 : Fr st st' t) (g4 : c4 = .sl 2 (p.fields.map fldA) (some t) ∨ st.length ≤ t) :
  Par b o { p with lines := [], fields := p.fields ++ [x] } ((st'.set o X).set o (parO jm c2 c3 (.sl 2 (p.fields.map fldA ++ [fldA x]) (some t)) p)) := by
 have hlt := P.lt
 have hle := P.le
 have hl := g3.len
 have e : (p.fields ++ [x]).map fldA = p.fields.map fldA ++ [fldA x] := by simp
 refine ⟨jm, c2, c3, .sl 2 (p.fields.map fldA ++ [fldA x]) (some t), hlt, by simp; omega, ?_, qa5 .., ?_, ?_, ?_, nofun⟩
 ·have : o < st'.length := by omega
  simp [this]
 ·exact kv hlt (kv hlt (x3 g3 P.h4 g4 rfl P.h2))
 ·exact kv hlt (kv hlt (x3 g3 P.h4 g4 rfl P.h3))
 ·refine kv hlt (kv hlt ?_)
  rw [← e] at g1 ⊢
  exact qed hlt g1 g2
set_option maxHeartbeats 4000000 in
theorem qk9 (b o : Nat) (p : PSt) (st : List AObj) (n : Nat) (h : Par b o p st) (hB : PB n p) : zr E 136 [.bx o 0 0] st fun r st' => r = errP (vn p).1 ∧ ((vn p).1 = none → Par b o (vn p).2 st') ∧ Keep b o st st' := by
 obtain ⟨c1, c2, c3, c4, P⟩ := h
 obtain ⟨ls, fr, fu, its, bk, fs, rc⟩ := p
 have hob : st[o]? = some (.cells 0 148 [c1, Iv fr, Bv fu, c2, c3, c4, Iv rc]) := P.ob
 have hl1 : lenA c1 = some (ls.map fun x => Sv x).length := qeh P.h1
 have hle := P.le
 have hlt := P.lt
 have hml : (ls.map fun x => Sv x).length = ls.length := by simp
 refine zp Tryz.func136 rfl (Nat.le_of_ble_eq_true rfl) ?_
 by_cases h0 : ls = []
 ·have hf : vn ⟨ls, fr, fu, its, bk, fs, rc⟩ = (none, ⟨ls, fr, fu, its, bk, fs, rc⟩) := if_pos h0
  have hz : (ls.map fun x => Sv x).length = 0 := by rw [h0]; rfl
  repeat' (first
   | apply qr
   | apply qe
   | apply qa
   | apply qn
   | apply qf
   | (apply qt; (iterate 3 exact rfl))
   | (apply qg; exact rfl; first | (apply zd; (first | assumption | omega)) | (apply zf; (first | assumption | omega)) | (apply ze; (first | exact rfl | assumption)) | (apply zg; (first | exact rfl | assumption)) | (apply cd_n <;> intro h) | (apply cd_t; (first | exact rfl | assumption)) | (apply cd_f; (first | exact rfl | assumption)) | (apply cd_d <;> intro h) | (apply cd_s <;> intro h))
   | (apply za; (iterate 3 exact rfl))
   | (apply ki; exact rfl; exact rfl)
   | apply q9
   | (apply qb; exact rfl; exact z6 hob; exact rfl; exact rfl)
   | (apply zo; exact rfl; exact hl1; exact rfl; exact rfl))
  refine qs rfl (zt rfl) ⟨?_, ?_, wy hle⟩
  ·rw [hf]; rfl
  ·rw [hf]
   intro _
   rw [List.append_nil]
   exact ⟨c1, c2, c3, c4, P⟩
 ·have hz : 0 < (ls.map fun x => Sv x).length := by rw [hml]; exact List.length_pos_iff.2 h0
  obtain ⟨t1, rfl⟩ : ∃ t, c1 = .sl 1 (ls.map fun x => Sv x) (some t) := qld P.h1 (by simpa using h0)
  by_cases hu : (jq ls).2 = 0
  ·cases fu
   ·have hf : vn ⟨ls, fr, false, its, bk, fs, rc⟩ = (none, ⟨[], fr, false, its, bk, fs ++ [(jq ls).1], rc⟩) := by
     unfold vn
     rw [if_neg h0, if_neg (by simp [hu]), if_neg (by simp)]
    rw [hf]
    have hfl : fs.length < 1000000 := Nat.lt_of_le_of_lt hB.fields (by have := hB.small; omega)
    have hmf : (fs.map fldA).length = fs.length := by simp
    repeat' (first
     | apply qr
     | apply q7
     | apply qe
     | apply qa
     | apply qn
     | apply qf
     | (apply z1; exact rfl; exact rfl)
     | (apply qt; (iterate 3 exact rfl))
     | (apply qg; exact rfl; first | (apply zd; (first | assumption | omega)) | (apply zf; (first | assumption | omega)) | (apply ze; (first | exact rfl | assumption)) | (apply zg; (first | exact rfl | assumption)) | (apply cd_n <;> intro h) | (apply cd_t; (first | exact rfl | assumption)) | (apply cd_f; (first | exact rfl | assumption)) | (apply cd_d <;> intro h) | (apply cd_s <;> intro h))
     | (apply zo; (iterate 4 exact rfl))
     | (apply j3; exact rfl; exact rfl)
     | (apply jh; exact rfl; exact rfl)
     | (apply za; (iterate 3 exact rfl))
     | (apply q6; (iterate 11 exact rfl))
     | (apply ki; exact rfl; exact rfl)
     | apply q8
     | (apply qi; exact Tryz.call166; exact qkj _ _ _ hB.ls hu)
     | (apply qb; exact rfl; exact z6 hob; exact rfl; exact rfl))
    have P2 := P.pre (l := [.cells 0 69 (fldA (jq ls).1).cells])
    have hl2 : b ≤ (st ++ [AObj.cells 0 69 (fldA (jq ls).1).cells]).length := P2.le
    have hol : o < (st ++ [AObj.cells 0 69 (fldA (jq ls).1).cells]).length := by omega
    have hob2 := z6 (l := [AObj.cells 0 69 (fldA (jq ls).1).cells]) hob
    refine qat (fun s => s.df = [] ∧ Par b o ⟨[], fr, false, its, bk, fs ++ [(jq ls).1], rc⟩ s.st ∧ Keep b o st s.st) ?_ ?_
    ·refine x8 rfl rfl ?_
     (apply qo 0; exact rfl; kernel_rfl; kernel_rfl; kernel_rfl; exact rfl; exact vv)
     (apply qo 1; exact rfl; kernel_rfl; kernel_rfl; kernel_rfl; exact rfl; exact vv)
     (apply qo 2; exact rfl; kernel_rfl; kernel_rfl; kernel_rfl; exact rfl; exact vv)
     (apply qo 3; exact rfl; kernel_rfl; kernel_rfl; kernel_rfl; exact rfl; (apply zx; exact rfl; exact rfl))
     (apply qo 4; exact rfl; kernel_rfl; kernel_rfl; kernel_rfl; exact rfl; (first | (apply qq; (iterate 3 exact rfl)) | (apply qp; (iterate 4 exact rfl))))
     refine qc [5, 6] (by kernel_rfl) rfl ⟨⟨_, rfl, ?_⟩, ⟨_, rfl, ?_⟩, trivial⟩
     ·(first | (apply qb; exact rfl; exact hob2; exact rfl; exact rfl) | (apply zb; (iterate 5 exact rfl)) | (apply qx; (iterate 5 exact rfl)) | (apply qv; (iterate 3 exact rfl)))
      apply qa
      refine qc [6] (by kernel_rfl) rfl ⟨⟨_, rfl, ?_⟩, trivial⟩
      (first | (apply qb; exact rfl; exact hob2; exact rfl; exact rfl) | (apply zb; (iterate 5 exact rfl)) | (apply qx; (iterate 5 exact rfl)) | (apply qv; (iterate 3 exact rfl)))
      apply qa
      refine qc [7] (by kernel_rfl) rfl ⟨⟨_, rfl, ?_⟩, trivial⟩
      (apply qj; (iterate 9 exact rfl))
      apply qa
      refine qc [8] (by kernel_rfl) rfl ⟨⟨_, rfl, ?_⟩, trivial⟩
      (apply zq (b := b) (xs := fs.map fldA) (ys := [fldA (jq ls).1]) (bytes := 32); exact rfl; exact rfl; exact P2.h4; exact hl2; (iterate 3 exact rfl); exact ⟨⟨_, _, rfl, rfl, rfl, rfl, rfl⟩⟩; exact rfl; (simp [maxLen]; omega); (simp; omega); intro t4 st4 g1 g2 g3 g4; have ho4 := (g3.same o (by omega) hol).trans hob2)
      apply qa
      (apply qo 9; exact rfl; kernel_rfl; kernel_rfl; kernel_rfl; exact rfl; (apply zx; exact rfl; exact rfl))
      (apply qo 10; exact rfl; kernel_rfl; kernel_rfl; kernel_rfl; exact rfl; (first | (apply qq; (iterate 3 exact rfl)) | (apply qp; (iterate 4 exact rfl))))
      refine qc [11] (by kernel_rfl) rfl ⟨⟨_, rfl, ?_⟩, trivial⟩
      (first | (apply qm; exact rfl; exact rfl; exact ho4; (iterate 6 exact rfl)) | (apply qm; exact rfl; exact rfl; exact zn ho4; (iterate 6 exact rfl)) | (apply zm; (iterate 11 exact rfl)) | (apply q6; (iterate 11 exact rfl)))
      apply qa
      (apply qo 12; exact rfl; kernel_rfl; kernel_rfl; kernel_rfl; exact rfl; (apply zx; exact rfl; exact rfl))
      (apply qo 13; exact rfl; kernel_rfl; kernel_rfl; kernel_rfl; exact rfl; (first | (apply qq; (iterate 3 exact rfl)) | (apply qp; (iterate 4 exact rfl))))
      (apply qo 14; exact rfl; kernel_rfl; kernel_rfl; kernel_rfl; exact rfl; (first | (apply qq; (iterate 3 exact rfl)) | (apply qp; (iterate 4 exact rfl))))
      refine qc [15] (by kernel_rfl) rfl ⟨⟨_, rfl, ?_⟩, trivial⟩
      (first | (apply qm; exact rfl; exact rfl; exact ho4; (iterate 6 exact rfl)) | (apply qm; exact rfl; exact rfl; exact zn ho4; (iterate 6 exact rfl)) | (apply zm; (iterate 11 exact rfl)) | (apply q6; (iterate 11 exact rfl)))
      apply qa
      refine zj (by kernel_rfl) ?_
      exact ⟨rfl, qg5 P2 g1 g2 g3 g4, ((wy hle).trans (j9 g3 hl2 g2 P2.h4 g4)).trans (jc.trans jc)⟩
     ·(first | (apply qb; exact rfl; exact hob2; exact rfl; exact rfl) | (apply zb; (iterate 5 exact rfl)) | (apply qx; (iterate 5 exact rfl)) | (apply qv; (iterate 3 exact rfl)))
      apply qa
      refine qc [5, 7] (by kernel_rfl) rfl ⟨⟨_, rfl, ?_⟩, ⟨_, rfl, ?_⟩, trivial⟩
      ·(first | (apply qb; exact rfl; exact hob2; exact rfl; exact rfl) | (apply zb; (iterate 5 exact rfl)) | (apply qx; (iterate 5 exact rfl)) | (apply qv; (iterate 3 exact rfl)))
       apply qa
       refine qc [7] (by kernel_rfl) rfl ⟨⟨_, rfl, ?_⟩, trivial⟩
       (apply qj; (iterate 9 exact rfl))
       apply qa
       refine qc [8] (by kernel_rfl) rfl ⟨⟨_, rfl, ?_⟩, trivial⟩
       (apply zq (b := b) (xs := fs.map fldA) (ys := [fldA (jq ls).1]) (bytes := 32); exact rfl; exact rfl; exact P2.h4; exact hl2; (iterate 3 exact rfl); exact ⟨⟨_, _, rfl, rfl, rfl, rfl, rfl⟩⟩; exact rfl; (simp [maxLen]; omega); (simp; omega); intro t4 st4 g1 g2 g3 g4; have ho4 := (g3.same o (by omega) hol).trans hob2)
       apply qa
       (apply qo 9; exact rfl; kernel_rfl; kernel_rfl; kernel_rfl; exact rfl; (apply zx; exact rfl; exact rfl))
       (apply qo 10; exact rfl; kernel_rfl; kernel_rfl; kernel_rfl; exact rfl; (first | (apply qq; (iterate 3 exact rfl)) | (apply qp; (iterate 4 exact rfl))))
       refine qc [11] (by kernel_rfl) rfl ⟨⟨_, rfl, ?_⟩, trivial⟩
       (first | (apply qm; exact rfl; exact rfl; exact ho4; (iterate 6 exact rfl)) | (apply qm; exact rfl; exact rfl; exact zn ho4; (iterate 6 exact rfl)) | (apply zm; (iterate 11 exact rfl)) | (apply q6; (iterate 11 exact rfl)))
       apply qa
       (apply qo 12; exact rfl; kernel_rfl; kernel_rfl; kernel_rfl; exact rfl; (apply zx; exact rfl; exact rfl))
       (apply qo 13; exact rfl; kernel_rfl; kernel_rfl; kernel_rfl; exact rfl; (first | (apply qq; (iterate 3 exact rfl)) | (apply qp; (iterate 4 exact rfl))))
       (apply qo 14; exact rfl; kernel_rfl; kernel_rfl; kernel_rfl; exact rfl; (first | (apply qq; (iterate 3 exact rfl)) | (apply qp; (iterate 4 exact rfl))))
       refine qc [15] (by kernel_rfl) rfl ⟨⟨_, rfl, ?_⟩, trivial⟩
       (first | (apply qm; exact rfl; exact rfl; exact ho4; (iterate 6 exact rfl)) | (apply qm; exact rfl; exact rfl; exact zn ho4; (iterate 6 exact rfl)) | (apply zm; (iterate 11 exact rfl)) | (apply q6; (iterate 11 exact rfl)))
       apply qa
       refine zj (by kernel_rfl) ?_
       exact ⟨rfl, qg5 P2 g1 g2 g3 g4, ((wy hle).trans (j9 g3 hl2 g2 P2.h4 g4)).trans (jc.trans jc)⟩
      ·(apply qj; (iterate 9 exact rfl))
       apply qa
       refine qc [5] (by kernel_rfl) rfl ⟨⟨_, rfl, ?_⟩, trivial⟩
       (first | (apply qb; exact rfl; exact hob2; exact rfl; exact rfl) | (apply zb; (iterate 5 exact rfl)) | (apply qx; (iterate 5 exact rfl)) | (apply qv; (iterate 3 exact rfl)))
       apply qa
       refine qc [8] (by kernel_rfl) rfl ⟨⟨_, rfl, ?_⟩, trivial⟩
       (apply zq (b := b) (xs := fs.map fldA) (ys := [fldA (jq ls).1]) (bytes := 32); exact rfl; exact rfl; exact P2.h4; exact hl2; (iterate 3 exact rfl); exact ⟨⟨_, _, rfl, rfl, rfl, rfl, rfl⟩⟩; exact rfl; (simp [maxLen]; omega); (simp; omega); intro t4 st4 g1 g2 g3 g4; have ho4 := (g3.same o (by omega) hol).trans hob2)
       apply qa
       (apply qo 9; exact rfl; kernel_rfl; kernel_rfl; kernel_rfl; exact rfl; (apply zx; exact rfl; exact rfl))
       (apply qo 10; exact rfl; kernel_rfl; kernel_rfl; kernel_rfl; exact rfl; (first | (apply qq; (iterate 3 exact rfl)) | (apply qp; (iterate 4 exact rfl))))
       refine qc [11] (by kernel_rfl) rfl ⟨⟨_, rfl, ?_⟩, trivial⟩
       (first | (apply qm; exact rfl; exact rfl; exact ho4; (iterate 6 exact rfl)) | (apply qm; exact rfl; exact rfl; exact zn ho4; (iterate 6 exact rfl)) | (apply zm; (iterate 11 exact rfl)) | (apply q6; (iterate 11 exact rfl)))
       apply qa
       (apply qo 12; exact rfl; kernel_rfl; kernel_rfl; kernel_rfl; exact rfl; (apply zx; exact rfl; exact rfl))
       (apply qo 13; exact rfl; kernel_rfl; kernel_rfl; kernel_rfl; exact rfl; (first | (apply qq; (iterate 3 exact rfl)) | (apply qp; (iterate 4 exact rfl))))
       (apply qo 14; exact rfl; kernel_rfl; kernel_rfl; kernel_rfl; exact rfl; (first | (apply qq; (iterate 3 exact rfl)) | (apply qp; (iterate 4 exact rfl))))
       refine qc [15] (by kernel_rfl) rfl ⟨⟨_, rfl, ?_⟩, trivial⟩
       (first | (apply qm; exact rfl; exact rfl; exact ho4; (iterate 6 exact rfl)) | (apply qm; exact rfl; exact rfl; exact zn ho4; (iterate 6 exact rfl)) | (apply zm; (iterate 11 exact rfl)) | (apply q6; (iterate 11 exact rfl)))
       apply qa
       refine zj (by kernel_rfl) ?_
       exact ⟨rfl, qg5 P2 g1 g2 g3 g4, ((wy hle).trans (j9 g3 hl2 g2 P2.h4 g4)).trans (jc.trans jc)⟩
    ·rintro ⟨t2, st2, df2⟩ ⟨hd, hp, hk⟩
     simp only at hd hp hk
     subst hd
     repeat' (first
      | apply qr
      | apply qe
      | apply qa
      | apply qf
      | apply q9)
     exact qs rfl (zt rfl) ⟨rfl, fun _ => hp, hk⟩
   ·have hf : vn ⟨ls, fr, true, its, bk, fs, rc⟩ = (some (fr, 11), ⟨ls, fr, true, its, bk, fs, rc⟩) := by
     unfold vn
     rw [if_neg h0, if_neg (by simp [hu]), if_pos rfl]
    rw [hf]
    repeat' (first
     | apply qr
     | apply q7
     | apply qe
     | apply qa
     | apply qn
     | apply qf
     | (apply z1; exact rfl; exact rfl)
     | (apply qt; (iterate 3 exact rfl))
     | (apply qg; exact rfl; first | (apply zd; (first | assumption | omega)) | (apply zf; (first | assumption | omega)) | (apply ze; (first | exact rfl | assumption)) | (apply zg; (first | exact rfl | assumption)) | (apply cd_n <;> intro h) | (apply cd_t; (first | exact rfl | assumption)) | (apply cd_f; (first | exact rfl | assumption)) | (apply cd_d <;> intro h) | (apply cd_s <;> intro h))
     | (apply zo; (iterate 4 exact rfl))
     | (apply j3; exact rfl; exact rfl)
     | (apply z7; exact rfl; exact rfl)
     | (apply jh; exact rfl; exact rfl)
     | (apply za; (iterate 3 exact rfl))
     | (apply q6; (iterate 11 exact rfl))
     | (apply ki; exact rfl; exact rfl)
     | apply q8
     | apply q9
     | (apply qi; exact Tryz.call166; exact qkj _ _ _ hB.ls hu)
     | (apply qi; exact Tryz.call134; exact qel _ _ _)
     | (apply qb; exact rfl; exact z6 hob; exact rfl; exact rfl))
    exact qs rfl (zt rfl) ⟨rfl, nofun, wy hle⟩
  ·have hf : vn ⟨ls, fr, fu, its, bk, fs, rc⟩ = (some (fr, (jq ls).2), ⟨ls, fr, fu, its, bk, fs, rc⟩) := by
    unfold vn
    rw [if_neg h0, if_pos hu]
   rw [hf]
   repeat' (first
    | apply qr
    | apply q7
    | apply qe
    | apply qa
    | apply qn
    | apply qf
    | (apply z1; exact rfl; exact rfl)
    | (apply qt; (iterate 3 exact rfl))
    | (apply qg; exact rfl; first | (apply zd; (first | assumption | omega)) | (apply zf; (first | assumption | omega)) | (apply ze; (first | exact rfl | assumption)) | (apply zg; (first | exact rfl | assumption)) | (apply cd_n <;> intro h) | (apply cd_t; (first | exact rfl | assumption)) | (apply cd_f; (first | exact rfl | assumption)) | (apply cd_d <;> intro h) | (apply cd_s <;> intro h))
    | (apply zo; (iterate 4 exact rfl))
    | (apply ku; exact rfl; exact rfl)
    | (apply jh; exact rfl; exact rfl)
    | (apply za; (iterate 3 exact rfl))
    | (apply q6; (iterate 11 exact rfl))
    | (apply ki; exact rfl; exact rfl)
    | apply q8
    | apply q9
    | (apply qi; exact Tryz.call166; exact qqs _ _ _ hB.ls hu)
    | (apply qi; exact Tryz.call134; exact qel _ _ _)
    | (apply qb; exact rfl; exact z6 hob; exact rfl; exact rfl))
   exact qs rfl (zt rfl) ⟨rfl, nofun, wy hle⟩
end Go.Proofs.YtefmcijohgpfhaaGreatDoor
set_option maxRecDepth 100000
set_option linter.unusedVariables false
namespace Go.Pl
open Go Go.Proofs
def w6 (p : PSt) : PSt :=
 if p.block = [] then { p with block := [], fields := [] }
 else { p with items := p.items ++ [⟨if p.fields = [] then 2 else 3, j0 p.block, p.fields⟩], records := if p.fields = [] then p.records else p.records + 1, block := [], fields := [] }
def endP (p : PSt) : Option (Int × Int) × PSt := match (vn p).1 with
 | some e => (some e, p)
 | none => (none, w6 (vn p).2)
theorem qhn : ∀ (x : qk) (r : List qk), Lib.join (x :: r) [10] ++ [10] = j0 (x :: r)
 | x, [] => by rw [Lib.join_one]; simp [j0]
 | x, y :: r => by
  have ih := qhn y r
  rw [Lib.join_cons] at ih ⊢
  unfold Lib.joinTail at ih ⊢
  simp only [List.map_cons, List.flatten_cons, j0, List.flatMap_cons] at ih ⊢
  rw [← ih]
  simp
theorem qf5 : ∀ (r : List qk), (∀ s ∈ r, s.length < 1000000) → (j0 r).length ≤ 1000001 * r.length
 | [], _ => by simp [j0]
 | a :: r, h => by
  have ih := qf5 r fun s hs => h s (by simp [hs])
  have ha := h a (by simp)
  simp only [j0, List.flatMap_cons, List.length_append, List.length_cons, List.length_nil] at ih ⊢
  omega
end Go.Pl
namespace Go.Proofs.YtefmcijohgpfhaaGreatDoor
open Go Go.Av Go.RowKit Go.Proofs Go.Pl
theorem jb {b : Nat} {st : List AObj} {sz : Nat} {T : TypeId} {xs : List AV} {c : AV} (h : TipC b st sz T xs c) : ∀ G v, Rel G c v → Rel G (.sl sz xs none) v := by
 rcases h with ⟨rfl, rfl⟩ | ⟨t, rfl, _⟩
 ·exact fun G v h => qex h
 ·exact fun G v h => qev h
theorem qep {n : Nat} {p : PSt} (h : PB n p) (hs : n + 1 < 900000) : PB (n + 1) (vn p).2 := by
 have h1 := h.lines; have h2 := h.items; have h3 := h.block; have h4 := h.fields; have h5 := h.rec0; have h6 := h.rec1
 unfold vn
 split
 ·exact ⟨hs, by simp only; omega, h.linesV, by simp only; omega, by simp only; omega, h.blockV, by simp only; omega, h5, by simp only; omega⟩
 ·split
  ·exact ⟨hs, by simp only; omega, h.linesV, by simp only; omega, by simp only; omega, h.blockV, by simp only; omega, h5, by simp only; omega⟩
  ·split
   ·exact ⟨hs, by simp only; omega, h.linesV, by simp only; omega, by simp only; omega, h.blockV, by simp only; omega, h5, by simp only; omega⟩
   ·exact ⟨hs, by simp, by simp, by simp only; omega, by simp only; omega, h.blockV, by simp; omega, h5, by simp only; omega⟩
theorem qez {x : Option (Int × Int)} {a n : Int} (h : x = some (a, n)) : errP x = .ifc 103 (.pp [Iv a, .ifc 31 (Iv n)]) := by subst h; rfl
theorem js (xs : List qk) (tip : Option Nat) (st : List AObj) (hne : xs ≠ []) (hN : xs.length ≤ 900000) (hv : ∀ s ∈ xs, s.length < 1000000) : zr E 88 [.sl 1 (xs.map fun x => Sv x) tip, Sv [10]] st fun r st' => r = Sv (Lib.join xs [10]) ∧ st' = st := by
 refine qr4 xs tip [10] st (by omega) ?_
 have h1 := qf5 xs hv
 cases xs with
 | nil => exact absurd rfl hne
 | cons x r =>
  have h2 := congrArg List.length (qhn x r)
  rw [List.length_append] at h2
  simp only [List.length_cons, List.length_nil] at h2 h1 hN
  omega
theorem qhl {b o : Nat} {p : PSt} {st : List AObj} {c1 c2 c3 c4 : AV} {X : AObj} (P : ParS b o p st c1 c2 c3 c4) : Par b o { p with block := [], fields := [] } ((st.set o X).set o (parO c1 c2 jm jm p)) := by
 have hlt := P.lt
 have hle := P.le
 refine ⟨c1, c2, jm, jm, hlt, by simp; omega, ?_, kv hlt (kv hlt P.h1), kv hlt (kv hlt P.h2), qa5 .., qa5 .., nofun⟩
 have : o < st.length := by omega
 simp [this]
theorem ka {b o t : Nat} {p : PSt} {x : wl} {st st' : List AObj} {c1 c2 c3 c4 : AV} (P : ParS b o p st c1 c2 c3 c4) (g1 : st'[t]? = some (.tip (p.items.map zu ++ [zu x]).length 3 152)) (g2 : b ≤ t) (g3 : Fr st st' t) (g4 : c2 = .sl 3 (p.items.map zu) (some t) ∨ st.length ≤ t) :
  Par b o { p with items := p.items ++ [x] } (st'.set o (parO c1 (.sl 3 (p.items.map zu ++ [zu x]) (some t)) c3 c4 p)) := by
 have hlt := P.lt
 have hle := P.le
 have hl := g3.len
 have e : (p.items ++ [x]).map zu = p.items.map zu ++ [zu x] := by simp
 refine ⟨c1, .sl 3 (p.items.map zu ++ [zu x]) (some t), c3, c4, hlt, by simp; omega, ?_, ?_, ?_, ?_, ?_, P.ne⟩
 ·have : o < st'.length := by omega
  simp [this]
 ·exact kv hlt (x3 g3 P.h2 g4 rfl P.h1)
 ·refine kv hlt ?_
  rw [← e] at g1 ⊢
  exact qed hlt g1 g2
 ·exact kv hlt (x3 g3 P.h2 g4 rfl P.h3)
 ·exact kv hlt (x3 g3 P.h2 g4 rfl P.h4)
theorem qvl {b o : Nat} {p : PSt} {st : List AObj} {c1 c2 c3 c4 : AV} (P : ParS b o p st c1 c2 c3 c4) (n : Int) : ParS b o { p with records := n } (st.set o (parO c1 c2 c3 c4 { p with records := n })) c1 c2 c3 c4 := by
  have hlt := P.lt
  have hle := P.le
  exact ⟨hlt, by simp; omega, by have : o < st.length := by omega
                                 simp [this], kv hlt P.h1, kv hlt P.h2, kv hlt P.h3, kv hlt P.h4, P.ne⟩
set_option maxHeartbeats 8000000 in
theorem qta (b o n : Nat) (p : PSt) (st : List AObj) (h : Par b o p st) (hB : PB n p) (hs : n + 1 < 900000) : zr E 93 [.bx o 0 0] st fun r st' => r = errP (endP p).1 ∧ ((endP p).1 = none → Par b o (endP p).2 st') ∧ Keep b o st st' := by
 refine zp Tryz.func93 rfl (Nat.le_of_ble_eq_true rfl) ?_
 rw [List.append_nil]
 repeat' (first
  | apply qr
  | apply qe
  | apply qa
  | apply qn
  | apply qf)
 refine xp Tryz.call136 ((qk9 b o p st n h hB).mono ?_)
 rintro _ st1 ⟨rfl, hp, hk⟩
 have hB1 := qep hB hs
 cases hfl : (vn p).1 with
 | some e =>
  obtain ⟨a, m⟩ := e
  have he : endP p = (some (a, m), p) := by unfold endP; rw [hfl]
  rw [qez rfl, he]
  repeat' (first
   | apply qr
   | apply qe
   | apply qa
   | apply qn
   | apply qf
   | (apply qg; exact rfl; first | (apply zd; (first | assumption | omega)) | (apply zf; (first | assumption | omega)) | (apply ze; (first | exact rfl | assumption)) | (apply zg; (first | exact rfl | assumption)) | (apply cd_n <;> intro h) | (apply cd_t; (first | exact rfl | assumption)) | (apply cd_f; (first | exact rfl | assumption)) | (apply cd_d <;> intro h) | (apply cd_s <;> intro h))
   | (apply ku; exact rfl; exact rfl)
   | apply q9)
  exact qs rfl (zt rfl) ⟨rfl, nofun, hk⟩
 | none =>
  have he : endP p = (none, w6 (vn p).2) := by unfold endP; rw [hfl]
  rw [he]
  have hp := hp hfl
  generalize (vn p).2 = p1 at hp hB1
  obtain ⟨c1, c2, c3, c4, P⟩ := hp
  obtain ⟨ls, fr, fu, its, bk, fs, rc⟩ := p1
  have hob : st1[o]? = some (.cells 0 148 [c1, Iv fr, Bv fu, c2, c3, c4, Iv rc]) := P.ob
  have hl3 : lenA c3 = some (bk.map fun x => Sv x).length := qeh P.h3
  have hl4 : lenA c4 = some (fs.map fldA).length := qeh P.h4
  have hle := P.le
  have hlt := P.lt
  show AOps _ _ _ _ _ _ _
  by_cases hbk : bk = []
  ·have hz : (bk.map fun x => Sv x).length = 0 := by rw [hbk]; rfl
   have hcl : w6 ⟨ls, fr, fu, its, bk, fs, rc⟩ = ⟨ls, fr, fu, its, [], [], rc⟩ := if_pos hbk
   repeat' (first
    | apply qr
    | apply qe
    | apply qa
    | apply qn
    | apply qf
    | (apply qt; (iterate 3 exact rfl))
    | (apply qg; exact rfl; first | (apply zd; (first | assumption | omega)) | (apply zf; (first | assumption | omega)) | (apply ze; (first | exact rfl | assumption)) | (apply zg; (first | exact rfl | assumption)) | (apply cd_n <;> intro h) | (apply cd_t; (first | exact rfl | assumption)) | (apply cd_f; (first | exact rfl | assumption)) | (apply cd_d <;> intro h) | (apply cd_s <;> intro h))
    | (apply j3; exact rfl; exact rfl)
    | (apply za; (iterate 3 exact rfl))
    | (apply ki; exact rfl; exact rfl)
    | apply q8
    | apply q9
    | (apply qb; exact rfl; exact hob; exact rfl; exact rfl)
    | (apply zo; exact rfl; exact hl3; exact rfl; exact rfl)
    | (apply qm; exact rfl; exact rfl; exact hob; (iterate 6 exact rfl))
    | (apply qm; exact rfl; exact rfl; exact zn hob; (iterate 6 exact rfl)))
   refine qs rfl (zt rfl) ⟨rfl, fun _ => ?_, hk.trans (jc.trans jc)⟩
   rw [hcl]
   exact qhl P
  ·have hz : 0 < (bk.map fun x => Sv x).length := by rw [List.length_map]; exact List.length_pos_iff.2 hbk
   obtain ⟨x0, r0, hxr⟩ : ∃ x r, bk = x :: r := by cases bk with | nil => exact absurd rfl hbk | cons x r => exact ⟨x, r, rfl⟩
   have hjt : Lib.join bk [10] ++ [10] = j0 bk := by rw [hxr]; exact qhn x0 r0
   have hbn : bk.length ≤ n + 1 := hB1.block
   have hbv : ∀ s ∈ bk, s.length < 1000000 := hB1.blockV
   have htl := qf5 bk hbv
   have hjl : (Lib.join bk [10]).length ≤ 1000001 * bk.length := by
    have := congrArg List.length hjt
    rw [List.length_append] at this
    omega
   have hin : its.length ≤ n + 1 := hB1.items
   have hr0 : 0 ≤ rc := hB1.rec0
   have hr1 : rc ≤ ((n + 1 : Nat) : Int) := hB1.rec1
   have hil : (its.map zu).length = its.length := by simp
   obtain ⟨t3, rfl⟩ : ∃ t, c3 = .sl 1 (bk.map fun x => Sv x) (some t) := qld P.h3 (by simpa using hbk)
   by_cases hfs : fs = []
   ·have hz4 : (fs.map fldA).length = 0 := by rw [hfs]; rfl
    have hcl : w6 ⟨ls, fr, fu, its, bk, fs, rc⟩ = ⟨ls, fr, fu, its ++ [⟨2, Lib.join bk [10] ++ [10], fs⟩], [], [], rc⟩ := by
     unfold w6
     rw [if_neg hbk, hjt]
     simp [hfs]
    repeat' (first
     | apply qr
     | apply qe
     | apply qa
     | apply qn
     | apply qf
     | (apply qt; (iterate 3 exact rfl))
     | (apply qg; exact rfl; first | (apply zd; (first | assumption | omega)) | (apply zf; (first | assumption | omega)) | (apply ze; (first | exact rfl | assumption)) | (apply zg; (first | exact rfl | assumption)) | (apply cd_n <;> intro h) | (apply cd_t; (first | exact rfl | assumption)) | (apply cd_f; (first | exact rfl | assumption)) | (apply cd_d <;> intro h) | (apply cd_s <;> intro h))
     | (apply zo; (iterate 4 exact rfl))
     | (apply j3; exact rfl; exact rfl)
     | (apply za; (iterate 3 exact rfl))
     | (apply ki; exact rfl; exact rfl)
     | apply q8
     | (apply qb; exact rfl; exact hob; exact rfl; exact rfl)
     | (apply zo; exact rfl; exact hl4; exact rfl; exact rfl))
    obtain ⟨stX, hsX⟩ : ∃ x, x = st1 := ⟨_, rfl⟩
    obtain ⟨rcX, hrX⟩ : ∃ x, x = rc := ⟨_, rfl⟩
    obtain ⟨KX, hKX⟩ : ∃ x : Int, x = 2 := ⟨_, rfl⟩
    have PX : ParS b o ⟨ls, fr, fu, its, bk, fs, rcX⟩ stX c1 c2 (.sl 1 (bk.map fun x => Sv x) (some t3)) c4 := by rw [hsX, hrX]; exact P
    have hkX : Keep b o st stX := by rw [hsX]; exact hk
    replace hcl : w6 ⟨ls, fr, fu, its, bk, fs, rc⟩ = ⟨ls, fr, fu, its ++ [⟨KX, Lib.join bk [10] ++ [10], fs⟩], [], [], rcX⟩ := by rw [hKX, hrX]; exact hcl
    refine wf [(0, .bx o 0 0), (4, Iv KX)] stX [] ⟨rfl, (congrArg Iv hKX).symm, trivial⟩ hsX.symm rfl fun t => ?_
    have hleX := PX.le
    have holX : o < stX.length := by omega
    have hobX : stX[o]? = some (.cells 0 148 [c1, Iv fr, Bv fu, c2, .sl 1 (bk.map fun x => Sv x) (some t3), c4, Iv rcX]) := PX.ob
    refine qat (fun s => s.t 0 = .bx o 0 0 ∧ s.df = [] ∧ Par b o ⟨ls, fr, fu, its ++ [⟨KX, Lib.join bk [10] ++ [10], fs⟩], bk, fs, rcX⟩ s.st ∧ Keep b o st s.st) ?_ ?_
    ·refine x8 rfl rfl ?_
     (apply qo 0; exact rfl; kernel_rfl; kernel_rfl; kernel_rfl; exact rfl; exact vv)
     (apply qo 1; exact rfl; kernel_rfl; kernel_rfl; kernel_rfl; exact rfl; exact vv)
     (apply qo 2; exact rfl; kernel_rfl; kernel_rfl; kernel_rfl; exact rfl; (apply zx; exact rfl; exact rfl))
     (apply qo 3; exact rfl; kernel_rfl; kernel_rfl; kernel_rfl; exact rfl; (first | (apply qq; (iterate 3 exact rfl)) | (apply qp; (iterate 4 exact rfl))))
     (apply qo 5; exact rfl; kernel_rfl; kernel_rfl; kernel_rfl; exact rfl; exact vv)
     (apply qo 6; exact rfl; kernel_rfl; kernel_rfl; kernel_rfl; exact rfl; exact vv)
     (apply qo 7; exact rfl; kernel_rfl; kernel_rfl; kernel_rfl; exact rfl; (apply zx; exact rfl; exact rfl))
     (apply qo 8; exact rfl; kernel_rfl; kernel_rfl; kernel_rfl; exact rfl; (first | (apply qq; (iterate 3 exact rfl)) | (apply qp; (iterate 4 exact rfl))))
     (apply qo 12; exact rfl; kernel_rfl; kernel_rfl; kernel_rfl; exact rfl; exact vv)
     (apply qo 13; exact rfl; kernel_rfl; kernel_rfl; kernel_rfl; exact rfl; (apply zx; exact rfl; exact rfl))
     (apply qo 14; exact rfl; kernel_rfl; kernel_rfl; kernel_rfl; exact rfl; (first | (apply qq; (iterate 3 exact rfl)) | (apply qp; (iterate 4 exact rfl))))
     refine qc [4, 9, 15] (by kernel_rfl) rfl ⟨⟨_, rfl, ?_⟩, ⟨_, rfl, ?_⟩, ⟨_, rfl, ?_⟩, trivial⟩
     ·(first | (apply qb; exact rfl; exact hobX; exact rfl; exact rfl; apply zi 44 rfl (jb PX.h4)) | (apply qb; exact rfl; exact hobX; exact rfl; exact rfl) | (apply zb; (iterate 5 exact rfl)) | (apply qx; (iterate 5 exact rfl)) | (apply qv; (iterate 3 exact rfl)))
      apply qa
      refine qc [9, 15] (by kernel_rfl) rfl ⟨⟨_, rfl, ?_⟩, ⟨_, rfl, ?_⟩, trivial⟩
      ·(first | (apply qb; exact rfl; exact hobX; exact rfl; exact rfl; apply zi 44 rfl (jb PX.h4)) | (apply qb; exact rfl; exact hobX; exact rfl; exact rfl) | (apply zb; (iterate 5 exact rfl)) | (apply qx; (iterate 5 exact rfl)) | (apply qv; (iterate 3 exact rfl)))
       apply qa
       refine qc [10, 15] (by kernel_rfl) rfl ⟨⟨_, rfl, ?_⟩, ⟨_, rfl, ?_⟩, trivial⟩
       ·(first | (refine qi Tryz.call88 (js bk _ _ hbk (by omega) hbv) ?_) | (apply zq (b := b) (xs := its.map zu) (ys := [zu ⟨KX, Lib.join bk [10] ++ [10], fs⟩]) (bytes := 48); exact rfl; exact rfl; exact PX.h2; exact hleX; (iterate 3 exact rfl); exact ⟨⟨_, _, rfl, rfl, rfl, rfl, rfl⟩⟩; exact rfl; (simp [maxLen]; omega); (simp; omega); intro t4 st4 g1 g2 g3 g4; have ho4 := (g3.same o (by omega) holX).trans hobX))
        apply qa
        (apply qo 11; exact rfl; kernel_rfl; kernel_rfl; kernel_rfl; exact rfl; (apply vf; exact rfl; exact rfl; (first | omega | (simp only [List.length_append, List.length_cons, List.length_nil]; omega))))
        refine qc [15] (by kernel_rfl) rfl ⟨⟨_, rfl, ?_⟩, trivial⟩
        (first | (apply qb; exact rfl; exact hobX; exact rfl; exact rfl; apply zi 44 rfl (jb PX.h4)) | (apply qb; exact rfl; exact hobX; exact rfl; exact rfl) | (apply zb; (iterate 5 exact rfl)) | (apply qx; (iterate 5 exact rfl)) | (apply qv; (iterate 3 exact rfl)))
        apply qa
        (apply qo 16; exact rfl; kernel_rfl; kernel_rfl; kernel_rfl; exact rfl; (apply vi; (iterate 3 exact rfl)))
        refine qc [17] (by kernel_rfl) rfl ⟨⟨_, rfl, ?_⟩, trivial⟩
        (apply qj; (iterate 9 exact rfl))
        apply qa
        refine qc [18] (by kernel_rfl) rfl ⟨⟨_, rfl, ?_⟩, trivial⟩
        (first | (refine qi Tryz.call88 (js bk _ _ hbk (by omega) hbv) ?_) | (apply zq (b := b) (xs := its.map zu) (ys := [zu ⟨KX, Lib.join bk [10] ++ [10], fs⟩]) (bytes := 48); exact rfl; exact rfl; exact PX.h2; exact hleX; (iterate 3 exact rfl); exact ⟨⟨_, _, rfl, rfl, rfl, rfl, rfl⟩⟩; exact rfl; (simp [maxLen]; omega); (simp; omega); intro t4 st4 g1 g2 g3 g4; have ho4 := (g3.same o (by omega) holX).trans hobX))
        apply qa
        (apply qo 19; exact rfl; kernel_rfl; kernel_rfl; kernel_rfl; exact rfl; (apply zx; exact rfl; exact rfl))
        (apply qo 20; exact rfl; kernel_rfl; kernel_rfl; kernel_rfl; exact rfl; (first | (apply qq; (iterate 3 exact rfl)) | (apply qp; (iterate 4 exact rfl))))
        refine qc [21] (by kernel_rfl) rfl ⟨⟨_, rfl, ?_⟩, trivial⟩
        (first | (apply qm; exact rfl; exact rfl; exact ho4; (iterate 6 exact rfl)) | (apply zm; (iterate 11 exact rfl)) | (apply q6; (iterate 11 exact rfl)))
        apply qa
        refine zj (by kernel_rfl) ?_
        exact ⟨rfl, rfl, ka PX g1 g2 g3 g4, (hkX.trans (j9 g3 hleX g2 PX.h2 g4)).trans jc⟩
       ·(first | (apply qb; exact rfl; exact hobX; exact rfl; exact rfl; apply zi 44 rfl (jb PX.h4)) | (apply qb; exact rfl; exact hobX; exact rfl; exact rfl) | (apply zb; (iterate 5 exact rfl)) | (apply qx; (iterate 5 exact rfl)) | (apply qv; (iterate 3 exact rfl)))
        apply qa
        refine qc [10] (by kernel_rfl) rfl ⟨⟨_, rfl, ?_⟩, trivial⟩
        (first | (refine qi Tryz.call88 (js bk _ _ hbk (by omega) hbv) ?_) | (apply zq (b := b) (xs := its.map zu) (ys := [zu ⟨KX, Lib.join bk [10] ++ [10], fs⟩]) (bytes := 48); exact rfl; exact rfl; exact PX.h2; exact hleX; (iterate 3 exact rfl); exact ⟨⟨_, _, rfl, rfl, rfl, rfl, rfl⟩⟩; exact rfl; (simp [maxLen]; omega); (simp; omega); intro t4 st4 g1 g2 g3 g4; have ho4 := (g3.same o (by omega) holX).trans hobX))
        apply qa
        (apply qo 11; exact rfl; kernel_rfl; kernel_rfl; kernel_rfl; exact rfl; (apply vf; exact rfl; exact rfl; (first | omega | (simp only [List.length_append, List.length_cons, List.length_nil]; omega))))
        (apply qo 16; exact rfl; kernel_rfl; kernel_rfl; kernel_rfl; exact rfl; (apply vi; (iterate 3 exact rfl)))
        refine qc [17] (by kernel_rfl) rfl ⟨⟨_, rfl, ?_⟩, trivial⟩
        (apply qj; (iterate 9 exact rfl))
        apply qa
        refine qc [18] (by kernel_rfl) rfl ⟨⟨_, rfl, ?_⟩, trivial⟩
        (first | (refine qi Tryz.call88 (js bk _ _ hbk (by omega) hbv) ?_) | (apply zq (b := b) (xs := its.map zu) (ys := [zu ⟨KX, Lib.join bk [10] ++ [10], fs⟩]) (bytes := 48); exact rfl; exact rfl; exact PX.h2; exact hleX; (iterate 3 exact rfl); exact ⟨⟨_, _, rfl, rfl, rfl, rfl, rfl⟩⟩; exact rfl; (simp [maxLen]; omega); (simp; omega); intro t4 st4 g1 g2 g3 g4; have ho4 := (g3.same o (by omega) holX).trans hobX))
        apply qa
        (apply qo 19; exact rfl; kernel_rfl; kernel_rfl; kernel_rfl; exact rfl; (apply zx; exact rfl; exact rfl))
        (apply qo 20; exact rfl; kernel_rfl; kernel_rfl; kernel_rfl; exact rfl; (first | (apply qq; (iterate 3 exact rfl)) | (apply qp; (iterate 4 exact rfl))))
        refine qc [21] (by kernel_rfl) rfl ⟨⟨_, rfl, ?_⟩, trivial⟩
        (first | (apply qm; exact rfl; exact rfl; exact ho4; (iterate 6 exact rfl)) | (apply zm; (iterate 11 exact rfl)) | (apply q6; (iterate 11 exact rfl)))
        apply qa
        refine zj (by kernel_rfl) ?_
        exact ⟨rfl, rfl, ka PX g1 g2 g3 g4, (hkX.trans (j9 g3 hleX g2 PX.h2 g4)).trans jc⟩
      ·(first | (apply qb; exact rfl; exact hobX; exact rfl; exact rfl; apply zi 44 rfl (jb PX.h4)) | (apply qb; exact rfl; exact hobX; exact rfl; exact rfl) | (apply zb; (iterate 5 exact rfl)) | (apply qx; (iterate 5 exact rfl)) | (apply qv; (iterate 3 exact rfl)))
       apply qa
       refine qc [9] (by kernel_rfl) rfl ⟨⟨_, rfl, ?_⟩, trivial⟩
       (first | (apply qb; exact rfl; exact hobX; exact rfl; exact rfl; apply zi 44 rfl (jb PX.h4)) | (apply qb; exact rfl; exact hobX; exact rfl; exact rfl) | (apply zb; (iterate 5 exact rfl)) | (apply qx; (iterate 5 exact rfl)) | (apply qv; (iterate 3 exact rfl)))
       apply qa
       refine qc [10] (by kernel_rfl) rfl ⟨⟨_, rfl, ?_⟩, trivial⟩
       (first | (refine qi Tryz.call88 (js bk _ _ hbk (by omega) hbv) ?_) | (apply zq (b := b) (xs := its.map zu) (ys := [zu ⟨KX, Lib.join bk [10] ++ [10], fs⟩]) (bytes := 48); exact rfl; exact rfl; exact PX.h2; exact hleX; (iterate 3 exact rfl); exact ⟨⟨_, _, rfl, rfl, rfl, rfl, rfl⟩⟩; exact rfl; (simp [maxLen]; omega); (simp; omega); intro t4 st4 g1 g2 g3 g4; have ho4 := (g3.same o (by omega) holX).trans hobX))
       apply qa
       (apply qo 11; exact rfl; kernel_rfl; kernel_rfl; kernel_rfl; exact rfl; (apply vf; exact rfl; exact rfl; (first | omega | (simp only [List.length_append, List.length_cons, List.length_nil]; omega))))
       (apply qo 16; exact rfl; kernel_rfl; kernel_rfl; kernel_rfl; exact rfl; (apply vi; (iterate 3 exact rfl)))
       refine qc [17] (by kernel_rfl) rfl ⟨⟨_, rfl, ?_⟩, trivial⟩
       (apply qj; (iterate 9 exact rfl))
       apply qa
       refine qc [18] (by kernel_rfl) rfl ⟨⟨_, rfl, ?_⟩, trivial⟩
       (first | (refine qi Tryz.call88 (js bk _ _ hbk (by omega) hbv) ?_) | (apply zq (b := b) (xs := its.map zu) (ys := [zu ⟨KX, Lib.join bk [10] ++ [10], fs⟩]) (bytes := 48); exact rfl; exact rfl; exact PX.h2; exact hleX; (iterate 3 exact rfl); exact ⟨⟨_, _, rfl, rfl, rfl, rfl, rfl⟩⟩; exact rfl; (simp [maxLen]; omega); (simp; omega); intro t4 st4 g1 g2 g3 g4; have ho4 := (g3.same o (by omega) holX).trans hobX))
       apply qa
       (apply qo 19; exact rfl; kernel_rfl; kernel_rfl; kernel_rfl; exact rfl; (apply zx; exact rfl; exact rfl))
       (apply qo 20; exact rfl; kernel_rfl; kernel_rfl; kernel_rfl; exact rfl; (first | (apply qq; (iterate 3 exact rfl)) | (apply qp; (iterate 4 exact rfl))))
       refine qc [21] (by kernel_rfl) rfl ⟨⟨_, rfl, ?_⟩, trivial⟩
       (first | (apply qm; exact rfl; exact rfl; exact ho4; (iterate 6 exact rfl)) | (apply zm; (iterate 11 exact rfl)) | (apply q6; (iterate 11 exact rfl)))
       apply qa
       refine zj (by kernel_rfl) ?_
       exact ⟨rfl, rfl, ka PX g1 g2 g3 g4, (hkX.trans (j9 g3 hleX g2 PX.h2 g4)).trans jc⟩
     ·(first | (apply qb; exact rfl; exact hobX; exact rfl; exact rfl; apply zi 44 rfl (jb PX.h4)) | (apply qb; exact rfl; exact hobX; exact rfl; exact rfl) | (apply zb; (iterate 5 exact rfl)) | (apply qx; (iterate 5 exact rfl)) | (apply qv; (iterate 3 exact rfl)))
      apply qa
      refine qc [4, 10, 15] (by kernel_rfl) rfl ⟨⟨_, rfl, ?_⟩, ⟨_, rfl, ?_⟩, ⟨_, rfl, ?_⟩, trivial⟩
      ·(first | (apply qb; exact rfl; exact hobX; exact rfl; exact rfl; apply zi 44 rfl (jb PX.h4)) | (apply qb; exact rfl; exact hobX; exact rfl; exact rfl) | (apply zb; (iterate 5 exact rfl)) | (apply qx; (iterate 5 exact rfl)) | (apply qv; (iterate 3 exact rfl)))
       apply qa
       refine qc [10, 15] (by kernel_rfl) rfl ⟨⟨_, rfl, ?_⟩, ⟨_, rfl, ?_⟩, trivial⟩
       ·(first | (refine qi Tryz.call88 (js bk _ _ hbk (by omega) hbv) ?_) | (apply zq (b := b) (xs := its.map zu) (ys := [zu ⟨KX, Lib.join bk [10] ++ [10], fs⟩]) (bytes := 48); exact rfl; exact rfl; exact PX.h2; exact hleX; (iterate 3 exact rfl); exact ⟨⟨_, _, rfl, rfl, rfl, rfl, rfl⟩⟩; exact rfl; (simp [maxLen]; omega); (simp; omega); intro t4 st4 g1 g2 g3 g4; have ho4 := (g3.same o (by omega) holX).trans hobX))
        apply qa
        (apply qo 11; exact rfl; kernel_rfl; kernel_rfl; kernel_rfl; exact rfl; (apply vf; exact rfl; exact rfl; (first | omega | (simp only [List.length_append, List.length_cons, List.length_nil]; omega))))
        refine qc [15] (by kernel_rfl) rfl ⟨⟨_, rfl, ?_⟩, trivial⟩
        (first | (apply qb; exact rfl; exact hobX; exact rfl; exact rfl; apply zi 44 rfl (jb PX.h4)) | (apply qb; exact rfl; exact hobX; exact rfl; exact rfl) | (apply zb; (iterate 5 exact rfl)) | (apply qx; (iterate 5 exact rfl)) | (apply qv; (iterate 3 exact rfl)))
        apply qa
        (apply qo 16; exact rfl; kernel_rfl; kernel_rfl; kernel_rfl; exact rfl; (apply vi; (iterate 3 exact rfl)))
        refine qc [17] (by kernel_rfl) rfl ⟨⟨_, rfl, ?_⟩, trivial⟩
        (apply qj; (iterate 9 exact rfl))
        apply qa
        refine qc [18] (by kernel_rfl) rfl ⟨⟨_, rfl, ?_⟩, trivial⟩
        (first | (refine qi Tryz.call88 (js bk _ _ hbk (by omega) hbv) ?_) | (apply zq (b := b) (xs := its.map zu) (ys := [zu ⟨KX, Lib.join bk [10] ++ [10], fs⟩]) (bytes := 48); exact rfl; exact rfl; exact PX.h2; exact hleX; (iterate 3 exact rfl); exact ⟨⟨_, _, rfl, rfl, rfl, rfl, rfl⟩⟩; exact rfl; (simp [maxLen]; omega); (simp; omega); intro t4 st4 g1 g2 g3 g4; have ho4 := (g3.same o (by omega) holX).trans hobX))
        apply qa
        (apply qo 19; exact rfl; kernel_rfl; kernel_rfl; kernel_rfl; exact rfl; (apply zx; exact rfl; exact rfl))
        (apply qo 20; exact rfl; kernel_rfl; kernel_rfl; kernel_rfl; exact rfl; (first | (apply qq; (iterate 3 exact rfl)) | (apply qp; (iterate 4 exact rfl))))
        refine qc [21] (by kernel_rfl) rfl ⟨⟨_, rfl, ?_⟩, trivial⟩
        (first | (apply qm; exact rfl; exact rfl; exact ho4; (iterate 6 exact rfl)) | (apply zm; (iterate 11 exact rfl)) | (apply q6; (iterate 11 exact rfl)))
        apply qa
        refine zj (by kernel_rfl) ?_
        exact ⟨rfl, rfl, ka PX g1 g2 g3 g4, (hkX.trans (j9 g3 hleX g2 PX.h2 g4)).trans jc⟩
       ·(first | (apply qb; exact rfl; exact hobX; exact rfl; exact rfl; apply zi 44 rfl (jb PX.h4)) | (apply qb; exact rfl; exact hobX; exact rfl; exact rfl) | (apply zb; (iterate 5 exact rfl)) | (apply qx; (iterate 5 exact rfl)) | (apply qv; (iterate 3 exact rfl)))
        apply qa
        refine qc [10] (by kernel_rfl) rfl ⟨⟨_, rfl, ?_⟩, trivial⟩
        (first | (refine qi Tryz.call88 (js bk _ _ hbk (by omega) hbv) ?_) | (apply zq (b := b) (xs := its.map zu) (ys := [zu ⟨KX, Lib.join bk [10] ++ [10], fs⟩]) (bytes := 48); exact rfl; exact rfl; exact PX.h2; exact hleX; (iterate 3 exact rfl); exact ⟨⟨_, _, rfl, rfl, rfl, rfl, rfl⟩⟩; exact rfl; (simp [maxLen]; omega); (simp; omega); intro t4 st4 g1 g2 g3 g4; have ho4 := (g3.same o (by omega) holX).trans hobX))
        apply qa
        (apply qo 11; exact rfl; kernel_rfl; kernel_rfl; kernel_rfl; exact rfl; (apply vf; exact rfl; exact rfl; (first | omega | (simp only [List.length_append, List.length_cons, List.length_nil]; omega))))
        (apply qo 16; exact rfl; kernel_rfl; kernel_rfl; kernel_rfl; exact rfl; (apply vi; (iterate 3 exact rfl)))
        refine qc [17] (by kernel_rfl) rfl ⟨⟨_, rfl, ?_⟩, trivial⟩
        (apply qj; (iterate 9 exact rfl))
        apply qa
        refine qc [18] (by kernel_rfl) rfl ⟨⟨_, rfl, ?_⟩, trivial⟩
        (first | (refine qi Tryz.call88 (js bk _ _ hbk (by omega) hbv) ?_) | (apply zq (b := b) (xs := its.map zu) (ys := [zu ⟨KX, Lib.join bk [10] ++ [10], fs⟩]) (bytes := 48); exact rfl; exact rfl; exact PX.h2; exact hleX; (iterate 3 exact rfl); exact ⟨⟨_, _, rfl, rfl, rfl, rfl, rfl⟩⟩; exact rfl; (simp [maxLen]; omega); (simp; omega); intro t4 st4 g1 g2 g3 g4; have ho4 := (g3.same o (by omega) holX).trans hobX))
        apply qa
        (apply qo 19; exact rfl; kernel_rfl; kernel_rfl; kernel_rfl; exact rfl; (apply zx; exact rfl; exact rfl))
        (apply qo 20; exact rfl; kernel_rfl; kernel_rfl; kernel_rfl; exact rfl; (first | (apply qq; (iterate 3 exact rfl)) | (apply qp; (iterate 4 exact rfl))))
        refine qc [21] (by kernel_rfl) rfl ⟨⟨_, rfl, ?_⟩, trivial⟩
        (first | (apply qm; exact rfl; exact rfl; exact ho4; (iterate 6 exact rfl)) | (apply zm; (iterate 11 exact rfl)) | (apply q6; (iterate 11 exact rfl)))
        apply qa
        refine zj (by kernel_rfl) ?_
        exact ⟨rfl, rfl, ka PX g1 g2 g3 g4, (hkX.trans (j9 g3 hleX g2 PX.h2 g4)).trans jc⟩
      ·(first | (refine qi Tryz.call88 (js bk _ _ hbk (by omega) hbv) ?_) | (apply zq (b := b) (xs := its.map zu) (ys := [zu ⟨KX, Lib.join bk [10] ++ [10], fs⟩]) (bytes := 48); exact rfl; exact rfl; exact PX.h2; exact hleX; (iterate 3 exact rfl); exact ⟨⟨_, _, rfl, rfl, rfl, rfl, rfl⟩⟩; exact rfl; (simp [maxLen]; omega); (simp; omega); intro t4 st4 g1 g2 g3 g4; have ho4 := (g3.same o (by omega) holX).trans hobX))
       apply qa
       (apply qo 11; exact rfl; kernel_rfl; kernel_rfl; kernel_rfl; exact rfl; (apply vf; exact rfl; exact rfl; (first | omega | (simp only [List.length_append, List.length_cons, List.length_nil]; omega))))
       refine qc [4, 15] (by kernel_rfl) rfl ⟨⟨_, rfl, ?_⟩, ⟨_, rfl, ?_⟩, trivial⟩
       ·(first | (apply qb; exact rfl; exact hobX; exact rfl; exact rfl; apply zi 44 rfl (jb PX.h4)) | (apply qb; exact rfl; exact hobX; exact rfl; exact rfl) | (apply zb; (iterate 5 exact rfl)) | (apply qx; (iterate 5 exact rfl)) | (apply qv; (iterate 3 exact rfl)))
        apply qa
        refine qc [15] (by kernel_rfl) rfl ⟨⟨_, rfl, ?_⟩, trivial⟩
        (first | (apply qb; exact rfl; exact hobX; exact rfl; exact rfl; apply zi 44 rfl (jb PX.h4)) | (apply qb; exact rfl; exact hobX; exact rfl; exact rfl) | (apply zb; (iterate 5 exact rfl)) | (apply qx; (iterate 5 exact rfl)) | (apply qv; (iterate 3 exact rfl)))
        apply qa
        (apply qo 16; exact rfl; kernel_rfl; kernel_rfl; kernel_rfl; exact rfl; (apply vi; (iterate 3 exact rfl)))
        refine qc [17] (by kernel_rfl) rfl ⟨⟨_, rfl, ?_⟩, trivial⟩
        (apply qj; (iterate 9 exact rfl))
        apply qa
        refine qc [18] (by kernel_rfl) rfl ⟨⟨_, rfl, ?_⟩, trivial⟩
        (first | (refine qi Tryz.call88 (js bk _ _ hbk (by omega) hbv) ?_) | (apply zq (b := b) (xs := its.map zu) (ys := [zu ⟨KX, Lib.join bk [10] ++ [10], fs⟩]) (bytes := 48); exact rfl; exact rfl; exact PX.h2; exact hleX; (iterate 3 exact rfl); exact ⟨⟨_, _, rfl, rfl, rfl, rfl, rfl⟩⟩; exact rfl; (simp [maxLen]; omega); (simp; omega); intro t4 st4 g1 g2 g3 g4; have ho4 := (g3.same o (by omega) holX).trans hobX))
        apply qa
        (apply qo 19; exact rfl; kernel_rfl; kernel_rfl; kernel_rfl; exact rfl; (apply zx; exact rfl; exact rfl))
        (apply qo 20; exact rfl; kernel_rfl; kernel_rfl; kernel_rfl; exact rfl; (first | (apply qq; (iterate 3 exact rfl)) | (apply qp; (iterate 4 exact rfl))))
        refine qc [21] (by kernel_rfl) rfl ⟨⟨_, rfl, ?_⟩, trivial⟩
        (first | (apply qm; exact rfl; exact rfl; exact ho4; (iterate 6 exact rfl)) | (apply zm; (iterate 11 exact rfl)) | (apply q6; (iterate 11 exact rfl)))
        apply qa
        refine zj (by kernel_rfl) ?_
        exact ⟨rfl, rfl, ka PX g1 g2 g3 g4, (hkX.trans (j9 g3 hleX g2 PX.h2 g4)).trans jc⟩
       ·(first | (apply qb; exact rfl; exact hobX; exact rfl; exact rfl; apply zi 44 rfl (jb PX.h4)) | (apply qb; exact rfl; exact hobX; exact rfl; exact rfl) | (apply zb; (iterate 5 exact rfl)) | (apply qx; (iterate 5 exact rfl)) | (apply qv; (iterate 3 exact rfl)))
        apply qa
        (apply qo 16; exact rfl; kernel_rfl; kernel_rfl; kernel_rfl; exact rfl; (apply vi; (iterate 3 exact rfl)))
        refine qc [4, 17] (by kernel_rfl) rfl ⟨⟨_, rfl, ?_⟩, ⟨_, rfl, ?_⟩, trivial⟩
        ·(first | (apply qb; exact rfl; exact hobX; exact rfl; exact rfl; apply zi 44 rfl (jb PX.h4)) | (apply qb; exact rfl; exact hobX; exact rfl; exact rfl) | (apply zb; (iterate 5 exact rfl)) | (apply qx; (iterate 5 exact rfl)) | (apply qv; (iterate 3 exact rfl)))
         apply qa
         refine qc [17] (by kernel_rfl) rfl ⟨⟨_, rfl, ?_⟩, trivial⟩
         (apply qj; (iterate 9 exact rfl))
         apply qa
         refine qc [18] (by kernel_rfl) rfl ⟨⟨_, rfl, ?_⟩, trivial⟩
         (first | (refine qi Tryz.call88 (js bk _ _ hbk (by omega) hbv) ?_) | (apply zq (b := b) (xs := its.map zu) (ys := [zu ⟨KX, Lib.join bk [10] ++ [10], fs⟩]) (bytes := 48); exact rfl; exact rfl; exact PX.h2; exact hleX; (iterate 3 exact rfl); exact ⟨⟨_, _, rfl, rfl, rfl, rfl, rfl⟩⟩; exact rfl; (simp [maxLen]; omega); (simp; omega); intro t4 st4 g1 g2 g3 g4; have ho4 := (g3.same o (by omega) holX).trans hobX))
         apply qa
         (apply qo 19; exact rfl; kernel_rfl; kernel_rfl; kernel_rfl; exact rfl; (apply zx; exact rfl; exact rfl))
         (apply qo 20; exact rfl; kernel_rfl; kernel_rfl; kernel_rfl; exact rfl; (first | (apply qq; (iterate 3 exact rfl)) | (apply qp; (iterate 4 exact rfl))))
         refine qc [21] (by kernel_rfl) rfl ⟨⟨_, rfl, ?_⟩, trivial⟩
         (first | (apply qm; exact rfl; exact rfl; exact ho4; (iterate 6 exact rfl)) | (apply zm; (iterate 11 exact rfl)) | (apply q6; (iterate 11 exact rfl)))
         apply qa
         refine zj (by kernel_rfl) ?_
         exact ⟨rfl, rfl, ka PX g1 g2 g3 g4, (hkX.trans (j9 g3 hleX g2 PX.h2 g4)).trans jc⟩
        ·(apply qj; (iterate 9 exact rfl))
         apply qa
         refine qc [4] (by kernel_rfl) rfl ⟨⟨_, rfl, ?_⟩, trivial⟩
         (first | (apply qb; exact rfl; exact hobX; exact rfl; exact rfl; apply zi 44 rfl (jb PX.h4)) | (apply qb; exact rfl; exact hobX; exact rfl; exact rfl) | (apply zb; (iterate 5 exact rfl)) | (apply qx; (iterate 5 exact rfl)) | (apply qv; (iterate 3 exact rfl)))
         apply qa
         refine qc [18] (by kernel_rfl) rfl ⟨⟨_, rfl, ?_⟩, trivial⟩
         (first | (refine qi Tryz.call88 (js bk _ _ hbk (by omega) hbv) ?_) | (apply zq (b := b) (xs := its.map zu) (ys := [zu ⟨KX, Lib.join bk [10] ++ [10], fs⟩]) (bytes := 48); exact rfl; exact rfl; exact PX.h2; exact hleX; (iterate 3 exact rfl); exact ⟨⟨_, _, rfl, rfl, rfl, rfl, rfl⟩⟩; exact rfl; (simp [maxLen]; omega); (simp; omega); intro t4 st4 g1 g2 g3 g4; have ho4 := (g3.same o (by omega) holX).trans hobX))
         apply qa
         (apply qo 19; exact rfl; kernel_rfl; kernel_rfl; kernel_rfl; exact rfl; (apply zx; exact rfl; exact rfl))
         (apply qo 20; exact rfl; kernel_rfl; kernel_rfl; kernel_rfl; exact rfl; (first | (apply qq; (iterate 3 exact rfl)) | (apply qp; (iterate 4 exact rfl))))
         refine qc [21] (by kernel_rfl) rfl ⟨⟨_, rfl, ?_⟩, trivial⟩
         (first | (apply qm; exact rfl; exact rfl; exact ho4; (iterate 6 exact rfl)) | (apply zm; (iterate 11 exact rfl)) | (apply q6; (iterate 11 exact rfl)))
         apply qa
         refine zj (by kernel_rfl) ?_
         exact ⟨rfl, rfl, ka PX g1 g2 g3 g4, (hkX.trans (j9 g3 hleX g2 PX.h2 g4)).trans jc⟩
      ·(first | (apply qb; exact rfl; exact hobX; exact rfl; exact rfl; apply zi 44 rfl (jb PX.h4)) | (apply qb; exact rfl; exact hobX; exact rfl; exact rfl) | (apply zb; (iterate 5 exact rfl)) | (apply qx; (iterate 5 exact rfl)) | (apply qv; (iterate 3 exact rfl)))
       apply qa
       refine qc [4, 10] (by kernel_rfl) rfl ⟨⟨_, rfl, ?_⟩, ⟨_, rfl, ?_⟩, trivial⟩
       ·(first | (apply qb; exact rfl; exact hobX; exact rfl; exact rfl; apply zi 44 rfl (jb PX.h4)) | (apply qb; exact rfl; exact hobX; exact rfl; exact rfl) | (apply zb; (iterate 5 exact rfl)) | (apply qx; (iterate 5 exact rfl)) | (apply qv; (iterate 3 exact rfl)))
        apply qa
        refine qc [10] (by kernel_rfl) rfl ⟨⟨_, rfl, ?_⟩, trivial⟩
        (first | (refine qi Tryz.call88 (js bk _ _ hbk (by omega) hbv) ?_) | (apply zq (b := b) (xs := its.map zu) (ys := [zu ⟨KX, Lib.join bk [10] ++ [10], fs⟩]) (bytes := 48); exact rfl; exact rfl; exact PX.h2; exact hleX; (iterate 3 exact rfl); exact ⟨⟨_, _, rfl, rfl, rfl, rfl, rfl⟩⟩; exact rfl; (simp [maxLen]; omega); (simp; omega); intro t4 st4 g1 g2 g3 g4; have ho4 := (g3.same o (by omega) holX).trans hobX))
        apply qa
        (apply qo 11; exact rfl; kernel_rfl; kernel_rfl; kernel_rfl; exact rfl; (apply vf; exact rfl; exact rfl; (first | omega | (simp only [List.length_append, List.length_cons, List.length_nil]; omega))))
        (apply qo 16; exact rfl; kernel_rfl; kernel_rfl; kernel_rfl; exact rfl; (apply vi; (iterate 3 exact rfl)))
        refine qc [17] (by kernel_rfl) rfl ⟨⟨_, rfl, ?_⟩, trivial⟩
        (apply qj; (iterate 9 exact rfl))
        apply qa
        refine qc [18] (by kernel_rfl) rfl ⟨⟨_, rfl, ?_⟩, trivial⟩
        (first | (refine qi Tryz.call88 (js bk _ _ hbk (by omega) hbv) ?_) | (apply zq (b := b) (xs := its.map zu) (ys := [zu ⟨KX, Lib.join bk [10] ++ [10], fs⟩]) (bytes := 48); exact rfl; exact rfl; exact PX.h2; exact hleX; (iterate 3 exact rfl); exact ⟨⟨_, _, rfl, rfl, rfl, rfl, rfl⟩⟩; exact rfl; (simp [maxLen]; omega); (simp; omega); intro t4 st4 g1 g2 g3 g4; have ho4 := (g3.same o (by omega) holX).trans hobX))
        apply qa
        (apply qo 19; exact rfl; kernel_rfl; kernel_rfl; kernel_rfl; exact rfl; (apply zx; exact rfl; exact rfl))
        (apply qo 20; exact rfl; kernel_rfl; kernel_rfl; kernel_rfl; exact rfl; (first | (apply qq; (iterate 3 exact rfl)) | (apply qp; (iterate 4 exact rfl))))
        refine qc [21] (by kernel_rfl) rfl ⟨⟨_, rfl, ?_⟩, trivial⟩
        (first | (apply qm; exact rfl; exact rfl; exact ho4; (iterate 6 exact rfl)) | (apply zm; (iterate 11 exact rfl)) | (apply q6; (iterate 11 exact rfl)))
        apply qa
        refine zj (by kernel_rfl) ?_
        exact ⟨rfl, rfl, ka PX g1 g2 g3 g4, (hkX.trans (j9 g3 hleX g2 PX.h2 g4)).trans jc⟩
       ·(first | (refine qi Tryz.call88 (js bk _ _ hbk (by omega) hbv) ?_) | (apply zq (b := b) (xs := its.map zu) (ys := [zu ⟨KX, Lib.join bk [10] ++ [10], fs⟩]) (bytes := 48); exact rfl; exact rfl; exact PX.h2; exact hleX; (iterate 3 exact rfl); exact ⟨⟨_, _, rfl, rfl, rfl, rfl, rfl⟩⟩; exact rfl; (simp [maxLen]; omega); (simp; omega); intro t4 st4 g1 g2 g3 g4; have ho4 := (g3.same o (by omega) holX).trans hobX))
        apply qa
        (apply qo 11; exact rfl; kernel_rfl; kernel_rfl; kernel_rfl; exact rfl; (apply vf; exact rfl; exact rfl; (first | omega | (simp only [List.length_append, List.length_cons, List.length_nil]; omega))))
        (apply qo 16; exact rfl; kernel_rfl; kernel_rfl; kernel_rfl; exact rfl; (apply vi; (iterate 3 exact rfl)))
        refine qc [4, 17] (by kernel_rfl) rfl ⟨⟨_, rfl, ?_⟩, ⟨_, rfl, ?_⟩, trivial⟩
        ·(first | (apply qb; exact rfl; exact hobX; exact rfl; exact rfl; apply zi 44 rfl (jb PX.h4)) | (apply qb; exact rfl; exact hobX; exact rfl; exact rfl) | (apply zb; (iterate 5 exact rfl)) | (apply qx; (iterate 5 exact rfl)) | (apply qv; (iterate 3 exact rfl)))
         apply qa
         refine qc [17] (by kernel_rfl) rfl ⟨⟨_, rfl, ?_⟩, trivial⟩
         (apply qj; (iterate 9 exact rfl))
         apply qa
         refine qc [18] (by kernel_rfl) rfl ⟨⟨_, rfl, ?_⟩, trivial⟩
         (first | (refine qi Tryz.call88 (js bk _ _ hbk (by omega) hbv) ?_) | (apply zq (b := b) (xs := its.map zu) (ys := [zu ⟨KX, Lib.join bk [10] ++ [10], fs⟩]) (bytes := 48); exact rfl; exact rfl; exact PX.h2; exact hleX; (iterate 3 exact rfl); exact ⟨⟨_, _, rfl, rfl, rfl, rfl, rfl⟩⟩; exact rfl; (simp [maxLen]; omega); (simp; omega); intro t4 st4 g1 g2 g3 g4; have ho4 := (g3.same o (by omega) holX).trans hobX))
         apply qa
         (apply qo 19; exact rfl; kernel_rfl; kernel_rfl; kernel_rfl; exact rfl; (apply zx; exact rfl; exact rfl))
         (apply qo 20; exact rfl; kernel_rfl; kernel_rfl; kernel_rfl; exact rfl; (first | (apply qq; (iterate 3 exact rfl)) | (apply qp; (iterate 4 exact rfl))))
         refine qc [21] (by kernel_rfl) rfl ⟨⟨_, rfl, ?_⟩, trivial⟩
         (first | (apply qm; exact rfl; exact rfl; exact ho4; (iterate 6 exact rfl)) | (apply zm; (iterate 11 exact rfl)) | (apply q6; (iterate 11 exact rfl)))
         apply qa
         refine zj (by kernel_rfl) ?_
         exact ⟨rfl, rfl, ka PX g1 g2 g3 g4, (hkX.trans (j9 g3 hleX g2 PX.h2 g4)).trans jc⟩
        ·(apply qj; (iterate 9 exact rfl))
         apply qa
         refine qc [4] (by kernel_rfl) rfl ⟨⟨_, rfl, ?_⟩, trivial⟩
         (first | (apply qb; exact rfl; exact hobX; exact rfl; exact rfl; apply zi 44 rfl (jb PX.h4)) | (apply qb; exact rfl; exact hobX; exact rfl; exact rfl) | (apply zb; (iterate 5 exact rfl)) | (apply qx; (iterate 5 exact rfl)) | (apply qv; (iterate 3 exact rfl)))
         apply qa
         refine qc [18] (by kernel_rfl) rfl ⟨⟨_, rfl, ?_⟩, trivial⟩
         (first | (refine qi Tryz.call88 (js bk _ _ hbk (by omega) hbv) ?_) | (apply zq (b := b) (xs := its.map zu) (ys := [zu ⟨KX, Lib.join bk [10] ++ [10], fs⟩]) (bytes := 48); exact rfl; exact rfl; exact PX.h2; exact hleX; (iterate 3 exact rfl); exact ⟨⟨_, _, rfl, rfl, rfl, rfl, rfl⟩⟩; exact rfl; (simp [maxLen]; omega); (simp; omega); intro t4 st4 g1 g2 g3 g4; have ho4 := (g3.same o (by omega) holX).trans hobX))
         apply qa
         (apply qo 19; exact rfl; kernel_rfl; kernel_rfl; kernel_rfl; exact rfl; (apply zx; exact rfl; exact rfl))
         (apply qo 20; exact rfl; kernel_rfl; kernel_rfl; kernel_rfl; exact rfl; (first | (apply qq; (iterate 3 exact rfl)) | (apply qp; (iterate 4 exact rfl))))
         refine qc [21] (by kernel_rfl) rfl ⟨⟨_, rfl, ?_⟩, trivial⟩
         (first | (apply qm; exact rfl; exact rfl; exact ho4; (iterate 6 exact rfl)) | (apply zm; (iterate 11 exact rfl)) | (apply q6; (iterate 11 exact rfl)))
         apply qa
         refine zj (by kernel_rfl) ?_
         exact ⟨rfl, rfl, ka PX g1 g2 g3 g4, (hkX.trans (j9 g3 hleX g2 PX.h2 g4)).trans jc⟩
     ·(first | (apply qb; exact rfl; exact hobX; exact rfl; exact rfl; apply zi 44 rfl (jb PX.h4)) | (apply qb; exact rfl; exact hobX; exact rfl; exact rfl) | (apply zb; (iterate 5 exact rfl)) | (apply qx; (iterate 5 exact rfl)) | (apply qv; (iterate 3 exact rfl)))
      apply qa
      refine qc [4, 9] (by kernel_rfl) rfl ⟨⟨_, rfl, ?_⟩, ⟨_, rfl, ?_⟩, trivial⟩
      ·(first | (apply qb; exact rfl; exact hobX; exact rfl; exact rfl; apply zi 44 rfl (jb PX.h4)) | (apply qb; exact rfl; exact hobX; exact rfl; exact rfl) | (apply zb; (iterate 5 exact rfl)) | (apply qx; (iterate 5 exact rfl)) | (apply qv; (iterate 3 exact rfl)))
       apply qa
       refine qc [9] (by kernel_rfl) rfl ⟨⟨_, rfl, ?_⟩, trivial⟩
       (first | (apply qb; exact rfl; exact hobX; exact rfl; exact rfl; apply zi 44 rfl (jb PX.h4)) | (apply qb; exact rfl; exact hobX; exact rfl; exact rfl) | (apply zb; (iterate 5 exact rfl)) | (apply qx; (iterate 5 exact rfl)) | (apply qv; (iterate 3 exact rfl)))
       apply qa
       refine qc [10] (by kernel_rfl) rfl ⟨⟨_, rfl, ?_⟩, trivial⟩
       (first | (refine qi Tryz.call88 (js bk _ _ hbk (by omega) hbv) ?_) | (apply zq (b := b) (xs := its.map zu) (ys := [zu ⟨KX, Lib.join bk [10] ++ [10], fs⟩]) (bytes := 48); exact rfl; exact rfl; exact PX.h2; exact hleX; (iterate 3 exact rfl); exact ⟨⟨_, _, rfl, rfl, rfl, rfl, rfl⟩⟩; exact rfl; (simp [maxLen]; omega); (simp; omega); intro t4 st4 g1 g2 g3 g4; have ho4 := (g3.same o (by omega) holX).trans hobX))
       apply qa
       (apply qo 11; exact rfl; kernel_rfl; kernel_rfl; kernel_rfl; exact rfl; (apply vf; exact rfl; exact rfl; (first | omega | (simp only [List.length_append, List.length_cons, List.length_nil]; omega))))
       (apply qo 16; exact rfl; kernel_rfl; kernel_rfl; kernel_rfl; exact rfl; (apply vi; (iterate 3 exact rfl)))
       refine qc [17] (by kernel_rfl) rfl ⟨⟨_, rfl, ?_⟩, trivial⟩
       (apply qj; (iterate 9 exact rfl))
       apply qa
       refine qc [18] (by kernel_rfl) rfl ⟨⟨_, rfl, ?_⟩, trivial⟩
       (first | (refine qi Tryz.call88 (js bk _ _ hbk (by omega) hbv) ?_) | (apply zq (b := b) (xs := its.map zu) (ys := [zu ⟨KX, Lib.join bk [10] ++ [10], fs⟩]) (bytes := 48); exact rfl; exact rfl; exact PX.h2; exact hleX; (iterate 3 exact rfl); exact ⟨⟨_, _, rfl, rfl, rfl, rfl, rfl⟩⟩; exact rfl; (simp [maxLen]; omega); (simp; omega); intro t4 st4 g1 g2 g3 g4; have ho4 := (g3.same o (by omega) holX).trans hobX))
       apply qa
       (apply qo 19; exact rfl; kernel_rfl; kernel_rfl; kernel_rfl; exact rfl; (apply zx; exact rfl; exact rfl))
       (apply qo 20; exact rfl; kernel_rfl; kernel_rfl; kernel_rfl; exact rfl; (first | (apply qq; (iterate 3 exact rfl)) | (apply qp; (iterate 4 exact rfl))))
       refine qc [21] (by kernel_rfl) rfl ⟨⟨_, rfl, ?_⟩, trivial⟩
       (first | (apply qm; exact rfl; exact rfl; exact ho4; (iterate 6 exact rfl)) | (apply zm; (iterate 11 exact rfl)) | (apply q6; (iterate 11 exact rfl)))
       apply qa
       refine zj (by kernel_rfl) ?_
       exact ⟨rfl, rfl, ka PX g1 g2 g3 g4, (hkX.trans (j9 g3 hleX g2 PX.h2 g4)).trans jc⟩
      ·(first | (apply qb; exact rfl; exact hobX; exact rfl; exact rfl; apply zi 44 rfl (jb PX.h4)) | (apply qb; exact rfl; exact hobX; exact rfl; exact rfl) | (apply zb; (iterate 5 exact rfl)) | (apply qx; (iterate 5 exact rfl)) | (apply qv; (iterate 3 exact rfl)))
       apply qa
       refine qc [4, 10] (by kernel_rfl) rfl ⟨⟨_, rfl, ?_⟩, ⟨_, rfl, ?_⟩, trivial⟩
       ·(first | (apply qb; exact rfl; exact hobX; exact rfl; exact rfl; apply zi 44 rfl (jb PX.h4)) | (apply qb; exact rfl; exact hobX; exact rfl; exact rfl) | (apply zb; (iterate 5 exact rfl)) | (apply qx; (iterate 5 exact rfl)) | (apply qv; (iterate 3 exact rfl)))
        apply qa
        refine qc [10] (by kernel_rfl) rfl ⟨⟨_, rfl, ?_⟩, trivial⟩
        (first | (refine qi Tryz.call88 (js bk _ _ hbk (by omega) hbv) ?_) | (apply zq (b := b) (xs := its.map zu) (ys := [zu ⟨KX, Lib.join bk [10] ++ [10], fs⟩]) (bytes := 48); exact rfl; exact rfl; exact PX.h2; exact hleX; (iterate 3 exact rfl); exact ⟨⟨_, _, rfl, rfl, rfl, rfl, rfl⟩⟩; exact rfl; (simp [maxLen]; omega); (simp; omega); intro t4 st4 g1 g2 g3 g4; have ho4 := (g3.same o (by omega) holX).trans hobX))
        apply qa
        (apply qo 11; exact rfl; kernel_rfl; kernel_rfl; kernel_rfl; exact rfl; (apply vf; exact rfl; exact rfl; (first | omega | (simp only [List.length_append, List.length_cons, List.length_nil]; omega))))
        (apply qo 16; exact rfl; kernel_rfl; kernel_rfl; kernel_rfl; exact rfl; (apply vi; (iterate 3 exact rfl)))
        refine qc [17] (by kernel_rfl) rfl ⟨⟨_, rfl, ?_⟩, trivial⟩
        (apply qj; (iterate 9 exact rfl))
        apply qa
        refine qc [18] (by kernel_rfl) rfl ⟨⟨_, rfl, ?_⟩, trivial⟩
        (first | (refine qi Tryz.call88 (js bk _ _ hbk (by omega) hbv) ?_) | (apply zq (b := b) (xs := its.map zu) (ys := [zu ⟨KX, Lib.join bk [10] ++ [10], fs⟩]) (bytes := 48); exact rfl; exact rfl; exact PX.h2; exact hleX; (iterate 3 exact rfl); exact ⟨⟨_, _, rfl, rfl, rfl, rfl, rfl⟩⟩; exact rfl; (simp [maxLen]; omega); (simp; omega); intro t4 st4 g1 g2 g3 g4; have ho4 := (g3.same o (by omega) holX).trans hobX))
        apply qa
        (apply qo 19; exact rfl; kernel_rfl; kernel_rfl; kernel_rfl; exact rfl; (apply zx; exact rfl; exact rfl))
        (apply qo 20; exact rfl; kernel_rfl; kernel_rfl; kernel_rfl; exact rfl; (first | (apply qq; (iterate 3 exact rfl)) | (apply qp; (iterate 4 exact rfl))))
        refine qc [21] (by kernel_rfl) rfl ⟨⟨_, rfl, ?_⟩, trivial⟩
        (first | (apply qm; exact rfl; exact rfl; exact ho4; (iterate 6 exact rfl)) | (apply zm; (iterate 11 exact rfl)) | (apply q6; (iterate 11 exact rfl)))
        apply qa
        refine zj (by kernel_rfl) ?_
        exact ⟨rfl, rfl, ka PX g1 g2 g3 g4, (hkX.trans (j9 g3 hleX g2 PX.h2 g4)).trans jc⟩
       ·(first | (refine qi Tryz.call88 (js bk _ _ hbk (by omega) hbv) ?_) | (apply zq (b := b) (xs := its.map zu) (ys := [zu ⟨KX, Lib.join bk [10] ++ [10], fs⟩]) (bytes := 48); exact rfl; exact rfl; exact PX.h2; exact hleX; (iterate 3 exact rfl); exact ⟨⟨_, _, rfl, rfl, rfl, rfl, rfl⟩⟩; exact rfl; (simp [maxLen]; omega); (simp; omega); intro t4 st4 g1 g2 g3 g4; have ho4 := (g3.same o (by omega) holX).trans hobX))
        apply qa
        (apply qo 11; exact rfl; kernel_rfl; kernel_rfl; kernel_rfl; exact rfl; (apply vf; exact rfl; exact rfl; (first | omega | (simp only [List.length_append, List.length_cons, List.length_nil]; omega))))
        (apply qo 16; exact rfl; kernel_rfl; kernel_rfl; kernel_rfl; exact rfl; (apply vi; (iterate 3 exact rfl)))
        refine qc [4, 17] (by kernel_rfl) rfl ⟨⟨_, rfl, ?_⟩, ⟨_, rfl, ?_⟩, trivial⟩
        ·(first | (apply qb; exact rfl; exact hobX; exact rfl; exact rfl; apply zi 44 rfl (jb PX.h4)) | (apply qb; exact rfl; exact hobX; exact rfl; exact rfl) | (apply zb; (iterate 5 exact rfl)) | (apply qx; (iterate 5 exact rfl)) | (apply qv; (iterate 3 exact rfl)))
         apply qa
         refine qc [17] (by kernel_rfl) rfl ⟨⟨_, rfl, ?_⟩, trivial⟩
         (apply qj; (iterate 9 exact rfl))
         apply qa
         refine qc [18] (by kernel_rfl) rfl ⟨⟨_, rfl, ?_⟩, trivial⟩
         (first | (refine qi Tryz.call88 (js bk _ _ hbk (by omega) hbv) ?_) | (apply zq (b := b) (xs := its.map zu) (ys := [zu ⟨KX, Lib.join bk [10] ++ [10], fs⟩]) (bytes := 48); exact rfl; exact rfl; exact PX.h2; exact hleX; (iterate 3 exact rfl); exact ⟨⟨_, _, rfl, rfl, rfl, rfl, rfl⟩⟩; exact rfl; (simp [maxLen]; omega); (simp; omega); intro t4 st4 g1 g2 g3 g4; have ho4 := (g3.same o (by omega) holX).trans hobX))
         apply qa
         (apply qo 19; exact rfl; kernel_rfl; kernel_rfl; kernel_rfl; exact rfl; (apply zx; exact rfl; exact rfl))
         (apply qo 20; exact rfl; kernel_rfl; kernel_rfl; kernel_rfl; exact rfl; (first | (apply qq; (iterate 3 exact rfl)) | (apply qp; (iterate 4 exact rfl))))
         refine qc [21] (by kernel_rfl) rfl ⟨⟨_, rfl, ?_⟩, trivial⟩
         (first | (apply qm; exact rfl; exact rfl; exact ho4; (iterate 6 exact rfl)) | (apply zm; (iterate 11 exact rfl)) | (apply q6; (iterate 11 exact rfl)))
         apply qa
         refine zj (by kernel_rfl) ?_
         exact ⟨rfl, rfl, ka PX g1 g2 g3 g4, (hkX.trans (j9 g3 hleX g2 PX.h2 g4)).trans jc⟩
        ·(apply qj; (iterate 9 exact rfl))
         apply qa
         refine qc [4] (by kernel_rfl) rfl ⟨⟨_, rfl, ?_⟩, trivial⟩
         (first | (apply qb; exact rfl; exact hobX; exact rfl; exact rfl; apply zi 44 rfl (jb PX.h4)) | (apply qb; exact rfl; exact hobX; exact rfl; exact rfl) | (apply zb; (iterate 5 exact rfl)) | (apply qx; (iterate 5 exact rfl)) | (apply qv; (iterate 3 exact rfl)))
         apply qa
         refine qc [18] (by kernel_rfl) rfl ⟨⟨_, rfl, ?_⟩, trivial⟩
         (first | (refine qi Tryz.call88 (js bk _ _ hbk (by omega) hbv) ?_) | (apply zq (b := b) (xs := its.map zu) (ys := [zu ⟨KX, Lib.join bk [10] ++ [10], fs⟩]) (bytes := 48); exact rfl; exact rfl; exact PX.h2; exact hleX; (iterate 3 exact rfl); exact ⟨⟨_, _, rfl, rfl, rfl, rfl, rfl⟩⟩; exact rfl; (simp [maxLen]; omega); (simp; omega); intro t4 st4 g1 g2 g3 g4; have ho4 := (g3.same o (by omega) holX).trans hobX))
         apply qa
         (apply qo 19; exact rfl; kernel_rfl; kernel_rfl; kernel_rfl; exact rfl; (apply zx; exact rfl; exact rfl))
         (apply qo 20; exact rfl; kernel_rfl; kernel_rfl; kernel_rfl; exact rfl; (first | (apply qq; (iterate 3 exact rfl)) | (apply qp; (iterate 4 exact rfl))))
         refine qc [21] (by kernel_rfl) rfl ⟨⟨_, rfl, ?_⟩, trivial⟩
         (first | (apply qm; exact rfl; exact rfl; exact ho4; (iterate 6 exact rfl)) | (apply zm; (iterate 11 exact rfl)) | (apply q6; (iterate 11 exact rfl)))
         apply qa
         refine zj (by kernel_rfl) ?_
         exact ⟨rfl, rfl, ka PX g1 g2 g3 g4, (hkX.trans (j9 g3 hleX g2 PX.h2 g4)).trans jc⟩
    ·rintro ⟨t2, st2, df2⟩ ⟨h20, hd, hp2, hk2⟩
     simp only at h20 hd hp2 hk2
     subst hd
     obtain ⟨d1, d2, d3, d4, P2⟩ := hp2
     have hob2 : st2[o]? = some (.cells 0 148 [d1, Iv fr, Bv fu, d2, d3, d4, Iv rcX]) := P2.ob
     have ht2 : t2 = puts t2 [(0, .bx o 0 0)] := (qaa (L := [(0, .bx o 0 0)]) ⟨h20, trivial⟩).symm
     rw [ht2]
     repeat' (first
      | apply qr
      | apply qe
      | apply qa
      | apply qn
      | apply qf
      | (apply za; (iterate 3 exact rfl))
      | (apply ki; exact rfl; exact rfl)
      | apply q9
      | (apply qm; exact rfl; exact rfl; exact hob2; (iterate 6 exact rfl))
      | (apply qm; exact rfl; exact rfl; exact zn hob2; (iterate 6 exact rfl)))
     refine qs rfl (zt rfl) ⟨rfl, fun _ => ?_, hk2.trans (jc.trans jc)⟩
     rw [hcl]
     exact qhl P2
   ·have hz4 : 0 < (fs.map fldA).length := by rw [List.length_map]; exact List.length_pos_iff.2 hfs
    have hcl : w6 ⟨ls, fr, fu, its, bk, fs, rc⟩ = ⟨ls, fr, fu, its ++ [⟨3, Lib.join bk [10] ++ [10], fs⟩], [], [], rc + 1⟩ := by
     unfold w6
     rw [if_neg hbk, hjt]
     simp [hfs]
    repeat' (first
     | apply qr
     | apply qe
     | apply qa
     | apply qn
     | apply qf
     | (apply qt; (iterate 3 exact rfl))
     | (apply qg; exact rfl; first | (apply zd; (first | assumption | omega)) | (apply zf; (first | assumption | omega)) | (apply ze; (first | exact rfl | assumption)) | (apply zg; (first | exact rfl | assumption)) | (apply cd_n <;> intro h) | (apply cd_t; (first | exact rfl | assumption)) | (apply cd_f; (first | exact rfl | assumption)) | (apply cd_d <;> intro h) | (apply cd_s <;> intro h))
     | (apply zo; (iterate 4 exact rfl))
     | (apply jj; exact rfl; exact rfl; exact z2 (by omega) (by omega))
     | (apply j3; exact rfl; exact rfl)
     | (apply za; (iterate 3 exact rfl))
     | (apply ki; exact rfl; exact rfl)
     | apply q8
     | (apply qb; exact rfl; exact hob; exact rfl; exact rfl)
     | (apply zo; exact rfl; exact hl4; exact rfl; exact rfl)
     | (apply qm; exact rfl; exact rfl; exact hob; (iterate 6 exact rfl)))
    obtain ⟨rcX, hrX⟩ : ∃ x, x = rc + 1 := ⟨_, rfl⟩
    obtain ⟨stX, hsX⟩ : ∃ x, x = st1.set o (parO c1 c2 (.sl 1 (bk.map fun x => Sv x) (some t3)) c4 ⟨ls, fr, fu, its, bk, fs, rcX⟩) := ⟨_, rfl⟩
    obtain ⟨KX, hKX⟩ : ∃ x : Int, x = 3 := ⟨_, rfl⟩
    have PX : ParS b o ⟨ls, fr, fu, its, bk, fs, rcX⟩ stX c1 c2 (.sl 1 (bk.map fun x => Sv x) (some t3)) c4 := by rw [hsX]; exact qvl P rcX
    have hkX : Keep b o st stX := by rw [hsX]; exact hk.trans jc
    replace hcl : w6 ⟨ls, fr, fu, its, bk, fs, rc⟩ = ⟨ls, fr, fu, its ++ [⟨KX, Lib.join bk [10] ++ [10], fs⟩], [], [], rcX⟩ := by rw [hKX, hrX]; exact hcl
    refine wf [(0, .bx o 0 0), (4, Iv KX)] stX [] ⟨rfl, (congrArg Iv hKX).symm, trivial⟩ (by rw [hsX, hrX]; rfl) rfl fun t => ?_
    have hleX := PX.le
    have holX : o < stX.length := by omega
    have hobX : stX[o]? = some (.cells 0 148 [c1, Iv fr, Bv fu, c2, .sl 1 (bk.map fun x => Sv x) (some t3), c4, Iv rcX]) := PX.ob
    refine qat (fun s => s.t 0 = .bx o 0 0 ∧ s.df = [] ∧ Par b o ⟨ls, fr, fu, its ++ [⟨KX, Lib.join bk [10] ++ [10], fs⟩], bk, fs, rcX⟩ s.st ∧ Keep b o st s.st) ?_ ?_
    ·refine x8 rfl rfl ?_
     (apply qo 0; exact rfl; kernel_rfl; kernel_rfl; kernel_rfl; exact rfl; exact vv)
     (apply qo 1; exact rfl; kernel_rfl; kernel_rfl; kernel_rfl; exact rfl; exact vv)
     (apply qo 2; exact rfl; kernel_rfl; kernel_rfl; kernel_rfl; exact rfl; (apply zx; exact rfl; exact rfl))
     (apply qo 3; exact rfl; kernel_rfl; kernel_rfl; kernel_rfl; exact rfl; (first | (apply qq; (iterate 3 exact rfl)) | (apply qp; (iterate 4 exact rfl))))
     (apply qo 5; exact rfl; kernel_rfl; kernel_rfl; kernel_rfl; exact rfl; exact vv)
     (apply qo 6; exact rfl; kernel_rfl; kernel_rfl; kernel_rfl; exact rfl; exact vv)
     (apply qo 7; exact rfl; kernel_rfl; kernel_rfl; kernel_rfl; exact rfl; (apply zx; exact rfl; exact rfl))
     (apply qo 8; exact rfl; kernel_rfl; kernel_rfl; kernel_rfl; exact rfl; (first | (apply qq; (iterate 3 exact rfl)) | (apply qp; (iterate 4 exact rfl))))
     (apply qo 12; exact rfl; kernel_rfl; kernel_rfl; kernel_rfl; exact rfl; exact vv)
     (apply qo 13; exact rfl; kernel_rfl; kernel_rfl; kernel_rfl; exact rfl; (apply zx; exact rfl; exact rfl))
     (apply qo 14; exact rfl; kernel_rfl; kernel_rfl; kernel_rfl; exact rfl; (first | (apply qq; (iterate 3 exact rfl)) | (apply qp; (iterate 4 exact rfl))))
     refine qc [4, 9, 15] (by kernel_rfl) rfl ⟨⟨_, rfl, ?_⟩, ⟨_, rfl, ?_⟩, ⟨_, rfl, ?_⟩, trivial⟩
     ·(first | (apply qb; exact rfl; exact hobX; exact rfl; exact rfl; apply zi 44 rfl (jb PX.h4)) | (apply qb; exact rfl; exact hobX; exact rfl; exact rfl) | (apply zb; (iterate 5 exact rfl)) | (apply qx; (iterate 5 exact rfl)) | (apply qv; (iterate 3 exact rfl)))
      apply qa
      refine qc [9, 15] (by kernel_rfl) rfl ⟨⟨_, rfl, ?_⟩, ⟨_, rfl, ?_⟩, trivial⟩
      ·(first | (apply qb; exact rfl; exact hobX; exact rfl; exact rfl; apply zi 44 rfl (jb PX.h4)) | (apply qb; exact rfl; exact hobX; exact rfl; exact rfl) | (apply zb; (iterate 5 exact rfl)) | (apply qx; (iterate 5 exact rfl)) | (apply qv; (iterate 3 exact rfl)))
       apply qa
       refine qc [10, 15] (by kernel_rfl) rfl ⟨⟨_, rfl, ?_⟩, ⟨_, rfl, ?_⟩, trivial⟩
       ·(first | (refine qi Tryz.call88 (js bk _ _ hbk (by omega) hbv) ?_) | (apply zq (b := b) (xs := its.map zu) (ys := [zu ⟨KX, Lib.join bk [10] ++ [10], fs⟩]) (bytes := 48); exact rfl; exact rfl; exact PX.h2; exact hleX; (iterate 3 exact rfl); exact ⟨⟨_, _, rfl, rfl, rfl, rfl, rfl⟩⟩; exact rfl; (simp [maxLen]; omega); (simp; omega); intro t4 st4 g1 g2 g3 g4; have ho4 := (g3.same o (by omega) holX).trans hobX))
        apply qa
        (apply qo 11; exact rfl; kernel_rfl; kernel_rfl; kernel_rfl; exact rfl; (apply vf; exact rfl; exact rfl; (first | omega | (simp only [List.length_append, List.length_cons, List.length_nil]; omega))))
        refine qc [15] (by kernel_rfl) rfl ⟨⟨_, rfl, ?_⟩, trivial⟩
        (first | (apply qb; exact rfl; exact hobX; exact rfl; exact rfl; apply zi 44 rfl (jb PX.h4)) | (apply qb; exact rfl; exact hobX; exact rfl; exact rfl) | (apply zb; (iterate 5 exact rfl)) | (apply qx; (iterate 5 exact rfl)) | (apply qv; (iterate 3 exact rfl)))
        apply qa
        (apply qo 16; exact rfl; kernel_rfl; kernel_rfl; kernel_rfl; exact rfl; (apply vi; (iterate 3 exact rfl)))
        refine qc [17] (by kernel_rfl) rfl ⟨⟨_, rfl, ?_⟩, trivial⟩
        (apply qj; (iterate 9 exact rfl))
        apply qa
        refine qc [18] (by kernel_rfl) rfl ⟨⟨_, rfl, ?_⟩, trivial⟩
        (first | (refine qi Tryz.call88 (js bk _ _ hbk (by omega) hbv) ?_) | (apply zq (b := b) (xs := its.map zu) (ys := [zu ⟨KX, Lib.join bk [10] ++ [10], fs⟩]) (bytes := 48); exact rfl; exact rfl; exact PX.h2; exact hleX; (iterate 3 exact rfl); exact ⟨⟨_, _, rfl, rfl, rfl, rfl, rfl⟩⟩; exact rfl; (simp [maxLen]; omega); (simp; omega); intro t4 st4 g1 g2 g3 g4; have ho4 := (g3.same o (by omega) holX).trans hobX))
        apply qa
        (apply qo 19; exact rfl; kernel_rfl; kernel_rfl; kernel_rfl; exact rfl; (apply zx; exact rfl; exact rfl))
        (apply qo 20; exact rfl; kernel_rfl; kernel_rfl; kernel_rfl; exact rfl; (first | (apply qq; (iterate 3 exact rfl)) | (apply qp; (iterate 4 exact rfl))))
        refine qc [21] (by kernel_rfl) rfl ⟨⟨_, rfl, ?_⟩, trivial⟩
        (first | (apply qm; exact rfl; exact rfl; exact ho4; (iterate 6 exact rfl)) | (apply zm; (iterate 11 exact rfl)) | (apply q6; (iterate 11 exact rfl)))
        apply qa
        refine zj (by kernel_rfl) ?_
        exact ⟨rfl, rfl, ka PX g1 g2 g3 g4, (hkX.trans (j9 g3 hleX g2 PX.h2 g4)).trans jc⟩
       ·(first | (apply qb; exact rfl; exact hobX; exact rfl; exact rfl; apply zi 44 rfl (jb PX.h4)) | (apply qb; exact rfl; exact hobX; exact rfl; exact rfl) | (apply zb; (iterate 5 exact rfl)) | (apply qx; (iterate 5 exact rfl)) | (apply qv; (iterate 3 exact rfl)))
        apply qa
        refine qc [10] (by kernel_rfl) rfl ⟨⟨_, rfl, ?_⟩, trivial⟩
        (first | (refine qi Tryz.call88 (js bk _ _ hbk (by omega) hbv) ?_) | (apply zq (b := b) (xs := its.map zu) (ys := [zu ⟨KX, Lib.join bk [10] ++ [10], fs⟩]) (bytes := 48); exact rfl; exact rfl; exact PX.h2; exact hleX; (iterate 3 exact rfl); exact ⟨⟨_, _, rfl, rfl, rfl, rfl, rfl⟩⟩; exact rfl; (simp [maxLen]; omega); (simp; omega); intro t4 st4 g1 g2 g3 g4; have ho4 := (g3.same o (by omega) holX).trans hobX))
        apply qa
        (apply qo 11; exact rfl; kernel_rfl; kernel_rfl; kernel_rfl; exact rfl; (apply vf; exact rfl; exact rfl; (first | omega | (simp only [List.length_append, List.length_cons, List.length_nil]; omega))))
        (apply qo 16; exact rfl; kernel_rfl; kernel_rfl; kernel_rfl; exact rfl; (apply vi; (iterate 3 exact rfl)))
        refine qc [17] (by kernel_rfl) rfl ⟨⟨_, rfl, ?_⟩, trivial⟩
        (apply qj; (iterate 9 exact rfl))
        apply qa
        refine qc [18] (by kernel_rfl) rfl ⟨⟨_, rfl, ?_⟩, trivial⟩
        (first | (refine qi Tryz.call88 (js bk _ _ hbk (by omega) hbv) ?_) | (apply zq (b := b) (xs := its.map zu) (ys := [zu ⟨KX, Lib.join bk [10] ++ [10], fs⟩]) (bytes := 48); exact rfl; exact rfl; exact PX.h2; exact hleX; (iterate 3 exact rfl); exact ⟨⟨_, _, rfl, rfl, rfl, rfl, rfl⟩⟩; exact rfl; (simp [maxLen]; omega); (simp; omega); intro t4 st4 g1 g2 g3 g4; have ho4 := (g3.same o (by omega) holX).trans hobX))
        apply qa
        (apply qo 19; exact rfl; kernel_rfl; kernel_rfl; kernel_rfl; exact rfl; (apply zx; exact rfl; exact rfl))
        (apply qo 20; exact rfl; kernel_rfl; kernel_rfl; kernel_rfl; exact rfl; (first | (apply qq; (iterate 3 exact rfl)) | (apply qp; (iterate 4 exact rfl))))
        refine qc [21] (by kernel_rfl) rfl ⟨⟨_, rfl, ?_⟩, trivial⟩
        (first | (apply qm; exact rfl; exact rfl; exact ho4; (iterate 6 exact rfl)) | (apply zm; (iterate 11 exact rfl)) | (apply q6; (iterate 11 exact rfl)))
        apply qa
        refine zj (by kernel_rfl) ?_
        exact ⟨rfl, rfl, ka PX g1 g2 g3 g4, (hkX.trans (j9 g3 hleX g2 PX.h2 g4)).trans jc⟩
      ·(first | (apply qb; exact rfl; exact hobX; exact rfl; exact rfl; apply zi 44 rfl (jb PX.h4)) | (apply qb; exact rfl; exact hobX; exact rfl; exact rfl) | (apply zb; (iterate 5 exact rfl)) | (apply qx; (iterate 5 exact rfl)) | (apply qv; (iterate 3 exact rfl)))
       apply qa
       refine qc [9] (by kernel_rfl) rfl ⟨⟨_, rfl, ?_⟩, trivial⟩
       (first | (apply qb; exact rfl; exact hobX; exact rfl; exact rfl; apply zi 44 rfl (jb PX.h4)) | (apply qb; exact rfl; exact hobX; exact rfl; exact rfl) | (apply zb; (iterate 5 exact rfl)) | (apply qx; (iterate 5 exact rfl)) | (apply qv; (iterate 3 exact rfl)))
       apply qa
       refine qc [10] (by kernel_rfl) rfl ⟨⟨_, rfl, ?_⟩, trivial⟩
       (first | (refine qi Tryz.call88 (js bk _ _ hbk (by omega) hbv) ?_) | (apply zq (b := b) (xs := its.map zu) (ys := [zu ⟨KX, Lib.join bk [10] ++ [10], fs⟩]) (bytes := 48); exact rfl; exact rfl; exact PX.h2; exact hleX; (iterate 3 exact rfl); exact ⟨⟨_, _, rfl, rfl, rfl, rfl, rfl⟩⟩; exact rfl; (simp [maxLen]; omega); (simp; omega); intro t4 st4 g1 g2 g3 g4; have ho4 := (g3.same o (by omega) holX).trans hobX))
       apply qa
       (apply qo 11; exact rfl; kernel_rfl; kernel_rfl; kernel_rfl; exact rfl; (apply vf; exact rfl; exact rfl; (first | omega | (simp only [List.length_append, List.length_cons, List.length_nil]; omega))))
       (apply qo 16; exact rfl; kernel_rfl; kernel_rfl; kernel_rfl; exact rfl; (apply vi; (iterate 3 exact rfl)))
       refine qc [17] (by kernel_rfl) rfl ⟨⟨_, rfl, ?_⟩, trivial⟩
       (apply qj; (iterate 9 exact rfl))
       apply qa
       refine qc [18] (by kernel_rfl) rfl ⟨⟨_, rfl, ?_⟩, trivial⟩
       (first | (refine qi Tryz.call88 (js bk _ _ hbk (by omega) hbv) ?_) | (apply zq (b := b) (xs := its.map zu) (ys := [zu ⟨KX, Lib.join bk [10] ++ [10], fs⟩]) (bytes := 48); exact rfl; exact rfl; exact PX.h2; exact hleX; (iterate 3 exact rfl); exact ⟨⟨_, _, rfl, rfl, rfl, rfl, rfl⟩⟩; exact rfl; (simp [maxLen]; omega); (simp; omega); intro t4 st4 g1 g2 g3 g4; have ho4 := (g3.same o (by omega) holX).trans hobX))
       apply qa
       (apply qo 19; exact rfl; kernel_rfl; kernel_rfl; kernel_rfl; exact rfl; (apply zx; exact rfl; exact rfl))
       (apply qo 20; exact rfl; kernel_rfl; kernel_rfl; kernel_rfl; exact rfl; (first | (apply qq; (iterate 3 exact rfl)) | (apply qp; (iterate 4 exact rfl))))
       refine qc [21] (by kernel_rfl) rfl ⟨⟨_, rfl, ?_⟩, trivial⟩
       (first | (apply qm; exact rfl; exact rfl; exact ho4; (iterate 6 exact rfl)) | (apply zm; (iterate 11 exact rfl)) | (apply q6; (iterate 11 exact rfl)))
       apply qa
       refine zj (by kernel_rfl) ?_
       exact ⟨rfl, rfl, ka PX g1 g2 g3 g4, (hkX.trans (j9 g3 hleX g2 PX.h2 g4)).trans jc⟩
     ·(first | (apply qb; exact rfl; exact hobX; exact rfl; exact rfl; apply zi 44 rfl (jb PX.h4)) | (apply qb; exact rfl; exact hobX; exact rfl; exact rfl) | (apply zb; (iterate 5 exact rfl)) | (apply qx; (iterate 5 exact rfl)) | (apply qv; (iterate 3 exact rfl)))
      apply qa
      refine qc [4, 10, 15] (by kernel_rfl) rfl ⟨⟨_, rfl, ?_⟩, ⟨_, rfl, ?_⟩, ⟨_, rfl, ?_⟩, trivial⟩
      ·(first | (apply qb; exact rfl; exact hobX; exact rfl; exact rfl; apply zi 44 rfl (jb PX.h4)) | (apply qb; exact rfl; exact hobX; exact rfl; exact rfl) | (apply zb; (iterate 5 exact rfl)) | (apply qx; (iterate 5 exact rfl)) | (apply qv; (iterate 3 exact rfl)))
       apply qa
       refine qc [10, 15] (by kernel_rfl) rfl ⟨⟨_, rfl, ?_⟩, ⟨_, rfl, ?_⟩, trivial⟩
       ·(first | (refine qi Tryz.call88 (js bk _ _ hbk (by omega) hbv) ?_) | (apply zq (b := b) (xs := its.map zu) (ys := [zu ⟨KX, Lib.join bk [10] ++ [10], fs⟩]) (bytes := 48); exact rfl; exact rfl; exact PX.h2; exact hleX; (iterate 3 exact rfl); exact ⟨⟨_, _, rfl, rfl, rfl, rfl, rfl⟩⟩; exact rfl; (simp [maxLen]; omega); (simp; omega); intro t4 st4 g1 g2 g3 g4; have ho4 := (g3.same o (by omega) holX).trans hobX))
        apply qa
        (apply qo 11; exact rfl; kernel_rfl; kernel_rfl; kernel_rfl; exact rfl; (apply vf; exact rfl; exact rfl; (first | omega | (simp only [List.length_append, List.length_cons, List.length_nil]; omega))))
        refine qc [15] (by kernel_rfl) rfl ⟨⟨_, rfl, ?_⟩, trivial⟩
        (first | (apply qb; exact rfl; exact hobX; exact rfl; exact rfl; apply zi 44 rfl (jb PX.h4)) | (apply qb; exact rfl; exact hobX; exact rfl; exact rfl) | (apply zb; (iterate 5 exact rfl)) | (apply qx; (iterate 5 exact rfl)) | (apply qv; (iterate 3 exact rfl)))
        apply qa
        (apply qo 16; exact rfl; kernel_rfl; kernel_rfl; kernel_rfl; exact rfl; (apply vi; (iterate 3 exact rfl)))
        refine qc [17] (by kernel_rfl) rfl ⟨⟨_, rfl, ?_⟩, trivial⟩
        (apply qj; (iterate 9 exact rfl))
        apply qa
        refine qc [18] (by kernel_rfl) rfl ⟨⟨_, rfl, ?_⟩, trivial⟩
        (first | (refine qi Tryz.call88 (js bk _ _ hbk (by omega) hbv) ?_) | (apply zq (b := b) (xs := its.map zu) (ys := [zu ⟨KX, Lib.join bk [10] ++ [10], fs⟩]) (bytes := 48); exact rfl; exact rfl; exact PX.h2; exact hleX; (iterate 3 exact rfl); exact ⟨⟨_, _, rfl, rfl, rfl, rfl, rfl⟩⟩; exact rfl; (simp [maxLen]; omega); (simp; omega); intro t4 st4 g1 g2 g3 g4; have ho4 := (g3.same o (by omega) holX).trans hobX))
        apply qa
        (apply qo 19; exact rfl; kernel_rfl; kernel_rfl; kernel_rfl; exact rfl; (apply zx; exact rfl; exact rfl))
        (apply qo 20; exact rfl; kernel_rfl; kernel_rfl; kernel_rfl; exact rfl; (first | (apply qq; (iterate 3 exact rfl)) | (apply qp; (iterate 4 exact rfl))))
        refine qc [21] (by kernel_rfl) rfl ⟨⟨_, rfl, ?_⟩, trivial⟩
        (first | (apply qm; exact rfl; exact rfl; exact ho4; (iterate 6 exact rfl)) | (apply zm; (iterate 11 exact rfl)) | (apply q6; (iterate 11 exact rfl)))
        apply qa
        refine zj (by kernel_rfl) ?_
        exact ⟨rfl, rfl, ka PX g1 g2 g3 g4, (hkX.trans (j9 g3 hleX g2 PX.h2 g4)).trans jc⟩
       ·(first | (apply qb; exact rfl; exact hobX; exact rfl; exact rfl; apply zi 44 rfl (jb PX.h4)) | (apply qb; exact rfl; exact hobX; exact rfl; exact rfl) | (apply zb; (iterate 5 exact rfl)) | (apply qx; (iterate 5 exact rfl)) | (apply qv; (iterate 3 exact rfl)))
        apply qa
        refine qc [10] (by kernel_rfl) rfl ⟨⟨_, rfl, ?_⟩, trivial⟩
        (first | (refine qi Tryz.call88 (js bk _ _ hbk (by omega) hbv) ?_) | (apply zq (b := b) (xs := its.map zu) (ys := [zu ⟨KX, Lib.join bk [10] ++ [10], fs⟩]) (bytes := 48); exact rfl; exact rfl; exact PX.h2; exact hleX; (iterate 3 exact rfl); exact ⟨⟨_, _, rfl, rfl, rfl, rfl, rfl⟩⟩; exact rfl; (simp [maxLen]; omega); (simp; omega); intro t4 st4 g1 g2 g3 g4; have ho4 := (g3.same o (by omega) holX).trans hobX))
        apply qa
        (apply qo 11; exact rfl; kernel_rfl; kernel_rfl; kernel_rfl; exact rfl; (apply vf; exact rfl; exact rfl; (first | omega | (simp only [List.length_append, List.length_cons, List.length_nil]; omega))))
        (apply qo 16; exact rfl; kernel_rfl; kernel_rfl; kernel_rfl; exact rfl; (apply vi; (iterate 3 exact rfl)))
        refine qc [17] (by kernel_rfl) rfl ⟨⟨_, rfl, ?_⟩, trivial⟩
        (apply qj; (iterate 9 exact rfl))
        apply qa
        refine qc [18] (by kernel_rfl) rfl ⟨⟨_, rfl, ?_⟩, trivial⟩
        (first | (refine qi Tryz.call88 (js bk _ _ hbk (by omega) hbv) ?_) | (apply zq (b := b) (xs := its.map zu) (ys := [zu ⟨KX, Lib.join bk [10] ++ [10], fs⟩]) (bytes := 48); exact rfl; exact rfl; exact PX.h2; exact hleX; (iterate 3 exact rfl); exact ⟨⟨_, _, rfl, rfl, rfl, rfl, rfl⟩⟩; exact rfl; (simp [maxLen]; omega); (simp; omega); intro t4 st4 g1 g2 g3 g4; have ho4 := (g3.same o (by omega) holX).trans hobX))
        apply qa
        (apply qo 19; exact rfl; kernel_rfl; kernel_rfl; kernel_rfl; exact rfl; (apply zx; exact rfl; exact rfl))
        (apply qo 20; exact rfl; kernel_rfl; kernel_rfl; kernel_rfl; exact rfl; (first | (apply qq; (iterate 3 exact rfl)) | (apply qp; (iterate 4 exact rfl))))
        refine qc [21] (by kernel_rfl) rfl ⟨⟨_, rfl, ?_⟩, trivial⟩
        (first | (apply qm; exact rfl; exact rfl; exact ho4; (iterate 6 exact rfl)) | (apply zm; (iterate 11 exact rfl)) | (apply q6; (iterate 11 exact rfl)))
        apply qa
        refine zj (by kernel_rfl) ?_
        exact ⟨rfl, rfl, ka PX g1 g2 g3 g4, (hkX.trans (j9 g3 hleX g2 PX.h2 g4)).trans jc⟩
      ·(first | (refine qi Tryz.call88 (js bk _ _ hbk (by omega) hbv) ?_) | (apply zq (b := b) (xs := its.map zu) (ys := [zu ⟨KX, Lib.join bk [10] ++ [10], fs⟩]) (bytes := 48); exact rfl; exact rfl; exact PX.h2; exact hleX; (iterate 3 exact rfl); exact ⟨⟨_, _, rfl, rfl, rfl, rfl, rfl⟩⟩; exact rfl; (simp [maxLen]; omega); (simp; omega); intro t4 st4 g1 g2 g3 g4; have ho4 := (g3.same o (by omega) holX).trans hobX))
       apply qa
       (apply qo 11; exact rfl; kernel_rfl; kernel_rfl; kernel_rfl; exact rfl; (apply vf; exact rfl; exact rfl; (first | omega | (simp only [List.length_append, List.length_cons, List.length_nil]; omega))))
       refine qc [4, 15] (by kernel_rfl) rfl ⟨⟨_, rfl, ?_⟩, ⟨_, rfl, ?_⟩, trivial⟩
       ·(first | (apply qb; exact rfl; exact hobX; exact rfl; exact rfl; apply zi 44 rfl (jb PX.h4)) | (apply qb; exact rfl; exact hobX; exact rfl; exact rfl) | (apply zb; (iterate 5 exact rfl)) | (apply qx; (iterate 5 exact rfl)) | (apply qv; (iterate 3 exact rfl)))
        apply qa
        refine qc [15] (by kernel_rfl) rfl ⟨⟨_, rfl, ?_⟩, trivial⟩
        (first | (apply qb; exact rfl; exact hobX; exact rfl; exact rfl; apply zi 44 rfl (jb PX.h4)) | (apply qb; exact rfl; exact hobX; exact rfl; exact rfl) | (apply zb; (iterate 5 exact rfl)) | (apply qx; (iterate 5 exact rfl)) | (apply qv; (iterate 3 exact rfl)))
        apply qa
        (apply qo 16; exact rfl; kernel_rfl; kernel_rfl; kernel_rfl; exact rfl; (apply vi; (iterate 3 exact rfl)))
        refine qc [17] (by kernel_rfl) rfl ⟨⟨_, rfl, ?_⟩, trivial⟩
        (apply qj; (iterate 9 exact rfl))
        apply qa
        refine qc [18] (by kernel_rfl) rfl ⟨⟨_, rfl, ?_⟩, trivial⟩
        (first | (refine qi Tryz.call88 (js bk _ _ hbk (by omega) hbv) ?_) | (apply zq (b := b) (xs := its.map zu) (ys := [zu ⟨KX, Lib.join bk [10] ++ [10], fs⟩]) (bytes := 48); exact rfl; exact rfl; exact PX.h2; exact hleX; (iterate 3 exact rfl); exact ⟨⟨_, _, rfl, rfl, rfl, rfl, rfl⟩⟩; exact rfl; (simp [maxLen]; omega); (simp; omega); intro t4 st4 g1 g2 g3 g4; have ho4 := (g3.same o (by omega) holX).trans hobX))
        apply qa
        (apply qo 19; exact rfl; kernel_rfl; kernel_rfl; kernel_rfl; exact rfl; (apply zx; exact rfl; exact rfl))
        (apply qo 20; exact rfl; kernel_rfl; kernel_rfl; kernel_rfl; exact rfl; (first | (apply qq; (iterate 3 exact rfl)) | (apply qp; (iterate 4 exact rfl))))
        refine qc [21] (by kernel_rfl) rfl ⟨⟨_, rfl, ?_⟩, trivial⟩
        (first | (apply qm; exact rfl; exact rfl; exact ho4; (iterate 6 exact rfl)) | (apply zm; (iterate 11 exact rfl)) | (apply q6; (iterate 11 exact rfl)))
        apply qa
        refine zj (by kernel_rfl) ?_
        exact ⟨rfl, rfl, ka PX g1 g2 g3 g4, (hkX.trans (j9 g3 hleX g2 PX.h2 g4)).trans jc⟩
       ·(first | (apply qb; exact rfl; exact hobX; exact rfl; exact rfl; apply zi 44 rfl (jb PX.h4)) | (apply qb; exact rfl; exact hobX; exact rfl; exact rfl) | (apply zb; (iterate 5 exact rfl)) | (apply qx; (iterate 5 exact rfl)) | (apply qv; (iterate 3 exact rfl)))
        apply qa
        (apply qo 16; exact rfl; kernel_rfl; kernel_rfl; kernel_rfl; exact rfl; (apply vi; (iterate 3 exact rfl)))
        refine qc [4, 17] (by kernel_rfl) rfl ⟨⟨_, rfl, ?_⟩, ⟨_, rfl, ?_⟩, trivial⟩
        ·(first | (apply qb; exact rfl; exact hobX; exact rfl; exact rfl; apply zi 44 rfl (jb PX.h4)) | (apply qb; exact rfl; exact hobX; exact rfl; exact rfl) | (apply zb; (iterate 5 exact rfl)) | (apply qx; (iterate 5 exact rfl)) | (apply qv; (iterate 3 exact rfl)))
         apply qa
         refine qc [17] (by kernel_rfl) rfl ⟨⟨_, rfl, ?_⟩, trivial⟩
         (apply qj; (iterate 9 exact rfl))
         apply qa
         refine qc [18] (by kernel_rfl) rfl ⟨⟨_, rfl, ?_⟩, trivial⟩
         (first | (refine qi Tryz.call88 (js bk _ _ hbk (by omega) hbv) ?_) | (apply zq (b := b) (xs := its.map zu) (ys := [zu ⟨KX, Lib.join bk [10] ++ [10], fs⟩]) (bytes := 48); exact rfl; exact rfl; exact PX.h2; exact hleX; (iterate 3 exact rfl); exact ⟨⟨_, _, rfl, rfl, rfl, rfl, rfl⟩⟩; exact rfl; (simp [maxLen]; omega); (simp; omega); intro t4 st4 g1 g2 g3 g4; have ho4 := (g3.same o (by omega) holX).trans hobX))
         apply qa
         (apply qo 19; exact rfl; kernel_rfl; kernel_rfl; kernel_rfl; exact rfl; (apply zx; exact rfl; exact rfl))
         (apply qo 20; exact rfl; kernel_rfl; kernel_rfl; kernel_rfl; exact rfl; (first | (apply qq; (iterate 3 exact rfl)) | (apply qp; (iterate 4 exact rfl))))
         refine qc [21] (by kernel_rfl) rfl ⟨⟨_, rfl, ?_⟩, trivial⟩
         (first | (apply qm; exact rfl; exact rfl; exact ho4; (iterate 6 exact rfl)) | (apply zm; (iterate 11 exact rfl)) | (apply q6; (iterate 11 exact rfl)))
         apply qa
         refine zj (by kernel_rfl) ?_
         exact ⟨rfl, rfl, ka PX g1 g2 g3 g4, (hkX.trans (j9 g3 hleX g2 PX.h2 g4)).trans jc⟩
        ·(apply qj; (iterate 9 exact rfl))
         apply qa
         refine qc [4] (by kernel_rfl) rfl ⟨⟨_, rfl, ?_⟩, trivial⟩
         (first | (apply qb; exact rfl; exact hobX; exact rfl; exact rfl; apply zi 44 rfl (jb PX.h4)) | (apply qb; exact rfl; exact hobX; exact rfl; exact rfl) | (apply zb; (iterate 5 exact rfl)) | (apply qx; (iterate 5 exact rfl)) | (apply qv; (iterate 3 exact rfl)))
         apply qa
         refine qc [18] (by kernel_rfl) rfl ⟨⟨_, rfl, ?_⟩, trivial⟩
         (first | (refine qi Tryz.call88 (js bk _ _ hbk (by omega) hbv) ?_) | (apply zq (b := b) (xs := its.map zu) (ys := [zu ⟨KX, Lib.join bk [10] ++ [10], fs⟩]) (bytes := 48); exact rfl; exact rfl; exact PX.h2; exact hleX; (iterate 3 exact rfl); exact ⟨⟨_, _, rfl, rfl, rfl, rfl, rfl⟩⟩; exact rfl; (simp [maxLen]; omega); (simp; omega); intro t4 st4 g1 g2 g3 g4; have ho4 := (g3.same o (by omega) holX).trans hobX))
         apply qa
         (apply qo 19; exact rfl; kernel_rfl; kernel_rfl; kernel_rfl; exact rfl; (apply zx; exact rfl; exact rfl))
         (apply qo 20; exact rfl; kernel_rfl; kernel_rfl; kernel_rfl; exact rfl; (first | (apply qq; (iterate 3 exact rfl)) | (apply qp; (iterate 4 exact rfl))))
         refine qc [21] (by kernel_rfl) rfl ⟨⟨_, rfl, ?_⟩, trivial⟩
         (first | (apply qm; exact rfl; exact rfl; exact ho4; (iterate 6 exact rfl)) | (apply zm; (iterate 11 exact rfl)) | (apply q6; (iterate 11 exact rfl)))
         apply qa
         refine zj (by kernel_rfl) ?_
         exact ⟨rfl, rfl, ka PX g1 g2 g3 g4, (hkX.trans (j9 g3 hleX g2 PX.h2 g4)).trans jc⟩
      ·(first | (apply qb; exact rfl; exact hobX; exact rfl; exact rfl; apply zi 44 rfl (jb PX.h4)) | (apply qb; exact rfl; exact hobX; exact rfl; exact rfl) | (apply zb; (iterate 5 exact rfl)) | (apply qx; (iterate 5 exact rfl)) | (apply qv; (iterate 3 exact rfl)))
       apply qa
       refine qc [4, 10] (by kernel_rfl) rfl ⟨⟨_, rfl, ?_⟩, ⟨_, rfl, ?_⟩, trivial⟩
       ·(first | (apply qb; exact rfl; exact hobX; exact rfl; exact rfl; apply zi 44 rfl (jb PX.h4)) | (apply qb; exact rfl; exact hobX; exact rfl; exact rfl) | (apply zb; (iterate 5 exact rfl)) | (apply qx; (iterate 5 exact rfl)) | (apply qv; (iterate 3 exact rfl)))
        apply qa
        refine qc [10] (by kernel_rfl) rfl ⟨⟨_, rfl, ?_⟩, trivial⟩
        (first | (refine qi Tryz.call88 (js bk _ _ hbk (by omega) hbv) ?_) | (apply zq (b := b) (xs := its.map zu) (ys := [zu ⟨KX, Lib.join bk [10] ++ [10], fs⟩]) (bytes := 48); exact rfl; exact rfl; exact PX.h2; exact hleX; (iterate 3 exact rfl); exact ⟨⟨_, _, rfl, rfl, rfl, rfl, rfl⟩⟩; exact rfl; (simp [maxLen]; omega); (simp; omega); intro t4 st4 g1 g2 g3 g4; have ho4 := (g3.same o (by omega) holX).trans hobX))
        apply qa
        (apply qo 11; exact rfl; kernel_rfl; kernel_rfl; kernel_rfl; exact rfl; (apply vf; exact rfl; exact rfl; (first | omega | (simp only [List.length_append, List.length_cons, List.length_nil]; omega))))
        (apply qo 16; exact rfl; kernel_rfl; kernel_rfl; kernel_rfl; exact rfl; (apply vi; (iterate 3 exact rfl)))
        refine qc [17] (by kernel_rfl) rfl ⟨⟨_, rfl, ?_⟩, trivial⟩
        (apply qj; (iterate 9 exact rfl))
        apply qa
        refine qc [18] (by kernel_rfl) rfl ⟨⟨_, rfl, ?_⟩, trivial⟩
        (first | (refine qi Tryz.call88 (js bk _ _ hbk (by omega) hbv) ?_) | (apply zq (b := b) (xs := its.map zu) (ys := [zu ⟨KX, Lib.join bk [10] ++ [10], fs⟩]) (bytes := 48); exact rfl; exact rfl; exact PX.h2; exact hleX; (iterate 3 exact rfl); exact ⟨⟨_, _, rfl, rfl, rfl, rfl, rfl⟩⟩; exact rfl; (simp [maxLen]; omega); (simp; omega); intro t4 st4 g1 g2 g3 g4; have ho4 := (g3.same o (by omega) holX).trans hobX))
        apply qa
        (apply qo 19; exact rfl; kernel_rfl; kernel_rfl; kernel_rfl; exact rfl; (apply zx; exact rfl; exact rfl))
        (apply qo 20; exact rfl; kernel_rfl; kernel_rfl; kernel_rfl; exact rfl; (first | (apply qq; (iterate 3 exact rfl)) | (apply qp; (iterate 4 exact rfl))))
        refine qc [21] (by kernel_rfl) rfl ⟨⟨_, rfl, ?_⟩, trivial⟩
        (first | (apply qm; exact rfl; exact rfl; exact ho4; (iterate 6 exact rfl)) | (apply zm; (iterate 11 exact rfl)) | (apply q6; (iterate 11 exact rfl)))
        apply qa
        refine zj (by kernel_rfl) ?_
        exact ⟨rfl, rfl, ka PX g1 g2 g3 g4, (hkX.trans (j9 g3 hleX g2 PX.h2 g4)).trans jc⟩
       ·(first | (refine qi Tryz.call88 (js bk _ _ hbk (by omega) hbv) ?_) | (apply zq (b := b) (xs := its.map zu) (ys := [zu ⟨KX, Lib.join bk [10] ++ [10], fs⟩]) (bytes := 48); exact rfl; exact rfl; exact PX.h2; exact hleX; (iterate 3 exact rfl); exact ⟨⟨_, _, rfl, rfl, rfl, rfl, rfl⟩⟩; exact rfl; (simp [maxLen]; omega); (simp; omega); intro t4 st4 g1 g2 g3 g4; have ho4 := (g3.same o (by omega) holX).trans hobX))
        apply qa
        (apply qo 11; exact rfl; kernel_rfl; kernel_rfl; kernel_rfl; exact rfl; (apply vf; exact rfl; exact rfl; (first | omega | (simp only [List.length_append, List.length_cons, List.length_nil]; omega))))
        (apply qo 16; exact rfl; kernel_rfl; kernel_rfl; kernel_rfl; exact rfl; (apply vi; (iterate 3 exact rfl)))
        refine qc [4, 17] (by kernel_rfl) rfl ⟨⟨_, rfl, ?_⟩, ⟨_, rfl, ?_⟩, trivial⟩
        ·(first | (apply qb; exact rfl; exact hobX; exact rfl; exact rfl; apply zi 44 rfl (jb PX.h4)) | (apply qb; exact rfl; exact hobX; exact rfl; exact rfl) | (apply zb; (iterate 5 exact rfl)) | (apply qx; (iterate 5 exact rfl)) | (apply qv; (iterate 3 exact rfl)))
         apply qa
         refine qc [17] (by kernel_rfl) rfl ⟨⟨_, rfl, ?_⟩, trivial⟩
         (apply qj; (iterate 9 exact rfl))
         apply qa
         refine qc [18] (by kernel_rfl) rfl ⟨⟨_, rfl, ?_⟩, trivial⟩
         (first | (refine qi Tryz.call88 (js bk _ _ hbk (by omega) hbv) ?_) | (apply zq (b := b) (xs := its.map zu) (ys := [zu ⟨KX, Lib.join bk [10] ++ [10], fs⟩]) (bytes := 48); exact rfl; exact rfl; exact PX.h2; exact hleX; (iterate 3 exact rfl); exact ⟨⟨_, _, rfl, rfl, rfl, rfl, rfl⟩⟩; exact rfl; (simp [maxLen]; omega); (simp; omega); intro t4 st4 g1 g2 g3 g4; have ho4 := (g3.same o (by omega) holX).trans hobX))
         apply qa
         (apply qo 19; exact rfl; kernel_rfl; kernel_rfl; kernel_rfl; exact rfl; (apply zx; exact rfl; exact rfl))
         (apply qo 20; exact rfl; kernel_rfl; kernel_rfl; kernel_rfl; exact rfl; (first | (apply qq; (iterate 3 exact rfl)) | (apply qp; (iterate 4 exact rfl))))
         refine qc [21] (by kernel_rfl) rfl ⟨⟨_, rfl, ?_⟩, trivial⟩
         (first | (apply qm; exact rfl; exact rfl; exact ho4; (iterate 6 exact rfl)) | (apply zm; (iterate 11 exact rfl)) | (apply q6; (iterate 11 exact rfl)))
         apply qa
         refine zj (by kernel_rfl) ?_
         exact ⟨rfl, rfl, ka PX g1 g2 g3 g4, (hkX.trans (j9 g3 hleX g2 PX.h2 g4)).trans jc⟩
        ·(apply qj; (iterate 9 exact rfl))
         apply qa
         refine qc [4] (by kernel_rfl) rfl ⟨⟨_, rfl, ?_⟩, trivial⟩
         (first | (apply qb; exact rfl; exact hobX; exact rfl; exact rfl; apply zi 44 rfl (jb PX.h4)) | (apply qb; exact rfl; exact hobX; exact rfl; exact rfl) | (apply zb; (iterate 5 exact rfl)) | (apply qx; (iterate 5 exact rfl)) | (apply qv; (iterate 3 exact rfl)))
         apply qa
         refine qc [18] (by kernel_rfl) rfl ⟨⟨_, rfl, ?_⟩, trivial⟩
         (first | (refine qi Tryz.call88 (js bk _ _ hbk (by omega) hbv) ?_) | (apply zq (b := b) (xs := its.map zu) (ys := [zu ⟨KX, Lib.join bk [10] ++ [10], fs⟩]) (bytes := 48); exact rfl; exact rfl; exact PX.h2; exact hleX; (iterate 3 exact rfl); exact ⟨⟨_, _, rfl, rfl, rfl, rfl, rfl⟩⟩; exact rfl; (simp [maxLen]; omega); (simp; omega); intro t4 st4 g1 g2 g3 g4; have ho4 := (g3.same o (by omega) holX).trans hobX))
         apply qa
         (apply qo 19; exact rfl; kernel_rfl; kernel_rfl; kernel_rfl; exact rfl; (apply zx; exact rfl; exact rfl))
         (apply qo 20; exact rfl; kernel_rfl; kernel_rfl; kernel_rfl; exact rfl; (first | (apply qq; (iterate 3 exact rfl)) | (apply qp; (iterate 4 exact rfl))))
         refine qc [21] (by kernel_rfl) rfl ⟨⟨_, rfl, ?_⟩, trivial⟩
         (first | (apply qm; exact rfl; exact rfl; exact ho4; (iterate 6 exact rfl)) | (apply zm; (iterate 11 exact rfl)) | (apply q6; (iterate 11 exact rfl)))
         apply qa
         refine zj (by kernel_rfl) ?_
         exact ⟨rfl, rfl, ka PX g1 g2 g3 g4, (hkX.trans (j9 g3 hleX g2 PX.h2 g4)).trans jc⟩
     ·(first | (apply qb; exact rfl; exact hobX; exact rfl; exact rfl; apply zi 44 rfl (jb PX.h4)) | (apply qb; exact rfl; exact hobX; exact rfl; exact rfl) | (apply zb; (iterate 5 exact rfl)) | (apply qx; (iterate 5 exact rfl)) | (apply qv; (iterate 3 exact rfl)))
      apply qa
      refine qc [4, 9] (by kernel_rfl) rfl ⟨⟨_, rfl, ?_⟩, ⟨_, rfl, ?_⟩, trivial⟩
      ·(first | (apply qb; exact rfl; exact hobX; exact rfl; exact rfl; apply zi 44 rfl (jb PX.h4)) | (apply qb; exact rfl; exact hobX; exact rfl; exact rfl) | (apply zb; (iterate 5 exact rfl)) | (apply qx; (iterate 5 exact rfl)) | (apply qv; (iterate 3 exact rfl)))
       apply qa
       refine qc [9] (by kernel_rfl) rfl ⟨⟨_, rfl, ?_⟩, trivial⟩
       (first | (apply qb; exact rfl; exact hobX; exact rfl; exact rfl; apply zi 44 rfl (jb PX.h4)) | (apply qb; exact rfl; exact hobX; exact rfl; exact rfl) | (apply zb; (iterate 5 exact rfl)) | (apply qx; (iterate 5 exact rfl)) | (apply qv; (iterate 3 exact rfl)))
       apply qa
       refine qc [10] (by kernel_rfl) rfl ⟨⟨_, rfl, ?_⟩, trivial⟩
       (first | (refine qi Tryz.call88 (js bk _ _ hbk (by omega) hbv) ?_) | (apply zq (b := b) (xs := its.map zu) (ys := [zu ⟨KX, Lib.join bk [10] ++ [10], fs⟩]) (bytes := 48); exact rfl; exact rfl; exact PX.h2; exact hleX; (iterate 3 exact rfl); exact ⟨⟨_, _, rfl, rfl, rfl, rfl, rfl⟩⟩; exact rfl; (simp [maxLen]; omega); (simp; omega); intro t4 st4 g1 g2 g3 g4; have ho4 := (g3.same o (by omega) holX).trans hobX))
       apply qa
       (apply qo 11; exact rfl; kernel_rfl; kernel_rfl; kernel_rfl; exact rfl; (apply vf; exact rfl; exact rfl; (first | omega | (simp only [List.length_append, List.length_cons, List.length_nil]; omega))))
       (apply qo 16; exact rfl; kernel_rfl; kernel_rfl; kernel_rfl; exact rfl; (apply vi; (iterate 3 exact rfl)))
       refine qc [17] (by kernel_rfl) rfl ⟨⟨_, rfl, ?_⟩, trivial⟩
       (apply qj; (iterate 9 exact rfl))
       apply qa
       refine qc [18] (by kernel_rfl) rfl ⟨⟨_, rfl, ?_⟩, trivial⟩
       (first | (refine qi Tryz.call88 (js bk _ _ hbk (by omega) hbv) ?_) | (apply zq (b := b) (xs := its.map zu) (ys := [zu ⟨KX, Lib.join bk [10] ++ [10], fs⟩]) (bytes := 48); exact rfl; exact rfl; exact PX.h2; exact hleX; (iterate 3 exact rfl); exact ⟨⟨_, _, rfl, rfl, rfl, rfl, rfl⟩⟩; exact rfl; (simp [maxLen]; omega); (simp; omega); intro t4 st4 g1 g2 g3 g4; have ho4 := (g3.same o (by omega) holX).trans hobX))
       apply qa
       (apply qo 19; exact rfl; kernel_rfl; kernel_rfl; kernel_rfl; exact rfl; (apply zx; exact rfl; exact rfl))
       (apply qo 20; exact rfl; kernel_rfl; kernel_rfl; kernel_rfl; exact rfl; (first | (apply qq; (iterate 3 exact rfl)) | (apply qp; (iterate 4 exact rfl))))
       refine qc [21] (by kernel_rfl) rfl ⟨⟨_, rfl, ?_⟩, trivial⟩
       (first | (apply qm; exact rfl; exact rfl; exact ho4; (iterate 6 exact rfl)) | (apply zm; (iterate 11 exact rfl)) | (apply q6; (iterate 11 exact rfl)))
       apply qa
       refine zj (by kernel_rfl) ?_
       exact ⟨rfl, rfl, ka PX g1 g2 g3 g4, (hkX.trans (j9 g3 hleX g2 PX.h2 g4)).trans jc⟩
      ·(first | (apply qb; exact rfl; exact hobX; exact rfl; exact rfl; apply zi 44 rfl (jb PX.h4)) | (apply qb; exact rfl; exact hobX; exact rfl; exact rfl) | (apply zb; (iterate 5 exact rfl)) | (apply qx; (iterate 5 exact rfl)) | (apply qv; (iterate 3 exact rfl)))
       apply qa
       refine qc [4, 10] (by kernel_rfl) rfl ⟨⟨_, rfl, ?_⟩, ⟨_, rfl, ?_⟩, trivial⟩
       ·(first | (apply qb; exact rfl; exact hobX; exact rfl; exact rfl; apply zi 44 rfl (jb PX.h4)) | (apply qb; exact rfl; exact hobX; exact rfl; exact rfl) | (apply zb; (iterate 5 exact rfl)) | (apply qx; (iterate 5 exact rfl)) | (apply qv; (iterate 3 exact rfl)))
        apply qa
        refine qc [10] (by kernel_rfl) rfl ⟨⟨_, rfl, ?_⟩, trivial⟩
        (first | (refine qi Tryz.call88 (js bk _ _ hbk (by omega) hbv) ?_) | (apply zq (b := b) (xs := its.map zu) (ys := [zu ⟨KX, Lib.join bk [10] ++ [10], fs⟩]) (bytes := 48); exact rfl; exact rfl; exact PX.h2; exact hleX; (iterate 3 exact rfl); exact ⟨⟨_, _, rfl, rfl, rfl, rfl, rfl⟩⟩; exact rfl; (simp [maxLen]; omega); (simp; omega); intro t4 st4 g1 g2 g3 g4; have ho4 := (g3.same o (by omega) holX).trans hobX))
        apply qa
        (apply qo 11; exact rfl; kernel_rfl; kernel_rfl; kernel_rfl; exact rfl; (apply vf; exact rfl; exact rfl; (first | omega | (simp only [List.length_append, List.length_cons, List.length_nil]; omega))))
        (apply qo 16; exact rfl; kernel_rfl; kernel_rfl; kernel_rfl; exact rfl; (apply vi; (iterate 3 exact rfl)))
        refine qc [17] (by kernel_rfl) rfl ⟨⟨_, rfl, ?_⟩, trivial⟩
        (apply qj; (iterate 9 exact rfl))
        apply qa
        refine qc [18] (by kernel_rfl) rfl ⟨⟨_, rfl, ?_⟩, trivial⟩
        (first | (refine qi Tryz.call88 (js bk _ _ hbk (by omega) hbv) ?_) | (apply zq (b := b) (xs := its.map zu) (ys := [zu ⟨KX, Lib.join bk [10] ++ [10], fs⟩]) (bytes := 48); exact rfl; exact rfl; exact PX.h2; exact hleX; (iterate 3 exact rfl); exact ⟨⟨_, _, rfl, rfl, rfl, rfl, rfl⟩⟩; exact rfl; (simp [maxLen]; omega); (simp; omega); intro t4 st4 g1 g2 g3 g4; have ho4 := (g3.same o (by omega) holX).trans hobX))
        apply qa
        (apply qo 19; exact rfl; kernel_rfl; kernel_rfl; kernel_rfl; exact rfl; (apply zx; exact rfl; exact rfl))
        (apply qo 20; exact rfl; kernel_rfl; kernel_rfl; kernel_rfl; exact rfl; (first | (apply qq; (iterate 3 exact rfl)) | (apply qp; (iterate 4 exact rfl))))
        refine qc [21] (by kernel_rfl) rfl ⟨⟨_, rfl, ?_⟩, trivial⟩
        (first | (apply qm; exact rfl; exact rfl; exact ho4; (iterate 6 exact rfl)) | (apply zm; (iterate 11 exact rfl)) | (apply q6; (iterate 11 exact rfl)))
        apply qa
        refine zj (by kernel_rfl) ?_
        exact ⟨rfl, rfl, ka PX g1 g2 g3 g4, (hkX.trans (j9 g3 hleX g2 PX.h2 g4)).trans jc⟩
       ·(first | (refine qi Tryz.call88 (js bk _ _ hbk (by omega) hbv) ?_) | (apply zq (b := b) (xs := its.map zu) (ys := [zu ⟨KX, Lib.join bk [10] ++ [10], fs⟩]) (bytes := 48); exact rfl; exact rfl; exact PX.h2; exact hleX; (iterate 3 exact rfl); exact ⟨⟨_, _, rfl, rfl, rfl, rfl, rfl⟩⟩; exact rfl; (simp [maxLen]; omega); (simp; omega); intro t4 st4 g1 g2 g3 g4; have ho4 := (g3.same o (by omega) holX).trans hobX))
        apply qa
        (apply qo 11; exact rfl; kernel_rfl; kernel_rfl; kernel_rfl; exact rfl; (apply vf; exact rfl; exact rfl; (first | omega | (simp only [List.length_append, List.length_cons, List.length_nil]; omega))))
        (apply qo 16; exact rfl; kernel_rfl; kernel_rfl; kernel_rfl; exact rfl; (apply vi; (iterate 3 exact rfl)))
        refine qc [4, 17] (by kernel_rfl) rfl ⟨⟨_, rfl, ?_⟩, ⟨_, rfl, ?_⟩, trivial⟩
        ·(first | (apply qb; exact rfl; exact hobX; exact rfl; exact rfl; apply zi 44 rfl (jb PX.h4)) | (apply qb; exact rfl; exact hobX; exact rfl; exact rfl) | (apply zb; (iterate 5 exact rfl)) | (apply qx; (iterate 5 exact rfl)) | (apply qv; (iterate 3 exact rfl)))
         apply qa
         refine qc [17] (by kernel_rfl) rfl ⟨⟨_, rfl, ?_⟩, trivial⟩
         (apply qj; (iterate 9 exact rfl))
         apply qa
         refine qc [18] (by kernel_rfl) rfl ⟨⟨_, rfl, ?_⟩, trivial⟩
         (first | (refine qi Tryz.call88 (js bk _ _ hbk (by omega) hbv) ?_) | (apply zq (b := b) (xs := its.map zu) (ys := [zu ⟨KX, Lib.join bk [10] ++ [10], fs⟩]) (bytes := 48); exact rfl; exact rfl; exact PX.h2; exact hleX; (iterate 3 exact rfl); exact ⟨⟨_, _, rfl, rfl, rfl, rfl, rfl⟩⟩; exact rfl; (simp [maxLen]; omega); (simp; omega); intro t4 st4 g1 g2 g3 g4; have ho4 := (g3.same o (by omega) holX).trans hobX))
         apply qa
         (apply qo 19; exact rfl; kernel_rfl; kernel_rfl; kernel_rfl; exact rfl; (apply zx; exact rfl; exact rfl))
         (apply qo 20; exact rfl; kernel_rfl; kernel_rfl; kernel_rfl; exact rfl; (first | (apply qq; (iterate 3 exact rfl)) | (apply qp; (iterate 4 exact rfl))))
         refine qc [21] (by kernel_rfl) rfl ⟨⟨_, rfl, ?_⟩, trivial⟩
         (first | (apply qm; exact rfl; exact rfl; exact ho4; (iterate 6 exact rfl)) | (apply zm; (iterate 11 exact rfl)) | (apply q6; (iterate 11 exact rfl)))
         apply qa
         refine zj (by kernel_rfl) ?_
         exact ⟨rfl, rfl, ka PX g1 g2 g3 g4, (hkX.trans (j9 g3 hleX g2 PX.h2 g4)).trans jc⟩
        ·(apply qj; (iterate 9 exact rfl))
         apply qa
         refine qc [4] (by kernel_rfl) rfl ⟨⟨_, rfl, ?_⟩, trivial⟩
         (first | (apply qb; exact rfl; exact hobX; exact rfl; exact rfl; apply zi 44 rfl (jb PX.h4)) | (apply qb; exact rfl; exact hobX; exact rfl; exact rfl) | (apply zb; (iterate 5 exact rfl)) | (apply qx; (iterate 5 exact rfl)) | (apply qv; (iterate 3 exact rfl)))
         apply qa
         refine qc [18] (by kernel_rfl) rfl ⟨⟨_, rfl, ?_⟩, trivial⟩
         (first | (refine qi Tryz.call88 (js bk _ _ hbk (by omega) hbv) ?_) | (apply zq (b := b) (xs := its.map zu) (ys := [zu ⟨KX, Lib.join bk [10] ++ [10], fs⟩]) (bytes := 48); exact rfl; exact rfl; exact PX.h2; exact hleX; (iterate 3 exact rfl); exact ⟨⟨_, _, rfl, rfl, rfl, rfl, rfl⟩⟩; exact rfl; (simp [maxLen]; omega); (simp; omega); intro t4 st4 g1 g2 g3 g4; have ho4 := (g3.same o (by omega) holX).trans hobX))
         apply qa
         (apply qo 19; exact rfl; kernel_rfl; kernel_rfl; kernel_rfl; exact rfl; (apply zx; exact rfl; exact rfl))
         (apply qo 20; exact rfl; kernel_rfl; kernel_rfl; kernel_rfl; exact rfl; (first | (apply qq; (iterate 3 exact rfl)) | (apply qp; (iterate 4 exact rfl))))
         refine qc [21] (by kernel_rfl) rfl ⟨⟨_, rfl, ?_⟩, trivial⟩
         (first | (apply qm; exact rfl; exact rfl; exact ho4; (iterate 6 exact rfl)) | (apply zm; (iterate 11 exact rfl)) | (apply q6; (iterate 11 exact rfl)))
         apply qa
         refine zj (by kernel_rfl) ?_
         exact ⟨rfl, rfl, ka PX g1 g2 g3 g4, (hkX.trans (j9 g3 hleX g2 PX.h2 g4)).trans jc⟩
    ·rintro ⟨t2, st2, df2⟩ ⟨h20, hd, hp2, hk2⟩
     simp only at h20 hd hp2 hk2
     subst hd
     obtain ⟨d1, d2, d3, d4, P2⟩ := hp2
     have hob2 : st2[o]? = some (.cells 0 148 [d1, Iv fr, Bv fu, d2, d3, d4, Iv rcX]) := P2.ob
     have ht2 : t2 = puts t2 [(0, .bx o 0 0)] := (qaa (L := [(0, .bx o 0 0)]) ⟨h20, trivial⟩).symm
     rw [ht2]
     repeat' (first
      | apply qr
      | apply qe
      | apply qa
      | apply qn
      | apply qf
      | (apply za; (iterate 3 exact rfl))
      | (apply ki; exact rfl; exact rfl)
      | apply q9
      | (apply qm; exact rfl; exact rfl; exact hob2; (iterate 6 exact rfl))
      | (apply qm; exact rfl; exact rfl; exact zn hob2; (iterate 6 exact rfl)))
     refine qs rfl (zt rfl) ⟨rfl, fun _ => ?_, hk2.trans (jc.trans jc)⟩
     rw [hcl]
     exact qhl P2
end Go.Proofs.YtefmcijohgpfhaaGreatDoor
