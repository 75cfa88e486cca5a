/- Contracts and plain facts that the closing text leans on (part 7). No condition of their own beyond those that each states. -/
import Derived.Test.YtefmcijohgpfhaaGreatDoorK6
import Derived.Laws.StructEq
set_option maxRecDepth 100000
set_option linter.unusedVariables false
set_option linter.unusedSimpArgs false
set_option maxRecDepth 100000
set_option linter.unusedVariables false
namespace Go.Proofs.YtefmcijohgpfhaaGreatDoor
open Go Go.Av Go.RowKit Go.Proofs Go.Pl
def decP : List qk → List z8 → Option (List z8)
 | [], acc => some acc
 | p :: r, acc => match begE (upto 10 p) with
  | none => none
  | some (k, n) => if (qan (past 10 p)).2 = true ∧ acc.length ≠ 40 then decP r (acc ++ [⟨k, n, (qan (past 10 p)).1⟩]) else none
def decF (text : qk) : Option (List z8) := if 50000 < text.length then none else match decP (wh text) [] with
 | none => none
 | some b => if eErr b = .no ∧ encF b = text then some b else none
def decA : Option (List z8) → AV
 | none => .tu [vu [], .ifc 31 (Iv 2)]
 | some b => .tu [vu b, .v .nilIface]
theorem qsj (x : Option (List z8)) : Pure (decA x) := by
 rcases x with _ | b
 ·exact yl (qct _) (qbm (jn _))
 ·exact yl (qct _) (jn _)
theorem qeo (text : qk) : ∀ (ls : List LnV) (f : Nat), (∀ p ∈ v4 text ls f, p.length ≤ text.length) ∧ (v4 text ls f).length ≤ ls.length + 1
 | [], f => by simp [v4]
 | l :: r, f => by
  unfold v4
  split
  ·obtain ⟨h1, h2⟩ := qeo text r l.at'
   refine ⟨fun p hp => ?_, by simp; omega⟩
   rcases List.mem_cons.1 hp with rfl | hp
   ·simp; omega
   ·exact h1 p hp
  ·obtain ⟨h1, h2⟩ := qeo text r f
   exact ⟨h1, by simp; omega⟩
theorem qk0 {l : qk} {k n : Int} (h : begE l = some (k, n)) : -9223372036854775808 ≤ n ∧ n ≤ 9223372036854775807 := by
 have key : ∀ {j : Int} {n : Int}, tryB j l = some n → -9223372036854775808 ≤ n ∧ n ≤ 9223372036854775807 := fun {j n} h => by
  unfold tryB at h
  split at h
  ·split at h
   ·rename_i v hv
    cases h
    exact Lib.atoiAll_bounds hv
   ·simp at h
  ·simp at h
 unfold begE at h
 split at h
 ·rename_i v hv; simp at h; rw [← h.2]; exact key hv
 ·split at h
  ·rename_i v hv; simp at h; rw [← h.2]; exact key hv
  ·split at h
   ·rename_i v hv; simp at h; rw [← h.2]; exact key hv
   ·simp at h
theorem qio (text : qk) : GF (qan text).1 := by
 unfold qan
 split
 ·exact ⟨by simp, by simp⟩
 ·split
  ·exact ⟨by simp, by simp⟩
  ·rename_i f r hr
   exact (qqf (qim _) f (by rw [hr]; simp)).1
theorem qr0 {k n : Int} {fs : List Fld} (h1 : -9223372036854775808 ≤ n) (h2 : n ≤ 9223372036854775807) (hg : GF fs) : EdB ⟨k, n, fs⟩ :=
 ⟨fun f hf => by have := (hg.2 f hf).1.2.1; omega, by have := hg.1; simp only; omega, h1, h2⟩
set_option maxHeartbeats 4000000 in
theorem qmp (text : qk) (st : List AObj) (hl : text.length < 1000000) : zr E 11 [Sv text] st fun r st' => r = decA (decF text) ∧ st' = st := by
 refine z4 (qsj _) (zp Tryz.func11 rfl (Nat.le_of_ble_eq_true rfl) ?_)
 by_cases hbig : 50000 < text.length
 ·have hd : decF text = none := if_pos hbig
  rw [hd]
  repeat' (first
   | apply qr
   | apply qe
   | apply qa
   | apply qn
   | apply qf
   | (apply qt; (iterate 3 exact rfl))
   | (apply qg; exact rfl; first | (apply zd; (first | assumption | omega)) | (apply zf; (first | assumption | omega)) | (apply ze; (first | exact rfl | assumption)) | (apply zg; (first | exact rfl | assumption)) | (apply cd_n <;> intro h) | (apply cd_t; (first | exact rfl | assumption)) | (apply cd_f; (first | exact rfl | assumption)) | (apply cd_d <;> intro h) | (apply cd_s <;> intro h))
   | (apply j4; (iterate 3 exact rfl))
   | (apply z7; exact rfl; exact rfl)
   | apply q9)
  exact qs rfl (kq (ju rfl) (vj (vd 3) (kp (.ifc 31 (Iv 2))))) ⟨rfl, _, rfl⟩
 have hdf : decF text = match decP (wh text) [] with
  | none => none
  | some b => if eErr b = .no ∧ encF b = text then some b else none := if_neg hbig
 rw [List.append_nil]
 have hpl := (qeo text (lns text) 0).1
 have hpn := (qeo text (lns text) 0).2
 have hln := qbq _ text 0 0 (Nat.le_refl _)
 have hpe : v4 text (lns text) 0 = wh text := rfl
 have hle : (lns text).length ≤ text.length := hln
 rw [hpe] at hpl hpn
 have hml : ((wh text).map fun x => Sv x).length = (wh text).length := by simp
 repeat' (first
  | apply qr
  | apply q7
  | apply qe
  | apply qa
  | apply qn
  | apply qf
  | (apply qt; (iterate 3 exact rfl))
  | (apply qg; exact rfl; first | (apply zd; (first | assumption | omega)) | (apply zf; (first | assumption | omega)) | (apply ze; (first | exact rfl | assumption)) | (apply zg; (first | exact rfl | assumption)) | (apply cd_n <;> intro h) | (apply cd_t; (first | exact rfl | assumption)) | (apply cd_f; (first | exact rfl | assumption)) | (apply cd_d <;> intro h) | (apply cd_s <;> intro h))
  | (apply j4; (iterate 3 exact rfl))
  | (apply zo; (iterate 4 exact rfl))
  | apply q8
  | (apply qi; exact Tryz.call35; exact qv0 _ _ hl))
 refine vz (wh text) (fun pre s => ∃ acc c S, OutI st S ∧ TipO st.length S 3 45 (acc.map kc) c ∧ acc.length ≤ pre.length ∧ (∀ x ∈ acc, EdB x) ∧ (∀ rest, wh text = pre ++ rest → decP (wh text) [] = decP rest acc) ∧ StA [(0, Sv text), (4, c), (21, Ss (wh text)), (22, Iv (wh text).length), (23, Iv pre.length)] S [] s) ⟨[], _, st, ⟨fun _ _ => rfl, Nat.le_refl _⟩, qd2 .., by simp, by simp, fun rest h => by rw [h]; rfl, vl ⟨rfl, rfl, rfl, congrArg (fun n : Nat => Iv (n : Int)) hml, rfl, trivial⟩⟩ ?_ ?_
 ·rintro _ ⟨acc, c, S, hO, hT, hal, hB, hrun, t, rfl⟩
  have hrun := hrun [] (by simp)
  have hrun2 : decP (wh text) [] = some acc := hrun
  rw [hrun2] at hdf
  simp only at hdf
  cases he : eErr acc with
  | no =>
   by_cases ht : encF acc = text
   ·rw [if_pos ⟨he, ht⟩] at hdf
    rw [hdf]
    have hnn : ¬ encF acc ≠ text := fun h => h ht
    repeat' (first
     | apply qr
     | apply qe
     | apply qa
     | apply qn
     | apply qf
     | (apply z1; exact rfl; exact rfl)
     | (apply qt; (iterate 3 exact rfl))
     | (apply kw; (iterate 3 exact rfl))
     | (apply zh; (iterate 4 exact rfl))
     | (apply qa1; (first | exact rfl | assumption))
     | (apply zk; exact rfl; first | (apply jx; (first | assumption | omega)) | (apply jw; (first | assumption | omega)) | (apply jy; (first | exact rfl | assumption)) | (apply jv; (first | exact rfl | assumption)) | (apply pk_t; (first | exact rfl | assumption)) | (apply pk_f; (first | exact rfl | assumption)))
     | (apply qg; exact rfl; first | (apply zd; (first | assumption | omega)) | (apply zf; (first | assumption | omega)) | (apply ze; (first | exact rfl | assumption)) | (apply zg; (first | exact rfl | assumption)) | (apply cd_n <;> intro h) | (apply cd_t; (first | exact rfl | assumption)) | (apply cd_f; (first | exact rfl | assumption)) | (apply cd_d <;> intro h) | (apply cd_s <;> intro h))
     | (apply j3; exact rfl; exact rfl)
     | apply q8
     | apply jp
     | apply q9
     | (apply zi 63 rfl (je hT); apply qi; exact Tryz.call15; exact qem _ _ hB he))
    exact qs rfl (kq (ju rfl) (vj (je hT) (kp (.v .nilIface)))) ⟨rfl, hO.ext⟩
   ·rw [if_neg fun h => ht h.2] at hdf
    rw [hdf]
    repeat' (first
     | apply qr
     | apply qe
     | apply qa
     | apply qn
     | apply qf
     | (apply z1; exact rfl; exact rfl)
     | (apply qt; (iterate 3 exact rfl))
     | (apply kw; (iterate 3 exact rfl))
     | (apply zh; (iterate 4 exact rfl))
     | (apply qa1; (first | exact rfl | assumption))
     | (apply zk; exact rfl; first | (apply jx; (first | assumption | omega)) | (apply jw; (first | assumption | omega)) | (apply jy; (first | exact rfl | assumption)) | (apply jv; (first | exact rfl | assumption)) | (apply pk_t; (first | exact rfl | assumption)) | (apply pk_f; (first | exact rfl | assumption)))
     | (apply qg; exact rfl; first | (apply zd; (first | assumption | omega)) | (apply zf; (first | assumption | omega)) | (apply ze; (first | exact rfl | assumption)) | (apply zg; (first | exact rfl | assumption)) | (apply cd_n <;> intro h) | (apply cd_t; (first | exact rfl | assumption)) | (apply cd_f; (first | exact rfl | assumption)) | (apply cd_d <;> intro h) | (apply cd_s <;> intro h))
     | (apply j3; exact rfl; exact rfl)
     | (apply z7; exact rfl; exact rfl)
     | apply jp
     | apply q9
     | (apply zi 63 rfl (je hT); apply qi; exact Tryz.call15; exact qem _ _ hB he))
    exact qs rfl (kq (ju rfl) (vj (vd 3) (kp (.ifc 31 (Iv 2))))) ⟨rfl, hO.ext⟩
  | num n =>
   have h0 : (ErrV.num n).code ≠ 0 := fun h => by
    have := (qgz acc).1 (by rw [he]; exact h)
    rw [he] at this
    simp at this
   rw [if_neg fun h => by rw [he] at h; simp at h] at hdf
   rw [hdf]
   repeat' (first
    | apply qr
    | apply qe
    | apply qa
    | apply qn
    | apply qf
    | (apply z1; exact rfl; exact rfl)
    | (apply qt; (iterate 3 exact rfl))
    | (apply zh; (iterate 4 exact rfl))
    | (apply x6; (first | exact rfl | assumption))
    | (apply zk; exact rfl; first | (apply jx; (first | assumption | omega)) | (apply jw; (first | assumption | omega)) | (apply jy; (first | exact rfl | assumption)) | (apply jv; (first | exact rfl | assumption)) | (apply pk_t; (first | exact rfl | assumption)) | (apply pk_f; (first | exact rfl | assumption)))
    | (apply qg; exact rfl; first | (apply zd; (first | assumption | omega)) | (apply zf; (first | assumption | omega)) | (apply ze; (first | exact rfl | assumption)) | (apply zg; (first | exact rfl | assumption)) | (apply cd_n <;> intro h) | (apply cd_t; (first | exact rfl | assumption)) | (apply cd_f; (first | exact rfl | assumption)) | (apply cd_d <;> intro h) | (apply cd_s <;> intro h))
    | (apply ku; exact rfl; exact rfl)
    | (apply z7; exact rfl; exact rfl)
    | apply jp
    | apply q9
    | (apply zi 63 rfl (je hT); apply qi; exact Tryz.call15; exact qlb _ _ (.num n) hB (by omega) he h0))
   exact qs rfl (kq (ju rfl) (vj (vd 3) (kp (.ifc 31 (Iv 2))))) ⟨rfl, hO.ext⟩
  | at' a n =>
   have h0 : (ErrV.at' a n).code ≠ 0 := fun h => by
    have := (qgz acc).1 (by rw [he]; exact h)
    rw [he] at this
    simp at this
   rw [if_neg fun h => by rw [he] at h; simp at h] at hdf
   rw [hdf]
   repeat' (first
    | apply qr
    | apply qe
    | apply qa
    | apply qn
    | apply qf
    | (apply z1; exact rfl; exact rfl)
    | (apply qt; (iterate 3 exact rfl))
    | (apply zh; (iterate 4 exact rfl))
    | (apply x6; (first | exact rfl | assumption))
    | (apply zk; exact rfl; first | (apply jx; (first | assumption | omega)) | (apply jw; (first | assumption | omega)) | (apply jy; (first | exact rfl | assumption)) | (apply jv; (first | exact rfl | assumption)) | (apply pk_t; (first | exact rfl | assumption)) | (apply pk_f; (first | exact rfl | assumption)))
    | (apply qg; exact rfl; first | (apply zd; (first | assumption | omega)) | (apply zf; (first | assumption | omega)) | (apply ze; (first | exact rfl | assumption)) | (apply zg; (first | exact rfl | assumption)) | (apply cd_n <;> intro h) | (apply cd_t; (first | exact rfl | assumption)) | (apply cd_f; (first | exact rfl | assumption)) | (apply cd_d <;> intro h) | (apply cd_s <;> intro h))
    | (apply ku; exact rfl; exact rfl)
    | (apply z7; exact rfl; exact rfl)
    | apply jp
    | apply q9
    | (apply zi 63 rfl (je hT); apply qi; exact Tryz.call15; exact qlb _ _ (.at' a n) hB (by omega) he h0))
   exact qs rfl (kq (ju rfl) (vj (vd 3) (kp (.ifc 31 (Iv 2))))) ⟨rfl, hO.ext⟩
 ·rintro pre p rest _ hr ⟨acc, c, S, hO, hT, hal, hB, hrun, t, rfl⟩
  have hlen : (wh text).length = pre.length + (rest.length + 1) := by rw [hr]; simp
  have hget : ((wh text).map fun x => Sv x)[pre.length]? = some (Sv p) := by rw [hr]; simp
  have hpp := hpl p (by rw [hr]; simp)
  have hul := wv 10 p
  have hpal := xk 10 p
  have hrun1 := hrun (p :: rest) hr
  have hSl := hO.len
  have hma : (acc.map kc).length = acc.length := by simp
  have hgf := qio (past 10 p)
  cases hbe : begE (upto 10 p) with
  | none =>
   have hno : decP (wh text) [] = none := by rw [hrun1]; simp only [decP, hbe]
   rw [hno] at hdf
   simp only at hdf
   rw [hdf]
   have hbc := fun st => qpy (upto 10 p) st (by omega)
   rw [hbe] at hbc
   repeat' (first
    | apply qr
    | apply q7
    | apply qe
    | apply qa
    | apply qn
    | apply qf
    | (apply z1; exact rfl; exact rfl)
    | (apply qt; (iterate 3 exact rfl))
    | (apply kd; exact rfl)
    | (apply zh; (iterate 4 exact rfl))
    | (apply qam; (first | exact rfl | assumption))
    | (apply x6; (first | exact rfl | assumption))
    | (apply zk; exact rfl; first | (apply jx; (first | assumption | omega)) | (apply jw; (first | assumption | omega)) | (apply jy; (first | exact rfl | assumption)) | (apply jv; (first | exact rfl | assumption)) | (apply pk_t; (first | exact rfl | assumption)) | (apply pk_f; (first | exact rfl | assumption)))
    | (apply qg; exact rfl; first | (apply zd; (first | assumption | omega)) | (apply zf; (first | assumption | omega)) | (apply ze; (first | exact rfl | assumption)) | (apply zg; (first | exact rfl | assumption)) | (apply cd_n <;> intro h) | (apply cd_t; (first | exact rfl | assumption)) | (apply cd_f; (first | exact rfl | assumption)) | (apply cd_d <;> intro h) | (apply cd_s <;> intro h))
    | (apply z7; exact rfl; exact rfl)
    | (apply qv; (iterate 3 exact rfl))
    | apply q8
    | apply q9
    | (apply qi; exact Tryz.call36; exact qeb _ _ _ (by omega))
    | (apply qi; exact Tryz.call37; exact hbc _)
    | (apply qi; exact Tryz.call38; exact qn5 _ _ (by omega))
    | (apply x7 (st := S); exact rfl; exact rfl)
    | (apply qm; exact rfl; exact rfl; (focus first | assumption | (repeat' (first | assumption | exact jl | exact zw rfl | apply zn | apply qh | omega | apply z6))); (iterate 6 exact rfl))
    | (apply zy (n := pre.length); (iterate 5 exact rfl); exact hget))
   exact qs rfl (kq (ju rfl) (vj (vd 3) (kp (.ifc 31 (Iv 2))))) ⟨rfl, (hO.pre.set hSl).ext⟩
  | some kn =>
   obtain ⟨k, n⟩ := kn
   have hid := qk0 hbe
   have hbc := fun st => qpy (upto 10 p) st (by omega)
   rw [hbe] at hbc
   have hfc := fun st => qn5 (past 10 p) st (by omega)
   obtain ⟨fs, hfs⟩ : ∃ x, x = (qan (past 10 p)).1 := ⟨_, rfl⟩
   rw [← hfs] at hfc hgf
   have hstep : decP (p :: rest) acc = if (qan (past 10 p)).2 = true ∧ acc.length ≠ 40 then decP rest (acc ++ [⟨k, n, fs⟩]) else none := by simp only [decP, hbe, hfs]
   cases hok : (qan (past 10 p)).2 with
   | false =>
    rw [hok] at hfc hstep
    rw [hstep, if_neg (by simp)] at hrun1
    rw [hrun1] at hdf
    simp only at hdf
    rw [hdf]
    repeat' (first
     | apply qr
     | apply q7
     | apply qe
     | apply qa
     | apply qn
     | apply qf
     | (apply z1; exact rfl; exact rfl)
     | (apply qt; (iterate 3 exact rfl))
     | (apply kd; exact rfl)
     | (apply zh; (iterate 4 exact rfl))
     | (apply xq; (first | exact rfl | assumption))
     | (apply qam; (first | exact rfl | assumption))
     | (apply zk; exact rfl; first | (apply jx; (first | assumption | omega)) | (apply jw; (first | assumption | omega)) | (apply jy; (first | exact rfl | assumption)) | (apply jv; (first | exact rfl | assumption)) | (apply pk_t; (first | exact rfl | assumption)) | (apply pk_f; (first | exact rfl | assumption)))
     | (apply qg; exact rfl; first | (apply zd; (first | assumption | omega)) | (apply zf; (first | assumption | omega)) | (apply ze; (first | exact rfl | assumption)) | (apply zg; (first | exact rfl | assumption)) | (apply cd_n <;> intro h) | (apply cd_t; (first | exact rfl | assumption)) | (apply cd_f; (first | exact rfl | assumption)) | (apply cd_d <;> intro h) | (apply cd_s <;> intro h))
     | (apply z7; exact rfl; exact rfl)
     | (apply qv; (iterate 3 exact rfl))
     | apply q8
     | apply q9
     | (apply qi; exact Tryz.call36; exact qeb _ _ _ (by omega))
     | (apply qi; exact Tryz.call37; exact hbc _)
     | (apply qi; exact Tryz.call38; exact hfc _)
     | (apply x7 (st := S); exact rfl; exact rfl)
     | (apply qm; exact rfl; exact rfl; (focus first | assumption | (repeat' (first | assumption | exact jl | exact zw rfl | apply zn | apply qh | omega | apply z6))); (iterate 6 exact rfl))
     | (apply zy (n := pre.length); (iterate 5 exact rfl); exact hget))
    exact qs rfl (kq (ju rfl) (vj (vd 3) (kp (.ifc 31 (Iv 2))))) ⟨rfl, (hO.pre.set hSl).ext⟩
   | true =>
    rw [hok] at hfc hstep
    by_cases h40 : acc.length = 40
    ·rw [hstep, if_neg (by simp [h40])] at hrun1
     rw [hrun1] at hdf
     simp only at hdf
     rw [hdf]
     repeat' (first
      | apply qr
      | apply q7
      | apply qe
      | apply qa
      | apply qn
      | apply qf
      | (apply z1; exact rfl; exact rfl)
      | (apply qt; (iterate 3 exact rfl))
      | (apply kd; exact rfl)
      | (apply zh; (iterate 4 exact rfl))
      | (apply xq; (first | exact rfl | assumption))
      | (apply zk; exact rfl; first | (apply jx; (first | assumption | omega)) | (apply jw; (first | assumption | omega)) | (apply jy; (first | exact rfl | assumption)) | (apply jv; (first | exact rfl | assumption)) | (apply pk_t; (first | exact rfl | assumption)) | (apply pk_f; (first | exact rfl | assumption)))
      | (apply qg; exact rfl; first | (apply zd; (first | assumption | omega)) | (apply zf; (first | assumption | omega)) | (apply ze; (first | exact rfl | assumption)) | (apply zg; (first | exact rfl | assumption)) | (apply cd_n <;> intro h) | (apply cd_t; (first | exact rfl | assumption)) | (apply cd_f; (first | exact rfl | assumption)) | (apply cd_d <;> intro h) | (apply cd_s <;> intro h))
      | (apply z7; exact rfl; exact rfl)
      | (apply qv; (iterate 3 exact rfl))
      | apply q8
      | apply q9
      | (apply qi; exact Tryz.call36; exact qeb _ _ _ (by omega))
      | (apply qi; exact Tryz.call37; exact hbc _)
      | (apply qi; exact Tryz.call38; exact hfc _)
      | (apply x7 (st := S); exact rfl; exact rfl)
      | (apply qm; exact rfl; exact rfl; (focus first | assumption | (repeat' (first | assumption | exact jl | exact zw rfl | apply zn | apply qh | omega | apply z6))); (iterate 6 exact rfl))
      | (apply zy (n := pre.length); (iterate 5 exact rfl); exact hget)
      | (apply zo; exact rfl; exact qjc hT; exact rfl; exact rfl))
     exact qs rfl (kq (ju rfl) (vj (vd 3) (kp (.ifc 31 (Iv 2))))) ⟨rfl, (hO.pre.set hSl).ext⟩
    ·rw [hstep, if_pos ⟨rfl, h40⟩] at hrun1
     have hO1 : OutI st (((S ++ [AObj.cells 0 45 [Iv 0, Iv 0, jm]]).set S.length (.cells 0 45 [Iv k, Iv n, jd []])).set S.length (.cells 0 45 [Iv k, Iv n, jd fs])) := (hO.pre.set hSl).set hSl
     have hT1 : TipO st.length (((S ++ [AObj.cells 0 45 [Iv 0, Iv 0, jm]]).set S.length (.cells 0 45 [Iv k, Iv n, jd []])).set S.length (.cells 0 45 [Iv k, Iv n, jd fs])) 3 45 (acc.map kc) c := qc5 (qc5 (qbn hT) (qw jl)) (qw (zn jl))
     repeat' (first
      | apply qr
      | apply q7
      | apply qe
      | apply qa
      | apply qn
      | apply qf
      | (apply z1; exact rfl; exact rfl)
      | (apply qt; (iterate 3 exact rfl))
      | (apply kd; exact rfl)
      | (apply zh; (iterate 4 exact rfl))
      | (apply xq; (first | exact rfl | assumption))
      | (apply zk; exact rfl; first | (apply jx; (first | assumption | omega)) | (apply jw; (first | assumption | omega)) | (apply jy; (first | exact rfl | assumption)) | (apply jv; (first | exact rfl | assumption)) | (apply pk_t; (first | exact rfl | assumption)) | (apply pk_f; (first | exact rfl | assumption)))
      | (apply qg; exact rfl; first | (apply zd; (first | assumption | omega)) | (apply zf; (first | assumption | omega)) | (apply ze; (first | exact rfl | assumption)) | (apply zg; (first | exact rfl | assumption)) | (apply cd_n <;> intro h) | (apply cd_t; (first | exact rfl | assumption)) | (apply cd_f; (first | exact rfl | assumption)) | (apply cd_d <;> intro h) | (apply cd_s <;> intro h))
      | (apply jj; exact rfl; exact rfl; exact z2 (by omega) (by omega))
      | (apply za; (iterate 3 exact rfl))
      | (apply qv; (iterate 3 exact rfl))
      | (apply qj; (iterate 9 exact rfl))
      | apply q8
      | (apply qi; exact Tryz.call36; exact qeb _ _ _ (by omega))
      | (apply qi; exact Tryz.call37; exact hbc _)
      | (apply qi; exact Tryz.call38; exact hfc _)
      | (apply x7 (st := S); exact rfl; exact rfl)
      | (apply qb; exact rfl; (focus first | assumption | (repeat' (first | assumption | exact jl | exact zw rfl | apply zn | apply qh | omega | apply z6))); exact rfl; exact rfl)
      | (apply qm; exact rfl; exact rfl; (focus first | assumption | (repeat' (first | assumption | exact jl | exact zw rfl | apply zn | apply qh | omega | apply z6))); (iterate 6 exact rfl))
      | (apply zy (n := pre.length); (iterate 5 exact rfl); exact hget)
      | (apply zo; exact rfl; exact qjc hT; exact rfl; exact rfl)
      | (apply ql (b := st.length) (xs := acc.map kc) (ys := [kc ⟨k, n, fs⟩]) (bytes := 40);  (iterate 5 exact rfl); exact ⟨⟨_, _, rfl, rfl, rfl, rfl, rfl⟩⟩; exact hT1; (exact hO1.len); (first | exact rfl | exact qy fun _ => rfl); ((simp [maxLen]; omega)); ((simp; omega)); intro c' S2 t1 g1 g2 g3 g4))
     refine ⟨acc ++ [⟨k, n, fs⟩], c', S2, hO1.fr g2 g3, by rw [xi]; exact g1, by simp; omega, fun x hx => ?_, fun rest2 hr2 => ?_, vl ⟨rfl, rfl, rfl, rfl, xh pre p, trivial⟩⟩
     ·rcases List.mem_append.1 hx with hx | hx
      ·exact hB x hx
      ·simp at hx; subst hx; exact qr0 hid.1 hid.2 hgf
     ·have : rest2 = rest := by
       rw [hr, List.append_assoc] at hr2
       simpa using (List.append_cancel_left hr2).symm
      rw [this, hrun1]
end Go.Proofs.YtefmcijohgpfhaaGreatDoor
set_option maxRecDepth 100000
set_option linter.unusedVariables false
namespace Go.Proofs.YtefmcijohgpfhaaGreatDoor
open Go Go.Av Go.RowKit Go.Proofs Go.Pl
theorem qfq : qu0 E := fun _ _ _ h hb hB _ h2 => h _ (hb.trans (h2.mono hB))
theorem qvi : (Tryz.prog.fieldsOf 69).toList = [⟨ "Key", 9, 0, false, "", "", 0⟩, ⟨ "Value", 9, 1, false, "", "", 16⟩] := by kernel_rfl
theorem qv3 (a b c d : ByteArray) (w : World) : (Op.equalIn 10000 69 (.agg #[.string a, .string b]) (.agg #[.string c, .string d])).run Tryz.prog w = .ok (a.toList == c.toList && b.toList == d.toList) w := by
 rw [run_equalIn_agg w 9999 69 _ _ (by kernel_rfl) (by kernel_rfl), qvi]
 have p1 : ∀ (x y : ByteArray) w, (part 9 #[.string x, .string y] 0).run Tryz.prog w = .ok (.string x) w := fun x y w => by kernel_rfl
 have p2 : ∀ (x y : ByteArray) w, (part 9 #[.string x, .string y] 1).run Tryz.prog w = .ok (.string y) w := fun x y w => by kernel_rfl
 have hs : ∀ (x y : ByteArray) w, (Op.equalIn 9999 9 (.string x) (.string y)).run Tryz.prog w = .ok (x.toList == y.toList) w := fun x y w => run_equalIn_string w 9998 9 x y (by kernel_rfl)
 simp only [Op.eqFields, Sem.run_bind, Sem.run_ite, p1, p2, hs, Result.andThen_ok, Sem.run_pure]
 cases hac : (a.toList == c.toList) <;> cases hbd : (b.toList == d.toList) <;> simp
theorem qqc {G : Gh} {f : Fld} {v : Value} (h : Rel G (fldA f) v) : v = .agg #[.string ⟨f.1.toArray⟩, .string ⟨f.2.toArray⟩] := by
 cases h with
 | ag _ vs hl h =>
  match vs, hl with
  | ⟨[x, y]⟩, _ =>
   have h1 := h 0 _ x rfl rfl
   have h2 := h 1 _ y rfl rfl
   cases h1
   cases h2
   rfl
theorem qvr (f g : Fld) (w : World) : (binOp .neq 69 (.agg #[.string ⟨f.1.toArray⟩, .string ⟨f.2.toArray⟩]) (.agg #[.string ⟨g.1.toArray⟩, .string ⟨g.2.toArray⟩])).run Tryz.prog w = .ok (.bool (decide (f ≠ g))) w := by
 rw [run_neq_struct, qv3]
 simp only [Result.andThen_ok, ByteArray.toList_eq]
 obtain ⟨a, b⟩ := f
 obtain ⟨c, d⟩ := g
 congr 2
 by_cases h1 : a = c <;> by_cases h2 : b = d <;> simp [h1, h2]
section
variable {N : Nat} {ops : Array Oper} {K : AS → Prop} {s : AS} {rest : List Oper} {d : Option Tmp} {T : TypeId} {p : String} {af : Array Edge}
theorem qsk {x y : Operand} {t' : TypeId} {f g : Fld} {b : Bool} (hx : qz N s x = fldA f) (hy : qz N s y = fldA g) (hb : decide (f ≠ g) = b)
  (h : AQ E N ops rest K (s.put d (Bv b))) : AQ E N ops (⟨d, .binOp .neq 69 x y t', T, p, af, none⟩ :: rest) K s := by
 subst hb
 refine qal rfl nofun fun B0 w0 G a w _ hI => ⟨.bool (decide (f ≠ g)), _, fun w' _ => ?_, .v _, h⟩
 have h1 := qqc (hI.eval_of hx)
 have h2 := qqc (hI.eval_of hy)
 generalize a.eval = ρ at h1 h2
 have hg : (eqGuard .neq 69 x y (.agg #[.string ⟨f.1.toArray⟩, .string ⟨f.2.toArray⟩]) (.agg #[.string ⟨g.1.toArray⟩, .string ⟨g.2.toArray⟩])).run Tryz.prog w' = .ok () w' := run_eqGuard_agg w' _ _ _ _ _ _ (by kernel_rfl)
 simp [execOp, h1, h2, hg, qvr]
theorem qnm {x y : Operand} {t t' : TypeId} {m n : Int} (hx : qz N s x = Iv m) (hy : qz N s y = Iv n) (hne : m ≠ n)
  (h : AQ E N ops rest K (s.put d (Bv true))) : AQ E N ops (⟨d, .binOp .neq t x y t', T, p, af, none⟩ :: rest) K s :=
 qpu hx hy (by simp [cmpI, hne]) h
theorem qi1 {x y : Operand} {t t' : TypeId} {m n : Int} (hx : qz N s x = Iv m) (hy : qz N s y = Iv n) (hne : m = n)
  (h : AQ E N ops rest K (s.put d (Bv false))) : AQ E N ops (⟨d, .binOp .neq t x y t', T, p, af, none⟩ :: rest) K s :=
 qpu hx hy (by simp [cmpI, hne]) h
theorem qs1 {x : Operand} {t : TypeId} {b : Bool} (hx : qz N s x = Bv b)
  (h : AQ E N ops rest K (s.put d (Bv (!b)))) : AQ E N ops (⟨d, .unOp .not t x, T, p, af, none⟩ :: rest) K s :=
 xu _ rfl nofun (fun a w he => by simp [execOp, he _ _ hx, Op.unary]) h
end
theorem qp1 {a b : List Fld} : ∀ x ∈ [jd a, jd b], Pure x := by
 intro x hx
 simp only [List.mem_cons, List.not_mem_nil, or_false] at hx
 rcases hx with rfl | rfl <;> exact qbc _
theorem qbw {α : Type} [DecidableEq α] {a b : List α} {k : Nat} {d : α} (hl : a.length = b.length) (hk : k < a.length) (h : a.take k = b.take k) (h2 : a.getD k d = b.getD k d) : a.take (k + 1) = b.take (k + 1) := by
 rw [List.take_succ_eq_append_getElem hk, List.take_succ_eq_append_getElem (by omega), h]
 congr 2
 simpa [List.getD, hk, show k < b.length by omega] using h2
theorem qlc (a b : List Fld) (st : List AObj) (ha : a.length < 9223372036854775808) : zr E 44 [jd a, jd b] st fun r st' => r = Bv (decide (a = b)) ∧ st' = st := by
 refine z4 (jn _) (zp Tryz.func44 rfl (Nat.le_of_ble_eq_true rfl) ?_)
 have hma : (a.map fldA).length = a.length := by simp
 have hmb : (b.map fldA).length = b.length := by simp
 by_cases hl : a.length = b.length
 ·skip
  repeat' (first
   | apply qr
   | apply q7
   | apply qe
   | apply qa
   | apply qn
   | apply qf
   | (apply qt; (iterate 3 exact rfl))
   | (apply qg; exact rfl; first | (apply zd; (first | assumption | omega)) | (apply zf; (first | assumption | omega)) | (apply ze; (first | exact rfl | assumption)) | (apply zg; (first | exact rfl | assumption)) | (apply cd_n <;> intro h) | (apply cd_t; (first | exact rfl | assumption)) | (apply cd_f; (first | exact rfl | assumption)) | (apply cd_d <;> intro h) | (apply cd_s <;> intro h))
   | (apply zo; (iterate 4 exact rfl))
   | apply q8)
  refine vy (fun (k : Nat) s => k ≤ a.length ∧ a.take k = b.take k ∧ StE [(0, jd a), (1, jd b), (12, Iv a.length), (13, Iv k)] st [] s) (fun k => a.length - k) 0 ⟨by omega, by simp, we ⟨rfl, rfl, congrArg (fun n : Nat => Iv (n : Int)) hma, rfl, trivial⟩ rfl⟩ ?_
  rintro k _ ⟨hk, ht, t, ext, rfl⟩
  by_cases hc : k < a.length
  ·by_cases he : a.getD k ([], []) = b.getD k ([], [])
   ·have hn : decide (a.getD k ([], []) ≠ b.getD k ([], [])) = false := decide_eq_false fun h => h he
    repeat' (first
     | apply qr
     | apply q7
     | apply qe
     | apply qa
     | apply qn
     | apply qf
     | (apply qt; (iterate 3 exact rfl))
     | (apply qg; exact rfl; first | (apply zd; (first | assumption | omega)) | (apply zf; (first | assumption | omega)) | (apply ze; (first | exact rfl | assumption)) | (apply zg; (first | exact rfl | assumption)) | (apply cd_n <;> intro h) | (apply cd_t; (first | exact rfl | assumption)) | (apply cd_f; (first | exact rfl | assumption)) | (apply cd_d <;> intro h) | (apply cd_s <;> intro h))
     | (apply jj; exact rfl; exact rfl; exact z2 (by omega) (by omega))
     | (apply yh; exact rfl; kernel_rfl)
     | apply y8
     | (apply w8; (iterate 3 exact rfl))
     | apply yc
     | apply q8
     | (apply vx (n := k); (iterate 5 exact rfl); exact qfv (xs := a) (by omega))
     | (apply vx (n := k); (iterate 5 exact rfl); exact qfv (xs := b) (by omega))
     | (apply qsk; exact rfl; exact rfl; exact hn))
    exact ⟨k + 1, ⟨by omega, qbw hl hc ht he, vm ⟨rfl, rfl, rfl, rfl, trivial⟩ rfl⟩, by omega⟩
   ·have hn : decide (a.getD k ([], []) ≠ b.getD k ([], [])) = true := decide_eq_true he
    have hab : ¬ a = b := fun e => he (by rw [e])
    repeat' (first
     | apply qr
     | apply q7
     | apply qe
     | apply qa
     | apply qn
     | apply qf
     | (apply qt; (iterate 3 exact rfl))
     | (apply qg; exact rfl; first | (apply zd; (first | assumption | omega)) | (apply zf; (first | assumption | omega)) | (apply ze; (first | exact rfl | assumption)) | (apply zg; (first | exact rfl | assumption)) | (apply cd_n <;> intro h) | (apply cd_t; (first | exact rfl | assumption)) | (apply cd_f; (first | exact rfl | assumption)) | (apply cd_d <;> intro h) | (apply cd_s <;> intro h))
     | (apply yh; exact rfl; kernel_rfl)
     | apply y8
     | (apply w8; (iterate 3 exact rfl))
     | apply yc
     | apply q8
     | apply q9
     | (apply vx (n := k); (iterate 5 exact rfl); exact qfv (xs := a) (by omega))
     | (apply vx (n := k); (iterate 5 exact rfl); exact qfv (xs := b) (by omega))
     | (apply qsk; exact rfl; exact rfl; exact hn))
    exact qs rfl (zt rfl) ⟨congrArg Bv (decide_eq_false hab).symm, kg _ _ _ _⟩
  ·have hab : a = b := by
    have e : k = a.length := by omega
    rw [e, List.take_length, List.take_of_length_le (by omega)] at ht
    exact ht
   repeat' (first
    | apply qr
    | apply qe
    | apply qa
    | apply qf
    | (apply qt; (iterate 3 exact rfl))
    | (apply qg; exact rfl; first | (apply zd; (first | assumption | omega)) | (apply zf; (first | assumption | omega)) | (apply ze; (first | exact rfl | assumption)) | (apply zg; (first | exact rfl | assumption)) | (apply cd_n <;> intro h) | (apply cd_t; (first | exact rfl | assumption)) | (apply cd_f; (first | exact rfl | assumption)) | (apply cd_d <;> intro h) | (apply cd_s <;> intro h))
    | apply jp
    | apply q9)
   exact qs rfl (zt rfl) ⟨congrArg Bv (decide_eq_true hab).symm, kg _ _ _ _⟩
 ·have hab : ¬ a = b := fun e => hl (by rw [e])
  repeat' (first
   | apply qr
   | apply qe
   | apply qa
   | apply qn
   | apply qf
   | (apply qt; (iterate 3 exact rfl))
   | (apply qg; exact rfl; first | (apply zd; (first | assumption | omega)) | (apply zf; (first | assumption | omega)) | (apply ze; (first | exact rfl | assumption)) | (apply zg; (first | exact rfl | assumption)) | (apply cd_n <;> intro h) | (apply cd_t; (first | exact rfl | assumption)) | (apply cd_f; (first | exact rfl | assumption)) | (apply cd_d <;> intro h) | (apply cd_s <;> intro h))
   | (apply zo; (iterate 4 exact rfl))
   | apply q9)
  exact qs rfl (zt rfl) ⟨congrArg Bv (decide_eq_false hab).symm, _, rfl⟩
end Go.Proofs.YtefmcijohgpfhaaGreatDoor
set_option maxRecDepth 100000
set_option linter.unusedVariables false
namespace Go.Pl
open Go Go.Proofs Go.Proofs.YtefmcijohgpfhaaGreatDoor
theorem qah (s : qk) (r : List qk) : j0 (s :: r) = s ++ 10 :: j0 r := by simp [j0]
theorem qav : ∀ (ls : List qk), (∀ s ∈ ls, 10 ∉ s) → kh (j0 ls) = ls.map fun s => (s, true)
 | [], _ => by simp [j0, ya]
 | s :: r, h => by
  have hs := h s (by simp)
  rw [qah, ym (by simp), yn _ hs, y4 _ hs, qav r fun x hx => h x (by simp [hx])]
  simp
theorem qoq {f : Fld} (h : kz f) : ∀ s ∈ jr f, 10 ∉ s := fun s hs => by
 unfold jr at hs
 rcases List.mem_cons.1 hs with rfl | hs
 ·have h1 := qa9 f.2 _ (qi2 f.2)
  have h2 := h.1.2.2.2.2.2
  unfold km
  split <;> simp_all
 ·obtain ⟨x, hx, rfl⟩ := List.mem_map.1 hs
  have h1 := qa9 f.2 x (List.mem_of_mem_tail hx)
  have := qka h1
  simp [this]
theorem qhk {f : Fld} (h : kz f) : ∃ hd mr, jr f = hd :: mr ∧ jf hd = 4 ∧ ∀ s ∈ mr, jf s = 3 := by
 refine ⟨_, _, rfl, ql6 h.1 (qa9 f.2 _ (qi2 f.2)), fun s hs => ?_⟩
 obtain ⟨x, hx, rfl⟩ := List.mem_map.1 hs
 exact qli x (qa9 f.2 x (List.mem_of_mem_tail hx))
theorem qsw {p : PSt} {k : Int} {t : qk} (ht : jf t = 3) (hl : p.lines ≠ []) : xn p k t true = (none, { p with lines := p.lines ++ [t], block := p.block ++ [t] }) := by
 have ha : vb p k t true (jf t) = (none, { p with lines := p.lines ++ [t] }) := by
  unfold vb
  rw [if_pos ht, if_neg hl, if_pos rfl]
 unfold xn
 rw [ha, ht]
 simp
theorem qlm {p q : PSt} {k : Int} {t : qk} (ht : jf t = 4) (hf : vn p = (none, q)) : xn p k t true = (none, { wj q k t with block := q.block ++ [t] }) := by
 have ha : vb p k t true (jf t) = (none, q) := by
  unfold vb
  rw [if_neg (by omega), if_neg (by omega)]
  exact hf
 unfold xn
 rw [ha, ht]
 simp
theorem qiz : ∀ (m : List qk) (k : Nat) (p : PSt) (ls : List (qk × Bool)), (∀ s ∈ m, jf s = 3) → p.lines ≠ [] →
  runL k (m.map (fun s => (s, true)) ++ ls) p = runL (k + m.length) ls { p with lines := p.lines ++ m, block := p.block ++ m }
 | [], k, p, ls, _, _ => by simp
 | s :: m, k, p, ls, h, hl => by
  have hs := h s (by simp)
  rw [List.map_cons, List.cons_append, runL, qsw hs hl]
  simp only
  rw [qiz m (k + 1) _ ls (fun x hx => h x (by simp [hx])) (by simp)]
  simp only [List.append_assoc, List.cons_append, List.nil_append, List.length_cons]
  congr 1
  omega
theorem qjn {g : Fld} (hg : kz g) (frm : Int) (its : List wl) (blk : List qk) (done : List Fld) (rc : Int) : vn ⟨jr g, frm, false, its, blk, done, rc⟩ = (none, ⟨[], frm, false, its, blk, done ++ [g], rc⟩) := by
 have hu := qgt hg
 unfold vn
 rw [if_neg (by simp [jr]), hu]
 simp
theorem qm0 : ∀ (r : List Fld) (done : List Fld) (g : Fld) (k : Nat) (frm : Int) (blk : List qk), kz g → (∀ f ∈ r, kz f) → done.length + 1 + r.length ≤ 40 → blk ≠ [] →
  (runL k ((r.flatMap jr).map fun s => (s, true)) ⟨jr g, frm, false, [], blk, done, 0⟩).1 = none ∧ (runL k ((r.flatMap jr).map fun s => (s, true)) ⟨jr g, frm, false, [], blk, done, 0⟩).2.items = [⟨3, j0 (blk ++ r.flatMap jr), done ++ g :: r⟩]
 | [], done, g, k, frm, blk, hg, _, _, hb => by
  have he : endP ⟨jr g, frm, false, [], blk, done, 0⟩ = (none, w6 ⟨[], frm, false, [], blk, done ++ [g], 0⟩) := by
   unfold endP
   rw [qjn hg]
  simp only [List.flatMap_nil, List.map_nil, runL, he, List.append_nil]
  refine ⟨trivial, ?_⟩
  unfold w6
  rw [if_neg hb]
  simp
 | f :: r, done, g, k, frm, blk, hg, hr, hl, hb => by
  have hf := hr f (by simp)
  obtain ⟨hd, mr, hlf, hk4, hk3⟩ := qhk hf
  simp only [List.length_cons] at hl
  have hrun : runL k (((f :: r).flatMap jr).map fun s => (s, true)) ⟨jr g, frm, false, [], blk, done, 0⟩ = runL (k + 1 + mr.length) ((r.flatMap jr).map fun s => (s, true)) ⟨jr f, k, false, [], blk ++ jr f, done ++ [g], 0⟩ := by
   rw [List.flatMap_cons, List.map_append, hlf, List.map_cons, List.cons_append, runL, qlm hk4 (qjn hg frm [] blk done 0)]
   simp only
   rw [qiz mr (k + 1) _ _ hk3 (by simp [wj])]
   have hfu : decide ((done ++ [g]).length = 40 ∨ ((done ++ [g]).length = 0 ∧ (0 : Int) = 400)) = false := by
    simp
    omega
   simp only [wj, hfu, List.append_assoc, List.cons_append, List.nil_append]
  rw [hrun]
  have ih := qm0 r (done ++ [g]) f (k + 1 + mr.length) k (blk ++ jr f) hf (fun x hx => hr x (by simp [hx])) (by simp; omega) (by simp [hb])
  rw [ih.1, ih.2]
  simp [List.flatMap_cons]
theorem qdt (fs : List Fld) : kj fs = j0 (fs.flatMap jr) := by
 induction fs with
 | nil => rfl
 | cons f r ih =>
  rw [List.flatMap_cons, x9, ← ih]
  simp [kj]
theorem qen {fs : List Fld} (h : ∀ f ∈ fs, kz f) : ∀ s ∈ fs.flatMap jr, 10 ∉ s := fun s hs => by
 obtain ⟨f, hf, hs⟩ := List.mem_flatMap.1 hs
 exact qoq (h f hf) s hs
theorem qq8 {fs : List Fld} (hg : GF fs) (hne : fs ≠ []) : vw (kj fs) = (none, [⟨3, kj fs, fs⟩]) := by
 have hl := qav _ (qen hg.2)
 rw [← qdt] at hl
 cases fs with
 | nil => exact absurd rfl hne
 | cons f r =>
  have hf := hg.2 f (by simp)
  obtain ⟨hd, mr, hlf, hk4, hk3⟩ := qhk hf
  have hlen := hg.1
  simp only [List.length_cons] at hlen
  have hrun : runL 0 (((f :: r).flatMap jr).map fun s => (s, true)) p0 = runL (0 + 1 + mr.length) ((r.flatMap jr).map fun s => (s, true)) ⟨jr f, (0 : Nat), false, [], jr f, [], 0⟩ := by
   have hfl : vn p0 = (none, p0) := rfl
   rw [List.flatMap_cons, List.map_append, hlf, List.map_cons, List.cons_append, runL, qlm hk4 hfl]
   simp only
   rw [qiz mr (0 + 1) _ _ hk3 (by simp [wj])]
   simp [wj, p0]
  have ih := qm0 r [] f (0 + 1 + mr.length) (0 : Nat) (jr f) hf (fun x hx => hg.2 x (by simp [hx])) (by simp; omega) (by simp [jr])
  unfold vw
  rw [hl, hrun, ih.1]
  simp only
  rw [ih.2]
  rw [qdt, List.flatMap_cons, List.nil_append]
theorem qtg : vw [] = (none, []) := by
 unfold vw
 rw [ya]
 rfl
theorem qe3 {ls : List qk} (h : ∀ s ∈ ls, 10 ∉ s) : wm [32, 32] (j0 ls) = j0 (ls.map fun s => [32, 32] ++ s) := by
 unfold wm indF
 rw [qav ls h]
 simp only [j0, List.flatMap_map, wd, if_pos]
theorem qnk {ls : List qk} (h : ∀ s ∈ ls, 10 ∉ s) : ∀ s ∈ ls.map (fun s => [32, 32] ++ s), 10 ∉ s := fun s hs => by
 obtain ⟨x, hx, rfl⟩ := List.mem_map.1 hs
 have := h x hx
 simp [this]
theorem qma {ls : List qk} (h : ∀ s ∈ ls, 10 ∉ s) : v7 [32, 32] (wm [32, 32] (j0 ls)) = (j0 ls, true) := by
 rw [qe3 h]
 unfold v7
 rw [qav _ (qnk h), if_pos]
 ·simp [j0, List.flatMap_map, wd]
 ·intro x hx
  obtain ⟨s, hs, rfl⟩ := List.mem_map.1 hx
  obtain ⟨y, _, rfl⟩ := List.mem_map.1 hs
  exact List.prefix_append _ _
theorem qmh {fs : List Fld} (hl : fs.length ≤ 40) (hg : ∀ f ∈ fs, kz f) : qan (wm [32, 32] (kj fs)) = (fs, true) := by
 have hd : v7 [32, 32] (wm [32, 32] (kj fs)) = (kj fs, true) := by
  rw [qdt]
  exact qma (qen hg)
 unfold qan
 rw [hd]
 simp only
 by_cases h0 : fs = []
 ·subst h0
  have hp : vw (kj []) = (none, []) := qtg
  rw [hp]
  simp [yt, kj]
 ·rw [qq8 ⟨hl, hg⟩ h0]
  simp [yt]
theorem qj3 {j k : Int} {s : qk} (hj : j = 1 ∨ j = 2 ∨ j = 3) (hk : k = 1 ∨ k = 2 ∨ k = 3) (hne : j ≠ k) : ¬ wo j <+: wo k ++ s := by
 rintro ⟨t, ht⟩
 have h2 := congrArg (List.take 2) ht
 rcases hj with rfl | rfl | rfl <;> rcases hk with rfl | rfl | rfl <;> first | exact absurd rfl hne | (revert h2; simp [wo])
theorem qse {x : z8} (hk : x.kind = 1 ∨ x.kind = 2 ∨ x.kind = 3) (h1 : -9223372036854775808 ≤ x.id) (h2 : x.id ≤ 9223372036854775807) : begE (vc x) = some (x.kind, x.id) := by
 have hl : vc x = wo x.kind ++ Lib.itoa x.id := by
  unfold vc
  rw [if_pos (by omega)]
 have hself : tryB x.kind (vc x) = some x.id := by
  unfold tryB
  rw [hl, if_pos (List.prefix_append _ _), List.drop_left, qke h1 h2]
 have hoth : ∀ j : Int, (j = 1 ∨ j = 2 ∨ j = 3) → j ≠ x.kind → tryB j (vc x) = none := fun j hj hne => by
  unfold tryB
  rw [hl, if_neg (qj3 hj hk hne)]
 unfold begE
 rcases hk with h | h | h
 ·rw [h] at hself hoth ⊢
  rw [hself]
 ·rw [h] at hself hoth ⊢
  rw [hoth 1 (by simp) (by decide), hself]
 ·rw [h] at hself hoth ⊢
  rw [hoth 1 (by simp) (by decide), hoth 2 (by simp) (by decide), hself]
def yo (x : z8) : List qk := (x.fields.flatMap jr).map fun s => [32, 32] ++ s
theorem qe4 (v : Int) : ∀ c ∈ Lib.itoa v, c ≠ 10 ∧ c ≠ 32 := fun c hc => by
 by_cases hv : v < 0
 ·rw [qcl hv] at hc
  rcases List.mem_cons.1 hc with rfl | hc
  ·decide
  ·have := wz _ _ (Nat.le_refl _) c hc
   constructor <;> rintro rfl <;> simp at this
 ·rw [qco (by omega)] at hc
  have := wz _ _ (Nat.le_refl _) c hc
  constructor <;> rintro rfl <;> simp at this
theorem qaw (x : z8) : 10 ∉ vc x := by
 unfold vc
 split
 ·rename_i hk
  have h1 := qe4 x.id
  intro hc
  rcases List.mem_append.1 hc with hc | hc
  ·have : x.kind = 1 ∨ x.kind = 2 ∨ x.kind = 3 := by omega
   rcases this with h | h | h <;> rw [h] at hc <;> revert hc <;> decide
  ·exact (h1 10 hc).1 rfl
 ·simp
theorem qff {x : z8} (hk : x.kind = 1 ∨ x.kind = 2 ∨ x.kind = 3) : ¬ [32, 32] <+: vc x := by
 unfold vc
 rw [if_pos (by omega)]
 rintro ⟨t, ht⟩
 have h2 := congrArg (List.take 2) ht
 rcases hk with h | h | h <;> rw [h] at h2 <;> revert h2 <;> simp [wo]
theorem qcu {x : z8} (hg : ∀ f ∈ x.fields, kz f) : kx x = j0 (vc x :: yo x) := by
 unfold kx yo
 rw [qah, qdt, qe3 (qen hg)]
 simp
theorem ql3 {x : z8} (hg : ∀ f ∈ x.fields, kz f) : ∀ s ∈ yo x, 10 ∉ s := qnk (qen hg)
theorem qa8 (text : qk) : ∀ (m : List qk) (k a f : Nat) (R : qk), (∀ s ∈ m, 10 ∉ s ∧ [32, 32] <+: s) → ∃ k', v4 text (va k a (j0 m ++ R)) f = v4 text (va k' (a + (j0 m).length) R) f
 | [], k, a, f, R, _ => ⟨k, by simp [j0]⟩
 | s :: m, k, a, f, R, h => by
  obtain ⟨h10, hp⟩ := h s (by simp)
  have e : j0 (s :: m) ++ R = s ++ 10 :: (j0 m ++ R) := by rw [qah]; simp
  obtain ⟨k', ih⟩ := qa8 text m (k + 1) (a + s.length + 1) f R fun x hx => h x (by simp [hx])
  refine ⟨k', ?_⟩
  rw [e, yf (by simp), yn _ h10, y4 _ h10, v4, if_neg (fun h => h.2 hp), ih, qah]
  congr 2
  simp
  omega
theorem qlo {x : z8} (hg : ∀ f ∈ x.fields, kz f) : ∀ s ∈ yo x, 10 ∉ s ∧ [32, 32] <+: s := fun s hs => ⟨ql3 hg s hs, by
 obtain ⟨y, _, rfl⟩ := List.mem_map.1 hs
 exact List.prefix_append _ _⟩
structure EncG (x : z8) : Prop where
 kind : x.kind = 1 ∨ x.kind = 2 ∨ x.kind = 3
 len : x.fields.length ≤ 40
 good : ∀ f ∈ x.fields, kz f
 id1 : -9223372036854775808 ≤ x.id
 id2 : x.id ≤ 9223372036854775807
theorem qjo : ∀ (r : List z8) (D : qk) (x : z8) (k : Nat), EncG x → (∀ y ∈ r, EncG y) →
  v4 (D ++ (kx x ++ encF r)) (va k (D.length + ((vc x).length + 1)) (j0 (yo x) ++ encF r)) D.length = kx x :: r.map kx
 | [], D, x, k, hx, _ => by
  obtain ⟨k', h⟩ := qa8 (D ++ (kx x ++ encF [])) (yo x) k (D.length + ((vc x).length + 1)) D.length (encF []) (qlo hx.good)
  rw [h]
  have e : encF [] = [] := rfl
  rw [e, ye, v4]
  simp
 | y :: r, D, x, k, hx, hr => by
  have hy := hr y (by simp)
  obtain ⟨k', h⟩ := qa8 (D ++ (kx x ++ encF (y :: r))) (yo x) k (D.length + ((vc x).length + 1)) D.length (encF (y :: r)) (qlo hx.good)
  rw [h]
  have e : encF (y :: r) = vc y ++ 10 :: (j0 (yo y) ++ encF r) := by
   have : encF (y :: r) = kx y ++ encF r := by simp [encF]
   rw [this, qcu hy.good, qah]
   simp
  have hlx : (kx x).length = (vc x).length + 1 + (j0 (yo x)).length := by
   rw [qcu hx.good, qah]
   simp
   omega
  have e2 : encF (y :: r) = kx y ++ encF r := by simp [encF]
  have hpos : D.length + ((vc x).length + 1) + (j0 (yo x)).length = (D ++ kx x).length := by
   rw [List.length_append, hlx]
   omega
  rw [hpos]
  have hc : va k' (D ++ kx x).length (encF (y :: r)) = ⟨k', (D ++ kx x).length, vc y, true⟩ :: va (k' + 1) ((D ++ kx x).length + (vc y).length + 1) (j0 (yo y) ++ encF r) := by
   rw [e, yf (by simp), yn _ (qaw y), y4 _ (qaw y)]
   simp
  have hlt : D.length < (D ++ kx x).length := by rw [List.length_append, hlx]; omega
  rw [hc, v4, if_pos ⟨hlt, qff hy.kind⟩]
  have ih := qjo r (D ++ kx x) y (k' + 1) hy fun z hz => hr z (by simp [hz])
  have et : D ++ (kx x ++ encF (y :: r)) = (D ++ kx x) ++ (kx y ++ encF r) := by rw [e2]; simp
  rw [et]
  have ed : ((D ++ kx x ++ (kx y ++ encF r)).take (D ++ kx x).length).drop D.length = kx x := by
   rw [List.take_left, List.drop_left]
  rw [ed, List.map_cons]
  simp only
  rw [show (D ++ kx x).length + (vc y).length + 1 = (D ++ kx x).length + ((vc y).length + 1) by omega, ih]
theorem qsz {x : z8} {r : List z8} (hx : EncG x) (hr : ∀ y ∈ r, EncG y) : wh (encF (x :: r)) = (x :: r).map kx := by
 have e2 : encF (x :: r) = kx x ++ encF r := by simp [encF]
 have e : encF (x :: r) = vc x ++ 10 :: (j0 (yo x) ++ encF r) := by
  rw [e2, qcu hx.good, qah]
  simp
 have h := qjo r [] x 1 hx hr
 simp only [List.nil_append, List.length_nil, Nat.zero_add] at h
 have hc : lns (encF (x :: r)) = ⟨0, 0, vc x, true⟩ :: va 1 ((vc x).length + 1) (j0 (yo x) ++ encF r) := by
  unfold lns
  rw [e, yf (by simp), yn _ (qaw x), y4 _ (qaw x)]
  simp
 unfold wh
 rw [hc, v4, if_neg (by simp), e2, h]
 rfl
theorem qmo : ∀ (r acc : List z8), (∀ y ∈ r, EncG y) → acc.length + r.length ≤ 40 → decP (r.map kx) acc = some (acc ++ r)
 | [], acc, _, _ => by simp [decP]
 | x :: r, acc, h, hl => by
  have hx := h x (by simp)
  simp only [List.length_cons] at hl
  have hu : upto 10 (kx x) = vc x := by
   unfold kx
   rw [List.append_assoc]
   exact yn _ (qaw x)
  have hp : past 10 (kx x) = wm [32, 32] (kj x.fields) := by
   unfold kx
   rw [List.append_assoc]
   exact y4 _ (qaw x)
  have hfl := qmh hx.len hx.good
  rw [List.map_cons, decP, hu, qse hx.kind hx.id1 hx.id2]
  simp only [hp, hfl]
  rw [if_pos ⟨trivial, by omega⟩]
  have ih := qmo r (acc ++ [⟨x.kind, x.id, x.fields⟩]) (fun y hy => h y (by simp [hy])) (by simp; omega)
  rw [ih]
  simp
theorem qpz {x : z8} (h : gErr x = .no) (hB : EdB x) : EncG x := by
 obtain ⟨h1, h2⟩ := qid h
 refine ⟨?_, h1, h2, hB.id1, hB.id2⟩
 unfold gErr at h
 split at h
 ·exact .inr (.inl (by assumption))
 ·split at h
  ·rename_i hk; omega
  ·simp at h
theorem qp9 {b : List z8} (he : eErr b = .no) (hB : ∀ x ∈ b, EdB x) (hl : (encF b).length ≤ 50000) : decF (encF b) = some b := by
 obtain ⟨h1, h40, hg⟩ := qfi he
 have hG : ∀ y ∈ b, EncG y := fun y hy => qpz (hg y hy) (hB y hy)
 unfold decF
 rw [if_neg (by omega)]
 cases b with
 | nil => simp at h1
 | cons x r =>
  rw [qsz (hG x (by simp)) (fun y hy => hG y (by simp [hy])), qmo (x :: r) [] hG (by simp at h40 ⊢; omega)]
  simp only [List.nil_append]
  rw [if_pos ⟨he, trivial⟩]
theorem qoe {text : qk} {b : List z8} (h : decF text = some b) : eErr b = .no ∧ encF b = text ∧ text.length ≤ 50000 := by
 unfold decF at h
 split at h
 ·simp at h
 ·split at h
  ·simp at h
  ·split at h
   ·rename_i hc
    cases h
    exact ⟨hc.1, hc.2, by omega⟩
   ·simp at h
end Go.Pl
set_option maxRecDepth 100000
set_option linter.unusedVariables false
namespace Go.Pl
open Go Go.Proofs Go.Proofs.YtefmcijohgpfhaaGreatDoor
def encL (b : List z8) : List qk := b.flatMap fun x => vc x :: yo x
theorem qsm {b : List z8} (hg : ∀ x ∈ b, EncG x) : encF b = j0 (encL b) := by
 induction b with
 | nil => rfl
 | cons x r ih =>
  have e : encL (x :: r) = (vc x :: yo x) ++ encL r := by simp [encL]
  have e2 : encF (x :: r) = kx x ++ encF r := by simp [encF]
  rw [e, x9, e2, qcu (hg x (by simp)).good, ih fun y hy => hg y (by simp [hy])]
end Go.Pl
namespace Go.Proofs.YtefmcijohgpfhaaGreatDoor
open Go Go.Av Go.RowKit Go.Proofs Go.Pl
theorem yu {xs : List z8} {k : Nat} (hk : k < xs.length) : (xs.map kc)[k]? = some (kc (xs.getD k ⟨0, 0, []⟩)) := by
 simp [List.getD, hk]
end Go.Proofs.YtefmcijohgpfhaaGreatDoor
set_option maxRecDepth 100000
set_option linter.unusedVariables false
namespace Go.Proofs.YtefmcijohgpfhaaGreatDoor
open Go Go.Av Go.RowKit Go.Proofs Go.Pl
def qdy : List z8 := [⟨3, 0, [([65], [49, 10, 50])]⟩]
def qdw : List z8 := [⟨2, 7, []⟩]
def qkg : qk := [32, 105, 110, 115, 101, 114, 116, 32, 48, 10, 32, 32, 65, 58, 32, 49, 10, 32, 32, 32, 50, 10]
theorem qqp : kj [([65], [49, 10, 50])] = [65, 58, 32, 49, 10, 32, 50, 10] := by
 have hu : upto 10 ([49, 10, 50] : qk) = [49] := by decide
 have hp : past 10 ([49, 10, 50] : qk) = [50] := by decide
 have h1 : z0 [49, 10, 50] = [[49], [50]] := by rw [wp (by decide), hu, hp, wn (by decide)]
 rw [qhy]
 unfold jr
 simp only [h1]
 decide
theorem qsa : wm [32, 32] (kj [([65], [49, 10, 50])]) = [32, 32, 65, 58, 32, 49, 10, 32, 32, 32, 50, 10] := by
 have h : kj [([65], [49, 10, 50])] = j0 [[65, 58, 32, 49], [32, 50]] := by rw [qqp]; rfl
 rw [h, qe3 (by decide)]
 rfl
theorem qjh : encF qdy = qkg := by
 have hl : vc ⟨3, 0, [([65], [49, 10, 50])]⟩ = [32, 105, 110, 115, 101, 114, 116, 32, 48] := by
  have e : Lib.itoa 0 = [48] := by show Lib.itoa ((0 : Nat) : Int) = [48]; rw [qn3, Lib.decDigits_one (by decide)]; rfl
  show wo 3 ++ Lib.itoa 0 = _
  rw [e]
  rfl
 unfold qdy
 rw [qf3]
 unfold kx
 rw [hl, qsa]
 rfl
theorem qrf : encF qdw = [32, 100, 101, 108, 101, 116, 101, 32, 55, 10] := by
 have hl : vc ⟨2, 7, []⟩ = [32, 100, 101, 108, 101, 116, 101, 32, 55] := by
  have e : Lib.itoa 7 = [55] := by show Lib.itoa ((7 : Nat) : Int) = [55]; rw [qn3, Lib.decDigits_one (by decide)]; rfl
  show wo 2 ++ Lib.itoa 7 = _
  rw [e]
  rfl
 unfold qdw
 rw [qf3]
 unfold kx
 have hi : wm [32, 32] (kj []) = [] := by
  unfold wm indF kj
  rw [List.flatMap_nil, ya]
  rfl
 rw [hl]
 simp only [hi]
 rfl
theorem qty : ∀ x ∈ qdy, EdB x := fun x hx => by
 unfold qdy at hx
 simp only [List.mem_cons, List.not_mem_nil, or_false] at hx
 subst hx
 exact ⟨fun f hf => by simp at hf; subst hf; decide, by decide, by decide, by decide⟩
theorem quf : ∀ x ∈ qdw, EdB x := fun x hx => by
 unfold qdw at hx
 simp only [List.mem_cons, List.not_mem_nil, or_false] at hx
 subst hx
 exact ⟨fun f hf => by simp at hf, by decide, by decide, by decide⟩
theorem qr6 : decF qkg = some qdy := by
 rw [← qjh]
 exact qp9 (by decide) qty (by rw [qjh]; decide)
theorem qrr (st : List AObj) : zr E 11 [Sv qkg] st fun r st' => r = .tu [vu qdy, .v .nilIface] ∧ st' = st := by
 have := qmp qkg st (by decide)
 rw [qr6] at this
 exact this
theorem qrs (st : List AObj) : zr E 15 [vu qdw] st fun r st' => r = .tu [Sv [32, 100, 101, 108, 101, 116, 101, 32, 55, 10], .v .nilIface] ∧ st' = st := by
 have := qem qdw st quf (by decide)
 rw [qrf] at this
 exact this
theorem qg0 (st : List AObj) : zr E 10 [] st fun r st' => r = Bv true ∧ st' = st := by
 refine z4 (jn _) (zp Tryz.func10 rfl (Nat.le_of_ble_eq_true rfl) ?_)
 repeat' (first
  | (refine zi 6 (x := .ag [Iv 2, Iv 7, jm]) (r := kc ⟨2, 7, []⟩) rfl (qay 2 7) ?_; apply qj; (iterate 9 exact rfl))
  | apply qr
  | apply qe
  | apply qa
  | apply qn
  | apply qf
  | (apply z1; exact rfl; exact rfl)
  | (apply qt; (iterate 3 exact rfl))
  | (apply kw; (iterate 3 exact rfl))
  | (apply zh; (iterate 4 exact rfl))
  | (apply yg; (first | exact rfl | assumption))
  | (apply zk; exact rfl; first | (apply jx; (first | assumption | omega)) | (apply jw; (first | assumption | omega)) | (apply jy; (first | exact rfl | assumption)) | (apply jv; (first | exact rfl | assumption)) | (apply pk_t; (first | exact rfl | assumption)) | (apply pk_f; (first | exact rfl | assumption)))
  | (apply zo; (iterate 4 exact rfl))
  | (apply xz; exact rfl; exact rfl)
  | (apply vt; (iterate 4 exact rfl))
  | (apply qv; (iterate 3 exact rfl))
  | (apply j6; (iterate 3 exact rfl))
  | apply q9
  | (apply qi; exact Tryz.call15; exact qrs _)
  | (apply qi; exact Tryz.call11; exact qrr _)
  | (apply zy (n := 0); (iterate 6 exact rfl)))
 exact qs rfl (zt rfl) ⟨rfl, _, rfl⟩
theorem qv5 {x : z8} : ∀ y ∈ [kc x], Pure y := by
 intro y hy
 simp only [List.mem_cons, List.not_mem_nil, or_false] at hy
 subst hy
 exact qdd (qcs x)
theorem qfj {l : qk} {i : Nat} {c : UInt8} (h : l[i]? = some c) : l.getD i 0 = c := by simp [List.getD, h]
end Go.Proofs.YtefmcijohgpfhaaGreatDoor
set_option maxRecDepth 100000
set_option linter.unusedVariables false
namespace Go.Proofs.YtefmcijohgpfhaaGreatDoor
open Go Go.Av Go.RowKit Go.Proofs Go.Pl
noncomputable def qro (a b : List z8) : Bool := @decide (a = b) (Classical.propDecidable _)
theorem qkl {a b : List z8} (h : a = b) : qro a b = true := @decide_eq_true _ (Classical.propDecidable _) h
theorem qh4 {a b : List z8} (h : ¬ a = b) : qro a b = false := @decide_eq_false _ (Classical.propDecidable _) h
theorem qu9 {x y : z8} (h1 : x.kind = y.kind) (h2 : x.id = y.id) (h3 : x.fields = y.fields) : x = y := by
 cases x
 cases y
 simp_all
theorem qql {a b : List z8} {k : Nat} {d : z8} (hl : a.length = b.length) (hk : k < a.length) (h : a.take k = b.take k) (h2 : a.getD k d = b.getD k d) : a.take (k + 1) = b.take (k + 1) := by
 rw [List.take_succ_eq_append_getElem hk, List.take_succ_eq_append_getElem (by omega), h]
 congr 2
 simpa [List.getD, hk, show k < b.length by omega] using h2
set_option maxHeartbeats 4000000 in
theorem qnw (a b : List z8) (st : List AObj) (ha : a.length < 9223372036854775808) (hf : ∀ x ∈ a, x.fields.length < 9223372036854775808) : zr E 14 [vu a, vu b] st fun r st' => r = Bv (qro a b) ∧ st' = st := by
 refine z4 (jn _) (zp Tryz.func14 rfl (Nat.le_of_ble_eq_true rfl) ?_)
 have hma : (a.map kc).length = a.length := by simp
 have hmb : (b.map kc).length = b.length := by simp
 by_cases hl : a.length = b.length
 ·skip
  repeat' (first
   | apply qr
   | apply q7
   | apply qe
   | apply qa
   | apply qn
   | apply qf
   | (apply qt; (iterate 3 exact rfl))
   | (apply qg; exact rfl; first | (apply zd; (first | assumption | omega)) | (apply zf; (first | assumption | omega)) | (apply ze; (first | exact rfl | assumption)) | (apply zg; (first | exact rfl | assumption)) | (apply cd_n <;> intro h) | (apply cd_t; (first | exact rfl | assumption)) | (apply cd_f; (first | exact rfl | assumption)) | (apply cd_d <;> intro h) | (apply cd_s <;> intro h))
   | (apply zo; (iterate 4 exact rfl))
   | apply q8)
  refine vy (fun (k : Nat) s => k ≤ a.length ∧ a.take k = b.take k ∧ StE [(0, vu a), (1, vu b), (12, Iv a.length), (13, Iv k)] st [] s) (fun k => a.length - k) 0 ⟨by omega, by simp, we ⟨rfl, rfl, congrArg (fun n : Nat => Iv (n : Int)) hma, rfl, trivial⟩ rfl⟩ ?_
  rintro k _ ⟨hk, ht, t, ext, rfl⟩
  by_cases hc : k < a.length
  ·have hfl := hf (a.getD k ⟨0, 0, []⟩) (by simp [List.getD, hc])
   have hne : a.getD k ⟨0, 0, []⟩ ≠ b.getD k ⟨0, 0, []⟩ → ¬ a = b := fun h e => h (by rw [e])
   by_cases h1 : (a.getD k ⟨0, 0, []⟩).kind = (b.getD k ⟨0, 0, []⟩).kind
   ·by_cases h2 : (a.getD k ⟨0, 0, []⟩).id = (b.getD k ⟨0, 0, []⟩).id
    ·by_cases h3 : (a.getD k ⟨0, 0, []⟩).fields = (b.getD k ⟨0, 0, []⟩).fields
     ·skip
      have hF : ∀ st, zr E 44 [jd (a.getD k ⟨0, 0, []⟩).fields, jd (b.getD k ⟨0, 0, []⟩).fields] st fun r st' => r = Bv true ∧ st' = st := fun st => by
       have := qlc (a.getD k ⟨0, 0, []⟩).fields (b.getD k ⟨0, 0, []⟩).fields st hfl
       rw [decide_eq_true h3] at this
       exact this
      repeat' (first
       | apply qr
       | apply q7
       | apply qe
       | apply qa
       | apply qn
       | apply qf
       | (apply qt; (iterate 3 exact rfl))
       | (apply qg; exact rfl; first | (apply zd; (first | assumption | omega)) | (apply zf; (first | assumption | omega)) | (apply ze; (first | exact rfl | assumption)) | (apply zg; (first | exact rfl | assumption)) | (apply cd_n <;> intro h) | (apply cd_t; (first | exact rfl | assumption)) | (apply cd_f; (first | exact rfl | assumption)) | (apply cd_d <;> intro h) | (apply cd_s <;> intro h))
       | (apply jj; exact rfl; exact rfl; exact z2 (by omega) (by omega))
       | (apply yh; exact rfl; kernel_rfl)
       | apply y8
       | (apply w8; (iterate 3 exact rfl))
       | (apply wk; (iterate 4 exact rfl))
       | apply yc
       | apply q8
       | (apply vx (n := k); (iterate 5 exact rfl); exact yu (xs := a) (by omega))
       | (apply vx (n := k); (iterate 5 exact rfl); exact yu (xs := b) (by omega))
       | (apply qi1; exact rfl; exact rfl; (first | exact h1 | exact h2))
       | (apply qd7; (iterate 5 exact rfl))
       | (apply qg4; exact rfl; exact rfl)
       | (refine qee (args := [jd _, jd _]) qfq Tryz.call44 rfl qp1 (qhd _) (fun _ => .v _) (hF _) ?_)
       | (apply qs1; exact rfl))
      exact ⟨k + 1, ⟨by omega, qql hl hc ht (qu9 h1 h2 h3), vm ⟨rfl, rfl, rfl, rfl, trivial⟩ rfl⟩, by omega⟩
     ·skip
      have hF : ∀ st, zr E 44 [jd (a.getD k ⟨0, 0, []⟩).fields, jd (b.getD k ⟨0, 0, []⟩).fields] st fun r st' => r = Bv false ∧ st' = st := fun st => by
       have := qlc (a.getD k ⟨0, 0, []⟩).fields (b.getD k ⟨0, 0, []⟩).fields st hfl
       rw [decide_eq_false h3] at this
       exact this
      repeat' (first
       | apply qr
       | apply q7
       | apply qe
       | apply qa
       | apply qn
       | apply qf
       | (apply qt; (iterate 3 exact rfl))
       | (apply qg; exact rfl; first | (apply zd; (first | assumption | omega)) | (apply zf; (first | assumption | omega)) | (apply ze; (first | exact rfl | assumption)) | (apply zg; (first | exact rfl | assumption)) | (apply cd_n <;> intro h) | (apply cd_t; (first | exact rfl | assumption)) | (apply cd_f; (first | exact rfl | assumption)) | (apply cd_d <;> intro h) | (apply cd_s <;> intro h))
       | (apply yh; exact rfl; kernel_rfl)
       | apply y8
       | (apply w8; (iterate 3 exact rfl))
       | (apply wk; (iterate 4 exact rfl))
       | apply yc
       | apply q8
       | apply q9
       | (apply vx (n := k); (iterate 5 exact rfl); exact yu (xs := a) (by omega))
       | (apply vx (n := k); (iterate 5 exact rfl); exact yu (xs := b) (by omega))
       | (apply qi1; exact rfl; exact rfl; (first | exact h1 | exact h2))
       | (apply qd7; (iterate 5 exact rfl))
       | (apply qg4; exact rfl; exact rfl)
       | (refine qee (args := [jd _, jd _]) qfq Tryz.call44 rfl qp1 (qhd _) (fun _ => .v _) (hF _) ?_)
       | (apply qs1; exact rfl))
      exact qs rfl (zt rfl) ⟨congrArg Bv (qh4 (hne fun e => h3 (by rw [e]))).symm, kg _ _ _ _⟩
    ·skip
     repeat' (first
      | apply qr
      | apply q7
      | apply qe
      | apply qa
      | apply qn
      | apply qf
      | (apply qt; (iterate 3 exact rfl))
      | (apply qg; exact rfl; first | (apply zd; (first | assumption | omega)) | (apply zf; (first | assumption | omega)) | (apply ze; (first | exact rfl | assumption)) | (apply zg; (first | exact rfl | assumption)) | (apply cd_n <;> intro h) | (apply cd_t; (first | exact rfl | assumption)) | (apply cd_f; (first | exact rfl | assumption)) | (apply cd_d <;> intro h) | (apply cd_s <;> intro h))
      | (apply yh; exact rfl; kernel_rfl)
      | apply y8
      | (apply w8; (iterate 3 exact rfl))
      | (apply wk; (iterate 4 exact rfl))
      | apply yc
      | apply q8
      | apply q9
      | (apply vx (n := k); (iterate 5 exact rfl); exact yu (xs := a) (by omega))
      | (apply vx (n := k); (iterate 5 exact rfl); exact yu (xs := b) (by omega))
      | (apply qi1; exact rfl; exact rfl; exact h1)
      | (apply qnm; exact rfl; exact rfl; exact h2)
      | (apply qd7; (iterate 5 exact rfl))
      | (apply qgu; (iterate 5 exact rfl))
      | (apply qly; exact rfl; exact rfl)
      | (apply qg4; exact rfl; exact rfl))
     exact qs rfl (zt rfl) ⟨congrArg Bv (qh4 (hne fun e => h2 (by rw [e]))).symm, kg _ _ _ _⟩
   ·skip
    repeat' (first
     | apply qr
     | apply q7
     | apply qe
     | apply qa
     | apply qn
     | apply qf
     | (apply qt; (iterate 3 exact rfl))
     | (apply qg; exact rfl; first | (apply zd; (first | assumption | omega)) | (apply zf; (first | assumption | omega)) | (apply ze; (first | exact rfl | assumption)) | (apply zg; (first | exact rfl | assumption)) | (apply cd_n <;> intro h) | (apply cd_t; (first | exact rfl | assumption)) | (apply cd_f; (first | exact rfl | assumption)) | (apply cd_d <;> intro h) | (apply cd_s <;> intro h))
     | (apply yh; exact rfl; kernel_rfl)
     | apply y8
     | (apply w8; (iterate 3 exact rfl))
     | (apply wk; (iterate 4 exact rfl))
     | apply yc
     | apply q8
     | apply q9
     | (apply vx (n := k); (iterate 5 exact rfl); exact yu (xs := a) (by omega))
     | (apply vx (n := k); (iterate 5 exact rfl); exact yu (xs := b) (by omega))
     | (apply qnm; exact rfl; exact rfl; exact h1)
     | (apply qgu; (iterate 5 exact rfl))
     | (apply qly; exact rfl; exact rfl))
    exact qs rfl (zt rfl) ⟨congrArg Bv (qh4 (hne fun e => h1 (by rw [e]))).symm, kg _ _ _ _⟩
  ·have hab : a = b := by
    have e : k = a.length := by omega
    rw [e, List.take_length, List.take_of_length_le (by omega)] at ht
    exact ht
   repeat' (first
    | apply qr
    | apply qe
    | apply qa
    | apply qf
    | (apply qt; (iterate 3 exact rfl))
    | (apply qg; exact rfl; first | (apply zd; (first | assumption | omega)) | (apply zf; (first | assumption | omega)) | (apply ze; (first | exact rfl | assumption)) | (apply zg; (first | exact rfl | assumption)) | (apply cd_n <;> intro h) | (apply cd_t; (first | exact rfl | assumption)) | (apply cd_f; (first | exact rfl | assumption)) | (apply cd_d <;> intro h) | (apply cd_s <;> intro h))
    | apply jp
    | apply q9)
   exact qs rfl (zt rfl) ⟨congrArg Bv (qkl hab).symm, kg _ _ _ _⟩
 ·have hab : ¬ a = b := fun e => hl (by rw [e])
  repeat' (first
   | apply qr
   | apply qe
   | apply qa
   | apply qn
   | apply qf
   | (apply qt; (iterate 3 exact rfl))
   | (apply qg; exact rfl; first | (apply zd; (first | assumption | omega)) | (apply zf; (first | assumption | omega)) | (apply ze; (first | exact rfl | assumption)) | (apply zg; (first | exact rfl | assumption)) | (apply cd_n <;> intro h) | (apply cd_t; (first | exact rfl | assumption)) | (apply cd_f; (first | exact rfl | assumption)) | (apply cd_d <;> intro h) | (apply cd_s <;> intro h))
   | (apply zo; (iterate 4 exact rfl))
   | apply q9)
  exact qs rfl (zt rfl) ⟨congrArg Bv (qh4 hab).symm, _, rfl⟩
end Go.Proofs.YtefmcijohgpfhaaGreatDoor
set_option maxRecDepth 100000
set_option linter.unusedVariables false
namespace Go.Proofs.YtefmcijohgpfhaaGreatDoor
open Go Go.Av Go.RowKit Go.Proofs Go.Pl
theorem qvz {a b : qk} : ∀ x ∈ [Sv a, Sv b], Pure x := by
 intro x hx
 simp only [List.mem_cons, List.not_mem_nil, or_false] at hx
 rcases hx with rfl | rfl <;> exact jn _
theorem qvo {a : List Fld} : ∀ x ∈ [jd a], Pure x := by
 intro x hx
 simp only [List.mem_cons, List.not_mem_nil, or_false] at hx
 subst hx
 exact qbc _
theorem qs8 {b : List z8} {k : Nat} (hk : k < b.length) : encF (b.take (k + 1)) = ((encF (b.take k) ++ vc (b.getD k ⟨0, 0, []⟩)) ++ [10]) ++ wm [32, 32] (kj (b.getD k ⟨0, 0, []⟩).fields) := by
 rw [List.take_succ_eq_append_getElem hk, qn7, qf3]
 have e : b.getD k ⟨0, 0, []⟩ = b[k] := by simp [List.getD, hk]
 rw [e]
 unfold kx
 simp [List.append_assoc]
set_option maxHeartbeats 2000000 in
theorem qgr (b : List z8) (st : List AObj) (hB : ∀ x ∈ b, EdB x) (he : eErr b = .no) : zr E 22 [vu b] st fun r st' => r = Sv (encF b) ∧ st' = st := by
 refine z4 (jn _) (zp Tryz.func22 rfl (Nat.le_of_ble_eq_true rfl) ?_)
 have hml : (b.map kc).length = b.length := by simp
 obtain ⟨hb1, hb40, hg⟩ := qfi he
 repeat' (first
  | apply qr
  | apply q7
  | apply qe
  | apply qa
  | apply qf)
 refine vy (fun (k : Nat) s => k ≤ b.length ∧ StE [(0, vu b), (3, Sv (encF (b.take k))), (4, Iv k)] st [] s) (fun k => b.length - k) 0 ⟨by omega, we ⟨rfl, rfl, rfl, trivial⟩ rfl⟩ ?_
 rintro k _ ⟨hk, t, ext, rfl⟩
 by_cases hc : k < b.length
 ·have hm : b.getD k ⟨0, 0, []⟩ ∈ b := by simp [List.getD, hc]
  have hxb := hB _ hm
  have hxg := hg _ hm
  have hnx := qs8 hc
  have hpl := qga (b.take k) (fun y hy => hB y (List.mem_of_mem_take hy)) (fun y hy => hg y (List.mem_of_mem_take hy))
  have hget : (b.map kc)[k]? = some (kc (b.getD k ⟨0, 0, []⟩)) := yu hc
  generalize b.getD k ⟨0, 0, []⟩ = x at hm hxb hxg hnx hget
  obtain ⟨hfl, hfg⟩ := qid hxg
  have hll := qg8 x hxb.id1 hxb.id2
  have hfo := qc4 x.fields hfg
  have hin := qe7 (kj x.fields)
  have htk : (b.take k).length ≤ 40 := by rw [List.length_take]; omega
  repeat' (first
   | apply qr
   | apply q7
   | apply qe
   | apply qa
   | apply qn
   | apply qf
   | (apply qt; (iterate 3 exact rfl))
   | (apply qg; exact rfl; first | (apply zd; (first | assumption | omega)) | (apply zf; (first | assumption | omega)) | (apply ze; (first | exact rfl | assumption)) | (apply zg; (first | exact rfl | assumption)) | (apply cd_n <;> intro h) | (apply cd_t; (first | exact rfl | assumption)) | (apply cd_f; (first | exact rfl | assumption)) | (apply cd_d <;> intro h) | (apply cd_s <;> intro h))
   | (apply zo; (iterate 4 exact rfl))
   | (apply jj; exact rfl; exact rfl; exact z2 (by omega) (by omega))
   | (apply yh; exact rfl; kernel_rfl)
   | apply y8
   | (apply qb0; exact rfl; exact rfl; (first | omega | (simp only [List.length_append, List.length_cons, List.length_nil]; omega) | (simp; omega)))
   | (apply w8; (iterate 3 exact rfl))
   | (apply wk; (iterate 4 exact rfl))
   | apply yc
   | apply qc7
   | apply q8
   | (apply vx (n := k); (iterate 5 exact rfl); exact hget)
   | (refine qee (args := [kc x]) qfq Tryz.call42 rfl qv5 (qhd _) (fun _ => .v _) (qlz x _ hxb.id1 hxb.id2) ?_)
   | (refine qee (args := [jd x.fields]) qfq Tryz.call55 rfl qvo (qhd _) (fun _ => .v _) (qte x.fields _ (qs0 hfl hfg)) ?_)
   | (refine qee (args := [Sv (kj x.fields), Sv [32, 32]]) qfq Tryz.call54 rfl qvz (qhd _) (fun _ => .v _) (qol (kj x.fields) [32, 32] _ (by omega) (by decide)) ?_))
  exact ⟨k + 1, ⟨by omega, vm ⟨rfl, congrArg Sv hnx.symm, rfl, trivial⟩ rfl⟩, by omega⟩
 ·have e : k = b.length := by omega
  subst e
  rw [List.take_length]
  repeat' (first
   | apply qr
   | apply qe
   | apply qa
   | apply qn
   | apply qf
   | (apply qt; (iterate 3 exact rfl))
   | (apply qg; exact rfl; first | (apply zd; (first | assumption | omega)) | (apply zf; (first | assumption | omega)) | (apply ze; (first | exact rfl | assumption)) | (apply zg; (first | exact rfl | assumption)) | (apply cd_n <;> intro h) | (apply cd_t; (first | exact rfl | assumption)) | (apply cd_f; (first | exact rfl | assumption)) | (apply cd_d <;> intro h) | (apply cd_s <;> intro h))
   | (apply zo; (iterate 4 exact rfl))
   | apply jp
   | apply q9)
  exact qs rfl (zt rfl) ⟨rfl, kg _ _ _ _⟩
end Go.Proofs.YtefmcijohgpfhaaGreatDoor
set_option maxRecDepth 100000
set_option linter.unusedVariables false
namespace Go.Proofs.YtefmcijohgpfhaaGreatDoor
open Go Go.Av Go.RowKit Go.Proofs Go.Pl
theorem qtf : ∀ (ps : List qk) (acc b : List z8), (∀ x ∈ acc, EdB x) → decP ps acc = some b → ∀ x ∈ b, EdB x
 | [], acc, b, h, e => by
  rw [decP] at e
  cases e
  exact h
 | p :: r, acc, b, h, e => by
  rw [decP] at e
  split at e
  ·simp at e
  ·rename_i k n hb
   split at e
   ·refine qtf r _ b (fun x hx => ?_) e
    rcases List.mem_append.1 hx with hx | hx
    ·exact h x hx
    ·obtain rfl := List.mem_singleton.1 hx
     exact qr0 (qk0 hb).1 (qk0 hb).2 (qio _)
   ·simp at e
theorem qsg {text : qk} {b : List z8} (h : decF text = some b) : ∀ x ∈ b, EdB x := by
 unfold decF at h
 split at h
 ·simp at h
 ·split at h
  ·simp at h
  ·rename_i c hc
   split at h
   ·cases h
    exact qtf _ _ _ (by simp) hc
   ·simp at h
end Go.Proofs.YtefmcijohgpfhaaGreatDoor
set_option maxRecDepth 100000
set_option linter.unusedVariables false
namespace Go.Pl
open Go Go.Proofs Go.Proofs.YtefmcijohgpfhaaGreatDoor
def addF (out : List z8) (f : Fld) : List z8 := match out.getLast? with
 | none => out
 | some x => out.dropLast ++ [⟨x.kind, x.id, x.fields ++ [f]⟩]
def xo (out : List z8) (held : List qk) : Option (List z8) :=
 if held = [] then some out else if (jq held).2 = 0 then some (addF out (jq held).1) else none
def tryR (l : qk) (e : Option (Int × Int)) (k : Int) : Option (Int × Int) :=
 if wo k <+: l then match numZ (l.drop (wo k).length) with
  | some n => some (k, n)
  | none => e
 else e
def begR (l : qk) : Option (Int × Int) := tryR l (tryR l (tryR l none 1) 2) 3
def vk : List qk → List z8 → List qk → Option (List z8)
 | [], out, held => xo out held
 | l :: r, out, held =>
  match (if held ≠ [] ∧ ¬ [32, 32, 32] <+: l then (xo out held).map fun o => (o, ([] : List qk)) else some (out, held)) with
  | none => none
  | some (o, h) =>
   if [32, 32] <+: l then if o = [] then none else vk r o (h ++ [l.drop 2])
   else match begR l with
    | none => none
    | some (k, n) => if 40 ≤ o.length then none else vk r (o ++ [⟨k, n, []⟩]) h
theorem qtq (b : List z8) (k n : Int) (gs : List Fld) (f : Fld) : addF (b ++ [⟨k, n, gs⟩]) f = b ++ [⟨k, n, gs ++ [f]⟩] := by
 unfold addF
 simp
def qkd (held : List qk) (pe : List Fld) : Prop := (held = [] ∧ pe = []) ∨ ∃ g, kz g ∧ held = jr g ∧ pe = [g]
theorem qgj {b : List z8} {k n : Int} {gs pe : List Fld} {held : List qk} (h : qkd held pe) : xo (b ++ [⟨k, n, gs⟩]) held = some (b ++ [⟨k, n, gs ++ pe⟩]) := by
 unfold xo
 rcases h with ⟨rfl, rfl⟩ | ⟨g, hg, rfl, rfl⟩
 ·simp
 ·have hu := qgt hg
  rw [if_neg (by simp [jr]), hu, if_pos rfl, qtq]
theorem ind3 {s : qk} (h : [32] <+: s) : [32, 32, 32] <+: [32, 32] ++ s := by
 obtain ⟨t, rfl⟩ := h
 exact ⟨t, rfl⟩
theorem qt7 {s : qk} (h : ¬ [32] <+: s) : ¬ [32, 32, 32] <+: [32, 32] ++ s := fun ⟨t, ht⟩ => h ⟨t, by simpa using ht⟩
theorem qr8 {s : qk} {r : List qk} {out : List z8} {held : List qk} (hs : [32] <+: s) (hne : out ≠ []) : vk (([32, 32] ++ s) :: r) out held = vk r out (held ++ [s]) := by
 rw [vk, if_neg (fun h => h.2 (ind3 hs))]
 simp only
 rw [if_pos (List.prefix_append _ _), if_neg hne]
 rfl
theorem qle : ∀ (m : List qk) {r : List qk} {out : List z8} {held : List qk}, (∀ s ∈ m, [32] <+: s) → out ≠ [] → vk (m.map (fun s => [32, 32] ++ s) ++ r) out held = vk r out (held ++ m)
 | [], r, out, held, _, _ => by simp
 | s :: m, r, out, held, h, hne => by
  rw [List.map_cons, List.cons_append, qr8 (h s (by simp)) hne, qle m (fun x hx => h x (by simp [hx])) hne]
  simp
theorem qtb {s : qk} {r : List qk} {b : List z8} {k n : Int} {gs pe : List Fld} {held : List qk} (hs : ¬ [32] <+: s) (hh : qkd held pe) : vk (([32, 32] ++ s) :: r) (b ++ [⟨k, n, gs⟩]) held = vk r (b ++ [⟨k, n, gs ++ pe⟩]) [s] := by
 rw [vk]
 have hi := qt7 hs
 have e : (if held ≠ [] ∧ ¬ [32, 32, 32] <+: [32, 32] ++ s then (xo (b ++ [⟨k, n, gs⟩]) held).map fun o => (o, ([] : List qk)) else some (b ++ [⟨k, n, gs⟩], held)) = some (b ++ [⟨k, n, gs ++ pe⟩], []) := by
  by_cases h0 : held = []
  ·rcases hh with ⟨_, rfl⟩ | ⟨g, _, h1, _⟩
   ·rw [if_neg (fun h => h.1 h0), h0]; simp
   ·rw [h0] at h1; simp [jr] at h1
  ·rw [if_pos ⟨h0, hi⟩, qgj hh]; rfl
 rw [e]
 simp only
 rw [if_pos (List.prefix_append _ _), if_neg (by simp)]
 rfl
theorem qmz {f : Fld} (h : kz f) : ∃ hd mr, jr f = hd :: mr ∧ ¬ [32] <+: hd ∧ ∀ s ∈ mr, [32] <+: s := by
 refine ⟨_, _, rfl, ?_, fun s hs => ?_⟩
 ·obtain ⟨h1, _, h3, _⟩ := h.1
  rintro ⟨t, ht⟩
  apply h3
  cases hk : f.1 with
  | nil => exact absurd hk h1
  | cons c l =>
   unfold km at ht
   rw [hk] at ht
   have := (List.cons.inj ht).1
   rw [← this]
   simp [qbg, v6]
 ·obtain ⟨x, _, rfl⟩ := List.mem_map.1 hs
  exact List.prefix_append _ _
def qmx (R : List qk) : Prop := ∀ l r, R = l :: r → ¬ [32, 32] <+: l
theorem qvb {R : List qk} {b : List z8} {k n : Int} {gs pe : List Fld} {held : List qk} (hR : qmx R) (hh : qkd held pe) : vk R (b ++ [⟨k, n, gs⟩]) held = vk R (b ++ [⟨k, n, gs ++ pe⟩]) [] := by
 cases R with
 | nil =>
  rw [vk, vk, qgj hh]
  simp [xo]
 | cons l r =>
  have h2 := hR l r rfl
  have h3 : ¬ [32, 32, 32] <+: l := fun ⟨t, ht⟩ => h2 ⟨[32] ++ t, by rw [← ht]; rfl⟩
  have e : (if held ≠ [] ∧ ¬ [32, 32, 32] <+: l then (xo (b ++ [⟨k, n, gs⟩]) held).map fun o => (o, ([] : List qk)) else some (b ++ [⟨k, n, gs⟩], held)) = some (b ++ [⟨k, n, gs ++ pe⟩], []) := by
   by_cases h0 : held = []
   ·rcases hh with ⟨_, rfl⟩ | ⟨g, _, h1, _⟩
    ·rw [if_neg (fun h => h.1 h0), h0]; simp
    ·rw [h0] at h1; simp [jr] at h1
   ·rw [if_pos ⟨h0, h3⟩, qgj hh]; rfl
  rw [vk, e, vk, if_neg (fun h => h.1 rfl)]
theorem qlk : ∀ (fs : List Fld) {R : List qk} {b : List z8} {k n : Int} {gs pe : List Fld} {held : List qk}, qmx R → (∀ f ∈ fs, kz f) → qkd held pe →
  vk ((fs.flatMap jr).map (fun s => [32, 32] ++ s) ++ R) (b ++ [⟨k, n, gs⟩]) held = vk R (b ++ [⟨k, n, gs ++ pe ++ fs⟩]) []
 | [], R, b, k, n, gs, pe, held, hR, _, hh => by
  rw [List.flatMap_nil, List.map_nil, List.nil_append, qvb hR hh, List.append_nil]
 | f :: fs, R, b, k, n, gs, pe, held, hR, hf, hh => by
  have hgf := hf f (by simp)
  obtain ⟨hd, mr, hl, h1, h2⟩ := qmz hgf
  rw [List.flatMap_cons, List.map_append, hl, List.map_cons, List.append_assoc, List.cons_append, qtb h1 hh, qle mr h2 (by simp)]
  have e : [hd] ++ mr = jr f := by rw [hl]; rfl
  rw [e, qlk fs hR (fun x hx => hf x (by simp [hx])) (.inr ⟨f, hgf, rfl, rfl⟩)]
  simp
theorem qsb {x : z8} (hx : EncG x) : begR (vc x) = some (x.kind, x.id) := by
 have hl : vc x = wo x.kind ++ Lib.itoa x.id := by
  unfold vc
  rw [if_pos (by have := hx.kind; omega)]
 have hself : ∀ e, tryR (vc x) e x.kind = some (x.kind, x.id) := fun e => by
  unfold tryR
  rw [hl, if_pos (List.prefix_append _ _), List.drop_left, qln hx.id1 hx.id2]
 have hoth : ∀ (j : Int) e, (j = 1 ∨ j = 2 ∨ j = 3) → j ≠ x.kind → tryR (vc x) e j = e := fun j e hj hne => by
  unfold tryR
  rw [hl, if_neg (qj3 hj hx.kind hne)]
 unfold begR
 rcases hx.kind with h | h | h
 ·rw [h] at hself hoth ⊢
  rw [hself, hoth 2 _ (by simp) (by decide), hoth 3 _ (by simp) (by decide)]
 ·rw [h] at hself hoth ⊢
  rw [hself, hoth 3 _ (by simp) (by decide)]
 ·rw [h] at hself hoth ⊢
  rw [hself]
theorem qlx : ∀ (r b : List z8), (∀ x ∈ r, EncG x) → b.length + r.length ≤ 40 → vk (encL r) b [] = some (b ++ r)
 | [], b, _, _ => by
  simp [encL, vk, xo]
 | x :: r, b, h, hl => by
  have hx := h x (by simp)
  simp only [List.length_cons] at hl
  have e : encL (x :: r) = vc x :: (yo x ++ encL r) := by simp [encL]
  have hR : qmx (encL r) := fun l t et => by
   cases r with
   | nil => simp [encL] at et
   | cons y r =>
    have e : encL (y :: r) = vc y :: (yo y ++ encL r) := by simp [encL]
    rw [e] at et
    rw [← (List.cons.inj et).1]
    exact qff (h y (by simp)).kind
  rw [e, vk, if_neg (fun h => h.1 rfl)]
  simp only
  rw [if_neg (qff hx.kind), qsb hx]
  simp only
  rw [if_neg (by omega)]
  unfold yo
  rw [qlk x.fields hR hx.good (.inl ⟨rfl, rfl⟩), qlx r _ (fun y hy => h y (by simp [hy])) (by simp; omega)]
  simp
def OutG (out : List z8) (m : Nat) : Prop := ∀ x ∈ out, (∀ f ∈ x.fields, kz f) ∧ x.fields.length ≤ m ∧ -9223372036854775808 ≤ x.id ∧ x.id ≤ 9223372036854775807
theorem OutG.mono {out : List z8} {m m' : Nat} (h : OutG out m) (hm : m ≤ m') : OutG out m' := fun x hx => ⟨(h x hx).1, by have := (h x hx).2.1; omega, (h x hx).2.2⟩
theorem qsu {out : List z8} {f : Fld} {m : Nat} (h : OutG out m) (hf : kz f) : OutG (addF out f) (m + 1) := by
 unfold addF
 cases hl : out.getLast? with
 | none => exact h.mono (by omega)
 | some y =>
  have hy := h y (List.mem_of_getLast? hl)
  intro x hx
  rcases List.mem_append.1 hx with hx | hx
  ·exact h.mono (by omega) x ((List.dropLast_sublist out).subset hx)
  ·obtain rfl := List.mem_singleton.1 hx
   refine ⟨fun g hg => ?_, by simp; exact hy.2.1, hy.2.2⟩
   rcases List.mem_append.1 hg with hg | hg
   ·exact hy.1 g hg
   ·obtain rfl := List.mem_singleton.1 hg
    exact hf
theorem qoc {out o : List z8} {held : List qk} {m : Nat} (h : OutG out m) (e : xo out held = some o) : OutG o (m + 1) := by
 unfold xo at e
 split at e
 ·cases e; exact h.mono (by omega)
 ·split at e
  ·rename_i hu
   cases e
   exact qsu h (qe8 hu)
  ·simp at e
theorem qnd {l : qk} {e : Option (Int × Int)} {j k n : Int} (he : ∀ k n, e = some (k, n) → -9223372036854775808 ≤ n ∧ n ≤ 9223372036854775807) (h : tryR l e j = some (k, n)) : -9223372036854775808 ≤ n ∧ n ≤ 9223372036854775807 := by
 unfold tryR at h
 split at h
 ·split at h
  ·rename_i v hv
   cases h
   exact (qls hv).2
  ·exact he _ _ h
 ·exact he _ _ h
theorem qto {l : qk} {k n : Int} (h : begR l = some (k, n)) : -9223372036854775808 ≤ n ∧ n ≤ 9223372036854775807 :=
 qnd (fun _ _ h => qnd (fun _ _ h => qnd (fun _ _ h => by simp at h) h) h) h
theorem qks : ∀ (L : List qk) {out b : List z8} {held : List qk} {m : Nat}, OutG out m → vk L out held = some b → OutG b (m + L.length + 1)
 | [], out, b, held, m, h, e => by
  rw [vk] at e
  exact (qoc h e).mono (by simp)
 | l :: r, out, b, held, m, h, e => by
  rw [vk] at e
  split at e
  ·simp at e
  ·rename_i o hd he
   have ho : OutG o (m + 1) := by
    split at he
    ·obtain ⟨o', h1, h2⟩ := Option.map_eq_some_iff.1 he
     cases h2
     exact qoc h h1
    ·cases he; exact h.mono (by omega)
   split at e
   ·split at e
    ·simp at e
    ·exact (qks r ho e).mono (by simp; omega)
   ·split at e
    ·simp at e
    ·rename_i k n hb
     split at e
     ·simp at e
     ·refine (qks r (m := m + 1) (fun x hx => ?_) e).mono (by simp; omega)
      rcases List.mem_append.1 hx with hx | hx
      ·exact ho x hx
      ·obtain rfl := List.mem_singleton.1 hx
       exact ⟨by simp, by simp, qto hb⟩
theorem qr7 {b : List z8} {m : Nat} (h : OutG b m) (hm : m < 9223372036854775808) : ∀ x ∈ b, EdB x := fun x hx => by
 obtain ⟨h1, h2, h3, h4⟩ := h x hx
 exact ⟨fun f hf => by have := (h1 f hf).1.2.1; omega, by omega, h3, h4⟩
def qck (text : qk) : Option (List z8) := if 50000 < text.length then none else match vk ((lns text).map fun x => x.text) [] [] with
 | none => none
 | some b => if eErr b = .no ∧ encF b = text then some b else none
theorem qt5 (l : qk) : (lns l).map (fun x => x.text) = (kh l).map Prod.fst := by
 rw [← qlf, List.map_map]
 rfl
theorem qrz (text : qk) : qck text = decF text := by
 by_cases hbig : 50000 < text.length
 ·unfold qck decF
  rw [if_pos hbig, if_pos hbig]
 have hn := qbq _ text 0 0 (Nat.le_refl _)
 cases hd : decF text with
 | some b =>
  obtain ⟨he, ht, _⟩ := qoe hd
  obtain ⟨h1, h40, hg⟩ := qfi he
  have hB := qsg hd
  have hG : ∀ y ∈ b, EncG y := fun y hy => qpz (hg y hy) (hB y hy)
  have hl : (lns text).map (fun x => x.text) = encL b := by
   rw [qt5, ← ht, qsm hG, qav, List.map_map]
   ·simp [Function.comp_def]
   ·intro s hs
    obtain ⟨x, hx, hs⟩ := List.mem_flatMap.1 hs
    rcases List.mem_cons.1 hs with rfl | hs
    ·exact qaw x
    ·exact ql3 (hG x hx).good s hs
  unfold qck
  rw [if_neg hbig, hl, qlx b [] hG (by simp; omega)]
  simp only [List.nil_append]
  rw [if_pos ⟨he, ht⟩]
 | none =>
  unfold qck
  rw [if_neg hbig]
  cases hr : vk ((lns text).map fun x => x.text) [] [] with
  | none => rfl
  | some b =>
   simp only
   split
   ·rename_i hc
    have hB := qr7 (qks _ (m := 0) (by intro x hx; simp at hx) hr) (by
     have : (lns text).length ≤ text.length := hn
     simp
     omega)
    have := qp9 hc.1 hB (by rw [hc.2]; omega)
    rw [hc.2, hd] at this
    simp at this
   ·rfl
end Go.Pl
set_option maxRecDepth 100000
set_option linter.unusedVariables false
namespace Go.Proofs.YtefmcijohgpfhaaGreatDoor
open Go Go.Av Go.RowKit Go.Proofs Go.Pl
def qkk : Option (List z8) → AV
 | none => .tu [vu [], Bv false]
 | some b => .tu [vu b, Bv true]
set_option maxHeartbeats 4000000 in
theorem qjv (text : qk) (st : List AObj) (hR : ∀ st, text.length ≤ 50000 → zr E 12 [Sv text] st fun r st' => r = qkk (decF text) ∧ st' = st) : zr E 3 [Sv text] st fun r st' => r = Bv true ∧ st' = st := by
 refine z4 (jn _) (zp Tryz.func3 rfl (Nat.le_of_ble_eq_true rfl) ?_)
 by_cases hbig : 5000 < text.length
 ·skip
  repeat' (first
   | apply qr
   | apply qe
   | apply qa
   | apply qn
   | apply qf
   | (apply qt; (iterate 3 exact rfl))
   | (apply kd; exact rfl)
   | (apply qg; exact rfl; first | (apply zd; (first | assumption | omega)) | (apply zf; (first | assumption | omega)) | (apply ze; (first | exact rfl | assumption)) | (apply zg; (first | exact rfl | assumption)) | (apply cd_n <;> intro h) | (apply cd_t; (first | exact rfl | assumption)) | (apply cd_f; (first | exact rfl | assumption)) | (apply cd_d <;> intro h) | (apply cd_s <;> intro h))
   | (apply j4; (iterate 3 exact rfl))
   | apply q8
   | apply q9
   | (apply qi; exact Tryz.call10; exact qg0 _))
  exact qs rfl (zt rfl) ⟨rfl, _, rfl⟩
 have hR := fun st => hR st (by omega)
 have hde := fun st => qmp text st (by omega)
 cases hd : decF text with
 | none =>
  rw [hd] at hde hR
  have hde2 : ∀ st, zr E 11 [Sv text] st fun r st' => r = .tu [vu [], errA (.num 2)] ∧ st' = st := hde
  have hR2 : ∀ st, zr E 12 [Sv text] st fun r st' => r = .tu [vu [], Bv false] ∧ st' = st := hR
  have hIs : ∀ st, zr E 13 [errA (.num 2), Iv 2] st fun r st' => r = Bv true ∧ st' = st := fun st => qwm (.num 2) 2 st (by first | decide | simp [okE])
  have hed : ∀ st, zr E 14 [vu [], vu []] st fun r st' => r = Bv true ∧ st' = st := fun st => by
   have := qnw [] [] st (by simp) (by simp)
   rw [qkl rfl] at this
   exact this
  repeat' (first
   | apply qr
   | apply qe
   | apply qa
   | apply qn
   | apply qf
   | (apply z1; exact rfl; exact rfl)
   | (apply qt; (iterate 3 exact rfl))
   | (apply kd; exact rfl)
   | (apply zh; (iterate 4 exact rfl))
   | (apply qc9; (first | exact rfl | assumption))
   | (apply xq; (first | exact rfl | assumption))
   | (apply qa1; (first | exact rfl | assumption))
   | (apply zk; exact rfl; first | (apply jx; (first | assumption | omega)) | (apply jw; (first | assumption | omega)) | (apply jy; (first | exact rfl | assumption)) | (apply jv; (first | exact rfl | assumption)) | (apply pk_t; (first | exact rfl | assumption)) | (apply pk_f; (first | exact rfl | assumption)))
   | (apply qg; exact rfl; first | (apply zd; (first | assumption | omega)) | (apply zf; (first | assumption | omega)) | (apply ze; (first | exact rfl | assumption)) | (apply zg; (first | exact rfl | assumption)) | (apply cd_n <;> intro h) | (apply cd_t; (first | exact rfl | assumption)) | (apply cd_f; (first | exact rfl | assumption)) | (apply cd_d <;> intro h) | (apply cd_s <;> intro h))
   | (apply j4; (iterate 3 exact rfl))
   | (apply xa; exact rfl; exact rfl)
   | apply q8
   | apply q9
   | (apply qi; exact Tryz.call10; exact qg0 _)
   | (apply qi; exact Tryz.call11; exact hde2 _)
   | (apply qi; exact Tryz.call12; exact hR2 _)
   | (apply qi; exact Tryz.call14; exact hed _)
   | (apply qi; exact Tryz.call13; exact hIs _)
   | (apply qlv; (iterate 3 exact rfl)))
  exact qs rfl (zt rfl) ⟨rfl, _, rfl⟩
 | some b =>
  rw [hd] at hde hR
  obtain ⟨he, ht, _⟩ := qoe hd
  have hB := qsg hd
  obtain ⟨h1, h40, hg⟩ := qfi he
  have hde2 : ∀ st, zr E 11 [Sv text] st fun r st' => r = .tu [vu b, .v .nilIface] ∧ st' = st := hde
  have hR2 : ∀ st, zr E 12 [Sv text] st fun r st' => r = .tu [vu b, Bv true] ∧ st' = st := hR
  have hed : ∀ st, zr E 14 [vu b, vu b] st fun r st' => r = Bv true ∧ st' = st := fun st => by
   have := qnw b b st (by omega) (fun z hz => (hB z hz).len)
   rw [qkl rfl] at this
   exact this
  have hen : ∀ st, zr E 15 [vu b] st fun r st' => r = .tu [Sv text, .v .nilIface] ∧ st' = st := fun st => by
   have := qem b st hB he
   rw [ht] at this
   exact this
  repeat' (first
   | apply qr
   | apply qe
   | apply qa
   | apply qn
   | apply qf
   | (apply z1; exact rfl; exact rfl)
   | (apply qt; (iterate 3 exact rfl))
   | (apply kw; (iterate 3 exact rfl))
   | (apply kd; exact rfl)
   | (apply zh; (iterate 4 exact rfl))
   | (apply qb3; (first | exact rfl | assumption))
   | (apply yg; (first | exact rfl | assumption))
   | (apply qa1; (first | exact rfl | assumption))
   | (apply zk; exact rfl; first | (apply jx; (first | assumption | omega)) | (apply jw; (first | assumption | omega)) | (apply jy; (first | exact rfl | assumption)) | (apply jv; (first | exact rfl | assumption)) | (apply pk_t; (first | exact rfl | assumption)) | (apply pk_f; (first | exact rfl | assumption)))
   | (apply qg; exact rfl; first | (apply zd; (first | assumption | omega)) | (apply zf; (first | assumption | omega)) | (apply ze; (first | exact rfl | assumption)) | (apply zg; (first | exact rfl | assumption)) | (apply cd_n <;> intro h) | (apply cd_t; (first | exact rfl | assumption)) | (apply cd_f; (first | exact rfl | assumption)) | (apply cd_d <;> intro h) | (apply cd_s <;> intro h))
   | (apply j4; (iterate 3 exact rfl))
   | (apply xz; exact rfl; exact rfl)
   | apply q8
   | apply q9
   | (apply qi; exact Tryz.call10; exact qg0 _)
   | (apply qi; exact Tryz.call11; exact hde2 _)
   | (apply qi; exact Tryz.call12; exact hR2 _)
   | (apply qi; exact Tryz.call14; exact hed _)
   | (apply qi; exact Tryz.call15; exact hen _)
   | (apply qlv; (iterate 3 exact rfl)))
  exact qs rfl (zt rfl) ⟨congrArg Bv (by simp), _, rfl⟩
end Go.Proofs.YtefmcijohgpfhaaGreatDoor
set_option maxRecDepth 100000
set_option linter.unusedVariables false
namespace Go.Pl
open Go Go.Proofs
def qh1 : List (qk × Bool) → List qk
 | [] => []
 | (t, _) :: r => if jf t = 3 then t :: qh1 r else []
theorem qpc {α : Type} {l : List α} {x : α} (h : l.getLast? = some x) : l.dropLast ++ [x] = l := by
 have hne : l ≠ [] := fun e => by subst e; simp at h
 rw [List.getLast?_eq_some_getLast hne] at h
 obtain rfl := Option.some.inj h
 exact List.dropLast_concat_getLast hne
def outR (now : wl) (out : List wl) : List wl := if now.raw = [] then out else out ++ [now]
def qm7 (ls : List qk) (full : Bool) : Int := if (jq ls).2 ≠ 0 then (jq ls).2 else if full = true then 11 else 0
theorem qtk {p : PSt} (h : p.lines = [] ∨ qm7 p.lines p.full = 0) : vn p = (none, { p with lines := [], fields := p.fields ++ (if p.lines = [] then [] else [(jq p.lines).1]) }) := by
 unfold vn
 by_cases h0 : p.lines = []
 ·rw [if_pos h0, if_pos h0]
  obtain ⟨a, b, c, d, e, f, g⟩ := p
  simp only at h0
  subst h0
  simp
 ·rw [if_neg h0, if_neg h0]
  have h := h.resolve_left h0
  unfold qm7 at h
  by_cases h1 : (jq p.lines).2 ≠ 0
  ·rw [if_pos h1] at h
   exact absurd h h1
  ·rw [if_neg h1] at h ⊢
   by_cases h2 : p.full = true
   ·rw [if_pos h2] at h
    simp at h
   ·rw [if_neg h2]
structure Sim (r : List (qk × Bool)) (p : PSt) (prev : Bool) (now : wl) (rec : Int) (out : List wl) : Prop where
 hprev : prev = decide (p.lines ≠ [])
 hok : p.lines = [] ∨ qm7 (p.lines ++ qh1 r) p.full = 0
 hraw : now.raw = j0 p.block
 hfields : now.fields = p.fields ++ (if p.lines = [] then [] else [(jq (p.lines ++ qh1 r)).1])
 hkind : now.kind = if now.fields = [] then 2 else 3
 hrec : rec = p.records + if now.fields = [] then 0 else 1
 hout : out = p.items
 hempty : p.block = [] → p.lines = [] ∧ p.fields = []
 b1 : now.fields.length ≤ 40
 b2 : rec ≤ 400
theorem qth (b : List qk) : j0 b = [] ↔ b = [] := by
 cases b with
 | nil => simp [j0]
 | cons x r => simp [j0]
theorem Sim.flush {r : List (qk × Bool)} {p : PSt} {prev : Bool} {now : wl} {rec : Int} {out : List wl} (h : Sim r p prev now rec out) (hm : qh1 r = []) : vn p = (none, { p with lines := [], fields := now.fields }) := by
 have h1 := h.hok
 have h2 := h.hfields
 rw [hm, List.append_nil] at h1 h2
 rw [qtk h1, h2]
theorem Sim.close {r : List (qk × Bool)} {p : PSt} {prev : Bool} {now : wl} {rec : Int} {out : List wl} (h : Sim r p prev now rec out) (hm : qh1 r = []) : w6 { p with lines := [], fields := now.fields } = { p with lines := [], fields := [], block := [], items := outR now out, records := rec } := by
 have hk := h.hkind
 have hr := h.hrec
 have hw := h.hraw
 have ho := h.hout
 unfold w6 outR
 simp only
 by_cases hb : p.block = []
 ·obtain ⟨e1, e2⟩ := h.hempty hb
  have hf : now.fields = [] := by rw [h.hfields, e1, e2]; simp
  rw [if_pos hb, if_pos (by rw [hw, hb]; rfl), ho, hr, hf]
  simp
 ·have hne : ¬ now.raw = [] := by rw [hw, qth]; exact hb
  rw [if_neg hb, if_neg hne, ho, hr, ← hw]
  obtain ⟨nk, nr, nf⟩ := now
  simp only at hk hne ⊢
  by_cases hf : nf = []
  ·rw [if_pos hf] at hk
   simp [hf, hk, hne]
  ·rw [if_neg hf] at hk
   simp [hf, hk, hne]
end Go.Pl
set_option maxRecDepth 100000
set_option linter.unusedVariables false
namespace Go.Pl
open Go Go.Proofs Go.Proofs.YtefmcijohgpfhaaGreatDoor
def qwt (n : Int) : Prop := 1 ≤ n ∧ n ≤ 2147483648
instance (n : Int) : Decidable (qwt n) := inferInstanceAs (Decidable (_ ∧ _))
end Go.Pl
set_option maxRecDepth 100000
set_option linter.unusedVariables false
namespace Go.Av
open Go Go.RowKit
section
variable {E : Env} {rd : Option Nat} {N : Nat} {ops : Array Oper} {K K' : AS → Prop} {s : AS}
theorem AOps.mono {l : List Oper} (h : AOps E rd N ops l K' s) (hk : ∀ s, K' s → K s) : AOps E rd N ops l K s :=
 ⟨fun B0 w0 G a w hL hI Q hQ => h.run B0 w0 G a w hL hI Q fun G' s' a' w' hG hI' hK => hQ G' s' a' w' hG hI' (hk _ hK)⟩
theorem qt8 {l : List Oper} (K' : AS → Prop) (h : AOps E rd N ops l K' s) (hk : ∀ s, K' s → K s) : AOps E rd N ops l K s := h.mono hk
theorem quu {c : Code} {Q : Exit → AS → Prop} (I : AS → Prop) (h : AWp E rd N c (qju I Q) s) (hk : ∀ s', I s' → Q .normal s') : AWp E rd N c Q s := h.mono fun e s' h => by
 cases e <;> first | exact hk _ h | exact h
end
theorem qm4 {L cs : List AV} {off j : Nat} {y : AV} (h : (L.drop off).take cs.length = cs) (hj : j < cs.length) (hL : off + cs.length ≤ L.length) : wi L (off + j) [y] = wi L off (cs.set j y) := by
 obtain ⟨A, D, hA, hlen⟩ : ∃ A D, L = A ++ (cs ++ D) ∧ A.length = off := ⟨L.take off, L.drop (off + cs.length), by
  conv => rhs; rhs; lhs; rw [← h]
  rw [← List.drop_drop, List.take_append_drop, List.take_append_drop], by simp; omega⟩
 subst hA
 subst hlen
 unfold wi
 have e1 : (A ++ (cs ++ D)).take (A.length + j) = A ++ cs.take j := by
  rw [List.take_append, List.take_of_length_le (by omega), show A.length + j - A.length = j by omega, List.take_append_of_le_length (by omega)]
 have e2 : (A ++ (cs ++ D)).drop (A.length + j + 1) = cs.drop (j + 1) ++ D := by
  rw [show A.length + j + 1 = A.length + (j + 1) by omega, ← List.drop_drop, List.drop_left, List.drop_append_of_le_length (by omega)]
 have e3 : (A ++ (cs ++ D)).drop (A.length + cs.length) = D := by
  rw [← List.drop_drop, List.drop_left, List.drop_left]
 rw [e1, List.length_singleton, e2, List.take_left, List.length_set, e3, List.set_eq_take_append_cons_drop, if_pos hj]
 simp
theorem qrv {sz : Nat} {xs pad : List AV} (hw : ∀ x ∈ xs, x.cells.length = sz) {i j : Nat} {x y : AV} (hi : xs[i]? = some x) (hy : x.cells[j]? = some y) : (flat xs ++ pad)[0 + i * sz + j]? = some y := by
 have h := qp7 (pad := pad) hw hi
 have hx := hw x (List.mem_of_getElem? hi)
 have hj := lt_of_getElem? hy
 rw [← h, List.getElem?_take_of_lt (by omega), List.getElem?_drop] at hy
 rw [← hy]
 congr 1
 omega
theorem qm1 {sz : Nat} {T : TypeId} {o ver cap : Nat} {xs pad : List AV} (hl : (flat xs ++ pad).length = cap * sz) (hw : ∀ x ∈ xs, x.cells.length = sz) (hle : xs.length ≤ cap) (hcm : cap ≤ maxLen) {i j : Nat} {x x' y : AV} (hi : xs[i]? = some x) (hj : j < sz) (hx' : x'.cells = x.cells.set j y) :
  Vec sz T o (xs.set i x') (.os o ver 0 xs.length cap) (.cells ver T (wi (flat xs ++ pad) (0 + i * sz + j) [y])) := by
 have hx := hw x (List.mem_of_getElem? hi)
 have hlt := lt_of_getElem? hi
 have hm : (i + 1) * sz ≤ cap * sz := Nat.mul_le_mul_right _ (by omega)
 rw [Nat.add_mul, Nat.one_mul] at hm
 have h := qp7 (pad := pad) hw hi
 rw [qm4 (cs := x.cells) (by rw [hx, Nat.zero_add]; exact h) (by omega) (by rw [hl, hx]; omega), ← hx']
 exact qp4 hl hw hle hcm (by rw [hx']; simpa using hx) hlt
theorem jo {st X : List AObj} {ob : AObj} (h : ∀ k, k < st.length → X[k]? = st[k]?) (ho : X[st.length + 0]? = some ob) : ∃ ext, X = (st ++ [ob]) ++ ext := by
 have hl := lt_of_getElem? ho
 refine qcb (by simp; omega) fun k hk => ?_
 by_cases e : k < st.length
 ·rw [h k e, List.getElem?_append_left e]
 ·have : k = st.length + 0 := by simp at hk; omega
  subst this
  rw [ho]
  simp
end Go.Av
namespace Go.Pl
open Go Go.Proofs Go.Proofs.YtefmcijohgpfhaaGreatDoor
theorem qr5 : ∀ (n : Nat) (l : qk) (k a : Nat), l.length ≤ n → ∀ x ∈ va k a l, x.text.length ≤ l.length
 | n, l, k, a, hn, x, hx => by
  by_cases h : l = []
  ·subst h; rw [ye] at hx; simp at hx
  ·have hlt := xv (c := 10) h
   cases n with
   | zero => omega
   | succ n =>
    rw [yf h] at hx
    rcases List.mem_cons.1 hx with rfl | hx
    ·exact wv 10 l
    ·have := qr5 n (past 10 l) (k + 1) (a + (upto 10 l).length + 1) (by omega) x hx
     omega
theorem qts {out : List z8} {e : z8} {f : Fld} (h : out[out.length - 1]? = some e) : addF out f = out.set (out.length - 1) ⟨e.kind, e.id, e.fields ++ [f]⟩ := by
 have hl : out.getLast? = some e := by rw [List.getLast?_eq_getElem?]; exact h
 have hne : out ≠ [] := fun e0 => by subst e0; simp at hl
 unfold addF
 rw [hl]
 have hd := qpc hl
 simp only
 generalize hq : out.dropLast = q at hd
 subst hd
 simp
theorem qov (out : List z8) (f : Fld) : (addF out f).length = out.length := by
 unfold addF
 cases h : out.getLast? with
 | none => rfl
 | some x =>
  have hne : out ≠ [] := fun e0 => by subst e0; simp at h
  have := List.length_pos_iff.2 hne
  simp
  omega
def qu1 (l : qk) (r : List qk) (o : List z8) (h : List qk) : Option (List z8) :=
 if [32, 32] <+: l then if o = [] then none else vk r o (h ++ [l.drop 2])
 else match begR l with
  | none => none
  | some (k, n) => if 40 ≤ o.length then none else vk r (o ++ [⟨k, n, []⟩]) h
def wr (held : List qk) : List qk → Bool
 | [] => decide (held ≠ [])
 | l :: _ => decide (held ≠ [] ∧ ¬ [32, 32, 32] <+: l)
def qd6 (R : List qk) (out : List z8) (held : List qk) (o : List z8) (h : List qk) : Prop :=
 if wr held R = true then xo out held = some o ∧ h = [] else o = out ∧ h = held
theorem qtl {out o : List z8} {held h : List qk} (e : qd6 [] out held o h) : vk [] out held = some o := by
 unfold qd6 at e
 rw [vk]
 by_cases h0 : held = []
 ·rw [if_neg (by simp [wr, h0])] at e
  unfold xo
  rw [if_pos h0, e.1]
 ·rw [if_pos (by simp [wr, h0])] at e
  exact e.1
theorem qre {l : qk} {r : List qk} {out o : List z8} {held h : List qk} (e : qd6 (l :: r) out held o h) : vk (l :: r) out held = qu1 l r o h ∧ (h = [] ∨ [32, 32, 32] <+: l) := by
 unfold qd6 at e
 rw [vk]
 by_cases hc : held ≠ [] ∧ ¬ [32, 32, 32] <+: l
 ·rw [if_pos (by simp [wr, hc.1, hc.2])] at e
  rw [if_pos hc, e.1, e.2]
  exact ⟨rfl, .inl rfl⟩
 ·rw [if_neg (by simpa [wr] using hc)] at e
  rw [if_neg hc, e.1, e.2]
  refine ⟨rfl, ?_⟩
  by_cases h0 : held = []
  ·exact .inl h0
  ·exact .inr (Classical.byContradiction fun h => hc ⟨h0, h⟩)
theorem qn9 {R : List qk} {out : List z8} {held : List qk} (h : wr held R = true) (hu : (jq held).2 ≠ 0) : vk R out held = none := by
 cases R with
 | nil =>
  have h0 : held ≠ [] := of_decide_eq_true h
  rw [vk]
  unfold xo
  rw [if_neg h0, if_neg hu]
 | cons l q =>
  obtain ⟨h0, hl⟩ : held ≠ [] ∧ ¬ [32, 32, 32] <+: l := of_decide_eq_true h
  have hf : xo out held = none := by unfold xo; rw [if_neg h0, if_neg hu]
  rw [vk, if_pos ⟨h0, hl⟩, hf]
  rfl
theorem qoi {R held : List qk} (h : wr held R = true) : held ≠ [] := by
 cases R with
 | nil => exact of_decide_eq_true h
 | cons l q => exact (of_decide_eq_true (show decide (held ≠ [] ∧ ¬ [32, 32, 32] <+: l) = true from h)).1
theorem qt9 {out : List z8} {held : List qk} (h0 : held ≠ []) (hu : (jq held).2 = 0) : xo out held = some (addF out (jq held).1) := by
 unfold xo
 rw [if_neg h0, if_pos hu]
def qce (l : qk) : Nat → Option (Int × Int)
 | 0 => none
 | j + 1 => tryR l (qce l j) ((j : Int) + 1)
theorem qil (l : qk) : qce l 3 = begR l := rfl
theorem qfs (l : qk) : ∀ (j : Nat) {k n : Int}, qce l j = some (k, n) → 1 ≤ k ∧ k ≤ j
 | 0, _, _, h => by simp [qce] at h
 | j + 1, k, n, h => by
  rw [qce] at h
  unfold tryR at h
  split at h
  ·split at h
   ·simp only [Option.some.injEq, Prod.mk.injEq] at h
    omega
   ·have := qfs l j h
    omega
  ·have := qfs l j h
   omega
end Go.Pl
namespace Go.Proofs.YtefmcijohgpfhaaGreatDoor
open Go Go.Av Go.RowKit Go.Proofs Go.Pl
def edC (e : Option (Int × Int)) : List AV := match e with
 | none => [Iv 0, Iv 0, jm]
 | some (k, n) => [Iv k, Iv n, jm]
theorem qud {b o : Nat} {st : List AObj} {sz : Nat} {T : TypeId} {xs : List AV} {c : AV} {x : AObj} (ho : o < b) (h : TipO b st sz T xs c) : TipO b (st.set o x) sz T xs c := by
 rcases h with h | h
 ·exact .inl (kv ho h)
 ·exact .inr h
theorem qnx {t : Nat → AV} {L : List (Nat × AV)} {st loc ext S : List AObj} (h : HasL t L) (e : S = (st ++ loc) ++ ext) : StE L st loc ⟨t, S, []⟩ := ⟨t, ext, by rw [qaa h, e]; simp⟩
theorem qnn (x : Option (List z8)) : Pure (qkk x) := by
 rcases x with _ | b
 ·exact yl (qct _) (jn _)
 ·exact yl (qct _) (jn _)
set_option maxHeartbeats 4000000 in
theorem qpf (text : qk) (st : List AObj) (hl : text.length < 1000000) : zr E 12 [Sv text] st fun r st' => r = qkk (decF text) ∧ st' = st := by
 refine z4 (qnn _) (zp Tryz.func12 rfl (Nat.le_of_ble_eq_true rfl) ?_)
 rw [← qrz]
 by_cases hbig : 50000 < text.length
 ·have hd : qck text = none := if_pos hbig
  rw [hd]
  repeat' (first
   | apply qr
   | apply qe
   | apply qa
   | apply qn
   | apply qf
   | (apply qt; (iterate 3 exact rfl))
   | (apply qg; exact rfl; first | (apply zd; (first | assumption | omega)) | (apply zf; (first | assumption | omega)) | (apply ze; (first | exact rfl | assumption)) | (apply zg; (first | exact rfl | assumption)) | (apply cd_n <;> intro h) | (apply cd_t; (first | exact rfl | assumption)) | (apply cd_f; (first | exact rfl | assumption)) | (apply cd_d <;> intro h) | (apply cd_s <;> intro h))
   | (apply j4; (iterate 3 exact rfl))
   | apply q9)
  exact qs rfl (kq (ju rfl) (vj (vd 3) (kp (Bv false)))) ⟨rfl, _, rfl⟩
 have hdf : qck text = match vk ((lns text).map fun x => x.text) [] [] with
  | none => none
  | some b => if eErr b = .no ∧ encF b = text then some b else none := if_neg hbig
 rw [List.append_nil]
 refine qqq (i := 0) (sz := 3) (T' := 45) ?_
 have h0 : Vec 3 45 (st.length + 0) (([] : List z8).map kc) jm (.tip 0 3 45) := .nil rfl
 repeat' (first
  | apply qr
  | apply q7
  | apply qe
  | apply qa
  | apply qn
  | apply qf
  | (apply qt; (iterate 3 exact rfl))
  | (apply qg; exact rfl; first | (apply zd; (first | assumption | omega)) | (apply zf; (first | assumption | omega)) | (apply ze; (first | exact rfl | assumption)) | (apply zg; (first | exact rfl | assumption)) | (apply cd_n <;> intro h) | (apply cd_t; (first | exact rfl | assumption)) | (apply cd_f; (first | exact rfl | assumption)) | (apply cd_d <;> intro h) | (apply cd_s <;> intro h))
  | (apply j4; (iterate 3 exact rfl))
  | apply q8
  | (apply qi; exact Tryz.call39; exact qjy _ _ (by omega)))
 have hlm : ((lns text).map lnA).length = (lns text).length := by simp
 have hln : (lns text).length ≤ text.length := qbq _ text 0 0 (Nat.le_refl _)
 refine vy (fun (k : Nat) s => ∃ out held v ob c, Vec 3 45 (st.length + 0) (out.map kc) v ob ∧ OutG out k ∧ out.length ≤ 40 ∧ held.length ≤ k ∧ k ≤ (lns text).length + 1 ∧
   ((k ≤ (lns text).length ∧ vk (((lns text).map fun x => x.text).drop k) out held = vk ((lns text).map fun x => x.text) [] []) ∨ (k = (lns text).length + 1 ∧ vk ((lns text).map fun x => x.text) [] [] = some out)) ∧
   StE [(0, Sv text), (4, v), (5, c), (6, lnsA (lns text)), (7, Iv k)] st [ob] s ∧ TipO (st.length + 1) s.st 1 9 (held.map fun x => Sv x) c ∧ (held ≠ [] → out ≠ []) ∧ (∀ s ∈ held, s.length < 1000000)) (fun k => (lns text).length + 1 - k) 0 ⟨[], [], _, _, _, h0, by intro x hx; simp at hx, by simp, by simp, by omega, .inl ⟨by omega, rfl⟩, we ⟨rfl, rfl, rfl, rfl, rfl, trivial⟩ rfl, qd2 .., by simp, by simp⟩ ?_
 rintro k _ ⟨out, held, v, ob, c, hV, hG, h40, hh, hk, hc, ⟨t, ext, rfl⟩, hT, hne, hhb⟩
 rcases hc with ⟨hk, hR⟩ | ⟨rfl, hR⟩
 ·obtain ⟨S, hS⟩ : ∃ S, S = ((st ++ [ob]) ++ ext) ++ [] := ⟨_, rfl⟩
  have hob : S[st.length + 0]? = some ob := by rw [hS]; exact xw rfl
  have hSl := lt_of_getElem? hob
  have hform : S = (st ++ [ob]) ++ ext := by rw [hS]; simp
  have hlow : ∀ j, j < st.length → S[j]? = st[j]? := fun j hj => by
   rw [hform, List.getElem?_append_left (by simp; omega), List.getElem?_append_left hj]
  replace hT : TipO (st.length + 1) S 1 9 (held.map fun x => Sv x) c := by rw [hS]; exact hT
  refine wf [(0, Sv text), (4, v), (5, c), (6, lnsA (lns text)), (7, Iv k)] (S ++ []) [] ⟨rfl, rfl, rfl, rfl, rfl, trivial⟩ (hS.symm.trans (List.append_nil S).symm) rfl fun t => ?_
  clear hS
  have hcl : lenA c = some held.length := by have := qjc hT; simpa using this
  have hvl : lenA v = some out.length := by have := qpw hV; simpa using this
  obtain ⟨Rs, hRs⟩ : ∃ Rs, Rs = ((lns text).map fun x => x.text).drop k := ⟨_, rfl⟩
  rw [← hRs] at hR
  have hnone : vk Rs out held = none → qck text = none := fun h => by
   rw [hdf, ← hR, h]
  have hkR : k = (lns text).length → Rs = [] := fun e => by rw [hRs, e]; simp
  have hkL : ∀ x, (lns text)[k]? = some x → Rs = x.text :: ((lns text).map fun x => x.text).drop (k + 1) := fun x hx => by
   have hlt := lt_of_getElem? hx
   rw [hRs, List.drop_eq_getElem_cons (by simpa using hlt)]
   congr 1
   have := List.getElem?_eq_some_iff.1 hx
   obtain ⟨_, h⟩ := this
   simp [h]
  repeat' (first
   | apply qr
   | apply q7
   | apply qe
   | apply qa
   | apply qn
   | (apply qt; (iterate 3 exact rfl))
   | (apply qg; exact rfl; first | (apply zd; (first | assumption | omega)) | (apply zf; (first | assumption | omega)) | (apply ze; (first | exact rfl | assumption)) | (apply zg; (first | exact rfl | assumption)) | (apply cd_n <;> intro h) | (apply cd_t; (first | exact rfl | assumption)) | (apply cd_f; (first | exact rfl | assumption)) | (apply cd_d <;> intro h) | (apply cd_s <;> intro h))
   | (apply zo; (iterate 4 exact rfl))
   | apply q8)
  refine qt8 (StA [(0, Sv text), (4, v), (5, c), (6, lnsA (lns text)), (7, Iv k), (47, Bv (wr held Rs))] (S ++ []) []) ?_ ?_
  ·by_cases h0 : held = []
   ·have hff : wr held Rs = false := by cases Rs <;> simp [wr, h0]
    have hz : held.length = 0 := by rw [h0]; rfl
    rw [hff]
    repeat' (first
     | apply qa
     | apply qn
     | (apply qt; (iterate 3 exact rfl))
     | (apply zh; (iterate 4 exact rfl))
     | (apply yz; (first | assumption | omega))
     | (apply wt; (iterate 4 exact rfl))
     | (apply zk; exact rfl; first | (apply jx; (first | assumption | omega)) | (apply jw; (first | assumption | omega)) | (apply jy; (first | exact rfl | assumption)) | (apply jv; (first | exact rfl | assumption)) | (apply pk_t; (first | exact rfl | assumption)) | (apply pk_f; (first | exact rfl | assumption)))
     | (apply zo; exact rfl; exact hcl; exact rfl; exact rfl))
    exact vl ⟨rfl, rfl, rfl, rfl, rfl, rfl, trivial⟩
   ·have hz : 0 < held.length := List.length_pos_iff.2 h0
    by_cases hkn : k = (lns text).length
    ·have hff : wr held Rs = true := by simp [wr, h0, hkR hkn]
     rw [hff]
     repeat' (first
      | apply qa
      | apply qn
      | (apply qt; (iterate 3 exact rfl))
      | (apply zh; (iterate 4 exact rfl))
      | (apply xc; (first | assumption | omega))
      | (apply vo; (first | assumption | omega))
      | (apply zk; exact rfl; first | (apply jx; (first | assumption | omega)) | (apply jw; (first | assumption | omega)) | (apply jy; (first | exact rfl | assumption)) | (apply jv; (first | exact rfl | assumption)) | (apply pk_t; (first | exact rfl | assumption)) | (apply pk_f; (first | exact rfl | assumption)))
      | (apply zo; (iterate 4 exact rfl))
      | (apply zo; exact rfl; exact hcl; exact rfl; exact rfl))
     exact vl ⟨rfl, rfl, rfl, rfl, rfl, rfl, trivial⟩
    ·obtain ⟨x, hx⟩ : ∃ x, (lns text)[k]? = some x := ⟨_, List.getElem?_eq_getElem (by omega)⟩
     have hget : ((lns text).map lnA)[k]? = some (lnA x) := by simp [hx]
     have hff : wr held Rs = !decide ([32, 32, 32] <+: x.text) := by
      rw [hkL x hx]
      by_cases hp : [32, 32, 32] <+: x.text <;> simp [wr, h0, hp]
     rw [hff]
     by_cases hp : [32, 32, 32] <+: x.text
     all_goals
      repeat' (first
       | apply qa
       | apply qn
       | (apply qt; (iterate 3 exact rfl))
       | (apply kd; exact rfl)
       | (apply zh; (iterate 4 exact rfl))
       | (apply xc; (first | assumption | omega))
       | (apply ko; (first | assumption | omega))
       | (apply zk; exact rfl; first | (apply jx; (first | assumption | omega)) | (apply jw; (first | assumption | omega)) | (apply jy; (first | exact rfl | assumption)) | (apply jv; (first | exact rfl | assumption)) | (apply pk_t; (first | exact rfl | assumption)) | (apply pk_f; (first | exact rfl | assumption)))
       | (apply zo; (iterate 4 exact rfl))
       | (apply vt; (iterate 4 exact rfl))
       | (apply qv; (iterate 3 exact rfl))
       | (apply zo; exact rfl; exact hcl; exact rfl; exact rfl)
       | (apply zy (n := k); (iterate 5 exact rfl); exact hget)
       | (apply qi; exact Tryz.call40; exact y5 _ _ _))
      exact vl ⟨rfl, rfl, rfl, rfl, rfl, rfl, trivial⟩
  ·rintro _ ⟨t, rfl⟩
   show AWp _ _ _ _ _ _
   refine quu (fun s' => ∃ o h v' ob' c' S', StA [(0, Sv text), (4, v'), (5, c'), (6, lnsA (lns text)), (7, Iv k)] (S' ++ []) [] s' ∧ (∃ ext', S' = (st ++ [ob']) ++ ext') ∧ Vec 3 45 (st.length + 0) (o.map kc) v' ob' ∧ TipO (st.length + 1) S' 1 9 (h.map fun x => Sv x) c' ∧
    OutG o (k + 1) ∧ o.length ≤ 40 ∧ h.length ≤ k ∧ (h ≠ [] → o ≠ []) ∧ (∀ s ∈ h, s.length < 1000000) ∧ qd6 Rs out held o h) ?_ ?_
   ·cases hfl : wr held Rs with
    | false =>
     repeat' (first
      | (apply qg; exact rfl; first | (apply zd; (first | assumption | omega)) | (apply zf; (first | assumption | omega)) | (apply ze; (first | exact rfl | assumption)) | (apply zg; (first | exact rfl | assumption)) | (apply cd_n <;> intro h) | (apply cd_t; (first | exact rfl | assumption)) | (apply cd_f; (first | exact rfl | assumption)) | (apply cd_d <;> intro h) | (apply cd_s <;> intro h))
      | apply q8)
     exact ⟨out, held, v, ob, c, S, vl ⟨rfl, rfl, rfl, rfl, rfl, trivial⟩, ⟨ext, hform⟩, hV, hT, hG.mono (by omega), h40, hh, hne, hhb, by unfold qd6; rw [if_neg (by simp [hfl])]; exact ⟨rfl, rfl⟩⟩
    | true =>
     have h0 : held ≠ [] := qoi hfl
     have ho := hne h0
     have hop : 0 < out.length := List.length_pos_iff.2 ho
     have hun := fun st => qpg held st ⟨by omega, hhb⟩
     by_cases hu : (jq held).2 = 0
     ·have hgf := qe8 hu
      have hun2 : ∀ st, zr E 41 [Ss held] st fun r st' => r = .tu [fldA (jq held).1, Iv 0] ∧ st' = st := fun st => by
       have := hun st
       unfold xj at this
       rw [hu] at this
       exact this
      have hfo := qt9 (out := out) h0 hu
      generalize (jq held).1 = f at hgf hun2 hfo
      obtain ⟨fk, fv⟩ := f
      repeat' (first
       | (refine zi 49 (x := c) (r := Ss held) rfl (je hT) ?_)
       | apply qr
       | apply qe
       | apply qa
       | apply qn
       | apply qf
       | (apply z1; exact rfl; exact rfl)
       | (apply qt; (iterate 3 exact rfl))
       | (apply qg; exact rfl; first | (apply zd; (first | assumption | omega)) | (apply zf; (first | assumption | omega)) | (apply ze; (first | exact rfl | assumption)) | (apply zg; (first | exact rfl | assumption)) | (apply cd_n <;> intro h) | (apply cd_t; (first | exact rfl | assumption)) | (apply cd_f; (first | exact rfl | assumption)) | (apply cd_d <;> intro h) | (apply cd_s <;> intro h))
       | (apply w7; exact rfl; exact rfl; exact z2 (by omega) (by omega))
       | (apply jh; exact rfl; exact rfl)
       | (apply q6; (iterate 11 exact rfl))
       | apply q8
       | (apply qi; exact Tryz.call41; exact hun2 _)
       | (apply zo; exact rfl; exact hvl; exact rfl; exact rfl))
      have hml : (out.map kc).length = out.length := by simp
      cases hV with
      | nil hx => exact absurd (by simpa using hx) ho
      | os ver cap pad hVl hVw hVle hVcm =>
      obtain ⟨n, hn⟩ : ∃ n, n = out.length - 1 := ⟨_, rfl⟩
      obtain ⟨e, he⟩ : ∃ e, out[n]? = some e := ⟨_, List.getElem?_eq_getElem (by omega)⟩
      have heA : (out.map kc)[n]? = some (kc e) := by simp [he]
      have heG := hG e (List.mem_of_getElem? he)
      have hfd := qrv (pad := pad) hVw heA (j := 2) (y := jd e.fields) rfl
      have hvs := fun (y : List Fld) => qm1 (T := 45) (o := st.length + 0) (ver := ver) hVl hVw hVle hVcm heA (j := 2) (x' := kc ⟨e.kind, e.id, y⟩) (y := jd y) (by decide) rfl
      have hfit : Nat.ble (0 + n * 3 + 2 + 1) (flat (out.map kc) ++ pad).length = true := by
       have := lt_of_getElem? hfd
       exact Nat.ble_eq_true_of_le this
      have hadd : ∀ g, (addF out g).map kc = (out.map kc).set n (kc ⟨e.kind, e.id, e.fields ++ [g]⟩) := fun g => by
       rw [qts (by rw [← hn]; exact he), ← hn, List.map_set]
      refine wf [(0, Sv text), (4, .os (st.length + 0) ver 0 (out.map kc).length cap), (6, lnsA (lns text)), (7, Iv k), (8, .bx (S.length + 0) 0 0), (10, Iv ((out.length : Int) - 1))] (S ++ [.cells 0 69 [Sv fk, Sv fv]]) [] ⟨rfl, rfl, rfl, rfl, rfl, rfl, trivial⟩ rfl rfl fun t => ?_
      obtain ⟨S1, hS1⟩ : ∃ S1, S1 = S ++ [AObj.cells 0 69 [Sv fk, Sv fv]] := ⟨_, rfl⟩
      have hob1 : S1[st.length + 0]? = some (.cells ver 45 (flat (out.map kc) ++ pad)) := by rw [hS1]; exact z6 hob
      have hbx1 : S1[S.length + 0]? = some (.cells 0 69 [Sv fk, Sv fv]) := by rw [hS1]; exact zw rfl
      have hlow1 : ∀ j, j < st.length → S1[j]? = st[j]? := fun j hj => by rw [hS1, List.getElem?_append_left (by omega)]; exact hlow j hj
      have hl1 := lt_of_getElem? hbx1
      rw [← hS1]
      clear hS1
      have hob2 := z6 (l := [AObj.cells 0 69 []]) hob1
      have hbx2 := z6 (l := [AObj.cells 0 69 []]) hbx1
      have hlow2 : ∀ j, j < st.length → (S1 ++ [AObj.cells 0 69 []])[j]? = st[j]? := fun j hj => by rw [List.getElem?_append_left (by omega)]; exact hlow1 j hj
      have hl2 : (S1 ++ [AObj.cells 0 69 []]).length = S1.length + 1 := by simp
      refine qat (fun s => s.df = [] ∧ HasL s.t [(0, Sv text), (4, .os (st.length + 0) ver 0 (out.map kc).length cap), (6, lnsA (lns text)), (7, Iv k)] ∧ ∃ ob', Vec 3 45 (st.length + 0) ((addF out (fk, fv)).map kc) (.os (st.length + 0) ver 0 (out.map kc).length cap) ob' ∧ ∃ ext', s.st = (st ++ [ob']) ++ ext') ?_ ?_
      ·refine x8 rfl rfl ?_
       (apply qo 0; exact rfl; kernel_rfl; kernel_rfl; kernel_rfl; exact rfl; exact vv)
       (apply qo 1; exact rfl; kernel_rfl; kernel_rfl; kernel_rfl; exact rfl; exact vv)
       (apply qo 3; exact rfl; kernel_rfl; kernel_rfl; kernel_rfl; exact rfl; exact vv)
       (apply qo 4; exact rfl; kernel_rfl; kernel_rfl; kernel_rfl; exact rfl; exact vv)
       refine qc [2, 5, 9] (by kernel_rfl) rfl ⟨⟨_, rfl, ?_⟩, ⟨_, rfl, ?_⟩, ⟨_, rfl, ?_⟩, trivial⟩
       ·(apply j5 (st := S1) (len := 0); (iterate 6 exact rfl))
        apply qa
        refine qc [5, 9] (by kernel_rfl) rfl ⟨⟨_, rfl, ?_⟩, ⟨_, rfl, ?_⟩, trivial⟩
        ·(apply zl (n := n); (iterate 4 exact rfl); omega; omega)
         apply qa
         (apply qo 6; exact rfl; kernel_rfl; kernel_rfl; kernel_rfl; exact rfl; (first | (apply qq; (iterate 3 exact rfl)) | (apply qp; (iterate 4 exact rfl))))
         refine qc [7, 9] (by kernel_rfl) rfl ⟨⟨_, rfl, ?_⟩, ⟨_, rfl, ?_⟩, trivial⟩
         ·(first | (apply qb; exact rfl; exact hob1; exact rfl; exact hfd) | (apply qb; exact rfl; exact hob2; exact rfl; exact hfd))
          apply qa
          refine qc [8, 9] (by kernel_rfl) rfl ⟨⟨_, rfl, ?_⟩, ⟨_, rfl, ?_⟩, trivial⟩
          ·(apply ql (b := st.length + 1) (st := S1 ++ [AObj.cells 0 69 []]) (sz := 2) (xs := []) (ys := e.fields.map fldA) (bytes := 32); (iterate 5 exact rfl); exact ⟨⟨_, _, rfl, rfl, rfl, rfl, rfl⟩⟩; exact j8 _ _ _ _ _ _ _; omega; exact qy fun _ => rfl; (simp [maxLen]; omega); (simp; omega); intro c3 st3 t3 g1 g2 g3 g4; have ht3 := g4.resolve_left nofun; have hob3 := (g2.same (st.length + 0) (by omega) (by omega)).trans hob2; have hbx3 := (g2.same (S.length + 0) (by omega) (by omega)).trans hbx2; have hlow3 := fun j hj => (g2.same j (by omega) (by omega)).trans (hlow2 j hj); have hl3 := g2.len)
           apply qa
           refine qc [9] (by kernel_rfl) rfl ⟨⟨_, rfl, ?_⟩, trivial⟩
           (first | (apply qb; exact rfl; exact hbx1; exact rfl; exact rfl) | (apply qb; exact rfl; exact hbx2; exact rfl; exact rfl) | (apply qb; exact rfl; exact hbx3; exact rfl; exact rfl))
           apply qa
           refine qc [10] (by kernel_rfl) rfl ⟨⟨_, rfl, ?_⟩, trivial⟩
           (apply qj; (iterate 9 exact rfl))
           apply qa
           refine qc [11] (by kernel_rfl) rfl ⟨⟨_, rfl, ?_⟩, trivial⟩
           (apply ql (b := st.length + 1) (st := st3) (sz := 2) (xs := e.fields.map fldA) (ys := [fldA (fk, fv)]) (bytes := 32); (iterate 5 exact rfl); exact ⟨⟨_, _, rfl, rfl, rfl, rfl, rfl⟩⟩; exact g1; omega; exact rfl; (simp [maxLen]; omega); (simp; omega); intro c4 st4 t4 k1 k2 k3 k4; have hob4 := (k2.same (st.length + 0) (by omega) (by omega)).trans hob3; have hlow4 := fun j hj => (k2.same j (by omega) (by omega)).trans (hlow3 j hj); have k1' : TipO (st.length + 1) st4 2 69 ((e.fields ++ [(fk, fv)]).map fldA) c4 := by simpa using k1)
           apply qa
           refine qc [12] (by kernel_rfl) rfl ⟨⟨_, rfl, ?_⟩, trivial⟩
           (apply zl (n := n); (iterate 4 exact rfl); omega; omega)
           apply qa
           (apply qo 13; exact rfl; kernel_rfl; kernel_rfl; kernel_rfl; exact rfl; (first | (apply qq; (iterate 3 exact rfl)) | (apply qp; (iterate 4 exact rfl))))
           refine qc [14] (by kernel_rfl) rfl ⟨⟨_, rfl, ?_⟩, trivial⟩
           (refine zi 69 (x := c4) (r := jd (e.fields ++ [(fk, fv)])) rfl (je k1') ?_; apply qm; exact rfl; exact rfl; exact hob4; (iterate 5 exact rfl); exact hfit)
           apply qa
           refine zj (by kernel_rfl) ?_
           exact ⟨rfl, ⟨rfl, rfl, rfl, rfl, trivial⟩, _, by rw [hadd]; exact hvs _, jo (fun j hj => (zv (by omega)).trans (hlow4 j hj)) (zn hob4)⟩
          ·(first | (apply qb; exact rfl; exact hbx1; exact rfl; exact rfl) | (apply qb; exact rfl; exact hbx2; exact rfl; exact rfl) | (apply qb; exact rfl; exact hbx3; exact rfl; exact rfl))
           apply qa
           refine qc [8, 10] (by kernel_rfl) rfl ⟨⟨_, rfl, ?_⟩, ⟨_, rfl, ?_⟩, trivial⟩
           ·(apply ql (b := st.length + 1) (st := S1 ++ [AObj.cells 0 69 []]) (sz := 2) (xs := []) (ys := e.fields.map fldA) (bytes := 32); (iterate 5 exact rfl); exact ⟨⟨_, _, rfl, rfl, rfl, rfl, rfl⟩⟩; exact j8 _ _ _ _ _ _ _; omega; exact qy fun _ => rfl; (simp [maxLen]; omega); (simp; omega); intro c3 st3 t3 g1 g2 g3 g4; have ht3 := g4.resolve_left nofun; have hob3 := (g2.same (st.length + 0) (by omega) (by omega)).trans hob2; have hbx3 := (g2.same (S.length + 0) (by omega) (by omega)).trans hbx2; have hlow3 := fun j hj => (g2.same j (by omega) (by omega)).trans (hlow2 j hj); have hl3 := g2.len)
            apply qa
            refine qc [10] (by kernel_rfl) rfl ⟨⟨_, rfl, ?_⟩, trivial⟩
            (apply qj; (iterate 9 exact rfl))
            apply qa
            refine qc [11] (by kernel_rfl) rfl ⟨⟨_, rfl, ?_⟩, trivial⟩
            (apply ql (b := st.length + 1) (st := st3) (sz := 2) (xs := e.fields.map fldA) (ys := [fldA (fk, fv)]) (bytes := 32); (iterate 5 exact rfl); exact ⟨⟨_, _, rfl, rfl, rfl, rfl, rfl⟩⟩; exact g1; omega; exact rfl; (simp [maxLen]; omega); (simp; omega); intro c4 st4 t4 k1 k2 k3 k4; have hob4 := (k2.same (st.length + 0) (by omega) (by omega)).trans hob3; have hlow4 := fun j hj => (k2.same j (by omega) (by omega)).trans (hlow3 j hj); have k1' : TipO (st.length + 1) st4 2 69 ((e.fields ++ [(fk, fv)]).map fldA) c4 := by simpa using k1)
            apply qa
            refine qc [12] (by kernel_rfl) rfl ⟨⟨_, rfl, ?_⟩, trivial⟩
            (apply zl (n := n); (iterate 4 exact rfl); omega; omega)
            apply qa
            (apply qo 13; exact rfl; kernel_rfl; kernel_rfl; kernel_rfl; exact rfl; (first | (apply qq; (iterate 3 exact rfl)) | (apply qp; (iterate 4 exact rfl))))
            refine qc [14] (by kernel_rfl) rfl ⟨⟨_, rfl, ?_⟩, trivial⟩
            (refine zi 69 (x := c4) (r := jd (e.fields ++ [(fk, fv)])) rfl (je k1') ?_; apply qm; exact rfl; exact rfl; exact hob4; (iterate 5 exact rfl); exact hfit)
            apply qa
            refine zj (by kernel_rfl) ?_
            exact ⟨rfl, ⟨rfl, rfl, rfl, rfl, trivial⟩, _, by rw [hadd]; exact hvs _, jo (fun j hj => (zv (by omega)).trans (hlow4 j hj)) (zn hob4)⟩
           ·(apply qj; (iterate 9 exact rfl))
            apply qa
            refine qc [8] (by kernel_rfl) rfl ⟨⟨_, rfl, ?_⟩, trivial⟩
            (apply ql (b := st.length + 1) (st := S1 ++ [AObj.cells 0 69 []]) (sz := 2) (xs := []) (ys := e.fields.map fldA) (bytes := 32); (iterate 5 exact rfl); exact ⟨⟨_, _, rfl, rfl, rfl, rfl, rfl⟩⟩; exact j8 _ _ _ _ _ _ _; omega; exact qy fun _ => rfl; (simp [maxLen]; omega); (simp; omega); intro c3 st3 t3 g1 g2 g3 g4; have ht3 := g4.resolve_left nofun; have hob3 := (g2.same (st.length + 0) (by omega) (by omega)).trans hob2; have hbx3 := (g2.same (S.length + 0) (by omega) (by omega)).trans hbx2; have hlow3 := fun j hj => (g2.same j (by omega) (by omega)).trans (hlow2 j hj); have hl3 := g2.len)
            apply qa
            refine qc [11] (by kernel_rfl) rfl ⟨⟨_, rfl, ?_⟩, trivial⟩
            (apply ql (b := st.length + 1) (st := st3) (sz := 2) (xs := e.fields.map fldA) (ys := [fldA (fk, fv)]) (bytes := 32); (iterate 5 exact rfl); exact ⟨⟨_, _, rfl, rfl, rfl, rfl, rfl⟩⟩; exact g1; omega; exact rfl; (simp [maxLen]; omega); (simp; omega); intro c4 st4 t4 k1 k2 k3 k4; have hob4 := (k2.same (st.length + 0) (by omega) (by omega)).trans hob3; have hlow4 := fun j hj => (k2.same j (by omega) (by omega)).trans (hlow3 j hj); have k1' : TipO (st.length + 1) st4 2 69 ((e.fields ++ [(fk, fv)]).map fldA) c4 := by simpa using k1)
            apply qa
            refine qc [12] (by kernel_rfl) rfl ⟨⟨_, rfl, ?_⟩, trivial⟩
            (apply zl (n := n); (iterate 4 exact rfl); omega; omega)
            apply qa
            (apply qo 13; exact rfl; kernel_rfl; kernel_rfl; kernel_rfl; exact rfl; (first | (apply qq; (iterate 3 exact rfl)) | (apply qp; (iterate 4 exact rfl))))
            refine qc [14] (by kernel_rfl) rfl ⟨⟨_, rfl, ?_⟩, trivial⟩
            (refine zi 69 (x := c4) (r := jd (e.fields ++ [(fk, fv)])) rfl (je k1') ?_; apply qm; exact rfl; exact rfl; exact hob4; (iterate 5 exact rfl); exact hfit)
            apply qa
            refine zj (by kernel_rfl) ?_
            exact ⟨rfl, ⟨rfl, rfl, rfl, rfl, trivial⟩, _, by rw [hadd]; exact hvs _, jo (fun j hj => (zv (by omega)).trans (hlow4 j hj)) (zn hob4)⟩
         ·(first | (apply qb; exact rfl; exact hbx1; exact rfl; exact rfl) | (apply qb; exact rfl; exact hbx2; exact rfl; exact rfl) | (apply qb; exact rfl; exact hbx3; exact rfl; exact rfl))
          apply qa
          refine qc [7, 10] (by kernel_rfl) rfl ⟨⟨_, rfl, ?_⟩, ⟨_, rfl, ?_⟩, trivial⟩
          ·(first | (apply qb; exact rfl; exact hob1; exact rfl; exact hfd) | (apply qb; exact rfl; exact hob2; exact rfl; exact hfd))
           apply qa
           refine qc [8, 10] (by kernel_rfl) rfl ⟨⟨_, rfl, ?_⟩, ⟨_, rfl, ?_⟩, trivial⟩
           ·(apply ql (b := st.length + 1) (st := S1 ++ [AObj.cells 0 69 []]) (sz := 2) (xs := []) (ys := e.fields.map fldA) (bytes := 32); (iterate 5 exact rfl); exact ⟨⟨_, _, rfl, rfl, rfl, rfl, rfl⟩⟩; exact j8 _ _ _ _ _ _ _; omega; exact qy fun _ => rfl; (simp [maxLen]; omega); (simp; omega); intro c3 st3 t3 g1 g2 g3 g4; have ht3 := g4.resolve_left nofun; have hob3 := (g2.same (st.length + 0) (by omega) (by omega)).trans hob2; have hbx3 := (g2.same (S.length + 0) (by omega) (by omega)).trans hbx2; have hlow3 := fun j hj => (g2.same j (by omega) (by omega)).trans (hlow2 j hj); have hl3 := g2.len)
            apply qa
            refine qc [10] (by kernel_rfl) rfl ⟨⟨_, rfl, ?_⟩, trivial⟩
            (apply qj; (iterate 9 exact rfl))
            apply qa
            refine qc [11] (by kernel_rfl) rfl ⟨⟨_, rfl, ?_⟩, trivial⟩
            (apply ql (b := st.length + 1) (st := st3) (sz := 2) (xs := e.fields.map fldA) (ys := [fldA (fk, fv)]) (bytes := 32); (iterate 5 exact rfl); exact ⟨⟨_, _, rfl, rfl, rfl, rfl, rfl⟩⟩; exact g1; omega; exact rfl; (simp [maxLen]; omega); (simp; omega); intro c4 st4 t4 k1 k2 k3 k4; have hob4 := (k2.same (st.length + 0) (by omega) (by omega)).trans hob3; have hlow4 := fun j hj => (k2.same j (by omega) (by omega)).trans (hlow3 j hj); have k1' : TipO (st.length + 1) st4 2 69 ((e.fields ++ [(fk, fv)]).map fldA) c4 := by simpa using k1)
            apply qa
            refine qc [12] (by kernel_rfl) rfl ⟨⟨_, rfl, ?_⟩, trivial⟩
            (apply zl (n := n); (iterate 4 exact rfl); omega; omega)
            apply qa
            (apply qo 13; exact rfl; kernel_rfl; kernel_rfl; kernel_rfl; exact rfl; (first | (apply qq; (iterate 3 exact rfl)) | (apply qp; (iterate 4 exact rfl))))
            refine qc [14] (by kernel_rfl) rfl ⟨⟨_, rfl, ?_⟩, trivial⟩
            (refine zi 69 (x := c4) (r := jd (e.fields ++ [(fk, fv)])) rfl (je k1') ?_; apply qm; exact rfl; exact rfl; exact hob4; (iterate 5 exact rfl); exact hfit)
            apply qa
            refine zj (by kernel_rfl) ?_
            exact ⟨rfl, ⟨rfl, rfl, rfl, rfl, trivial⟩, _, by rw [hadd]; exact hvs _, jo (fun j hj => (zv (by omega)).trans (hlow4 j hj)) (zn hob4)⟩
           ·(apply qj; (iterate 9 exact rfl))
            apply qa
            refine qc [8] (by kernel_rfl) rfl ⟨⟨_, rfl, ?_⟩, trivial⟩
            (apply ql (b := st.length + 1) (st := S1 ++ [AObj.cells 0 69 []]) (sz := 2) (xs := []) (ys := e.fields.map fldA) (bytes := 32); (iterate 5 exact rfl); exact ⟨⟨_, _, rfl, rfl, rfl, rfl, rfl⟩⟩; exact j8 _ _ _ _ _ _ _; omega; exact qy fun _ => rfl; (simp [maxLen]; omega); (simp; omega); intro c3 st3 t3 g1 g2 g3 g4; have ht3 := g4.resolve_left nofun; have hob3 := (g2.same (st.length + 0) (by omega) (by omega)).trans hob2; have hbx3 := (g2.same (S.length + 0) (by omega) (by omega)).trans hbx2; have hlow3 := fun j hj => (g2.same j (by omega) (by omega)).trans (hlow2 j hj); have hl3 := g2.len)
            apply qa
            refine qc [11] (by kernel_rfl) rfl ⟨⟨_, rfl, ?_⟩, trivial⟩
            (apply ql (b := st.length + 1) (st := st3) (sz := 2) (xs := e.fields.map fldA) (ys := [fldA (fk, fv)]) (bytes := 32); (iterate 5 exact rfl); exact ⟨⟨_, _, rfl, rfl, rfl, rfl, rfl⟩⟩; exact g1; omega; exact rfl; (simp [maxLen]; omega); (simp; omega); intro c4 st4 t4 k1 k2 k3 k4; have hob4 := (k2.same (st.length + 0) (by omega) (by omega)).trans hob3; have hlow4 := fun j hj => (k2.same j (by omega) (by omega)).trans (hlow3 j hj); have k1' : TipO (st.length + 1) st4 2 69 ((e.fields ++ [(fk, fv)]).map fldA) c4 := by simpa using k1)
            apply qa
            refine qc [12] (by kernel_rfl) rfl ⟨⟨_, rfl, ?_⟩, trivial⟩
            (apply zl (n := n); (iterate 4 exact rfl); omega; omega)
            apply qa
            (apply qo 13; exact rfl; kernel_rfl; kernel_rfl; kernel_rfl; exact rfl; (first | (apply qq; (iterate 3 exact rfl)) | (apply qp; (iterate 4 exact rfl))))
            refine qc [14] (by kernel_rfl) rfl ⟨⟨_, rfl, ?_⟩, trivial⟩
            (refine zi 69 (x := c4) (r := jd (e.fields ++ [(fk, fv)])) rfl (je k1') ?_; apply qm; exact rfl; exact rfl; exact hob4; (iterate 5 exact rfl); exact hfit)
            apply qa
            refine zj (by kernel_rfl) ?_
            exact ⟨rfl, ⟨rfl, rfl, rfl, rfl, trivial⟩, _, by rw [hadd]; exact hvs _, jo (fun j hj => (zv (by omega)).trans (hlow4 j hj)) (zn hob4)⟩
          ·(apply qj; (iterate 9 exact rfl))
           apply qa
           refine qc [7] (by kernel_rfl) rfl ⟨⟨_, rfl, ?_⟩, trivial⟩
           (first | (apply qb; exact rfl; exact hob1; exact rfl; exact hfd) | (apply qb; exact rfl; exact hob2; exact rfl; exact hfd))
           apply qa
           refine qc [8] (by kernel_rfl) rfl ⟨⟨_, rfl, ?_⟩, trivial⟩
           (apply ql (b := st.length + 1) (st := S1 ++ [AObj.cells 0 69 []]) (sz := 2) (xs := []) (ys := e.fields.map fldA) (bytes := 32); (iterate 5 exact rfl); exact ⟨⟨_, _, rfl, rfl, rfl, rfl, rfl⟩⟩; exact j8 _ _ _ _ _ _ _; omega; exact qy fun _ => rfl; (simp [maxLen]; omega); (simp; omega); intro c3 st3 t3 g1 g2 g3 g4; have ht3 := g4.resolve_left nofun; have hob3 := (g2.same (st.length + 0) (by omega) (by omega)).trans hob2; have hbx3 := (g2.same (S.length + 0) (by omega) (by omega)).trans hbx2; have hlow3 := fun j hj => (g2.same j (by omega) (by omega)).trans (hlow2 j hj); have hl3 := g2.len)
           apply qa
           refine qc [11] (by kernel_rfl) rfl ⟨⟨_, rfl, ?_⟩, trivial⟩
           (apply ql (b := st.length + 1) (st := st3) (sz := 2) (xs := e.fields.map fldA) (ys := [fldA (fk, fv)]) (bytes := 32); (iterate 5 exact rfl); exact ⟨⟨_, _, rfl, rfl, rfl, rfl, rfl⟩⟩; exact g1; omega; exact rfl; (simp [maxLen]; omega); (simp; omega); intro c4 st4 t4 k1 k2 k3 k4; have hob4 := (k2.same (st.length + 0) (by omega) (by omega)).trans hob3; have hlow4 := fun j hj => (k2.same j (by omega) (by omega)).trans (hlow3 j hj); have k1' : TipO (st.length + 1) st4 2 69 ((e.fields ++ [(fk, fv)]).map fldA) c4 := by simpa using k1)
           apply qa
           refine qc [12] (by kernel_rfl) rfl ⟨⟨_, rfl, ?_⟩, trivial⟩
           (apply zl (n := n); (iterate 4 exact rfl); omega; omega)
           apply qa
           (apply qo 13; exact rfl; kernel_rfl; kernel_rfl; kernel_rfl; exact rfl; (first | (apply qq; (iterate 3 exact rfl)) | (apply qp; (iterate 4 exact rfl))))
           refine qc [14] (by kernel_rfl) rfl ⟨⟨_, rfl, ?_⟩, trivial⟩
           (refine zi 69 (x := c4) (r := jd (e.fields ++ [(fk, fv)])) rfl (je k1') ?_; apply qm; exact rfl; exact rfl; exact hob4; (iterate 5 exact rfl); exact hfit)
           apply qa
           refine zj (by kernel_rfl) ?_
           exact ⟨rfl, ⟨rfl, rfl, rfl, rfl, trivial⟩, _, by rw [hadd]; exact hvs _, jo (fun j hj => (zv (by omega)).trans (hlow4 j hj)) (zn hob4)⟩
        ·(first | (apply qb; exact rfl; exact hbx1; exact rfl; exact rfl) | (apply qb; exact rfl; exact hbx2; exact rfl; exact rfl) | (apply qb; exact rfl; exact hbx3; exact rfl; exact rfl))
         apply qa
         refine qc [5, 10] (by kernel_rfl) rfl ⟨⟨_, rfl, ?_⟩, ⟨_, rfl, ?_⟩, trivial⟩
         ·(apply zl (n := n); (iterate 4 exact rfl); omega; omega)
          apply qa
          (apply qo 6; exact rfl; kernel_rfl; kernel_rfl; kernel_rfl; exact rfl; (first | (apply qq; (iterate 3 exact rfl)) | (apply qp; (iterate 4 exact rfl))))
          refine qc [7, 10] (by kernel_rfl) rfl ⟨⟨_, rfl, ?_⟩, ⟨_, rfl, ?_⟩, trivial⟩
          ·(first | (apply qb; exact rfl; exact hob1; exact rfl; exact hfd) | (apply qb; exact rfl; exact hob2; exact rfl; exact hfd))
           apply qa
           refine qc [8, 10] (by kernel_rfl) rfl ⟨⟨_, rfl, ?_⟩, ⟨_, rfl, ?_⟩, trivial⟩
           ·(apply ql (b := st.length + 1) (st := S1 ++ [AObj.cells 0 69 []]) (sz := 2) (xs := []) (ys := e.fields.map fldA) (bytes := 32); (iterate 5 exact rfl); exact ⟨⟨_, _, rfl, rfl, rfl, rfl, rfl⟩⟩; exact j8 _ _ _ _ _ _ _; omega; exact qy fun _ => rfl; (simp [maxLen]; omega); (simp; omega); intro c3 st3 t3 g1 g2 g3 g4; have ht3 := g4.resolve_left nofun; have hob3 := (g2.same (st.length + 0) (by omega) (by omega)).trans hob2; have hbx3 := (g2.same (S.length + 0) (by omega) (by omega)).trans hbx2; have hlow3 := fun j hj => (g2.same j (by omega) (by omega)).trans (hlow2 j hj); have hl3 := g2.len)
            apply qa
            refine qc [10] (by kernel_rfl) rfl ⟨⟨_, rfl, ?_⟩, trivial⟩
            (apply qj; (iterate 9 exact rfl))
            apply qa
            refine qc [11] (by kernel_rfl) rfl ⟨⟨_, rfl, ?_⟩, trivial⟩
            (apply ql (b := st.length + 1) (st := st3) (sz := 2) (xs := e.fields.map fldA) (ys := [fldA (fk, fv)]) (bytes := 32); (iterate 5 exact rfl); exact ⟨⟨_, _, rfl, rfl, rfl, rfl, rfl⟩⟩; exact g1; omega; exact rfl; (simp [maxLen]; omega); (simp; omega); intro c4 st4 t4 k1 k2 k3 k4; have hob4 := (k2.same (st.length + 0) (by omega) (by omega)).trans hob3; have hlow4 := fun j hj => (k2.same j (by omega) (by omega)).trans (hlow3 j hj); have k1' : TipO (st.length + 1) st4 2 69 ((e.fields ++ [(fk, fv)]).map fldA) c4 := by simpa using k1)
            apply qa
            refine qc [12] (by kernel_rfl) rfl ⟨⟨_, rfl, ?_⟩, trivial⟩
            (apply zl (n := n); (iterate 4 exact rfl); omega; omega)
            apply qa
            (apply qo 13; exact rfl; kernel_rfl; kernel_rfl; kernel_rfl; exact rfl; (first | (apply qq; (iterate 3 exact rfl)) | (apply qp; (iterate 4 exact rfl))))
            refine qc [14] (by kernel_rfl) rfl ⟨⟨_, rfl, ?_⟩, trivial⟩
            (refine zi 69 (x := c4) (r := jd (e.fields ++ [(fk, fv)])) rfl (je k1') ?_; apply qm; exact rfl; exact rfl; exact hob4; (iterate 5 exact rfl); exact hfit)
            apply qa
            refine zj (by kernel_rfl) ?_
            exact ⟨rfl, ⟨rfl, rfl, rfl, rfl, trivial⟩, _, by rw [hadd]; exact hvs _, jo (fun j hj => (zv (by omega)).trans (hlow4 j hj)) (zn hob4)⟩
           ·(apply qj; (iterate 9 exact rfl))
            apply qa
            refine qc [8] (by kernel_rfl) rfl ⟨⟨_, rfl, ?_⟩, trivial⟩
            (apply ql (b := st.length + 1) (st := S1 ++ [AObj.cells 0 69 []]) (sz := 2) (xs := []) (ys := e.fields.map fldA) (bytes := 32); (iterate 5 exact rfl); exact ⟨⟨_, _, rfl, rfl, rfl, rfl, rfl⟩⟩; exact j8 _ _ _ _ _ _ _; omega; exact qy fun _ => rfl; (simp [maxLen]; omega); (simp; omega); intro c3 st3 t3 g1 g2 g3 g4; have ht3 := g4.resolve_left nofun; have hob3 := (g2.same (st.length + 0) (by omega) (by omega)).trans hob2; have hbx3 := (g2.same (S.length + 0) (by omega) (by omega)).trans hbx2; have hlow3 := fun j hj => (g2.same j (by omega) (by omega)).trans (hlow2 j hj); have hl3 := g2.len)
            apply qa
            refine qc [11] (by kernel_rfl) rfl ⟨⟨_, rfl, ?_⟩, trivial⟩
            (apply ql (b := st.length + 1) (st := st3) (sz := 2) (xs := e.fields.map fldA) (ys := [fldA (fk, fv)]) (bytes := 32); (iterate 5 exact rfl); exact ⟨⟨_, _, rfl, rfl, rfl, rfl, rfl⟩⟩; exact g1; omega; exact rfl; (simp [maxLen]; omega); (simp; omega); intro c4 st4 t4 k1 k2 k3 k4; have hob4 := (k2.same (st.length + 0) (by omega) (by omega)).trans hob3; have hlow4 := fun j hj => (k2.same j (by omega) (by omega)).trans (hlow3 j hj); have k1' : TipO (st.length + 1) st4 2 69 ((e.fields ++ [(fk, fv)]).map fldA) c4 := by simpa using k1)
            apply qa
            refine qc [12] (by kernel_rfl) rfl ⟨⟨_, rfl, ?_⟩, trivial⟩
            (apply zl (n := n); (iterate 4 exact rfl); omega; omega)
            apply qa
            (apply qo 13; exact rfl; kernel_rfl; kernel_rfl; kernel_rfl; exact rfl; (first | (apply qq; (iterate 3 exact rfl)) | (apply qp; (iterate 4 exact rfl))))
            refine qc [14] (by kernel_rfl) rfl ⟨⟨_, rfl, ?_⟩, trivial⟩
            (refine zi 69 (x := c4) (r := jd (e.fields ++ [(fk, fv)])) rfl (je k1') ?_; apply qm; exact rfl; exact rfl; exact hob4; (iterate 5 exact rfl); exact hfit)
            apply qa
            refine zj (by kernel_rfl) ?_
            exact ⟨rfl, ⟨rfl, rfl, rfl, rfl, trivial⟩, _, by rw [hadd]; exact hvs _, jo (fun j hj => (zv (by omega)).trans (hlow4 j hj)) (zn hob4)⟩
          ·(apply qj; (iterate 9 exact rfl))
           apply qa
           refine qc [7] (by kernel_rfl) rfl ⟨⟨_, rfl, ?_⟩, trivial⟩
           (first | (apply qb; exact rfl; exact hob1; exact rfl; exact hfd) | (apply qb; exact rfl; exact hob2; exact rfl; exact hfd))
           apply qa
           refine qc [8] (by kernel_rfl) rfl ⟨⟨_, rfl, ?_⟩, trivial⟩
           (apply ql (b := st.length + 1) (st := S1 ++ [AObj.cells 0 69 []]) (sz := 2) (xs := []) (ys := e.fields.map fldA) (bytes := 32); (iterate 5 exact rfl); exact ⟨⟨_, _, rfl, rfl, rfl, rfl, rfl⟩⟩; exact j8 _ _ _ _ _ _ _; omega; exact qy fun _ => rfl; (simp [maxLen]; omega); (simp; omega); intro c3 st3 t3 g1 g2 g3 g4; have ht3 := g4.resolve_left nofun; have hob3 := (g2.same (st.length + 0) (by omega) (by omega)).trans hob2; have hbx3 := (g2.same (S.length + 0) (by omega) (by omega)).trans hbx2; have hlow3 := fun j hj => (g2.same j (by omega) (by omega)).trans (hlow2 j hj); have hl3 := g2.len)
           apply qa
           refine qc [11] (by kernel_rfl) rfl ⟨⟨_, rfl, ?_⟩, trivial⟩
           (apply ql (b := st.length + 1) (st := st3) (sz := 2) (xs := e.fields.map fldA) (ys := [fldA (fk, fv)]) (bytes := 32); (iterate 5 exact rfl); exact ⟨⟨_, _, rfl, rfl, rfl, rfl, rfl⟩⟩; exact g1; omega; exact rfl; (simp [maxLen]; omega); (simp; omega); intro c4 st4 t4 k1 k2 k3 k4; have hob4 := (k2.same (st.length + 0) (by omega) (by omega)).trans hob3; have hlow4 := fun j hj => (k2.same j (by omega) (by omega)).trans (hlow3 j hj); have k1' : TipO (st.length + 1) st4 2 69 ((e.fields ++ [(fk, fv)]).map fldA) c4 := by simpa using k1)
           apply qa
           refine qc [12] (by kernel_rfl) rfl ⟨⟨_, rfl, ?_⟩, trivial⟩
           (apply zl (n := n); (iterate 4 exact rfl); omega; omega)
           apply qa
           (apply qo 13; exact rfl; kernel_rfl; kernel_rfl; kernel_rfl; exact rfl; (first | (apply qq; (iterate 3 exact rfl)) | (apply qp; (iterate 4 exact rfl))))
           refine qc [14] (by kernel_rfl) rfl ⟨⟨_, rfl, ?_⟩, trivial⟩
           (refine zi 69 (x := c4) (r := jd (e.fields ++ [(fk, fv)])) rfl (je k1') ?_; apply qm; exact rfl; exact rfl; exact hob4; (iterate 5 exact rfl); exact hfit)
           apply qa
           refine zj (by kernel_rfl) ?_
           exact ⟨rfl, ⟨rfl, rfl, rfl, rfl, trivial⟩, _, by rw [hadd]; exact hvs _, jo (fun j hj => (zv (by omega)).trans (hlow4 j hj)) (zn hob4)⟩
         ·(apply qj; (iterate 9 exact rfl))
          apply qa
          refine qc [5] (by kernel_rfl) rfl ⟨⟨_, rfl, ?_⟩, trivial⟩
          (apply zl (n := n); (iterate 4 exact rfl); omega; omega)
          apply qa
          (apply qo 6; exact rfl; kernel_rfl; kernel_rfl; kernel_rfl; exact rfl; (first | (apply qq; (iterate 3 exact rfl)) | (apply qp; (iterate 4 exact rfl))))
          refine qc [7] (by kernel_rfl) rfl ⟨⟨_, rfl, ?_⟩, trivial⟩
          (first | (apply qb; exact rfl; exact hob1; exact rfl; exact hfd) | (apply qb; exact rfl; exact hob2; exact rfl; exact hfd))
          apply qa
          refine qc [8] (by kernel_rfl) rfl ⟨⟨_, rfl, ?_⟩, trivial⟩
          (apply ql (b := st.length + 1) (st := S1 ++ [AObj.cells 0 69 []]) (sz := 2) (xs := []) (ys := e.fields.map fldA) (bytes := 32); (iterate 5 exact rfl); exact ⟨⟨_, _, rfl, rfl, rfl, rfl, rfl⟩⟩; exact j8 _ _ _ _ _ _ _; omega; exact qy fun _ => rfl; (simp [maxLen]; omega); (simp; omega); intro c3 st3 t3 g1 g2 g3 g4; have ht3 := g4.resolve_left nofun; have hob3 := (g2.same (st.length + 0) (by omega) (by omega)).trans hob2; have hbx3 := (g2.same (S.length + 0) (by omega) (by omega)).trans hbx2; have hlow3 := fun j hj => (g2.same j (by omega) (by omega)).trans (hlow2 j hj); have hl3 := g2.len)
          apply qa
          refine qc [11] (by kernel_rfl) rfl ⟨⟨_, rfl, ?_⟩, trivial⟩
          (apply ql (b := st.length + 1) (st := st3) (sz := 2) (xs := e.fields.map fldA) (ys := [fldA (fk, fv)]) (bytes := 32); (iterate 5 exact rfl); exact ⟨⟨_, _, rfl, rfl, rfl, rfl, rfl⟩⟩; exact g1; omega; exact rfl; (simp [maxLen]; omega); (simp; omega); intro c4 st4 t4 k1 k2 k3 k4; have hob4 := (k2.same (st.length + 0) (by omega) (by omega)).trans hob3; have hlow4 := fun j hj => (k2.same j (by omega) (by omega)).trans (hlow3 j hj); have k1' : TipO (st.length + 1) st4 2 69 ((e.fields ++ [(fk, fv)]).map fldA) c4 := by simpa using k1)
          apply qa
          refine qc [12] (by kernel_rfl) rfl ⟨⟨_, rfl, ?_⟩, trivial⟩
          (apply zl (n := n); (iterate 4 exact rfl); omega; omega)
          apply qa
          (apply qo 13; exact rfl; kernel_rfl; kernel_rfl; kernel_rfl; exact rfl; (first | (apply qq; (iterate 3 exact rfl)) | (apply qp; (iterate 4 exact rfl))))
          refine qc [14] (by kernel_rfl) rfl ⟨⟨_, rfl, ?_⟩, trivial⟩
          (refine zi 69 (x := c4) (r := jd (e.fields ++ [(fk, fv)])) rfl (je k1') ?_; apply qm; exact rfl; exact rfl; exact hob4; (iterate 5 exact rfl); exact hfit)
          apply qa
          refine zj (by kernel_rfl) ?_
          exact ⟨rfl, ⟨rfl, rfl, rfl, rfl, trivial⟩, _, by rw [hadd]; exact hvs _, jo (fun j hj => (zv (by omega)).trans (hlow4 j hj)) (zn hob4)⟩
       ·(apply zl (n := n); (iterate 4 exact rfl); omega; omega)
        apply qa
        (apply qo 6; exact rfl; kernel_rfl; kernel_rfl; kernel_rfl; exact rfl; (first | (apply qq; (iterate 3 exact rfl)) | (apply qp; (iterate 4 exact rfl))))
        refine qc [2, 7, 9] (by kernel_rfl) rfl ⟨⟨_, rfl, ?_⟩, ⟨_, rfl, ?_⟩, ⟨_, rfl, ?_⟩, trivial⟩
        ·(apply j5 (st := S1) (len := 0); (iterate 6 exact rfl))
         apply qa
         refine qc [7, 9] (by kernel_rfl) rfl ⟨⟨_, rfl, ?_⟩, ⟨_, rfl, ?_⟩, trivial⟩
         ·(first | (apply qb; exact rfl; exact hob1; exact rfl; exact hfd) | (apply qb; exact rfl; exact hob2; exact rfl; exact hfd))
          apply qa
          refine qc [8, 9] (by kernel_rfl) rfl ⟨⟨_, rfl, ?_⟩, ⟨_, rfl, ?_⟩, trivial⟩
          ·(apply ql (b := st.length + 1) (st := S1 ++ [AObj.cells 0 69 []]) (sz := 2) (xs := []) (ys := e.fields.map fldA) (bytes := 32); (iterate 5 exact rfl); exact ⟨⟨_, _, rfl, rfl, rfl, rfl, rfl⟩⟩; exact j8 _ _ _ _ _ _ _; omega; exact qy fun _ => rfl; (simp [maxLen]; omega); (simp; omega); intro c3 st3 t3 g1 g2 g3 g4; have ht3 := g4.resolve_left nofun; have hob3 := (g2.same (st.length + 0) (by omega) (by omega)).trans hob2; have hbx3 := (g2.same (S.length + 0) (by omega) (by omega)).trans hbx2; have hlow3 := fun j hj => (g2.same j (by omega) (by omega)).trans (hlow2 j hj); have hl3 := g2.len)
           apply qa
           refine qc [9] (by kernel_rfl) rfl ⟨⟨_, rfl, ?_⟩, trivial⟩
           (first | (apply qb; exact rfl; exact hbx1; exact rfl; exact rfl) | (apply qb; exact rfl; exact hbx2; exact rfl; exact rfl) | (apply qb; exact rfl; exact hbx3; exact rfl; exact rfl))
           apply qa
           refine qc [10] (by kernel_rfl) rfl ⟨⟨_, rfl, ?_⟩, trivial⟩
           (apply qj; (iterate 9 exact rfl))
           apply qa
           refine qc [11] (by kernel_rfl) rfl ⟨⟨_, rfl, ?_⟩, trivial⟩
           (apply ql (b := st.length + 1) (st := st3) (sz := 2) (xs := e.fields.map fldA) (ys := [fldA (fk, fv)]) (bytes := 32); (iterate 5 exact rfl); exact ⟨⟨_, _, rfl, rfl, rfl, rfl, rfl⟩⟩; exact g1; omega; exact rfl; (simp [maxLen]; omega); (simp; omega); intro c4 st4 t4 k1 k2 k3 k4; have hob4 := (k2.same (st.length + 0) (by omega) (by omega)).trans hob3; have hlow4 := fun j hj => (k2.same j (by omega) (by omega)).trans (hlow3 j hj); have k1' : TipO (st.length + 1) st4 2 69 ((e.fields ++ [(fk, fv)]).map fldA) c4 := by simpa using k1)
           apply qa
           refine qc [12] (by kernel_rfl) rfl ⟨⟨_, rfl, ?_⟩, trivial⟩
           (apply zl (n := n); (iterate 4 exact rfl); omega; omega)
           apply qa
           (apply qo 13; exact rfl; kernel_rfl; kernel_rfl; kernel_rfl; exact rfl; (first | (apply qq; (iterate 3 exact rfl)) | (apply qp; (iterate 4 exact rfl))))
           refine qc [14] (by kernel_rfl) rfl ⟨⟨_, rfl, ?_⟩, trivial⟩
           (refine zi 69 (x := c4) (r := jd (e.fields ++ [(fk, fv)])) rfl (je k1') ?_; apply qm; exact rfl; exact rfl; exact hob4; (iterate 5 exact rfl); exact hfit)
           apply qa
           refine zj (by kernel_rfl) ?_
           exact ⟨rfl, ⟨rfl, rfl, rfl, rfl, trivial⟩, _, by rw [hadd]; exact hvs _, jo (fun j hj => (zv (by omega)).trans (hlow4 j hj)) (zn hob4)⟩
          ·(first | (apply qb; exact rfl; exact hbx1; exact rfl; exact rfl) | (apply qb; exact rfl; exact hbx2; exact rfl; exact rfl) | (apply qb; exact rfl; exact hbx3; exact rfl; exact rfl))
           apply qa
           refine qc [8, 10] (by kernel_rfl) rfl ⟨⟨_, rfl, ?_⟩, ⟨_, rfl, ?_⟩, trivial⟩
           ·(apply ql (b := st.length + 1) (st := S1 ++ [AObj.cells 0 69 []]) (sz := 2) (xs := []) (ys := e.fields.map fldA) (bytes := 32); (iterate 5 exact rfl); exact ⟨⟨_, _, rfl, rfl, rfl, rfl, rfl⟩⟩; exact j8 _ _ _ _ _ _ _; omega; exact qy fun _ => rfl; (simp [maxLen]; omega); (simp; omega); intro c3 st3 t3 g1 g2 g3 g4; have ht3 := g4.resolve_left nofun; have hob3 := (g2.same (st.length + 0) (by omega) (by omega)).trans hob2; have hbx3 := (g2.same (S.length + 0) (by omega) (by omega)).trans hbx2; have hlow3 := fun j hj => (g2.same j (by omega) (by omega)).trans (hlow2 j hj); have hl3 := g2.len)
            apply qa
            refine qc [10] (by kernel_rfl) rfl ⟨⟨_, rfl, ?_⟩, trivial⟩
            (apply qj; (iterate 9 exact rfl))
            apply qa
            refine qc [11] (by kernel_rfl) rfl ⟨⟨_, rfl, ?_⟩, trivial⟩
            (apply ql (b := st.length + 1) (st := st3) (sz := 2) (xs := e.fields.map fldA) (ys := [fldA (fk, fv)]) (bytes := 32); (iterate 5 exact rfl); exact ⟨⟨_, _, rfl, rfl, rfl, rfl, rfl⟩⟩; exact g1; omega; exact rfl; (simp [maxLen]; omega); (simp; omega); intro c4 st4 t4 k1 k2 k3 k4; have hob4 := (k2.same (st.length + 0) (by omega) (by omega)).trans hob3; have hlow4 := fun j hj => (k2.same j (by omega) (by omega)).trans (hlow3 j hj); have k1' : TipO (st.length + 1) st4 2 69 ((e.fields ++ [(fk, fv)]).map fldA) c4 := by simpa using k1)
            apply qa
            refine qc [12] (by kernel_rfl) rfl ⟨⟨_, rfl, ?_⟩, trivial⟩
            (apply zl (n := n); (iterate 4 exact rfl); omega; omega)
            apply qa
            (apply qo 13; exact rfl; kernel_rfl; kernel_rfl; kernel_rfl; exact rfl; (first | (apply qq; (iterate 3 exact rfl)) | (apply qp; (iterate 4 exact rfl))))
            refine qc [14] (by kernel_rfl) rfl ⟨⟨_, rfl, ?_⟩, trivial⟩
            (refine zi 69 (x := c4) (r := jd (e.fields ++ [(fk, fv)])) rfl (je k1') ?_; apply qm; exact rfl; exact rfl; exact hob4; (iterate 5 exact rfl); exact hfit)
            apply qa
            refine zj (by kernel_rfl) ?_
            exact ⟨rfl, ⟨rfl, rfl, rfl, rfl, trivial⟩, _, by rw [hadd]; exact hvs _, jo (fun j hj => (zv (by omega)).trans (hlow4 j hj)) (zn hob4)⟩
           ·(apply qj; (iterate 9 exact rfl))
            apply qa
            refine qc [8] (by kernel_rfl) rfl ⟨⟨_, rfl, ?_⟩, trivial⟩
            (apply ql (b := st.length + 1) (st := S1 ++ [AObj.cells 0 69 []]) (sz := 2) (xs := []) (ys := e.fields.map fldA) (bytes := 32); (iterate 5 exact rfl); exact ⟨⟨_, _, rfl, rfl, rfl, rfl, rfl⟩⟩; exact j8 _ _ _ _ _ _ _; omega; exact qy fun _ => rfl; (simp [maxLen]; omega); (simp; omega); intro c3 st3 t3 g1 g2 g3 g4; have ht3 := g4.resolve_left nofun; have hob3 := (g2.same (st.length + 0) (by omega) (by omega)).trans hob2; have hbx3 := (g2.same (S.length + 0) (by omega) (by omega)).trans hbx2; have hlow3 := fun j hj => (g2.same j (by omega) (by omega)).trans (hlow2 j hj); have hl3 := g2.len)
            apply qa
            refine qc [11] (by kernel_rfl) rfl ⟨⟨_, rfl, ?_⟩, trivial⟩
            (apply ql (b := st.length + 1) (st := st3) (sz := 2) (xs := e.fields.map fldA) (ys := [fldA (fk, fv)]) (bytes := 32); (iterate 5 exact rfl); exact ⟨⟨_, _, rfl, rfl, rfl, rfl, rfl⟩⟩; exact g1; omega; exact rfl; (simp [maxLen]; omega); (simp; omega); intro c4 st4 t4 k1 k2 k3 k4; have hob4 := (k2.same (st.length + 0) (by omega) (by omega)).trans hob3; have hlow4 := fun j hj => (k2.same j (by omega) (by omega)).trans (hlow3 j hj); have k1' : TipO (st.length + 1) st4 2 69 ((e.fields ++ [(fk, fv)]).map fldA) c4 := by simpa using k1)
            apply qa
            refine qc [12] (by kernel_rfl) rfl ⟨⟨_, rfl, ?_⟩, trivial⟩
            (apply zl (n := n); (iterate 4 exact rfl); omega; omega)
            apply qa
            (apply qo 13; exact rfl; kernel_rfl; kernel_rfl; kernel_rfl; exact rfl; (first | (apply qq; (iterate 3 exact rfl)) | (apply qp; (iterate 4 exact rfl))))
            refine qc [14] (by kernel_rfl) rfl ⟨⟨_, rfl, ?_⟩, trivial⟩
            (refine zi 69 (x := c4) (r := jd (e.fields ++ [(fk, fv)])) rfl (je k1') ?_; apply qm; exact rfl; exact rfl; exact hob4; (iterate 5 exact rfl); exact hfit)
            apply qa
            refine zj (by kernel_rfl) ?_
            exact ⟨rfl, ⟨rfl, rfl, rfl, rfl, trivial⟩, _, by rw [hadd]; exact hvs _, jo (fun j hj => (zv (by omega)).trans (hlow4 j hj)) (zn hob4)⟩
         ·(first | (apply qb; exact rfl; exact hbx1; exact rfl; exact rfl) | (apply qb; exact rfl; exact hbx2; exact rfl; exact rfl) | (apply qb; exact rfl; exact hbx3; exact rfl; exact rfl))
          apply qa
          refine qc [7, 10] (by kernel_rfl) rfl ⟨⟨_, rfl, ?_⟩, ⟨_, rfl, ?_⟩, trivial⟩
          ·(first | (apply qb; exact rfl; exact hob1; exact rfl; exact hfd) | (apply qb; exact rfl; exact hob2; exact rfl; exact hfd))
           apply qa
           refine qc [8, 10] (by kernel_rfl) rfl ⟨⟨_, rfl, ?_⟩, ⟨_, rfl, ?_⟩, trivial⟩
           ·(apply ql (b := st.length + 1) (st := S1 ++ [AObj.cells 0 69 []]) (sz := 2) (xs := []) (ys := e.fields.map fldA) (bytes := 32); (iterate 5 exact rfl); exact ⟨⟨_, _, rfl, rfl, rfl, rfl, rfl⟩⟩; exact j8 _ _ _ _ _ _ _; omega; exact qy fun _ => rfl; (simp [maxLen]; omega); (simp; omega); intro c3 st3 t3 g1 g2 g3 g4; have ht3 := g4.resolve_left nofun; have hob3 := (g2.same (st.length + 0) (by omega) (by omega)).trans hob2; have hbx3 := (g2.same (S.length + 0) (by omega) (by omega)).trans hbx2; have hlow3 := fun j hj => (g2.same j (by omega) (by omega)).trans (hlow2 j hj); have hl3 := g2.len)
            apply qa
            refine qc [10] (by kernel_rfl) rfl ⟨⟨_, rfl, ?_⟩, trivial⟩
            (apply qj; (iterate 9 exact rfl))
            apply qa
            refine qc [11] (by kernel_rfl) rfl ⟨⟨_, rfl, ?_⟩, trivial⟩
            (apply ql (b := st.length + 1) (st := st3) (sz := 2) (xs := e.fields.map fldA) (ys := [fldA (fk, fv)]) (bytes := 32); (iterate 5 exact rfl); exact ⟨⟨_, _, rfl, rfl, rfl, rfl, rfl⟩⟩; exact g1; omega; exact rfl; (simp [maxLen]; omega); (simp; omega); intro c4 st4 t4 k1 k2 k3 k4; have hob4 := (k2.same (st.length + 0) (by omega) (by omega)).trans hob3; have hlow4 := fun j hj => (k2.same j (by omega) (by omega)).trans (hlow3 j hj); have k1' : TipO (st.length + 1) st4 2 69 ((e.fields ++ [(fk, fv)]).map fldA) c4 := by simpa using k1)
            apply qa
            refine qc [12] (by kernel_rfl) rfl ⟨⟨_, rfl, ?_⟩, trivial⟩
            (apply zl (n := n); (iterate 4 exact rfl); omega; omega)
            apply qa
            (apply qo 13; exact rfl; kernel_rfl; kernel_rfl; kernel_rfl; exact rfl; (first | (apply qq; (iterate 3 exact rfl)) | (apply qp; (iterate 4 exact rfl))))
            refine qc [14] (by kernel_rfl) rfl ⟨⟨_, rfl, ?_⟩, trivial⟩
            (refine zi 69 (x := c4) (r := jd (e.fields ++ [(fk, fv)])) rfl (je k1') ?_; apply qm; exact rfl; exact rfl; exact hob4; (iterate 5 exact rfl); exact hfit)
            apply qa
            refine zj (by kernel_rfl) ?_
            exact ⟨rfl, ⟨rfl, rfl, rfl, rfl, trivial⟩, _, by rw [hadd]; exact hvs _, jo (fun j hj => (zv (by omega)).trans (hlow4 j hj)) (zn hob4)⟩
           ·(apply qj; (iterate 9 exact rfl))
            apply qa
            refine qc [8] (by kernel_rfl) rfl ⟨⟨_, rfl, ?_⟩, trivial⟩
            (apply ql (b := st.length + 1) (st := S1 ++ [AObj.cells 0 69 []]) (sz := 2) (xs := []) (ys := e.fields.map fldA) (bytes := 32); (iterate 5 exact rfl); exact ⟨⟨_, _, rfl, rfl, rfl, rfl, rfl⟩⟩; exact j8 _ _ _ _ _ _ _; omega; exact qy fun _ => rfl; (simp [maxLen]; omega); (simp; omega); intro c3 st3 t3 g1 g2 g3 g4; have ht3 := g4.resolve_left nofun; have hob3 := (g2.same (st.length + 0) (by omega) (by omega)).trans hob2; have hbx3 := (g2.same (S.length + 0) (by omega) (by omega)).trans hbx2; have hlow3 := fun j hj => (g2.same j (by omega) (by omega)).trans (hlow2 j hj); have hl3 := g2.len)
            apply qa
            refine qc [11] (by kernel_rfl) rfl ⟨⟨_, rfl, ?_⟩, trivial⟩
            (apply ql (b := st.length + 1) (st := st3) (sz := 2) (xs := e.fields.map fldA) (ys := [fldA (fk, fv)]) (bytes := 32); (iterate 5 exact rfl); exact ⟨⟨_, _, rfl, rfl, rfl, rfl, rfl⟩⟩; exact g1; omega; exact rfl; (simp [maxLen]; omega); (simp; omega); intro c4 st4 t4 k1 k2 k3 k4; have hob4 := (k2.same (st.length + 0) (by omega) (by omega)).trans hob3; have hlow4 := fun j hj => (k2.same j (by omega) (by omega)).trans (hlow3 j hj); have k1' : TipO (st.length + 1) st4 2 69 ((e.fields ++ [(fk, fv)]).map fldA) c4 := by simpa using k1)
            apply qa
            refine qc [12] (by kernel_rfl) rfl ⟨⟨_, rfl, ?_⟩, trivial⟩
            (apply zl (n := n); (iterate 4 exact rfl); omega; omega)
            apply qa
            (apply qo 13; exact rfl; kernel_rfl; kernel_rfl; kernel_rfl; exact rfl; (first | (apply qq; (iterate 3 exact rfl)) | (apply qp; (iterate 4 exact rfl))))
            refine qc [14] (by kernel_rfl) rfl ⟨⟨_, rfl, ?_⟩, trivial⟩
            (refine zi 69 (x := c4) (r := jd (e.fields ++ [(fk, fv)])) rfl (je k1') ?_; apply qm; exact rfl; exact rfl; exact hob4; (iterate 5 exact rfl); exact hfit)
            apply qa
            refine zj (by kernel_rfl) ?_
            exact ⟨rfl, ⟨rfl, rfl, rfl, rfl, trivial⟩, _, by rw [hadd]; exact hvs _, jo (fun j hj => (zv (by omega)).trans (hlow4 j hj)) (zn hob4)⟩
          ·(apply qj; (iterate 9 exact rfl))
           apply qa
           refine qc [7] (by kernel_rfl) rfl ⟨⟨_, rfl, ?_⟩, trivial⟩
           (first | (apply qb; exact rfl; exact hob1; exact rfl; exact hfd) | (apply qb; exact rfl; exact hob2; exact rfl; exact hfd))
           apply qa
           refine qc [8] (by kernel_rfl) rfl ⟨⟨_, rfl, ?_⟩, trivial⟩
           (apply ql (b := st.length + 1) (st := S1 ++ [AObj.cells 0 69 []]) (sz := 2) (xs := []) (ys := e.fields.map fldA) (bytes := 32); (iterate 5 exact rfl); exact ⟨⟨_, _, rfl, rfl, rfl, rfl, rfl⟩⟩; exact j8 _ _ _ _ _ _ _; omega; exact qy fun _ => rfl; (simp [maxLen]; omega); (simp; omega); intro c3 st3 t3 g1 g2 g3 g4; have ht3 := g4.resolve_left nofun; have hob3 := (g2.same (st.length + 0) (by omega) (by omega)).trans hob2; have hbx3 := (g2.same (S.length + 0) (by omega) (by omega)).trans hbx2; have hlow3 := fun j hj => (g2.same j (by omega) (by omega)).trans (hlow2 j hj); have hl3 := g2.len)
           apply qa
           refine qc [11] (by kernel_rfl) rfl ⟨⟨_, rfl, ?_⟩, trivial⟩
           (apply ql (b := st.length + 1) (st := st3) (sz := 2) (xs := e.fields.map fldA) (ys := [fldA (fk, fv)]) (bytes := 32); (iterate 5 exact rfl); exact ⟨⟨_, _, rfl, rfl, rfl, rfl, rfl⟩⟩; exact g1; omega; exact rfl; (simp [maxLen]; omega); (simp; omega); intro c4 st4 t4 k1 k2 k3 k4; have hob4 := (k2.same (st.length + 0) (by omega) (by omega)).trans hob3; have hlow4 := fun j hj => (k2.same j (by omega) (by omega)).trans (hlow3 j hj); have k1' : TipO (st.length + 1) st4 2 69 ((e.fields ++ [(fk, fv)]).map fldA) c4 := by simpa using k1)
           apply qa
           refine qc [12] (by kernel_rfl) rfl ⟨⟨_, rfl, ?_⟩, trivial⟩
           (apply zl (n := n); (iterate 4 exact rfl); omega; omega)
           apply qa
           (apply qo 13; exact rfl; kernel_rfl; kernel_rfl; kernel_rfl; exact rfl; (first | (apply qq; (iterate 3 exact rfl)) | (apply qp; (iterate 4 exact rfl))))
           refine qc [14] (by kernel_rfl) rfl ⟨⟨_, rfl, ?_⟩, trivial⟩
           (refine zi 69 (x := c4) (r := jd (e.fields ++ [(fk, fv)])) rfl (je k1') ?_; apply qm; exact rfl; exact rfl; exact hob4; (iterate 5 exact rfl); exact hfit)
           apply qa
           refine zj (by kernel_rfl) ?_
           exact ⟨rfl, ⟨rfl, rfl, rfl, rfl, trivial⟩, _, by rw [hadd]; exact hvs _, jo (fun j hj => (zv (by omega)).trans (hlow4 j hj)) (zn hob4)⟩
        ·(first | (apply qb; exact rfl; exact hob1; exact rfl; exact hfd) | (apply qb; exact rfl; exact hob2; exact rfl; exact hfd))
         apply qa
         refine qc [2, 9] (by kernel_rfl) rfl ⟨⟨_, rfl, ?_⟩, ⟨_, rfl, ?_⟩, trivial⟩
         ·(apply j5 (st := S1) (len := 0); (iterate 6 exact rfl))
          apply qa
          refine qc [8, 9] (by kernel_rfl) rfl ⟨⟨_, rfl, ?_⟩, ⟨_, rfl, ?_⟩, trivial⟩
          ·(apply ql (b := st.length + 1) (st := S1 ++ [AObj.cells 0 69 []]) (sz := 2) (xs := []) (ys := e.fields.map fldA) (bytes := 32); (iterate 5 exact rfl); exact ⟨⟨_, _, rfl, rfl, rfl, rfl, rfl⟩⟩; exact j8 _ _ _ _ _ _ _; omega; exact qy fun _ => rfl; (simp [maxLen]; omega); (simp; omega); intro c3 st3 t3 g1 g2 g3 g4; have ht3 := g4.resolve_left nofun; have hob3 := (g2.same (st.length + 0) (by omega) (by omega)).trans hob2; have hbx3 := (g2.same (S.length + 0) (by omega) (by omega)).trans hbx2; have hlow3 := fun j hj => (g2.same j (by omega) (by omega)).trans (hlow2 j hj); have hl3 := g2.len)
           apply qa
           refine qc [9] (by kernel_rfl) rfl ⟨⟨_, rfl, ?_⟩, trivial⟩
           (first | (apply qb; exact rfl; exact hbx1; exact rfl; exact rfl) | (apply qb; exact rfl; exact hbx2; exact rfl; exact rfl) | (apply qb; exact rfl; exact hbx3; exact rfl; exact rfl))
           apply qa
           refine qc [10] (by kernel_rfl) rfl ⟨⟨_, rfl, ?_⟩, trivial⟩
           (apply qj; (iterate 9 exact rfl))
           apply qa
           refine qc [11] (by kernel_rfl) rfl ⟨⟨_, rfl, ?_⟩, trivial⟩
           (apply ql (b := st.length + 1) (st := st3) (sz := 2) (xs := e.fields.map fldA) (ys := [fldA (fk, fv)]) (bytes := 32); (iterate 5 exact rfl); exact ⟨⟨_, _, rfl, rfl, rfl, rfl, rfl⟩⟩; exact g1; omega; exact rfl; (simp [maxLen]; omega); (simp; omega); intro c4 st4 t4 k1 k2 k3 k4; have hob4 := (k2.same (st.length + 0) (by omega) (by omega)).trans hob3; have hlow4 := fun j hj => (k2.same j (by omega) (by omega)).trans (hlow3 j hj); have k1' : TipO (st.length + 1) st4 2 69 ((e.fields ++ [(fk, fv)]).map fldA) c4 := by simpa using k1)
           apply qa
           refine qc [12] (by kernel_rfl) rfl ⟨⟨_, rfl, ?_⟩, trivial⟩
           (apply zl (n := n); (iterate 4 exact rfl); omega; omega)
           apply qa
           (apply qo 13; exact rfl; kernel_rfl; kernel_rfl; kernel_rfl; exact rfl; (first | (apply qq; (iterate 3 exact rfl)) | (apply qp; (iterate 4 exact rfl))))
           refine qc [14] (by kernel_rfl) rfl ⟨⟨_, rfl, ?_⟩, trivial⟩
           (refine zi 69 (x := c4) (r := jd (e.fields ++ [(fk, fv)])) rfl (je k1') ?_; apply qm; exact rfl; exact rfl; exact hob4; (iterate 5 exact rfl); exact hfit)
           apply qa
           refine zj (by kernel_rfl) ?_
           exact ⟨rfl, ⟨rfl, rfl, rfl, rfl, trivial⟩, _, by rw [hadd]; exact hvs _, jo (fun j hj => (zv (by omega)).trans (hlow4 j hj)) (zn hob4)⟩
          ·(first | (apply qb; exact rfl; exact hbx1; exact rfl; exact rfl) | (apply qb; exact rfl; exact hbx2; exact rfl; exact rfl) | (apply qb; exact rfl; exact hbx3; exact rfl; exact rfl))
           apply qa
           refine qc [8, 10] (by kernel_rfl) rfl ⟨⟨_, rfl, ?_⟩, ⟨_, rfl, ?_⟩, trivial⟩
           ·(apply ql (b := st.length + 1) (st := S1 ++ [AObj.cells 0 69 []]) (sz := 2) (xs := []) (ys := e.fields.map fldA) (bytes := 32); (iterate 5 exact rfl); exact ⟨⟨_, _, rfl, rfl, rfl, rfl, rfl⟩⟩; exact j8 _ _ _ _ _ _ _; omega; exact qy fun _ => rfl; (simp [maxLen]; omega); (simp; omega); intro c3 st3 t3 g1 g2 g3 g4; have ht3 := g4.resolve_left nofun; have hob3 := (g2.same (st.length + 0) (by omega) (by omega)).trans hob2; have hbx3 := (g2.same (S.length + 0) (by omega) (by omega)).trans hbx2; have hlow3 := fun j hj => (g2.same j (by omega) (by omega)).trans (hlow2 j hj); have hl3 := g2.len)
            apply qa
            refine qc [10] (by kernel_rfl) rfl ⟨⟨_, rfl, ?_⟩, trivial⟩
            (apply qj; (iterate 9 exact rfl))
            apply qa
            refine qc [11] (by kernel_rfl) rfl ⟨⟨_, rfl, ?_⟩, trivial⟩
            (apply ql (b := st.length + 1) (st := st3) (sz := 2) (xs := e.fields.map fldA) (ys := [fldA (fk, fv)]) (bytes := 32); (iterate 5 exact rfl); exact ⟨⟨_, _, rfl, rfl, rfl, rfl, rfl⟩⟩; exact g1; omega; exact rfl; (simp [maxLen]; omega); (simp; omega); intro c4 st4 t4 k1 k2 k3 k4; have hob4 := (k2.same (st.length + 0) (by omega) (by omega)).trans hob3; have hlow4 := fun j hj => (k2.same j (by omega) (by omega)).trans (hlow3 j hj); have k1' : TipO (st.length + 1) st4 2 69 ((e.fields ++ [(fk, fv)]).map fldA) c4 := by simpa using k1)
            apply qa
            refine qc [12] (by kernel_rfl) rfl ⟨⟨_, rfl, ?_⟩, trivial⟩
            (apply zl (n := n); (iterate 4 exact rfl); omega; omega)
            apply qa
            (apply qo 13; exact rfl; kernel_rfl; kernel_rfl; kernel_rfl; exact rfl; (first | (apply qq; (iterate 3 exact rfl)) | (apply qp; (iterate 4 exact rfl))))
            refine qc [14] (by kernel_rfl) rfl ⟨⟨_, rfl, ?_⟩, trivial⟩
            (refine zi 69 (x := c4) (r := jd (e.fields ++ [(fk, fv)])) rfl (je k1') ?_; apply qm; exact rfl; exact rfl; exact hob4; (iterate 5 exact rfl); exact hfit)
            apply qa
            refine zj (by kernel_rfl) ?_
            exact ⟨rfl, ⟨rfl, rfl, rfl, rfl, trivial⟩, _, by rw [hadd]; exact hvs _, jo (fun j hj => (zv (by omega)).trans (hlow4 j hj)) (zn hob4)⟩
           ·(apply qj; (iterate 9 exact rfl))
            apply qa
            refine qc [8] (by kernel_rfl) rfl ⟨⟨_, rfl, ?_⟩, trivial⟩
            (apply ql (b := st.length + 1) (st := S1 ++ [AObj.cells 0 69 []]) (sz := 2) (xs := []) (ys := e.fields.map fldA) (bytes := 32); (iterate 5 exact rfl); exact ⟨⟨_, _, rfl, rfl, rfl, rfl, rfl⟩⟩; exact j8 _ _ _ _ _ _ _; omega; exact qy fun _ => rfl; (simp [maxLen]; omega); (simp; omega); intro c3 st3 t3 g1 g2 g3 g4; have ht3 := g4.resolve_left nofun; have hob3 := (g2.same (st.length + 0) (by omega) (by omega)).trans hob2; have hbx3 := (g2.same (S.length + 0) (by omega) (by omega)).trans hbx2; have hlow3 := fun j hj => (g2.same j (by omega) (by omega)).trans (hlow2 j hj); have hl3 := g2.len)
            apply qa
            refine qc [11] (by kernel_rfl) rfl ⟨⟨_, rfl, ?_⟩, trivial⟩
            (apply ql (b := st.length + 1) (st := st3) (sz := 2) (xs := e.fields.map fldA) (ys := [fldA (fk, fv)]) (bytes := 32); (iterate 5 exact rfl); exact ⟨⟨_, _, rfl, rfl, rfl, rfl, rfl⟩⟩; exact g1; omega; exact rfl; (simp [maxLen]; omega); (simp; omega); intro c4 st4 t4 k1 k2 k3 k4; have hob4 := (k2.same (st.length + 0) (by omega) (by omega)).trans hob3; have hlow4 := fun j hj => (k2.same j (by omega) (by omega)).trans (hlow3 j hj); have k1' : TipO (st.length + 1) st4 2 69 ((e.fields ++ [(fk, fv)]).map fldA) c4 := by simpa using k1)
            apply qa
            refine qc [12] (by kernel_rfl) rfl ⟨⟨_, rfl, ?_⟩, trivial⟩
            (apply zl (n := n); (iterate 4 exact rfl); omega; omega)
            apply qa
            (apply qo 13; exact rfl; kernel_rfl; kernel_rfl; kernel_rfl; exact rfl; (first | (apply qq; (iterate 3 exact rfl)) | (apply qp; (iterate 4 exact rfl))))
            refine qc [14] (by kernel_rfl) rfl ⟨⟨_, rfl, ?_⟩, trivial⟩
            (refine zi 69 (x := c4) (r := jd (e.fields ++ [(fk, fv)])) rfl (je k1') ?_; apply qm; exact rfl; exact rfl; exact hob4; (iterate 5 exact rfl); exact hfit)
            apply qa
            refine zj (by kernel_rfl) ?_
            exact ⟨rfl, ⟨rfl, rfl, rfl, rfl, trivial⟩, _, by rw [hadd]; exact hvs _, jo (fun j hj => (zv (by omega)).trans (hlow4 j hj)) (zn hob4)⟩
         ·(first | (apply qb; exact rfl; exact hbx1; exact rfl; exact rfl) | (apply qb; exact rfl; exact hbx2; exact rfl; exact rfl) | (apply qb; exact rfl; exact hbx3; exact rfl; exact rfl))
          apply qa
          refine qc [2, 10] (by kernel_rfl) rfl ⟨⟨_, rfl, ?_⟩, ⟨_, rfl, ?_⟩, trivial⟩
          ·(apply j5 (st := S1) (len := 0); (iterate 6 exact rfl))
           apply qa
           refine qc [8, 10] (by kernel_rfl) rfl ⟨⟨_, rfl, ?_⟩, ⟨_, rfl, ?_⟩, trivial⟩
           ·(apply ql (b := st.length + 1) (st := S1 ++ [AObj.cells 0 69 []]) (sz := 2) (xs := []) (ys := e.fields.map fldA) (bytes := 32); (iterate 5 exact rfl); exact ⟨⟨_, _, rfl, rfl, rfl, rfl, rfl⟩⟩; exact j8 _ _ _ _ _ _ _; omega; exact qy fun _ => rfl; (simp [maxLen]; omega); (simp; omega); intro c3 st3 t3 g1 g2 g3 g4; have ht3 := g4.resolve_left nofun; have hob3 := (g2.same (st.length + 0) (by omega) (by omega)).trans hob2; have hbx3 := (g2.same (S.length + 0) (by omega) (by omega)).trans hbx2; have hlow3 := fun j hj => (g2.same j (by omega) (by omega)).trans (hlow2 j hj); have hl3 := g2.len)
            apply qa
            refine qc [10] (by kernel_rfl) rfl ⟨⟨_, rfl, ?_⟩, trivial⟩
            (apply qj; (iterate 9 exact rfl))
            apply qa
            refine qc [11] (by kernel_rfl) rfl ⟨⟨_, rfl, ?_⟩, trivial⟩
            (apply ql (b := st.length + 1) (st := st3) (sz := 2) (xs := e.fields.map fldA) (ys := [fldA (fk, fv)]) (bytes := 32); (iterate 5 exact rfl); exact ⟨⟨_, _, rfl, rfl, rfl, rfl, rfl⟩⟩; exact g1; omega; exact rfl; (simp [maxLen]; omega); (simp; omega); intro c4 st4 t4 k1 k2 k3 k4; have hob4 := (k2.same (st.length + 0) (by omega) (by omega)).trans hob3; have hlow4 := fun j hj => (k2.same j (by omega) (by omega)).trans (hlow3 j hj); have k1' : TipO (st.length + 1) st4 2 69 ((e.fields ++ [(fk, fv)]).map fldA) c4 := by simpa using k1)
            apply qa
            refine qc [12] (by kernel_rfl) rfl ⟨⟨_, rfl, ?_⟩, trivial⟩
            (apply zl (n := n); (iterate 4 exact rfl); omega; omega)
            apply qa
            (apply qo 13; exact rfl; kernel_rfl; kernel_rfl; kernel_rfl; exact rfl; (first | (apply qq; (iterate 3 exact rfl)) | (apply qp; (iterate 4 exact rfl))))
            refine qc [14] (by kernel_rfl) rfl ⟨⟨_, rfl, ?_⟩, trivial⟩
            (refine zi 69 (x := c4) (r := jd (e.fields ++ [(fk, fv)])) rfl (je k1') ?_; apply qm; exact rfl; exact rfl; exact hob4; (iterate 5 exact rfl); exact hfit)
            apply qa
            refine zj (by kernel_rfl) ?_
            exact ⟨rfl, ⟨rfl, rfl, rfl, rfl, trivial⟩, _, by rw [hadd]; exact hvs _, jo (fun j hj => (zv (by omega)).trans (hlow4 j hj)) (zn hob4)⟩
           ·(apply qj; (iterate 9 exact rfl))
            apply qa
            refine qc [8] (by kernel_rfl) rfl ⟨⟨_, rfl, ?_⟩, trivial⟩
            (apply ql (b := st.length + 1) (st := S1 ++ [AObj.cells 0 69 []]) (sz := 2) (xs := []) (ys := e.fields.map fldA) (bytes := 32); (iterate 5 exact rfl); exact ⟨⟨_, _, rfl, rfl, rfl, rfl, rfl⟩⟩; exact j8 _ _ _ _ _ _ _; omega; exact qy fun _ => rfl; (simp [maxLen]; omega); (simp; omega); intro c3 st3 t3 g1 g2 g3 g4; have ht3 := g4.resolve_left nofun; have hob3 := (g2.same (st.length + 0) (by omega) (by omega)).trans hob2; have hbx3 := (g2.same (S.length + 0) (by omega) (by omega)).trans hbx2; have hlow3 := fun j hj => (g2.same j (by omega) (by omega)).trans (hlow2 j hj); have hl3 := g2.len)
            apply qa
            refine qc [11] (by kernel_rfl) rfl ⟨⟨_, rfl, ?_⟩, trivial⟩
            (apply ql (b := st.length + 1) (st := st3) (sz := 2) (xs := e.fields.map fldA) (ys := [fldA (fk, fv)]) (bytes := 32); (iterate 5 exact rfl); exact ⟨⟨_, _, rfl, rfl, rfl, rfl, rfl⟩⟩; exact g1; omega; exact rfl; (simp [maxLen]; omega); (simp; omega); intro c4 st4 t4 k1 k2 k3 k4; have hob4 := (k2.same (st.length + 0) (by omega) (by omega)).trans hob3; have hlow4 := fun j hj => (k2.same j (by omega) (by omega)).trans (hlow3 j hj); have k1' : TipO (st.length + 1) st4 2 69 ((e.fields ++ [(fk, fv)]).map fldA) c4 := by simpa using k1)
            apply qa
            refine qc [12] (by kernel_rfl) rfl ⟨⟨_, rfl, ?_⟩, trivial⟩
            (apply zl (n := n); (iterate 4 exact rfl); omega; omega)
            apply qa
            (apply qo 13; exact rfl; kernel_rfl; kernel_rfl; kernel_rfl; exact rfl; (first | (apply qq; (iterate 3 exact rfl)) | (apply qp; (iterate 4 exact rfl))))
            refine qc [14] (by kernel_rfl) rfl ⟨⟨_, rfl, ?_⟩, trivial⟩
            (refine zi 69 (x := c4) (r := jd (e.fields ++ [(fk, fv)])) rfl (je k1') ?_; apply qm; exact rfl; exact rfl; exact hob4; (iterate 5 exact rfl); exact hfit)
            apply qa
            refine zj (by kernel_rfl) ?_
            exact ⟨rfl, ⟨rfl, rfl, rfl, rfl, trivial⟩, _, by rw [hadd]; exact hvs _, jo (fun j hj => (zv (by omega)).trans (hlow4 j hj)) (zn hob4)⟩
          ·(apply qj; (iterate 9 exact rfl))
           apply qa
           refine qc [2] (by kernel_rfl) rfl ⟨⟨_, rfl, ?_⟩, trivial⟩
           (apply j5 (st := S1) (len := 0); (iterate 6 exact rfl))
           apply qa
           refine qc [8] (by kernel_rfl) rfl ⟨⟨_, rfl, ?_⟩, trivial⟩
           (apply ql (b := st.length + 1) (st := S1 ++ [AObj.cells 0 69 []]) (sz := 2) (xs := []) (ys := e.fields.map fldA) (bytes := 32); (iterate 5 exact rfl); exact ⟨⟨_, _, rfl, rfl, rfl, rfl, rfl⟩⟩; exact j8 _ _ _ _ _ _ _; omega; exact qy fun _ => rfl; (simp [maxLen]; omega); (simp; omega); intro c3 st3 t3 g1 g2 g3 g4; have ht3 := g4.resolve_left nofun; have hob3 := (g2.same (st.length + 0) (by omega) (by omega)).trans hob2; have hbx3 := (g2.same (S.length + 0) (by omega) (by omega)).trans hbx2; have hlow3 := fun j hj => (g2.same j (by omega) (by omega)).trans (hlow2 j hj); have hl3 := g2.len)
           apply qa
           refine qc [11] (by kernel_rfl) rfl ⟨⟨_, rfl, ?_⟩, trivial⟩
           (apply ql (b := st.length + 1) (st := st3) (sz := 2) (xs := e.fields.map fldA) (ys := [fldA (fk, fv)]) (bytes := 32); (iterate 5 exact rfl); exact ⟨⟨_, _, rfl, rfl, rfl, rfl, rfl⟩⟩; exact g1; omega; exact rfl; (simp [maxLen]; omega); (simp; omega); intro c4 st4 t4 k1 k2 k3 k4; have hob4 := (k2.same (st.length + 0) (by omega) (by omega)).trans hob3; have hlow4 := fun j hj => (k2.same j (by omega) (by omega)).trans (hlow3 j hj); have k1' : TipO (st.length + 1) st4 2 69 ((e.fields ++ [(fk, fv)]).map fldA) c4 := by simpa using k1)
           apply qa
           refine qc [12] (by kernel_rfl) rfl ⟨⟨_, rfl, ?_⟩, trivial⟩
           (apply zl (n := n); (iterate 4 exact rfl); omega; omega)
           apply qa
           (apply qo 13; exact rfl; kernel_rfl; kernel_rfl; kernel_rfl; exact rfl; (first | (apply qq; (iterate 3 exact rfl)) | (apply qp; (iterate 4 exact rfl))))
           refine qc [14] (by kernel_rfl) rfl ⟨⟨_, rfl, ?_⟩, trivial⟩
           (refine zi 69 (x := c4) (r := jd (e.fields ++ [(fk, fv)])) rfl (je k1') ?_; apply qm; exact rfl; exact rfl; exact hob4; (iterate 5 exact rfl); exact hfit)
           apply qa
           refine zj (by kernel_rfl) ?_
           exact ⟨rfl, ⟨rfl, rfl, rfl, rfl, trivial⟩, _, by rw [hadd]; exact hvs _, jo (fun j hj => (zv (by omega)).trans (hlow4 j hj)) (zn hob4)⟩
        ·(first | (apply qb; exact rfl; exact hbx1; exact rfl; exact rfl) | (apply qb; exact rfl; exact hbx2; exact rfl; exact rfl) | (apply qb; exact rfl; exact hbx3; exact rfl; exact rfl))
         apply qa
         refine qc [2, 7, 10] (by kernel_rfl) rfl ⟨⟨_, rfl, ?_⟩, ⟨_, rfl, ?_⟩, ⟨_, rfl, ?_⟩, trivial⟩
         ·(apply j5 (st := S1) (len := 0); (iterate 6 exact rfl))
          apply qa
          refine qc [7, 10] (by kernel_rfl) rfl ⟨⟨_, rfl, ?_⟩, ⟨_, rfl, ?_⟩, trivial⟩
          ·(first | (apply qb; exact rfl; exact hob1; exact rfl; exact hfd) | (apply qb; exact rfl; exact hob2; exact rfl; exact hfd))
           apply qa
           refine qc [8, 10] (by kernel_rfl) rfl ⟨⟨_, rfl, ?_⟩, ⟨_, rfl, ?_⟩, trivial⟩
           ·(apply ql (b := st.length + 1) (st := S1 ++ [AObj.cells 0 69 []]) (sz := 2) (xs := []) (ys := e.fields.map fldA) (bytes := 32); (iterate 5 exact rfl); exact ⟨⟨_, _, rfl, rfl, rfl, rfl, rfl⟩⟩; exact j8 _ _ _ _ _ _ _; omega; exact qy fun _ => rfl; (simp [maxLen]; omega); (simp; omega); intro c3 st3 t3 g1 g2 g3 g4; have ht3 := g4.resolve_left nofun; have hob3 := (g2.same (st.length + 0) (by omega) (by omega)).trans hob2; have hbx3 := (g2.same (S.length + 0) (by omega) (by omega)).trans hbx2; have hlow3 := fun j hj => (g2.same j (by omega) (by omega)).trans (hlow2 j hj); have hl3 := g2.len)
            apply qa
            refine qc [10] (by kernel_rfl) rfl ⟨⟨_, rfl, ?_⟩, trivial⟩
            (apply qj; (iterate 9 exact rfl))
            apply qa
            refine qc [11] (by kernel_rfl) rfl ⟨⟨_, rfl, ?_⟩, trivial⟩
            (apply ql (b := st.length + 1) (st := st3) (sz := 2) (xs := e.fields.map fldA) (ys := [fldA (fk, fv)]) (bytes := 32); (iterate 5 exact rfl); exact ⟨⟨_, _, rfl, rfl, rfl, rfl, rfl⟩⟩; exact g1; omega; exact rfl; (simp [maxLen]; omega); (simp; omega); intro c4 st4 t4 k1 k2 k3 k4; have hob4 := (k2.same (st.length + 0) (by omega) (by omega)).trans hob3; have hlow4 := fun j hj => (k2.same j (by omega) (by omega)).trans (hlow3 j hj); have k1' : TipO (st.length + 1) st4 2 69 ((e.fields ++ [(fk, fv)]).map fldA) c4 := by simpa using k1)
            apply qa
            refine qc [12] (by kernel_rfl) rfl ⟨⟨_, rfl, ?_⟩, trivial⟩
            (apply zl (n := n); (iterate 4 exact rfl); omega; omega)
            apply qa
            (apply qo 13; exact rfl; kernel_rfl; kernel_rfl; kernel_rfl; exact rfl; (first | (apply qq; (iterate 3 exact rfl)) | (apply qp; (iterate 4 exact rfl))))
            refine qc [14] (by kernel_rfl) rfl ⟨⟨_, rfl, ?_⟩, trivial⟩
            (refine zi 69 (x := c4) (r := jd (e.fields ++ [(fk, fv)])) rfl (je k1') ?_; apply qm; exact rfl; exact rfl; exact hob4; (iterate 5 exact rfl); exact hfit)
            apply qa
            refine zj (by kernel_rfl) ?_
            exact ⟨rfl, ⟨rfl, rfl, rfl, rfl, trivial⟩, _, by rw [hadd]; exact hvs _, jo (fun j hj => (zv (by omega)).trans (hlow4 j hj)) (zn hob4)⟩
           ·(apply qj; (iterate 9 exact rfl))
            apply qa
            refine qc [8] (by kernel_rfl) rfl ⟨⟨_, rfl, ?_⟩, trivial⟩
            (apply ql (b := st.length + 1) (st := S1 ++ [AObj.cells 0 69 []]) (sz := 2) (xs := []) (ys := e.fields.map fldA) (bytes := 32); (iterate 5 exact rfl); exact ⟨⟨_, _, rfl, rfl, rfl, rfl, rfl⟩⟩; exact j8 _ _ _ _ _ _ _; omega; exact qy fun _ => rfl; (simp [maxLen]; omega); (simp; omega); intro c3 st3 t3 g1 g2 g3 g4; have ht3 := g4.resolve_left nofun; have hob3 := (g2.same (st.length + 0) (by omega) (by omega)).trans hob2; have hbx3 := (g2.same (S.length + 0) (by omega) (by omega)).trans hbx2; have hlow3 := fun j hj => (g2.same j (by omega) (by omega)).trans (hlow2 j hj); have hl3 := g2.len)
            apply qa
            refine qc [11] (by kernel_rfl) rfl ⟨⟨_, rfl, ?_⟩, trivial⟩
            (apply ql (b := st.length + 1) (st := st3) (sz := 2) (xs := e.fields.map fldA) (ys := [fldA (fk, fv)]) (bytes := 32); (iterate 5 exact rfl); exact ⟨⟨_, _, rfl, rfl, rfl, rfl, rfl⟩⟩; exact g1; omega; exact rfl; (simp [maxLen]; omega); (simp; omega); intro c4 st4 t4 k1 k2 k3 k4; have hob4 := (k2.same (st.length + 0) (by omega) (by omega)).trans hob3; have hlow4 := fun j hj => (k2.same j (by omega) (by omega)).trans (hlow3 j hj); have k1' : TipO (st.length + 1) st4 2 69 ((e.fields ++ [(fk, fv)]).map fldA) c4 := by simpa using k1)
            apply qa
            refine qc [12] (by kernel_rfl) rfl ⟨⟨_, rfl, ?_⟩, trivial⟩
            (apply zl (n := n); (iterate 4 exact rfl); omega; omega)
            apply qa
            (apply qo 13; exact rfl; kernel_rfl; kernel_rfl; kernel_rfl; exact rfl; (first | (apply qq; (iterate 3 exact rfl)) | (apply qp; (iterate 4 exact rfl))))
            refine qc [14] (by kernel_rfl) rfl ⟨⟨_, rfl, ?_⟩, trivial⟩
            (refine zi 69 (x := c4) (r := jd (e.fields ++ [(fk, fv)])) rfl (je k1') ?_; apply qm; exact rfl; exact rfl; exact hob4; (iterate 5 exact rfl); exact hfit)
            apply qa
            refine zj (by kernel_rfl) ?_
            exact ⟨rfl, ⟨rfl, rfl, rfl, rfl, trivial⟩, _, by rw [hadd]; exact hvs _, jo (fun j hj => (zv (by omega)).trans (hlow4 j hj)) (zn hob4)⟩
          ·(apply qj; (iterate 9 exact rfl))
           apply qa
           refine qc [7] (by kernel_rfl) rfl ⟨⟨_, rfl, ?_⟩, trivial⟩
           (first | (apply qb; exact rfl; exact hob1; exact rfl; exact hfd) | (apply qb; exact rfl; exact hob2; exact rfl; exact hfd))
           apply qa
           refine qc [8] (by kernel_rfl) rfl ⟨⟨_, rfl, ?_⟩, trivial⟩
           (apply ql (b := st.length + 1) (st := S1 ++ [AObj.cells 0 69 []]) (sz := 2) (xs := []) (ys := e.fields.map fldA) (bytes := 32); (iterate 5 exact rfl); exact ⟨⟨_, _, rfl, rfl, rfl, rfl, rfl⟩⟩; exact j8 _ _ _ _ _ _ _; omega; exact qy fun _ => rfl; (simp [maxLen]; omega); (simp; omega); intro c3 st3 t3 g1 g2 g3 g4; have ht3 := g4.resolve_left nofun; have hob3 := (g2.same (st.length + 0) (by omega) (by omega)).trans hob2; have hbx3 := (g2.same (S.length + 0) (by omega) (by omega)).trans hbx2; have hlow3 := fun j hj => (g2.same j (by omega) (by omega)).trans (hlow2 j hj); have hl3 := g2.len)
           apply qa
           refine qc [11] (by kernel_rfl) rfl ⟨⟨_, rfl, ?_⟩, trivial⟩
           (apply ql (b := st.length + 1) (st := st3) (sz := 2) (xs := e.fields.map fldA) (ys := [fldA (fk, fv)]) (bytes := 32); (iterate 5 exact rfl); exact ⟨⟨_, _, rfl, rfl, rfl, rfl, rfl⟩⟩; exact g1; omega; exact rfl; (simp [maxLen]; omega); (simp; omega); intro c4 st4 t4 k1 k2 k3 k4; have hob4 := (k2.same (st.length + 0) (by omega) (by omega)).trans hob3; have hlow4 := fun j hj => (k2.same j (by omega) (by omega)).trans (hlow3 j hj); have k1' : TipO (st.length + 1) st4 2 69 ((e.fields ++ [(fk, fv)]).map fldA) c4 := by simpa using k1)
           apply qa
           refine qc [12] (by kernel_rfl) rfl ⟨⟨_, rfl, ?_⟩, trivial⟩
           (apply zl (n := n); (iterate 4 exact rfl); omega; omega)
           apply qa
           (apply qo 13; exact rfl; kernel_rfl; kernel_rfl; kernel_rfl; exact rfl; (first | (apply qq; (iterate 3 exact rfl)) | (apply qp; (iterate 4 exact rfl))))
           refine qc [14] (by kernel_rfl) rfl ⟨⟨_, rfl, ?_⟩, trivial⟩
           (refine zi 69 (x := c4) (r := jd (e.fields ++ [(fk, fv)])) rfl (je k1') ?_; apply qm; exact rfl; exact rfl; exact hob4; (iterate 5 exact rfl); exact hfit)
           apply qa
           refine zj (by kernel_rfl) ?_
           exact ⟨rfl, ⟨rfl, rfl, rfl, rfl, trivial⟩, _, by rw [hadd]; exact hvs _, jo (fun j hj => (zv (by omega)).trans (hlow4 j hj)) (zn hob4)⟩
         ·(first | (apply qb; exact rfl; exact hob1; exact rfl; exact hfd) | (apply qb; exact rfl; exact hob2; exact rfl; exact hfd))
          apply qa
          refine qc [2, 10] (by kernel_rfl) rfl ⟨⟨_, rfl, ?_⟩, ⟨_, rfl, ?_⟩, trivial⟩
          ·(apply j5 (st := S1) (len := 0); (iterate 6 exact rfl))
           apply qa
           refine qc [8, 10] (by kernel_rfl) rfl ⟨⟨_, rfl, ?_⟩, ⟨_, rfl, ?_⟩, trivial⟩
           ·(apply ql (b := st.length + 1) (st := S1 ++ [AObj.cells 0 69 []]) (sz := 2) (xs := []) (ys := e.fields.map fldA) (bytes := 32); (iterate 5 exact rfl); exact ⟨⟨_, _, rfl, rfl, rfl, rfl, rfl⟩⟩; exact j8 _ _ _ _ _ _ _; omega; exact qy fun _ => rfl; (simp [maxLen]; omega); (simp; omega); intro c3 st3 t3 g1 g2 g3 g4; have ht3 := g4.resolve_left nofun; have hob3 := (g2.same (st.length + 0) (by omega) (by omega)).trans hob2; have hbx3 := (g2.same (S.length + 0) (by omega) (by omega)).trans hbx2; have hlow3 := fun j hj => (g2.same j (by omega) (by omega)).trans (hlow2 j hj); have hl3 := g2.len)
            apply qa
            refine qc [10] (by kernel_rfl) rfl ⟨⟨_, rfl, ?_⟩, trivial⟩
            (apply qj; (iterate 9 exact rfl))
            apply qa
            refine qc [11] (by kernel_rfl) rfl ⟨⟨_, rfl, ?_⟩, trivial⟩
            (apply ql (b := st.length + 1) (st := st3) (sz := 2) (xs := e.fields.map fldA) (ys := [fldA (fk, fv)]) (bytes := 32); (iterate 5 exact rfl); exact ⟨⟨_, _, rfl, rfl, rfl, rfl, rfl⟩⟩; exact g1; omega; exact rfl; (simp [maxLen]; omega); (simp; omega); intro c4 st4 t4 k1 k2 k3 k4; have hob4 := (k2.same (st.length + 0) (by omega) (by omega)).trans hob3; have hlow4 := fun j hj => (k2.same j (by omega) (by omega)).trans (hlow3 j hj); have k1' : TipO (st.length + 1) st4 2 69 ((e.fields ++ [(fk, fv)]).map fldA) c4 := by simpa using k1)
            apply qa
            refine qc [12] (by kernel_rfl) rfl ⟨⟨_, rfl, ?_⟩, trivial⟩
            (apply zl (n := n); (iterate 4 exact rfl); omega; omega)
            apply qa
            (apply qo 13; exact rfl; kernel_rfl; kernel_rfl; kernel_rfl; exact rfl; (first | (apply qq; (iterate 3 exact rfl)) | (apply qp; (iterate 4 exact rfl))))
            refine qc [14] (by kernel_rfl) rfl ⟨⟨_, rfl, ?_⟩, trivial⟩
            (refine zi 69 (x := c4) (r := jd (e.fields ++ [(fk, fv)])) rfl (je k1') ?_; apply qm; exact rfl; exact rfl; exact hob4; (iterate 5 exact rfl); exact hfit)
            apply qa
            refine zj (by kernel_rfl) ?_
            exact ⟨rfl, ⟨rfl, rfl, rfl, rfl, trivial⟩, _, by rw [hadd]; exact hvs _, jo (fun j hj => (zv (by omega)).trans (hlow4 j hj)) (zn hob4)⟩
           ·(apply qj; (iterate 9 exact rfl))
            apply qa
            refine qc [8] (by kernel_rfl) rfl ⟨⟨_, rfl, ?_⟩, trivial⟩
            (apply ql (b := st.length + 1) (st := S1 ++ [AObj.cells 0 69 []]) (sz := 2) (xs := []) (ys := e.fields.map fldA) (bytes := 32); (iterate 5 exact rfl); exact ⟨⟨_, _, rfl, rfl, rfl, rfl, rfl⟩⟩; exact j8 _ _ _ _ _ _ _; omega; exact qy fun _ => rfl; (simp [maxLen]; omega); (simp; omega); intro c3 st3 t3 g1 g2 g3 g4; have ht3 := g4.resolve_left nofun; have hob3 := (g2.same (st.length + 0) (by omega) (by omega)).trans hob2; have hbx3 := (g2.same (S.length + 0) (by omega) (by omega)).trans hbx2; have hlow3 := fun j hj => (g2.same j (by omega) (by omega)).trans (hlow2 j hj); have hl3 := g2.len)
            apply qa
            refine qc [11] (by kernel_rfl) rfl ⟨⟨_, rfl, ?_⟩, trivial⟩
            (apply ql (b := st.length + 1) (st := st3) (sz := 2) (xs := e.fields.map fldA) (ys := [fldA (fk, fv)]) (bytes := 32); (iterate 5 exact rfl); exact ⟨⟨_, _, rfl, rfl, rfl, rfl, rfl⟩⟩; exact g1; omega; exact rfl; (simp [maxLen]; omega); (simp; omega); intro c4 st4 t4 k1 k2 k3 k4; have hob4 := (k2.same (st.length + 0) (by omega) (by omega)).trans hob3; have hlow4 := fun j hj => (k2.same j (by omega) (by omega)).trans (hlow3 j hj); have k1' : TipO (st.length + 1) st4 2 69 ((e.fields ++ [(fk, fv)]).map fldA) c4 := by simpa using k1)
            apply qa
            refine qc [12] (by kernel_rfl) rfl ⟨⟨_, rfl, ?_⟩, trivial⟩
            (apply zl (n := n); (iterate 4 exact rfl); omega; omega)
            apply qa
            (apply qo 13; exact rfl; kernel_rfl; kernel_rfl; kernel_rfl; exact rfl; (first | (apply qq; (iterate 3 exact rfl)) | (apply qp; (iterate 4 exact rfl))))
            refine qc [14] (by kernel_rfl) rfl ⟨⟨_, rfl, ?_⟩, trivial⟩
            (refine zi 69 (x := c4) (r := jd (e.fields ++ [(fk, fv)])) rfl (je k1') ?_; apply qm; exact rfl; exact rfl; exact hob4; (iterate 5 exact rfl); exact hfit)
            apply qa
            refine zj (by kernel_rfl) ?_
            exact ⟨rfl, ⟨rfl, rfl, rfl, rfl, trivial⟩, _, by rw [hadd]; exact hvs _, jo (fun j hj => (zv (by omega)).trans (hlow4 j hj)) (zn hob4)⟩
          ·(apply qj; (iterate 9 exact rfl))
           apply qa
           refine qc [2] (by kernel_rfl) rfl ⟨⟨_, rfl, ?_⟩, trivial⟩
           (apply j5 (st := S1) (len := 0); (iterate 6 exact rfl))
           apply qa
           refine qc [8] (by kernel_rfl) rfl ⟨⟨_, rfl, ?_⟩, trivial⟩
           (apply ql (b := st.length + 1) (st := S1 ++ [AObj.cells 0 69 []]) (sz := 2) (xs := []) (ys := e.fields.map fldA) (bytes := 32); (iterate 5 exact rfl); exact ⟨⟨_, _, rfl, rfl, rfl, rfl, rfl⟩⟩; exact j8 _ _ _ _ _ _ _; omega; exact qy fun _ => rfl; (simp [maxLen]; omega); (simp; omega); intro c3 st3 t3 g1 g2 g3 g4; have ht3 := g4.resolve_left nofun; have hob3 := (g2.same (st.length + 0) (by omega) (by omega)).trans hob2; have hbx3 := (g2.same (S.length + 0) (by omega) (by omega)).trans hbx2; have hlow3 := fun j hj => (g2.same j (by omega) (by omega)).trans (hlow2 j hj); have hl3 := g2.len)
           apply qa
           refine qc [11] (by kernel_rfl) rfl ⟨⟨_, rfl, ?_⟩, trivial⟩
           (apply ql (b := st.length + 1) (st := st3) (sz := 2) (xs := e.fields.map fldA) (ys := [fldA (fk, fv)]) (bytes := 32); (iterate 5 exact rfl); exact ⟨⟨_, _, rfl, rfl, rfl, rfl, rfl⟩⟩; exact g1; omega; exact rfl; (simp [maxLen]; omega); (simp; omega); intro c4 st4 t4 k1 k2 k3 k4; have hob4 := (k2.same (st.length + 0) (by omega) (by omega)).trans hob3; have hlow4 := fun j hj => (k2.same j (by omega) (by omega)).trans (hlow3 j hj); have k1' : TipO (st.length + 1) st4 2 69 ((e.fields ++ [(fk, fv)]).map fldA) c4 := by simpa using k1)
           apply qa
           refine qc [12] (by kernel_rfl) rfl ⟨⟨_, rfl, ?_⟩, trivial⟩
           (apply zl (n := n); (iterate 4 exact rfl); omega; omega)
           apply qa
           (apply qo 13; exact rfl; kernel_rfl; kernel_rfl; kernel_rfl; exact rfl; (first | (apply qq; (iterate 3 exact rfl)) | (apply qp; (iterate 4 exact rfl))))
           refine qc [14] (by kernel_rfl) rfl ⟨⟨_, rfl, ?_⟩, trivial⟩
           (refine zi 69 (x := c4) (r := jd (e.fields ++ [(fk, fv)])) rfl (je k1') ?_; apply qm; exact rfl; exact rfl; exact hob4; (iterate 5 exact rfl); exact hfit)
           apply qa
           refine zj (by kernel_rfl) ?_
           exact ⟨rfl, ⟨rfl, rfl, rfl, rfl, trivial⟩, _, by rw [hadd]; exact hvs _, jo (fun j hj => (zv (by omega)).trans (hlow4 j hj)) (zn hob4)⟩
         ·(apply qj; (iterate 9 exact rfl))
          apply qa
          refine qc [2, 7] (by kernel_rfl) rfl ⟨⟨_, rfl, ?_⟩, ⟨_, rfl, ?_⟩, trivial⟩
          ·(apply j5 (st := S1) (len := 0); (iterate 6 exact rfl))
           apply qa
           refine qc [7] (by kernel_rfl) rfl ⟨⟨_, rfl, ?_⟩, trivial⟩
           (first | (apply qb; exact rfl; exact hob1; exact rfl; exact hfd) | (apply qb; exact rfl; exact hob2; exact rfl; exact hfd))
           apply qa
           refine qc [8] (by kernel_rfl) rfl ⟨⟨_, rfl, ?_⟩, trivial⟩
           (apply ql (b := st.length + 1) (st := S1 ++ [AObj.cells 0 69 []]) (sz := 2) (xs := []) (ys := e.fields.map fldA) (bytes := 32); (iterate 5 exact rfl); exact ⟨⟨_, _, rfl, rfl, rfl, rfl, rfl⟩⟩; exact j8 _ _ _ _ _ _ _; omega; exact qy fun _ => rfl; (simp [maxLen]; omega); (simp; omega); intro c3 st3 t3 g1 g2 g3 g4; have ht3 := g4.resolve_left nofun; have hob3 := (g2.same (st.length + 0) (by omega) (by omega)).trans hob2; have hbx3 := (g2.same (S.length + 0) (by omega) (by omega)).trans hbx2; have hlow3 := fun j hj => (g2.same j (by omega) (by omega)).trans (hlow2 j hj); have hl3 := g2.len)
           apply qa
           refine qc [11] (by kernel_rfl) rfl ⟨⟨_, rfl, ?_⟩, trivial⟩
           (apply ql (b := st.length + 1) (st := st3) (sz := 2) (xs := e.fields.map fldA) (ys := [fldA (fk, fv)]) (bytes := 32); (iterate 5 exact rfl); exact ⟨⟨_, _, rfl, rfl, rfl, rfl, rfl⟩⟩; exact g1; omega; exact rfl; (simp [maxLen]; omega); (simp; omega); intro c4 st4 t4 k1 k2 k3 k4; have hob4 := (k2.same (st.length + 0) (by omega) (by omega)).trans hob3; have hlow4 := fun j hj => (k2.same j (by omega) (by omega)).trans (hlow3 j hj); have k1' : TipO (st.length + 1) st4 2 69 ((e.fields ++ [(fk, fv)]).map fldA) c4 := by simpa using k1)
           apply qa
           refine qc [12] (by kernel_rfl) rfl ⟨⟨_, rfl, ?_⟩, trivial⟩
           (apply zl (n := n); (iterate 4 exact rfl); omega; omega)
           apply qa
           (apply qo 13; exact rfl; kernel_rfl; kernel_rfl; kernel_rfl; exact rfl; (first | (apply qq; (iterate 3 exact rfl)) | (apply qp; (iterate 4 exact rfl))))
           refine qc [14] (by kernel_rfl) rfl ⟨⟨_, rfl, ?_⟩, trivial⟩
           (refine zi 69 (x := c4) (r := jd (e.fields ++ [(fk, fv)])) rfl (je k1') ?_; apply qm; exact rfl; exact rfl; exact hob4; (iterate 5 exact rfl); exact hfit)
           apply qa
           refine zj (by kernel_rfl) ?_
           exact ⟨rfl, ⟨rfl, rfl, rfl, rfl, trivial⟩, _, by rw [hadd]; exact hvs _, jo (fun j hj => (zv (by omega)).trans (hlow4 j hj)) (zn hob4)⟩
          ·(first | (apply qb; exact rfl; exact hob1; exact rfl; exact hfd) | (apply qb; exact rfl; exact hob2; exact rfl; exact hfd))
           apply qa
           refine qc [2] (by kernel_rfl) rfl ⟨⟨_, rfl, ?_⟩, trivial⟩
           (apply j5 (st := S1) (len := 0); (iterate 6 exact rfl))
           apply qa
           refine qc [8] (by kernel_rfl) rfl ⟨⟨_, rfl, ?_⟩, trivial⟩
           (apply ql (b := st.length + 1) (st := S1 ++ [AObj.cells 0 69 []]) (sz := 2) (xs := []) (ys := e.fields.map fldA) (bytes := 32); (iterate 5 exact rfl); exact ⟨⟨_, _, rfl, rfl, rfl, rfl, rfl⟩⟩; exact j8 _ _ _ _ _ _ _; omega; exact qy fun _ => rfl; (simp [maxLen]; omega); (simp; omega); intro c3 st3 t3 g1 g2 g3 g4; have ht3 := g4.resolve_left nofun; have hob3 := (g2.same (st.length + 0) (by omega) (by omega)).trans hob2; have hbx3 := (g2.same (S.length + 0) (by omega) (by omega)).trans hbx2; have hlow3 := fun j hj => (g2.same j (by omega) (by omega)).trans (hlow2 j hj); have hl3 := g2.len)
           apply qa
           refine qc [11] (by kernel_rfl) rfl ⟨⟨_, rfl, ?_⟩, trivial⟩
           (apply ql (b := st.length + 1) (st := st3) (sz := 2) (xs := e.fields.map fldA) (ys := [fldA (fk, fv)]) (bytes := 32); (iterate 5 exact rfl); exact ⟨⟨_, _, rfl, rfl, rfl, rfl, rfl⟩⟩; exact g1; omega; exact rfl; (simp [maxLen]; omega); (simp; omega); intro c4 st4 t4 k1 k2 k3 k4; have hob4 := (k2.same (st.length + 0) (by omega) (by omega)).trans hob3; have hlow4 := fun j hj => (k2.same j (by omega) (by omega)).trans (hlow3 j hj); have k1' : TipO (st.length + 1) st4 2 69 ((e.fields ++ [(fk, fv)]).map fldA) c4 := by simpa using k1)
           apply qa
           refine qc [12] (by kernel_rfl) rfl ⟨⟨_, rfl, ?_⟩, trivial⟩
           (apply zl (n := n); (iterate 4 exact rfl); omega; omega)
           apply qa
           (apply qo 13; exact rfl; kernel_rfl; kernel_rfl; kernel_rfl; exact rfl; (first | (apply qq; (iterate 3 exact rfl)) | (apply qp; (iterate 4 exact rfl))))
           refine qc [14] (by kernel_rfl) rfl ⟨⟨_, rfl, ?_⟩, trivial⟩
           (refine zi 69 (x := c4) (r := jd (e.fields ++ [(fk, fv)])) rfl (je k1') ?_; apply qm; exact rfl; exact rfl; exact hob4; (iterate 5 exact rfl); exact hfit)
           apply qa
           refine zj (by kernel_rfl) ?_
           exact ⟨rfl, ⟨rfl, rfl, rfl, rfl, trivial⟩, _, by rw [hadd]; exact hvs _, jo (fun j hj => (zv (by omega)).trans (hlow4 j hj)) (zn hob4)⟩
       ·(first | (apply qb; exact rfl; exact hbx1; exact rfl; exact rfl) | (apply qb; exact rfl; exact hbx2; exact rfl; exact rfl) | (apply qb; exact rfl; exact hbx3; exact rfl; exact rfl))
        apply qa
        refine qc [2, 5, 10] (by kernel_rfl) rfl ⟨⟨_, rfl, ?_⟩, ⟨_, rfl, ?_⟩, ⟨_, rfl, ?_⟩, trivial⟩
        ·(apply j5 (st := S1) (len := 0); (iterate 6 exact rfl))
         apply qa
         refine qc [5, 10] (by kernel_rfl) rfl ⟨⟨_, rfl, ?_⟩, ⟨_, rfl, ?_⟩, trivial⟩
         ·(apply zl (n := n); (iterate 4 exact rfl); omega; omega)
          apply qa
          (apply qo 6; exact rfl; kernel_rfl; kernel_rfl; kernel_rfl; exact rfl; (first | (apply qq; (iterate 3 exact rfl)) | (apply qp; (iterate 4 exact rfl))))
          refine qc [7, 10] (by kernel_rfl) rfl ⟨⟨_, rfl, ?_⟩, ⟨_, rfl, ?_⟩, trivial⟩
          ·(first | (apply qb; exact rfl; exact hob1; exact rfl; exact hfd) | (apply qb; exact rfl; exact hob2; exact rfl; exact hfd))
           apply qa
           refine qc [8, 10] (by kernel_rfl) rfl ⟨⟨_, rfl, ?_⟩, ⟨_, rfl, ?_⟩, trivial⟩
           ·(apply ql (b := st.length + 1) (st := S1 ++ [AObj.cells 0 69 []]) (sz := 2) (xs := []) (ys := e.fields.map fldA) (bytes := 32); (iterate 5 exact rfl); exact ⟨⟨_, _, rfl, rfl, rfl, rfl, rfl⟩⟩; exact j8 _ _ _ _ _ _ _; omega; exact qy fun _ => rfl; (simp [maxLen]; omega); (simp; omega); intro c3 st3 t3 g1 g2 g3 g4; have ht3 := g4.resolve_left nofun; have hob3 := (g2.same (st.length + 0) (by omega) (by omega)).trans hob2; have hbx3 := (g2.same (S.length + 0) (by omega) (by omega)).trans hbx2; have hlow3 := fun j hj => (g2.same j (by omega) (by omega)).trans (hlow2 j hj); have hl3 := g2.len)
            apply qa
            refine qc [10] (by kernel_rfl) rfl ⟨⟨_, rfl, ?_⟩, trivial⟩
            (apply qj; (iterate 9 exact rfl))
            apply qa
            refine qc [11] (by kernel_rfl) rfl ⟨⟨_, rfl, ?_⟩, trivial⟩
            (apply ql (b := st.length + 1) (st := st3) (sz := 2) (xs := e.fields.map fldA) (ys := [fldA (fk, fv)]) (bytes := 32); (iterate 5 exact rfl); exact ⟨⟨_, _, rfl, rfl, rfl, rfl, rfl⟩⟩; exact g1; omega; exact rfl; (simp [maxLen]; omega); (simp; omega); intro c4 st4 t4 k1 k2 k3 k4; have hob4 := (k2.same (st.length + 0) (by omega) (by omega)).trans hob3; have hlow4 := fun j hj => (k2.same j (by omega) (by omega)).trans (hlow3 j hj); have k1' : TipO (st.length + 1) st4 2 69 ((e.fields ++ [(fk, fv)]).map fldA) c4 := by simpa using k1)
            apply qa
            refine qc [12] (by kernel_rfl) rfl ⟨⟨_, rfl, ?_⟩, trivial⟩
            (apply zl (n := n); (iterate 4 exact rfl); omega; omega)
            apply qa
            (apply qo 13; exact rfl; kernel_rfl; kernel_rfl; kernel_rfl; exact rfl; (first | (apply qq; (iterate 3 exact rfl)) | (apply qp; (iterate 4 exact rfl))))
            refine qc [14] (by kernel_rfl) rfl ⟨⟨_, rfl, ?_⟩, trivial⟩
            (refine zi 69 (x := c4) (r := jd (e.fields ++ [(fk, fv)])) rfl (je k1') ?_; apply qm; exact rfl; exact rfl; exact hob4; (iterate 5 exact rfl); exact hfit)
            apply qa
            refine zj (by kernel_rfl) ?_
            exact ⟨rfl, ⟨rfl, rfl, rfl, rfl, trivial⟩, _, by rw [hadd]; exact hvs _, jo (fun j hj => (zv (by omega)).trans (hlow4 j hj)) (zn hob4)⟩
           ·(apply qj; (iterate 9 exact rfl))
            apply qa
            refine qc [8] (by kernel_rfl) rfl ⟨⟨_, rfl, ?_⟩, trivial⟩
            (apply ql (b := st.length + 1) (st := S1 ++ [AObj.cells 0 69 []]) (sz := 2) (xs := []) (ys := e.fields.map fldA) (bytes := 32); (iterate 5 exact rfl); exact ⟨⟨_, _, rfl, rfl, rfl, rfl, rfl⟩⟩; exact j8 _ _ _ _ _ _ _; omega; exact qy fun _ => rfl; (simp [maxLen]; omega); (simp; omega); intro c3 st3 t3 g1 g2 g3 g4; have ht3 := g4.resolve_left nofun; have hob3 := (g2.same (st.length + 0) (by omega) (by omega)).trans hob2; have hbx3 := (g2.same (S.length + 0) (by omega) (by omega)).trans hbx2; have hlow3 := fun j hj => (g2.same j (by omega) (by omega)).trans (hlow2 j hj); have hl3 := g2.len)
            apply qa
            refine qc [11] (by kernel_rfl) rfl ⟨⟨_, rfl, ?_⟩, trivial⟩
            (apply ql (b := st.length + 1) (st := st3) (sz := 2) (xs := e.fields.map fldA) (ys := [fldA (fk, fv)]) (bytes := 32); (iterate 5 exact rfl); exact ⟨⟨_, _, rfl, rfl, rfl, rfl, rfl⟩⟩; exact g1; omega; exact rfl; (simp [maxLen]; omega); (simp; omega); intro c4 st4 t4 k1 k2 k3 k4; have hob4 := (k2.same (st.length + 0) (by omega) (by omega)).trans hob3; have hlow4 := fun j hj => (k2.same j (by omega) (by omega)).trans (hlow3 j hj); have k1' : TipO (st.length + 1) st4 2 69 ((e.fields ++ [(fk, fv)]).map fldA) c4 := by simpa using k1)
            apply qa
            refine qc [12] (by kernel_rfl) rfl ⟨⟨_, rfl, ?_⟩, trivial⟩
            (apply zl (n := n); (iterate 4 exact rfl); omega; omega)
            apply qa
            (apply qo 13; exact rfl; kernel_rfl; kernel_rfl; kernel_rfl; exact rfl; (first | (apply qq; (iterate 3 exact rfl)) | (apply qp; (iterate 4 exact rfl))))
            refine qc [14] (by kernel_rfl) rfl ⟨⟨_, rfl, ?_⟩, trivial⟩
            (refine zi 69 (x := c4) (r := jd (e.fields ++ [(fk, fv)])) rfl (je k1') ?_; apply qm; exact rfl; exact rfl; exact hob4; (iterate 5 exact rfl); exact hfit)
            apply qa
            refine zj (by kernel_rfl) ?_
            exact ⟨rfl, ⟨rfl, rfl, rfl, rfl, trivial⟩, _, by rw [hadd]; exact hvs _, jo (fun j hj => (zv (by omega)).trans (hlow4 j hj)) (zn hob4)⟩
          ·(apply qj; (iterate 9 exact rfl))
           apply qa
           refine qc [7] (by kernel_rfl) rfl ⟨⟨_, rfl, ?_⟩, trivial⟩
           (first | (apply qb; exact rfl; exact hob1; exact rfl; exact hfd) | (apply qb; exact rfl; exact hob2; exact rfl; exact hfd))
           apply qa
           refine qc [8] (by kernel_rfl) rfl ⟨⟨_, rfl, ?_⟩, trivial⟩
           (apply ql (b := st.length + 1) (st := S1 ++ [AObj.cells 0 69 []]) (sz := 2) (xs := []) (ys := e.fields.map fldA) (bytes := 32); (iterate 5 exact rfl); exact ⟨⟨_, _, rfl, rfl, rfl, rfl, rfl⟩⟩; exact j8 _ _ _ _ _ _ _; omega; exact qy fun _ => rfl; (simp [maxLen]; omega); (simp; omega); intro c3 st3 t3 g1 g2 g3 g4; have ht3 := g4.resolve_left nofun; have hob3 := (g2.same (st.length + 0) (by omega) (by omega)).trans hob2; have hbx3 := (g2.same (S.length + 0) (by omega) (by omega)).trans hbx2; have hlow3 := fun j hj => (g2.same j (by omega) (by omega)).trans (hlow2 j hj); have hl3 := g2.len)
           apply qa
           refine qc [11] (by kernel_rfl) rfl ⟨⟨_, rfl, ?_⟩, trivial⟩
           (apply ql (b := st.length + 1) (st := st3) (sz := 2) (xs := e.fields.map fldA) (ys := [fldA (fk, fv)]) (bytes := 32); (iterate 5 exact rfl); exact ⟨⟨_, _, rfl, rfl, rfl, rfl, rfl⟩⟩; exact g1; omega; exact rfl; (simp [maxLen]; omega); (simp; omega); intro c4 st4 t4 k1 k2 k3 k4; have hob4 := (k2.same (st.length + 0) (by omega) (by omega)).trans hob3; have hlow4 := fun j hj => (k2.same j (by omega) (by omega)).trans (hlow3 j hj); have k1' : TipO (st.length + 1) st4 2 69 ((e.fields ++ [(fk, fv)]).map fldA) c4 := by simpa using k1)
           apply qa
           refine qc [12] (by kernel_rfl) rfl ⟨⟨_, rfl, ?_⟩, trivial⟩
           (apply zl (n := n); (iterate 4 exact rfl); omega; omega)
           apply qa
           (apply qo 13; exact rfl; kernel_rfl; kernel_rfl; kernel_rfl; exact rfl; (first | (apply qq; (iterate 3 exact rfl)) | (apply qp; (iterate 4 exact rfl))))
           refine qc [14] (by kernel_rfl) rfl ⟨⟨_, rfl, ?_⟩, trivial⟩
           (refine zi 69 (x := c4) (r := jd (e.fields ++ [(fk, fv)])) rfl (je k1') ?_; apply qm; exact rfl; exact rfl; exact hob4; (iterate 5 exact rfl); exact hfit)
           apply qa
           refine zj (by kernel_rfl) ?_
           exact ⟨rfl, ⟨rfl, rfl, rfl, rfl, trivial⟩, _, by rw [hadd]; exact hvs _, jo (fun j hj => (zv (by omega)).trans (hlow4 j hj)) (zn hob4)⟩
         ·(apply qj; (iterate 9 exact rfl))
          apply qa
          refine qc [5] (by kernel_rfl) rfl ⟨⟨_, rfl, ?_⟩, trivial⟩
          (apply zl (n := n); (iterate 4 exact rfl); omega; omega)
          apply qa
          (apply qo 6; exact rfl; kernel_rfl; kernel_rfl; kernel_rfl; exact rfl; (first | (apply qq; (iterate 3 exact rfl)) | (apply qp; (iterate 4 exact rfl))))
          refine qc [7] (by kernel_rfl) rfl ⟨⟨_, rfl, ?_⟩, trivial⟩
          (first | (apply qb; exact rfl; exact hob1; exact rfl; exact hfd) | (apply qb; exact rfl; exact hob2; exact rfl; exact hfd))
          apply qa
          refine qc [8] (by kernel_rfl) rfl ⟨⟨_, rfl, ?_⟩, trivial⟩
          (apply ql (b := st.length + 1) (st := S1 ++ [AObj.cells 0 69 []]) (sz := 2) (xs := []) (ys := e.fields.map fldA) (bytes := 32); (iterate 5 exact rfl); exact ⟨⟨_, _, rfl, rfl, rfl, rfl, rfl⟩⟩; exact j8 _ _ _ _ _ _ _; omega; exact qy fun _ => rfl; (simp [maxLen]; omega); (simp; omega); intro c3 st3 t3 g1 g2 g3 g4; have ht3 := g4.resolve_left nofun; have hob3 := (g2.same (st.length + 0) (by omega) (by omega)).trans hob2; have hbx3 := (g2.same (S.length + 0) (by omega) (by omega)).trans hbx2; have hlow3 := fun j hj => (g2.same j (by omega) (by omega)).trans (hlow2 j hj); have hl3 := g2.len)
          apply qa
          refine qc [11] (by kernel_rfl) rfl ⟨⟨_, rfl, ?_⟩, trivial⟩
          (apply ql (b := st.length + 1) (st := st3) (sz := 2) (xs := e.fields.map fldA) (ys := [fldA (fk, fv)]) (bytes := 32); (iterate 5 exact rfl); exact ⟨⟨_, _, rfl, rfl, rfl, rfl, rfl⟩⟩; exact g1; omega; exact rfl; (simp [maxLen]; omega); (simp; omega); intro c4 st4 t4 k1 k2 k3 k4; have hob4 := (k2.same (st.length + 0) (by omega) (by omega)).trans hob3; have hlow4 := fun j hj => (k2.same j (by omega) (by omega)).trans (hlow3 j hj); have k1' : TipO (st.length + 1) st4 2 69 ((e.fields ++ [(fk, fv)]).map fldA) c4 := by simpa using k1)
          apply qa
          refine qc [12] (by kernel_rfl) rfl ⟨⟨_, rfl, ?_⟩, trivial⟩
          (apply zl (n := n); (iterate 4 exact rfl); omega; omega)
          apply qa
          (apply qo 13; exact rfl; kernel_rfl; kernel_rfl; kernel_rfl; exact rfl; (first | (apply qq; (iterate 3 exact rfl)) | (apply qp; (iterate 4 exact rfl))))
          refine qc [14] (by kernel_rfl) rfl ⟨⟨_, rfl, ?_⟩, trivial⟩
          (refine zi 69 (x := c4) (r := jd (e.fields ++ [(fk, fv)])) rfl (je k1') ?_; apply qm; exact rfl; exact rfl; exact hob4; (iterate 5 exact rfl); exact hfit)
          apply qa
          refine zj (by kernel_rfl) ?_
          exact ⟨rfl, ⟨rfl, rfl, rfl, rfl, trivial⟩, _, by rw [hadd]; exact hvs _, jo (fun j hj => (zv (by omega)).trans (hlow4 j hj)) (zn hob4)⟩
        ·(apply zl (n := n); (iterate 4 exact rfl); omega; omega)
         apply qa
         (apply qo 6; exact rfl; kernel_rfl; kernel_rfl; kernel_rfl; exact rfl; (first | (apply qq; (iterate 3 exact rfl)) | (apply qp; (iterate 4 exact rfl))))
         refine qc [2, 7, 10] (by kernel_rfl) rfl ⟨⟨_, rfl, ?_⟩, ⟨_, rfl, ?_⟩, ⟨_, rfl, ?_⟩, trivial⟩
         ·(apply j5 (st := S1) (len := 0); (iterate 6 exact rfl))
          apply qa
          refine qc [7, 10] (by kernel_rfl) rfl ⟨⟨_, rfl, ?_⟩, ⟨_, rfl, ?_⟩, trivial⟩
          ·(first | (apply qb; exact rfl; exact hob1; exact rfl; exact hfd) | (apply qb; exact rfl; exact hob2; exact rfl; exact hfd))
           apply qa
           refine qc [8, 10] (by kernel_rfl) rfl ⟨⟨_, rfl, ?_⟩, ⟨_, rfl, ?_⟩, trivial⟩
           ·(apply ql (b := st.length + 1) (st := S1 ++ [AObj.cells 0 69 []]) (sz := 2) (xs := []) (ys := e.fields.map fldA) (bytes := 32); (iterate 5 exact rfl); exact ⟨⟨_, _, rfl, rfl, rfl, rfl, rfl⟩⟩; exact j8 _ _ _ _ _ _ _; omega; exact qy fun _ => rfl; (simp [maxLen]; omega); (simp; omega); intro c3 st3 t3 g1 g2 g3 g4; have ht3 := g4.resolve_left nofun; have hob3 := (g2.same (st.length + 0) (by omega) (by omega)).trans hob2; have hbx3 := (g2.same (S.length + 0) (by omega) (by omega)).trans hbx2; have hlow3 := fun j hj => (g2.same j (by omega) (by omega)).trans (hlow2 j hj); have hl3 := g2.len)
            apply qa
            refine qc [10] (by kernel_rfl) rfl ⟨⟨_, rfl, ?_⟩, trivial⟩
            (apply qj; (iterate 9 exact rfl))
            apply qa
            refine qc [11] (by kernel_rfl) rfl ⟨⟨_, rfl, ?_⟩, trivial⟩
            (apply ql (b := st.length + 1) (st := st3) (sz := 2) (xs := e.fields.map fldA) (ys := [fldA (fk, fv)]) (bytes := 32); (iterate 5 exact rfl); exact ⟨⟨_, _, rfl, rfl, rfl, rfl, rfl⟩⟩; exact g1; omega; exact rfl; (simp [maxLen]; omega); (simp; omega); intro c4 st4 t4 k1 k2 k3 k4; have hob4 := (k2.same (st.length + 0) (by omega) (by omega)).trans hob3; have hlow4 := fun j hj => (k2.same j (by omega) (by omega)).trans (hlow3 j hj); have k1' : TipO (st.length + 1) st4 2 69 ((e.fields ++ [(fk, fv)]).map fldA) c4 := by simpa using k1)
            apply qa
            refine qc [12] (by kernel_rfl) rfl ⟨⟨_, rfl, ?_⟩, trivial⟩
            (apply zl (n := n); (iterate 4 exact rfl); omega; omega)
            apply qa
            (apply qo 13; exact rfl; kernel_rfl; kernel_rfl; kernel_rfl; exact rfl; (first | (apply qq; (iterate 3 exact rfl)) | (apply qp; (iterate 4 exact rfl))))
            refine qc [14] (by kernel_rfl) rfl ⟨⟨_, rfl, ?_⟩, trivial⟩
            (refine zi 69 (x := c4) (r := jd (e.fields ++ [(fk, fv)])) rfl (je k1') ?_; apply qm; exact rfl; exact rfl; exact hob4; (iterate 5 exact rfl); exact hfit)
            apply qa
            refine zj (by kernel_rfl) ?_
            exact ⟨rfl, ⟨rfl, rfl, rfl, rfl, trivial⟩, _, by rw [hadd]; exact hvs _, jo (fun j hj => (zv (by omega)).trans (hlow4 j hj)) (zn hob4)⟩
           ·(apply qj; (iterate 9 exact rfl))
            apply qa
            refine qc [8] (by kernel_rfl) rfl ⟨⟨_, rfl, ?_⟩, trivial⟩
            (apply ql (b := st.length + 1) (st := S1 ++ [AObj.cells 0 69 []]) (sz := 2) (xs := []) (ys := e.fields.map fldA) (bytes := 32); (iterate 5 exact rfl); exact ⟨⟨_, _, rfl, rfl, rfl, rfl, rfl⟩⟩; exact j8 _ _ _ _ _ _ _; omega; exact qy fun _ => rfl; (simp [maxLen]; omega); (simp; omega); intro c3 st3 t3 g1 g2 g3 g4; have ht3 := g4.resolve_left nofun; have hob3 := (g2.same (st.length + 0) (by omega) (by omega)).trans hob2; have hbx3 := (g2.same (S.length + 0) (by omega) (by omega)).trans hbx2; have hlow3 := fun j hj => (g2.same j (by omega) (by omega)).trans (hlow2 j hj); have hl3 := g2.len)
            apply qa
            refine qc [11] (by kernel_rfl) rfl ⟨⟨_, rfl, ?_⟩, trivial⟩
            (apply ql (b := st.length + 1) (st := st3) (sz := 2) (xs := e.fields.map fldA) (ys := [fldA (fk, fv)]) (bytes := 32); (iterate 5 exact rfl); exact ⟨⟨_, _, rfl, rfl, rfl, rfl, rfl⟩⟩; exact g1; omega; exact rfl; (simp [maxLen]; omega); (simp; omega); intro c4 st4 t4 k1 k2 k3 k4; have hob4 := (k2.same (st.length + 0) (by omega) (by omega)).trans hob3; have hlow4 := fun j hj => (k2.same j (by omega) (by omega)).trans (hlow3 j hj); have k1' : TipO (st.length + 1) st4 2 69 ((e.fields ++ [(fk, fv)]).map fldA) c4 := by simpa using k1)
            apply qa
            refine qc [12] (by kernel_rfl) rfl ⟨⟨_, rfl, ?_⟩, trivial⟩
            (apply zl (n := n); (iterate 4 exact rfl); omega; omega)
            apply qa
            (apply qo 13; exact rfl; kernel_rfl; kernel_rfl; kernel_rfl; exact rfl; (first | (apply qq; (iterate 3 exact rfl)) | (apply qp; (iterate 4 exact rfl))))
            refine qc [14] (by kernel_rfl) rfl ⟨⟨_, rfl, ?_⟩, trivial⟩
            (refine zi 69 (x := c4) (r := jd (e.fields ++ [(fk, fv)])) rfl (je k1') ?_; apply qm; exact rfl; exact rfl; exact hob4; (iterate 5 exact rfl); exact hfit)
            apply qa
            refine zj (by kernel_rfl) ?_
            exact ⟨rfl, ⟨rfl, rfl, rfl, rfl, trivial⟩, _, by rw [hadd]; exact hvs _, jo (fun j hj => (zv (by omega)).trans (hlow4 j hj)) (zn hob4)⟩
          ·(apply qj; (iterate 9 exact rfl))
           apply qa
           refine qc [7] (by kernel_rfl) rfl ⟨⟨_, rfl, ?_⟩, trivial⟩
           (first | (apply qb; exact rfl; exact hob1; exact rfl; exact hfd) | (apply qb; exact rfl; exact hob2; exact rfl; exact hfd))
           apply qa
           refine qc [8] (by kernel_rfl) rfl ⟨⟨_, rfl, ?_⟩, trivial⟩
           (apply ql (b := st.length + 1) (st := S1 ++ [AObj.cells 0 69 []]) (sz := 2) (xs := []) (ys := e.fields.map fldA) (bytes := 32); (iterate 5 exact rfl); exact ⟨⟨_, _, rfl, rfl, rfl, rfl, rfl⟩⟩; exact j8 _ _ _ _ _ _ _; omega; exact qy fun _ => rfl; (simp [maxLen]; omega); (simp; omega); intro c3 st3 t3 g1 g2 g3 g4; have ht3 := g4.resolve_left nofun; have hob3 := (g2.same (st.length + 0) (by omega) (by omega)).trans hob2; have hbx3 := (g2.same (S.length + 0) (by omega) (by omega)).trans hbx2; have hlow3 := fun j hj => (g2.same j (by omega) (by omega)).trans (hlow2 j hj); have hl3 := g2.len)
           apply qa
           refine qc [11] (by kernel_rfl) rfl ⟨⟨_, rfl, ?_⟩, trivial⟩
           (apply ql (b := st.length + 1) (st := st3) (sz := 2) (xs := e.fields.map fldA) (ys := [fldA (fk, fv)]) (bytes := 32); (iterate 5 exact rfl); exact ⟨⟨_, _, rfl, rfl, rfl, rfl, rfl⟩⟩; exact g1; omega; exact rfl; (simp [maxLen]; omega); (simp; omega); intro c4 st4 t4 k1 k2 k3 k4; have hob4 := (k2.same (st.length + 0) (by omega) (by omega)).trans hob3; have hlow4 := fun j hj => (k2.same j (by omega) (by omega)).trans (hlow3 j hj); have k1' : TipO (st.length + 1) st4 2 69 ((e.fields ++ [(fk, fv)]).map fldA) c4 := by simpa using k1)
           apply qa
           refine qc [12] (by kernel_rfl) rfl ⟨⟨_, rfl, ?_⟩, trivial⟩
           (apply zl (n := n); (iterate 4 exact rfl); omega; omega)
           apply qa
           (apply qo 13; exact rfl; kernel_rfl; kernel_rfl; kernel_rfl; exact rfl; (first | (apply qq; (iterate 3 exact rfl)) | (apply qp; (iterate 4 exact rfl))))
           refine qc [14] (by kernel_rfl) rfl ⟨⟨_, rfl, ?_⟩, trivial⟩
           (refine zi 69 (x := c4) (r := jd (e.fields ++ [(fk, fv)])) rfl (je k1') ?_; apply qm; exact rfl; exact rfl; exact hob4; (iterate 5 exact rfl); exact hfit)
           apply qa
           refine zj (by kernel_rfl) ?_
           exact ⟨rfl, ⟨rfl, rfl, rfl, rfl, trivial⟩, _, by rw [hadd]; exact hvs _, jo (fun j hj => (zv (by omega)).trans (hlow4 j hj)) (zn hob4)⟩
         ·(first | (apply qb; exact rfl; exact hob1; exact rfl; exact hfd) | (apply qb; exact rfl; exact hob2; exact rfl; exact hfd))
          apply qa
          refine qc [2, 10] (by kernel_rfl) rfl ⟨⟨_, rfl, ?_⟩, ⟨_, rfl, ?_⟩, trivial⟩
          ·(apply j5 (st := S1) (len := 0); (iterate 6 exact rfl))
           apply qa
           refine qc [8, 10] (by kernel_rfl) rfl ⟨⟨_, rfl, ?_⟩, ⟨_, rfl, ?_⟩, trivial⟩
           ·(apply ql (b := st.length + 1) (st := S1 ++ [AObj.cells 0 69 []]) (sz := 2) (xs := []) (ys := e.fields.map fldA) (bytes := 32); (iterate 5 exact rfl); exact ⟨⟨_, _, rfl, rfl, rfl, rfl, rfl⟩⟩; exact j8 _ _ _ _ _ _ _; omega; exact qy fun _ => rfl; (simp [maxLen]; omega); (simp; omega); intro c3 st3 t3 g1 g2 g3 g4; have ht3 := g4.resolve_left nofun; have hob3 := (g2.same (st.length + 0) (by omega) (by omega)).trans hob2; have hbx3 := (g2.same (S.length + 0) (by omega) (by omega)).trans hbx2; have hlow3 := fun j hj => (g2.same j (by omega) (by omega)).trans (hlow2 j hj); have hl3 := g2.len)
            apply qa
            refine qc [10] (by kernel_rfl) rfl ⟨⟨_, rfl, ?_⟩, trivial⟩
            (apply qj; (iterate 9 exact rfl))
            apply qa
            refine qc [11] (by kernel_rfl) rfl ⟨⟨_, rfl, ?_⟩, trivial⟩
            (apply ql (b := st.length + 1) (st := st3) (sz := 2) (xs := e.fields.map fldA) (ys := [fldA (fk, fv)]) (bytes := 32); (iterate 5 exact rfl); exact ⟨⟨_, _, rfl, rfl, rfl, rfl, rfl⟩⟩; exact g1; omega; exact rfl; (simp [maxLen]; omega); (simp; omega); intro c4 st4 t4 k1 k2 k3 k4; have hob4 := (k2.same (st.length + 0) (by omega) (by omega)).trans hob3; have hlow4 := fun j hj => (k2.same j (by omega) (by omega)).trans (hlow3 j hj); have k1' : TipO (st.length + 1) st4 2 69 ((e.fields ++ [(fk, fv)]).map fldA) c4 := by simpa using k1)
            apply qa
            refine qc [12] (by kernel_rfl) rfl ⟨⟨_, rfl, ?_⟩, trivial⟩
            (apply zl (n := n); (iterate 4 exact rfl); omega; omega)
            apply qa
            (apply qo 13; exact rfl; kernel_rfl; kernel_rfl; kernel_rfl; exact rfl; (first | (apply qq; (iterate 3 exact rfl)) | (apply qp; (iterate 4 exact rfl))))
            refine qc [14] (by kernel_rfl) rfl ⟨⟨_, rfl, ?_⟩, trivial⟩
            (refine zi 69 (x := c4) (r := jd (e.fields ++ [(fk, fv)])) rfl (je k1') ?_; apply qm; exact rfl; exact rfl; exact hob4; (iterate 5 exact rfl); exact hfit)
            apply qa
            refine zj (by kernel_rfl) ?_
            exact ⟨rfl, ⟨rfl, rfl, rfl, rfl, trivial⟩, _, by rw [hadd]; exact hvs _, jo (fun j hj => (zv (by omega)).trans (hlow4 j hj)) (zn hob4)⟩
           ·(apply qj; (iterate 9 exact rfl))
            apply qa
            refine qc [8] (by kernel_rfl) rfl ⟨⟨_, rfl, ?_⟩, trivial⟩
            (apply ql (b := st.length + 1) (st := S1 ++ [AObj.cells 0 69 []]) (sz := 2) (xs := []) (ys := e.fields.map fldA) (bytes := 32); (iterate 5 exact rfl); exact ⟨⟨_, _, rfl, rfl, rfl, rfl, rfl⟩⟩; exact j8 _ _ _ _ _ _ _; omega; exact qy fun _ => rfl; (simp [maxLen]; omega); (simp; omega); intro c3 st3 t3 g1 g2 g3 g4; have ht3 := g4.resolve_left nofun; have hob3 := (g2.same (st.length + 0) (by omega) (by omega)).trans hob2; have hbx3 := (g2.same (S.length + 0) (by omega) (by omega)).trans hbx2; have hlow3 := fun j hj => (g2.same j (by omega) (by omega)).trans (hlow2 j hj); have hl3 := g2.len)
            apply qa
            refine qc [11] (by kernel_rfl) rfl ⟨⟨_, rfl, ?_⟩, trivial⟩
            (apply ql (b := st.length + 1) (st := st3) (sz := 2) (xs := e.fields.map fldA) (ys := [fldA (fk, fv)]) (bytes := 32); (iterate 5 exact rfl); exact ⟨⟨_, _, rfl, rfl, rfl, rfl, rfl⟩⟩; exact g1; omega; exact rfl; (simp [maxLen]; omega); (simp; omega); intro c4 st4 t4 k1 k2 k3 k4; have hob4 := (k2.same (st.length + 0) (by omega) (by omega)).trans hob3; have hlow4 := fun j hj => (k2.same j (by omega) (by omega)).trans (hlow3 j hj); have k1' : TipO (st.length + 1) st4 2 69 ((e.fields ++ [(fk, fv)]).map fldA) c4 := by simpa using k1)
            apply qa
            refine qc [12] (by kernel_rfl) rfl ⟨⟨_, rfl, ?_⟩, trivial⟩
            (apply zl (n := n); (iterate 4 exact rfl); omega; omega)
            apply qa
            (apply qo 13; exact rfl; kernel_rfl; kernel_rfl; kernel_rfl; exact rfl; (first | (apply qq; (iterate 3 exact rfl)) | (apply qp; (iterate 4 exact rfl))))
            refine qc [14] (by kernel_rfl) rfl ⟨⟨_, rfl, ?_⟩, trivial⟩
            (refine zi 69 (x := c4) (r := jd (e.fields ++ [(fk, fv)])) rfl (je k1') ?_; apply qm; exact rfl; exact rfl; exact hob4; (iterate 5 exact rfl); exact hfit)
            apply qa
            refine zj (by kernel_rfl) ?_
            exact ⟨rfl, ⟨rfl, rfl, rfl, rfl, trivial⟩, _, by rw [hadd]; exact hvs _, jo (fun j hj => (zv (by omega)).trans (hlow4 j hj)) (zn hob4)⟩
          ·(apply qj; (iterate 9 exact rfl))
           apply qa
           refine qc [2] (by kernel_rfl) rfl ⟨⟨_, rfl, ?_⟩, trivial⟩
           (apply j5 (st := S1) (len := 0); (iterate 6 exact rfl))
           apply qa
           refine qc [8] (by kernel_rfl) rfl ⟨⟨_, rfl, ?_⟩, trivial⟩
           (apply ql (b := st.length + 1) (st := S1 ++ [AObj.cells 0 69 []]) (sz := 2) (xs := []) (ys := e.fields.map fldA) (bytes := 32); (iterate 5 exact rfl); exact ⟨⟨_, _, rfl, rfl, rfl, rfl, rfl⟩⟩; exact j8 _ _ _ _ _ _ _; omega; exact qy fun _ => rfl; (simp [maxLen]; omega); (simp; omega); intro c3 st3 t3 g1 g2 g3 g4; have ht3 := g4.resolve_left nofun; have hob3 := (g2.same (st.length + 0) (by omega) (by omega)).trans hob2; have hbx3 := (g2.same (S.length + 0) (by omega) (by omega)).trans hbx2; have hlow3 := fun j hj => (g2.same j (by omega) (by omega)).trans (hlow2 j hj); have hl3 := g2.len)
           apply qa
           refine qc [11] (by kernel_rfl) rfl ⟨⟨_, rfl, ?_⟩, trivial⟩
           (apply ql (b := st.length + 1) (st := st3) (sz := 2) (xs := e.fields.map fldA) (ys := [fldA (fk, fv)]) (bytes := 32); (iterate 5 exact rfl); exact ⟨⟨_, _, rfl, rfl, rfl, rfl, rfl⟩⟩; exact g1; omega; exact rfl; (simp [maxLen]; omega); (simp; omega); intro c4 st4 t4 k1 k2 k3 k4; have hob4 := (k2.same (st.length + 0) (by omega) (by omega)).trans hob3; have hlow4 := fun j hj => (k2.same j (by omega) (by omega)).trans (hlow3 j hj); have k1' : TipO (st.length + 1) st4 2 69 ((e.fields ++ [(fk, fv)]).map fldA) c4 := by simpa using k1)
           apply qa
           refine qc [12] (by kernel_rfl) rfl ⟨⟨_, rfl, ?_⟩, trivial⟩
           (apply zl (n := n); (iterate 4 exact rfl); omega; omega)
           apply qa
           (apply qo 13; exact rfl; kernel_rfl; kernel_rfl; kernel_rfl; exact rfl; (first | (apply qq; (iterate 3 exact rfl)) | (apply qp; (iterate 4 exact rfl))))
           refine qc [14] (by kernel_rfl) rfl ⟨⟨_, rfl, ?_⟩, trivial⟩
           (refine zi 69 (x := c4) (r := jd (e.fields ++ [(fk, fv)])) rfl (je k1') ?_; apply qm; exact rfl; exact rfl; exact hob4; (iterate 5 exact rfl); exact hfit)
           apply qa
           refine zj (by kernel_rfl) ?_
           exact ⟨rfl, ⟨rfl, rfl, rfl, rfl, trivial⟩, _, by rw [hadd]; exact hvs _, jo (fun j hj => (zv (by omega)).trans (hlow4 j hj)) (zn hob4)⟩
         ·(apply qj; (iterate 9 exact rfl))
          apply qa
          refine qc [2, 7] (by kernel_rfl) rfl ⟨⟨_, rfl, ?_⟩, ⟨_, rfl, ?_⟩, trivial⟩
          ·(apply j5 (st := S1) (len := 0); (iterate 6 exact rfl))
           apply qa
           refine qc [7] (by kernel_rfl) rfl ⟨⟨_, rfl, ?_⟩, trivial⟩
           (first | (apply qb; exact rfl; exact hob1; exact rfl; exact hfd) | (apply qb; exact rfl; exact hob2; exact rfl; exact hfd))
           apply qa
           refine qc [8] (by kernel_rfl) rfl ⟨⟨_, rfl, ?_⟩, trivial⟩
           (apply ql (b := st.length + 1) (st := S1 ++ [AObj.cells 0 69 []]) (sz := 2) (xs := []) (ys := e.fields.map fldA) (bytes := 32); (iterate 5 exact rfl); exact ⟨⟨_, _, rfl, rfl, rfl, rfl, rfl⟩⟩; exact j8 _ _ _ _ _ _ _; omega; exact qy fun _ => rfl; (simp [maxLen]; omega); (simp; omega); intro c3 st3 t3 g1 g2 g3 g4; have ht3 := g4.resolve_left nofun; have hob3 := (g2.same (st.length + 0) (by omega) (by omega)).trans hob2; have hbx3 := (g2.same (S.length + 0) (by omega) (by omega)).trans hbx2; have hlow3 := fun j hj => (g2.same j (by omega) (by omega)).trans (hlow2 j hj); have hl3 := g2.len)
           apply qa
           refine qc [11] (by kernel_rfl) rfl ⟨⟨_, rfl, ?_⟩, trivial⟩
           (apply ql (b := st.length + 1) (st := st3) (sz := 2) (xs := e.fields.map fldA) (ys := [fldA (fk, fv)]) (bytes := 32); (iterate 5 exact rfl); exact ⟨⟨_, _, rfl, rfl, rfl, rfl, rfl⟩⟩; exact g1; omega; exact rfl; (simp [maxLen]; omega); (simp; omega); intro c4 st4 t4 k1 k2 k3 k4; have hob4 := (k2.same (st.length + 0) (by omega) (by omega)).trans hob3; have hlow4 := fun j hj => (k2.same j (by omega) (by omega)).trans (hlow3 j hj); have k1' : TipO (st.length + 1) st4 2 69 ((e.fields ++ [(fk, fv)]).map fldA) c4 := by simpa using k1)
           apply qa
           refine qc [12] (by kernel_rfl) rfl ⟨⟨_, rfl, ?_⟩, trivial⟩
           (apply zl (n := n); (iterate 4 exact rfl); omega; omega)
           apply qa
           (apply qo 13; exact rfl; kernel_rfl; kernel_rfl; kernel_rfl; exact rfl; (first | (apply qq; (iterate 3 exact rfl)) | (apply qp; (iterate 4 exact rfl))))
           refine qc [14] (by kernel_rfl) rfl ⟨⟨_, rfl, ?_⟩, trivial⟩
           (refine zi 69 (x := c4) (r := jd (e.fields ++ [(fk, fv)])) rfl (je k1') ?_; apply qm; exact rfl; exact rfl; exact hob4; (iterate 5 exact rfl); exact hfit)
           apply qa
           refine zj (by kernel_rfl) ?_
           exact ⟨rfl, ⟨rfl, rfl, rfl, rfl, trivial⟩, _, by rw [hadd]; exact hvs _, jo (fun j hj => (zv (by omega)).trans (hlow4 j hj)) (zn hob4)⟩
          ·(first | (apply qb; exact rfl; exact hob1; exact rfl; exact hfd) | (apply qb; exact rfl; exact hob2; exact rfl; exact hfd))
           apply qa
           refine qc [2] (by kernel_rfl) rfl ⟨⟨_, rfl, ?_⟩, trivial⟩
           (apply j5 (st := S1) (len := 0); (iterate 6 exact rfl))
           apply qa
           refine qc [8] (by kernel_rfl) rfl ⟨⟨_, rfl, ?_⟩, trivial⟩
           (apply ql (b := st.length + 1) (st := S1 ++ [AObj.cells 0 69 []]) (sz := 2) (xs := []) (ys := e.fields.map fldA) (bytes := 32); (iterate 5 exact rfl); exact ⟨⟨_, _, rfl, rfl, rfl, rfl, rfl⟩⟩; exact j8 _ _ _ _ _ _ _; omega; exact qy fun _ => rfl; (simp [maxLen]; omega); (simp; omega); intro c3 st3 t3 g1 g2 g3 g4; have ht3 := g4.resolve_left nofun; have hob3 := (g2.same (st.length + 0) (by omega) (by omega)).trans hob2; have hbx3 := (g2.same (S.length + 0) (by omega) (by omega)).trans hbx2; have hlow3 := fun j hj => (g2.same j (by omega) (by omega)).trans (hlow2 j hj); have hl3 := g2.len)
           apply qa
           refine qc [11] (by kernel_rfl) rfl ⟨⟨_, rfl, ?_⟩, trivial⟩
           (apply ql (b := st.length + 1) (st := st3) (sz := 2) (xs := e.fields.map fldA) (ys := [fldA (fk, fv)]) (bytes := 32); (iterate 5 exact rfl); exact ⟨⟨_, _, rfl, rfl, rfl, rfl, rfl⟩⟩; exact g1; omega; exact rfl; (simp [maxLen]; omega); (simp; omega); intro c4 st4 t4 k1 k2 k3 k4; have hob4 := (k2.same (st.length + 0) (by omega) (by omega)).trans hob3; have hlow4 := fun j hj => (k2.same j (by omega) (by omega)).trans (hlow3 j hj); have k1' : TipO (st.length + 1) st4 2 69 ((e.fields ++ [(fk, fv)]).map fldA) c4 := by simpa using k1)
           apply qa
           refine qc [12] (by kernel_rfl) rfl ⟨⟨_, rfl, ?_⟩, trivial⟩
           (apply zl (n := n); (iterate 4 exact rfl); omega; omega)
           apply qa
           (apply qo 13; exact rfl; kernel_rfl; kernel_rfl; kernel_rfl; exact rfl; (first | (apply qq; (iterate 3 exact rfl)) | (apply qp; (iterate 4 exact rfl))))
           refine qc [14] (by kernel_rfl) rfl ⟨⟨_, rfl, ?_⟩, trivial⟩
           (refine zi 69 (x := c4) (r := jd (e.fields ++ [(fk, fv)])) rfl (je k1') ?_; apply qm; exact rfl; exact rfl; exact hob4; (iterate 5 exact rfl); exact hfit)
           apply qa
           refine zj (by kernel_rfl) ?_
           exact ⟨rfl, ⟨rfl, rfl, rfl, rfl, trivial⟩, _, by rw [hadd]; exact hvs _, jo (fun j hj => (zv (by omega)).trans (hlow4 j hj)) (zn hob4)⟩
        ·(apply qj; (iterate 9 exact rfl))
         apply qa
         refine qc [2, 5] (by kernel_rfl) rfl ⟨⟨_, rfl, ?_⟩, ⟨_, rfl, ?_⟩, trivial⟩
         ·(apply j5 (st := S1) (len := 0); (iterate 6 exact rfl))
          apply qa
          refine qc [5] (by kernel_rfl) rfl ⟨⟨_, rfl, ?_⟩, trivial⟩
          (apply zl (n := n); (iterate 4 exact rfl); omega; omega)
          apply qa
          (apply qo 6; exact rfl; kernel_rfl; kernel_rfl; kernel_rfl; exact rfl; (first | (apply qq; (iterate 3 exact rfl)) | (apply qp; (iterate 4 exact rfl))))
          refine qc [7] (by kernel_rfl) rfl ⟨⟨_, rfl, ?_⟩, trivial⟩
          (first | (apply qb; exact rfl; exact hob1; exact rfl; exact hfd) | (apply qb; exact rfl; exact hob2; exact rfl; exact hfd))
          apply qa
          refine qc [8] (by kernel_rfl) rfl ⟨⟨_, rfl, ?_⟩, trivial⟩
          (apply ql (b := st.length + 1) (st := S1 ++ [AObj.cells 0 69 []]) (sz := 2) (xs := []) (ys := e.fields.map fldA) (bytes := 32); (iterate 5 exact rfl); exact ⟨⟨_, _, rfl, rfl, rfl, rfl, rfl⟩⟩; exact j8 _ _ _ _ _ _ _; omega; exact qy fun _ => rfl; (simp [maxLen]; omega); (simp; omega); intro c3 st3 t3 g1 g2 g3 g4; have ht3 := g4.resolve_left nofun; have hob3 := (g2.same (st.length + 0) (by omega) (by omega)).trans hob2; have hbx3 := (g2.same (S.length + 0) (by omega) (by omega)).trans hbx2; have hlow3 := fun j hj => (g2.same j (by omega) (by omega)).trans (hlow2 j hj); have hl3 := g2.len)
          apply qa
          refine qc [11] (by kernel_rfl) rfl ⟨⟨_, rfl, ?_⟩, trivial⟩
          (apply ql (b := st.length + 1) (st := st3) (sz := 2) (xs := e.fields.map fldA) (ys := [fldA (fk, fv)]) (bytes := 32); (iterate 5 exact rfl); exact ⟨⟨_, _, rfl, rfl, rfl, rfl, rfl⟩⟩; exact g1; omega; exact rfl; (simp [maxLen]; omega); (simp; omega); intro c4 st4 t4 k1 k2 k3 k4; have hob4 := (k2.same (st.length + 0) (by omega) (by omega)).trans hob3; have hlow4 := fun j hj => (k2.same j (by omega) (by omega)).trans (hlow3 j hj); have k1' : TipO (st.length + 1) st4 2 69 ((e.fields ++ [(fk, fv)]).map fldA) c4 := by simpa using k1)
          apply qa
          refine qc [12] (by kernel_rfl) rfl ⟨⟨_, rfl, ?_⟩, trivial⟩
          (apply zl (n := n); (iterate 4 exact rfl); omega; omega)
          apply qa
          (apply qo 13; exact rfl; kernel_rfl; kernel_rfl; kernel_rfl; exact rfl; (first | (apply qq; (iterate 3 exact rfl)) | (apply qp; (iterate 4 exact rfl))))
          refine qc [14] (by kernel_rfl) rfl ⟨⟨_, rfl, ?_⟩, trivial⟩
          (refine zi 69 (x := c4) (r := jd (e.fields ++ [(fk, fv)])) rfl (je k1') ?_; apply qm; exact rfl; exact rfl; exact hob4; (iterate 5 exact rfl); exact hfit)
          apply qa
          refine zj (by kernel_rfl) ?_
          exact ⟨rfl, ⟨rfl, rfl, rfl, rfl, trivial⟩, _, by rw [hadd]; exact hvs _, jo (fun j hj => (zv (by omega)).trans (hlow4 j hj)) (zn hob4)⟩
         ·(apply zl (n := n); (iterate 4 exact rfl); omega; omega)
          apply qa
          (apply qo 6; exact rfl; kernel_rfl; kernel_rfl; kernel_rfl; exact rfl; (first | (apply qq; (iterate 3 exact rfl)) | (apply qp; (iterate 4 exact rfl))))
          refine qc [2, 7] (by kernel_rfl) rfl ⟨⟨_, rfl, ?_⟩, ⟨_, rfl, ?_⟩, trivial⟩
          ·(apply j5 (st := S1) (len := 0); (iterate 6 exact rfl))
           apply qa
           refine qc [7] (by kernel_rfl) rfl ⟨⟨_, rfl, ?_⟩, trivial⟩
           (first | (apply qb; exact rfl; exact hob1; exact rfl; exact hfd) | (apply qb; exact rfl; exact hob2; exact rfl; exact hfd))
           apply qa
           refine qc [8] (by kernel_rfl) rfl ⟨⟨_, rfl, ?_⟩, trivial⟩
           (apply ql (b := st.length + 1) (st := S1 ++ [AObj.cells 0 69 []]) (sz := 2) (xs := []) (ys := e.fields.map fldA) (bytes := 32); (iterate 5 exact rfl); exact ⟨⟨_, _, rfl, rfl, rfl, rfl, rfl⟩⟩; exact j8 _ _ _ _ _ _ _; omega; exact qy fun _ => rfl; (simp [maxLen]; omega); (simp; omega); intro c3 st3 t3 g1 g2 g3 g4; have ht3 := g4.resolve_left nofun; have hob3 := (g2.same (st.length + 0) (by omega) (by omega)).trans hob2; have hbx3 := (g2.same (S.length + 0) (by omega) (by omega)).trans hbx2; have hlow3 := fun j hj => (g2.same j (by omega) (by omega)).trans (hlow2 j hj); have hl3 := g2.len)
           apply qa
           refine qc [11] (by kernel_rfl) rfl ⟨⟨_, rfl, ?_⟩, trivial⟩
           (apply ql (b := st.length + 1) (st := st3) (sz := 2) (xs := e.fields.map fldA) (ys := [fldA (fk, fv)]) (bytes := 32); (iterate 5 exact rfl); exact ⟨⟨_, _, rfl, rfl, rfl, rfl, rfl⟩⟩; exact g1; omega; exact rfl; (simp [maxLen]; omega); (simp; omega); intro c4 st4 t4 k1 k2 k3 k4; have hob4 := (k2.same (st.length + 0) (by omega) (by omega)).trans hob3; have hlow4 := fun j hj => (k2.same j (by omega) (by omega)).trans (hlow3 j hj); have k1' : TipO (st.length + 1) st4 2 69 ((e.fields ++ [(fk, fv)]).map fldA) c4 := by simpa using k1)
           apply qa
           refine qc [12] (by kernel_rfl) rfl ⟨⟨_, rfl, ?_⟩, trivial⟩
           (apply zl (n := n); (iterate 4 exact rfl); omega; omega)
           apply qa
           (apply qo 13; exact rfl; kernel_rfl; kernel_rfl; kernel_rfl; exact rfl; (first | (apply qq; (iterate 3 exact rfl)) | (apply qp; (iterate 4 exact rfl))))
           refine qc [14] (by kernel_rfl) rfl ⟨⟨_, rfl, ?_⟩, trivial⟩
           (refine zi 69 (x := c4) (r := jd (e.fields ++ [(fk, fv)])) rfl (je k1') ?_; apply qm; exact rfl; exact rfl; exact hob4; (iterate 5 exact rfl); exact hfit)
           apply qa
           refine zj (by kernel_rfl) ?_
           exact ⟨rfl, ⟨rfl, rfl, rfl, rfl, trivial⟩, _, by rw [hadd]; exact hvs _, jo (fun j hj => (zv (by omega)).trans (hlow4 j hj)) (zn hob4)⟩
          ·(first | (apply qb; exact rfl; exact hob1; exact rfl; exact hfd) | (apply qb; exact rfl; exact hob2; exact rfl; exact hfd))
           apply qa
           refine qc [2] (by kernel_rfl) rfl ⟨⟨_, rfl, ?_⟩, trivial⟩
           (apply j5 (st := S1) (len := 0); (iterate 6 exact rfl))
           apply qa
           refine qc [8] (by kernel_rfl) rfl ⟨⟨_, rfl, ?_⟩, trivial⟩
           (apply ql (b := st.length + 1) (st := S1 ++ [AObj.cells 0 69 []]) (sz := 2) (xs := []) (ys := e.fields.map fldA) (bytes := 32); (iterate 5 exact rfl); exact ⟨⟨_, _, rfl, rfl, rfl, rfl, rfl⟩⟩; exact j8 _ _ _ _ _ _ _; omega; exact qy fun _ => rfl; (simp [maxLen]; omega); (simp; omega); intro c3 st3 t3 g1 g2 g3 g4; have ht3 := g4.resolve_left nofun; have hob3 := (g2.same (st.length + 0) (by omega) (by omega)).trans hob2; have hbx3 := (g2.same (S.length + 0) (by omega) (by omega)).trans hbx2; have hlow3 := fun j hj => (g2.same j (by omega) (by omega)).trans (hlow2 j hj); have hl3 := g2.len)
           apply qa
           refine qc [11] (by kernel_rfl) rfl ⟨⟨_, rfl, ?_⟩, trivial⟩
           (apply ql (b := st.length + 1) (st := st3) (sz := 2) (xs := e.fields.map fldA) (ys := [fldA (fk, fv)]) (bytes := 32); (iterate 5 exact rfl); exact ⟨⟨_, _, rfl, rfl, rfl, rfl, rfl⟩⟩; exact g1; omega; exact rfl; (simp [maxLen]; omega); (simp; omega); intro c4 st4 t4 k1 k2 k3 k4; have hob4 := (k2.same (st.length + 0) (by omega) (by omega)).trans hob3; have hlow4 := fun j hj => (k2.same j (by omega) (by omega)).trans (hlow3 j hj); have k1' : TipO (st.length + 1) st4 2 69 ((e.fields ++ [(fk, fv)]).map fldA) c4 := by simpa using k1)
           apply qa
           refine qc [12] (by kernel_rfl) rfl ⟨⟨_, rfl, ?_⟩, trivial⟩
           (apply zl (n := n); (iterate 4 exact rfl); omega; omega)
           apply qa
           (apply qo 13; exact rfl; kernel_rfl; kernel_rfl; kernel_rfl; exact rfl; (first | (apply qq; (iterate 3 exact rfl)) | (apply qp; (iterate 4 exact rfl))))
           refine qc [14] (by kernel_rfl) rfl ⟨⟨_, rfl, ?_⟩, trivial⟩
           (refine zi 69 (x := c4) (r := jd (e.fields ++ [(fk, fv)])) rfl (je k1') ?_; apply qm; exact rfl; exact rfl; exact hob4; (iterate 5 exact rfl); exact hfit)
           apply qa
           refine zj (by kernel_rfl) ?_
           exact ⟨rfl, ⟨rfl, rfl, rfl, rfl, trivial⟩, _, by rw [hadd]; exact hvs _, jo (fun j hj => (zv (by omega)).trans (hlow4 j hj)) (zn hob4)⟩
      ·rintro ⟨t2, st2, df2⟩ ⟨hd, hL, ob', hV', ext', hst2⟩
       simp only at hd hL hst2
       subst hd
       refine wf [(0, Sv text), (4, .os (st.length + 0) ver 0 (out.map kc).length cap), (6, lnsA (lns text)), (7, Iv k)] (st2 ++ []) [] hL (List.append_nil st2).symm rfl fun t => ?_
       repeat' (first
        | apply qe
        | apply qa
        | apply qf)
       exact ⟨addF out (fk, fv), [], _, ob', _, st2, vl ⟨rfl, rfl, rfl, rfl, rfl, trivial⟩, ⟨ext', hst2⟩, hV', qd2 .., qsu hG hgf, by rw [qov]; exact h40, by simp, by simp, by simp, by unfold qd6; rw [if_pos hfl]; exact ⟨hfo, rfl⟩⟩
     ·have hn := hnone (qn9 hfl hu)
      have hun2 : ∀ st, zr E 41 [Ss held] st fun r st' => r = .tu [fldA (jq held).1, Iv (jq held).2] ∧ st' = st := hun
      repeat' (first
       | (refine zi 49 (x := c) (r := Ss held) rfl (je hT) ?_)
       | apply qr
       | apply qe
       | apply qa
       | apply qn
       | apply qf
       | (apply z1; exact rfl; exact rfl)
       | (apply qt; (iterate 3 exact rfl))
       | (apply qg; exact rfl; first | (apply zd; (first | assumption | omega)) | (apply zf; (first | assumption | omega)) | (apply ze; (first | exact rfl | assumption)) | (apply zg; (first | exact rfl | assumption)) | (apply cd_n <;> intro h) | (apply cd_t; (first | exact rfl | assumption)) | (apply cd_f; (first | exact rfl | assumption)) | (apply cd_d <;> intro h) | (apply cd_s <;> intro h))
       | (apply jh; exact rfl; exact rfl)
       | (apply q6; (iterate 11 exact rfl))
       | apply q9
       | (apply qi; exact Tryz.call41; exact hun2 _))
      exact qs rfl (kq (ju rfl) (vj (vd 3) (kp (Bv false)))) ⟨by rw [hn]; rfl, _, by rw [hform]; simp; rfl⟩
   ·rintro _ ⟨o, h, v', ob', c', S', ⟨t, rfl⟩, ⟨ext', hform'⟩, hV', hT', hG', h40', hh', hne', hhb', haf⟩
    show AWp _ _ _ _ _ _
    have hob' : S'[st.length + 0]? = some ob' := by rw [hform']; exact z6 (zw rfl)
    have hSl' := lt_of_getElem? hob'
    have hlow' : ∀ j, j < st.length → S'[j]? = st[j]? := fun j hj => by
     rw [hform', List.getElem?_append_left (by simp; omega), List.getElem?_append_left hj]
    have hvl' : lenA v' = some o.length := by have := qpw hV'; simpa using this
    by_cases hkn : k = (lns text).length
    ·rw [hkR hkn] at haf hR
     have hfin := qtl haf
     rw [hR] at hfin
     repeat' (first
      | apply qr
      | apply qe
      | apply qa
      | apply qn
      | apply qf
      | (apply qt; (iterate 3 exact rfl))
      | (apply qg; exact rfl; first | (apply zd; (first | assumption | omega)) | (apply zf; (first | assumption | omega)) | (apply ze; (first | exact rfl | assumption)) | (apply zg; (first | exact rfl | assumption)) | (apply cd_n <;> intro h) | (apply cd_t; (first | exact rfl | assumption)) | (apply cd_f; (first | exact rfl | assumption)) | (apply cd_d <;> intro h) | (apply cd_s <;> intro h))
      | (apply zo; (iterate 4 exact rfl))
      | (apply jj; exact rfl; exact rfl; exact z2 (by omega) (by omega))
      | apply jp)
     exact ⟨k + 1, ⟨o, h, v', ob', c', hV', hG', h40', by omega, by omega, .inr ⟨by omega, hfin⟩, qnx ⟨rfl, rfl, rfl, rfl, rfl, trivial⟩ ((List.append_nil S').trans hform'), by rw [List.append_nil]; exact hT', hne', hhb'⟩, by omega⟩
    ·obtain ⟨x, hx⟩ : ∃ x, (lns text)[k]? = some x := ⟨_, List.getElem?_eq_getElem (by omega)⟩
     have hget : ((lns text).map lnA)[k]? = some (lnA x) := by simp [hx]
     have hxl : x.text.length ≤ text.length := qr5 _ text 0 0 (Nat.le_refl _) x (List.mem_of_getElem? hx)
     rw [hkL x hx] at haf hR hnone
     obtain ⟨hst, hh0⟩ := qre haf
     rw [hst] at hR hnone
     unfold qu1 at hR hnone
     by_cases h2 : [32, 32] <+: x.text
     ·rw [if_pos h2] at hR hnone
      have h2l : 2 ≤ x.text.length := h2.length_le
      by_cases ho : o = []
      ·rw [if_pos ho] at hnone
       have hz : o.length = 0 := by rw [ho]; rfl
       repeat' (first
        | apply qr
        | apply qe
        | apply qa
        | apply qn
        | apply qf
        | (apply qt; (iterate 3 exact rfl))
        | (apply qg; exact rfl; first | (apply zd; (first | assumption | omega)) | (apply zf; (first | assumption | omega)) | (apply ze; (first | exact rfl | assumption)) | (apply zg; (first | exact rfl | assumption)) | (apply cd_n <;> intro h) | (apply cd_t; (first | exact rfl | assumption)) | (apply cd_f; (first | exact rfl | assumption)) | (apply cd_d <;> intro h) | (apply cd_s <;> intro h))
        | (apply zo; (iterate 4 exact rfl))
        | (apply vt; (iterate 4 exact rfl))
        | (apply qv; (iterate 3 exact rfl))
        | apply q8
        | apply q9
        | (apply zy (n := k); (iterate 5 exact rfl); exact hget)
        | (apply qi; exact Tryz.call40; exact y5 _ _ _)
        | (apply zo; exact rfl; exact hvl'; exact rfl; exact rfl))
       exact qs rfl (kq (ju rfl) (vj (vd 3) (kp (Bv false)))) ⟨by rw [hnone rfl]; rfl, _, by rw [hform']; simp; rfl⟩
      ·rw [if_neg ho] at hR
       have hz : 0 < o.length := List.length_pos_iff.2 ho
       have hml' : (h.map fun x => Sv x).length = h.length := by simp
       repeat' (first
        | apply qr
        | apply qe
        | apply qa
        | apply qn
        | apply qf
        | (apply qt; (iterate 3 exact rfl))
        | (apply qg; exact rfl; first | (apply zd; (first | assumption | omega)) | (apply zf; (first | assumption | omega)) | (apply ze; (first | exact rfl | assumption)) | (apply zg; (first | exact rfl | assumption)) | (apply cd_n <;> intro h) | (apply cd_t; (first | exact rfl | assumption)) | (apply cd_f; (first | exact rfl | assumption)) | (apply cd_d <;> intro h) | (apply cd_s <;> intro h))
        | (apply zo; (iterate 4 exact rfl))
        | (apply vt; (iterate 4 exact rfl))
        | (apply qv; (iterate 3 exact rfl))
        | (apply kr; (iterate 3 exact rfl); first | assumption | omega | (simp; omega))
        | (apply qj; (iterate 9 exact rfl))
        | apply q8
        | (apply zy (n := k); (iterate 5 exact rfl); exact hget)
        | (apply qi; exact Tryz.call40; exact y5 _ _ _)
        | (apply zo; exact rfl; exact hvl'; exact rfl; exact rfl))
       apply ql (b := st.length + 1) (st := S' ++ []) (sz := 1) (xs := h.map fun x => Sv x) (ys := [Sv (x.text.drop 2)]) (bytes := 16)
       ·exact rfl
       ·exact rfl
       ·exact rfl
       ·exact rfl
       ·exact rfl
       ·exact ⟨⟨_, _, rfl, rfl, rfl, rfl, rfl⟩⟩
       ·exact qbn hT'
       ·simp; omega
       ·exact rfl
       ·simp [maxLen]; omega
       ·simp; omega
       intro c4 st4 t4 k1 k2 k3 k4
       have hlow4 : ∀ j, j < st.length → st4[j]? = st[j]? := fun j hj => by
        have h1 := k2.same j (by omega) (by simp; omega)
        rw [h1, List.append_nil, hlow' j hj]
       have hob4 : st4[st.length + 0]? = some ob' := by
        have h1 := k2.same (st.length + 0) (by omega) (by simp; omega)
        rw [h1, List.append_nil, hob']
       repeat' (first
        | apply qe
        | apply qa
        | apply qn
        | apply qf
        | (apply jj; exact rfl; exact rfl; exact z2 (by omega) (by omega))
        | apply jp)
       obtain ⟨ext4, hform4⟩ := jo hlow4 hob4
       have k1' : TipO (st.length + 1) st4 1 9 ((h ++ [x.text.drop 2]).map fun x => Sv x) c4 := by simpa using k1
       exact ⟨k + 1, ⟨o, h ++ [x.text.drop 2], v', ob', c4, hV', hG', h40', by simp; omega, by omega, .inl ⟨by omega, hR⟩, qnx ⟨rfl, rfl, rfl, rfl, rfl, trivial⟩ hform4, k1', fun _ => ho, fun s hs => by
        rcases List.mem_append.1 hs with hs | hs
        ·exact hhb' s hs
        ·obtain rfl := List.mem_singleton.1 hs
         rw [List.length_drop]
         omega⟩, by omega⟩
     ·rw [if_neg h2] at hR hnone
      have hhe : h = [] := hh0.resolve_right fun ⟨q, hq⟩ => h2 ⟨[32] ++ q, by rw [← hq]; rfl⟩
      subst hhe
      repeat' (first
       | apply qr
       | apply q7
       | apply qe
       | apply qa
       | apply qn
       | apply qf
       | (apply qt; (iterate 3 exact rfl))
       | (apply qg; exact rfl; first | (apply zd; (first | assumption | omega)) | (apply zf; (first | assumption | omega)) | (apply ze; (first | exact rfl | assumption)) | (apply zg; (first | exact rfl | assumption)) | (apply cd_n <;> intro h) | (apply cd_t; (first | exact rfl | assumption)) | (apply cd_f; (first | exact rfl | assumption)) | (apply cd_d <;> intro h) | (apply cd_s <;> intro h))
       | (apply zo; (iterate 4 exact rfl))
       | (apply jh; exact rfl; exact rfl)
       | (apply vt; (iterate 4 exact rfl))
       | (apply qv; (iterate 3 exact rfl))
       | (apply q6; (iterate 11 exact rfl))
       | (apply j6; (iterate 3 exact rfl))
       | apply q8
       | (apply zy (n := k); (iterate 5 exact rfl); exact hget)
       | (apply qi; exact Tryz.call40; exact y5 _ _ _))
      refine vy (fun (j : Nat) s => j ≤ 3 ∧ StE [(0, Sv text), (4, v'), (5, c'), (6, lnsA (lns text)), (7, Iv k), (11, Sv x.text), (12, .bx (S'.length + 0) 0 0), (13, Iv ((j : Int) + 1))] S' [.cells 0 45 (edC (qce x.text j))] s) (fun j => 3 - j) 0 ⟨by omega, we ⟨rfl, rfl, rfl, rfl, rfl, rfl, rfl, rfl, trivial⟩ rfl⟩ ?_
      rintro j _ ⟨hj, t, ext2, rfl⟩
      by_cases hj3 : j = 3
      ·subst hj3
       rw [qil]
       cases hb : begR x.text with
       | none =>
        rw [hb] at hnone
        have he : edC none = [Iv 0, Iv 0, jm] := rfl
        rw [he]
        repeat' (first
         | apply qr
         | apply qe
         | apply qa
         | apply qn
         | apply qf
         | (apply qt; (iterate 3 exact rfl))
         | (apply zh; (iterate 4 exact rfl))
         | (apply vo; (first | assumption | omega))
         | (apply zk; exact rfl; first | (apply jx; (first | assumption | omega)) | (apply jw; (first | assumption | omega)) | (apply jy; (first | exact rfl | assumption)) | (apply jv; (first | exact rfl | assumption)) | (apply pk_t; (first | exact rfl | assumption)) | (apply pk_f; (first | exact rfl | assumption)))
         | (apply qg; exact rfl; first | (apply zd; (first | assumption | omega)) | (apply zf; (first | assumption | omega)) | (apply ze; (first | exact rfl | assumption)) | (apply zg; (first | exact rfl | assumption)) | (apply cd_n <;> intro h) | (apply cd_t; (first | exact rfl | assumption)) | (apply cd_f; (first | exact rfl | assumption)) | (apply cd_d <;> intro h) | (apply cd_s <;> intro h))
         | (apply za; (iterate 3 exact rfl))
         | (apply zb; (iterate 5 exact rfl))
         | apply jp
         | apply q9)
        exact qs rfl (kq (ju rfl) (vj (vd 3) (kp (Bv false)))) ⟨by rw [hnone rfl]; rfl, _, by rw [hform']; simp; rfl⟩
       | some e =>
        obtain ⟨ek, en⟩ := e
        rw [hb] at hnone hR
        simp only at hnone hR
        have hkd := qfs x.text 3 ((qil x.text).trans hb)
        have he : edC (some (ek, en)) = [Iv ek, Iv en, jm] := rfl
        rw [he]
        have hml : (o.map kc).length = o.length := by simp
        by_cases h40o : 40 ≤ o.length
        ·rw [if_pos h40o] at hnone
         repeat' (first
          | apply qr
          | apply qe
          | apply qa
          | apply qn
          | apply qf
          | (apply qt; (iterate 3 exact rfl))
          | (apply zh; (iterate 4 exact rfl))
          | (apply ko; (first | assumption | omega))
          | (apply zk; exact rfl; first | (apply jx; (first | assumption | omega)) | (apply jw; (first | assumption | omega)) | (apply jy; (first | exact rfl | assumption)) | (apply jv; (first | exact rfl | assumption)) | (apply pk_t; (first | exact rfl | assumption)) | (apply pk_f; (first | exact rfl | assumption)))
          | (apply qg; exact rfl; first | (apply zd; (first | assumption | omega)) | (apply zf; (first | assumption | omega)) | (apply ze; (first | exact rfl | assumption)) | (apply zg; (first | exact rfl | assumption)) | (apply cd_n <;> intro h) | (apply cd_t; (first | exact rfl | assumption)) | (apply cd_f; (first | exact rfl | assumption)) | (apply cd_d <;> intro h) | (apply cd_s <;> intro h))
          | (apply za; (iterate 3 exact rfl))
          | (apply zb; (iterate 5 exact rfl))
          | apply jp
          | apply q9
          | (apply zo; exact rfl; exact hvl'; exact rfl; exact rfl))
         exact qs rfl (kq (ju rfl) (vj (vd 3) (kp (Bv false)))) ⟨by rw [hnone rfl]; rfl, _, by rw [hform']; simp; rfl⟩
        ·rw [if_neg h40o] at hR
         obtain ⟨X, hX⟩ : ∃ X, X = ((S' ++ [AObj.cells 0 45 [Iv ek, Iv en, jm]]) ++ ext2) ++ [] := ⟨_, rfl⟩
         have hoX : X[st.length + 0]? = some ob' := by rw [hX]; exact z6 (z6 (z6 hob'))
         have hlowX : ∀ j, j < st.length → X[j]? = st[j]? := fun j hj => by
          rw [hX, List.append_nil, List.append_assoc, List.getElem?_append_left (by omega)]
          exact hlow' j hj
         have hTX : TipO (st.length + 1) X 1 9 (([] : List qk).map fun x => Sv x) c' := by rw [hX]; exact qbn (qbn (qbn hT'))
         have hbX : X[S'.length + 0]? = some (.cells 0 45 [Iv ek, Iv en, jm]) := by rw [hX]; exact z6 (z6 (zw rfl))
         refine wf [(0, Sv text), (4, v'), (5, c'), (6, lnsA (lns text)), (7, Iv k), (11, Sv x.text), (12, .bx (S'.length + 0) 0 0), (13, Iv (((3 : Nat) : Int) + 1))] X [] ⟨rfl, rfl, rfl, rfl, rfl, rfl, rfl, rfl, trivial⟩ hX.symm rfl fun t => ?_
         clear hX
         repeat' (first
          | (refine zi 128 (x := .ag [Iv ek, Iv en, jm]) (r := kc ⟨ek, en, []⟩) rfl (qay ek en) ?_)
          | apply qr
          | apply qe
          | apply qa
          | apply qn
          | (apply qt; (iterate 3 exact rfl))
          | (apply zh; (iterate 4 exact rfl))
          | (apply ko; (first | assumption | omega))
          | (apply zk; exact rfl; first | (apply jx; (first | assumption | omega)) | (apply jw; (first | assumption | omega)) | (apply jy; (first | exact rfl | assumption)) | (apply jv; (first | exact rfl | assumption)) | (apply pk_t; (first | exact rfl | assumption)) | (apply pk_f; (first | exact rfl | assumption)))
          | (apply qg; exact rfl; first | (apply zd; (first | assumption | omega)) | (apply zf; (first | assumption | omega)) | (apply ze; (first | exact rfl | assumption)) | (apply zg; (first | exact rfl | assumption)) | (apply cd_n <;> intro h) | (apply cd_t; (first | exact rfl | assumption)) | (apply cd_f; (first | exact rfl | assumption)) | (apply cd_d <;> intro h) | (apply cd_s <;> intro h))
          | (apply za; (iterate 3 exact rfl))
          | (apply qj; (iterate 9 exact rfl))
          | apply q8
          | apply jp
          | (apply qb; exact rfl; exact hbX; exact rfl; exact rfl)
          | (apply zo; exact rfl; exact hvl'; exact rfl; exact rfl))
         apply qgx (o := st.length + 0) (sz := 3) (xs := o.map kc) (ys := [kc ⟨ek, en, []⟩]) (bytes := 40)
         ·exact rfl
         ·exact rfl
         ·exact hV'
         ·exact hoX
         ·exact rfl
         ·exact rfl
         ·exact ⟨⟨_, _, rfl, rfl, rfl, rfl, rfl⟩⟩
         ·exact rfl
         ·simp [maxLen]; omega
         ·simp; omega
         intro v2 ob2 hV2
         show AOps _ _ _ _ _ _ _
         repeat' (first
          | apply qe
          | apply qa
          | apply qn
          | apply qf
          | (apply jj; exact rfl; exact rfl; exact z2 (by omega) (by omega)))
         obtain ⟨ext5, hform5⟩ := jo (X := X.set (st.length + 0) ob2) (fun j hj => (zv (by omega)).trans (hlowX j hj)) (zn hoX)
         have hV3 : Vec 3 45 (st.length + 0) ((o ++ [(⟨ek, en, []⟩ : z8)]).map kc) v2 ob2 := by rw [List.map_append]; exact hV2
         exact ⟨k + 1, ⟨o ++ [⟨ek, en, []⟩], [], v2, ob2, c', hV3, (fun y hy => by
          rcases List.mem_append.1 hy with hy | hy
          ·exact hG' y hy
          ·obtain rfl := List.mem_singleton.1 hy
           exact ⟨by simp, by simp, qto hb⟩), by simp; omega, by simp, by omega, .inl ⟨by omega, hR⟩, qnx ⟨rfl, rfl, rfl, rfl, rfl, trivial⟩ hform5, qud (by omega) hTX, by simp, by simp⟩, by omega⟩
      ·obtain ⟨ea, eb, hab⟩ : ∃ a b, edC (qce x.text j) = [Iv a, Iv b, jm] := by
        cases qce x.text j with
        | none => exact ⟨0, 0, rfl⟩
        | some e => exact ⟨e.1, e.2, rfl⟩
       rw [hab]
       obtain ⟨H, hH⟩ : ∃ H, H = wo ((j : Int) + 1) := ⟨_, rfl⟩
       have hj012 : j = 0 ∨ j = 1 ∨ j = 2 := by omega
       have hHl : H.length ≤ 9 := by
        rw [hH]
        rcases hj012 with rfl | rfl | rfl <;> decide
       have h0i : Lib.itoa 0 = [48] := by rw [qco (by decide), Lib.decDigits_one (by decide)]; rfl
       have hli : ∀ st, zr E 42 [kc ⟨(j : Int) + 1, 0, []⟩] st fun r st' => r = Sv (H ++ [48]) ∧ st' = st := fun st => by
        have := qlz ⟨(j : Int) + 1, 0, []⟩ st (by simp) (by simp)
        unfold vc at this
        rw [if_pos (by constructor <;> simp only <;> omega), h0i, ← hH] at this
        exact this
       have htk : (H ++ [48]).take H.length = H := List.take_left
       have hH1 : ((H ++ [48]).length : Int) - 1 = (H.length : Int) := by simp
       have htr : qce x.text (j + 1) = tryR x.text (qce x.text j) ((j : Int) + 1) := rfl
       unfold tryR at htr
       rw [← hH] at htr
       by_cases hp : H <+: x.text
       ·rw [if_pos hp] at htr
        have hpl := hp.length_le
        cases hz : numZ (x.text.drop H.length) with
        | none =>
         rw [hz] at htr
         simp only at htr
         rw [← htr] at hab
         repeat' (first
          | (refine zi 97 (x := .ag [Iv ((j : Int) + 1), Iv 0, jm]) (r := kc ⟨(j : Int) + 1, 0, []⟩) rfl (qay ((j : Int) + 1) 0) ?_)
          | (apply qf4 (r := H) (n := H.length) (m := H ++ [48]); exact htk; exact rfl; exact congrArg Iv hH1; exact rfl; (simp))
          | apply qr
          | apply q7
          | apply qe
          | apply qa
          | apply qn
          | apply qf
          | (apply z1; exact rfl; exact rfl)
          | (apply qt; (iterate 3 exact rfl))
          | (apply qg; exact rfl; first | (apply zd; (first | assumption | omega)) | (apply zf; (first | assumption | omega)) | (apply ze; (first | exact rfl | assumption)) | (apply zg; (first | exact rfl | assumption)) | (apply cd_n <;> intro h) | (apply cd_t; (first | exact rfl | assumption)) | (apply cd_f; (first | exact rfl | assumption)) | (apply cd_d <;> intro h) | (apply cd_s <;> intro h))
          | (apply j4; (iterate 3 exact rfl))
          | (apply jj; exact rfl; exact rfl; exact z2 (by omega) (by omega))
          | (apply w7; exact rfl; exact rfl; exact z2 (by omega) (by omega))
          | (apply kr; (iterate 3 exact rfl); first | assumption | omega | (simp; omega))
          | (apply j6; (iterate 3 exact rfl))
          | apply q8
          | (apply qi; exact Tryz.call42; exact hli _)
          | (apply qi; exact Tryz.call40; exact y5 _ _ _)
          | (apply qi; exact Tryz.call43; exact qn4 (x.text.drop H.length) _ (by simp; omega) hz))
         exact ⟨j + 1, ⟨by omega, vm ⟨rfl, rfl, rfl, rfl, rfl, rfl, rfl, rfl, trivial⟩ (congrArg (fun l => [AObj.cells 0 45 l]) hab.symm)⟩, by omega⟩
        | some n =>
         rw [hz] at htr
         simp only at htr
         have hab2 : edC (qce x.text (j + 1)) = [Iv ((j : Int) + 1), Iv n, jm] := by rw [htr]; rfl
         repeat' (first
          | (refine zi 97 (x := .ag [Iv ((j : Int) + 1), Iv 0, jm]) (r := kc ⟨(j : Int) + 1, 0, []⟩) rfl (qay ((j : Int) + 1) 0) ?_)
          | (apply qf4 (r := H) (n := H.length) (m := H ++ [48]); exact htk; exact rfl; exact congrArg Iv hH1; exact rfl; (simp))
          | apply qr
          | apply q7
          | apply qe
          | apply qa
          | apply qn
          | apply qf
          | (apply z1; exact rfl; exact rfl)
          | (apply qt; (iterate 3 exact rfl))
          | (apply qg; exact rfl; first | (apply zd; (first | assumption | omega)) | (apply zf; (first | assumption | omega)) | (apply ze; (first | exact rfl | assumption)) | (apply zg; (first | exact rfl | assumption)) | (apply cd_n <;> intro h) | (apply cd_t; (first | exact rfl | assumption)) | (apply cd_f; (first | exact rfl | assumption)) | (apply cd_d <;> intro h) | (apply cd_s <;> intro h))
          | (apply j4; (iterate 3 exact rfl))
          | (apply jj; exact rfl; exact rfl; exact z2 (by omega) (by omega))
          | (apply w7; exact rfl; exact rfl; exact z2 (by omega) (by omega))
          | (apply zm; (iterate 11 exact rfl))
          | (apply kr; (iterate 3 exact rfl); first | assumption | omega | (simp; omega))
          | (apply j6; (iterate 3 exact rfl))
          | apply q8
          | (apply qi; exact Tryz.call42; exact hli _)
          | (apply qi; exact Tryz.call40; exact y5 _ _ _)
          | (apply qi; exact Tryz.call43; exact qnr (x.text.drop H.length) n _ (by simp; omega) hz))
         exact ⟨j + 1, ⟨by omega, vm ⟨rfl, rfl, rfl, rfl, rfl, rfl, rfl, rfl, trivial⟩ (congrArg (fun l => [AObj.cells 0 45 l]) hab2.symm)⟩, by omega⟩
       ·rw [if_neg hp] at htr
        rw [← htr] at hab
        repeat' (first
         | (refine zi 97 (x := .ag [Iv ((j : Int) + 1), Iv 0, jm]) (r := kc ⟨(j : Int) + 1, 0, []⟩) rfl (qay ((j : Int) + 1) 0) ?_)
         | (apply qf4 (r := H) (n := H.length) (m := H ++ [48]); exact htk; exact rfl; exact congrArg Iv hH1; exact rfl; (simp))
         | apply qr
         | apply q7
         | apply qe
         | apply qa
         | apply qn
         | apply qf
         | (apply qt; (iterate 3 exact rfl))
         | (apply qg; exact rfl; first | (apply zd; (first | assumption | omega)) | (apply zf; (first | assumption | omega)) | (apply ze; (first | exact rfl | assumption)) | (apply zg; (first | exact rfl | assumption)) | (apply cd_n <;> intro h) | (apply cd_t; (first | exact rfl | assumption)) | (apply cd_f; (first | exact rfl | assumption)) | (apply cd_d <;> intro h) | (apply cd_s <;> intro h))
         | (apply j4; (iterate 3 exact rfl))
         | (apply jj; exact rfl; exact rfl; exact z2 (by omega) (by omega))
         | (apply w7; exact rfl; exact rfl; exact z2 (by omega) (by omega))
         | (apply j6; (iterate 3 exact rfl))
         | apply q8
         | (apply qi; exact Tryz.call42; exact hli _)
         | (apply qi; exact Tryz.call40; exact y5 _ _ _))
        exact ⟨j + 1, ⟨by omega, vm ⟨rfl, rfl, rfl, rfl, rfl, rfl, rfl, rfl, trivial⟩ (congrArg (fun l => [AObj.cells 0 45 l]) hab.symm)⟩, by omega⟩
 ·have hB := qr7 hG (by omega)
  refine qvs (qiv 4 rfl rfl hV rfl) ?_
  rw [hR] at hdf
  simp only at hdf
  have hck := fun st => qn2 out st hB (by omega)
  by_cases he : eErr out = .no
  ·rw [he] at hck
   have hck2 : ∀ st, zr E 18 [vu out] st fun r st' => r = .tu [Iv ErrV.no.pos, Iv 0] ∧ st' = st := hck
   by_cases ht : encF out = text
   ·rw [if_pos ⟨he, ht⟩] at hdf
    rw [hdf]
    repeat' (first
     | apply qr
     | apply qe
     | apply qa
     | apply qn
     | apply qf
     | (apply z1; exact rfl; exact rfl)
     | (apply qt; (iterate 3 exact rfl))
     | (apply kw; (iterate 3 exact rfl))
     | (apply zh; (iterate 4 exact rfl))
     | (apply ko; (first | assumption | omega))
     | (apply zk; exact rfl; first | (apply jx; (first | assumption | omega)) | (apply jw; (first | assumption | omega)) | (apply jy; (first | exact rfl | assumption)) | (apply jv; (first | exact rfl | assumption)) | (apply pk_t; (first | exact rfl | assumption)) | (apply pk_f; (first | exact rfl | assumption)))
     | (apply qg; exact rfl; first | (apply zd; (first | assumption | omega)) | (apply zf; (first | assumption | omega)) | (apply ze; (first | exact rfl | assumption)) | (apply zg; (first | exact rfl | assumption)) | (apply cd_n <;> intro h) | (apply cd_t; (first | exact rfl | assumption)) | (apply cd_f; (first | exact rfl | assumption)) | (apply cd_d <;> intro h) | (apply cd_s <;> intro h))
     | (apply zo; (iterate 4 exact rfl))
     | apply q8
     | apply jp
     | apply q9
     | (apply qi; exact Tryz.call18; exact hck2 _)
     | (apply qi; exact Tryz.call22; exact qgr out _ hB he))
    ·exact absurd ht (by assumption)
    exact qs rfl (ju rfl) ⟨rfl, kg _ _ _ _⟩
   ·rw [if_neg (fun h => ht h.2)] at hdf
    rw [hdf]
    repeat' (first
     | apply qr
     | apply qe
     | apply qa
     | apply qn
     | apply qf
     | (apply z1; exact rfl; exact rfl)
     | (apply qt; (iterate 3 exact rfl))
     | (apply kw; (iterate 3 exact rfl))
     | (apply zh; (iterate 4 exact rfl))
     | (apply ko; (first | assumption | omega))
     | (apply zk; exact rfl; first | (apply jx; (first | assumption | omega)) | (apply jw; (first | assumption | omega)) | (apply jy; (first | exact rfl | assumption)) | (apply jv; (first | exact rfl | assumption)) | (apply pk_t; (first | exact rfl | assumption)) | (apply pk_f; (first | exact rfl | assumption)))
     | (apply qg; exact rfl; first | (apply zd; (first | assumption | omega)) | (apply zf; (first | assumption | omega)) | (apply ze; (first | exact rfl | assumption)) | (apply zg; (first | exact rfl | assumption)) | (apply cd_n <;> intro h) | (apply cd_t; (first | exact rfl | assumption)) | (apply cd_f; (first | exact rfl | assumption)) | (apply cd_d <;> intro h) | (apply cd_s <;> intro h))
     | (apply zo; (iterate 4 exact rfl))
     | apply jp
     | apply q9
     | (apply qi; exact Tryz.call18; exact hck2 _)
     | (apply qi; exact Tryz.call22; exact qgr out _ hB he))
    exact qs rfl (kq (ju rfl) (vj (vd 3) (kp (Bv false)))) ⟨rfl, kg _ _ _ _⟩
  ·rw [if_neg (fun h => he h.1)] at hdf
   rw [hdf]
   have h0 : ¬ (eErr out).code = 0 := fun h => he ((qgz out).1 h)
   repeat' (first
    | apply qr
    | apply qe
    | apply qa
    | apply qn
    | apply qf
    | (apply z1; exact rfl; exact rfl)
    | (apply qt; (iterate 3 exact rfl))
    | (apply zh; (iterate 4 exact rfl))
    | (apply vo; (first | assumption | omega))
    | (apply zk; exact rfl; first | (apply jx; (first | assumption | omega)) | (apply jw; (first | assumption | omega)) | (apply jy; (first | exact rfl | assumption)) | (apply jv; (first | exact rfl | assumption)) | (apply pk_t; (first | exact rfl | assumption)) | (apply pk_f; (first | exact rfl | assumption)))
    | (apply qg; exact rfl; first | (apply zd; (first | assumption | omega)) | (apply zf; (first | assumption | omega)) | (apply ze; (first | exact rfl | assumption)) | (apply zg; (first | exact rfl | assumption)) | (apply cd_n <;> intro h) | (apply cd_t; (first | exact rfl | assumption)) | (apply cd_f; (first | exact rfl | assumption)) | (apply cd_d <;> intro h) | (apply cd_s <;> intro h))
    | (apply zo; (iterate 4 exact rfl))
    | apply jp
    | apply q9
    | (apply qi; exact Tryz.call18; exact hck _))
   exact qs rfl (kq (ju rfl) (vj (vd 3) (kp (Bv false)))) ⟨rfl, kg _ _ _ _⟩
theorem qkw (text : qk) (st : List AObj) : zr E 3 [Sv text] st fun r st' => r = Bv true ∧ st' = st :=
 qjv text st fun st h => qpf text st (by omega)
end Go.Proofs.YtefmcijohgpfhaaGreatDoor
