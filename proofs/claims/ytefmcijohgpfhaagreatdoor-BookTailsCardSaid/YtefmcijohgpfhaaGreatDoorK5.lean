/- Contracts and plain facts that the closing text leans on (part 5). No condition of their own beyond those that each states. -/
import Derived.Test.YtefmcijohgpfhaaGreatDoorK4
import Derived.LaidEql
import Derived.Stop.Asserts
import Derived.RowKitTokens
set_option maxRecDepth 100000
set_option linter.unusedVariables false
set_option linter.unusedSimpArgs false
set_option maxRecDepth 100000
set_option linter.unusedVariables false
namespace Go.Pl
open Go Go.Proofs
def xg (p : PSt) (no : Int) (text : qb) (ended : Bool) : Option (Int × Int) × PSt :=
 match (jn p no text ended (zl text)).1 with
 | some e => (some e, p)
 | none =>
  if zl text = 5 ∨ ended = false then (some (no, 2), p)
  else if zl text = 1 then (none, { (jn p no text ended (zl text)).2 with items := (jn p no text ended (zl text)).2.items ++ [⟨1, text ++ [10], []⟩] })
  else if zl text = 4 then (none, { vm (jn p no text ended (zl text)).2 no text with block := (jn p no text ended (zl text)).2.block ++ [text] })
  else (none, { (jn p no text ended (zl text)).2 with block := (jn p no text ended (zl text)).2.block ++ [text] })
end Go.Pl
namespace Go.Proofs.YtefmcijohgpfhaaGreatDoor
open Go Go.Av Go.RowKit Go.Proofs Go.Pl
theorem PB.more {n m : Nat} {p : PSt} (h : PB n p) (hm : n ≤ m) (hs : m < 900000) : PB m p := by
 have h1 := h.lines; have h2 := h.items; have h3 := h.block; have h4 := h.fields; have h5 := h.rec0; have h6 := h.rec1
 exact ⟨hs, by omega, h.linesV, by omega, by omega, h.blockV, by omega, h5, by omega⟩
theorem qyb {n : Nat} {p : PSt} (h : PB n p) (hs : n + 1 < 900000) : PB (n + 1) (yj p) := by
 have h1 := h.lines; have h2 := h.items; have h3 := h.block; have h4 := h.fields; have h5 := h.rec0; have h6 := h.rec1
 unfold yj
 split
 ·exact ⟨hs, by simp only; omega, h.linesV, by simp only; omega, by simp, by simp, by simp, h5, by simp only; omega⟩
 ·refine ⟨hs, by simp only; omega, h.linesV, by simp; omega, by simp, by simp, by simp, ?_, ?_⟩
  ·simp only; split <;> omega
  ·simp only; split <;> omega
theorem qth {n : Nat} {p : PSt} {text : qb} (h : PB n p) (hs : n + 1 < 900000) (ht : text.length < 1000000) : PB (n + 1) { p with lines := p.lines ++ [text] } := by
 have h1 := h.lines; have h2 := h.items; have h3 := h.block; have h4 := h.fields; have h5 := h.rec0; have h6 := h.rec1
 exact ⟨hs, by simp; omega, qrr h.linesV ht, by simp only; omega, by simp only; omega, h.blockV, by simp only; omega, h5, by simp only; omega⟩
theorem qsv {n : Nat} {p : PSt} {text : qb} (h : PB n p) (hs : n + 1 < 900000) (ht : text.length < 1000000) : PB (n + 1) { p with block := p.block ++ [text] } := by
 have h1 := h.lines; have h2 := h.items; have h3 := h.block; have h4 := h.fields; have h5 := h.rec0; have h6 := h.rec1
 exact ⟨hs, by simp only; omega, h.linesV, by simp only; omega, by simp; omega, qrr h.blockV ht, by simp only; omega, h5, by simp only; omega⟩
theorem q1q {n : Nat} {p : PSt} {x : wb} (h : PB n p) (hs : n + 1 < 900000) : PB (n + 1) { p with items := p.items ++ [x] } := by
 have h1 := h.lines; have h2 := h.items; have h3 := h.block; have h4 := h.fields; have h5 := h.rec0; have h6 := h.rec1
 exact ⟨hs, by simp only; omega, h.linesV, by simp; omega, by simp only; omega, h.blockV, by simp only; omega, h5, by simp only; omega⟩
theorem qr6 {n : Nat} {p : PSt} {no : Int} {text : qb} (h : PB n p) (hs : n + 1 < 900000) (ht : text.length < 1000000) : PB (n + 1) (vm p no text) := by
 have h1 := h.lines; have h2 := h.items; have h3 := h.block; have h4 := h.fields; have h5 := h.rec0; have h6 := h.rec1
 exact ⟨hs, by simp [vm], by simp [vm, ht], by simp only [vm]; omega, by simp only [vm]; omega, h.blockV, by simp only [vm]; omega, h5, by simp only [vm]; omega⟩
theorem qqf {n : Nat} {p : PSt} {no : Int} {text : qb} {ended : Bool} {kind : Int} (h : PB n p) (hs : n + 2 < 900000) (ht : text.length < 1000000) : PB (n + 2) (jn p no text ended kind).2 := by
 unfold jn
 split
 ·split
  ·exact h.more (by omega) hs
  ·split
   ·exact (qth h (by omega) ht).more (by omega) hs
   ·exact qg6 (qth h (by omega) ht) hs
 ·split
  ·unfold endP
   split
   ·exact h.more (by omega) hs
   ·exact qyb (qg6 h (by omega)) hs
  ·exact (qg6 h (by omega)).more (by omega) hs
theorem qkg (k : Int) (r : qb) : ∀ G v, Rel G (.ag [Iv k, Sv r, zx]) v → Rel G (zf ⟨k, r, []⟩) v :=
 qvq rfl fun i x y hx hy => by
  match i with
  | 0 => simp at hx hy; subst hx; subst hy; exact vc _
  | 1 => simp at hx hy; subst hx; subst hy; exact vc _
  | 2 => simp at hx hy; subst hx; subst hy; exact wq 2
  | i + 3 => simp at hx
theorem qxf (l : qb) : 1 ≤ zl l ∧ zl l ≤ 5 := by
 unfold zl
 repeat' split
 all_goals decide
theorem xj {ver : Nat} {T : TypeId} {cs : List AV} {x : Option AObj} (h : x = some (.cells ver T cs)) : qfg x := fun n sz T' e => by
 rw [h] at e
 simp at e
theorem q1n {n : Nat} {p : PSt} {no : Int} {text : qb} {ended : Bool} (h : PB n p) (hs : n + 4 < 900000) (ht : text.length < 1000000) : PB (n + 4) (xg p no text ended).2 := by
 have h2 : PB (n + 2) (jn p no text ended (zl text)).2 := qqf h (by omega) ht
 unfold xg
 split
 ·exact h.more (by omega) hs
 ·split
  ·exact h.more (by omega) hs
  ·split
   ·exact (q1q h2 (by omega)).more (by omega) hs
   ·split
    ·exact qsv (qr6 h2 (by omega) ht) hs ht
    ·exact (qsv h2 (by omega) ht).more (by omega) hs
set_option maxHeartbeats 8000000 in
theorem q2i (b o n : Nat) (p : PSt) (st : List AObj) (no at' : Int) (text : qb) (ended : Bool) (h : Par b o p st) (hB : PB n p) (hs : n + 4 < 900000) (ht : text.length < 1000000) : q7 E 92 [.bx o 0 0, lnO no at' text ended] st fun r st' => r = errP (xg p no text ended).1 ∧ ((xg p no text ended).1 = none → Par b o (xg p no text ended).2 st') ∧ Keep b o st st' := by
 obtain ⟨c1, c2, c3, c4, P⟩ := h
 have hle := P.le
 have hlt := P.lt
 refine q8 Tryz.func92 rfl (Nat.le_of_ble_eq_true rfl) ?_
 have hkr := qxf text
 repeat' (first
  | apply qm
  | apply qe
  | apply qa
  | apply qi
  | apply qf
  | (apply j7; (iterate 4 exact rfl))
  | (apply qr; (iterate 3 exact rfl))
  | (apply qh; (iterate 5 exact rfl))
  | (apply qd; exact Tryz.call132; exact qh2 _ _ (by omega)))
 refine xy Tryz.call133 ((q1a b o n p _ no at' text ended (zl text) ⟨c1, c2, c3, c4, P.pre⟩ hB (by omega) ht).mono ?_)
 rintro _ st1 ⟨rfl, hp, hk⟩
 have hlx : st1[st.length + 0]? = some (.cells 0 129 (lnO no at' text ended).cells) := (hk.same (st.length + 0) (by omega) (by simp) (.inr (xj (zn rfl)))).trans (zn rfl)
 have hk1 : Keep b o st st1 := (yv hle).trans hk
 have hB1 := qqf (no := no) (ended := ended) (kind := zl text) hB (by omega) ht
 cases hah : (jn p no text ended (zl text)).1 with
 | some e =>
  obtain ⟨a, m⟩ := e
  have he : xg p no text ended = (some (a, m), p) := by unfold xg; rw [hah]
  rw [qhn rfl, he]
  show AOps _ _ _ _ _ _ _
  repeat' (first
   | apply qm
   | apply qe
   | apply qa
   | apply qi
   | apply qf
   | (apply qg; exact rfl; first | (apply ze; (first | assumption | omega)) | (apply zd; (first | assumption | omega)) | (apply zc; (first | exact rfl | assumption)) | (apply zb; (first | exact rfl | assumption)) | (apply cd_n <;> intro h) | (apply cd_t; (first | exact rfl | assumption)) | (apply cd_f; (first | exact rfl | assumption)) | (apply cd_d <;> intro h) | (apply cd_s <;> intro h))
   | (apply z8; exact rfl; exact rfl)
   | apply qz)
  exact qo rfl (zm rfl) ⟨rfl, nofun, hk1⟩
 | none =>
  replace hp := hp hah
  have he : xg p no text ended = if zl text = 5 ∨ ended = false then (some (no, 2), p)
    else if zl text = 1 then (none, { (jn p no text ended (zl text)).2 with items := (jn p no text ended (zl text)).2.items ++ [⟨1, text ++ [10], []⟩] })
    else if zl text = 4 then (none, { vm (jn p no text ended (zl text)).2 no text with block := (jn p no text ended (zl text)).2.block ++ [text] })
    else (none, { (jn p no text ended (zl text)).2 with block := (jn p no text ended (zl text)).2.block ++ [text] }) := by unfold xg; rw [hah]
  rw [he]
  generalize (jn p no text ended (zl text)).2 = p1 at hp hB1
  clear he hah
  show AOps _ _ _ _ _ _ _
  by_cases k5 : zl text = 5
  ·rw [if_pos (.inl k5)]
   repeat' (first
    | apply qm
    | apply q4
    | apply qe
    | apply qa
    | apply qi
    | apply qf
    | (apply qw; (iterate 3 exact rfl))
    | (apply za; (iterate 4 exact rfl))
    | (apply ve; (first | assumption | omega))
    | (apply zg; exact rfl; first | (apply kc; (first | assumption | omega)) | (apply ka; (first | assumption | omega)) | (apply j9; (first | exact rfl | assumption)) | (apply ke; (first | exact rfl | assumption)) | (apply pk_t; (first | exact rfl | assumption)) | (apply pk_f; (first | exact rfl | assumption)))
    | (apply qg; exact rfl; first | (apply ze; (first | assumption | omega)) | (apply zd; (first | assumption | omega)) | (apply zc; (first | exact rfl | assumption)) | (apply zb; (first | exact rfl | assumption)) | (apply cd_n <;> intro h) | (apply cd_t; (first | exact rfl | assumption)) | (apply cd_f; (first | exact rfl | assumption)) | (apply cd_d <;> intro h) | (apply cd_s <;> intro h))
    | (apply zr; exact rfl; exact rfl)
    | (apply q9; exact rfl; exact rfl)
    | (apply qr; (iterate 3 exact rfl))
    | apply q6
    | apply qz
    | (apply qd; exact Tryz.call134; exact qgu _ _ _)
    | (apply qc; exact rfl; exact hlx; exact rfl; exact rfl))
   exact qo rfl (zm rfl) ⟨rfl, nofun, hk1⟩
  ·cases ended
   ·rw [if_pos (.inr rfl)]
    repeat' (first
     | apply qm
     | apply q4
     | apply qe
     | apply qa
     | apply qi
     | apply qf
     | (apply qw; (iterate 3 exact rfl))
     | (apply jc; exact rfl)
     | (apply za; (iterate 4 exact rfl))
     | (apply kv; (first | assumption | omega))
     | (apply zg; exact rfl; first | (apply kc; (first | assumption | omega)) | (apply ka; (first | assumption | omega)) | (apply j9; (first | exact rfl | assumption)) | (apply ke; (first | exact rfl | assumption)) | (apply pk_t; (first | exact rfl | assumption)) | (apply pk_f; (first | exact rfl | assumption)))
     | (apply qg; exact rfl; first | (apply ze; (first | assumption | omega)) | (apply zd; (first | assumption | omega)) | (apply zc; (first | exact rfl | assumption)) | (apply zb; (first | exact rfl | assumption)) | (apply cd_n <;> intro h) | (apply cd_t; (first | exact rfl | assumption)) | (apply cd_f; (first | exact rfl | assumption)) | (apply cd_d <;> intro h) | (apply cd_s <;> intro h))
     | (apply zr; exact rfl; exact rfl)
     | (apply q9; exact rfl; exact rfl)
     | (apply qr; (iterate 3 exact rfl))
     | apply q6
     | apply qz
     | (apply qd; exact Tryz.call134; exact qgu _ _ _)
     | (apply qc; exact rfl; exact hlx; exact rfl; exact rfl))
    exact qo rfl (zm rfl) ⟨rfl, nofun, hk1⟩
   ·rw [if_neg (by simp [k5])]
    by_cases k1 : zl text = 1
    ·rw [if_pos k1]
     obtain ⟨d1, d2, d3, d4, P1⟩ := hp
     obtain ⟨ls, fr, fu, its, bk, fs, rc⟩ := p1
     have hob1 : st1[o]? = some (.cells 0 148 [d1, Iv fr, Bv fu, d2, d3, d4, Iv rc]) := P1.ob
     have hle1 := P1.le
     have hol : o < st1.length := by omega
     have hin : its.length ≤ n + 2 := hB1.items
     have hil : (its.map zf).length = its.length := by simp
     repeat' (first
      | apply qm
      | apply q4
      | apply qe
      | apply qa
      | apply qi
      | apply qf
      | (apply qw; (iterate 3 exact rfl))
      | (apply jc; exact rfl)
      | (apply za; (iterate 4 exact rfl))
      | (apply kv; (first | assumption | omega))
      | (apply zg; exact rfl; first | (apply kc; (first | assumption | omega)) | (apply ka; (first | assumption | omega)) | (apply j9; (first | exact rfl | assumption)) | (apply ke; (first | exact rfl | assumption)) | (apply pk_t; (first | exact rfl | assumption)) | (apply pk_f; (first | exact rfl | assumption)))
      | (apply qg; exact rfl; first | (apply ze; (first | assumption | omega)) | (apply zd; (first | assumption | omega)) | (apply zc; (first | exact rfl | assumption)) | (apply zb; (first | exact rfl | assumption)) | (apply cd_n <;> intro h) | (apply cd_t; (first | exact rfl | assumption)) | (apply cd_f; (first | exact rfl | assumption)) | (apply cd_d <;> intro h) | (apply cd_s <;> intro h))
      | (apply zr; exact rfl; exact rfl)
      | (apply qr; (iterate 3 exact rfl))
      | apply q6
      | (apply qc; exact rfl; exact hlx; exact rfl; exact rfl))
     refine qe3 (fun s => s.df = [] ∧ Par b o ⟨ls, fr, fu, its ++ [⟨1, text ++ [10], []⟩], bk, fs, rc⟩ s.st ∧ Keep b o st s.st) ?_ ?_
     ·refine qca rfl rfl ?_
      (apply qj 0; exact rfl; kernel_rfl; kernel_rfl; kernel_rfl; exact rfl; exact ww)
      (apply qj 1; exact rfl; kernel_rfl; kernel_rfl; kernel_rfl; exact rfl; exact ww)
      (apply qj 2; exact rfl; kernel_rfl; kernel_rfl; kernel_rfl; exact rfl; (apply zh; exact rfl; exact rfl))
      (apply qj 3; exact rfl; kernel_rfl; kernel_rfl; kernel_rfl; exact rfl; (first | (apply qt; (iterate 3 exact rfl)) | (apply qu; (iterate 4 exact rfl))))
      (apply qj 5; exact rfl; kernel_rfl; kernel_rfl; kernel_rfl; exact rfl; (first | (apply qt; (iterate 3 exact rfl)) | (apply qu; (iterate 4 exact rfl))))
      refine qp [4, 6] (by kernel_rfl) rfl ⟨⟨_, rfl, ?_⟩, ⟨_, rfl, ?_⟩, trivial⟩
      ·(first | (apply qc; exact rfl; exact hob1; exact rfl; exact rfl) | (apply qc; exact rfl; exact hlx; exact rfl; exact rfl) | (apply qq; (iterate 5 exact rfl)) | (apply qh; (iterate 5 exact rfl)) | (apply qk; (iterate 3 exact rfl)))
       apply qa
       refine qp [6] (by kernel_rfl) rfl ⟨⟨_, rfl, ?_⟩, trivial⟩
       (first | (apply qc; exact rfl; exact hob1; exact rfl; exact rfl) | (apply qc; exact rfl; exact hlx; exact rfl; exact rfl) | (apply qq; (iterate 5 exact rfl)) | (apply qh; (iterate 5 exact rfl)) | (apply qk; (iterate 3 exact rfl)))
       apply qa
       (apply qj 7; exact rfl; kernel_rfl; kernel_rfl; kernel_rfl; exact rfl; (apply ko; exact rfl; exact rfl; (first | omega | (simp only [List.length_append, List.length_cons, List.length_nil]; omega))))
       (apply qj 8; exact rfl; kernel_rfl; kernel_rfl; kernel_rfl; exact rfl; (apply kz; (iterate 3 exact rfl)))
       refine qp [9] (by kernel_rfl) rfl ⟨⟨_, rfl, ?_⟩, trivial⟩
       (first | (apply zo 40 rfl (qkg 1 (text ++ [10])); apply qv; (iterate 9 exact rfl)) | (apply qv; (iterate 9 exact rfl)))
       apply qa
       refine qp [10] (by kernel_rfl) rfl ⟨⟨_, rfl, ?_⟩, trivial⟩
       (apply q5 (b := b) (xs := its.map zf) (ys := [zf ⟨1, text ++ [10], []⟩]) (bytes := 48); exact rfl; exact rfl; exact P1.h2; exact hle1; (iterate 3 exact rfl); exact ⟨⟨_, _, rfl, rfl, rfl, rfl, rfl⟩⟩; exact rfl; (simp [maxLen]; omega); (simp; omega); intro t4 st4 g1 g2 g3 g4; have ho4 := (g3.same o (by omega) hol).trans hob1)
       apply qa
       (apply qj 11; exact rfl; kernel_rfl; kernel_rfl; kernel_rfl; exact rfl; (apply zh; exact rfl; exact rfl))
       (apply qj 12; exact rfl; kernel_rfl; kernel_rfl; kernel_rfl; exact rfl; (first | (apply qt; (iterate 3 exact rfl)) | (apply qu; (iterate 4 exact rfl))))
       refine qp [13] (by kernel_rfl) rfl ⟨⟨_, rfl, ?_⟩, trivial⟩
       (first | (apply qs; exact rfl; exact rfl; exact ho4; (iterate 6 exact rfl)) | (apply qx; (iterate 11 exact rfl)) | (apply qn; (iterate 11 exact rfl)))
       apply qa
       refine jh (by kernel_rfl) ?_
       exact ⟨rfl, jo P1 g1 g2 g3 g4, hk1.trans ((jm g3 hle1 g2 P1.h2 g4).trans zz)⟩
      ·(first | (apply qc; exact rfl; exact hob1; exact rfl; exact rfl) | (apply qc; exact rfl; exact hlx; exact rfl; exact rfl) | (apply qq; (iterate 5 exact rfl)) | (apply qh; (iterate 5 exact rfl)) | (apply qk; (iterate 3 exact rfl)))
       apply qa
       (apply qj 7; exact rfl; kernel_rfl; kernel_rfl; kernel_rfl; exact rfl; (apply ko; exact rfl; exact rfl; (first | omega | (simp only [List.length_append, List.length_cons, List.length_nil]; omega))))
       (apply qj 8; exact rfl; kernel_rfl; kernel_rfl; kernel_rfl; exact rfl; (apply kz; (iterate 3 exact rfl)))
       refine qp [4, 9] (by kernel_rfl) rfl ⟨⟨_, rfl, ?_⟩, ⟨_, rfl, ?_⟩, trivial⟩
       ·(first | (apply qc; exact rfl; exact hob1; exact rfl; exact rfl) | (apply qc; exact rfl; exact hlx; exact rfl; exact rfl) | (apply qq; (iterate 5 exact rfl)) | (apply qh; (iterate 5 exact rfl)) | (apply qk; (iterate 3 exact rfl)))
        apply qa
        refine qp [9] (by kernel_rfl) rfl ⟨⟨_, rfl, ?_⟩, trivial⟩
        (first | (apply zo 40 rfl (qkg 1 (text ++ [10])); apply qv; (iterate 9 exact rfl)) | (apply qv; (iterate 9 exact rfl)))
        apply qa
        refine qp [10] (by kernel_rfl) rfl ⟨⟨_, rfl, ?_⟩, trivial⟩
        (apply q5 (b := b) (xs := its.map zf) (ys := [zf ⟨1, text ++ [10], []⟩]) (bytes := 48); exact rfl; exact rfl; exact P1.h2; exact hle1; (iterate 3 exact rfl); exact ⟨⟨_, _, rfl, rfl, rfl, rfl, rfl⟩⟩; exact rfl; (simp [maxLen]; omega); (simp; omega); intro t4 st4 g1 g2 g3 g4; have ho4 := (g3.same o (by omega) hol).trans hob1)
        apply qa
        (apply qj 11; exact rfl; kernel_rfl; kernel_rfl; kernel_rfl; exact rfl; (apply zh; exact rfl; exact rfl))
        (apply qj 12; exact rfl; kernel_rfl; kernel_rfl; kernel_rfl; exact rfl; (first | (apply qt; (iterate 3 exact rfl)) | (apply qu; (iterate 4 exact rfl))))
        refine qp [13] (by kernel_rfl) rfl ⟨⟨_, rfl, ?_⟩, trivial⟩
        (first | (apply qs; exact rfl; exact rfl; exact ho4; (iterate 6 exact rfl)) | (apply qx; (iterate 11 exact rfl)) | (apply qn; (iterate 11 exact rfl)))
        apply qa
        refine jh (by kernel_rfl) ?_
        exact ⟨rfl, jo P1 g1 g2 g3 g4, hk1.trans ((jm g3 hle1 g2 P1.h2 g4).trans zz)⟩
       ·(first | (apply zo 40 rfl (qkg 1 (text ++ [10])); apply qv; (iterate 9 exact rfl)) | (apply qv; (iterate 9 exact rfl)))
        apply qa
        refine qp [4] (by kernel_rfl) rfl ⟨⟨_, rfl, ?_⟩, trivial⟩
        (first | (apply qc; exact rfl; exact hob1; exact rfl; exact rfl) | (apply qc; exact rfl; exact hlx; exact rfl; exact rfl) | (apply qq; (iterate 5 exact rfl)) | (apply qh; (iterate 5 exact rfl)) | (apply qk; (iterate 3 exact rfl)))
        apply qa
        refine qp [10] (by kernel_rfl) rfl ⟨⟨_, rfl, ?_⟩, trivial⟩
        (apply q5 (b := b) (xs := its.map zf) (ys := [zf ⟨1, text ++ [10], []⟩]) (bytes := 48); exact rfl; exact rfl; exact P1.h2; exact hle1; (iterate 3 exact rfl); exact ⟨⟨_, _, rfl, rfl, rfl, rfl, rfl⟩⟩; exact rfl; (simp [maxLen]; omega); (simp; omega); intro t4 st4 g1 g2 g3 g4; have ho4 := (g3.same o (by omega) hol).trans hob1)
        apply qa
        (apply qj 11; exact rfl; kernel_rfl; kernel_rfl; kernel_rfl; exact rfl; (apply zh; exact rfl; exact rfl))
        (apply qj 12; exact rfl; kernel_rfl; kernel_rfl; kernel_rfl; exact rfl; (first | (apply qt; (iterate 3 exact rfl)) | (apply qu; (iterate 4 exact rfl))))
        refine qp [13] (by kernel_rfl) rfl ⟨⟨_, rfl, ?_⟩, trivial⟩
        (first | (apply qs; exact rfl; exact rfl; exact ho4; (iterate 6 exact rfl)) | (apply qx; (iterate 11 exact rfl)) | (apply qn; (iterate 11 exact rfl)))
        apply qa
        refine jh (by kernel_rfl) ?_
        exact ⟨rfl, jo P1 g1 g2 g3 g4, hk1.trans ((jm g3 hle1 g2 P1.h2 g4).trans zz)⟩
     ·rintro ⟨t2, st2, df2⟩ ⟨hd, hp2, hk2⟩
      simp only at hd hp2 hk2
      subst hd
      repeat' (first
       | apply qm
       | apply qe
       | apply qa
       | apply qf
       | apply qz)
      exact qo rfl (zm rfl) ⟨rfl, fun _ => hp2, hk2⟩
    ·rw [if_neg k1]
     by_cases k4 : zl text = 4
     ·rw [if_pos k4]
      repeat' (first
       | apply qm
       | apply q4
       | apply qe
       | apply qa
       | apply qi
       | apply qf
       | (apply qw; (iterate 3 exact rfl))
       | (apply jc; exact rfl)
       | (apply za; (iterate 4 exact rfl))
       | (apply kv; (first | assumption | omega))
       | (apply zg; exact rfl; first | (apply kc; (first | assumption | omega)) | (apply ka; (first | assumption | omega)) | (apply j9; (first | exact rfl | assumption)) | (apply ke; (first | exact rfl | assumption)) | (apply pk_t; (first | exact rfl | assumption)) | (apply pk_f; (first | exact rfl | assumption)))
       | (apply qg; exact rfl; first | (apply ze; (first | assumption | omega)) | (apply zd; (first | assumption | omega)) | (apply zc; (first | exact rfl | assumption)) | (apply zb; (first | exact rfl | assumption)) | (apply cd_n <;> intro h) | (apply cd_t; (first | exact rfl | assumption)) | (apply cd_f; (first | exact rfl | assumption)) | (apply cd_d <;> intro h) | (apply cd_s <;> intro h))
       | (apply zr; exact rfl; exact rfl)
       | (apply qr; (iterate 3 exact rfl))
       | apply q6
       | (apply qc; exact rfl; exact hlx; exact rfl; exact rfl))
      refine xy Tryz.call135 ((q1i b o p1 _ no at' text true hp).mono ?_)
      rintro _ stX ⟨rfl, hpX, hkb⟩
      have hlX : stX[st.length + 0]? = some (.cells 0 129 (lnO no at' text true).cells) := (hkb.same (st.length + 0) (by omega) (lt_of_getElem? hlx) (.inr (xj hlx))).trans hlx
      have hBX : PB (n + 3) (vm p1 no text) := qr6 hB1 (by omega) ht
      have hkX : Keep b o st stX := hk1.trans hkb
      show AOps _ _ _ _ _ _ _
      repeat' (first
       | apply qm
       | apply qa)
      rw [show p1.block = (vm p1 no text).block from rfl]
      generalize vm p1 no text = pX at hpX hBX
      refine qax [(0, .bx o 0 0), (3, .bx (st.length + 0) 0 0)] stX [] ⟨rfl, rfl, trivial⟩ rfl rfl fun t => ?_
      obtain ⟨d1, d2, d3, d4, P1⟩ := hpX
      obtain ⟨ls, fr, fu, its, bk, fs, rc⟩ := pX
      have hob1 : stX[o]? = some (.cells 0 148 [d1, Iv fr, Bv fu, d2, d3, d4, Iv rc]) := P1.ob
      have hle1 := P1.le
      have hol : o < stX.length := by omega
      have hin : bk.length ≤ n + 3 := hBX.block
      have hil : (bk.map fun x => Sv x).length = bk.length := by simp
      refine qe3 (fun s => s.df = [] ∧ Par b o ⟨ls, fr, fu, its, bk ++ [text], fs, rc⟩ s.st ∧ Keep b o st s.st) ?_ ?_
      ·refine qca rfl rfl ?_
       (apply qj 0; exact rfl; kernel_rfl; kernel_rfl; kernel_rfl; exact rfl; exact ww)
       (apply qj 1; exact rfl; kernel_rfl; kernel_rfl; kernel_rfl; exact rfl; exact ww)
       (apply qj 2; exact rfl; kernel_rfl; kernel_rfl; kernel_rfl; exact rfl; (apply zh; exact rfl; exact rfl))
       (apply qj 3; exact rfl; kernel_rfl; kernel_rfl; kernel_rfl; exact rfl; (first | (apply qt; (iterate 3 exact rfl)) | (apply qu; (iterate 4 exact rfl))))
       (apply qj 5; exact rfl; kernel_rfl; kernel_rfl; kernel_rfl; exact rfl; (first | (apply qt; (iterate 3 exact rfl)) | (apply qu; (iterate 4 exact rfl))))
       refine qp [4, 6] (by kernel_rfl) rfl ⟨⟨_, rfl, ?_⟩, ⟨_, rfl, ?_⟩, trivial⟩
       ·(first | (apply qc; exact rfl; exact hob1; exact rfl; exact rfl) | (apply qc; exact rfl; exact hlX; exact rfl; exact rfl) | (apply qq; (iterate 5 exact rfl)) | (apply qh; (iterate 5 exact rfl)) | (apply qk; (iterate 3 exact rfl)))
        apply qa
        refine qp [6] (by kernel_rfl) rfl ⟨⟨_, rfl, ?_⟩, trivial⟩
        (first | (apply qc; exact rfl; exact hob1; exact rfl; exact rfl) | (apply qc; exact rfl; exact hlX; exact rfl; exact rfl) | (apply qq; (iterate 5 exact rfl)) | (apply qh; (iterate 5 exact rfl)) | (apply qk; (iterate 3 exact rfl)))
        apply qa
        refine qp [7] (by kernel_rfl) rfl ⟨⟨_, rfl, ?_⟩, trivial⟩
        (apply qv; (iterate 9 exact rfl))
        apply qa
        refine qp [8] (by kernel_rfl) rfl ⟨⟨_, rfl, ?_⟩, trivial⟩
        (apply q5 (b := b) (xs := bk.map fun x => Sv x) (ys := [Sv text]) (bytes := 16); exact rfl; exact rfl; exact P1.h3; exact hle1; (iterate 3 exact rfl); exact ⟨⟨_, _, rfl, rfl, rfl, rfl, rfl⟩⟩; exact rfl; (simp [maxLen]; omega); (simp; omega); intro t4 st4 g1 g2 g3 g4; have ho4 := (g3.same o (by omega) hol).trans hob1)
        apply qa
        (apply qj 9; exact rfl; kernel_rfl; kernel_rfl; kernel_rfl; exact rfl; (apply zh; exact rfl; exact rfl))
        (apply qj 10; exact rfl; kernel_rfl; kernel_rfl; kernel_rfl; exact rfl; (first | (apply qt; (iterate 3 exact rfl)) | (apply qu; (iterate 4 exact rfl))))
        refine qp [11] (by kernel_rfl) rfl ⟨⟨_, rfl, ?_⟩, trivial⟩
        (first | (apply qs; exact rfl; exact rfl; exact ho4; (iterate 6 exact rfl)) | (apply qx; (iterate 11 exact rfl)) | (apply qn; (iterate 11 exact rfl)))
        apply qa
        refine jh (by kernel_rfl) ?_
        exact ⟨rfl, qd4 P1 g1 g2 g3 g4, hkX.trans ((jm g3 hle1 g2 P1.h3 g4).trans zz)⟩
       ·(first | (apply qc; exact rfl; exact hob1; exact rfl; exact rfl) | (apply qc; exact rfl; exact hlX; exact rfl; exact rfl) | (apply qq; (iterate 5 exact rfl)) | (apply qh; (iterate 5 exact rfl)) | (apply qk; (iterate 3 exact rfl)))
        apply qa
        refine qp [4, 7] (by kernel_rfl) rfl ⟨⟨_, rfl, ?_⟩, ⟨_, rfl, ?_⟩, trivial⟩
        ·(first | (apply qc; exact rfl; exact hob1; exact rfl; exact rfl) | (apply qc; exact rfl; exact hlX; exact rfl; exact rfl) | (apply qq; (iterate 5 exact rfl)) | (apply qh; (iterate 5 exact rfl)) | (apply qk; (iterate 3 exact rfl)))
         apply qa
         refine qp [7] (by kernel_rfl) rfl ⟨⟨_, rfl, ?_⟩, trivial⟩
         (apply qv; (iterate 9 exact rfl))
         apply qa
         refine qp [8] (by kernel_rfl) rfl ⟨⟨_, rfl, ?_⟩, trivial⟩
         (apply q5 (b := b) (xs := bk.map fun x => Sv x) (ys := [Sv text]) (bytes := 16); exact rfl; exact rfl; exact P1.h3; exact hle1; (iterate 3 exact rfl); exact ⟨⟨_, _, rfl, rfl, rfl, rfl, rfl⟩⟩; exact rfl; (simp [maxLen]; omega); (simp; omega); intro t4 st4 g1 g2 g3 g4; have ho4 := (g3.same o (by omega) hol).trans hob1)
         apply qa
         (apply qj 9; exact rfl; kernel_rfl; kernel_rfl; kernel_rfl; exact rfl; (apply zh; exact rfl; exact rfl))
         (apply qj 10; exact rfl; kernel_rfl; kernel_rfl; kernel_rfl; exact rfl; (first | (apply qt; (iterate 3 exact rfl)) | (apply qu; (iterate 4 exact rfl))))
         refine qp [11] (by kernel_rfl) rfl ⟨⟨_, rfl, ?_⟩, trivial⟩
         (first | (apply qs; exact rfl; exact rfl; exact ho4; (iterate 6 exact rfl)) | (apply qx; (iterate 11 exact rfl)) | (apply qn; (iterate 11 exact rfl)))
         apply qa
         refine jh (by kernel_rfl) ?_
         exact ⟨rfl, qd4 P1 g1 g2 g3 g4, hkX.trans ((jm g3 hle1 g2 P1.h3 g4).trans zz)⟩
        ·(apply qv; (iterate 9 exact rfl))
         apply qa
         refine qp [4] (by kernel_rfl) rfl ⟨⟨_, rfl, ?_⟩, trivial⟩
         (first | (apply qc; exact rfl; exact hob1; exact rfl; exact rfl) | (apply qc; exact rfl; exact hlX; exact rfl; exact rfl) | (apply qq; (iterate 5 exact rfl)) | (apply qh; (iterate 5 exact rfl)) | (apply qk; (iterate 3 exact rfl)))
         apply qa
         refine qp [8] (by kernel_rfl) rfl ⟨⟨_, rfl, ?_⟩, trivial⟩
         (apply q5 (b := b) (xs := bk.map fun x => Sv x) (ys := [Sv text]) (bytes := 16); exact rfl; exact rfl; exact P1.h3; exact hle1; (iterate 3 exact rfl); exact ⟨⟨_, _, rfl, rfl, rfl, rfl, rfl⟩⟩; exact rfl; (simp [maxLen]; omega); (simp; omega); intro t4 st4 g1 g2 g3 g4; have ho4 := (g3.same o (by omega) hol).trans hob1)
         apply qa
         (apply qj 9; exact rfl; kernel_rfl; kernel_rfl; kernel_rfl; exact rfl; (apply zh; exact rfl; exact rfl))
         (apply qj 10; exact rfl; kernel_rfl; kernel_rfl; kernel_rfl; exact rfl; (first | (apply qt; (iterate 3 exact rfl)) | (apply qu; (iterate 4 exact rfl))))
         refine qp [11] (by kernel_rfl) rfl ⟨⟨_, rfl, ?_⟩, trivial⟩
         (first | (apply qs; exact rfl; exact rfl; exact ho4; (iterate 6 exact rfl)) | (apply qx; (iterate 11 exact rfl)) | (apply qn; (iterate 11 exact rfl)))
         apply qa
         refine jh (by kernel_rfl) ?_
         exact ⟨rfl, qd4 P1 g1 g2 g3 g4, hkX.trans ((jm g3 hle1 g2 P1.h3 g4).trans zz)⟩
      ·rintro ⟨t2, st2, df2⟩ ⟨hd, hp2, hk2⟩
       simp only at hd hp2 hk2
       subst hd
       repeat' (first
        | apply qm
        | apply qe
        | apply qa
        | apply qf
        | apply qz)
       exact qo rfl (zm rfl) ⟨rfl, fun _ => hp2, hk2⟩
     ·rw [if_neg k4]
      repeat' (first
       | apply qm
       | apply q4
       | apply qe
       | apply qa
       | apply qi
       | apply qf
       | (apply qw; (iterate 3 exact rfl))
       | (apply jc; exact rfl)
       | (apply za; (iterate 4 exact rfl))
       | (apply kv; (first | assumption | omega))
       | (apply zg; exact rfl; first | (apply kc; (first | assumption | omega)) | (apply ka; (first | assumption | omega)) | (apply j9; (first | exact rfl | assumption)) | (apply ke; (first | exact rfl | assumption)) | (apply pk_t; (first | exact rfl | assumption)) | (apply pk_f; (first | exact rfl | assumption)))
       | (apply qg; exact rfl; first | (apply ze; (first | assumption | omega)) | (apply zd; (first | assumption | omega)) | (apply zc; (first | exact rfl | assumption)) | (apply zb; (first | exact rfl | assumption)) | (apply cd_n <;> intro h) | (apply cd_t; (first | exact rfl | assumption)) | (apply cd_f; (first | exact rfl | assumption)) | (apply cd_d <;> intro h) | (apply cd_s <;> intro h))
       | (apply zr; exact rfl; exact rfl)
       | (apply qr; (iterate 3 exact rfl))
       | apply q6
       | (apply qc; exact rfl; exact hlx; exact rfl; exact rfl))
      obtain ⟨stX, hsX⟩ : ∃ x, x = st1 := ⟨_, rfl⟩
      obtain ⟨pX, hpX0⟩ : ∃ x, x = p1 := ⟨_, rfl⟩
      have hpX : Par b o pX stX := by rw [hpX0, hsX]; exact hp
      have hBX : PB (n + 3) pX := by rw [hpX0]; exact hB1.more (by omega) (by omega)
      have hkX : Keep b o st stX := by rw [hsX]; exact hk1
      have hlX : stX[st.length + 0]? = some (.cells 0 129 (lnO no at' text true).cells) := by rw [hsX]; exact hlx
      rw [← hpX0]
      refine qax [(0, .bx o 0 0), (3, .bx (st.length + 0) 0 0)] stX [] ⟨rfl, rfl, trivial⟩ hsX.symm rfl fun t => ?_
      obtain ⟨d1, d2, d3, d4, P1⟩ := hpX
      obtain ⟨ls, fr, fu, its, bk, fs, rc⟩ := pX
      have hob1 : stX[o]? = some (.cells 0 148 [d1, Iv fr, Bv fu, d2, d3, d4, Iv rc]) := P1.ob
      have hle1 := P1.le
      have hol : o < stX.length := by omega
      have hin : bk.length ≤ n + 3 := hBX.block
      have hil : (bk.map fun x => Sv x).length = bk.length := by simp
      refine qe3 (fun s => s.df = [] ∧ Par b o ⟨ls, fr, fu, its, bk ++ [text], fs, rc⟩ s.st ∧ Keep b o st s.st) ?_ ?_
      ·refine qca rfl rfl ?_
       (apply qj 0; exact rfl; kernel_rfl; kernel_rfl; kernel_rfl; exact rfl; exact ww)
       (apply qj 1; exact rfl; kernel_rfl; kernel_rfl; kernel_rfl; exact rfl; exact ww)
       (apply qj 2; exact rfl; kernel_rfl; kernel_rfl; kernel_rfl; exact rfl; (apply zh; exact rfl; exact rfl))
       (apply qj 3; exact rfl; kernel_rfl; kernel_rfl; kernel_rfl; exact rfl; (first | (apply qt; (iterate 3 exact rfl)) | (apply qu; (iterate 4 exact rfl))))
       (apply qj 5; exact rfl; kernel_rfl; kernel_rfl; kernel_rfl; exact rfl; (first | (apply qt; (iterate 3 exact rfl)) | (apply qu; (iterate 4 exact rfl))))
       refine qp [4, 6] (by kernel_rfl) rfl ⟨⟨_, rfl, ?_⟩, ⟨_, rfl, ?_⟩, trivial⟩
       ·(first | (apply qc; exact rfl; exact hob1; exact rfl; exact rfl) | (apply qc; exact rfl; exact hlX; exact rfl; exact rfl) | (apply qq; (iterate 5 exact rfl)) | (apply qh; (iterate 5 exact rfl)) | (apply qk; (iterate 3 exact rfl)))
        apply qa
        refine qp [6] (by kernel_rfl) rfl ⟨⟨_, rfl, ?_⟩, trivial⟩
        (first | (apply qc; exact rfl; exact hob1; exact rfl; exact rfl) | (apply qc; exact rfl; exact hlX; exact rfl; exact rfl) | (apply qq; (iterate 5 exact rfl)) | (apply qh; (iterate 5 exact rfl)) | (apply qk; (iterate 3 exact rfl)))
        apply qa
        refine qp [7] (by kernel_rfl) rfl ⟨⟨_, rfl, ?_⟩, trivial⟩
        (apply qv; (iterate 9 exact rfl))
        apply qa
        refine qp [8] (by kernel_rfl) rfl ⟨⟨_, rfl, ?_⟩, trivial⟩
        (apply q5 (b := b) (xs := bk.map fun x => Sv x) (ys := [Sv text]) (bytes := 16); exact rfl; exact rfl; exact P1.h3; exact hle1; (iterate 3 exact rfl); exact ⟨⟨_, _, rfl, rfl, rfl, rfl, rfl⟩⟩; exact rfl; (simp [maxLen]; omega); (simp; omega); intro t4 st4 g1 g2 g3 g4; have ho4 := (g3.same o (by omega) hol).trans hob1)
        apply qa
        (apply qj 9; exact rfl; kernel_rfl; kernel_rfl; kernel_rfl; exact rfl; (apply zh; exact rfl; exact rfl))
        (apply qj 10; exact rfl; kernel_rfl; kernel_rfl; kernel_rfl; exact rfl; (first | (apply qt; (iterate 3 exact rfl)) | (apply qu; (iterate 4 exact rfl))))
        refine qp [11] (by kernel_rfl) rfl ⟨⟨_, rfl, ?_⟩, trivial⟩
        (first | (apply qs; exact rfl; exact rfl; exact ho4; (iterate 6 exact rfl)) | (apply qx; (iterate 11 exact rfl)) | (apply qn; (iterate 11 exact rfl)))
        apply qa
        refine jh (by kernel_rfl) ?_
        exact ⟨rfl, qd4 P1 g1 g2 g3 g4, hkX.trans ((jm g3 hle1 g2 P1.h3 g4).trans zz)⟩
       ·(first | (apply qc; exact rfl; exact hob1; exact rfl; exact rfl) | (apply qc; exact rfl; exact hlX; exact rfl; exact rfl) | (apply qq; (iterate 5 exact rfl)) | (apply qh; (iterate 5 exact rfl)) | (apply qk; (iterate 3 exact rfl)))
        apply qa
        refine qp [4, 7] (by kernel_rfl) rfl ⟨⟨_, rfl, ?_⟩, ⟨_, rfl, ?_⟩, trivial⟩
        ·(first | (apply qc; exact rfl; exact hob1; exact rfl; exact rfl) | (apply qc; exact rfl; exact hlX; exact rfl; exact rfl) | (apply qq; (iterate 5 exact rfl)) | (apply qh; (iterate 5 exact rfl)) | (apply qk; (iterate 3 exact rfl)))
         apply qa
         refine qp [7] (by kernel_rfl) rfl ⟨⟨_, rfl, ?_⟩, trivial⟩
         (apply qv; (iterate 9 exact rfl))
         apply qa
         refine qp [8] (by kernel_rfl) rfl ⟨⟨_, rfl, ?_⟩, trivial⟩
         (apply q5 (b := b) (xs := bk.map fun x => Sv x) (ys := [Sv text]) (bytes := 16); exact rfl; exact rfl; exact P1.h3; exact hle1; (iterate 3 exact rfl); exact ⟨⟨_, _, rfl, rfl, rfl, rfl, rfl⟩⟩; exact rfl; (simp [maxLen]; omega); (simp; omega); intro t4 st4 g1 g2 g3 g4; have ho4 := (g3.same o (by omega) hol).trans hob1)
         apply qa
         (apply qj 9; exact rfl; kernel_rfl; kernel_rfl; kernel_rfl; exact rfl; (apply zh; exact rfl; exact rfl))
         (apply qj 10; exact rfl; kernel_rfl; kernel_rfl; kernel_rfl; exact rfl; (first | (apply qt; (iterate 3 exact rfl)) | (apply qu; (iterate 4 exact rfl))))
         refine qp [11] (by kernel_rfl) rfl ⟨⟨_, rfl, ?_⟩, trivial⟩
         (first | (apply qs; exact rfl; exact rfl; exact ho4; (iterate 6 exact rfl)) | (apply qx; (iterate 11 exact rfl)) | (apply qn; (iterate 11 exact rfl)))
         apply qa
         refine jh (by kernel_rfl) ?_
         exact ⟨rfl, qd4 P1 g1 g2 g3 g4, hkX.trans ((jm g3 hle1 g2 P1.h3 g4).trans zz)⟩
        ·(apply qv; (iterate 9 exact rfl))
         apply qa
         refine qp [4] (by kernel_rfl) rfl ⟨⟨_, rfl, ?_⟩, trivial⟩
         (first | (apply qc; exact rfl; exact hob1; exact rfl; exact rfl) | (apply qc; exact rfl; exact hlX; exact rfl; exact rfl) | (apply qq; (iterate 5 exact rfl)) | (apply qh; (iterate 5 exact rfl)) | (apply qk; (iterate 3 exact rfl)))
         apply qa
         refine qp [8] (by kernel_rfl) rfl ⟨⟨_, rfl, ?_⟩, trivial⟩
         (apply q5 (b := b) (xs := bk.map fun x => Sv x) (ys := [Sv text]) (bytes := 16); exact rfl; exact rfl; exact P1.h3; exact hle1; (iterate 3 exact rfl); exact ⟨⟨_, _, rfl, rfl, rfl, rfl, rfl⟩⟩; exact rfl; (simp [maxLen]; omega); (simp; omega); intro t4 st4 g1 g2 g3 g4; have ho4 := (g3.same o (by omega) hol).trans hob1)
         apply qa
         (apply qj 9; exact rfl; kernel_rfl; kernel_rfl; kernel_rfl; exact rfl; (apply zh; exact rfl; exact rfl))
         (apply qj 10; exact rfl; kernel_rfl; kernel_rfl; kernel_rfl; exact rfl; (first | (apply qt; (iterate 3 exact rfl)) | (apply qu; (iterate 4 exact rfl))))
         refine qp [11] (by kernel_rfl) rfl ⟨⟨_, rfl, ?_⟩, trivial⟩
         (first | (apply qs; exact rfl; exact rfl; exact ho4; (iterate 6 exact rfl)) | (apply qx; (iterate 11 exact rfl)) | (apply qn; (iterate 11 exact rfl)))
         apply qa
         refine jh (by kernel_rfl) ?_
         exact ⟨rfl, qd4 P1 g1 g2 g3 g4, hkX.trans ((jm g3 hle1 g2 P1.h3 g4).trans zz)⟩
      ·rintro ⟨t2, st2, df2⟩ ⟨hd, hp2, hk2⟩
       simp only at hd hp2 hk2
       subst hd
       repeat' (first
        | apply qm
        | apply qe
        | apply qa
        | apply qf
        | apply qz)
       exact qo rfl (zm rfl) ⟨rfl, fun _ => hp2, hk2⟩
end Go.Proofs.YtefmcijohgpfhaaGreatDoor
set_option maxRecDepth 100000
set_option linter.unusedVariables false
namespace Go.Proofs.YtefmcijohgpfhaaGreatDoor
open Go Go.Av Go.RowKit Go.Proofs Go.Pl
structure Ext (n : Nat) (S S' : List AObj) : Prop where
 len : S.length ≤ S'.length
 low : ∀ k, k < n → S'[k]? = S[k]?
 tips : ∀ (t m sz : Nat) (T : TypeId), S[t]? = some (AObj.tip m sz T) → S'[t]? = S[t]?
theorem qo2 {n : Nat} {S l : List AObj} (h : n ≤ S.length) : Ext n S (S ++ l) := ⟨by simp, fun k hk => List.getElem?_append_left (by omega), fun t m sz T ht => List.getElem?_append_left (lt_of_getElem? ht)⟩
theorem qb1 {n o : Nat} {S : List AObj} {x : AObj} (h : n ≤ o) (hn : qfg S[o]?) : Ext n S (S.set o x) := ⟨by simp, fun k hk => List.getElem?_set_ne (by omega), fun t m sz T ht => List.getElem?_set_ne (fun e => by subst e; exact hn _ _ _ ht)⟩
theorem Ext.weak {n m : Nat} {S S' : List AObj} (h : Ext n S S') (hm : m ≤ n) : Ext m S S' := ⟨h.len, fun k hk => h.low k (by omega), h.tips⟩
theorem Ext.trans {n : Nat} {S S' S'' : List AObj} (h : Ext n S S') (k : Ext n S' S'') : Ext n S S'' := ⟨Nat.le_trans h.len k.len, fun i hi => (k.low i hi).trans (h.low i hi), fun t m sz T ht => (k.tips t m sz T ((h.tips t m sz T ht).trans ht)).trans (h.tips t m sz T ht)⟩
theorem qz3 (text : List UInt8) (o kb ver n m : Nat) (I : Nat → List UInt8 → List AObj → Prop) (D : List AObj → Prop) (S : List AObj) (hm : S.length = m) (hn : n ≤ m) (ht : text.length < 4294967281) (h0 : I 0 text S)
  (hI : ∀ k rest S', I k rest S' → S'[kb]? = some (.cells ver 9 [Sv text]))
  (hst : ∀ k rest S' S'', Ext n S' S'' → I k rest S' → I k rest S'')
  (hY : ∀ k rest S' cs, I k rest S' → S'[m]? = some (.cells 0 129 cs) → rest ≠ [] → rest.length ≤ text.length → qba E o [qcg k text rest] S' fun b S'' => S''[m]? = some (.cells 0 129 cs) ∧ (b = true → I (k + 1) (past 10 rest) S'') ∧ (b = false → D S'')) :
  q7 E 113 [.yd o, .bx kb ver 0] S fun r S' => (∃ k, I k [] S') ∨ D S' := by
 subst hm
 refine q8 Tryz.func113 rfl (Nat.le_of_ble_eq_true rfl) ?_
 have hb := hI 0 text S h0
 repeat' (first
  | apply qm
  | apply q4
  | apply qe
  | apply qa
  | apply qf
  | (apply z0; exact rfl; exact rfl)
  | (apply qn; (iterate 11 exact rfl))
  | (apply jq; (iterate 3 exact rfl))
  | (apply qcn; exact rfl; exact rfl; exact hb; exact rfl; exact rfl))
 refine yg (fun (x : Nat × List UInt8) s => match x with | (k, rest) => ∃ S' at' ta eb, I k rest S' ∧ k + rest.length ≤ text.length ∧ at' = (text.length : Int) - rest.length ∧ S'[S.length]? = some (.cells 0 129 [Iv k, Iv at', Sv ta, Bv eb]) ∧ StA [(0, .yd o), (1, .bx kb ver 0), (3, .bx S.length 0 0), (4, Sv rest)] S' [] s) (fun x => x.2.length) (0, text)
  ⟨_, 0, [], false, hst _ _ _ _ (qo2 hn) h0, by simp, by simp, zn (k := 0) rfl, qal ⟨rfl, rfl, rfl, rfl, trivial⟩⟩ ?_
 rintro ⟨k, rest⟩ _ ⟨S', _, ta, eb, hi, hle, rfl, hown, t, rfl⟩
 have hb' := hI k rest S' hi
 repeat' (first
  | apply qm
  | apply q4
  | apply qe
  | apply qa
  | apply qi
  | apply qf
  | (apply zj; exact rfl; exact rfl)
  | (apply ji; (iterate 3 exact rfl))
  | (apply qg; exact rfl; first | (apply ze; (first | assumption | omega)) | (apply zd; (first | assumption | omega)) | (apply zc; (first | exact rfl | assumption)) | (apply zb; (first | exact rfl | assumption)) | (apply cd_n <;> intro h) | (apply cd_t; (first | exact rfl | assumption)) | (apply cd_f; (first | exact rfl | assumption)) | (apply cd_d <;> intro h) | (apply cd_s <;> intro h))
  | (apply qr; (iterate 3 exact rfl))
  | apply q6
  | apply jp
  | (apply qd; exact Tryz.call36; exact qdi _ _ _ (by omega))
  | (apply qc; exact rfl; (focus first | assumption | (repeat' (first | assumption | exact jj | exact zn rfl | apply zw | apply zk | omega | apply z6))); exact rfl; exact rfl)
  | (apply qs; exact rfl; exact rfl; (focus first | assumption | (repeat' (first | assumption | exact jj | exact zn rfl | apply zw | apply zk | omega | apply z6))); (iterate 6 exact rfl)))
 ·have e1 : Ext n S' ((S'.set S.length (.cells 0 129 [Iv k, Iv ((text.length : Int) - rest.length), Sv (upto 10 rest), Bv eb])).set S.length (.cells 0 129 [Iv k, Iv ((text.length : Int) - rest.length), Sv (upto 10 rest), Bv (decide (10 ∈ rest))])) :=
   (qb1 hn (xj hown)).trans (qb1 hn (xj (zw hown)))
  apply qev (o := o) rfl
  refine qba.mono (hY k rest _ _ (hst _ _ _ _ e1 hi) (zw (zw hown)) h (by omega)) ?_
  rintro b S2 ⟨hown2, h1, h2⟩
  show AOps _ _ _ _ _ _ _
  cases b
  ·skip
   repeat' (first
    | apply qa
    | (apply jc; exact rfl)
    | (apply qg; exact rfl; first | (apply ze; (first | assumption | omega)) | (apply zd; (first | assumption | omega)) | (apply zc; (first | exact rfl | assumption)) | (apply zb; (first | exact rfl | assumption)) | (apply cd_n <;> intro h) | (apply cd_t; (first | exact rfl | assumption)) | (apply cd_f; (first | exact rfl | assumption)) | (apply cd_d <;> intro h) | (apply cd_s <;> intro h))
    | apply qz)
   exact qo rfl (qaw rfl) (.inr (h2 rfl))
  ·have hi3 := h1 rfl
   have hb3 := hI _ _ _ hi3
   have hp := wm 10 rest
   have hr0 : 0 < rest.length := List.length_pos_iff.2 h
   have hkb : kb ≠ S.length := fun e => by
    rw [e, hown2] at hb3
    simp at hb3
   repeat' (first
    | apply qm
    | apply qe
    | apply qa
    | apply qi
    | (apply jc; exact rfl)
    | (apply qg; exact rfl; first | (apply ze; (first | assumption | omega)) | (apply zd; (first | assumption | omega)) | (apply zc; (first | exact rfl | assumption)) | (apply zb; (first | exact rfl | assumption)) | (apply cd_n <;> intro h) | (apply cd_t; (first | exact rfl | assumption)) | (apply cd_f; (first | exact rfl | assumption)) | (apply cd_d <;> intro h) | (apply cd_s <;> intro h))
    | (apply j3; (iterate 3 exact rfl))
    | (apply js; exact rfl; exact rfl; exact zi (by omega) (by omega))
    | (apply w9; exact rfl; exact rfl; exact zi (by omega) (by omega))
    | (apply qr; (iterate 3 exact rfl))
    | apply q6
    | (apply qc; exact rfl; exact zk hb3 (Ne.symm hkb); exact rfl; exact rfl)
    | (apply qc; exact rfl; (focus first | assumption | (repeat' (first | assumption | exact jj | exact zn rfl | apply zw | apply zk | omega | apply z6))); exact rfl; exact rfl)
    | (apply qs; exact rfl; exact rfl; (focus first | assumption | (repeat' (first | assumption | exact jj | exact zn rfl | apply zw | apply zk | omega | apply z6))); (iterate 6 exact rfl)))
   have e2 : Ext n S2 _ := (qb1 hn (xj hown2)).trans (qb1 (x := .cells 0 129 [Iv ((k : Int) + 1), Iv ((text.length : Int) - (past 10 rest).length), Sv (upto 10 rest), Bv (decide (10 ∈ rest))]) hn (xj (zw (y := .cells 0 129 [Iv ((k : Int) + 1), Iv ((text.length : Int) - rest.length), Sv (upto 10 rest), Bv (decide (10 ∈ rest))]) hown2)))
   exact ⟨(k + 1, past 10 rest), ⟨_, _, _, _, hst _ _ _ _ e2 hi3, by omega, rfl, zw (zw hown2), qal ⟨rfl, rfl, rfl, rfl, trivial⟩⟩, by simp only; omega⟩
 ·have hr : rest = [] := Classical.not_not.1 h
  subst hr
  exact qo rfl (qaw rfl) (.inl ⟨k, hi⟩)
@[reducible] def q31 (n : Nat) (F : LoopState → Option Code → AObj) (own : AObj) (I : List AObj → Prop) (D : Code → List AObj → Prop) : Exit → AS → Prop
 | .normal, s => s.st[n]? = some .dfr ∧ s.st[n + 1]? = some (F .busy none) ∧ s.st[n + 2]? = some own ∧ I s.st
 | .ret, s => s.st[n]? = some .dfr ∧ s.st[n + 1]? = some (F .busy none) ∧ s.st[n + 2]? = some own ∧ D .ret s.st
 | .exit id, s => s.st[n]? = some .dfr ∧ s.st[n + 1]? = some (F .busy none) ∧ s.st[n + 2]? = some own ∧ D (.exit id) s.st
 | _, _ => False
theorem qdv {N : Nat} {t : Nat → AV} {ps : Array Tmp} {asg body : Code} {F : LoopState → Option Code → AObj} (hF : qjl F N t ps asg body) (ls : LoopState) (pend : Option Code) {x : Option AObj} (h : x = some (F ls pend)) : qfg x := fun n sz T' e => by
 rw [h, hF] at e
 simp at e
theorem qhe {N : Nat} {Q : Exit → AS → Prop} {s : AS} {f : Operand} {p : Tmp} {asg body : Code} {S0 : List AObj} {kb ver : Nat} (text : List UInt8) (hst : s.st = S0) (hx : ql N s f = .fn (.func 113) [] [.bx kb ver 0]) (ht : text.length < 4294967281)
  (I : Nat → List UInt8 → List AObj → Prop) (D : Code → List AObj → Prop) (h0 : I 0 text S0)
  (hI : ∀ k rest S, I k rest S → S[kb]? = some (.cells ver 9 [Sv text]))
  (hs1 : ∀ k rest S S', Ext S0.length S S' → I k rest S → I k rest S') (hs2 : ∀ c S S', Ext S0.length S S' → D c S → D c S')
  (hb : ∀ F own rd k rest S, qjl F N s.t #[p] asg body → I k rest S → rest ≠ [] → rest.length ≤ text.length → S[S0.length]? = some .dfr → S[S0.length + 1]? = some (F .ready none) → S[S0.length + 2]? = some own → qfg (some own) →
   AWp E (some rd) N asg (only fun s1 => s1.st[S0.length + 1]? = some (F .ready none) ∧ s1.df = [] ∧ AWp E (some rd) N body (q31 S0.length F own (I (k + 1) (past 10 rest)) D) ⟨s1.t, s1.st.set (S0.length + 1) (F .busy none), []⟩) ⟨put s.t p (qcg k text rest), S, []⟩)
  (hn : ∀ k S, I k [] S → S[S0.length]? = some .dfr → Q .normal ⟨s.t, S, S0.length :: s.df⟩)
  (hd : ∀ c S, D c S → S[S0.length]? = some .dfr → AWp E none N c Q ⟨s.t, S, S0.length :: s.df⟩) : AWp E none N (.rangeFunc f #[p] asg body) Q s := by
 refine qir (st := S0) (loc := []) (by rw [hst]; simp) hx Tryz.call113 fun F hF => ?_
 have hl : (S0 ++ ([] ++ [AObj.dfr, F .ready none])).length = S0.length + 2 := by simp
 have g1 : (S0 ++ ([] ++ [AObj.dfr, F .ready none]))[S0.length]? = some .dfr := by simp
 have g2 : (S0 ++ ([] ++ [AObj.dfr, F .ready none]))[S0.length + 1]? = some (F .ready none) := by simp
 have hz : S0.length + (([] : List AObj).length + 1) = S0.length + 1 := by simp
 rw [hz, show S0.length + ([] : List AObj).length = S0.length from rfl]
 refine q7.mono (qz3 text (S0.length + 1) kb ver (S0.length + 2) (S0.length + 2) (fun k rest S => I k rest S ∧ S[S0.length]? = some .dfr ∧ S[S0.length + 1]? = some (F .ready none)) (fun S => ∃ c, D c S ∧ S[S0.length]? = some .dfr ∧ S[S0.length + 1]? = some (F .done (some c))) (S0 ++ ([] ++ [.dfr, F .ready none])) hl (Nat.le_refl _) ht ⟨hs1 _ _ _ _ (qo2 (Nat.le_refl _)) h0, g1, g2⟩ (fun k rest S h => hI k rest S h.1) (fun k rest S S' hE ⟨a, b, c⟩ => ⟨hs1 _ _ _ _ (hE.weak (by omega)) a, (hE.low _ (by omega)).trans b, (hE.low _ (by omega)).trans c⟩) ?_) ?_
 ·rintro k rest S' cs ⟨hi, hd1, hf1⟩ hown hne hle
  refine qmk hF hf1 rfl fun rd => ?_
  refine (hb F (.cells 0 129 cs) rd k rest S' hF hi hne hle hd1 hf1 hown (xj rfl)).mono fun e s1 hq => ?_
  cases e with
  | normal =>
   obtain ⟨q1, q2, q3⟩ := hq
   refine ⟨q1, q2, q3.mono fun e s2 hq2 => ?_⟩
   cases e with
   | normal =>
    obtain ⟨k1, k2, k3, k4⟩ := hq2
    exact ⟨k2, zk k3 (by omega), fun _ => ⟨hs1 _ _ _ _ (qb1 (by omega) (qdv hF _ _ k2)) k4, zk k1 (by omega), zw k2⟩, nofun⟩
   | ret =>
    obtain ⟨k1, k2, k3, k4⟩ := hq2
    exact ⟨k2, zk k3 (by omega), nofun, fun _ => ⟨_, hs2 _ _ _ (qb1 (by omega) (qdv hF _ _ k2)) k4, zk k1 (by omega), zw k2⟩⟩
   | exit id =>
    obtain ⟨k1, k2, k3, k4⟩ := hq2
    exact ⟨k2, zk k3 (by omega), nofun, fun _ => ⟨_, hs2 _ _ _ (qb1 (by omega) (qdv hF _ _ k2)) k4, zk k1 (by omega), zw k2⟩⟩
   | _ => exact hq2.elim
  | _ => exact hq.elim
 ·rintro r S' (⟨k, hi, hd1, hf1⟩ | ⟨c, hi, hd1, hf1⟩)
  ·exact ⟨.ready, none, nofun, hf1, hn k _ (hs1 _ _ _ _ (qb1 (by omega) (qdv hF _ _ hf1)) hi) (zk hd1 (by omega))⟩
  ·exact ⟨.done, some c, nofun, hf1, hd c _ (hs2 _ _ _ (qb1 (by omega) (qdv hF _ _ hf1)) hi) (zk hd1 (by omega))⟩
end Go.Proofs.YtefmcijohgpfhaaGreatDoor
set_option maxRecDepth 100000
set_option linter.unusedVariables false
namespace Go.Pl
open Go Go.Proofs
def p0 : PSt := ⟨[], 0, false, [], [], [], 0⟩
def runL : Nat → List (qb × Bool) → PSt → Option (Int × Int) × PSt
 | _, [], p => endP p
 | k, (t, e) :: r, p => match (xg p k t e).1 with
  | some x => (some x, p)
  | none => runL (k + 1) r (xg p k t e).2
def kp (text : qb) : Option (Int × Int) × List wb := match (runL 0 (jk text) p0).1 with
 | some e => (some e, [])
 | none => (none, (runL 0 (jk text) p0).2.items)
end Go.Pl
namespace Go.Proofs.YtefmcijohgpfhaaGreatDoor
open Go Go.Av Go.RowKit Go.Proofs Go.Pl
theorem qyz (x : Option (Int × Int)) : Pure (errP x) := by
 rcases x with _ | ⟨a, n⟩
 ·exact z4 _
 ·exact qhu a n
theorem qwg (f : Fld) : qk9 (fldA f) := fun x hx => by
 simp only [AV.cells, List.mem_cons, List.not_mem_nil, or_false] at hx
 rcases hx with rfl | rfl <;> exact z4 _
theorem qgc (fs : List Fld) : Pure (y7 fs) := qe2 fun x hx => by
 obtain ⟨f, _, rfl⟩ := List.mem_map.1 hx
 exact qwg f
theorem qt6 (x : wb) : qk9 (zf x) := fun y hy => by
 simp only [AV.cells, List.mem_cons, List.not_mem_nil, or_false] at hy
 rcases hy with rfl | rfl | rfl
 ·exact z4 _
 ·exact z4 _
 ·exact qgc _
theorem qlz (xs : List wb) : Pure (qfo xs) := qe2 fun x hx => by
 obtain ⟨f, _, rfl⟩ := List.mem_map.1 hx
 exact qt6 f
theorem y9 {x y : AV} (hx : Pure x) (hy : Pure y) : Pure (.tu [x, y]) := qge fun z hz => by
 simp only [List.mem_cons, List.not_mem_nil, or_false] at hz
 rcases hz with rfl | rfl
 ·exact hx
 ·exact hy
def qfm (text : qb) : AV := .tu [qfo (kp text).2, errP (kp text).1]
theorem qub (text : qb) : Pure (qfm text) := y9 (qlz _) (qyz _)
theorem Keep.get {b o k : Nat} {S S' : List AObj} {x : AObj} (h : Keep b o S S') (hx : S[k]? = some x) (hne : k ≠ o) (hc : k < b ∨ qfg (some x)) : S'[k]? = some x := (h.same k hne (lt_of_getElem? hx) (by rw [hx]; exact hc)).trans hx
theorem qi8 {n b : Nat} {S S' : List AObj} {sz : Nat} {T : TypeId} {xs : List AV} {c : AV} (hE : Ext n S S') (h : TipC b S sz T xs c) : TipC b S' sz T xs c := by
 rcases h with h | ⟨t, h1, h2, h3⟩
 ·exact .inl h
 ·exact .inr ⟨t, h1, (hE.tips t _ _ _ h2).trans h2, h3⟩
theorem qvm {n b o : Nat} {p : PSt} {S S' : List AObj} (hE : Ext n S S') (ho : o < n) (h : Par b o p S) : Par b o p S' := by
 obtain ⟨c1, c2, c3, c4, P⟩ := h
 have := hE.len
 exact ⟨c1, c2, c3, c4, P.lt, Nat.le_trans P.le this, (hE.low o ho).trans P.ob, qi8 hE P.h1, qi8 hE P.h2, qi8 hE P.h3, qi8 hE P.h4, P.ne⟩
theorem v8 {S : List AObj} {o k : Nat} {x : AObj} (h : k ≠ o) : (S.set o x)[k]? = S[k]? := List.getElem?_set_ne (Ne.symm h)
theorem qnq : qfg (some .dfr) := fun n sz T e => by simp at e
theorem q4u : PB 0 p0 := ⟨by omega, by simp [p0], by simp [p0], by simp [p0], by simp [p0], by simp [p0], by simp [p0], by simp [p0], by simp [p0]⟩
structure qf9 (st : List AObj) (text : qb) (r1 r2 : AV) (S : List AObj) : Prop where
 low : ∀ j, j < st.length → S[j]? = st[j]?
 c0 : S[st.length + 0]? = some (.cells 0 109 [r1])
 c1 : S[st.length + 1]? = some (.cells 0 25 [r2])
 c3 : S[st.length + 3]? = some (.cells 0 144 [.bx (st.length + 2) 0 0])
 c4 : S[st.length + 4]? = some (.cells 0 9 [Sv text])
theorem qf9.ext {st : List AObj} {text : qb} {r1 r2 : AV} {S S' : List AObj} (h : qf9 st text r1 r2 S) (hE : Ext (st.length + 5) S S') : qf9 st text r1 r2 S' :=
 ⟨fun j hj => (hE.low j (by omega)).trans (h.low j hj), (hE.low _ (by omega)).trans h.c0, (hE.low _ (by omega)).trans h.c1, (hE.low _ (by omega)).trans h.c3, (hE.low _ (by omega)).trans h.c4⟩
theorem qf9.keep {st : List AObj} {text : qb} {r1 r2 : AV} {S S' : List AObj} (h : qf9 st text r1 r2 S) (hE : Keep (st.length + 5) (st.length + 2) S S') : qf9 st text r1 r2 S' :=
 ⟨fun j hj => by
  rw [← h.low j hj]
  have := lt_of_getElem? h.c0
  exact hE.same j (by omega) (by omega) (.inl (by omega)), hE.get h.c0 (by omega) (.inl (by omega)), hE.get h.c1 (by omega) (.inl (by omega)), hE.get h.c3 (by omega) (.inl (by omega)), hE.get h.c4 (by omega) (.inl (by omega))⟩
set_option maxHeartbeats 8000000 in
theorem qmb (text : qb) (st : List AObj) (hl : text.length ≤ 60000) : q7 E 57 [Sv text] st fun r st' => r = qfm text ∧ st' = st := by
 refine zt (qub text) (q8 Tryz.func57 rfl (Nat.le_of_ble_eq_true rfl) ?_)
 repeat' (first
  | apply qm
  | apply q4
  | apply qe
  | apply qa
  | apply qi
  | (apply qw; (iterate 3 exact rfl))
  | (apply qg; exact rfl; first | (apply ze; (first | assumption | omega)) | (apply zd; (first | assumption | omega)) | (apply zc; (first | exact rfl | assumption)) | (apply zb; (first | exact rfl | assumption)) | (apply cd_n <;> intro h) | (apply cd_t; (first | exact rfl | assumption)) | (apply cd_f; (first | exact rfl | assumption)) | (apply cd_d <;> intro h) | (apply cd_s <;> intro h))
  | (apply j3; (iterate 3 exact rfl))
  | (apply z0; exact rfl; exact rfl)
  | (apply j7; (iterate 4 exact rfl))
  | (apply qn; (iterate 11 exact rfl))
  | (apply jq; (iterate 3 exact rfl))
  | apply q6
  | (refine qd Tryz.call72 (qpr _ _ _ _ rfl) ?_))
 have hSl : (st ++ [AObj.cells 0 109 [zx], .cells 0 25 [.v .nilIface], .cells 0 148 [zx, Iv 0, Bv false, zx, zx, zx, Iv 0], .cells 0 144 [.bx (st.length + 2) 0 0], .cells 0 9 [Sv text]]).length = st.length + 5 := by simp
 have h00 : qf9 st text zx (.v .nilIface) (st ++ [AObj.cells 0 109 [zx], .cells 0 25 [.v .nilIface], .cells 0 148 [zx, Iv 0, Bv false, zx, zx, zx, Iv 0], .cells 0 144 [.bx (st.length + 2) 0 0], .cells 0 9 [Sv text]]) :=
  ⟨fun j hj => List.getElem?_append_left hj, zn rfl, zn rfl, zn rfl, zn rfl⟩
 have hP0 : Par (st.length + 5) (st.length + 2) p0 (st ++ [AObj.cells 0 109 [zx], .cells 0 25 [.v .nilIface], .cells 0 148 [zx, Iv 0, Bv false, zx, zx, zx, Iv 0], .cells 0 144 [.bx (st.length + 2) 0 0], .cells 0 9 [Sv text]]) :=
  ⟨zx, zx, zx, zx, by omega, by omega, zn rfl, qcx .., qcx .., qcx .., qcx .., nofun⟩
 generalize hS0 : st ++ [AObj.cells 0 109 [zx], .cells 0 25 [.v .nilIface], .cells 0 148 [zx, Iv 0, Bv false, zx, zx, zx, Iv 0], .cells 0 144 [.bx (st.length + 2) 0 0], .cells 0 9 [Sv text]] = S0 at hSl h00 hP0
 refine qax [(2, .bx (st.length + 0) 0 0), (3, .bx (st.length + 1) 0 0), (4, .bx (st.length + 3) 0 0), (15, .fn (.func 113) [] [.bx (st.length + 4) 0 0])] S0 [] ⟨rfl, rfl, rfl, rfl, trivial⟩ hS0 rfl fun t => ?_
 refine qhe (S0 := S0) text rfl rfl (by omega) (fun k rest S => qf9 st text zx (.v .nilIface) S ∧ ∃ p, Par (st.length + 5) (st.length + 2) p S ∧ PB (4 * k) p ∧ k + rest.length ≤ text.length ∧ runL 0 (jk text) p0 = runL k (jk rest) p)
  (fun c S => ∃ a m, c = .ret ∧ (runL 0 (jk text) p0).1 = some (a, m) ∧ qf9 st text zx (qei a m) S) ⟨h00, p0, hP0, q4u, by omega, rfl⟩
  (fun k rest S h => h.1.c4) (fun k rest S S' hE ⟨h1, p, h2, h3⟩ => ⟨h1.ext (by rw [← hSl]; exact hE), p, qvm hE (by omega) h2, h3⟩) (fun c S S' hE ⟨a, m, h1, h2, h3⟩ => ⟨a, m, h1, h2, h3.ext (by rw [← hSl]; exact hE)⟩) ?_ ?_ ?_
 ·rintro F own rd k rest S hF ⟨hi, p, hp, hB, hkl, hrun⟩ hne hle hd1 hf1 hown hnt
  rw [hSl] at hd1 hf1 hown ⊢
  have hlen := lt_of_getElem? hown
  have hcons := x5 hne
  have hu := wi 10 rest
  have hr0 : 0 < rest.length := List.length_pos_iff.2 hne
  have hpl := wm 10 rest
  have hc3 := hi.c3
  repeat' (first
   | apply qe
   | apply qa
   | (apply qay (st := S); exact rfl; exact rfl)
   | (apply qs; exact rfl; exact rfl; (focus first | assumption | (repeat' (first | assumption | exact jj | exact zn rfl | apply zw | apply zk | omega | apply z6))); (iterate 6 exact rfl)))
  refine ⟨?_, rfl, ?_⟩
  ·((focus first | assumption | (repeat' (first | assumption | exact jj | exact zn rfl | apply zw | apply zk | omega | apply z6))))
  repeat' (first
   | apply qm
   | apply q4
   | apply qe
   | (apply qc; exact rfl; (focus first | assumption | (repeat' (first | assumption | exact jj | exact zn rfl | apply zw | apply zk | omega | apply z6))); exact rfl; exact rfl))
  have hE1 : Ext (st.length + 5) S (((S ++ [AObj.cells 0 129 [Iv 0, Iv 0, Sv [], Bv false]]).set S.length (.cells 0 129 (qcg k text rest).cells)).set (st.length + 5 + 1) (F .busy none)) := ((qo2 (by omega)).trans (qb1 (by omega) (xj jj))).trans (qb1 (by omega) (qdv hF .ready none (by (focus first | assumption | (repeat' (first | assumption | exact jj | exact zn rfl | apply zw | apply zk | omega | apply z6))))))
  apply xy Tryz.call92
  refine q7.mono (st := ((S ++ [AObj.cells 0 129 [Iv 0, Iv 0, Sv [], Bv false]]).set S.length (.cells 0 129 (qcg k text rest).cells)).set (st.length + 5 + 1) (F .busy none)) ((q2i (st.length + 5) (st.length + 2) (4 * k) p _ k ((text.length : Int) - rest.length) (upto 10 rest) (decide (10 ∈ rest)) (qvm hE1 (by omega) hp) hB (by omega) (by omega))) ?_
  rintro _ S2 ⟨rfl, hp2, hk2⟩
  have hi2 := (hi.ext hE1).keep hk2
  have hd2 : S2[st.length + 5]? = some .dfr := hk2.get (by (focus first | assumption | (repeat' (first | assumption | exact jj | exact zn rfl | apply zw | apply zk | omega | apply z6)))) (by omega) (.inr qnq)
  have hf2 : S2[st.length + 5 + 1]? = some (F .busy none) := hk2.get (by (focus first | assumption | (repeat' (first | assumption | exact jj | exact zn rfl | apply zw | apply zk | omega | apply z6)))) (by omega) (.inr (qdv hF _ _ rfl))
  have hown2 : S2[st.length + 5 + 2]? = some own := hk2.get (by (focus first | assumption | (repeat' (first | assumption | exact jj | exact zn rfl | apply zw | apply zk | omega | apply z6)))) (by omega) (.inr hnt)
  have hlen2 := lt_of_getElem? hown2
  show AOps _ _ _ _ _ _ _
  cases hah : (xg p k (upto 10 rest) (decide (10 ∈ rest))).1 with
  | some e =>
   obtain ⟨a, m⟩ := e
   have hre : (runL 0 (jk text) p0).1 = some (a, m) := by rw [hrun, hcons]; simp only [runL, hah]
   rw [qhn rfl]
   have c0 := hi2.c0
   have c1 := hi2.c1
   repeat' (first
    | apply qm
    | apply qe
    | apply qa
    | apply qi
    | apply qf
    | (apply qg; exact rfl; first | (apply ze; (first | assumption | omega)) | (apply zd; (first | assumption | omega)) | (apply zc; (first | exact rfl | assumption)) | (apply zb; (first | exact rfl | assumption)) | (apply cd_n <;> intro h) | (apply cd_t; (first | exact rfl | assumption)) | (apply cd_f; (first | exact rfl | assumption)) | (apply cd_d <;> intro h) | (apply cd_s <;> intro h))
    | (apply z8; exact rfl; exact rfl)
    | apply qz
    | (apply qs; exact rfl; exact rfl; (focus first | assumption | (repeat' (first | assumption | exact jj | exact zn rfl | apply zw | apply zk | omega | apply z6))); (iterate 6 exact rfl)))
   exact ⟨(by (focus first | assumption | (repeat' (first | assumption | exact jj | exact zn rfl | apply zw | apply zk | omega | apply z6)))), (by (focus first | assumption | (repeat' (first | assumption | exact jj | exact zn rfl | apply zw | apply zk | omega | apply z6)))), (by (focus first | assumption | (repeat' (first | assumption | exact jj | exact zn rfl | apply zw | apply zk | omega | apply z6)))), a, m, rfl, hre, ⟨fun j hj => (v8 (by omega)).trans ((v8 (by omega)).trans (hi2.low j hj)), (by (focus first | assumption | (repeat' (first | assumption | exact jj | exact zn rfl | apply zw | apply zk | omega | apply z6)))), (by (focus first | assumption | (repeat' (first | assumption | exact jj | exact zn rfl | apply zw | apply zk | omega | apply z6)))), zk (zk hi2.c3 (by omega)) (by omega), zk (zk hi2.c4 (by omega)) (by omega)⟩⟩
  | none =>
   have hB2 := q1n (no := k) (text := upto 10 rest) (ended := decide (10 ∈ rest)) hB (by omega) (by omega)
   repeat' (first
    | apply qm
    | apply qe
    | apply qa
    | apply qi
    | apply qf
    | (apply qg; exact rfl; first | (apply ze; (first | assumption | omega)) | (apply zd; (first | assumption | omega)) | (apply zc; (first | exact rfl | assumption)) | (apply zb; (first | exact rfl | assumption)) | (apply cd_n <;> intro h) | (apply cd_t; (first | exact rfl | assumption)) | (apply cd_f; (first | exact rfl | assumption)) | (apply cd_d <;> intro h) | (apply cd_s <;> intro h))
    | (apply zr; exact rfl; exact rfl)
    | apply q6)
   exact ⟨hd2, hf2, hown2, hi2, _, hp2 hah, hB2, by omega, by rw [hrun, hcons]; simp only [runL, hah]⟩
 ·rintro k S ⟨hi, p, hp, hB, hkl, hrun⟩ hd1
  have hre : runL k (jk []) p = endP p := by rw [x6]; rfl
  rw [hre] at hrun
  rw [hSl] at hd1 ⊢
  have hc3 := hi.c3
  repeat' (first
   | apply qm
   | apply qe
   | (apply qc; exact rfl; (focus first | assumption | (repeat' (first | assumption | exact jj | exact zn rfl | apply zw | apply zk | omega | apply z6))); exact rfl; exact rfl))
  refine xy Tryz.call93 ((qxy (st.length + 5) (st.length + 2) (4 * k) p _ hp hB (by omega)).mono ?_)
  rintro _ S2 ⟨rfl, hp2, hk2⟩
  have hi2 := hi.keep hk2
  have hd2 : S2[st.length + 5]? = some .dfr := hk2.get hd1 (by omega) (.inr qnq)
  have hlen2 := lt_of_getElem? hd2
  have c0 := hi2.c0
  have c1 := hi2.c1
  have c3 := hi2.c3
  show AOps _ _ _ _ _ _ _
  cases hah : (endP p).1 with
  | some e =>
   obtain ⟨a, m⟩ := e
   have hpf : kp text = (some (a, m), []) := by unfold kp; rw [hrun, hah]
   rw [qhn rfl]
   repeat' (first
    | apply qm
    | apply qe
    | apply qa
    | apply qi
    | apply qf
    | (apply qg; exact rfl; first | (apply ze; (first | assumption | omega)) | (apply zd; (first | assumption | omega)) | (apply zc; (first | exact rfl | assumption)) | (apply zb; (first | exact rfl | assumption)) | (apply cd_n <;> intro h) | (apply cd_t; (first | exact rfl | assumption)) | (apply cd_f; (first | exact rfl | assumption)) | (apply cd_d <;> intro h) | (apply cd_s <;> intro h))
    | (apply z8; exact rfl; exact rfl)
    | apply qz
    | (apply qs; exact rfl; exact rfl; (focus first | assumption | (repeat' (first | assumption | exact jj | exact zn rfl | apply zw | apply zk | omega | apply z6))); (iterate 6 exact rfl)))
   show ARet _ _ _ _
   refine qd9 (o := st.length + 5) rfl ?_ ?_
   ·((focus first | assumption | (repeat' (first | assumption | exact jj | exact zn rfl | apply zw | apply zk | omega | apply z6))))
   refine qo rfl (vg ?_ (w7 (wq 3) (vc (qei a m)))) ⟨?_, qef ?_ fun j hj => (v8 (by omega)).trans ((v8 (by omega)).trans ((v8 (by omega)).trans (hi2.low j hj)))⟩
   ·(apply qf3; exact rfl; exact rfl; (focus first | assumption | (repeat' (first | assumption | exact jj | exact zn rfl | apply zw | apply zk | omega | apply z6))); (iterate 3 exact rfl); (focus first | assumption | (repeat' (first | assumption | exact jj | exact zn rfl | apply zw | apply zk | omega | apply z6))); exact rfl; exact rfl)
   rotate_left
   ·(first | (simp; omega) | (simp [AS.put]; omega))
   unfold qfm
   rw [hpf]
   rfl
  | none =>
   have hpf : kp text = (none, (endP p).2.items) := by unfold kp; rw [hrun, hah]
   obtain ⟨d1, d2, d3, d4, P2⟩ := hp2 hah
   have hob : S2[st.length + 2]? = some (.cells 0 148 [d1, Iv (endP p).2.frm, Bv (endP p).2.full, d2, d3, d4, Iv (endP p).2.records]) := P2.ob
   have hw := zu P2.h2
   rcases P2.h2 with ⟨hx, rfl⟩ | ⟨t2, rfl, ht2, hb2⟩
   all_goals
    repeat' (first
     | apply qm
     | apply qe
     | apply qa
     | apply qi
     | apply qf
     | (apply qg; exact rfl; first | (apply ze; (first | assumption | omega)) | (apply zd; (first | assumption | omega)) | (apply zc; (first | exact rfl | assumption)) | (apply zb; (first | exact rfl | assumption)) | (apply cd_n <;> intro h) | (apply cd_t; (first | exact rfl | assumption)) | (apply cd_f; (first | exact rfl | assumption)) | (apply cd_d <;> intro h) | (apply cd_s <;> intro h))
     | (apply zr; exact rfl; exact rfl)
     | (apply qr; (iterate 3 exact rfl))
     | (apply zv; exact rfl; exact rfl)
     | apply q6
     | apply qz
     | (apply qc; exact rfl; (focus first | assumption | (repeat' (first | assumption | exact jj | exact zn rfl | apply zw | apply zk | omega | apply z6))); exact rfl; exact rfl)
     | (apply qs; exact rfl; exact rfl; (focus first | assumption | (repeat' (first | assumption | exact jj | exact zn rfl | apply zw | apply zk | omega | apply z6))); (iterate 6 exact rfl)))
    show ARet _ _ _ _
    refine qd9 (o := st.length + 5) rfl ?_ ?_
    ·((focus first | assumption | (repeat' (first | assumption | exact jj | exact zn rfl | apply zw | apply zk | omega | apply z6))))
    refine qo rfl (vg ?_ (w7 hw (vc (.v .nilIface)))) ⟨?_, qef ?_ fun j hj => (v8 (by omega)).trans ((v8 (by omega)).trans ((v8 (by omega)).trans (hi2.low j hj)))⟩
    ·(apply qf3; exact rfl; exact rfl; (focus first | assumption | (repeat' (first | assumption | exact jj | exact zn rfl | apply zw | apply zk | omega | apply z6))); (iterate 3 exact rfl); (focus first | assumption | (repeat' (first | assumption | exact jj | exact zn rfl | apply zw | apply zk | omega | apply z6))); exact rfl; exact rfl)
    rotate_left
    ·(first | (simp; omega) | (simp [AS.put]; omega))
    unfold qfm
    rw [hpf]
    rfl
 ·rintro _ S ⟨a, m, rfl, hre, hi⟩ hd1
  have hpf : kp text = (some (a, m), []) := by unfold kp; rw [hre]
  rw [hSl] at hd1 ⊢
  have hlen2 := lt_of_getElem? hd1
  have c0 := hi.c0
  have c1 := hi.c1
  apply qz
  show ARet _ _ _ _
  refine qd9 (o := st.length + 5) rfl ?_ ?_
  ·((focus first | assumption | (repeat' (first | assumption | exact jj | exact zn rfl | apply zw | apply zk | omega | apply z6))))
  refine qo rfl (vg ?_ (w7 (wq 3) (vc (qei a m)))) ⟨?_, qef ?_ fun j hj => (v8 (by omega)).trans (hi.low j hj)⟩
  ·(apply qf3; exact rfl; exact rfl; (focus first | assumption | (repeat' (first | assumption | exact jj | exact zn rfl | apply zw | apply zk | omega | apply z6))); (iterate 3 exact rfl); (focus first | assumption | (repeat' (first | assumption | exact jj | exact zn rfl | apply zw | apply zk | omega | apply z6))); exact rfl; exact rfl)
  rotate_left
  ·(first | (simp; omega) | (simp [AS.put]; omega))
  unfold qfm
  rw [hpf]
  rfl
end Go.Proofs.YtefmcijohgpfhaaGreatDoor
set_option maxRecDepth 100000
set_option linter.unusedVariables false
namespace Go.Proofs.YtefmcijohgpfhaaGreatDoor
open Go Go.RowKit Go.Extern.Stop Go.Stop Go.Extern Go.Proofs
theorem asT.valueOf27 (t : Addr) (w : World) : (ReflectliteValue.unpack (.iface 194 (.pointer (some t)))).run Tryz.prog w
  = .ok (.agg #[.pointer (some ⟨9, 194, none⟩), .pointer (some ⟨w.heap.size, 0, none⟩), .int .u64 150]) (w.alloc (.cells #[.pointer (some t)] 194)) := by kernel_rfl
theorem asT.type27 (a : Addr) (w : World) : (ReflectliteValue.methodAny (ReflectliteValue.valueError "reflectlite.Value.Type" 0) (fun t _ _ _ => ReflectliteType.toType t) #[.agg #[.pointer (some ⟨9, 194, none⟩), .pointer (some a), .int .u64 150]]).run Tryz.prog w
  = .ok (.iface 244 (.agg #[.pointer (some ⟨9, 194, none⟩)])) w := by kernel_rfl
theorem asT.methodKind (h : Value) (w : World) : (Go.method 401 244 (.agg #[h]) "Kind").run Tryz.prog w = .ok (239, h) w := by kernel_rfl
theorem asT.kind27 (w : World) : ((ReflectliteType.abiMethod fun t => (fun a : Nat => Value.int IntKind.u8 (a : Int)) <$> Rtype.kind t) #[.pointer (some ⟨9, 194, none⟩)]).run Tryz.prog w = .ok (.int .u8 22) w := by kernel_rfl
theorem asT.kind25 (w : World) : ((ReflectliteType.abiMethod fun t => (fun a : Nat => Value.int IntKind.u8 (a : Int)) <$> Rtype.kind t) #[.pointer (some ⟨9, 103, none⟩)]).run Tryz.prog w = .ok (.int .u8 22) w := by kernel_rfl
theorem rlm (z : Sem Value) (f : TypeId → Addr → Nat → Nat → Sem Value) (v : Value) :
  ReflectliteValue.method z f #[v] = (do match ← ReflectliteValue.parts v with | none => z | some (t, a, fl) => f t a fl (fl % 32)) := rfl
theorem asT.parts27 (a : Addr) (w : World) : (ReflectliteValue.parts (.agg #[.pointer (some ⟨9, 194, none⟩), .pointer (some a), .int .u64 150])).run Tryz.prog w = .ok (some (194, a, 150)) w := by kernel_rfl
theorem asT.isNil27 (a p : Addr) (W : World) (ha : W.cell? a = some (.pointer (some p))) :
  (ReflectliteValue.method (ReflectliteValue.valueError "reflectlite.Value.IsNil" 0) ReflectliteValue.isNil #[.agg #[.pointer (some ⟨9, 194, none⟩), .pointer (some a), .int .u64 150]]).run Tryz.prog W = .ok (.bool false) W := by
 rw [rlm]
 simp only [Sem.run_bind, asT.parts27, Result.andThen]
 simp [ReflectliteValue.isNil, loadVar, isAgg, underlying, Tryz.underlying194, ha, Result.andThen]
theorem asT.methodElem (h : Value) (w : World) : (Go.method 401 244 (.agg #[h]) "Elem").run Tryz.prog w = .ok (256, .agg #[h]) w := by kernel_rfl
theorem asT.methodImplements (h : Value) (w : World) : (Go.method 401 244 (.agg #[h]) "Implements").run Tryz.prog w = .ok (257, .agg #[h]) w := by kernel_rfl
theorem asT.methodAssignableTo (h : Value) (w : World) : (Go.method 401 244 (.agg #[h]) "AssignableTo").run Tryz.prog w = .ok (254, .agg #[h]) w := by kernel_rfl
theorem asT.elem27 (w : World) : (ReflectliteType.method ReflectliteType.elem #[.agg #[.pointer (some ⟨9, 194, none⟩)]]).run Tryz.prog w = .ok (.iface 244 (.agg #[.pointer (some ⟨9, 103, none⟩)])) w := by kernel_rfl
theorem asT.implements25 (w : World) : (ReflectliteType.relation "Implements" ReflectliteType.implements_ #[.agg #[.pointer (some ⟨9, 103, none⟩)], .iface 244 (.agg #[.pointer (some ⟨9, 25, none⟩)])]).run Tryz.prog w = .ok (.bool true) w := by kernel_rfl
theorem asT.typeOf25 (v : Value) (w : World) : (ReflectliteType.typeOf #[.iface 103 v]).run Tryz.prog w = .ok (.iface 244 (.agg #[.pointer (some ⟨9, 103, none⟩)])) w := by kernel_rfl
theorem asT.assignable25 (w : World) : (ReflectliteType.relation "AssignableTo" ReflectliteType.assignableTo #[.agg #[.pointer (some ⟨9, 103, none⟩)], .iface 244 (.agg #[.pointer (some ⟨9, 103, none⟩)])]).run Tryz.prog w = .ok (.bool true) w := by kernel_rfl
theorem asT.valueOf25 (e : Addr) (w : World) : (ReflectliteValue.unpack (.iface 103 (.pointer (some e)))).run Tryz.prog w
  = .ok (.agg #[.pointer (some ⟨9, 103, none⟩), .pointer (some ⟨w.heap.size, 0, none⟩), .int .u64 150]) (w.alloc (.cells #[.pointer (some e)] 103)) := by kernel_rfl
theorem asT.elemOf27 (w : World) : (Rtype.elem? 194).run Tryz.prog w = .ok (some 103) w := by kernel_rfl
theorem asT.mk25 (p : Addr) (w : World) : (ReflectliteValue.mk 103 p ReflectliteValue.flagAddr).run Tryz.prog w = .ok (.agg #[.pointer (some ⟨9, 103, none⟩), .pointer (some p), .int .u64 406]) w := by kernel_rfl
theorem asT.elemV27 (a p : Addr) (W : World) (ha : W.cell? a = some (.pointer (some p))) :
  (ReflectliteValue.method (ReflectliteValue.valueError "reflectlite.Value.Elem" 0) ReflectliteValue.elem #[.agg #[.pointer (some ⟨9, 194, none⟩), .pointer (some a), .int .u64 150]]).run Tryz.prog W
   = .ok (.agg #[.pointer (some ⟨9, 103, none⟩), .pointer (some p), .int .u64 406]) W := by
 rw [rlm]
 simp only [Sem.run_bind, asT.parts27, Result.andThen]
 simp [ReflectliteValue.elem, loadVar, isAgg, underlying, Tryz.underlying194, ha, Result.andThen, asT.elemOf27, asT.mk25]
theorem rls (v x : Value) : ReflectliteValue.set #[v, x] = (do
  let (some (dst, a, fl), some (src, b, _)) := (← ReflectliteValue.parts v, ← ReflectliteValue.parts x)
   | unsupported (.noEntry "extern/(internal/reflectlite.Value).Set.zeroValue")
  if fl / ReflectliteValue.flagAddr % 2 == 0 then unsupported (.noEntry "extern/(internal/reflectlite.Value).Set.unaddressable")
  let val ← loadVar src b
  if ← Rtype.directlyAssignable dst src then storeVar dst a val
  else if ← Rtype.implements dst src then
   if (← Rtype.kind src) == 20 then
    match val with
    | .nilIface => unsupported (.noEntry "extern/reflectlite: a nil value of one interface type handed on as a value of another")
    | _ => storeVar dst a val
   else storeVar dst a (.iface src val)
  else panicString ("reflectlite.Set: value of type " ++ (← Rtype.spelt src) ++ " is not assignable to type " ++ (← Rtype.spelt dst))
  pure (.tuple #[])) := rfl
theorem asT.parts25a (a : Addr) (w : World) : (ReflectliteValue.parts (.agg #[.pointer (some ⟨9, 103, none⟩), .pointer (some a), .int .u64 406])).run Tryz.prog w = .ok (some (103, a, 406)) w := by kernel_rfl
theorem asT.parts25 (a : Addr) (w : World) : (ReflectliteValue.parts (.agg #[.pointer (some ⟨9, 103, none⟩), .pointer (some a), .int .u64 150])).run Tryz.prog w = .ok (some (103, a, 150)) w := by kernel_rfl
theorem asT.direct25 (w : World) : (Rtype.directlyAssignable 103 103).run Tryz.prog w = .ok true w := by kernel_rfl
theorem asT.set25 (ta b e : Addr) (old : Value) (W : World) (hb : W.cell? b = some (.pointer (some e))) (ht : W.cell? ta = some old) (hf : W.frozen? ta = false) :
  (ReflectliteValue.set #[.agg #[.pointer (some ⟨9, 103, none⟩), .pointer (some ta), .int .u64 406], .agg #[.pointer (some ⟨9, 103, none⟩), .pointer (some b), .int .u64 150]]).run Tryz.prog W
   = .ok (.tuple #[]) (W.setCell ta (.pointer (some e))) := by
 rw [rls]
 simp only [Sem.run_bind, asT.parts25a, asT.parts25, Result.andThen]
 simp [ReflectliteValue.flagAddr, loadVar, isAgg, underlying, Tryz.underlying103, hb, Result.andThen, asT.direct25, storeVar, Value.cells, storeCells, Addr.add]
 rw [run_store Tryz.prog W ta _ _ (by rfl)]
 simp [ht, hf]
set_option maxHeartbeats 4000000 in
theorem q36 (e t : Addr) (old : Value) (w : World) (hg : w.cell? ⟨3, 0, none⟩ = some (.iface 244 (.agg #[.pointer (some ⟨9, 25, none⟩)]))) (ht0 : w.cell? t = some old) (hf0 : w.frozen? t = false) :
  Calls Tryz.prog 158 #[.iface 103 (.pointer (some e)), .iface 194 (.pointer (some t))] w fun ev w' => ev = .returned (.bool true) ∧ w' = ((((w.alloc (.cells #[.pointer (some t)] 194)).alloc (.cells #[.pointer (some ⟨9, 194, none⟩), .pointer (some ⟨w.heap.size, 0, none⟩), .int .u64 150] 213)).alloc (.cells #[.pointer (some ⟨9, 194, none⟩), .pointer (some ⟨w.heap.size, 0, none⟩), .int .u64 150] 213)).alloc (.cells #[.pointer (some e)] 103)).setCell t (.pointer (some e)) := by
 have h6 := @run_callFunc_extern Tryz.prog 177 _ (fun args => ReflectliteValue.unpack (args.getD 0 (.tuple #[]))) Tryz.func177 (by kernel_rfl) (by kernel_rfl) (by kernel_rfl) (by kernel_rfl)
 have h7 := @run_callFunc_extern Tryz.prog 178 _ (ReflectliteValue.methodAny (ReflectliteValue.valueError "reflectlite.Value.Type" 0) (fun t _ _ _ => ReflectliteType.toType t)) Tryz.func178 (by kernel_rfl) (by kernel_rfl) (by kernel_rfl) (by kernel_rfl)
 have h8 := @run_callFunc_extern Tryz.prog 179 _ (ReflectliteValue.method (ReflectliteValue.valueError "reflectlite.Value.IsNil" 0) ReflectliteValue.isNil) Tryz.func179 (by kernel_rfl) (by kernel_rfl) (by kernel_rfl) (by kernel_rfl)
 have h27 := @run_callFunc_extern Tryz.prog 239 _ (ReflectliteType.abiMethod fun t => do pure (.int .u8 (← Rtype.kind t))) Tryz.func239 (by kernel_rfl) (by kernel_rfl) (by kernel_rfl) (by kernel_rfl)
 have h37 := @run_callFunc_extern Tryz.prog 256 _ (ReflectliteType.method ReflectliteType.elem) Tryz.func256 (by kernel_rfl) (by kernel_rfl) (by kernel_rfl) (by kernel_rfl)
 have h38 := @run_callFunc_extern Tryz.prog 257 _ (ReflectliteType.relation "Implements" ReflectliteType.implements_) Tryz.func257 (by kernel_rfl) (by kernel_rfl) (by kernel_rfl) (by kernel_rfl)
 have h10 := @run_callFunc_extern Tryz.prog 202 _ ReflectliteType.typeOf Tryz.func202 (by kernel_rfl) (by kernel_rfl) (by kernel_rfl) (by kernel_rfl)
 have h35 := @run_callFunc_extern Tryz.prog 254 _ (ReflectliteType.relation "AssignableTo" ReflectliteType.assignableTo) Tryz.func254 (by kernel_rfl) (by kernel_rfl) (by kernel_rfl) (by kernel_rfl)
 have h11 := @run_callFunc_extern Tryz.prog 203 _ (ReflectliteValue.method (ReflectliteValue.valueError "reflectlite.Value.Elem" 0) ReflectliteValue.elem) Tryz.func203 (by kernel_rfl) (by kernel_rfl) (by kernel_rfl) (by kernel_rfl)
 have h12 := @run_callFunc_extern Tryz.prog 204 _ ReflectliteValue.set Tryz.func204 (by kernel_rfl) (by kernel_rfl) (by kernel_rfl) (by kernel_rfl)
 have tO := asT.typeOf25
 have mA := asT.methodAssignableTo
 have a25 := asT.assignable25
 have v25 := asT.valueOf25
 have f6 := asT.valueOf27
 have f7 := asT.type27
 have mK := asT.methodKind
 have mE := asT.methodElem
 have mI := asT.methodImplements
 have k27 := asT.kind27
 have k25 := asT.kind25
 have e27 := asT.elem27
 have i25 := asT.implements25
 have n8 := asT.isNil27 ⟨w.heap.size, 0, none⟩ t ((w.alloc (.cells #[.pointer (some t)] 194)).alloc (.cells #[.pointer (some ⟨9, 194, none⟩), .pointer (some ⟨w.heap.size, 0, none⟩), .int .u64 150] 213)) (by simp)
 have hlt : 3 < w.heap.size := by
  rcases Nat.lt_or_ge 3 w.heap.size with h | h
  ·exact h
  ·simp [World.cell?, Array.getElem?_eq_none h] at hg
 have hg2 : ((w.alloc (.cells #[.pointer (some t)] 194)).alloc (.cells #[.pointer (some ⟨9, 194, none⟩), .pointer (some ⟨w.heap.size, 0, none⟩), .int .u64 150] 213)).cell? ⟨3, 0, none⟩ = some (.iface 244 (.agg #[.pointer (some ⟨9, 25, none⟩)])) := by
  rw [World.cell?_alloc_lt _ _ ⟨3, 0, none⟩ (by simp; omega), World.cell?_alloc_lt _ _ ⟨3, 0, none⟩ hlt]; exact hg
 have htl : t.block < w.heap.size := by
  rcases Nat.lt_or_ge t.block w.heap.size with h | h
  ·exact h
  ·simp [World.cell?, Array.getElem?_eq_none h] at ht0
 have el := asT.elemV27 ⟨w.heap.size, 0, none⟩ t (((w.alloc (.cells #[.pointer (some t)] 194)).alloc (.cells #[.pointer (some ⟨9, 194, none⟩), .pointer (some ⟨w.heap.size, 0, none⟩), .int .u64 150] 213)).alloc (.cells #[.pointer (some ⟨9, 194, none⟩), .pointer (some ⟨w.heap.size, 0, none⟩), .int .u64 150] 213)) (by rw [World.cell?_alloc_lt _ _ ⟨w.heap.size, 0, none⟩ (by simp; omega)]; simp)
 have st := asT.set25 t ⟨w.heap.size + 1 + 1 + 1, 0, none⟩ e old ((((w.alloc (.cells #[.pointer (some t)] 194)).alloc (.cells #[.pointer (some ⟨9, 194, none⟩), .pointer (some ⟨w.heap.size, 0, none⟩), .int .u64 150] 213)).alloc (.cells #[.pointer (some ⟨9, 194, none⟩), .pointer (some ⟨w.heap.size, 0, none⟩), .int .u64 150] 213)).alloc (.cells #[.pointer (some e)] 103))
  (by rw [World.cell?_alloc_at _ _ _ _ (by simp)]; rfl)
  (by rw [World.cell?_alloc_lt _ _ t (by simp; omega), World.cell?_alloc_lt _ _ t (by simp; omega), World.cell?_alloc_lt _ _ t (by simp; omega), World.cell?_alloc_lt _ _ t htl]; exact ht0)
  (by rw [World.frozen?_alloc_old _ _ t (by simp; omega), World.frozen?_alloc_old _ _ t (by simp; omega), World.frozen?_alloc_old _ _ t (by simp; omega), World.frozen?_alloc_old _ _ t (Nat.ne_of_lt htl)]; exact hf0)
 go_enter Tryz.func158, Tryz.ntmps158
 go_wp2
 refine wp_loop_rounds 1 ?_
 rw [rounds_succ]
 go_wp2
 go_ret
 exact ⟨rfl, rfl⟩
end Go.Proofs.YtefmcijohgpfhaaGreatDoor
set_option maxRecDepth 100000
set_option linter.unusedVariables false
namespace Go.Proofs.YtefmcijohgpfhaaGreatDoor
open Go Go.RowKit Go.Extern.Stop Go.Stop Go.Extern Go.Proofs
theorem asT.typeOf31 (v : Value) (w : World) : (ReflectliteType.typeOf #[.iface 31 v]).run Tryz.prog w = .ok (.iface 244 (.agg #[.pointer (some ⟨9, 31, none⟩)])) w := by kernel_rfl
theorem asT.assignable31 (w : World) : (ReflectliteType.relation "AssignableTo" ReflectliteType.assignableTo #[.agg #[.pointer (some ⟨9, 31, none⟩)], .iface 244 (.agg #[.pointer (some ⟨9, 103, none⟩)])]).run Tryz.prog w = .ok (.bool false) w := by kernel_rfl
theorem asT.no230 (v : Value) (xT : TypeId) (w : World) : (Instr.typeAssert (.iface 31 v) xT 249 true).run Tryz.prog w = .ok (.tuple #[.nilIface, .bool false]) w := run_typeAssert_lacksB Tryz.underlying249 (by kernel_rfl) (by kernel_rfl) v xT w
theorem asT.no233 (v : Value) (xT : TypeId) (w : World) : (Instr.typeAssert (.iface 31 v) xT 252 true).run Tryz.prog w = .ok (.tuple #[.nilIface, .bool false]) w := run_typeAssert_lacksB Tryz.underlying252 (by kernel_rfl) (by kernel_rfl) v xT w
theorem asT.no234 (v : Value) (xT : TypeId) (w : World) : (Instr.typeAssert (.iface 31 v) xT 253 true).run Tryz.prog w = .ok (.tuple #[.nilIface, .bool false]) w := run_typeAssert_lacksB Tryz.underlying253 (by kernel_rfl) (by kernel_rfl) v xT w
set_option maxHeartbeats 4000000 in
theorem q27 (n : Int) (t : Addr) (old : Value) (w : World) (hg : w.cell? ⟨3, 0, none⟩ = some (.iface 244 (.agg #[.pointer (some ⟨9, 25, none⟩)]))) (ht0 : w.cell? t = some old) :
  Calls Tryz.prog 158 #[.iface 31 (.int .i64 n), .iface 194 (.pointer (some t))] w fun ev w' => ev = .returned (.bool false) ∧ Below w.heap.size w w' := by
 have h6 := @run_callFunc_extern Tryz.prog 177 _ (fun args => ReflectliteValue.unpack (args.getD 0 (.tuple #[]))) Tryz.func177 (by kernel_rfl) (by kernel_rfl) (by kernel_rfl) (by kernel_rfl)
 have h7 := @run_callFunc_extern Tryz.prog 178 _ (ReflectliteValue.methodAny (ReflectliteValue.valueError "reflectlite.Value.Type" 0) (fun t _ _ _ => ReflectliteType.toType t)) Tryz.func178 (by kernel_rfl) (by kernel_rfl) (by kernel_rfl) (by kernel_rfl)
 have h8 := @run_callFunc_extern Tryz.prog 179 _ (ReflectliteValue.method (ReflectliteValue.valueError "reflectlite.Value.IsNil" 0) ReflectliteValue.isNil) Tryz.func179 (by kernel_rfl) (by kernel_rfl) (by kernel_rfl) (by kernel_rfl)
 have h27 := @run_callFunc_extern Tryz.prog 239 _ (ReflectliteType.abiMethod fun t => do pure (.int .u8 (← Rtype.kind t))) Tryz.func239 (by kernel_rfl) (by kernel_rfl) (by kernel_rfl) (by kernel_rfl)
 have h37 := @run_callFunc_extern Tryz.prog 256 _ (ReflectliteType.method ReflectliteType.elem) Tryz.func256 (by kernel_rfl) (by kernel_rfl) (by kernel_rfl) (by kernel_rfl)
 have h38 := @run_callFunc_extern Tryz.prog 257 _ (ReflectliteType.relation "Implements" ReflectliteType.implements_) Tryz.func257 (by kernel_rfl) (by kernel_rfl) (by kernel_rfl) (by kernel_rfl)
 have h10 := @run_callFunc_extern Tryz.prog 202 _ ReflectliteType.typeOf Tryz.func202 (by kernel_rfl) (by kernel_rfl) (by kernel_rfl) (by kernel_rfl)
 have h35 := @run_callFunc_extern Tryz.prog 254 _ (ReflectliteType.relation "AssignableTo" ReflectliteType.assignableTo) Tryz.func254 (by kernel_rfl) (by kernel_rfl) (by kernel_rfl) (by kernel_rfl)
 have h11 := @run_callFunc_extern Tryz.prog 203 _ (ReflectliteValue.method (ReflectliteValue.valueError "reflectlite.Value.Elem" 0) ReflectliteValue.elem) Tryz.func203 (by kernel_rfl) (by kernel_rfl) (by kernel_rfl) (by kernel_rfl)
 have h12 := @run_callFunc_extern Tryz.prog 204 _ ReflectliteValue.set Tryz.func204 (by kernel_rfl) (by kernel_rfl) (by kernel_rfl) (by kernel_rfl)
 have tO := asT.typeOf31
 have mA := asT.methodAssignableTo
 have a25 := asT.assignable31
 have f6 := asT.valueOf27
 have f7 := asT.type27
 have mK := asT.methodKind
 have mE := asT.methodElem
 have mI := asT.methodImplements
 have k27 := asT.kind27
 have k25 := asT.kind25
 have e27 := asT.elem27
 have i25 := asT.implements25
 have n8 := asT.isNil27 ⟨w.heap.size, 0, none⟩ t ((w.alloc (.cells #[.pointer (some t)] 194)).alloc (.cells #[.pointer (some ⟨9, 194, none⟩), .pointer (some ⟨w.heap.size, 0, none⟩), .int .u64 150] 213)) (by simp)
 have hlt : 3 < w.heap.size := by
  rcases Nat.lt_or_ge 3 w.heap.size with h | h
  ·exact h
  ·simp [World.cell?, Array.getElem?_eq_none h] at hg
 have hg2 : ((w.alloc (.cells #[.pointer (some t)] 194)).alloc (.cells #[.pointer (some ⟨9, 194, none⟩), .pointer (some ⟨w.heap.size, 0, none⟩), .int .u64 150] 213)).cell? ⟨3, 0, none⟩ = some (.iface 244 (.agg #[.pointer (some ⟨9, 25, none⟩)])) := by
  rw [World.cell?_alloc_lt _ _ ⟨3, 0, none⟩ (by simp; omega), World.cell?_alloc_lt _ _ ⟨3, 0, none⟩ hlt]; exact hg
 have htl : t.block < w.heap.size := by
  rcases Nat.lt_or_ge t.block w.heap.size with h | h
  ·exact h
  ·simp [World.cell?, Array.getElem?_eq_none h] at ht0
 have n1 := asT.no230
 have n2 := asT.no233
 have n3 := asT.no234
 go_enter Tryz.func158, Tryz.ntmps158
 go_wp2
 refine wp_loop_rounds 1 ?_
 rw [rounds_succ]
 go_wp2
 go_ret
 exact ⟨rfl, (((Below.refl _ _).alloc (Nat.le_refl _) _).alloc (by simp) _).alloc (by simp; omega) _⟩
end Go.Proofs.YtefmcijohgpfhaaGreatDoor
set_option maxRecDepth 100000
set_option linter.unusedVariables false
namespace Go.Proofs.YtefmcijohgpfhaaGreatDoor
open Go Go.Av Go.RowKit Go.Proofs Go.Pl
theorem qut {w : World} {b : Nat} {T : TypeId} {fz : Nat × Nat} {c : Array Value} (v : Value) (hc : w.heap[b]? = some (.cells c T fz)) (h1 : c.size = 1) : w.setCell ⟨b, 0, none⟩ v = w.setRow b #[v] := by
 unfold World.setCell World.setRow
 congr 1
 apply Array.ext_getElem?
 intro i
 rw [Array.getElem?_modify, Array.getElem?_modify]
 by_cases hi : b = i
 ·subst hi
  rw [if_pos rfl, if_pos rfl, hc]
  have : c.setIfInBounds 0 v = #[v] := by
   apply Array.ext
   ·simp [h1]
   ·intro i h2 h3
    have : i = 0 := by simp at h3; omega
    subst this
    simp
  simp [this]
 ·rw [if_neg hi, if_neg hi]
theorem q26 (a n : Int) (o : Nat) (st : List AObj) (ho : st[o]? = some (.cells 0 103 [.v (.pointer none)])) : q7 E 158 [qei a n, .ifc 194 (.bx o 0 0)] st fun r st' => r = Bv true ∧ st' = st.set o (.cells 0 103 [.pp [Iv a, .ifc 31 (Iv n)]]) := by
 refine ⟨fun B0 w0 G vals w hL hA hR => ?_⟩
 obtain ⟨v1, v2, rfl⟩ : ∃ x y, vals = #[x, y] := by
  have := hR.1
  match vals, this with
  | ⟨[x, y]⟩, _ => exact ⟨x, y, rfl⟩
 have h1 := hR.2 0 _ v1 rfl rfl
 have h2 := hR.2 1 _ v2 rfl rfl
 unfold qei at h1
 cases h1 with
 | ifc _ _ y1 h1 =>
  cases h2 with
  | ifc _ _ y2 h2 =>
   have hpp := h1
   cases h1 with
   | pp _ b off pub hp hlen hr =>
    cases h2 with
    | bx _ _ _ b2 hn hv hb =>
     obtain ⟨_, g1, g2, g3, c, g4, g5, g6⟩ := hA.ob o _ ho
     have hb := hb g1
     subst hb
     have hc1 : c.size = 1 := by simpa using g5.symm
     have hl := (hL w hA.below).ert
     have hcell : w.cell? ⟨(G.ob o).blk, 0, none⟩ = some c[0] := by simp [World.cell?, g4, hc1]
     have hfz : w.frozen? ⟨(G.ob o).blk, 0, none⟩ = false := by simp [World.frozen?, g4]
     have hlt : (G.ob o).blk < w.heap.size := (Array.getElem?_eq_some_iff.1 g4).1
     refine (q36 ⟨b, off, none⟩ ⟨(G.ob o).blk, 0, none⟩ c[0] w hl hcell hfz).mono ?_
     rintro e w' ⟨rfl, rfl⟩
     have hb1 : Below w.heap.size w ((((w.alloc (.cells #[.pointer (some ⟨(G.ob o).blk, 0, none⟩)] 194)).alloc (.cells #[.pointer (some ⟨9, 194, none⟩), .pointer (some ⟨w.heap.size, 0, none⟩), .int .u64 150] 213)).alloc (.cells #[.pointer (some ⟨9, 194, none⟩), .pointer (some ⟨w.heap.size, 0, none⟩), .int .u64 150] 213)).alloc (.cells #[.pointer (some ⟨b, off, none⟩)] 103)) :=
      ((((Below.refl _ _).alloc (Nat.le_refl _) _).alloc (by simp) _).alloc (by simp; omega) _).alloc (by simp; omega) _
     have hA1 := hA.fresh hb1
     obtain ⟨_, k1, k2, k3, c', k4, k5, k6⟩ := hA1.ob o _ ho
     have hc1' : c'.size = 1 := by simpa using k5.symm
     refine ⟨.bool true, G, Bv true, _, rfl, .refl G, ?_, .v _, rfl, rfl⟩
     rw [qut _ k4 hc1']
     exact hA1.setRow ho (by simp) fun i x y hx hy => by
      match i with
      | 0 => simp at hx hy; subst hx; subst hy; exact hpp
      | i + 1 => simp at hx
theorem q0a (n : Int) (o : Nat) (st : List AObj) (ho : st[o]? = some (.cells 0 103 [.v (.pointer none)])) : q7 E 158 [.ifc 31 (Iv n), .ifc 194 (.bx o 0 0)] st fun r st' => r = Bv false ∧ st' = st := by
 refine ⟨fun B0 w0 G vals w hL hA hR => ?_⟩
 obtain ⟨v1, v2, rfl⟩ : ∃ x y, vals = #[x, y] := by
  have := hR.1
  match vals, this with
  | ⟨[x, y]⟩, _ => exact ⟨x, y, rfl⟩
 have h1 := hR.2 0 _ v1 rfl rfl
 have h2 := hR.2 1 _ v2 rfl rfl
 cases h1 with
 | ifc _ _ y1 h1 =>
  cases h2 with
  | ifc _ _ y2 h2 =>
   cases h1 with
   | v =>
    cases h2 with
    | bx _ _ _ b2 hn hv hb =>
     obtain ⟨_, g1, g2, g3, c, g4, g5, g6⟩ := hA.ob o _ ho
     have hb := hb g1
     subst hb
     have hc1 : c.size = 1 := by simpa using g5.symm
     have hl := (hL w hA.below).ert
     have hcell : w.cell? ⟨(G.ob o).blk, 0, none⟩ = some c[0] := by simp [World.cell?, g4, hc1]
     refine (q27 n ⟨(G.ob o).blk, 0, none⟩ c[0] w hl hcell).mono ?_
     rintro e w' ⟨rfl, hb⟩
     exact ⟨_, G, Bv false, st, rfl, .refl G, hA.fresh hb, .v _, rfl, rfl⟩
end Go.Proofs.YtefmcijohgpfhaaGreatDoor
set_option maxRecDepth 100000
set_option linter.unusedVariables false
namespace Go.Pl
open Go Go.Proofs
inductive ErrV where
 | no
 | num (n : Int)
 | at' (a n : Int)
 deriving DecidableEq
def ErrV.code : ErrV → Int
 | .no => 0
 | .num n => n
 | .at' _ n => n
def ErrV.pos : ErrV → Int
 | .no => -9
 | .num _ => -9
 | .at' a _ => a
def qan : Nat → List Fld → ErrV
 | _, [] => .no
 | k, f :: r => if vo f = 0 then qan (k + 1) r else .at' k (vo f)
def qb3 (fs : List Fld) : ErrV := if fs = [] then .num 2 else if 40 < fs.length then .num 11 else qan 0 fs
theorem qhy : ∀ (k : Nat) (p r : List Fld), (∀ x ∈ p, vo x = 0) → qan k (p ++ r) = qan (k + p.length) r
 | k, [], r, _ => by simp
 | k, f :: p, r, h => by
  have h1 := h f (by simp)
  rw [List.cons_append, qan, if_pos h1, qhy (k + 1) p r fun x hx => h x (by simp [hx])]
  congr 1
  simp
  omega
theorem qkr : ∀ (k : Nat) (r : List Fld), (qan k r).code = 0 ↔ qan k r = .no
 | k, [] => by simp [qan, ErrV.code]
 | k, f :: r => by
  unfold qan
  split
  ·exact qkr _ r
  ·rename_i h
   simp [ErrV.code, h]
theorem qrq (fs : List Fld) : (qb3 fs).code = 0 ↔ qb3 fs = .no := by
 unfold qb3
 split
 ·simp [ErrV.code]
 ·split
  ·simp [ErrV.code]
  ·exact qkr _ _
end Go.Pl
namespace Go.Proofs.YtefmcijohgpfhaaGreatDoor
open Go Go.Av Go.RowKit Go.Proofs Go.Pl
theorem quy {st st' : List AObj} (h : ∀ k, k < st.length → st'[k]? = st[k]?) : ∃ ext, st' = st ++ ext := by
 refine qef ?_ h
 rcases Nat.eq_zero_or_pos st.length with h0 | h0
 ·omega
 ·have h1 := h (st.length - 1) (by omega)
  have h2 : st[st.length - 1]? = some (st[st.length - 1]'(by omega)) := List.getElem?_eq_getElem (by omega)
  have := lt_of_getElem? (h1.trans h2)
  omega
def gErr (x : zq) : ErrV := if x.kind = 2 then (if x.fields = [] then .no else .num 2) else if x.kind = 1 ∨ x.kind = 3 then qb3 x.fields else .num 2
def qcu : Nat → List zq → ErrV
 | _, [] => .no
 | k, x :: r => if (gErr x).code = 0 then qcu (k + 1) r else .at' k (gErr x).code
def eErr (b : List zq) : ErrV := if b.length < 1 ∨ 40 < b.length then .num 1 else qcu 0 b
theorem qjv : ∀ (k : Nat) (p r : List zq), (∀ x ∈ p, (gErr x).code = 0) → qcu k (p ++ r) = qcu (k + p.length) r
 | k, [], r, _ => by simp
 | k, f :: p, r, h => by
  have h1 := h f (by simp)
  rw [List.cons_append, qcu, if_pos h1, qjv (k + 1) p r fun x hx => h x (by simp [hx])]
  congr 1
  simp
  omega
theorem qkp (x : zq) : (gErr x).code = 0 ↔ gErr x = .no := by
 unfold gErr
 split
 ·split <;> simp [ErrV.code]
 ·split
  ·exact qrq _
  ·simp [ErrV.code]
theorem qn7 : ∀ (k : Nat) (r : List zq), (qcu k r).code = 0 ↔ qcu k r = .no
 | k, [] => by simp [qcu, ErrV.code]
 | k, f :: r => by
  unfold qcu
  split
  ·exact qn7 _ r
  ·rename_i h
   simp [ErrV.code] at h ⊢
   exact h
theorem qpo (b : List zq) : (eErr b).code = 0 ↔ eErr b = .no := by
 unfold eErr
 split
 ·simp [ErrV.code]
 ·exact qn7 _ _
def errA : ErrV → AV
 | .no => .v .nilIface
 | .num n => .ifc 31 (Iv n)
 | .at' a n => .ifc 103 (.pp [Iv a, .ifc 31 (Iv n)])
theorem qc6 (e : ErrV) : Pure (errA e) := by
 cases e with
 | no => exact z4 _
 | num n => exact qc5 (z4 _)
 | at' a n => exact qhu a n
def KeyB (fs : List Fld) : Prop := ∀ f ∈ fs, f.1.length < 4294967281
theorem qri (fs : List Fld) (st : List AObj) (e : ErrV) (h : qb3 fs = e) (hK : KeyB fs) (hl : fs.length < 9223372036854775808) : q7 E 122 [y7 fs] st fun r st' => r = errA e ∧ st' = st := by
 subst h
 refine zt (qc6 _) (q8 Tryz.func122 rfl (Nat.le_of_ble_eq_true rfl) ?_)
 have hml : (fs.map fldA).length = fs.length := by simp
 by_cases h0 : fs = []
 ·subst h0
  repeat' (first
   | apply qm
   | apply q4
   | apply qe
   | apply qa
   | apply qi
   | apply qf
   | (apply qw; (iterate 3 exact rfl))
   | (apply qg; exact rfl; first | (apply ze; (first | assumption | omega)) | (apply zd; (first | assumption | omega)) | (apply zc; (first | exact rfl | assumption)) | (apply zb; (first | exact rfl | assumption)) | (apply cd_n <;> intro h) | (apply cd_t; (first | exact rfl | assumption)) | (apply cd_f; (first | exact rfl | assumption)) | (apply cd_d <;> intro h) | (apply cd_s <;> intro h))
   | (apply zy; (iterate 4 exact rfl))
   | (apply q9; exact rfl; exact rfl)
   | apply qz)
  exact qo rfl (zm rfl) ⟨rfl, _, rfl⟩
 have hp : 0 < fs.length := List.length_pos_iff.2 h0
 by_cases h40 : 40 < fs.length
 ·have hc : qb3 fs = .num 11 := by unfold qb3; rw [if_neg h0, if_pos h40]
  rw [hc]
  repeat' (first
   | apply qm
   | apply q4
   | apply qe
   | apply qa
   | apply qi
   | apply qf
   | (apply qw; (iterate 3 exact rfl))
   | (apply qg; exact rfl; first | (apply ze; (first | assumption | omega)) | (apply zd; (first | assumption | omega)) | (apply zc; (first | exact rfl | assumption)) | (apply zb; (first | exact rfl | assumption)) | (apply cd_n <;> intro h) | (apply cd_t; (first | exact rfl | assumption)) | (apply cd_f; (first | exact rfl | assumption)) | (apply cd_d <;> intro h) | (apply cd_s <;> intro h))
   | (apply zy; (iterate 4 exact rfl))
   | (apply q9; exact rfl; exact rfl)
   | apply qz)
  exact qo rfl (zm rfl) ⟨rfl, _, rfl⟩
 have hc : qb3 fs = qan 0 fs := by unfold qb3; rw [if_neg h0, if_neg h40]
 rw [hc]
 repeat' (first
  | apply qm
  | apply q4
  | apply qe
  | apply qa
  | apply qi
  | apply qf
  | (apply qw; (iterate 3 exact rfl))
  | (apply qg; exact rfl; first | (apply ze; (first | assumption | omega)) | (apply zd; (first | assumption | omega)) | (apply zc; (first | exact rfl | assumption)) | (apply zb; (first | exact rfl | assumption)) | (apply cd_n <;> intro h) | (apply cd_t; (first | exact rfl | assumption)) | (apply cd_f; (first | exact rfl | assumption)) | (apply cd_d <;> intro h) | (apply cd_s <;> intro h))
  | (apply zy; (iterate 4 exact rfl))
  | apply q6)
 refine qbp fs (fun pre s => (∀ x ∈ pre, vo x = 0) ∧ StE [(16, y7 fs), (17, Iv fs.length), (18, Iv pre.length)] st [] s) ⟨by simp, qe5 ⟨rfl, congrArg (fun n : Nat => Iv (n : Int)) hml, rfl, trivial⟩ rfl⟩ ?_ ?_
 ·rintro _ ⟨h3, t, ext, rfl⟩
  have he := qhy 0 fs [] h3
  rw [List.append_nil] at he
  rw [he]
  repeat' (first
   | apply qm
   | apply qe
   | apply qa
   | apply qf
   | (apply qw; (iterate 3 exact rfl))
   | (apply qg; exact rfl; first | (apply ze; (first | assumption | omega)) | (apply zd; (first | assumption | omega)) | (apply zc; (first | exact rfl | assumption)) | (apply zb; (first | exact rfl | assumption)) | (apply cd_n <;> intro h) | (apply cd_t; (first | exact rfl | assumption)) | (apply cd_f; (first | exact rfl | assumption)) | (apply cd_d <;> intro h) | (apply cd_s <;> intro h))
   | apply jp
   | apply qz)
  exact qo rfl (zm rfl) ⟨rfl, qah _ _ _ _⟩
 ·rintro pre a rest _ hr ⟨h3, t, ext, rfl⟩
  have hrlen : fs.length = pre.length + (rest.length + 1) := by rw [hr]; simp
  have hget : (fs.map fldA)[pre.length]? = some (fldA a) := by rw [hr]; simp
  have hka := hK a (by rw [hr]; simp)
  by_cases ha : vo a = 0
  ·skip
   repeat' (first
    | apply qm
    | apply q4
    | apply qe
    | apply qa
    | apply qi
    | apply qf
    | (apply qw; (iterate 3 exact rfl))
    | (apply qg; exact rfl; first | (apply ze; (first | assumption | omega)) | (apply zd; (first | assumption | omega)) | (apply zc; (first | exact rfl | assumption)) | (apply zb; (first | exact rfl | assumption)) | (apply cd_n <;> intro h) | (apply cd_t; (first | exact rfl | assumption)) | (apply cd_f; (first | exact rfl | assumption)) | (apply cd_d <;> intro h) | (apply cd_s <;> intro h))
    | (apply js; exact rfl; exact rfl; exact zi (by omega) (by omega))
    | (apply zr; exact rfl; exact rfl)
    | (apply z0; exact rfl; exact rfl)
    | (apply qk; (iterate 3 exact rfl))
    | (apply qh; (iterate 5 exact rfl))
    | (apply qn; (iterate 11 exact rfl))
    | apply q6
    | (apply qd; exact Tryz.call124; exact qgs _ _ hka ha)
    | (apply jg (n := pre.length); (iterate 5 exact rfl); exact hget))
   refine ⟨fun x hx => ?_, qdg ⟨rfl, rfl, qew pre a, trivial⟩ rfl⟩
   rcases List.mem_append.1 hx with hx | hx
   ·exact h3 x hx
   ·simp at hx; subst hx; exact ha
  ·have he := qhy 0 pre (a :: rest) h3
   rw [← hr, qan, if_neg ha] at he
   rw [he]
   repeat' (first
    | (apply qea; (iterate 3 exact rfl))
    | apply qm
    | apply q4
    | apply qe
    | apply qa
    | apply qi
    | apply qf
    | (apply qw; (iterate 3 exact rfl))
    | (apply qg; exact rfl; first | (apply ze; (first | assumption | omega)) | (apply zd; (first | assumption | omega)) | (apply zc; (first | exact rfl | assumption)) | (apply zb; (first | exact rfl | assumption)) | (apply cd_n <;> intro h) | (apply cd_t; (first | exact rfl | assumption)) | (apply cd_f; (first | exact rfl | assumption)) | (apply cd_d <;> intro h) | (apply cd_s <;> intro h))
    | (apply z8; exact rfl; exact rfl)
    | (apply q9; exact rfl; exact rfl)
    | (apply z0; exact rfl; exact rfl)
    | (apply qk; (iterate 3 exact rfl))
    | (apply qh; (iterate 5 exact rfl))
    | (apply qn; (iterate 11 exact rfl))
    | (apply jq; (iterate 3 exact rfl))
    | apply q6
    | apply qz
    | (apply qd; exact Tryz.call124; exact qgk _ _ hka ha)
    | (apply jg (n := pre.length); (iterate 5 exact rfl); exact hget))
   refine qo rfl (zm rfl) ⟨?_, qah _ _ _ _⟩
   rw [Nat.zero_add]
   rfl
theorem qo1 (x : zq) (st : List AObj) (e : ErrV) (h : gErr x = e) (hK : KeyB x.fields) (hl : x.fields.length < 9223372036854775808) : q7 E 83 [qbd x] st fun r st' => r = errA e ∧ st' = st := by
 subst h
 refine zt (qc6 _) (q8 Tryz.func83 rfl (Nat.le_of_ble_eq_true rfl) ?_)
 have hml : (x.fields.map fldA).length = x.fields.length := by simp
 have hpos : x.fields = [] ↔ x.fields.length = 0 := by simp
 unfold gErr
 by_cases h2 : x.kind = 2
 ·rw [if_pos h2]
  by_cases h0 : x.fields = []
  ·rw [if_pos h0]
   have hz := hpos.1 h0
   repeat' (first
    | apply qm
    | apply q4
    | apply qe
    | apply qa
    | apply qf
    | (apply qw; (iterate 3 exact rfl))
    | (apply qg; exact rfl; first | (apply ze; (first | assumption | omega)) | (apply zd; (first | assumption | omega)) | (apply zc; (first | exact rfl | assumption)) | (apply zb; (first | exact rfl | assumption)) | (apply cd_n <;> intro h) | (apply cd_t; (first | exact rfl | assumption)) | (apply cd_f; (first | exact rfl | assumption)) | (apply cd_d <;> intro h) | (apply cd_s <;> intro h))
    | (apply zy; (iterate 4 exact rfl))
    | (apply j7; (iterate 4 exact rfl))
    | (apply qr; (iterate 3 exact rfl))
    | (apply qh; (iterate 5 exact rfl))
    | apply q6
    | apply qz)
   exact qo rfl (zm rfl) ⟨rfl, _, rfl⟩
  ·rw [if_neg h0]
   have hz : 0 < x.fields.length := List.length_pos_iff.2 h0
   repeat' (first
    | apply qm
    | apply q4
    | apply qe
    | apply qa
    | apply qf
    | (apply qw; (iterate 3 exact rfl))
    | (apply qg; exact rfl; first | (apply ze; (first | assumption | omega)) | (apply zd; (first | assumption | omega)) | (apply zc; (first | exact rfl | assumption)) | (apply zb; (first | exact rfl | assumption)) | (apply cd_n <;> intro h) | (apply cd_t; (first | exact rfl | assumption)) | (apply cd_f; (first | exact rfl | assumption)) | (apply cd_d <;> intro h) | (apply cd_s <;> intro h))
    | (apply zy; (iterate 4 exact rfl))
    | (apply q9; exact rfl; exact rfl)
    | (apply j7; (iterate 4 exact rfl))
    | (apply qr; (iterate 3 exact rfl))
    | (apply qh; (iterate 5 exact rfl))
    | apply qz)
   exact qo rfl (zm rfl) ⟨rfl, _, rfl⟩
 ·rw [if_neg h2]
  by_cases h1 : x.kind = 1
  ·rw [if_pos (.inl h1)]
   repeat' (first
    | apply qm
    | apply q4
    | apply qe
    | apply qa
    | apply qf
    | (apply qw; (iterate 3 exact rfl))
    | (apply qg; exact rfl; first | (apply ze; (first | assumption | omega)) | (apply zd; (first | assumption | omega)) | (apply zc; (first | exact rfl | assumption)) | (apply zb; (first | exact rfl | assumption)) | (apply cd_n <;> intro h) | (apply cd_t; (first | exact rfl | assumption)) | (apply cd_f; (first | exact rfl | assumption)) | (apply cd_d <;> intro h) | (apply cd_s <;> intro h))
    | (apply j7; (iterate 4 exact rfl))
    | (apply qr; (iterate 3 exact rfl))
    | (apply qh; (iterate 5 exact rfl))
    | apply q6
    | apply qz
    | (apply qd; exact Tryz.call122; exact qri _ _ _ rfl hK hl))
   exact qo rfl (zm rfl) ⟨rfl, _, rfl⟩
  ·by_cases h3 : x.kind = 3
   ·rw [if_pos (.inr h3)]
    repeat' (first
     | apply qm
     | apply q4
     | apply qe
     | apply qa
     | apply qf
     | (apply qw; (iterate 3 exact rfl))
     | (apply qg; exact rfl; first | (apply ze; (first | assumption | omega)) | (apply zd; (first | assumption | omega)) | (apply zc; (first | exact rfl | assumption)) | (apply zb; (first | exact rfl | assumption)) | (apply cd_n <;> intro h) | (apply cd_t; (first | exact rfl | assumption)) | (apply cd_f; (first | exact rfl | assumption)) | (apply cd_d <;> intro h) | (apply cd_s <;> intro h))
     | (apply j7; (iterate 4 exact rfl))
     | (apply qr; (iterate 3 exact rfl))
     | (apply qh; (iterate 5 exact rfl))
     | apply qz
     | (apply qd; exact Tryz.call122; exact qri _ _ _ rfl hK hl))
    exact qo rfl (zm rfl) ⟨rfl, _, rfl⟩
   ·rw [if_neg (by rintro (h | h) <;> contradiction)]
    repeat' (first
     | apply qm
     | apply q4
     | apply qe
     | apply qa
     | apply qf
     | (apply qw; (iterate 3 exact rfl))
     | (apply qg; exact rfl; first | (apply ze; (first | assumption | omega)) | (apply zd; (first | assumption | omega)) | (apply zc; (first | exact rfl | assumption)) | (apply zb; (first | exact rfl | assumption)) | (apply cd_n <;> intro h) | (apply cd_t; (first | exact rfl | assumption)) | (apply cd_f; (first | exact rfl | assumption)) | (apply cd_d <;> intro h) | (apply cd_s <;> intro h))
     | (apply q9; exact rfl; exact rfl)
     | (apply j7; (iterate 4 exact rfl))
     | (apply qr; (iterate 3 exact rfl))
     | (apply qh; (iterate 5 exact rfl))
     | apply q6
     | apply qz)
    exact qo rfl (zm rfl) ⟨rfl, _, rfl⟩
theorem q0h (n : Int) (st : List AObj) : q7 E 123 [.ifc 31 (Iv n)] st fun r st' => r = .ifc 31 (Iv n) ∧ st' = st := by
 refine zt (qc5 (z4 _)) (q8 Tryz.func123 rfl (Nat.le_of_ble_eq_true rfl) ?_)
 repeat' (first
  | apply qm
  | apply qe
  | apply qa
  | apply qi
  | apply qf
  | (apply qg; exact rfl; first | (apply ze; (first | assumption | omega)) | (apply zd; (first | assumption | omega)) | (apply zc; (first | exact rfl | assumption)) | (apply zb; (first | exact rfl | assumption)) | (apply cd_n <;> intro h) | (apply cd_t; (first | exact rfl | assumption)) | (apply cd_f; (first | exact rfl | assumption)) | (apply cd_d <;> intro h) | (apply cd_s <;> intro h))
  | (apply q9; exact rfl; exact rfl)
  | (apply z0; exact rfl; exact rfl)
  | apply q6
  | apply qz
  | (apply qd; exact Tryz.call158; exact q0a _ (st.length + 0) _ (zn rfl)))
 exact qo rfl (zm rfl) ⟨rfl, _, rfl⟩
theorem q1m (a n : Int) (st : List AObj) : q7 E 123 [qei a n] st fun r st' => r = .ifc 31 (Iv n) ∧ st' = st := by
 refine zt (qc5 (z4 _)) (q8 Tryz.func123 rfl (Nat.le_of_ble_eq_true rfl) ?_)
 repeat' (first
  | apply qm
  | apply qe
  | apply qa
  | apply qi
  | apply qf
  | (apply qg; exact rfl; first | (apply ze; (first | assumption | omega)) | (apply zd; (first | assumption | omega)) | (apply zc; (first | exact rfl | assumption)) | (apply zb; (first | exact rfl | assumption)) | (apply cd_n <;> intro h) | (apply cd_t; (first | exact rfl | assumption)) | (apply cd_f; (first | exact rfl | assumption)) | (apply cd_d <;> intro h) | (apply cd_s <;> intro h))
  | (apply q9; exact rfl; exact rfl)
  | (apply z0; exact rfl; exact rfl)
  | (apply jl; (iterate 4 exact rfl))
  | (apply qk; (iterate 3 exact rfl))
  | (apply zv; exact rfl; exact rfl)
  | apply qz
  | (apply qd; exact Tryz.call158; exact q26 a n (st.length + 0) _ (zn rfl))
  | (apply qc; exact rfl; (focus first | assumption | (repeat' (first | assumption | exact jj | exact zn rfl | apply zw | apply zk | omega | apply z6))); exact rfl; exact rfl))
 exact qo rfl (zm rfl) ⟨rfl, quy fun j hj => (v8 (by omega)).trans (List.getElem?_append_left hj)⟩
theorem qsg (k : Int) (e : ErrV) (st : List AObj) (he : e.code ≠ 0) : q7 E 84 [Iv k, errA e] st fun r st' => r = errA (.at' k e.code) ∧ st' = st := by
 refine zt (qc6 _) (q8 Tryz.func84 rfl (Nat.le_of_ble_eq_true rfl) ?_)
 cases e with
 | no => exact absurd rfl he
 | num n =>
  repeat' (first
   | (apply qea; (iterate 3 exact rfl))
   | apply qm
   | apply qe
   | apply qa
   | apply qi
   | apply qf
   | (apply q9; exact rfl; exact rfl)
   | (apply jq; (iterate 3 exact rfl))
   | apply qz
   | (apply qd; exact Tryz.call123; exact q0h _ _))
  exact qo rfl (zm rfl) ⟨rfl, _, rfl⟩
 | at' a n =>
  repeat' (first
   | (apply qea; (iterate 3 exact rfl))
   | apply qm
   | apply qe
   | apply qa
   | apply qi
   | apply qf
   | (apply q9; exact rfl; exact rfl)
   | (apply jq; (iterate 3 exact rfl))
   | apply qz
   | (apply qd; exact Tryz.call123; exact q1m a n _))
  exact qo rfl (zm rfl) ⟨rfl, _, rfl⟩
structure EdB (x : zq) : Prop where
 keys : KeyB x.fields
 len : x.fields.length < 9223372036854775808
 id1 : -9223372036854775808 ≤ x.id
 id2 : x.id ≤ 9223372036854775807
@[reducible] def wc (b : List zq) : AV := .sl 3 (b.map qbd) none
theorem ql9 (b : List zq) (st : List AObj) (e : ErrV) (h : eErr b = e) (hB : ∀ x ∈ b, EdB x) (hl : b.length < 9223372036854775808) : q7 E 45 [wc b] st fun r st' => r = errA e ∧ st' = st := by
 subst h
 refine zt (qc6 _) (q8 Tryz.func45 rfl (Nat.le_of_ble_eq_true rfl) ?_)
 have hml : (b.map qbd).length = b.length := by simp
 by_cases h1 : b.length < 1 ∨ 40 < b.length
 ·have hc : eErr b = .num 1 := if_pos h1
  rw [hc]
  rcases h1 with h1 | h1
  ·skip
   repeat' (first
    | apply qm
    | apply qe
    | apply qa
    | apply qi
    | apply qf
    | (apply qw; (iterate 3 exact rfl))
    | (apply za; (iterate 4 exact rfl))
    | (apply ve; (first | assumption | omega))
    | (apply zg; exact rfl; first | (apply kc; (first | assumption | omega)) | (apply ka; (first | assumption | omega)) | (apply j9; (first | exact rfl | assumption)) | (apply ke; (first | exact rfl | assumption)) | (apply pk_t; (first | exact rfl | assumption)) | (apply pk_f; (first | exact rfl | assumption)))
    | (apply qg; exact rfl; first | (apply ze; (first | assumption | omega)) | (apply zd; (first | assumption | omega)) | (apply zc; (first | exact rfl | assumption)) | (apply zb; (first | exact rfl | assumption)) | (apply cd_n <;> intro h) | (apply cd_t; (first | exact rfl | assumption)) | (apply cd_f; (first | exact rfl | assumption)) | (apply cd_d <;> intro h) | (apply cd_s <;> intro h))
    | (apply zy; (iterate 4 exact rfl))
    | (apply q9; exact rfl; exact rfl)
    | apply qz)
   exact qo rfl (zm rfl) ⟨rfl, _, rfl⟩
  ·skip
   repeat' (first
    | apply qm
    | apply qe
    | apply qa
    | apply qi
    | apply qf
    | (apply qw; (iterate 3 exact rfl))
    | (apply za; (iterate 4 exact rfl))
    | (apply kv; (first | assumption | omega))
    | (apply zg; exact rfl; first | (apply kc; (first | assumption | omega)) | (apply ka; (first | assumption | omega)) | (apply j9; (first | exact rfl | assumption)) | (apply ke; (first | exact rfl | assumption)) | (apply pk_t; (first | exact rfl | assumption)) | (apply pk_f; (first | exact rfl | assumption)))
    | (apply qg; exact rfl; first | (apply ze; (first | assumption | omega)) | (apply zd; (first | assumption | omega)) | (apply zc; (first | exact rfl | assumption)) | (apply zb; (first | exact rfl | assumption)) | (apply cd_n <;> intro h) | (apply cd_t; (first | exact rfl | assumption)) | (apply cd_f; (first | exact rfl | assumption)) | (apply cd_d <;> intro h) | (apply cd_s <;> intro h))
    | (apply zy; (iterate 4 exact rfl))
    | (apply q9; exact rfl; exact rfl)
    | apply qz)
   exact qo rfl (zm rfl) ⟨rfl, _, rfl⟩
 have hc : eErr b = qcu 0 b := if_neg h1
 rw [hc]
 repeat' (first
  | apply qm
  | apply q4
  | apply qe
  | apply qa
  | apply qi
  | apply qf
  | (apply qw; (iterate 3 exact rfl))
  | (apply za; (iterate 4 exact rfl))
  | (apply kv; (first | assumption | omega))
  | (apply zg; exact rfl; first | (apply kc; (first | assumption | omega)) | (apply ka; (first | assumption | omega)) | (apply j9; (first | exact rfl | assumption)) | (apply ke; (first | exact rfl | assumption)) | (apply pk_t; (first | exact rfl | assumption)) | (apply pk_f; (first | exact rfl | assumption)))
  | (apply qg; exact rfl; first | (apply ze; (first | assumption | omega)) | (apply zd; (first | assumption | omega)) | (apply zc; (first | exact rfl | assumption)) | (apply zb; (first | exact rfl | assumption)) | (apply cd_n <;> intro h) | (apply cd_t; (first | exact rfl | assumption)) | (apply cd_f; (first | exact rfl | assumption)) | (apply cd_d <;> intro h) | (apply cd_s <;> intro h))
  | (apply zy; (iterate 4 exact rfl))
  | apply q6)
 refine qbp b (fun pre s => (∀ x ∈ pre, (gErr x).code = 0) ∧ StE [(15, wc b), (16, Iv b.length), (17, Iv pre.length)] st [] s) ⟨by simp, qe5 ⟨rfl, congrArg (fun n : Nat => Iv (n : Int)) hml, rfl, trivial⟩ rfl⟩ ?_ ?_
 ·rintro _ ⟨h3, t, ext, rfl⟩
  have he := qjv 0 b [] h3
  rw [List.append_nil] at he
  rw [he]
  repeat' (first
   | apply qm
   | apply qe
   | apply qa
   | apply qf
   | (apply qw; (iterate 3 exact rfl))
   | (apply qg; exact rfl; first | (apply ze; (first | assumption | omega)) | (apply zd; (first | assumption | omega)) | (apply zc; (first | exact rfl | assumption)) | (apply zb; (first | exact rfl | assumption)) | (apply cd_n <;> intro h) | (apply cd_t; (first | exact rfl | assumption)) | (apply cd_f; (first | exact rfl | assumption)) | (apply cd_d <;> intro h) | (apply cd_s <;> intro h))
   | apply jp
   | apply qz)
  exact qo rfl (zm rfl) ⟨rfl, qah _ _ _ _⟩
 ·rintro pre a rest _ hr ⟨h3, t, ext, rfl⟩
  have hrlen : b.length = pre.length + (rest.length + 1) := by rw [hr]; simp
  have hget : (b.map qbd)[pre.length]? = some (qbd a) := by rw [hr]; simp
  have hka := hB a (by rw [hr]; simp)
  by_cases ha : (gErr a).code = 0
  ·have hn := (qkp a).1 ha
   repeat' (first
    | apply qm
    | apply q4
    | apply qe
    | apply qa
    | apply qi
    | apply qf
    | (apply qw; (iterate 3 exact rfl))
    | (apply qg; exact rfl; first | (apply ze; (first | assumption | omega)) | (apply zd; (first | assumption | omega)) | (apply zc; (first | exact rfl | assumption)) | (apply zb; (first | exact rfl | assumption)) | (apply cd_n <;> intro h) | (apply cd_t; (first | exact rfl | assumption)) | (apply cd_f; (first | exact rfl | assumption)) | (apply cd_d <;> intro h) | (apply cd_s <;> intro h))
    | (apply js; exact rfl; exact rfl; exact zi (by omega) (by omega))
    | (apply zr; exact rfl; exact rfl)
    | (apply z0; exact rfl; exact rfl)
    | (apply qk; (iterate 3 exact rfl))
    | (apply qh; (iterate 5 exact rfl))
    | (apply qn; (iterate 11 exact rfl))
    | apply q6
    | (apply qd; exact Tryz.call83; exact qo1 _ _ _ hn hka.keys hka.len)
    | (apply jg (n := pre.length); (iterate 5 exact rfl); exact hget))
   refine ⟨fun x hx => ?_, qdg ⟨rfl, rfl, qew pre a, trivial⟩ rfl⟩
   rcases List.mem_append.1 hx with hx | hx
   ·exact h3 x hx
   ·simp at hx; subst hx; exact ha
  ·have he := qjv 0 pre (a :: rest) h3
   rw [← hr, qcu, if_neg ha, Nat.zero_add] at he
   rw [he]
   cases hg : gErr a with
   | no => rw [hg] at ha; exact absurd rfl ha
   | num n =>
    have ha2 : (ErrV.num n).code ≠ 0 := by rw [← hg]; exact ha
    repeat' (first
     | apply qm
     | apply q4
     | apply qe
     | apply qa
     | apply qi
     | apply qf
     | (apply qw; (iterate 3 exact rfl))
     | (apply qg; exact rfl; first | (apply ze; (first | assumption | omega)) | (apply zd; (first | assumption | omega)) | (apply zc; (first | exact rfl | assumption)) | (apply zb; (first | exact rfl | assumption)) | (apply cd_n <;> intro h) | (apply cd_t; (first | exact rfl | assumption)) | (apply cd_f; (first | exact rfl | assumption)) | (apply cd_d <;> intro h) | (apply cd_s <;> intro h))
     | (apply z8; exact rfl; exact rfl)
     | (apply z0; exact rfl; exact rfl)
     | (apply qk; (iterate 3 exact rfl))
     | (apply qh; (iterate 5 exact rfl))
     | (apply qn; (iterate 11 exact rfl))
     | apply q6
     | apply qz
     | (apply qd; exact Tryz.call83; exact qo1 _ _ _ hg hka.keys hka.len)
     | (apply qd; exact Tryz.call84; exact qsg _ (.num n) _ ha2)
     | (apply jg (n := pre.length); (iterate 5 exact rfl); exact hget))
    exact qo rfl (zm rfl) ⟨rfl, qah _ _ _ _⟩
   | at' p n =>
    have ha2 : (ErrV.at' p n).code ≠ 0 := by rw [← hg]; exact ha
    repeat' (first
     | apply qm
     | apply q4
     | apply qe
     | apply qa
     | apply qi
     | apply qf
     | (apply qw; (iterate 3 exact rfl))
     | (apply qg; exact rfl; first | (apply ze; (first | assumption | omega)) | (apply zd; (first | assumption | omega)) | (apply zc; (first | exact rfl | assumption)) | (apply zb; (first | exact rfl | assumption)) | (apply cd_n <;> intro h) | (apply cd_t; (first | exact rfl | assumption)) | (apply cd_f; (first | exact rfl | assumption)) | (apply cd_d <;> intro h) | (apply cd_s <;> intro h))
     | (apply z8; exact rfl; exact rfl)
     | (apply z0; exact rfl; exact rfl)
     | (apply qk; (iterate 3 exact rfl))
     | (apply qh; (iterate 5 exact rfl))
     | (apply qn; (iterate 11 exact rfl))
     | apply q6
     | apply qz
     | (apply qd; exact Tryz.call83; exact qo1 _ _ _ hg hka.keys hka.len)
     | (apply qd; exact Tryz.call84; exact qsg _ (.at' p n) _ ha2)
     | (apply jg (n := pre.length); (iterate 5 exact rfl); exact hget))
    exact qo rfl (zm rfl) ⟨rfl, qah _ _ _ _⟩
end Go.Proofs.YtefmcijohgpfhaaGreatDoor
set_option maxRecDepth 100000
set_option linter.unusedVariables false
namespace Go.Proofs.YtefmcijohgpfhaaGreatDoor
open Go Go.Av Go.RowKit Go.Proofs Go.Pl
def kj (x : zq) : qb := vv x ++ [10] ++ qa7 [32, 32] (we x.fields)
def encF (b : List zq) : qb := b.flatMap kj
theorem q0f (a b : List zq) : encF (a ++ b) = encF a ++ encF b := by simp [encF]
theorem q1b (x : zq) : encF [x] = kj x := by simp [encF]
theorem qol : ∀ (k : Nat) (r : List Fld), qan k r = .no ↔ ∀ f ∈ r, kr f
 | k, [] => by simp [qan]
 | k, f :: r => by
  unfold qan
  split
  ·rename_i h
   rw [qol (k + 1) r]
   have := (qco f).1 h
   simp [this]
  ·rename_i h
   have h2 : ¬ kr f := fun g => h ((qco f).2 g)
   simp [h2]
theorem qxg {fs : List Fld} (h : qb3 fs = .no) : fs ≠ [] ∧ fs.length ≤ 40 ∧ ∀ f ∈ fs, kr f := by
 unfold qb3 at h
 split at h
 ·exact absurd h (by simp)
 ·split at h
  ·exact absurd h (by simp)
  ·exact ⟨by assumption, by omega, (qol _ _).1 h⟩
theorem qor {x : zq} (h : gErr x = .no) : x.fields.length ≤ 40 ∧ ∀ f ∈ x.fields, kr f := by
 unfold gErr at h
 split at h
 ·split at h
  ·rename_i h0; rw [h0]; simp
  ·exact absurd h (by simp)
 ·split at h
  ·exact (qxg h).2
  ·exact absurd h (by simp)
theorem qra : ∀ (k : Nat) (b : List zq), qcu k b = .no ↔ ∀ x ∈ b, gErr x = .no
 | k, [] => by simp [qcu]
 | k, x :: b => by
  unfold qcu
  split
  ·rename_i h
   rw [qra (k + 1) b]
   have := (qkp x).1 h
   simp [this]
  ·rename_i h
   have h2 : ¬ gErr x = .no := fun g => h ((qkp x).2 g)
   simp [h2]
theorem qoy {b : List zq} (h : eErr b = .no) : 1 ≤ b.length ∧ b.length ≤ 40 ∧ ∀ x ∈ b, gErr x = .no := by
 unfold eErr at h
 split at h
 ·exact absurd h (by simp)
 ·exact ⟨by omega, by omega, (qra _ _).1 h⟩
theorem q3w {fs : List Fld} (hl : fs.length ≤ 40) (h : ∀ f ∈ fs, kr f) : q11 fs := ⟨by omega, fun f hf => by
 have := h f hf
 have h1 := this.1.2.1
 have h2 := this.2
 omega⟩
theorem qwo (xs : List FldV) (st : List AObj) (hl : xs.length ≤ 40) (h : ∀ f ∈ xs, kr f) : q7 E 46 [y7 xs] st fun r st' => r = .tu [Sv (we xs), .v .nilIface] ∧ st' = st := by
 have := q3x xs st (q3w hl h)
 unfold qoh at this
 have h0 := (qj7 xs).2 h
 rw [if_pos h0, h0] at this
 exact this
theorem ql2 (l : qb) : (qa7 [32, 32] l).length ≤ 3 * l.length := by
 unfold qa7
 obtain ⟨h1, h2⟩ := qfh _ l (Nat.le_refl _)
 have := qms [32, 32] (jk l)
 simp only [List.length_cons, List.length_nil] at this
 omega
theorem qqc (x : zq) (h1 : -9223372036854775808 ≤ x.id) (h2 : x.id ≤ 9223372036854775807) : (vv x).length ≤ 100 := by
 have hn := Lib.itoa_length_le x.id h1 h2
 unfold vv qbr
 split
 ·split
  ·simp; omega
  ·split
   ·simp; omega
   ·split <;> simp <;> omega
 ·simp
theorem qwf {x : zq} (hB : EdB x) (h : gErr x = .no) : (kj x).length ≤ 700000 := by
 obtain ⟨hl, hg⟩ := qor h
 have h1 := qg5 x.fields hg
 have h2 := ql2 (we x.fields)
 have h3 := qqc x hB.id1 hB.id2
 unfold kj
 simp only [List.length_append, List.length_cons, List.length_nil]
 omega
theorem qmf : ∀ (b : List zq), (∀ x ∈ b, EdB x) → (∀ x ∈ b, gErr x = .no) → (encF b).length ≤ 700000 * b.length
 | [], _, _ => by simp [encF]
 | x :: r, hB, h => by
  have ih := qmf r (fun y hy => hB y (by simp [hy])) (fun y hy => h y (by simp [hy]))
  have h1 := qwf (hB x (by simp)) (h x (by simp))
  have e : encF (x :: r) = kj x ++ encF r := by simp [encF]
  rw [e, List.length_append, List.length_cons]
  omega
set_option maxHeartbeats 2000000 in
theorem qpl (b : List zq) (st : List AObj) (hB : ∀ x ∈ b, EdB x) (he : eErr b = .no) : q7 E 15 [wc b] st fun r st' => r = .tu [Sv (encF b), .v .nilIface] ∧ st' = st := by
 refine zt (y9 (z4 _) (z4 _)) (q8 Tryz.func15 rfl (Nat.le_of_ble_eq_true rfl) ?_)
 have hml : (b.map qbd).length = b.length := by simp
 obtain ⟨hb1, hb40, hg⟩ := qoy he
 have hel := qmf b hB hg
 repeat' (first
  | (apply qhx; exact rfl)
  | apply qm
  | apply q4
  | apply qe
  | apply qa
  | apply qi
  | apply qf
  | (apply qg; exact rfl; first | (apply ze; (first | assumption | omega)) | (apply zd; (first | assumption | omega)) | (apply zc; (first | exact rfl | assumption)) | (apply zb; (first | exact rfl | assumption)) | (apply cd_n <;> intro h) | (apply cd_t; (first | exact rfl | assumption)) | (apply cd_f; (first | exact rfl | assumption)) | (apply cd_d <;> intro h) | (apply cd_s <;> intro h))
  | (apply zy; (iterate 4 exact rfl))
  | (apply zr; exact rfl; exact rfl)
  | apply q6
  | (apply qd; exact Tryz.call45; exact ql9 _ _ _ he hB (by omega)))
 refine qbp b (fun pre s => ∃ q, (q = .v (.pointer none) ∨ q = .bx (st.length + 0) 0 0) ∧ StE [(5, .bx (st.length + 0) 0 0), (15, wc b), (16, Iv b.length), (17, Iv pre.length)] st [bldO 0 q (encF pre) (st.length + 1), .tip (encF pre).length 1 5] s) ⟨_, .inl rfl, qe5 ⟨rfl, rfl, congrArg (fun n : Nat => Iv (n : Int)) hml, rfl, trivial⟩ rfl⟩ ?_ ?_
 ·rintro _ ⟨q, hq, t, ext, rfl⟩
  repeat' (first
   | apply qm
   | apply qe
   | apply qa
   | apply qf
   | (apply qw; (iterate 3 exact rfl))
   | (apply qg; exact rfl; first | (apply ze; (first | assumption | omega)) | (apply zd; (first | assumption | omega)) | (apply zc; (first | exact rfl | assumption)) | (apply zb; (first | exact rfl | assumption)) | (apply cd_n <;> intro h) | (apply cd_t; (first | exact rfl | assumption)) | (apply cd_f; (first | exact rfl | assumption)) | (apply cd_d <;> intro h) | (apply cd_s <;> intro h))
   | apply jp
   | apply qz
   | (refine qd Tryz.call50 (qhr st _ _ _ _ 0 1 0 _ _ rfl rfl rfl) ?_))
  exact qo rfl (vd rfl) ⟨rfl, qah _ _ _ _⟩
 ·rintro pre x rest _ hr ⟨q, hq, t, ext, rfl⟩
  have hlen : b.length = pre.length + (rest.length + 1) := by rw [hr]; simp
  have hget : (b.map qbd)[pre.length]? = some (qbd x) := by rw [hr]; simp
  have hxb := hB x (by rw [hr]; simp)
  have hxg := hg x (by rw [hr]; simp)
  obtain ⟨hfl, hfg⟩ := qor hxg
  have hpl := qmf pre (fun y hy => hB y (by rw [hr]; simp [hy])) (fun y hy => hg y (by rw [hr]; simp [hy]))
  have hll := qqc x hxb.id1 hxb.id2
  have hfo := qg5 x.fields hfg
  have hin := ql2 (we x.fields)
  repeat' (first
   | apply qm
   | apply q4
   | apply qe
   | apply qa
   | apply qi
   | apply qf
   | (apply zj; exact rfl; exact rfl)
   | (apply qw; (iterate 3 exact rfl))
   | (apply qg; exact rfl; first | (apply ze; (first | assumption | omega)) | (apply zd; (first | assumption | omega)) | (apply zc; (first | exact rfl | assumption)) | (apply zb; (first | exact rfl | assumption)) | (apply cd_n <;> intro h) | (apply cd_t; (first | exact rfl | assumption)) | (apply cd_f; (first | exact rfl | assumption)) | (apply cd_d <;> intro h) | (apply cd_s <;> intro h))
   | (apply jy; exact rfl; exact rfl; (first | omega | (simp only [List.length_append, List.length_cons, List.length_nil]; omega) | (simp; omega)))
   | (apply zr; exact rfl; exact rfl)
   | (apply z0; exact rfl; exact rfl)
   | (apply qr; (iterate 3 exact rfl))
   | (apply qk; (iterate 3 exact rfl))
   | (apply qh; (iterate 5 exact rfl))
   | (apply qn; (iterate 11 exact rfl))
   | (apply qv; (iterate 9 exact rfl))
   | apply q6
   | (apply qd; exact Tryz.call46; exact qwo _ _ hfl hfg)
   | (apply qd; exact Tryz.call48; exact q3y _ _ hxb.id1 hxb.id2)
   | (apply qd; exact Tryz.call49; exact q1u _ _ _ (by omega) (by decide))
   | (apply jg (n := pre.length); (iterate 5 exact rfl); exact hget))
  refine qd Tryz.call47 (qix st _ _ _ _ 0 1 0 _ _ _ rfl rfl ?_ ?_ rfl) ?_; (exact hq); (simp only [List.length_append, List.length_cons, List.length_nil]; omega)
  repeat' (first
   | apply qe
   | apply qa
   | apply qi
   | (apply js; exact rfl; exact rfl; exact zi (by omega) (by omega)))
  refine ⟨_, .inr rfl, qdg ⟨rfl, rfl, rfl, ?_, trivial⟩ ?_⟩
  ·rw [qez pre x]; rfl
  ·have e : encF (pre ++ [x]) = encF pre ++ ((vv x ++ [10]) ++ qa7 [32, 32] (we x.fields)) := by rw [q0f, q1b]; rfl
   rw [e]; rfl
theorem qpy (b : List zq) (st : List AObj) (e : ErrV) (hB : ∀ x ∈ b, EdB x) (hl : b.length < 9223372036854775808) (he : eErr b = e) (h0 : e.code ≠ 0) : q7 E 15 [wc b] st fun r st' => r = .tu [Sv [], errA e] ∧ st' = st := by
 refine zt (y9 (z4 _) (qc6 _)) (q8 Tryz.func15 rfl (Nat.le_of_ble_eq_true rfl) ?_)
 cases e with
 | no => exact absurd rfl h0
 | num n =>
  repeat' (first
   | apply qm
   | apply qe
   | apply qa
   | apply qi
   | apply qf
   | (apply qg; exact rfl; first | (apply ze; (first | assumption | omega)) | (apply zd; (first | assumption | omega)) | (apply zc; (first | exact rfl | assumption)) | (apply zb; (first | exact rfl | assumption)) | (apply cd_n <;> intro h) | (apply cd_t; (first | exact rfl | assumption)) | (apply cd_f; (first | exact rfl | assumption)) | (apply cd_d <;> intro h) | (apply cd_s <;> intro h))
   | (apply z8; exact rfl; exact rfl)
   | apply qz
   | (apply qd; exact Tryz.call45; exact ql9 _ _ _ he hB hl))
  exact qo rfl (vd rfl) ⟨rfl, _, rfl⟩
 | at' a n =>
  repeat' (first
   | apply qm
   | apply qe
   | apply qa
   | apply qi
   | apply qf
   | (apply qg; exact rfl; first | (apply ze; (first | assumption | omega)) | (apply zd; (first | assumption | omega)) | (apply zc; (first | exact rfl | assumption)) | (apply zb; (first | exact rfl | assumption)) | (apply cd_n <;> intro h) | (apply cd_t; (first | exact rfl | assumption)) | (apply cd_f; (first | exact rfl | assumption)) | (apply cd_d <;> intro h) | (apply cd_s <;> intro h))
   | (apply z8; exact rfl; exact rfl)
   | apply qz
   | (apply qd; exact Tryz.call45; exact ql9 _ _ _ he hB hl))
  exact qo rfl (vd rfl) ⟨rfl, _, rfl⟩
end Go.Proofs.YtefmcijohgpfhaaGreatDoor
set_option linter.unusedVariables false
namespace Go.Av
open Go Go.RowKit
theorem qnz {P : Program} {B0 : Nat} {w0 : World} {G : Gh} {st : List AObj} {w : World} (hA : z7 B0 w0 G st w) {tt u ty T : TypeId} {du : TypeDesc} (htt : P.underlying tt = some (.slice T)) (hu : P.underlying u = some du) (hd : qh1 du)
  {sz bytes : Nat} (hT : qdn P T sz bytes) {t n m : Nat} (ht : st[t]? = some (.tip n sz T)) {xs ys : List AV} {x : Value} (hn : xs.length = n) (hm : ys.length = m)
  {news : List Value} (hx : Src P w x m sz news) (hys : ∀ y ∈ ys, y.cells.length = sz) (hrel : ∀ (i : Nat) (a : AV) (b : Value), (flat ys)[i]? = some a → news[i]? = some b → Rel G a b)
  (h63 : n + m ≤ maxLen) (base : Option Addr) (c : Nat) (olds : List Value) (ho : (Builtin.firstCells sz n (.slice base n c)).run P w.drew = .ok olds.toArray w.drew) (hc : c < n + m) (hol : olds.length = n * sz) (hfx : (flat xs).length = n * sz) (hwx : ∀ x ∈ xs, x.cells.length = sz)
  (hrx : ∀ (j : Nat) (a : AV) (b : Value), (flat xs)[j]? = some a → olds[j]? = some b → Rel G a b) (hfit : Builtin.nextslicecap (n + m) c * bytes ≤ 281474976710656) (hm0 : m ≠ 0) :
  ∃ v' w' G', (Builtin.append_ #[tt, u] ty #[.slice base n c, x]).run P w = .ok v' w' ∧ G.le G' ∧ z7 B0 w0 G' (st.set t (.tip (n + m) sz T)) w' ∧ Rel G' (.sl sz (xs ++ ys) (some t)) v' := by
 obtain ⟨i, z, hi, hz, rfl, rfl, hzs⟩ := hT.ex
 obtain ⟨hraw, hver, htip⟩ := hA.ob t _ ht
 have htn : t < G.n := by rw [hA.n]; exact lt_of_getElem? ht
 have hlt : G.n = st.length := hA.n
 have hk := hA.kill t
 have hkt : (st.set t .dead)[t]? = some .dead := qgw ht
 have hother : ∀ o x, (st.set t .dead)[o]? = some x → x.live → o ≠ t ∧ st[o]? = some x := fun o x hx hl => by
  rcases getElem?_set' _ _ _ _ _ hx with ⟨_, e⟩ | ⟨h1, h2⟩
  ·subst e; exact hl.elim
  ·exact ⟨h1, h2⟩
 have hset : (st.set t AObj.dead).set t (.tip (n + m) i.size T) = st.set t (.tip (n + m) i.size T) := by rw [List.set_set]
 have hself : st.set t (.tip n i.size T) = st := by
  apply List.ext_getElem?
  intro k
  by_cases e : t = k
  ·subst e; rw [List.getElem?_set_self (lt_of_getElem? ht)]; exact ht.symm
  ·rw [List.getElem?_set_ne e]
 have hrun := qj2 (ty := ty) htt hu hd hi hz hx base n c olds ho hc (by simp only [maxLen] at h63; omega) hfit
 have hge := grownCap_ge w (n + m) c T
 have hle := grownCap_le_maxLen w (n + m) c T h63
 generalize grownCap w (n + m) c T = cap at hrun hge hle
 have hsz : (olds.toArray ++ news.toArray ++ Builtin.zeroCells z.cells (cap - (n + m))).size = cap * i.size := by
  simp only [Array.size_append, List.size_toArray, size_zeroCells, hzs, hol, hx.count, ← Nat.add_mul]
  congr 1
  omega
 generalize hcv : olds.toArray ++ news.toArray ++ Builtin.zeroCells z.cells (cap - (n + m)) = c' at hrun hsz
 have hdrew : Below w.heap.size w w.drew := ⟨rfl, rfl, rfl, Nat.le_refl _, fun _ _ => rfl⟩
 have hA1 := hk.fresh hdrew
 have hpre : ∀ (j : Nat) (y : Value), (olds ++ news)[j]? = some y → c'[j]? = some y := fun j y hy => by
  have hj := lt_of_getElem? hy
  rw [← hcv, Array.getElem?_append_left (by simp at hj ⊢; omega), List.append_toArray]
  simpa using hy
 obtain ⟨hle1, hA2⟩ := hA1.newPub T c' (0, 0) (olds ++ news) hpre
 have hnp : G.pub w.heap.size = none := by
  cases hp : G.pub w.heap.size with
  | none => rfl
  | some vs => exact absurd (hA.pub_lt hp) (Nat.lt_irrefl _)
 obtain ⟨hle2, hA3⟩ := hA2.setTip (n' := n + m) (vs := olds ++ news) (k := w.heap.size) (cap := cap * i.size) (sz := i.size) (T := T) hkt (by simpa [Gh.publish] using hraw) (by simpa [Gh.publish] using hver) (by omega) (qa5 w.drew _) (by simp [Gh.publish]) (by simp [hol, hx.count, Nat.add_mul]) hsz hA.hB (fun o x hx hl => by
  obtain ⟨_, hx'⟩ := hother o x hx hl
  exact Nat.ne_of_lt ((hA.ob o x hx').lt hl))
 rw [hset] at hA3
 refine ⟨_, _, _, hrun, hle1.trans hle2, hA3, ?_⟩
 have hmono : ∀ {a b}, Rel G a b → Rel ((G.publish w.drew.heap.size (olds ++ news)).setOb t ⟨n + m, w.heap.size, cap * i.size, false⟩) a b := fun h => (h.mono hle1).mono hle2
 refine qov (n := n) (m := m) (cap := cap) (k := w.heap.size) (vs := olds) (news := news) (by simp [Gh.setOb]) (by simp [Gh.setOb]) (by simp [Gh.setOb]) hle hge (by simpa [Gh.setOb, Gh.publish] using htn) (by omega) hn hm (by simp [Gh.setOb, Gh.publish]) (fun y hy => ?_) hol hx.count hfx (fun j a b h1 h2 => hmono (hrx j a b h1 h2)) (fun j a b h1 h2 => hmono (hrel j a b h1 h2))
 rcases List.mem_append.1 hy with h | h
 ·exact hwx y h
 ·exact hys y h
def TipO (b : Nat) (st : List AObj) (sz : Nat) (T : TypeId) (xs : List AV) (c : AV) : Prop := TipC b st sz T xs c ∨ (xs = [] ∧ ∃ o v f, c = .os o v f 0 0)
theorem qjm (b : Nat) (st : List AObj) (sz : Nat) (T : TypeId) : TipO b st sz T [] zx := .inl (qcx ..)
theorem q3c (b : Nat) (st : List AObj) (sz : Nat) (T : TypeId) (o v f : Nat) : TipO b st sz T [] (.os o v f 0 0) := .inr ⟨rfl, _, _, _, rfl⟩
theorem q2r {G : Gh} {o v f : Nat} {sz : Nat} {x : Value} (h : Rel G (.os o v f 0 0) x) : Rel G (.sl sz [] none) x := by
 cases h with
 | os _ _ _ _ b _ hn hv h => exact .sl0 sz none _ _ (by simp)
section
variable {E : Env} {rd : Option Nat} {N : Nat} {ops : Array Oper} {K : AS → Prop} {s : AS} {rest : List Oper} {d : Option Tmp} {T : TypeId} {p : String} {af : Array Edge}
theorem qc4 {x y : Operand} {t u T' : TypeId} {sz bytes b : Nat} {xs ys : List AV} {tip : Option Nat} {c : AV} {st : List AObj} (hst : s.st = st) (hx : ql N s x = c) (hy : ql N s y = .sl sz ys tip)
  (ht : E.P.underlying t = some (.slice T')) (hu : E.P.underlying u = some (.slice T')) (hT : qdn E.P T' sz bytes) (hc : TipO b st sz T' xs c) (hb : b ≤ st.length) (hone : xc (flat ys) = true) (h63 : xs.length + ys.length ≤ maxLen) (hby : (xs.length + ys.length) * bytes ≤ 140737488355328)
  (h : ∀ c' st' t1, TipO b st' sz T' (xs ++ ys) c' → Fr st st' t1 → b ≤ t1 → (c = .sl sz xs (some t1) ∨ st.length ≤ t1) → AOps E rd N ops rest K (AS.put ⟨s.t, st', s.df⟩ d c')) : AOps E rd N ops (⟨d, .call ⟨.builtin .append, #[x, y], #[t, u]⟩, T, p, af, none⟩ :: rest) K s := by
 rcases hc with hc | ⟨hxs, o, ver, f, hco⟩
 ·refine q5 hst hx hc hb hy ht hu hT hone h63 hby fun t1 st' g1 g2 g3 g4 => h _ st' t1 (.inl (.inr ⟨t1, rfl, g1, g2⟩)) g3 g2 g4
 ·subst hst
  subst hxs
  refine z2 rfl (z1 nofun fun B0 w0 G a w _ hI => ?_)
  have he := hI.eval_of (hx.trans hco)
  obtain ⟨news, k1, k2, k3⟩ := qc7 (P := E.P) hI.agree (hI.eval_of hy) (by simpa [xc] using hone)
  have hex := hT.ex
  obtain ⟨i, z, hi, hz, hsz, hbt, hzs⟩ := hex
  generalize hv : a.eval x = v at he
  cases he with
  | os _ _ _ _ blk _ hn hvv hbb =>
   by_cases hm0 : ys.length = 0
   ·have hy0 : ys = [] := List.eq_nil_of_length_eq_zero hm0
    subst hy0
    have hk1' : Src E.P w (a.eval y) 0 i.size [] := by
     have : news = [] := List.eq_nil_of_length_eq_zero (by simpa using k1.count)
     rw [hsz]
     rw [this] at k1
     exact k1
    refine ⟨_, w, G, _, s.st, ?_, .refl G, hI.agree, .os o ver f 0 blk 0 hn hvv hbb, h _ s.st s.st.length (.inr ⟨rfl, o, ver, f, rfl⟩) ⟨Nat.le_refl _, fun _ _ _ => rfl⟩ hb (.inr (Nat.le_refl _))⟩
    have := qgp (ty := T) ht hu (.inr ⟨_, rfl⟩) hi hk1' (some ⟨blk, f, none⟩) 0 0 (Nat.le_refl _)
    generalize a.eval = ρ at hv this
    simp [execOp, resolve, invoke, builtin, hv, this]
   ·have hle := G.le_new 0 0 0 false
    have hA := hI.agree.newTip sz T'
    have hz63 : 0 + ys.length ≤ maxLen := by simpa using h63
    obtain ⟨v', w', G', e1, e2, e3, e4⟩ := qnz (ty := T) hA ht hu (.inr ⟨_, rfl⟩) hT (t := s.st.length) (n := 0) (xs := []) (by simp) rfl rfl k1 k2 (fun i a b h1 h2 => (k3 i a b h1 h2).mono hle) hz63 (some ⟨blk, f, none⟩) 0 []
     (run_firstCells_some w.drew sz 0 ⟨blk, f, none⟩ 0 0 [] (by simp) (by simp)) (by omega) (by simp) (by simp [flat]) (by simp) (by simp [flat]) (by rw [Nat.zero_add, nextslicecap_zero (by omega)]; have := hby; simp at this; omega) hm0
    refine ⟨v', w', G', _, _, ?_, hle.trans e2, e3, e4, h _ _ s.st.length (.inl (.inr ⟨s.st.length, rfl, ?_, hb⟩)) ⟨by simp, fun k hk hlt => ?_⟩ hb (.inr (Nat.le_refl _))⟩
    ·generalize a.eval = ρ at e1 hv
     simp [execOp, resolve, invoke, builtin, hv, e1]
    ·simp
    ·rw [List.getElem?_set_ne (Ne.symm hk), List.getElem?_append_left hlt]
end
theorem ja {α : Type} {g : α → AV} {l : List α} (h : ∀ a, xc (g a).cells = true) : xc (flat (l.map g)) = true := by
 induction l with
 | nil => rfl
 | cons a r ih =>
  have h1 := h a
  unfold xc flat at *
  rw [List.map_cons, List.flatMap_cons, List.all_append, h1, ih]
  rfl
theorem qcz {b : Nat} {st : List AObj} {sz : Nat} {T : TypeId} {xs : List AV} {c : AV} (h : TipO b st sz T xs c) : ∀ G v, Rel G c v → Rel G (.sl sz xs none) v := by
 rcases h with (⟨rfl, rfl⟩ | ⟨t, rfl, _⟩) | ⟨rfl, o, v, f, rfl⟩
 ·exact fun G v h => qb9 h
 ·exact fun G v h => qg8 h
 ·exact fun G v h => q2r h
end Go.Av
set_option maxRecDepth 100000
set_option linter.unusedVariables false
namespace Go.Av
open Go Go.RowKit
theorem ql6 {b : Nat} {st l : List AObj} {sz : Nat} {T : TypeId} {xs : List AV} {c : AV} (h : TipO b st sz T xs c) : TipO b (st ++ l) sz T xs c := by
 rcases h with h | h
 ·exact .inl (qg0 h)
 ·exact .inr h
theorem qux {b : Nat} {st st' : List AObj} {sz : Nat} {T : TypeId} {xs : List AV} {c : AV} (hs : ∀ (t m sz : Nat) (T : TypeId), st[t]? = some (AObj.tip m sz T) → st'[t]? = st[t]?) (h : TipO b st sz T xs c) : TipO b st' sz T xs c := by
 rcases h with (h | ⟨t, h1, h2, h3⟩) | h
 ·exact .inl (.inl h)
 ·exact .inl (.inr ⟨t, h1, (hs t _ _ _ h2).trans h2, h3⟩)
 ·exact .inr h
end Go.Av
namespace Go.Proofs.YtefmcijohgpfhaaGreatDoor
open Go Go.Av Go.RowKit Go.Proofs Go.Pl
theorem q2y {st l : List AObj} : st.length ≤ (st ++ l).length := by simp
theorem qkk {b o : Nat} {st : List AObj} {sz : Nat} {T : TypeId} {xs : List AV} {c : AV} {x : AObj} (h : TipO b st sz T xs c) (hn : qfg st[o]?) : TipO b (st.set o x) sz T xs c :=
 qux (fun t m sz T ht => List.getElem?_set_ne (fun e => by subst e; exact hn _ _ _ ht)) h
structure OutI (st : List AObj) (S : List AObj) : Prop where
 low : ∀ j, j < st.length → S[j]? = st[j]?
 len : st.length ≤ S.length
theorem OutI.pre {st S l : List AObj} (h : OutI st S) : OutI st (S ++ l) := ⟨fun j hj => (List.getElem?_append_left (by have := h.len; omega)).trans (h.low j hj), by have := h.len; simp; omega⟩
theorem OutI.set {st S : List AObj} {o : Nat} {x : AObj} (h : OutI st S) (ho : st.length ≤ o) : OutI st (S.set o x) := ⟨fun j hj => (v8 (by omega)).trans (h.low j hj), by have := h.len; simp; omega⟩
theorem OutI.fr {st S S' : List AObj} {t : Nat} (h : OutI st S) (hf : Fr S S' t) (ht : st.length ≤ t) : OutI st S' := ⟨fun j hj => (hf.same j (by omega) (by have := h.len; omega)).trans (h.low j hj), Nat.le_trans h.len hf.len⟩
theorem OutI.ext {st S : List AObj} (h : OutI st S) : ∃ ext, S = st ++ ext := quy h.low
theorem qmd {E : Env} {rd : Option Nat} {N : Nat} {ops : Array Oper} {K : AS → Prop} {s : AS} {rest : List Oper} {d : Option Tmp} {T : TypeId} {p : String} {af : Array Edge} {t e : TypeId} {len sz : Nat} {agg : Bool} {parts : Array (Nat × Operand)} {zs cs : List AV} {st : List AObj} (hst : s.st = st) (hu : E.P.underlying t = some (.slice e)) (ht : tyOf E.P e = some (sz, agg)) (hz : qdm E.P e len = some zs)
  (hf : qbq (fun i => some (i * sz, sz)) zs (vf N s parts) = some cs) (hsz : Nat.ble (len * sz) 16777216 = true)
  (h : AOps E rd N ops rest K (AS.put ⟨s.t, st ++ [.cells 0 e cs], s.df⟩ d (.os st.length 0 0 len len))) : AOps E rd N ops (⟨d, .buildSlice t len parts, T, p, af, none⟩ :: rest) K s :=
 qae (loc := []) (by rw [hst]; simp) hu ht hz hf hsz h
theorem qhw (x : zq) : qk9 (qbd x) := fun y hy => by
 simp only [AV.cells, List.mem_cons, List.not_mem_nil, or_false] at hy
 rcases hy with rfl | rfl | rfl
 ·exact z4 _
 ·exact z4 _
 ·exact qgc _
theorem qhq (b : List zq) : Pure (wc b) := qe2 fun x hx => by
 obtain ⟨f, _, rfl⟩ := List.mem_map.1 hx
 exact qhw f
theorem qtf {α β : Type} (g : α → β) (l : List α) (a : α) : (l ++ [a]).map g = l.map g ++ [g a] := by simp
end Go.Proofs.YtefmcijohgpfhaaGreatDoor
set_option maxRecDepth 100000
set_option linter.unusedVariables false
namespace Go.Proofs.YtefmcijohgpfhaaGreatDoor
open Go Go.Av Go.RowKit Go.Proofs Go.Pl
def tryB (k : Int) (l : qb) : Option Int := if qbr k <+: l then (match Lib.atoiAll (l.drop (qbr k).length) with
 | .ok n => some n
 | _ => none) else none
def begE (l : qb) : Option (Int × Int) := match tryB 1 l with
 | some n => some (1, n)
 | none => match tryB 2 l with
  | some n => some (2, n)
  | none => match tryB 3 l with
   | some n => some (3, n)
   | none => none
def begA : Option (Int × Int) → AV
 | some (k, n) => .tu [qbd ⟨k, n, []⟩, Bv true]
 | none => .tu [qbd ⟨0, 0, []⟩, Bv false]
theorem qyx (x : Option (Int × Int)) : Pure (begA x) := by
 rcases x with _ | ⟨k, n⟩
 ·exact y9 (qjo (qhw _)) (z4 _)
 ·exact y9 (qjo (qhw _)) (z4 _)
theorem qp1 (k n : Int) : Weak (.ag [Iv k, Iv n, zx]) (qbd ⟨k, n, []⟩) :=
 qvq rfl fun i x y hx hy => by
  match i with
  | 0 => simp at hx hy; subst hx; subst hy; exact vc _
  | 1 => simp at hx hy; subst hx; subst hy; exact vc _
  | 2 => simp at hx hy; subst hx; subst hy; exact wq 2
  | i + 3 => simp at hx
theorem qxh (l m : qb) (st : List AObj) (h : m <+: l) : q7 E 76 [Sv l, Sv m] st fun r st' => r = .tu [Sv (l.drop m.length), Bv true] ∧ st' = st := by
 have := qdo l m st
 rw [qck h, (yb l m).2 h] at this
 exact this
theorem qw2 (l m d : qb) (st : List AObj) (h : m <+: l) (hd : l.drop m.length = d) : q7 E 76 [Sv l, Sv m] st fun r st' => r = .tu [Sv d, Bv true] ∧ st' = st := by
 subst hd
 exact qxh l m st h
theorem qv2 (l m : qb) (st : List AObj) (h : ¬ m <+: l) : q7 E 76 [Sv l, Sv m] st fun r st' => r = .tu [Sv l, Bv false] ∧ st' = st := by
 have := qdo l m st
 have hf : Lib.hasPrefix l m = false := by
  cases hb : Lib.hasPrefix l m with
  | false => rfl
  | true => exact absurd ((yb l m).1 hb) h
 have ht : Lib.trimPrefix l m = l := by
  unfold Lib.trimPrefix
  rw [if_neg (by simp [hf])]
 rw [ht, hf] at this
 exact this
theorem q28 {l : qb} {k : Nat} {n : Int} (h1 : 1 ≤ k) (h3 : k ≤ 3) (h : ∀ j : Nat, 1 ≤ j → j < k → tryB j l = none) (hk : tryB k l = some n) : begE l = some ((k : Int), n) := by
 have : k = 1 ∨ k = 2 ∨ k = 3 := by omega
 rcases this with rfl | rfl | rfl
 ·have hk1 : tryB 1 l = some n := hk
  simp [begE, hk1]
 ·have e1 : tryB 1 l = none := h 1 (by omega) (by omega)
  have hk1 : tryB 2 l = some n := hk
  simp [begE, e1, hk1]
 ·have e1 : tryB 1 l = none := h 1 (by omega) (by omega)
  have e2 : tryB 2 l = none := h 2 (by omega) (by omega)
  have hk1 : tryB 3 l = some n := hk
  simp [begE, e1, e2, hk1]
theorem qy9 {l : qb} (h : ∀ j : Nat, 1 ≤ j → j < 4 → tryB j l = none) : begE l = none := by
 have e1 : tryB 1 l = none := h 1 (by omega) (by omega)
 have e2 : tryB 2 l = none := h 2 (by omega) (by omega)
 have e3 : tryB 3 l = none := h 3 (by omega) (by omega)
 simp [begE, e1, e2, e3]
theorem qx3 {k : Nat} (h1 : 1 ≤ k) (h3 : k ≤ 3) : qbo (k : Int) ≠ [] ∧ ([32] ++ qbo (k : Int)) ++ [32] = qbr (k : Int) ∧ (qbo (k : Int)).length ≤ 10 := by
 have : k = 1 ∨ k = 2 ∨ k = 3 := by omega
 rcases this with rfl | rfl | rfl <;> decide
set_option maxHeartbeats 2000000 in
theorem qu0 (l : qb) (st : List AObj) (hl : l.length < 1000000) : q7 E 37 [Sv l] st fun r st' => r = begA (begE l) ∧ st' = st := by
 refine zt (qyx _) (q8 Tryz.func37 rfl (Nat.le_of_ble_eq_true rfl) ?_)
 repeat' (first
  | apply qm
  | apply q4
  | apply qe
  | apply qa
  | apply qf
  | (apply z0; exact rfl; exact rfl))
 refine yg (fun (k : Nat) s => 1 ≤ k ∧ k ≤ 4 ∧ (∀ j : Nat, 1 ≤ j → j < k → tryB j l = none) ∧ StE [(0, Sv l), (2, .bx (st.length + 0) 0 0), (4, Iv k)] st [.cells 0 45 [Iv 0, Iv 0, zx]] s) (fun k => 4 - k) 1 ⟨by omega, by omega, fun j h1 h2 => by omega, qe5 ⟨rfl, rfl, rfl, trivial⟩ rfl⟩ ?_
 rintro k _ ⟨hk1, hk4, hno, t, ext, rfl⟩
 by_cases h4 : k = 4
 ·subst h4
  have hw : qbo ((4 : Nat) : Int) = [] := by decide
  rw [qy9 hno]
  repeat' (first
   | apply qm
   | apply qe
   | apply qa
   | apply qi
   | apply qf
   | (apply ji; (iterate 3 exact rfl))
   | (apply qg; exact rfl; first | (apply ze; (first | assumption | omega)) | (apply zd; (first | assumption | omega)) | (apply zc; (first | exact rfl | assumption)) | (apply zb; (first | exact rfl | assumption)) | (apply cd_n <;> intro h) | (apply cd_t; (first | exact rfl | assumption)) | (apply cd_f; (first | exact rfl | assumption)) | (apply cd_d <;> intro h) | (apply cd_s <;> intro h))
   | (apply qx; (iterate 11 exact rfl))
   | (apply jq; (iterate 3 exact rfl))
   | apply jp
   | apply qz
   | (apply qd; exact Tryz.call75; exact qm2 _ _))
  refine qo rfl (vg (qdk rfl rfl rfl rfl rfl rfl) (w7 (qp1 0 0) (vc _))) ⟨rfl, qah _ _ _ _⟩
 ·obtain ⟨hw, hm, hwl⟩ := qx3 hk1 (by omega)
  by_cases hp : qbr (k : Int) <+: l
  ·have hp' : ([32] ++ qbo (k : Int)) ++ [32] <+: l := by rw [hm]; exact hp
   obtain ⟨d, hd0⟩ : ∃ d, d = l.drop (qbr (k : Int)).length := ⟨_, rfl⟩
   have hd : l.drop ((([32] : qb) ++ qbo (k : Int)) ++ [32]).length = d := by rw [hm, hd0]
   have hdl : d.length < 1000000 := by rw [hd0, List.length_drop]; omega
   repeat' (first
    | apply qm
    | apply q4
    | apply qe
    | apply qa
    | apply qi
    | apply qf
    | (apply zj; exact rfl; exact rfl)
    | (apply ji; (iterate 3 exact rfl))
    | (apply qg; exact rfl; first | (apply ze; (first | assumption | omega)) | (apply zd; (first | assumption | omega)) | (apply zc; (first | exact rfl | assumption)) | (apply zb; (first | exact rfl | assumption)) | (apply cd_n <;> intro h) | (apply cd_t; (first | exact rfl | assumption)) | (apply cd_f; (first | exact rfl | assumption)) | (apply cd_d <;> intro h) | (apply cd_s <;> intro h))
    | (apply jy; exact rfl; exact rfl; (first | omega | (simp only [List.length_append, List.length_cons, List.length_nil]; omega) | (simp; omega)))
    | apply q6
    | (apply qd; exact Tryz.call75; exact qm2 _ _)
    | (apply qd; exact Tryz.call76; exact qw2 _ _ _ _ hp' hd))
   refine xy Tryz.call77 ((qkh d _ (by omega)).mono ?_)
   rintro _ _ ⟨rfl, n, x, rfl, hx⟩
   rw [hd0] at hx
   rcases x with _ | ⟨t', y⟩
   ·simp only at hx
    have htr : tryB (k : Int) l = some n := by unfold tryB; rw [if_pos hp, hx]
    rw [q28 hk1 (by omega) hno htr]
    repeat' (first
     | apply qm
     | apply qe
     | apply qa
     | apply qi
     | apply qf
     | (apply zj; exact rfl; exact rfl)
     | (apply za; (iterate 4 exact rfl))
     | (apply xa; (first | exact rfl | assumption))
     | (apply zg; exact rfl; first | (apply kc; (first | assumption | omega)) | (apply ka; (first | assumption | omega)) | (apply j9; (first | exact rfl | assumption)) | (apply ke; (first | exact rfl | assumption)) | (apply pk_t; (first | exact rfl | assumption)) | (apply pk_f; (first | exact rfl | assumption)))
     | (apply qg; exact rfl; first | (apply ze; (first | assumption | omega)) | (apply zd; (first | assumption | omega)) | (apply zc; (first | exact rfl | assumption)) | (apply zb; (first | exact rfl | assumption)) | (apply cd_n <;> intro h) | (apply cd_t; (first | exact rfl | assumption)) | (apply cd_f; (first | exact rfl | assumption)) | (apply cd_d <;> intro h) | (apply cd_s <;> intro h))
     | (apply vh; exact rfl; exact rfl)
     | (apply qx; (iterate 11 exact rfl))
     | (apply jq; (iterate 3 exact rfl))
     | apply qz)
    refine qo rfl (vg (qdk rfl rfl rfl rfl rfl rfl) (w7 (qp1 k n) (vc _))) ⟨rfl, qah _ _ _ _⟩
   ·simp only at hx
    have htr : tryB (k : Int) l = none := by
     unfold tryB
     rw [if_pos hp]
     split
     ·rename_i v hv; exact absurd hv (hx v)
     ·rfl
    repeat' (first
     | apply qm
     | apply qe
     | apply qa
     | apply qi
     | apply qf
     | (apply zj; exact rfl; exact rfl)
     | (apply za; (iterate 4 exact rfl))
     | (apply xa; (first | exact rfl | assumption))
     | (apply zg; exact rfl; first | (apply kc; (first | assumption | omega)) | (apply ka; (first | assumption | omega)) | (apply j9; (first | exact rfl | assumption)) | (apply ke; (first | exact rfl | assumption)) | (apply pk_t; (first | exact rfl | assumption)) | (apply pk_f; (first | exact rfl | assumption)))
     | (apply qg; exact rfl; first | (apply ze; (first | assumption | omega)) | (apply zd; (first | assumption | omega)) | (apply zc; (first | exact rfl | assumption)) | (apply zb; (first | exact rfl | assumption)) | (apply cd_n <;> intro h) | (apply cd_t; (first | exact rfl | assumption)) | (apply cd_f; (first | exact rfl | assumption)) | (apply cd_d <;> intro h) | (apply cd_s <;> intro h))
     | (apply js; exact rfl; exact rfl; exact zi (by omega) (by omega))
     | (apply vl; exact rfl; exact rfl)
     | apply q6)
    refine ⟨k + 1, ⟨by omega, by omega, fun j h1 h2 => ?_, qdg ⟨rfl, rfl, rfl, trivial⟩ rfl⟩, by omega⟩
    by_cases hjk : j = k
    ·subst hjk; exact htr
    ·exact hno j h1 (by omega)
  ·have hp' : ¬ ([32] ++ qbo (k : Int)) ++ [32] <+: l := by rw [hm]; exact hp
   have htr : tryB (k : Int) l = none := by unfold tryB; rw [if_neg hp]
   repeat' (first
    | apply qm
    | apply q4
    | apply qe
    | apply qa
    | apply qi
    | apply qf
    | (apply zj; exact rfl; exact rfl)
    | (apply ji; (iterate 3 exact rfl))
    | (apply qg; exact rfl; first | (apply ze; (first | assumption | omega)) | (apply zd; (first | assumption | omega)) | (apply zc; (first | exact rfl | assumption)) | (apply zb; (first | exact rfl | assumption)) | (apply cd_n <;> intro h) | (apply cd_t; (first | exact rfl | assumption)) | (apply cd_f; (first | exact rfl | assumption)) | (apply cd_d <;> intro h) | (apply cd_s <;> intro h))
    | (apply jy; exact rfl; exact rfl; (first | omega | (simp only [List.length_append, List.length_cons, List.length_nil]; omega) | (simp; omega)))
    | apply q6
    | (apply qd; exact Tryz.call75; exact qm2 _ _)
    | (apply qd; exact Tryz.call76; exact qv2 _ _ _ hp'))
   refine xy Tryz.call77 ((qkh l _ (by omega)).mono ?_)
   rintro _ _ ⟨rfl, n, x, rfl, hx⟩
   rcases x with _ | ⟨t', y⟩
   all_goals
    repeat' (first
     | apply qm
     | apply qe
     | apply qa
     | apply qi
     | apply qf
     | (apply zj; exact rfl; exact rfl)
     | (apply za; (iterate 4 exact rfl))
     | (apply wd; (first | exact rfl | assumption))
     | (apply zg; exact rfl; first | (apply kc; (first | assumption | omega)) | (apply ka; (first | assumption | omega)) | (apply j9; (first | exact rfl | assumption)) | (apply ke; (first | exact rfl | assumption)) | (apply pk_t; (first | exact rfl | assumption)) | (apply pk_f; (first | exact rfl | assumption)))
     | (apply qg; exact rfl; first | (apply ze; (first | assumption | omega)) | (apply zd; (first | assumption | omega)) | (apply zc; (first | exact rfl | assumption)) | (apply zb; (first | exact rfl | assumption)) | (apply cd_n <;> intro h) | (apply cd_t; (first | exact rfl | assumption)) | (apply cd_f; (first | exact rfl | assumption)) | (apply cd_d <;> intro h) | (apply cd_s <;> intro h))
     | (apply js; exact rfl; exact rfl; exact zi (by omega) (by omega))
     | apply q6)
    refine ⟨k + 1, ⟨by omega, by omega, fun j h1 h2 => ?_, qdg ⟨rfl, rfl, rfl, trivial⟩ rfl⟩, by omega⟩
    by_cases hjk : j = k
    ·subst hjk; exact htr
    ·exact hno j h1 (by omega)
def recsF (its : List wb) : List (List Fld) := (its.filter fun x => decide (x.kind = 3)).map wb.fields
@[reducible] def q14 (ls : List (List Fld)) : AV := .sl 1 (ls.map y7) none
theorem qws (ls : List (List Fld)) : Pure (q14 ls) := qe2 fun x hx => by
 obtain ⟨f, _, rfl⟩ := List.mem_map.1 hx
 intro y hy
 simp only [AV.cells, List.mem_cons, List.not_mem_nil, or_false] at hy
 subst hy
 exact qgc _
theorem qur (l : List wb) (x : wb) (h : x.kind = 3) : recsF (l ++ [x]) = recsF l ++ [x.fields] := by simp [recsF, h]
theorem qt7 (l : List wb) (x : wb) (h : ¬ x.kind = 3) : recsF (l ++ [x]) = recsF l := by simp [recsF, h]
theorem q2m {b t1 : Nat} {st st' : List AObj} {sz : Nat} {T : TypeId} {xs : List AV} {c c0 : AV} {sz0 : Nat} {xs0 : List AV} (hf : Fr st st' t1) (hid : c0 = .sl sz0 xs0 (some t1) ∨ st.length ≤ t1) (h0 : ∀ t, c0 ≠ .sl sz0 xs0 (some t)) (h : TipO b st sz T xs c) : TipO b st' sz T xs c :=
 qux (fun t m sz T ht => hf.same t (fun e => by
  subst e
  rcases hid with hid | hid
  ·exact h0 _ hid
  ·have := lt_of_getElem? ht; omega) (lt_of_getElem? ht)) h
theorem tipO_frO {b t1 : Nat} {st st' : List AObj} {sz : Nat} {T : TypeId} {xs : List AV} {c : AV} {sz0 : Nat} {xs0 : List AV} {o v f l k : Nat} (hf : Fr st st' t1) (hid : AV.os o v f l k = .sl sz0 xs0 (some t1) ∨ st.length ≤ t1) (h : TipO b st sz T xs c) : TipO b st' sz T xs c :=
 q2m hf hid (by simp) h
set_option maxHeartbeats 2000000 in
theorem qz1 (its : List wb) (st : List AObj) (hl : its.length < 1000000) (hf : ∀ x ∈ its, x.fields.length < 1000000) : q7 E 79 [qfo its] st fun r st' => r = q14 (recsF its) ∧ st' = st := by
 refine zt (qws _) (q8 Tryz.func79 rfl (Nat.le_of_ble_eq_true rfl) ?_)
 have hml : (its.map zf).length = its.length := by simp
 rw [List.append_nil]
 repeat' (first
  | apply qm
  | apply q4
  | apply qe
  | apply qa
  | apply qi
  | apply qf
  | (apply zy; (iterate 4 exact rfl)))
 refine qbp its (fun pre s => ∃ c S, OutI st S ∧ TipO st.length S 1 43 ((recsF pre).map y7) c ∧ StA [(3, c), (6, qfo its), (7, Iv its.length), (8, Iv pre.length)] S [] s) ⟨_, st, ⟨fun _ _ => rfl, Nat.le_refl _⟩, qjm .., qal ⟨rfl, rfl, congrArg (fun n : Nat => Iv (n : Int)) hml, rfl, trivial⟩⟩ ?_ ?_
 ·rintro _ ⟨c, S, hO, hT, t, rfl⟩
  repeat' (first
   | apply qm
   | apply qe
   | apply qa
   | apply qi
   | apply qf
   | (apply qw; (iterate 3 exact rfl))
   | (apply qg; exact rfl; first | (apply ze; (first | assumption | omega)) | (apply zd; (first | assumption | omega)) | (apply zc; (first | exact rfl | assumption)) | (apply zb; (first | exact rfl | assumption)) | (apply cd_n <;> intro h) | (apply cd_t; (first | exact rfl | assumption)) | (apply cd_f; (first | exact rfl | assumption)) | (apply cd_d <;> intro h) | (apply cd_s <;> intro h))
   | apply jp
   | apply qz)
  exact qo rfl (vg (zm rfl) (qcz hT)) ⟨rfl, hO.ext⟩
 ·rintro pre x rest _ hr ⟨c, S, hO, hT, t, rfl⟩
  have hlen : its.length = pre.length + (rest.length + 1) := by rw [hr]; simp
  have hget : (its.map zf)[pre.length]? = some (zf x) := by rw [hr]; simp
  have hxf := hf x (by rw [hr]; simp)
  have hpl : (recsF pre).length ≤ pre.length := by unfold recsF; rw [List.length_map]; exact List.length_filter_le _ _
  have hSl := hO.len
  have hO1 : OutI st ((S ++ [AObj.cells 0 152 [Iv 0, Sv [], zx]]).set S.length (.cells 0 152 (zf x).cells)) := hO.pre.set hSl
  have hT1 : TipO st.length ((S ++ [AObj.cells 0 152 [Iv 0, Sv [], zx]]).set S.length (.cells 0 152 (zf x).cells)) 1 43 ((recsF pre).map y7) c := qkk (ql6 hT) (xj jj)
  have hob : ((S ++ [AObj.cells 0 152 [Iv 0, Sv [], zx]]).set S.length (.cells 0 152 (zf x).cells))[S.length]? = some (.cells 0 152 (zf x).cells) := zw jj
  by_cases h3 : x.kind = 3
  ·skip
   repeat' (first
    | (apply qmd (st := (S ++ [AObj.cells 0 152 [Iv 0, Sv [], zx]]).set S.length (.cells 0 152 (zf x).cells)); (iterate 6 exact rfl))
    | (apply zo 19 rfl (qcz g1); apply qv; (iterate 9 exact rfl))
    | apply qm
    | apply q4
    | apply qe
    | apply qa
    | apply qi
    | apply qf
    | (apply qw; (iterate 3 exact rfl))
    | (apply qg; exact rfl; first | (apply ze; (first | assumption | omega)) | (apply zd; (first | assumption | omega)) | (apply zc; (first | exact rfl | assumption)) | (apply zb; (first | exact rfl | assumption)) | (apply cd_n <;> intro h) | (apply cd_t; (first | exact rfl | assumption)) | (apply cd_f; (first | exact rfl | assumption)) | (apply cd_d <;> intro h) | (apply cd_s <;> intro h))
    | (apply js; exact rfl; exact rfl; exact zi (by omega) (by omega))
    | (apply qr; (iterate 3 exact rfl))
    | (apply qk; (iterate 3 exact rfl))
    | apply q6
    | (apply qc; exact rfl; exact hob; exact rfl; exact rfl)
    | (apply qc; exact rfl; exact z6 hob; exact rfl; exact rfl)
    | (apply qay (st := S); exact rfl; exact rfl)
    | (apply qs; exact rfl; exact rfl; (focus first | assumption | (repeat' (first | assumption | exact jj | exact zn rfl | apply zw | apply zk | omega | apply z6))); (iterate 6 exact rfl))
    | (apply jg (n := pre.length); (iterate 5 exact rfl); exact hget)
    | (apply qc4 (b := st.length) (xs := []) (ys := x.fields.map fldA) (bytes := 32);  (iterate 5 exact rfl); exact ⟨⟨_, _, rfl, rfl, rfl, rfl, rfl⟩⟩; exact q3c _ _ _ _ _ _ _; (exact Nat.le_trans hO1.len q2y); (first | exact rfl | exact ja fun _ => rfl); ((simp [maxLen]; omega)); ((simp; omega)); intro c1 S1 t1 g1 g2 g3 g4)
    | (apply qc4 (b := st.length) (xs := (recsF pre).map y7) (ys := [y7 x.fields]) (bytes := 24);  (iterate 5 exact rfl); exact ⟨⟨_, _, rfl, rfl, rfl, rfl, rfl⟩⟩; exact tipO_frO g2 g4 (ql6 hT1); (exact (hO1.pre.fr g2 g3).len); (first | exact rfl | exact ja fun _ => rfl); ((simp [maxLen]; omega)); ((simp; omega)); intro c2 S2 t2 k1 k2 k3 k4))
   exact ⟨c2, S2, (hO1.pre.fr g2 g3).fr k2 k3, by rw [qur _ _ h3, qtf]; exact k1, qal ⟨rfl, rfl, rfl, qew pre x, trivial⟩⟩
  ·skip
   repeat' (first
    | apply qm
    | apply q4
    | apply qe
    | apply qa
    | apply qi
    | (apply qw; (iterate 3 exact rfl))
    | (apply qg; exact rfl; first | (apply ze; (first | assumption | omega)) | (apply zd; (first | assumption | omega)) | (apply zc; (first | exact rfl | assumption)) | (apply zb; (first | exact rfl | assumption)) | (apply cd_n <;> intro h) | (apply cd_t; (first | exact rfl | assumption)) | (apply cd_f; (first | exact rfl | assumption)) | (apply cd_d <;> intro h) | (apply cd_s <;> intro h))
    | (apply js; exact rfl; exact rfl; exact zi (by omega) (by omega))
    | (apply qr; (iterate 3 exact rfl))
    | (apply qk; (iterate 3 exact rfl))
    | apply q6
    | (apply qc; exact rfl; exact hob; exact rfl; exact rfl)
    | (apply qay (st := S); exact rfl; exact rfl)
    | (apply qs; exact rfl; exact rfl; (focus first | assumption | (repeat' (first | assumption | exact jj | exact zn rfl | apply zw | apply zk | omega | apply z6))); (iterate 6 exact rfl))
    | (apply jg (n := pre.length); (iterate 5 exact rfl); exact hget))
   exact ⟨c, _, hO1, by rw [qt7 _ _ h3]; exact hT1, qal ⟨rfl, rfl, rfl, qew pre x, trivial⟩⟩
end Go.Proofs.YtefmcijohgpfhaaGreatDoor
