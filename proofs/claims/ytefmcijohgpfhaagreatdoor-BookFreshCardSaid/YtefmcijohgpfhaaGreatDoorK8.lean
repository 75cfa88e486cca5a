/- Contracts and plain facts that the closing text leans on (part 8). No condition of their own beyond those that each states. -/
import Derived.Test.YtefmcijohgpfhaaGreatDoorK7
set_option maxRecDepth 100000
set_option linter.unusedVariables false
set_option linter.unusedSimpArgs false
set_option maxRecDepth 100000
set_option linter.unusedVariables false
namespace Go.Pl
open Go Go.Proofs Go.Proofs.YtefmcijohgpfhaaGreatDoor
theorem qwe (l : qa) : (kq l).1 = 1 ∨ (kq l).1 = 2 ∨ (kq l).1 = 3 := by
 unfold kq
 split
 ·split
  ·split
   ·unfold qc2
    split <;> simp
   ·split
    ·unfold qa5
     split
     ·simp
     ·split <;> simp
    ·simp
  ·simp
 ·split <;> simp
theorem qym {l : qa} (h1 : (kq l).1 = 1) : ∃ k : Nat, (kq l).2.2 = (k : Int) ∧ 0 < k ∧ k ≤ l.length := by
 obtain ⟨_, m, hm, hn⟩ := qwg (show kq l = (1, (kq l).2.1, (kq l).2.2) by rw [← h1])
 refine ⟨_, hn, ?_, ?_⟩
 ·rw [qh0]
  simp [recL, x9, ki]
 ·have := congrArg List.length hm
  rw [List.length_append] at this
  omega
theorem qq1 {l : qa} : (kq l).2.1.length ≤ l.length := by
 have hp := wr 10 l
 unfold kq
 split
 ·split
  ·split
   ·simp
   ·split
    ·unfold qa5
     split
     ·simp
     ·split
      ·simp; omega
      ·simp
    ·simp
  ·simp
 ·split <;> simp
theorem qsq (l : qa) : wk l.length l ≤ l.length := (qqb _ _ _ (Nat.le_refl _) (Nat.le_refl _)).2
theorem qw7 {f : Nat} {l : qa} {a : Int} {bs : List (List z1)} {es : List Int} (h : (kq l).1 = 2) : recsF (f + 1) l a bs es = (false, bs, es, l) := by
 rw [recsF, if_pos h]
theorem qz3 {f : Nat} {l : qa} {a : Int} {bs : List (List z1)} {es : List Int} (h : (kq l).1 = 3) : recsF (f + 1) l a bs es = (true, bs, es, l) := by
 rw [recsF, if_neg (by rw [h]; decide), if_neg (by rw [h]; decide)]
theorem qye {f : Nat} {l : qa} {a : Int} {bs : List (List z1)} {es : List Int} (h : (kq l).1 = 1) (hd : decF (kq l).2.1 = none) : recsF (f + 1) l a bs es = (true, bs, es, l) := by
 rw [recsF, if_neg (by rw [h]; decide), if_pos h, hd]
theorem qw3 {f k : Nat} {l : qa} {a : Int} {bs : List (List z1)} {es : List Int} {b : List z1} (h : (kq l).1 = 1) (hd : decF (kq l).2.1 = some b) (hk : (kq l).2.2 = (k : Int)) : recsF (f + 1) l a bs es = recsF f (l.drop k) (a + k) (bs ++ [b]) (es ++ [a + k]) := by
 rw [recsF, if_neg (by rw [h]; decide), if_pos h, hd, hk]
 rfl
end Go.Pl
namespace Go.Proofs.YtefmcijohgpfhaaGreatDoor
open Go Go.Av Go.RowKit Go.Proofs Go.Pl
@[reducible] def q28 (es : List Int) : AV := .sl 1 (es.map fun x => Iv x) none
@[reducible] def qsj (bs : List (List z1)) : AV := .sl 1 (bs.map qbr) none
@[reducible] def qk5 (b : qa2) : AV := .ag [Iv b.gen, Sv b.base, qsj b.batches, q28 b.ends, Sv b.tail]
end Go.Proofs.YtefmcijohgpfhaaGreatDoor
set_option maxRecDepth 100000
set_option linter.unusedVariables false
namespace Go.Proofs.YtefmcijohgpfhaaGreatDoor
open Go Go.Av Go.RowKit Go.Proofs Go.Pl
theorem q5p (l : qa) (b : Bool) (st : List AObj) (hl : l.length < 4294967281) (h : begF l = b) : qt E 97 [Sv l] st fun r st' => r = Bv b ∧ st' = st := by
 subst h
 exact q1h l st hl
theorem q1l (text : qa) (st : List AObj) (hl : text.length < 1000000) : qt E 62 [Sv text] st fun r st' => r = Iv ((wk text.length text : Nat) : Int) ∧ st' = st := by
 refine yr [.s text] (zi _) Tryz.func62 rfl rfl (fun _ => rfl) rfl fun S0 => ?_
 apply zd []
 repeat' (first
  | apply And.intro
  | (intro h; first | (exfalso; omega) | (exfalso; exact h rfl) | (exfalso; revert h; decide) | skip)
  | exact ⟨Tryz.call72⟩
  | (refine Exists.intro _ ⟨qi2 _, ?_⟩)
  | exact rfl
  | exact trivial
  | exact fun _ => rfl
  | exact zb _
  | apply qz []
  | exact DrOk.mk (by kernel_rfl)
  | exact qn fun _ => rfl
  | omega
  | (simp only [List.length_map, List.length_append, List.length_cons, List.length_nil, List.length_take, List.length_drop]; omega)
  | exact zh
  | (refine Exists.intro _ ⟨rfl, ?_⟩)
  | refine zu ?_)
 refine qeq (X := Int) text 1 2 [0, 1] (fun r => ⟨[(0, .s text), (2, .bx 0 0), (5, .fn (.func 113) [] [.bx 1 0])], [(0, some (.cells 3 [.i r])), (1, some (.cells 9 [.s text]))], 2⟩) _
  (fun k rest r => r = 0 ∧ rest.length ≤ text.length ∧ wk text.length text = wk text.length rest) (fun c r => c = .ret ∧ r = ((wk text.length text : Nat) : Int)) 0 ⟨rfl, by omega, rfl⟩ ?_ id (by omega) (fun _ => rfl) rfl (fun _ => rfl) (fun _ => rfl) rfl ?_ ?_ ?_
 ·skip
  repeat' (first
   | apply And.intro
   | (intro h; first | (exfalso; omega) | (exfalso; exact h rfl) | (exfalso; revert h; decide) | skip)
   | exact rfl
   | exact trivial
   | exact fun _ => rfl
   | exact zb _
   | apply qz []
   | exact DrOk.mk (by kernel_rfl)
   | exact qn fun _ => rfl
   | omega
   | (simp only [List.length_map, List.length_append, List.length_cons, List.length_nil, List.length_take, List.length_drop]; omega)
   | exact zh
   | (refine Exists.intro _ ⟨rfl, ?_⟩)
   | refine zu ?_)
 ·rintro k rest r ⟨rfl, hrl, hbeg⟩ hne hle
  have hu := wt 10 rest
  have hpl := wr 10 rest
  have hbg := fun st => q5p (upto 10 rest) _ st (by omega) rfl
  unfold qjg
  by_cases hb : begF (upto 10 rest) = true
  ·rw [hb] at hbg
   have hv : ((text.length : Int) - rest.length) = ((wk text.length text : Nat) : Int) := by
    rw [hbeg, qim hne hb]
    omega
   refine RA.mk fun S F ρ rd => ?_
   apply zd []
   repeat' (first
    | apply And.intro
    | (intro h; first | (exfalso; omega) | (exfalso; exact h rfl) | (exfalso; revert h; decide) | skip)
    | (refine RB.mk fun S rd => ?_; apply zd [])
    | exact ⟨Tryz.call97⟩
    | (refine Exists.intro _ ⟨qw (hbg) rfl, ?_⟩)
    | (refine Exists.intro _ ⟨⟨rfl, hv⟩, ?_⟩)
    | exact rfl
    | exact trivial
    | exact fun _ => rfl
    | exact zb _
    | apply qz []
    | exact DrOk.mk (by kernel_rfl)
    | exact qn fun _ => rfl
    | omega
    | (simp only [List.length_map, List.length_append, List.length_cons, List.length_nil, List.length_take, List.length_drop]; omega)
    | exact zh
    | (refine Exists.intro _ ⟨rfl, ?_⟩)
    | refine zu ?_)
  ·have hb' : begF (upto 10 rest) = false := by simpa using hb
   rw [hb'] at hbg
   refine RA.mk fun S F ρ rd => ?_
   apply zd []
   repeat' (first
    | apply And.intro
    | (intro h; first | (exfalso; omega) | (exfalso; exact h rfl) | (exfalso; revert h; decide) | skip)
    | (refine RB.mk fun S rd => ?_; apply zd [])
    | exact ⟨Tryz.call97⟩
    | (refine Exists.intro _ ⟨qw (hbg) rfl, ?_⟩)
    | (refine Exists.intro 0 ⟨⟨rfl, by omega, by rw [hbeg, qj8 hne (by rw [hb']; decide)]⟩, ?_⟩)
    | exact rfl
    | exact trivial
    | exact fun _ => rfl
    | exact zb _
    | apply qz []
    | exact DrOk.mk (by kernel_rfl)
    | exact qn fun _ => rfl
    | omega
    | (simp only [List.length_map, List.length_append, List.length_cons, List.length_nil, List.length_take, List.length_drop]; omega)
    | exact zh
    | (refine Exists.intro _ ⟨rfl, ?_⟩)
    | refine zu ?_)
 ·rintro k r ⟨rfl, hrl, hbeg⟩
  rw [qea] at hbeg
  rw [hbeg]
  repeat' (first
   | apply And.intro
   | (intro h; first | (exfalso; omega) | (exfalso; exact h rfl) | (exfalso; revert h; decide) | skip)
   | exact rfl
   | exact trivial
   | exact fun _ => rfl
   | exact zb _
   | apply qz []
   | exact DrOk.mk (by kernel_rfl)
   | exact qn fun _ => rfl
   | omega
   | (simp only [List.length_map, List.length_append, List.length_cons, List.length_nil, List.length_take, List.length_drop]; omega)
   | exact zh
   | (refine Exists.intro _ ⟨rfl, ?_⟩)
   | refine zu ?_)
 ·rintro c r ⟨rfl, rfl⟩
  repeat' (first
   | apply And.intro
   | (intro h; first | (exfalso; omega) | (exfalso; exact h rfl) | (exfalso; revert h; decide) | skip)
   | exact rfl
   | exact trivial
   | exact fun _ => rfl
   | exact zb _
   | apply qz []
   | exact DrOk.mk (by kernel_rfl)
   | exact qn fun _ => rfl
   | omega
   | (simp only [List.length_map, List.length_append, List.length_cons, List.length_nil, List.length_take, List.length_drop]; omega)
   | exact zh
   | (refine Exists.intro _ ⟨rfl, ?_⟩)
   | refine zu ?_)
end Go.Proofs.YtefmcijohgpfhaaGreatDoor
set_option maxRecDepth 100000
set_option linter.unusedVariables false
namespace Go.Proofs.YtefmcijohgpfhaaGreatDoor
open Go Go.Av Go.RowKit Go.Proofs Go.Pl
theorem qje {a b c : AV} (h1 : Pure a) (h2 : Pure b) (h3 : Pure c) : Pure (.tu [a, b, c]) := qd7 fun z hz => by
 simp only [List.mem_cons, List.not_mem_nil, or_false] at hz
 rcases hz with rfl | rfl | rfl
 ·exact h1
 ·exact h2
 ·exact h3
def qcy (text : qa) : AV := if 60000 < text.length then .tu [y3 [], Iv (-9), Iv 1] else match (v7 text).1 with
 | some e => .tu [y3 [], Iv e.1, Iv e.2]
 | none => .tu [y3 (v7 text).2, Iv (-9), Iv 0]
theorem qpa (text : qa) : Pure (qcy text) := by
 unfold qcy
 split
 ·exact qje (qdh _) (zi _) (zi _)
 ·split
  ·exact qje (qdh _) (zi _) (zi _)
  ·exact qje (qdh _) (zi _) (zi _)
theorem qxe {L : List LnV} {k : Nat} {x : LnV} (h : L[k]? = some x) : qez L (k + 1) = decide (q9 x.text = 4 ∨ q9 x.text = 3) := by simp only [qez, h]
set_option maxHeartbeats 2000000 in
theorem qt4 (text : qa) (st : List AObj) (hl : text.length < 1000000) : qt E 59 [Sv text] st fun r st' => r = qcy text ∧ st' = st := by
 refine yr [.s text] (qpa text) Tryz.func59 rfl rfl (fun _ => rfl) rfl fun S0 => ?_
 by_cases hbig : 60000 < text.length
 ·have e : qcy text = .tu [y3 [], Iv (-9), Iv 1] := if_pos hbig
  rw [e]
  apply zd []
  repeat' (first
   | apply And.intro
   | (intro h; first | (exfalso; omega) | (exfalso; exact h rfl) | (exfalso; revert h; decide) | skip)
   | exact rfl
   | exact trivial
   | exact fun _ => rfl
   | exact zb _
   | apply qz []
   | exact DrOk.mk (by kernel_rfl)
   | exact qn fun _ => rfl
   | omega
   | (simp only [List.length_map, List.length_append, List.length_cons, List.length_nil, List.length_take, List.length_drop]; omega)
   | exact zh
   | (refine Exists.intro _ ⟨rfl, ?_⟩)
   | refine zu ?_)
 have hRA : qcy text = match (v7 text).1 with
  | some e => .tu [y3 [], Iv e.1, Iv e.2]
  | none => .tu [y3 (v7 text).2, Iv (-9), Iv 0] := if_neg hbig
 rw [hRA]
 clear hRA
 obtain ⟨L, hL⟩ : ∃ L, L = lns text := ⟨_, rfl⟩
 have hLl : L.length ≤ text.length := by rw [hL]; exact qfg _ text 0 0 (Nat.le_refl _)
 have hLB : LnsB L := ⟨by omega, fun x hx => by have := q0s _ text 0 0 (Nat.le_refl _) x (by rw [hL] at hx; exact hx); omega⟩
 have hrun : refL 0 ((L.drop 0).map qb2) (qez L 0) ⟨2, [], []⟩ 0 [] = v7 text := by
  rw [List.drop_zero, hL, q0g]
  exact qhp text
 have hml : (L.map lnA).length = L.length := by simp
 have hspl : ∀ st, qt E 39 [Sv text] st fun r st' => r = lnsA L ∧ st' = st := fun st => by rw [hL]; exact qwy text st (by omega)
 clear hL
 generalize v7 text = PF at hrun
 apply zd []
 repeat' (first
  | apply And.intro
  | (intro h; first | (exfalso; omega) | (exfalso; exact h rfl) | (exfalso; revert h; decide) | skip)
  | exact ⟨Tryz.call39⟩
  | (refine Exists.intro _ ⟨qw (hspl) rfl, ?_⟩)
  | exact rfl
  | exact trivial
  | exact fun _ => rfl
  | exact zb _
  | apply qz []
  | exact DrOk.mk (by kernel_rfl)
  | exact qn fun _ => rfl
  | omega
  | (simp only [List.length_map, List.length_append, List.length_cons, List.length_nil, List.length_take, List.length_drop]; omega)
  | exact zh
  | (refine Exists.intro _ ⟨rfl, ?_⟩)
  | refine zu ?_)
 refine qi5 (X := Nat) (fun k => ⟨[(5, .a (lnsA L)), (6, .tp 0), (7, .i k)], [(0, some (.tip 1 3 ((L.take k).map fun x => Iv (q9 x.text))))], 1⟩) (fun k => k ≤ L.length) (fun k => L.length - k) 0 (by omega) ?_ ?_
 ·skip
  repeat' (first
   | apply And.intro
   | (intro h; first | (exfalso; omega) | (exfalso; exact h rfl) | (exfalso; revert h; decide) | skip)
   | exact rfl
   | exact trivial
   | exact fun _ => rfl
   | exact zb _
   | apply qz []
   | exact DrOk.mk (by kernel_rfl)
   | exact qn fun _ => rfl
   | omega
   | (simp only [List.length_map, List.length_append, List.length_cons, List.length_nil, List.length_take, List.length_drop]; omega)
   | exact zh
   | (refine Exists.intro _ ⟨rfl, ?_⟩)
   | refine zu ?_)
 ·intro k hk
  by_cases hkl : k < L.length
  ·obtain ⟨x, hx⟩ : ∃ x, L[k]? = some x := ⟨_, List.getElem?_eq_getElem hkl⟩
   have hgx := qid hx
   have hxl := hLB.val x (List.mem_of_getElem? hx)
   have hkd := fun st => qa9 x.text st (by omega)
   apply zd []
   repeat' (first
    | apply And.intro
    | (intro h; first | (exfalso; omega) | (exfalso; exact h rfl) | (exfalso; revert h; decide) | skip)
    | (refine Exists.intro _ ⟨rfl, _, hgx, ?_⟩)
    | exact ⟨Tryz.call80⟩
    | (refine Exists.intro _ ⟨qw (hkd) rfl, ?_⟩)
    | (refine Exists.intro (k + 1) ⟨by omega, by omega, ?_⟩)
    | exact rfl
    | exact trivial
    | exact fun _ => rfl
    | exact zb _
    | apply qz []
    | exact DrOk.mk (by kernel_rfl)
    | exact qn fun _ => rfl
    | omega
    | (simp only [List.length_map, List.length_append, List.length_cons, List.length_nil, List.length_take, List.length_drop]; omega)
    | exact zh
    | (refine Exists.intro _ ⟨rfl, ?_⟩)
    | refine zu ?_)
   rw [List.take_add_one, hx]
   simp
  ·have e : L.take k = L := List.take_of_length_le (by omega)
   apply zd []
   repeat' (first
    | apply And.intro
    | (intro h; first | (exfalso; omega) | (exfalso; exact h rfl) | (exfalso; revert h; decide) | skip)
    | exact rfl
    | exact trivial
    | exact fun _ => rfl
    | exact zb _
    | apply qz []
    | exact DrOk.mk (by kernel_rfl)
    | exact qn fun _ => rfl
    | omega
    | (simp only [List.length_map, List.length_append, List.length_cons, List.length_nil, List.length_take, List.length_drop]; omega)
    | exact zh
    | (refine Exists.intro _ ⟨rfl, ?_⟩)
    | refine zu ?_)
   refine qi5 (X := Nat × w9 × Int × List w9) (fun (k, ⟨nk, nr, nf⟩, rec, out) => ⟨[(5, .a (lnsA L)), (6, .a (qh1 L)), (8, .tp 0), (9, .bx 1 0), (10, .i rec), (11, .i k)],
     [(0, some (.tip 3 152 (out.map yy))), (1, some (.cells 152 [.i nk, .s nr, .tp 2])), (2, some (.tip 2 69 (nf.map fldA)))], 3⟩)
    (fun (k, now, rec, out) => k ≤ L.length ∧ refL k ((L.drop k).map qb2) (qez L k) now rec out = PF ∧ 0 ≤ rec ∧ rec ≤ k ∧ out.length ≤ 2 * k ∧ now.fields.length ≤ k ∧ now.raw.length ≤ 200000 * k) (fun x => L.length - x.1) (0, ⟨2, [], []⟩, 0, [])
    ⟨by omega, hrun, by omega, by omega, by simp, by simp, by simp⟩ ?_ ?_
   ·skip
    repeat' (first
     | apply And.intro
     | (intro h; first | (exfalso; omega) | (exfalso; exact h rfl) | (exfalso; revert h; decide) | skip)
     | (refine zu ?_; rw [e])
     | exact rfl
     | exact trivial
     | exact fun _ => rfl
     | exact zb _
     | apply qz []
     | exact DrOk.mk (by kernel_rfl)
     | exact qn fun _ => rfl
     | omega
     | (simp only [List.length_map, List.length_append, List.length_cons, List.length_nil, List.length_take, List.length_drop]; omega)
     | exact zh
     | (refine Exists.intro _ ⟨rfl, ?_⟩)
     | refine zu ?_)
   ·rintro ⟨j, ⟨nk, nr, nf⟩, rec, out⟩ ⟨hj, hR, hr0, hr1, hol, hfl, hrl⟩
    simp only at hfl hrl
    by_cases hjl : j < L.length
    ·obtain ⟨x, hx⟩ : ∃ x, L[j]? = some x := ⟨_, List.getElem?_eq_getElem hjl⟩
     have hgx := qid hx
     have hkx := qg2 hx
     have hxl := hLB.val x (List.mem_of_getElem? hx)
     have hwr : ∀ st, qt E 94 [lnsA L, qh1 L, Iv j, Iv ((nf.map fldA).length : Nat), Iv rec] st fun r st' => r = Iv (yb (qez L j) x.text x.ended ((L.drop (j + 1)).map qb2) nf.length rec) ∧ st' = st := fun st => by rw [List.length_map]; exact qst L j x nf.length rec st hLB hx
     have hsa := fun st => qlp L j x st hLB hx
     have hun := fun st => qlh (qfc L j x) st (hLB.said hx)
     unfold y0 at hun
     have hpv := qxe hx
     have hsd : x.text :: xj ((L.drop (j + 1)).map qb2) = qfc L j x := rfl
     rw [qp6 hx, refL, hsd] at hR
     simp only at hR
     by_cases h1 : q9 x.text = 1
     ·apply zd []
      repeat' (first
       | apply And.intro
       | (intro h; first | (exfalso; omega) | (exfalso; exact h rfl) | (exfalso; revert h; decide) | skip)
       | (refine Exists.intro _ ⟨rfl, _, hgx, ?_⟩)
       | (refine Exists.intro _ ⟨rfl, _, hkx, ?_⟩)
       | exact ⟨Tryz.call94⟩
       | (refine Exists.intro _ ⟨qw (hwr) rfl, ?_⟩)
       | exact ⟨Tryz.call95⟩
       | (refine Exists.intro _ ⟨qw (hsa) rfl, ?_⟩)
       | exact ⟨Tryz.call41⟩
       | (refine Exists.intro _ ⟨qw (hun) rfl, ?_⟩)
       | (rw [if_pos (by assumption)] at hR; rw [← hR]; exact zb _)
       | (refine Exists.intro (j + 1, ⟨2, [], []⟩, rec, outR ⟨nk, nr, nf⟩ out ++ [⟨1, x.text ++ [10], []⟩]) ⟨?_, by simp only; omega, ?_⟩)
       | exact rfl
       | exact trivial
       | exact fun _ => rfl
       | exact zb _
       | apply qz []
       | exact DrOk.mk (by kernel_rfl)
       | exact qn fun _ => rfl
       | omega
       | (simp only [List.length_map, List.length_append, List.length_cons, List.length_nil, List.length_take, List.length_drop]; omega)
       | exact zh
       | (refine Exists.intro _ ⟨rfl, ?_⟩)
       | refine zu ?_)
      all_goals first | grind [outR] | (simp [outR, yy, *] at hR ⊢; done) | (simp [outR, yy, *] at hR ⊢; omega)
     ·by_cases h4 : q9 x.text = 4
      ·apply zd []
       repeat' (first
        | apply And.intro
        | (intro h; first | (exfalso; omega) | (exfalso; exact h rfl) | (exfalso; revert h; decide) | skip)
        | (refine Exists.intro _ ⟨rfl, _, hgx, ?_⟩)
        | (refine Exists.intro _ ⟨rfl, _, hkx, ?_⟩)
        | exact ⟨Tryz.call94⟩
        | (refine Exists.intro _ ⟨qw (hwr) rfl, ?_⟩)
        | exact ⟨Tryz.call95⟩
        | (refine Exists.intro _ ⟨qw (hsa) rfl, ?_⟩)
        | exact ⟨Tryz.call41⟩
        | (refine Exists.intro _ ⟨qw (hun) rfl, ?_⟩)
        | (rw [if_pos (by assumption)] at hR; rw [← hR]; exact zb _)
        | (refine Exists.intro (j + 1, ⟨3, nr ++ x.text ++ [10], nf ++ [(j8 (qfc L j x)).1]⟩, if nk = 2 then rec + 1 else rec, out) ⟨?_, by simp only; omega, ?_⟩)
        | exact rfl
        | exact trivial
        | exact fun _ => rfl
        | exact zb _
        | apply qz []
        | exact DrOk.mk (by kernel_rfl)
        | exact qn fun _ => rfl
        | omega
        | (simp only [List.length_map, List.length_append, List.length_cons, List.length_nil, List.length_take, List.length_drop]; omega)
        | exact zh
        | (refine Exists.intro _ ⟨rfl, ?_⟩)
        | refine zu ?_)
       all_goals first | grind [outR] | (simp [outR, yy, *] at hR ⊢; done) | (simp [outR, yy, *] at hR ⊢; omega)
      ·apply zd []
       repeat' (first
        | apply And.intro
        | (intro h; first | (exfalso; omega) | (exfalso; exact h rfl) | (exfalso; revert h; decide) | skip)
        | (refine Exists.intro _ ⟨rfl, _, hgx, ?_⟩)
        | (refine Exists.intro _ ⟨rfl, _, hkx, ?_⟩)
        | exact ⟨Tryz.call94⟩
        | (refine Exists.intro _ ⟨qw (hwr) rfl, ?_⟩)
        | exact ⟨Tryz.call95⟩
        | (refine Exists.intro _ ⟨qw (hsa) rfl, ?_⟩)
        | exact ⟨Tryz.call41⟩
        | (refine Exists.intro _ ⟨qw (hun) rfl, ?_⟩)
        | (rw [if_pos (by assumption)] at hR; rw [← hR]; exact zb _)
        | (refine Exists.intro (j + 1, ⟨nk, nr ++ x.text ++ [10], nf⟩, rec, out) ⟨?_, by simp only; omega, ?_⟩)
        | exact rfl
        | exact trivial
        | exact fun _ => rfl
        | exact zb _
        | apply qz []
        | exact DrOk.mk (by kernel_rfl)
        | exact qn fun _ => rfl
        | omega
        | (simp only [List.length_map, List.length_append, List.length_cons, List.length_nil, List.length_take, List.length_drop]; omega)
        | exact zh
        | (refine Exists.intro _ ⟨rfl, ?_⟩)
        | refine zu ?_)
       all_goals first | grind [outR] | (simp [outR, yy, *] at hR ⊢; done) | (simp [outR, yy, *] at hR ⊢; omega)
    ·have e : (L.drop j).map qb2 = [] := by rw [List.drop_eq_nil_of_le (by omega)]; rfl
     rw [e, refL] at hR
     rw [← hR]
     apply zd []
     repeat' (first
      | apply And.intro
      | (intro h; first | (exfalso; omega) | (exfalso; exact h rfl) | (exfalso; revert h; decide) | skip)
      | exact rfl
      | exact trivial
      | exact fun _ => rfl
      | exact zb _
      | apply qz []
      | exact DrOk.mk (by kernel_rfl)
      | exact qn fun _ => rfl
      | omega
      | (simp only [List.length_map, List.length_append, List.length_cons, List.length_nil, List.length_take, List.length_drop]; omega)
      | exact zh
      | (refine Exists.intro _ ⟨rfl, ?_⟩)
      | refine zu ?_)
     all_goals first | grind [outR] | (simp [outR, yy, *] at hR ⊢; done) | (simp [outR, yy, *] at hR ⊢; omega)
end Go.Proofs.YtefmcijohgpfhaaGreatDoor
set_option maxRecDepth 100000
set_option linter.unusedVariables false
namespace Go.Proofs.YtefmcijohgpfhaaGreatDoor
open Go Go.Av Go.RowKit Go.Proofs Go.Pl
theorem qtb (b : List z1) : qk4 (qbr b) := fun y hy => by
 simp only [AV.cells, List.mem_cons, List.not_mem_nil, or_false] at hy
 subst hy
 exact qhs _
theorem qqs (bs : List (List z1)) : Pure (qsj bs) := qdv fun x hx => by
 obtain ⟨b, _, rfl⟩ := List.mem_map.1 hx
 exact qtb b
theorem qxb (es : List Int) : Pure (q28 es) := qdv fun x hx => by
 obtain ⟨b, _, rfl⟩ := List.mem_map.1 hx
 intro y hy
 simp only [AV.cells, List.mem_cons, List.not_mem_nil, or_false] at hy
 subst hy
 exact zi _
theorem qxv (b : qa2) : Pure (qk5 b) := qhy fun x hx => by
 simp only [List.mem_cons, List.not_mem_nil, or_false] at hx
 rcases hx with rfl | rfl | rfl | rfl | rfl
 ·exact zi _
 ·exact zi _
 ·exact qqs _
 ·exact qxb _
 ·exact zi _
def qyb (x : ErrV × qa2) : AV := .tu [qk5 x.2, errA x.1]
theorem qu7 (x : ErrV × qa2) : Pure (qyb x) := yl (qxv _) (qbx _)
theorem que (text : qa) (st : List AObj) (hl : 60000 < text.length) (h2 : text.length < 1000000) : qt E 57 [Sv text] st fun r st' => r = .tu [y3 [], errA (.num 1)] ∧ st' = st := by
 refine yr [.s text] (yl (qdh _) (qbx _)) Tryz.func57 rfl rfl (fun _ => rfl) rfl fun S0 => ?_
 apply zd []
 repeat' (first
  | apply And.intro
  | (intro h; first | (exfalso; omega) | (exfalso; exact h rfl) | (exfalso; revert h; decide) | skip)
  | exact rfl
  | exact trivial
  | exact fun _ => rfl
  | exact zb _
  | apply qz []
  | exact DrOk.mk (by kernel_rfl)
  | exact qn fun _ => rfl
  | omega
  | (simp only [List.length_map, List.length_append, List.length_cons, List.length_nil, List.length_take, List.length_drop]; omega)
  | exact zh
  | (refine Exists.intro _ ⟨rfl, ?_⟩)
  | refine zu ?_)
def itsE (text : qa) : List w9 := if 60000 < text.length then [] else (v7 text).2
theorem qp3 (text : qa) (st : List AObj) (hl : text.length < 1000000) : qt E 57 [Sv text] st fun r st' => r = .tu [y3 (itsE text), errA (xv text)] ∧ st' = st := by
 unfold xv itsE
 by_cases hb : 60000 < text.length
 ·rw [if_pos hb, if_pos hb]
  exact que text st hb hl
 ·rw [if_neg hb, if_neg hb]
  have := qma text st (by omega)
  unfold qcp at this
  rcases hp : (v7 text).1 with _ | ⟨x, y⟩
  ·rw [hp] at this
   exact this
  ·rw [hp] at this
   exact this
theorem qtr (gen : Int) (base text : qa) (a : Nat) (hl : text.length < 1000000) (ha : a ≤ text.length) (r : SV) (hp1 : List (Nat × Option SR)) (nx1 : Nat) (R : Bool × List (List z1) × List Int × qa) (hR : Go.Pl.recsF (text.length + 1) (text.drop a) a [] [] = R)
  (hok : R.1 = false → r = .a (.v .nilIface) ∧ hp1 = [(0, some (.cells 53 [.i gen, .s base, .tp 1, .tp 2, .s R.2.2.2])), (1, some (.tip 1 23 (R.2.1.map qbr))), (2, some (.tip 1 3 (R.2.2.1.map fun x => Iv x)))] ∧ nx1 = 3)
  (hbad : R.1 = true → r = .a (errA (.at' R.2.1.length 10)) ∧ hp1 = [] ∧ nx1 = 1) : qax E 63 [.bx 0 0, .s text, .i a] 1 (hpF [(0, some (.cells 53 [.i gen, .s base, .a j9, .a j9, .s []]))]) ⟨r, y5 [(0, some (.cells 53 [.i gen, .s base, .a j9, .a j9, .s []]))], hp1 ++ qay [(0, some (.cells 53 [.i gen, .s base, .a j9, .a j9, .s []]))], nx1⟩ := by
 refine qex [.bx 0 0, .s text, .i a] [(0, some (.cells 53 [.i gen, .s base, .a j9, .a j9, .s []]))] 1 r hp1 nx1 Tryz.func63 rfl rfl rfl ?_ fun S F ρ => ?_
 ·cases h : R.1 with
  | false => obtain ⟨rfl, rfl, rfl⟩ := hok h; rfl
  | true => obtain ⟨rfl, rfl, rfl⟩ := hbad h; rfl
 apply zd []
 repeat' (first
  | apply And.intro
  | (intro h; first | (exfalso; omega) | (exfalso; exact h rfl) | (exfalso; revert h; decide) | skip)
  | exact rfl
  | exact trivial
  | exact fun _ => rfl
  | exact zb _
  | apply qz []
  | exact DrOk.mk (by kernel_rfl)
  | exact qn fun _ => rfl
  | omega
  | (simp only [List.length_map, List.length_append, List.length_cons, List.length_nil, List.length_take, List.length_drop]; omega)
  | exact zh
  | (refine Exists.intro _ ⟨rfl, ?_⟩)
  | refine zu ?_)
 refine qi5 (X := Nat × Nat × List (List z1) × List Int) (fun (k, f, bs, es) => ⟨[(0, .bx 0 0), (1, .s text), (2, .i k)], [(0, some (.cells 53 [.i gen, .s base, .tp 1, .tp 2, .s []])), (1, some (.tip 1 23 (bs.map qbr))), (2, some (.tip 1 3 (es.map fun x => Iv x)))], 3⟩)
  (fun (k, f, bs, es) => k ≤ text.length ∧ text.length - k < f ∧ Go.Pl.recsF f (text.drop k) k bs es = R ∧ bs.length ≤ k ∧ es.length ≤ k) (fun x => text.length - x.1) (a, text.length + 1, [], []) ⟨ha, by omega, hR, by simp, by simp⟩ ?_ ?_
 ·skip
  repeat' (first
   | apply And.intro
   | (intro h; first | (exfalso; omega) | (exfalso; exact h rfl) | (exfalso; revert h; decide) | skip)
   | exact rfl
   | exact trivial
   | exact fun _ => rfl
   | exact zb _
   | apply qz []
   | exact DrOk.mk (by kernel_rfl)
   | exact qn fun _ => rfl
   | omega
   | (simp only [List.length_map, List.length_append, List.length_cons, List.length_nil, List.length_take, List.length_drop]; omega)
   | exact zh
   | (refine Exists.intro _ ⟨rfl, ?_⟩)
   | refine zu ?_)
 ·rintro ⟨k, f, bs, es⟩ ⟨hk, hf, hR, hbl, hel⟩
  obtain ⟨f, rfl⟩ : ∃ f', f = f' + 1 := ⟨f - 1, by omega⟩
  have hrd := fun st => q4t (text.drop k) st (by simp; omega)
  have hll : (text.drop k).length = text.length - k := by simp
  have hbd := qq1 (l := text.drop k)
  have hde := fun st => q2h (kq (text.drop k)).2.1 st (by omega)
  rcases qwe (text.drop k) with h1 | h2 | h3
  ·rw [h1] at hrd
   obtain ⟨n', hn', hn0', hnl⟩ := qym h1
   cases hdd : decF (kq (text.drop k)).2.1 with
   | none =>
    rw [qye h1 hdd] at hR
    rw [hdd] at hde
    subst hR
    obtain ⟨rfl, rfl, rfl⟩ := hbad rfl
    apply zd []
    repeat' (first
     | apply And.intro
     | (intro h; first | (exfalso; omega) | (exfalso; exact h rfl) | (exfalso; revert h; decide) | skip)
     | exact ⟨Tryz.call98⟩
     | (refine Exists.intro _ ⟨qw (hrd) rfl, ?_⟩)
     | exact ⟨Tryz.call11⟩
     | (refine Exists.intro _ ⟨qw (hde) rfl, ?_⟩)
     | exact rfl
     | exact trivial
     | exact fun _ => rfl
     | exact zb _
     | apply qz []
     | exact DrOk.mk (by kernel_rfl)
     | exact qn fun _ => rfl
     | omega
     | (simp only [List.length_map, List.length_append, List.length_cons, List.length_nil, List.length_take, List.length_drop]; omega)
     | exact zh
     | (refine Exists.intro _ ⟨rfl, ?_⟩)
     | refine zu ?_)
    rw [List.length_map]
    rfl
   | some b =>
    rw [qw3 h1 hdd hn'] at hR
    rw [hdd] at hde
    rw [hn'] at hrd
    apply zd []
    repeat' (first
     | apply And.intro
     | (intro h; first | (exfalso; omega) | (exfalso; exact h rfl) | (exfalso; revert h; decide) | skip)
     | exact ⟨Tryz.call98⟩
     | (refine Exists.intro _ ⟨qw (hrd) rfl, ?_⟩)
     | exact ⟨Tryz.call11⟩
     | (refine Exists.intro _ ⟨qw (hde) rfl, ?_⟩)
     | (refine Exists.intro (k + n', f, bs ++ [b], es ++ [((k + n' : Nat) : Int)]) ⟨?_, by simp only; omega, ?_⟩)
     | exact rfl
     | exact trivial
     | exact fun _ => rfl
     | exact zb _
     | apply qz []
     | exact DrOk.mk (by kernel_rfl)
     | exact qn fun _ => rfl
     | omega
     | (simp only [List.length_map, List.length_append, List.length_cons, List.length_nil, List.length_take, List.length_drop]; omega)
     | exact zh
     | (refine Exists.intro _ ⟨rfl, ?_⟩)
     | refine zu ?_)
    all_goals first | (rw [← hR, Int.natCast_add, List.drop_drop]; done) | (simp; done)
  ·rw [h2] at hrd
   rw [qw7 h2] at hR
   subst hR
   obtain ⟨rfl, rfl, rfl⟩ := hok rfl
   cases hdd : decF (kq (text.drop k)).2.1 <;> rw [hdd] at hde
   all_goals
    apply zd []
    repeat' (first
     | apply And.intro
     | (intro h; first | (exfalso; omega) | (exfalso; exact h rfl) | (exfalso; revert h; decide) | skip)
     | exact ⟨Tryz.call98⟩
     | (refine Exists.intro _ ⟨qw (hrd) rfl, ?_⟩)
     | exact ⟨Tryz.call11⟩
     | (refine Exists.intro _ ⟨qw (hde) rfl, ?_⟩)
     | exact rfl
     | exact trivial
     | exact fun _ => rfl
     | exact zb _
     | apply qz []
     | exact DrOk.mk (by kernel_rfl)
     | exact qn fun _ => rfl
     | omega
     | (simp only [List.length_map, List.length_append, List.length_cons, List.length_nil, List.length_take, List.length_drop]; omega)
     | exact zh
     | (refine Exists.intro _ ⟨rfl, ?_⟩)
     | refine zu ?_)
  ·rw [h3] at hrd
   rw [qz3 h3] at hR
   subst hR
   obtain ⟨rfl, rfl, rfl⟩ := hbad rfl
   cases hdd : decF (kq (text.drop k)).2.1 <;> rw [hdd] at hde
   all_goals
    apply zd []
    repeat' (first
     | apply And.intro
     | (intro h; first | (exfalso; omega) | (exfalso; exact h rfl) | (exfalso; revert h; decide) | skip)
     | exact ⟨Tryz.call98⟩
     | (refine Exists.intro _ ⟨qw (hrd) rfl, ?_⟩)
     | exact ⟨Tryz.call11⟩
     | (refine Exists.intro _ ⟨qw (hde) rfl, ?_⟩)
     | exact rfl
     | exact trivial
     | exact fun _ => rfl
     | exact zb _
     | apply qz []
     | exact DrOk.mk (by kernel_rfl)
     | exact qn fun _ => rfl
     | omega
     | (simp only [List.length_map, List.length_append, List.length_cons, List.length_nil, List.length_take, List.length_drop]; omega)
     | exact zh
     | (refine Exists.intro _ ⟨rfl, ?_⟩)
     | refine zu ?_)
   all_goals
    rw [List.length_map]
    rfl
end Go.Proofs.YtefmcijohgpfhaaGreatDoor
set_option maxRecDepth 100000
set_option linter.unusedVariables false
namespace Go.Proofs.YtefmcijohgpfhaaGreatDoor
open Go Go.Av Go.RowKit Go.Proofs Go.Pl
theorem qv2 (text : qa) (st : List AObj) (hl : text.length < 1000000) : qt E 27 [Sv text] st fun r st' => r = qyb (qhn text) ∧ st' = st := by
 refine yr [.s text] (qu7 _) Tryz.func27 rfl rfl (fun _ => rfl) rfl fun S0 => ?_
 by_cases hbig : 120000 < text.length
 ·have e : qhn text = (.num 1, qg3) := if_pos hbig
  rw [e]
  apply zd []
  repeat' (first
   | apply And.intro
   | (intro h; first | (exfalso; omega) | (exfalso; exact h rfl) | (exfalso; revert h; decide) | skip)
   | exact rfl
   | exact trivial
   | exact fun _ => rfl
   | exact zb _
   | apply qz []
   | exact DrOk.mk (by kernel_rfl)
   | exact qn fun _ => rfl
   | omega
   | (simp only [List.length_map, List.length_append, List.length_cons, List.length_nil, List.length_take, List.length_drop]; omega)
   | exact zh
   | (refine Exists.intro _ ⟨rfl, ?_⟩)
   | refine zu ?_)
 have hsp := qlr text
 have hrl : (y9 text).2.length ≤ text.length := by
  conv => rhs; rw [hsp.1]
  simp
 have hbl := qsq (y9 text).2
 obtain ⟨g, rest, htk⟩ : ∃ g rest, y9 text = (g, rest) := ⟨_, _, rfl⟩
 have hF : qhn text = match xv (rest.take (wk rest.length rest)) with
   | .no => if (Go.Pl.recsF (text.length + 1) (rest.drop (wk rest.length rest)) (((text.length - rest.length + wk rest.length rest : Nat)) : Int) [] []).1 = true then (.at' (Go.Pl.recsF (text.length + 1) (rest.drop (wk rest.length rest)) (((text.length - rest.length + wk rest.length rest : Nat)) : Int) [] []).2.1.length 10, qg3)
    else (.no, ⟨g, rest.take (wk rest.length rest), (Go.Pl.recsF (text.length + 1) (rest.drop (wk rest.length rest)) (((text.length - rest.length + wk rest.length rest : Nat)) : Int) [] []).2.1, (Go.Pl.recsF (text.length + 1) (rest.drop (wk rest.length rest)) (((text.length - rest.length + wk rest.length rest : Nat)) : Int) [] []).2.2.1, (Go.Pl.recsF (text.length + 1) (rest.drop (wk rest.length rest)) (((text.length - rest.length + wk rest.length rest : Nat)) : Int) [] []).2.2.2⟩)
   | e => (e, qg3) := by
  unfold qhn
  rw [if_neg hbig]
  unfold qhm qni atH qf5
  rw [htk]
  try rfl
 have htk2 : ∀ st, qt E 61 [Sv text] st fun r st' => r = .tu [Iv g, Sv rest] ∧ st' = st := fun st => by
  have := q4e text st hl
  rw [htk] at this
  exact this
 rw [htk] at hrl hbl hsp
 simp only at hrl hbl hsp
 have hdr : rest.drop (wk rest.length rest) = text.drop (text.length - rest.length + wk rest.length rest) := by
  have h1 : text.length = (wo g).length + rest.length := by
   have := congrArg List.length hsp.1
   simpa using this
  conv => rhs; rhs; rw [hsp.1]
  rw [← List.drop_drop, show text.length - rest.length = (wo g).length by omega, List.drop_left]
 rw [hdr] at hF
 clear hdr hsp htk
 have hbg := fun st => q1l rest st (by omega)
 generalize wk rest.length rest = a at hF hbl hbg
 have hpa := fun st => qp3 (rest.take a) st (by simp; omega)
 have hsub : ((text.length : Int) - (rest.length : Int)) + (a : Int) = ((text.length - rest.length + a : Nat) : Int) := by omega
 rw [show (((text.length - rest.length + a : Nat)) : Int) = (((text.length - rest.length + a : Nat)) : Int) from rfl] at hF
 obtain ⟨R, hR⟩ : ∃ R, Go.Pl.recsF (text.length + 1) (text.drop (text.length - rest.length + a)) ((text.length - rest.length + a : Nat) : Int) [] [] = R := ⟨_, rfl⟩
 rw [hR] at hF
 have hok := fun h => qtr g (rest.take a) text (text.length - rest.length + a) hl (by omega) (.a (.v .nilIface)) [(0, some (.cells 53 [.i g, .s (rest.take a), .tp 1, .tp 2, .s R.2.2.2])), (1, some (.tip 1 23 (R.2.1.map qbr))), (2, some (.tip 1 3 (R.2.2.1.map fun x => Iv x)))] 3 R hR (fun _ => ⟨rfl, rfl, rfl⟩) h
 have hbad := fun h => qtr g (rest.take a) text (text.length - rest.length + a) hl (by omega) (.a (errA (.at' R.2.1.length 10))) [] 1 R hR h (fun _ => ⟨rfl, rfl, rfl⟩)
 generalize itsE (rest.take a) = its at hpa
 cases hpe : xv (rest.take a) with
 | no =>
  rw [hpe] at hF hpa
  simp only at hF
  by_cases hR1 : R.1 = true
  ·rw [if_pos hR1] at hF
   rw [hF]
   apply zd []
   repeat' (first
    | apply And.intro
    | (intro h; first | (exfalso; omega) | (exfalso; exact h rfl) | (exfalso; revert h; decide) | skip)
    | exact ⟨Tryz.call61⟩
    | (refine Exists.intro _ ⟨qw (htk2) rfl, ?_⟩)
    | exact ⟨Tryz.call62⟩
    | (refine Exists.intro _ ⟨qw (hbg) rfl, ?_⟩)
    | exact ⟨Tryz.call57⟩
    | (refine Exists.intro _ ⟨qw (hpa) rfl, ?_⟩)
    | exact ⟨Tryz.call63⟩
    | (refine qah (hbad fun h => by rw [hR1] at h; simp at h) ?_)
    | exact rfl
    | exact trivial
    | exact fun _ => rfl
    | exact zb _
    | apply qz []
    | exact DrOk.mk (by kernel_rfl)
    | exact qn fun _ => rfl
    | omega
    | (simp only [List.length_map, List.length_append, List.length_cons, List.length_nil, List.length_take, List.length_drop]; omega)
    | exact zh
    | (refine Exists.intro _ ⟨rfl, ?_⟩)
    | refine zu ?_)
   all_goals exact congrArg Iv hsub
  ·rw [if_neg hR1] at hF
   rw [hF]
   apply zd []
   repeat' (first
    | apply And.intro
    | (intro h; first | (exfalso; omega) | (exfalso; exact h rfl) | (exfalso; revert h; decide) | skip)
    | exact ⟨Tryz.call61⟩
    | (refine Exists.intro _ ⟨qw (htk2) rfl, ?_⟩)
    | exact ⟨Tryz.call62⟩
    | (refine Exists.intro _ ⟨qw (hbg) rfl, ?_⟩)
    | exact ⟨Tryz.call57⟩
    | (refine Exists.intro _ ⟨qw (hpa) rfl, ?_⟩)
    | exact ⟨Tryz.call63⟩
    | (refine qah (hok fun h => absurd h hR1) ?_)
    | exact rfl
    | exact trivial
    | exact fun _ => rfl
    | exact zb _
    | apply qz []
    | exact DrOk.mk (by kernel_rfl)
    | exact qn fun _ => rfl
    | omega
    | (simp only [List.length_map, List.length_append, List.length_cons, List.length_nil, List.length_take, List.length_drop]; omega)
    | exact zh
    | (refine Exists.intro _ ⟨rfl, ?_⟩)
    | refine zu ?_)
   all_goals exact congrArg Iv hsub
 | num n =>
  rw [hpe] at hF hpa
  have hF2 : qhn text = (.num n, qg3) := hF
  rw [hF2]
  apply zd []
  repeat' (first
   | apply And.intro
   | (intro h; first | (exfalso; omega) | (exfalso; exact h rfl) | (exfalso; revert h; decide) | skip)
   | exact ⟨Tryz.call61⟩
   | (refine Exists.intro _ ⟨qw (htk2) rfl, ?_⟩)
   | exact ⟨Tryz.call62⟩
   | (refine Exists.intro _ ⟨qw (hbg) rfl, ?_⟩)
   | exact ⟨Tryz.call57⟩
   | (refine Exists.intro _ ⟨qw (hpa) rfl, ?_⟩)
   | exact rfl
   | exact trivial
   | exact fun _ => rfl
   | exact zb _
   | apply qz []
   | exact DrOk.mk (by kernel_rfl)
   | exact qn fun _ => rfl
   | omega
   | (simp only [List.length_map, List.length_append, List.length_cons, List.length_nil, List.length_take, List.length_drop]; omega)
   | exact zh
   | (refine Exists.intro _ ⟨rfl, ?_⟩)
   | refine zu ?_)
 | at' p n =>
  rw [hpe] at hF hpa
  have hF2 : qhn text = (.at' p n, qg3) := hF
  rw [hF2]
  apply zd []
  repeat' (first
   | apply And.intro
   | (intro h; first | (exfalso; omega) | (exfalso; exact h rfl) | (exfalso; revert h; decide) | skip)
   | exact ⟨Tryz.call61⟩
   | (refine Exists.intro _ ⟨qw (htk2) rfl, ?_⟩)
   | exact ⟨Tryz.call62⟩
   | (refine Exists.intro _ ⟨qw (hbg) rfl, ?_⟩)
   | exact ⟨Tryz.call57⟩
   | (refine Exists.intro _ ⟨qw (hpa) rfl, ?_⟩)
   | exact rfl
   | exact trivial
   | exact fun _ => rfl
   | exact zb _
   | apply qz []
   | exact DrOk.mk (by kernel_rfl)
   | exact qn fun _ => rfl
   | omega
   | (simp only [List.length_map, List.length_append, List.length_cons, List.length_nil, List.length_take, List.length_drop]; omega)
   | exact zh
   | (refine Exists.intro _ ⟨rfl, ?_⟩)
   | refine zu ?_)
end Go.Proofs.YtefmcijohgpfhaaGreatDoor
set_option maxRecDepth 100000
set_option linter.unusedVariables false
namespace Go.Proofs.YtefmcijohgpfhaaGreatDoor
open Go Go.Av Go.RowKit Go.Proofs Go.Pl
theorem qmv (n : Int) : (wo n).length ≤ 100 := by
 unfold wo
 split
 ·rename_i h
  have := qg9 h
  omega
 ·simp
theorem qtt (b : qa2) (st : List AObj) (hb : b.base.length < 1000000) (he : b.ends.length < 1000000) : qt E 28 [qk5 b] st fun r st' => r = Iv (qbi b) ∧ st' = st := by
 have hh := qmv b.gen
 have hle := fun st => q40 b.gen st
 refine yr [.a (qk5 b)] (zi _) Tryz.func28 rfl rfl (fun _ => rfl) rfl fun S0 => ?_
 by_cases h0 : b.ends = []
 ·have e : qbi b = ((wo b.gen).length : Int) + (b.base.length : Int) := by simp [qbi, h0]
  rw [e]
  have hl0 : (b.ends.map fun x => Iv x).length = 0 := by simp [h0]
  apply zd []
  repeat' (first
   | apply And.intro
   | (intro h; first | (exfalso; omega) | (exfalso; exact h rfl) | (exfalso; revert h; decide) | skip)
   | exact ⟨Tryz.call64⟩
   | (refine Exists.intro _ ⟨qw (hle) rfl, ?_⟩)
   | exact rfl
   | exact trivial
   | exact fun _ => rfl
   | exact zb _
   | apply qz []
   | exact DrOk.mk (by kernel_rfl)
   | exact qn fun _ => rfl
   | omega
   | (simp only [List.length_map, List.length_append, List.length_cons, List.length_nil, List.length_take, List.length_drop]; omega)
   | exact zh
   | (refine Exists.intro _ ⟨rfl, ?_⟩)
   | refine zu ?_)
 ·obtain ⟨x, hx⟩ : ∃ x, b.ends.getLast? = some x := by
   cases h : b.ends.getLast? with
   | none => exact absurd (List.getLast?_eq_none_iff.1 h) h0
   | some x => exact ⟨x, rfl⟩
  have e : qbi b = x := by simp [qbi, hx]
  rw [e]
  have hl0 : 0 < b.ends.length := List.length_pos_iff.2 h0
  have hml : (b.ends.map fun x => Iv x).length = b.ends.length := by simp
  have hg : (b.ends.map fun x => Iv x)[b.ends.length - 1]? = some (Iv x) := by
   rw [List.getLast?_eq_getElem?] at hx
   simp [hx]
  apply zd []
  repeat' (first
   | apply And.intro
   | (intro h; first | (exfalso; omega) | (exfalso; exact h rfl) | (exfalso; revert h; decide) | skip)
   | exact ⟨Tryz.call64⟩
   | (refine Exists.intro _ ⟨qw (hle) rfl, ?_⟩)
   | (refine Exists.intro (b.ends.length - 1) ⟨by omega, _, hg, ?_⟩)
   | exact rfl
   | exact trivial
   | exact fun _ => rfl
   | exact zb _
   | apply qz []
   | exact DrOk.mk (by kernel_rfl)
   | exact qn fun _ => rfl
   | omega
   | (simp only [List.length_map, List.length_append, List.length_cons, List.length_nil, List.length_take, List.length_drop]; omega)
   | exact zh
   | (refine Exists.intro _ ⟨rfl, ?_⟩)
   | refine zu ?_)
theorem q1v (gen : Int) (text : qa) (st : List AObj) (hl : text.length < 1000000) : qt E 25 [Iv gen, Sv text] st fun r st' => r = .tu [Sv (qak gen text).2, errA (qak gen text).1] ∧ st' = st := by
 refine yr [.i gen, .s text] (yl (zi _) (qbx _)) Tryz.func25 rfl rfl (fun _ => rfl) rfl fun S0 => ?_
 have hpa := fun st => qp3 text st hl
 unfold qak
 by_cases hg : gen ≠ 0 ∧ ¬ xp gen
 ·rw [if_pos hg]
  have hpu := fun st => q4h gen text st hg.1 hg.2
  apply zd []
  repeat' (first
   | apply And.intro
   | (intro h; first | (exfalso; omega) | (exfalso; exact h rfl) | (exfalso; revert h; decide) | skip)
   | exact ⟨Tryz.call56⟩
   | (refine Exists.intro _ ⟨qw (hpu) rfl, ?_⟩)
   | exact rfl
   | exact trivial
   | exact fun _ => rfl
   | exact zb _
   | apply qz []
   | exact DrOk.mk (by kernel_rfl)
   | exact qn fun _ => rfl
   | omega
   | (simp only [List.length_map, List.length_append, List.length_cons, List.length_nil, List.length_take, List.length_drop]; omega)
   | exact zh
   | (refine Exists.intro _ ⟨rfl, ?_⟩)
   | refine zu ?_)
 ·rw [if_neg hg]
  have hpu := fun st => q43 gen text st (Classical.byContradiction fun h => hg ⟨fun h0 => h (.inl h0), fun h1 => h (.inr h1)⟩) hl
  cases hpe : xv text with
  | no =>
   rw [hpe] at hpa
   apply zd []
   repeat' (first
    | apply And.intro
    | (intro h; first | (exfalso; omega) | (exfalso; exact h rfl) | (exfalso; revert h; decide) | skip)
    | exact ⟨Tryz.call56⟩
    | (refine Exists.intro _ ⟨qw (hpu) rfl, ?_⟩)
    | exact ⟨Tryz.call57⟩
    | (refine Exists.intro _ ⟨qw (hpa) rfl, ?_⟩)
    | exact rfl
    | exact trivial
    | exact fun _ => rfl
    | exact zb _
    | apply qz []
    | exact DrOk.mk (by kernel_rfl)
    | exact qn fun _ => rfl
    | omega
    | (simp only [List.length_map, List.length_append, List.length_cons, List.length_nil, List.length_take, List.length_drop]; omega)
    | exact zh
    | (refine Exists.intro _ ⟨rfl, ?_⟩)
    | refine zu ?_)
  | num n =>
   rw [hpe] at hpa
   apply zd []
   repeat' (first
    | apply And.intro
    | (intro h; first | (exfalso; omega) | (exfalso; exact h rfl) | (exfalso; revert h; decide) | skip)
    | exact ⟨Tryz.call56⟩
    | (refine Exists.intro _ ⟨qw (hpu) rfl, ?_⟩)
    | exact ⟨Tryz.call57⟩
    | (refine Exists.intro _ ⟨qw (hpa) rfl, ?_⟩)
    | exact rfl
    | exact trivial
    | exact fun _ => rfl
    | exact zb _
    | apply qz []
    | exact DrOk.mk (by kernel_rfl)
    | exact qn fun _ => rfl
    | omega
    | (simp only [List.length_map, List.length_append, List.length_cons, List.length_nil, List.length_take, List.length_drop]; omega)
    | exact zh
    | (refine Exists.intro _ ⟨rfl, ?_⟩)
    | refine zu ?_)
  | at' p n =>
   rw [hpe] at hpa
   apply zd []
   repeat' (first
    | apply And.intro
    | (intro h; first | (exfalso; omega) | (exfalso; exact h rfl) | (exfalso; revert h; decide) | skip)
    | exact ⟨Tryz.call56⟩
    | (refine Exists.intro _ ⟨qw (hpu) rfl, ?_⟩)
    | exact ⟨Tryz.call57⟩
    | (refine Exists.intro _ ⟨qw (hpa) rfl, ?_⟩)
    | exact rfl
    | exact trivial
    | exact fun _ => rfl
    | exact zb _
    | apply qz []
    | exact DrOk.mk (by kernel_rfl)
    | exact qn fun _ => rfl
    | omega
    | (simp only [List.length_map, List.length_append, List.length_cons, List.length_nil, List.length_take, List.length_drop]; omega)
    | exact zh
    | (refine Exists.intro _ ⟨rfl, ?_⟩)
    | refine zu ?_)
end Go.Proofs.YtefmcijohgpfhaaGreatDoor
set_option maxRecDepth 100000
set_option linter.unusedVariables false
namespace Go.Proofs.YtefmcijohgpfhaaGreatDoor
open Go Go.Av Go.RowKit Go.Proofs Go.Pl
theorem qsn (text : qa) : ∃ its, qcy text = .tu [y3 its, Iv (xv text).pos, Iv (xv text).code] := by
 unfold qcy xv
 split
 ·exact ⟨[], rfl⟩
 ·rcases (v7 text).1 with _ | ⟨a, n⟩
  ·exact ⟨_, rfl⟩
  ·exact ⟨[], rfl⟩
theorem qja : ∀ (r : List (qa × Bool)) (i : Nat) (prev : Bool) (now : w9) (rec : Int) (out : List w9) (e : Int × Int), (refL i r prev now rec out).1 = some e → e.2 ≠ 0
 | [], i, prev, now, rec, out, e, h => by simp [refL] at h
 | (t, b) :: r, i, prev, now, rec, out, e, h => by
  rw [refL] at h
  split at h
  ·rename_i hw
   simp only [Option.some.injEq] at h
   subst h
   exact hw
  ·split at h
   ·exact qja r _ _ _ _ _ e h
   ·split at h
    ·exact qja r _ _ _ _ _ e h
    ·exact qja r _ _ _ _ _ e h
theorem qoc {text : qa} {n : Int} (h : xv text = .num n) : n = 1 := by
 unfold xv at h
 split at h
 ·simpa using h.symm
 ·split at h <;> simp at h
theorem qpr {text : qa} {a n : Int} (h : xv text = .at' a n) : n ≠ 0 := by
 unfold xv at h
 split at h
 ·simp at h
 ·split at h
  ·simp at h
  ·rename_i a' n' hp
   simp only [ErrV.at'.injEq] at h
   rw [← h.2]
   have := qhp text
   exact qja _ _ _ _ _ _ (a', n') (by rw [this]; exact hp)
theorem qze (text : qa) (hl : text.length < 1000000) : ∃ its p n, (∀ st, qt E 59 [Sv text] st fun r st' => r = .tu [y3 its, Iv p, Iv n] ∧ st' = st) ∧ p = (xv text).pos ∧ n = (xv text).code ∧ (n = 0 ↔ xv text = .no) := by
 obtain ⟨its, hits⟩ := qsn text
 refine ⟨its, _, _, fun st => by rw [← hits]; exact qt4 text st hl, rfl, rfl, ?_⟩
 cases hpe : xv text with
 | no => simp [ErrV.code]
 | num n => have := qoc hpe; simp [ErrV.code]; omega
 | at' a n => have := qpr hpe; simp [ErrV.code]; omega
theorem qqc (gen : Int) (text : qa) : qak gen text = if gen ≠ 0 ∧ ¬ xp gen then (.num 1, []) else if xv text = .no then (.no, wo gen ++ text) else (xv text, []) := by
 unfold qak
 split
 ·rfl
 ·cases xv text <;> simp
theorem qtu (gen : Int) (text : qa) (st : List AObj) (hl : text.length < 1000000) : qt E 26 [Iv gen, Sv text] st fun r st' => r = .tu [Sv (qak gen text).2, Iv (qak gen text).1.pos, Iv (qak gen text).1.code] ∧ st' = st := by
 refine yr [.i gen, .s text] (qje (zi _) (zi _) (zi _)) Tryz.func26 rfl rfl (fun _ => rfl) rfl fun S0 => ?_
 obtain ⟨its, p, n, hpa, hp, hn, hn0⟩ := qze text hl
 have hgd := fun st => quj gen st
 have hh := qmv gen
 rw [qqc]
 by_cases hg : xp gen
 ·have hgb : decide (xp gen) = true := by simpa using hg
  rw [hgb] at hgd
  have hg0 : gen ≠ 0 := by unfold xp at hg; omega
  have hli := fun st => qui gen st hg
  have hhl : wo gen = yh gen := by unfold wo; rw [if_pos hg]
  rw [hhl] at hh ⊢
  rw [if_neg (fun h => h.2 hg)]
  by_cases hz : n = 0
  ·rw [if_pos (hn0.1 hz)]
   apply zd []
   repeat' (first
    | apply And.intro
    | (intro h; first | (exfalso; omega) | (exfalso; exact h rfl) | (exfalso; revert h; decide) | skip)
    | exact ⟨Tryz.call58⟩
    | (refine Exists.intro _ ⟨qw (hgd) rfl, ?_⟩)
    | exact ⟨Tryz.call59⟩
    | (refine Exists.intro _ ⟨qw (hpa) rfl, ?_⟩)
    | exact ⟨Tryz.call60⟩
    | (refine Exists.intro _ ⟨qw (hli) rfl, ?_⟩)
    | exact rfl
    | exact trivial
    | exact fun _ => rfl
    | exact zb _
    | apply qz []
    | exact DrOk.mk (by kernel_rfl)
    | exact qn fun _ => rfl
    | omega
    | (simp only [List.length_map, List.length_append, List.length_cons, List.length_nil, List.length_take, List.length_drop]; omega)
    | exact zh
    | (refine Exists.intro _ ⟨rfl, ?_⟩)
    | refine zu ?_)
  ·rw [if_neg (fun h => hz (hn0.2 h)), ← hp, ← hn]
   apply zd []
   repeat' (first
    | apply And.intro
    | (intro h; first | (exfalso; omega) | (exfalso; exact h rfl) | (exfalso; revert h; decide) | skip)
    | exact ⟨Tryz.call58⟩
    | (refine Exists.intro _ ⟨qw (hgd) rfl, ?_⟩)
    | exact ⟨Tryz.call59⟩
    | (refine Exists.intro _ ⟨qw (hpa) rfl, ?_⟩)
    | exact rfl
    | exact trivial
    | exact fun _ => rfl
    | exact zb _
    | apply qz []
    | exact DrOk.mk (by kernel_rfl)
    | exact qn fun _ => rfl
    | omega
    | (simp only [List.length_map, List.length_append, List.length_cons, List.length_nil, List.length_take, List.length_drop]; omega)
    | exact zh
    | (refine Exists.intro _ ⟨rfl, ?_⟩)
    | refine zu ?_)
 ·have hgb : decide (xp gen) = false := by simpa using hg
  rw [hgb] at hgd
  by_cases h0 : gen = 0
  ·have hhd : wo gen = [] := by unfold wo; rw [if_neg hg]
   rw [if_neg (fun h => h.1 h0), hhd]
   by_cases hz : n = 0
   ·rw [if_pos (hn0.1 hz)]
    apply zd []
    repeat' (first
     | apply And.intro
     | (intro h; first | (exfalso; omega) | (exfalso; exact h rfl) | (exfalso; revert h; decide) | skip)
     | exact ⟨Tryz.call58⟩
     | (refine Exists.intro _ ⟨qw (hgd) rfl, ?_⟩)
     | exact ⟨Tryz.call59⟩
     | (refine Exists.intro _ ⟨qw (hpa) rfl, ?_⟩)
     | exact rfl
     | exact trivial
     | exact fun _ => rfl
     | exact zb _
     | apply qz []
     | exact DrOk.mk (by kernel_rfl)
     | exact qn fun _ => rfl
     | omega
     | (simp only [List.length_map, List.length_append, List.length_cons, List.length_nil, List.length_take, List.length_drop]; omega)
     | exact zh
     | (refine Exists.intro _ ⟨rfl, ?_⟩)
     | refine zu ?_)
   ·rw [if_neg (fun h => hz (hn0.2 h)), ← hp, ← hn]
    apply zd []
    repeat' (first
     | apply And.intro
     | (intro h; first | (exfalso; omega) | (exfalso; exact h rfl) | (exfalso; revert h; decide) | skip)
     | exact ⟨Tryz.call58⟩
     | (refine Exists.intro _ ⟨qw (hgd) rfl, ?_⟩)
     | exact ⟨Tryz.call59⟩
     | (refine Exists.intro _ ⟨qw (hpa) rfl, ?_⟩)
     | exact rfl
     | exact trivial
     | exact fun _ => rfl
     | exact zb _
     | apply qz []
     | exact DrOk.mk (by kernel_rfl)
     | exact qn fun _ => rfl
     | omega
     | (simp only [List.length_map, List.length_append, List.length_cons, List.length_nil, List.length_take, List.length_drop]; omega)
     | exact zh
     | (refine Exists.intro _ ⟨rfl, ?_⟩)
     | refine zu ?_)
  ·rw [if_pos ⟨h0, hg⟩]
   apply zd []
   repeat' (first
    | apply And.intro
    | (intro h; first | (exfalso; omega) | (exfalso; exact h rfl) | (exfalso; revert h; decide) | skip)
    | exact ⟨Tryz.call58⟩
    | (refine Exists.intro _ ⟨qw (hgd) rfl, ?_⟩)
    | exact rfl
    | exact trivial
    | exact fun _ => rfl
    | exact zb _
    | apply qz []
    | exact DrOk.mk (by kernel_rfl)
    | exact qn fun _ => rfl
    | omega
    | (simp only [List.length_map, List.length_append, List.length_cons, List.length_nil, List.length_take, List.length_drop]; omega)
    | exact zh
    | (refine Exists.intro _ ⟨rfl, ?_⟩)
    | refine zu ?_)
end Go.Proofs.YtefmcijohgpfhaaGreatDoor
set_option maxRecDepth 100000
set_option linter.unusedVariables false
namespace Go.Pl
open Go Go.Proofs Go.Proofs.YtefmcijohgpfhaaGreatDoor
theorem ex13 : qbh [65, 58, 32, 49, 10, 37, 97, 109] ⟨0, [65, 58, 32, 49, 10], [], [], [37, 97, 109]⟩ := by
 have h1 : y9 [65, 58, 32, 49, 10, 37, 97, 109] = (0, [65, 58, 32, 49, 10, 37, 97, 109]) := by decide +kernel
 have h2 : (v7 [65, 58, 32, 49, 10]).1 = none := by decide +kernel
 have h3 : (kq [37, 97, 109]).1 = 2 := by decide +kernel
 refine ⟨by decide +kernel, h1, ?_, nofun, h3, rfl, by simp⟩
 unfold xv
 rw [if_neg (by simp), h2]
theorem q0p (gen : Int) (text : qa) : okE (qak gen text).1 := by
 unfold qak
 split
 ·simp [okE]
 ·cases hp : xv text with
  | no => simp [okE]
  | num n => have := qoc hp; simp [okE]; omega
  | at' a n => have := qpr hp; simpa [okE] using this
end Go.Pl
namespace Go.Proofs.YtefmcijohgpfhaaGreatDoor
open Go Go.Av Go.RowKit Go.Proofs Go.Pl
theorem q3q (b : qa2) (st : List AObj) (hb : b.base.length < 1000000) (he : b.ends.length < 1000000) (ht : b.tail.length < 1000000) (h1 : 0 ≤ qbi b) (h2 : qbi b ≤ 1000000000) : qt E 34 [qk5 b] st fun r st' => r = Iv (qbi b + b.tail.length) ∧ st' = st := by
 have hw := fun st => qtt b st hb he
 refine yr [.a (qk5 b)] (zi _) Tryz.func34 rfl rfl (fun _ => rfl) rfl fun S0 => ?_
 apply zd []
 repeat' (first
  | apply And.intro
  | (intro h; first | (exfalso; omega) | (exfalso; exact h rfl) | (exfalso; revert h; decide) | skip)
  | exact ⟨Tryz.call28⟩
  | (refine Exists.intro _ ⟨qw (hw) rfl, ?_⟩)
  | exact rfl
  | exact trivial
  | exact fun _ => rfl
  | exact zb _
  | apply qz []
  | exact DrOk.mk (by kernel_rfl)
  | exact qn fun _ => rfl
  | omega
  | (simp only [List.length_map, List.length_append, List.length_cons, List.length_nil, List.length_take, List.length_drop]; omega)
  | exact zh
  | (refine Exists.intro _ ⟨rfl, ?_⟩)
  | refine zu ?_)
theorem qzz (st : List AObj) : qt E 24 [] st fun r st' => r = Bv true ∧ st' = st := by
 have hb := qvu ex13
 have hrd := fun st => qv2 [65, 58, 32, 49, 10, 37, 97, 109] st (by simp)
 rw [hb] at hrd
 have hw := fun st => qtt ⟨0, [65, 58, 32, 49, 10], [], [], [37, 97, 109]⟩ st (by simp) (by simp)
 have hs := fun st => q3q ⟨0, [65, 58, 32, 49, 10], [], [], [37, 97, 109]⟩ st (by simp) (by simp) (by simp) (by decide +kernel) (by decide +kernel)
 rw [show qbi ⟨0, [65, 58, 32, 49, 10], [], [], [37, 97, 109]⟩ = 5 by decide +kernel] at hw hs
 refine yr [] (zi _) Tryz.func24 rfl rfl (fun _ => rfl) rfl fun S0 => ?_
 apply zd []
 repeat' (first
  | apply And.intro
  | (intro h; first | (exfalso; omega) | (exfalso; exact h rfl) | (exfalso; revert h; decide) | skip)
  | exact ⟨Tryz.call27⟩
  | (refine Exists.intro _ ⟨qw (hrd) rfl, ?_⟩)
  | exact ⟨Tryz.call34⟩
  | (refine Exists.intro _ ⟨qw (hs) rfl, ?_⟩)
  | exact ⟨Tryz.call28⟩
  | (refine Exists.intro _ ⟨qw (hw) rfl, ?_⟩)
  | exact rfl
  | exact trivial
  | exact fun _ => rfl
  | exact zb _
  | apply qz []
  | exact DrOk.mk (by kernel_rfl)
  | exact qn fun _ => rfl
  | omega
  | (simp only [List.length_map, List.length_append, List.length_cons, List.length_nil, List.length_take, List.length_drop]; omega)
  | exact zh
  | (refine Exists.intro _ ⟨rfl, ?_⟩)
  | refine zu ?_)
theorem qwd {gen : Int} {text s : qa} (h : qak gen text = (.no, s)) : s = wo gen ++ text := by
 rw [qqc] at h
 split at h
 ·simp at h
 ·split at h
  ·simpa using h.symm
  ·rename_i hp
   simp only [Prod.mk.injEq] at h
   exact absurd h.1 hp
theorem qul (gen : Int) (text : qa) (st : List AObj) : qt E 5 [Iv gen, Sv text] st fun r st' => r = Bv true ∧ st' = st := by
 refine yr [.i gen, .s text] (zi _) Tryz.func5 rfl rfl (fun _ => rfl) rfl fun S0 => ?_
 have hal := qzz
 by_cases h4 : 4000 < text.length
 ·apply zd []
  repeat' (first
   | apply And.intro
   | (intro h; first | (exfalso; omega) | (exfalso; exact h rfl) | (exfalso; revert h; decide) | skip)
   | exact ⟨Tryz.call24⟩
   | (refine Exists.intro _ ⟨qw (hal) rfl, ?_⟩)
   | exact rfl
   | exact trivial
   | exact fun _ => rfl
   | exact zb _
   | apply qz []
   | exact DrOk.mk (by kernel_rfl)
   | exact qn fun _ => rfl
   | omega
   | (simp only [List.length_map, List.length_append, List.length_cons, List.length_nil, List.length_take, List.length_drop]; omega)
   | exact zh
   | (refine Exists.intro _ ⟨rfl, ?_⟩)
   | refine zu ?_)
 ·have hfr := fun st => q1v gen text st (by omega)
  have hrf := fun st => qtu gen text st (by omega)
  have hok := q0p gen text
  have hat := fun st => q5r (qak gen text).1 st
  have hnm := fun st => q5l (qak gen text).1 st hok
  cases hb : qak gen text with
  | mk e s =>
  rw [hb] at hfr hrf hat hnm hok
  cases e with
  | num n =>
   have hn : n ≠ 0 := hok
   simp only [ErrV.code, ErrV.pos] at hfr hrf hat hnm
   apply zd []
   repeat' (first
    | apply And.intro
    | (intro h; first | (exfalso; omega) | (exfalso; exact h rfl) | (exfalso; revert h; decide) | skip)
    | exact ⟨Tryz.call24⟩
    | (refine Exists.intro _ ⟨qw (hal) rfl, ?_⟩)
    | exact ⟨Tryz.call25⟩
    | (refine Exists.intro _ ⟨qw (hfr) rfl, ?_⟩)
    | exact ⟨Tryz.call26⟩
    | (refine Exists.intro _ ⟨qw (hrf) rfl, ?_⟩)
    | exact ⟨Tryz.call19⟩
    | (refine Exists.intro _ ⟨qw (hnm) rfl, ?_⟩)
    | exact ⟨Tryz.call20⟩
    | (refine Exists.intro _ ⟨qw (hat) rfl, ?_⟩)
    | exact rfl
    | exact trivial
    | exact fun _ => rfl
    | exact zb _
    | apply qz []
    | exact DrOk.mk (by kernel_rfl)
    | exact qn fun _ => rfl
    | omega
    | (simp only [List.length_map, List.length_append, List.length_cons, List.length_nil, List.length_take, List.length_drop]; omega)
    | exact zh
    | (refine Exists.intro _ ⟨rfl, ?_⟩)
    | refine zu ?_)
  | at' p n =>
   have hn : n ≠ 0 := hok
   simp only [ErrV.code, ErrV.pos] at hfr hrf hat hnm
   apply zd []
   repeat' (first
    | apply And.intro
    | (intro h; first | (exfalso; omega) | (exfalso; exact h rfl) | (exfalso; revert h; decide) | skip)
    | exact ⟨Tryz.call24⟩
    | (refine Exists.intro _ ⟨qw (hal) rfl, ?_⟩)
    | exact ⟨Tryz.call25⟩
    | (refine Exists.intro _ ⟨qw (hfr) rfl, ?_⟩)
    | exact ⟨Tryz.call26⟩
    | (refine Exists.intro _ ⟨qw (hrf) rfl, ?_⟩)
    | exact ⟨Tryz.call19⟩
    | (refine Exists.intro _ ⟨qw (hnm) rfl, ?_⟩)
    | exact ⟨Tryz.call20⟩
    | (refine Exists.intro _ ⟨qw (hat) rfl, ?_⟩)
    | exact rfl
    | exact trivial
    | exact fun _ => rfl
    | exact zb _
    | apply qz []
    | exact DrOk.mk (by kernel_rfl)
    | exact qn fun _ => rfl
    | omega
    | (simp only [List.length_map, List.length_append, List.length_cons, List.length_nil, List.length_take, List.length_drop]; omega)
    | exact zh
    | (refine Exists.intro _ ⟨rfl, ?_⟩)
    | refine zu ?_)
  | no =>
   simp only [ErrV.code, ErrV.pos] at hfr hrf hat hnm
   have hs := qwd hb
   have hh := qmv gen
   have hsl : s.length < 1000000 := by rw [hs]; simp; omega
   by_cases h0 : gen = 0
   ·apply zd []
    repeat' (first
     | apply And.intro
     | (intro h; first | (exfalso; omega) | (exfalso; exact h rfl) | (exfalso; revert h; decide) | skip)
     | exact ⟨Tryz.call24⟩
     | (refine Exists.intro _ ⟨qw (hal) rfl, ?_⟩)
     | exact ⟨Tryz.call25⟩
     | (refine Exists.intro _ ⟨qw (hfr) rfl, ?_⟩)
     | exact ⟨Tryz.call26⟩
     | (refine Exists.intro _ ⟨qw (hrf) rfl, ?_⟩)
     | exact ⟨Tryz.call19⟩
     | (refine Exists.intro _ ⟨qw (hnm) rfl, ?_⟩)
     | exact ⟨Tryz.call20⟩
     | (refine Exists.intro _ ⟨qw (hat) rfl, ?_⟩)
     | exact rfl
     | exact trivial
     | exact fun _ => rfl
     | exact zb _
     | apply qz []
     | exact DrOk.mk (by kernel_rfl)
     | exact qn fun _ => rfl
     | omega
     | (simp only [List.length_map, List.length_append, List.length_cons, List.length_nil, List.length_take, List.length_drop]; omega)
     | exact zh
     | (refine Exists.intro _ ⟨rfl, ?_⟩)
     | refine zu ?_)
   ·have hrd := fun st => qv2 s st hsl
    rw [qvu (qv8 hb h0 (by omega))] at hrd
    apply zd []
    repeat' (first
     | apply And.intro
     | (intro h; first | (exfalso; omega) | (exfalso; exact h rfl) | (exfalso; revert h; decide) | skip)
     | exact ⟨Tryz.call24⟩
     | (refine Exists.intro _ ⟨qw (hal) rfl, ?_⟩)
     | exact ⟨Tryz.call25⟩
     | (refine Exists.intro _ ⟨qw (hfr) rfl, ?_⟩)
     | exact ⟨Tryz.call26⟩
     | (refine Exists.intro _ ⟨qw (hrf) rfl, ?_⟩)
     | exact ⟨Tryz.call19⟩
     | (refine Exists.intro _ ⟨qw (hnm) rfl, ?_⟩)
     | exact ⟨Tryz.call20⟩
     | (refine Exists.intro _ ⟨qw (hat) rfl, ?_⟩)
     | exact ⟨Tryz.call27⟩
     | (refine Exists.intro _ ⟨qw (hrd) rfl, ?_⟩)
     | exact rfl
     | exact trivial
     | exact fun _ => rfl
     | exact zb _
     | apply qz []
     | exact DrOk.mk (by kernel_rfl)
     | exact qn fun _ => rfl
     | omega
     | (simp only [List.length_map, List.length_append, List.length_cons, List.length_nil, List.length_take, List.length_drop]; omega)
     | exact zh
     | (refine Exists.intro _ ⟨rfl, ?_⟩)
     | refine zu ?_)
theorem qum (gen : Int) (hg : -9223372036854775808 ≤ gen ∧ gen ≤ 9223372036854775807) (text : qa) (st : List AObj) : qt E 5 [Iv gen, Sv text] st fun r st' => r = Bv true ∧ st' = st := qul gen text st
end Go.Proofs.YtefmcijohgpfhaaGreatDoor
set_option maxRecDepth 100000
set_option linter.unusedVariables false
namespace Go.Proofs.YtefmcijohgpfhaaGreatDoor
open Go Go.Av Go.RowKit Go.Proofs Go.Pl
theorem qi0 : ∀ (n : Nat) (rest : qa) (k : Nat) (p : PSt), rest.length ≤ n → PB (4 * k) p → k + rest.length ≤ 60000 → (runL k (jm rest) p).2.items.length ≤ 300000 := by
 have nil : ∀ (k : Nat) (p : PSt), PB (4 * k) p → k ≤ 60000 → (runL k (jm []) p).2.items.length ≤ 300000 := fun k p hB hk => by
  have e : vu p 0 [] true 1 = endP p := rfl
  have h := qg1 (no := 0) (text := []) (ended := true) (kind := 1) hB (by omega) (by simp)
  rw [e] at h
  have e2 : runL k (jm []) p = endP p := by rw [x7]; rfl
  rw [e2]
  have := h.items
  omega
 intro n
 induction n with
 | zero =>
  intro rest k p hr hB hk
  obtain rfl : rest = [] := List.eq_nil_of_length_eq_zero (by omega)
  exact nil k p hB (by simpa using hk)
 | succ n ih =>
  intro rest k p hr hB hk
  by_cases hne : rest = []
  ·subst hne
   exact nil k p hB (by simpa using hk)
  ·have hu := wt 10 rest
   have hpl := wr 10 rest
   have hr0 : 0 < rest.length := List.length_pos_iff.2 hne
   rw [x4 hne]
   simp only [runL]
   have hB2 := qsm (no := k) (text := upto 10 rest) (ended := decide (10 ∈ rest)) hB (by omega) (by omega)
   split
   ·have := hB.items
    simp only
    omega
   ·exact ih (past 10 rest) (k + 1) _ (by omega) hB2 (by omega)
end Go.Proofs.YtefmcijohgpfhaaGreatDoor
