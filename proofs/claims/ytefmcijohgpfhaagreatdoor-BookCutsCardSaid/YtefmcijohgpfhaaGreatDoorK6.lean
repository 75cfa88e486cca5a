/- Contracts and plain facts that the closing text leans on (part 6). No condition of their own beyond those that each states. -/
import Derived.Test.YtefmcijohgpfhaaGreatDoorK5
import Derived.LaidEql
import Derived.Stop.Asserts
import Derived.RowKitTokens
import Derived.Laws.StructEq
set_option maxRecDepth 100000
set_option linter.unusedVariables false
set_option linter.unusedSimpArgs false
set_option maxRecDepth 100000
set_option linter.unusedVariables false
namespace Go.Pl
open Go Go.Proofs
def jq (p : PSt) (no : Int) (text : qa) : PSt := { p with lines := [text], frm := no, full := decide (p.fields.length = 40 ∨ (p.fields.length = 0 ∧ p.records = 400)) }
def jd (p : PSt) (no : Int) (text : qa) (ended : Bool) (kind : Int) : Option (Int × Int) × PSt :=
 if kind = 3 then
  if p.lines = [] then (some (no, 2), p)
  else if ended = true then (none, { p with lines := p.lines ++ [text] })
  else je { p with lines := p.lines ++ [text] }
 else if kind = 1 then endP p
 else je p
end Go.Pl
set_option maxRecDepth 100000
set_option linter.unusedVariables false
namespace Go.Pl
open Go Go.Proofs
def vf (p : PSt) (no : Int) (text : qa) (ended : Bool) : Option (Int × Int) × PSt :=
 match (jd p no text ended (qx text)).1 with
 | some e => (some e, p)
 | none =>
  if qx text = 5 ∨ ended = false then (some (no, 2), p)
  else if qx text = 1 then (none, { (jd p no text ended (qx text)).2 with items := (jd p no text ended (qx text)).2.items ++ [⟨1, text ++ [10], []⟩] })
  else if qx text = 4 then (none, { jq (jd p no text ended (qx text)).2 no text with block := (jd p no text ended (qx text)).2.block ++ [text] })
  else (none, { (jd p no text ended (qx text)).2 with block := (jd p no text ended (qx text)).2.block ++ [text] })
end Go.Pl
namespace Go.Proofs.YtefmcijohgpfhaaGreatDoor
open Go Go.Av Go.RowKit Go.Proofs Go.Pl
theorem PB.more {n m : Nat} {p : PSt} (h : PB n p) (hm : n ≤ m) (hs : m < 900000) : PB m p := by
 have h1 := h.lines; have h2 := h.items; have h3 := h.block; have h4 := h.fields; have h5 := h.rec0; have h6 := h.rec1
 exact ⟨hs, by omega, h.linesV, by omega, by omega, h.blockV, by omega, h5, by omega⟩
theorem qyg {n : Nat} {p : PSt} (h : PB n p) (hs : n + 1 < 900000) : PB (n + 1) (w7 p) := by
 have h1 := h.lines; have h2 := h.items; have h3 := h.block; have h4 := h.fields; have h5 := h.rec0; have h6 := h.rec1
 unfold w7
 split
 ·exact ⟨hs, by simp only; omega, h.linesV, by simp only; omega, by simp, by simp, by simp, h5, by simp only; omega⟩
 ·refine ⟨hs, by simp only; omega, h.linesV, by simp; omega, by simp, by simp, by simp, ?_, ?_⟩
  ·simp only; split <;> omega
  ·simp only; split <;> omega
theorem qmj {n : Nat} {p : PSt} {text : qa} (h : PB n p) (hs : n + 1 < 900000) (ht : text.length < 1000000) : PB (n + 1) { p with lines := p.lines ++ [text] } := by
 have h1 := h.lines; have h2 := h.items; have h3 := h.block; have h4 := h.fields; have h5 := h.rec0; have h6 := h.rec1
 exact ⟨hs, by simp; omega, qth h.linesV ht, by simp only; omega, by simp only; omega, h.blockV, by simp only; omega, h5, by simp only; omega⟩
theorem qrz {n : Nat} {p : PSt} {text : qa} (h : PB n p) (hs : n + 1 < 900000) (ht : text.length < 1000000) : PB (n + 1) { p with block := p.block ++ [text] } := by
 have h1 := h.lines; have h2 := h.items; have h3 := h.block; have h4 := h.fields; have h5 := h.rec0; have h6 := h.rec1
 exact ⟨hs, by simp only; omega, h.linesV, by simp only; omega, by simp; omega, qth h.blockV ht, by simp only; omega, h5, by simp only; omega⟩
theorem q0y {n : Nat} {p : PSt} {x : ka} (h : PB n p) (hs : n + 1 < 900000) : PB (n + 1) { p with items := p.items ++ [x] } := by
 have h1 := h.lines; have h2 := h.items; have h3 := h.block; have h4 := h.fields; have h5 := h.rec0; have h6 := h.rec1
 exact ⟨hs, by simp only; omega, h.linesV, by simp; omega, by simp only; omega, h.blockV, by simp only; omega, h5, by simp only; omega⟩
theorem q08 {n : Nat} {p : PSt} {no : Int} {text : qa} (h : PB n p) (hs : n + 1 < 900000) (ht : text.length < 1000000) : PB (n + 1) (jq p no text) := by
 have h1 := h.lines; have h2 := h.items; have h3 := h.block; have h4 := h.fields; have h5 := h.rec0; have h6 := h.rec1
 exact ⟨hs, by simp [jq], by simp [jq, ht], by simp only [jq]; omega, by simp only [jq]; omega, h.blockV, by simp only [jq]; omega, h5, by simp only [jq]; omega⟩
theorem qj5 {n : Nat} {p : PSt} {no : Int} {text : qa} {ended : Bool} {kind : Int} (h : PB n p) (hs : n + 2 < 900000) (ht : text.length < 1000000) : PB (n + 2) (jd p no text ended kind).2 := by
 unfold jd
 split
 ·split
  ·exact h.more (by omega) hs
  ·split
   ·exact (qmj h (by omega) ht).more (by omega) hs
   ·exact qgn (qmj h (by omega) ht) hs
 ·split
  ·unfold endP
   split
   ·exact h.more (by omega) hs
   ·exact qyg (qgn h (by omega)) hs
  ·exact (qgn h (by omega)).more (by omega) hs
theorem qn7 (l : qa) : 1 ≤ qx l ∧ qx l ≤ 5 := by
 unfold qx
 repeat' split
 all_goals decide
theorem q19 {n : Nat} {p : PSt} {no : Int} {text : qa} {ended : Bool} (h : PB n p) (hs : n + 4 < 900000) (ht : text.length < 1000000) : PB (n + 4) (vf p no text ended).2 := by
 have h2 : PB (n + 2) (jd p no text ended (qx text)).2 := qj5 h (by omega) ht
 unfold vf
 split
 ·exact h.more (by omega) hs
 ·split
  ·exact h.more (by omega) hs
  ·split
   ·exact (q0y h2 (by omega)).more (by omega) hs
   ·split
    ·exact qrz (q08 h2 (by omega) ht) hs ht
    ·exact (qrz h2 (by omega) ht).more (by omega) hs
end Go.Proofs.YtefmcijohgpfhaaGreatDoor
set_option maxRecDepth 100000
set_option linter.unusedVariables false
namespace Go.Proofs.YtefmcijohgpfhaaGreatDoor
open Go Go.Av Go.RowKit Go.Proofs Go.Pl
theorem qxm (n : Nat) (p : PSt) (no at' : Int) (text : qa) (ended : Bool) (hB : PB n p) : x6 E 135 [.bx 0 0, .ag [.i no, .i at', .s text, .b ended]] 5 (hpF (parH 1 p)) ⟨.tu [], wn (parH 1 p), parH 5 (jq p no text) ++ ya (parH 1 p), 9⟩ := by
  refine qd6 [.bx 0 0, .ag [.i no, .i at', .s text, .b ended]] (parH 1 p) 5 (.tu []) (parH 5 (jq p no text)) 9 Tryz.func135 rfl rfl rfl rfl fun S F ρ => ?_
  obtain ⟨ls, fr, fu, its, bk, fs, rc⟩ := p
  have hml : (fs.map fldA).length = fs.length := by simp
  by_cases ha : fs.length = 40 ∨ (fs.length = 0 ∧ rc = 400)
  · have e : jq ⟨ls, fr, fu, its, bk, fs, rc⟩ no text = ⟨[text], no, true, its, bk, fs, rc⟩ := by
      unfold jq
      simp only [decide_eq_true ha]
    rw [e]
    apply qr [29]
    repeat' (first
      | apply And.intro
      | (intro h; first | (exfalso; omega) | (exfalso; exact h rfl) | (exfalso; revert h; decide) | skip)
      | exact rfl
      | exact trivial
      | exact fun _ => rfl
      | exact qp _
      | apply qn [29]
      | exact DrOk.mk (by kernel_rfl)
      | exact qi fun _ => rfl
      | omega
      | (simp only [List.length_map, List.length_append, List.length_cons, List.length_nil, List.length_take, List.length_drop]; omega)
      | exact qw
      | (refine Exists.intro _ ⟨rfl, ?_⟩)
      | refine q7 ?_)
    all_goals (intros; simp only [hml] at *; first | (exfalso; omega) | (have hrc : rc = 400 := by omega
                                                                         subst hrc; rfl))
  · have e : jq ⟨ls, fr, fu, its, bk, fs, rc⟩ no text = ⟨[text], no, false, its, bk, fs, rc⟩ := by
      unfold jq
      simp only [decide_eq_false ha]
    rw [e]
    apply qr [29]
    repeat' (first
      | apply And.intro
      | (intro h; first | (exfalso; omega) | (exfalso; exact h rfl) | (exfalso; revert h; decide) | skip)
      | exact rfl
      | exact trivial
      | exact fun _ => rfl
      | exact qp _
      | apply qn [29]
      | exact DrOk.mk (by kernel_rfl)
      | exact qi fun _ => rfl
      | omega
      | (simp only [List.length_map, List.length_append, List.length_cons, List.length_nil, List.length_take, List.length_drop]; omega)
      | exact qw
      | (refine Exists.intro _ ⟨rfl, ?_⟩)
      | refine q7 ?_)
    all_goals (intros; simp only [hml] at *; first | (exfalso; omega) | (have hrc : ¬ rc = 400 := by omega
                                                                         simp [SV.evs, SV.ev, SV.rens, SV.ren, lkS, ko, hrc]; exact ⟨rfl, rfl, rfl⟩))
theorem qpk (n : Nat) (p : PSt) (no at' : Int) (text : qa) (ended : Bool) (kind : Int) (hB : PB n p) (hs : n + 2 < 900000) (ht : text.length < 1000000) : x6 E 133 [.bx 0 0, .ag [.i no, .i at', .s text, .b ended], .i kind] 5 (hpF (parH 1 p)) ⟨.a (errP (jd p no text ended kind).1), wn (parH 1 p), parH 5 (jd p no text ended kind).2 ++ ya (parH 1 p), 9⟩ := by
 refine qd6 [.bx 0 0, .ag [.i no, .i at', .s text, .b ended], .i kind] (parH 1 p) 5 (.a (errP (jd p no text ended kind).1)) (parH 5 (jd p no text ended kind).2) 9 Tryz.func133 rfl rfl rfl rfl fun S F ρ => ?_
 unfold jd
 by_cases hk3 : kind = 3
 ·rw [if_pos hk3]
  by_cases h0 : p.lines = []
  ·rw [if_pos h0]
   have hl0 : (p.lines.map fun x => Sv x).length = 0 := by simp [h0]
   have hft := fun st => qiw no 2 st
   apply qr []
   repeat' (first
    | apply And.intro
    | (intro h; first | (exfalso; omega) | (exfalso; exact h rfl) | (exfalso; revert h; decide) | skip)
    | exact ⟨Tryz.call134⟩
    | (refine Exists.intro _ ⟨ql (hft) rfl, ?_⟩)
    | exact rfl
    | exact trivial
    | exact fun _ => rfl
    | exact qp _
    | apply qn []
    | exact DrOk.mk (by kernel_rfl)
    | exact qi fun _ => rfl
    | omega
    | (simp only [List.length_map, List.length_append, List.length_cons, List.length_nil, List.length_take, List.length_drop]; omega)
    | exact qw
    | (refine Exists.intro _ ⟨rfl, ?_⟩)
    | refine q7 ?_)
  ·rw [if_neg h0]
   have hl0 : (p.lines.map fun x => Sv x).length ≠ 0 := by simp [h0]
   have hll := hB.lines
   have hsm := hB.small
   have hml : (p.lines.map fun x => Sv x).length = p.lines.length := by simp
   have hfc := qmr (n + 1) { p with lines := p.lines ++ [text] } (qmj hB (by omega) ht)
   cases ended with
   | true =>
    rw [if_pos rfl]
    apply qr []
    repeat' (first
     | apply And.intro
     | (intro h; first | (exfalso; omega) | (exfalso; exact h rfl) | (exfalso; revert h; decide) | skip)
     | (exact absurd (by assumption : true = false) (by decide))
     | exact rfl
     | exact trivial
     | exact fun _ => rfl
     | exact qp _
     | apply qn []
     | exact DrOk.mk (by kernel_rfl)
     | exact qi fun _ => rfl
     | omega
     | (simp only [List.length_map, List.length_append, List.length_cons, List.length_nil, List.length_take, List.length_drop]; omega)
     | exact qw
     | (refine Exists.intro _ ⟨rfl, ?_⟩)
     | refine q7 ?_)
    all_goals first | (simp [SV.evs, SV.ev]; done) | (simp [SV.evs]; omega)
   | false =>
    rw [if_neg (by decide)]
    apply qr []
    repeat' (first
     | apply And.intro
     | (intro h; first | (exfalso; omega) | (exfalso; exact h rfl) | (exfalso; revert h; decide) | skip)
     | (exact absurd (by assumption : false = true) (by decide))
     | exact ⟨Tryz.call136⟩
     | (refine xl hfc ?_)
     | exact rfl
     | exact trivial
     | exact fun _ => rfl
     | exact qp _
     | apply qn []
     | exact DrOk.mk (by kernel_rfl)
     | exact qi fun _ => rfl
     | omega
     | (simp only [List.length_map, List.length_append, List.length_cons, List.length_nil, List.length_take, List.length_drop]; omega)
     | exact qw
     | (refine Exists.intro _ ⟨rfl, ?_⟩)
     | refine q7 ?_)
    all_goals first | (simp [SV.evs, SV.ev]; done) | (simp [SV.evs]; omega)
 ·rw [if_neg hk3]
  by_cases hk1 : kind = 1
  ·rw [if_pos hk1]
   have hfc := qu8 n p hB (by omega)
   apply qr []
   repeat' (first
    | apply And.intro
    | (intro h; first | (exfalso; omega) | (exfalso; exact h rfl) | (exfalso; revert h; decide) | skip)
    | exact ⟨Tryz.call93⟩
    | (refine xl hfc ?_)
    | exact rfl
    | exact trivial
    | exact fun _ => rfl
    | exact qp _
    | apply qn []
    | exact DrOk.mk (by kernel_rfl)
    | exact qi fun _ => rfl
    | omega
    | (simp only [List.length_map, List.length_append, List.length_cons, List.length_nil, List.length_take, List.length_drop]; omega)
    | exact qw
    | (refine Exists.intro _ ⟨rfl, ?_⟩)
    | refine q7 ?_)
  ·rw [if_neg hk1]
   have hfc := qmr n p hB
   apply qr []
   repeat' (first
    | apply And.intro
    | (intro h; first | (exfalso; omega) | (exfalso; exact h rfl) | (exfalso; revert h; decide) | skip)
    | exact ⟨Tryz.call136⟩
    | (refine xl hfc ?_)
    | exact rfl
    | exact trivial
    | exact fun _ => rfl
    | exact qp _
    | apply qn []
    | exact DrOk.mk (by kernel_rfl)
    | exact qi fun _ => rfl
    | omega
    | (simp only [List.length_map, List.length_append, List.length_cons, List.length_nil, List.length_take, List.length_drop]; omega)
    | exact qw
    | (refine Exists.intro _ ⟨rfl, ?_⟩)
    | refine q7 ?_)
theorem q0g (n : Nat) (p : PSt) (no at' : Int) (text : qa) (ended : Bool) (hB : PB n p) (hs : n + 4 < 900000) (ht : text.length < 1000000) (hok : (vf p no text ended).1 = none) : x6 E 92 [.bx 0 0, .ag [.i no, .i at', .s text, .b ended]] 5 (hpF (parH 1 p)) ⟨.a (.v .nilIface), wn (parH 1 p), parH 5 (vf p no text ended).2 ++ ya (parH 1 p), 9⟩ := by
 refine qd6 [.bx 0 0, .ag [.i no, .i at', .s text, .b ended]] (parH 1 p) 5 (.a (.v .nilIface)) (parH 5 (vf p no text ended).2) 9 Tryz.func92 rfl rfl rfl rfl fun S F ρ => ?_
 have hfc := qpk n p no at' text ended (qx text) hB (by omega) ht
 have hB1 := qj5 (no := no) (text := text) (ended := ended) (kind := qx text) hB (by omega) ht
 have hkr := qn7 text
 have hkd := fun st => qfw text st (by omega)
 unfold vf at hok ⊢
 generalize jd p no text ended (qx text) = fq at hfc hB1 hok ⊢
 obtain ⟨fe, q⟩ := fq
 cases fe with
 | some e => exact absurd hok (by simp)
 | none =>
  dsimp only at hB1 hfc hok ⊢
  have h1 := hB1.block
  have h2 := hB1.items
  have hmb : (q.block.map fun x => Sv x).length = q.block.length := by simp
  have hmi : (q.items.map qa2).length = q.items.length := by simp
  by_cases hk : qx text = 5 ∨ ended = false
  ·rw [if_pos hk] at hok
   exact absurd hok (by simp)
  ·rw [if_neg hk] at hok ⊢
   have hk5 : qx text ≠ 5 := fun h => hk (.inl h)
   obtain rfl : ended = true := by cases ended <;> simp_all
   by_cases hk1 : qx text = 1
   ·rw [if_pos hk1]
    apply qr []
    repeat' (first
     | apply And.intro
     | (intro h; first | (exfalso; omega) | (exfalso; exact h rfl) | (exfalso; revert h; decide) | skip)
     | exact ⟨Tryz.call132⟩
     | (refine Exists.intro _ ⟨ql (hkd) rfl, ?_⟩)
     | exact ⟨Tryz.call133⟩
     | (refine xl hfc ?_)
     | (exact absurd (by assumption : true = false) (by decide))
     | exact rfl
     | exact trivial
     | exact fun _ => rfl
     | exact qp _
     | apply qn []
     | exact DrOk.mk (by kernel_rfl)
     | exact qi fun _ => rfl
     | omega
     | (simp only [List.length_map, List.length_append, List.length_cons, List.length_nil, List.length_take, List.length_drop]; omega)
     | exact qw
     | (refine Exists.intro _ ⟨rfl, ?_⟩)
     | refine q7 ?_)
    all_goals first | (simp [SV.evs, SV.ev]; done) | (simp [SV.evs]; omega)
   ·rw [if_neg hk1]
    by_cases hk4 : qx text = 4
    ·rw [if_pos hk4]
     have hbc := qxm (n + 2) q no at' text true hB1
     apply qr []
     repeat' (first
      | apply And.intro
      | (intro h; first | (exfalso; omega) | (exfalso; exact h rfl) | (exfalso; revert h; decide) | skip)
      | exact ⟨Tryz.call132⟩
      | (refine Exists.intro _ ⟨ql (hkd) rfl, ?_⟩)
      | exact ⟨Tryz.call133⟩
      | (refine xl hfc ?_)
      | exact ⟨Tryz.call135⟩
      | (refine xl hbc ?_)
      | (exact absurd (by assumption : true = false) (by decide))
      | exact rfl
      | exact trivial
      | exact fun _ => rfl
      | exact qp _
      | apply qn []
      | exact DrOk.mk (by kernel_rfl)
      | exact qi fun _ => rfl
      | omega
      | (simp only [List.length_map, List.length_append, List.length_cons, List.length_nil, List.length_take, List.length_drop]; omega)
      | exact qw
      | (refine Exists.intro _ ⟨rfl, ?_⟩)
      | refine q7 ?_)
     all_goals first | (simp [SV.evs, SV.ev, jq]; done) | (simp [SV.evs, jq]; omega)
    ·rw [if_neg hk4]
     apply qr []
     repeat' (first
      | apply And.intro
      | (intro h; first | (exfalso; omega) | (exfalso; exact h rfl) | (exfalso; revert h; decide) | skip)
      | exact ⟨Tryz.call132⟩
      | (refine Exists.intro _ ⟨ql (hkd) rfl, ?_⟩)
      | exact ⟨Tryz.call133⟩
      | (refine xl hfc ?_)
      | (exact absurd (by assumption : true = false) (by decide))
      | exact rfl
      | exact trivial
      | exact fun _ => rfl
      | exact qp _
      | apply qn []
      | exact DrOk.mk (by kernel_rfl)
      | exact qi fun _ => rfl
      | omega
      | (simp only [List.length_map, List.length_append, List.length_cons, List.length_nil, List.length_take, List.length_drop]; omega)
      | exact qw
      | (refine Exists.intro _ ⟨rfl, ?_⟩)
      | refine q7 ?_)
     all_goals first | (simp [SV.evs, SV.ev]; done) | (simp [SV.evs]; omega)
theorem q0p (n : Nat) (p : PSt) (no at' : Int) (text : qa) (ended : Bool) (hB : PB n p) (hs : n + 4 < 900000) (ht : text.length < 1000000) (a m : Int) (hok : (vf p no text ended).1 = some (a, m)) : x6 E 92 [.bx 0 0, .ag [.i no, .i at', .s text, .b ended]] 5 (hpF (parH 1 p)) ⟨.a (qen a m), wn (parH 1 p), parH 5 (jd p no text ended (qx text)).2 ++ ya (parH 1 p), 9⟩ := by
 refine qd6 [.bx 0 0, .ag [.i no, .i at', .s text, .b ended]] (parH 1 p) 5 (.a (qen a m)) (parH 5 (jd p no text ended (qx text)).2) 9 Tryz.func92 rfl rfl rfl rfl fun S F ρ => ?_
 have hfc := qpk n p no at' text ended (qx text) hB (by omega) ht
 have hB1 := qj5 (no := no) (text := text) (ended := ended) (kind := qx text) hB (by omega) ht
 have hkr := qn7 text
 have hkd := fun st => qfw text st (by omega)
 unfold vf at hok
 generalize jd p no text ended (qx text) = fq at hfc hB1 hok ⊢
 obtain ⟨fe, q⟩ := fq
 cases fe with
 | some e =>
  dsimp only at hB1 hfc hok ⊢
  obtain rfl : e = (a, m) := by simpa using hok
  apply qr []
  repeat' (first
   | apply And.intro
   | (intro h; first | (exfalso; omega) | (exfalso; exact h rfl) | (exfalso; revert h; decide) | skip)
   | exact ⟨Tryz.call132⟩
   | (refine Exists.intro _ ⟨ql (hkd) rfl, ?_⟩)
   | exact ⟨Tryz.call133⟩
   | (refine xl hfc ?_)
   | exact rfl
   | exact trivial
   | exact fun _ => rfl
   | exact qp _
   | apply qn []
   | exact DrOk.mk (by kernel_rfl)
   | exact qi fun _ => rfl
   | omega
   | (simp only [List.length_map, List.length_append, List.length_cons, List.length_nil, List.length_take, List.length_drop]; omega)
   | exact qw
   | (refine Exists.intro _ ⟨rfl, ?_⟩)
   | refine q7 ?_)
 | none =>
  dsimp only at hB1 hfc hok ⊢
  by_cases hk : qx text = 5 ∨ ended = false
  ·rw [if_pos hk] at hok
   obtain ⟨rfl, rfl⟩ : no = a ∧ 2 = m := by simpa using hok
   have hft := fun st => qiw no 2 st
   cases ended with
   | true =>
    have hk5 : qx text = 5 := by simpa using hk
    apply qr []
    repeat' (first
     | apply And.intro
     | (intro h; first | (exfalso; omega) | (exfalso; exact h rfl) | (exfalso; revert h; decide) | skip)
     | exact ⟨Tryz.call132⟩
     | (refine Exists.intro _ ⟨ql (hkd) rfl, ?_⟩)
     | exact ⟨Tryz.call134⟩
     | (refine Exists.intro _ ⟨ql (hft) rfl, ?_⟩)
     | exact ⟨Tryz.call133⟩
     | (refine xl hfc ?_)
     | (exact absurd (by assumption : true = false) (by decide))
     | exact rfl
     | exact trivial
     | exact fun _ => rfl
     | exact qp _
     | apply qn []
     | exact DrOk.mk (by kernel_rfl)
     | exact qi fun _ => rfl
     | omega
     | (simp only [List.length_map, List.length_append, List.length_cons, List.length_nil, List.length_take, List.length_drop]; omega)
     | exact qw
     | (refine Exists.intro _ ⟨rfl, ?_⟩)
     | refine q7 ?_)
   | false =>
    apply qr []
    repeat' (first
     | apply And.intro
     | (intro h; first | (exfalso; omega) | (exfalso; exact h rfl) | (exfalso; revert h; decide) | skip)
     | exact ⟨Tryz.call132⟩
     | (refine Exists.intro _ ⟨ql (hkd) rfl, ?_⟩)
     | exact ⟨Tryz.call134⟩
     | (refine Exists.intro _ ⟨ql (hft) rfl, ?_⟩)
     | exact ⟨Tryz.call133⟩
     | (refine xl hfc ?_)
     | (exact absurd (by assumption : false = true) (by decide))
     | exact rfl
     | exact trivial
     | exact fun _ => rfl
     | exact qp _
     | apply qn []
     | exact DrOk.mk (by kernel_rfl)
     | exact qi fun _ => rfl
     | omega
     | (simp only [List.length_map, List.length_append, List.length_cons, List.length_nil, List.length_take, List.length_drop]; omega)
     | exact qw
     | (refine Exists.intro _ ⟨rfl, ?_⟩)
     | refine q7 ?_)
  ·rw [if_neg hk] at hok
   split at hok
   ·simp at hok
   ·split at hok
    ·simp at hok
    ·simp at hok
end Go.Proofs.YtefmcijohgpfhaaGreatDoor
set_option maxRecDepth 100000
set_option linter.unusedVariables false
namespace Go.Pl
open Go Go.Proofs
def p0 : PSt := ⟨[], 0, false, [], [], [], 0⟩
def runL : Nat → List (qa × Bool) → PSt → Option (Int × Int) × PSt
 | _, [], p => endP p
 | k, (t, e) :: r, p => match (vf p k t e).1 with
  | some x => (some x, p)
  | none => runL (k + 1) r (vf p k t e).2
def jr (text : qa) : Option (Int × Int) × List ka := match (runL 0 (zu text) p0).1 with
 | some e => (some e, [])
 | none => (none, (runL 0 (zu text) p0).2.items)
end Go.Pl
namespace Go.Proofs.YtefmcijohgpfhaaGreatDoor
open Go Go.Av Go.RowKit Go.Proofs Go.Pl
theorem qxy (x : Option (Int × Int)) : Pure (errP x) := by
 rcases x with _ | ⟨a, n⟩
 ·exact zd _
 ·exact qg2 a n
theorem qww (f : Fld) : qkv (fldA f) := fun x hx => by
 simp only [AV.cells, List.mem_cons, List.not_mem_nil, or_false] at hx
 rcases hx with rfl | rfl <;> exact zd _
theorem qdg (fs : List Fld) : Pure (ju fs) := qd7 fun x hx => by
 obtain ⟨f, _, rfl⟩ := List.mem_map.1 hx
 exact qww f
theorem qtw (x : ka) : qkv (qa2 x) := fun y hy => by
 simp only [AV.cells, List.mem_cons, List.not_mem_nil, or_false] at hy
 rcases hy with rfl | rfl | rfl
 ·exact zd _
 ·exact zd _
 ·exact qdg _
theorem qlc (xs : List ka) : Pure (qbv xs) := qd7 fun x hx => by
 obtain ⟨f, _, rfl⟩ := List.mem_map.1 hx
 exact qtw f
theorem wj {x y : AV} (hx : Pure x) (hy : Pure y) : Pure (.tu [x, y]) := qd0 fun z hz => by
 simp only [List.mem_cons, List.not_mem_nil, or_false] at hz
 rcases hz with rfl | rfl
 ·exact hx
 ·exact hy
def qbk (text : qa) : AV := .tu [qbv (jr text).2, errP (jr text).1]
theorem qtk (text : qa) : Pure (qbk text) := wj (qlc _) (qxy _)
theorem qlo {S : List AObj} {o k : Nat} {x : AObj} (h : k ≠ o) : (S.set o x)[k]? = S[k]? := List.getElem?_set_ne (Ne.symm h)
theorem q52 : PB 0 p0 := ⟨by omega, by simp [p0], by simp [p0], by simp [p0], by simp [p0], by simp [p0], by simp [p0], by simp [p0], by simp [p0]⟩
theorem qmo (text : qa) (st : List AObj) (hl : text.length ≤ 60000) : qm E 57 [Sv text] st fun r st' => r = qbk text ∧ st' = st := by
 refine wq [.s text] (qtk text) Tryz.func57 rfl rfl (fun _ => rfl) rfl fun S0 => ?_
 apply qr [13]
 repeat' (first
  | apply And.intro
  | (intro h; first | (exfalso; omega) | (exfalso; exact h rfl) | (exfalso; revert h; decide) | skip)
  | exact ⟨Tryz.call72⟩
  | (refine Exists.intro _ ⟨qix _, ?_⟩)
  | exact rfl
  | exact trivial
  | exact fun _ => rfl
  | exact qp _
  | apply qn [13]
  | exact DrOk.mk (by kernel_rfl)
  | exact qi fun _ => rfl
  | omega
  | (simp only [List.length_map, List.length_append, List.length_cons, List.length_nil, List.length_take, List.length_drop]; omega)
  | exact qw
  | (refine Exists.intro _ ⟨rfl, ?_⟩)
  | refine q7 ?_)
 refine qdz (X := PSt × Option (Int × Int)) text 4 5 [0, 1, 2, 3, 4] (fun (p, e) => ⟨[(2, .bx 0 0), (3, .bx 1 0), (4, .bx 2 0), (15, .fn (.func 113) [] [.bx 4 0])],
   [(0, some (.cells 109 [.a zv])), (1, some (.cells 25 [.a (errP e)])), (2, some (.cells 144 [.bx 3 0])), (3, some (.cells 148 [.tp 5, .i p.frm, .b p.full, .tp 6, .tp 7, .tp 8, .i p.records])), (4, some (.cells 9 [.s text])),
    (5, some (.tip 1 9 (p.lines.map fun x => Sv x))), (6, some (.tip 3 152 (p.items.map qa2))), (7, some (.tip 1 9 (p.block.map fun x => Sv x))), (8, some (.tip 2 69 (p.fields.map fldA)))], 9⟩) _
  (fun k rest (p, e) => e = none ∧ PB (4 * k) p ∧ k + rest.length ≤ text.length ∧ runL 0 (zu text) p0 = runL k (zu rest) p)
  (fun c (p, e) => ∃ a m, c = .ret ∧ e = some (a, m) ∧ (runL 0 (zu text) p0).1 = some (a, m)) (p0, none) ⟨rfl, q52, by omega, rfl⟩ ?_ id (by omega) (fun _ => rfl) rfl (fun _ => rfl) (fun _ => rfl) rfl ?_ ?_ ?_
 ·skip
  repeat' (first
   | apply And.intro
   | (intro h; first | (exfalso; omega) | (exfalso; exact h rfl) | (exfalso; revert h; decide) | skip)
   | exact rfl
   | exact trivial
   | exact fun _ => rfl
   | exact qp _
   | apply qn []
   | exact DrOk.mk (by kernel_rfl)
   | exact qi fun _ => rfl
   | omega
   | (simp only [List.length_map, List.length_append, List.length_cons, List.length_nil, List.length_take, List.length_drop]; omega)
   | exact qw
   | (refine Exists.intro _ ⟨rfl, ?_⟩)
   | refine q7 ?_)
 ·rintro k rest ⟨p, e⟩ ⟨rfl, hB, hkl, hrun⟩ hne hle
  have hcons := v6 hne
  have hu := kl 10 rest
  have hpl := jy 10 rest
  have hr0 : 0 < rest.length := List.length_pos_iff.2 hne
  rw [hcons] at hrun
  simp only [runL] at hrun
  unfold qh8
  generalize hen : decide (10 ∈ rest) = en at hrun
  generalize upto 10 rest = up at hu hrun ⊢
  have hB2 := q19 (no := k) (text := up) (ended := en) hB (by omega) (by omega)
  cases hah : (vf p k up en).1 with
  | some e =>
   obtain ⟨a, m⟩ := e
   rw [hah] at hrun
   simp only at hrun
   have htk := q0p (4 * k) p k ((text.length : Int) - rest.length) up en hB (by omega) (by omega) a m hah
   refine RA.mk fun S F ρ rd => ?_
   apply qr []
   repeat' (first
    | apply And.intro
    | (intro h; first | (exfalso; omega) | (exfalso; exact h rfl) | (exfalso; revert h; decide) | skip)
    | (refine RB.mk fun S rd => ?_; apply qr [])
    | exact ⟨Tryz.call92⟩
    | (refine xl htk ?_)
    | (refine Exists.intro ((jd p k up en (qx up)).2, some (a, m)) ⟨⟨a, m, rfl, rfl, by rw [hrun]⟩, ?_⟩)
    | exact rfl
    | exact trivial
    | exact fun _ => rfl
    | exact qp _
    | apply qn []
    | exact DrOk.mk (by kernel_rfl)
    | exact qi fun _ => rfl
    | omega
    | (simp only [List.length_map, List.length_append, List.length_cons, List.length_nil, List.length_take, List.length_drop]; omega)
    | exact qw
    | (refine Exists.intro _ ⟨rfl, ?_⟩)
    | refine q7 ?_)
   all_goals (rw [← hen]; rfl)
  | none =>
   rw [hah] at hrun
   simp only at hrun
   have htk := q0g (4 * k) p k ((text.length : Int) - rest.length) up en hB (by omega) (by omega) hah
   refine RA.mk fun S F ρ rd => ?_
   apply qr []
   repeat' (first
    | apply And.intro
    | (intro h; first | (exfalso; omega) | (exfalso; exact h rfl) | (exfalso; revert h; decide) | skip)
    | (refine RB.mk fun S rd => ?_; apply qr [])
    | exact ⟨Tryz.call92⟩
    | (refine xl htk ?_)
    | (refine Exists.intro ((vf p k up en).2, none) ⟨⟨rfl, hB2, by omega, hrun⟩, ?_⟩)
    | exact rfl
    | exact trivial
    | exact fun _ => rfl
    | exact qp _
    | apply qn []
    | exact DrOk.mk (by kernel_rfl)
    | exact qi fun _ => rfl
    | omega
    | (simp only [List.length_map, List.length_append, List.length_cons, List.length_nil, List.length_take, List.length_drop]; omega)
    | exact qw
    | (refine Exists.intro _ ⟨rfl, ?_⟩)
    | refine q7 ?_)
   all_goals (rw [← hen]; rfl)
 ·rintro k ⟨p, e⟩ ⟨rfl, hB, hkl, hrun⟩
  have hre : runL k (zu []) p = endP p := by rw [vz]; rfl
  rw [hre] at hrun
  have hpe := qu8 (4 * k) p hB (by omega)
  generalize endP p = fq at hrun hpe
  obtain ⟨fe, q⟩ := fq
  cases fe with
  | some e =>
   have hpf : qbk text = .tu [qbv [], errP (some e)] := by unfold qbk jr; rw [hrun]
   rw [hpf]
   obtain ⟨a, m⟩ := e
   repeat' (first
    | apply And.intro
    | (intro h; first | (exfalso; omega) | (exfalso; exact h rfl) | (exfalso; revert h; decide) | skip)
    | exact ⟨Tryz.call93⟩
    | (refine xl hpe ?_)
    | exact rfl
    | exact trivial
    | exact fun _ => rfl
    | exact qp _
    | apply qn []
    | exact DrOk.mk (by kernel_rfl)
    | exact qi fun _ => rfl
    | omega
    | (simp only [List.length_map, List.length_append, List.length_cons, List.length_nil, List.length_take, List.length_drop]; omega)
    | exact qw
    | (refine Exists.intro _ ⟨rfl, ?_⟩)
    | refine q7 ?_)
  | none =>
   have hpf : qbk text = .tu [qbv q.items, errP none] := by unfold qbk jr; rw [hrun]
   rw [hpf]
   dsimp only at hpe
   repeat' (first
    | apply And.intro
    | (intro h; first | (exfalso; omega) | (exfalso; exact h rfl) | (exfalso; revert h; decide) | skip)
    | exact ⟨Tryz.call93⟩
    | (refine xl hpe ?_)
    | exact rfl
    | exact trivial
    | exact fun _ => rfl
    | exact qp _
    | apply qn []
    | exact DrOk.mk (by kernel_rfl)
    | exact qi fun _ => rfl
    | omega
    | (simp only [List.length_map, List.length_append, List.length_cons, List.length_nil, List.length_take, List.length_drop]; omega)
    | exact qw
    | (refine Exists.intro _ ⟨rfl, ?_⟩)
    | refine q7 ?_)
 ·rintro c ⟨p, e⟩ ⟨a, m, rfl, rfl, hre⟩
  have hpf : qbk text = .tu [qbv [], errP (some (a, m))] := by unfold qbk jr; rw [hre]
  rw [hpf]
  repeat' (first
   | apply And.intro
   | (intro h; first | (exfalso; omega) | (exfalso; exact h rfl) | (exfalso; revert h; decide) | skip)
   | exact rfl
   | exact trivial
   | exact fun _ => rfl
   | exact qp _
   | apply qn []
   | exact DrOk.mk (by kernel_rfl)
   | exact qi fun _ => rfl
   | omega
   | (simp only [List.length_map, List.length_append, List.length_cons, List.length_nil, List.length_take, List.length_drop]; omega)
   | exact qw
   | (refine Exists.intro _ ⟨rfl, ?_⟩)
   | refine q7 ?_)
end Go.Proofs.YtefmcijohgpfhaaGreatDoor
set_option maxRecDepth 100000
set_option linter.unusedVariables false
namespace Go.Proofs.YtefmcijohgpfhaaGreatDoor
open Go Go.RowKit Go.Extern.Stop Go.Stop Go.Extern Go.Proofs
theorem asT.valueOf27 (t : Addr) (w : World) : (ReflectliteValue.unpack (.iface 194 (.pointer (some t)))).run Tryz.prog w
  = .ok (.agg #[.pointer (some ⟨9, 194, none⟩), .pointer (some ⟨w.heap.size, 0, none⟩), .int .u64 150]) (w.alloc (.cells #[.pointer (some t)] 194)) := by kernel_rfl
theorem asT.type27 (a : Addr) (w : World) : (ReflectliteValue.methodAny (ReflectliteValue.valueError "reflectlite.Value.Type" 0) (fun t _ _ _ => ReflectliteType.toType t) #[.agg #[.pointer (some ⟨9, 194, none⟩), .pointer (some a), .int .u64 150]]).run Tryz.prog w
  = .ok (.iface 244 (.agg #[.pointer (some ⟨9, 194, none⟩)])) w := by kernel_rfl
theorem asT.methodKind (h : Value) (w : World) : (Go.method 401 244 (.agg #[h]) "Kind").run Tryz.prog w = .ok (239, h) w := by kernel_rfl
theorem asT.kind27 (w : World) : ((ReflectliteType.abiMethod fun t => (fun a : Nat => Value.int IntKind.u8 (a : Int)) <$> Rtype.kind t) #[.pointer (some ⟨9, 194, none⟩)]).run Tryz.prog w = .ok (.int .u8 22) w := by kernel_rfl
theorem asT.kind25 (w : World) : ((ReflectliteType.abiMethod fun t => (fun a : Nat => Value.int IntKind.u8 (a : Int)) <$> Rtype.kind t) #[.pointer (some ⟨9, 103, none⟩)]).run Tryz.prog w = .ok (.int .u8 22) w := by kernel_rfl
theorem rlm (z : Sem Value) (f : TypeId → Addr → Nat → Nat → Sem Value) (v : Value) :
  ReflectliteValue.method z f #[v] = (do match ← ReflectliteValue.parts v with | none => z | some (t, a, fl) => f t a fl (fl % 32)) := rfl
theorem asT.parts27 (a : Addr) (w : World) : (ReflectliteValue.parts (.agg #[.pointer (some ⟨9, 194, none⟩), .pointer (some a), .int .u64 150])).run Tryz.prog w = .ok (some (194, a, 150)) w := by kernel_rfl
theorem asT.isNil27 (a p : Addr) (W : World) (ha : W.cell? a = some (.pointer (some p))) :
  (ReflectliteValue.method (ReflectliteValue.valueError "reflectlite.Value.IsNil" 0) ReflectliteValue.isNil #[.agg #[.pointer (some ⟨9, 194, none⟩), .pointer (some a), .int .u64 150]]).run Tryz.prog W = .ok (.bool false) W := by
 rw [rlm]
 simp only [Sem.run_bind, asT.parts27, Result.andThen]
 simp [ReflectliteValue.isNil, loadVar, isAgg, underlying, Tryz.underlying194, ha, Result.andThen]
theorem asT.methodElem (h : Value) (w : World) : (Go.method 401 244 (.agg #[h]) "Elem").run Tryz.prog w = .ok (256, .agg #[h]) w := by kernel_rfl
theorem asT.methodImplements (h : Value) (w : World) : (Go.method 401 244 (.agg #[h]) "Implements").run Tryz.prog w = .ok (257, .agg #[h]) w := by kernel_rfl
theorem asT.methodAssignableTo (h : Value) (w : World) : (Go.method 401 244 (.agg #[h]) "AssignableTo").run Tryz.prog w = .ok (254, .agg #[h]) w := by kernel_rfl
theorem asT.elem27 (w : World) : (ReflectliteType.method ReflectliteType.elem #[.agg #[.pointer (some ⟨9, 194, none⟩)]]).run Tryz.prog w = .ok (.iface 244 (.agg #[.pointer (some ⟨9, 103, none⟩)])) w := by kernel_rfl
theorem asT.implements25 (w : World) : (ReflectliteType.relation "Implements" ReflectliteType.implements_ #[.agg #[.pointer (some ⟨9, 103, none⟩)], .iface 244 (.agg #[.pointer (some ⟨9, 25, none⟩)])]).run Tryz.prog w = .ok (.bool true) w := by kernel_rfl
theorem asT.typeOf25 (v : Value) (w : World) : (ReflectliteType.typeOf #[.iface 103 v]).run Tryz.prog w = .ok (.iface 244 (.agg #[.pointer (some ⟨9, 103, none⟩)])) w := by kernel_rfl
theorem asT.assignable25 (w : World) : (ReflectliteType.relation "AssignableTo" ReflectliteType.assignableTo #[.agg #[.pointer (some ⟨9, 103, none⟩)], .iface 244 (.agg #[.pointer (some ⟨9, 103, none⟩)])]).run Tryz.prog w = .ok (.bool true) w := by kernel_rfl
theorem asT.valueOf25 (e : Addr) (w : World) : (ReflectliteValue.unpack (.iface 103 (.pointer (some e)))).run Tryz.prog w
  = .ok (.agg #[.pointer (some ⟨9, 103, none⟩), .pointer (some ⟨w.heap.size, 0, none⟩), .int .u64 150]) (w.alloc (.cells #[.pointer (some e)] 103)) := by kernel_rfl
theorem asT.elemOf27 (w : World) : (Rtype.elem? 194).run Tryz.prog w = .ok (some 103) w := by kernel_rfl
theorem asT.mk25 (p : Addr) (w : World) : (ReflectliteValue.mk 103 p ReflectliteValue.flagAddr).run Tryz.prog w = .ok (.agg #[.pointer (some ⟨9, 103, none⟩), .pointer (some p), .int .u64 406]) w := by kernel_rfl
theorem asT.elemV27 (a p : Addr) (W : World) (ha : W.cell? a = some (.pointer (some p))) :
  (ReflectliteValue.method (ReflectliteValue.valueError "reflectlite.Value.Elem" 0) ReflectliteValue.elem #[.agg #[.pointer (some ⟨9, 194, none⟩), .pointer (some a), .int .u64 150]]).run Tryz.prog W
   = .ok (.agg #[.pointer (some ⟨9, 103, none⟩), .pointer (some p), .int .u64 406]) W := by
 rw [rlm]
 simp only [Sem.run_bind, asT.parts27, Result.andThen]
 simp [ReflectliteValue.elem, loadVar, isAgg, underlying, Tryz.underlying194, ha, Result.andThen, asT.elemOf27, asT.mk25]
theorem rls (v x : Value) : ReflectliteValue.set #[v, x] = (do
  let (some (dst, a, fl), some (src, b, _)) := (← ReflectliteValue.parts v, ← ReflectliteValue.parts x)
   | unsupported (.noEntry "extern/(internal/reflectlite.Value).Set.zeroValue")
  if fl / ReflectliteValue.flagAddr % 2 == 0 then unsupported (.noEntry "extern/(internal/reflectlite.Value).Set.unaddressable")
  let val ← loadVar src b
  if ← Rtype.directlyAssignable dst src then storeVar dst a val
  else if ← Rtype.implements dst src then
   if (← Rtype.kind src) == 20 then
    match val with
    | .nilIface => unsupported (.noEntry "extern/reflectlite: a nil value of one interface type handed on as a value of another")
    | _ => storeVar dst a val
   else storeVar dst a (.iface src val)
  else panicString ("reflectlite.Set: value of type " ++ (← Rtype.spelt src) ++ " is not assignable to type " ++ (← Rtype.spelt dst))
  pure (.tuple #[])) := rfl
theorem asT.parts25a (a : Addr) (w : World) : (ReflectliteValue.parts (.agg #[.pointer (some ⟨9, 103, none⟩), .pointer (some a), .int .u64 406])).run Tryz.prog w = .ok (some (103, a, 406)) w := by kernel_rfl
theorem asT.parts25 (a : Addr) (w : World) : (ReflectliteValue.parts (.agg #[.pointer (some ⟨9, 103, none⟩), .pointer (some a), .int .u64 150])).run Tryz.prog w = .ok (some (103, a, 150)) w := by kernel_rfl
theorem asT.direct25 (w : World) : (Rtype.directlyAssignable 103 103).run Tryz.prog w = .ok true w := by kernel_rfl
theorem asT.set25 (ta b e : Addr) (old : Value) (W : World) (hb : W.cell? b = some (.pointer (some e))) (ht : W.cell? ta = some old) (hf : W.frozen? ta = false) :
  (ReflectliteValue.set #[.agg #[.pointer (some ⟨9, 103, none⟩), .pointer (some ta), .int .u64 406], .agg #[.pointer (some ⟨9, 103, none⟩), .pointer (some b), .int .u64 150]]).run Tryz.prog W
   = .ok (.tuple #[]) (W.setCell ta (.pointer (some e))) := by
 rw [rls]
 simp only [Sem.run_bind, asT.parts25a, asT.parts25, Result.andThen]
 simp [ReflectliteValue.flagAddr, loadVar, isAgg, underlying, Tryz.underlying103, hb, Result.andThen, asT.direct25, storeVar, Value.cells, storeCells, Addr.add]
 rw [run_store Tryz.prog W ta _ _ (by rfl)]
 simp [ht, hf]
set_option maxHeartbeats 4000000 in
theorem q5i (e t : Addr) (old : Value) (w : World) (hg : w.cell? ⟨3, 0, none⟩ = some (.iface 244 (.agg #[.pointer (some ⟨9, 25, none⟩)]))) (ht0 : w.cell? t = some old) (hf0 : w.frozen? t = false) :
  Calls Tryz.prog 158 #[.iface 103 (.pointer (some e)), .iface 194 (.pointer (some t))] w fun ev w' => ev = .returned (.bool true) ∧ w' = ((((w.alloc (.cells #[.pointer (some t)] 194)).alloc (.cells #[.pointer (some ⟨9, 194, none⟩), .pointer (some ⟨w.heap.size, 0, none⟩), .int .u64 150] 213)).alloc (.cells #[.pointer (some ⟨9, 194, none⟩), .pointer (some ⟨w.heap.size, 0, none⟩), .int .u64 150] 213)).alloc (.cells #[.pointer (some e)] 103)).setCell t (.pointer (some e)) := by
 have h6 := @run_callFunc_extern Tryz.prog 177 _ (fun args => ReflectliteValue.unpack (args.getD 0 (.tuple #[]))) Tryz.func177 (by kernel_rfl) (by kernel_rfl) (by kernel_rfl) (by kernel_rfl)
 have h7 := @run_callFunc_extern Tryz.prog 178 _ (ReflectliteValue.methodAny (ReflectliteValue.valueError "reflectlite.Value.Type" 0) (fun t _ _ _ => ReflectliteType.toType t)) Tryz.func178 (by kernel_rfl) (by kernel_rfl) (by kernel_rfl) (by kernel_rfl)
 have h8 := @run_callFunc_extern Tryz.prog 179 _ (ReflectliteValue.method (ReflectliteValue.valueError "reflectlite.Value.IsNil" 0) ReflectliteValue.isNil) Tryz.func179 (by kernel_rfl) (by kernel_rfl) (by kernel_rfl) (by kernel_rfl)
 have h27 := @run_callFunc_extern Tryz.prog 239 _ (ReflectliteType.abiMethod fun t => do pure (.int .u8 (← Rtype.kind t))) Tryz.func239 (by kernel_rfl) (by kernel_rfl) (by kernel_rfl) (by kernel_rfl)
 have h37 := @run_callFunc_extern Tryz.prog 256 _ (ReflectliteType.method ReflectliteType.elem) Tryz.func256 (by kernel_rfl) (by kernel_rfl) (by kernel_rfl) (by kernel_rfl)
 have h38 := @run_callFunc_extern Tryz.prog 257 _ (ReflectliteType.relation "Implements" ReflectliteType.implements_) Tryz.func257 (by kernel_rfl) (by kernel_rfl) (by kernel_rfl) (by kernel_rfl)
 have h10 := @run_callFunc_extern Tryz.prog 202 _ ReflectliteType.typeOf Tryz.func202 (by kernel_rfl) (by kernel_rfl) (by kernel_rfl) (by kernel_rfl)
 have h35 := @run_callFunc_extern Tryz.prog 254 _ (ReflectliteType.relation "AssignableTo" ReflectliteType.assignableTo) Tryz.func254 (by kernel_rfl) (by kernel_rfl) (by kernel_rfl) (by kernel_rfl)
 have h11 := @run_callFunc_extern Tryz.prog 203 _ (ReflectliteValue.method (ReflectliteValue.valueError "reflectlite.Value.Elem" 0) ReflectliteValue.elem) Tryz.func203 (by kernel_rfl) (by kernel_rfl) (by kernel_rfl) (by kernel_rfl)
 have h12 := @run_callFunc_extern Tryz.prog 204 _ ReflectliteValue.set Tryz.func204 (by kernel_rfl) (by kernel_rfl) (by kernel_rfl) (by kernel_rfl)
 have tO := asT.typeOf25
 have mA := asT.methodAssignableTo
 have a25 := asT.assignable25
 have v25 := asT.valueOf25
 have f6 := asT.valueOf27
 have f7 := asT.type27
 have mK := asT.methodKind
 have mE := asT.methodElem
 have mI := asT.methodImplements
 have k27 := asT.kind27
 have k25 := asT.kind25
 have e27 := asT.elem27
 have i25 := asT.implements25
 have n8 := asT.isNil27 ⟨w.heap.size, 0, none⟩ t ((w.alloc (.cells #[.pointer (some t)] 194)).alloc (.cells #[.pointer (some ⟨9, 194, none⟩), .pointer (some ⟨w.heap.size, 0, none⟩), .int .u64 150] 213)) (by simp)
 have hlt : 3 < w.heap.size := by
  rcases Nat.lt_or_ge 3 w.heap.size with h | h
  ·exact h
  ·simp [World.cell?, Array.getElem?_eq_none h] at hg
 have hg2 : ((w.alloc (.cells #[.pointer (some t)] 194)).alloc (.cells #[.pointer (some ⟨9, 194, none⟩), .pointer (some ⟨w.heap.size, 0, none⟩), .int .u64 150] 213)).cell? ⟨3, 0, none⟩ = some (.iface 244 (.agg #[.pointer (some ⟨9, 25, none⟩)])) := by
  rw [World.cell?_alloc_lt _ _ ⟨3, 0, none⟩ (by simp; omega), World.cell?_alloc_lt _ _ ⟨3, 0, none⟩ hlt]; exact hg
 have htl : t.block < w.heap.size := by
  rcases Nat.lt_or_ge t.block w.heap.size with h | h
  ·exact h
  ·simp [World.cell?, Array.getElem?_eq_none h] at ht0
 have el := asT.elemV27 ⟨w.heap.size, 0, none⟩ t (((w.alloc (.cells #[.pointer (some t)] 194)).alloc (.cells #[.pointer (some ⟨9, 194, none⟩), .pointer (some ⟨w.heap.size, 0, none⟩), .int .u64 150] 213)).alloc (.cells #[.pointer (some ⟨9, 194, none⟩), .pointer (some ⟨w.heap.size, 0, none⟩), .int .u64 150] 213)) (by rw [World.cell?_alloc_lt _ _ ⟨w.heap.size, 0, none⟩ (by simp; omega)]; simp)
 have st := asT.set25 t ⟨w.heap.size + 1 + 1 + 1, 0, none⟩ e old ((((w.alloc (.cells #[.pointer (some t)] 194)).alloc (.cells #[.pointer (some ⟨9, 194, none⟩), .pointer (some ⟨w.heap.size, 0, none⟩), .int .u64 150] 213)).alloc (.cells #[.pointer (some ⟨9, 194, none⟩), .pointer (some ⟨w.heap.size, 0, none⟩), .int .u64 150] 213)).alloc (.cells #[.pointer (some e)] 103))
  (by rw [World.cell?_alloc_at _ _ _ _ (by simp)]; rfl)
  (by rw [World.cell?_alloc_lt _ _ t (by simp; omega), World.cell?_alloc_lt _ _ t (by simp; omega), World.cell?_alloc_lt _ _ t (by simp; omega), World.cell?_alloc_lt _ _ t htl]; exact ht0)
  (by rw [World.frozen?_alloc_old _ _ t (by simp; omega), World.frozen?_alloc_old _ _ t (by simp; omega), World.frozen?_alloc_old _ _ t (by simp; omega), World.frozen?_alloc_old _ _ t (Nat.ne_of_lt htl)]; exact hf0)
 go_enter Tryz.func158, Tryz.ntmps158
 go_wp2
 refine wp_loop_rounds 1 ?_
 rw [rounds_succ]
 go_wp2
 go_ret
 exact ⟨rfl, rfl⟩
end Go.Proofs.YtefmcijohgpfhaaGreatDoor
set_option maxRecDepth 100000
set_option linter.unusedVariables false
namespace Go.Proofs.YtefmcijohgpfhaaGreatDoor
open Go Go.RowKit Go.Extern.Stop Go.Stop Go.Extern Go.Proofs
theorem asT.typeOf31 (v : Value) (w : World) : (ReflectliteType.typeOf #[.iface 31 v]).run Tryz.prog w = .ok (.iface 244 (.agg #[.pointer (some ⟨9, 31, none⟩)])) w := by kernel_rfl
theorem asT.assignable31 (w : World) : (ReflectliteType.relation "AssignableTo" ReflectliteType.assignableTo #[.agg #[.pointer (some ⟨9, 31, none⟩)], .iface 244 (.agg #[.pointer (some ⟨9, 103, none⟩)])]).run Tryz.prog w = .ok (.bool false) w := by kernel_rfl
theorem asT.no230 (v : Value) (xT : TypeId) (w : World) : (Instr.typeAssert (.iface 31 v) xT 249 true).run Tryz.prog w = .ok (.tuple #[.nilIface, .bool false]) w := run_typeAssert_lacksB Tryz.underlying249 (by kernel_rfl) (by kernel_rfl) v xT w
theorem asT.no233 (v : Value) (xT : TypeId) (w : World) : (Instr.typeAssert (.iface 31 v) xT 252 true).run Tryz.prog w = .ok (.tuple #[.nilIface, .bool false]) w := run_typeAssert_lacksB Tryz.underlying252 (by kernel_rfl) (by kernel_rfl) v xT w
theorem asT.no234 (v : Value) (xT : TypeId) (w : World) : (Instr.typeAssert (.iface 31 v) xT 253 true).run Tryz.prog w = .ok (.tuple #[.nilIface, .bool false]) w := run_typeAssert_lacksB Tryz.underlying253 (by kernel_rfl) (by kernel_rfl) v xT w
set_option maxHeartbeats 4000000 in
theorem q3z (n : Int) (t : Addr) (old : Value) (w : World) (hg : w.cell? ⟨3, 0, none⟩ = some (.iface 244 (.agg #[.pointer (some ⟨9, 25, none⟩)]))) (ht0 : w.cell? t = some old) :
  Calls Tryz.prog 158 #[.iface 31 (.int .i64 n), .iface 194 (.pointer (some t))] w fun ev w' => ev = .returned (.bool false) ∧ Below w.heap.size w w' := by
 have h6 := @run_callFunc_extern Tryz.prog 177 _ (fun args => ReflectliteValue.unpack (args.getD 0 (.tuple #[]))) Tryz.func177 (by kernel_rfl) (by kernel_rfl) (by kernel_rfl) (by kernel_rfl)
 have h7 := @run_callFunc_extern Tryz.prog 178 _ (ReflectliteValue.methodAny (ReflectliteValue.valueError "reflectlite.Value.Type" 0) (fun t _ _ _ => ReflectliteType.toType t)) Tryz.func178 (by kernel_rfl) (by kernel_rfl) (by kernel_rfl) (by kernel_rfl)
 have h8 := @run_callFunc_extern Tryz.prog 179 _ (ReflectliteValue.method (ReflectliteValue.valueError "reflectlite.Value.IsNil" 0) ReflectliteValue.isNil) Tryz.func179 (by kernel_rfl) (by kernel_rfl) (by kernel_rfl) (by kernel_rfl)
 have h27 := @run_callFunc_extern Tryz.prog 239 _ (ReflectliteType.abiMethod fun t => do pure (.int .u8 (← Rtype.kind t))) Tryz.func239 (by kernel_rfl) (by kernel_rfl) (by kernel_rfl) (by kernel_rfl)
 have h37 := @run_callFunc_extern Tryz.prog 256 _ (ReflectliteType.method ReflectliteType.elem) Tryz.func256 (by kernel_rfl) (by kernel_rfl) (by kernel_rfl) (by kernel_rfl)
 have h38 := @run_callFunc_extern Tryz.prog 257 _ (ReflectliteType.relation "Implements" ReflectliteType.implements_) Tryz.func257 (by kernel_rfl) (by kernel_rfl) (by kernel_rfl) (by kernel_rfl)
 have h10 := @run_callFunc_extern Tryz.prog 202 _ ReflectliteType.typeOf Tryz.func202 (by kernel_rfl) (by kernel_rfl) (by kernel_rfl) (by kernel_rfl)
 have h35 := @run_callFunc_extern Tryz.prog 254 _ (ReflectliteType.relation "AssignableTo" ReflectliteType.assignableTo) Tryz.func254 (by kernel_rfl) (by kernel_rfl) (by kernel_rfl) (by kernel_rfl)
 have h11 := @run_callFunc_extern Tryz.prog 203 _ (ReflectliteValue.method (ReflectliteValue.valueError "reflectlite.Value.Elem" 0) ReflectliteValue.elem) Tryz.func203 (by kernel_rfl) (by kernel_rfl) (by kernel_rfl) (by kernel_rfl)
 have h12 := @run_callFunc_extern Tryz.prog 204 _ ReflectliteValue.set Tryz.func204 (by kernel_rfl) (by kernel_rfl) (by kernel_rfl) (by kernel_rfl)
 have tO := asT.typeOf31
 have mA := asT.methodAssignableTo
 have a25 := asT.assignable31
 have f6 := asT.valueOf27
 have f7 := asT.type27
 have mK := asT.methodKind
 have mE := asT.methodElem
 have mI := asT.methodImplements
 have k27 := asT.kind27
 have k25 := asT.kind25
 have e27 := asT.elem27
 have i25 := asT.implements25
 have n8 := asT.isNil27 ⟨w.heap.size, 0, none⟩ t ((w.alloc (.cells #[.pointer (some t)] 194)).alloc (.cells #[.pointer (some ⟨9, 194, none⟩), .pointer (some ⟨w.heap.size, 0, none⟩), .int .u64 150] 213)) (by simp)
 have hlt : 3 < w.heap.size := by
  rcases Nat.lt_or_ge 3 w.heap.size with h | h
  ·exact h
  ·simp [World.cell?, Array.getElem?_eq_none h] at hg
 have hg2 : ((w.alloc (.cells #[.pointer (some t)] 194)).alloc (.cells #[.pointer (some ⟨9, 194, none⟩), .pointer (some ⟨w.heap.size, 0, none⟩), .int .u64 150] 213)).cell? ⟨3, 0, none⟩ = some (.iface 244 (.agg #[.pointer (some ⟨9, 25, none⟩)])) := by
  rw [World.cell?_alloc_lt _ _ ⟨3, 0, none⟩ (by simp; omega), World.cell?_alloc_lt _ _ ⟨3, 0, none⟩ hlt]; exact hg
 have htl : t.block < w.heap.size := by
  rcases Nat.lt_or_ge t.block w.heap.size with h | h
  ·exact h
  ·simp [World.cell?, Array.getElem?_eq_none h] at ht0
 have n1 := asT.no230
 have n2 := asT.no233
 have n3 := asT.no234
 go_enter Tryz.func158, Tryz.ntmps158
 go_wp2
 refine wp_loop_rounds 1 ?_
 rw [rounds_succ]
 go_wp2
 go_ret
 exact ⟨rfl, (((Below.refl _ _).alloc (Nat.le_refl _) _).alloc (by simp) _).alloc (by simp; omega) _⟩
end Go.Proofs.YtefmcijohgpfhaaGreatDoor
set_option maxRecDepth 100000
set_option linter.unusedVariables false
namespace Go.Proofs.YtefmcijohgpfhaaGreatDoor
open Go Go.Av Go.RowKit Go.Proofs Go.Pl
theorem qt9 {w : World} {b : Nat} {T : TypeId} {fz : Nat × Nat} {c : Array Value} (v : Value) (hc : w.heap[b]? = some (.cells c T fz)) (h1 : c.size = 1) : w.setCell ⟨b, 0, none⟩ v = w.setRow b #[v] := by
 unfold World.setCell World.setRow
 congr 1
 apply Array.ext_getElem?
 intro i
 rw [Array.getElem?_modify, Array.getElem?_modify]
 by_cases hi : b = i
 ·subst hi
  rw [if_pos rfl, if_pos rfl, hc]
  have : c.setIfInBounds 0 v = #[v] := by
   apply Array.ext
   ·simp [h1]
   ·intro i h2 h3
    have : i = 0 := by simp at h3; omega
    subst this
    simp
  simp [this]
 ·rw [if_neg hi, if_neg hi]
theorem q39 (a n : Int) (o : Nat) (st : List AObj) (ho : st[o]? = some (.cells 0 103 [.v (.pointer none)])) : qm E 158 [qen a n, .ifc 194 (.bx o 0 0)] st fun r st' => r = Bv true ∧ st' = st.set o (.cells 0 103 [.pp [Iv a, .ifc 31 (Iv n)]]) := by
 refine ⟨fun B0 w0 G vals w hL hA hR => ?_⟩
 obtain ⟨v1, v2, rfl⟩ : ∃ x y, vals = #[x, y] := by
  have := hR.1
  match vals, this with
  | ⟨[x, y]⟩, _ => exact ⟨x, y, rfl⟩
 have h1 := hR.2 0 _ v1 rfl rfl
 have h2 := hR.2 1 _ v2 rfl rfl
 unfold qen at h1
 cases h1 with
 | ifc _ _ y1 h1 =>
  cases h2 with
  | ifc _ _ y2 h2 =>
   have hpp := h1
   cases h1 with
   | pp _ b off pub hp hlen hr =>
    cases h2 with
    | bx _ _ _ b2 hn hv hb =>
     obtain ⟨_, g1, g2, g3, c, g4, g5, g6⟩ := hA.ob o _ ho
     have hb := hb g1
     subst hb
     have hc1 : c.size = 1 := by simpa using g5.symm
     have hl := (hL w hA.below).ert
     have hcell : w.cell? ⟨(G.ob o).blk, 0, none⟩ = some c[0] := by simp [World.cell?, g4, hc1]
     have hfz : w.frozen? ⟨(G.ob o).blk, 0, none⟩ = false := by simp [World.frozen?, g4]
     have hlt : (G.ob o).blk < w.heap.size := (Array.getElem?_eq_some_iff.1 g4).1
     refine (q5i ⟨b, off, none⟩ ⟨(G.ob o).blk, 0, none⟩ c[0] w hl hcell hfz).mono ?_
     rintro e w' ⟨rfl, rfl⟩
     have hb1 : Below w.heap.size w ((((w.alloc (.cells #[.pointer (some ⟨(G.ob o).blk, 0, none⟩)] 194)).alloc (.cells #[.pointer (some ⟨9, 194, none⟩), .pointer (some ⟨w.heap.size, 0, none⟩), .int .u64 150] 213)).alloc (.cells #[.pointer (some ⟨9, 194, none⟩), .pointer (some ⟨w.heap.size, 0, none⟩), .int .u64 150] 213)).alloc (.cells #[.pointer (some ⟨b, off, none⟩)] 103)) :=
      ((((Below.refl _ _).alloc (Nat.le_refl _) _).alloc (by simp) _).alloc (by simp; omega) _).alloc (by simp; omega) _
     have hA1 := hA.fresh hb1
     obtain ⟨_, k1, k2, k3, c', k4, k5, k6⟩ := hA1.ob o _ ho
     have hc1' : c'.size = 1 := by simpa using k5.symm
     refine ⟨.bool true, G, Bv true, _, rfl, .refl G, ?_, .v _, rfl, rfl⟩
     rw [qt9 _ k4 hc1']
     exact hA1.setRow ho (by simp) fun i x y hx hy => by
      match i with
      | 0 => simp at hx hy; subst hx; subst hy; exact hpp
      | i + 1 => simp at hx
theorem q03 (n : Int) (o : Nat) (st : List AObj) (ho : st[o]? = some (.cells 0 103 [.v (.pointer none)])) : qm E 158 [.ifc 31 (Iv n), .ifc 194 (.bx o 0 0)] st fun r st' => r = Bv false ∧ st' = st := by
 refine ⟨fun B0 w0 G vals w hL hA hR => ?_⟩
 obtain ⟨v1, v2, rfl⟩ : ∃ x y, vals = #[x, y] := by
  have := hR.1
  match vals, this with
  | ⟨[x, y]⟩, _ => exact ⟨x, y, rfl⟩
 have h1 := hR.2 0 _ v1 rfl rfl
 have h2 := hR.2 1 _ v2 rfl rfl
 cases h1 with
 | ifc _ _ y1 h1 =>
  cases h2 with
  | ifc _ _ y2 h2 =>
   cases h1 with
   | v =>
    cases h2 with
    | bx _ _ _ b2 hn hv hb =>
     obtain ⟨_, g1, g2, g3, c, g4, g5, g6⟩ := hA.ob o _ ho
     have hb := hb g1
     subst hb
     have hc1 : c.size = 1 := by simpa using g5.symm
     have hl := (hL w hA.below).ert
     have hcell : w.cell? ⟨(G.ob o).blk, 0, none⟩ = some c[0] := by simp [World.cell?, g4, hc1]
     refine (q3z n ⟨(G.ob o).blk, 0, none⟩ c[0] w hl hcell).mono ?_
     rintro e w' ⟨rfl, hb⟩
     exact ⟨_, G, Bv false, st, rfl, .refl G, hA.fresh hb, .v _, rfl, rfl⟩
end Go.Proofs.YtefmcijohgpfhaaGreatDoor
set_option maxRecDepth 100000
set_option linter.unusedVariables false
namespace Go.Pl
open Go Go.Proofs
inductive ErrV where
 | no
 | num (n : Int)
 | at' (a n : Int)
 deriving DecidableEq
def ErrV.code : ErrV → Int
 | .no => 0
 | .num n => n
 | .at' _ n => n
def ErrV.pos : ErrV → Int
 | .no => -9
 | .num _ => -9
 | .at' a _ => a
def xi : Nat → List Fld → ErrV
 | _, [] => .no
 | k, f :: r => if jz f = 0 then xi (k + 1) r else .at' k (jz f)
def qaa (fs : List Fld) : ErrV := if fs = [] then .num 2 else if 40 < fs.length then .num 11 else xi 0 fs
theorem qg8 : ∀ (k : Nat) (p r : List Fld), (∀ x ∈ p, jz x = 0) → xi k (p ++ r) = xi (k + p.length) r
 | k, [], r, _ => by simp
 | k, f :: p, r, h => by
  have h1 := h f (by simp)
  rw [List.cons_append, xi, if_pos h1, qg8 (k + 1) p r fun x hx => h x (by simp [hx])]
  congr 1
  simp
  omega
theorem qkj : ∀ (k : Nat) (r : List Fld), (xi k r).code = 0 ↔ xi k r = .no
 | k, [] => by simp [xi, ErrV.code]
 | k, f :: r => by
  unfold xi
  split
  ·exact qkj _ r
  ·rename_i h
   simp [ErrV.code, h]
theorem qr0 (fs : List Fld) : (qaa fs).code = 0 ↔ qaa fs = .no := by
 unfold qaa
 split
 ·simp [ErrV.code]
 ·split
  ·simp [ErrV.code]
  ·exact qkj _ _
end Go.Pl
namespace Go.Proofs.YtefmcijohgpfhaaGreatDoor
open Go Go.Av Go.RowKit Go.Proofs Go.Pl
theorem qu6 {st st' : List AObj} (h : ∀ k, k < st.length → st'[k]? = st[k]?) : ∃ ext, st' = st ++ ext := by
 refine qm5 ?_ h
 rcases Nat.eq_zero_or_pos st.length with h0 | h0
 ·omega
 ·have h1 := h (st.length - 1) (by omega)
  have h2 : st[st.length - 1]? = some (st[st.length - 1]'(by omega)) := List.getElem?_eq_getElem (by omega)
  have := lt_of_getElem? (h1.trans h2)
  omega
def gErr (x : qu) : ErrV := if x.kind = 2 then (if x.fields = [] then .no else .num 2) else if x.kind = 1 ∨ x.kind = 3 then qaa x.fields else .num 2
def qbe : Nat → List qu → ErrV
 | _, [] => .no
 | k, x :: r => if (gErr x).code = 0 then qbe (k + 1) r else .at' k (gErr x).code
def eErr (b : List qu) : ErrV := if b.length < 1 ∨ 40 < b.length then .num 1 else qbe 0 b
theorem qkb : ∀ (k : Nat) (p r : List qu), (∀ x ∈ p, (gErr x).code = 0) → qbe k (p ++ r) = qbe (k + p.length) r
 | k, [], r, _ => by simp
 | k, f :: p, r, h => by
  have h1 := h f (by simp)
  rw [List.cons_append, qbe, if_pos h1, qkb (k + 1) p r fun x hx => h x (by simp [hx])]
  congr 1
  simp
  omega
theorem qkh (x : qu) : (gErr x).code = 0 ↔ gErr x = .no := by
 unfold gErr
 split
 ·split <;> simp [ErrV.code]
 ·split
  ·exact qr0 _
  ·simp [ErrV.code]
theorem qnz : ∀ (k : Nat) (r : List qu), (qbe k r).code = 0 ↔ qbe k r = .no
 | k, [] => by simp [qbe, ErrV.code]
 | k, f :: r => by
  unfold qbe
  split
  ·exact qnz _ r
  ·rename_i h
   simp [ErrV.code] at h ⊢
   exact h
theorem qgm (b : List qu) : (eErr b).code = 0 ↔ eErr b = .no := by
 unfold eErr
 split
 ·simp [ErrV.code]
 ·exact qnz _ _
def errA : ErrV → AV
 | .no => .v .nilIface
 | .num n => .ifc 31 (Iv n)
 | .at' a n => .ifc 103 (.pp [Iv a, .ifc 31 (Iv n)])
theorem qaj (e : ErrV) : Pure (errA e) := by
 cases e with
 | no => exact zd _
 | num n => exact qav (zd _)
 | at' a n => exact qg2 a n
def KeyB (fs : List Fld) : Prop := ∀ f ∈ fs, f.1.length < 4294967281
theorem qtd (fs : List Fld) (st : List AObj) (e : ErrV) (h : qaa fs = e) (hK : KeyB fs) (hl : fs.length < 9223372036854775808) : qm E 122 [ju fs] st fun r st' => r = errA e ∧ st' = st := by
 subst h
 refine q8 (qaj _) (qq Tryz.func122 rfl (Nat.le_of_ble_eq_true rfl) ?_)
 have hml : (fs.map fldA).length = fs.length := by simp
 by_cases h0 : fs = []
 ·subst h0
  repeat' (first
   | apply qj
   | apply qt
   | apply qb
   | apply qg
   | apply qh
   | apply qc
   | (apply qo; (iterate 3 exact rfl))
   | (apply qd; exact rfl; first | (apply qy; (first | assumption | omega)) | (apply q4; (first | assumption | omega)) | (apply q5; (first | exact rfl | assumption)) | (apply qz; (first | exact rfl | assumption)) | (apply cd_n <;> intro h) | (apply cd_t; (first | exact rfl | assumption)) | (apply cd_f; (first | exact rfl | assumption)) | (apply cd_d <;> intro h) | (apply cd_s <;> intro h))
   | (apply zx; (iterate 4 exact rfl))
   | (apply zg; exact rfl; exact rfl)
   | apply qs)
  exact qk rfl (ze rfl) ⟨rfl, _, rfl⟩
 have hp : 0 < fs.length := List.length_pos_iff.2 h0
 by_cases h40 : 40 < fs.length
 ·have hc : qaa fs = .num 11 := by unfold qaa; rw [if_neg h0, if_pos h40]
  rw [hc]
  repeat' (first
   | apply qj
   | apply qt
   | apply qb
   | apply qg
   | apply qh
   | apply qc
   | (apply qo; (iterate 3 exact rfl))
   | (apply qd; exact rfl; first | (apply qy; (first | assumption | omega)) | (apply q4; (first | assumption | omega)) | (apply q5; (first | exact rfl | assumption)) | (apply qz; (first | exact rfl | assumption)) | (apply cd_n <;> intro h) | (apply cd_t; (first | exact rfl | assumption)) | (apply cd_f; (first | exact rfl | assumption)) | (apply cd_d <;> intro h) | (apply cd_s <;> intro h))
   | (apply zx; (iterate 4 exact rfl))
   | (apply zg; exact rfl; exact rfl)
   | apply qs)
  exact qk rfl (ze rfl) ⟨rfl, _, rfl⟩
 have hc : qaa fs = xi 0 fs := by unfold qaa; rw [if_neg h0, if_neg h40]
 rw [hc]
 repeat' (first
  | apply qj
  | apply qt
  | apply qb
  | apply qg
  | apply qh
  | apply qc
  | (apply qo; (iterate 3 exact rfl))
  | (apply qd; exact rfl; first | (apply qy; (first | assumption | omega)) | (apply q4; (first | assumption | omega)) | (apply q5; (first | exact rfl | assumption)) | (apply qz; (first | exact rfl | assumption)) | (apply cd_n <;> intro h) | (apply cd_t; (first | exact rfl | assumption)) | (apply cd_f; (first | exact rfl | assumption)) | (apply cd_d <;> intro h) | (apply cd_s <;> intro h))
  | (apply zx; (iterate 4 exact rfl))
  | apply qv)
 refine qam fs (fun pre s => (∀ x ∈ pre, jz x = 0) ∧ StE [(16, ju fs), (17, Iv fs.length), (18, Iv pre.length)] st [] s) ⟨by simp, qb6 ⟨rfl, congrArg (fun n : Nat => Iv (n : Int)) hml, rfl, trivial⟩ rfl⟩ ?_ ?_
 ·rintro _ ⟨h3, t, ext, rfl⟩
  have he := qg8 0 fs [] h3
  rw [List.append_nil] at he
  rw [he]
  repeat' (first
   | apply qj
   | apply qb
   | apply qg
   | apply qc
   | (apply qo; (iterate 3 exact rfl))
   | (apply qd; exact rfl; first | (apply qy; (first | assumption | omega)) | (apply q4; (first | assumption | omega)) | (apply q5; (first | exact rfl | assumption)) | (apply qz; (first | exact rfl | assumption)) | (apply cd_n <;> intro h) | (apply cd_t; (first | exact rfl | assumption)) | (apply cd_f; (first | exact rfl | assumption)) | (apply cd_d <;> intro h) | (apply cd_s <;> intro h))
   | apply jk
   | apply qs)
  exact qk rfl (ze rfl) ⟨rfl, vc _ _ _ _⟩
 ·rintro pre a rest _ hr ⟨h3, t, ext, rfl⟩
  have hrlen : fs.length = pre.length + (rest.length + 1) := by rw [hr]; simp
  have hget : (fs.map fldA)[pre.length]? = some (fldA a) := by rw [hr]; simp
  have hka := hK a (by rw [hr]; simp)
  by_cases ha : jz a = 0
  ·skip
   repeat' (first
    | apply qj
    | apply qt
    | apply qb
    | apply qg
    | apply qh
    | apply qc
    | (apply qo; (iterate 3 exact rfl))
    | (apply qd; exact rfl; first | (apply qy; (first | assumption | omega)) | (apply q4; (first | assumption | omega)) | (apply q5; (first | exact rfl | assumption)) | (apply qz; (first | exact rfl | assumption)) | (apply cd_n <;> intro h) | (apply cd_t; (first | exact rfl | assumption)) | (apply cd_f; (first | exact rfl | assumption)) | (apply cd_d <;> intro h) | (apply cd_s <;> intro h))
    | (apply jh; exact rfl; exact rfl; exact zl (by omega) (by omega))
    | (apply z6; exact rfl; exact rfl)
    | (apply zq; exact rfl; exact rfl)
    | (apply zt; (iterate 3 exact rfl))
    | (apply zm; (iterate 5 exact rfl))
    | (apply zj; (iterate 11 exact rfl))
    | apply qv
    | (apply qe; exact Tryz.call124; exact qfs _ _ hka ha)
    | (apply z0 (n := pre.length); (iterate 5 exact rfl); exact hget))
   refine ⟨fun x hx => ?_, qa5 ⟨rfl, rfl, qfl pre a, trivial⟩ rfl⟩
   rcases List.mem_append.1 hx with hx | hx
   ·exact h3 x hx
   ·simp at hx; subst hx; exact ha
  ·have he := qg8 0 pre (a :: rest) h3
   rw [← hr, xi, if_neg ha] at he
   rw [he]
   repeat' (first
    | (apply qgk; (iterate 3 exact rfl))
    | apply qj
    | apply qt
    | apply qb
    | apply qg
    | apply qh
    | apply qc
    | (apply qo; (iterate 3 exact rfl))
    | (apply qd; exact rfl; first | (apply qy; (first | assumption | omega)) | (apply q4; (first | assumption | omega)) | (apply q5; (first | exact rfl | assumption)) | (apply qz; (first | exact rfl | assumption)) | (apply cd_n <;> intro h) | (apply cd_t; (first | exact rfl | assumption)) | (apply cd_f; (first | exact rfl | assumption)) | (apply cd_d <;> intro h) | (apply cd_s <;> intro h))
    | (apply jc; exact rfl; exact rfl)
    | (apply zg; exact rfl; exact rfl)
    | (apply zq; exact rfl; exact rfl)
    | (apply zt; (iterate 3 exact rfl))
    | (apply zm; (iterate 5 exact rfl))
    | (apply zj; (iterate 11 exact rfl))
    | (apply js; (iterate 3 exact rfl))
    | apply qv
    | apply qs
    | (apply qe; exact Tryz.call124; exact qgc _ _ hka ha)
    | (apply z0 (n := pre.length); (iterate 5 exact rfl); exact hget))
   refine qk rfl (ze rfl) ⟨?_, vc _ _ _ _⟩
   rw [Nat.zero_add]
   rfl
theorem qo3 (x : qu) (st : List AObj) (e : ErrV) (h : gErr x = e) (hK : KeyB x.fields) (hl : x.fields.length < 9223372036854775808) : qm E 83 [wi x] st fun r st' => r = errA e ∧ st' = st := by
 subst h
 refine q8 (qaj _) (qq Tryz.func83 rfl (Nat.le_of_ble_eq_true rfl) ?_)
 have hml : (x.fields.map fldA).length = x.fields.length := by simp
 have hpos : x.fields = [] ↔ x.fields.length = 0 := by simp
 unfold gErr
 by_cases h2 : x.kind = 2
 ·rw [if_pos h2]
  by_cases h0 : x.fields = []
  ·rw [if_pos h0]
   have hz := hpos.1 h0
   repeat' (first
    | apply qj
    | apply qt
    | apply qb
    | apply qg
    | apply qc
    | (apply qo; (iterate 3 exact rfl))
    | (apply qd; exact rfl; first | (apply qy; (first | assumption | omega)) | (apply q4; (first | assumption | omega)) | (apply q5; (first | exact rfl | assumption)) | (apply qz; (first | exact rfl | assumption)) | (apply cd_n <;> intro h) | (apply cd_t; (first | exact rfl | assumption)) | (apply cd_f; (first | exact rfl | assumption)) | (apply cd_d <;> intro h) | (apply cd_s <;> intro h))
    | (apply zx; (iterate 4 exact rfl))
    | (apply vi; (iterate 4 exact rfl))
    | (apply q9; (iterate 3 exact rfl))
    | (apply zm; (iterate 5 exact rfl))
    | apply qv
    | apply qs)
   exact qk rfl (ze rfl) ⟨rfl, _, rfl⟩
  ·rw [if_neg h0]
   have hz : 0 < x.fields.length := List.length_pos_iff.2 h0
   repeat' (first
    | apply qj
    | apply qt
    | apply qb
    | apply qg
    | apply qc
    | (apply qo; (iterate 3 exact rfl))
    | (apply qd; exact rfl; first | (apply qy; (first | assumption | omega)) | (apply q4; (first | assumption | omega)) | (apply q5; (first | exact rfl | assumption)) | (apply qz; (first | exact rfl | assumption)) | (apply cd_n <;> intro h) | (apply cd_t; (first | exact rfl | assumption)) | (apply cd_f; (first | exact rfl | assumption)) | (apply cd_d <;> intro h) | (apply cd_s <;> intro h))
    | (apply zx; (iterate 4 exact rfl))
    | (apply zg; exact rfl; exact rfl)
    | (apply vi; (iterate 4 exact rfl))
    | (apply q9; (iterate 3 exact rfl))
    | (apply zm; (iterate 5 exact rfl))
    | apply qs)
   exact qk rfl (ze rfl) ⟨rfl, _, rfl⟩
 ·rw [if_neg h2]
  by_cases h1 : x.kind = 1
  ·rw [if_pos (.inl h1)]
   repeat' (first
    | apply qj
    | apply qt
    | apply qb
    | apply qg
    | apply qc
    | (apply qo; (iterate 3 exact rfl))
    | (apply qd; exact rfl; first | (apply qy; (first | assumption | omega)) | (apply q4; (first | assumption | omega)) | (apply q5; (first | exact rfl | assumption)) | (apply qz; (first | exact rfl | assumption)) | (apply cd_n <;> intro h) | (apply cd_t; (first | exact rfl | assumption)) | (apply cd_f; (first | exact rfl | assumption)) | (apply cd_d <;> intro h) | (apply cd_s <;> intro h))
    | (apply vi; (iterate 4 exact rfl))
    | (apply q9; (iterate 3 exact rfl))
    | (apply zm; (iterate 5 exact rfl))
    | apply qv
    | apply qs
    | (apply qe; exact Tryz.call122; exact qtd _ _ _ rfl hK hl))
   exact qk rfl (ze rfl) ⟨rfl, _, rfl⟩
  ·by_cases h3 : x.kind = 3
   ·rw [if_pos (.inr h3)]
    repeat' (first
     | apply qj
     | apply qt
     | apply qb
     | apply qg
     | apply qc
     | (apply qo; (iterate 3 exact rfl))
     | (apply qd; exact rfl; first | (apply qy; (first | assumption | omega)) | (apply q4; (first | assumption | omega)) | (apply q5; (first | exact rfl | assumption)) | (apply qz; (first | exact rfl | assumption)) | (apply cd_n <;> intro h) | (apply cd_t; (first | exact rfl | assumption)) | (apply cd_f; (first | exact rfl | assumption)) | (apply cd_d <;> intro h) | (apply cd_s <;> intro h))
     | (apply vi; (iterate 4 exact rfl))
     | (apply q9; (iterate 3 exact rfl))
     | (apply zm; (iterate 5 exact rfl))
     | apply qs
     | (apply qe; exact Tryz.call122; exact qtd _ _ _ rfl hK hl))
    exact qk rfl (ze rfl) ⟨rfl, _, rfl⟩
   ·rw [if_neg (by rintro (h | h) <;> contradiction)]
    repeat' (first
     | apply qj
     | apply qt
     | apply qb
     | apply qg
     | apply qc
     | (apply qo; (iterate 3 exact rfl))
     | (apply qd; exact rfl; first | (apply qy; (first | assumption | omega)) | (apply q4; (first | assumption | omega)) | (apply q5; (first | exact rfl | assumption)) | (apply qz; (first | exact rfl | assumption)) | (apply cd_n <;> intro h) | (apply cd_t; (first | exact rfl | assumption)) | (apply cd_f; (first | exact rfl | assumption)) | (apply cd_d <;> intro h) | (apply cd_s <;> intro h))
     | (apply zg; exact rfl; exact rfl)
     | (apply vi; (iterate 4 exact rfl))
     | (apply q9; (iterate 3 exact rfl))
     | (apply zm; (iterate 5 exact rfl))
     | apply qv
     | apply qs)
    exact qk rfl (ze rfl) ⟨rfl, _, rfl⟩
theorem q0d (n : Int) (st : List AObj) : qm E 123 [.ifc 31 (Iv n)] st fun r st' => r = .ifc 31 (Iv n) ∧ st' = st := by
 refine q8 (qav (zd _)) (qq Tryz.func123 rfl (Nat.le_of_ble_eq_true rfl) ?_)
 repeat' (first
  | apply qj
  | apply qb
  | apply qg
  | apply qh
  | apply qc
  | (apply qd; exact rfl; first | (apply qy; (first | assumption | omega)) | (apply q4; (first | assumption | omega)) | (apply q5; (first | exact rfl | assumption)) | (apply qz; (first | exact rfl | assumption)) | (apply cd_n <;> intro h) | (apply cd_t; (first | exact rfl | assumption)) | (apply cd_f; (first | exact rfl | assumption)) | (apply cd_d <;> intro h) | (apply cd_s <;> intro h))
  | (apply zg; exact rfl; exact rfl)
  | (apply zq; exact rfl; exact rfl)
  | apply qv
  | apply qs
  | (apply qe; exact Tryz.call158; exact q03 _ (st.length + 0) _ (z2 rfl)))
 exact qk rfl (ze rfl) ⟨rfl, _, rfl⟩
theorem q1y (a n : Int) (st : List AObj) : qm E 123 [qen a n] st fun r st' => r = .ifc 31 (Iv n) ∧ st' = st := by
 refine q8 (qav (zd _)) (qq Tryz.func123 rfl (Nat.le_of_ble_eq_true rfl) ?_)
 repeat' (first
  | apply qj
  | apply qb
  | apply qg
  | apply qh
  | apply qc
  | (apply qd; exact rfl; first | (apply qy; (first | assumption | omega)) | (apply q4; (first | assumption | omega)) | (apply q5; (first | exact rfl | assumption)) | (apply qz; (first | exact rfl | assumption)) | (apply cd_n <;> intro h) | (apply cd_t; (first | exact rfl | assumption)) | (apply cd_f; (first | exact rfl | assumption)) | (apply cd_d <;> intro h) | (apply cd_s <;> intro h))
  | (apply zg; exact rfl; exact rfl)
  | (apply zq; exact rfl; exact rfl)
  | (apply vn; (iterate 4 exact rfl))
  | (apply zt; (iterate 3 exact rfl))
  | (apply ki; exact rfl; exact rfl)
  | apply qs
  | (apply qe; exact Tryz.call158; exact q39 a n (st.length + 0) _ (z2 rfl))
  | (apply jv; exact rfl; (focus first | assumption | (repeat' (first | assumption | exact yg | exact z2 rfl | apply ku | apply jx | omega | apply qap))); exact rfl; exact rfl))
 exact qk rfl (ze rfl) ⟨rfl, qu6 fun j hj => (qlo (by omega)).trans (List.getElem?_append_left hj)⟩
theorem qsx (k : Int) (e : ErrV) (st : List AObj) (he : e.code ≠ 0) : qm E 84 [Iv k, errA e] st fun r st' => r = errA (.at' k e.code) ∧ st' = st := by
 refine q8 (qaj _) (qq Tryz.func84 rfl (Nat.le_of_ble_eq_true rfl) ?_)
 cases e with
 | no => exact absurd rfl he
 | num n =>
  repeat' (first
   | (apply qgk; (iterate 3 exact rfl))
   | apply qj
   | apply qb
   | apply qg
   | apply qh
   | apply qc
   | (apply zg; exact rfl; exact rfl)
   | (apply js; (iterate 3 exact rfl))
   | apply qs
   | (apply qe; exact Tryz.call123; exact q0d _ _))
  exact qk rfl (ze rfl) ⟨rfl, _, rfl⟩
 | at' a n =>
  repeat' (first
   | (apply qgk; (iterate 3 exact rfl))
   | apply qj
   | apply qb
   | apply qg
   | apply qh
   | apply qc
   | (apply zg; exact rfl; exact rfl)
   | (apply js; (iterate 3 exact rfl))
   | apply qs
   | (apply qe; exact Tryz.call123; exact q1y a n _))
  exact qk rfl (ze rfl) ⟨rfl, _, rfl⟩
structure EdB (x : qu) : Prop where
 keys : KeyB x.fields
 len : x.fields.length < 9223372036854775808
 id1 : -9223372036854775808 ≤ x.id
 id2 : x.id ≤ 9223372036854775807
@[reducible] def ja (b : List qu) : AV := .sl 3 (b.map wi) none
theorem qme (b : List qu) (st : List AObj) (e : ErrV) (h : eErr b = e) (hB : ∀ x ∈ b, EdB x) (hl : b.length < 9223372036854775808) : qm E 45 [ja b] st fun r st' => r = errA e ∧ st' = st := by
 subst h
 refine q8 (qaj _) (qq Tryz.func45 rfl (Nat.le_of_ble_eq_true rfl) ?_)
 have hml : (b.map wi).length = b.length := by simp
 by_cases h1 : b.length < 1 ∨ 40 < b.length
 ·have hc : eErr b = .num 1 := if_pos h1
  rw [hc]
  rcases h1 with h1 | h1
  ·skip
   repeat' (first
    | apply qj
    | apply qb
    | apply qg
    | apply qh
    | apply qc
    | (apply qo; (iterate 3 exact rfl))
    | (apply za; (iterate 4 exact rfl))
    | (apply ww; (first | assumption | omega))
    | (apply zf; exact rfl; first | (apply j9; (first | assumption | omega)) | (apply ke; (first | assumption | omega)) | (apply kg; (first | exact rfl | assumption)) | (apply kh; (first | exact rfl | assumption)) | (apply pk_t; (first | exact rfl | assumption)) | (apply pk_f; (first | exact rfl | assumption)))
    | (apply qd; exact rfl; first | (apply qy; (first | assumption | omega)) | (apply q4; (first | assumption | omega)) | (apply q5; (first | exact rfl | assumption)) | (apply qz; (first | exact rfl | assumption)) | (apply cd_n <;> intro h) | (apply cd_t; (first | exact rfl | assumption)) | (apply cd_f; (first | exact rfl | assumption)) | (apply cd_d <;> intro h) | (apply cd_s <;> intro h))
    | (apply zx; (iterate 4 exact rfl))
    | (apply zg; exact rfl; exact rfl)
    | apply qs)
   exact qk rfl (ze rfl) ⟨rfl, _, rfl⟩
  ·skip
   repeat' (first
    | apply qj
    | apply qb
    | apply qg
    | apply qh
    | apply qc
    | (apply qo; (iterate 3 exact rfl))
    | (apply za; (iterate 4 exact rfl))
    | (apply wk; (first | assumption | omega))
    | (apply zf; exact rfl; first | (apply j9; (first | assumption | omega)) | (apply ke; (first | assumption | omega)) | (apply kg; (first | exact rfl | assumption)) | (apply kh; (first | exact rfl | assumption)) | (apply pk_t; (first | exact rfl | assumption)) | (apply pk_f; (first | exact rfl | assumption)))
    | (apply qd; exact rfl; first | (apply qy; (first | assumption | omega)) | (apply q4; (first | assumption | omega)) | (apply q5; (first | exact rfl | assumption)) | (apply qz; (first | exact rfl | assumption)) | (apply cd_n <;> intro h) | (apply cd_t; (first | exact rfl | assumption)) | (apply cd_f; (first | exact rfl | assumption)) | (apply cd_d <;> intro h) | (apply cd_s <;> intro h))
    | (apply zx; (iterate 4 exact rfl))
    | (apply zg; exact rfl; exact rfl)
    | apply qs)
   exact qk rfl (ze rfl) ⟨rfl, _, rfl⟩
 have hc : eErr b = qbe 0 b := if_neg h1
 rw [hc]
 repeat' (first
  | apply qj
  | apply qt
  | apply qb
  | apply qg
  | apply qh
  | apply qc
  | (apply qo; (iterate 3 exact rfl))
  | (apply za; (iterate 4 exact rfl))
  | (apply wk; (first | assumption | omega))
  | (apply zf; exact rfl; first | (apply j9; (first | assumption | omega)) | (apply ke; (first | assumption | omega)) | (apply kg; (first | exact rfl | assumption)) | (apply kh; (first | exact rfl | assumption)) | (apply pk_t; (first | exact rfl | assumption)) | (apply pk_f; (first | exact rfl | assumption)))
  | (apply qd; exact rfl; first | (apply qy; (first | assumption | omega)) | (apply q4; (first | assumption | omega)) | (apply q5; (first | exact rfl | assumption)) | (apply qz; (first | exact rfl | assumption)) | (apply cd_n <;> intro h) | (apply cd_t; (first | exact rfl | assumption)) | (apply cd_f; (first | exact rfl | assumption)) | (apply cd_d <;> intro h) | (apply cd_s <;> intro h))
  | (apply zx; (iterate 4 exact rfl))
  | apply qv)
 refine qam b (fun pre s => (∀ x ∈ pre, (gErr x).code = 0) ∧ StE [(15, ja b), (16, Iv b.length), (17, Iv pre.length)] st [] s) ⟨by simp, qb6 ⟨rfl, congrArg (fun n : Nat => Iv (n : Int)) hml, rfl, trivial⟩ rfl⟩ ?_ ?_
 ·rintro _ ⟨h3, t, ext, rfl⟩
  have he := qkb 0 b [] h3
  rw [List.append_nil] at he
  rw [he]
  repeat' (first
   | apply qj
   | apply qb
   | apply qg
   | apply qc
   | (apply qo; (iterate 3 exact rfl))
   | (apply qd; exact rfl; first | (apply qy; (first | assumption | omega)) | (apply q4; (first | assumption | omega)) | (apply q5; (first | exact rfl | assumption)) | (apply qz; (first | exact rfl | assumption)) | (apply cd_n <;> intro h) | (apply cd_t; (first | exact rfl | assumption)) | (apply cd_f; (first | exact rfl | assumption)) | (apply cd_d <;> intro h) | (apply cd_s <;> intro h))
   | apply jk
   | apply qs)
  exact qk rfl (ze rfl) ⟨rfl, vc _ _ _ _⟩
 ·rintro pre a rest _ hr ⟨h3, t, ext, rfl⟩
  have hrlen : b.length = pre.length + (rest.length + 1) := by rw [hr]; simp
  have hget : (b.map wi)[pre.length]? = some (wi a) := by rw [hr]; simp
  have hka := hB a (by rw [hr]; simp)
  by_cases ha : (gErr a).code = 0
  ·have hn := (qkh a).1 ha
   repeat' (first
    | apply qj
    | apply qt
    | apply qb
    | apply qg
    | apply qh
    | apply qc
    | (apply qo; (iterate 3 exact rfl))
    | (apply qd; exact rfl; first | (apply qy; (first | assumption | omega)) | (apply q4; (first | assumption | omega)) | (apply q5; (first | exact rfl | assumption)) | (apply qz; (first | exact rfl | assumption)) | (apply cd_n <;> intro h) | (apply cd_t; (first | exact rfl | assumption)) | (apply cd_f; (first | exact rfl | assumption)) | (apply cd_d <;> intro h) | (apply cd_s <;> intro h))
    | (apply jh; exact rfl; exact rfl; exact zl (by omega) (by omega))
    | (apply z6; exact rfl; exact rfl)
    | (apply zq; exact rfl; exact rfl)
    | (apply zt; (iterate 3 exact rfl))
    | (apply zm; (iterate 5 exact rfl))
    | (apply zj; (iterate 11 exact rfl))
    | apply qv
    | (apply qe; exact Tryz.call83; exact qo3 _ _ _ hn hka.keys hka.len)
    | (apply z0 (n := pre.length); (iterate 5 exact rfl); exact hget))
   refine ⟨fun x hx => ?_, qa5 ⟨rfl, rfl, qfl pre a, trivial⟩ rfl⟩
   rcases List.mem_append.1 hx with hx | hx
   ·exact h3 x hx
   ·simp at hx; subst hx; exact ha
  ·have he := qkb 0 pre (a :: rest) h3
   rw [← hr, qbe, if_neg ha, Nat.zero_add] at he
   rw [he]
   cases hg : gErr a with
   | no => rw [hg] at ha; exact absurd rfl ha
   | num n =>
    have ha2 : (ErrV.num n).code ≠ 0 := by rw [← hg]; exact ha
    repeat' (first
     | apply qj
     | apply qt
     | apply qb
     | apply qg
     | apply qh
     | apply qc
     | (apply qo; (iterate 3 exact rfl))
     | (apply qd; exact rfl; first | (apply qy; (first | assumption | omega)) | (apply q4; (first | assumption | omega)) | (apply q5; (first | exact rfl | assumption)) | (apply qz; (first | exact rfl | assumption)) | (apply cd_n <;> intro h) | (apply cd_t; (first | exact rfl | assumption)) | (apply cd_f; (first | exact rfl | assumption)) | (apply cd_d <;> intro h) | (apply cd_s <;> intro h))
     | (apply jc; exact rfl; exact rfl)
     | (apply zq; exact rfl; exact rfl)
     | (apply zt; (iterate 3 exact rfl))
     | (apply zm; (iterate 5 exact rfl))
     | (apply zj; (iterate 11 exact rfl))
     | apply qv
     | apply qs
     | (apply qe; exact Tryz.call83; exact qo3 _ _ _ hg hka.keys hka.len)
     | (apply qe; exact Tryz.call84; exact qsx _ (.num n) _ ha2)
     | (apply z0 (n := pre.length); (iterate 5 exact rfl); exact hget))
    exact qk rfl (ze rfl) ⟨rfl, vc _ _ _ _⟩
   | at' p n =>
    have ha2 : (ErrV.at' p n).code ≠ 0 := by rw [← hg]; exact ha
    repeat' (first
     | apply qj
     | apply qt
     | apply qb
     | apply qg
     | apply qh
     | apply qc
     | (apply qo; (iterate 3 exact rfl))
     | (apply qd; exact rfl; first | (apply qy; (first | assumption | omega)) | (apply q4; (first | assumption | omega)) | (apply q5; (first | exact rfl | assumption)) | (apply qz; (first | exact rfl | assumption)) | (apply cd_n <;> intro h) | (apply cd_t; (first | exact rfl | assumption)) | (apply cd_f; (first | exact rfl | assumption)) | (apply cd_d <;> intro h) | (apply cd_s <;> intro h))
     | (apply jc; exact rfl; exact rfl)
     | (apply zq; exact rfl; exact rfl)
     | (apply zt; (iterate 3 exact rfl))
     | (apply zm; (iterate 5 exact rfl))
     | (apply zj; (iterate 11 exact rfl))
     | apply qv
     | apply qs
     | (apply qe; exact Tryz.call83; exact qo3 _ _ _ hg hka.keys hka.len)
     | (apply qe; exact Tryz.call84; exact qsx _ (.at' p n) _ ha2)
     | (apply z0 (n := pre.length); (iterate 5 exact rfl); exact hget))
    exact qk rfl (ze rfl) ⟨rfl, vc _ _ _ _⟩
end Go.Proofs.YtefmcijohgpfhaaGreatDoor
set_option maxRecDepth 100000
set_option linter.unusedVariables false
namespace Go.Proofs.YtefmcijohgpfhaaGreatDoor
open Go Go.Av Go.RowKit Go.Proofs Go.Pl
def jg (x : qu) : qa := j6 x ++ [10] ++ x2 [32, 32] (kc x.fields)
def encF (b : List qu) : qa := b.flatMap jg
theorem q02 (a b : List qu) : encF (a ++ b) = encF a ++ encF b := by simp [encF]
theorem q1d (x : qu) : encF [x] = jg x := by simp [encF]
theorem qns : ∀ (k : Nat) (r : List Fld), xi k r = .no ↔ ∀ f ∈ r, jl f
 | k, [] => by simp [xi]
 | k, f :: r => by
  unfold xi
  split
  ·rename_i h
   rw [qns (k + 1) r]
   have := (qa8 f).1 h
   simp [this]
  ·rename_i h
   have h2 : ¬ jl f := fun g => h ((qa8 f).2 g)
   simp [h2]
theorem qvr {fs : List Fld} (h : qaa fs = .no) : fs ≠ [] ∧ fs.length ≤ 40 ∧ ∀ f ∈ fs, jl f := by
 unfold qaa at h
 split at h
 ·exact absurd h (by simp)
 ·split at h
  ·exact absurd h (by simp)
  ·exact ⟨by assumption, by omega, (qns _ _).1 h⟩
theorem qo8 {x : qu} (h : gErr x = .no) : x.fields.length ≤ 40 ∧ ∀ f ∈ x.fields, jl f := by
 unfold gErr at h
 split at h
 ·split at h
  ·rename_i h0; rw [h0]; simp
  ·exact absurd h (by simp)
 ·split at h
  ·exact (qvr h).2
  ·exact absurd h (by simp)
theorem qs2 : ∀ (k : Nat) (b : List qu), qbe k b = .no ↔ ∀ x ∈ b, gErr x = .no
 | k, [] => by simp [qbe]
 | k, x :: b => by
  unfold qbe
  split
  ·rename_i h
   rw [qs2 (k + 1) b]
   have := (qkh x).1 h
   simp [this]
  ·rename_i h
   have h2 : ¬ gErr x = .no := fun g => h ((qkh x).2 g)
   simp [h2]
theorem qky {b : List qu} (h : eErr b = .no) : 1 ≤ b.length ∧ b.length ≤ 40 ∧ ∀ x ∈ b, gErr x = .no := by
 unfold eErr at h
 split at h
 ·exact absurd h (by simp)
 ·exact ⟨by omega, by omega, (qs2 _ _).1 h⟩
theorem q4p {fs : List Fld} (hl : fs.length ≤ 40) (h : ∀ f ∈ fs, jl f) : q2o fs := ⟨by omega, fun f hf => by
 have := h f hf
 have h1 := this.1.2.1
 have h2 := this.2
 omega⟩
theorem qv0 (xs : List FldV) (st : List AObj) (hl : xs.length ≤ 40) (h : ∀ f ∈ xs, jl f) : qm E 46 [ju xs] st fun r st' => r = .tu [Sv (kc xs), .v .nilIface] ∧ st' = st := by
 have := q4r xs st (q4p hl h)
 unfold qoe at this
 have h0 := (qjy xs).2 h
 rw [if_pos h0, h0] at this
 exact this
theorem qla (l : qa) : (x2 [32, 32] l).length ≤ 3 * l.length := by
 unfold x2
 obtain ⟨h1, h2⟩ := qeo _ l (Nat.le_refl _)
 have := ql4 [32, 32] (zu l)
 simp only [List.length_cons, List.length_nil] at this
 omega
theorem qp6 (x : qu) (h1 : -9223372036854775808 ≤ x.id) (h2 : x.id ≤ 9223372036854775807) : (j6 x).length ≤ 100 := by
 have hn := Lib.itoa_length_le x.id h1 h2
 unfold j6 yp
 split
 ·split
  ·simp; omega
  ·split
   ·simp; omega
   ·split <;> simp <;> omega
 ·simp
theorem qxe {x : qu} (hB : EdB x) (h : gErr x = .no) : (jg x).length ≤ 700000 := by
 obtain ⟨hl, hg⟩ := qo8 h
 have h1 := qgx x.fields hg
 have h2 := qla (kc x.fields)
 have h3 := qp6 x hB.id1 hB.id2
 unfold jg
 simp only [List.length_append, List.length_cons, List.length_nil]
 omega
theorem qmp : ∀ (b : List qu), (∀ x ∈ b, EdB x) → (∀ x ∈ b, gErr x = .no) → (encF b).length ≤ 700000 * b.length
 | [], _, _ => by simp [encF]
 | x :: r, hB, h => by
  have ih := qmp r (fun y hy => hB y (by simp [hy])) (fun y hy => h y (by simp [hy]))
  have h1 := qxe (hB x (by simp)) (h x (by simp))
  have e : encF (x :: r) = jg x ++ encF r := by simp [encF]
  rw [e, List.length_append, List.length_cons]
  omega
set_option maxHeartbeats 2000000 in
theorem qpv (b : List qu) (st : List AObj) (hB : ∀ x ∈ b, EdB x) (he : eErr b = .no) : qm E 15 [ja b] st fun r st' => r = .tu [Sv (encF b), .v .nilIface] ∧ st' = st := by
 refine q8 (wj (zd _) (zd _)) (qq Tryz.func15 rfl (Nat.le_of_ble_eq_true rfl) ?_)
 have hml : (b.map wi).length = b.length := by simp
 obtain ⟨hb1, hb40, hg⟩ := qky he
 have hel := qmp b hB hg
 repeat' (first
  | (apply qha; exact rfl)
  | apply qj
  | apply qt
  | apply qb
  | apply qg
  | apply qh
  | apply qc
  | (apply qd; exact rfl; first | (apply qy; (first | assumption | omega)) | (apply q4; (first | assumption | omega)) | (apply q5; (first | exact rfl | assumption)) | (apply qz; (first | exact rfl | assumption)) | (apply cd_n <;> intro h) | (apply cd_t; (first | exact rfl | assumption)) | (apply cd_f; (first | exact rfl | assumption)) | (apply cd_d <;> intro h) | (apply cd_s <;> intro h))
  | (apply zx; (iterate 4 exact rfl))
  | (apply z6; exact rfl; exact rfl)
  | apply qv
  | (apply qe; exact Tryz.call45; exact qme _ _ _ he hB (by omega)))
 refine qam b (fun pre s => ∃ q, (q = .v (.pointer none) ∨ q = .bx (st.length + 0) 0 0) ∧ StE [(5, .bx (st.length + 0) 0 0), (15, ja b), (16, Iv b.length), (17, Iv pre.length)] st [bldO 0 q (encF pre) (st.length + 1), .tip (encF pre).length 1 5] s) ⟨_, .inl rfl, qb6 ⟨rfl, rfl, congrArg (fun n : Nat => Iv (n : Int)) hml, rfl, trivial⟩ rfl⟩ ?_ ?_
 ·rintro _ ⟨q, hq, t, ext, rfl⟩
  repeat' (first
   | apply qj
   | apply qb
   | apply qg
   | apply qc
   | (apply qo; (iterate 3 exact rfl))
   | (apply qd; exact rfl; first | (apply qy; (first | assumption | omega)) | (apply q4; (first | assumption | omega)) | (apply q5; (first | exact rfl | assumption)) | (apply qz; (first | exact rfl | assumption)) | (apply cd_n <;> intro h) | (apply cd_t; (first | exact rfl | assumption)) | (apply cd_f; (first | exact rfl | assumption)) | (apply cd_d <;> intro h) | (apply cd_s <;> intro h))
   | apply jk
   | apply qs
   | (refine qe Tryz.call50 (qhb st _ _ _ _ 0 1 0 _ _ rfl rfl rfl) ?_))
  exact qk rfl (vd rfl) ⟨rfl, vc _ _ _ _⟩
 ·rintro pre x rest _ hr ⟨q, hq, t, ext, rfl⟩
  have hlen : b.length = pre.length + (rest.length + 1) := by rw [hr]; simp
  have hget : (b.map wi)[pre.length]? = some (wi x) := by rw [hr]; simp
  have hxb := hB x (by rw [hr]; simp)
  have hxg := hg x (by rw [hr]; simp)
  obtain ⟨hfl, hfg⟩ := qo8 hxg
  have hpl := qmp pre (fun y hy => hB y (by rw [hr]; simp [hy])) (fun y hy => hg y (by rw [hr]; simp [hy]))
  have hll := qp6 x hxb.id1 hxb.id2
  have hfo := qgx x.fields hfg
  have hin := qla (kc x.fields)
  repeat' (first
   | apply qj
   | apply qt
   | apply qb
   | apply qg
   | apply qh
   | apply qc
   | (apply zb; exact rfl; exact rfl)
   | (apply qo; (iterate 3 exact rfl))
   | (apply qd; exact rfl; first | (apply qy; (first | assumption | omega)) | (apply q4; (first | assumption | omega)) | (apply q5; (first | exact rfl | assumption)) | (apply qz; (first | exact rfl | assumption)) | (apply cd_n <;> intro h) | (apply cd_t; (first | exact rfl | assumption)) | (apply cd_f; (first | exact rfl | assumption)) | (apply cd_d <;> intro h) | (apply cd_s <;> intro h))
   | (apply ji; exact rfl; exact rfl; (first | omega | (simp only [List.length_append, List.length_cons, List.length_nil]; omega) | (simp; omega)))
   | (apply z6; exact rfl; exact rfl)
   | (apply zq; exact rfl; exact rfl)
   | (apply q9; (iterate 3 exact rfl))
   | (apply zt; (iterate 3 exact rfl))
   | (apply zm; (iterate 5 exact rfl))
   | (apply zj; (iterate 11 exact rfl))
   | (apply jt; (iterate 9 exact rfl))
   | apply qv
   | (apply qe; exact Tryz.call46; exact qv0 _ _ hfl hfg)
   | (apply qe; exact Tryz.call48; exact q5g _ _ hxb.id1 hxb.id2)
   | (apply qe; exact Tryz.call49; exact q0l _ _ _ (by omega) (by decide))
   | (apply z0 (n := pre.length); (iterate 5 exact rfl); exact hget))
  refine qe Tryz.call47 (qit st _ _ _ _ 0 1 0 _ _ _ rfl rfl ?_ ?_ rfl) ?_; (exact hq); (simp only [List.length_append, List.length_cons, List.length_nil]; omega)
  repeat' (first
   | apply qb
   | apply qg
   | apply qh
   | (apply jh; exact rfl; exact rfl; exact zl (by omega) (by omega)))
  refine ⟨_, .inr rfl, qa5 ⟨rfl, rfl, rfl, ?_, trivial⟩ ?_⟩
  ·rw [qd2 pre x]; rfl
  ·have e : encF (pre ++ [x]) = encF pre ++ ((j6 x ++ [10]) ++ x2 [32, 32] (kc x.fields)) := by rw [q02, q1d]; rfl
   rw [e]; rfl
theorem qgg (b : List qu) (st : List AObj) (e : ErrV) (hB : ∀ x ∈ b, EdB x) (hl : b.length < 9223372036854775808) (he : eErr b = e) (h0 : e.code ≠ 0) : qm E 15 [ja b] st fun r st' => r = .tu [Sv [], errA e] ∧ st' = st := by
 refine q8 (wj (zd _) (qaj _)) (qq Tryz.func15 rfl (Nat.le_of_ble_eq_true rfl) ?_)
 cases e with
 | no => exact absurd rfl h0
 | num n =>
  repeat' (first
   | apply qj
   | apply qb
   | apply qg
   | apply qh
   | apply qc
   | (apply qd; exact rfl; first | (apply qy; (first | assumption | omega)) | (apply q4; (first | assumption | omega)) | (apply q5; (first | exact rfl | assumption)) | (apply qz; (first | exact rfl | assumption)) | (apply cd_n <;> intro h) | (apply cd_t; (first | exact rfl | assumption)) | (apply cd_f; (first | exact rfl | assumption)) | (apply cd_d <;> intro h) | (apply cd_s <;> intro h))
   | (apply jc; exact rfl; exact rfl)
   | apply qs
   | (apply qe; exact Tryz.call45; exact qme _ _ _ he hB hl))
  exact qk rfl (vd rfl) ⟨rfl, _, rfl⟩
 | at' a n =>
  repeat' (first
   | apply qj
   | apply qb
   | apply qg
   | apply qh
   | apply qc
   | (apply qd; exact rfl; first | (apply qy; (first | assumption | omega)) | (apply q4; (first | assumption | omega)) | (apply q5; (first | exact rfl | assumption)) | (apply qz; (first | exact rfl | assumption)) | (apply cd_n <;> intro h) | (apply cd_t; (first | exact rfl | assumption)) | (apply cd_f; (first | exact rfl | assumption)) | (apply cd_d <;> intro h) | (apply cd_s <;> intro h))
   | (apply jc; exact rfl; exact rfl)
   | apply qs
   | (apply qe; exact Tryz.call45; exact qme _ _ _ he hB hl))
  exact qk rfl (vd rfl) ⟨rfl, _, rfl⟩
end Go.Proofs.YtefmcijohgpfhaaGreatDoor
set_option maxRecDepth 100000
set_option linter.unusedVariables false
namespace Go.Av
open Go Go.RowKit
theorem qs7 {b : Nat} {st l : List AObj} {sz : Nat} {T : TypeId} {xs : List AV} {c : AV} (h : TipO b st sz T xs c) : TipO b (st ++ l) sz T xs c := by
 rcases h with h | h
 ·exact .inl (qfq h)
 ·exact .inr h
theorem qur {b : Nat} {st st' : List AObj} {sz : Nat} {T : TypeId} {xs : List AV} {c : AV} (hs : ∀ (t m sz : Nat) (T : TypeId), st[t]? = some (AObj.tip m sz T) → st'[t]? = st[t]?) (h : TipO b st sz T xs c) : TipO b st' sz T xs c := by
 rcases h with (h | ⟨t, h1, h2, h3⟩) | h
 ·exact .inl (.inl h)
 ·exact .inl (.inr ⟨t, h1, (hs t _ _ _ h2).trans h2, h3⟩)
 ·exact .inr h
end Go.Av
namespace Go.Proofs.YtefmcijohgpfhaaGreatDoor
open Go Go.Av Go.RowKit Go.Proofs Go.Pl
theorem q27 {st l : List AObj} : st.length ≤ (st ++ l).length := by simp
theorem qzt {b o : Nat} {st : List AObj} {sz : Nat} {T : TypeId} {xs : List AV} {c : AV} {x : AObj} (h : TipO b st sz T xs c) (hn : qf3 st[o]?) : TipO b (st.set o x) sz T xs c :=
 qur (fun t m sz T ht => List.getElem?_set_ne (fun e => by subst e; exact hn _ _ _ ht)) h
structure OutI (st : List AObj) (S : List AObj) : Prop where
 low : ∀ j, j < st.length → S[j]? = st[j]?
 len : st.length ≤ S.length
theorem OutI.pre {st S l : List AObj} (h : OutI st S) : OutI st (S ++ l) := ⟨fun j hj => (List.getElem?_append_left (by have := h.len; omega)).trans (h.low j hj), by have := h.len; simp; omega⟩
theorem OutI.set {st S : List AObj} {o : Nat} {x : AObj} (h : OutI st S) (ho : st.length ≤ o) : OutI st (S.set o x) := ⟨fun j hj => (qlo (by omega)).trans (h.low j hj), by have := h.len; simp; omega⟩
theorem OutI.fr {st S S' : List AObj} {t : Nat} (h : OutI st S) (hf : Fr S S' t) (ht : st.length ≤ t) : OutI st S' := ⟨fun j hj => (hf.same j (by omega) (by have := h.len; omega)).trans (h.low j hj), Nat.le_trans h.len hf.len⟩
theorem OutI.ext {st S : List AObj} (h : OutI st S) : ∃ ext, S = st ++ ext := qu6 h.low
theorem qmh {E : Env} {rd : Option Nat} {N : Nat} {ops : Array Oper} {K : AS → Prop} {s : AS} {rest : List Oper} {d : Option Tmp} {T : TypeId} {p : String} {af : Array Edge} {t e : TypeId} {len sz : Nat} {agg : Bool} {parts : Array (Nat × Operand)} {zs cs : List AV} {st : List AObj} (hst : s.st = st) (hu : E.P.underlying t = some (.slice e)) (ht : tyOf E.P e = some (sz, agg)) (hz : qde E.P e len = some zs)
  (hf : qaz (fun i => some (i * sz, sz)) zs (j8 N s parts) = some cs) (hsz : Nat.ble (len * sz) 16777216 = true)
  (h : AOps E rd N ops rest K (AS.put ⟨s.t, st ++ [.cells 0 e cs], s.df⟩ d (.os st.length 0 0 len len))) : AOps E rd N ops (⟨d, .buildSlice t len parts, T, p, af, none⟩ :: rest) K s :=
 x9 (loc := []) (by rw [hst]; simp) hu ht hz hf hsz h
theorem qg6 (x : qu) : qkv (wi x) := fun y hy => by
 simp only [AV.cells, List.mem_cons, List.not_mem_nil, or_false] at hy
 rcases hy with rfl | rfl | rfl
 ·exact zd _
 ·exact zd _
 ·exact qdg _
theorem qg5 (b : List qu) : Pure (ja b) := qd7 fun x hx => by
 obtain ⟨f, _, rfl⟩ := List.mem_map.1 hx
 exact qg6 f
theorem q1b {α β : Type} (g : α → β) (l : List α) (a : α) : (l ++ [a]).map g = l.map g ++ [g a] := by simp
end Go.Proofs.YtefmcijohgpfhaaGreatDoor
set_option maxRecDepth 100000
set_option linter.unusedVariables false
namespace Go.Proofs.YtefmcijohgpfhaaGreatDoor
open Go Go.Av Go.RowKit Go.Proofs Go.Pl
def tryB (k : Int) (l : qa) : Option Int := if yp k <+: l then (match Lib.atoiAll (l.drop (yp k).length) with
 | .ok n => some n
 | _ => none) else none
def begE (l : qa) : Option (Int × Int) := match tryB 1 l with
 | some n => some (1, n)
 | none => match tryB 2 l with
  | some n => some (2, n)
  | none => match tryB 3 l with
   | some n => some (3, n)
   | none => none
def begA : Option (Int × Int) → AV
 | some (k, n) => .tu [wi ⟨k, n, []⟩, Bv true]
 | none => .tu [wi ⟨0, 0, []⟩, Bv false]
theorem qz1 (x : Option (Int × Int)) : Pure (begA x) := by
 rcases x with _ | ⟨k, n⟩
 ·exact wj (qjb (qg6 _)) (zd _)
 ·exact wj (qjb (qg6 _)) (zd _)
theorem qpe (k n : Int) : Weak (.ag [Iv k, Iv n, zv]) (wi ⟨k, n, []⟩) :=
 q3a rfl fun i x y hx hy => by
  match i with
  | 0 => simp at hx hy; subst hx; subst hy; exact yv _
  | 1 => simp at hx hy; subst hx; subst hy; exact yv _
  | 2 => simp at hx hy; subst hx; subst hy; exact qdb 2
  | i + 3 => simp at hx
theorem qwh (l m : qa) (st : List AObj) (h : m <+: l) : qm E 76 [Sv l, Sv m] st fun r st' => r = .tu [Sv (l.drop m.length), Bv true] ∧ st' = st := by
 have := qcb l m st
 rw [qa6 h, (v7 l m).2 h] at this
 exact this
theorem qv2 (l m d : qa) (st : List AObj) (h : m <+: l) (hd : l.drop m.length = d) : qm E 76 [Sv l, Sv m] st fun r st' => r = .tu [Sv d, Bv true] ∧ st' = st := by
 subst hd
 exact qwh l m st h
theorem qwl (l m : qa) (st : List AObj) (h : ¬ m <+: l) : qm E 76 [Sv l, Sv m] st fun r st' => r = .tu [Sv l, Bv false] ∧ st' = st := by
 have := qcb l m st
 have hf : Lib.hasPrefix l m = false := by
  cases hb : Lib.hasPrefix l m with
  | false => rfl
  | true => exact absurd ((v7 l m).1 hb) h
 have ht : Lib.trimPrefix l m = l := by
  unfold Lib.trimPrefix
  rw [if_neg (by simp [hf])]
 rw [ht, hf] at this
 exact this
theorem q3p {l : qa} {k : Nat} {n : Int} (h1 : 1 ≤ k) (h3 : k ≤ 3) (h : ∀ j : Nat, 1 ≤ j → j < k → tryB j l = none) (hk : tryB k l = some n) : begE l = some ((k : Int), n) := by
 have : k = 1 ∨ k = 2 ∨ k = 3 := by omega
 rcases this with rfl | rfl | rfl
 ·have hk1 : tryB 1 l = some n := hk
  simp [begE, hk1]
 ·have e1 : tryB 1 l = none := h 1 (by omega) (by omega)
  have hk1 : tryB 2 l = some n := hk
  simp [begE, e1, hk1]
 ·have e1 : tryB 1 l = none := h 1 (by omega) (by omega)
  have e2 : tryB 2 l = none := h 2 (by omega) (by omega)
  have hk1 : tryB 3 l = some n := hk
  simp [begE, e1, e2, hk1]
theorem qzo {l : qa} (h : ∀ j : Nat, 1 ≤ j → j < 4 → tryB j l = none) : begE l = none := by
 have e1 : tryB 1 l = none := h 1 (by omega) (by omega)
 have e2 : tryB 2 l = none := h 2 (by omega) (by omega)
 have e3 : tryB 3 l = none := h 3 (by omega) (by omega)
 simp [begE, e1, e2, e3]
theorem qy4 {k : Nat} (h1 : 1 ≤ k) (h3 : k ≤ 3) : yw (k : Int) ≠ [] ∧ ([32] ++ yw (k : Int)) ++ [32] = yp (k : Int) ∧ (yw (k : Int)).length ≤ 10 := by
 have : k = 1 ∨ k = 2 ∨ k = 3 := by omega
 rcases this with rfl | rfl | rfl <;> decide
set_option maxHeartbeats 2000000 in
theorem q3x (l : qa) (st : List AObj) (hl : l.length < 1000000) : qm E 37 [Sv l] st fun r st' => r = begA (begE l) ∧ st' = st := by
 refine q8 (qz1 _) (qq Tryz.func37 rfl (Nat.le_of_ble_eq_true rfl) ?_)
 repeat' (first
  | apply qj
  | apply qt
  | apply qb
  | apply qg
  | apply qc
  | (apply zq; exact rfl; exact rfl))
 refine vq (fun (k : Nat) s => 1 ≤ k ∧ k ≤ 4 ∧ (∀ j : Nat, 1 ≤ j → j < k → tryB j l = none) ∧ StE [(0, Sv l), (2, .bx (st.length + 0) 0 0), (4, Iv k)] st [.cells 0 45 [Iv 0, Iv 0, zv]] s) (fun k => 4 - k) 1 ⟨by omega, by omega, fun j h1 h2 => by omega, qb6 ⟨rfl, rfl, rfl, trivial⟩ rfl⟩ ?_
 rintro k _ ⟨hk1, hk4, hno, t, ext, rfl⟩
 by_cases h4 : k = 4
 ·subst h4
  have hw : yw ((4 : Nat) : Int) = [] := by decide
  rw [qzo hno]
  repeat' (first
   | apply qj
   | apply qb
   | apply qg
   | apply qh
   | apply qc
   | (apply z4; (iterate 3 exact rfl))
   | (apply qd; exact rfl; first | (apply qy; (first | assumption | omega)) | (apply q4; (first | assumption | omega)) | (apply q5; (first | exact rfl | assumption)) | (apply qz; (first | exact rfl | assumption)) | (apply cd_n <;> intro h) | (apply cd_t; (first | exact rfl | assumption)) | (apply cd_f; (first | exact rfl | assumption)) | (apply cd_d <;> intro h) | (apply cd_s <;> intro h))
   | (apply va; (iterate 11 exact rfl))
   | (apply js; (iterate 3 exact rfl))
   | apply jk
   | apply qs
   | (apply qe; exact Tryz.call75; exact qoh _ _))
  refine qk rfl (xh (qcj rfl rfl rfl rfl rfl rfl) (qcq (qpe 0 0) (yv _))) ⟨rfl, vc _ _ _ _⟩
 ·obtain ⟨hw, hm, hwl⟩ := qy4 hk1 (by omega)
  by_cases hp : yp (k : Int) <+: l
  ·have hp' : ([32] ++ yw (k : Int)) ++ [32] <+: l := by rw [hm]; exact hp
   obtain ⟨d, hd0⟩ : ∃ d, d = l.drop (yp (k : Int)).length := ⟨_, rfl⟩
   have hd : l.drop ((([32] : qa) ++ yw (k : Int)) ++ [32]).length = d := by rw [hm, hd0]
   have hdl : d.length < 1000000 := by rw [hd0, List.length_drop]; omega
   repeat' (first
    | apply qj
    | apply qt
    | apply qb
    | apply qg
    | apply qh
    | apply qc
    | (apply zb; exact rfl; exact rfl)
    | (apply z4; (iterate 3 exact rfl))
    | (apply qd; exact rfl; first | (apply qy; (first | assumption | omega)) | (apply q4; (first | assumption | omega)) | (apply q5; (first | exact rfl | assumption)) | (apply qz; (first | exact rfl | assumption)) | (apply cd_n <;> intro h) | (apply cd_t; (first | exact rfl | assumption)) | (apply cd_f; (first | exact rfl | assumption)) | (apply cd_d <;> intro h) | (apply cd_s <;> intro h))
    | (apply ji; exact rfl; exact rfl; (first | omega | (simp only [List.length_append, List.length_cons, List.length_nil]; omega) | (simp; omega)))
    | apply qv
    | (apply qe; exact Tryz.call75; exact qoh _ _)
    | (apply qe; exact Tryz.call76; exact qv2 _ _ _ _ hp' hd))
   refine qda Tryz.call77 ((qj3 d _ (by omega)).mono ?_)
   rintro _ _ ⟨rfl, n, x, rfl, hx⟩
   rw [hd0] at hx
   rcases x with _ | ⟨t', y⟩
   ·simp only at hx
    have htr : tryB (k : Int) l = some n := by unfold tryB; rw [if_pos hp, hx]
    rw [q3p hk1 (by omega) hno htr]
    repeat' (first
     | apply qj
     | apply qb
     | apply qg
     | apply qh
     | apply qc
     | (apply zb; exact rfl; exact rfl)
     | (apply za; (iterate 4 exact rfl))
     | (apply yc; (first | exact rfl | assumption))
     | (apply zf; exact rfl; first | (apply j9; (first | assumption | omega)) | (apply ke; (first | assumption | omega)) | (apply kg; (first | exact rfl | assumption)) | (apply kh; (first | exact rfl | assumption)) | (apply pk_t; (first | exact rfl | assumption)) | (apply pk_f; (first | exact rfl | assumption)))
     | (apply qd; exact rfl; first | (apply qy; (first | assumption | omega)) | (apply q4; (first | assumption | omega)) | (apply q5; (first | exact rfl | assumption)) | (apply qz; (first | exact rfl | assumption)) | (apply cd_n <;> intro h) | (apply cd_t; (first | exact rfl | assumption)) | (apply cd_f; (first | exact rfl | assumption)) | (apply cd_d <;> intro h) | (apply cd_s <;> intro h))
     | (apply xn; exact rfl; exact rfl)
     | (apply va; (iterate 11 exact rfl))
     | (apply js; (iterate 3 exact rfl))
     | apply qs)
    refine qk rfl (xh (qcj rfl rfl rfl rfl rfl rfl) (qcq (qpe k n) (yv _))) ⟨rfl, vc _ _ _ _⟩
   ·simp only at hx
    have htr : tryB (k : Int) l = none := by
     unfold tryB
     rw [if_pos hp]
     split
     ·rename_i v hv; exact absurd hv (hx v)
     ·rfl
    repeat' (first
     | apply qj
     | apply qb
     | apply qg
     | apply qh
     | apply qc
     | (apply zb; exact rfl; exact rfl)
     | (apply za; (iterate 4 exact rfl))
     | (apply yc; (first | exact rfl | assumption))
     | (apply zf; exact rfl; first | (apply j9; (first | assumption | omega)) | (apply ke; (first | assumption | omega)) | (apply kg; (first | exact rfl | assumption)) | (apply kh; (first | exact rfl | assumption)) | (apply pk_t; (first | exact rfl | assumption)) | (apply pk_f; (first | exact rfl | assumption)))
     | (apply qd; exact rfl; first | (apply qy; (first | assumption | omega)) | (apply q4; (first | assumption | omega)) | (apply q5; (first | exact rfl | assumption)) | (apply qz; (first | exact rfl | assumption)) | (apply cd_n <;> intro h) | (apply cd_t; (first | exact rfl | assumption)) | (apply cd_f; (first | exact rfl | assumption)) | (apply cd_d <;> intro h) | (apply cd_s <;> intro h))
     | (apply jh; exact rfl; exact rfl; exact zl (by omega) (by omega))
     | (apply xt; exact rfl; exact rfl)
     | apply qv)
    refine ⟨k + 1, ⟨by omega, by omega, fun j h1 h2 => ?_, qa5 ⟨rfl, rfl, rfl, trivial⟩ rfl⟩, by omega⟩
    by_cases hjk : j = k
    ·subst hjk; exact htr
    ·exact hno j h1 (by omega)
  ·have hp' : ¬ ([32] ++ yw (k : Int)) ++ [32] <+: l := by rw [hm]; exact hp
   have htr : tryB (k : Int) l = none := by unfold tryB; rw [if_neg hp]
   repeat' (first
    | apply qj
    | apply qt
    | apply qb
    | apply qg
    | apply qh
    | apply qc
    | (apply zb; exact rfl; exact rfl)
    | (apply z4; (iterate 3 exact rfl))
    | (apply qd; exact rfl; first | (apply qy; (first | assumption | omega)) | (apply q4; (first | assumption | omega)) | (apply q5; (first | exact rfl | assumption)) | (apply qz; (first | exact rfl | assumption)) | (apply cd_n <;> intro h) | (apply cd_t; (first | exact rfl | assumption)) | (apply cd_f; (first | exact rfl | assumption)) | (apply cd_d <;> intro h) | (apply cd_s <;> intro h))
    | (apply ji; exact rfl; exact rfl; (first | omega | (simp only [List.length_append, List.length_cons, List.length_nil]; omega) | (simp; omega)))
    | apply qv
    | (apply qe; exact Tryz.call75; exact qoh _ _)
    | (apply qe; exact Tryz.call76; exact qwl _ _ _ hp'))
   refine qda Tryz.call77 ((qj3 l _ (by omega)).mono ?_)
   rintro _ _ ⟨rfl, n, x, rfl, hx⟩
   rcases x with _ | ⟨t', y⟩
   all_goals
    repeat' (first
     | apply qj
     | apply qb
     | apply qg
     | apply qh
     | apply qc
     | (apply zb; exact rfl; exact rfl)
     | (apply za; (iterate 4 exact rfl))
     | (apply xf; (first | exact rfl | assumption))
     | (apply zf; exact rfl; first | (apply j9; (first | assumption | omega)) | (apply ke; (first | assumption | omega)) | (apply kg; (first | exact rfl | assumption)) | (apply kh; (first | exact rfl | assumption)) | (apply pk_t; (first | exact rfl | assumption)) | (apply pk_f; (first | exact rfl | assumption)))
     | (apply qd; exact rfl; first | (apply qy; (first | assumption | omega)) | (apply q4; (first | assumption | omega)) | (apply q5; (first | exact rfl | assumption)) | (apply qz; (first | exact rfl | assumption)) | (apply cd_n <;> intro h) | (apply cd_t; (first | exact rfl | assumption)) | (apply cd_f; (first | exact rfl | assumption)) | (apply cd_d <;> intro h) | (apply cd_s <;> intro h))
     | (apply jh; exact rfl; exact rfl; exact zl (by omega) (by omega))
     | apply qv)
    refine ⟨k + 1, ⟨by omega, by omega, fun j h1 h2 => ?_, qa5 ⟨rfl, rfl, rfl, trivial⟩ rfl⟩, by omega⟩
    by_cases hjk : j = k
    ·subst hjk; exact htr
    ·exact hno j h1 (by omega)
def recsF (its : List ka) : List (List Fld) := (its.filter fun x => decide (x.kind = 3)).map ka.fields
@[reducible] def q20 (ls : List (List Fld)) : AV := .sl 1 (ls.map ju) none
theorem qvw (ls : List (List Fld)) : Pure (q20 ls) := qd7 fun x hx => by
 obtain ⟨f, _, rfl⟩ := List.mem_map.1 hx
 intro y hy
 simp only [AV.cells, List.mem_cons, List.not_mem_nil, or_false] at hy
 subst hy
 exact qdg _
theorem qty (l : List ka) (x : ka) (h : x.kind = 3) : recsF (l ++ [x]) = recsF l ++ [x.fields] := by simp [recsF, h]
theorem qtq (l : List ka) (x : ka) (h : ¬ x.kind = 3) : recsF (l ++ [x]) = recsF l := by simp [recsF, h]
theorem q3j {b t1 : Nat} {st st' : List AObj} {sz : Nat} {T : TypeId} {xs : List AV} {c c0 : AV} {sz0 : Nat} {xs0 : List AV} (hf : Fr st st' t1) (hid : c0 = .sl sz0 xs0 (some t1) ∨ st.length ≤ t1) (h0 : ∀ t, c0 ≠ .sl sz0 xs0 (some t)) (h : TipO b st sz T xs c) : TipO b st' sz T xs c :=
 qur (fun t m sz T ht => hf.same t (fun e => by
  subst e
  rcases hid with hid | hid
  ·exact h0 _ hid
  ·have := lt_of_getElem? ht; omega) (lt_of_getElem? ht)) h
theorem q0u {b t1 : Nat} {st st' : List AObj} {sz : Nat} {T : TypeId} {xs : List AV} {c : AV} {sz0 : Nat} {xs0 : List AV} {o v f l k : Nat} (hf : Fr st st' t1) (hid : AV.os o v f l k = .sl sz0 xs0 (some t1) ∨ st.length ≤ t1) (h : TipO b st sz T xs c) : TipO b st' sz T xs c :=
 q3j hf hid (by simp) h
set_option maxHeartbeats 2000000 in
theorem qzq (its : List ka) (st : List AObj) (hl : its.length < 1000000) (hf : ∀ x ∈ its, x.fields.length < 1000000) : qm E 79 [qbv its] st fun r st' => r = q20 (recsF its) ∧ st' = st := by
 refine q8 (qvw _) (qq Tryz.func79 rfl (Nat.le_of_ble_eq_true rfl) ?_)
 have hml : (its.map qa2).length = its.length := by simp
 rw [List.append_nil]
 repeat' (first
  | apply qj
  | apply qt
  | apply qb
  | apply qg
  | apply qh
  | apply qc
  | (apply zx; (iterate 4 exact rfl)))
 refine qam its (fun pre s => ∃ c S, OutI st S ∧ TipO st.length S 1 43 ((recsF pre).map ju) c ∧ StA [(3, c), (6, qbv its), (7, Iv its.length), (8, Iv pre.length)] S [] s) ⟨_, st, ⟨fun _ _ => rfl, Nat.le_refl _⟩, q2h .., qab ⟨rfl, rfl, congrArg (fun n : Nat => Iv (n : Int)) hml, rfl, trivial⟩⟩ ?_ ?_
 ·rintro _ ⟨c, S, hO, hT, t, rfl⟩
  repeat' (first
   | apply qj
   | apply qb
   | apply qg
   | apply qh
   | apply qc
   | (apply qo; (iterate 3 exact rfl))
   | (apply qd; exact rfl; first | (apply qy; (first | assumption | omega)) | (apply q4; (first | assumption | omega)) | (apply q5; (first | exact rfl | assumption)) | (apply qz; (first | exact rfl | assumption)) | (apply cd_n <;> intro h) | (apply cd_t; (first | exact rfl | assumption)) | (apply cd_f; (first | exact rfl | assumption)) | (apply cd_d <;> intro h) | (apply cd_s <;> intro h))
   | apply jk
   | apply qs)
  exact qk rfl (xh (ze rfl) (qma hT)) ⟨rfl, hO.ext⟩
 ·rintro pre x rest _ hr ⟨c, S, hO, hT, t, rfl⟩
  have hlen : its.length = pre.length + (rest.length + 1) := by rw [hr]; simp
  have hget : (its.map qa2)[pre.length]? = some (qa2 x) := by rw [hr]; simp
  have hxf := hf x (by rw [hr]; simp)
  have hpl : (recsF pre).length ≤ pre.length := by unfold recsF; rw [List.length_map]; exact List.length_filter_le _ _
  have hSl := hO.len
  have hO1 : OutI st ((S ++ [AObj.cells 0 152 [Iv 0, Sv [], zv]]).set S.length (.cells 0 152 (qa2 x).cells)) := hO.pre.set hSl
  have hT1 : TipO st.length ((S ++ [AObj.cells 0 152 [Iv 0, Sv [], zv]]).set S.length (.cells 0 152 (qa2 x).cells)) 1 43 ((recsF pre).map ju) c := qzt (qs7 hT) (qad yg)
  have hob : ((S ++ [AObj.cells 0 152 [Iv 0, Sv [], zv]]).set S.length (.cells 0 152 (qa2 x).cells))[S.length]? = some (.cells 0 152 (qa2 x).cells) := ku yg
  by_cases h3 : x.kind = 3
  ·skip
   repeat' (first
    | (apply qmh (st := (S ++ [AObj.cells 0 152 [Iv 0, Sv [], zv]]).set S.length (.cells 0 152 (qa2 x).cells)); (iterate 6 exact rfl))
    | (apply qzp 19 rfl (qma g1); apply jt; (iterate 9 exact rfl))
    | apply qj
    | apply qt
    | apply qb
    | apply qg
    | apply qh
    | apply qc
    | (apply qo; (iterate 3 exact rfl))
    | (apply qd; exact rfl; first | (apply qy; (first | assumption | omega)) | (apply q4; (first | assumption | omega)) | (apply q5; (first | exact rfl | assumption)) | (apply qz; (first | exact rfl | assumption)) | (apply cd_n <;> intro h) | (apply cd_t; (first | exact rfl | assumption)) | (apply cd_f; (first | exact rfl | assumption)) | (apply cd_d <;> intro h) | (apply cd_s <;> intro h))
    | (apply jh; exact rfl; exact rfl; exact zl (by omega) (by omega))
    | (apply q9; (iterate 3 exact rfl))
    | (apply zt; (iterate 3 exact rfl))
    | apply qv
    | (apply jv; exact rfl; exact hob; exact rfl; exact rfl)
    | (apply jv; exact rfl; exact qap hob; exact rfl; exact rfl)
    | (apply qg3 (st := S); exact rfl; exact rfl)
    | (apply wv; exact rfl; exact rfl; (focus first | assumption | (repeat' (first | assumption | exact yg | exact z2 rfl | apply ku | apply jx | omega | apply qap))); (iterate 6 exact rfl))
    | (apply z0 (n := pre.length); (iterate 5 exact rfl); exact hget)
    | (apply qjt (b := st.length) (xs := []) (ys := x.fields.map fldA) (bytes := 32);  (iterate 5 exact rfl); exact ⟨⟨_, _, rfl, rfl, rfl, rfl, rfl⟩⟩; exact q3f _ _ _ _ _ _ _; (exact Nat.le_trans hO1.len q27); (first | exact rfl | exact qi fun _ => rfl); ((simp [maxLen]; omega)); ((simp; omega)); intro c1 S1 t1 g1 g2 g3 g4)
    | (apply qjt (b := st.length) (xs := (recsF pre).map ju) (ys := [ju x.fields]) (bytes := 24);  (iterate 5 exact rfl); exact ⟨⟨_, _, rfl, rfl, rfl, rfl, rfl⟩⟩; exact q0u g2 g4 (qs7 hT1); (exact (hO1.pre.fr g2 g3).len); (first | exact rfl | exact qi fun _ => rfl); ((simp [maxLen]; omega)); ((simp; omega)); intro c2 S2 t2 k1 k2 k3 k4))
   exact ⟨c2, S2, (hO1.pre.fr g2 g3).fr k2 k3, by rw [qty _ _ h3, q1b]; exact k1, qab ⟨rfl, rfl, rfl, qfl pre x, trivial⟩⟩
  ·skip
   repeat' (first
    | apply qj
    | apply qt
    | apply qb
    | apply qg
    | apply qh
    | (apply qo; (iterate 3 exact rfl))
    | (apply qd; exact rfl; first | (apply qy; (first | assumption | omega)) | (apply q4; (first | assumption | omega)) | (apply q5; (first | exact rfl | assumption)) | (apply qz; (first | exact rfl | assumption)) | (apply cd_n <;> intro h) | (apply cd_t; (first | exact rfl | assumption)) | (apply cd_f; (first | exact rfl | assumption)) | (apply cd_d <;> intro h) | (apply cd_s <;> intro h))
    | (apply jh; exact rfl; exact rfl; exact zl (by omega) (by omega))
    | (apply q9; (iterate 3 exact rfl))
    | (apply zt; (iterate 3 exact rfl))
    | apply qv
    | (apply jv; exact rfl; exact hob; exact rfl; exact rfl)
    | (apply qg3 (st := S); exact rfl; exact rfl)
    | (apply wv; exact rfl; exact rfl; (focus first | assumption | (repeat' (first | assumption | exact yg | exact z2 rfl | apply ku | apply jx | omega | apply qap))); (iterate 6 exact rfl))
    | (apply z0 (n := pre.length); (iterate 5 exact rfl); exact hget))
   exact ⟨c, _, hO1, by rw [qtq _ _ h3]; exact hT1, qab ⟨rfl, rfl, rfl, qfl pre x, trivial⟩⟩
end Go.Proofs.YtefmcijohgpfhaaGreatDoor
set_option maxRecDepth 100000
set_option linter.unusedVariables false
namespace Go.Pl
open Go Go.Proofs Go.Proofs.YtefmcijohgpfhaaGreatDoor
def GF (fs : List Fld) : Prop := fs.length ≤ 40 ∧ ∀ f ∈ fs, jl f
structure PI (p : PSt) : Prop where
 items : ∀ x ∈ p.items, GF x.fields ∧ (x.kind = 3 ↔ x.fields ≠ [])
 fields : GF p.fields
 full : p.lines ≠ [] → p.full = false → p.fields.length < 40
theorem qtr {ls : List qa} (h : (jf ls).2 = 0) : jl (jf ls).1 := by
 unfold jf at h ⊢
 split at h
 ·split at h
  ·simp at h
  ·rename_i h1 h2
   rw [if_pos h1, if_neg h2]
   exact ⟨(qj6.1 h1.2.1).2.2, Nat.le_of_not_lt h2⟩
 ·simp at h
theorem pi0 : PI p0 := ⟨by simp [p0], ⟨by simp [p0], by simp [p0]⟩, by simp [p0]⟩
theorem PI.flush {p : PSt} (h : PI p) : PI (je p).2 := by
 unfold je
 split
 ·exact h
 ·rename_i hl
  split
  ·exact h
  ·rename_i hu
   split
   ·exact h
   ·rename_i hf
    have hlt := h.full hl (by simpa using hf)
    refine ⟨h.items, ⟨by simp; omega, fun f hm => ?_⟩, by simp⟩
    rcases List.mem_append.1 hm with hm | hm
    ·exact h.fields.2 f hm
    ·simp at hm; subst hm; exact qtr (by simpa using hu)
theorem PI.close {p : PSt} (h : PI p) : PI (w7 p) := by
 unfold w7
 split
 ·exact ⟨h.items, ⟨by simp, by simp⟩, fun h1 h2 => by simp⟩
 ·refine ⟨fun x hx => ?_, ⟨by simp, by simp⟩, fun h1 h2 => by simp⟩
  rcases List.mem_append.1 hx with hx | hx
  ·exact h.items x hx
  ·simp at hx
   subst hx
   refine ⟨h.fields, ?_⟩
   simp only
   split
   ·rename_i h0; simp [h0]
   ·rename_i h0; simp [h0]
theorem PI.end' {p : PSt} (h : PI p) : PI (endP p).2 := by
 unfold endP
 split
 ·exact h
 ·exact h.flush.close
theorem PI.lines' {p : PSt} (h : PI p) (hl : p.lines ≠ []) (text : qa) : PI { p with lines := p.lines ++ [text] } := ⟨h.items, h.fields, fun _ hf => h.full hl hf⟩
theorem PI.begin' {p : PSt} (h : PI p) (no : Int) (text : qa) : PI (jq p no text) := by
 refine ⟨h.items, h.fields, fun _ hf => ?_⟩
 have := h.fields.1
 simp only [jq, decide_eq_false_iff_not, not_or] at hf ⊢
 omega
theorem PI.ahead {p : PSt} (h : PI p) (no : Int) (text : qa) (ended : Bool) (kind : Int) : PI (jd p no text ended kind).2 := by
 unfold jd
 split
 ·split
  ·exact h
  ·rename_i hl
   split
   ·exact h.lines' hl text
   ·exact (h.lines' hl text).flush
 ·split
  ·exact h.end'
  ·exact h.flush
theorem PI.take {p : PSt} (h : PI p) (no : Int) (text : qa) (ended : Bool) : PI (vf p no text ended).2 := by
 have ha := h.ahead no text ended (qx text)
 unfold vf
 split
 ·exact h
 ·split
  ·exact h
  ·split
   ·refine ⟨fun x hx => ?_, ha.fields, ha.full⟩
    rcases List.mem_append.1 hx with hx | hx
    ·exact ha.items x hx
    ·simp at hx; subst hx; exact ⟨⟨by simp, by simp⟩, by simp⟩
   ·split
    ·have hb := ha.begin' no text
     exact ⟨hb.items, hb.fields, hb.full⟩
    ·exact ⟨ha.items, ha.fields, ha.full⟩
theorem PI.run : ∀ (ls : List (qa × Bool)) (k : Nat) (p : PSt), PI p → PI (runL k ls p).2
 | [], k, p, h => h.end'
 | (t, e) :: r, k, p, h => by
  unfold runL
  split
  ·exact h
  ·exact PI.run r (k + 1) _ (h.take k t e)
theorem qlw (text : qa) : ∀ x ∈ (jr text).2, GF x.fields ∧ (x.kind = 3 ↔ x.fields ≠ []) := by
 unfold jr
 split
 ·simp
 ·exact (PI.run _ 0 _ pi0).items
theorem qrg (p : PSt) : (w7 p).items.length ≤ p.items.length + 1 := by
 unfold w7
 split <;> simp
theorem qfz (p : PSt) : (je p).2.items = p.items := by
 unfold je
 split
 ·rfl
 ·split
  ·rfl
  ·split <;> rfl
theorem qnj (p : PSt) : (endP p).2.items.length ≤ p.items.length + 1 := by
 unfold endP
 split
 ·simp
 ·have := qrg (je p).2
  rw [qfz] at this
  exact this
theorem qsw (p : PSt) (no : Int) (text : qa) (ended : Bool) (kind : Int) : (jd p no text ended kind).2.items.length ≤ p.items.length + 1 := by
 unfold jd
 split
 ·split
  ·simp
  ·split
   ·simp
   ·rw [qfz]; simp
 ·split
  ·exact qnj p
  ·rw [qfz]; simp
theorem qug (p : PSt) (no : Int) (text : qa) (ended : Bool) : (vf p no text ended).2.items.length ≤ p.items.length + 2 := by
 have ha := qsw p no text ended (qx text)
 unfold vf
 split
 ·simp
 ·split
  ·simp
  ·split
   ·simp; omega
   ·split
    ·simp [jq]; omega
    ·simp; omega
theorem qm8 : ∀ (ls : List (qa × Bool)) (k : Nat) (p : PSt), (runL k ls p).2.items.length ≤ p.items.length + 2 * ls.length + 1
 | [], k, p => by have := qnj p; simp [runL]; omega
 | (t, e) :: r, k, p => by
  unfold runL
  split
  ·simp; omega
  ·have h1 := qm8 r (k + 1) (vf p k t e).2
   have h2 := qug p k t e
   simp only [List.length_cons]
   omega
theorem qyh (text : qa) : (jr text).2.length ≤ 2 * text.length + 1 := by
 unfold jr
 split
 ·simp
 ·have h1 := qm8 (zu text) 0 p0
  have h2 := (qeo _ text (Nat.le_refl _)).2
  have h3 : p0.items.length = 0 := rfl
  simp only
  omega
theorem qw2 (by' l : qa) : (jw by' l).1.length ≤ l.length := by
 unfold jw
 split
 ·have h := (qeo _ l (Nat.le_refl _)).1
  have key : ∀ (ls : List (qa × Bool)), (ls.flatMap fun x => x.1.drop by'.length ++ wp x.2).length ≤ lsum ls := by
   intro ls
   induction ls with
   | nil => simp [lsum]
   | cons x r ih =>
    simp only [lsum, List.flatMap_cons, List.length_append, List.map_cons, List.sum_cons, List.length_drop] at ih ⊢
    omega
  have := key (zu l)
  simp only
  omega
 ·simp
end Go.Pl
set_option maxRecDepth 100000
set_option linter.unusedVariables false
namespace Go.Proofs.YtefmcijohgpfhaaGreatDoor
open Go Go.Av Go.RowKit Go.Proofs Go.Pl
theorem qik (text : qa) (st : List AObj) (hl : text.length ≤ 60000) (h : (jr text).1 = none) : qm E 57 [Sv text] st fun r st' => r = .tu [qbv (jr text).2, .v .nilIface] ∧ st' = st := by
 have := qmo text st hl
 unfold qbk at this
 rw [h] at this
 exact this
theorem qt5 (text : qa) (st : List AObj) (a n : Int) (hl : text.length ≤ 60000) (h : (jr text).1 = some (a, n)) : qm E 57 [Sv text] st fun r st' => r = .tu [qbv (jr text).2, .ifc 103 (.pp [Iv a, .ifc 31 (Iv n)])] ∧ st' = st := by
 have := qmo text st hl
 unfold qbk at this
 rw [h] at this
 exact this
def qbx (text : qa) : List Fld × Bool :=
 if (jw [32, 32] text).2 = false ∨ (jr (jw [32, 32] text).1).1 ≠ none then ([], false)
 else match recsF (jr (jw [32, 32] text).1).2 with
  | [] => ([], decide ((jw [32, 32] text).1 = []))
  | f :: _ => (f, decide ((jr (jw [32, 32] text).1).2.length = 1))
theorem q5t {a b : List Fld} {c d : Bool} (h1 : a = b) (h2 : c = d) : AV.tu [ju a, Bv c] = AV.tu [ju b, Bv d] := by rw [h1, h2]
theorem qv1 {its : List ka} (h : ∀ x ∈ its, GF x.fields ∧ (x.kind = 3 ↔ x.fields ≠ [])) : ∀ fs ∈ recsF its, GF fs ∧ fs ≠ [] := fun fs hfs => by
 obtain ⟨x, hx, rfl⟩ := List.mem_map.1 hfs
 obtain ⟨hx1, hx2⟩ := List.mem_filter.1 hx
 have := h x hx1
 exact ⟨this.1, this.2.1 (by simpa using hx2)⟩
set_option maxHeartbeats 2000000 in
theorem q2b (text : qa) (st : List AObj) (hl : text.length ≤ 60000) : qm E 38 [Sv text] st fun r st' => r = .tu [ju (qbx text).1, Bv (qbx text).2] ∧ st' = st := by
 refine q8 (wj (qdg _) (zd _)) (qq Tryz.func38 rfl (Nat.le_of_ble_eq_true rfl) ?_)
 have hdl := qw2 [32, 32] text
 have hpl := qyh (jw [32, 32] text).1
 have hit := qlw (jw [32, 32] text).1
 unfold qbx
 obtain ⟨d, hd⟩ : ∃ d, d = jw [32, 32] text := ⟨_, rfl⟩
 have hdc : ∀ st, qm E 78 [Sv text, Sv [32, 32]] st fun r st' => r = .tu [Sv d.1, Bv d.2] ∧ st' = st := fun st => by rw [hd]; exact qq0 text [32, 32] st (by omega)
 rw [← hd] at hdl hpl hit ⊢
 obtain ⟨b, ok⟩ := d
 simp only at hdl hpl hit hdc ⊢
 cases hp : (jr b).1 with
 | some e =>
  obtain ⟨a, n⟩ := e
  rw [if_pos (.inr (by simp))]
  cases ok
  all_goals
   repeat' (first
    | apply qj
    | apply qb
    | apply qg
    | apply qh
    | apply qc
    | (apply zb; exact rfl; exact rfl)
    | (apply z7; exact rfl)
    | (apply za; (iterate 4 exact rfl))
    | (apply wu; (first | exact rfl | assumption))
    | (apply xd; (first | exact rfl | assumption))
    | (apply zf; exact rfl; first | (apply j9; (first | assumption | omega)) | (apply ke; (first | assumption | omega)) | (apply kg; (first | exact rfl | assumption)) | (apply kh; (first | exact rfl | assumption)) | (apply pk_t; (first | exact rfl | assumption)) | (apply pk_f; (first | exact rfl | assumption)))
    | (apply qd; exact rfl; first | (apply qy; (first | assumption | omega)) | (apply q4; (first | assumption | omega)) | (apply q5; (first | exact rfl | assumption)) | (apply qz; (first | exact rfl | assumption)) | (apply cd_n <;> intro h) | (apply cd_t; (first | exact rfl | assumption)) | (apply cd_f; (first | exact rfl | assumption)) | (apply cd_d <;> intro h) | (apply cd_s <;> intro h))
    | (apply jc; exact rfl; exact rfl)
    | apply qs
    | (apply qe; exact Tryz.call78; exact hdc _)
    | (apply qe; exact Tryz.call57; exact qt5 _ _ _ _ (by omega) hp))
   exact qk rfl (xh (vd rfl) (qcq (qdb 2) (yv (Bv false)))) ⟨rfl, _, rfl⟩
 | none =>
  cases ok
  ·rw [if_pos (.inl rfl)]
   repeat' (first
    | apply qj
    | apply qb
    | apply qg
    | apply qh
    | apply qc
    | (apply zb; exact rfl; exact rfl)
    | (apply z7; exact rfl)
    | (apply za; (iterate 4 exact rfl))
    | (apply xd; (first | exact rfl | assumption))
    | (apply zf; exact rfl; first | (apply j9; (first | assumption | omega)) | (apply ke; (first | assumption | omega)) | (apply kg; (first | exact rfl | assumption)) | (apply kh; (first | exact rfl | assumption)) | (apply pk_t; (first | exact rfl | assumption)) | (apply pk_f; (first | exact rfl | assumption)))
    | (apply qd; exact rfl; first | (apply qy; (first | assumption | omega)) | (apply q4; (first | assumption | omega)) | (apply q5; (first | exact rfl | assumption)) | (apply qz; (first | exact rfl | assumption)) | (apply cd_n <;> intro h) | (apply cd_t; (first | exact rfl | assumption)) | (apply cd_f; (first | exact rfl | assumption)) | (apply cd_d <;> intro h) | (apply cd_s <;> intro h))
    | apply qs
    | (apply qe; exact Tryz.call78; exact hdc _)
    | (apply qe; exact Tryz.call57; exact qik _ _ (by omega) hp))
   exact qk rfl (xh (vd rfl) (qcq (qdb 2) (yv (Bv false)))) ⟨rfl, _, rfl⟩
  ·rw [if_neg (by simp)]
   have hsc := fun st => qzq (jr b).2 st (by omega) (fun x hx => by have := (hit x hx).1.1; omega)
   have hml : ((jr b).2.map qa2).length = (jr b).2.length := by simp
   cases hr : recsF (jr b).2 with
   | nil =>
    rw [hr] at hsc
    repeat' (first
     | apply qj
     | apply qb
     | apply qg
     | apply qh
     | apply qc
     | (apply zb; exact rfl; exact rfl)
     | (apply qo; (iterate 3 exact rfl))
     | (apply z4; (iterate 3 exact rfl))
     | (apply z7; exact rfl)
     | (apply za; (iterate 4 exact rfl))
     | (apply wu; (first | exact rfl | assumption))
     | (apply zf; exact rfl; first | (apply j9; (first | assumption | omega)) | (apply ke; (first | assumption | omega)) | (apply kg; (first | exact rfl | assumption)) | (apply kh; (first | exact rfl | assumption)) | (apply pk_t; (first | exact rfl | assumption)) | (apply pk_f; (first | exact rfl | assumption)))
     | (apply qd; exact rfl; first | (apply qy; (first | assumption | omega)) | (apply q4; (first | assumption | omega)) | (apply q5; (first | exact rfl | assumption)) | (apply qz; (first | exact rfl | assumption)) | (apply cd_n <;> intro h) | (apply cd_t; (first | exact rfl | assumption)) | (apply cd_f; (first | exact rfl | assumption)) | (apply cd_d <;> intro h) | (apply cd_s <;> intro h))
     | (apply zx; (iterate 4 exact rfl))
     | (apply z6; exact rfl; exact rfl)
     | apply qv
     | apply qs
     | (apply qe; exact Tryz.call78; exact hdc _)
     | (apply qe; exact Tryz.call57; exact qik _ _ (by omega) hp)
     | (apply qe; exact Tryz.call79; exact hsc _))
    exact qk rfl (xh (vd rfl) (qcq (qdb 2) (yv (Bv (decide (b = [])))))) ⟨rfl, _, rfl⟩
   | cons f r =>
    rw [hr] at hsc
    have hrl : ((f :: r).map ju).length = r.length + 1 := by simp
    repeat' (first
     | apply qj
     | apply qb
     | apply qg
     | apply qh
     | apply qc
     | (apply zb; exact rfl; exact rfl)
     | (apply qo; (iterate 3 exact rfl))
     | (apply z7; exact rfl)
     | (apply za; (iterate 4 exact rfl))
     | (apply wu; (first | exact rfl | assumption))
     | (apply zf; exact rfl; first | (apply j9; (first | assumption | omega)) | (apply ke; (first | assumption | omega)) | (apply kg; (first | exact rfl | assumption)) | (apply kh; (first | exact rfl | assumption)) | (apply pk_t; (first | exact rfl | assumption)) | (apply pk_f; (first | exact rfl | assumption)))
     | (apply qd; exact rfl; first | (apply qy; (first | assumption | omega)) | (apply q4; (first | assumption | omega)) | (apply q5; (first | exact rfl | assumption)) | (apply qz; (first | exact rfl | assumption)) | (apply cd_n <;> intro h) | (apply cd_t; (first | exact rfl | assumption)) | (apply cd_f; (first | exact rfl | assumption)) | (apply cd_d <;> intro h) | (apply cd_s <;> intro h))
     | (apply zx; (iterate 4 exact rfl))
     | (apply z6; exact rfl; exact rfl)
     | (apply zt; (iterate 3 exact rfl))
     | apply qv
     | apply qs
     | (apply qe; exact Tryz.call78; exact hdc _)
     | (apply qe; exact Tryz.call57; exact qik _ _ (by omega) hp)
     | (apply qe; exact Tryz.call79; exact hsc _)
     | (apply z0 (n := 0); (iterate 6 exact rfl)))
    refine qk rfl (vd rfl) ⟨q5t rfl (decide_eq_decide.2 ?_), _, rfl⟩
    rw [hml]
    omega
end Go.Proofs.YtefmcijohgpfhaaGreatDoor
set_option maxRecDepth 100000
set_option linter.unusedVariables false
namespace Go.Proofs.YtefmcijohgpfhaaGreatDoor
open Go Go.Av Go.RowKit Go.Proofs Go.Pl
def wc (text : qa) : List LnV → Nat → List qa
 | [], frm => [text.drop frm]
 | l :: r, frm => if frm < l.at' ∧ ¬ [32, 32] <+: l.text then (text.take l.at').drop frm :: wc text r l.at' else wc text r frm
def qcg (text : qa) : List qa := wc text (lns text) 0
theorem qza (l m : qa) (st : List AObj) (h : m <+: l) : qm E 73 [Sv l, Sv m] st fun r st' => r = Bv true ∧ st' = st := by
 have := qce l m st
 rw [(v7 l m).2 h] at this
 exact this
theorem qyz (l m : qa) (st : List AObj) (h : ¬ m <+: l) : qm E 73 [Sv l, Sv m] st fun r st' => r = Bv false ∧ st' = st := by
 have := qce l m st
 have hf : Lib.hasPrefix l m = false := by
  cases hb : Lib.hasPrefix l m with
  | false => rfl
  | true => exact absurd ((v7 l m).1 hb) h
 rw [hf] at this
 exact this
theorem q23 (text : qa) (st : List AObj) (hl : text.length < 1000000) : qm E 35 [Sv text] st fun r st' => r = Ss (qcg text) ∧ st' = st := by
 refine wq [.s text] (quq _) Tryz.func35 rfl rfl (fun _ => rfl) rfl fun S0 => ?_
 apply qr []
 repeat' (first
  | apply And.intro
  | (intro h; first | (exfalso; omega) | (exfalso; exact h rfl) | (exfalso; revert h; decide) | skip)
  | exact ⟨Tryz.call72⟩
  | (refine Exists.intro _ ⟨qix _, ?_⟩)
  | exact rfl
  | exact trivial
  | exact fun _ => rfl
  | exact qp _
  | apply qn []
  | exact DrOk.mk (by kernel_rfl)
  | exact qi fun _ => rfl
  | omega
  | (simp only [List.length_map, List.length_append, List.length_cons, List.length_nil, List.length_take, List.length_drop]; omega)
  | exact qw
  | (refine Exists.intro _ ⟨rfl, ?_⟩)
  | refine q7 ?_)
 refine qdz (X := List qa × Nat) text 2 3 [0, 1, 2] (fun (out, frm) => ⟨[(1, .a (.pp [Sv text])), (3, .bx 0 0), (4, .bx 1 0), (7, .fn (.func 113) [] [.bx 2 0])],
   [(0, some (.cells 70 [.tp 3])), (1, some (.cells 3 [.i frm])), (2, some (.cells 9 [.s text])), (3, some (.tip 1 9 (out.map fun x => Sv x)))], 4⟩) _
  (fun k rest (out, frm) => ∃ a, a + rest.length = text.length ∧ frm ≤ a ∧ out.length ≤ k ∧ k ≤ a ∧ out ++ wc text (wg k a rest) frm = qcg text) (fun _ _ => False) ([], 0) ⟨0, by simp, by omega, by simp, by omega, rfl⟩ ?_ id (by omega) (fun _ => rfl) rfl (fun _ => rfl) (fun _ => rfl) rfl ?_ ?_ (fun _ _ h => h.elim)
 ·skip
  repeat' (first
   | apply And.intro
   | (intro h; first | (exfalso; omega) | (exfalso; exact h rfl) | (exfalso; revert h; decide) | skip)
   | exact rfl
   | exact trivial
   | exact fun _ => rfl
   | exact qp _
   | apply qn []
   | exact DrOk.mk (by kernel_rfl)
   | exact qi fun _ => rfl
   | omega
   | (simp only [List.length_map, List.length_append, List.length_cons, List.length_nil, List.length_take, List.length_drop]; omega)
   | exact qw
   | (refine Exists.intro _ ⟨rfl, ?_⟩)
   | refine q7 ?_)
 ·rintro k rest ⟨out, frm⟩ ⟨a, ha, hfa, hok, hka, hrun⟩ hne hle
  have hcons := qfy (k := k) (a := a) hne
  have hul := kl 10 rest
  have hr0 : 0 < rest.length := List.length_pos_iff.2 hne
  have hpl := jy 10 rest
  have hpa : a + (upto 10 rest).length + 1 + (past 10 rest).length = text.length ∨ past 10 rest = [] := by
   by_cases h10 : 10 ∈ rest
   ·have := qb7 h10
    exact .inl (by omega)
   ·right
    unfold past
    rw [ye h10]
    simp
  have hpast : ∀ f, wc text (wg (k + 1) (a + (upto 10 rest).length + 1) (past 10 rest)) f = wc text (wg (k + 1) (text.length - (past 10 rest).length) (past 10 rest)) f := fun f => by
   rcases hpa with h | h
   ·have : a + (upto 10 rest).length + 1 = text.length - (past 10 rest).length := by omega
    rw [this]
   ·rw [h, qh0, qh0]
  have e : (text.length : Int) - rest.length = (a : Int) := by omega
  rw [hcons, wc] at hrun
  unfold qh8
  rw [e]
  by_cases hp : [32, 32] <+: upto 10 rest
  ·have hhp := fun st => qza (upto 10 rest) [32, 32] st hp
   rw [if_neg (fun h => h.2 hp), hpast] at hrun
   refine RA.mk fun S F ρ rd => ?_
   apply qr []
   repeat' (first
    | apply And.intro
    | (intro h; first | (exfalso; omega) | (exfalso; exact h rfl) | (exfalso; revert h; decide) | skip)
    | (refine RB.mk fun S rd => ?_; apply qr [])
    | exact ⟨Tryz.call73⟩
    | (refine Exists.intro _ ⟨ql (hhp) rfl, ?_⟩)
    | (refine Exists.intro (out, frm) ⟨⟨text.length - (past 10 rest).length, by omega, by omega, by omega, by omega, hrun⟩, ?_⟩)
    | exact rfl
    | exact trivial
    | exact fun _ => rfl
    | exact qp _
    | apply qn []
    | exact DrOk.mk (by kernel_rfl)
    | exact qi fun _ => rfl
    | omega
    | (simp only [List.length_map, List.length_append, List.length_cons, List.length_nil, List.length_take, List.length_drop]; omega)
    | exact qw
    | (refine Exists.intro _ ⟨rfl, ?_⟩)
    | refine q7 ?_)
  ·have hhp := fun st => qyz (upto 10 rest) [32, 32] st hp
   by_cases hfr : frm < a
   ·rw [if_pos ⟨hfr, hp⟩, hpast] at hrun
    refine RA.mk fun S F ρ rd => ?_
    apply qr []
    repeat' (first
     | apply And.intro
     | (intro h; first | (exfalso; omega) | (exfalso; exact h rfl) | (exfalso; revert h; decide) | skip)
     | (refine RB.mk fun S rd => ?_; apply qr [25])
     | exact ⟨Tryz.call73⟩
     | (refine Exists.intro _ ⟨ql (hhp) rfl, ?_⟩)
     | (refine Exists.intro (out ++ [(text.take a).drop frm], a) ⟨⟨text.length - (past 10 rest).length, by omega, by omega, by simp; omega, by omega, by rw [← hrun]; simp⟩, ?_⟩)
     | exact rfl
     | exact trivial
     | exact fun _ => rfl
     | exact qp _
     | apply qn [25]
     | exact DrOk.mk (by kernel_rfl)
     | exact qi fun _ => rfl
     | omega
     | (simp only [List.length_map, List.length_append, List.length_cons, List.length_nil, List.length_take, List.length_drop]; omega)
     | exact qw
     | (refine Exists.intro _ ⟨rfl, ?_⟩)
     | refine q7 ?_)
    all_goals first | (simp [SV.evs]; omega) | (simp [SV.evs, SV.ev]; done)
   ·rw [if_neg (fun h => hfr h.1), hpast] at hrun
    refine RA.mk fun S F ρ rd => ?_
    apply qr []
    repeat' (first
     | apply And.intro
     | (intro h; first | (exfalso; omega) | (exfalso; exact h rfl) | (exfalso; revert h; decide) | skip)
     | (refine RB.mk fun S rd => ?_; apply qr [])
     | exact ⟨Tryz.call73⟩
     | (refine Exists.intro _ ⟨ql (hhp) rfl, ?_⟩)
     | (refine Exists.intro (out, frm) ⟨⟨text.length - (past 10 rest).length, by omega, by omega, by omega, by omega, hrun⟩, ?_⟩)
     | exact rfl
     | exact trivial
     | exact fun _ => rfl
     | exact qp _
     | apply qn []
     | exact DrOk.mk (by kernel_rfl)
     | exact qi fun _ => rfl
     | omega
     | (simp only [List.length_map, List.length_append, List.length_cons, List.length_nil, List.length_take, List.length_drop]; omega)
     | exact qw
     | (refine Exists.intro _ ⟨rfl, ?_⟩)
     | refine q7 ?_)
 ·rintro k ⟨out, frm⟩ ⟨a, ha, hfa, hok, hka, hrun⟩
  rw [qh0, wc] at hrun
  repeat' (first
   | apply And.intro
   | (intro h; first | (exfalso; omega) | (exfalso; exact h rfl) | (exfalso; revert h; decide) | skip)
   | exact rfl
   | exact trivial
   | exact fun _ => rfl
   | exact qp _
   | apply qn []
   | exact DrOk.mk (by kernel_rfl)
   | exact qi fun _ => rfl
   | omega
   | (simp only [List.length_map, List.length_append, List.length_cons, List.length_nil, List.length_take, List.length_drop]; omega)
   | exact qw
   | (refine Exists.intro _ ⟨rfl, ?_⟩)
   | refine q7 ?_)
  rw [← hrun]
  simp
end Go.Proofs.YtefmcijohgpfhaaGreatDoor
set_option maxRecDepth 100000
set_option linter.unusedVariables false
namespace Go.Proofs.YtefmcijohgpfhaaGreatDoor
open Go Go.Av Go.RowKit Go.Proofs Go.Pl
def decP : List qa → List qu → Option (List qu)
 | [], acc => some acc
 | p :: r, acc => match begE (upto 10 p) with
  | none => none
  | some (k, n) => if (qbx (past 10 p)).2 = true ∧ acc.length ≠ 40 then decP r (acc ++ [⟨k, n, (qbx (past 10 p)).1⟩]) else none
def decF (text : qa) : Option (List qu) := if 50000 < text.length then none else match decP (qcg text) [] with
 | none => none
 | some b => if eErr b = .no ∧ encF b = text then some b else none
def decA : Option (List qu) → AV
 | none => .tu [ja [], .ifc 31 (Iv 2)]
 | some b => .tu [ja b, .v .nilIface]
theorem qx0 (x : Option (List qu)) : Pure (decA x) := by
 rcases x with _ | b
 ·exact wj (qg5 _) (qav (zd _))
 ·exact wj (qg5 _) (zd _)
theorem qgl (text : qa) : ∀ (ls : List LnV) (f : Nat), (∀ p ∈ wc text ls f, p.length ≤ text.length) ∧ (wc text ls f).length ≤ ls.length + 1
 | [], f => by simp [wc]
 | l :: r, f => by
  unfold wc
  split
  ·obtain ⟨h1, h2⟩ := qgl text r l.at'
   refine ⟨fun p hp => ?_, by simp; omega⟩
   rcases List.mem_cons.1 hp with rfl | hp
   ·simp; omega
   ·exact h1 p hp
  ·obtain ⟨h1, h2⟩ := qgl text r f
   exact ⟨h1, by simp; omega⟩
theorem qpb {l : qa} {k n : Int} (h : begE l = some (k, n)) : -9223372036854775808 ≤ n ∧ n ≤ 9223372036854775807 := by
 have key : ∀ {j : Int} {n : Int}, tryB j l = some n → -9223372036854775808 ≤ n ∧ n ≤ 9223372036854775807 := fun {j n} h => by
  unfold tryB at h
  split at h
  ·split at h
   ·rename_i v hv
    cases h
    exact Lib.atoiAll_bounds hv
   ·simp at h
  ·simp at h
 unfold begE at h
 split at h
 ·rename_i v hv; simp at h; rw [← h.2]; exact key hv
 ·split at h
  ·rename_i v hv; simp at h; rw [← h.2]; exact key hv
  ·split at h
   ·rename_i v hv; simp at h; rw [← h.2]; exact key hv
   ·simp at h
theorem qls (text : qa) : GF (qbx text).1 := by
 unfold qbx
 split
 ·exact ⟨by simp, by simp⟩
 ·split
  ·exact ⟨by simp, by simp⟩
  ·rename_i f r hr
   exact (qv1 (qlw _) f (by rw [hr]; simp)).1
theorem qzs {k n : Int} {fs : List Fld} (h1 : -9223372036854775808 ≤ n) (h2 : n ≤ 9223372036854775807) (hg : GF fs) : EdB ⟨k, n, fs⟩ :=
 ⟨fun f hf => by have := (hg.2 f hf).1.2.1; omega, by have := hg.1; simp only; omega, h1, h2⟩
set_option maxHeartbeats 4000000 in
theorem q04 (text : qa) (st : List AObj) (hl : text.length < 1000000) : qm E 11 [Sv text] st fun r st' => r = decA (decF text) ∧ st' = st := by
 refine wq [.s text] (qx0 _) Tryz.func11 rfl rfl (fun _ => rfl) rfl fun S0 => ?_
 by_cases hbig : 50000 < text.length
 ·have hd : decF text = none := if_pos hbig
  rw [hd]
  apply qr []
  repeat' (first
   | apply And.intro
   | (intro h; first | (exfalso; omega) | (exfalso; exact h rfl) | (exfalso; revert h; decide) | skip)
   | exact rfl
   | exact trivial
   | exact fun _ => rfl
   | exact qp _
   | apply qn []
   | exact DrOk.mk (by kernel_rfl)
   | exact qi fun _ => rfl
   | omega
   | (simp only [List.length_map, List.length_append, List.length_cons, List.length_nil, List.length_take, List.length_drop]; omega)
   | exact qw
   | (refine Exists.intro _ ⟨rfl, ?_⟩)
   | refine q7 ?_)
 have hdf : decF text = match decP (qcg text) [] with
  | none => none
  | some b => if eErr b = .no ∧ encF b = text then some b else none := if_neg hbig
 have hpl := (qgl text (lns text) 0).1
 have hpn := (qgl text (lns text) 0).2
 have hln := qp7 _ text 0 0 (Nat.le_refl _)
 have hpe : wc text (lns text) 0 = qcg text := rfl
 have hle : (lns text).length ≤ text.length := hln
 rw [hpe] at hpl hpn
 have hml : ((qcg text).map fun x => Sv x).length = (qcg text).length := by simp
 have hpc := fun st => q23 text st hl
 generalize qcg text = L at hdf hpl hpn hml hpc
 apply qr []
 repeat' (first
  | apply And.intro
  | (intro h; first | (exfalso; omega) | (exfalso; exact h rfl) | (exfalso; revert h; decide) | skip)
  | exact ⟨Tryz.call35⟩
  | (refine Exists.intro _ ⟨ql (hpc) rfl, ?_⟩)
  | exact rfl
  | exact trivial
  | exact fun _ => rfl
  | exact qp _
  | apply qn []
  | exact DrOk.mk (by kernel_rfl)
  | exact qi fun _ => rfl
  | omega
  | (simp only [List.length_map, List.length_append, List.length_cons, List.length_nil, List.length_take, List.length_drop]; omega)
  | exact qw
  | (refine Exists.intro _ ⟨rfl, ?_⟩)
  | refine q7 ?_)
 refine qf8 (X := Nat × List qu) (fun (k, acc) => ⟨[(0, .s text), (4, .tp 0), (21, .a (Ss L)), (22, .i L.length), (23, .i k)], [(0, some (.tip 3 45 (acc.map wi)))], 1⟩)
  (fun (k, acc) => k ≤ L.length ∧ acc.length ≤ k ∧ (∀ x ∈ acc, EdB x) ∧ decP (L.drop k) acc = decP L []) (fun x => L.length - x.1) (0, []) ⟨by omega, by simp, by simp, rfl⟩ ?_ ?_
 ·skip
  repeat' (first
   | apply And.intro
   | (intro h; first | (exfalso; omega) | (exfalso; exact h rfl) | (exfalso; revert h; decide) | skip)
   | exact rfl
   | exact trivial
   | exact fun _ => rfl
   | exact qp _
   | apply qn []
   | exact DrOk.mk (by kernel_rfl)
   | exact qi fun _ => rfl
   | omega
   | (simp only [List.length_map, List.length_append, List.length_cons, List.length_nil, List.length_take, List.length_drop]; omega)
   | exact qw
   | (refine Exists.intro _ ⟨rfl, ?_⟩)
   | refine q7 ?_)
  all_goals first | (simp; done)
 ·rintro ⟨j, acc⟩ ⟨hj, hal, hB, hrun⟩
  have hma : (acc.map wi).length = acc.length := by simp
  by_cases hc : j < L.length
  ·obtain ⟨p, hx⟩ : ∃ p, L[j]? = some p := ⟨_, List.getElem?_eq_getElem hc⟩
   have hg : (L.map fun x => Sv x)[j]? = some (Sv p) := by simp [hx]
   have hd : L.drop j = p :: L.drop (j + 1) := by
    obtain ⟨hlt, e⟩ := List.getElem?_eq_some_iff.1 hx
    rw [List.drop_eq_getElem_cons hlt, e]
   have hpp := hpl p (List.mem_of_getElem? hx)
   have hul := kl 10 p
   have hpal := jy 10 p
   have hcu := fun st => qfr p 10 st (by omega)
   have hbc := fun st => q3x (upto 10 p) st (by omega)
   have hgf := qls (past 10 p)
   have hfc := fun st => q2b (past 10 p) st (by omega)
   rw [hd, decP] at hrun
   cases hbe : begE (upto 10 p) with
   | none =>
    rw [hbe] at hrun hbc
    simp only at hrun
    rw [← hrun] at hdf
    simp only at hdf
    rw [hdf]
    apply qr []
    repeat' (first
     | apply And.intro
     | (intro h; first | (exfalso; omega) | (exfalso; exact h rfl) | (exfalso; revert h; decide) | skip)
     | (refine Exists.intro (j) ⟨by omega, _, hg, ?_⟩)
     | exact ⟨Tryz.call36⟩
     | (refine Exists.intro _ ⟨ql (hcu) rfl, ?_⟩)
     | exact ⟨Tryz.call37⟩
     | (refine Exists.intro _ ⟨ql (hbc) rfl, ?_⟩)
     | exact ⟨Tryz.call38⟩
     | (refine Exists.intro _ ⟨ql (hfc) rfl, ?_⟩)
     | exact rfl
     | exact trivial
     | exact fun _ => rfl
     | exact qp _
     | apply qn []
     | exact DrOk.mk (by kernel_rfl)
     | exact qi fun _ => rfl
     | omega
     | (simp only [List.length_map, List.length_append, List.length_cons, List.length_nil, List.length_take, List.length_drop]; omega)
     | exact qw
     | (refine Exists.intro _ ⟨rfl, ?_⟩)
     | refine q7 ?_)
   | some kn =>
    obtain ⟨kd, n⟩ := kn
    have hid := qpb hbe
    rw [hbe] at hrun hbc
    simp only at hrun
    obtain ⟨fs, hfs⟩ : ∃ x, x = (qbx (past 10 p)).1 := ⟨_, rfl⟩
    rw [← hfs] at hrun hfc hgf
    cases hok : (qbx (past 10 p)).2 with
    | false =>
     rw [hok] at hrun hfc
     rw [if_neg (by simp)] at hrun
     rw [← hrun] at hdf
     simp only at hdf
     rw [hdf]
     apply qr []
     repeat' (first
      | apply And.intro
      | (intro h; first | (exfalso; omega) | (exfalso; exact h rfl) | (exfalso; revert h; decide) | skip)
      | (refine Exists.intro (j) ⟨by omega, _, hg, ?_⟩)
      | exact ⟨Tryz.call36⟩
      | (refine Exists.intro _ ⟨ql (hcu) rfl, ?_⟩)
      | exact ⟨Tryz.call37⟩
      | (refine Exists.intro _ ⟨ql (hbc) rfl, ?_⟩)
      | exact ⟨Tryz.call38⟩
      | (refine Exists.intro _ ⟨ql (hfc) rfl, ?_⟩)
      | exact rfl
      | exact trivial
      | exact fun _ => rfl
      | exact qp _
      | apply qn []
      | exact DrOk.mk (by kernel_rfl)
      | exact qi fun _ => rfl
      | omega
      | (simp only [List.length_map, List.length_append, List.length_cons, List.length_nil, List.length_take, List.length_drop]; omega)
      | exact qw
      | (refine Exists.intro _ ⟨rfl, ?_⟩)
      | refine q7 ?_)
    | true =>
     rw [hok] at hrun hfc
     by_cases h40 : acc.length = 40
     ·rw [if_neg (by simp [h40])] at hrun
      rw [← hrun] at hdf
      simp only at hdf
      rw [hdf]
      apply qr []
      repeat' (first
       | apply And.intro
       | (intro h; first | (exfalso; omega) | (exfalso; exact h rfl) | (exfalso; revert h; decide) | skip)
       | (refine Exists.intro (j) ⟨by omega, _, hg, ?_⟩)
       | exact ⟨Tryz.call36⟩
       | (refine Exists.intro _ ⟨ql (hcu) rfl, ?_⟩)
       | exact ⟨Tryz.call37⟩
       | (refine Exists.intro _ ⟨ql (hbc) rfl, ?_⟩)
       | exact ⟨Tryz.call38⟩
       | (refine Exists.intro _ ⟨ql (hfc) rfl, ?_⟩)
       | exact rfl
       | exact trivial
       | exact fun _ => rfl
       | exact qp _
       | apply qn []
       | exact DrOk.mk (by kernel_rfl)
       | exact qi fun _ => rfl
       | omega
       | (simp only [List.length_map, List.length_append, List.length_cons, List.length_nil, List.length_take, List.length_drop]; omega)
       | exact qw
       | (refine Exists.intro _ ⟨rfl, ?_⟩)
       | refine q7 ?_)
     ·rw [if_pos ⟨rfl, h40⟩] at hrun
      have hB2 : ∀ x ∈ acc ++ [⟨kd, n, fs⟩], EdB x := fun x hx => by
       rcases List.mem_append.1 hx with hx | hx
       ·exact hB x hx
       ·obtain rfl := List.mem_singleton.1 hx
        exact qzs hid.1 hid.2 hgf
      apply qr []
      repeat' (first
       | apply And.intro
       | (intro h; first | (exfalso; omega) | (exfalso; exact h rfl) | (exfalso; revert h; decide) | skip)
       | (refine Exists.intro (j) ⟨by omega, _, hg, ?_⟩)
       | exact ⟨Tryz.call36⟩
       | (refine Exists.intro _ ⟨ql (hcu) rfl, ?_⟩)
       | exact ⟨Tryz.call37⟩
       | (refine Exists.intro _ ⟨ql (hbc) rfl, ?_⟩)
       | exact ⟨Tryz.call38⟩
       | (refine Exists.intro _ ⟨ql (hfc) rfl, ?_⟩)
       | (refine Exists.intro (j + 1, acc ++ [⟨kd, n, fs⟩]) ⟨⟨by omega, by simp; omega, hB2, hrun⟩, by simp only; omega, ?_⟩)
       | exact rfl
       | exact trivial
       | exact fun _ => rfl
       | exact qp _
       | apply qn []
       | exact DrOk.mk (by kernel_rfl)
       | exact qi fun _ => rfl
       | omega
       | (simp only [List.length_map, List.length_append, List.length_cons, List.length_nil, List.length_take, List.length_drop]; omega)
       | exact qw
       | (refine Exists.intro _ ⟨rfl, ?_⟩)
       | refine q7 ?_)
      all_goals (simp; done)
  ·have hd : L.drop j = [] := List.drop_eq_nil_of_le (by omega)
   rw [hd, decP] at hrun
   rw [← hrun] at hdf
   simp only at hdf
   cases he : eErr acc with
   | no =>
    have hen := fun st => qpv acc st hB he
    by_cases ht : encF acc = text
    ·rw [if_pos ⟨he, ht⟩] at hdf
     rw [hdf]
     rw [ht] at hen
     apply qr []
     repeat' (first
      | apply And.intro
      | (intro h; first | (exfalso; omega) | (exfalso; exact h rfl) | (exfalso; revert h; decide) | skip)
      | exact ⟨Tryz.call15⟩
      | (refine Exists.intro _ ⟨ql (hen) rfl, ?_⟩)
      | exact rfl
      | exact trivial
      | exact fun _ => rfl
      | exact qp _
      | apply qn []
      | exact DrOk.mk (by kernel_rfl)
      | exact qi fun _ => rfl
      | omega
      | (simp only [List.length_map, List.length_append, List.length_cons, List.length_nil, List.length_take, List.length_drop]; omega)
      | exact qw
      | (refine Exists.intro _ ⟨rfl, ?_⟩)
      | refine q7 ?_)
    ·rw [if_neg fun h => ht h.2] at hdf
     rw [hdf]
     apply qr []
     repeat' (first
      | apply And.intro
      | (intro h; first | (exfalso; omega) | (exfalso; exact h rfl) | (exfalso; revert h; decide) | skip)
      | exact ⟨Tryz.call15⟩
      | (refine Exists.intro _ ⟨ql (hen) rfl, ?_⟩)
      | exact rfl
      | exact trivial
      | exact fun _ => rfl
      | exact qp _
      | apply qn []
      | exact DrOk.mk (by kernel_rfl)
      | exact qi fun _ => rfl
      | omega
      | (simp only [List.length_map, List.length_append, List.length_cons, List.length_nil, List.length_take, List.length_drop]; omega)
      | exact qw
      | (refine Exists.intro _ ⟨rfl, ?_⟩)
      | refine q7 ?_)
     all_goals exact absurd ht (by assumption)
   | num n =>
    have hen := fun st => qgg acc st (.num n) hB (by omega) he fun h => by
     have := (qgm acc).1 (by rw [he]; exact h)
     rw [he] at this
     simp at this
    rw [if_neg fun h => by rw [he] at h; simp at h] at hdf
    rw [hdf]
    apply qr []
    repeat' (first
     | apply And.intro
     | (intro h; first | (exfalso; omega) | (exfalso; exact h rfl) | (exfalso; revert h; decide) | skip)
     | exact ⟨Tryz.call15⟩
     | (refine Exists.intro _ ⟨ql (hen) rfl, ?_⟩)
     | exact rfl
     | exact trivial
     | exact fun _ => rfl
     | exact qp _
     | apply qn []
     | exact DrOk.mk (by kernel_rfl)
     | exact qi fun _ => rfl
     | omega
     | (simp only [List.length_map, List.length_append, List.length_cons, List.length_nil, List.length_take, List.length_drop]; omega)
     | exact qw
     | (refine Exists.intro _ ⟨rfl, ?_⟩)
     | refine q7 ?_)
   | at' a n =>
    have hen := fun st => qgg acc st (.at' a n) hB (by omega) he fun h => by
     have := (qgm acc).1 (by rw [he]; exact h)
     rw [he] at this
     simp at this
    rw [if_neg fun h => by rw [he] at h; simp at h] at hdf
    rw [hdf]
    apply qr []
    repeat' (first
     | apply And.intro
     | (intro h; first | (exfalso; omega) | (exfalso; exact h rfl) | (exfalso; revert h; decide) | skip)
     | exact ⟨Tryz.call15⟩
     | (refine Exists.intro _ ⟨ql (hen) rfl, ?_⟩)
     | exact rfl
     | exact trivial
     | exact fun _ => rfl
     | exact qp _
     | apply qn []
     | exact DrOk.mk (by kernel_rfl)
     | exact qi fun _ => rfl
     | omega
     | (simp only [List.length_map, List.length_append, List.length_cons, List.length_nil, List.length_take, List.length_drop]; omega)
     | exact qw
     | (refine Exists.intro _ ⟨rfl, ?_⟩)
     | refine q7 ?_)
end Go.Proofs.YtefmcijohgpfhaaGreatDoor
set_option maxRecDepth 100000
set_option linter.unusedVariables false
namespace Go.Proofs.YtefmcijohgpfhaaGreatDoor
open Go Go.Av Go.RowKit Go.Proofs Go.Pl
theorem qu7 : qqo E := fun _ _ _ h hb hB _ h2 => h _ (hb.trans (h2.mono hB))
theorem q4d : (Tryz.prog.fieldsOf 69).toList = [⟨ "Key", 9, 0, false, "", "", 0⟩, ⟨ "Value", 9, 1, false, "", "", 16⟩] := by kernel_rfl
theorem q31 (a b c d : ByteArray) (w : World) : (Op.equalIn 10000 69 (.agg #[.string a, .string b]) (.agg #[.string c, .string d])).run Tryz.prog w = .ok (a.toList == c.toList && b.toList == d.toList) w := by
 rw [run_equalIn_agg w 9999 69 _ _ (by kernel_rfl) (by kernel_rfl), q4d]
 have p1 : ∀ (x y : ByteArray) w, (part 9 #[.string x, .string y] 0).run Tryz.prog w = .ok (.string x) w := fun x y w => by kernel_rfl
 have p2 : ∀ (x y : ByteArray) w, (part 9 #[.string x, .string y] 1).run Tryz.prog w = .ok (.string y) w := fun x y w => by kernel_rfl
 have hs : ∀ (x y : ByteArray) w, (Op.equalIn 9999 9 (.string x) (.string y)).run Tryz.prog w = .ok (x.toList == y.toList) w := fun x y w => run_equalIn_string w 9998 9 x y (by kernel_rfl)
 simp only [Op.eqFields, Sem.run_bind, Sem.run_ite, p1, p2, hs, Result.andThen_ok, Sem.run_pure]
 cases hac : (a.toList == c.toList) <;> cases hbd : (b.toList == d.toList) <;> simp
theorem qvl {G : Gh} {f : Fld} {v : Value} (h : Rel G (fldA f) v) : v = .agg #[.string ⟨f.1.toArray⟩, .string ⟨f.2.toArray⟩] := by
 cases h with
 | ag _ vs hl h =>
  match vs, hl with
  | ⟨[x, y]⟩, _ =>
   have h1 := h 0 _ x rfl rfl
   have h2 := h 1 _ y rfl rfl
   cases h1
   cases h2
   rfl
theorem q4i (f g : Fld) (w : World) : (binOp .neq 69 (.agg #[.string ⟨f.1.toArray⟩, .string ⟨f.2.toArray⟩]) (.agg #[.string ⟨g.1.toArray⟩, .string ⟨g.2.toArray⟩])).run Tryz.prog w = .ok (.bool (decide (f ≠ g))) w := by
 rw [run_neq_struct, q31]
 simp only [Result.andThen_ok, ByteArray.toList_eq]
 obtain ⟨a, b⟩ := f
 obtain ⟨c, d⟩ := g
 congr 2
 by_cases h1 : a = c <;> by_cases h2 : b = d <;> simp [h1, h2]
section
variable {N : Nat} {ops : Array Oper} {K : AS → Prop} {s : AS} {rest : List Oper} {d : Option Tmp} {T : TypeId} {p : String} {af : Array Edge}
theorem qzn {x y : Operand} {t' : TypeId} {f g : Fld} {b : Bool} (hx : qf N s x = fldA f) (hy : qf N s y = fldA g) (hb : decide (f ≠ g) = b)
  (h : AQ E N ops rest K (s.put d (Bv b))) : AQ E N ops (⟨d, .binOp .neq 69 x y t', T, p, af, none⟩ :: rest) K s := by
 subst hb
 refine qaq rfl nofun fun B0 w0 G a w _ hI => ⟨.bool (decide (f ≠ g)), _, fun w' _ => ?_, .v _, h⟩
 have h1 := qvl (hI.eval_of hx)
 have h2 := qvl (hI.eval_of hy)
 generalize a.eval = ρ at h1 h2
 have hg : (eqGuard .neq 69 x y (.agg #[.string ⟨f.1.toArray⟩, .string ⟨f.2.toArray⟩]) (.agg #[.string ⟨g.1.toArray⟩, .string ⟨g.2.toArray⟩])).run Tryz.prog w' = .ok () w' := run_eqGuard_agg w' _ _ _ _ _ _ (by kernel_rfl)
 simp [execOp, h1, h2, hg, q4i]
theorem qrf {x y : Operand} {t t' : TypeId} {m n : Int} (hx : qf N s x = Iv m) (hy : qf N s y = Iv n) (hne : m ≠ n)
  (h : AQ E N ops rest K (s.put d (Bv true))) : AQ E N ops (⟨d, .binOp .neq t x y t', T, p, af, none⟩ :: rest) K s :=
 qvd hx hy (by simp [cmpI, hne]) h
theorem qmf {x y : Operand} {t t' : TypeId} {m n : Int} (hx : qf N s x = Iv m) (hy : qf N s y = Iv n) (hne : m = n)
  (h : AQ E N ops rest K (s.put d (Bv false))) : AQ E N ops (⟨d, .binOp .neq t x y t', T, p, af, none⟩ :: rest) K s :=
 qvd hx hy (by simp [cmpI, hne]) h
theorem qxu {x : Operand} {t : TypeId} {b : Bool} (hx : qf N s x = Bv b)
  (h : AQ E N ops rest K (s.put d (Bv (!b)))) : AQ E N ops (⟨d, .unOp .not t x, T, p, af, none⟩ :: rest) K s :=
 xg _ rfl nofun (fun a w he => by simp [execOp, he _ _ hx, Op.unary]) h
end
theorem qu2 {a b : List Fld} : ∀ x ∈ [ju a, ju b], Pure x := by
 intro x hx
 simp only [List.mem_cons, List.not_mem_nil, or_false] at hx
 rcases hx with rfl | rfl <;> exact qdg _
theorem qgu {α : Type} [DecidableEq α] {a b : List α} {k : Nat} {d : α} (hl : a.length = b.length) (hk : k < a.length) (h : a.take k = b.take k) (h2 : a.getD k d = b.getD k d) : a.take (k + 1) = b.take (k + 1) := by
 rw [List.take_succ_eq_append_getElem hk, List.take_succ_eq_append_getElem (by omega), h]
 congr 2
 simpa [List.getD, hk, show k < b.length by omega] using h2
theorem qpi (a b : List Fld) (st : List AObj) (ha : a.length < 9223372036854775808) : qm E 44 [ju a, ju b] st fun r st' => r = Bv (decide (a = b)) ∧ st' = st := by
 refine q8 (zd _) (qq Tryz.func44 rfl (Nat.le_of_ble_eq_true rfl) ?_)
 have hma : (a.map fldA).length = a.length := by simp
 have hmb : (b.map fldA).length = b.length := by simp
 by_cases hl : a.length = b.length
 ·skip
  repeat' (first
   | apply qj
   | apply qt
   | apply qb
   | apply qg
   | apply qh
   | apply qc
   | (apply qo; (iterate 3 exact rfl))
   | (apply qd; exact rfl; first | (apply qy; (first | assumption | omega)) | (apply q4; (first | assumption | omega)) | (apply q5; (first | exact rfl | assumption)) | (apply qz; (first | exact rfl | assumption)) | (apply cd_n <;> intro h) | (apply cd_t; (first | exact rfl | assumption)) | (apply cd_f; (first | exact rfl | assumption)) | (apply cd_d <;> intro h) | (apply cd_s <;> intro h))
   | (apply zx; (iterate 4 exact rfl))
   | apply qv)
  refine vq (fun (k : Nat) s => k ≤ a.length ∧ a.take k = b.take k ∧ StE [(0, ju a), (1, ju b), (12, Iv a.length), (13, Iv k)] st [] s) (fun k => a.length - k) 0 ⟨by omega, by simp, qb6 ⟨rfl, rfl, congrArg (fun n : Nat => Iv (n : Int)) hma, rfl, trivial⟩ rfl⟩ ?_
  rintro k _ ⟨hk, ht, t, ext, rfl⟩
  by_cases hc : k < a.length
  ·by_cases he : a.getD k ([], []) = b.getD k ([], [])
   ·have hn : decide (a.getD k ([], []) ≠ b.getD k ([], [])) = false := decide_eq_false fun h => h he
    repeat' (first
     | apply qj
     | apply qt
     | apply qb
     | apply qg
     | apply qh
     | apply qc
     | (apply qo; (iterate 3 exact rfl))
     | (apply qd; exact rfl; first | (apply qy; (first | assumption | omega)) | (apply q4; (first | assumption | omega)) | (apply q5; (first | exact rfl | assumption)) | (apply qz; (first | exact rfl | assumption)) | (apply cd_n <;> intro h) | (apply cd_t; (first | exact rfl | assumption)) | (apply cd_f; (first | exact rfl | assumption)) | (apply cd_d <;> intro h) | (apply cd_s <;> intro h))
     | (apply jh; exact rfl; exact rfl; exact zl (by omega) (by omega))
     | (apply xa; exact rfl; kernel_rfl)
     | apply ym
     | (apply v8; (iterate 3 exact rfl))
     | apply xm
     | apply qv
     | (apply km (n := k); (iterate 5 exact rfl); exact qie (xs := a) (by omega))
     | (apply km (n := k); (iterate 5 exact rfl); exact qie (xs := b) (by omega))
     | (apply qzn; exact rfl; exact rfl; exact hn))
    exact ⟨k + 1, ⟨by omega, qgu hl hc ht he, qa5 ⟨rfl, rfl, rfl, rfl, trivial⟩ rfl⟩, by omega⟩
   ·have hn : decide (a.getD k ([], []) ≠ b.getD k ([], [])) = true := decide_eq_true he
    have hab : ¬ a = b := fun e => he (by rw [e])
    repeat' (first
     | apply qj
     | apply qt
     | apply qb
     | apply qg
     | apply qh
     | apply qc
     | (apply qo; (iterate 3 exact rfl))
     | (apply qd; exact rfl; first | (apply qy; (first | assumption | omega)) | (apply q4; (first | assumption | omega)) | (apply q5; (first | exact rfl | assumption)) | (apply qz; (first | exact rfl | assumption)) | (apply cd_n <;> intro h) | (apply cd_t; (first | exact rfl | assumption)) | (apply cd_f; (first | exact rfl | assumption)) | (apply cd_d <;> intro h) | (apply cd_s <;> intro h))
     | (apply xa; exact rfl; kernel_rfl)
     | apply ym
     | (apply v8; (iterate 3 exact rfl))
     | apply xm
     | apply qv
     | apply qs
     | (apply km (n := k); (iterate 5 exact rfl); exact qie (xs := a) (by omega))
     | (apply km (n := k); (iterate 5 exact rfl); exact qie (xs := b) (by omega))
     | (apply qzn; exact rfl; exact rfl; exact hn))
    exact qk rfl (ze rfl) ⟨congrArg Bv (decide_eq_false hab).symm, vc _ _ _ _⟩
  ·have hab : a = b := by
    have e : k = a.length := by omega
    rw [e, List.take_length, List.take_of_length_le (by omega)] at ht
    exact ht
   repeat' (first
    | apply qj
    | apply qb
    | apply qg
    | apply qc
    | (apply qo; (iterate 3 exact rfl))
    | (apply qd; exact rfl; first | (apply qy; (first | assumption | omega)) | (apply q4; (first | assumption | omega)) | (apply q5; (first | exact rfl | assumption)) | (apply qz; (first | exact rfl | assumption)) | (apply cd_n <;> intro h) | (apply cd_t; (first | exact rfl | assumption)) | (apply cd_f; (first | exact rfl | assumption)) | (apply cd_d <;> intro h) | (apply cd_s <;> intro h))
    | apply jk
    | apply qs)
   exact qk rfl (ze rfl) ⟨congrArg Bv (decide_eq_true hab).symm, vc _ _ _ _⟩
 ·have hab : ¬ a = b := fun e => hl (by rw [e])
  repeat' (first
   | apply qj
   | apply qb
   | apply qg
   | apply qh
   | apply qc
   | (apply qo; (iterate 3 exact rfl))
   | (apply qd; exact rfl; first | (apply qy; (first | assumption | omega)) | (apply q4; (first | assumption | omega)) | (apply q5; (first | exact rfl | assumption)) | (apply qz; (first | exact rfl | assumption)) | (apply cd_n <;> intro h) | (apply cd_t; (first | exact rfl | assumption)) | (apply cd_f; (first | exact rfl | assumption)) | (apply cd_d <;> intro h) | (apply cd_s <;> intro h))
   | (apply zx; (iterate 4 exact rfl))
   | apply qs)
  exact qk rfl (ze rfl) ⟨congrArg Bv (decide_eq_false hab).symm, _, rfl⟩
end Go.Proofs.YtefmcijohgpfhaaGreatDoor
set_option maxRecDepth 100000
set_option linter.unusedVariables false
namespace Go.Pl
open Go Go.Proofs Go.Proofs.YtefmcijohgpfhaaGreatDoor
theorem xe (s : qa) (r : List qa) : zn (s :: r) = s ++ 10 :: zn r := by simp [zn]
theorem qbw : ∀ (ls : List qa), (∀ s ∈ ls, 10 ∉ s) → zu (zn ls) = ls.map fun s => (s, true)
 | [], _ => by simp [zn, vz]
 | s :: r, h => by
  have hs := h s (by simp)
  rw [xe, v6 (by simp), wa _ hs, w8 _ hs, qbw r fun x hx => h x (by simp [hx])]
  simp
theorem qt4 {f : Fld} (h : jl f) : ∀ s ∈ z8 f, 10 ∉ s := fun s hs => by
 unfold z8 at hs
 rcases List.mem_cons.1 hs with rfl | hs
 ·have h1 := qdh f.2 _ (ql2 f.2)
  have h2 := h.1.2.2.2.2.2
  unfold j3
  split <;> simp_all
 ·obtain ⟨x, hx, rfl⟩ := List.mem_map.1 hs
  have h1 := qdh f.2 x (List.mem_of_mem_tail hx)
  have := qn4 h1
  simp [this]
theorem qj0 {f : Fld} (h : jl f) : ∃ hd mr, z8 f = hd :: mr ∧ qx hd = 4 ∧ ∀ s ∈ mr, qx s = 3 := by
 refine ⟨_, _, rfl, qp3 h.1 (qdh f.2 _ (ql2 f.2)), fun s hs => ?_⟩
 obtain ⟨x, hx, rfl⟩ := List.mem_map.1 hs
 exact qpm x (qdh f.2 x (List.mem_of_mem_tail hx))
theorem qx1 {p : PSt} {k : Int} {t : qa} (ht : qx t = 3) (hl : p.lines ≠ []) : vf p k t true = (none, { p with lines := p.lines ++ [t], block := p.block ++ [t] }) := by
 have ha : jd p k t true (qx t) = (none, { p with lines := p.lines ++ [t] }) := by
  unfold jd
  rw [if_pos ht, if_neg hl, if_pos rfl]
 unfold vf
 rw [ha, ht]
 simp
theorem qpr {p q : PSt} {k : Int} {t : qa} (ht : qx t = 4) (hf : je p = (none, q)) : vf p k t true = (none, { jq q k t with block := q.block ++ [t] }) := by
 have ha : jd p k t true (qx t) = (none, q) := by
  unfold jd
  rw [if_neg (by omega), if_neg (by omega)]
  exact hf
 unfold vf
 rw [ha, ht]
 simp
theorem ql8 : ∀ (m : List qa) (k : Nat) (p : PSt) (ls : List (qa × Bool)), (∀ s ∈ m, qx s = 3) → p.lines ≠ [] →
  runL k (m.map (fun s => (s, true)) ++ ls) p = runL (k + m.length) ls { p with lines := p.lines ++ m, block := p.block ++ m }
 | [], k, p, ls, _, _ => by simp
 | s :: m, k, p, ls, h, hl => by
  have hs := h s (by simp)
  rw [List.map_cons, List.cons_append, runL, qx1 hs hl]
  simp only
  rw [ql8 m (k + 1) _ ls (fun x hx => h x (by simp [hx])) (by simp)]
  simp only [List.append_assoc, List.cons_append, List.nil_append, List.length_cons]
  congr 1
  omega
theorem qn3 {g : Fld} (hg : jl g) (frm : Int) (its : List ka) (blk : List qa) (done : List Fld) (rc : Int) : je ⟨z8 g, frm, false, its, blk, done, rc⟩ = (none, ⟨[], frm, false, its, blk, done ++ [g], rc⟩) := by
 have hu := qqd hg
 unfold je
 rw [if_neg (by simp [z8]), hu]
 simp
theorem qrc : ∀ (r : List Fld) (done : List Fld) (g : Fld) (k : Nat) (frm : Int) (blk : List qa), jl g → (∀ f ∈ r, jl f) → done.length + 1 + r.length ≤ 40 → blk ≠ [] →
  (runL k ((r.flatMap z8).map fun s => (s, true)) ⟨z8 g, frm, false, [], blk, done, 0⟩).1 = none ∧ (runL k ((r.flatMap z8).map fun s => (s, true)) ⟨z8 g, frm, false, [], blk, done, 0⟩).2.items = [⟨3, zn (blk ++ r.flatMap z8), done ++ g :: r⟩]
 | [], done, g, k, frm, blk, hg, _, _, hb => by
  have he : endP ⟨z8 g, frm, false, [], blk, done, 0⟩ = (none, w7 ⟨[], frm, false, [], blk, done ++ [g], 0⟩) := by
   unfold endP
   rw [qn3 hg]
  simp only [List.flatMap_nil, List.map_nil, runL, he, List.append_nil]
  refine ⟨trivial, ?_⟩
  unfold w7
  rw [if_neg hb]
  simp
 | f :: r, done, g, k, frm, blk, hg, hr, hl, hb => by
  have hf := hr f (by simp)
  obtain ⟨hd, mr, hlf, hk4, hk3⟩ := qj0 hf
  simp only [List.length_cons] at hl
  have hrun : runL k (((f :: r).flatMap z8).map fun s => (s, true)) ⟨z8 g, frm, false, [], blk, done, 0⟩ = runL (k + 1 + mr.length) ((r.flatMap z8).map fun s => (s, true)) ⟨z8 f, k, false, [], blk ++ z8 f, done ++ [g], 0⟩ := by
   rw [List.flatMap_cons, List.map_append, hlf, List.map_cons, List.cons_append, runL, qpr hk4 (qn3 hg frm [] blk done 0)]
   simp only
   rw [ql8 mr (k + 1) _ _ hk3 (by simp [jq])]
   have hfu : decide ((done ++ [g]).length = 40 ∨ ((done ++ [g]).length = 0 ∧ (0 : Int) = 400)) = false := by
    simp
    omega
   simp only [jq, hfu, List.append_assoc, List.cons_append, List.nil_append]
  rw [hrun]
  have ih := qrc r (done ++ [g]) f (k + 1 + mr.length) k (blk ++ z8 f) hf (fun x hx => hr x (by simp [hx])) (by simp; omega) (by simp [hb])
  rw [ih.1, ih.2]
  simp [List.flatMap_cons]
theorem qfe (fs : List Fld) : kc fs = zn (fs.flatMap z8) := by
 induction fs with
 | nil => rfl
 | cons f r ih =>
  rw [List.flatMap_cons, qcz, ← ih]
  simp [kc]
theorem qgy {fs : List Fld} (h : ∀ f ∈ fs, jl f) : ∀ s ∈ fs.flatMap z8, 10 ∉ s := fun s hs => by
 obtain ⟨f, hf, hs⟩ := List.mem_flatMap.1 hs
 exact qt4 (h f hf) s hs
theorem qwt {fs : List Fld} (hg : GF fs) (hne : fs ≠ []) : jr (kc fs) = (none, [⟨3, kc fs, fs⟩]) := by
 have hl := qbw _ (qgy hg.2)
 rw [← qfe] at hl
 cases fs with
 | nil => exact absurd rfl hne
 | cons f r =>
  have hf := hg.2 f (by simp)
  obtain ⟨hd, mr, hlf, hk4, hk3⟩ := qj0 hf
  have hlen := hg.1
  simp only [List.length_cons] at hlen
  have hrun : runL 0 (((f :: r).flatMap z8).map fun s => (s, true)) p0 = runL (0 + 1 + mr.length) ((r.flatMap z8).map fun s => (s, true)) ⟨z8 f, (0 : Nat), false, [], z8 f, [], 0⟩ := by
   have hfl : je p0 = (none, p0) := rfl
   rw [List.flatMap_cons, List.map_append, hlf, List.map_cons, List.cons_append, runL, qpr hk4 hfl]
   simp only
   rw [ql8 mr (0 + 1) _ _ hk3 (by simp [jq])]
   simp [jq, p0]
  have ih := qrc r [] f (0 + 1 + mr.length) (0 : Nat) (z8 f) hf (fun x hx => hg.2 x (by simp [hx])) (by simp; omega) (by simp [z8])
  unfold jr
  rw [hl, hrun, ih.1]
  simp only
  rw [ih.2]
  rw [qfe, List.flatMap_cons, List.nil_append]
theorem qzf : jr [] = (none, []) := by
 unfold jr
 rw [vz]
 rfl
theorem qlj {ls : List qa} (h : ∀ s ∈ ls, 10 ∉ s) : x2 [32, 32] (zn ls) = zn (ls.map fun s => [32, 32] ++ s) := by
 unfold x2 indF
 rw [qbw ls h]
 simp only [zn, List.flatMap_map, wp, if_pos]
theorem qq1 {ls : List qa} (h : ∀ s ∈ ls, 10 ∉ s) : ∀ s ∈ ls.map (fun s => [32, 32] ++ s), 10 ∉ s := fun s hs => by
 obtain ⟨x, hx, rfl⟩ := List.mem_map.1 hs
 have := h x hx
 simp [this]
theorem qqh {ls : List qa} (h : ∀ s ∈ ls, 10 ∉ s) : jw [32, 32] (x2 [32, 32] (zn ls)) = (zn ls, true) := by
 rw [qlj h]
 unfold jw
 rw [qbw _ (qq1 h), if_pos]
 ·simp [zn, List.flatMap_map, wp]
 ·intro x hx
  obtain ⟨s, hs, rfl⟩ := List.mem_map.1 hx
  obtain ⟨y, _, rfl⟩ := List.mem_map.1 hs
  exact List.prefix_append _ _
theorem qqi {fs : List Fld} (hl : fs.length ≤ 40) (hg : ∀ f ∈ fs, jl f) : qbx (x2 [32, 32] (kc fs)) = (fs, true) := by
 have hd : jw [32, 32] (x2 [32, 32] (kc fs)) = (kc fs, true) := by
  rw [qfe]
  exact qqh (qgy hg)
 unfold qbx
 rw [hd]
 simp only
 by_cases h0 : fs = []
 ·subst h0
  have hp : jr (kc []) = (none, []) := qzf
  rw [hp]
  simp [recsF, kc]
 ·rw [qwt ⟨hl, hg⟩ h0]
  simp [recsF]
theorem qvq {j k : Int} {s : qa} (hj : j = 1 ∨ j = 2 ∨ j = 3) (hk : k = 1 ∨ k = 2 ∨ k = 3) (hne : j ≠ k) : ¬ yp j <+: yp k ++ s := by
 rintro ⟨t, ht⟩
 have h2 := congrArg (List.take 2) ht
 rcases hj with rfl | rfl | rfl <;> rcases hk with rfl | rfl | rfl <;> first | exact absurd rfl hne | (revert h2; simp [yp])
theorem qx8 {x : qu} (hk : x.kind = 1 ∨ x.kind = 2 ∨ x.kind = 3) (h1 : -9223372036854775808 ≤ x.id) (h2 : x.id ≤ 9223372036854775807) : begE (j6 x) = some (x.kind, x.id) := by
 have hl : j6 x = yp x.kind ++ Lib.itoa x.id := by
  unfold j6
  rw [if_pos (by omega)]
 have hself : tryB x.kind (j6 x) = some x.id := by
  unfold tryB
  rw [hl, if_pos (List.prefix_append _ _), List.drop_left, qiz h1 h2]
 have hoth : ∀ j : Int, (j = 1 ∨ j = 2 ∨ j = 3) → j ≠ x.kind → tryB j (j6 x) = none := fun j hj hne => by
  unfold tryB
  rw [hl, if_neg (qvq hj hk hne)]
 unfold begE
 rcases hk with h | h | h
 ·rw [h] at hself hoth ⊢
  rw [hself]
 ·rw [h] at hself hoth ⊢
  rw [hoth 1 (by simp) (by decide), hself]
 ·rw [h] at hself hoth ⊢
  rw [hoth 1 (by simp) (by decide), hoth 2 (by simp) (by decide), hself]
def qao (x : qu) : List qa := (x.fields.flatMap z8).map fun s => [32, 32] ++ s
theorem qlf (v : Int) : ∀ c ∈ Lib.itoa v, c ≠ 10 ∧ c ≠ 32 := fun c hc => by
 by_cases hv : v < 0
 ·rw [qf5 hv] at hc
  rcases List.mem_cons.1 hc with rfl | hc
  ·decide
  ·have := vt _ _ (Nat.le_refl _) c hc
   constructor <;> rintro rfl <;> simp at this
 ·rw [qf2 (by omega)] at hc
  have := vt _ _ (Nat.le_refl _) c hc
  constructor <;> rintro rfl <;> simp at this
theorem qbs (x : qu) : 10 ∉ j6 x := by
 unfold j6
 split
 ·rename_i hk
  have h1 := qlf x.id
  intro hc
  rcases List.mem_append.1 hc with hc | hc
  ·have : x.kind = 1 ∨ x.kind = 2 ∨ x.kind = 3 := by omega
   rcases this with h | h | h <;> rw [h] at hc <;> revert hc <;> decide
  ·exact (h1 10 hc).1 rfl
 ·simp
theorem qt8 {x : qu} (hk : x.kind = 1 ∨ x.kind = 2 ∨ x.kind = 3) : ¬ [32, 32] <+: j6 x := by
 unfold j6
 rw [if_pos (by omega)]
 rintro ⟨t, ht⟩
 have h2 := congrArg (List.take 2) ht
 rcases hk with h | h | h <;> rw [h] at h2 <;> revert h2 <;> simp [yp]
theorem qei {x : qu} (hg : ∀ f ∈ x.fields, jl f) : jg x = zn (j6 x :: qao x) := by
 unfold jg qao
 rw [xe, qfe, qlj (qgy hg)]
 simp
theorem qym {x : qu} (hg : ∀ f ∈ x.fields, jl f) : ∀ s ∈ qao x, 10 ∉ s := qq1 (qgy hg)
theorem qdo (text : qa) : ∀ (m : List qa) (k a f : Nat) (R : qa), (∀ s ∈ m, 10 ∉ s ∧ [32, 32] <+: s) → ∃ k', wc text (wg k a (zn m ++ R)) f = wc text (wg k' (a + (zn m).length) R) f
 | [], k, a, f, R, _ => ⟨k, by simp [zn]⟩
 | s :: m, k, a, f, R, h => by
  obtain ⟨h10, hp⟩ := h s (by simp)
  have e : zn (s :: m) ++ R = s ++ 10 :: (zn m ++ R) := by rw [xe]; simp
  obtain ⟨k', ih⟩ := qdo text m (k + 1) (a + s.length + 1) f R fun x hx => h x (by simp [hx])
  refine ⟨k', ?_⟩
  rw [e, qfy (by simp), wa _ h10, w8 _ h10, wc, if_neg (fun h => h.2 hp), ih, xe]
  congr 2
  simp
  omega
theorem qkq {x : qu} (hg : ∀ f ∈ x.fields, jl f) : ∀ s ∈ qao x, 10 ∉ s ∧ [32, 32] <+: s := fun s hs => ⟨qym hg s hs, by
 obtain ⟨y, _, rfl⟩ := List.mem_map.1 hs
 exact List.prefix_append _ _⟩
structure EncG (x : qu) : Prop where
 kind : x.kind = 1 ∨ x.kind = 2 ∨ x.kind = 3
 len : x.fields.length ≤ 40
 good : ∀ f ∈ x.fields, jl f
 id1 : -9223372036854775808 ≤ x.id
 id2 : x.id ≤ 9223372036854775807
theorem qm9 : ∀ (r : List qu) (D : qa) (x : qu) (k : Nat), EncG x → (∀ y ∈ r, EncG y) →
  wc (D ++ (jg x ++ encF r)) (wg k (D.length + ((j6 x).length + 1)) (zn (qao x) ++ encF r)) D.length = jg x :: r.map jg
 | [], D, x, k, hx, _ => by
  obtain ⟨k', h⟩ := qdo (D ++ (jg x ++ encF [])) (qao x) k (D.length + ((j6 x).length + 1)) D.length (encF []) (qkq hx.good)
  rw [h]
  have e : encF [] = [] := rfl
  rw [e, qh0, wc]
  simp
 | y :: r, D, x, k, hx, hr => by
  have hy := hr y (by simp)
  obtain ⟨k', h⟩ := qdo (D ++ (jg x ++ encF (y :: r))) (qao x) k (D.length + ((j6 x).length + 1)) D.length (encF (y :: r)) (qkq hx.good)
  rw [h]
  have e : encF (y :: r) = j6 y ++ 10 :: (zn (qao y) ++ encF r) := by
   have : encF (y :: r) = jg y ++ encF r := by simp [encF]
   rw [this, qei hy.good, xe]
   simp
  have hlx : (jg x).length = (j6 x).length + 1 + (zn (qao x)).length := by
   rw [qei hx.good, xe]
   simp
   omega
  have e2 : encF (y :: r) = jg y ++ encF r := by simp [encF]
  have hpos : D.length + ((j6 x).length + 1) + (zn (qao x)).length = (D ++ jg x).length := by
   rw [List.length_append, hlx]
   omega
  rw [hpos]
  have hc : wg k' (D ++ jg x).length (encF (y :: r)) = ⟨k', (D ++ jg x).length, j6 y, true⟩ :: wg (k' + 1) ((D ++ jg x).length + (j6 y).length + 1) (zn (qao y) ++ encF r) := by
   rw [e, qfy (by simp), wa _ (qbs y), w8 _ (qbs y)]
   simp
  have hlt : D.length < (D ++ jg x).length := by rw [List.length_append, hlx]; omega
  rw [hc, wc, if_pos ⟨hlt, qt8 hy.kind⟩]
  have ih := qm9 r (D ++ jg x) y (k' + 1) hy fun z hz => hr z (by simp [hz])
  have et : D ++ (jg x ++ encF (y :: r)) = (D ++ jg x) ++ (jg y ++ encF r) := by rw [e2]; simp
  rw [et]
  have ed : ((D ++ jg x ++ (jg y ++ encF r)).take (D ++ jg x).length).drop D.length = jg x := by
   rw [List.take_left, List.drop_left]
  rw [ed, List.map_cons]
  simp only
  rw [show (D ++ jg x).length + (j6 y).length + 1 = (D ++ jg x).length + ((j6 y).length + 1) by omega, ih]
theorem qx9 {x : qu} {r : List qu} (hx : EncG x) (hr : ∀ y ∈ r, EncG y) : qcg (encF (x :: r)) = (x :: r).map jg := by
 have e2 : encF (x :: r) = jg x ++ encF r := by simp [encF]
 have e : encF (x :: r) = j6 x ++ 10 :: (zn (qao x) ++ encF r) := by
  rw [e2, qei hx.good, xe]
  simp
 have h := qm9 r [] x 1 hx hr
 simp only [List.nil_append, List.length_nil, Nat.zero_add] at h
 have hc : lns (encF (x :: r)) = ⟨0, 0, j6 x, true⟩ :: wg 1 ((j6 x).length + 1) (zn (qao x) ++ encF r) := by
  unfold lns
  rw [e, qfy (by simp), wa _ (qbs x), w8 _ (qbs x)]
  simp
 unfold qcg
 rw [hc, wc, if_neg (by simp), e2, h]
 rfl
theorem qrl : ∀ (r acc : List qu), (∀ y ∈ r, EncG y) → acc.length + r.length ≤ 40 → decP (r.map jg) acc = some (acc ++ r)
 | [], acc, _, _ => by simp [decP]
 | x :: r, acc, h, hl => by
  have hx := h x (by simp)
  simp only [List.length_cons] at hl
  have hu : upto 10 (jg x) = j6 x := by
   unfold jg
   rw [List.append_assoc]
   exact wa _ (qbs x)
  have hp : past 10 (jg x) = x2 [32, 32] (kc x.fields) := by
   unfold jg
   rw [List.append_assoc]
   exact w8 _ (qbs x)
  have hfl := qqi hx.len hx.good
  rw [List.map_cons, decP, hu, qx8 hx.kind hx.id1 hx.id2]
  simp only [hp, hfl]
  rw [if_pos ⟨trivial, by omega⟩]
  have ih := qrl r (acc ++ [⟨x.kind, x.id, x.fields⟩]) (fun y hy => h y (by simp [hy])) (by simp; omega)
  rw [ih]
  simp
theorem qux {x : qu} (h : gErr x = .no) (hB : EdB x) : EncG x := by
 obtain ⟨h1, h2⟩ := qo8 h
 refine ⟨?_, h1, h2, hB.id1, hB.id2⟩
 unfold gErr at h
 split at h
 ·exact .inr (.inl (by assumption))
 ·split at h
  ·rename_i hk; omega
  ·simp at h
theorem q3y {b : List qu} (he : eErr b = .no) (hB : ∀ x ∈ b, EdB x) (hl : (encF b).length ≤ 50000) : decF (encF b) = some b := by
 obtain ⟨h1, h40, hg⟩ := qky he
 have hG : ∀ y ∈ b, EncG y := fun y hy => qux (hg y hy) (hB y hy)
 unfold decF
 rw [if_neg (by omega)]
 cases b with
 | nil => simp at h1
 | cons x r =>
  rw [qx9 (hG x (by simp)) (fun y hy => hG y (by simp [hy])), qrl (x :: r) [] hG (by simp at h40 ⊢; omega)]
  simp only [List.nil_append]
  rw [if_pos ⟨he, trivial⟩]
theorem q2j {text : qa} {b : List qu} (h : decF text = some b) : eErr b = .no ∧ encF b = text ∧ text.length ≤ 50000 := by
 unfold decF at h
 split at h
 ·simp at h
 ·split at h
  ·simp at h
  ·split at h
   ·rename_i hc
    cases h
    exact ⟨hc.1, hc.2, by omega⟩
   ·simp at h
end Go.Pl
