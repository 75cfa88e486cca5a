/- Contracts and plain facts that the closing text leans on (part 7). No condition of their own beyond those that each states. -/
import Derived.Test.YtefmcijohgpfhaaGreatDoorK6
import Derived.Laws.StructEq
set_option maxRecDepth 100000
set_option linter.unusedVariables false
set_option linter.unusedSimpArgs false
set_option maxRecDepth 100000
set_option linter.unusedVariables false
namespace Go.Pl
open Go Go.Proofs Go.Proofs.YtefmcijohgpfhaaGreatDoor
def GF (fs : List Fld) : Prop := fs.length ≤ 40 ∧ ∀ f ∈ fs, wj f
structure PI (p : PSt) : Prop where
 items : ∀ x ∈ p.items, GF x.fields ∧ (x.kind = 3 ↔ x.fields ≠ [])
 fields : GF p.fields
 full : p.lines ≠ [] → p.full = false → p.fields.length < 40
theorem qu6 {ls : List qa} (h : (j8 ls).2 = 0) : wj (j8 ls).1 := by
 unfold j8 at h ⊢
 split at h
 ·split at h
  ·simp at h
  ·rename_i h1 h2
   rw [if_pos h1, if_neg h2]
   exact ⟨(qfi.1 h1.2.1).2.2, Nat.le_of_not_lt h2⟩
 ·simp at h
theorem pi0 : PI p0 := ⟨by simp [p0], ⟨by simp [p0], by simp [p0]⟩, by simp [p0]⟩
theorem PI.flush {p : PSt} (h : PI p) : PI (v8 p).2 := by
 unfold v8
 split
 ·exact h
 ·rename_i hl
  split
  ·exact h
  ·rename_i hu
   split
   ·exact h
   ·rename_i hf
    have hlt := h.full hl (by simpa using hf)
    refine ⟨h.items, ⟨by simp; omega, fun f hm => ?_⟩, by simp⟩
    rcases List.mem_append.1 hm with hm | hm
    ·exact h.fields.2 f hm
    ·simp at hm; subst hm; exact qu6 (by simpa using hu)
theorem PI.close {p : PSt} (h : PI p) : PI (qaa p) := by
 unfold qaa
 split
 ·exact ⟨h.items, ⟨by simp, by simp⟩, fun h1 h2 => by simp⟩
 ·refine ⟨fun x hx => ?_, ⟨by simp, by simp⟩, fun h1 h2 => by simp⟩
  rcases List.mem_append.1 hx with hx | hx
  ·exact h.items x hx
  ·simp at hx
   subst hx
   refine ⟨h.fields, ?_⟩
   simp only
   split
   ·rename_i h0; simp [h0]
   ·rename_i h0; simp [h0]
theorem PI.end' {p : PSt} (h : PI p) : PI (endP p).2 := by
 unfold endP
 split
 ·exact h
 ·exact h.flush.close
theorem PI.lines' {p : PSt} (h : PI p) (hl : p.lines ≠ []) (text : qa) : PI { p with lines := p.lines ++ [text] } := ⟨h.items, h.fields, fun _ hf => h.full hl hf⟩
theorem PI.begin' {p : PSt} (h : PI p) (no : Int) (text : qa) : PI (wp p no text) := by
 refine ⟨h.items, h.fields, fun _ hf => ?_⟩
 have := h.fields.1
 simp only [wp, decide_eq_false_iff_not, not_or] at hf ⊢
 omega
theorem PI.ahead {p : PSt} (h : PI p) (no : Int) (text : qa) (ended : Bool) (kind : Int) : PI (vu p no text ended kind).2 := by
 unfold vu
 split
 ·split
  ·exact h
  ·rename_i hl
   split
   ·exact h.lines' hl text
   ·exact (h.lines' hl text).flush
 ·split
  ·exact h.end'
  ·exact h.flush
theorem PI.take {p : PSt} (h : PI p) (no : Int) (text : qa) (ended : Bool) : PI (x8 p no text ended).2 := by
 have ha := h.ahead no text ended (q9 text)
 unfold x8
 split
 ·exact h
 ·split
  ·exact h
  ·split
   ·refine ⟨fun x hx => ?_, ha.fields, ha.full⟩
    rcases List.mem_append.1 hx with hx | hx
    ·exact ha.items x hx
    ·simp at hx; subst hx; exact ⟨⟨by simp, by simp⟩, by simp⟩
   ·split
    ·have hb := ha.begin' no text
     exact ⟨hb.items, hb.fields, hb.full⟩
    ·exact ⟨ha.items, ha.fields, ha.full⟩
theorem PI.run : ∀ (ls : List (qa × Bool)) (k : Nat) (p : PSt), PI p → PI (runL k ls p).2
 | [], k, p, h => h.end'
 | (t, e) :: r, k, p, h => by
  unfold runL
  split
  ·exact h
  ·exact PI.run r (k + 1) _ (h.take k t e)
theorem qll (text : qa) : ∀ x ∈ (v7 text).2, GF x.fields ∧ (x.kind = 3 ↔ x.fields ≠ []) := by
 unfold v7
 split
 ·simp
 ·exact (PI.run _ 0 _ pi0).items
theorem qrm (p : PSt) : (qaa p).items.length ≤ p.items.length + 1 := by
 unfold qaa
 split <;> simp
theorem qgt (p : PSt) : (v8 p).2.items = p.items := by
 unfold v8
 split
 ·rfl
 ·split
  ·rfl
  ·split <;> rfl
theorem qok (p : PSt) : (endP p).2.items.length ≤ p.items.length + 1 := by
 unfold endP
 split
 ·simp
 ·have := qrm (v8 p).2
  rw [qgt] at this
  exact this
theorem qt0 (p : PSt) (no : Int) (text : qa) (ended : Bool) (kind : Int) : (vu p no text ended kind).2.items.length ≤ p.items.length + 1 := by
 unfold vu
 split
 ·split
  ·simp
  ·split
   ·simp
   ·rw [qgt]; simp
 ·split
  ·exact qok p
  ·rw [qgt]; simp
theorem qup (p : PSt) (no : Int) (text : qa) (ended : Bool) : (x8 p no text ended).2.items.length ≤ p.items.length + 2 := by
 have ha := qt0 p no text ended (q9 text)
 unfold x8
 split
 ·simp
 ·split
  ·simp
  ·split
   ·simp; omega
   ·split
    ·simp [wp]; omega
    ·simp; omega
theorem qi0 : ∀ (ls : List (qa × Bool)) (k : Nat) (p : PSt), (runL k ls p).2.items.length ≤ p.items.length + 2 * ls.length + 1
 | [], k, p => by have := qok p; simp [runL]; omega
 | (t, e) :: r, k, p => by
  unfold runL
  split
  ·simp; omega
  ·have h1 := qi0 r (k + 1) (x8 p k t e).2
   have h2 := qup p k t e
   simp only [List.length_cons]
   omega
theorem qza (text : qa) : (v7 text).2.length ≤ 2 * text.length + 1 := by
 unfold v7
 split
 ·simp
 ·have h1 := qi0 (jm text) 0 p0
  have h2 := (qfj _ text (Nat.le_refl _)).2
  have h3 : p0.items.length = 0 := rfl
  simp only
  omega
theorem qxw (by' l : qa) : (wz by' l).1.length ≤ l.length := by
 unfold wz
 split
 ·have h := (qfj _ l (Nat.le_refl _)).1
  have key : ∀ (ls : List (qa × Bool)), (ls.flatMap fun x => x.1.drop by'.length ++ y6 x.2).length ≤ lsum ls := by
   intro ls
   induction ls with
   | nil => simp [lsum]
   | cons x r ih =>
    simp only [lsum, List.flatMap_cons, List.length_append, List.map_cons, List.sum_cons, List.length_drop] at ih ⊢
    omega
  have := key (jm l)
  simp only
  omega
 ·simp
end Go.Pl
set_option maxRecDepth 100000
set_option linter.unusedVariables false
namespace Go.Proofs.YtefmcijohgpfhaaGreatDoor
open Go Go.Av Go.RowKit Go.Proofs Go.Pl
theorem qii (text : qa) (st : List AObj) (hl : text.length ≤ 60000) (h : (v7 text).1 = none) : qt E 57 [Sv text] st fun r st' => r = .tu [y3 (v7 text).2, .v .nilIface] ∧ st' = st := by
 have := qma text st hl
 unfold qcp at this
 rw [h] at this
 exact this
theorem quh (text : qa) (st : List AObj) (a n : Int) (hl : text.length ≤ 60000) (h : (v7 text).1 = some (a, n)) : qt E 57 [Sv text] st fun r st' => r = .tu [y3 (v7 text).2, .ifc 103 (.pp [Iv a, .ifc 31 (Iv n)])] ∧ st' = st := by
 have := qma text st hl
 unfold qcp at this
 rw [h] at this
 exact this
def qct (text : qa) : List Fld × Bool :=
 if (wz [32, 32] text).2 = false ∨ (v7 (wz [32, 32] text).1).1 ≠ none then ([], false)
 else match recsF (v7 (wz [32, 32] text).1).2 with
  | [] => ([], decide ((wz [32, 32] text).1 = []))
  | f :: _ => (f, decide ((v7 (wz [32, 32] text).1).2.length = 1))
theorem q5s {a b : List Fld} {c d : Bool} (h1 : a = b) (h2 : c = d) : AV.tu [qa1 a, Bv c] = AV.tu [qa1 b, Bv d] := by rw [h1, h2]
theorem qw1 {its : List w9} (h : ∀ x ∈ its, GF x.fields ∧ (x.kind = 3 ↔ x.fields ≠ [])) : ∀ fs ∈ recsF its, GF fs ∧ fs ≠ [] := fun fs hfs => by
 obtain ⟨x, hx, rfl⟩ := List.mem_map.1 hfs
 obtain ⟨hx1, hx2⟩ := List.mem_filter.1 hx
 have := h x hx1
 exact ⟨this.1, this.2.1 (by simpa using hx2)⟩
set_option maxHeartbeats 2000000 in
theorem q2m (text : qa) (st : List AObj) (hl : text.length ≤ 60000) : qt E 38 [Sv text] st fun r st' => r = .tu [qa1 (qct text).1, Bv (qct text).2] ∧ st' = st := by
 refine zg (yl (qf6 _) (zi _)) (qv Tryz.func38 rfl (Nat.le_of_ble_eq_true rfl) ?_)
 have hdl := qxw [32, 32] text
 have hpl := qza (wz [32, 32] text).1
 have hit := qll (wz [32, 32] text).1
 unfold qct
 obtain ⟨d, hd⟩ : ∃ d, d = wz [32, 32] text := ⟨_, rfl⟩
 have hdc : ∀ st, qt E 78 [Sv text, Sv [32, 32]] st fun r st' => r = .tu [Sv d.1, Bv d.2] ∧ st' = st := fun st => by rw [hd]; exact qrn text [32, 32] st (by omega)
 rw [← hd] at hdl hpl hit ⊢
 obtain ⟨b, ok⟩ := d
 simp only at hdl hpl hit hdc ⊢
 cases hp : (v7 b).1 with
 | some e =>
  obtain ⟨a, n⟩ := e
  rw [if_pos (.inr (by simp))]
  cases ok
  all_goals
   repeat' (first
    | apply qj
    | apply qc
    | apply qg
    | apply qh
    | apply qb
    | (apply qx; exact rfl; exact rfl)
    | (apply z7; exact rfl)
    | (apply qo; (iterate 4 exact rfl))
    | (apply j3; (first | exact rfl | assumption))
    | (apply jx; (first | exact rfl | assumption))
    | (apply qr; exact rfl; first | (apply jn; (first | assumption | omega)) | (apply jq; (first | assumption | omega)) | (apply jo; (first | exact rfl | assumption)) | (apply jr; (first | exact rfl | assumption)) | (apply pk_t; (first | exact rfl | assumption)) | (apply pk_f; (first | exact rfl | assumption)))
    | (apply qe; exact rfl; first | (apply q5; (first | assumption | omega)) | (apply q6; (first | assumption | omega)) | (apply q7; (first | exact rfl | assumption)) | (apply q8; (first | exact rfl | assumption)) | (apply cd_n <;> intro h) | (apply cd_t; (first | exact rfl | assumption)) | (apply cd_f; (first | exact rfl | assumption)) | (apply cd_d <;> intro h) | (apply cd_s <;> intro h))
    | (apply zo; exact rfl; exact rfl)
    | apply qq
    | (apply qf; exact Tryz.call78; exact hdc _)
    | (apply qf; exact Tryz.call57; exact quh _ _ _ _ (by omega) hp))
   exact qi rfl (yw (yj rfl) (qds (qed 2) (qbb (Bv false)))) ⟨rfl, _, rfl⟩
 | none =>
  cases ok
  ·rw [if_pos (.inl rfl)]
   repeat' (first
    | apply qj
    | apply qc
    | apply qg
    | apply qh
    | apply qb
    | (apply qx; exact rfl; exact rfl)
    | (apply z7; exact rfl)
    | (apply qo; (iterate 4 exact rfl))
    | (apply jx; (first | exact rfl | assumption))
    | (apply qr; exact rfl; first | (apply jn; (first | assumption | omega)) | (apply jq; (first | assumption | omega)) | (apply jo; (first | exact rfl | assumption)) | (apply jr; (first | exact rfl | assumption)) | (apply pk_t; (first | exact rfl | assumption)) | (apply pk_f; (first | exact rfl | assumption)))
    | (apply qe; exact rfl; first | (apply q5; (first | assumption | omega)) | (apply q6; (first | assumption | omega)) | (apply q7; (first | exact rfl | assumption)) | (apply q8; (first | exact rfl | assumption)) | (apply cd_n <;> intro h) | (apply cd_t; (first | exact rfl | assumption)) | (apply cd_f; (first | exact rfl | assumption)) | (apply cd_d <;> intro h) | (apply cd_s <;> intro h))
    | apply qq
    | (apply qf; exact Tryz.call78; exact hdc _)
    | (apply qf; exact Tryz.call57; exact qii _ _ (by omega) hp))
   exact qi rfl (yw (yj rfl) (qds (qed 2) (qbb (Bv false)))) ⟨rfl, _, rfl⟩
  ·rw [if_neg (by simp)]
   have hsc := fun st => q0z (v7 b).2 st (by omega) (fun x hx => by have := (hit x hx).1.1; omega)
   have hml : ((v7 b).2.map yy).length = (v7 b).2.length := by simp
   cases hr : recsF (v7 b).2 with
   | nil =>
    rw [hr] at hsc
    repeat' (first
     | apply qj
     | apply qc
     | apply qg
     | apply qh
     | apply qb
     | (apply qx; exact rfl; exact rfl)
     | (apply qm; (iterate 3 exact rfl))
     | (apply z0; (iterate 3 exact rfl))
     | (apply z7; exact rfl)
     | (apply qo; (iterate 4 exact rfl))
     | (apply j3; (first | exact rfl | assumption))
     | (apply qr; exact rfl; first | (apply jn; (first | assumption | omega)) | (apply jq; (first | assumption | omega)) | (apply jo; (first | exact rfl | assumption)) | (apply jr; (first | exact rfl | assumption)) | (apply pk_t; (first | exact rfl | assumption)) | (apply pk_f; (first | exact rfl | assumption)))
     | (apply qe; exact rfl; first | (apply q5; (first | assumption | omega)) | (apply q6; (first | assumption | omega)) | (apply q7; (first | exact rfl | assumption)) | (apply q8; (first | exact rfl | assumption)) | (apply cd_n <;> intro h) | (apply cd_t; (first | exact rfl | assumption)) | (apply cd_f; (first | exact rfl | assumption)) | (apply cd_d <;> intro h) | (apply cd_s <;> intro h))
     | (apply zk; (iterate 4 exact rfl))
     | (apply zl; exact rfl; exact rfl)
     | apply qs
     | apply qq
     | (apply qf; exact Tryz.call78; exact hdc _)
     | (apply qf; exact Tryz.call57; exact qii _ _ (by omega) hp)
     | (apply qf; exact Tryz.call79; exact hsc _))
    exact qi rfl (yw (yj rfl) (qds (qed 2) (qbb (Bv (decide (b = [])))))) ⟨rfl, _, rfl⟩
   | cons f r =>
    rw [hr] at hsc
    have hrl : ((f :: r).map qa1).length = r.length + 1 := by simp
    repeat' (first
     | apply qj
     | apply qc
     | apply qg
     | apply qh
     | apply qb
     | (apply qx; exact rfl; exact rfl)
     | (apply qm; (iterate 3 exact rfl))
     | (apply z7; exact rfl)
     | (apply qo; (iterate 4 exact rfl))
     | (apply j3; (first | exact rfl | assumption))
     | (apply qr; exact rfl; first | (apply jn; (first | assumption | omega)) | (apply jq; (first | assumption | omega)) | (apply jo; (first | exact rfl | assumption)) | (apply jr; (first | exact rfl | assumption)) | (apply pk_t; (first | exact rfl | assumption)) | (apply pk_f; (first | exact rfl | assumption)))
     | (apply qe; exact rfl; first | (apply q5; (first | assumption | omega)) | (apply q6; (first | assumption | omega)) | (apply q7; (first | exact rfl | assumption)) | (apply q8; (first | exact rfl | assumption)) | (apply cd_n <;> intro h) | (apply cd_t; (first | exact rfl | assumption)) | (apply cd_f; (first | exact rfl | assumption)) | (apply cd_d <;> intro h) | (apply cd_s <;> intro h))
     | (apply zk; (iterate 4 exact rfl))
     | (apply zl; exact rfl; exact rfl)
     | (apply zc; (iterate 3 exact rfl))
     | apply qs
     | apply qq
     | (apply qf; exact Tryz.call78; exact hdc _)
     | (apply qf; exact Tryz.call57; exact qii _ _ (by omega) hp)
     | (apply qf; exact Tryz.call79; exact hsc _)
     | (apply q4 (n := 0); (iterate 6 exact rfl)))
    refine qi rfl (yj rfl) ⟨q5s rfl (decide_eq_decide.2 ?_), _, rfl⟩
    rw [hml]
    omega
end Go.Proofs.YtefmcijohgpfhaaGreatDoor
set_option maxRecDepth 100000
set_option linter.unusedVariables false
namespace Go.Proofs.YtefmcijohgpfhaaGreatDoor
open Go Go.Av Go.RowKit Go.Proofs Go.Pl
def yx (text : qa) : List LnV → Nat → List qa
 | [], frm => [text.drop frm]
 | l :: r, frm => if frm < l.at' ∧ ¬ [32, 32] <+: l.text then (text.take l.at').drop frm :: yx text r l.at' else yx text r frm
def qdi (text : qa) : List qa := yx text (lns text) 0
theorem qyr (l m : qa) (st : List AObj) (h : m <+: l) : qt E 73 [Sv l, Sv m] st fun r st' => r = Bv true ∧ st' = st := by
 have := qdf l m st
 rw [(yv l m).2 h] at this
 exact this
theorem qyn (l m : qa) (st : List AObj) (h : ¬ m <+: l) : qt E 73 [Sv l, Sv m] st fun r st' => r = Bv false ∧ st' = st := by
 have := qdf l m st
 have hf : Lib.hasPrefix l m = false := by
  cases hb : Lib.hasPrefix l m with
  | false => rfl
  | true => exact absurd ((yv l m).1 hb) h
 rw [hf] at this
 exact this
theorem q37 (text : qa) (st : List AObj) (hl : text.length < 1000000) : qt E 35 [Sv text] st fun r st' => r = Ss (qdi text) ∧ st' = st := by
 refine yr [.s text] (qov _) Tryz.func35 rfl rfl (fun _ => rfl) rfl fun S0 => ?_
 apply zd []
 repeat' (first
  | apply And.intro
  | (intro h; first | (exfalso; omega) | (exfalso; exact h rfl) | (exfalso; revert h; decide) | skip)
  | exact ⟨Tryz.call72⟩
  | (refine Exists.intro _ ⟨qi2 _, ?_⟩)
  | exact rfl
  | exact trivial
  | exact fun _ => rfl
  | exact zb _
  | apply qz []
  | exact DrOk.mk (by kernel_rfl)
  | exact qn fun _ => rfl
  | omega
  | (simp only [List.length_map, List.length_append, List.length_cons, List.length_nil, List.length_take, List.length_drop]; omega)
  | exact zh
  | (refine Exists.intro _ ⟨rfl, ?_⟩)
  | refine zu ?_)
 refine qeq (X := List qa × Nat) text 2 3 [0, 1, 2] (fun (out, frm) => ⟨[(1, .a (.pp [Sv text])), (3, .bx 0 0), (4, .bx 1 0), (7, .fn (.func 113) [] [.bx 2 0])],
   [(0, some (.cells 70 [.tp 3])), (1, some (.cells 3 [.i frm])), (2, some (.cells 9 [.s text])), (3, some (.tip 1 9 (out.map fun x => Sv x)))], 4⟩) _
  (fun k rest (out, frm) => ∃ a, a + rest.length = text.length ∧ frm ≤ a ∧ out.length ≤ k ∧ k ≤ a ∧ out ++ yx text (xb k a rest) frm = qdi text) (fun _ _ => False) ([], 0) ⟨0, by simp, by omega, by simp, by omega, rfl⟩ ?_ id (by omega) (fun _ => rfl) rfl (fun _ => rfl) (fun _ => rfl) rfl ?_ ?_ (fun _ _ h => h.elim)
 ·skip
  repeat' (first
   | apply And.intro
   | (intro h; first | (exfalso; omega) | (exfalso; exact h rfl) | (exfalso; revert h; decide) | skip)
   | exact rfl
   | exact trivial
   | exact fun _ => rfl
   | exact zb _
   | apply qz []
   | exact DrOk.mk (by kernel_rfl)
   | exact qn fun _ => rfl
   | omega
   | (simp only [List.length_map, List.length_append, List.length_cons, List.length_nil, List.length_take, List.length_drop]; omega)
   | exact zh
   | (refine Exists.intro _ ⟨rfl, ?_⟩)
   | refine zu ?_)
 ·rintro k rest ⟨out, frm⟩ ⟨a, ha, hfa, hok, hka, hrun⟩ hne hle
  have hcons := qa0 (k := k) (a := a) hne
  have hul := wt 10 rest
  have hr0 : 0 < rest.length := List.length_pos_iff.2 hne
  have hpl := wr 10 rest
  have hpa : a + (upto 10 rest).length + 1 + (past 10 rest).length = text.length ∨ past 10 rest = [] := by
   by_cases h10 : 10 ∈ rest
   ·have := qc9 h10
    exact .inl (by omega)
   ·right
    unfold past
    rw [qca h10]
    simp
  have hpast : ∀ f, yx text (xb (k + 1) (a + (upto 10 rest).length + 1) (past 10 rest)) f = yx text (xb (k + 1) (text.length - (past 10 rest).length) (past 10 rest)) f := fun f => by
   rcases hpa with h | h
   ·have : a + (upto 10 rest).length + 1 = text.length - (past 10 rest).length := by omega
    rw [this]
   ·rw [h, qas, qas]
  have e : (text.length : Int) - rest.length = (a : Int) := by omega
  rw [hcons, yx] at hrun
  unfold qjg
  rw [e]
  by_cases hp : [32, 32] <+: upto 10 rest
  ·have hhp := fun st => qyr (upto 10 rest) [32, 32] st hp
   rw [if_neg (fun h => h.2 hp), hpast] at hrun
   refine RA.mk fun S F ρ rd => ?_
   apply zd []
   repeat' (first
    | apply And.intro
    | (intro h; first | (exfalso; omega) | (exfalso; exact h rfl) | (exfalso; revert h; decide) | skip)
    | (refine RB.mk fun S rd => ?_; apply zd [])
    | exact ⟨Tryz.call73⟩
    | (refine Exists.intro _ ⟨qw (hhp) rfl, ?_⟩)
    | (refine Exists.intro (out, frm) ⟨⟨text.length - (past 10 rest).length, by omega, by omega, by omega, by omega, hrun⟩, ?_⟩)
    | exact rfl
    | exact trivial
    | exact fun _ => rfl
    | exact zb _
    | apply qz []
    | exact DrOk.mk (by kernel_rfl)
    | exact qn fun _ => rfl
    | omega
    | (simp only [List.length_map, List.length_append, List.length_cons, List.length_nil, List.length_take, List.length_drop]; omega)
    | exact zh
    | (refine Exists.intro _ ⟨rfl, ?_⟩)
    | refine zu ?_)
  ·have hhp := fun st => qyn (upto 10 rest) [32, 32] st hp
   by_cases hfr : frm < a
   ·rw [if_pos ⟨hfr, hp⟩, hpast] at hrun
    refine RA.mk fun S F ρ rd => ?_
    apply zd []
    repeat' (first
     | apply And.intro
     | (intro h; first | (exfalso; omega) | (exfalso; exact h rfl) | (exfalso; revert h; decide) | skip)
     | (refine RB.mk fun S rd => ?_; apply zd [25])
     | exact ⟨Tryz.call73⟩
     | (refine Exists.intro _ ⟨qw (hhp) rfl, ?_⟩)
     | (refine Exists.intro (out ++ [(text.take a).drop frm], a) ⟨⟨text.length - (past 10 rest).length, by omega, by omega, by simp; omega, by omega, by rw [← hrun]; simp⟩, ?_⟩)
     | exact rfl
     | exact trivial
     | exact fun _ => rfl
     | exact zb _
     | apply qz [25]
     | exact DrOk.mk (by kernel_rfl)
     | exact qn fun _ => rfl
     | omega
     | (simp only [List.length_map, List.length_append, List.length_cons, List.length_nil, List.length_take, List.length_drop]; omega)
     | exact zh
     | (refine Exists.intro _ ⟨rfl, ?_⟩)
     | refine zu ?_)
    all_goals first | (simp [SV.evs]; omega) | (simp [SV.evs, SV.ev]; done)
   ·rw [if_neg (fun h => hfr h.1), hpast] at hrun
    refine RA.mk fun S F ρ rd => ?_
    apply zd []
    repeat' (first
     | apply And.intro
     | (intro h; first | (exfalso; omega) | (exfalso; exact h rfl) | (exfalso; revert h; decide) | skip)
     | (refine RB.mk fun S rd => ?_; apply zd [])
     | exact ⟨Tryz.call73⟩
     | (refine Exists.intro _ ⟨qw (hhp) rfl, ?_⟩)
     | (refine Exists.intro (out, frm) ⟨⟨text.length - (past 10 rest).length, by omega, by omega, by omega, by omega, hrun⟩, ?_⟩)
     | exact rfl
     | exact trivial
     | exact fun _ => rfl
     | exact zb _
     | apply qz []
     | exact DrOk.mk (by kernel_rfl)
     | exact qn fun _ => rfl
     | omega
     | (simp only [List.length_map, List.length_append, List.length_cons, List.length_nil, List.length_take, List.length_drop]; omega)
     | exact zh
     | (refine Exists.intro _ ⟨rfl, ?_⟩)
     | refine zu ?_)
 ·rintro k ⟨out, frm⟩ ⟨a, ha, hfa, hok, hka, hrun⟩
  rw [qas, yx] at hrun
  repeat' (first
   | apply And.intro
   | (intro h; first | (exfalso; omega) | (exfalso; exact h rfl) | (exfalso; revert h; decide) | skip)
   | exact rfl
   | exact trivial
   | exact fun _ => rfl
   | exact zb _
   | apply qz []
   | exact DrOk.mk (by kernel_rfl)
   | exact qn fun _ => rfl
   | omega
   | (simp only [List.length_map, List.length_append, List.length_cons, List.length_nil, List.length_take, List.length_drop]; omega)
   | exact zh
   | (refine Exists.intro _ ⟨rfl, ?_⟩)
   | refine zu ?_)
  rw [← hrun]
  simp
end Go.Proofs.YtefmcijohgpfhaaGreatDoor
set_option maxRecDepth 100000
set_option linter.unusedVariables false
namespace Go.Proofs.YtefmcijohgpfhaaGreatDoor
open Go Go.Av Go.RowKit Go.Proofs Go.Pl
def decP : List qa → List z1 → Option (List z1)
 | [], acc => some acc
 | p :: r, acc => match begE (upto 10 p) with
  | none => none
  | some (k, n) => if (qct (past 10 p)).2 = true ∧ acc.length ≠ 40 then decP r (acc ++ [⟨k, n, (qct (past 10 p)).1⟩]) else none
def decF (text : qa) : Option (List z1) := if 50000 < text.length then none else match decP (qdi text) [] with
 | none => none
 | some b => if eErr b = .no ∧ encF b = text then some b else none
def decA : Option (List z1) → AV
 | none => .tu [qbr [], .ifc 31 (Iv 2)]
 | some b => .tu [qbr b, .v .nilIface]
theorem qzv (x : Option (List z1)) : Pure (decA x) := by
 rcases x with _ | b
 ·exact yl (qhs _) (qb9 (zi _))
 ·exact yl (qhs _) (zi _)
theorem qhk (text : qa) : ∀ (ls : List LnV) (f : Nat), (∀ p ∈ yx text ls f, p.length ≤ text.length) ∧ (yx text ls f).length ≤ ls.length + 1
 | [], f => by simp [yx]
 | l :: r, f => by
  unfold yx
  split
  ·obtain ⟨h1, h2⟩ := qhk text r l.at'
   refine ⟨fun p hp => ?_, by simp; omega⟩
   rcases List.mem_cons.1 hp with rfl | hp
   ·simp; omega
   ·exact h1 p hp
  ·obtain ⟨h1, h2⟩ := qhk text r f
   exact ⟨h1, by simp; omega⟩
theorem q3c {l : qa} {k n : Int} (h : begE l = some (k, n)) : -9223372036854775808 ≤ n ∧ n ≤ 9223372036854775807 := by
 have key : ∀ {j : Int} {n : Int}, tryB j l = some n → -9223372036854775808 ≤ n ∧ n ≤ 9223372036854775807 := fun {j n} h => by
  unfold tryB at h
  split at h
  ·split at h
   ·rename_i v hv
    cases h
    exact Lib.atoiAll_bounds hv
   ·simp at h
  ·simp at h
 unfold begE at h
 split at h
 ·rename_i v hv; simp at h; rw [← h.2]; exact key hv
 ·split at h
  ·rename_i v hv; simp at h; rw [← h.2]; exact key hv
  ·split at h
   ·rename_i v hv; simp at h; rw [← h.2]; exact key hv
   ·simp at h
theorem qu0 (text : qa) : GF (qct text).1 := by
 unfold qct
 split
 ·exact ⟨by simp, by simp⟩
 ·split
  ·exact ⟨by simp, by simp⟩
  ·rename_i f r hr
   exact (qw1 (qll _) f (by rw [hr]; simp)).1
theorem q5e {k n : Int} {fs : List Fld} (h1 : -9223372036854775808 ≤ n) (h2 : n ≤ 9223372036854775807) (hg : GF fs) : EdB ⟨k, n, fs⟩ :=
 ⟨fun f hf => by have := (hg.2 f hf).1.2.1; omega, by have := hg.1; simp only; omega, h1, h2⟩
set_option maxHeartbeats 4000000 in
theorem q2h (text : qa) (st : List AObj) (hl : text.length < 1000000) : qt E 11 [Sv text] st fun r st' => r = decA (decF text) ∧ st' = st := by
 refine yr [.s text] (qzv _) Tryz.func11 rfl rfl (fun _ => rfl) rfl fun S0 => ?_
 by_cases hbig : 50000 < text.length
 ·have hd : decF text = none := if_pos hbig
  rw [hd]
  apply zd []
  repeat' (first
   | apply And.intro
   | (intro h; first | (exfalso; omega) | (exfalso; exact h rfl) | (exfalso; revert h; decide) | skip)
   | exact rfl
   | exact trivial
   | exact fun _ => rfl
   | exact zb _
   | apply qz []
   | exact DrOk.mk (by kernel_rfl)
   | exact qn fun _ => rfl
   | omega
   | (simp only [List.length_map, List.length_append, List.length_cons, List.length_nil, List.length_take, List.length_drop]; omega)
   | exact zh
   | (refine Exists.intro _ ⟨rfl, ?_⟩)
   | refine zu ?_)
 have hdf : decF text = match decP (qdi text) [] with
  | none => none
  | some b => if eErr b = .no ∧ encF b = text then some b else none := if_neg hbig
 have hpl := (qhk text (lns text) 0).1
 have hpn := (qhk text (lns text) 0).2
 have hln := qfg _ text 0 0 (Nat.le_refl _)
 have hpe : yx text (lns text) 0 = qdi text := rfl
 have hle : (lns text).length ≤ text.length := hln
 rw [hpe] at hpl hpn
 have hml : ((qdi text).map fun x => Sv x).length = (qdi text).length := by simp
 have hpc := fun st => q37 text st hl
 generalize qdi text = L at hdf hpl hpn hml hpc
 apply zd []
 repeat' (first
  | apply And.intro
  | (intro h; first | (exfalso; omega) | (exfalso; exact h rfl) | (exfalso; revert h; decide) | skip)
  | exact ⟨Tryz.call35⟩
  | (refine Exists.intro _ ⟨qw (hpc) rfl, ?_⟩)
  | exact rfl
  | exact trivial
  | exact fun _ => rfl
  | exact zb _
  | apply qz []
  | exact DrOk.mk (by kernel_rfl)
  | exact qn fun _ => rfl
  | omega
  | (simp only [List.length_map, List.length_append, List.length_cons, List.length_nil, List.length_take, List.length_drop]; omega)
  | exact zh
  | (refine Exists.intro _ ⟨rfl, ?_⟩)
  | refine zu ?_)
 refine qi5 (X := Nat × List z1) (fun (k, acc) => ⟨[(0, .s text), (4, .tp 0), (21, .a (Ss L)), (22, .i L.length), (23, .i k)], [(0, some (.tip 3 45 (acc.map qb7)))], 1⟩)
  (fun (k, acc) => k ≤ L.length ∧ acc.length ≤ k ∧ (∀ x ∈ acc, EdB x) ∧ decP (L.drop k) acc = decP L []) (fun x => L.length - x.1) (0, []) ⟨by omega, by simp, by simp, rfl⟩ ?_ ?_
 ·skip
  repeat' (first
   | apply And.intro
   | (intro h; first | (exfalso; omega) | (exfalso; exact h rfl) | (exfalso; revert h; decide) | skip)
   | exact rfl
   | exact trivial
   | exact fun _ => rfl
   | exact zb _
   | apply qz []
   | exact DrOk.mk (by kernel_rfl)
   | exact qn fun _ => rfl
   | omega
   | (simp only [List.length_map, List.length_append, List.length_cons, List.length_nil, List.length_take, List.length_drop]; omega)
   | exact zh
   | (refine Exists.intro _ ⟨rfl, ?_⟩)
   | refine zu ?_)
  all_goals first | (simp; done)
 ·rintro ⟨j, acc⟩ ⟨hj, hal, hB, hrun⟩
  have hma : (acc.map qb7).length = acc.length := by simp
  by_cases hc : j < L.length
  ·obtain ⟨p, hx⟩ : ∃ p, L[j]? = some p := ⟨_, List.getElem?_eq_getElem hc⟩
   have hg : (L.map fun x => Sv x)[j]? = some (Sv p) := by simp [hx]
   have hd : L.drop j = p :: L.drop (j + 1) := by
    obtain ⟨hlt, e⟩ := List.getElem?_eq_some_iff.1 hx
    rw [List.drop_eq_getElem_cons hlt, e]
   have hpp := hpl p (List.mem_of_getElem? hx)
   have hul := wt 10 p
   have hpal := wr 10 p
   have hcu := fun st => qgq p 10 st (by omega)
   have hbc := fun st => q3n (upto 10 p) st (by omega)
   have hgf := qu0 (past 10 p)
   have hfc := fun st => q2m (past 10 p) st (by omega)
   rw [hd, decP] at hrun
   cases hbe : begE (upto 10 p) with
   | none =>
    rw [hbe] at hrun hbc
    simp only at hrun
    rw [← hrun] at hdf
    simp only at hdf
    rw [hdf]
    apply zd []
    repeat' (first
     | apply And.intro
     | (intro h; first | (exfalso; omega) | (exfalso; exact h rfl) | (exfalso; revert h; decide) | skip)
     | (refine Exists.intro (j) ⟨by omega, _, hg, ?_⟩)
     | exact ⟨Tryz.call36⟩
     | (refine Exists.intro _ ⟨qw (hcu) rfl, ?_⟩)
     | exact ⟨Tryz.call37⟩
     | (refine Exists.intro _ ⟨qw (hbc) rfl, ?_⟩)
     | exact ⟨Tryz.call38⟩
     | (refine Exists.intro _ ⟨qw (hfc) rfl, ?_⟩)
     | exact rfl
     | exact trivial
     | exact fun _ => rfl
     | exact zb _
     | apply qz []
     | exact DrOk.mk (by kernel_rfl)
     | exact qn fun _ => rfl
     | omega
     | (simp only [List.length_map, List.length_append, List.length_cons, List.length_nil, List.length_take, List.length_drop]; omega)
     | exact zh
     | (refine Exists.intro _ ⟨rfl, ?_⟩)
     | refine zu ?_)
   | some kn =>
    obtain ⟨kd, n⟩ := kn
    have hid := q3c hbe
    rw [hbe] at hrun hbc
    simp only at hrun
    obtain ⟨fs, hfs⟩ : ∃ x, x = (qct (past 10 p)).1 := ⟨_, rfl⟩
    rw [← hfs] at hrun hfc hgf
    cases hok : (qct (past 10 p)).2 with
    | false =>
     rw [hok] at hrun hfc
     rw [if_neg (by simp)] at hrun
     rw [← hrun] at hdf
     simp only at hdf
     rw [hdf]
     apply zd []
     repeat' (first
      | apply And.intro
      | (intro h; first | (exfalso; omega) | (exfalso; exact h rfl) | (exfalso; revert h; decide) | skip)
      | (refine Exists.intro (j) ⟨by omega, _, hg, ?_⟩)
      | exact ⟨Tryz.call36⟩
      | (refine Exists.intro _ ⟨qw (hcu) rfl, ?_⟩)
      | exact ⟨Tryz.call37⟩
      | (refine Exists.intro _ ⟨qw (hbc) rfl, ?_⟩)
      | exact ⟨Tryz.call38⟩
      | (refine Exists.intro _ ⟨qw (hfc) rfl, ?_⟩)
      | exact rfl
      | exact trivial
      | exact fun _ => rfl
      | exact zb _
      | apply qz []
      | exact DrOk.mk (by kernel_rfl)
      | exact qn fun _ => rfl
      | omega
      | (simp only [List.length_map, List.length_append, List.length_cons, List.length_nil, List.length_take, List.length_drop]; omega)
      | exact zh
      | (refine Exists.intro _ ⟨rfl, ?_⟩)
      | refine zu ?_)
    | true =>
     rw [hok] at hrun hfc
     by_cases h40 : acc.length = 40
     ·rw [if_neg (by simp [h40])] at hrun
      rw [← hrun] at hdf
      simp only at hdf
      rw [hdf]
      apply zd []
      repeat' (first
       | apply And.intro
       | (intro h; first | (exfalso; omega) | (exfalso; exact h rfl) | (exfalso; revert h; decide) | skip)
       | (refine Exists.intro (j) ⟨by omega, _, hg, ?_⟩)
       | exact ⟨Tryz.call36⟩
       | (refine Exists.intro _ ⟨qw (hcu) rfl, ?_⟩)
       | exact ⟨Tryz.call37⟩
       | (refine Exists.intro _ ⟨qw (hbc) rfl, ?_⟩)
       | exact ⟨Tryz.call38⟩
       | (refine Exists.intro _ ⟨qw (hfc) rfl, ?_⟩)
       | exact rfl
       | exact trivial
       | exact fun _ => rfl
       | exact zb _
       | apply qz []
       | exact DrOk.mk (by kernel_rfl)
       | exact qn fun _ => rfl
       | omega
       | (simp only [List.length_map, List.length_append, List.length_cons, List.length_nil, List.length_take, List.length_drop]; omega)
       | exact zh
       | (refine Exists.intro _ ⟨rfl, ?_⟩)
       | refine zu ?_)
     ·rw [if_pos ⟨rfl, h40⟩] at hrun
      have hB2 : ∀ x ∈ acc ++ [⟨kd, n, fs⟩], EdB x := fun x hx => by
       rcases List.mem_append.1 hx with hx | hx
       ·exact hB x hx
       ·obtain rfl := List.mem_singleton.1 hx
        exact q5e hid.1 hid.2 hgf
      apply zd []
      repeat' (first
       | apply And.intro
       | (intro h; first | (exfalso; omega) | (exfalso; exact h rfl) | (exfalso; revert h; decide) | skip)
       | (refine Exists.intro (j) ⟨by omega, _, hg, ?_⟩)
       | exact ⟨Tryz.call36⟩
       | (refine Exists.intro _ ⟨qw (hcu) rfl, ?_⟩)
       | exact ⟨Tryz.call37⟩
       | (refine Exists.intro _ ⟨qw (hbc) rfl, ?_⟩)
       | exact ⟨Tryz.call38⟩
       | (refine Exists.intro _ ⟨qw (hfc) rfl, ?_⟩)
       | (refine Exists.intro (j + 1, acc ++ [⟨kd, n, fs⟩]) ⟨⟨by omega, by simp; omega, hB2, hrun⟩, by simp only; omega, ?_⟩)
       | exact rfl
       | exact trivial
       | exact fun _ => rfl
       | exact zb _
       | apply qz []
       | exact DrOk.mk (by kernel_rfl)
       | exact qn fun _ => rfl
       | omega
       | (simp only [List.length_map, List.length_append, List.length_cons, List.length_nil, List.length_take, List.length_drop]; omega)
       | exact zh
       | (refine Exists.intro _ ⟨rfl, ?_⟩)
       | refine zu ?_)
      all_goals (simp; done)
  ·have hd : L.drop j = [] := List.drop_eq_nil_of_le (by omega)
   rw [hd, decP] at hrun
   rw [← hrun] at hdf
   simp only at hdf
   cases he : eErr acc with
   | no =>
    have hen := fun st => qyo acc st hB he
    by_cases ht : encF acc = text
    ·rw [if_pos ⟨he, ht⟩] at hdf
     rw [hdf]
     rw [ht] at hen
     apply zd []
     repeat' (first
      | apply And.intro
      | (intro h; first | (exfalso; omega) | (exfalso; exact h rfl) | (exfalso; revert h; decide) | skip)
      | exact ⟨Tryz.call15⟩
      | (refine Exists.intro _ ⟨qw (hen) rfl, ?_⟩)
      | exact rfl
      | exact trivial
      | exact fun _ => rfl
      | exact zb _
      | apply qz []
      | exact DrOk.mk (by kernel_rfl)
      | exact qn fun _ => rfl
      | omega
      | (simp only [List.length_map, List.length_append, List.length_cons, List.length_nil, List.length_take, List.length_drop]; omega)
      | exact zh
      | (refine Exists.intro _ ⟨rfl, ?_⟩)
      | refine zu ?_)
    ·rw [if_neg fun h => ht h.2] at hdf
     rw [hdf]
     apply zd []
     repeat' (first
      | apply And.intro
      | (intro h; first | (exfalso; omega) | (exfalso; exact h rfl) | (exfalso; revert h; decide) | skip)
      | exact ⟨Tryz.call15⟩
      | (refine Exists.intro _ ⟨qw (hen) rfl, ?_⟩)
      | exact rfl
      | exact trivial
      | exact fun _ => rfl
      | exact zb _
      | apply qz []
      | exact DrOk.mk (by kernel_rfl)
      | exact qn fun _ => rfl
      | omega
      | (simp only [List.length_map, List.length_append, List.length_cons, List.length_nil, List.length_take, List.length_drop]; omega)
      | exact zh
      | (refine Exists.intro _ ⟨rfl, ?_⟩)
      | refine zu ?_)
     all_goals exact absurd ht (by assumption)
   | num n =>
    have hen := fun st => qpv acc st (.num n) hB (by omega) he fun h => by
     have := (qql acc).1 (by rw [he]; exact h)
     rw [he] at this
     simp at this
    rw [if_neg fun h => by rw [he] at h; simp at h] at hdf
    rw [hdf]
    apply zd []
    repeat' (first
     | apply And.intro
     | (intro h; first | (exfalso; omega) | (exfalso; exact h rfl) | (exfalso; revert h; decide) | skip)
     | exact ⟨Tryz.call15⟩
     | (refine Exists.intro _ ⟨qw (hen) rfl, ?_⟩)
     | exact rfl
     | exact trivial
     | exact fun _ => rfl
     | exact zb _
     | apply qz []
     | exact DrOk.mk (by kernel_rfl)
     | exact qn fun _ => rfl
     | omega
     | (simp only [List.length_map, List.length_append, List.length_cons, List.length_nil, List.length_take, List.length_drop]; omega)
     | exact zh
     | (refine Exists.intro _ ⟨rfl, ?_⟩)
     | refine zu ?_)
   | at' a n =>
    have hen := fun st => qpv acc st (.at' a n) hB (by omega) he fun h => by
     have := (qql acc).1 (by rw [he]; exact h)
     rw [he] at this
     simp at this
    rw [if_neg fun h => by rw [he] at h; simp at h] at hdf
    rw [hdf]
    apply zd []
    repeat' (first
     | apply And.intro
     | (intro h; first | (exfalso; omega) | (exfalso; exact h rfl) | (exfalso; revert h; decide) | skip)
     | exact ⟨Tryz.call15⟩
     | (refine Exists.intro _ ⟨qw (hen) rfl, ?_⟩)
     | exact rfl
     | exact trivial
     | exact fun _ => rfl
     | exact zb _
     | apply qz []
     | exact DrOk.mk (by kernel_rfl)
     | exact qn fun _ => rfl
     | omega
     | (simp only [List.length_map, List.length_append, List.length_cons, List.length_nil, List.length_take, List.length_drop]; omega)
     | exact zh
     | (refine Exists.intro _ ⟨rfl, ?_⟩)
     | refine zu ?_)
end Go.Proofs.YtefmcijohgpfhaaGreatDoor
set_option maxRecDepth 100000
set_option linter.unusedVariables false
namespace Go.Proofs.YtefmcijohgpfhaaGreatDoor
open Go Go.Av Go.RowKit Go.Proofs Go.Pl
theorem qfl {α : Type} [DecidableEq α] {a b : List α} {k : Nat} {d : α} (hl : a.length = b.length) (hk : k < a.length) (h : a.take k = b.take k) (h2 : a.getD k d = b.getD k d) : a.take (k + 1) = b.take (k + 1) := by
 rw [List.take_succ_eq_append_getElem hk, List.take_succ_eq_append_getElem (by omega), h]
 congr 2
 simpa [List.getD, hk, show k < b.length by omega] using h2
end Go.Proofs.YtefmcijohgpfhaaGreatDoor
set_option maxRecDepth 100000
set_option linter.unusedVariables false
namespace Go.Pl
open Go Go.Proofs Go.Proofs.YtefmcijohgpfhaaGreatDoor
theorem qae (s : qa) (r : List qa) : jp (s :: r) = s ++ 10 :: jp r := by simp [jp]
theorem qcw : ∀ (ls : List qa), (∀ s ∈ ls, 10 ∉ s) → jm (jp ls) = ls.map fun s => (s, true)
 | [], _ => by simp [jp, x7]
 | s :: r, h => by
  have hs := h s (by simp)
  rw [qae, x4 (by simp), ym _ hs, y4 _ hs, qcw r fun x hx => h x (by simp [hx])]
  simp
theorem quk {f : Fld} (h : wj f) : ∀ s ∈ vt f, 10 ∉ s := fun s hs => by
 unfold vt at hs
 rcases List.mem_cons.1 hs with rfl | hs
 ·have h1 := qeg f.2 _ (qml f.2)
  have h2 := h.1.2.2.2.2.2
  unfold xf
  split <;> simp_all
 ·obtain ⟨x, hx, rfl⟩ := List.mem_map.1 hs
  have h1 := qeg f.2 x (List.mem_of_mem_tail hx)
  have := qn3 h1
  simp [this]
theorem qke {f : Fld} (h : wj f) : ∃ hd mr, vt f = hd :: mr ∧ q9 hd = 4 ∧ ∀ s ∈ mr, q9 s = 3 := by
 refine ⟨_, _, rfl, qqf h.1 (qeg f.2 _ (qml f.2)), fun s hs => ?_⟩
 obtain ⟨x, hx, rfl⟩ := List.mem_map.1 hs
 exact qp0 x (qeg f.2 x (List.mem_of_mem_tail hx))
theorem qyj {p : PSt} {k : Int} {t : qa} (ht : q9 t = 3) (hl : p.lines ≠ []) : x8 p k t true = (none, { p with lines := p.lines ++ [t], block := p.block ++ [t] }) := by
 have ha : vu p k t true (q9 t) = (none, { p with lines := p.lines ++ [t] }) := by
  unfold vu
  rw [if_pos ht, if_neg hl, if_pos rfl]
 unfold x8
 rw [ha, ht]
 simp
theorem qqd {p q : PSt} {k : Int} {t : qa} (ht : q9 t = 4) (hf : v8 p = (none, q)) : x8 p k t true = (none, { wp q k t with block := q.block ++ [t] }) := by
 have ha : vu p k t true (q9 t) = (none, q) := by
  unfold vu
  rw [if_neg (by omega), if_neg (by omega)]
  exact hf
 unfold x8
 rw [ha, ht]
 simp
theorem qmt : ∀ (m : List qa) (k : Nat) (p : PSt) (ls : List (qa × Bool)), (∀ s ∈ m, q9 s = 3) → p.lines ≠ [] →
  runL k (m.map (fun s => (s, true)) ++ ls) p = runL (k + m.length) ls { p with lines := p.lines ++ m, block := p.block ++ m }
 | [], k, p, ls, _, _ => by simp
 | s :: m, k, p, ls, h, hl => by
  have hs := h s (by simp)
  rw [List.map_cons, List.cons_append, runL, qyj hs hl]
  simp only
  rw [qmt m (k + 1) _ ls (fun x hx => h x (by simp [hx])) (by simp)]
  simp only [List.append_assoc, List.cons_append, List.nil_append, List.length_cons]
  congr 1
  omega
theorem qns {g : Fld} (hg : wj g) (frm : Int) (its : List w9) (blk : List qa) (done : List Fld) (rc : Int) : v8 ⟨vt g, frm, false, its, blk, done, rc⟩ = (none, ⟨[], frm, false, its, blk, done ++ [g], rc⟩) := by
 have hu := qqt hg
 unfold v8
 rw [if_neg (by simp [vt]), hu]
 simp
theorem qs3 : ∀ (r : List Fld) (done : List Fld) (g : Fld) (k : Nat) (frm : Int) (blk : List qa), wj g → (∀ f ∈ r, wj f) → done.length + 1 + r.length ≤ 40 → blk ≠ [] →
  (runL k ((r.flatMap vt).map fun s => (s, true)) ⟨vt g, frm, false, [], blk, done, 0⟩).1 = none ∧ (runL k ((r.flatMap vt).map fun s => (s, true)) ⟨vt g, frm, false, [], blk, done, 0⟩).2.items = [⟨3, jp (blk ++ r.flatMap vt), done ++ g :: r⟩]
 | [], done, g, k, frm, blk, hg, _, _, hb => by
  have he : endP ⟨vt g, frm, false, [], blk, done, 0⟩ = (none, qaa ⟨[], frm, false, [], blk, done ++ [g], 0⟩) := by
   unfold endP
   rw [qns hg]
  simp only [List.flatMap_nil, List.map_nil, runL, he, List.append_nil]
  refine ⟨trivial, ?_⟩
  unfold qaa
  rw [if_neg hb]
  simp
 | f :: r, done, g, k, frm, blk, hg, hr, hl, hb => by
  have hf := hr f (by simp)
  obtain ⟨hd, mr, hlf, hk4, hk3⟩ := qke hf
  simp only [List.length_cons] at hl
  have hrun : runL k (((f :: r).flatMap vt).map fun s => (s, true)) ⟨vt g, frm, false, [], blk, done, 0⟩ = runL (k + 1 + mr.length) ((r.flatMap vt).map fun s => (s, true)) ⟨vt f, k, false, [], blk ++ vt f, done ++ [g], 0⟩ := by
   rw [List.flatMap_cons, List.map_append, hlf, List.map_cons, List.cons_append, runL, qqd hk4 (qns hg frm [] blk done 0)]
   simp only
   rw [qmt mr (k + 1) _ _ hk3 (by simp [wp])]
   have hfu : decide ((done ++ [g]).length = 40 ∨ ((done ++ [g]).length = 0 ∧ (0 : Int) = 400)) = false := by
    simp
    omega
   simp only [wp, hfu, List.append_assoc, List.cons_append, List.nil_append]
  rw [hrun]
  have ih := qs3 r (done ++ [g]) f (k + 1 + mr.length) k (blk ++ vt f) hf (fun x hx => hr x (by simp [hx])) (by simp; omega) (by simp [hb])
  rw [ih.1, ih.2]
  simp [List.flatMap_cons]
theorem qfz (fs : List Fld) : xq fs = jp (fs.flatMap vt) := by
 induction fs with
 | nil => rfl
 | cons f r ih =>
  rw [List.flatMap_cons, qdx, ← ih]
  simp [xq]
theorem qgw {fs : List Fld} (h : ∀ f ∈ fs, wj f) : ∀ s ∈ fs.flatMap vt, 10 ∉ s := fun s hs => by
 obtain ⟨f, hf, hs⟩ := List.mem_flatMap.1 hs
 exact quk (h f hf) s hs
theorem qxo {fs : List Fld} (hg : GF fs) (hne : fs ≠ []) : v7 (xq fs) = (none, [⟨3, xq fs, fs⟩]) := by
 have hl := qcw _ (qgw hg.2)
 rw [← qfz] at hl
 cases fs with
 | nil => exact absurd rfl hne
 | cons f r =>
  have hf := hg.2 f (by simp)
  obtain ⟨hd, mr, hlf, hk4, hk3⟩ := qke hf
  have hlen := hg.1
  simp only [List.length_cons] at hlen
  have hrun : runL 0 (((f :: r).flatMap vt).map fun s => (s, true)) p0 = runL (0 + 1 + mr.length) ((r.flatMap vt).map fun s => (s, true)) ⟨vt f, (0 : Nat), false, [], vt f, [], 0⟩ := by
   have hfl : v8 p0 = (none, p0) := rfl
   rw [List.flatMap_cons, List.map_append, hlf, List.map_cons, List.cons_append, runL, qqd hk4 hfl]
   simp only
   rw [qmt mr (0 + 1) _ _ hk3 (by simp [wp])]
   simp [wp, p0]
  have ih := qs3 r [] f (0 + 1 + mr.length) (0 : Nat) (vt f) hf (fun x hx => hg.2 x (by simp [hx])) (by simp; omega) (by simp [vt])
  unfold v7
  rw [hl, hrun, ih.1]
  simp only
  rw [ih.2]
  rw [qfz, List.flatMap_cons, List.nil_append]
theorem q0o : v7 [] = (none, []) := by
 unfold v7
 rw [x7]
 rfl
theorem ql3 {ls : List qa} (h : ∀ s ∈ ls, 10 ∉ s) : qav [32, 32] (jp ls) = jp (ls.map fun s => [32, 32] ++ s) := by
 unfold qav indF
 rw [qcw ls h]
 simp only [jp, List.flatMap_map, y6, if_pos]
theorem qsz {ls : List qa} (h : ∀ s ∈ ls, 10 ∉ s) : ∀ s ∈ ls.map (fun s => [32, 32] ++ s), 10 ∉ s := fun s hs => by
 obtain ⟨x, hx, rfl⟩ := List.mem_map.1 hs
 have := h x hx
 simp [this]
theorem qqu {ls : List qa} (h : ∀ s ∈ ls, 10 ∉ s) : wz [32, 32] (qav [32, 32] (jp ls)) = (jp ls, true) := by
 rw [ql3 h]
 unfold wz
 rw [qcw _ (qsz h), if_pos]
 ·simp [jp, List.flatMap_map, y6]
 ·intro x hx
  obtain ⟨s, hs, rfl⟩ := List.mem_map.1 hx
  obtain ⟨y, _, rfl⟩ := List.mem_map.1 hs
  exact List.prefix_append _ _
theorem qqr {fs : List Fld} (hl : fs.length ≤ 40) (hg : ∀ f ∈ fs, wj f) : qct (qav [32, 32] (xq fs)) = (fs, true) := by
 have hd : wz [32, 32] (qav [32, 32] (xq fs)) = (xq fs, true) := by
  rw [qfz]
  exact qqu (qgw hg)
 unfold qct
 rw [hd]
 simp only
 by_cases h0 : fs = []
 ·subst h0
  have hp : v7 (xq []) = (none, []) := q0o
  rw [hp]
  simp [recsF, xq]
 ·rw [qxo ⟨hl, hg⟩ h0]
  simp [recsF]
theorem qwb {j k : Int} {s : qa} (hj : j = 1 ∨ j = 2 ∨ j = 3) (hk : k = 1 ∨ k = 2 ∨ k = 3) (hne : j ≠ k) : ¬ qbd j <+: qbd k ++ s := by
 rintro ⟨t, ht⟩
 have h2 := congrArg (List.take 2) ht
 rcases hj with rfl | rfl | rfl <;> rcases hk with rfl | rfl | rfl <;> first | exact absurd rfl hne | (revert h2; simp [qbd])
theorem qz1 {x : z1} (hk : x.kind = 1 ∨ x.kind = 2 ∨ x.kind = 3) (h1 : -9223372036854775808 ≤ x.id) (h2 : x.id ≤ 9223372036854775807) : begE (xi x) = some (x.kind, x.id) := by
 have hl : xi x = qbd x.kind ++ Lib.itoa x.id := by
  unfold xi
  rw [if_pos (by omega)]
 have hself : tryB x.kind (xi x) = some x.id := by
  unfold tryB
  rw [hl, if_pos (List.prefix_append _ _), List.drop_left, qir h1 h2]
 have hoth : ∀ j : Int, (j = 1 ∨ j = 2 ∨ j = 3) → j ≠ x.kind → tryB j (xi x) = none := fun j hj hne => by
  unfold tryB
  rw [hl, if_neg (qwb hj hk hne)]
 unfold begE
 rcases hk with h | h | h
 ·rw [h] at hself hoth ⊢
  rw [hself]
 ·rw [h] at hself hoth ⊢
  rw [hoth 1 (by simp) (by decide), hself]
 ·rw [h] at hself hoth ⊢
  rw [hoth 1 (by simp) (by decide), hoth 2 (by simp) (by decide), hself]
def qb8 (x : z1) : List qa := (x.fields.flatMap vt).map fun s => [32, 32] ++ s
theorem qlk (v : Int) : ∀ c ∈ Lib.itoa v, c ≠ 10 ∧ c ≠ 32 := fun c hc => by
 by_cases hv : v < 0
 ·rw [qgv hv] at hc
  rcases List.mem_cons.1 hc with rfl | hc
  ·decide
  ·have := yo _ _ (Nat.le_refl _) c hc
   constructor <;> rintro rfl <;> simp at this
 ·rw [qgl (by omega)] at hc
  have := yo _ _ (Nat.le_refl _) c hc
  constructor <;> rintro rfl <;> simp at this
theorem qcx (x : z1) : 10 ∉ xi x := by
 unfold xi
 split
 ·rename_i hk
  have h1 := qlk x.id
  intro hc
  rcases List.mem_append.1 hc with hc | hc
  ·have : x.kind = 1 ∨ x.kind = 2 ∨ x.kind = 3 := by omega
   rcases this with h | h | h <;> rw [h] at hc <;> revert hc <;> decide
  ·exact (h1 10 hc).1 rfl
 ·simp
theorem qu5 {x : z1} (hk : x.kind = 1 ∨ x.kind = 2 ∨ x.kind = 3) : ¬ [32, 32] <+: xi x := by
 unfold xi
 rw [if_pos (by omega)]
 rintro ⟨t, ht⟩
 have h2 := congrArg (List.take 2) ht
 rcases hk with h | h | h <;> rw [h] at h2 <;> revert h2 <;> simp [qbd]
theorem qe8 {x : z1} (hg : ∀ f ∈ x.fields, wj f) : wa x = jp (xi x :: qb8 x) := by
 unfold wa qb8
 rw [qae, qfz, ql3 (qgw hg)]
 simp
theorem qy3 {x : z1} (hg : ∀ f ∈ x.fields, wj f) : ∀ s ∈ qb8 x, 10 ∉ s := qsz (qgw hg)
theorem qei (text : qa) : ∀ (m : List qa) (k a f : Nat) (R : qa), (∀ s ∈ m, 10 ∉ s ∧ [32, 32] <+: s) → ∃ k', yx text (xb k a (jp m ++ R)) f = yx text (xb k' (a + (jp m).length) R) f
 | [], k, a, f, R, _ => ⟨k, by simp [jp]⟩
 | s :: m, k, a, f, R, h => by
  obtain ⟨h10, hp⟩ := h s (by simp)
  have e : jp (s :: m) ++ R = s ++ 10 :: (jp m ++ R) := by rw [qae]; simp
  obtain ⟨k', ih⟩ := qei text m (k + 1) (a + s.length + 1) f R fun x hx => h x (by simp [hx])
  refine ⟨k', ?_⟩
  rw [e, qa0 (by simp), ym _ h10, y4 _ h10, yx, if_neg (fun h => h.2 hp), ih, qae]
  congr 2
  simp
  omega
theorem qj1 {x : z1} (hg : ∀ f ∈ x.fields, wj f) : ∀ s ∈ qb8 x, 10 ∉ s ∧ [32, 32] <+: s := fun s hs => ⟨qy3 hg s hs, by
 obtain ⟨y, _, rfl⟩ := List.mem_map.1 hs
 exact List.prefix_append _ _⟩
structure EncG (x : z1) : Prop where
 kind : x.kind = 1 ∨ x.kind = 2 ∨ x.kind = 3
 len : x.fields.length ≤ 40
 good : ∀ f ∈ x.fields, wj f
 id1 : -9223372036854775808 ≤ x.id
 id2 : x.id ≤ 9223372036854775807
theorem qnq : ∀ (r : List z1) (D : qa) (x : z1) (k : Nat), EncG x → (∀ y ∈ r, EncG y) →
  yx (D ++ (wa x ++ encF r)) (xb k (D.length + ((xi x).length + 1)) (jp (qb8 x) ++ encF r)) D.length = wa x :: r.map wa
 | [], D, x, k, hx, _ => by
  obtain ⟨k', h⟩ := qei (D ++ (wa x ++ encF [])) (qb8 x) k (D.length + ((xi x).length + 1)) D.length (encF []) (qj1 hx.good)
  rw [h]
  have e : encF [] = [] := rfl
  rw [e, qas, yx]
  simp
 | y :: r, D, x, k, hx, hr => by
  have hy := hr y (by simp)
  obtain ⟨k', h⟩ := qei (D ++ (wa x ++ encF (y :: r))) (qb8 x) k (D.length + ((xi x).length + 1)) D.length (encF (y :: r)) (qj1 hx.good)
  rw [h]
  have e : encF (y :: r) = xi y ++ 10 :: (jp (qb8 y) ++ encF r) := by
   have : encF (y :: r) = wa y ++ encF r := by simp [encF]
   rw [this, qe8 hy.good, qae]
   simp
  have hlx : (wa x).length = (xi x).length + 1 + (jp (qb8 x)).length := by
   rw [qe8 hx.good, qae]
   simp
   omega
  have e2 : encF (y :: r) = wa y ++ encF r := by simp [encF]
  have hpos : D.length + ((xi x).length + 1) + (jp (qb8 x)).length = (D ++ wa x).length := by
   rw [List.length_append, hlx]
   omega
  rw [hpos]
  have hc : xb k' (D ++ wa x).length (encF (y :: r)) = ⟨k', (D ++ wa x).length, xi y, true⟩ :: xb (k' + 1) ((D ++ wa x).length + (xi y).length + 1) (jp (qb8 y) ++ encF r) := by
   rw [e, qa0 (by simp), ym _ (qcx y), y4 _ (qcx y)]
   simp
  have hlt : D.length < (D ++ wa x).length := by rw [List.length_append, hlx]; omega
  rw [hc, yx, if_pos ⟨hlt, qu5 hy.kind⟩]
  have ih := qnq r (D ++ wa x) y (k' + 1) hy fun z hz => hr z (by simp [hz])
  have et : D ++ (wa x ++ encF (y :: r)) = (D ++ wa x) ++ (wa y ++ encF r) := by rw [e2]; simp
  rw [et]
  have ed : ((D ++ wa x ++ (wa y ++ encF r)).take (D ++ wa x).length).drop D.length = wa x := by
   rw [List.take_left, List.drop_left]
  rw [ed, List.map_cons]
  simp only
  rw [show (D ++ wa x).length + (xi y).length + 1 = (D ++ wa x).length + ((xi y).length + 1) by omega, ih]
theorem qyt {x : z1} {r : List z1} (hx : EncG x) (hr : ∀ y ∈ r, EncG y) : qdi (encF (x :: r)) = (x :: r).map wa := by
 have e2 : encF (x :: r) = wa x ++ encF r := by simp [encF]
 have e : encF (x :: r) = xi x ++ 10 :: (jp (qb8 x) ++ encF r) := by
  rw [e2, qe8 hx.good, qae]
  simp
 have h := qnq r [] x 1 hx hr
 simp only [List.nil_append, List.length_nil, Nat.zero_add] at h
 have hc : lns (encF (x :: r)) = ⟨0, 0, xi x, true⟩ :: xb 1 ((xi x).length + 1) (jp (qb8 x) ++ encF r) := by
  unfold lns
  rw [e, qa0 (by simp), ym _ (qcx x), y4 _ (qcx x)]
  simp
 unfold qdi
 rw [hc, yx, if_neg (by simp), e2, h]
 rfl
theorem qtg : ∀ (r acc : List z1), (∀ y ∈ r, EncG y) → acc.length + r.length ≤ 40 → decP (r.map wa) acc = some (acc ++ r)
 | [], acc, _, _ => by simp [decP]
 | x :: r, acc, h, hl => by
  have hx := h x (by simp)
  simp only [List.length_cons] at hl
  have hu : upto 10 (wa x) = xi x := by
   unfold wa
   rw [List.append_assoc]
   exact ym _ (qcx x)
  have hp : past 10 (wa x) = qav [32, 32] (xq x.fields) := by
   unfold wa
   rw [List.append_assoc]
   exact y4 _ (qcx x)
  have hfl := qqr hx.len hx.good
  rw [List.map_cons, decP, hu, qz1 hx.kind hx.id1 hx.id2]
  simp only [hp, hfl]
  rw [if_pos ⟨trivial, by omega⟩]
  have ih := qtg r (acc ++ [⟨x.kind, x.id, x.fields⟩]) (fun y hy => h y (by simp [hy])) (by simp; omega)
  rw [ih]
  simp
theorem qvo {x : z1} (h : gErr x = .no) (hB : EdB x) : EncG x := by
 obtain ⟨h1, h2⟩ := qpo h
 refine ⟨?_, h1, h2, hB.id1, hB.id2⟩
 unfold gErr at h
 split at h
 ·exact .inr (.inl (by assumption))
 ·split at h
  ·rename_i hk; omega
  ·simp at h
theorem q39 {b : List z1} (he : eErr b = .no) (hB : ∀ x ∈ b, EdB x) (hl : (encF b).length ≤ 50000) : decF (encF b) = some b := by
 obtain ⟨h1, h40, hg⟩ := qo7 he
 have hG : ∀ y ∈ b, EncG y := fun y hy => qvo (hg y hy) (hB y hy)
 unfold decF
 rw [if_neg (by omega)]
 cases b with
 | nil => simp at h1
 | cons x r =>
  rw [qyt (hG x (by simp)) (fun y hy => hG y (by simp [hy])), qtg (x :: r) [] hG (by simp at h40 ⊢; omega)]
  simp only [List.nil_append]
  rw [if_pos ⟨he, trivial⟩]
end Go.Pl
set_option maxRecDepth 100000
set_option linter.unusedVariables false
namespace Go.Pl
open Go Go.Proofs Go.Proofs.YtefmcijohgpfhaaGreatDoor
def SpL (L : List qa) : Prop := L ≠ [] ∧ ∀ s ∈ L, 10 ∉ s ∧ [32] <+: s
def encL (b : List z1) : List qa := b.flatMap fun x => xi x :: qb8 x
theorem q0n {b : List z1} (hg : ∀ x ∈ b, EncG x) : encF b = jp (encL b) := by
 induction b with
 | nil => rfl
 | cons x r ih =>
  have e : encL (x :: r) = (xi x :: qb8 x) ++ encL r := by simp [encL]
  have e2 : encF (x :: r) = wa x ++ encF r := by simp [encF]
  rw [e, qdx, e2, qe8 (hg x (by simp)).good, ih fun y hy => hg y (by simp [hy])]
theorem q4a {x : z1} (hk : x.kind = 1 ∨ x.kind = 2 ∨ x.kind = 3) : [32] <+: xi x := by
 unfold xi
 rw [if_pos (by omega)]
 rcases hk with h | h | h <;> rw [h] <;> exact ⟨_, rfl⟩
theorem q3x {b : List z1} (hne : b ≠ []) (hg : ∀ x ∈ b, EncG x) : SpL (encL b) := by
 refine ⟨?_, fun s hs => ?_⟩
 ·cases b with
  | nil => exact absurd rfl hne
  | cons x r => simp [encL]
 ·obtain ⟨x, hx, hs⟩ := List.mem_flatMap.1 hs
  have hG := hg x hx
  rcases List.mem_cons.1 hs with rfl | hs
  ·exact ⟨qcx x, q4a hG.kind⟩
  ·obtain ⟨h1, t, ht⟩ := qj1 hG.good s hs
   exact ⟨h1, [32] ++ t, by rw [← ht]; rfl⟩
theorem q3s {L : List qa} (h : SpL L) : sp true (jp L) = true := by
 rw [← qit _ (jp L) (Nat.le_refl _), qcw L fun s hs => (h.2 s hs).1]
 intro x hx
 obtain ⟨s, hs, rfl⟩ := List.mem_map.1 hx
 exact (h.2 s hs).2
theorem qz2 {L : List qa} (h : SpL L) : (jp L)[0]? = some 32 := by
 obtain ⟨hne, hs⟩ := h
 cases L with
 | nil => exact absurd rfl hne
 | cons s r =>
  obtain ⟨t, ht⟩ := (hs s (by simp)).2
  rw [qae, ← ht]
  rfl
theorem qpu : ∀ (L : List qa), L ≠ [] → (jp L).getLast? = some 10
 | [], h => absurd rfl h
 | [s], _ => by rw [qae]; simp [jp]
 | s :: t :: r, _ => by
  have ih := qpu (t :: r) (by simp)
  have hne : jp (t :: r) ≠ [] := fun e => by rw [e] at ih; simp at ih
  rw [qae, List.getLast?_append, List.getLast?_cons, ih]
  simp
theorem qzq {b : List z1} (he : eErr b = .no) (hB : ∀ x ∈ b, EdB x) (hl : (encF b).length ≤ 50000) : qbk (encF b) := by
 obtain ⟨h1, h40, hg⟩ := qo7 he
 have hG : ∀ y ∈ b, EncG y := fun y hy => qvo (hg y hy) (hB y hy)
 have hne : b ≠ [] := fun e => by subst e; simp at h1
 have hS := q3x hne hG
 have ht := q0n hG
 have hh := qz2 hS
 have hlast := qpu _ hS.1
 rw [← ht] at hh hlast
 have hsp := q3s hS
 rw [← ht] at hsp
 refine ⟨?_, hl, hlast, by rw [qg7]; exact hsp⟩
 rcases hc : encF b with _ | ⟨c, _ | ⟨d, r⟩⟩
 ·rw [hc] at hh; simp at hh
 ·rw [hc] at hh hlast
  simp at hh hlast
  rw [hh] at hlast
  simp at hlast
 ·simp
end Go.Pl
set_option maxRecDepth 100000
set_option linter.unusedVariables false
namespace Go.Proofs.YtefmcijohgpfhaaGreatDoor
open Go Go.Av Go.RowKit Go.Proofs Go.Pl
theorem qif {l : qa} {i : Nat} {c : UInt8} (h : l[i]? = some c) : l.getD i 0 = c := by simp [List.getD, h]
end Go.Proofs.YtefmcijohgpfhaaGreatDoor
set_option maxRecDepth 100000
set_option linter.unusedVariables false
namespace Go.Pl
open Go Go.Proofs Go.Proofs.YtefmcijohgpfhaaGreatDoor
def OutG (out : List z1) (m : Nat) : Prop := ∀ x ∈ out, (∀ f ∈ x.fields, wj f) ∧ x.fields.length ≤ m ∧ -9223372036854775808 ≤ x.id ∧ x.id ≤ 9223372036854775807
theorem OutG.mono {out : List z1} {m m' : Nat} (h : OutG out m) (hm : m ≤ m') : OutG out m' := fun x hx => ⟨(h x hx).1, by have := (h x hx).2.1; omega, (h x hx).2.2⟩
end Go.Pl
set_option maxRecDepth 100000
set_option linter.unusedVariables false
namespace Go.Pl
open Go Go.Proofs
def xj : List (qa × Bool) → List qa
 | [] => []
 | (t, _) :: r => if q9 t = 3 then t :: xj r else []
def yb (prev : Bool) (t : qa) (e : Bool) (r : List (qa × Bool)) (fields : Nat) (records : Int) : Int :=
 if q9 t = 5 ∨ (q9 t = 3 ∧ prev = false) ∨ e = false then 2
 else if q9 t ≠ 4 then 0
 else if (j8 (t :: xj r)).2 ≠ 0 then (j8 (t :: xj r)).2
 else if 40 ≤ fields ∨ (fields = 0 ∧ 400 ≤ records) then 11 else 0
theorem quy {α : Type} {l : List α} {x : α} (h : l.getLast? = some x) : l.dropLast ++ [x] = l := by
 have hne : l ≠ [] := fun e => by subst e; simp at h
 rw [List.getLast?_eq_some_getLast hne] at h
 obtain rfl := Option.some.inj h
 exact List.dropLast_concat_getLast hne
def outR (now : w9) (out : List w9) : List w9 := if now.raw = [] then out else out ++ [now]
def refL : Nat → List (qa × Bool) → Bool → w9 → Int → List w9 → Option (Int × Int) × List w9
 | _, [], _, now, _, out => (none, outR now out)
 | i, (t, e) :: r, prev, now, rec, out =>
  if yb prev t e r now.fields.length rec ≠ 0 then (some ((i : Int), yb prev t e r now.fields.length rec), [])
  else if q9 t = 1 then refL (i + 1) r false ⟨2, [], []⟩ rec (outR now out ++ [⟨1, t ++ [10], []⟩])
  else if q9 t = 4 then refL (i + 1) r true ⟨3, now.raw ++ t ++ [10], now.fields ++ [(j8 (t :: xj r)).1]⟩ (if now.kind = 2 then rec + 1 else rec) out
  else refL (i + 1) r (decide (q9 t = 3)) ⟨now.kind, now.raw ++ t ++ [10], now.fields⟩ rec out
def qq6 : List (qa × Bool) → Prop
 | [] => True
 | (_, e) :: r => (e = false → r = []) ∧ qq6 r
theorem ql0 : ∀ (n : Nat) (l : qa), l.length ≤ n → qq6 (jm l)
 | 0, l, h => by
  have : l = [] := List.length_eq_zero_iff.1 (by omega)
  subst this
  rw [x7]
  trivial
 | n + 1, l, h => by
  by_cases hl : l = []
  ·subst hl
   rw [x7]
   trivial
  ·rw [x4 hl]
   refine ⟨fun he => ?_, ql0 n _ (by have := ye (c := 10) hl; omega)⟩
   have h10 : 10 ∉ l := by simpa using he
   have : past 10 l = [] := by
    unfold past
    rw [qca h10]
    exact List.drop_eq_nil_of_le (by omega)
   rw [this, x7]
def qdg (ls : List qa) (full : Bool) : Int := if (j8 ls).2 ≠ 0 then (j8 ls).2 else if full = true then 11 else 0
theorem qf2 {p : PSt} (h : p.lines ≠ []) (hc : qdg p.lines p.full ≠ 0) : (v8 p).1 = some (p.frm, qdg p.lines p.full) := by
 unfold qdg at *
 unfold v8
 rw [if_neg h]
 by_cases h1 : (j8 p.lines).2 ≠ 0
 ·rw [if_pos h1, if_pos h1]
 ·rw [if_neg h1] at hc ⊢
  rw [if_neg h1]
  by_cases h2 : p.full = true
  ·rw [if_pos h2, if_pos h2]
  ·rw [if_neg h2] at hc
   exact absurd rfl hc
theorem qp1 {p : PSt} (h : p.lines = [] ∨ qdg p.lines p.full = 0) : v8 p = (none, { p with lines := [], fields := p.fields ++ (if p.lines = [] then [] else [(j8 p.lines).1]) }) := by
 unfold v8
 by_cases h0 : p.lines = []
 ·rw [if_pos h0, if_pos h0]
  obtain ⟨a, b, c, d, e, f, g⟩ := p
  simp only at h0
  subst h0
  simp
 ·rw [if_neg h0, if_neg h0]
  have h := h.resolve_left h0
  unfold qdg at h
  by_cases h1 : (j8 p.lines).2 ≠ 0
  ·rw [if_pos h1] at h
   exact absurd h h1
  ·rw [if_neg h1] at h ⊢
   by_cases h2 : p.full = true
   ·rw [if_pos h2] at h
    simp at h
   ·rw [if_neg h2]
theorem ql7 {p : PSt} {no : Int} {t : qa} {e : Bool} {x : Int × Int} (h : (vu p no t e (q9 t)).1 = some x) : (x8 p no t e).1 = some x := by
 unfold x8
 rw [h]
theorem qmw {p q : PSt} {no : Int} {t : qa} {e : Bool} (h : vu p no t e (q9 t) = (none, q)) (hc : q9 t = 5 ∨ e = false) : (x8 p no t e).1 = some (no, 2) := by
 unfold x8
 rw [h]
 simp only
 rw [if_pos hc]
theorem qh9 {p q : PSt} {no : Int} {t : qa} (h : vu p no t true (q9 t) = (none, q)) (hc : q9 t ≠ 5) : x8 p no t true =
  if q9 t = 1 then (none, { q with items := q.items ++ [⟨1, t ++ [10], []⟩] }) else if q9 t = 4 then (none, { wp q no t with block := q.block ++ [t] }) else (none, { q with block := q.block ++ [t] }) := by
 unfold x8
 rw [h]
 simp only
 rw [if_neg (by simp [hc])]
theorem qd9 {k : Nat} {t : qa} {e : Bool} {r : List (qa × Bool)} {p : PSt} {x : Int × Int} (h : (x8 p k t e).1 = some x) : (runL k ((t, e) :: r) p).1 = some x := by
 rw [runL, h]
theorem qfk {k : Nat} {t : qa} {e : Bool} {r : List (qa × Bool)} {p q : PSt} (h : x8 p k t e = (none, q)) : runL k ((t, e) :: r) p = runL (k + 1) r q := by
 rw [runL, h]
theorem qnd {p : PSt} {no : Int} {t : qa} (hk : q9 t = 3) (hl : p.lines ≠ []) : vu p no t true (q9 t) = (none, { p with lines := p.lines ++ [t] }) := by
 unfold vu
 rw [if_pos hk, if_neg hl, if_pos rfl]
theorem qn6 {p : PSt} {no : Int} {t : qa} (hk : q9 t = 3) (hl : p.lines ≠ []) : vu p no t false (q9 t) = v8 { p with lines := p.lines ++ [t] } := by
 unfold vu
 rw [if_pos hk, if_neg hl, if_neg (by simp)]
theorem qe9 {p : PSt} {no : Int} {t : qa} {e : Bool} (hk : q9 t ≠ 3) (h1 : q9 t ≠ 1) : vu p no t e (q9 t) = v8 p := by
 unfold vu
 rw [if_neg hk, if_neg h1]
theorem qhv {p : PSt} {no : Int} {t : qa} {e : Bool} (h1 : q9 t = 1) : vu p no t e (q9 t) = endP p := by
 unfold vu
 rw [if_neg (by omega), if_pos h1]
theorem qij {t : qa} {e : Bool} {r : List (qa × Bool)} (h : q9 t ≠ 3) : xj ((t, e) :: r) = [] := by
 rw [xj, if_neg h]
theorem qfb {t : qa} {e : Bool} {r : List (qa × Bool)} (h : q9 t = 3) : xj ((t, e) :: r) = t :: xj r := by
 rw [xj, if_pos h]
theorem qr5 {p : PSt} {x : Int × Int} (h : (v8 p).1 = some x) : (endP p).1 = some x := by
 unfold endP
 rw [h]
theorem qo3 {p q : PSt} (h : v8 p = (none, q)) : endP p = (none, qaa q) := by
 unfold endP
 rw [h]
theorem qs2 : ∀ (r : List (qa × Bool)) (p : PSt) (k : Nat) (c : Int), qq6 r → p.lines ≠ [] → qdg (p.lines ++ xj r) p.full = c → c ≠ 0 → (runL k r p).1 = some (p.frm, c)
 | [], p, k, c, _, hl, hc, h0 => by
  rw [xj, List.append_nil] at hc
  rw [runL]
  subst hc
  exact qr5 (qf2 hl h0)
 | (t, e) :: r, p, k, c, hE, hl, hc, h0 => by
  by_cases h3 : q9 t = 3
  ·rw [qfb h3] at hc
   cases e with
   | true =>
    have ht := qh9 (qnd (no := k) h3 hl) (by omega)
    rw [if_neg (by omega), if_neg (by omega)] at ht
    rw [qfk ht]
    exact qs2 r _ (k + 1) c hE.2 (by simp) (by simpa using hc) h0
   | false =>
    have hr := hE.1 rfl
    subst hr
    refine qd9 (ql7 ?_)
    rw [qn6 h3 hl]
    have hc' : qdg (p.lines ++ [t]) p.full = c := hc
    have := qf2 (p := { p with lines := p.lines ++ [t] }) (by simp) (by simp only; rw [hc']; exact h0)
    simp only at this
    rw [this, hc']
  ·rw [qij h3, List.append_nil] at hc
   subst hc
   refine qd9 (ql7 ?_)
   by_cases h1 : q9 t = 1
   ·rw [qhv h1]
    exact qr5 (qf2 hl h0)
   ·rw [qe9 h3 h1]
    exact qf2 hl h0
structure Sim (r : List (qa × Bool)) (p : PSt) (prev : Bool) (now : w9) (rec : Int) (out : List w9) : Prop where
 hprev : prev = decide (p.lines ≠ [])
 hok : p.lines = [] ∨ qdg (p.lines ++ xj r) p.full = 0
 hraw : now.raw = jp p.block
 hfields : now.fields = p.fields ++ (if p.lines = [] then [] else [(j8 (p.lines ++ xj r)).1])
 hkind : now.kind = if now.fields = [] then 2 else 3
 hrec : rec = p.records + if now.fields = [] then 0 else 1
 hout : out = p.items
 hempty : p.block = [] → p.lines = [] ∧ p.fields = []
 b1 : now.fields.length ≤ 40
 b2 : rec ≤ 400
theorem q0h (b : List qa) : jp b = [] ↔ b = [] := by
 cases b with
 | nil => simp [jp]
 | cons x r => simp [jp]
theorem qiw (b : List qa) (t : qa) : jp (b ++ [t]) = jp b ++ t ++ [10] := by simp [jp]
theorem Sim.flush {r : List (qa × Bool)} {p : PSt} {prev : Bool} {now : w9} {rec : Int} {out : List w9} (h : Sim r p prev now rec out) (hm : xj r = []) : v8 p = (none, { p with lines := [], fields := now.fields }) := by
 have h1 := h.hok
 have h2 := h.hfields
 rw [hm, List.append_nil] at h1 h2
 rw [qp1 h1, h2]
theorem Sim.close {r : List (qa × Bool)} {p : PSt} {prev : Bool} {now : w9} {rec : Int} {out : List w9} (h : Sim r p prev now rec out) (hm : xj r = []) : qaa { p with lines := [], fields := now.fields } = { p with lines := [], fields := [], block := [], items := outR now out, records := rec } := by
 have hk := h.hkind
 have hr := h.hrec
 have hw := h.hraw
 have ho := h.hout
 unfold qaa outR
 simp only
 by_cases hb : p.block = []
 ·obtain ⟨e1, e2⟩ := h.hempty hb
  have hf : now.fields = [] := by rw [h.hfields, e1, e2]; simp
  rw [if_pos hb, if_pos (by rw [hw, hb]; rfl), ho, hr, hf]
  simp
 ·have hne : ¬ now.raw = [] := by rw [hw, q0h]; exact hb
  rw [if_neg hb, if_neg hne, ho, hr, ← hw]
  obtain ⟨nk, nr, nf⟩ := now
  simp only at hk hne ⊢
  by_cases hf : nf = []
  ·rw [if_pos hf] at hk
   simp [hf, hk, hne]
  ·rw [if_neg hf] at hk
   simp [hf, hk, hne]
theorem qh8 : ∀ (r : List (qa × Bool)) (k : Nat) (p : PSt) (prev : Bool) (now : w9) (rec : Int) (out : List w9), qq6 r → Sim r p prev now rec out →
  refL k r prev now rec out = match (runL k r p).1 with
   | some e => (some e, [])
   | none => (none, (runL k r p).2.items)
 | [], k, p, prev, now, rec, out, _, h => by
  rw [runL, qo3 (h.flush rfl), h.close rfl, refL]
 | (t, e) :: r, k, p, prev, now, rec, out, hE, h => by
  rw [refL]
  by_cases h3 : q9 t = 3
  ·by_cases hl : p.lines = []
   ·have hp : prev = false := by rw [h.hprev]; simp [hl]
    have hw : yb prev t e r now.fields.length rec = 2 := by
     unfold yb
     rw [if_pos (.inr (.inl ⟨h3, hp⟩))]
    rw [hw, if_pos (by decide), qd9 (x := ((k : Int), 2)) (ql7 (by unfold vu; rw [if_pos h3, if_pos hl]))]
   ·cases e with
    | true =>
     have hp : prev = true := by rw [h.hprev]; simp [hl]
     have hw : yb prev t true r now.fields.length rec = 0 := by
      unfold yb
      rw [if_neg (by simp [hp]; omega), if_pos (by omega)]
     have ht := qh9 (qnd (no := k) h3 hl) (by omega)
     rw [if_neg (by omega), if_neg (by omega)] at ht
     rw [hw, if_neg (by simp), if_neg (by omega), if_neg (by omega), qfk ht]
     have hm := qfb (e := true) (r := r) h3
     have hok := h.hok.resolve_left hl
     have hfs := h.hfields
     rw [if_neg hl, hm] at hfs
     rw [hm] at hok
     refine qh8 r (k + 1) _ _ _ _ _ hE.2 ⟨by simp [h3], .inr (by simpa using hok), by rw [qiw, ← h.hraw], by simp [hfs], h.hkind, h.hrec, h.hout, by simp, h.b1, h.b2⟩
    | false =>
     have hr := hE.1 rfl
     subst hr
     have hw : yb prev t false [] now.fields.length rec = 2 := by
      unfold yb
      rw [if_pos (.inr (.inr rfl))]
     have hok := h.hok.resolve_left hl
     rw [qfb h3] at hok
     have hf := qp1 (p := { p with lines := p.lines ++ [t] }) (.inr hok)
     rw [hw, if_pos (by decide), qd9 (x := ((k : Int), 2)) (qmw ((qn6 h3 hl).trans hf) (.inr rfl))]
  ·have hm := qij (e := e) (r := r) h3
   have hf := h.flush hm
   have hc := h.close hm
   by_cases hbad : q9 t = 5 ∨ e = false
   ·have hw : yb prev t e r now.fields.length rec = 2 := by
     unfold yb
     rw [if_pos (by rcases hbad with h | h; exact .inl h; exact .inr (.inr h))]
    rw [hw, if_pos (by decide)]
    by_cases h1 : q9 t = 1
    ·rw [qd9 (x := ((k : Int), 2)) (qmw ((qhv h1).trans (qo3 hf)) hbad)]
    ·rw [qd9 (x := ((k : Int), 2)) (qmw ((qe9 h3 h1).trans hf) hbad)]
   ·have he : e = true := by
     cases e with
     | true => rfl
     | false => exact absurd (.inr rfl) hbad
    have h5 : q9 t ≠ 5 := fun h => hbad (.inl h)
    subst he
    by_cases h1 : q9 t = 1
    ·have hw : yb prev t true r now.fields.length rec = 0 := by
      unfold yb
      rw [if_neg (by simp [h3, h5]), if_pos (by omega)]
     have ht := qh9 ((qhv (no := k) h1).trans (qo3 hf)) h5
     rw [if_pos h1, hc] at ht
     rw [hw, if_neg (by simp), if_pos h1, qfk ht]
     exact qh8 r (k + 1) _ _ _ _ _ hE.2 ⟨by simp, .inl rfl, rfl, by simp, by simp, by simp, rfl, by simp, by simp, h.b2⟩
    ·by_cases h4 : q9 t = 4
     ·have ht := qh9 ((qe9 (no := k) h3 h1).trans hf) h5
      rw [if_neg h1, if_pos h4] at ht
      rw [qfk ht]
      have hb1 := h.b1
      have hb2 := h.b2
      have hrec := h.hrec
      have hfull : (40 ≤ now.fields.length ∨ (now.fields.length = 0 ∧ 400 ≤ rec)) ↔ (now.fields.length = 40 ∨ (now.fields.length = 0 ∧ p.records = 400)) := by
       by_cases hz : now.fields = []
       ·rw [if_pos hz] at hrec
        simp only [hz, List.length_nil]
        constructor
        ·rintro (h' | h')
         ·exact absurd h' (by decide)
         ·exact .inr ⟨trivial, by omega⟩
        ·rintro (h' | h')
         ·exact absurd h' (by decide)
         ·exact .inr ⟨trivial, by omega⟩
       ·have : now.fields.length ≠ 0 := fun h => hz (List.length_eq_zero_iff.1 h)
        constructor
        ·rintro (h' | h')
         ·exact .inl (by omega)
         ·exact absurd h'.1 this
        ·rintro (h' | h')
         ·exact .inl (by omega)
         ·exact absurd h'.1 this
      have hw : yb prev t true r now.fields.length rec = qdg (t :: xj r) (decide (now.fields.length = 40 ∨ (now.fields.length = 0 ∧ p.records = 400))) := by
       unfold yb qdg
       rw [if_neg (by simp [h3, h5]), if_neg (by omega)]
       by_cases hu : (j8 (t :: xj r)).2 ≠ 0
       ·rw [if_pos hu, if_pos hu]
       ·rw [if_neg hu, if_neg hu]
        by_cases hx : 40 ≤ now.fields.length ∨ (now.fields.length = 0 ∧ 400 ≤ rec)
        ·rw [if_pos hx, if_pos (decide_eq_true (hfull.1 hx))]
        ·rw [if_neg hx, if_neg (by simpa using fun h => hx (hfull.2 h))]
      by_cases hw0 : yb prev t true r now.fields.length rec = 0
      ·rw [if_neg (by simp [hw0]), if_neg h1, if_pos h4]
       have hx : ¬ (40 ≤ now.fields.length ∨ (now.fields.length = 0 ∧ 400 ≤ rec)) := fun hx => by
        unfold yb at hw0
        rw [if_neg (by simp [h3, h5]), if_neg (by omega)] at hw0
        by_cases hu : (j8 (t :: xj r)).2 ≠ 0
        ·rw [if_pos hu] at hw0; exact hu hw0
        ·rw [if_neg hu, if_pos hx] at hw0; simp at hw0
       rw [hw] at hw0
       refine qh8 r (k + 1) _ _ _ _ _ hE.2 ⟨by simp [wp], .inr hw0, by simp only [wp]; rw [qiw, ← h.hraw], by simp [wp], by simp, ?_, h.hout, by simp [wp], by simp; omega, ?_⟩
       ·have hkd := h.hkind
        simp only [wp]
        by_cases hz : now.fields = []
        ·rw [if_pos hz] at hrec hkd
         rw [hkd]
         simp
         omega
        ·rw [if_neg hz] at hrec hkd
         rw [hkd]
         simp
         omega
       ·rw [h.hkind]
        by_cases hz : now.fields = []
        ·have : now.fields.length = 0 := by rw [hz]; rfl
         rw [if_pos hz, if_pos rfl]
         omega
        ·rw [if_neg hz, if_neg (by decide)]
         exact hb2
      ·rw [if_pos hw0]
       have := qs2 r { wp { p with lines := [], fields := now.fields } k t with block := p.block ++ [t] } (k + 1) (yb prev t true r now.fields.length rec) hE.2 (by simp [wp]) hw.symm hw0
       simp only [wp] at this ⊢
       rw [this]
     ·have hw : yb prev t true r now.fields.length rec = 0 := by
       unfold yb
       rw [if_neg (by simp [h3, h5]), if_pos h4]
      have ht := qh9 ((qe9 (no := k) h3 h1).trans hf) h5
      rw [if_neg h1, if_neg h4] at ht
      rw [hw, if_neg (by simp), if_neg h1, if_neg h4, qfk ht]
      exact qh8 r (k + 1) _ _ _ _ _ hE.2 ⟨by simp [h3], .inl rfl, by rw [qiw, ← h.hraw], by simp, h.hkind, h.hrec, h.hout, by simp, h.b1, h.b2⟩
theorem qhp (text : qa) : refL 0 (jm text) false ⟨2, [], []⟩ 0 [] = v7 text := by
 unfold v7
 exact qh8 (jm text) 0 p0 false ⟨2, [], []⟩ 0 [] (ql0 _ text (Nat.le_refl _)) ⟨by simp [p0], .inl rfl, rfl, by simp [p0], by simp, by simp [p0], rfl, by simp [p0], by simp, by omega⟩
end Go.Pl
set_option maxRecDepth 100000
set_option linter.unusedVariables false
namespace Go.Pl
open Go Go.Proofs Go.Proofs.YtefmcijohgpfhaaGreatDoor
theorem qwg {l b : qa} {n : Int} (h : kq l = (1, b, n)) : qbk b ∧ ∃ m, l = recF b ++ m ∧ n = (recF b).length := by
 unfold kq at h
 split at h
 ·rename_i h10
  split at h
  ·rename_i ho
   generalize hr : past 10 l = r at *
   have hl := y7 h10
   rw [hr] at hl
   generalize hu : upto 10 l = u at *
   have hop : u = x9 (kw u).1 (kw u).2.1 ∧ 2 ≤ (kw u).1 ∧ (kw u).1 ≤ 50000 := by
    simp only [kw, decide_eq_true_eq] at ho ⊢
    obtain ⟨o1, o2, o3, o4, o5⟩ := ho
    refine ⟨?_, o3, qbz _⟩
    obtain ⟨t, rfl⟩ := o1
    rw [qji] at *
    have := qe2 rfl (Nat.le_trans (by decide) o3)
    unfold x9
    rw [← this, ← y7 o2]
   generalize (kw u).1 = n at *
   generalize (kw u).2.1 = fig at *
   obtain ⟨rfl, h2, hn⟩ := hop
   split at h
   ·unfold qc2 at h
    split at h <;> simp at h
   ·rename_i hge
    split at h
    ·rename_i hg
     have hlen : (r.take n).length = n := by simp; omega
     unfold qa5 at h
     rw [hlen] at h
     split at h
     ·simp at h
     ·split at h
      ·rename_i hc
       obtain ⟨⟨m, hm⟩, hs⟩ := hc
       simp only [Prod.mk.injEq, true_and] at h
       obtain ⟨rfl, rfl⟩ := h
       refine ⟨hg, m, ?_, ?_⟩
       ·rw [qh0, hlen, ← hs, hl]
        unfold recL
        conv => lhs; rw [← List.take_append_drop n r, ← hm]
        simp
       ·rw [qlq _ hg, hlen]
      ·simp at h
    ·simp at h
  ·simp at h
 ·split at h <;> simp at h
theorem qpl (s sub : qa) (i : Nat) : Lib.occAt s sub i = true ↔ sub <+: s.drop i := by
 unfold Lib.occAt
 rw [List.isPrefixOf_iff_prefix]
theorem q4u {a : qa} (r : qa) (h : 10 ∉ a) : Lib.cut (a ++ 10 :: 10 :: r) [10, 10] = (a, r, true) := by
 have hi : Lib.index (a ++ 10 :: 10 :: r) [10, 10] = (a.length : Int) := by
  refine Lib.index_first (by simp) ?_ fun j hj => ?_
  ·rw [qpl, List.drop_left]
   exact ⟨r, rfl⟩
  ·cases hb : Lib.occAt (a ++ 10 :: 10 :: r) [10, 10] j with
   | false => rfl
   | true =>
    obtain ⟨t, ht⟩ := (qpl _ _ _).1 hb
    rw [List.drop_append_of_le_length (by omega)] at ht
    have : a.drop j ≠ [] := by
     intro e
     have := congrArg List.length e
     simp at this
     omega
    obtain ⟨c, q, hq⟩ := List.exists_cons_of_ne_nil this
    rw [hq] at ht
    have h10 : c = 10 := by simpa using (List.cons.inj ht).1.symm
    exact absurd (List.mem_of_mem_drop (by rw [hq, h10]; simp : (10 : UInt8) ∈ a.drop j)) h
 unfold Lib.cut
 rw [hi, if_pos (by omega)]
 simp only [Int.toNat_natCast, List.take_left', List.length_cons, List.length_nil]
 rw [show a.length + (0 + 1 + 1) = (a ++ [10, 10]).length by simp, show a ++ 10 :: 10 :: r = (a ++ [10, 10]) ++ r by simp, List.drop_left]
theorem q2n {l m : qa} (h : (Lib.cut l m).2.2 = true) : l = (Lib.cut l m).1 ++ m ++ (Lib.cut l m).2.1 := by
 rcases Lib.index_spec l m with ⟨h1, _⟩ | ⟨i, h1, h2, h3, _⟩
 ·unfold Lib.cut at h
  rw [h1, if_neg (by omega)] at h
  simp at h
 ·unfold Lib.cut
  rw [h1, if_pos (by omega)]
  simp only [Int.toNat_natCast]
  obtain ⟨t, ht⟩ := (qpl _ _ _).1 h3
  have e : l.drop (i + m.length) = t := by rw [← List.drop_drop, ← ht, List.drop_left]
  rw [e, List.append_assoc, ht, List.take_append_drop]
def genL : qa := [35, 37, 103, 101, 110, 32]
def yh (n : Int) : qa := genL ++ Lib.itoa n ++ [10, 10]
def xp (n : Int) : Prop := 1 ≤ n ∧ n ≤ 2147483648
instance (n : Int) : Decidable (xp n) := inferInstanceAs (Decidable (_ ∧ _))
def y9 (text : qa) : Int × qa :=
 if genL <+: text then
  match numZ (upto 10 (text.drop 6)) with
  | some n => if xp n ∧ [10, 10] <+: text.drop (6 + (upto 10 (text.drop 6)).length) then (n, text.drop (8 + (upto 10 (text.drop 6)).length)) else (0, text)
  | none => (0, text)
 else (0, text)
theorem qi8 (v : Int) : (10 : UInt8) ∉ Lib.itoa v := by
 intro h
 by_cases hv : v < 0
 ·rw [qgv hv] at h
  rcases List.mem_cons.1 h with h | h
  ·simp at h
  ·have := yo _ _ (Nat.le_refl _) _ h
   simp at this
 ·rw [qgl (by omega)] at h
  have := yo _ _ (Nat.le_refl _) _ h
  simp at this
theorem qjb (n : Int) (r : qa) : yh n ++ r = genL ++ (Lib.itoa n ++ 10 :: 10 :: r) := by simp [yh]
theorem qf4 {n : Int} (h : xp n) (r : qa) : y9 (yh n ++ r) = (n, r) := by
 unfold y9
 have hd : (genL ++ (Lib.itoa n ++ 10 :: 10 :: r)).drop 6 = Lib.itoa n ++ 10 :: 10 :: r := by rw [show (6 : Nat) = genL.length by rfl, List.drop_left]
 rw [qjb, if_pos (List.prefix_append _ _), hd, ym _ (qi8 n), qzx (by have := h.1; omega) (by have := h.2; omega)]
 have e1 : (genL ++ (Lib.itoa n ++ 10 :: 10 :: r)).drop (6 + (Lib.itoa n).length) = 10 :: 10 :: r := by rw [← List.drop_drop, hd, List.drop_left]
 have e2 : (genL ++ (Lib.itoa n ++ 10 :: 10 :: r)).drop (8 + (Lib.itoa n).length) = r := by
  rw [show 8 + (Lib.itoa n).length = (6 + (Lib.itoa n).length) + 2 by omega, ← List.drop_drop, e1]
  rfl
 simp only
 rw [e1, e2, if_pos ⟨h, r, rfl⟩]
theorem qqi {text : qa} (h : ∀ n r, xp n → text ≠ yh n ++ r) : y9 text = (0, text) := by
 unfold y9
 split
 ·rename_i hp
  obtain ⟨t, rfl⟩ := hp
  have hd : (genL ++ t).drop 6 = t := by rw [show (6 : Nat) = genL.length by rfl, List.drop_left]
  rw [hd]
  split
  ·rename_i n hn
   split
   ·rename_i hc
    obtain ⟨hg, r, hr⟩ := hc
    rw [← List.drop_drop, hd] at hr
    obtain ⟨he, _⟩ := qy8 hn
    refine absurd ?_ (h n r hg)
    rw [qjb, ← he]
    congr 1
    conv => lhs; rw [← List.take_append_drop (upto 10 t).length t, qgz, ← hr]
    rfl
   ·rfl
  ·rfl
 ·rfl
theorem qle (text : qa) : (∃ n r, xp n ∧ text = yh n ++ r ∧ y9 text = (n, r)) ∨ ((∀ n r, xp n → text ≠ yh n ++ r) ∧ y9 text = (0, text)) := by
 by_cases h : ∃ n r, xp n ∧ text = yh n ++ r
 ·obtain ⟨n, r, hg, rfl⟩ := h
  exact .inl ⟨n, r, hg, rfl, qf4 hg r⟩
 ·have h' : ∀ n r, xp n → text ≠ yh n ++ r := fun n r hg e => h ⟨n, r, hg, e⟩
  exact .inr ⟨h', qqi h'⟩
def wo (n : Int) : qa := if xp n then yh n else []
theorem qlr (text : qa) : text = wo (y9 text).1 ++ (y9 text).2 ∧ ((y9 text).1 = 0 ∨ xp (y9 text).1) := by
 rcases qle text with ⟨n, r, hg, he, ht⟩ | ⟨_, ht⟩
 ·rw [ht]
  simp only
  unfold wo
  rw [if_pos hg]
  exact ⟨he, .inr hg⟩
 ·rw [ht]
  exact ⟨rfl, .inl rfl⟩
theorem qg9 {n : Int} (h : xp n) : (yh n).length ≤ 28 := by
 have := qhg (v := n) (by have := h.1; omega) (by have := h.2; omega)
 simp [yh, genL]
 omega
def begF (l : qa) : Bool := decide (l.head? = some 37 ∧ q9 l = 5)
def wk (n : Nat) (l : qa) : Nat := if h : l = [] then n else if begF (upto 10 l) = true then n - l.length else wk n (past 10 l)
 termination_by l.length
 decreasing_by exact ye h
theorem qea (n : Nat) : wk n [] = n := by rw [wk, dif_pos rfl]
theorem qim {n : Nat} {l : qa} (h : l ≠ []) (hb : begF (upto 10 l) = true) : wk n l = n - l.length := by rw [wk, dif_neg h, if_pos hb]
theorem qj8 {n : Nat} {l : qa} (h : l ≠ []) (hb : ¬ begF (upto 10 l) = true) : wk n l = wk n (past 10 l) := by
 conv => lhs; rw [wk]
 rw [dif_neg h, if_neg hb]
theorem qqb : ∀ (k n : Nat) (l : qa), l.length ≤ k → l.length ≤ n → n - l.length ≤ wk n l ∧ wk n l ≤ n
 | 0, n, l, h, hn => by
  have : l = [] := List.length_eq_zero_iff.1 (by omega)
  subst this
  rw [qea]
  simp
 | k + 1, n, l, h, hn => by
  by_cases hl : l = []
  ·subst hl; rw [qea]; simp
  ·by_cases hb : begF (upto 10 l) = true
   ·rw [qim hl hb]
    omega
   ·have := ye (c := 10) hl
    rw [qj8 hl hb]
    have := qqb k n (past 10 l) (by omega) (by omega)
    omega
theorem qoj : ∀ (k n : Nat) (l x : qa), l.length ≤ k → (∀ p ∈ jm l, begF p.1 = false ∧ p.2 = true) → wk n (l ++ x) = wk n x
 | 0, n, l, x, h, _ => by
  have : l = [] := List.length_eq_zero_iff.1 (by omega)
  subst this
  rfl
 | k + 1, n, l, x, h, hp => by
  by_cases hl : l = []
  ·subst hl; rfl
  ·rw [x4 hl] at hp
   obtain ⟨h1, h2⟩ := hp _ (List.mem_cons_self ..)
   have h10 : 10 ∈ l := by simpa using h2
   have e := y7 h10
   have hu : upto 10 (l ++ x) = upto 10 l ∧ past 10 (l ++ x) = past 10 l ++ x := by
    have e2 : l ++ x = upto 10 l ++ 10 :: (past 10 l ++ x) := by
     conv => lhs; rw [e]
     simp
    rw [e2, ym _ (qbe 10 l), y4 _ (qbe 10 l)]
    exact ⟨rfl, rfl⟩
   rw [qj8 (by simp [hl]) (by rw [hu.1]; simp [h1]), hu.2]
   exact qoj k n _ x (by have := ye (c := 10) hl; omega) fun p hp' => hp p (by simp [hp'])
theorem qfy : ∀ (r : List (qa × Bool)) (k : Nat) (prev : Bool) (now : w9) (rec : Int) (out : List w9), (refL k r prev now rec out).1 = none → ∀ x ∈ r, q9 x.1 ≠ 5 ∧ x.2 = true
 | [], _, _, _, _, _, _ => by simp
 | (t, e) :: r, k, prev, now, rec, out, h => by
  rw [refL] at h
  split at h
  ·simp at h
  ·rename_i hw
   have hx : q9 t ≠ 5 ∧ e = true := by
    unfold yb at hw
    split at hw
    ·simp at hw
    ·rename_i hc
     exact ⟨fun h5 => hc (.inl h5), by cases e with | true => rfl | false => exact absurd (.inr (.inr rfl)) hc⟩
   have hr : ∀ x ∈ r, q9 x.1 ≠ 5 ∧ x.2 = true := by
    split at h
    ·exact qfy r _ _ _ _ _ h
    ·split at h
     ·exact qfy r _ _ _ _ _ h
     ·exact qfy r _ _ _ _ _ h
   intro x hx'
   rcases List.mem_cons.1 hx' with rfl | hx'
   ·exact hx
   ·exact hr x hx'
theorem qu4 {text : qa} (h : (v7 text).1 = none) : ∀ x ∈ jm text, begF x.1 = false ∧ x.2 = true := fun x hx => by
 rw [← qhp] at h
 obtain ⟨h1, h2⟩ := qfy _ _ _ _ _ _ h x hx
 exact ⟨by simp [begF, h1], h2⟩
theorem qg6 {n : Nat} {fig l : qa} (hf : qaj fig) (h : l <+: x9 n fig) (hne : l ≠ []) : begF l = true := by
 have h10 : 10 ∉ l := qpd h (qc3 n hf)
 have h58 : (58 : UInt8) ∉ l := qpd h fun h' => by
  unfold x9 at h'
  rcases List.mem_append.1 h' with h' | h'
  ·revert h'; decide
  ·rcases List.mem_append.1 h' with h' | h'
   ·exact qjl n (by decide) h'
   ·rcases List.mem_cons.1 h' with h' | h'
    ·simp at h'
    ·exact qkl hf (by decide) h'
 obtain ⟨c, q, rfl⟩ := List.exists_cons_of_ne_nil hne
 have hc : c = 37 := by
  obtain ⟨t, ht⟩ := h
  unfold x9 ki at ht
  exact (List.cons.inj ht).1
 subst hc
 have hk := ql2 h10 (fun hb => by
  have := hb 37 (by simp)
  revert this
  decide)
 simp only [begF, List.head?_cons, true_and, decide_eq_true_eq]
 rw [hk.2]
 rw [if_neg (by simp), if_neg (by simp [x6]), if_neg (fun h => h58 h.1)]
theorem qzj {n : Nat} {fig body l : qa} (hf : qaj fig) (h : l <+: recL n fig body) (hne : l ≠ []) : begF (upto 10 l) = true := by
 rcases qp4 (show l <+: x9 n fig ++ 10 :: (body ++ qdk n) from h) with h | ⟨r, rfl, hr⟩
 ·rw [qca (qpd h (qc3 n hf))]
  exact qg6 hf h hne
 ·cases r with
  | nil =>
   rw [List.append_nil, qca (qc3 n hf)]
   exact qg6 hf (List.prefix_refl _) (by simp [x9, ki])
  | cons c r =>
   have : c = 10 := by obtain ⟨t, ht⟩ := hr; exact (List.cons.inj ht).1
   subst this
   rw [ym _ (qc3 n hf)]
   exact qg6 hf (List.prefix_refl _) (by simp [x9, ki])
theorem q3k {b : qa} (x : qa) (hg : qbk b) : begF (upto 10 (recF b ++ x)) = true := by
 rw [qh0]
 have hx : qaj (sumF b) := qlg (addP 0 b)
 unfold recL
 rw [List.append_assoc, List.cons_append, ym _ (qc3 _ hx)]
 exact qg6 hx (List.prefix_refl _) (by simp [x9, ki])
end Go.Pl
set_option maxRecDepth 100000
set_option linter.unusedVariables false
namespace Go.Av
open Go Go.RowKit
section
variable {E : Env} {rd : Option Nat} {N : Nat} {ops : Array Oper} {K K' : AS → Prop} {s : AS}
theorem AOps.mono {l : List Oper} (h : AOps E rd N ops l K' s) (hk : ∀ s, K' s → K s) : AOps E rd N ops l K s :=
 ⟨fun B0 w0 G a w hL hI Q hQ => h.run B0 w0 G a w hL hI Q fun G' s' a' w' hG hI' hK => hQ G' s' a' w' hG hI' (hk _ hK)⟩
end
end Go.Av
namespace Go.Pl
open Go Go.Proofs Go.Proofs.YtefmcijohgpfhaaGreatDoor
theorem q0s : ∀ (n : Nat) (l : qa) (k a : Nat), l.length ≤ n → ∀ x ∈ xb k a l, x.text.length ≤ l.length
 | n, l, k, a, hn, x, hx => by
  by_cases h : l = []
  ·subst h; rw [qas] at hx; simp at hx
  ·have hlt := ye (c := 10) h
   cases n with
   | zero => omega
   | succ n =>
    rw [qa0 h] at hx
    rcases List.mem_cons.1 hx with rfl | hx
    ·exact wt 10 l
    ·have := q0s n (past 10 l) (k + 1) (a + (upto 10 l).length + 1) (by omega) x hx
     omega
end Go.Pl
set_option maxRecDepth 100000
set_option linter.unusedVariables false
namespace Go.Pl
open Go Go.Proofs Go.Proofs.YtefmcijohgpfhaaGreatDoor
structure qa2 where
 gen : Int
 base : qa
 batches : List (List z1)
 ends : List Int
 tail : qa
def qg3 : qa2 := ⟨0, [], [], [], []⟩
def xv (text : qa) : ErrV := if 60000 < text.length then .num 1 else match (v7 text).1 with
 | none => .no
 | some (a, n) => .at' a n
def recsF : Nat → qa → Int → List (List z1) → List Int → Bool × List (List z1) × List Int × qa
 | 0, l, _, bs, es => (false, bs, es, l)
 | f + 1, l, a, bs, es =>
  if (kq l).1 = 2 then (false, bs, es, l)
  else if (kq l).1 = 1 then match decF (kq l).2.1 with
   | some b => recsF f (l.drop (kq l).2.2.toNat) (a + (kq l).2.2) (bs ++ [b]) (es ++ [a + (kq l).2.2])
   | none => (true, bs, es, l)
  else (true, bs, es, l)
def qf5 (text : qa) : qa := (y9 text).2
def atH (text : qa) : Nat := wk (qf5 text).length (qf5 text)
def qni (text : qa) : qa := (qf5 text).take (atH text)
def qhm (text : qa) : Bool × List (List z1) × List Int × qa := recsF (text.length + 1) ((qf5 text).drop (atH text)) (((text.length - (qf5 text).length + atH text : Nat)) : Int) [] []
def qhn (text : qa) : ErrV × qa2 :=
 if 120000 < text.length then (.num 1, qg3)
 else match xv (qni text) with
  | .no => if (qhm text).1 = true then (.at' (qhm text).2.1.length 10, qg3) else (.no, ⟨(y9 text).1, qni text, (qhm text).2.1, (qhm text).2.2.1, (qhm text).2.2.2⟩)
  | e => (e, qg3)
structure qfx (b : List z1) : Prop where
 ok : eErr b = .no
 B : ∀ x ∈ b, EdB x
 len : (encF b).length ≤ 50000
theorem qfx.dec {b : List z1} (h : qfx b) : decF (encF b) = some b := q39 h.ok h.B h.len
theorem qfx.good {b : List z1} (h : qfx b) : qbk (encF b) := qzq h.ok h.B h.len
def recE (b : List z1) : qa := recF (encF b)
def yc (bs : List (List z1)) : qa := bs.flatMap recE
def qbp (a : Int) : List (List z1) → List Int
 | [] => []
 | b :: r => (a + (recE b).length) :: qbp (a + (recE b).length) r
theorem qc1 (b : List z1) (r : List (List z1)) : yc (b :: r) = recE b ++ yc r := rfl
theorem qw2 (r : List (List z1)) (b : List z1) : yc (r ++ [b]) = yc r ++ recE b := by simp [yc]
theorem qng : ∀ (r : List (List z1)) (a : Int) (b : List z1), qbp a (r ++ [b]) = qbp a r ++ [a + (yc r).length + (recE b).length]
 | [], a, b => by simp [qbp, yc]
 | x :: r, a, b => by
  rw [List.cons_append, qbp, qbp, qng r, qc1]
  simp
  omega
theorem qm8 : ∀ (r : List (List z1)) (a : Int), r ≠ [] → (qbp a r).getLast? = some (a + (yc r).length)
 | [], _, h => absurd rfl h
 | [x], a, _ => by simp [qbp, yc]
 | x :: y :: r, a, _ => by
  have := qm8 (y :: r) (a + (recE x).length) (by simp)
  rw [qbp, List.getLast?_cons]
  rw [this, qc1 x]
  simp
  omega
theorem q16 (b : List z1) : 0 < (recE b).length := by
 unfold recE
 rw [qh0]
 simp [recL, x9, ki]
theorem qsx : ∀ (bs : List (List z1)) (f : Nat) (t : qa) (a : Int) (xs : List (List z1)) (es : List Int), (∀ b ∈ bs, qfx b) → (kq t).1 = 2 → bs.length < f →
  recsF f (yc bs ++ t) a xs es = (false, xs ++ bs, es ++ qbp a bs, t)
 | [], f + 1, t, a, xs, es, _, ht, _ => by
  rw [recsF]
  simp only [yc, List.flatMap_nil, List.nil_append, qbp, List.append_nil]
  rw [if_pos ht]
 | b :: r, f + 1, t, a, xs, es, h, ht, hf => by
  have hb := h b (by simp)
  have hrd : kq (yc (b :: r) ++ t) = (1, encF b, ((recE b).length : Int)) := by
   rw [qc1, List.append_assoc]
   exact q1f _ hb.good
  have hdr : (yc (b :: r) ++ t).drop (recE b).length = yc r ++ t := by
   rw [qc1, List.append_assoc, List.drop_left]
  rw [recsF, hrd]
  simp only
  rw [if_neg (by decide), if_pos trivial, hb.dec]
  simp only [Int.toNat_natCast]
  rw [hdr, qsx r f t _ _ _ (fun x hx => h x (by simp [hx])) ht (by simp at hf; omega)]
  simp [qbp]
structure qbh (text : qa) (b : qa2) : Prop where
 txt : text = wo b.gen ++ (b.base ++ (yc b.batches ++ b.tail))
 gen : y9 text = (b.gen, b.base ++ (yc b.batches ++ b.tail))
 parse : xv b.base = .no
 good : ∀ x ∈ b.batches, qfx x
 tail : (kq b.tail).1 = 2
 ends : b.ends = qbp ((wo b.gen).length + b.base.length) b.batches
 len : text.length ≤ 120000
def BegP (x : qa) : Prop := x = [] ∨ begF (upto 10 x) = true
theorem q0c {t : qa} (h : (kq t).1 = 2) : BegP t := by
 by_cases h0 : t = []
 ·exact .inl h0
 ·obtain ⟨n, fig, body, R, hp, _⟩ := q3o h
  obtain ⟨_, _, _, _, _, hx⟩ := R
  exact .inr (qzj hx hp h0)
theorem qqj {bs : List (List z1)} {t : qa} (hg : ∀ b ∈ bs, qfx b) (h : (kq t).1 = 2) : BegP (yc bs ++ t) := by
 cases bs with
 | nil => exact q0c h
 | cons b r =>
  refine .inr ?_
  rw [qc1, List.append_assoc]
  exact q3k _ (hg b (by simp)).good
theorem qyg {x : qa} (h : BegP x) : x = [] ∨ x.head? = some 37 := by
 rcases h with h | h
 ·exact .inl h
 ·simp only [begF, decide_eq_true_eq] at h
  cases x with
  | nil => exact .inl rfl
  | cons c r =>
   refine .inr ?_
   have h1 := h.1
   unfold upto at h1
   by_cases hc : c = 10
   ·subst hc; simp at h1
   ·simpa [hc] using h1
theorem qkk {l : qa} (h : xv l = .no) : (∀ p ∈ jm l, begF p.1 = false ∧ p.2 = true) ∧ l.length ≤ 60000 := by
 unfold xv at h
 split at h
 ·simp at h
 ·split at h
  ·rename_i hp
   exact ⟨qu4 hp, by omega⟩
  ·simp at h
theorem qxk {l x : qa} (h : xv l = .no) (hx : BegP x) : wk (l ++ x).length (l ++ x) = l.length := by
 rw [qoj _ _ l x (Nat.le_refl _) (qkk h).1]
 rcases hx with rfl | hx
 ·rw [qea]; simp
 ·by_cases h0 : x = []
  ·subst h0; rw [qea]; simp
  ·rw [qim h0 hx]
   simp
theorem qvu {text : qa} {b : qa2} (h : qbh text b) : qhn text = (.no, b) := by
 have hr : qf5 text = b.base ++ (yc b.batches ++ b.tail) := by unfold qf5; rw [h.gen]
 have ha : atH text = b.base.length := by
  unfold atH
  rw [hr]
  exact qxk h.parse (qqj h.good h.tail)
 have hb : qni text = b.base := by
  unfold qni
  rw [ha, hr, List.take_left]
 have hl : text.length - (qf5 text).length = (wo b.gen).length := by
  rw [hr]
  conv => lhs; rw [h.txt]
  simp
 have hc : qhm text = (false, b.batches, b.ends, b.tail) := by
  unfold qhm
  rw [hl, ha, hr, List.drop_left, qsx b.batches _ b.tail _ _ _ h.good h.tail]
  ·rw [h.ends]
   simp
  ·have : ∀ bs : List (List z1), bs.length ≤ (yc bs).length := fun bs => by
    induction bs with
    | nil => simp
    | cons x r ih =>
     have := q16 x
     rw [qc1]
     simp
     omega
   have := this b.batches
   rw [h.txt]
   simp
   omega
 have hlen := h.len
 unfold qhn
 rw [if_neg (by omega), hb, h.parse, hc, h.gen]
 simp
def qcn (b : qa2) : qa := wo b.gen ++ (b.base ++ yc b.batches)
def qbi (b : qa2) : Int := match b.ends.getLast? with
 | some e => e
 | none => ((wo b.gen).length + b.base.length : Nat)
theorem qbh.split {text : qa} {b : qa2} (h : qbh text b) : text = qcn b ++ b.tail := by
 have := h.txt
 unfold qcn
 simpa using this
theorem qbh.whole {text : qa} {b : qa2} (h : qbh text b) : qbi b = ((qcn b).length : Int) := by
 unfold qbi
 rw [h.ends]
 by_cases h0 : b.batches = []
 ·rw [h0]
  simp [qbp, qcn, h0, yc]
 ·rw [qm8 _ _ h0]
  simp [qcn]
  omega
theorem qbh.take {text : qa} {b : qa2} (h : qbh text b) : text.take (qbi b).toNat = qcn b := by
 rw [h.whole, Int.toNat_natCast]
 conv => lhs; rw [h.split]
 rw [List.take_left]
theorem qx1 {l : qa} (h : l ≠ []) (hp : ∀ p ∈ jm l, p.2 = true) : l.getLast? = some 10 := by
 have : ∀ (k : Nat) (l : qa), l.length ≤ k → l ≠ [] → (∀ p ∈ jm l, p.2 = true) → l.getLast? = some 10 := by
  intro k
  induction k with
  | zero => intro l hl h0; exact absurd (List.length_eq_zero_iff.1 (by omega)) h0
  | succ k ih =>
   intro l hl h0 hp
   rw [x4 h0] at hp
   have h10 : 10 ∈ l := by simpa using hp _ (List.mem_cons_self ..)
   have e := y7 h10
   by_cases hq : past 10 l = []
   ·rw [hq] at e
    rw [e]
    simp
   ·have := ih (past 10 l) (by have := ye (c := 10) h0; omega) hq fun p hp' => hp p (by simp [hp'])
    rw [e]
    rw [List.getLast?_append, List.getLast?_cons, this]
    simp
 exact this _ l (Nat.le_refl _) h hp
theorem q4i {l x : qa} {n : Int} (h : ∀ p ∈ jm l, p.2 = true) (hx : x = [] ∨ x.head? = some 37) (hp : yh n <+: l ++ x) : yh n <+: l := by
 rcases qp4 hp with h1 | ⟨r, h1, hr⟩
 ·exact h1
 ·by_cases hr0 : r = []
  ·rw [h1, hr0, List.append_nil]
   exact List.prefix_refl _
  ·exfalso
   obtain ⟨c, q, rfl⟩ := List.exists_cons_of_ne_nil hr0
   have hc : c = 37 := by
    obtain ⟨t, ht⟩ := hr
    rcases hx with rfl | hx
    ·simp at ht
    ·rw [← ht] at hx
     simpa using hx
   subst hc
   by_cases hl : l = []
   ·rw [hl] at h1
    simp [yh, genL] at h1
   ·have hlast := qx1 hl h
    obtain ⟨q0, hq0⟩ : ∃ q0, l = q0 ++ [10] := by
     have := quy hlast
     exact ⟨_, this.symm⟩
    have e : genL ++ Lib.itoa n ++ 10 :: [10] = q0 ++ 10 :: (37 :: q) := by
     have := h1
     unfold yh at this
     rw [hq0] at this
     simpa using this
    have hu10 : 10 ∉ genL ++ Lib.itoa n := by
     intro h
     rcases List.mem_append.1 h with h | h
     ·revert h; decide
     ·exact qi8 n h
    have hA := ym (c := 10) [10] hu10
    have hB := y4 (c := 10) [10] hu10
    rw [e] at hA hB
    by_cases hq10 : 10 ∈ q0
    ·have e2 := y7 hq10
     have e3 : q0 ++ 10 :: (37 :: q) = upto 10 q0 ++ 10 :: (past 10 q0 ++ 10 :: (37 :: q)) := by
      conv => lhs; rw [e2]
      simp
     rw [e3, y4 _ (qbe 10 q0)] at hB
     have := congrArg List.length hB
     simp at this
     omega
    ·rw [y4 _ hq10] at hB
     simp at hB
theorem qw5 {l x y : qa} (h : ∀ p ∈ jm l, p.2 = true) (hx : y9 (l ++ x) = (0, l ++ x)) (hy : y = [] ∨ y.head? = some 37) : y9 (l ++ y) = (0, l ++ y) := by
 refine qqi fun n r hg e => ?_
 obtain ⟨t, ht⟩ := q4i (n := n) h hy ⟨r, e.symm⟩
 have : y9 (l ++ x) = (n, t ++ x) := by rw [← ht, List.append_assoc, qf4 hg]
 rw [hx] at this
 have h0 : (0 : Int) = n := (Prod.mk.inj this).1
 have := hg.1
 omega
theorem qbh.gen0 {text : qa} {b : qa2} (h : qbh text b) : b.gen = 0 ∨ xp b.gen := by
 have := (qlr text).2
 rw [h.gen] at this
 exact this
theorem qbh.other {text : qa} {b : qa2} (h : qbh text b) {bs : List (List z1)} {t : qa} (hg : ∀ x ∈ bs, qfx x) (ht : (kq t).1 = 2) (hlen : (wo b.gen ++ (b.base ++ (yc bs ++ t))).length ≤ 120000) :
  qbh (wo b.gen ++ (b.base ++ (yc bs ++ t))) ⟨b.gen, b.base, bs, qbp ((wo b.gen).length + b.base.length) bs, t⟩ := by
 refine ⟨rfl, ?_, h.parse, hg, ht, rfl, hlen⟩
 rcases h.gen0 with h0 | h0
 ·have hgen := h.gen
  have htext := h.txt
  have e : wo b.gen = [] := by unfold wo; rw [if_neg (by rw [h0]; decide)]
  rw [e, List.nil_append] at htext ⊢
  rw [h0, htext] at hgen
  simp only
  rw [h0]
  exact qw5 (fun p hp => ((qkk h.parse).1 p hp).2) hgen (qyg (qqj hg ht))
 ·have e : wo b.gen = yh b.gen := by unfold wo; rw [if_pos h0]
  simp only
  rw [e, qf4 h0]
theorem qtd : kq [] = (2, [], 0) := by
 unfold kq qdp
 rw [if_neg (by simp), if_pos]
 rw [if_neg (by decide)]
 decide
theorem qbh.more {text : qa} {b : qa2} (h : qbh text b) {x : List z1} (hx : qfx x) (hl : (qcn b ++ recE x).length ≤ 120000) : qbh (qcn b ++ recE x) { b with batches := b.batches ++ [x], ends := b.ends ++ [qbi b + (recE x).length], tail := [] } := by
 have e : wo b.gen ++ (b.base ++ (yc (b.batches ++ [x]) ++ [])) = qcn b ++ recE x := by simp [qcn, qw2]
 have := h.other (bs := b.batches ++ [x]) (t := []) (fun y hy => by
  rcases List.mem_append.1 hy with hy | hy
  ·exact h.good y hy
  ·obtain rfl := List.mem_singleton.1 hy
   exact hx) (by rw [qtd]) (by rw [e]; exact hl)
 rw [e, qng, ← h.ends] at this
 have hw : ((wo b.gen).length + b.base.length + (yc b.batches).length + (recE x).length : Int) = qbi b + (recE x).length := by
  rw [h.whole]
  simp [qcn]
  omega
 rw [hw] at this
 exact this
def qak (gen : Int) (text : qa) : ErrV × qa :=
 if gen ≠ 0 ∧ ¬ xp gen then (.num 1, []) else match xv text with
  | .no => (.no, wo gen ++ text)
  | e => (e, [])
theorem qv8 {gen : Int} {text s : qa} (h : qak gen text = (.no, s)) (h0 : gen ≠ 0) (hl : text.length ≤ 60000) : qbh s ⟨gen, text, [], [], []⟩ := by
 unfold qak at h
 split at h
 ·simp at h
 ·rename_i hg
  have hg : xp gen := by
   by_cases hg' : xp gen
   ·exact hg'
   ·exact absurd ⟨h0, hg'⟩ hg
  split at h
  ·rename_i hp
   simp only [Prod.mk.injEq, true_and] at h
   have e : wo gen = yh gen := by unfold wo; rw [if_pos hg]
   subst h
   refine ⟨by simp [yc], ?_, hp, by simp, by simp only; rw [qtd], by simp [qbp], ?_⟩
   ·rw [e, qf4 hg]
    simp [yc]
   ·have := qg9 hg
    rw [e]
    simp
    omega
  ·rename_i hp
   simp only [Prod.mk.injEq] at h
   exact absurd h.1 hp
end Go.Pl
set_option maxRecDepth 100000
set_option linter.unusedVariables false
namespace Go.Proofs.YtefmcijohgpfhaaGreatDoor
open Go Go.Av Go.RowKit Go.Proofs Go.Pl
theorem qge (n : Int) (st : List AObj) (h : xp n) : qt E 91 [Iv n] st fun r st' => r = .tu [Sv (yh n), .v .nilIface] ∧ st' = st := by
 have h1 := h.1
 have h2 := h.2
 have hl := qhg (v := n) (by omega) (by omega)
 have hit := fun st => qj3 n st (by omega) (by omega)
 refine yr [.i n] (yl (zi _) (zi _)) Tryz.func91 rfl rfl (fun _ => rfl) rfl fun S0 => ?_
 apply zd []
 repeat' (first
  | apply And.intro
  | (intro h; first | (exfalso; omega) | (exfalso; exact h rfl) | (exfalso; revert h; decide) | skip)
  | exact ⟨Tryz.call87⟩
  | (refine Exists.intro _ ⟨qw (hit) rfl, ?_⟩)
  | exact rfl
  | exact trivial
  | exact fun _ => rfl
  | exact zb _
  | apply qz []
  | exact DrOk.mk (by kernel_rfl)
  | exact qn fun _ => rfl
  | omega
  | (simp only [List.length_map, List.length_append, List.length_cons, List.length_nil, List.length_take, List.length_drop]; omega)
  | exact zh
  | (refine Exists.intro _ ⟨rfl, ?_⟩)
  | refine zu ?_)
 all_goals first | (simp; omega) | (simp [yh, genL]; done)
theorem qm6 (n : Int) (st : List AObj) (h : ¬ xp n) : qt E 91 [Iv n] st fun r st' => r = .tu [Sv [], .ifc 31 (Iv 1)] ∧ st' = st := by
 refine yr [.i n] (yl (zi _) (qb9 (zi _))) Tryz.func91 rfl rfl (fun _ => rfl) rfl fun S0 => ?_
 unfold xp at h
 apply zd []
 repeat' (first
  | apply And.intro
  | (intro h; first | (exfalso; omega) | (exfalso; exact h rfl) | (exfalso; revert h; decide) | skip)
  | exact rfl
  | exact trivial
  | exact fun _ => rfl
  | exact zb _
  | apply qz []
  | exact DrOk.mk (by kernel_rfl)
  | exact qn fun _ => rfl
  | omega
  | (simp only [List.length_map, List.length_append, List.length_cons, List.length_nil, List.length_take, List.length_drop]; omega)
  | exact zh
  | (refine Exists.intro _ ⟨rfl, ?_⟩)
  | refine zu ?_)
theorem q43 (n : Int) (text : qa) (st : List AObj) (h : n = 0 ∨ xp n) (hl : text.length < 1000000) : qt E 56 [Iv n, Sv text] st fun r st' => r = .tu [Sv (wo n ++ text), .v .nilIface] ∧ st' = st := by
 refine yr [.i n, .s text] (yl (zi _) (zi _)) Tryz.func56 rfl rfl (fun _ => rfl) rfl fun S0 => ?_
 by_cases h0 : n = 0
 ·have e : wo n = [] := by unfold wo; rw [if_neg (by rw [h0]; decide)]
  rw [e, List.nil_append]
  apply zd []
  repeat' (first
   | apply And.intro
   | (intro h; first | (exfalso; omega) | (exfalso; exact h rfl) | (exfalso; revert h; decide) | skip)
   | exact rfl
   | exact trivial
   | exact fun _ => rfl
   | exact zb _
   | apply qz []
   | exact DrOk.mk (by kernel_rfl)
   | exact qn fun _ => rfl
   | omega
   | (simp only [List.length_map, List.length_append, List.length_cons, List.length_nil, List.length_take, List.length_drop]; omega)
   | exact zh
   | (refine Exists.intro _ ⟨rfl, ?_⟩)
   | refine zu ?_)
 ·have hg := h.resolve_left h0
  have hll := qg9 hg
  have e : wo n = yh n := by unfold wo; rw [if_pos hg]
  have hln := fun st => qge n st hg
  rw [e]
  apply zd []
  repeat' (first
   | apply And.intro
   | (intro h; first | (exfalso; omega) | (exfalso; exact h rfl) | (exfalso; revert h; decide) | skip)
   | exact ⟨Tryz.call91⟩
   | (refine Exists.intro _ ⟨qw (hln) rfl, ?_⟩)
   | exact rfl
   | exact trivial
   | exact fun _ => rfl
   | exact zb _
   | apply qz []
   | exact DrOk.mk (by kernel_rfl)
   | exact qn fun _ => rfl
   | omega
   | (simp only [List.length_map, List.length_append, List.length_cons, List.length_nil, List.length_take, List.length_drop]; omega)
   | exact zh
   | (refine Exists.intro _ ⟨rfl, ?_⟩)
   | refine zu ?_)
theorem q4h (n : Int) (text : qa) (st : List AObj) (h : n ≠ 0) (hg : ¬ xp n) : qt E 56 [Iv n, Sv text] st fun r st' => r = .tu [Sv [], .ifc 31 (Iv 1)] ∧ st' = st := by
 have hln := fun st => qm6 n st hg
 refine yr [.i n, .s text] (yl (zi _) (qb9 (zi _))) Tryz.func56 rfl rfl (fun _ => rfl) rfl fun S0 => ?_
 apply zd []
 repeat' (first
  | apply And.intro
  | (intro h; first | (exfalso; omega) | (exfalso; exact h rfl) | (exfalso; revert h; decide) | skip)
  | exact ⟨Tryz.call91⟩
  | (refine Exists.intro _ ⟨qw (hln) rfl, ?_⟩)
  | exact rfl
  | exact trivial
  | exact fun _ => rfl
  | exact zb _
  | apply qz []
  | exact DrOk.mk (by kernel_rfl)
  | exact qn fun _ => rfl
  | omega
  | (simp only [List.length_map, List.length_append, List.length_cons, List.length_nil, List.length_take, List.length_drop]; omega)
  | exact zh
  | (refine Exists.intro _ ⟨rfl, ?_⟩)
  | refine zu ?_)
theorem q40 (n : Int) (st : List AObj) : qt E 64 [Iv n] st fun r st' => r = Iv ((wo n).length : Nat) ∧ st' = st := by
 refine yr [.i n] (zi _) Tryz.func64 rfl rfl (fun _ => rfl) rfl fun S0 => ?_
 by_cases hg : xp n
 ·have e : wo n = yh n := by unfold wo; rw [if_pos hg]
  have hln := fun st => qge n st hg
  rw [e]
  apply zd []
  repeat' (first
   | apply And.intro
   | (intro h; first | (exfalso; omega) | (exfalso; exact h rfl) | (exfalso; revert h; decide) | skip)
   | exact ⟨Tryz.call91⟩
   | (refine Exists.intro _ ⟨qw (hln) rfl, ?_⟩)
   | exact rfl
   | exact trivial
   | exact fun _ => rfl
   | exact zb _
   | apply qz []
   | exact DrOk.mk (by kernel_rfl)
   | exact qn fun _ => rfl
   | omega
   | (simp only [List.length_map, List.length_append, List.length_cons, List.length_nil, List.length_take, List.length_drop]; omega)
   | exact zh
   | (refine Exists.intro _ ⟨rfl, ?_⟩)
   | refine zu ?_)
 ·have e : wo n = [] := by unfold wo; rw [if_neg hg]
  have hln := fun st => qm6 n st hg
  rw [e]
  apply zd []
  repeat' (first
   | apply And.intro
   | (intro h; first | (exfalso; omega) | (exfalso; exact h rfl) | (exfalso; revert h; decide) | skip)
   | exact ⟨Tryz.call91⟩
   | (refine Exists.intro _ ⟨qw (hln) rfl, ?_⟩)
   | exact rfl
   | exact trivial
   | exact fun _ => rfl
   | exact zb _
   | apply qz []
   | exact DrOk.mk (by kernel_rfl)
   | exact qn fun _ => rfl
   | omega
   | (simp only [List.length_map, List.length_append, List.length_cons, List.length_nil, List.length_take, List.length_drop]; omega)
   | exact zh
   | (refine Exists.intro _ ⟨rfl, ?_⟩)
   | refine zu ?_)
theorem qyh (l : qa) (st : List AObj) : qt E 96 [Sv (genL ++ l), Sv [35, 37, 103, 101, 110, 32]] st fun r st' => r = Sv l ∧ st' = st := by
 have := qgm (genL ++ l) [35, 37, 103, 101, 110, 32] st
 rw [qcb (show [35, 37, 103, 101, 110, 32] <+: genL ++ l from List.prefix_append genL l)] at this
 have e : (genL ++ l).drop ([35, 37, 103, 101, 110, 32] : qa).length = l := by rw [show ([35, 37, 103, 101, 110, 32] : qa).length = genL.length by rfl, List.drop_left]
 rw [e] at this
 exact this
set_option maxHeartbeats 2000000 in
theorem q4e (text : qa) (st : List AObj) (hl : text.length < 1000000) : qt E 61 [Sv text] st fun r st' => r = .tu [Iv (y9 text).1, Sv (y9 text).2] ∧ st' = st := by
 refine zg (yl (zi _) (zi _)) (qv Tryz.func61 rfl (Nat.le_of_ble_eq_true rfl) ?_)
 rcases qle text with ⟨n, r, hg, he, ht⟩ | ⟨hno, ht⟩
 ·rw [ht]
  have hn10 : 10 ∉ genL ++ Lib.itoa n := fun h => by
   rcases List.mem_append.1 h with h | h
   ·revert h; decide
   ·exact qi8 n h
  have hcut : ∀ st, qt E 36 [Sv text, Sv [10, 10]] st fun x st' => x = .tu [Sv (genL ++ Lib.itoa n), Sv r, Bv true] ∧ st' = st := fun st => by
   have := qnr text [10, 10] st (by omega)
   rw [he, qjb, ← List.append_assoc, q4u r hn10] at this
   rw [he, qjb, ← List.append_assoc]
   exact this
  have hb := qhg (v := n) (by have := hg.1; omega) (by have := hg.2; omega)
  have hgl : genL.length = 6 := rfl
  have hat := qir (v := n) (by have := hg.1; omega) (by have := hg.2; omega)
  repeat' (first
   | apply qj
   | apply qc
   | apply qg
   | apply qh
   | apply qb
   | (apply qx; exact rfl; exact rfl)
   | (apply qf; exact Tryz.call36; exact hcut _)
   | (apply qf; exact Tryz.call96; exact qyh _ _))
  refine qd2 Tryz.call77 ((qko (Lib.itoa n) _ (by omega)).mono ?_)
  rintro _ _ ⟨rfl, n', x, rfl, hx⟩
  rcases x with _ | ⟨t', y⟩
  ·simp only at hx
   rw [hat] at hx
   have e : n = n' := by simpa using hx
   subst e
   show AOps _ _ _ _ _ _ _
   have hs : yh n = (genL ++ Lib.itoa n) ++ [10, 10] := rfl
   have hs2 : ¬ yh n ≠ (genL ++ Lib.itoa n) ++ [10, 10] := fun h => h hs
   repeat' (first
    | apply qj
    | apply qc
    | apply qg
    | apply qh
    | apply qb
    | (apply qx; exact rfl; exact rfl)
    | (apply z0; (iterate 3 exact rfl))
    | (apply z7; exact rfl)
    | (apply qo; (iterate 4 exact rfl))
    | (apply j3; (first | exact rfl | assumption))
    | (apply vn; (first | exact rfl | assumption))
    | (apply qr; exact rfl; first | (apply jn; (first | assumption | omega)) | (apply jq; (first | assumption | omega)) | (apply jo; (first | exact rfl | assumption)) | (apply jr; (first | exact rfl | assumption)) | (apply pk_t; (first | exact rfl | assumption)) | (apply pk_f; (first | exact rfl | assumption)))
    | (apply qe; exact rfl; first | (apply q5; (first | assumption | omega)) | (apply q6; (first | assumption | omega)) | (apply q7; (first | exact rfl | assumption)) | (apply q8; (first | exact rfl | assumption)) | (apply cd_n <;> intro h) | (apply cd_t; (first | exact rfl | assumption)) | (apply cd_f; (first | exact rfl | assumption)) | (apply cd_d <;> intro h) | (apply cd_s <;> intro h))
    | (apply zq; exact rfl; exact rfl; (first | omega | (simp only [List.length_append, List.length_cons, List.length_nil]; omega) | (simp; omega)))
    | (apply zl; exact rfl; exact rfl)
    | apply qs
    | apply qq
    | (apply qf; exact Tryz.call91; exact qge _ _ hg))
   exact qi rfl (yj rfl) ⟨rfl, _, rfl⟩
  ·exact absurd hat (hx n)
 ·rw [ht]
  have hfst := qn4 text [10, 10]
  have hct := fun h => q2n (l := text) (m := [10, 10]) h
  have htr := qdm (Lib.cut text [10, 10]).1 [35, 37, 103, 101, 110, 32]
  have hcc := fun st => qnr text [10, 10] st (by omega)
  generalize Lib.cut text [10, 10] = c at hfst hct htr hcc
  obtain ⟨a, b, d⟩ := c
  simp only at hfst hct htr hcc
  repeat' (first
   | apply qj
   | apply qc
   | apply qg
   | apply qh
   | apply qb
   | (apply qx; exact rfl; exact rfl)
   | (apply qf; exact Tryz.call36; exact hcc _)
   | (apply qf; exact Tryz.call96; exact qgm _ _ _))
  refine qd2 Tryz.call77 ((qko (Lib.trimPrefix a [35, 37, 103, 101, 110, 32]) _ (by omega)).mono ?_)
  rintro _ _ ⟨rfl, n, x, rfl, hx⟩
  show AOps _ _ _ _ _ _ _
  have hbad : ¬ (d = true ∧ xp n ∧ yh n = a ++ [10, 10]) := fun ⟨h1, h2, h3⟩ => by
   refine hno n b h2 ?_
   rw [h3]
   exact hct h1
  by_cases hg : xp n
  ·have hll := qg9 hg
   cases d with
   | false =>
    rcases x with _ | ⟨t', y⟩
    all_goals
     repeat' (first
      | apply qj
      | apply qc
      | apply qg
      | apply qh
      | apply qb
      | (apply qx; exact rfl; exact rfl)
      | (apply z7; exact rfl)
      | (apply qo; (iterate 4 exact rfl))
      | (apply jx; (first | exact rfl | assumption))
      | (apply jw; (first | exact rfl | assumption))
      | (apply qr; exact rfl; first | (apply jn; (first | assumption | omega)) | (apply jq; (first | assumption | omega)) | (apply jo; (first | exact rfl | assumption)) | (apply jr; (first | exact rfl | assumption)) | (apply pk_t; (first | exact rfl | assumption)) | (apply pk_f; (first | exact rfl | assumption)))
      | (apply qe; exact rfl; first | (apply q5; (first | assumption | omega)) | (apply q6; (first | assumption | omega)) | (apply q7; (first | exact rfl | assumption)) | (apply q8; (first | exact rfl | assumption)) | (apply cd_n <;> intro h) | (apply cd_t; (first | exact rfl | assumption)) | (apply cd_f; (first | exact rfl | assumption)) | (apply cd_d <;> intro h) | (apply cd_s <;> intro h))
      | apply qq
      | (apply qf; exact Tryz.call91; exact qge _ _ hg))
     exact qi rfl (yj rfl) ⟨rfl, _, rfl⟩
   | true =>
    have hne : yh n ≠ a ++ [10, 10] := fun h => hbad ⟨rfl, hg, h⟩
    rcases x with _ | ⟨t', y⟩
    all_goals
     repeat' (first
      | apply qj
      | apply qc
      | apply qg
      | apply qh
      | apply qb
      | (apply qx; exact rfl; exact rfl)
      | (apply z0; (iterate 3 exact rfl))
      | (apply z7; exact rfl)
      | (apply qo; (iterate 4 exact rfl))
      | (apply j3; (first | exact rfl | assumption))
      | (apply vn; (first | exact rfl | assumption))
      | (apply jw; (first | exact rfl | assumption))
      | (apply qr; exact rfl; first | (apply jn; (first | assumption | omega)) | (apply jq; (first | assumption | omega)) | (apply jo; (first | exact rfl | assumption)) | (apply jr; (first | exact rfl | assumption)) | (apply pk_t; (first | exact rfl | assumption)) | (apply pk_f; (first | exact rfl | assumption)))
      | (apply qe; exact rfl; first | (apply q5; (first | assumption | omega)) | (apply q6; (first | assumption | omega)) | (apply q7; (first | exact rfl | assumption)) | (apply q8; (first | exact rfl | assumption)) | (apply cd_n <;> intro h) | (apply cd_t; (first | exact rfl | assumption)) | (apply cd_f; (first | exact rfl | assumption)) | (apply cd_d <;> intro h) | (apply cd_s <;> intro h))
      | (apply zq; exact rfl; exact rfl; (first | omega | (simp only [List.length_append, List.length_cons, List.length_nil]; omega) | (simp; omega)))
      | (apply zo; exact rfl; exact rfl)
      | (apply zl; exact rfl; exact rfl)
      | apply qq
      | (apply qf; exact Tryz.call91; exact qge _ _ hg))
     exact qi rfl (yj rfl) ⟨rfl, _, rfl⟩
  ·cases d
   all_goals
    rcases x with _ | ⟨t', y⟩
    all_goals
     repeat' (first
      | apply qj
      | apply qc
      | apply qg
      | apply qh
      | apply qb
      | (apply qx; exact rfl; exact rfl)
      | (apply z7; exact rfl)
      | (apply qo; (iterate 4 exact rfl))
      | (apply j3; (first | exact rfl | assumption))
      | (apply jx; (first | exact rfl | assumption))
      | (apply vn; (first | exact rfl | assumption))
      | (apply jw; (first | exact rfl | assumption))
      | (apply qr; exact rfl; first | (apply jn; (first | assumption | omega)) | (apply jq; (first | assumption | omega)) | (apply jo; (first | exact rfl | assumption)) | (apply jr; (first | exact rfl | assumption)) | (apply pk_t; (first | exact rfl | assumption)) | (apply pk_f; (first | exact rfl | assumption)))
      | (apply qe; exact rfl; first | (apply q5; (first | assumption | omega)) | (apply q6; (first | assumption | omega)) | (apply q7; (first | exact rfl | assumption)) | (apply q8; (first | exact rfl | assumption)) | (apply cd_n <;> intro h) | (apply cd_t; (first | exact rfl | assumption)) | (apply cd_f; (first | exact rfl | assumption)) | (apply cd_d <;> intro h) | (apply cd_s <;> intro h))
      | (apply zo; exact rfl; exact rfl)
      | (apply zl; exact rfl; exact rfl)
      | apply qq
      | (apply qf; exact Tryz.call91; exact qm6 _ _ hg))
     exact qi rfl (yj rfl) ⟨rfl, _, rfl⟩
theorem quj (n : Int) (st : List AObj) : qt E 58 [Iv n] st fun r st' => r = Bv (decide (xp n)) ∧ st' = st := by
 refine zg (zi _) (qv Tryz.func58 rfl (Nat.le_of_ble_eq_true rfl) ?_)
 by_cases h1 : 1 ≤ n
 ·by_cases h2 : n ≤ 2147483648
  all_goals
   repeat' (first
    | apply qj
    | apply qc
    | apply qg
    | apply qh
    | apply qb
    | (apply qm; (iterate 3 exact rfl))
    | (apply qo; (iterate 4 exact rfl))
    | (apply vh; (first | assumption | omega))
    | (apply qr; exact rfl; first | (apply jn; (first | assumption | omega)) | (apply jq; (first | assumption | omega)) | (apply jo; (first | exact rfl | assumption)) | (apply jr; (first | exact rfl | assumption)) | (apply pk_t; (first | exact rfl | assumption)) | (apply pk_f; (first | exact rfl | assumption)))
    | apply qq)
   exact qi rfl (zf rfl) ⟨congrArg Bv (by simp [xp, h1, h2]), _, rfl⟩
 ·skip
  repeat' (first
   | apply qj
   | apply qc
   | apply qg
   | apply qh
   | apply qb
   | (apply qm; (iterate 3 exact rfl))
   | (apply qo; (iterate 4 exact rfl))
   | (apply ko; (first | assumption | omega))
   | (apply qr; exact rfl; first | (apply jn; (first | assumption | omega)) | (apply jq; (first | assumption | omega)) | (apply jo; (first | exact rfl | assumption)) | (apply jr; (first | exact rfl | assumption)) | (apply pk_t; (first | exact rfl | assumption)) | (apply pk_f; (first | exact rfl | assumption)))
   | apply qq)
  exact qi rfl (zf rfl) ⟨congrArg Bv (by simp [xp, h1]), _, rfl⟩
theorem qui (n : Int) (st : List AObj) (h : xp n) : qt E 60 [Iv n] st fun r st' => r = Sv (yh n) ∧ st' = st := by
 have h1 := h.1
 have h2 := h.2
 obtain ⟨k, rfl⟩ : ∃ k : Nat, n = k := ⟨n.toNat, by omega⟩
 have hl := qhg (v := (k : Int)) (by omega) (by omega)
 refine zg (zi _) (qv Tryz.func60 rfl (Nat.le_of_ble_eq_true rfl) ?_)
 repeat' (first
  | apply qj
  | apply qc
  | apply qg
  | apply qh
  | apply qb
  | (apply zq; exact rfl; exact rfl; (first | omega | (simp only [List.length_append, List.length_cons, List.length_nil]; omega) | (simp; omega)))
  | apply qq
  | (apply qf; exact Tryz.call82; exact qsg k _ (by omega)))
 exact qi rfl (zf rfl) ⟨rfl, _, rfl⟩
end Go.Proofs.YtefmcijohgpfhaaGreatDoor
set_option maxRecDepth 100000
set_option linter.unusedVariables false
namespace Go.Proofs.YtefmcijohgpfhaaGreatDoor
open Go Go.Av Go.RowKit Go.Proofs Go.Pl
@[reducible] def qh1 (L : List LnV) : AV := .sl 1 (L.map fun x => Iv (q9 x.text)) none
def qez (L : List LnV) : Nat → Bool
 | 0 => false
 | j + 1 => match L[j]? with
  | some x => decide (q9 x.text = 4 ∨ q9 x.text = 3)
  | none => false
theorem qg2 {L : List LnV} {i : Nat} {x : LnV} (h : L[i]? = some x) : (L.map fun x => Iv (q9 x.text))[i]? = some (Iv (q9 x.text)) := by simp [h]
theorem qid {L : List LnV} {i : Nat} {x : LnV} (h : L[i]? = some x) : (L.map lnA)[i]? = some (lnA x) := by simp [h]
theorem qq4 (L : List LnV) (i : Nat) (st : List AObj) (hi : i ≤ L.length) (hL : L.length < 1000000) : qt E 137 [qh1 L, Iv i] st fun r st' => r = Bv (qez L i) ∧ st' = st := by
 refine zg (zi _) (qv Tryz.func137 rfl (Nat.le_of_ble_eq_true rfl) ?_)
 cases i with
 | zero =>
  repeat' (first
   | (apply wh; first | apply qj | apply qp | apply qc | (apply qe; exact rfl; first | (apply q5; (first | assumption | omega)) | (apply q6; (first | assumption | omega)) | (apply q7; (first | exact rfl | assumption)) | (apply q8; (first | exact rfl | assumption)) | (apply cd_n <;> intro h) | (apply cd_t; (first | exact rfl | assumption)) | (apply cd_f; (first | exact rfl | assumption)) | (apply cd_d <;> intro h) | (apply cd_s <;> intro h)) | (apply v4; exact rfl; kernel_rfl) | apply qs | apply z6 | apply qq)
   | (apply vc; first | (apply qo; (iterate 4 exact rfl)) | (apply zw; (iterate 4 exact rfl)))
   | (apply wu; first | (apply vh; (first | assumption | omega)) | (apply jv; (first | assumption | omega)) | (apply jt; (first | assumption | omega)) | (apply ko; (first | assumption | omega)) | (apply vo; (first | exact rfl | assumption)) | (apply j3; (first | exact rfl | assumption)) | (apply jx; (first | exact rfl | assumption)) | (apply kr; (first | exact rfl | assumption)) | (apply kj <;> intro h) | (apply kg; (first | exact rfl | assumption)) | (apply vn; (first | exact rfl | assumption)) | (apply jw; (first | exact rfl | assumption)) | (apply ju; (first | exact rfl | assumption)) | (apply je <;> intro h) | (apply vm <;> intro h))
   | (apply wx; first | apply w7 | (apply wy; (iterate 4 exact rfl)) | (apply xu; exact rfl; exact rfl; exact ql (by omega) (by omega)) | (apply ww; (iterate 4 exact rfl); (first | assumption | omega | (simp; omega)); first | assumption | omega | (simp; omega)) | (apply ke; (iterate 5 exact rfl)) | (apply vp; exact rfl; exact rfl; (first | omega | (simp only [List.length_append, List.length_cons, List.length_nil]; omega) | (simp; omega))) | (apply kp; (iterate 3 exact rfl)) | (apply j7; (iterate 5 exact rfl)) | (apply jb; (iterate 4 exact rfl)) | (apply ja; (iterate 3 exact rfl)) | (apply xk; (iterate 3 exact rfl); first | assumption | omega | (simp; omega)) | (apply wq; exact rfl; exact rfl) | (apply wc; exact rfl; exact rfl) | (apply wb; (iterate 3 exact rfl); omega) | (apply vq; (iterate 3 exact rfl)) | apply wg | apply vk | (apply xo; exact rfl; exact rfl; exact ql (by omega) (by omega)) | (apply wv; (iterate 3 exact rfl)) | (apply wl; (iterate 3 exact rfl); first | assumption | omega | (simp; omega)) | (apply wn; (iterate 3 exact rfl); first | assumption | omega | (simp; omega)) | (apply kv; exact rfl; exact rfl))
   | (apply vb; first | (apply qm; (iterate 3 exact rfl)) | (apply z0; (iterate 3 exact rfl)) | (apply zq; exact rfl; exact rfl; (first | omega | (simp only [List.length_append, List.length_cons, List.length_nil]; omega) | (simp; omega))) | (apply zy; exact rfl; exact rfl; exact ql (by omega) (by omega)) | (apply vl; exact rfl; exact rfl; exact ql (by omega) (by omega)) | (apply zo; exact rfl; exact rfl) | (apply zl; exact rfl; exact rfl) | (apply z8; exact rfl; exact rfl) | (apply jg; exact rfl; exact rfl) | (apply jd; (iterate 3 exact rfl)) | (apply ji; (iterate 3 exact rfl)) | (apply ka; exact rfl; exact rfl; (first | exact qd _ | exact rfl); first | exact qd _ | exact rfl) | (apply km; exact rfl; exact rfl; (first | exact qd _ | exact rfl); first | exact qd _ | exact rfl) | (apply vv; exact rfl; exact rfl; (first | exact qd _ | exact rfl); first | exact qd _ | exact rfl) | (apply j5; (iterate 3 exact rfl)) | (apply kc; (iterate 3 exact rfl)))
   | (apply vr; first | (apply zc; (iterate 3 exact rfl)) | (apply jk; (iterate 5 exact rfl)) | (apply ze; (iterate 5 exact rfl)))
   | (apply vw; first | (apply ku; exact rfl) | (apply z7; exact rfl) | (apply jl; exact rfl))
   | (apply vd; first | (apply vf; (iterate 3 exact rfl); first | assumption | omega | (simp; omega)) | (apply kf; (iterate 3 exact rfl); first | assumption | omega | (simp; omega)) | (apply vj; (iterate 4 exact rfl); (first | assumption | omega | (simp; omega)); first | assumption | omega | (simp; omega)) | (apply jc; (iterate 4 exact rfl); (first | assumption | omega | exact Nat.succ_le_succ (Nat.zero_le _) | (simp; omega)); exact rfl))
   | (apply vz; first | (apply z2; (iterate 3 exact rfl)) | (apply zk; (iterate 4 exact rfl)))
   | (apply jh; first | (apply qu; (iterate 3 exact rfl)) | (apply zn; (iterate 4 exact rfl)))
   | (apply va; first | (apply zm; (iterate 11 exact rfl)) | (apply za; (iterate 11 exact rfl)))
   | (apply we; first | apply qg | apply qh | apply qb | (apply qx; exact rfl; exact rfl) | (apply qr; exact rfl; first | (apply jn; (first | assumption | omega)) | (apply jq; (first | assumption | omega)) | (apply jo; (first | exact rfl | assumption)) | (apply jr; (first | exact rfl | assumption)) | (apply pk_t; (first | exact rfl | assumption)) | (apply pk_f; (first | exact rfl | assumption))) | (apply qy; exact rfl; exact rfl) | apply jj | (apply zj; exact rfl; exact rfl) | (apply j4; (iterate 4 exact rfl)) | (apply kh; (iterate 3 exact rfl)) | (apply j6; (iterate 3 exact rfl); first | assumption | omega | (simp; omega)) | (apply zt; (iterate 3 exact rfl)) | (apply zr; (iterate 9 exact rfl)) | (apply zv; exact rfl; exact rfl) | (apply jy; (iterate 4 exact rfl); (first | assumption | omega | decide); exact rfl) | (apply zx; (iterate 4 exact rfl); first | assumption | omega | decide)))
  exact qi rfl (zf rfl) ⟨rfl, _, rfl⟩
 | succ j =>
  obtain ⟨x, hx⟩ : ∃ x, L[j]? = some x := ⟨_, List.getElem?_eq_getElem (by omega)⟩
  have hget := qg2 hx
  have hp : qez L (j + 1) = decide (q9 x.text = 4 ∨ q9 x.text = 3) := by simp only [qez, hx]
  rw [hp]
  by_cases h4 : q9 x.text = 4
  ·skip
   repeat' (first
    | (apply wh; first | apply qj | apply qp | apply qc | (apply qe; exact rfl; first | (apply q5; (first | assumption | omega)) | (apply q6; (first | assumption | omega)) | (apply q7; (first | exact rfl | assumption)) | (apply q8; (first | exact rfl | assumption)) | (apply cd_n <;> intro h) | (apply cd_t; (first | exact rfl | assumption)) | (apply cd_f; (first | exact rfl | assumption)) | (apply cd_d <;> intro h) | (apply cd_s <;> intro h)) | (apply v4; exact rfl; kernel_rfl) | apply qs | apply z6 | apply qq)
    | (apply vc; first | (apply qo; (iterate 4 exact rfl)) | (apply zw; (iterate 4 exact rfl)))
    | (apply wu; first | (apply vh; (first | assumption | omega)) | (apply jv; (first | assumption | omega)) | (apply jt; (first | assumption | omega)) | (apply ko; (first | assumption | omega)) | (apply vo; (first | exact rfl | assumption)) | (apply j3; (first | exact rfl | assumption)) | (apply jx; (first | exact rfl | assumption)) | (apply kr; (first | exact rfl | assumption)) | (apply kj <;> intro h) | (apply kg; (first | exact rfl | assumption)) | (apply vn; (first | exact rfl | assumption)) | (apply jw; (first | exact rfl | assumption)) | (apply ju; (first | exact rfl | assumption)) | (apply je <;> intro h) | (apply vm <;> intro h))
    | (apply wx; first | apply w7 | (apply wy; (iterate 4 exact rfl)) | (apply xu; exact rfl; exact rfl; exact ql (by omega) (by omega)) | (apply ww; (iterate 4 exact rfl); (first | assumption | omega | (simp; omega)); first | assumption | omega | (simp; omega)) | (apply ke; (iterate 5 exact rfl)) | (apply vp; exact rfl; exact rfl; (first | omega | (simp only [List.length_append, List.length_cons, List.length_nil]; omega) | (simp; omega))) | (apply kp; (iterate 3 exact rfl)) | (apply j7; (iterate 5 exact rfl)) | (apply jb; (iterate 4 exact rfl)) | (apply ja; (iterate 3 exact rfl)) | (apply xk; (iterate 3 exact rfl); first | assumption | omega | (simp; omega)) | (apply wq; exact rfl; exact rfl) | (apply wc; exact rfl; exact rfl) | (apply wb; (iterate 3 exact rfl); omega) | (apply vq; (iterate 3 exact rfl)) | apply wg | apply vk | (apply xo; exact rfl; exact rfl; exact ql (by omega) (by omega)) | (apply wv; (iterate 3 exact rfl)) | (apply wl; (iterate 3 exact rfl); first | assumption | omega | (simp; omega)) | (apply wn; (iterate 3 exact rfl); first | assumption | omega | (simp; omega)) | (apply kv; exact rfl; exact rfl))
    | (apply vb; first | (apply qm; (iterate 3 exact rfl)) | (apply z0; (iterate 3 exact rfl)) | (apply zq; exact rfl; exact rfl; (first | omega | (simp only [List.length_append, List.length_cons, List.length_nil]; omega) | (simp; omega))) | (apply zy; exact rfl; exact rfl; exact ql (by omega) (by omega)) | (apply vl; exact rfl; exact rfl; exact ql (by omega) (by omega)) | (apply zo; exact rfl; exact rfl) | (apply zl; exact rfl; exact rfl) | (apply z8; exact rfl; exact rfl) | (apply jg; exact rfl; exact rfl) | (apply jd; (iterate 3 exact rfl)) | (apply ji; (iterate 3 exact rfl)) | (apply ka; exact rfl; exact rfl; (first | exact qd _ | exact rfl); first | exact qd _ | exact rfl) | (apply km; exact rfl; exact rfl; (first | exact qd _ | exact rfl); first | exact qd _ | exact rfl) | (apply vv; exact rfl; exact rfl; (first | exact qd _ | exact rfl); first | exact qd _ | exact rfl) | (apply j5; (iterate 3 exact rfl)) | (apply kc; (iterate 3 exact rfl)))
    | (apply vr; first | (apply zc; (iterate 3 exact rfl)) | (apply jk; (iterate 5 exact rfl)) | (apply ze; (iterate 5 exact rfl)))
    | (apply vw; first | (apply ku; exact rfl) | (apply z7; exact rfl) | (apply jl; exact rfl))
    | (apply vd; first | (apply vf; (iterate 3 exact rfl); first | assumption | omega | (simp; omega)) | (apply kf; (iterate 3 exact rfl); first | assumption | omega | (simp; omega)) | (apply vj; (iterate 4 exact rfl); (first | assumption | omega | (simp; omega)); first | assumption | omega | (simp; omega)) | (apply jc; (iterate 4 exact rfl); (first | assumption | omega | exact Nat.succ_le_succ (Nat.zero_le _) | (simp; omega)); exact rfl))
    | (apply vz; first | (apply z2; (iterate 3 exact rfl)) | (apply zk; (iterate 4 exact rfl)))
    | (apply jh; first | (apply qu; (iterate 3 exact rfl)) | (apply zn; (iterate 4 exact rfl)))
    | (apply va; first | (apply zm; (iterate 11 exact rfl)) | (apply za; (iterate 11 exact rfl)))
    | (apply we; first | apply qg | apply qh | apply qb | (apply qx; exact rfl; exact rfl) | (apply qr; exact rfl; first | (apply jn; (first | assumption | omega)) | (apply jq; (first | assumption | omega)) | (apply jo; (first | exact rfl | assumption)) | (apply jr; (first | exact rfl | assumption)) | (apply pk_t; (first | exact rfl | assumption)) | (apply pk_f; (first | exact rfl | assumption))) | (apply qy; exact rfl; exact rfl) | apply jj | (apply zj; exact rfl; exact rfl) | (apply j4; (iterate 4 exact rfl)) | (apply kh; (iterate 3 exact rfl)) | (apply j6; (iterate 3 exact rfl); first | assumption | omega | (simp; omega)) | (apply zt; (iterate 3 exact rfl)) | (apply zr; (iterate 9 exact rfl)) | (apply zv; exact rfl; exact rfl) | (apply jy; (iterate 4 exact rfl); (first | assumption | omega | decide); exact rfl) | (apply zx; (iterate 4 exact rfl); first | assumption | omega | decide))
    | (apply q4 (n := j); (iterate 4 exact rfl); omega; exact hget))
   exact qi rfl (zf rfl) ⟨congrArg Bv (by simp [h4]), _, rfl⟩
  ·by_cases h3 : q9 x.text = 3
   all_goals
    repeat' (first
     | (apply wh; first | apply qj | apply qp | apply qc | (apply qe; exact rfl; first | (apply q5; (first | assumption | omega)) | (apply q6; (first | assumption | omega)) | (apply q7; (first | exact rfl | assumption)) | (apply q8; (first | exact rfl | assumption)) | (apply cd_n <;> intro h) | (apply cd_t; (first | exact rfl | assumption)) | (apply cd_f; (first | exact rfl | assumption)) | (apply cd_d <;> intro h) | (apply cd_s <;> intro h)) | (apply v4; exact rfl; kernel_rfl) | apply qs | apply z6 | apply qq)
     | (apply vc; first | (apply qo; (iterate 4 exact rfl)) | (apply zw; (iterate 4 exact rfl)))
     | (apply wu; first | (apply vh; (first | assumption | omega)) | (apply jv; (first | assumption | omega)) | (apply jt; (first | assumption | omega)) | (apply ko; (first | assumption | omega)) | (apply vo; (first | exact rfl | assumption)) | (apply j3; (first | exact rfl | assumption)) | (apply jx; (first | exact rfl | assumption)) | (apply kr; (first | exact rfl | assumption)) | (apply kj <;> intro h) | (apply kg; (first | exact rfl | assumption)) | (apply vn; (first | exact rfl | assumption)) | (apply jw; (first | exact rfl | assumption)) | (apply ju; (first | exact rfl | assumption)) | (apply je <;> intro h) | (apply vm <;> intro h))
     | (apply wx; first | apply w7 | (apply wy; (iterate 4 exact rfl)) | (apply xu; exact rfl; exact rfl; exact ql (by omega) (by omega)) | (apply ww; (iterate 4 exact rfl); (first | assumption | omega | (simp; omega)); first | assumption | omega | (simp; omega)) | (apply ke; (iterate 5 exact rfl)) | (apply vp; exact rfl; exact rfl; (first | omega | (simp only [List.length_append, List.length_cons, List.length_nil]; omega) | (simp; omega))) | (apply kp; (iterate 3 exact rfl)) | (apply j7; (iterate 5 exact rfl)) | (apply jb; (iterate 4 exact rfl)) | (apply ja; (iterate 3 exact rfl)) | (apply xk; (iterate 3 exact rfl); first | assumption | omega | (simp; omega)) | (apply wq; exact rfl; exact rfl) | (apply wc; exact rfl; exact rfl) | (apply wb; (iterate 3 exact rfl); omega) | (apply vq; (iterate 3 exact rfl)) | apply wg | apply vk | (apply xo; exact rfl; exact rfl; exact ql (by omega) (by omega)) | (apply wv; (iterate 3 exact rfl)) | (apply wl; (iterate 3 exact rfl); first | assumption | omega | (simp; omega)) | (apply wn; (iterate 3 exact rfl); first | assumption | omega | (simp; omega)) | (apply kv; exact rfl; exact rfl))
     | (apply vb; first | (apply qm; (iterate 3 exact rfl)) | (apply z0; (iterate 3 exact rfl)) | (apply zq; exact rfl; exact rfl; (first | omega | (simp only [List.length_append, List.length_cons, List.length_nil]; omega) | (simp; omega))) | (apply zy; exact rfl; exact rfl; exact ql (by omega) (by omega)) | (apply vl; exact rfl; exact rfl; exact ql (by omega) (by omega)) | (apply zo; exact rfl; exact rfl) | (apply zl; exact rfl; exact rfl) | (apply z8; exact rfl; exact rfl) | (apply jg; exact rfl; exact rfl) | (apply jd; (iterate 3 exact rfl)) | (apply ji; (iterate 3 exact rfl)) | (apply ka; exact rfl; exact rfl; (first | exact qd _ | exact rfl); first | exact qd _ | exact rfl) | (apply km; exact rfl; exact rfl; (first | exact qd _ | exact rfl); first | exact qd _ | exact rfl) | (apply vv; exact rfl; exact rfl; (first | exact qd _ | exact rfl); first | exact qd _ | exact rfl) | (apply j5; (iterate 3 exact rfl)) | (apply kc; (iterate 3 exact rfl)))
     | (apply vr; first | (apply zc; (iterate 3 exact rfl)) | (apply jk; (iterate 5 exact rfl)) | (apply ze; (iterate 5 exact rfl)))
     | (apply vw; first | (apply ku; exact rfl) | (apply z7; exact rfl) | (apply jl; exact rfl))
     | (apply vd; first | (apply vf; (iterate 3 exact rfl); first | assumption | omega | (simp; omega)) | (apply kf; (iterate 3 exact rfl); first | assumption | omega | (simp; omega)) | (apply vj; (iterate 4 exact rfl); (first | assumption | omega | (simp; omega)); first | assumption | omega | (simp; omega)) | (apply jc; (iterate 4 exact rfl); (first | assumption | omega | exact Nat.succ_le_succ (Nat.zero_le _) | (simp; omega)); exact rfl))
     | (apply vz; first | (apply z2; (iterate 3 exact rfl)) | (apply zk; (iterate 4 exact rfl)))
     | (apply jh; first | (apply qu; (iterate 3 exact rfl)) | (apply zn; (iterate 4 exact rfl)))
     | (apply va; first | (apply zm; (iterate 11 exact rfl)) | (apply za; (iterate 11 exact rfl)))
     | (apply we; first | apply qg | apply qh | apply qb | (apply qx; exact rfl; exact rfl) | (apply qr; exact rfl; first | (apply jn; (first | assumption | omega)) | (apply jq; (first | assumption | omega)) | (apply jo; (first | exact rfl | assumption)) | (apply jr; (first | exact rfl | assumption)) | (apply pk_t; (first | exact rfl | assumption)) | (apply pk_f; (first | exact rfl | assumption))) | (apply qy; exact rfl; exact rfl) | apply jj | (apply zj; exact rfl; exact rfl) | (apply j4; (iterate 4 exact rfl)) | (apply kh; (iterate 3 exact rfl)) | (apply j6; (iterate 3 exact rfl); first | assumption | omega | (simp; omega)) | (apply zt; (iterate 3 exact rfl)) | (apply zr; (iterate 9 exact rfl)) | (apply zv; exact rfl; exact rfl) | (apply jy; (iterate 4 exact rfl); (first | assumption | omega | decide); exact rfl) | (apply zx; (iterate 4 exact rfl); first | assumption | omega | decide))
     | (apply q4 (n := j); (iterate 4 exact rfl); omega; exact hget))
    exact qi rfl (zf rfl) ⟨congrArg Bv (by simp [h3, h4]), _, rfl⟩
theorem qp6 {L : List LnV} {k : Nat} {x : LnV} (h : L[k]? = some x) : (L.drop k).map qb2 = (x.text, x.ended) :: (L.drop (k + 1)).map qb2 := by
 obtain ⟨hlt, he⟩ := List.getElem?_eq_some_iff.1 h
 rw [List.drop_eq_getElem_cons hlt, he]
 rfl
def qfc (L : List LnV) (i : Nat) (x : LnV) : List qa := x.text :: xj ((L.drop (i + 1)).map qb2)
theorem qsd : ∀ (r : List (qa × Bool)), (xj r).length ≤ r.length
 | [] => by simp [xj]
 | (t, e) :: r => by
  have := qsd r
  rw [xj]
  split <;> simp <;> omega
theorem qrf : ∀ {r : List (qa × Bool)} {n : Nat}, (∀ p ∈ r, p.1.length ≤ n) → ∀ s ∈ xj r, s.length ≤ n
 | [], _, _, s, hs => by simp [xj] at hs
 | (t, e) :: r, n, h, s, hs => by
  rw [xj] at hs
  split at hs
  ·rcases List.mem_cons.1 hs with rfl | hs
   ·exact h (s, e) (by simp)
   ·exact qrf (fun p hp => h p (by simp [hp])) s hs
  ·simp at hs
structure LnsB (L : List LnV) : Prop where
 len : L.length < 100000
 val : ∀ x ∈ L, x.text.length < 100000
theorem LnsB.said {L : List LnV} (h : LnsB L) {i : Nat} {x : LnV} (hx : L[i]? = some x) : LsB (qfc L i x) := by
 have h1 := qsd ((L.drop (i + 1)).map qb2)
 have h2 := h.len
 have h3 := h.val x (List.mem_of_getElem? hx)
 refine ⟨?_, fun s hs => ?_⟩
 ·unfold qfc
  simp at h1 ⊢
  omega
 ·rcases List.mem_cons.1 hs with rfl | hs
  ·omega
  ·have := qrf (n := 100000) (fun p hp => by
    obtain ⟨y, hy, rfl⟩ := List.mem_map.1 hp
    have := h.val y (List.mem_of_mem_drop hy)
    simp only [qb2]
    omega) s hs
   omega
set_option maxHeartbeats 2000000 in
theorem qlp (L : List LnV) (i : Nat) (x : LnV) (st : List AObj) (hL : LnsB L) (hx : L[i]? = some x) : qt E 95 [lnsA L, qh1 L, Iv i] st fun r st' => r = Ss (qfc L i x) ∧ st' = st := by
 refine zg (qov _) (qv Tryz.func95 rfl (Nat.le_of_ble_eq_true rfl) ?_)
 have hLl := hL.len
 have hil := lt_of_getElem? hx
 have hget := qid hx
 have hml : (L.map lnA).length = L.length := by simp
 repeat' (first
  | (apply qab; (iterate 6 exact rfl))
  | (apply wh; first | apply qj | apply qp | apply qc | (apply qe; exact rfl; first | (apply q5; (first | assumption | omega)) | (apply q6; (first | assumption | omega)) | (apply q7; (first | exact rfl | assumption)) | (apply q8; (first | exact rfl | assumption)) | (apply cd_n <;> intro h) | (apply cd_t; (first | exact rfl | assumption)) | (apply cd_f; (first | exact rfl | assumption)) | (apply cd_d <;> intro h) | (apply cd_s <;> intro h)) | (apply v4; exact rfl; kernel_rfl) | apply qs | apply z6 | apply qq)
  | (apply vc; first | (apply qo; (iterate 4 exact rfl)) | (apply zw; (iterate 4 exact rfl)))
  | (apply wu; first | (apply vh; (first | assumption | omega)) | (apply jv; (first | assumption | omega)) | (apply jt; (first | assumption | omega)) | (apply ko; (first | assumption | omega)) | (apply vo; (first | exact rfl | assumption)) | (apply j3; (first | exact rfl | assumption)) | (apply jx; (first | exact rfl | assumption)) | (apply kr; (first | exact rfl | assumption)) | (apply kj <;> intro h) | (apply kg; (first | exact rfl | assumption)) | (apply vn; (first | exact rfl | assumption)) | (apply jw; (first | exact rfl | assumption)) | (apply ju; (first | exact rfl | assumption)) | (apply je <;> intro h) | (apply vm <;> intro h))
  | (apply wx; first | apply w7 | (apply wy; (iterate 4 exact rfl)) | (apply xu; exact rfl; exact rfl; exact ql (by omega) (by omega)) | (apply ww; (iterate 4 exact rfl); (first | assumption | omega | (simp; omega)); first | assumption | omega | (simp; omega)) | (apply ke; (iterate 5 exact rfl)) | (apply vp; exact rfl; exact rfl; (first | omega | (simp only [List.length_append, List.length_cons, List.length_nil]; omega) | (simp; omega))) | (apply kp; (iterate 3 exact rfl)) | (apply j7; (iterate 5 exact rfl)) | (apply jb; (iterate 4 exact rfl)) | (apply ja; (iterate 3 exact rfl)) | (apply xk; (iterate 3 exact rfl); first | assumption | omega | (simp; omega)) | (apply wq; exact rfl; exact rfl) | (apply wc; exact rfl; exact rfl) | (apply wb; (iterate 3 exact rfl); omega) | (apply vq; (iterate 3 exact rfl)) | apply wg | apply vk | (apply xo; exact rfl; exact rfl; exact ql (by omega) (by omega)) | (apply wv; (iterate 3 exact rfl)) | (apply wl; (iterate 3 exact rfl); first | assumption | omega | (simp; omega)) | (apply wn; (iterate 3 exact rfl); first | assumption | omega | (simp; omega)) | (apply kv; exact rfl; exact rfl))
  | (apply vb; first | (apply qm; (iterate 3 exact rfl)) | (apply z0; (iterate 3 exact rfl)) | (apply zq; exact rfl; exact rfl; (first | omega | (simp only [List.length_append, List.length_cons, List.length_nil]; omega) | (simp; omega))) | (apply zy; exact rfl; exact rfl; exact ql (by omega) (by omega)) | (apply vl; exact rfl; exact rfl; exact ql (by omega) (by omega)) | (apply zo; exact rfl; exact rfl) | (apply zl; exact rfl; exact rfl) | (apply z8; exact rfl; exact rfl) | (apply jg; exact rfl; exact rfl) | (apply jd; (iterate 3 exact rfl)) | (apply ji; (iterate 3 exact rfl)) | (apply ka; exact rfl; exact rfl; (first | exact qd _ | exact rfl); first | exact qd _ | exact rfl) | (apply km; exact rfl; exact rfl; (first | exact qd _ | exact rfl); first | exact qd _ | exact rfl) | (apply vv; exact rfl; exact rfl; (first | exact qd _ | exact rfl); first | exact qd _ | exact rfl) | (apply j5; (iterate 3 exact rfl)) | (apply kc; (iterate 3 exact rfl)))
  | (apply vr; first | (apply zc; (iterate 3 exact rfl)) | (apply jk; (iterate 5 exact rfl)) | (apply ze; (iterate 5 exact rfl)))
  | (apply vw; first | (apply ku; exact rfl) | (apply z7; exact rfl) | (apply jl; exact rfl))
  | (apply vd; first | (apply vf; (iterate 3 exact rfl); first | assumption | omega | (simp; omega)) | (apply kf; (iterate 3 exact rfl); first | assumption | omega | (simp; omega)) | (apply vj; (iterate 4 exact rfl); (first | assumption | omega | (simp; omega)); first | assumption | omega | (simp; omega)) | (apply jc; (iterate 4 exact rfl); (first | assumption | omega | exact Nat.succ_le_succ (Nat.zero_le _) | (simp; omega)); exact rfl))
  | (apply vz; first | (apply z2; (iterate 3 exact rfl)) | (apply zk; (iterate 4 exact rfl)))
  | (apply jh; first | (apply qu; (iterate 3 exact rfl)) | (apply zn; (iterate 4 exact rfl)))
  | (apply va; first | (apply zm; (iterate 11 exact rfl)) | (apply za; (iterate 11 exact rfl)))
  | (apply we; first | apply qg | apply qh | apply qb | (apply qx; exact rfl; exact rfl) | (apply qr; exact rfl; first | (apply jn; (first | assumption | omega)) | (apply jq; (first | assumption | omega)) | (apply jo; (first | exact rfl | assumption)) | (apply jr; (first | exact rfl | assumption)) | (apply pk_t; (first | exact rfl | assumption)) | (apply pk_f; (first | exact rfl | assumption))) | (apply qy; exact rfl; exact rfl) | apply jj | (apply zj; exact rfl; exact rfl) | (apply j4; (iterate 4 exact rfl)) | (apply kh; (iterate 3 exact rfl)) | (apply j6; (iterate 3 exact rfl); first | assumption | omega | (simp; omega)) | (apply zt; (iterate 3 exact rfl)) | (apply zr; (iterate 9 exact rfl)) | (apply zv; exact rfl; exact rfl) | (apply jy; (iterate 4 exact rfl); (first | assumption | omega | decide); exact rfl) | (apply zx; (iterate 4 exact rfl); first | assumption | omega | decide))
  | (apply q4 (n := i); (iterate 5 exact rfl); exact hget))
 refine qkn 7 (o := st.length + 0) (sz := 1) (len := 1) (cap := 1) (xs := [Sv x.text]) (T' := 9) rfl (vg rfl) rfl rfl (by omega) (Nat.le_refl _) (by decide) (by simp [AV.cells]) rfl ?_
 repeat' (first
  | (apply wh; first | apply qj | apply qp | apply qc | (apply qe; exact rfl; first | (apply q5; (first | assumption | omega)) | (apply q6; (first | assumption | omega)) | (apply q7; (first | exact rfl | assumption)) | (apply q8; (first | exact rfl | assumption)) | (apply cd_n <;> intro h) | (apply cd_t; (first | exact rfl | assumption)) | (apply cd_f; (first | exact rfl | assumption)) | (apply cd_d <;> intro h) | (apply cd_s <;> intro h)) | (apply v4; exact rfl; kernel_rfl) | apply qs | apply z6 | apply qq)
  | (apply vc; first | (apply qo; (iterate 4 exact rfl)) | (apply zw; (iterate 4 exact rfl)))
  | (apply wu; first | (apply vh; (first | assumption | omega)) | (apply jv; (first | assumption | omega)) | (apply jt; (first | assumption | omega)) | (apply ko; (first | assumption | omega)) | (apply vo; (first | exact rfl | assumption)) | (apply j3; (first | exact rfl | assumption)) | (apply jx; (first | exact rfl | assumption)) | (apply kr; (first | exact rfl | assumption)) | (apply kj <;> intro h) | (apply kg; (first | exact rfl | assumption)) | (apply vn; (first | exact rfl | assumption)) | (apply jw; (first | exact rfl | assumption)) | (apply ju; (first | exact rfl | assumption)) | (apply je <;> intro h) | (apply vm <;> intro h))
  | (apply wx; first | apply w7 | (apply wy; (iterate 4 exact rfl)) | (apply xu; exact rfl; exact rfl; exact ql (by omega) (by omega)) | (apply ww; (iterate 4 exact rfl); (first | assumption | omega | (simp; omega)); first | assumption | omega | (simp; omega)) | (apply ke; (iterate 5 exact rfl)) | (apply vp; exact rfl; exact rfl; (first | omega | (simp only [List.length_append, List.length_cons, List.length_nil]; omega) | (simp; omega))) | (apply kp; (iterate 3 exact rfl)) | (apply j7; (iterate 5 exact rfl)) | (apply jb; (iterate 4 exact rfl)) | (apply ja; (iterate 3 exact rfl)) | (apply xk; (iterate 3 exact rfl); first | assumption | omega | (simp; omega)) | (apply wq; exact rfl; exact rfl) | (apply wc; exact rfl; exact rfl) | (apply wb; (iterate 3 exact rfl); omega) | (apply vq; (iterate 3 exact rfl)) | apply wg | apply vk | (apply xo; exact rfl; exact rfl; exact ql (by omega) (by omega)) | (apply wv; (iterate 3 exact rfl)) | (apply wl; (iterate 3 exact rfl); first | assumption | omega | (simp; omega)) | (apply wn; (iterate 3 exact rfl); first | assumption | omega | (simp; omega)) | (apply kv; exact rfl; exact rfl))
  | (apply vb; first | (apply qm; (iterate 3 exact rfl)) | (apply z0; (iterate 3 exact rfl)) | (apply zq; exact rfl; exact rfl; (first | omega | (simp only [List.length_append, List.length_cons, List.length_nil]; omega) | (simp; omega))) | (apply zy; exact rfl; exact rfl; exact ql (by omega) (by omega)) | (apply vl; exact rfl; exact rfl; exact ql (by omega) (by omega)) | (apply zo; exact rfl; exact rfl) | (apply zl; exact rfl; exact rfl) | (apply z8; exact rfl; exact rfl) | (apply jg; exact rfl; exact rfl) | (apply jd; (iterate 3 exact rfl)) | (apply ji; (iterate 3 exact rfl)) | (apply ka; exact rfl; exact rfl; (first | exact qd _ | exact rfl); first | exact qd _ | exact rfl) | (apply km; exact rfl; exact rfl; (first | exact qd _ | exact rfl); first | exact qd _ | exact rfl) | (apply vv; exact rfl; exact rfl; (first | exact qd _ | exact rfl); first | exact qd _ | exact rfl) | (apply j5; (iterate 3 exact rfl)) | (apply kc; (iterate 3 exact rfl)))
  | (apply vr; first | (apply zc; (iterate 3 exact rfl)) | (apply jk; (iterate 5 exact rfl)) | (apply ze; (iterate 5 exact rfl)))
  | (apply vw; first | (apply ku; exact rfl) | (apply z7; exact rfl) | (apply jl; exact rfl))
  | (apply vd; first | (apply vf; (iterate 3 exact rfl); first | assumption | omega | (simp; omega)) | (apply kf; (iterate 3 exact rfl); first | assumption | omega | (simp; omega)) | (apply vj; (iterate 4 exact rfl); (first | assumption | omega | (simp; omega)); first | assumption | omega | (simp; omega)) | (apply jc; (iterate 4 exact rfl); (first | assumption | omega | exact Nat.succ_le_succ (Nat.zero_le _) | (simp; omega)); exact rfl))
  | (apply vz; first | (apply z2; (iterate 3 exact rfl)) | (apply zk; (iterate 4 exact rfl)))
  | (apply jh; first | (apply qu; (iterate 3 exact rfl)) | (apply zn; (iterate 4 exact rfl)))
  | (apply va; first | (apply zm; (iterate 11 exact rfl)) | (apply za; (iterate 11 exact rfl)))
  | (apply we; first | apply qg | apply qh | apply qb | (apply qx; exact rfl; exact rfl) | (apply qr; exact rfl; first | (apply jn; (first | assumption | omega)) | (apply jq; (first | assumption | omega)) | (apply jo; (first | exact rfl | assumption)) | (apply jr; (first | exact rfl | assumption)) | (apply pk_t; (first | exact rfl | assumption)) | (apply pk_f; (first | exact rfl | assumption))) | (apply qy; exact rfl; exact rfl) | apply jj | (apply zj; exact rfl; exact rfl) | (apply j4; (iterate 4 exact rfl)) | (apply kh; (iterate 3 exact rfl)) | (apply j6; (iterate 3 exact rfl); first | assumption | omega | (simp; omega)) | (apply zt; (iterate 3 exact rfl)) | (apply zr; (iterate 9 exact rfl)) | (apply zv; exact rfl; exact rfl) | (apply jy; (iterate 4 exact rfl); (first | assumption | omega | decide); exact rfl) | (apply zx; (iterate 4 exact rfl); first | assumption | omega | decide)))
 refine xc (fun (k : Nat) s => i + 1 ≤ k ∧ k ≤ L.length ∧ ∃ acc : List qa, acc ++ xj ((L.drop k).map qb2) = qfc L i x ∧ acc.length + i = k ∧ StE [(0, lnsA L), (1, qh1 L), (7, .sl 1 (acc.map fun x => Sv x) (some (st.length + 0))), (8, Iv k)] st [.tip acc.length 1 9] s) (fun k => L.length - k) (i + 1) ⟨by omega, by omega, [x.text], rfl, by simp; omega, qci ⟨rfl, rfl, rfl, rfl, trivial⟩ (yf st _ 0 _)⟩ ?_
 rintro k _ ⟨hk1, hk2, acc, hacc, hal, t, ext, rfl⟩
 by_cases hk : k < L.length
 ·obtain ⟨y, hy⟩ : ∃ y, L[k]? = some y := ⟨_, List.getElem?_eq_getElem hk⟩
  have hgy := qid hy
  have hky := qg2 hy
  rw [qp6 hy] at hacc
  by_cases h3 : q9 y.text = 3
  ·rw [qfb h3] at hacc
   have hnl : (acc.map fun x => Sv x).length = acc.length := by simp
   repeat' (first
    | (apply wh; first | apply qj | apply qp | apply qc | (apply qe; exact rfl; first | (apply q5; (first | assumption | omega)) | (apply q6; (first | assumption | omega)) | (apply q7; (first | exact rfl | assumption)) | (apply q8; (first | exact rfl | assumption)) | (apply cd_n <;> intro h) | (apply cd_t; (first | exact rfl | assumption)) | (apply cd_f; (first | exact rfl | assumption)) | (apply cd_d <;> intro h) | (apply cd_s <;> intro h)) | (apply v4; exact rfl; kernel_rfl) | apply qs | apply z6 | apply qq)
    | (apply vc; first | (apply qo; (iterate 4 exact rfl)) | (apply zw; (iterate 4 exact rfl)))
    | (apply wu; first | (apply vh; (first | assumption | omega)) | (apply jv; (first | assumption | omega)) | (apply jt; (first | assumption | omega)) | (apply ko; (first | assumption | omega)) | (apply vo; (first | exact rfl | assumption)) | (apply j3; (first | exact rfl | assumption)) | (apply jx; (first | exact rfl | assumption)) | (apply kr; (first | exact rfl | assumption)) | (apply kj <;> intro h) | (apply kg; (first | exact rfl | assumption)) | (apply vn; (first | exact rfl | assumption)) | (apply jw; (first | exact rfl | assumption)) | (apply ju; (first | exact rfl | assumption)) | (apply je <;> intro h) | (apply vm <;> intro h))
    | (apply wx; first | apply w7 | (apply wy; (iterate 4 exact rfl)) | (apply xu; exact rfl; exact rfl; exact ql (by omega) (by omega)) | (apply ww; (iterate 4 exact rfl); (first | assumption | omega | (simp; omega)); first | assumption | omega | (simp; omega)) | (apply ke; (iterate 5 exact rfl)) | (apply vp; exact rfl; exact rfl; (first | omega | (simp only [List.length_append, List.length_cons, List.length_nil]; omega) | (simp; omega))) | (apply kp; (iterate 3 exact rfl)) | (apply j7; (iterate 5 exact rfl)) | (apply jb; (iterate 4 exact rfl)) | (apply ja; (iterate 3 exact rfl)) | (apply xk; (iterate 3 exact rfl); first | assumption | omega | (simp; omega)) | (apply wq; exact rfl; exact rfl) | (apply wc; exact rfl; exact rfl) | (apply wb; (iterate 3 exact rfl); omega) | (apply vq; (iterate 3 exact rfl)) | apply wg | apply vk | (apply xo; exact rfl; exact rfl; exact ql (by omega) (by omega)) | (apply wv; (iterate 3 exact rfl)) | (apply wl; (iterate 3 exact rfl); first | assumption | omega | (simp; omega)) | (apply wn; (iterate 3 exact rfl); first | assumption | omega | (simp; omega)) | (apply kv; exact rfl; exact rfl))
    | (apply vb; first | (apply qm; (iterate 3 exact rfl)) | (apply z0; (iterate 3 exact rfl)) | (apply zq; exact rfl; exact rfl; (first | omega | (simp only [List.length_append, List.length_cons, List.length_nil]; omega) | (simp; omega))) | (apply zy; exact rfl; exact rfl; exact ql (by omega) (by omega)) | (apply vl; exact rfl; exact rfl; exact ql (by omega) (by omega)) | (apply zo; exact rfl; exact rfl) | (apply zl; exact rfl; exact rfl) | (apply z8; exact rfl; exact rfl) | (apply jg; exact rfl; exact rfl) | (apply jd; (iterate 3 exact rfl)) | (apply ji; (iterate 3 exact rfl)) | (apply ka; exact rfl; exact rfl; (first | exact qd _ | exact rfl); first | exact qd _ | exact rfl) | (apply km; exact rfl; exact rfl; (first | exact qd _ | exact rfl); first | exact qd _ | exact rfl) | (apply vv; exact rfl; exact rfl; (first | exact qd _ | exact rfl); first | exact qd _ | exact rfl) | (apply j5; (iterate 3 exact rfl)) | (apply kc; (iterate 3 exact rfl)))
    | (apply vr; first | (apply zc; (iterate 3 exact rfl)) | (apply jk; (iterate 5 exact rfl)) | (apply ze; (iterate 5 exact rfl)))
    | (apply vw; first | (apply ku; exact rfl) | (apply z7; exact rfl) | (apply jl; exact rfl))
    | (apply vd; first | (apply vf; (iterate 3 exact rfl); first | assumption | omega | (simp; omega)) | (apply kf; (iterate 3 exact rfl); first | assumption | omega | (simp; omega)) | (apply vj; (iterate 4 exact rfl); (first | assumption | omega | (simp; omega)); first | assumption | omega | (simp; omega)) | (apply jc; (iterate 4 exact rfl); (first | assumption | omega | exact Nat.succ_le_succ (Nat.zero_le _) | (simp; omega)); exact rfl))
    | (apply vz; first | (apply z2; (iterate 3 exact rfl)) | (apply zk; (iterate 4 exact rfl)))
    | (apply jh; first | (apply qu; (iterate 3 exact rfl)) | (apply zn; (iterate 4 exact rfl)))
    | (apply va; first | (apply zm; (iterate 11 exact rfl)) | (apply za; (iterate 11 exact rfl)))
    | (apply we; first | apply qg | apply qh | apply qb | (apply qx; exact rfl; exact rfl) | (apply qr; exact rfl; first | (apply jn; (first | assumption | omega)) | (apply jq; (first | assumption | omega)) | (apply jo; (first | exact rfl | assumption)) | (apply jr; (first | exact rfl | assumption)) | (apply pk_t; (first | exact rfl | assumption)) | (apply pk_f; (first | exact rfl | assumption))) | (apply qy; exact rfl; exact rfl) | apply jj | (apply zj; exact rfl; exact rfl) | (apply j4; (iterate 4 exact rfl)) | (apply kh; (iterate 3 exact rfl)) | (apply j6; (iterate 3 exact rfl); first | assumption | omega | (simp; omega)) | (apply zt; (iterate 3 exact rfl)) | (apply zr; (iterate 9 exact rfl)) | (apply zv; exact rfl; exact rfl) | (apply jy; (iterate 4 exact rfl); (first | assumption | omega | decide); exact rfl) | (apply zx; (iterate 4 exact rfl); first | assumption | omega | decide))
    | (apply q4 (n := k); (iterate 5 exact rfl); exact hgy)
    | (apply q4 (n := k); (iterate 5 exact rfl); exact hky)
    | (apply qbf (n := acc.length) (m := 1) (sz := 1) (bytes := 16); (iterate 4 exact rfl); exact hnl; exact rfl; exact rfl; exact ⟨⟨_, _, rfl, rfl, rfl, rfl, rfl⟩⟩; exact rfl; exact rfl; (unfold maxLen; omega); omega; exact rfl))
   refine ⟨k + 1, ⟨by omega, by omega, acc ++ [y.text], by simpa using hacc, by simp; omega, qal ⟨rfl, rfl, ?_, rfl, trivial⟩ ?_⟩, by omega⟩
   ·have e : AV.sl 1 ((acc.map fun x => Sv x) ++ [Sv y.text]) (some (st.length + 0)) = .sl 1 ((acc ++ [y.text]).map fun x => Sv x) (some (st.length + 0)) := by simp
    exact e
   ·rw [List.length_append]
    rfl
  ·rw [qij h3, List.append_nil] at hacc
   repeat' (first
    | (apply wh; first | apply qj | apply qp | apply qc | (apply qe; exact rfl; first | (apply q5; (first | assumption | omega)) | (apply q6; (first | assumption | omega)) | (apply q7; (first | exact rfl | assumption)) | (apply q8; (first | exact rfl | assumption)) | (apply cd_n <;> intro h) | (apply cd_t; (first | exact rfl | assumption)) | (apply cd_f; (first | exact rfl | assumption)) | (apply cd_d <;> intro h) | (apply cd_s <;> intro h)) | (apply v4; exact rfl; kernel_rfl) | apply qs | apply z6 | apply qq)
    | (apply vc; first | (apply qo; (iterate 4 exact rfl)) | (apply zw; (iterate 4 exact rfl)))
    | (apply wu; first | (apply vh; (first | assumption | omega)) | (apply jv; (first | assumption | omega)) | (apply jt; (first | assumption | omega)) | (apply ko; (first | assumption | omega)) | (apply vo; (first | exact rfl | assumption)) | (apply j3; (first | exact rfl | assumption)) | (apply jx; (first | exact rfl | assumption)) | (apply kr; (first | exact rfl | assumption)) | (apply kj <;> intro h) | (apply kg; (first | exact rfl | assumption)) | (apply vn; (first | exact rfl | assumption)) | (apply jw; (first | exact rfl | assumption)) | (apply ju; (first | exact rfl | assumption)) | (apply je <;> intro h) | (apply vm <;> intro h))
    | (apply wx; first | apply w7 | (apply wy; (iterate 4 exact rfl)) | (apply xu; exact rfl; exact rfl; exact ql (by omega) (by omega)) | (apply ww; (iterate 4 exact rfl); (first | assumption | omega | (simp; omega)); first | assumption | omega | (simp; omega)) | (apply ke; (iterate 5 exact rfl)) | (apply vp; exact rfl; exact rfl; (first | omega | (simp only [List.length_append, List.length_cons, List.length_nil]; omega) | (simp; omega))) | (apply kp; (iterate 3 exact rfl)) | (apply j7; (iterate 5 exact rfl)) | (apply jb; (iterate 4 exact rfl)) | (apply ja; (iterate 3 exact rfl)) | (apply xk; (iterate 3 exact rfl); first | assumption | omega | (simp; omega)) | (apply wq; exact rfl; exact rfl) | (apply wc; exact rfl; exact rfl) | (apply wb; (iterate 3 exact rfl); omega) | (apply vq; (iterate 3 exact rfl)) | apply wg | apply vk | (apply xo; exact rfl; exact rfl; exact ql (by omega) (by omega)) | (apply wv; (iterate 3 exact rfl)) | (apply wl; (iterate 3 exact rfl); first | assumption | omega | (simp; omega)) | (apply wn; (iterate 3 exact rfl); first | assumption | omega | (simp; omega)) | (apply kv; exact rfl; exact rfl))
    | (apply vb; first | (apply qm; (iterate 3 exact rfl)) | (apply z0; (iterate 3 exact rfl)) | (apply zq; exact rfl; exact rfl; (first | omega | (simp only [List.length_append, List.length_cons, List.length_nil]; omega) | (simp; omega))) | (apply zy; exact rfl; exact rfl; exact ql (by omega) (by omega)) | (apply vl; exact rfl; exact rfl; exact ql (by omega) (by omega)) | (apply zo; exact rfl; exact rfl) | (apply zl; exact rfl; exact rfl) | (apply z8; exact rfl; exact rfl) | (apply jg; exact rfl; exact rfl) | (apply jd; (iterate 3 exact rfl)) | (apply ji; (iterate 3 exact rfl)) | (apply ka; exact rfl; exact rfl; (first | exact qd _ | exact rfl); first | exact qd _ | exact rfl) | (apply km; exact rfl; exact rfl; (first | exact qd _ | exact rfl); first | exact qd _ | exact rfl) | (apply vv; exact rfl; exact rfl; (first | exact qd _ | exact rfl); first | exact qd _ | exact rfl) | (apply j5; (iterate 3 exact rfl)) | (apply kc; (iterate 3 exact rfl)))
    | (apply vr; first | (apply zc; (iterate 3 exact rfl)) | (apply jk; (iterate 5 exact rfl)) | (apply ze; (iterate 5 exact rfl)))
    | (apply vw; first | (apply ku; exact rfl) | (apply z7; exact rfl) | (apply jl; exact rfl))
    | (apply vd; first | (apply vf; (iterate 3 exact rfl); first | assumption | omega | (simp; omega)) | (apply kf; (iterate 3 exact rfl); first | assumption | omega | (simp; omega)) | (apply vj; (iterate 4 exact rfl); (first | assumption | omega | (simp; omega)); first | assumption | omega | (simp; omega)) | (apply jc; (iterate 4 exact rfl); (first | assumption | omega | exact Nat.succ_le_succ (Nat.zero_le _) | (simp; omega)); exact rfl))
    | (apply vz; first | (apply z2; (iterate 3 exact rfl)) | (apply zk; (iterate 4 exact rfl)))
    | (apply jh; first | (apply qu; (iterate 3 exact rfl)) | (apply zn; (iterate 4 exact rfl)))
    | (apply va; first | (apply zm; (iterate 11 exact rfl)) | (apply za; (iterate 11 exact rfl)))
    | (apply we; first | apply qg | apply qh | apply qb | (apply qx; exact rfl; exact rfl) | (apply qr; exact rfl; first | (apply jn; (first | assumption | omega)) | (apply jq; (first | assumption | omega)) | (apply jo; (first | exact rfl | assumption)) | (apply jr; (first | exact rfl | assumption)) | (apply pk_t; (first | exact rfl | assumption)) | (apply pk_f; (first | exact rfl | assumption))) | (apply qy; exact rfl; exact rfl) | apply jj | (apply zj; exact rfl; exact rfl) | (apply j4; (iterate 4 exact rfl)) | (apply kh; (iterate 3 exact rfl)) | (apply j6; (iterate 3 exact rfl); first | assumption | omega | (simp; omega)) | (apply zt; (iterate 3 exact rfl)) | (apply zr; (iterate 9 exact rfl)) | (apply zv; exact rfl; exact rfl) | (apply jy; (iterate 4 exact rfl); (first | assumption | omega | decide); exact rfl) | (apply zx; (iterate 4 exact rfl); first | assumption | omega | decide))
    | (apply q4 (n := k); (iterate 5 exact rfl); exact hky))
   exact qi rfl (qoi rfl rfl (qeh _ _ _)) ⟨by rw [← hacc], xh _ _ _ _⟩
 ·have e : (L.drop k).map qb2 = [] := by rw [List.drop_eq_nil_of_le (by omega)]; rfl
  rw [e, xj, List.append_nil] at hacc
  repeat' (first
   | (apply wh; first | apply qj | apply qp | apply qc | (apply qe; exact rfl; first | (apply q5; (first | assumption | omega)) | (apply q6; (first | assumption | omega)) | (apply q7; (first | exact rfl | assumption)) | (apply q8; (first | exact rfl | assumption)) | (apply cd_n <;> intro h) | (apply cd_t; (first | exact rfl | assumption)) | (apply cd_f; (first | exact rfl | assumption)) | (apply cd_d <;> intro h) | (apply cd_s <;> intro h)) | (apply v4; exact rfl; kernel_rfl) | apply qs | apply z6 | apply qq)
   | (apply vc; first | (apply qo; (iterate 4 exact rfl)) | (apply zw; (iterate 4 exact rfl)))
   | (apply wu; first | (apply vh; (first | assumption | omega)) | (apply jv; (first | assumption | omega)) | (apply jt; (first | assumption | omega)) | (apply ko; (first | assumption | omega)) | (apply vo; (first | exact rfl | assumption)) | (apply j3; (first | exact rfl | assumption)) | (apply jx; (first | exact rfl | assumption)) | (apply kr; (first | exact rfl | assumption)) | (apply kj <;> intro h) | (apply kg; (first | exact rfl | assumption)) | (apply vn; (first | exact rfl | assumption)) | (apply jw; (first | exact rfl | assumption)) | (apply ju; (first | exact rfl | assumption)) | (apply je <;> intro h) | (apply vm <;> intro h))
   | (apply wx; first | apply w7 | (apply wy; (iterate 4 exact rfl)) | (apply xu; exact rfl; exact rfl; exact ql (by omega) (by omega)) | (apply ww; (iterate 4 exact rfl); (first | assumption | omega | (simp; omega)); first | assumption | omega | (simp; omega)) | (apply ke; (iterate 5 exact rfl)) | (apply vp; exact rfl; exact rfl; (first | omega | (simp only [List.length_append, List.length_cons, List.length_nil]; omega) | (simp; omega))) | (apply kp; (iterate 3 exact rfl)) | (apply j7; (iterate 5 exact rfl)) | (apply jb; (iterate 4 exact rfl)) | (apply ja; (iterate 3 exact rfl)) | (apply xk; (iterate 3 exact rfl); first | assumption | omega | (simp; omega)) | (apply wq; exact rfl; exact rfl) | (apply wc; exact rfl; exact rfl) | (apply wb; (iterate 3 exact rfl); omega) | (apply vq; (iterate 3 exact rfl)) | apply wg | apply vk | (apply xo; exact rfl; exact rfl; exact ql (by omega) (by omega)) | (apply wv; (iterate 3 exact rfl)) | (apply wl; (iterate 3 exact rfl); first | assumption | omega | (simp; omega)) | (apply wn; (iterate 3 exact rfl); first | assumption | omega | (simp; omega)) | (apply kv; exact rfl; exact rfl))
   | (apply vb; first | (apply qm; (iterate 3 exact rfl)) | (apply z0; (iterate 3 exact rfl)) | (apply zq; exact rfl; exact rfl; (first | omega | (simp only [List.length_append, List.length_cons, List.length_nil]; omega) | (simp; omega))) | (apply zy; exact rfl; exact rfl; exact ql (by omega) (by omega)) | (apply vl; exact rfl; exact rfl; exact ql (by omega) (by omega)) | (apply zo; exact rfl; exact rfl) | (apply zl; exact rfl; exact rfl) | (apply z8; exact rfl; exact rfl) | (apply jg; exact rfl; exact rfl) | (apply jd; (iterate 3 exact rfl)) | (apply ji; (iterate 3 exact rfl)) | (apply ka; exact rfl; exact rfl; (first | exact qd _ | exact rfl); first | exact qd _ | exact rfl) | (apply km; exact rfl; exact rfl; (first | exact qd _ | exact rfl); first | exact qd _ | exact rfl) | (apply vv; exact rfl; exact rfl; (first | exact qd _ | exact rfl); first | exact qd _ | exact rfl) | (apply j5; (iterate 3 exact rfl)) | (apply kc; (iterate 3 exact rfl)))
   | (apply vr; first | (apply zc; (iterate 3 exact rfl)) | (apply jk; (iterate 5 exact rfl)) | (apply ze; (iterate 5 exact rfl)))
   | (apply vw; first | (apply ku; exact rfl) | (apply z7; exact rfl) | (apply jl; exact rfl))
   | (apply vd; first | (apply vf; (iterate 3 exact rfl); first | assumption | omega | (simp; omega)) | (apply kf; (iterate 3 exact rfl); first | assumption | omega | (simp; omega)) | (apply vj; (iterate 4 exact rfl); (first | assumption | omega | (simp; omega)); first | assumption | omega | (simp; omega)) | (apply jc; (iterate 4 exact rfl); (first | assumption | omega | exact Nat.succ_le_succ (Nat.zero_le _) | (simp; omega)); exact rfl))
   | (apply vz; first | (apply z2; (iterate 3 exact rfl)) | (apply zk; (iterate 4 exact rfl)))
   | (apply jh; first | (apply qu; (iterate 3 exact rfl)) | (apply zn; (iterate 4 exact rfl)))
   | (apply va; first | (apply zm; (iterate 11 exact rfl)) | (apply za; (iterate 11 exact rfl)))
   | (apply we; first | apply qg | apply qh | apply qb | (apply qx; exact rfl; exact rfl) | (apply qr; exact rfl; first | (apply jn; (first | assumption | omega)) | (apply jq; (first | assumption | omega)) | (apply jo; (first | exact rfl | assumption)) | (apply jr; (first | exact rfl | assumption)) | (apply pk_t; (first | exact rfl | assumption)) | (apply pk_f; (first | exact rfl | assumption))) | (apply qy; exact rfl; exact rfl) | apply jj | (apply zj; exact rfl; exact rfl) | (apply j4; (iterate 4 exact rfl)) | (apply kh; (iterate 3 exact rfl)) | (apply j6; (iterate 3 exact rfl); first | assumption | omega | (simp; omega)) | (apply zt; (iterate 3 exact rfl)) | (apply zr; (iterate 9 exact rfl)) | (apply zv; exact rfl; exact rfl) | (apply jy; (iterate 4 exact rfl); (first | assumption | omega | decide); exact rfl) | (apply zx; (iterate 4 exact rfl); first | assumption | omega | decide)))
  exact qi rfl (qoi rfl rfl (qeh _ _ _)) ⟨by rw [← hacc], xh _ _ _ _⟩
set_option maxHeartbeats 2000000 in
theorem qst (L : List LnV) (i : Nat) (x : LnV) (n : Nat) (rec : Int) (st : List AObj) (hL : LnsB L) (hx : L[i]? = some x) : qt E 94 [lnsA L, qh1 L, Iv i, Iv n, Iv rec] st fun r st' => r = Iv (yb (qez L i) x.text x.ended ((L.drop (i + 1)).map qb2) n rec) ∧ st' = st := by
 refine zg (zi _) (qv Tryz.func94 rfl (Nat.le_of_ble_eq_true rfl) ?_)
 have hLl := hL.len
 have hil := lt_of_getElem? hx
 have hgy := qid hx
 have hky := qg2 hx
 have hbe := fun st => qq4 L i st (by omega) (by omega)
 have hsa := fun st => qlp L i x st hL hx
 have hun := fun st => qlh (qfc L i x) st (hL.said hx)
 unfold y0 at hun
 unfold yb
 generalize qez L i = pv at hbe
 have hsd : qfc L i x = x.text :: xj ((L.drop (i + 1)).map qb2) := rfl
 rw [← hsd]
 obtain ⟨xn, xa, xt, xe⟩ := x
 simp only at *
 by_cases h5 : q9 xt = 5
 ·rw [if_pos (.inl h5)]
  repeat' (first
   | (apply wh; first | apply qj | apply qp | apply qc | (apply qe; exact rfl; first | (apply q5; (first | assumption | omega)) | (apply q6; (first | assumption | omega)) | (apply q7; (first | exact rfl | assumption)) | (apply q8; (first | exact rfl | assumption)) | (apply cd_n <;> intro h) | (apply cd_t; (first | exact rfl | assumption)) | (apply cd_f; (first | exact rfl | assumption)) | (apply cd_d <;> intro h) | (apply cd_s <;> intro h)) | (apply v4; exact rfl; kernel_rfl) | apply qs | apply z6 | apply qq)
   | (apply vc; first | (apply qo; (iterate 4 exact rfl)) | (apply zw; (iterate 4 exact rfl)))
   | (apply wu; first | (apply vh; (first | assumption | omega)) | (apply jv; (first | assumption | omega)) | (apply jt; (first | assumption | omega)) | (apply ko; (first | assumption | omega)) | (apply vo; (first | exact rfl | assumption)) | (apply j3; (first | exact rfl | assumption)) | (apply jx; (first | exact rfl | assumption)) | (apply kr; (first | exact rfl | assumption)) | (apply kj <;> intro h) | (apply kg; (first | exact rfl | assumption)) | (apply vn; (first | exact rfl | assumption)) | (apply jw; (first | exact rfl | assumption)) | (apply ju; (first | exact rfl | assumption)) | (apply je <;> intro h) | (apply vm <;> intro h))
   | (apply wx; first | apply w7 | (apply wy; (iterate 4 exact rfl)) | (apply xu; exact rfl; exact rfl; exact ql (by omega) (by omega)) | (apply ww; (iterate 4 exact rfl); (first | assumption | omega | (simp; omega)); first | assumption | omega | (simp; omega)) | (apply ke; (iterate 5 exact rfl)) | (apply vp; exact rfl; exact rfl; (first | omega | (simp only [List.length_append, List.length_cons, List.length_nil]; omega) | (simp; omega))) | (apply kp; (iterate 3 exact rfl)) | (apply j7; (iterate 5 exact rfl)) | (apply jb; (iterate 4 exact rfl)) | (apply ja; (iterate 3 exact rfl)) | (apply xk; (iterate 3 exact rfl); first | assumption | omega | (simp; omega)) | (apply wq; exact rfl; exact rfl) | (apply wc; exact rfl; exact rfl) | (apply wb; (iterate 3 exact rfl); omega) | (apply vq; (iterate 3 exact rfl)) | apply wg | apply vk | (apply xo; exact rfl; exact rfl; exact ql (by omega) (by omega)) | (apply wv; (iterate 3 exact rfl)) | (apply wl; (iterate 3 exact rfl); first | assumption | omega | (simp; omega)) | (apply wn; (iterate 3 exact rfl); first | assumption | omega | (simp; omega)) | (apply kv; exact rfl; exact rfl))
   | (apply vb; first | (apply qm; (iterate 3 exact rfl)) | (apply z0; (iterate 3 exact rfl)) | (apply zq; exact rfl; exact rfl; (first | omega | (simp only [List.length_append, List.length_cons, List.length_nil]; omega) | (simp; omega))) | (apply zy; exact rfl; exact rfl; exact ql (by omega) (by omega)) | (apply vl; exact rfl; exact rfl; exact ql (by omega) (by omega)) | (apply zo; exact rfl; exact rfl) | (apply zl; exact rfl; exact rfl) | (apply z8; exact rfl; exact rfl) | (apply jg; exact rfl; exact rfl) | (apply jd; (iterate 3 exact rfl)) | (apply ji; (iterate 3 exact rfl)) | (apply ka; exact rfl; exact rfl; (first | exact qd _ | exact rfl); first | exact qd _ | exact rfl) | (apply km; exact rfl; exact rfl; (first | exact qd _ | exact rfl); first | exact qd _ | exact rfl) | (apply vv; exact rfl; exact rfl; (first | exact qd _ | exact rfl); first | exact qd _ | exact rfl) | (apply j5; (iterate 3 exact rfl)) | (apply kc; (iterate 3 exact rfl)))
   | (apply vr; first | (apply zc; (iterate 3 exact rfl)) | (apply jk; (iterate 5 exact rfl)) | (apply ze; (iterate 5 exact rfl)))
   | (apply vw; first | (apply ku; exact rfl) | (apply z7; exact rfl) | (apply jl; exact rfl))
   | (apply vd; first | (apply vf; (iterate 3 exact rfl); first | assumption | omega | (simp; omega)) | (apply kf; (iterate 3 exact rfl); first | assumption | omega | (simp; omega)) | (apply vj; (iterate 4 exact rfl); (first | assumption | omega | (simp; omega)); first | assumption | omega | (simp; omega)) | (apply jc; (iterate 4 exact rfl); (first | assumption | omega | exact Nat.succ_le_succ (Nat.zero_le _) | (simp; omega)); exact rfl))
   | (apply vz; first | (apply z2; (iterate 3 exact rfl)) | (apply zk; (iterate 4 exact rfl)))
   | (apply jh; first | (apply qu; (iterate 3 exact rfl)) | (apply zn; (iterate 4 exact rfl)))
   | (apply va; first | (apply zm; (iterate 11 exact rfl)) | (apply za; (iterate 11 exact rfl)))
   | (apply we; first | apply qg | apply qh | apply qb | (apply qx; exact rfl; exact rfl) | (apply qr; exact rfl; first | (apply jn; (first | assumption | omega)) | (apply jq; (first | assumption | omega)) | (apply jo; (first | exact rfl | assumption)) | (apply jr; (first | exact rfl | assumption)) | (apply pk_t; (first | exact rfl | assumption)) | (apply pk_f; (first | exact rfl | assumption))) | (apply qy; exact rfl; exact rfl) | apply jj | (apply zj; exact rfl; exact rfl) | (apply j4; (iterate 4 exact rfl)) | (apply kh; (iterate 3 exact rfl)) | (apply j6; (iterate 3 exact rfl); first | assumption | omega | (simp; omega)) | (apply zt; (iterate 3 exact rfl)) | (apply zr; (iterate 9 exact rfl)) | (apply zv; exact rfl; exact rfl) | (apply jy; (iterate 4 exact rfl); (first | assumption | omega | decide); exact rfl) | (apply zx; (iterate 4 exact rfl); first | assumption | omega | decide))
   | (apply q4 (n := i); (iterate 5 exact rfl); exact hky))
  exact qi rfl (zf rfl) ⟨rfl, _, rfl⟩
 ·by_cases h3 : q9 xt = 3
  ·cases pv with
   | false =>
    rw [if_pos (.inr (.inl ⟨h3, rfl⟩))]
    repeat' (first
     | (apply wh; first | apply qj | apply qp | apply qc | (apply qe; exact rfl; first | (apply q5; (first | assumption | omega)) | (apply q6; (first | assumption | omega)) | (apply q7; (first | exact rfl | assumption)) | (apply q8; (first | exact rfl | assumption)) | (apply cd_n <;> intro h) | (apply cd_t; (first | exact rfl | assumption)) | (apply cd_f; (first | exact rfl | assumption)) | (apply cd_d <;> intro h) | (apply cd_s <;> intro h)) | (apply v4; exact rfl; kernel_rfl) | apply qs | apply z6 | apply qq)
     | (apply vc; first | (apply qo; (iterate 4 exact rfl)) | (apply zw; (iterate 4 exact rfl)))
     | (apply wu; first | (apply vh; (first | assumption | omega)) | (apply jv; (first | assumption | omega)) | (apply jt; (first | assumption | omega)) | (apply ko; (first | assumption | omega)) | (apply vo; (first | exact rfl | assumption)) | (apply j3; (first | exact rfl | assumption)) | (apply jx; (first | exact rfl | assumption)) | (apply kr; (first | exact rfl | assumption)) | (apply kj <;> intro h) | (apply kg; (first | exact rfl | assumption)) | (apply vn; (first | exact rfl | assumption)) | (apply jw; (first | exact rfl | assumption)) | (apply ju; (first | exact rfl | assumption)) | (apply je <;> intro h) | (apply vm <;> intro h))
     | (apply wx; first | apply w7 | (apply wy; (iterate 4 exact rfl)) | (apply xu; exact rfl; exact rfl; exact ql (by omega) (by omega)) | (apply ww; (iterate 4 exact rfl); (first | assumption | omega | (simp; omega)); first | assumption | omega | (simp; omega)) | (apply ke; (iterate 5 exact rfl)) | (apply vp; exact rfl; exact rfl; (first | omega | (simp only [List.length_append, List.length_cons, List.length_nil]; omega) | (simp; omega))) | (apply kp; (iterate 3 exact rfl)) | (apply j7; (iterate 5 exact rfl)) | (apply jb; (iterate 4 exact rfl)) | (apply ja; (iterate 3 exact rfl)) | (apply xk; (iterate 3 exact rfl); first | assumption | omega | (simp; omega)) | (apply wq; exact rfl; exact rfl) | (apply wc; exact rfl; exact rfl) | (apply wb; (iterate 3 exact rfl); omega) | (apply vq; (iterate 3 exact rfl)) | apply wg | apply vk | (apply xo; exact rfl; exact rfl; exact ql (by omega) (by omega)) | (apply wv; (iterate 3 exact rfl)) | (apply wl; (iterate 3 exact rfl); first | assumption | omega | (simp; omega)) | (apply wn; (iterate 3 exact rfl); first | assumption | omega | (simp; omega)) | (apply kv; exact rfl; exact rfl))
     | (apply vb; first | (apply qm; (iterate 3 exact rfl)) | (apply z0; (iterate 3 exact rfl)) | (apply zq; exact rfl; exact rfl; (first | omega | (simp only [List.length_append, List.length_cons, List.length_nil]; omega) | (simp; omega))) | (apply zy; exact rfl; exact rfl; exact ql (by omega) (by omega)) | (apply vl; exact rfl; exact rfl; exact ql (by omega) (by omega)) | (apply zo; exact rfl; exact rfl) | (apply zl; exact rfl; exact rfl) | (apply z8; exact rfl; exact rfl) | (apply jg; exact rfl; exact rfl) | (apply jd; (iterate 3 exact rfl)) | (apply ji; (iterate 3 exact rfl)) | (apply ka; exact rfl; exact rfl; (first | exact qd _ | exact rfl); first | exact qd _ | exact rfl) | (apply km; exact rfl; exact rfl; (first | exact qd _ | exact rfl); first | exact qd _ | exact rfl) | (apply vv; exact rfl; exact rfl; (first | exact qd _ | exact rfl); first | exact qd _ | exact rfl) | (apply j5; (iterate 3 exact rfl)) | (apply kc; (iterate 3 exact rfl)))
     | (apply vr; first | (apply zc; (iterate 3 exact rfl)) | (apply jk; (iterate 5 exact rfl)) | (apply ze; (iterate 5 exact rfl)))
     | (apply vw; first | (apply ku; exact rfl) | (apply z7; exact rfl) | (apply jl; exact rfl))
     | (apply vd; first | (apply vf; (iterate 3 exact rfl); first | assumption | omega | (simp; omega)) | (apply kf; (iterate 3 exact rfl); first | assumption | omega | (simp; omega)) | (apply vj; (iterate 4 exact rfl); (first | assumption | omega | (simp; omega)); first | assumption | omega | (simp; omega)) | (apply jc; (iterate 4 exact rfl); (first | assumption | omega | exact Nat.succ_le_succ (Nat.zero_le _) | (simp; omega)); exact rfl))
     | (apply vz; first | (apply z2; (iterate 3 exact rfl)) | (apply zk; (iterate 4 exact rfl)))
     | (apply jh; first | (apply qu; (iterate 3 exact rfl)) | (apply zn; (iterate 4 exact rfl)))
     | (apply va; first | (apply zm; (iterate 11 exact rfl)) | (apply za; (iterate 11 exact rfl)))
     | (apply we; first | apply qg | apply qh | apply qb | (apply qx; exact rfl; exact rfl) | (apply qr; exact rfl; first | (apply jn; (first | assumption | omega)) | (apply jq; (first | assumption | omega)) | (apply jo; (first | exact rfl | assumption)) | (apply jr; (first | exact rfl | assumption)) | (apply pk_t; (first | exact rfl | assumption)) | (apply pk_f; (first | exact rfl | assumption))) | (apply qy; exact rfl; exact rfl) | apply jj | (apply zj; exact rfl; exact rfl) | (apply j4; (iterate 4 exact rfl)) | (apply kh; (iterate 3 exact rfl)) | (apply j6; (iterate 3 exact rfl); first | assumption | omega | (simp; omega)) | (apply zt; (iterate 3 exact rfl)) | (apply zr; (iterate 9 exact rfl)) | (apply zv; exact rfl; exact rfl) | (apply jy; (iterate 4 exact rfl); (first | assumption | omega | decide); exact rfl) | (apply zx; (iterate 4 exact rfl); first | assumption | omega | decide))
     | (apply q4 (n := i); (iterate 5 exact rfl); exact hky)
     | (apply qf; exact Tryz.call137; exact hbe _))
    exact qi rfl (zf rfl) ⟨rfl, _, rfl⟩
   | true =>
    cases xe with
    | false =>
     rw [if_pos (.inr (.inr rfl))]
     repeat' (first
      | (apply wh; first | apply qj | apply qp | apply qc | (apply qe; exact rfl; first | (apply q5; (first | assumption | omega)) | (apply q6; (first | assumption | omega)) | (apply q7; (first | exact rfl | assumption)) | (apply q8; (first | exact rfl | assumption)) | (apply cd_n <;> intro h) | (apply cd_t; (first | exact rfl | assumption)) | (apply cd_f; (first | exact rfl | assumption)) | (apply cd_d <;> intro h) | (apply cd_s <;> intro h)) | (apply v4; exact rfl; kernel_rfl) | apply qs | apply z6 | apply qq)
      | (apply vc; first | (apply qo; (iterate 4 exact rfl)) | (apply zw; (iterate 4 exact rfl)))
      | (apply wu; first | (apply vh; (first | assumption | omega)) | (apply jv; (first | assumption | omega)) | (apply jt; (first | assumption | omega)) | (apply ko; (first | assumption | omega)) | (apply vo; (first | exact rfl | assumption)) | (apply j3; (first | exact rfl | assumption)) | (apply jx; (first | exact rfl | assumption)) | (apply kr; (first | exact rfl | assumption)) | (apply kj <;> intro h) | (apply kg; (first | exact rfl | assumption)) | (apply vn; (first | exact rfl | assumption)) | (apply jw; (first | exact rfl | assumption)) | (apply ju; (first | exact rfl | assumption)) | (apply je <;> intro h) | (apply vm <;> intro h))
      | (apply wx; first | apply w7 | (apply wy; (iterate 4 exact rfl)) | (apply xu; exact rfl; exact rfl; exact ql (by omega) (by omega)) | (apply ww; (iterate 4 exact rfl); (first | assumption | omega | (simp; omega)); first | assumption | omega | (simp; omega)) | (apply ke; (iterate 5 exact rfl)) | (apply vp; exact rfl; exact rfl; (first | omega | (simp only [List.length_append, List.length_cons, List.length_nil]; omega) | (simp; omega))) | (apply kp; (iterate 3 exact rfl)) | (apply j7; (iterate 5 exact rfl)) | (apply jb; (iterate 4 exact rfl)) | (apply ja; (iterate 3 exact rfl)) | (apply xk; (iterate 3 exact rfl); first | assumption | omega | (simp; omega)) | (apply wq; exact rfl; exact rfl) | (apply wc; exact rfl; exact rfl) | (apply wb; (iterate 3 exact rfl); omega) | (apply vq; (iterate 3 exact rfl)) | apply wg | apply vk | (apply xo; exact rfl; exact rfl; exact ql (by omega) (by omega)) | (apply wv; (iterate 3 exact rfl)) | (apply wl; (iterate 3 exact rfl); first | assumption | omega | (simp; omega)) | (apply wn; (iterate 3 exact rfl); first | assumption | omega | (simp; omega)) | (apply kv; exact rfl; exact rfl))
      | (apply vb; first | (apply qm; (iterate 3 exact rfl)) | (apply z0; (iterate 3 exact rfl)) | (apply zq; exact rfl; exact rfl; (first | omega | (simp only [List.length_append, List.length_cons, List.length_nil]; omega) | (simp; omega))) | (apply zy; exact rfl; exact rfl; exact ql (by omega) (by omega)) | (apply vl; exact rfl; exact rfl; exact ql (by omega) (by omega)) | (apply zo; exact rfl; exact rfl) | (apply zl; exact rfl; exact rfl) | (apply z8; exact rfl; exact rfl) | (apply jg; exact rfl; exact rfl) | (apply jd; (iterate 3 exact rfl)) | (apply ji; (iterate 3 exact rfl)) | (apply ka; exact rfl; exact rfl; (first | exact qd _ | exact rfl); first | exact qd _ | exact rfl) | (apply km; exact rfl; exact rfl; (first | exact qd _ | exact rfl); first | exact qd _ | exact rfl) | (apply vv; exact rfl; exact rfl; (first | exact qd _ | exact rfl); first | exact qd _ | exact rfl) | (apply j5; (iterate 3 exact rfl)) | (apply kc; (iterate 3 exact rfl)))
      | (apply vr; first | (apply zc; (iterate 3 exact rfl)) | (apply jk; (iterate 5 exact rfl)) | (apply ze; (iterate 5 exact rfl)))
      | (apply vw; first | (apply ku; exact rfl) | (apply z7; exact rfl) | (apply jl; exact rfl))
      | (apply vd; first | (apply vf; (iterate 3 exact rfl); first | assumption | omega | (simp; omega)) | (apply kf; (iterate 3 exact rfl); first | assumption | omega | (simp; omega)) | (apply vj; (iterate 4 exact rfl); (first | assumption | omega | (simp; omega)); first | assumption | omega | (simp; omega)) | (apply jc; (iterate 4 exact rfl); (first | assumption | omega | exact Nat.succ_le_succ (Nat.zero_le _) | (simp; omega)); exact rfl))
      | (apply vz; first | (apply z2; (iterate 3 exact rfl)) | (apply zk; (iterate 4 exact rfl)))
      | (apply jh; first | (apply qu; (iterate 3 exact rfl)) | (apply zn; (iterate 4 exact rfl)))
      | (apply va; first | (apply zm; (iterate 11 exact rfl)) | (apply za; (iterate 11 exact rfl)))
      | (apply we; first | apply qg | apply qh | apply qb | (apply qx; exact rfl; exact rfl) | (apply qr; exact rfl; first | (apply jn; (first | assumption | omega)) | (apply jq; (first | assumption | omega)) | (apply jo; (first | exact rfl | assumption)) | (apply jr; (first | exact rfl | assumption)) | (apply pk_t; (first | exact rfl | assumption)) | (apply pk_f; (first | exact rfl | assumption))) | (apply qy; exact rfl; exact rfl) | apply jj | (apply zj; exact rfl; exact rfl) | (apply j4; (iterate 4 exact rfl)) | (apply kh; (iterate 3 exact rfl)) | (apply j6; (iterate 3 exact rfl); first | assumption | omega | (simp; omega)) | (apply zt; (iterate 3 exact rfl)) | (apply zr; (iterate 9 exact rfl)) | (apply zv; exact rfl; exact rfl) | (apply jy; (iterate 4 exact rfl); (first | assumption | omega | decide); exact rfl) | (apply zx; (iterate 4 exact rfl); first | assumption | omega | decide))
      | (apply q4 (n := i); (iterate 5 exact rfl); exact hky)
      | (apply q4 (n := i); (iterate 5 exact rfl); exact hgy)
      | (apply qf; exact Tryz.call137; exact hbe _))
     exact qi rfl (zf rfl) ⟨rfl, _, rfl⟩
    | true =>
     rw [if_neg (by simp [h5]), if_pos (by omega)]
     repeat' (first
      | (apply wh; first | apply qj | apply qp | apply qc | (apply qe; exact rfl; first | (apply q5; (first | assumption | omega)) | (apply q6; (first | assumption | omega)) | (apply q7; (first | exact rfl | assumption)) | (apply q8; (first | exact rfl | assumption)) | (apply cd_n <;> intro h) | (apply cd_t; (first | exact rfl | assumption)) | (apply cd_f; (first | exact rfl | assumption)) | (apply cd_d <;> intro h) | (apply cd_s <;> intro h)) | (apply v4; exact rfl; kernel_rfl) | apply qs | apply z6 | apply qq)
      | (apply vc; first | (apply qo; (iterate 4 exact rfl)) | (apply zw; (iterate 4 exact rfl)))
      | (apply wu; first | (apply vh; (first | assumption | omega)) | (apply jv; (first | assumption | omega)) | (apply jt; (first | assumption | omega)) | (apply ko; (first | assumption | omega)) | (apply vo; (first | exact rfl | assumption)) | (apply j3; (first | exact rfl | assumption)) | (apply jx; (first | exact rfl | assumption)) | (apply kr; (first | exact rfl | assumption)) | (apply kj <;> intro h) | (apply kg; (first | exact rfl | assumption)) | (apply vn; (first | exact rfl | assumption)) | (apply jw; (first | exact rfl | assumption)) | (apply ju; (first | exact rfl | assumption)) | (apply je <;> intro h) | (apply vm <;> intro h))
      | (apply wx; first | apply w7 | (apply wy; (iterate 4 exact rfl)) | (apply xu; exact rfl; exact rfl; exact ql (by omega) (by omega)) | (apply ww; (iterate 4 exact rfl); (first | assumption | omega | (simp; omega)); first | assumption | omega | (simp; omega)) | (apply ke; (iterate 5 exact rfl)) | (apply vp; exact rfl; exact rfl; (first | omega | (simp only [List.length_append, List.length_cons, List.length_nil]; omega) | (simp; omega))) | (apply kp; (iterate 3 exact rfl)) | (apply j7; (iterate 5 exact rfl)) | (apply jb; (iterate 4 exact rfl)) | (apply ja; (iterate 3 exact rfl)) | (apply xk; (iterate 3 exact rfl); first | assumption | omega | (simp; omega)) | (apply wq; exact rfl; exact rfl) | (apply wc; exact rfl; exact rfl) | (apply wb; (iterate 3 exact rfl); omega) | (apply vq; (iterate 3 exact rfl)) | apply wg | apply vk | (apply xo; exact rfl; exact rfl; exact ql (by omega) (by omega)) | (apply wv; (iterate 3 exact rfl)) | (apply wl; (iterate 3 exact rfl); first | assumption | omega | (simp; omega)) | (apply wn; (iterate 3 exact rfl); first | assumption | omega | (simp; omega)) | (apply kv; exact rfl; exact rfl))
      | (apply vb; first | (apply qm; (iterate 3 exact rfl)) | (apply z0; (iterate 3 exact rfl)) | (apply zq; exact rfl; exact rfl; (first | omega | (simp only [List.length_append, List.length_cons, List.length_nil]; omega) | (simp; omega))) | (apply zy; exact rfl; exact rfl; exact ql (by omega) (by omega)) | (apply vl; exact rfl; exact rfl; exact ql (by omega) (by omega)) | (apply zo; exact rfl; exact rfl) | (apply zl; exact rfl; exact rfl) | (apply z8; exact rfl; exact rfl) | (apply jg; exact rfl; exact rfl) | (apply jd; (iterate 3 exact rfl)) | (apply ji; (iterate 3 exact rfl)) | (apply ka; exact rfl; exact rfl; (first | exact qd _ | exact rfl); first | exact qd _ | exact rfl) | (apply km; exact rfl; exact rfl; (first | exact qd _ | exact rfl); first | exact qd _ | exact rfl) | (apply vv; exact rfl; exact rfl; (first | exact qd _ | exact rfl); first | exact qd _ | exact rfl) | (apply j5; (iterate 3 exact rfl)) | (apply kc; (iterate 3 exact rfl)))
      | (apply vr; first | (apply zc; (iterate 3 exact rfl)) | (apply jk; (iterate 5 exact rfl)) | (apply ze; (iterate 5 exact rfl)))
      | (apply vw; first | (apply ku; exact rfl) | (apply z7; exact rfl) | (apply jl; exact rfl))
      | (apply vd; first | (apply vf; (iterate 3 exact rfl); first | assumption | omega | (simp; omega)) | (apply kf; (iterate 3 exact rfl); first | assumption | omega | (simp; omega)) | (apply vj; (iterate 4 exact rfl); (first | assumption | omega | (simp; omega)); first | assumption | omega | (simp; omega)) | (apply jc; (iterate 4 exact rfl); (first | assumption | omega | exact Nat.succ_le_succ (Nat.zero_le _) | (simp; omega)); exact rfl))
      | (apply vz; first | (apply z2; (iterate 3 exact rfl)) | (apply zk; (iterate 4 exact rfl)))
      | (apply jh; first | (apply qu; (iterate 3 exact rfl)) | (apply zn; (iterate 4 exact rfl)))
      | (apply va; first | (apply zm; (iterate 11 exact rfl)) | (apply za; (iterate 11 exact rfl)))
      | (apply we; first | apply qg | apply qh | apply qb | (apply qx; exact rfl; exact rfl) | (apply qr; exact rfl; first | (apply jn; (first | assumption | omega)) | (apply jq; (first | assumption | omega)) | (apply jo; (first | exact rfl | assumption)) | (apply jr; (first | exact rfl | assumption)) | (apply pk_t; (first | exact rfl | assumption)) | (apply pk_f; (first | exact rfl | assumption))) | (apply qy; exact rfl; exact rfl) | apply jj | (apply zj; exact rfl; exact rfl) | (apply j4; (iterate 4 exact rfl)) | (apply kh; (iterate 3 exact rfl)) | (apply j6; (iterate 3 exact rfl); first | assumption | omega | (simp; omega)) | (apply zt; (iterate 3 exact rfl)) | (apply zr; (iterate 9 exact rfl)) | (apply zv; exact rfl; exact rfl) | (apply jy; (iterate 4 exact rfl); (first | assumption | omega | decide); exact rfl) | (apply zx; (iterate 4 exact rfl); first | assumption | omega | decide))
      | (apply q4 (n := i); (iterate 5 exact rfl); exact hky)
      | (apply q4 (n := i); (iterate 5 exact rfl); exact hgy)
      | (apply qf; exact Tryz.call137; exact hbe _))
     exact qi rfl (zf rfl) ⟨rfl, _, rfl⟩
  ·cases xe with
   | false =>
    rw [if_pos (.inr (.inr rfl))]
    repeat' (first
     | (apply wh; first | apply qj | apply qp | apply qc | (apply qe; exact rfl; first | (apply q5; (first | assumption | omega)) | (apply q6; (first | assumption | omega)) | (apply q7; (first | exact rfl | assumption)) | (apply q8; (first | exact rfl | assumption)) | (apply cd_n <;> intro h) | (apply cd_t; (first | exact rfl | assumption)) | (apply cd_f; (first | exact rfl | assumption)) | (apply cd_d <;> intro h) | (apply cd_s <;> intro h)) | (apply v4; exact rfl; kernel_rfl) | apply qs | apply z6 | apply qq)
     | (apply vc; first | (apply qo; (iterate 4 exact rfl)) | (apply zw; (iterate 4 exact rfl)))
     | (apply wu; first | (apply vh; (first | assumption | omega)) | (apply jv; (first | assumption | omega)) | (apply jt; (first | assumption | omega)) | (apply ko; (first | assumption | omega)) | (apply vo; (first | exact rfl | assumption)) | (apply j3; (first | exact rfl | assumption)) | (apply jx; (first | exact rfl | assumption)) | (apply kr; (first | exact rfl | assumption)) | (apply kj <;> intro h) | (apply kg; (first | exact rfl | assumption)) | (apply vn; (first | exact rfl | assumption)) | (apply jw; (first | exact rfl | assumption)) | (apply ju; (first | exact rfl | assumption)) | (apply je <;> intro h) | (apply vm <;> intro h))
     | (apply wx; first | apply w7 | (apply wy; (iterate 4 exact rfl)) | (apply xu; exact rfl; exact rfl; exact ql (by omega) (by omega)) | (apply ww; (iterate 4 exact rfl); (first | assumption | omega | (simp; omega)); first | assumption | omega | (simp; omega)) | (apply ke; (iterate 5 exact rfl)) | (apply vp; exact rfl; exact rfl; (first | omega | (simp only [List.length_append, List.length_cons, List.length_nil]; omega) | (simp; omega))) | (apply kp; (iterate 3 exact rfl)) | (apply j7; (iterate 5 exact rfl)) | (apply jb; (iterate 4 exact rfl)) | (apply ja; (iterate 3 exact rfl)) | (apply xk; (iterate 3 exact rfl); first | assumption | omega | (simp; omega)) | (apply wq; exact rfl; exact rfl) | (apply wc; exact rfl; exact rfl) | (apply wb; (iterate 3 exact rfl); omega) | (apply vq; (iterate 3 exact rfl)) | apply wg | apply vk | (apply xo; exact rfl; exact rfl; exact ql (by omega) (by omega)) | (apply wv; (iterate 3 exact rfl)) | (apply wl; (iterate 3 exact rfl); first | assumption | omega | (simp; omega)) | (apply wn; (iterate 3 exact rfl); first | assumption | omega | (simp; omega)) | (apply kv; exact rfl; exact rfl))
     | (apply vb; first | (apply qm; (iterate 3 exact rfl)) | (apply z0; (iterate 3 exact rfl)) | (apply zq; exact rfl; exact rfl; (first | omega | (simp only [List.length_append, List.length_cons, List.length_nil]; omega) | (simp; omega))) | (apply zy; exact rfl; exact rfl; exact ql (by omega) (by omega)) | (apply vl; exact rfl; exact rfl; exact ql (by omega) (by omega)) | (apply zo; exact rfl; exact rfl) | (apply zl; exact rfl; exact rfl) | (apply z8; exact rfl; exact rfl) | (apply jg; exact rfl; exact rfl) | (apply jd; (iterate 3 exact rfl)) | (apply ji; (iterate 3 exact rfl)) | (apply ka; exact rfl; exact rfl; (first | exact qd _ | exact rfl); first | exact qd _ | exact rfl) | (apply km; exact rfl; exact rfl; (first | exact qd _ | exact rfl); first | exact qd _ | exact rfl) | (apply vv; exact rfl; exact rfl; (first | exact qd _ | exact rfl); first | exact qd _ | exact rfl) | (apply j5; (iterate 3 exact rfl)) | (apply kc; (iterate 3 exact rfl)))
     | (apply vr; first | (apply zc; (iterate 3 exact rfl)) | (apply jk; (iterate 5 exact rfl)) | (apply ze; (iterate 5 exact rfl)))
     | (apply vw; first | (apply ku; exact rfl) | (apply z7; exact rfl) | (apply jl; exact rfl))
     | (apply vd; first | (apply vf; (iterate 3 exact rfl); first | assumption | omega | (simp; omega)) | (apply kf; (iterate 3 exact rfl); first | assumption | omega | (simp; omega)) | (apply vj; (iterate 4 exact rfl); (first | assumption | omega | (simp; omega)); first | assumption | omega | (simp; omega)) | (apply jc; (iterate 4 exact rfl); (first | assumption | omega | exact Nat.succ_le_succ (Nat.zero_le _) | (simp; omega)); exact rfl))
     | (apply vz; first | (apply z2; (iterate 3 exact rfl)) | (apply zk; (iterate 4 exact rfl)))
     | (apply jh; first | (apply qu; (iterate 3 exact rfl)) | (apply zn; (iterate 4 exact rfl)))
     | (apply va; first | (apply zm; (iterate 11 exact rfl)) | (apply za; (iterate 11 exact rfl)))
     | (apply we; first | apply qg | apply qh | apply qb | (apply qx; exact rfl; exact rfl) | (apply qr; exact rfl; first | (apply jn; (first | assumption | omega)) | (apply jq; (first | assumption | omega)) | (apply jo; (first | exact rfl | assumption)) | (apply jr; (first | exact rfl | assumption)) | (apply pk_t; (first | exact rfl | assumption)) | (apply pk_f; (first | exact rfl | assumption))) | (apply qy; exact rfl; exact rfl) | apply jj | (apply zj; exact rfl; exact rfl) | (apply j4; (iterate 4 exact rfl)) | (apply kh; (iterate 3 exact rfl)) | (apply j6; (iterate 3 exact rfl); first | assumption | omega | (simp; omega)) | (apply zt; (iterate 3 exact rfl)) | (apply zr; (iterate 9 exact rfl)) | (apply zv; exact rfl; exact rfl) | (apply jy; (iterate 4 exact rfl); (first | assumption | omega | decide); exact rfl) | (apply zx; (iterate 4 exact rfl); first | assumption | omega | decide))
     | (apply q4 (n := i); (iterate 5 exact rfl); exact hky)
     | (apply q4 (n := i); (iterate 5 exact rfl); exact hgy))
    exact qi rfl (zf rfl) ⟨rfl, _, rfl⟩
   | true =>
    rw [if_neg (by simp [h5, h3])]
    by_cases h4 : q9 xt = 4
    ·rw [if_neg (by omega)]
     by_cases hu : (j8 (qfc L i ⟨xn, xa, xt, true⟩)).2 = 0
     ·rw [if_neg (by omega)]
      rw [hu] at hun
      by_cases hn : 40 ≤ n
      ·rw [if_pos (.inl hn)]
       repeat' (first
        | (apply wh; first | apply qj | apply qp | apply qc | (apply qe; exact rfl; first | (apply q5; (first | assumption | omega)) | (apply q6; (first | assumption | omega)) | (apply q7; (first | exact rfl | assumption)) | (apply q8; (first | exact rfl | assumption)) | (apply cd_n <;> intro h) | (apply cd_t; (first | exact rfl | assumption)) | (apply cd_f; (first | exact rfl | assumption)) | (apply cd_d <;> intro h) | (apply cd_s <;> intro h)) | (apply v4; exact rfl; kernel_rfl) | apply qs | apply z6 | apply qq)
        | (apply vc; first | (apply qo; (iterate 4 exact rfl)) | (apply zw; (iterate 4 exact rfl)))
        | (apply wu; first | (apply vh; (first | assumption | omega)) | (apply jv; (first | assumption | omega)) | (apply jt; (first | assumption | omega)) | (apply ko; (first | assumption | omega)) | (apply vo; (first | exact rfl | assumption)) | (apply j3; (first | exact rfl | assumption)) | (apply jx; (first | exact rfl | assumption)) | (apply kr; (first | exact rfl | assumption)) | (apply kj <;> intro h) | (apply kg; (first | exact rfl | assumption)) | (apply vn; (first | exact rfl | assumption)) | (apply jw; (first | exact rfl | assumption)) | (apply ju; (first | exact rfl | assumption)) | (apply je <;> intro h) | (apply vm <;> intro h))
        | (apply wx; first | apply w7 | (apply wy; (iterate 4 exact rfl)) | (apply xu; exact rfl; exact rfl; exact ql (by omega) (by omega)) | (apply ww; (iterate 4 exact rfl); (first | assumption | omega | (simp; omega)); first | assumption | omega | (simp; omega)) | (apply ke; (iterate 5 exact rfl)) | (apply vp; exact rfl; exact rfl; (first | omega | (simp only [List.length_append, List.length_cons, List.length_nil]; omega) | (simp; omega))) | (apply kp; (iterate 3 exact rfl)) | (apply j7; (iterate 5 exact rfl)) | (apply jb; (iterate 4 exact rfl)) | (apply ja; (iterate 3 exact rfl)) | (apply xk; (iterate 3 exact rfl); first | assumption | omega | (simp; omega)) | (apply wq; exact rfl; exact rfl) | (apply wc; exact rfl; exact rfl) | (apply wb; (iterate 3 exact rfl); omega) | (apply vq; (iterate 3 exact rfl)) | apply wg | apply vk | (apply xo; exact rfl; exact rfl; exact ql (by omega) (by omega)) | (apply wv; (iterate 3 exact rfl)) | (apply wl; (iterate 3 exact rfl); first | assumption | omega | (simp; omega)) | (apply wn; (iterate 3 exact rfl); first | assumption | omega | (simp; omega)) | (apply kv; exact rfl; exact rfl))
        | (apply vb; first | (apply qm; (iterate 3 exact rfl)) | (apply z0; (iterate 3 exact rfl)) | (apply zq; exact rfl; exact rfl; (first | omega | (simp only [List.length_append, List.length_cons, List.length_nil]; omega) | (simp; omega))) | (apply zy; exact rfl; exact rfl; exact ql (by omega) (by omega)) | (apply vl; exact rfl; exact rfl; exact ql (by omega) (by omega)) | (apply zo; exact rfl; exact rfl) | (apply zl; exact rfl; exact rfl) | (apply z8; exact rfl; exact rfl) | (apply jg; exact rfl; exact rfl) | (apply jd; (iterate 3 exact rfl)) | (apply ji; (iterate 3 exact rfl)) | (apply ka; exact rfl; exact rfl; (first | exact qd _ | exact rfl); first | exact qd _ | exact rfl) | (apply km; exact rfl; exact rfl; (first | exact qd _ | exact rfl); first | exact qd _ | exact rfl) | (apply vv; exact rfl; exact rfl; (first | exact qd _ | exact rfl); first | exact qd _ | exact rfl) | (apply j5; (iterate 3 exact rfl)) | (apply kc; (iterate 3 exact rfl)))
        | (apply vr; first | (apply zc; (iterate 3 exact rfl)) | (apply jk; (iterate 5 exact rfl)) | (apply ze; (iterate 5 exact rfl)))
        | (apply vw; first | (apply ku; exact rfl) | (apply z7; exact rfl) | (apply jl; exact rfl))
        | (apply vd; first | (apply vf; (iterate 3 exact rfl); first | assumption | omega | (simp; omega)) | (apply kf; (iterate 3 exact rfl); first | assumption | omega | (simp; omega)) | (apply vj; (iterate 4 exact rfl); (first | assumption | omega | (simp; omega)); first | assumption | omega | (simp; omega)) | (apply jc; (iterate 4 exact rfl); (first | assumption | omega | exact Nat.succ_le_succ (Nat.zero_le _) | (simp; omega)); exact rfl))
        | (apply vz; first | (apply z2; (iterate 3 exact rfl)) | (apply zk; (iterate 4 exact rfl)))
        | (apply jh; first | (apply qu; (iterate 3 exact rfl)) | (apply zn; (iterate 4 exact rfl)))
        | (apply va; first | (apply zm; (iterate 11 exact rfl)) | (apply za; (iterate 11 exact rfl)))
        | (apply we; first | apply qg | apply qh | apply qb | (apply qx; exact rfl; exact rfl) | (apply qr; exact rfl; first | (apply jn; (first | assumption | omega)) | (apply jq; (first | assumption | omega)) | (apply jo; (first | exact rfl | assumption)) | (apply jr; (first | exact rfl | assumption)) | (apply pk_t; (first | exact rfl | assumption)) | (apply pk_f; (first | exact rfl | assumption))) | (apply qy; exact rfl; exact rfl) | apply jj | (apply zj; exact rfl; exact rfl) | (apply j4; (iterate 4 exact rfl)) | (apply kh; (iterate 3 exact rfl)) | (apply j6; (iterate 3 exact rfl); first | assumption | omega | (simp; omega)) | (apply zt; (iterate 3 exact rfl)) | (apply zr; (iterate 9 exact rfl)) | (apply zv; exact rfl; exact rfl) | (apply jy; (iterate 4 exact rfl); (first | assumption | omega | decide); exact rfl) | (apply zx; (iterate 4 exact rfl); first | assumption | omega | decide))
        | (apply q4 (n := i); (iterate 5 exact rfl); exact hky)
        | (apply q4 (n := i); (iterate 5 exact rfl); exact hgy)
        | (apply qf; exact Tryz.call95; exact hsa _)
        | (apply qf; exact Tryz.call41; exact hun _))
       exact qi rfl (zf rfl) ⟨rfl, _, rfl⟩
      ·by_cases hn0 : n = 0
       ·by_cases hr : 400 ≤ rec
        ·rw [if_pos (.inr ⟨hn0, hr⟩)]
         repeat' (first
          | (apply wh; first | apply qj | apply qp | apply qc | (apply qe; exact rfl; first | (apply q5; (first | assumption | omega)) | (apply q6; (first | assumption | omega)) | (apply q7; (first | exact rfl | assumption)) | (apply q8; (first | exact rfl | assumption)) | (apply cd_n <;> intro h) | (apply cd_t; (first | exact rfl | assumption)) | (apply cd_f; (first | exact rfl | assumption)) | (apply cd_d <;> intro h) | (apply cd_s <;> intro h)) | (apply v4; exact rfl; kernel_rfl) | apply qs | apply z6 | apply qq)
          | (apply vc; first | (apply qo; (iterate 4 exact rfl)) | (apply zw; (iterate 4 exact rfl)))
          | (apply wu; first | (apply vh; (first | assumption | omega)) | (apply jv; (first | assumption | omega)) | (apply jt; (first | assumption | omega)) | (apply ko; (first | assumption | omega)) | (apply vo; (first | exact rfl | assumption)) | (apply j3; (first | exact rfl | assumption)) | (apply jx; (first | exact rfl | assumption)) | (apply kr; (first | exact rfl | assumption)) | (apply kj <;> intro h) | (apply kg; (first | exact rfl | assumption)) | (apply vn; (first | exact rfl | assumption)) | (apply jw; (first | exact rfl | assumption)) | (apply ju; (first | exact rfl | assumption)) | (apply je <;> intro h) | (apply vm <;> intro h))
          | (apply wx; first | apply w7 | (apply wy; (iterate 4 exact rfl)) | (apply xu; exact rfl; exact rfl; exact ql (by omega) (by omega)) | (apply ww; (iterate 4 exact rfl); (first | assumption | omega | (simp; omega)); first | assumption | omega | (simp; omega)) | (apply ke; (iterate 5 exact rfl)) | (apply vp; exact rfl; exact rfl; (first | omega | (simp only [List.length_append, List.length_cons, List.length_nil]; omega) | (simp; omega))) | (apply kp; (iterate 3 exact rfl)) | (apply j7; (iterate 5 exact rfl)) | (apply jb; (iterate 4 exact rfl)) | (apply ja; (iterate 3 exact rfl)) | (apply xk; (iterate 3 exact rfl); first | assumption | omega | (simp; omega)) | (apply wq; exact rfl; exact rfl) | (apply wc; exact rfl; exact rfl) | (apply wb; (iterate 3 exact rfl); omega) | (apply vq; (iterate 3 exact rfl)) | apply wg | apply vk | (apply xo; exact rfl; exact rfl; exact ql (by omega) (by omega)) | (apply wv; (iterate 3 exact rfl)) | (apply wl; (iterate 3 exact rfl); first | assumption | omega | (simp; omega)) | (apply wn; (iterate 3 exact rfl); first | assumption | omega | (simp; omega)) | (apply kv; exact rfl; exact rfl))
          | (apply vb; first | (apply qm; (iterate 3 exact rfl)) | (apply z0; (iterate 3 exact rfl)) | (apply zq; exact rfl; exact rfl; (first | omega | (simp only [List.length_append, List.length_cons, List.length_nil]; omega) | (simp; omega))) | (apply zy; exact rfl; exact rfl; exact ql (by omega) (by omega)) | (apply vl; exact rfl; exact rfl; exact ql (by omega) (by omega)) | (apply zo; exact rfl; exact rfl) | (apply zl; exact rfl; exact rfl) | (apply z8; exact rfl; exact rfl) | (apply jg; exact rfl; exact rfl) | (apply jd; (iterate 3 exact rfl)) | (apply ji; (iterate 3 exact rfl)) | (apply ka; exact rfl; exact rfl; (first | exact qd _ | exact rfl); first | exact qd _ | exact rfl) | (apply km; exact rfl; exact rfl; (first | exact qd _ | exact rfl); first | exact qd _ | exact rfl) | (apply vv; exact rfl; exact rfl; (first | exact qd _ | exact rfl); first | exact qd _ | exact rfl) | (apply j5; (iterate 3 exact rfl)) | (apply kc; (iterate 3 exact rfl)))
          | (apply vr; first | (apply zc; (iterate 3 exact rfl)) | (apply jk; (iterate 5 exact rfl)) | (apply ze; (iterate 5 exact rfl)))
          | (apply vw; first | (apply ku; exact rfl) | (apply z7; exact rfl) | (apply jl; exact rfl))
          | (apply vd; first | (apply vf; (iterate 3 exact rfl); first | assumption | omega | (simp; omega)) | (apply kf; (iterate 3 exact rfl); first | assumption | omega | (simp; omega)) | (apply vj; (iterate 4 exact rfl); (first | assumption | omega | (simp; omega)); first | assumption | omega | (simp; omega)) | (apply jc; (iterate 4 exact rfl); (first | assumption | omega | exact Nat.succ_le_succ (Nat.zero_le _) | (simp; omega)); exact rfl))
          | (apply vz; first | (apply z2; (iterate 3 exact rfl)) | (apply zk; (iterate 4 exact rfl)))
          | (apply jh; first | (apply qu; (iterate 3 exact rfl)) | (apply zn; (iterate 4 exact rfl)))
          | (apply va; first | (apply zm; (iterate 11 exact rfl)) | (apply za; (iterate 11 exact rfl)))
          | (apply we; first | apply qg | apply qh | apply qb | (apply qx; exact rfl; exact rfl) | (apply qr; exact rfl; first | (apply jn; (first | assumption | omega)) | (apply jq; (first | assumption | omega)) | (apply jo; (first | exact rfl | assumption)) | (apply jr; (first | exact rfl | assumption)) | (apply pk_t; (first | exact rfl | assumption)) | (apply pk_f; (first | exact rfl | assumption))) | (apply qy; exact rfl; exact rfl) | apply jj | (apply zj; exact rfl; exact rfl) | (apply j4; (iterate 4 exact rfl)) | (apply kh; (iterate 3 exact rfl)) | (apply j6; (iterate 3 exact rfl); first | assumption | omega | (simp; omega)) | (apply zt; (iterate 3 exact rfl)) | (apply zr; (iterate 9 exact rfl)) | (apply zv; exact rfl; exact rfl) | (apply jy; (iterate 4 exact rfl); (first | assumption | omega | decide); exact rfl) | (apply zx; (iterate 4 exact rfl); first | assumption | omega | decide))
          | (apply q4 (n := i); (iterate 5 exact rfl); exact hky)
          | (apply q4 (n := i); (iterate 5 exact rfl); exact hgy)
          | (apply qf; exact Tryz.call95; exact hsa _)
          | (apply qf; exact Tryz.call41; exact hun _))
         exact qi rfl (zf rfl) ⟨rfl, _, rfl⟩
        ·rw [if_neg (by omega)]
         repeat' (first
          | (apply wh; first | apply qj | apply qp | apply qc | (apply qe; exact rfl; first | (apply q5; (first | assumption | omega)) | (apply q6; (first | assumption | omega)) | (apply q7; (first | exact rfl | assumption)) | (apply q8; (first | exact rfl | assumption)) | (apply cd_n <;> intro h) | (apply cd_t; (first | exact rfl | assumption)) | (apply cd_f; (first | exact rfl | assumption)) | (apply cd_d <;> intro h) | (apply cd_s <;> intro h)) | (apply v4; exact rfl; kernel_rfl) | apply qs | apply z6 | apply qq)
          | (apply vc; first | (apply qo; (iterate 4 exact rfl)) | (apply zw; (iterate 4 exact rfl)))
          | (apply wu; first | (apply vh; (first | assumption | omega)) | (apply jv; (first | assumption | omega)) | (apply jt; (first | assumption | omega)) | (apply ko; (first | assumption | omega)) | (apply vo; (first | exact rfl | assumption)) | (apply j3; (first | exact rfl | assumption)) | (apply jx; (first | exact rfl | assumption)) | (apply kr; (first | exact rfl | assumption)) | (apply kj <;> intro h) | (apply kg; (first | exact rfl | assumption)) | (apply vn; (first | exact rfl | assumption)) | (apply jw; (first | exact rfl | assumption)) | (apply ju; (first | exact rfl | assumption)) | (apply je <;> intro h) | (apply vm <;> intro h))
          | (apply wx; first | apply w7 | (apply wy; (iterate 4 exact rfl)) | (apply xu; exact rfl; exact rfl; exact ql (by omega) (by omega)) | (apply ww; (iterate 4 exact rfl); (first | assumption | omega | (simp; omega)); first | assumption | omega | (simp; omega)) | (apply ke; (iterate 5 exact rfl)) | (apply vp; exact rfl; exact rfl; (first | omega | (simp only [List.length_append, List.length_cons, List.length_nil]; omega) | (simp; omega))) | (apply kp; (iterate 3 exact rfl)) | (apply j7; (iterate 5 exact rfl)) | (apply jb; (iterate 4 exact rfl)) | (apply ja; (iterate 3 exact rfl)) | (apply xk; (iterate 3 exact rfl); first | assumption | omega | (simp; omega)) | (apply wq; exact rfl; exact rfl) | (apply wc; exact rfl; exact rfl) | (apply wb; (iterate 3 exact rfl); omega) | (apply vq; (iterate 3 exact rfl)) | apply wg | apply vk | (apply xo; exact rfl; exact rfl; exact ql (by omega) (by omega)) | (apply wv; (iterate 3 exact rfl)) | (apply wl; (iterate 3 exact rfl); first | assumption | omega | (simp; omega)) | (apply wn; (iterate 3 exact rfl); first | assumption | omega | (simp; omega)) | (apply kv; exact rfl; exact rfl))
          | (apply vb; first | (apply qm; (iterate 3 exact rfl)) | (apply z0; (iterate 3 exact rfl)) | (apply zq; exact rfl; exact rfl; (first | omega | (simp only [List.length_append, List.length_cons, List.length_nil]; omega) | (simp; omega))) | (apply zy; exact rfl; exact rfl; exact ql (by omega) (by omega)) | (apply vl; exact rfl; exact rfl; exact ql (by omega) (by omega)) | (apply zo; exact rfl; exact rfl) | (apply zl; exact rfl; exact rfl) | (apply z8; exact rfl; exact rfl) | (apply jg; exact rfl; exact rfl) | (apply jd; (iterate 3 exact rfl)) | (apply ji; (iterate 3 exact rfl)) | (apply ka; exact rfl; exact rfl; (first | exact qd _ | exact rfl); first | exact qd _ | exact rfl) | (apply km; exact rfl; exact rfl; (first | exact qd _ | exact rfl); first | exact qd _ | exact rfl) | (apply vv; exact rfl; exact rfl; (first | exact qd _ | exact rfl); first | exact qd _ | exact rfl) | (apply j5; (iterate 3 exact rfl)) | (apply kc; (iterate 3 exact rfl)))
          | (apply vr; first | (apply zc; (iterate 3 exact rfl)) | (apply jk; (iterate 5 exact rfl)) | (apply ze; (iterate 5 exact rfl)))
          | (apply vw; first | (apply ku; exact rfl) | (apply z7; exact rfl) | (apply jl; exact rfl))
          | (apply vd; first | (apply vf; (iterate 3 exact rfl); first | assumption | omega | (simp; omega)) | (apply kf; (iterate 3 exact rfl); first | assumption | omega | (simp; omega)) | (apply vj; (iterate 4 exact rfl); (first | assumption | omega | (simp; omega)); first | assumption | omega | (simp; omega)) | (apply jc; (iterate 4 exact rfl); (first | assumption | omega | exact Nat.succ_le_succ (Nat.zero_le _) | (simp; omega)); exact rfl))
          | (apply vz; first | (apply z2; (iterate 3 exact rfl)) | (apply zk; (iterate 4 exact rfl)))
          | (apply jh; first | (apply qu; (iterate 3 exact rfl)) | (apply zn; (iterate 4 exact rfl)))
          | (apply va; first | (apply zm; (iterate 11 exact rfl)) | (apply za; (iterate 11 exact rfl)))
          | (apply we; first | apply qg | apply qh | apply qb | (apply qx; exact rfl; exact rfl) | (apply qr; exact rfl; first | (apply jn; (first | assumption | omega)) | (apply jq; (first | assumption | omega)) | (apply jo; (first | exact rfl | assumption)) | (apply jr; (first | exact rfl | assumption)) | (apply pk_t; (first | exact rfl | assumption)) | (apply pk_f; (first | exact rfl | assumption))) | (apply qy; exact rfl; exact rfl) | apply jj | (apply zj; exact rfl; exact rfl) | (apply j4; (iterate 4 exact rfl)) | (apply kh; (iterate 3 exact rfl)) | (apply j6; (iterate 3 exact rfl); first | assumption | omega | (simp; omega)) | (apply zt; (iterate 3 exact rfl)) | (apply zr; (iterate 9 exact rfl)) | (apply zv; exact rfl; exact rfl) | (apply jy; (iterate 4 exact rfl); (first | assumption | omega | decide); exact rfl) | (apply zx; (iterate 4 exact rfl); first | assumption | omega | decide))
          | (apply q4 (n := i); (iterate 5 exact rfl); exact hky)
          | (apply q4 (n := i); (iterate 5 exact rfl); exact hgy)
          | (apply qf; exact Tryz.call95; exact hsa _)
          | (apply qf; exact Tryz.call41; exact hun _))
         exact qi rfl (zf rfl) ⟨rfl, _, rfl⟩
       ·rw [if_neg (by omega)]
        repeat' (first
         | (apply wh; first | apply qj | apply qp | apply qc | (apply qe; exact rfl; first | (apply q5; (first | assumption | omega)) | (apply q6; (first | assumption | omega)) | (apply q7; (first | exact rfl | assumption)) | (apply q8; (first | exact rfl | assumption)) | (apply cd_n <;> intro h) | (apply cd_t; (first | exact rfl | assumption)) | (apply cd_f; (first | exact rfl | assumption)) | (apply cd_d <;> intro h) | (apply cd_s <;> intro h)) | (apply v4; exact rfl; kernel_rfl) | apply qs | apply z6 | apply qq)
         | (apply vc; first | (apply qo; (iterate 4 exact rfl)) | (apply zw; (iterate 4 exact rfl)))
         | (apply wu; first | (apply vh; (first | assumption | omega)) | (apply jv; (first | assumption | omega)) | (apply jt; (first | assumption | omega)) | (apply ko; (first | assumption | omega)) | (apply vo; (first | exact rfl | assumption)) | (apply j3; (first | exact rfl | assumption)) | (apply jx; (first | exact rfl | assumption)) | (apply kr; (first | exact rfl | assumption)) | (apply kj <;> intro h) | (apply kg; (first | exact rfl | assumption)) | (apply vn; (first | exact rfl | assumption)) | (apply jw; (first | exact rfl | assumption)) | (apply ju; (first | exact rfl | assumption)) | (apply je <;> intro h) | (apply vm <;> intro h))
         | (apply wx; first | apply w7 | (apply wy; (iterate 4 exact rfl)) | (apply xu; exact rfl; exact rfl; exact ql (by omega) (by omega)) | (apply ww; (iterate 4 exact rfl); (first | assumption | omega | (simp; omega)); first | assumption | omega | (simp; omega)) | (apply ke; (iterate 5 exact rfl)) | (apply vp; exact rfl; exact rfl; (first | omega | (simp only [List.length_append, List.length_cons, List.length_nil]; omega) | (simp; omega))) | (apply kp; (iterate 3 exact rfl)) | (apply j7; (iterate 5 exact rfl)) | (apply jb; (iterate 4 exact rfl)) | (apply ja; (iterate 3 exact rfl)) | (apply xk; (iterate 3 exact rfl); first | assumption | omega | (simp; omega)) | (apply wq; exact rfl; exact rfl) | (apply wc; exact rfl; exact rfl) | (apply wb; (iterate 3 exact rfl); omega) | (apply vq; (iterate 3 exact rfl)) | apply wg | apply vk | (apply xo; exact rfl; exact rfl; exact ql (by omega) (by omega)) | (apply wv; (iterate 3 exact rfl)) | (apply wl; (iterate 3 exact rfl); first | assumption | omega | (simp; omega)) | (apply wn; (iterate 3 exact rfl); first | assumption | omega | (simp; omega)) | (apply kv; exact rfl; exact rfl))
         | (apply vb; first | (apply qm; (iterate 3 exact rfl)) | (apply z0; (iterate 3 exact rfl)) | (apply zq; exact rfl; exact rfl; (first | omega | (simp only [List.length_append, List.length_cons, List.length_nil]; omega) | (simp; omega))) | (apply zy; exact rfl; exact rfl; exact ql (by omega) (by omega)) | (apply vl; exact rfl; exact rfl; exact ql (by omega) (by omega)) | (apply zo; exact rfl; exact rfl) | (apply zl; exact rfl; exact rfl) | (apply z8; exact rfl; exact rfl) | (apply jg; exact rfl; exact rfl) | (apply jd; (iterate 3 exact rfl)) | (apply ji; (iterate 3 exact rfl)) | (apply ka; exact rfl; exact rfl; (first | exact qd _ | exact rfl); first | exact qd _ | exact rfl) | (apply km; exact rfl; exact rfl; (first | exact qd _ | exact rfl); first | exact qd _ | exact rfl) | (apply vv; exact rfl; exact rfl; (first | exact qd _ | exact rfl); first | exact qd _ | exact rfl) | (apply j5; (iterate 3 exact rfl)) | (apply kc; (iterate 3 exact rfl)))
         | (apply vr; first | (apply zc; (iterate 3 exact rfl)) | (apply jk; (iterate 5 exact rfl)) | (apply ze; (iterate 5 exact rfl)))
         | (apply vw; first | (apply ku; exact rfl) | (apply z7; exact rfl) | (apply jl; exact rfl))
         | (apply vd; first | (apply vf; (iterate 3 exact rfl); first | assumption | omega | (simp; omega)) | (apply kf; (iterate 3 exact rfl); first | assumption | omega | (simp; omega)) | (apply vj; (iterate 4 exact rfl); (first | assumption | omega | (simp; omega)); first | assumption | omega | (simp; omega)) | (apply jc; (iterate 4 exact rfl); (first | assumption | omega | exact Nat.succ_le_succ (Nat.zero_le _) | (simp; omega)); exact rfl))
         | (apply vz; first | (apply z2; (iterate 3 exact rfl)) | (apply zk; (iterate 4 exact rfl)))
         | (apply jh; first | (apply qu; (iterate 3 exact rfl)) | (apply zn; (iterate 4 exact rfl)))
         | (apply va; first | (apply zm; (iterate 11 exact rfl)) | (apply za; (iterate 11 exact rfl)))
         | (apply we; first | apply qg | apply qh | apply qb | (apply qx; exact rfl; exact rfl) | (apply qr; exact rfl; first | (apply jn; (first | assumption | omega)) | (apply jq; (first | assumption | omega)) | (apply jo; (first | exact rfl | assumption)) | (apply jr; (first | exact rfl | assumption)) | (apply pk_t; (first | exact rfl | assumption)) | (apply pk_f; (first | exact rfl | assumption))) | (apply qy; exact rfl; exact rfl) | apply jj | (apply zj; exact rfl; exact rfl) | (apply j4; (iterate 4 exact rfl)) | (apply kh; (iterate 3 exact rfl)) | (apply j6; (iterate 3 exact rfl); first | assumption | omega | (simp; omega)) | (apply zt; (iterate 3 exact rfl)) | (apply zr; (iterate 9 exact rfl)) | (apply zv; exact rfl; exact rfl) | (apply jy; (iterate 4 exact rfl); (first | assumption | omega | decide); exact rfl) | (apply zx; (iterate 4 exact rfl); first | assumption | omega | decide))
         | (apply q4 (n := i); (iterate 5 exact rfl); exact hky)
         | (apply q4 (n := i); (iterate 5 exact rfl); exact hgy)
         | (apply qf; exact Tryz.call95; exact hsa _)
         | (apply qf; exact Tryz.call41; exact hun _))
        exact qi rfl (zf rfl) ⟨rfl, _, rfl⟩
     ·rw [if_pos hu]
      repeat' (first
       | (apply wh; first | apply qj | apply qp | apply qc | (apply qe; exact rfl; first | (apply q5; (first | assumption | omega)) | (apply q6; (first | assumption | omega)) | (apply q7; (first | exact rfl | assumption)) | (apply q8; (first | exact rfl | assumption)) | (apply cd_n <;> intro h) | (apply cd_t; (first | exact rfl | assumption)) | (apply cd_f; (first | exact rfl | assumption)) | (apply cd_d <;> intro h) | (apply cd_s <;> intro h)) | (apply v4; exact rfl; kernel_rfl) | apply qs | apply z6 | apply qq)
       | (apply vc; first | (apply qo; (iterate 4 exact rfl)) | (apply zw; (iterate 4 exact rfl)))
       | (apply wu; first | (apply vh; (first | assumption | omega)) | (apply jv; (first | assumption | omega)) | (apply jt; (first | assumption | omega)) | (apply ko; (first | assumption | omega)) | (apply vo; (first | exact rfl | assumption)) | (apply j3; (first | exact rfl | assumption)) | (apply jx; (first | exact rfl | assumption)) | (apply kr; (first | exact rfl | assumption)) | (apply kj <;> intro h) | (apply kg; (first | exact rfl | assumption)) | (apply vn; (first | exact rfl | assumption)) | (apply jw; (first | exact rfl | assumption)) | (apply ju; (first | exact rfl | assumption)) | (apply je <;> intro h) | (apply vm <;> intro h))
       | (apply wx; first | apply w7 | (apply wy; (iterate 4 exact rfl)) | (apply xu; exact rfl; exact rfl; exact ql (by omega) (by omega)) | (apply ww; (iterate 4 exact rfl); (first | assumption | omega | (simp; omega)); first | assumption | omega | (simp; omega)) | (apply ke; (iterate 5 exact rfl)) | (apply vp; exact rfl; exact rfl; (first | omega | (simp only [List.length_append, List.length_cons, List.length_nil]; omega) | (simp; omega))) | (apply kp; (iterate 3 exact rfl)) | (apply j7; (iterate 5 exact rfl)) | (apply jb; (iterate 4 exact rfl)) | (apply ja; (iterate 3 exact rfl)) | (apply xk; (iterate 3 exact rfl); first | assumption | omega | (simp; omega)) | (apply wq; exact rfl; exact rfl) | (apply wc; exact rfl; exact rfl) | (apply wb; (iterate 3 exact rfl); omega) | (apply vq; (iterate 3 exact rfl)) | apply wg | apply vk | (apply xo; exact rfl; exact rfl; exact ql (by omega) (by omega)) | (apply wv; (iterate 3 exact rfl)) | (apply wl; (iterate 3 exact rfl); first | assumption | omega | (simp; omega)) | (apply wn; (iterate 3 exact rfl); first | assumption | omega | (simp; omega)) | (apply kv; exact rfl; exact rfl))
       | (apply vb; first | (apply qm; (iterate 3 exact rfl)) | (apply z0; (iterate 3 exact rfl)) | (apply zq; exact rfl; exact rfl; (first | omega | (simp only [List.length_append, List.length_cons, List.length_nil]; omega) | (simp; omega))) | (apply zy; exact rfl; exact rfl; exact ql (by omega) (by omega)) | (apply vl; exact rfl; exact rfl; exact ql (by omega) (by omega)) | (apply zo; exact rfl; exact rfl) | (apply zl; exact rfl; exact rfl) | (apply z8; exact rfl; exact rfl) | (apply jg; exact rfl; exact rfl) | (apply jd; (iterate 3 exact rfl)) | (apply ji; (iterate 3 exact rfl)) | (apply ka; exact rfl; exact rfl; (first | exact qd _ | exact rfl); first | exact qd _ | exact rfl) | (apply km; exact rfl; exact rfl; (first | exact qd _ | exact rfl); first | exact qd _ | exact rfl) | (apply vv; exact rfl; exact rfl; (first | exact qd _ | exact rfl); first | exact qd _ | exact rfl) | (apply j5; (iterate 3 exact rfl)) | (apply kc; (iterate 3 exact rfl)))
       | (apply vr; first | (apply zc; (iterate 3 exact rfl)) | (apply jk; (iterate 5 exact rfl)) | (apply ze; (iterate 5 exact rfl)))
       | (apply vw; first | (apply ku; exact rfl) | (apply z7; exact rfl) | (apply jl; exact rfl))
       | (apply vd; first | (apply vf; (iterate 3 exact rfl); first | assumption | omega | (simp; omega)) | (apply kf; (iterate 3 exact rfl); first | assumption | omega | (simp; omega)) | (apply vj; (iterate 4 exact rfl); (first | assumption | omega | (simp; omega)); first | assumption | omega | (simp; omega)) | (apply jc; (iterate 4 exact rfl); (first | assumption | omega | exact Nat.succ_le_succ (Nat.zero_le _) | (simp; omega)); exact rfl))
       | (apply vz; first | (apply z2; (iterate 3 exact rfl)) | (apply zk; (iterate 4 exact rfl)))
       | (apply jh; first | (apply qu; (iterate 3 exact rfl)) | (apply zn; (iterate 4 exact rfl)))
       | (apply va; first | (apply zm; (iterate 11 exact rfl)) | (apply za; (iterate 11 exact rfl)))
       | (apply we; first | apply qg | apply qh | apply qb | (apply qx; exact rfl; exact rfl) | (apply qr; exact rfl; first | (apply jn; (first | assumption | omega)) | (apply jq; (first | assumption | omega)) | (apply jo; (first | exact rfl | assumption)) | (apply jr; (first | exact rfl | assumption)) | (apply pk_t; (first | exact rfl | assumption)) | (apply pk_f; (first | exact rfl | assumption))) | (apply qy; exact rfl; exact rfl) | apply jj | (apply zj; exact rfl; exact rfl) | (apply j4; (iterate 4 exact rfl)) | (apply kh; (iterate 3 exact rfl)) | (apply j6; (iterate 3 exact rfl); first | assumption | omega | (simp; omega)) | (apply zt; (iterate 3 exact rfl)) | (apply zr; (iterate 9 exact rfl)) | (apply zv; exact rfl; exact rfl) | (apply jy; (iterate 4 exact rfl); (first | assumption | omega | decide); exact rfl) | (apply zx; (iterate 4 exact rfl); first | assumption | omega | decide))
       | (apply q4 (n := i); (iterate 5 exact rfl); exact hky)
       | (apply q4 (n := i); (iterate 5 exact rfl); exact hgy)
       | (apply qf; exact Tryz.call95; exact hsa _)
       | (apply qf; exact Tryz.call41; exact hun _))
      exact qi rfl (zf rfl) ⟨rfl, _, rfl⟩
    ·rw [if_pos h4]
     repeat' (first
      | (apply wh; first | apply qj | apply qp | apply qc | (apply qe; exact rfl; first | (apply q5; (first | assumption | omega)) | (apply q6; (first | assumption | omega)) | (apply q7; (first | exact rfl | assumption)) | (apply q8; (first | exact rfl | assumption)) | (apply cd_n <;> intro h) | (apply cd_t; (first | exact rfl | assumption)) | (apply cd_f; (first | exact rfl | assumption)) | (apply cd_d <;> intro h) | (apply cd_s <;> intro h)) | (apply v4; exact rfl; kernel_rfl) | apply qs | apply z6 | apply qq)
      | (apply vc; first | (apply qo; (iterate 4 exact rfl)) | (apply zw; (iterate 4 exact rfl)))
      | (apply wu; first | (apply vh; (first | assumption | omega)) | (apply jv; (first | assumption | omega)) | (apply jt; (first | assumption | omega)) | (apply ko; (first | assumption | omega)) | (apply vo; (first | exact rfl | assumption)) | (apply j3; (first | exact rfl | assumption)) | (apply jx; (first | exact rfl | assumption)) | (apply kr; (first | exact rfl | assumption)) | (apply kj <;> intro h) | (apply kg; (first | exact rfl | assumption)) | (apply vn; (first | exact rfl | assumption)) | (apply jw; (first | exact rfl | assumption)) | (apply ju; (first | exact rfl | assumption)) | (apply je <;> intro h) | (apply vm <;> intro h))
      | (apply wx; first | apply w7 | (apply wy; (iterate 4 exact rfl)) | (apply xu; exact rfl; exact rfl; exact ql (by omega) (by omega)) | (apply ww; (iterate 4 exact rfl); (first | assumption | omega | (simp; omega)); first | assumption | omega | (simp; omega)) | (apply ke; (iterate 5 exact rfl)) | (apply vp; exact rfl; exact rfl; (first | omega | (simp only [List.length_append, List.length_cons, List.length_nil]; omega) | (simp; omega))) | (apply kp; (iterate 3 exact rfl)) | (apply j7; (iterate 5 exact rfl)) | (apply jb; (iterate 4 exact rfl)) | (apply ja; (iterate 3 exact rfl)) | (apply xk; (iterate 3 exact rfl); first | assumption | omega | (simp; omega)) | (apply wq; exact rfl; exact rfl) | (apply wc; exact rfl; exact rfl) | (apply wb; (iterate 3 exact rfl); omega) | (apply vq; (iterate 3 exact rfl)) | apply wg | apply vk | (apply xo; exact rfl; exact rfl; exact ql (by omega) (by omega)) | (apply wv; (iterate 3 exact rfl)) | (apply wl; (iterate 3 exact rfl); first | assumption | omega | (simp; omega)) | (apply wn; (iterate 3 exact rfl); first | assumption | omega | (simp; omega)) | (apply kv; exact rfl; exact rfl))
      | (apply vb; first | (apply qm; (iterate 3 exact rfl)) | (apply z0; (iterate 3 exact rfl)) | (apply zq; exact rfl; exact rfl; (first | omega | (simp only [List.length_append, List.length_cons, List.length_nil]; omega) | (simp; omega))) | (apply zy; exact rfl; exact rfl; exact ql (by omega) (by omega)) | (apply vl; exact rfl; exact rfl; exact ql (by omega) (by omega)) | (apply zo; exact rfl; exact rfl) | (apply zl; exact rfl; exact rfl) | (apply z8; exact rfl; exact rfl) | (apply jg; exact rfl; exact rfl) | (apply jd; (iterate 3 exact rfl)) | (apply ji; (iterate 3 exact rfl)) | (apply ka; exact rfl; exact rfl; (first | exact qd _ | exact rfl); first | exact qd _ | exact rfl) | (apply km; exact rfl; exact rfl; (first | exact qd _ | exact rfl); first | exact qd _ | exact rfl) | (apply vv; exact rfl; exact rfl; (first | exact qd _ | exact rfl); first | exact qd _ | exact rfl) | (apply j5; (iterate 3 exact rfl)) | (apply kc; (iterate 3 exact rfl)))
      | (apply vr; first | (apply zc; (iterate 3 exact rfl)) | (apply jk; (iterate 5 exact rfl)) | (apply ze; (iterate 5 exact rfl)))
      | (apply vw; first | (apply ku; exact rfl) | (apply z7; exact rfl) | (apply jl; exact rfl))
      | (apply vd; first | (apply vf; (iterate 3 exact rfl); first | assumption | omega | (simp; omega)) | (apply kf; (iterate 3 exact rfl); first | assumption | omega | (simp; omega)) | (apply vj; (iterate 4 exact rfl); (first | assumption | omega | (simp; omega)); first | assumption | omega | (simp; omega)) | (apply jc; (iterate 4 exact rfl); (first | assumption | omega | exact Nat.succ_le_succ (Nat.zero_le _) | (simp; omega)); exact rfl))
      | (apply vz; first | (apply z2; (iterate 3 exact rfl)) | (apply zk; (iterate 4 exact rfl)))
      | (apply jh; first | (apply qu; (iterate 3 exact rfl)) | (apply zn; (iterate 4 exact rfl)))
      | (apply va; first | (apply zm; (iterate 11 exact rfl)) | (apply za; (iterate 11 exact rfl)))
      | (apply we; first | apply qg | apply qh | apply qb | (apply qx; exact rfl; exact rfl) | (apply qr; exact rfl; first | (apply jn; (first | assumption | omega)) | (apply jq; (first | assumption | omega)) | (apply jo; (first | exact rfl | assumption)) | (apply jr; (first | exact rfl | assumption)) | (apply pk_t; (first | exact rfl | assumption)) | (apply pk_f; (first | exact rfl | assumption))) | (apply qy; exact rfl; exact rfl) | apply jj | (apply zj; exact rfl; exact rfl) | (apply j4; (iterate 4 exact rfl)) | (apply kh; (iterate 3 exact rfl)) | (apply j6; (iterate 3 exact rfl); first | assumption | omega | (simp; omega)) | (apply zt; (iterate 3 exact rfl)) | (apply zr; (iterate 9 exact rfl)) | (apply zv; exact rfl; exact rfl) | (apply jy; (iterate 4 exact rfl); (first | assumption | omega | decide); exact rfl) | (apply zx; (iterate 4 exact rfl); first | assumption | omega | decide))
      | (apply q4 (n := i); (iterate 5 exact rfl); exact hky)
      | (apply q4 (n := i); (iterate 5 exact rfl); exact hgy))
     exact qi rfl (zf rfl) ⟨rfl, _, rfl⟩
end Go.Proofs.YtefmcijohgpfhaaGreatDoor
