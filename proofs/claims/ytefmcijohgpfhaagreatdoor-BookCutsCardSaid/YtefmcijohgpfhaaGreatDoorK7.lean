/- Contracts and plain facts that the closing text leans on (part 7). No condition of their own beyond those that each states. -/
import Derived.Test.YtefmcijohgpfhaaGreatDoorK6
set_option maxRecDepth 100000
set_option linter.unusedVariables false
set_option linter.unusedSimpArgs false
set_option maxRecDepth 100000
set_option linter.unusedVariables false
namespace Go.Pl
open Go Go.Proofs Go.Proofs.YtefmcijohgpfhaaGreatDoor
def SpL (L : List qa) : Prop := L ≠ [] ∧ ∀ s ∈ L, 10 ∉ s ∧ [32] <+: s
def encL (b : List qu) : List qa := b.flatMap fun x => j6 x :: qao x
theorem qyc {b : List qu} (hg : ∀ x ∈ b, EncG x) : encF b = zn (encL b) := by
 induction b with
 | nil => rfl
 | cons x r ih =>
  have e : encL (x :: r) = (j6 x :: qao x) ++ encL r := by simp [encL]
  have e2 : encF (x :: r) = jg x ++ encF r := by simp [encF]
  rw [e, qcz, e2, qei (hg x (by simp)).good, ih fun y hy => hg y (by simp [hy])]
theorem q3n {x : qu} (hk : x.kind = 1 ∨ x.kind = 2 ∨ x.kind = 3) : [32] <+: j6 x := by
 unfold j6
 rw [if_pos (by omega)]
 rcases hk with h | h | h <;> rw [h] <;> exact ⟨_, rfl⟩
theorem q4h {b : List qu} (hne : b ≠ []) (hg : ∀ x ∈ b, EncG x) : SpL (encL b) := by
 refine ⟨?_, fun s hs => ?_⟩
 ·cases b with
  | nil => exact absurd rfl hne
  | cons x r => simp [encL]
 ·obtain ⟨x, hx, hs⟩ := List.mem_flatMap.1 hs
  have hG := hg x hx
  rcases List.mem_cons.1 hs with rfl | hs
  ·exact ⟨qbs x, q3n hG.kind⟩
  ·obtain ⟨h1, t, ht⟩ := qkq hG.good s hs
   exact ⟨h1, [32] ++ t, by rw [← ht]; rfl⟩
theorem q3h {L : List qa} (h : SpL L) : sp true (zn L) = true := by
 rw [← qh6 _ (zn L) (Nat.le_refl _), qbw L fun s hs => (h.2 s hs).1]
 intro x hx
 obtain ⟨s, hs, rfl⟩ := List.mem_map.1 hx
 exact (h.2 s hs).2
theorem qz5 {L : List qa} (h : SpL L) : (zn L)[0]? = some 32 := by
 obtain ⟨hne, hs⟩ := h
 cases L with
 | nil => exact absurd rfl hne
 | cons s r =>
  obtain ⟨t, ht⟩ := (hs s (by simp)).2
  rw [xe, ← ht]
  rfl
theorem qpl : ∀ (L : List qa), L ≠ [] → (zn L).getLast? = some 10
 | [], h => absurd rfl h
 | [s], _ => by rw [xe]; simp [zn]
 | s :: t :: r, _ => by
  have ih := qpl (t :: r) (by simp)
  have hne : zn (t :: r) ≠ [] := fun e => by rw [e] at ih; simp at ih
  rw [xe, List.getLast?_append, List.getLast?_cons, ih]
  simp
theorem qxz {b : List qu} (he : eErr b = .no) (hB : ∀ x ∈ b, EdB x) (hl : (encF b).length ≤ 50000) : wx (encF b) := by
 obtain ⟨h1, h40, hg⟩ := qky he
 have hG : ∀ y ∈ b, EncG y := fun y hy => qux (hg y hy) (hB y hy)
 have hne : b ≠ [] := fun e => by subst e; simp at h1
 have hS := q4h hne hG
 have ht := qyc hG
 have hh := qz5 hS
 have hlast := qpl _ hS.1
 rw [← ht] at hh hlast
 have hsp := q3h hS
 rw [← ht] at hsp
 refine ⟨?_, hl, hlast, by rw [qek]; exact hsp⟩
 rcases hc : encF b with _ | ⟨c, _ | ⟨d, r⟩⟩
 ·rw [hc] at hh; simp at hh
 ·rw [hc] at hh hlast
  simp at hh hlast
  rw [hh] at hlast
  simp at hlast
 ·simp
end Go.Pl
namespace Go.Proofs.YtefmcijohgpfhaaGreatDoor
open Go Go.Av Go.RowKit Go.Proofs Go.Pl
theorem qal {xs : List qu} {k : Nat} (hk : k < xs.length) : (xs.map wi)[k]? = some (wi (xs.getD k ⟨0, 0, []⟩)) := by
 simp [List.getD, hk]
def qzb (b : List qu) : Prop := b.length ≤ 51 ∧ ∀ x ∈ b, q2w x.fields
def ArgE (b : List qu) : Prop := b.length < 9223372036854775808 ∧ ∀ x ∈ b, x.fields.length < 9223372036854775808 ∧ -9223372036854775808 ≤ x.id ∧ x.id ≤ 9223372036854775807
theorem q3c {b : List qu} (hA : ArgE b) (h : qzb b) : ∀ x ∈ b, EdB x := fun x hx => ⟨fun f hf => ((h.2 x hx).val f hf).1, (hA.2 x hx).1, (hA.2 x hx).2.1, (hA.2 x hx).2.2⟩
end Go.Proofs.YtefmcijohgpfhaaGreatDoor
set_option maxRecDepth 100000
set_option linter.unusedVariables false
namespace Go.Proofs.YtefmcijohgpfhaaGreatDoor
open Go Go.Av Go.RowKit Go.Proofs Go.Pl
def ArgX (x : qu) : Prop := x.fields.length < 9223372036854775808 ∧ -9223372036854775808 ≤ x.id ∧ x.id ≤ 9223372036854775807
theorem q18 : Opn Tryz.prog 45 fun a => ∃ x : qu, a = wi x ∧ ArgX x := by
 intro H enc W fuel cs x h
 obtain ⟨a, ⟨vs, rfl, hl, hv⟩, hr⟩ := qnx (As := [(some (.int .i64), IsI .i64), (some (.int .i64), IsI .i64), (some (.slice 69), fun a => ∃ xs : List FldV, a = ju xs ∧ xs.length ≤ maxLen)]) (by kernel_rfl) (by kernel_rfl) (by kernel_rfl) (by kernel_rfl)
  (List.forall_mem_cons.2 ⟨⟨fun _ h => q2n h, q2s _⟩, List.forall_mem_cons.2 ⟨⟨fun _ h => q2n h, q2s _⟩, List.forall_mem_cons.2 ⟨⟨fun _ h => q12 h, q05⟩, nofun⟩⟩⟩) H enc W fuel cs x h
 match vs, hl with
 | [v0, v1, v2], _ =>
  obtain ⟨n0, rfl, w0⟩ := hv 0 _ _ rfl rfl
  obtain ⟨n1, rfl, w1⟩ := hv 1 _ _ rfl rfl
  obtain ⟨xs, rfl, m⟩ := hv 2 _ _ rfl rfl
  exact ⟨_, ⟨⟨n0, n1, xs⟩, rfl, qxw m, lit_i64 w1⟩, hr⟩
theorem qq7 {α : Type} {g : α → AV} {P : α → Prop} : ∀ {xs : List AV}, (∀ x ∈ xs, ∃ a, x = g a ∧ P a) → ∃ ys : List α, xs = ys.map g ∧ ∀ a ∈ ys, P a
 | [], _ => ⟨[], rfl, by simp⟩
 | x :: r, h => by
  obtain ⟨ys, hys, has⟩ := qq7 (xs := r) fun y hy => h y (List.mem_cons_of_mem _ hy)
  obtain ⟨a, rfl, ha⟩ := h x (by simp)
  subst hys
  refine ⟨a :: ys, rfl, fun b hb => ?_⟩
  rcases List.mem_cons.1 hb with rfl | hb
  ·exact ha
  ·exact has b hb
theorem qze {t : TypeId} (hu : Tryz.prog.underlying t = some (.slice 45)) : Opn Tryz.prog t fun a => ∃ xs : List qu, a = ja xs ∧ ArgE xs := by
 intro H enc W fuel cs x h
 obtain ⟨a, ⟨xs, rfl, hl, hx⟩, hr⟩ := qy0 (sz := 3) hu (by kernel_rfl) (by decide) q18 H enc W fuel cs x h
 obtain ⟨rs, rfl, hrs⟩ := qq7 hx
 exact ⟨_, ⟨rs, rfl, qxw (by simpa using hl), hrs⟩, hr⟩
theorem qya : One fun a => ∃ xs : List qu, a = ja xs ∧ ArgE xs := by rintro _ ⟨xs, rfl, _⟩; rfl
end Go.Proofs.YtefmcijohgpfhaaGreatDoor
set_option maxRecDepth 100000
set_option linter.unusedVariables false
namespace Go.Proofs.YtefmcijohgpfhaaGreatDoor
open Go Go.Av Go.RowKit Go.Proofs Go.Pl
noncomputable def qwn (a b : List qu) : Bool := @decide (a = b) (Classical.propDecidable _)
theorem qo9 {a b : List qu} (h : a = b) : qwn a b = true := @decide_eq_true _ (Classical.propDecidable _) h
theorem qkz {a b : List qu} (h : ¬ a = b) : qwn a b = false := @decide_eq_false _ (Classical.propDecidable _) h
theorem q3q {x y : qu} (h1 : x.kind = y.kind) (h2 : x.id = y.id) (h3 : x.fields = y.fields) : x = y := by
 cases x
 cases y
 simp_all
theorem qwe {a b : List qu} {k : Nat} {d : qu} (hl : a.length = b.length) (hk : k < a.length) (h : a.take k = b.take k) (h2 : a.getD k d = b.getD k d) : a.take (k + 1) = b.take (k + 1) := by
 rw [List.take_succ_eq_append_getElem hk, List.take_succ_eq_append_getElem (by omega), h]
 congr 2
 simpa [List.getD, hk, show k < b.length by omega] using h2
set_option maxHeartbeats 4000000 in
theorem q14 (a b : List qu) (st : List AObj) (ha : a.length < 9223372036854775808) (hf : ∀ x ∈ a, x.fields.length < 9223372036854775808) : qm E 14 [ja a, ja b] st fun r st' => r = Bv (qwn a b) ∧ st' = st := by
 refine q8 (zd _) (qq Tryz.func14 rfl (Nat.le_of_ble_eq_true rfl) ?_)
 have hma : (a.map wi).length = a.length := by simp
 have hmb : (b.map wi).length = b.length := by simp
 by_cases hl : a.length = b.length
 ·skip
  repeat' (first
   | apply qj
   | apply qt
   | apply qb
   | apply qg
   | apply qh
   | apply qc
   | (apply qo; (iterate 3 exact rfl))
   | (apply qd; exact rfl; first | (apply qy; (first | assumption | omega)) | (apply q4; (first | assumption | omega)) | (apply q5; (first | exact rfl | assumption)) | (apply qz; (first | exact rfl | assumption)) | (apply cd_n <;> intro h) | (apply cd_t; (first | exact rfl | assumption)) | (apply cd_f; (first | exact rfl | assumption)) | (apply cd_d <;> intro h) | (apply cd_s <;> intro h))
   | (apply zx; (iterate 4 exact rfl))
   | apply qv)
  refine vq (fun (k : Nat) s => k ≤ a.length ∧ a.take k = b.take k ∧ StE [(0, ja a), (1, ja b), (12, Iv a.length), (13, Iv k)] st [] s) (fun k => a.length - k) 0 ⟨by omega, by simp, qb6 ⟨rfl, rfl, congrArg (fun n : Nat => Iv (n : Int)) hma, rfl, trivial⟩ rfl⟩ ?_
  rintro k _ ⟨hk, ht, t, ext, rfl⟩
  by_cases hc : k < a.length
  ·have hfl := hf (a.getD k ⟨0, 0, []⟩) (by simp [List.getD, hc])
   have hne : a.getD k ⟨0, 0, []⟩ ≠ b.getD k ⟨0, 0, []⟩ → ¬ a = b := fun h e => h (by rw [e])
   by_cases h1 : (a.getD k ⟨0, 0, []⟩).kind = (b.getD k ⟨0, 0, []⟩).kind
   ·by_cases h2 : (a.getD k ⟨0, 0, []⟩).id = (b.getD k ⟨0, 0, []⟩).id
    ·by_cases h3 : (a.getD k ⟨0, 0, []⟩).fields = (b.getD k ⟨0, 0, []⟩).fields
     ·skip
      have hF : ∀ st, qm E 44 [ju (a.getD k ⟨0, 0, []⟩).fields, ju (b.getD k ⟨0, 0, []⟩).fields] st fun r st' => r = Bv true ∧ st' = st := fun st => by
       have := qpi (a.getD k ⟨0, 0, []⟩).fields (b.getD k ⟨0, 0, []⟩).fields st hfl
       rw [decide_eq_true h3] at this
       exact this
      repeat' (first
       | apply qj
       | apply qt
       | apply qb
       | apply qg
       | apply qh
       | apply qc
       | (apply qo; (iterate 3 exact rfl))
       | (apply qd; exact rfl; first | (apply qy; (first | assumption | omega)) | (apply q4; (first | assumption | omega)) | (apply q5; (first | exact rfl | assumption)) | (apply qz; (first | exact rfl | assumption)) | (apply cd_n <;> intro h) | (apply cd_t; (first | exact rfl | assumption)) | (apply cd_f; (first | exact rfl | assumption)) | (apply cd_d <;> intro h) | (apply cd_s <;> intro h))
       | (apply jh; exact rfl; exact rfl; exact zl (by omega) (by omega))
       | (apply xa; exact rfl; kernel_rfl)
       | apply ym
       | (apply v8; (iterate 3 exact rfl))
       | (apply vh; (iterate 4 exact rfl))
       | apply xm
       | apply qv
       | (apply km (n := k); (iterate 5 exact rfl); exact qal (xs := a) (by omega))
       | (apply km (n := k); (iterate 5 exact rfl); exact qal (xs := b) (by omega))
       | (apply qmf; exact rfl; exact rfl; (first | exact h1 | exact h2))
       | (apply qf7; (iterate 5 exact rfl))
       | (apply qjo; exact rfl; exact rfl)
       | (refine qsj (args := [ju _, ju _]) qu7 Tryz.call44 rfl qu2 (qhx _) (fun _ => .v _) (hF _) ?_)
       | (apply qxu; exact rfl))
      exact ⟨k + 1, ⟨by omega, qwe hl hc ht (q3q h1 h2 h3), qa5 ⟨rfl, rfl, rfl, rfl, trivial⟩ rfl⟩, by omega⟩
     ·skip
      have hF : ∀ st, qm E 44 [ju (a.getD k ⟨0, 0, []⟩).fields, ju (b.getD k ⟨0, 0, []⟩).fields] st fun r st' => r = Bv false ∧ st' = st := fun st => by
       have := qpi (a.getD k ⟨0, 0, []⟩).fields (b.getD k ⟨0, 0, []⟩).fields st hfl
       rw [decide_eq_false h3] at this
       exact this
      repeat' (first
       | apply qj
       | apply qt
       | apply qb
       | apply qg
       | apply qh
       | apply qc
       | (apply qo; (iterate 3 exact rfl))
       | (apply qd; exact rfl; first | (apply qy; (first | assumption | omega)) | (apply q4; (first | assumption | omega)) | (apply q5; (first | exact rfl | assumption)) | (apply qz; (first | exact rfl | assumption)) | (apply cd_n <;> intro h) | (apply cd_t; (first | exact rfl | assumption)) | (apply cd_f; (first | exact rfl | assumption)) | (apply cd_d <;> intro h) | (apply cd_s <;> intro h))
       | (apply xa; exact rfl; kernel_rfl)
       | apply ym
       | (apply v8; (iterate 3 exact rfl))
       | (apply vh; (iterate 4 exact rfl))
       | apply xm
       | apply qv
       | apply qs
       | (apply km (n := k); (iterate 5 exact rfl); exact qal (xs := a) (by omega))
       | (apply km (n := k); (iterate 5 exact rfl); exact qal (xs := b) (by omega))
       | (apply qmf; exact rfl; exact rfl; (first | exact h1 | exact h2))
       | (apply qf7; (iterate 5 exact rfl))
       | (apply qjo; exact rfl; exact rfl)
       | (refine qsj (args := [ju _, ju _]) qu7 Tryz.call44 rfl qu2 (qhx _) (fun _ => .v _) (hF _) ?_)
       | (apply qxu; exact rfl))
      exact qk rfl (ze rfl) ⟨congrArg Bv (qkz (hne fun e => h3 (by rw [e]))).symm, vc _ _ _ _⟩
    ·skip
     repeat' (first
      | apply qj
      | apply qt
      | apply qb
      | apply qg
      | apply qh
      | apply qc
      | (apply qo; (iterate 3 exact rfl))
      | (apply qd; exact rfl; first | (apply qy; (first | assumption | omega)) | (apply q4; (first | assumption | omega)) | (apply q5; (first | exact rfl | assumption)) | (apply qz; (first | exact rfl | assumption)) | (apply cd_n <;> intro h) | (apply cd_t; (first | exact rfl | assumption)) | (apply cd_f; (first | exact rfl | assumption)) | (apply cd_d <;> intro h) | (apply cd_s <;> intro h))
      | (apply xa; exact rfl; kernel_rfl)
      | apply ym
      | (apply v8; (iterate 3 exact rfl))
      | (apply vh; (iterate 4 exact rfl))
      | apply xm
      | apply qv
      | apply qs
      | (apply km (n := k); (iterate 5 exact rfl); exact qal (xs := a) (by omega))
      | (apply km (n := k); (iterate 5 exact rfl); exact qal (xs := b) (by omega))
      | (apply qmf; exact rfl; exact rfl; exact h1)
      | (apply qrf; exact rfl; exact rfl; exact h2)
      | (apply qf7; (iterate 5 exact rfl))
      | (apply qja; (iterate 5 exact rfl))
      | (apply qp1; exact rfl; exact rfl)
      | (apply qjo; exact rfl; exact rfl))
     exact qk rfl (ze rfl) ⟨congrArg Bv (qkz (hne fun e => h2 (by rw [e]))).symm, vc _ _ _ _⟩
   ·skip
    repeat' (first
     | apply qj
     | apply qt
     | apply qb
     | apply qg
     | apply qh
     | apply qc
     | (apply qo; (iterate 3 exact rfl))
     | (apply qd; exact rfl; first | (apply qy; (first | assumption | omega)) | (apply q4; (first | assumption | omega)) | (apply q5; (first | exact rfl | assumption)) | (apply qz; (first | exact rfl | assumption)) | (apply cd_n <;> intro h) | (apply cd_t; (first | exact rfl | assumption)) | (apply cd_f; (first | exact rfl | assumption)) | (apply cd_d <;> intro h) | (apply cd_s <;> intro h))
     | (apply xa; exact rfl; kernel_rfl)
     | apply ym
     | (apply v8; (iterate 3 exact rfl))
     | (apply vh; (iterate 4 exact rfl))
     | apply xm
     | apply qv
     | apply qs
     | (apply km (n := k); (iterate 5 exact rfl); exact qal (xs := a) (by omega))
     | (apply km (n := k); (iterate 5 exact rfl); exact qal (xs := b) (by omega))
     | (apply qrf; exact rfl; exact rfl; exact h1)
     | (apply qja; (iterate 5 exact rfl))
     | (apply qp1; exact rfl; exact rfl))
    exact qk rfl (ze rfl) ⟨congrArg Bv (qkz (hne fun e => h1 (by rw [e]))).symm, vc _ _ _ _⟩
  ·have hab : a = b := by
    have e : k = a.length := by omega
    rw [e, List.take_length, List.take_of_length_le (by omega)] at ht
    exact ht
   repeat' (first
    | apply qj
    | apply qb
    | apply qg
    | apply qc
    | (apply qo; (iterate 3 exact rfl))
    | (apply qd; exact rfl; first | (apply qy; (first | assumption | omega)) | (apply q4; (first | assumption | omega)) | (apply q5; (first | exact rfl | assumption)) | (apply qz; (first | exact rfl | assumption)) | (apply cd_n <;> intro h) | (apply cd_t; (first | exact rfl | assumption)) | (apply cd_f; (first | exact rfl | assumption)) | (apply cd_d <;> intro h) | (apply cd_s <;> intro h))
    | apply jk
    | apply qs)
   exact qk rfl (ze rfl) ⟨congrArg Bv (qo9 hab).symm, vc _ _ _ _⟩
 ·have hab : ¬ a = b := fun e => hl (by rw [e])
  repeat' (first
   | apply qj
   | apply qb
   | apply qg
   | apply qh
   | apply qc
   | (apply qo; (iterate 3 exact rfl))
   | (apply qd; exact rfl; first | (apply qy; (first | assumption | omega)) | (apply q4; (first | assumption | omega)) | (apply q5; (first | exact rfl | assumption)) | (apply qz; (first | exact rfl | assumption)) | (apply cd_n <;> intro h) | (apply cd_t; (first | exact rfl | assumption)) | (apply cd_f; (first | exact rfl | assumption)) | (apply cd_d <;> intro h) | (apply cd_s <;> intro h))
   | (apply zx; (iterate 4 exact rfl))
   | apply qs)
  exact qk rfl (ze rfl) ⟨congrArg Bv (qkz hab).symm, _, rfl⟩
end Go.Proofs.YtefmcijohgpfhaaGreatDoor
set_option maxRecDepth 100000
set_option linter.unusedVariables false
namespace Go.Proofs.YtefmcijohgpfhaaGreatDoor
open Go Go.Av Go.RowKit Go.Proofs Go.Pl
theorem qye : ∀ (ps : List qa) (acc b : List qu), (∀ x ∈ acc, EdB x) → decP ps acc = some b → ∀ x ∈ b, EdB x
 | [], acc, b, h, e => by
  rw [decP] at e
  cases e
  exact h
 | p :: r, acc, b, h, e => by
  rw [decP] at e
  split at e
  ·simp at e
  ·rename_i k n hb
   split at e
   ·refine qye r _ b (fun x hx => ?_) e
    rcases List.mem_append.1 hx with hx | hx
    ·exact h x hx
    ·obtain rfl := List.mem_singleton.1 hx
     exact qzs (qpb hb).1 (qpb hb).2 (qls _)
   ·simp at e
theorem q45 {text : qa} {b : List qu} (h : decF text = some b) : ∀ x ∈ b, EdB x := by
 unfold decF at h
 split at h
 ·simp at h
 ·split at h
  ·simp at h
  ·rename_i c hc
   split at h
   ·cases h
    exact qye _ _ _ (by simp) hc
   ·simp at h
end Go.Proofs.YtefmcijohgpfhaaGreatDoor
set_option maxRecDepth 100000
set_option linter.unusedVariables false
namespace Go.Pl
open Go Go.Proofs Go.Proofs.YtefmcijohgpfhaaGreatDoor
def OutG (out : List qu) (m : Nat) : Prop := ∀ x ∈ out, (∀ f ∈ x.fields, jl f) ∧ x.fields.length ≤ m ∧ -9223372036854775808 ≤ x.id ∧ x.id ≤ 9223372036854775807
theorem OutG.mono {out : List qu} {m m' : Nat} (h : OutG out m) (hm : m ≤ m') : OutG out m' := fun x hx => ⟨(h x hx).1, by have := (h x hx).2.1; omega, (h x hx).2.2⟩
end Go.Pl
set_option maxRecDepth 100000
set_option linter.unusedVariables false
namespace Go.Pl
open Go Go.Proofs
def kv : List (qa × Bool) → List qa
 | [] => []
 | (t, _) :: r => if qx t = 3 then t :: kv r else []
def wd (prev : Bool) (t : qa) (e : Bool) (r : List (qa × Bool)) (fields : Nat) (records : Int) : Int :=
 if qx t = 5 ∨ (qx t = 3 ∧ prev = false) ∨ e = false then 2
 else if qx t ≠ 4 then 0
 else if (jf (t :: kv r)).2 ≠ 0 then (jf (t :: kv r)).2
 else if 40 ≤ fields ∨ (fields = 0 ∧ 400 ≤ records) then 11 else 0
theorem que {α : Type} {l : List α} {x : α} (h : l.getLast? = some x) : l.dropLast ++ [x] = l := by
 have hne : l ≠ [] := fun e => by subst e; simp at h
 rw [List.getLast?_eq_some_getLast hne] at h
 obtain rfl := Option.some.inj h
 exact List.dropLast_concat_getLast hne
def outR (now : ka) (out : List ka) : List ka := if now.raw = [] then out else out ++ [now]
def refL : Nat → List (qa × Bool) → Bool → ka → Int → List ka → Option (Int × Int) × List ka
 | _, [], _, now, _, out => (none, outR now out)
 | i, (t, e) :: r, prev, now, rec, out =>
  if wd prev t e r now.fields.length rec ≠ 0 then (some ((i : Int), wd prev t e r now.fields.length rec), [])
  else if qx t = 1 then refL (i + 1) r false ⟨2, [], []⟩ rec (outR now out ++ [⟨1, t ++ [10], []⟩])
  else if qx t = 4 then refL (i + 1) r true ⟨3, now.raw ++ t ++ [10], now.fields ++ [(jf (t :: kv r)).1]⟩ (if now.kind = 2 then rec + 1 else rec) out
  else refL (i + 1) r (decide (qx t = 3)) ⟨now.kind, now.raw ++ t ++ [10], now.fields⟩ rec out
def qqr : List (qa × Bool) → Prop
 | [] => True
 | (_, e) :: r => (e = false → r = []) ∧ qqr r
theorem qll : ∀ (n : Nat) (l : qa), l.length ≤ n → qqr (zu l)
 | 0, l, h => by
  have : l = [] := List.length_eq_zero_iff.1 (by omega)
  subst this
  rw [vz]
  trivial
 | n + 1, l, h => by
  by_cases hl : l = []
  ·subst hl
   rw [vz]
   trivial
  ·rw [v6 hl]
   refine ⟨fun he => ?_, qll n _ (by have := wo (c := 10) hl; omega)⟩
   have h10 : 10 ∉ l := by simpa using he
   have : past 10 l = [] := by
    unfold past
    rw [ye h10]
    exact List.drop_eq_nil_of_le (by omega)
   rw [this, vz]
def qck (ls : List qa) (full : Bool) : Int := if (jf ls).2 ≠ 0 then (jf ls).2 else if full = true then 11 else 0
theorem qfh {p : PSt} (h : p.lines ≠ []) (hc : qck p.lines p.full ≠ 0) : (je p).1 = some (p.frm, qck p.lines p.full) := by
 unfold qck at *
 unfold je
 rw [if_neg h]
 by_cases h1 : (jf p.lines).2 ≠ 0
 ·rw [if_pos h1, if_pos h1]
 ·rw [if_neg h1] at hc ⊢
  rw [if_neg h1]
  by_cases h2 : p.full = true
  ·rw [if_pos h2, if_pos h2]
  ·rw [if_neg h2] at hc
   exact absurd rfl hc
theorem qp5 {p : PSt} (h : p.lines = [] ∨ qck p.lines p.full = 0) : je p = (none, { p with lines := [], fields := p.fields ++ (if p.lines = [] then [] else [(jf p.lines).1]) }) := by
 unfold je
 by_cases h0 : p.lines = []
 ·rw [if_pos h0, if_pos h0]
  obtain ⟨a, b, c, d, e, f, g⟩ := p
  simp only at h0
  subst h0
  simp
 ·rw [if_neg h0, if_neg h0]
  have h := h.resolve_left h0
  unfold qck at h
  by_cases h1 : (jf p.lines).2 ≠ 0
  ·rw [if_pos h1] at h
   exact absurd h h1
  ·rw [if_neg h1] at h ⊢
   by_cases h2 : p.full = true
   ·rw [if_pos h2] at h
    simp at h
   ·rw [if_neg h2]
theorem qmd {p : PSt} {no : Int} {t : qa} {e : Bool} {x : Int × Int} (h : (jd p no t e (qx t)).1 = some x) : (vf p no t e).1 = some x := by
 unfold vf
 rw [h]
theorem ql1 {p q : PSt} {no : Int} {t : qa} {e : Bool} (h : jd p no t e (qx t) = (none, q)) (hc : qx t = 5 ∨ e = false) : (vf p no t e).1 = some (no, 2) := by
 unfold vf
 rw [h]
 simp only
 rw [if_pos hc]
theorem qhm {p q : PSt} {no : Int} {t : qa} (h : jd p no t true (qx t) = (none, q)) (hc : qx t ≠ 5) : vf p no t true =
  if qx t = 1 then (none, { q with items := q.items ++ [⟨1, t ++ [10], []⟩] }) else if qx t = 4 then (none, { jq q no t with block := q.block ++ [t] }) else (none, { q with block := q.block ++ [t] }) := by
 unfold vf
 rw [h]
 simp only
 rw [if_neg (by simp [hc])]
theorem qc3 {k : Nat} {t : qa} {e : Bool} {r : List (qa × Bool)} {p : PSt} {x : Int × Int} (h : (vf p k t e).1 = some x) : (runL k ((t, e) :: r) p).1 = some x := by
 rw [runL, h]
theorem qew {k : Nat} {t : qa} {e : Bool} {r : List (qa × Bool)} {p q : PSt} (h : vf p k t e = (none, q)) : runL k ((t, e) :: r) p = runL (k + 1) r q := by
 rw [runL, h]
theorem qm2 {p : PSt} {no : Int} {t : qa} (hk : qx t = 3) (hl : p.lines ≠ []) : jd p no t true (qx t) = (none, { p with lines := p.lines ++ [t] }) := by
 unfold jd
 rw [if_pos hk, if_neg hl, if_pos rfl]
theorem qnc {p : PSt} {no : Int} {t : qa} (hk : qx t = 3) (hl : p.lines ≠ []) : jd p no t false (qx t) = je { p with lines := p.lines ++ [t] } := by
 unfold jd
 rw [if_pos hk, if_neg hl, if_neg (by simp)]
theorem qee {p : PSt} {no : Int} {t : qa} {e : Bool} (hk : qx t ≠ 3) (h1 : qx t ≠ 1) : jd p no t e (qx t) = je p := by
 unfold jd
 rw [if_neg hk, if_neg h1]
theorem qg7 {p : PSt} {no : Int} {t : qa} {e : Bool} (h1 : qx t = 1) : jd p no t e (qx t) = endP p := by
 unfold jd
 rw [if_neg (by omega), if_pos h1]
theorem qnn {t : qa} {e : Bool} {r : List (qa × Bool)} (h : qx t ≠ 3) : kv ((t, e) :: r) = [] := by
 rw [kv, if_neg h]
theorem qg4 {t : qa} {e : Bool} {r : List (qa × Bool)} (h : qx t = 3) : kv ((t, e) :: r) = t :: kv r := by
 rw [kv, if_pos h]
theorem qrj {p : PSt} {x : Int × Int} (h : (je p).1 = some x) : (endP p).1 = some x := by
 unfold endP
 rw [h]
theorem qo2 {p q : PSt} (h : je p = (none, q)) : endP p = (none, w7 q) := by
 unfold endP
 rw [h]
theorem qsi : ∀ (r : List (qa × Bool)) (p : PSt) (k : Nat) (c : Int), qqr r → p.lines ≠ [] → qck (p.lines ++ kv r) p.full = c → c ≠ 0 → (runL k r p).1 = some (p.frm, c)
 | [], p, k, c, _, hl, hc, h0 => by
  rw [kv, List.append_nil] at hc
  rw [runL]
  subst hc
  exact qrj (qfh hl h0)
 | (t, e) :: r, p, k, c, hE, hl, hc, h0 => by
  by_cases h3 : qx t = 3
  ·rw [qg4 h3] at hc
   cases e with
   | true =>
    have ht := qhm (qm2 (no := k) h3 hl) (by omega)
    rw [if_neg (by omega), if_neg (by omega)] at ht
    rw [qew ht]
    exact qsi r _ (k + 1) c hE.2 (by simp) (by simpa using hc) h0
   | false =>
    have hr := hE.1 rfl
    subst hr
    refine qc3 (qmd ?_)
    rw [qnc h3 hl]
    have hc' : qck (p.lines ++ [t]) p.full = c := hc
    have := qfh (p := { p with lines := p.lines ++ [t] }) (by simp) (by simp only; rw [hc']; exact h0)
    simp only at this
    rw [this, hc']
  ·rw [qnn h3, List.append_nil] at hc
   subst hc
   refine qc3 (qmd ?_)
   by_cases h1 : qx t = 1
   ·rw [qg7 h1]
    exact qrj (qfh hl h0)
   ·rw [qee h3 h1]
    exact qfh hl h0
structure Sim (r : List (qa × Bool)) (p : PSt) (prev : Bool) (now : ka) (rec : Int) (out : List ka) : Prop where
 hprev : prev = decide (p.lines ≠ [])
 hok : p.lines = [] ∨ qck (p.lines ++ kv r) p.full = 0
 hraw : now.raw = zn p.block
 hfields : now.fields = p.fields ++ (if p.lines = [] then [] else [(jf (p.lines ++ kv r)).1])
 hkind : now.kind = if now.fields = [] then 2 else 3
 hrec : rec = p.records + if now.fields = [] then 0 else 1
 hout : out = p.items
 hempty : p.block = [] → p.lines = [] ∧ p.fields = []
 b1 : now.fields.length ≤ 40
 b2 : rec ≤ 400
theorem qzi (b : List qa) : zn b = [] ↔ b = [] := by
 cases b with
 | nil => simp [zn]
 | cons x r => simp [zn]
theorem qi3 (b : List qa) (t : qa) : zn (b ++ [t]) = zn b ++ t ++ [10] := by simp [zn]
theorem Sim.flush {r : List (qa × Bool)} {p : PSt} {prev : Bool} {now : ka} {rec : Int} {out : List ka} (h : Sim r p prev now rec out) (hm : kv r = []) : je p = (none, { p with lines := [], fields := now.fields }) := by
 have h1 := h.hok
 have h2 := h.hfields
 rw [hm, List.append_nil] at h1 h2
 rw [qp5 h1, h2]
theorem Sim.close {r : List (qa × Bool)} {p : PSt} {prev : Bool} {now : ka} {rec : Int} {out : List ka} (h : Sim r p prev now rec out) (hm : kv r = []) : w7 { p with lines := [], fields := now.fields } = { p with lines := [], fields := [], block := [], items := outR now out, records := rec } := by
 have hk := h.hkind
 have hr := h.hrec
 have hw := h.hraw
 have ho := h.hout
 unfold w7 outR
 simp only
 by_cases hb : p.block = []
 ·obtain ⟨e1, e2⟩ := h.hempty hb
  have hf : now.fields = [] := by rw [h.hfields, e1, e2]; simp
  rw [if_pos hb, if_pos (by rw [hw, hb]; rfl), ho, hr, hf]
  simp
 ·have hne : ¬ now.raw = [] := by rw [hw, qzi]; exact hb
  rw [if_neg hb, if_neg hne, ho, hr, ← hw]
  obtain ⟨nk, nr, nf⟩ := now
  simp only at hk hne ⊢
  by_cases hf : nf = []
  ·rw [if_pos hf] at hk
   simp [hf, hk, hne]
  ·rw [if_neg hf] at hk
   simp [hf, hk, hne]
theorem qhh : ∀ (r : List (qa × Bool)) (k : Nat) (p : PSt) (prev : Bool) (now : ka) (rec : Int) (out : List ka), qqr r → Sim r p prev now rec out →
  refL k r prev now rec out = match (runL k r p).1 with
   | some e => (some e, [])
   | none => (none, (runL k r p).2.items)
 | [], k, p, prev, now, rec, out, _, h => by
  rw [runL, qo2 (h.flush rfl), h.close rfl, refL]
 | (t, e) :: r, k, p, prev, now, rec, out, hE, h => by
  rw [refL]
  by_cases h3 : qx t = 3
  ·by_cases hl : p.lines = []
   ·have hp : prev = false := by rw [h.hprev]; simp [hl]
    have hw : wd prev t e r now.fields.length rec = 2 := by
     unfold wd
     rw [if_pos (.inr (.inl ⟨h3, hp⟩))]
    rw [hw, if_pos (by decide), qc3 (x := ((k : Int), 2)) (qmd (by unfold jd; rw [if_pos h3, if_pos hl]))]
   ·cases e with
    | true =>
     have hp : prev = true := by rw [h.hprev]; simp [hl]
     have hw : wd prev t true r now.fields.length rec = 0 := by
      unfold wd
      rw [if_neg (by simp [hp]; omega), if_pos (by omega)]
     have ht := qhm (qm2 (no := k) h3 hl) (by omega)
     rw [if_neg (by omega), if_neg (by omega)] at ht
     rw [hw, if_neg (by simp), if_neg (by omega), if_neg (by omega), qew ht]
     have hm := qg4 (e := true) (r := r) h3
     have hok := h.hok.resolve_left hl
     have hfs := h.hfields
     rw [if_neg hl, hm] at hfs
     rw [hm] at hok
     refine qhh r (k + 1) _ _ _ _ _ hE.2 ⟨by simp [h3], .inr (by simpa using hok), by rw [qi3, ← h.hraw], by simp [hfs], h.hkind, h.hrec, h.hout, by simp, h.b1, h.b2⟩
    | false =>
     have hr := hE.1 rfl
     subst hr
     have hw : wd prev t false [] now.fields.length rec = 2 := by
      unfold wd
      rw [if_pos (.inr (.inr rfl))]
     have hok := h.hok.resolve_left hl
     rw [qg4 h3] at hok
     have hf := qp5 (p := { p with lines := p.lines ++ [t] }) (.inr hok)
     rw [hw, if_pos (by decide), qc3 (x := ((k : Int), 2)) (ql1 ((qnc h3 hl).trans hf) (.inr rfl))]
  ·have hm := qnn (e := e) (r := r) h3
   have hf := h.flush hm
   have hc := h.close hm
   by_cases hbad : qx t = 5 ∨ e = false
   ·have hw : wd prev t e r now.fields.length rec = 2 := by
     unfold wd
     rw [if_pos (by rcases hbad with h | h; exact .inl h; exact .inr (.inr h))]
    rw [hw, if_pos (by decide)]
    by_cases h1 : qx t = 1
    ·rw [qc3 (x := ((k : Int), 2)) (ql1 ((qg7 h1).trans (qo2 hf)) hbad)]
    ·rw [qc3 (x := ((k : Int), 2)) (ql1 ((qee h3 h1).trans hf) hbad)]
   ·have he : e = true := by
     cases e with
     | true => rfl
     | false => exact absurd (.inr rfl) hbad
    have h5 : qx t ≠ 5 := fun h => hbad (.inl h)
    subst he
    by_cases h1 : qx t = 1
    ·have hw : wd prev t true r now.fields.length rec = 0 := by
      unfold wd
      rw [if_neg (by simp [h3, h5]), if_pos (by omega)]
     have ht := qhm ((qg7 (no := k) h1).trans (qo2 hf)) h5
     rw [if_pos h1, hc] at ht
     rw [hw, if_neg (by simp), if_pos h1, qew ht]
     exact qhh r (k + 1) _ _ _ _ _ hE.2 ⟨by simp, .inl rfl, rfl, by simp, by simp, by simp, rfl, by simp, by simp, h.b2⟩
    ·by_cases h4 : qx t = 4
     ·have ht := qhm ((qee (no := k) h3 h1).trans hf) h5
      rw [if_neg h1, if_pos h4] at ht
      rw [qew ht]
      have hb1 := h.b1
      have hb2 := h.b2
      have hrec := h.hrec
      have hfull : (40 ≤ now.fields.length ∨ (now.fields.length = 0 ∧ 400 ≤ rec)) ↔ (now.fields.length = 40 ∨ (now.fields.length = 0 ∧ p.records = 400)) := by
       by_cases hz : now.fields = []
       ·rw [if_pos hz] at hrec
        simp only [hz, List.length_nil]
        constructor
        ·rintro (h' | h')
         ·exact absurd h' (by decide)
         ·exact .inr ⟨trivial, by omega⟩
        ·rintro (h' | h')
         ·exact absurd h' (by decide)
         ·exact .inr ⟨trivial, by omega⟩
       ·have : now.fields.length ≠ 0 := fun h => hz (List.length_eq_zero_iff.1 h)
        constructor
        ·rintro (h' | h')
         ·exact .inl (by omega)
         ·exact absurd h'.1 this
        ·rintro (h' | h')
         ·exact .inl (by omega)
         ·exact absurd h'.1 this
      have hw : wd prev t true r now.fields.length rec = qck (t :: kv r) (decide (now.fields.length = 40 ∨ (now.fields.length = 0 ∧ p.records = 400))) := by
       unfold wd qck
       rw [if_neg (by simp [h3, h5]), if_neg (by omega)]
       by_cases hu : (jf (t :: kv r)).2 ≠ 0
       ·rw [if_pos hu, if_pos hu]
       ·rw [if_neg hu, if_neg hu]
        by_cases hx : 40 ≤ now.fields.length ∨ (now.fields.length = 0 ∧ 400 ≤ rec)
        ·rw [if_pos hx, if_pos (decide_eq_true (hfull.1 hx))]
        ·rw [if_neg hx, if_neg (by simpa using fun h => hx (hfull.2 h))]
      by_cases hw0 : wd prev t true r now.fields.length rec = 0
      ·rw [if_neg (by simp [hw0]), if_neg h1, if_pos h4]
       have hx : ¬ (40 ≤ now.fields.length ∨ (now.fields.length = 0 ∧ 400 ≤ rec)) := fun hx => by
        unfold wd at hw0
        rw [if_neg (by simp [h3, h5]), if_neg (by omega)] at hw0
        by_cases hu : (jf (t :: kv r)).2 ≠ 0
        ·rw [if_pos hu] at hw0; exact hu hw0
        ·rw [if_neg hu, if_pos hx] at hw0; simp at hw0
       rw [hw] at hw0
       refine qhh r (k + 1) _ _ _ _ _ hE.2 ⟨by simp [jq], .inr hw0, by simp only [jq]; rw [qi3, ← h.hraw], by simp [jq], by simp, ?_, h.hout, by simp [jq], by simp; omega, ?_⟩
       ·have hkd := h.hkind
        simp only [jq]
        by_cases hz : now.fields = []
        ·rw [if_pos hz] at hrec hkd
         rw [hkd]
         simp
         omega
        ·rw [if_neg hz] at hrec hkd
         rw [hkd]
         simp
         omega
       ·rw [h.hkind]
        by_cases hz : now.fields = []
        ·have : now.fields.length = 0 := by rw [hz]; rfl
         rw [if_pos hz, if_pos rfl]
         omega
        ·rw [if_neg hz, if_neg (by decide)]
         exact hb2
      ·rw [if_pos hw0]
       have := qsi r { jq { p with lines := [], fields := now.fields } k t with block := p.block ++ [t] } (k + 1) (wd prev t true r now.fields.length rec) hE.2 (by simp [jq]) hw.symm hw0
       simp only [jq] at this ⊢
       rw [this]
     ·have hw : wd prev t true r now.fields.length rec = 0 := by
       unfold wd
       rw [if_neg (by simp [h3, h5]), if_pos h4]
      have ht := qhm ((qee (no := k) h3 h1).trans hf) h5
      rw [if_neg h1, if_neg h4] at ht
      rw [hw, if_neg (by simp), if_neg h1, if_neg h4, qew ht]
      exact qhh r (k + 1) _ _ _ _ _ hE.2 ⟨by simp [h3], .inl rfl, by rw [qi3, ← h.hraw], by simp, h.hkind, h.hrec, h.hout, by simp, h.b1, h.b2⟩
theorem qua (text : qa) : refL 0 (zu text) false ⟨2, [], []⟩ 0 [] = jr text := by
 unfold jr
 exact qhh (zu text) 0 p0 false ⟨2, [], []⟩ 0 [] (qll _ text (Nat.le_refl _)) ⟨by simp [p0], .inl rfl, rfl, by simp [p0], by simp, by simp [p0], rfl, by simp [p0], by simp, by omega⟩
end Go.Pl
set_option maxRecDepth 100000
set_option linter.unusedVariables false
namespace Go.Pl
open Go Go.Proofs Go.Proofs.YtefmcijohgpfhaaGreatDoor
theorem qni {l b : qa} {n : Int} (h : zo l = (1, b, n)) : wx b ∧ ∃ m, l = recF b ++ m ∧ n = (recF b).length := by
 unfold zo at h
 split at h
 ·rename_i h10
  split at h
  ·rename_i ho
   generalize hr : past 10 l = r at *
   have hl := xx h10
   rw [hr] at hl
   generalize hu : upto 10 l = u at *
   have hop : u = kw (zy u).1 (zy u).2.1 ∧ 2 ≤ (zy u).1 ∧ (zy u).1 ≤ 50000 := by
    simp only [zy, decide_eq_true_eq] at ho ⊢
    obtain ⟨o1, o2, o3, o4, o5⟩ := ho
    refine ⟨?_, o3, qa0 _⟩
    obtain ⟨t, rfl⟩ := o1
    rw [qh9] at *
    have := qeb rfl (Nat.le_trans (by decide) o3)
    unfold kw
    rw [← this, ← xx o2]
   generalize (zy u).1 = n at *
   generalize (zy u).2.1 = fig at *
   obtain ⟨rfl, h2, hn⟩ := hop
   split at h
   ·unfold y9 at h
    split at h <;> simp at h
   ·rename_i hge
    split at h
    ·rename_i hg
     have hlen : (r.take n).length = n := by simp; omega
     unfold xk at h
     rw [hlen] at h
     split at h
     ·simp at h
     ·split at h
      ·rename_i hc
       obtain ⟨⟨m, hm⟩, hs⟩ := hc
       simp only [Prod.mk.injEq, true_and] at h
       obtain ⟨rfl, rfl⟩ := h
       refine ⟨hg, m, ?_, ?_⟩
       ·rw [qfn, hlen, ← hs, hl]
        unfold recL
        conv => lhs; rw [← List.take_append_drop n r, ← hm]
        simp
       ·rw [qlt _ hg, hlen]
      ·simp at h
    ·simp at h
  ·simp at h
 ·split at h <;> simp at h
theorem qo5 (s sub : qa) (i : Nat) : Lib.occAt s sub i = true ↔ sub <+: s.drop i := by
 unfold Lib.occAt
 rw [List.isPrefixOf_iff_prefix]
theorem q4m {a : qa} (r : qa) (h : 10 ∉ a) : Lib.cut (a ++ 10 :: 10 :: r) [10, 10] = (a, r, true) := by
 have hi : Lib.index (a ++ 10 :: 10 :: r) [10, 10] = (a.length : Int) := by
  refine Lib.index_first (by simp) ?_ fun j hj => ?_
  ·rw [qo5, List.drop_left]
   exact ⟨r, rfl⟩
  ·cases hb : Lib.occAt (a ++ 10 :: 10 :: r) [10, 10] j with
   | false => rfl
   | true =>
    obtain ⟨t, ht⟩ := (qo5 _ _ _).1 hb
    rw [List.drop_append_of_le_length (by omega)] at ht
    have : a.drop j ≠ [] := by
     intro e
     have := congrArg List.length e
     simp at this
     omega
    obtain ⟨c, q, hq⟩ := List.exists_cons_of_ne_nil this
    rw [hq] at ht
    have h10 : c = 10 := by simpa using (List.cons.inj ht).1.symm
    exact absurd (List.mem_of_mem_drop (by rw [hq, h10]; simp : (10 : UInt8) ∈ a.drop j)) h
 unfold Lib.cut
 rw [hi, if_pos (by omega)]
 simp only [Int.toNat_natCast, List.take_left', List.length_cons, List.length_nil]
 rw [show a.length + (0 + 1 + 1) = (a ++ [10, 10]).length by simp, show a ++ 10 :: 10 :: r = (a ++ [10, 10]) ++ r by simp, List.drop_left]
theorem q1m {l m : qa} (h : (Lib.cut l m).2.2 = true) : l = (Lib.cut l m).1 ++ m ++ (Lib.cut l m).2.1 := by
 rcases Lib.index_spec l m with ⟨h1, _⟩ | ⟨i, h1, h2, h3, _⟩
 ·unfold Lib.cut at h
  rw [h1, if_neg (by omega)] at h
  simp at h
 ·unfold Lib.cut
  rw [h1, if_pos (by omega)]
  simp only [Int.toNat_natCast]
  obtain ⟨t, ht⟩ := (qo5 _ _ _).1 h3
  have e : l.drop (i + m.length) = t := by rw [← List.drop_drop, ← ht, List.drop_left]
  rw [e, List.append_assoc, ht, List.take_append_drop]
def genL : qa := [35, 37, 103, 101, 110, 32]
def wm (n : Int) : qa := genL ++ Lib.itoa n ++ [10, 10]
def yf (n : Int) : Prop := 1 ≤ n ∧ n ≤ 2147483648
instance (n : Int) : Decidable (yf n) := inferInstanceAs (Decidable (_ ∧ _))
def wh (text : qa) : Int × qa :=
 if genL <+: text then
  match numZ (upto 10 (text.drop 6)) with
  | some n => if yf n ∧ [10, 10] <+: text.drop (6 + (upto 10 (text.drop 6)).length) then (n, text.drop (8 + (upto 10 (text.drop 6)).length)) else (0, text)
  | none => (0, text)
 else (0, text)
theorem qil (v : Int) : (10 : UInt8) ∉ Lib.itoa v := by
 intro h
 by_cases hv : v < 0
 ·rw [qf5 hv] at h
  rcases List.mem_cons.1 h with h | h
  ·simp at h
  ·have := vt _ _ (Nat.le_refl _) _ h
   simp at this
 ·rw [qf2 (by omega)] at h
  have := vt _ _ (Nat.le_refl _) _ h
  simp at this
theorem qi7 (n : Int) (r : qa) : wm n ++ r = genL ++ (Lib.itoa n ++ 10 :: 10 :: r) := by simp [wm]
theorem qih {n : Int} (h : yf n) (r : qa) : wh (wm n ++ r) = (n, r) := by
 unfold wh
 have hd : (genL ++ (Lib.itoa n ++ 10 :: 10 :: r)).drop 6 = Lib.itoa n ++ 10 :: 10 :: r := by rw [show (6 : Nat) = genL.length by rfl, List.drop_left]
 rw [qi7, if_pos (List.prefix_append _ _), hd, wa _ (qil n), qx2 (by have := h.1; omega) (by have := h.2; omega)]
 have e1 : (genL ++ (Lib.itoa n ++ 10 :: 10 :: r)).drop (6 + (Lib.itoa n).length) = 10 :: 10 :: r := by rw [← List.drop_drop, hd, List.drop_left]
 have e2 : (genL ++ (Lib.itoa n ++ 10 :: 10 :: r)).drop (8 + (Lib.itoa n).length) = r := by
  rw [show 8 + (Lib.itoa n).length = (6 + (Lib.itoa n).length) + 2 by omega, ← List.drop_drop, e1]
  rfl
 simp only
 rw [e1, e2, if_pos ⟨h, r, rfl⟩]
theorem qpx {text : qa} (h : ∀ n r, yf n → text ≠ wm n ++ r) : wh text = (0, text) := by
 unfold wh
 split
 ·rename_i hp
  obtain ⟨t, rfl⟩ := hp
  have hd : (genL ++ t).drop 6 = t := by rw [show (6 : Nat) = genL.length by rfl, List.drop_left]
  rw [hd]
  split
  ·rename_i n hn
   split
   ·rename_i hc
    obtain ⟨hg, r, hr⟩ := hc
    rw [← List.drop_drop, hd] at hr
    obtain ⟨he, _⟩ := qyd hn
    refine absurd ?_ (h n r hg)
    rw [qi7, ← he]
    congr 1
    conv => lhs; rw [← List.take_append_drop (upto 10 t).length t, qgs, ← hr]
    rfl
   ·rfl
  ·rfl
 ·rfl
theorem qlm (text : qa) : (∃ n r, yf n ∧ text = wm n ++ r ∧ wh text = (n, r)) ∨ ((∀ n r, yf n → text ≠ wm n ++ r) ∧ wh text = (0, text)) := by
 by_cases h : ∃ n r, yf n ∧ text = wm n ++ r
 ·obtain ⟨n, r, hg, rfl⟩ := h
  exact .inl ⟨n, r, hg, rfl, qih hg r⟩
 ·have h' : ∀ n r, yf n → text ≠ wm n ++ r := fun n r hg e => h ⟨n, r, hg, e⟩
  exact .inr ⟨h', qpx h'⟩
def kz (n : Int) : qa := if yf n then wm n else []
theorem qg1 (text : qa) : text = kz (wh text).1 ++ (wh text).2 ∧ ((wh text).1 = 0 ∨ yf (wh text).1) := by
 rcases qlm text with ⟨n, r, hg, he, ht⟩ | ⟨_, ht⟩
 ·rw [ht]
  simp only
  unfold kz
  rw [if_pos hg]
  exact ⟨he, .inr hg⟩
 ·rw [ht]
  exact ⟨rfl, .inl rfl⟩
theorem qpn {n : Int} (h : yf n) : (wm n).length ≤ 28 := by
 have := qkm (v := n) (by have := h.1; omega) (by have := h.2; omega)
 simp [wm, genL]
 omega
def begF (l : qa) : Bool := decide (l.head? = some 37 ∧ qx l = 5)
def jn (n : Nat) (l : qa) : Nat := if h : l = [] then n else if begF (upto 10 l) = true then n - l.length else jn n (past 10 l)
 termination_by l.length
 decreasing_by exact wo h
theorem qdj (n : Nat) : jn n [] = n := by rw [jn, dif_pos rfl]
theorem qi4 {n : Nat} {l : qa} (h : l ≠ []) (hb : begF (upto 10 l) = true) : jn n l = n - l.length := by rw [jn, dif_neg h, if_pos hb]
theorem qkg {n : Nat} {l : qa} (h : l ≠ []) (hb : ¬ begF (upto 10 l) = true) : jn n l = jn n (past 10 l) := by
 conv => lhs; rw [jn]
 rw [dif_neg h, if_neg hb]
theorem qjv : ∀ (k n : Nat) (l : qa), l.length ≤ k → l.length ≤ n → n - l.length ≤ jn n l ∧ jn n l ≤ n
 | 0, n, l, h, hn => by
  have : l = [] := List.length_eq_zero_iff.1 (by omega)
  subst this
  rw [qdj]
  simp
 | k + 1, n, l, h, hn => by
  by_cases hl : l = []
  ·subst hl; rw [qdj]; simp
  ·by_cases hb : begF (upto 10 l) = true
   ·rw [qi4 hl hb]
    omega
   ·have := wo (c := 10) hl
    rw [qkg hl hb]
    have := qjv k n (past 10 l) (by omega) (by omega)
    omega
theorem qno : ∀ (k n : Nat) (l x : qa), l.length ≤ k → (∀ p ∈ zu l, begF p.1 = false ∧ p.2 = true) → jn n (l ++ x) = jn n x
 | 0, n, l, x, h, _ => by
  have : l = [] := List.length_eq_zero_iff.1 (by omega)
  subst this
  rfl
 | k + 1, n, l, x, h, hp => by
  by_cases hl : l = []
  ·subst hl; rfl
  ·rw [v6 hl] at hp
   obtain ⟨h1, h2⟩ := hp _ (List.mem_cons_self ..)
   have h10 : 10 ∈ l := by simpa using h2
   have e := xx h10
   have hu : upto 10 (l ++ x) = upto 10 l ∧ past 10 (l ++ x) = past 10 l ++ x := by
    have e2 : l ++ x = upto 10 l ++ 10 :: (past 10 l ++ x) := by
     conv => lhs; rw [e]
     simp
    rw [e2, wa _ (qb0 10 l), w8 _ (qb0 10 l)]
    exact ⟨rfl, rfl⟩
   rw [qkg (by simp [hl]) (by rw [hu.1]; simp [h1]), hu.2]
   exact qno k n _ x (by have := wo (c := 10) hl; omega) fun p hp' => hp p (by simp [hp'])
theorem qfi : ∀ (r : List (qa × Bool)) (k : Nat) (prev : Bool) (now : ka) (rec : Int) (out : List ka), (refL k r prev now rec out).1 = none → ∀ x ∈ r, qx x.1 ≠ 5 ∧ x.2 = true
 | [], _, _, _, _, _, _ => by simp
 | (t, e) :: r, k, prev, now, rec, out, h => by
  rw [refL] at h
  split at h
  ·simp at h
  ·rename_i hw
   have hx : qx t ≠ 5 ∧ e = true := by
    unfold wd at hw
    split at hw
    ·simp at hw
    ·rename_i hc
     exact ⟨fun h5 => hc (.inl h5), by cases e with | true => rfl | false => exact absurd (.inr (.inr rfl)) hc⟩
   have hr : ∀ x ∈ r, qx x.1 ≠ 5 ∧ x.2 = true := by
    split at h
    ·exact qfi r _ _ _ _ _ h
    ·split at h
     ·exact qfi r _ _ _ _ _ h
     ·exact qfi r _ _ _ _ _ h
   intro x hx'
   rcases List.mem_cons.1 hx' with rfl | hx'
   ·exact hx
   ·exact hr x hx'
theorem qud {text : qa} (h : (jr text).1 = none) : ∀ x ∈ zu text, begF x.1 = false ∧ x.2 = true := fun x hx => by
 rw [← qua] at h
 obtain ⟨h1, h2⟩ := qfi _ _ _ _ _ _ h x hx
 exact ⟨by simp [begF, h1], h2⟩
theorem qgi {n : Nat} {fig l : qa} (hf : wl fig) (h : l <+: kw n fig) (hne : l ≠ []) : begF l = true := by
 have h10 : 10 ∉ l := qhc h (yn n hf)
 have h58 : (58 : UInt8) ∉ l := qhc h fun h' => by
  unfold kw at h'
  rcases List.mem_append.1 h' with h' | h'
  ·revert h'; decide
  ·rcases List.mem_append.1 h' with h' | h'
   ·exact qe7 n (by decide) h'
   ·rcases List.mem_cons.1 h' with h' | h'
    ·simp at h'
    ·exact qjs hf (by decide) h'
 obtain ⟨c, q, rfl⟩ := List.exists_cons_of_ne_nil hne
 have hc : c = 37 := by
  obtain ⟨t, ht⟩ := h
  unfold kw zr at ht
  exact (List.cons.inj ht).1
 subst hc
 have hk := quj h10 (fun hb => by
  have := hb 37 (by simp)
  revert this
  decide)
 simp only [begF, List.head?_cons, true_and, decide_eq_true_eq]
 rw [hk.2]
 rw [if_neg (by simp), if_neg (by simp [we]), if_neg (fun h => h58 h.1)]
theorem qx5 {n : Nat} {fig body l : qa} (hf : wl fig) (h : l <+: recL n fig body) (hne : l ≠ []) : begF (upto 10 l) = true := by
 rcases qcw (show l <+: kw n fig ++ 10 :: (body ++ qcn n) from h) with h | ⟨r, rfl, hr⟩
 ·rw [ye (qhc h (yn n hf))]
  exact qgi hf h hne
 ·cases r with
  | nil =>
   rw [List.append_nil, ye (yn n hf)]
   exact qgi hf (List.prefix_refl _) (by simp [kw, zr])
  | cons c r =>
   have : c = 10 := by obtain ⟨t, ht⟩ := hr; exact (List.cons.inj ht).1
   subst this
   rw [wa _ (yn n hf)]
   exact qgi hf (List.prefix_refl _) (by simp [kw, zr])
theorem q24 {b : qa} (x : qa) (hg : wx b) : begF (upto 10 (recF b ++ x)) = true := by
 rw [qfn]
 have hx : wl (sumF b) := qlr (addP 0 b)
 unfold recL
 rw [List.append_assoc, List.cons_append, wa _ (yn _ hx)]
 exact qgi hx (List.prefix_refl _) (by simp [kw, zr])
end Go.Pl
set_option maxRecDepth 100000
set_option linter.unusedVariables false
namespace Go.Av
open Go Go.RowKit
section
variable {E : Env} {rd : Option Nat} {N : Nat} {ops : Array Oper} {K K' : AS → Prop} {s : AS}
theorem AOps.mono {l : List Oper} (h : AOps E rd N ops l K' s) (hk : ∀ s, K' s → K s) : AOps E rd N ops l K s :=
 ⟨fun B0 w0 G a w hL hI Q hQ => h.run B0 w0 G a w hL hI Q fun G' s' a' w' hG hI' hK => hQ G' s' a' w' hG hI' (hk _ hK)⟩
end
end Go.Av
set_option maxRecDepth 100000
set_option linter.unusedVariables false
namespace Go.Pl
open Go Go.Proofs Go.Proofs.YtefmcijohgpfhaaGreatDoor
structure wy where
 gen : Int
 base : qa
 batches : List (List qu)
 ends : List Int
 tail : qa
def qgp : wy := ⟨0, [], [], [], []⟩
def qcl (text : qa) : ErrV := if 60000 < text.length then .num 1 else match (jr text).1 with
 | none => .no
 | some (a, n) => .at' a n
def recsF : Nat → qa → Int → List (List qu) → List Int → Bool × List (List qu) × List Int × qa
 | 0, l, _, bs, es => (false, bs, es, l)
 | f + 1, l, a, bs, es =>
  if (zo l).1 = 2 then (false, bs, es, l)
  else if (zo l).1 = 1 then match decF (zo l).2.1 with
   | some b => recsF f (l.drop (zo l).2.2.toNat) (a + (zo l).2.2) (bs ++ [b]) (es ++ [a + (zo l).2.2])
   | none => (true, bs, es, l)
  else (true, bs, es, l)
def y8 (text : qa) : qa := (wh text).2
def atH (text : qa) : Nat := jn (y8 text).length (y8 text)
def qfj (text : qa) : qa := (y8 text).take (atH text)
def qbh (text : qa) : Bool × List (List qu) × List Int × qa := recsF (text.length + 1) ((y8 text).drop (atH text)) (((text.length - (y8 text).length + atH text : Nat)) : Int) [] []
def wz (text : qa) : ErrV × wy :=
 if 120000 < text.length then (.num 1, qgp)
 else match qcl (qfj text) with
  | .no => if (qbh text).1 = true then (.at' (qbh text).2.1.length 10, qgp) else (.no, ⟨(wh text).1, qfj text, (qbh text).2.1, (qbh text).2.2.1, (qbh text).2.2.2⟩)
  | e => (e, qgp)
structure qbd (b : List qu) : Prop where
 ok : eErr b = .no
 B : ∀ x ∈ b, EdB x
 len : (encF b).length ≤ 50000
theorem qbd.dec {b : List qu} (h : qbd b) : decF (encF b) = some b := q3y h.ok h.B h.len
theorem qbd.good {b : List qu} (h : qbd b) : wx (encF b) := qxz h.ok h.B h.len
theorem q1r {t : qa} {b : List qu} (h : decF t = some b) : qbd b ∧ encF b = t := by
 obtain ⟨h1, h2, h3⟩ := q2j h
 exact ⟨⟨h1, q45 h, by rw [h2]; exact h3⟩, h2⟩
def recE (b : List qu) : qa := recF (encF b)
def kq (bs : List (List qu)) : qa := bs.flatMap recE
def xj (a : Int) : List (List qu) → List Int
 | [] => []
 | b :: r => (a + (recE b).length) :: xj (a + (recE b).length) r
theorem yz (b : List qu) (r : List (List qu)) : kq (b :: r) = recE b ++ kq r := rfl
theorem qwz (r : List (List qu)) (b : List qu) : kq (r ++ [b]) = kq r ++ recE b := by simp [kq]
theorem qof : ∀ (r : List (List qu)) (a : Int) (b : List qu), xj a (r ++ [b]) = xj a r ++ [a + (kq r).length + (recE b).length]
 | [], a, b => by simp [xj, kq]
 | x :: r, a, b => by
  rw [List.cons_append, xj, xj, qof r, yz]
  simp
  omega
theorem qke : ∀ (r : List (List qu)) (a : Int), (xj a r).length = r.length
 | [], _ => rfl
 | x :: r, a => by rw [xj]; simp [qke r]
theorem qn6 : ∀ (r : List (List qu)) (a : Int), r ≠ [] → (xj a r).getLast? = some (a + (kq r).length)
 | [], _, h => absurd rfl h
 | [x], a, _ => by simp [xj, kq]
 | x :: y :: r, a, _ => by
  have := qn6 (y :: r) (a + (recE x).length) (by simp)
  rw [xj, List.getLast?_cons]
  rw [this, yz x]
  simp
  omega
theorem qif (b : List qu) : 0 < (recE b).length := by
 unfold recE
 rw [qfn]
 simp [recL, kw, zr]
theorem qq5 : ∀ (bs : List (List qu)) (f : Nat) (t : qa) (a : Int) (xs : List (List qu)) (es : List Int), (∀ b ∈ bs, qbd b) → (zo t).1 = 2 → bs.length < f →
  recsF f (kq bs ++ t) a xs es = (false, xs ++ bs, es ++ xj a bs, t)
 | [], f + 1, t, a, xs, es, _, ht, _ => by
  rw [recsF]
  simp only [kq, List.flatMap_nil, List.nil_append, xj, List.append_nil]
  rw [if_pos ht]
 | b :: r, f + 1, t, a, xs, es, h, ht, hf => by
  have hb := h b (by simp)
  have hrd : zo (kq (b :: r) ++ t) = (1, encF b, ((recE b).length : Int)) := by
   rw [yz, List.append_assoc]
   exact q0f _ hb.good
  have hdr : (kq (b :: r) ++ t).drop (recE b).length = kq r ++ t := by
   rw [yz, List.append_assoc, List.drop_left]
  rw [recsF, hrd]
  simp only
  rw [if_neg (by decide), if_pos trivial, hb.dec]
  simp only [Int.toNat_natCast]
  rw [hdr, qq5 r f t _ _ _ (fun x hx => h x (by simp [hx])) ht (by simp at hf; omega)]
  simp [xj]
theorem qsc : ∀ (f : Nat) (l : qa) (a : Int) (xs xs' : List (List qu)) (es es' : List Int) (t : qa), l.length < f → recsF f l a xs es = (false, xs', es', t) →
  ∃ bs, l = kq bs ++ t ∧ xs' = xs ++ bs ∧ es' = es ++ xj a bs ∧ (∀ b ∈ bs, qbd b) ∧ (zo t).1 = 2
 | 0, l, a, xs, xs', es, es', t, hl, h => absurd hl (by omega)
 | f + 1, l, a, xs, xs', es, es', t, hl, h => by
  rw [recsF] at h
  split at h
  ·rename_i h2
   simp only [Prod.mk.injEq, true_and] at h
   obtain ⟨rfl, rfl, rfl⟩ := h
   exact ⟨[], by simp [kq], by simp, by simp [xj], by simp, h2⟩
  ·split at h
   ·rename_i h1
    split at h
    ·rename_i b hd
     obtain ⟨hg, he⟩ := q1r hd
     have hrd : zo l = (1, (zo l).2.1, (zo l).2.2) := by rw [← h1]
     obtain ⟨_, m, hm, hn⟩ := qni hrd
     rw [← he] at hm hn
     have hm' : l = recE b ++ m := hm
     have hn' : (zo l).2.2 = ((recE b).length : Int) := hn
     have hpos := qif b
     have hlen : l.length = (recE b).length + m.length := by rw [hm']; simp
     have hdr : l.drop (recE b).length = m := by
      conv => lhs; rw [hm']
      rw [List.drop_left]
     rw [hn', Int.toNat_natCast, hdr] at h
     obtain ⟨bs, e1, e2, e3, e4, e5⟩ := qsc f m _ _ _ _ _ _ (by omega) h
     refine ⟨b :: bs, ?_, by rw [e2]; simp, by rw [e3]; simp [xj], ?_, e5⟩
     ·rw [yz, List.append_assoc, ← e1]
      exact hm'
     ·intro x hx
      rcases List.mem_cons.1 hx with rfl | hx
      ·exact hg
      ·exact e4 x hx
    ·simp at h
   ·simp at h
structure w6 (text : qa) (b : wy) : Prop where
 txt : text = kz b.gen ++ (b.base ++ (kq b.batches ++ b.tail))
 gen : wh text = (b.gen, b.base ++ (kq b.batches ++ b.tail))
 parse : qcl b.base = .no
 good : ∀ x ∈ b.batches, qbd x
 tail : (zo b.tail).1 = 2
 ends : b.ends = xj ((kz b.gen).length + b.base.length) b.batches
 len : text.length ≤ 120000
def BegP (x : qa) : Prop := x = [] ∨ begF (upto 10 x) = true
theorem q0a {t : qa} (h : (zo t).1 = 2) : BegP t := by
 by_cases h0 : t = []
 ·exact .inl h0
 ·obtain ⟨n, fig, body, R, hp, _⟩ := q3g h
  obtain ⟨_, _, _, _, _, hx⟩ := R
  exact .inr (qx5 hx hp h0)
theorem qph {bs : List (List qu)} {t : qa} (hg : ∀ b ∈ bs, qbd b) (h : (zo t).1 = 2) : BegP (kq bs ++ t) := by
 cases bs with
 | nil => exact q0a h
 | cons b r =>
  refine .inr ?_
  rw [yz, List.append_assoc]
  exact q24 _ (hg b (by simp)).good
theorem qxt {x : qa} (h : BegP x) : x = [] ∨ x.head? = some 37 := by
 rcases h with h | h
 ·exact .inl h
 ·simp only [begF, decide_eq_true_eq] at h
  cases x with
  | nil => exact .inl rfl
  | cons c r =>
   refine .inr ?_
   have h1 := h.1
   unfold upto at h1
   by_cases hc : c = 10
   ·subst hc; simp at h1
   ·simpa [hc] using h1
theorem qjj {l : qa} (h : qcl l = .no) : (∀ p ∈ zu l, begF p.1 = false ∧ p.2 = true) ∧ l.length ≤ 60000 := by
 unfold qcl at h
 split at h
 ·simp at h
 ·split at h
  ·rename_i hp
   exact ⟨qud hp, by omega⟩
  ·simp at h
theorem qv8 {l x : qa} (h : qcl l = .no) (hx : BegP x) : jn (l ++ x).length (l ++ x) = l.length := by
 rw [qno _ _ l x (Nat.le_refl _) (qjj h).1]
 rcases hx with rfl | hx
 ·rw [qdj]; simp
 ·by_cases h0 : x = []
  ·subst h0; rw [qdj]; simp
  ·rw [qi4 h0 hx]
   simp
theorem qk6 {text : qa} {b : wy} (h : w6 text b) : wz text = (.no, b) := by
 have hr : y8 text = b.base ++ (kq b.batches ++ b.tail) := by unfold y8; rw [h.gen]
 have ha : atH text = b.base.length := by
  unfold atH
  rw [hr]
  exact qv8 h.parse (qph h.good h.tail)
 have hb : qfj text = b.base := by
  unfold qfj
  rw [ha, hr, List.take_left]
 have hl : text.length - (y8 text).length = (kz b.gen).length := by
  rw [hr]
  conv => lhs; rw [h.txt]
  simp
 have hc : qbh text = (false, b.batches, b.ends, b.tail) := by
  unfold qbh
  rw [hl, ha, hr, List.drop_left, qq5 b.batches _ b.tail _ _ _ h.good h.tail]
  ·rw [h.ends]
   simp
  ·have : ∀ bs : List (List qu), bs.length ≤ (kq bs).length := fun bs => by
    induction bs with
    | nil => simp
    | cons x r ih =>
     have := qif x
     rw [yz]
     simp
     omega
   have := this b.batches
   rw [h.txt]
   simp
   omega
 have hlen := h.len
 unfold wz
 rw [if_neg (by omega), hb, h.parse, hc, h.gen]
 simp
theorem qmg {text : qa} {b : wy} (h : wz text = (.no, b)) : w6 text b := by
 unfold wz at h
 split at h
 ·simp at h
 ·rename_i hlen
  split at h
  ·rename_i hp
   split at h
   ·simp at h
   ·rename_i hc
    simp only [Prod.mk.injEq, true_and] at h
    subst h
    have hs := qg1 text
    have hle : atH text ≤ (y8 text).length := (qjv _ _ _ (Nat.le_refl _) (Nat.le_refl _)).2
    have hrl : (y8 text).length ≤ text.length := by
     conv => rhs; rw [hs.1]
     unfold y8
     simp
    have hhl : text.length - (y8 text).length = (kz (wh text).1).length := by
     have : text.length = (kz (wh text).1).length + (y8 text).length := by
      conv => lhs; rw [hs.1]
      unfold y8
      simp
     omega
    have hq : qbh text = (false, (qbh text).2.1, (qbh text).2.2.1, (qbh text).2.2.2) := by
     have : (qbh text).1 = false := by simpa using hc
     rw [← this]
    obtain ⟨bs, e1, e2, e3, e4, e5⟩ := qsc _ _ _ _ _ _ _ _ (by simp; omega) (show recsF (text.length + 1) _ _ _ _ = _ from hq)
    simp only [List.nil_append] at e2 e3
    have hbl : (qfj text).length = atH text := by unfold qfj; simp; omega
    have hrest : y8 text = qfj text ++ (kq bs ++ (qbh text).2.2.2) := by
     rw [← e1]
     unfold qfj
     rw [List.take_append_drop]
    refine ⟨?_, ?_, hp, ?_, e5, ?_, by omega⟩
    ·simp only
     rw [e2, ← hrest]
     exact hs.1
    ·simp only
     rw [e2, ← hrest]
     rfl
    ·simp only
     rw [e2]
     exact e4
    ·simp only
     rw [e2, e3, hbl, hhl]
     simp
  ·rename_i hp
   simp only [Prod.mk.injEq] at h
   exact absurd h.1 hp
def jp (b : wy) : qa := kz b.gen ++ (b.base ++ kq b.batches)
def vm (b : wy) : Int := match b.ends.getLast? with
 | some e => e
 | none => ((kz b.gen).length + b.base.length : Nat)
theorem w6.split {text : qa} {b : wy} (h : w6 text b) : text = jp b ++ b.tail := by
 have := h.txt
 unfold jp
 simpa using this
theorem w6.whole {text : qa} {b : wy} (h : w6 text b) : vm b = ((jp b).length : Int) := by
 unfold vm
 rw [h.ends]
 by_cases h0 : b.batches = []
 ·rw [h0]
  simp [xj, jp, h0, kq]
 ·rw [qn6 _ _ h0]
  simp [jp]
  omega
theorem w6.take {text : qa} {b : wy} (h : w6 text b) : text.take (vm b).toNat = jp b := by
 rw [h.whole, Int.toNat_natCast]
 conv => lhs; rw [h.split]
 rw [List.take_left]
theorem qvy {l : qa} (h : l ≠ []) (hp : ∀ p ∈ zu l, p.2 = true) : l.getLast? = some 10 := by
 have : ∀ (k : Nat) (l : qa), l.length ≤ k → l ≠ [] → (∀ p ∈ zu l, p.2 = true) → l.getLast? = some 10 := by
  intro k
  induction k with
  | zero => intro l hl h0; exact absurd (List.length_eq_zero_iff.1 (by omega)) h0
  | succ k ih =>
   intro l hl h0 hp
   rw [v6 h0] at hp
   have h10 : 10 ∈ l := by simpa using hp _ (List.mem_cons_self ..)
   have e := xx h10
   by_cases hq : past 10 l = []
   ·rw [hq] at e
    rw [e]
    simp
   ·have := ih (past 10 l) (by have := wo (c := 10) h0; omega) hq fun p hp' => hp p (by simp [hp'])
    rw [e]
    rw [List.getLast?_append, List.getLast?_cons, this]
    simp
 exact this _ l (Nat.le_refl _) h hp
theorem q3s {l x : qa} {n : Int} (h : ∀ p ∈ zu l, p.2 = true) (hx : x = [] ∨ x.head? = some 37) (hp : wm n <+: l ++ x) : wm n <+: l := by
 rcases qcw hp with h1 | ⟨r, h1, hr⟩
 ·exact h1
 ·by_cases hr0 : r = []
  ·rw [h1, hr0, List.append_nil]
   exact List.prefix_refl _
  ·exfalso
   obtain ⟨c, q, rfl⟩ := List.exists_cons_of_ne_nil hr0
   have hc : c = 37 := by
    obtain ⟨t, ht⟩ := hr
    rcases hx with rfl | hx
    ·simp at ht
    ·rw [← ht] at hx
     simpa using hx
   subst hc
   by_cases hl : l = []
   ·rw [hl] at h1
    simp [wm, genL] at h1
   ·have hlast := qvy hl h
    obtain ⟨q0, hq0⟩ : ∃ q0, l = q0 ++ [10] := by
     have := que hlast
     exact ⟨_, this.symm⟩
    have e : genL ++ Lib.itoa n ++ 10 :: [10] = q0 ++ 10 :: (37 :: q) := by
     have := h1
     unfold wm at this
     rw [hq0] at this
     simpa using this
    have hu10 : 10 ∉ genL ++ Lib.itoa n := by
     intro h
     rcases List.mem_append.1 h with h | h
     ·revert h; decide
     ·exact qil n h
    have hA := wa (c := 10) [10] hu10
    have hB := w8 (c := 10) [10] hu10
    rw [e] at hA hB
    by_cases hq10 : 10 ∈ q0
    ·have e2 := xx hq10
     have e3 : q0 ++ 10 :: (37 :: q) = upto 10 q0 ++ 10 :: (past 10 q0 ++ 10 :: (37 :: q)) := by
      conv => lhs; rw [e2]
      simp
     rw [e3, w8 _ (qb0 10 q0)] at hB
     have := congrArg List.length hB
     simp at this
     omega
    ·rw [w8 _ hq10] at hB
     simp at hB
theorem qw3 {l x y : qa} (h : ∀ p ∈ zu l, p.2 = true) (hx : wh (l ++ x) = (0, l ++ x)) (hy : y = [] ∨ y.head? = some 37) : wh (l ++ y) = (0, l ++ y) := by
 refine qpx fun n r hg e => ?_
 obtain ⟨t, ht⟩ := q3s (n := n) h hy ⟨r, e.symm⟩
 have : wh (l ++ x) = (n, t ++ x) := by rw [← ht, List.append_assoc, qih hg]
 rw [hx] at this
 have h0 : (0 : Int) = n := (Prod.mk.inj this).1
 have := hg.1
 omega
theorem w6.gen0 {text : qa} {b : wy} (h : w6 text b) : b.gen = 0 ∨ yf b.gen := by
 have := (qg1 text).2
 rw [h.gen] at this
 exact this
theorem w6.other {text : qa} {b : wy} (h : w6 text b) {bs : List (List qu)} {t : qa} (hg : ∀ x ∈ bs, qbd x) (ht : (zo t).1 = 2) (hlen : (kz b.gen ++ (b.base ++ (kq bs ++ t))).length ≤ 120000) :
  w6 (kz b.gen ++ (b.base ++ (kq bs ++ t))) ⟨b.gen, b.base, bs, xj ((kz b.gen).length + b.base.length) bs, t⟩ := by
 refine ⟨rfl, ?_, h.parse, hg, ht, rfl, hlen⟩
 rcases h.gen0 with h0 | h0
 ·have hgen := h.gen
  have htext := h.txt
  have e : kz b.gen = [] := by unfold kz; rw [if_neg (by rw [h0]; decide)]
  rw [e, List.nil_append] at htext ⊢
  rw [h0, htext] at hgen
  simp only
  rw [h0]
  exact qw3 (fun p hp => ((qjj h.parse).1 p hp).2) hgen (qxt (qph hg ht))
 ·have e : kz b.gen = wm b.gen := by unfold kz; rw [if_pos h0]
  simp only
  rw [e, qih h0]
theorem q1x : zo [] = (2, [], 0) := by
 unfold zo y3
 rw [if_neg (by simp), if_pos]
 rw [if_neg (by decide)]
 decide
theorem w6.tailed {text : qa} {b : wy} (h : w6 text b) {t : qa} (ht : (zo t).1 = 2) (hl : (jp b ++ t).length ≤ 120000) : w6 (jp b ++ t) { b with tail := t } := by
 have e : kz b.gen ++ (b.base ++ (kq b.batches ++ t)) = jp b ++ t := by simp [jp]
 have := h.other (bs := b.batches) (t := t) h.good ht (by rw [e]; exact hl)
 rw [← h.ends, e] at this
 exact this
theorem w6.more {text : qa} {b : wy} (h : w6 text b) {x : List qu} (hx : qbd x) (hl : (jp b ++ recE x).length ≤ 120000) : w6 (jp b ++ recE x) { b with batches := b.batches ++ [x], ends := b.ends ++ [vm b + (recE x).length], tail := [] } := by
 have e : kz b.gen ++ (b.base ++ (kq (b.batches ++ [x]) ++ [])) = jp b ++ recE x := by simp [jp, qwz]
 have := h.other (bs := b.batches ++ [x]) (t := []) (fun y hy => by
  rcases List.mem_append.1 hy with hy | hy
  ·exact h.good y hy
  ·obtain rfl := List.mem_singleton.1 hy
   exact hx) (by rw [q1x]) (by rw [e]; exact hl)
 rw [e, qof, ← h.ends] at this
 have hw : ((kz b.gen).length + b.base.length + (kq b.batches).length + (recE x).length : Int) = vm b + (recE x).length := by
  rw [h.whole]
  simp [jp]
  omega
 rw [hw] at this
 exact this
def appF (text : qa) (x : List qu) : ErrV × qa :=
 match (wz text).1 with
 | .no => match eErr x with
  | .no => if 50000 < (encF x).length then (.num 11, []) else if 120000 < vm (wz text).2 + (recE x).length then (.num 11, []) else (.no, text.take (vm (wz text).2).toNat ++ recE x)
  | e => (e, [])
 | e => (e, [])
theorem q3b {text s : qa} {x : List qu} (hB : ∀ y ∈ x, EdB y) (h : appF text x = (.no, s)) : ∃ b, w6 text b ∧ qbd x ∧ s = jp b ++ recE x ∧ s.length ≤ 120000 := by
 unfold appF at h
 split at h
 ·rename_i hb
  have hb' : wz text = (.no, (wz text).2) := by rw [← hb]
  generalize (wz text).2 = b at hb' h
  have hT := qmg hb'
  split at h
  ·rename_i he
   split at h
   ·simp at h
   ·split at h
    ·simp at h
    ·rename_i h1 h2
     simp only [Prod.mk.injEq, true_and] at h
     rw [hT.take] at h
     rw [hT.whole] at h2
     exact ⟨b, hT, ⟨he, hB, by omega⟩, h.symm, by rw [← h]; simp; omega⟩
  ·rename_i he
   simp only [Prod.mk.injEq] at h
   exact absurd h.1 he
 ·rename_i hb
  simp only [Prod.mk.injEq] at h
  exact absurd h.1 hb
end Go.Pl
set_option maxRecDepth 100000
set_option linter.unusedVariables false
namespace Go.Proofs.YtefmcijohgpfhaaGreatDoor
open Go Go.Av Go.RowKit Go.Proofs Go.Pl
theorem qij (n : Int) (st : List AObj) (h : yf n) : qm E 91 [Iv n] st fun r st' => r = .tu [Sv (wm n), .v .nilIface] ∧ st' = st := by
 have h1 := h.1
 have h2 := h.2
 have hl := qkm (v := n) (by omega) (by omega)
 have hit := fun st => qj8 n st (by omega) (by omega)
 refine wq [.i n] (wj (zd _) (zd _)) Tryz.func91 rfl rfl (fun _ => rfl) rfl fun S0 => ?_
 apply qr []
 repeat' (first
  | apply And.intro
  | (intro h; first | (exfalso; omega) | (exfalso; exact h rfl) | (exfalso; revert h; decide) | skip)
  | exact ⟨Tryz.call87⟩
  | (refine Exists.intro _ ⟨ql (hit) rfl, ?_⟩)
  | exact rfl
  | exact trivial
  | exact fun _ => rfl
  | exact qp _
  | apply qn []
  | exact DrOk.mk (by kernel_rfl)
  | exact qi fun _ => rfl
  | omega
  | (simp only [List.length_map, List.length_append, List.length_cons, List.length_nil, List.length_take, List.length_drop]; omega)
  | exact qw
  | (refine Exists.intro _ ⟨rfl, ?_⟩)
  | refine q7 ?_)
 all_goals first | (simp; omega) | (simp [wm, genL]; done)
theorem qsv (n : Int) (st : List AObj) (h : ¬ yf n) : qm E 91 [Iv n] st fun r st' => r = .tu [Sv [], .ifc 31 (Iv 1)] ∧ st' = st := by
 refine wq [.i n] (wj (zd _) (qav (zd _))) Tryz.func91 rfl rfl (fun _ => rfl) rfl fun S0 => ?_
 unfold yf at h
 apply qr []
 repeat' (first
  | apply And.intro
  | (intro h; first | (exfalso; omega) | (exfalso; exact h rfl) | (exfalso; revert h; decide) | skip)
  | exact rfl
  | exact trivial
  | exact fun _ => rfl
  | exact qp _
  | apply qn []
  | exact DrOk.mk (by kernel_rfl)
  | exact qi fun _ => rfl
  | omega
  | (simp only [List.length_map, List.length_append, List.length_cons, List.length_nil, List.length_take, List.length_drop]; omega)
  | exact qw
  | (refine Exists.intro _ ⟨rfl, ?_⟩)
  | refine q7 ?_)
theorem q4x (n : Int) (st : List AObj) : qm E 64 [Iv n] st fun r st' => r = Iv ((kz n).length : Nat) ∧ st' = st := by
 refine wq [.i n] (zd _) Tryz.func64 rfl rfl (fun _ => rfl) rfl fun S0 => ?_
 by_cases hg : yf n
 ·have e : kz n = wm n := by unfold kz; rw [if_pos hg]
  have hln := fun st => qij n st hg
  rw [e]
  apply qr []
  repeat' (first
   | apply And.intro
   | (intro h; first | (exfalso; omega) | (exfalso; exact h rfl) | (exfalso; revert h; decide) | skip)
   | exact ⟨Tryz.call91⟩
   | (refine Exists.intro _ ⟨ql (hln) rfl, ?_⟩)
   | exact rfl
   | exact trivial
   | exact fun _ => rfl
   | exact qp _
   | apply qn []
   | exact DrOk.mk (by kernel_rfl)
   | exact qi fun _ => rfl
   | omega
   | (simp only [List.length_map, List.length_append, List.length_cons, List.length_nil, List.length_take, List.length_drop]; omega)
   | exact qw
   | (refine Exists.intro _ ⟨rfl, ?_⟩)
   | refine q7 ?_)
 ·have e : kz n = [] := by unfold kz; rw [if_neg hg]
  have hln := fun st => qsv n st hg
  rw [e]
  apply qr []
  repeat' (first
   | apply And.intro
   | (intro h; first | (exfalso; omega) | (exfalso; exact h rfl) | (exfalso; revert h; decide) | skip)
   | exact ⟨Tryz.call91⟩
   | (refine Exists.intro _ ⟨ql (hln) rfl, ?_⟩)
   | exact rfl
   | exact trivial
   | exact fun _ => rfl
   | exact qp _
   | apply qn []
   | exact DrOk.mk (by kernel_rfl)
   | exact qi fun _ => rfl
   | omega
   | (simp only [List.length_map, List.length_append, List.length_cons, List.length_nil, List.length_take, List.length_drop]; omega)
   | exact qw
   | (refine Exists.intro _ ⟨rfl, ?_⟩)
   | refine q7 ?_)
theorem qy7 (l : qa) (st : List AObj) : qm E 96 [Sv (genL ++ l), Sv [35, 37, 103, 101, 110, 32]] st fun r st' => r = Sv l ∧ st' = st := by
 have := qfu (genL ++ l) [35, 37, 103, 101, 110, 32] st
 rw [qa6 (show [35, 37, 103, 101, 110, 32] <+: genL ++ l from List.prefix_append genL l)] at this
 have e : (genL ++ l).drop ([35, 37, 103, 101, 110, 32] : qa).length = l := by rw [show ([35, 37, 103, 101, 110, 32] : qa).length = genL.length by rfl, List.drop_left]
 rw [e] at this
 exact this
set_option maxHeartbeats 2000000 in
theorem q3e (text : qa) (st : List AObj) (hl : text.length < 1000000) : qm E 61 [Sv text] st fun r st' => r = .tu [Iv (wh text).1, Sv (wh text).2] ∧ st' = st := by
 refine q8 (wj (zd _) (zd _)) (qq Tryz.func61 rfl (Nat.le_of_ble_eq_true rfl) ?_)
 rcases qlm text with ⟨n, r, hg, he, ht⟩ | ⟨hno, ht⟩
 ·rw [ht]
  have hn10 : 10 ∉ genL ++ Lib.itoa n := fun h => by
   rcases List.mem_append.1 h with h | h
   ·revert h; decide
   ·exact qil n h
  have hcut : ∀ st, qm E 36 [Sv text, Sv [10, 10]] st fun x st' => x = .tu [Sv (genL ++ Lib.itoa n), Sv r, Bv true] ∧ st' = st := fun st => by
   have := qna text [10, 10] st (by omega)
   rw [he, qi7, ← List.append_assoc, q4m r hn10] at this
   rw [he, qi7, ← List.append_assoc]
   exact this
  have hb := qkm (v := n) (by have := hg.1; omega) (by have := hg.2; omega)
  have hgl : genL.length = 6 := rfl
  have hat := qiz (v := n) (by have := hg.1; omega) (by have := hg.2; omega)
  repeat' (first
   | apply qj
   | apply qb
   | apply qg
   | apply qh
   | apply qc
   | (apply zb; exact rfl; exact rfl)
   | (apply qe; exact Tryz.call36; exact hcut _)
   | (apply qe; exact Tryz.call96; exact qy7 _ _))
  refine qda Tryz.call77 ((qj3 (Lib.itoa n) _ (by omega)).mono ?_)
  rintro _ _ ⟨rfl, n', x, rfl, hx⟩
  rcases x with _ | ⟨t', y⟩
  ·simp only at hx
   rw [hat] at hx
   have e : n = n' := by simpa using hx
   subst e
   show AOps _ _ _ _ _ _ _
   have hs : wm n = (genL ++ Lib.itoa n) ++ [10, 10] := rfl
   have hs2 : ¬ wm n ≠ (genL ++ Lib.itoa n) ++ [10, 10] := fun h => h hs
   repeat' (first
    | apply qj
    | apply qb
    | apply qg
    | apply qh
    | apply qc
    | (apply zb; exact rfl; exact rfl)
    | (apply z4; (iterate 3 exact rfl))
    | (apply z7; exact rfl)
    | (apply za; (iterate 4 exact rfl))
    | (apply wu; (first | exact rfl | assumption))
    | (apply qax; (first | exact rfl | assumption))
    | (apply zf; exact rfl; first | (apply j9; (first | assumption | omega)) | (apply ke; (first | assumption | omega)) | (apply kg; (first | exact rfl | assumption)) | (apply kh; (first | exact rfl | assumption)) | (apply pk_t; (first | exact rfl | assumption)) | (apply pk_f; (first | exact rfl | assumption)))
    | (apply qd; exact rfl; first | (apply qy; (first | assumption | omega)) | (apply q4; (first | assumption | omega)) | (apply q5; (first | exact rfl | assumption)) | (apply qz; (first | exact rfl | assumption)) | (apply cd_n <;> intro h) | (apply cd_t; (first | exact rfl | assumption)) | (apply cd_f; (first | exact rfl | assumption)) | (apply cd_d <;> intro h) | (apply cd_s <;> intro h))
    | (apply ji; exact rfl; exact rfl; (first | omega | (simp only [List.length_append, List.length_cons, List.length_nil]; omega) | (simp; omega)))
    | (apply z6; exact rfl; exact rfl)
    | apply qv
    | apply qs
    | (apply qe; exact Tryz.call91; exact qij _ _ hg))
   exact qk rfl (vd rfl) ⟨rfl, _, rfl⟩
  ·exact absurd hat (hx n)
 ·rw [ht]
  have hfst := qnv text [10, 10]
  have hct := fun h => q1m (l := text) (m := [10, 10]) h
  have htr := qcm (Lib.cut text [10, 10]).1 [35, 37, 103, 101, 110, 32]
  have hcc := fun st => qna text [10, 10] st (by omega)
  generalize Lib.cut text [10, 10] = c at hfst hct htr hcc
  obtain ⟨a, b, d⟩ := c
  simp only at hfst hct htr hcc
  repeat' (first
   | apply qj
   | apply qb
   | apply qg
   | apply qh
   | apply qc
   | (apply zb; exact rfl; exact rfl)
   | (apply qe; exact Tryz.call36; exact hcc _)
   | (apply qe; exact Tryz.call96; exact qfu _ _ _))
  refine qda Tryz.call77 ((qj3 (Lib.trimPrefix a [35, 37, 103, 101, 110, 32]) _ (by omega)).mono ?_)
  rintro _ _ ⟨rfl, n, x, rfl, hx⟩
  show AOps _ _ _ _ _ _ _
  have hbad : ¬ (d = true ∧ yf n ∧ wm n = a ++ [10, 10]) := fun ⟨h1, h2, h3⟩ => by
   refine hno n b h2 ?_
   rw [h3]
   exact hct h1
  by_cases hg : yf n
  ·have hll := qpn hg
   cases d with
   | false =>
    rcases x with _ | ⟨t', y⟩
    all_goals
     repeat' (first
      | apply qj
      | apply qb
      | apply qg
      | apply qh
      | apply qc
      | (apply zb; exact rfl; exact rfl)
      | (apply z7; exact rfl)
      | (apply za; (iterate 4 exact rfl))
      | (apply xd; (first | exact rfl | assumption))
      | (apply wr; (first | exact rfl | assumption))
      | (apply zf; exact rfl; first | (apply j9; (first | assumption | omega)) | (apply ke; (first | assumption | omega)) | (apply kg; (first | exact rfl | assumption)) | (apply kh; (first | exact rfl | assumption)) | (apply pk_t; (first | exact rfl | assumption)) | (apply pk_f; (first | exact rfl | assumption)))
      | (apply qd; exact rfl; first | (apply qy; (first | assumption | omega)) | (apply q4; (first | assumption | omega)) | (apply q5; (first | exact rfl | assumption)) | (apply qz; (first | exact rfl | assumption)) | (apply cd_n <;> intro h) | (apply cd_t; (first | exact rfl | assumption)) | (apply cd_f; (first | exact rfl | assumption)) | (apply cd_d <;> intro h) | (apply cd_s <;> intro h))
      | apply qs
      | (apply qe; exact Tryz.call91; exact qij _ _ hg))
     exact qk rfl (vd rfl) ⟨rfl, _, rfl⟩
   | true =>
    have hne : wm n ≠ a ++ [10, 10] := fun h => hbad ⟨rfl, hg, h⟩
    rcases x with _ | ⟨t', y⟩
    all_goals
     repeat' (first
      | apply qj
      | apply qb
      | apply qg
      | apply qh
      | apply qc
      | (apply zb; exact rfl; exact rfl)
      | (apply z4; (iterate 3 exact rfl))
      | (apply z7; exact rfl)
      | (apply za; (iterate 4 exact rfl))
      | (apply wu; (first | exact rfl | assumption))
      | (apply qax; (first | exact rfl | assumption))
      | (apply wr; (first | exact rfl | assumption))
      | (apply zf; exact rfl; first | (apply j9; (first | assumption | omega)) | (apply ke; (first | assumption | omega)) | (apply kg; (first | exact rfl | assumption)) | (apply kh; (first | exact rfl | assumption)) | (apply pk_t; (first | exact rfl | assumption)) | (apply pk_f; (first | exact rfl | assumption)))
      | (apply qd; exact rfl; first | (apply qy; (first | assumption | omega)) | (apply q4; (first | assumption | omega)) | (apply q5; (first | exact rfl | assumption)) | (apply qz; (first | exact rfl | assumption)) | (apply cd_n <;> intro h) | (apply cd_t; (first | exact rfl | assumption)) | (apply cd_f; (first | exact rfl | assumption)) | (apply cd_d <;> intro h) | (apply cd_s <;> intro h))
      | (apply ji; exact rfl; exact rfl; (first | omega | (simp only [List.length_append, List.length_cons, List.length_nil]; omega) | (simp; omega)))
      | (apply jc; exact rfl; exact rfl)
      | (apply z6; exact rfl; exact rfl)
      | apply qs
      | (apply qe; exact Tryz.call91; exact qij _ _ hg))
     exact qk rfl (vd rfl) ⟨rfl, _, rfl⟩
  ·cases d
   all_goals
    rcases x with _ | ⟨t', y⟩
    all_goals
     repeat' (first
      | apply qj
      | apply qb
      | apply qg
      | apply qh
      | apply qc
      | (apply zb; exact rfl; exact rfl)
      | (apply z7; exact rfl)
      | (apply za; (iterate 4 exact rfl))
      | (apply wu; (first | exact rfl | assumption))
      | (apply xd; (first | exact rfl | assumption))
      | (apply qax; (first | exact rfl | assumption))
      | (apply wr; (first | exact rfl | assumption))
      | (apply zf; exact rfl; first | (apply j9; (first | assumption | omega)) | (apply ke; (first | assumption | omega)) | (apply kg; (first | exact rfl | assumption)) | (apply kh; (first | exact rfl | assumption)) | (apply pk_t; (first | exact rfl | assumption)) | (apply pk_f; (first | exact rfl | assumption)))
      | (apply qd; exact rfl; first | (apply qy; (first | assumption | omega)) | (apply q4; (first | assumption | omega)) | (apply q5; (first | exact rfl | assumption)) | (apply qz; (first | exact rfl | assumption)) | (apply cd_n <;> intro h) | (apply cd_t; (first | exact rfl | assumption)) | (apply cd_f; (first | exact rfl | assumption)) | (apply cd_d <;> intro h) | (apply cd_s <;> intro h))
      | (apply jc; exact rfl; exact rfl)
      | (apply z6; exact rfl; exact rfl)
      | apply qs
      | (apply qe; exact Tryz.call91; exact qsv _ _ hg))
     exact qk rfl (vd rfl) ⟨rfl, _, rfl⟩
end Go.Proofs.YtefmcijohgpfhaaGreatDoor
set_option maxRecDepth 100000
set_option linter.unusedVariables false
namespace Go.Proofs.YtefmcijohgpfhaaGreatDoor
open Go Go.Av Go.RowKit Go.Proofs Go.Pl
def q2y (L : List LnV) (i : Nat) (x : LnV) : List qa := x.text :: kv ((L.drop (i + 1)).map qw6)
theorem qq8 : ∀ (r : List (qa × Bool)), (kv r).length ≤ r.length
 | [] => by simp [kv]
 | (t, e) :: r => by
  have := qq8 r
  rw [kv]
  split <;> simp <;> omega
theorem qqx : ∀ {r : List (qa × Bool)} {n : Nat}, (∀ p ∈ r, p.1.length ≤ n) → ∀ s ∈ kv r, s.length ≤ n
 | [], _, _, s, hs => by simp [kv] at hs
 | (t, e) :: r, n, h, s, hs => by
  rw [kv] at hs
  split at hs
  ·rcases List.mem_cons.1 hs with rfl | hs
   ·exact h (s, e) (by simp)
   ·exact qqx (fun p hp => h p (by simp [hp])) s hs
  ·simp at hs
structure LnsB (L : List LnV) : Prop where
 len : L.length < 100000
 val : ∀ x ∈ L, x.text.length < 100000
theorem LnsB.said {L : List LnV} (h : LnsB L) {i : Nat} {x : LnV} (hx : L[i]? = some x) : LsB (q2y L i x) := by
 have h1 := qq8 ((L.drop (i + 1)).map qw6)
 have h2 := h.len
 have h3 := h.val x (List.mem_of_getElem? hx)
 refine ⟨?_, fun s hs => ?_⟩
 ·unfold q2y
  simp at h1 ⊢
  omega
 ·rcases List.mem_cons.1 hs with rfl | hs
  ·omega
  ·have := qqx (n := 100000) (fun p hp => by
    obtain ⟨y, hy, rfl⟩ := List.mem_map.1 hp
    have := h.val y (List.mem_of_mem_drop hy)
    simp only [qw6]
    omega) s hs
   omega
end Go.Proofs.YtefmcijohgpfhaaGreatDoor
set_option maxRecDepth 100000
set_option linter.unusedVariables false
namespace Go.Pl
open Go Go.Proofs Go.Proofs.YtefmcijohgpfhaaGreatDoor
theorem qwq (l : qa) : (zo l).1 = 1 ∨ (zo l).1 = 2 ∨ (zo l).1 = 3 := by
 unfold zo
 split
 ·split
  ·split
   ·unfold y9
    split <;> simp
   ·split
    ·unfold xk
     split
     ·simp
     ·split <;> simp
    ·simp
  ·simp
 ·split <;> simp
theorem qzk {l : qa} (h1 : (zo l).1 = 1) : ∃ k : Nat, (zo l).2.2 = (k : Int) ∧ 0 < k ∧ k ≤ l.length := by
 obtain ⟨_, m, hm, hn⟩ := qni (show zo l = (1, (zo l).2.1, (zo l).2.2) by rw [← h1])
 refine ⟨_, hn, ?_, ?_⟩
 ·rw [qfn]
  simp [recL, kw, zr]
 ·have := congrArg List.length hm
  rw [List.length_append] at this
  omega
theorem qqb {l : qa} : (zo l).2.1.length ≤ l.length := by
 have hp := jy 10 l
 unfold zo
 split
 ·split
  ·split
   ·simp
   ·split
    ·unfold xk
     split
     ·simp
     ·split
      ·simp; omega
      ·simp
    ·simp
  ·simp
 ·split <;> simp
theorem qr2 (l : qa) : jn l.length l ≤ l.length := (qjv _ _ _ (Nat.le_refl _) (Nat.le_refl _)).2
theorem qxb {f : Nat} {l : qa} {a : Int} {bs : List (List qu)} {es : List Int} (h : (zo l).1 = 2) : recsF (f + 1) l a bs es = (false, bs, es, l) := by
 rw [recsF, if_pos h]
theorem qxv {f : Nat} {l : qa} {a : Int} {bs : List (List qu)} {es : List Int} (h : (zo l).1 = 3) : recsF (f + 1) l a bs es = (true, bs, es, l) := by
 rw [recsF, if_neg (by rw [h]; decide), if_neg (by rw [h]; decide)]
theorem qyy {f : Nat} {l : qa} {a : Int} {bs : List (List qu)} {es : List Int} (h : (zo l).1 = 1) (hd : decF (zo l).2.1 = none) : recsF (f + 1) l a bs es = (true, bs, es, l) := by
 rw [recsF, if_neg (by rw [h]; decide), if_pos h, hd]
theorem qxh {f k : Nat} {l : qa} {a : Int} {bs : List (List qu)} {es : List Int} {b : List qu} (h : (zo l).1 = 1) (hd : decF (zo l).2.1 = some b) (hk : (zo l).2.2 = (k : Int)) : recsF (f + 1) l a bs es = recsF f (l.drop k) (a + k) (bs ++ [b]) (es ++ [a + k]) := by
 rw [recsF, if_neg (by rw [h]; decide), if_pos h, hd, hk]
 rfl
end Go.Pl
namespace Go.Proofs.YtefmcijohgpfhaaGreatDoor
open Go Go.Av Go.RowKit Go.Proofs Go.Pl
@[reducible] def qid (es : List Int) : AV := .sl 1 (es.map fun x => Iv x) none
@[reducible] def qbp (bs : List (List qu)) : AV := .sl 1 (bs.map ja) none
@[reducible] def qi6 (b : wy) : AV := .ag [Iv b.gen, Sv b.base, qbp b.batches, qid b.ends, Sv b.tail]
end Go.Proofs.YtefmcijohgpfhaaGreatDoor
set_option maxRecDepth 100000
set_option linter.unusedVariables false
namespace Go.Proofs.YtefmcijohgpfhaaGreatDoor
open Go Go.Av Go.RowKit Go.Proofs Go.Pl
theorem q5b (l : qa) (b : Bool) (st : List AObj) (hl : l.length < 4294967281) (h : begF l = b) : qm E 97 [Sv l] st fun r st' => r = Bv b ∧ st' = st := by
 subst h
 exact q1i l st hl
theorem q07 (text : qa) (st : List AObj) (hl : text.length < 1000000) : qm E 62 [Sv text] st fun r st' => r = Iv ((jn text.length text : Nat) : Int) ∧ st' = st := by
 refine wq [.s text] (zd _) Tryz.func62 rfl rfl (fun _ => rfl) rfl fun S0 => ?_
 apply qr []
 repeat' (first
  | apply And.intro
  | (intro h; first | (exfalso; omega) | (exfalso; exact h rfl) | (exfalso; revert h; decide) | skip)
  | exact ⟨Tryz.call72⟩
  | (refine Exists.intro _ ⟨qix _, ?_⟩)
  | exact rfl
  | exact trivial
  | exact fun _ => rfl
  | exact qp _
  | apply qn []
  | exact DrOk.mk (by kernel_rfl)
  | exact qi fun _ => rfl
  | omega
  | (simp only [List.length_map, List.length_append, List.length_cons, List.length_nil, List.length_take, List.length_drop]; omega)
  | exact qw
  | (refine Exists.intro _ ⟨rfl, ?_⟩)
  | refine q7 ?_)
 refine qdz (X := Int) text 1 2 [0, 1] (fun r => ⟨[(0, .s text), (2, .bx 0 0), (5, .fn (.func 113) [] [.bx 1 0])], [(0, some (.cells 3 [.i r])), (1, some (.cells 9 [.s text]))], 2⟩) _
  (fun k rest r => r = 0 ∧ rest.length ≤ text.length ∧ jn text.length text = jn text.length rest) (fun c r => c = .ret ∧ r = ((jn text.length text : Nat) : Int)) 0 ⟨rfl, by omega, rfl⟩ ?_ id (by omega) (fun _ => rfl) rfl (fun _ => rfl) (fun _ => rfl) rfl ?_ ?_ ?_
 ·skip
  repeat' (first
   | apply And.intro
   | (intro h; first | (exfalso; omega) | (exfalso; exact h rfl) | (exfalso; revert h; decide) | skip)
   | exact rfl
   | exact trivial
   | exact fun _ => rfl
   | exact qp _
   | apply qn []
   | exact DrOk.mk (by kernel_rfl)
   | exact qi fun _ => rfl
   | omega
   | (simp only [List.length_map, List.length_append, List.length_cons, List.length_nil, List.length_take, List.length_drop]; omega)
   | exact qw
   | (refine Exists.intro _ ⟨rfl, ?_⟩)
   | refine q7 ?_)
 ·rintro k rest r ⟨rfl, hrl, hbeg⟩ hne hle
  have hu := kl 10 rest
  have hpl := jy 10 rest
  have hbg := fun st => q5b (upto 10 rest) _ st (by omega) rfl
  unfold qh8
  by_cases hb : begF (upto 10 rest) = true
  ·rw [hb] at hbg
   have hv : ((text.length : Int) - rest.length) = ((jn text.length text : Nat) : Int) := by
    rw [hbeg, qi4 hne hb]
    omega
   refine RA.mk fun S F ρ rd => ?_
   apply qr []
   repeat' (first
    | apply And.intro
    | (intro h; first | (exfalso; omega) | (exfalso; exact h rfl) | (exfalso; revert h; decide) | skip)
    | (refine RB.mk fun S rd => ?_; apply qr [])
    | exact ⟨Tryz.call97⟩
    | (refine Exists.intro _ ⟨ql (hbg) rfl, ?_⟩)
    | (refine Exists.intro _ ⟨⟨rfl, hv⟩, ?_⟩)
    | exact rfl
    | exact trivial
    | exact fun _ => rfl
    | exact qp _
    | apply qn []
    | exact DrOk.mk (by kernel_rfl)
    | exact qi fun _ => rfl
    | omega
    | (simp only [List.length_map, List.length_append, List.length_cons, List.length_nil, List.length_take, List.length_drop]; omega)
    | exact qw
    | (refine Exists.intro _ ⟨rfl, ?_⟩)
    | refine q7 ?_)
  ·have hb' : begF (upto 10 rest) = false := by simpa using hb
   rw [hb'] at hbg
   refine RA.mk fun S F ρ rd => ?_
   apply qr []
   repeat' (first
    | apply And.intro
    | (intro h; first | (exfalso; omega) | (exfalso; exact h rfl) | (exfalso; revert h; decide) | skip)
    | (refine RB.mk fun S rd => ?_; apply qr [])
    | exact ⟨Tryz.call97⟩
    | (refine Exists.intro _ ⟨ql (hbg) rfl, ?_⟩)
    | (refine Exists.intro 0 ⟨⟨rfl, by omega, by rw [hbeg, qkg hne (by rw [hb']; decide)]⟩, ?_⟩)
    | exact rfl
    | exact trivial
    | exact fun _ => rfl
    | exact qp _
    | apply qn []
    | exact DrOk.mk (by kernel_rfl)
    | exact qi fun _ => rfl
    | omega
    | (simp only [List.length_map, List.length_append, List.length_cons, List.length_nil, List.length_take, List.length_drop]; omega)
    | exact qw
    | (refine Exists.intro _ ⟨rfl, ?_⟩)
    | refine q7 ?_)
 ·rintro k r ⟨rfl, hrl, hbeg⟩
  rw [qdj] at hbeg
  rw [hbeg]
  repeat' (first
   | apply And.intro
   | (intro h; first | (exfalso; omega) | (exfalso; exact h rfl) | (exfalso; revert h; decide) | skip)
   | exact rfl
   | exact trivial
   | exact fun _ => rfl
   | exact qp _
   | apply qn []
   | exact DrOk.mk (by kernel_rfl)
   | exact qi fun _ => rfl
   | omega
   | (simp only [List.length_map, List.length_append, List.length_cons, List.length_nil, List.length_take, List.length_drop]; omega)
   | exact qw
   | (refine Exists.intro _ ⟨rfl, ?_⟩)
   | refine q7 ?_)
 ·rintro c r ⟨rfl, rfl⟩
  repeat' (first
   | apply And.intro
   | (intro h; first | (exfalso; omega) | (exfalso; exact h rfl) | (exfalso; revert h; decide) | skip)
   | exact rfl
   | exact trivial
   | exact fun _ => rfl
   | exact qp _
   | apply qn []
   | exact DrOk.mk (by kernel_rfl)
   | exact qi fun _ => rfl
   | omega
   | (simp only [List.length_map, List.length_append, List.length_cons, List.length_nil, List.length_take, List.length_drop]; omega)
   | exact qw
   | (refine Exists.intro _ ⟨rfl, ?_⟩)
   | refine q7 ?_)
end Go.Proofs.YtefmcijohgpfhaaGreatDoor
set_option maxRecDepth 100000
set_option linter.unusedVariables false
namespace Go.Proofs.YtefmcijohgpfhaaGreatDoor
open Go Go.Av Go.RowKit Go.Proofs Go.Pl
theorem qrs (b : List qu) : qkv (ja b) := fun y hy => by
 simp only [AV.cells, List.mem_cons, List.not_mem_nil, or_false] at hy
 subst hy
 exact qg5 _
theorem qqc (bs : List (List qu)) : Pure (qbp bs) := qd7 fun x hx => by
 obtain ⟨b, _, rfl⟩ := List.mem_map.1 hx
 exact qrs b
theorem qvp (es : List Int) : Pure (qid es) := qd7 fun x hx => by
 obtain ⟨b, _, rfl⟩ := List.mem_map.1 hx
 intro y hy
 simp only [AV.cells, List.mem_cons, List.not_mem_nil, or_false] at hy
 subst hy
 exact zd _
theorem qw7 (b : wy) : Pure (qi6 b) := qku fun x hx => by
 simp only [List.mem_cons, List.not_mem_nil, or_false] at hx
 rcases hx with rfl | rfl | rfl | rfl | rfl
 ·exact zd _
 ·exact zd _
 ·exact qqc _
 ·exact qvp _
 ·exact zd _
def qjl (x : ErrV × wy) : AV := .tu [qi6 x.2, errA x.1]
theorem quf (x : ErrV × wy) : Pure (qjl x) := wj (qw7 _) (qaj _)
theorem qtx (text : qa) (st : List AObj) (hl : 60000 < text.length) (h2 : text.length < 1000000) : qm E 57 [Sv text] st fun r st' => r = .tu [qbv [], errA (.num 1)] ∧ st' = st := by
 refine wq [.s text] (wj (qlc _) (qaj _)) Tryz.func57 rfl rfl (fun _ => rfl) rfl fun S0 => ?_
 apply qr []
 repeat' (first
  | apply And.intro
  | (intro h; first | (exfalso; omega) | (exfalso; exact h rfl) | (exfalso; revert h; decide) | skip)
  | exact rfl
  | exact trivial
  | exact fun _ => rfl
  | exact qp _
  | apply qn []
  | exact DrOk.mk (by kernel_rfl)
  | exact qi fun _ => rfl
  | omega
  | (simp only [List.length_map, List.length_append, List.length_cons, List.length_nil, List.length_take, List.length_drop]; omega)
  | exact qw
  | (refine Exists.intro _ ⟨rfl, ?_⟩)
  | refine q7 ?_)
def itsE (text : qa) : List ka := if 60000 < text.length then [] else (jr text).2
theorem qzu (text : qa) (st : List AObj) (hl : text.length < 1000000) : qm E 57 [Sv text] st fun r st' => r = .tu [qbv (itsE text), errA (qcl text)] ∧ st' = st := by
 unfold qcl itsE
 by_cases hb : 60000 < text.length
 ·rw [if_pos hb, if_pos hb]
  exact qtx text st hb hl
 ·rw [if_neg hb, if_neg hb]
  have := qmo text st (by omega)
  unfold qbk at this
  rcases hp : (jr text).1 with _ | ⟨x, y⟩
  ·rw [hp] at this
   exact this
  ·rw [hp] at this
   exact this
theorem qsh (gen : Int) (base text : qa) (a : Nat) (hl : text.length < 1000000) (ha : a ≤ text.length) (r : SV) (hp1 : List (Nat × Option SR)) (nx1 : Nat) (R : Bool × List (List qu) × List Int × qa) (hR : Go.Pl.recsF (text.length + 1) (text.drop a) a [] [] = R)
  (hok : R.1 = false → r = .a (.v .nilIface) ∧ hp1 = [(0, some (.cells 53 [.i gen, .s base, .tp 1, .tp 2, .s R.2.2.2])), (1, some (.tip 1 23 (R.2.1.map ja))), (2, some (.tip 1 3 (R.2.2.1.map fun x => Iv x)))] ∧ nx1 = 3)
  (hbad : R.1 = true → r = .a (errA (.at' R.2.1.length 10)) ∧ hp1 = [] ∧ nx1 = 1) : x6 E 63 [.bx 0 0, .s text, .i a] 1 (hpF [(0, some (.cells 53 [.i gen, .s base, .a zv, .a zv, .s []]))]) ⟨r, wn [(0, some (.cells 53 [.i gen, .s base, .a zv, .a zv, .s []]))], hp1 ++ ya [(0, some (.cells 53 [.i gen, .s base, .a zv, .a zv, .s []]))], nx1⟩ := by
 refine qd6 [.bx 0 0, .s text, .i a] [(0, some (.cells 53 [.i gen, .s base, .a zv, .a zv, .s []]))] 1 r hp1 nx1 Tryz.func63 rfl rfl rfl ?_ fun S F ρ => ?_
 ·cases h : R.1 with
  | false => obtain ⟨rfl, rfl, rfl⟩ := hok h; rfl
  | true => obtain ⟨rfl, rfl, rfl⟩ := hbad h; rfl
 apply qr []
 repeat' (first
  | apply And.intro
  | (intro h; first | (exfalso; omega) | (exfalso; exact h rfl) | (exfalso; revert h; decide) | skip)
  | exact rfl
  | exact trivial
  | exact fun _ => rfl
  | exact qp _
  | apply qn []
  | exact DrOk.mk (by kernel_rfl)
  | exact qi fun _ => rfl
  | omega
  | (simp only [List.length_map, List.length_append, List.length_cons, List.length_nil, List.length_take, List.length_drop]; omega)
  | exact qw
  | (refine Exists.intro _ ⟨rfl, ?_⟩)
  | refine q7 ?_)
 refine qf8 (X := Nat × Nat × List (List qu) × List Int) (fun (k, f, bs, es) => ⟨[(0, .bx 0 0), (1, .s text), (2, .i k)], [(0, some (.cells 53 [.i gen, .s base, .tp 1, .tp 2, .s []])), (1, some (.tip 1 23 (bs.map ja))), (2, some (.tip 1 3 (es.map fun x => Iv x)))], 3⟩)
  (fun (k, f, bs, es) => k ≤ text.length ∧ text.length - k < f ∧ Go.Pl.recsF f (text.drop k) k bs es = R ∧ bs.length ≤ k ∧ es.length ≤ k) (fun x => text.length - x.1) (a, text.length + 1, [], []) ⟨ha, by omega, hR, by simp, by simp⟩ ?_ ?_
 ·skip
  repeat' (first
   | apply And.intro
   | (intro h; first | (exfalso; omega) | (exfalso; exact h rfl) | (exfalso; revert h; decide) | skip)
   | exact rfl
   | exact trivial
   | exact fun _ => rfl
   | exact qp _
   | apply qn []
   | exact DrOk.mk (by kernel_rfl)
   | exact qi fun _ => rfl
   | omega
   | (simp only [List.length_map, List.length_append, List.length_cons, List.length_nil, List.length_take, List.length_drop]; omega)
   | exact qw
   | (refine Exists.intro _ ⟨rfl, ?_⟩)
   | refine q7 ?_)
 ·rintro ⟨k, f, bs, es⟩ ⟨hk, hf, hR, hbl, hel⟩
  obtain ⟨f, rfl⟩ : ∃ f', f = f' + 1 := ⟨f - 1, by omega⟩
  have hrd := fun st => q5j (text.drop k) st (by simp; omega)
  have hll : (text.drop k).length = text.length - k := by simp
  have hbd := qqb (l := text.drop k)
  have hde := fun st => q04 (zo (text.drop k)).2.1 st (by omega)
  rcases qwq (text.drop k) with h1 | h2 | h3
  ·rw [h1] at hrd
   obtain ⟨n', hn', hn0', hnl⟩ := qzk h1
   cases hdd : decF (zo (text.drop k)).2.1 with
   | none =>
    rw [qyy h1 hdd] at hR
    rw [hdd] at hde
    subst hR
    obtain ⟨rfl, rfl, rfl⟩ := hbad rfl
    apply qr []
    repeat' (first
     | apply And.intro
     | (intro h; first | (exfalso; omega) | (exfalso; exact h rfl) | (exfalso; revert h; decide) | skip)
     | exact ⟨Tryz.call98⟩
     | (refine Exists.intro _ ⟨ql (hrd) rfl, ?_⟩)
     | exact ⟨Tryz.call11⟩
     | (refine Exists.intro _ ⟨ql (hde) rfl, ?_⟩)
     | exact rfl
     | exact trivial
     | exact fun _ => rfl
     | exact qp _
     | apply qn []
     | exact DrOk.mk (by kernel_rfl)
     | exact qi fun _ => rfl
     | omega
     | (simp only [List.length_map, List.length_append, List.length_cons, List.length_nil, List.length_take, List.length_drop]; omega)
     | exact qw
     | (refine Exists.intro _ ⟨rfl, ?_⟩)
     | refine q7 ?_)
    rw [List.length_map]
    rfl
   | some b =>
    rw [qxh h1 hdd hn'] at hR
    rw [hdd] at hde
    rw [hn'] at hrd
    apply qr []
    repeat' (first
     | apply And.intro
     | (intro h; first | (exfalso; omega) | (exfalso; exact h rfl) | (exfalso; revert h; decide) | skip)
     | exact ⟨Tryz.call98⟩
     | (refine Exists.intro _ ⟨ql (hrd) rfl, ?_⟩)
     | exact ⟨Tryz.call11⟩
     | (refine Exists.intro _ ⟨ql (hde) rfl, ?_⟩)
     | (refine Exists.intro (k + n', f, bs ++ [b], es ++ [((k + n' : Nat) : Int)]) ⟨?_, by simp only; omega, ?_⟩)
     | exact rfl
     | exact trivial
     | exact fun _ => rfl
     | exact qp _
     | apply qn []
     | exact DrOk.mk (by kernel_rfl)
     | exact qi fun _ => rfl
     | omega
     | (simp only [List.length_map, List.length_append, List.length_cons, List.length_nil, List.length_take, List.length_drop]; omega)
     | exact qw
     | (refine Exists.intro _ ⟨rfl, ?_⟩)
     | refine q7 ?_)
    all_goals first | (rw [← hR, Int.natCast_add, List.drop_drop]; done) | (simp; done)
  ·rw [h2] at hrd
   rw [qxb h2] at hR
   subst hR
   obtain ⟨rfl, rfl, rfl⟩ := hok rfl
   cases hdd : decF (zo (text.drop k)).2.1 <;> rw [hdd] at hde
   all_goals
    apply qr []
    repeat' (first
     | apply And.intro
     | (intro h; first | (exfalso; omega) | (exfalso; exact h rfl) | (exfalso; revert h; decide) | skip)
     | exact ⟨Tryz.call98⟩
     | (refine Exists.intro _ ⟨ql (hrd) rfl, ?_⟩)
     | exact ⟨Tryz.call11⟩
     | (refine Exists.intro _ ⟨ql (hde) rfl, ?_⟩)
     | exact rfl
     | exact trivial
     | exact fun _ => rfl
     | exact qp _
     | apply qn []
     | exact DrOk.mk (by kernel_rfl)
     | exact qi fun _ => rfl
     | omega
     | (simp only [List.length_map, List.length_append, List.length_cons, List.length_nil, List.length_take, List.length_drop]; omega)
     | exact qw
     | (refine Exists.intro _ ⟨rfl, ?_⟩)
     | refine q7 ?_)
  ·rw [h3] at hrd
   rw [qxv h3] at hR
   subst hR
   obtain ⟨rfl, rfl, rfl⟩ := hbad rfl
   cases hdd : decF (zo (text.drop k)).2.1 <;> rw [hdd] at hde
   all_goals
    apply qr []
    repeat' (first
     | apply And.intro
     | (intro h; first | (exfalso; omega) | (exfalso; exact h rfl) | (exfalso; revert h; decide) | skip)
     | exact ⟨Tryz.call98⟩
     | (refine Exists.intro _ ⟨ql (hrd) rfl, ?_⟩)
     | exact ⟨Tryz.call11⟩
     | (refine Exists.intro _ ⟨ql (hde) rfl, ?_⟩)
     | exact rfl
     | exact trivial
     | exact fun _ => rfl
     | exact qp _
     | apply qn []
     | exact DrOk.mk (by kernel_rfl)
     | exact qi fun _ => rfl
     | omega
     | (simp only [List.length_map, List.length_append, List.length_cons, List.length_nil, List.length_take, List.length_drop]; omega)
     | exact qw
     | (refine Exists.intro _ ⟨rfl, ?_⟩)
     | refine q7 ?_)
   all_goals
    rw [List.length_map]
    rfl
end Go.Proofs.YtefmcijohgpfhaaGreatDoor
set_option maxRecDepth 100000
set_option linter.unusedVariables false
namespace Go.Proofs.YtefmcijohgpfhaaGreatDoor
open Go Go.Av Go.RowKit Go.Proofs Go.Pl
theorem qh3 (text : qa) (st : List AObj) (hl : text.length < 1000000) : qm E 27 [Sv text] st fun r st' => r = qjl (wz text) ∧ st' = st := by
 refine wq [.s text] (quf _) Tryz.func27 rfl rfl (fun _ => rfl) rfl fun S0 => ?_
 by_cases hbig : 120000 < text.length
 ·have e : wz text = (.num 1, qgp) := if_pos hbig
  rw [e]
  apply qr []
  repeat' (first
   | apply And.intro
   | (intro h; first | (exfalso; omega) | (exfalso; exact h rfl) | (exfalso; revert h; decide) | skip)
   | exact rfl
   | exact trivial
   | exact fun _ => rfl
   | exact qp _
   | apply qn []
   | exact DrOk.mk (by kernel_rfl)
   | exact qi fun _ => rfl
   | omega
   | (simp only [List.length_map, List.length_append, List.length_cons, List.length_nil, List.length_take, List.length_drop]; omega)
   | exact qw
   | (refine Exists.intro _ ⟨rfl, ?_⟩)
   | refine q7 ?_)
 have hsp := qg1 text
 have hrl : (wh text).2.length ≤ text.length := by
  conv => rhs; rw [hsp.1]
  simp
 have hbl := qr2 (wh text).2
 obtain ⟨g, rest, htk⟩ : ∃ g rest, wh text = (g, rest) := ⟨_, _, rfl⟩
 have hF : wz text = match qcl (rest.take (jn rest.length rest)) with
   | .no => if (Go.Pl.recsF (text.length + 1) (rest.drop (jn rest.length rest)) (((text.length - rest.length + jn rest.length rest : Nat)) : Int) [] []).1 = true then (.at' (Go.Pl.recsF (text.length + 1) (rest.drop (jn rest.length rest)) (((text.length - rest.length + jn rest.length rest : Nat)) : Int) [] []).2.1.length 10, qgp)
    else (.no, ⟨g, rest.take (jn rest.length rest), (Go.Pl.recsF (text.length + 1) (rest.drop (jn rest.length rest)) (((text.length - rest.length + jn rest.length rest : Nat)) : Int) [] []).2.1, (Go.Pl.recsF (text.length + 1) (rest.drop (jn rest.length rest)) (((text.length - rest.length + jn rest.length rest : Nat)) : Int) [] []).2.2.1, (Go.Pl.recsF (text.length + 1) (rest.drop (jn rest.length rest)) (((text.length - rest.length + jn rest.length rest : Nat)) : Int) [] []).2.2.2⟩)
   | e => (e, qgp) := by
  unfold wz
  rw [if_neg hbig]
  unfold qbh qfj atH y8
  rw [htk]
  try rfl
 have htk2 : ∀ st, qm E 61 [Sv text] st fun r st' => r = .tu [Iv g, Sv rest] ∧ st' = st := fun st => by
  have := q3e text st hl
  rw [htk] at this
  exact this
 rw [htk] at hrl hbl hsp
 simp only at hrl hbl hsp
 have hdr : rest.drop (jn rest.length rest) = text.drop (text.length - rest.length + jn rest.length rest) := by
  have h1 : text.length = (kz g).length + rest.length := by
   have := congrArg List.length hsp.1
   simpa using this
  conv => rhs; rhs; rw [hsp.1]
  rw [← List.drop_drop, show text.length - rest.length = (kz g).length by omega, List.drop_left]
 rw [hdr] at hF
 clear hdr hsp htk
 have hbg := fun st => q07 rest st (by omega)
 generalize jn rest.length rest = a at hF hbl hbg
 have hpa := fun st => qzu (rest.take a) st (by simp; omega)
 have hsub : ((text.length : Int) - (rest.length : Int)) + (a : Int) = ((text.length - rest.length + a : Nat) : Int) := by omega
 rw [show (((text.length - rest.length + a : Nat)) : Int) = (((text.length - rest.length + a : Nat)) : Int) from rfl] at hF
 obtain ⟨R, hR⟩ : ∃ R, Go.Pl.recsF (text.length + 1) (text.drop (text.length - rest.length + a)) ((text.length - rest.length + a : Nat) : Int) [] [] = R := ⟨_, rfl⟩
 rw [hR] at hF
 have hok := fun h => qsh g (rest.take a) text (text.length - rest.length + a) hl (by omega) (.a (.v .nilIface)) [(0, some (.cells 53 [.i g, .s (rest.take a), .tp 1, .tp 2, .s R.2.2.2])), (1, some (.tip 1 23 (R.2.1.map ja))), (2, some (.tip 1 3 (R.2.2.1.map fun x => Iv x)))] 3 R hR (fun _ => ⟨rfl, rfl, rfl⟩) h
 have hbad := fun h => qsh g (rest.take a) text (text.length - rest.length + a) hl (by omega) (.a (errA (.at' R.2.1.length 10))) [] 1 R hR h (fun _ => ⟨rfl, rfl, rfl⟩)
 generalize itsE (rest.take a) = its at hpa
 cases hpe : qcl (rest.take a) with
 | no =>
  rw [hpe] at hF hpa
  simp only at hF
  by_cases hR1 : R.1 = true
  ·rw [if_pos hR1] at hF
   rw [hF]
   apply qr []
   repeat' (first
    | apply And.intro
    | (intro h; first | (exfalso; omega) | (exfalso; exact h rfl) | (exfalso; revert h; decide) | skip)
    | exact ⟨Tryz.call61⟩
    | (refine Exists.intro _ ⟨ql (htk2) rfl, ?_⟩)
    | exact ⟨Tryz.call62⟩
    | (refine Exists.intro _ ⟨ql (hbg) rfl, ?_⟩)
    | exact ⟨Tryz.call57⟩
    | (refine Exists.intro _ ⟨ql (hpa) rfl, ?_⟩)
    | exact ⟨Tryz.call63⟩
    | (refine xl (hbad fun h => by rw [hR1] at h; simp at h) ?_)
    | exact rfl
    | exact trivial
    | exact fun _ => rfl
    | exact qp _
    | apply qn []
    | exact DrOk.mk (by kernel_rfl)
    | exact qi fun _ => rfl
    | omega
    | (simp only [List.length_map, List.length_append, List.length_cons, List.length_nil, List.length_take, List.length_drop]; omega)
    | exact qw
    | (refine Exists.intro _ ⟨rfl, ?_⟩)
    | refine q7 ?_)
   all_goals exact congrArg Iv hsub
  ·rw [if_neg hR1] at hF
   rw [hF]
   apply qr []
   repeat' (first
    | apply And.intro
    | (intro h; first | (exfalso; omega) | (exfalso; exact h rfl) | (exfalso; revert h; decide) | skip)
    | exact ⟨Tryz.call61⟩
    | (refine Exists.intro _ ⟨ql (htk2) rfl, ?_⟩)
    | exact ⟨Tryz.call62⟩
    | (refine Exists.intro _ ⟨ql (hbg) rfl, ?_⟩)
    | exact ⟨Tryz.call57⟩
    | (refine Exists.intro _ ⟨ql (hpa) rfl, ?_⟩)
    | exact ⟨Tryz.call63⟩
    | (refine xl (hok fun h => absurd h hR1) ?_)
    | exact rfl
    | exact trivial
    | exact fun _ => rfl
    | exact qp _
    | apply qn []
    | exact DrOk.mk (by kernel_rfl)
    | exact qi fun _ => rfl
    | omega
    | (simp only [List.length_map, List.length_append, List.length_cons, List.length_nil, List.length_take, List.length_drop]; omega)
    | exact qw
    | (refine Exists.intro _ ⟨rfl, ?_⟩)
    | refine q7 ?_)
   all_goals exact congrArg Iv hsub
 | num n =>
  rw [hpe] at hF hpa
  have hF2 : wz text = (.num n, qgp) := hF
  rw [hF2]
  apply qr []
  repeat' (first
   | apply And.intro
   | (intro h; first | (exfalso; omega) | (exfalso; exact h rfl) | (exfalso; revert h; decide) | skip)
   | exact ⟨Tryz.call61⟩
   | (refine Exists.intro _ ⟨ql (htk2) rfl, ?_⟩)
   | exact ⟨Tryz.call62⟩
   | (refine Exists.intro _ ⟨ql (hbg) rfl, ?_⟩)
   | exact ⟨Tryz.call57⟩
   | (refine Exists.intro _ ⟨ql (hpa) rfl, ?_⟩)
   | exact rfl
   | exact trivial
   | exact fun _ => rfl
   | exact qp _
   | apply qn []
   | exact DrOk.mk (by kernel_rfl)
   | exact qi fun _ => rfl
   | omega
   | (simp only [List.length_map, List.length_append, List.length_cons, List.length_nil, List.length_take, List.length_drop]; omega)
   | exact qw
   | (refine Exists.intro _ ⟨rfl, ?_⟩)
   | refine q7 ?_)
 | at' p n =>
  rw [hpe] at hF hpa
  have hF2 : wz text = (.at' p n, qgp) := hF
  rw [hF2]
  apply qr []
  repeat' (first
   | apply And.intro
   | (intro h; first | (exfalso; omega) | (exfalso; exact h rfl) | (exfalso; revert h; decide) | skip)
   | exact ⟨Tryz.call61⟩
   | (refine Exists.intro _ ⟨ql (htk2) rfl, ?_⟩)
   | exact ⟨Tryz.call62⟩
   | (refine Exists.intro _ ⟨ql (hbg) rfl, ?_⟩)
   | exact ⟨Tryz.call57⟩
   | (refine Exists.intro _ ⟨ql (hpa) rfl, ?_⟩)
   | exact rfl
   | exact trivial
   | exact fun _ => rfl
   | exact qp _
   | apply qn []
   | exact DrOk.mk (by kernel_rfl)
   | exact qi fun _ => rfl
   | omega
   | (simp only [List.length_map, List.length_append, List.length_cons, List.length_nil, List.length_take, List.length_drop]; omega)
   | exact qw
   | (refine Exists.intro _ ⟨rfl, ?_⟩)
   | refine q7 ?_)
end Go.Proofs.YtefmcijohgpfhaaGreatDoor
set_option maxRecDepth 100000
set_option linter.unusedVariables false
namespace Go.Proofs.YtefmcijohgpfhaaGreatDoor
open Go Go.Av Go.RowKit Go.Proofs Go.Pl
theorem q0z (n : Int) : (kz n).length ≤ 100 := by
 unfold kz
 split
 ·rename_i h
  have := qpn h
  omega
 ·simp
theorem qga (b : wy) (st : List AObj) (hb : b.base.length < 1000000) (he : b.ends.length < 1000000) : qm E 28 [qi6 b] st fun r st' => r = Iv (vm b) ∧ st' = st := by
 have hh := q0z b.gen
 have hle := fun st => q4x b.gen st
 refine wq [.a (qi6 b)] (zd _) Tryz.func28 rfl rfl (fun _ => rfl) rfl fun S0 => ?_
 by_cases h0 : b.ends = []
 ·have e : vm b = ((kz b.gen).length : Int) + (b.base.length : Int) := by simp [vm, h0]
  rw [e]
  have hl0 : (b.ends.map fun x => Iv x).length = 0 := by simp [h0]
  apply qr []
  repeat' (first
   | apply And.intro
   | (intro h; first | (exfalso; omega) | (exfalso; exact h rfl) | (exfalso; revert h; decide) | skip)
   | exact ⟨Tryz.call64⟩
   | (refine Exists.intro _ ⟨ql (hle) rfl, ?_⟩)
   | exact rfl
   | exact trivial
   | exact fun _ => rfl
   | exact qp _
   | apply qn []
   | exact DrOk.mk (by kernel_rfl)
   | exact qi fun _ => rfl
   | omega
   | (simp only [List.length_map, List.length_append, List.length_cons, List.length_nil, List.length_take, List.length_drop]; omega)
   | exact qw
   | (refine Exists.intro _ ⟨rfl, ?_⟩)
   | refine q7 ?_)
 ·obtain ⟨x, hx⟩ : ∃ x, b.ends.getLast? = some x := by
   cases h : b.ends.getLast? with
   | none => exact absurd (List.getLast?_eq_none_iff.1 h) h0
   | some x => exact ⟨x, rfl⟩
  have e : vm b = x := by simp [vm, hx]
  rw [e]
  have hl0 : 0 < b.ends.length := List.length_pos_iff.2 h0
  have hml : (b.ends.map fun x => Iv x).length = b.ends.length := by simp
  have hg : (b.ends.map fun x => Iv x)[b.ends.length - 1]? = some (Iv x) := by
   rw [List.getLast?_eq_getElem?] at hx
   simp [hx]
  apply qr []
  repeat' (first
   | apply And.intro
   | (intro h; first | (exfalso; omega) | (exfalso; exact h rfl) | (exfalso; revert h; decide) | skip)
   | exact ⟨Tryz.call64⟩
   | (refine Exists.intro _ ⟨ql (hle) rfl, ?_⟩)
   | (refine Exists.intro (b.ends.length - 1) ⟨by omega, _, hg, ?_⟩)
   | exact rfl
   | exact trivial
   | exact fun _ => rfl
   | exact qp _
   | apply qn []
   | exact DrOk.mk (by kernel_rfl)
   | exact qi fun _ => rfl
   | omega
   | (simp only [List.length_map, List.length_append, List.length_cons, List.length_nil, List.length_take, List.length_drop]; omega)
   | exact qw
   | (refine Exists.intro _ ⟨rfl, ?_⟩)
   | refine q7 ?_)
theorem q28 (b : wy) (st : List AObj) (hb : b.base.length < 1000000) (he : b.ends.length < 1000000) (ht : b.tail.length < 1000000) (h1 : 0 ≤ vm b) (h2 : vm b ≤ 1000000000) : qm E 34 [qi6 b] st fun r st' => r = Iv (vm b + b.tail.length) ∧ st' = st := by
 have hw := fun st => qga b st hb he
 refine wq [.a (qi6 b)] (zd _) Tryz.func34 rfl rfl (fun _ => rfl) rfl fun S0 => ?_
 apply qr []
 repeat' (first
  | apply And.intro
  | (intro h; first | (exfalso; omega) | (exfalso; exact h rfl) | (exfalso; revert h; decide) | skip)
  | exact ⟨Tryz.call28⟩
  | (refine Exists.intro _ ⟨ql (hw) rfl, ?_⟩)
  | exact rfl
  | exact trivial
  | exact fun _ => rfl
  | exact qp _
  | apply qn []
  | exact DrOk.mk (by kernel_rfl)
  | exact qi fun _ => rfl
  | omega
  | (simp only [List.length_map, List.length_append, List.length_cons, List.length_nil, List.length_take, List.length_drop]; omega)
  | exact qw
  | (refine Exists.intro _ ⟨rfl, ?_⟩)
  | refine q7 ?_)
theorem qj2 : ∀ r : List (List qu), r.length ≤ (kq r).length
 | [] => by simp [kq]
 | b :: r => by
  have := qj2 r
  have h1 := qif b
  rw [yz]
  simp
  omega
structure q5v (text : qa) (b : wy) : Prop where
 base : b.base.length < 1000000
 tail : b.tail.length < 1000000
 ends : b.ends.length < 1000000
 whole : vm b = ((jp b).length : Int)
 wlen : (jp b).length ≤ text.length
 size : vm b + b.tail.length = text.length
theorem qg9 {text : qa} {b : wy} (h : w6 text b) : q5v text b := by
 have h1 := congrArg List.length h.split
 have h2 := h.len
 have h3 := qj2 b.batches
 have h4 := h.whole
 simp only [List.length_append, jp] at h1
 refine ⟨by omega, by omega, by rw [h.ends, qke]; omega, h4, by simp only [jp, List.length_append]; omega, ?_⟩
 rw [h4]
 simp only [jp, List.length_append]
 omega
theorem q5n (text : qa) (x : List qu) (st : List AObj) (hl : text.length < 1000000) (hB : ∀ y ∈ x, EdB y) (hx : x.length < 1000000) : qm E 30 [Sv text, ja x] st fun r st' => r = .tu [Sv (Go.Pl.appF text x).2, errA (Go.Pl.appF text x).1] ∧ st' = st := by
 refine wq [.s text, .a (ja x)] (wj (zd _) (qaj _)) Tryz.func30 rfl rfl (fun _ => rfl) rfl fun S0 => ?_
 have hbr := fun st => qh3 text st hl
 unfold Go.Pl.appF
 have hbk : wz text = ((wz text).1, (wz text).2) := rfl
 cases hbe : (wz text).1 with
 | no =>
  rw [hbe] at hbk
  have hT := qmg hbk
  have hS := qg9 hT
  obtain ⟨hs1, hs2, hs3, hs4, hs5, hs6⟩ := hS
  rw [hbk] at hbr
  generalize (wz text).2 = b at hbr hT hs1 hs2 hs3 hs4 hs5 hs6
  unfold qjl at hbr
  have hwh := fun st => qga b st hs1 hs3
  rw [hs4] at hwh
  simp only [hs4, Int.toNat_natCast]
  have htl := hT.len
  cases hee : eErr x with
  | no =>
   have hen := fun st => qpv x st hB hee
   by_cases h5 : 50000 < (encF x).length
   ·simp only [if_pos h5]
    apply qr []
    repeat' (first
     | apply And.intro
     | (intro h; first | (exfalso; omega) | (exfalso; exact h rfl) | (exfalso; revert h; decide) | skip)
     | exact ⟨Tryz.call27⟩
     | (refine Exists.intro _ ⟨ql (hbr) rfl, ?_⟩)
     | exact ⟨Tryz.call15⟩
     | (refine Exists.intro _ ⟨ql (hen) rfl, ?_⟩)
     | exact rfl
     | exact trivial
     | exact fun _ => rfl
     | exact qp _
     | apply qn []
     | exact DrOk.mk (by kernel_rfl)
     | exact qi fun _ => rfl
     | omega
     | (simp only [List.length_map, List.length_append, List.length_cons, List.length_nil, List.length_take, List.length_drop]; omega)
     | exact qw
     | (refine Exists.intro _ ⟨rfl, ?_⟩)
     | refine q7 ?_)
   ·simp only [if_neg h5]
    have hgx : qbd x := ⟨hee, hB, by omega⟩
    have hrc := fun st => qxo (encF x) st (by omega) hgx.good
    have hrl := qvn hgx.good
    have hre : recF (encF x) = recE x := rfl
    rw [hre] at hrc hrl
    by_cases h12 : (120000 : Int) < ((jp b).length : Int) + ((recE x).length : Int)
    ·rw [if_pos h12]
     apply qr []
     repeat' (first
      | apply And.intro
      | (intro h; first | (exfalso; omega) | (exfalso; exact h rfl) | (exfalso; revert h; decide) | skip)
      | exact ⟨Tryz.call27⟩
      | (refine Exists.intro _ ⟨ql (hbr) rfl, ?_⟩)
      | exact ⟨Tryz.call15⟩
      | (refine Exists.intro _ ⟨ql (hen) rfl, ?_⟩)
      | exact ⟨Tryz.call65⟩
      | (refine Exists.intro _ ⟨ql (hrc) rfl, ?_⟩)
      | exact ⟨Tryz.call28⟩
      | (refine Exists.intro _ ⟨ql (hwh) rfl, ?_⟩)
      | exact rfl
      | exact trivial
      | exact fun _ => rfl
      | exact qp _
      | apply qn []
      | exact DrOk.mk (by kernel_rfl)
      | exact qi fun _ => rfl
      | omega
      | (simp only [List.length_map, List.length_append, List.length_cons, List.length_nil, List.length_take, List.length_drop]; omega)
      | exact qw
      | (refine Exists.intro _ ⟨rfl, ?_⟩)
      | refine q7 ?_)
    ·rw [if_neg h12]
     apply qr []
     repeat' (first
      | apply And.intro
      | (intro h; first | (exfalso; omega) | (exfalso; exact h rfl) | (exfalso; revert h; decide) | skip)
      | exact ⟨Tryz.call27⟩
      | (refine Exists.intro _ ⟨ql (hbr) rfl, ?_⟩)
      | exact ⟨Tryz.call15⟩
      | (refine Exists.intro _ ⟨ql (hen) rfl, ?_⟩)
      | exact ⟨Tryz.call65⟩
      | (refine Exists.intro _ ⟨ql (hrc) rfl, ?_⟩)
      | exact ⟨Tryz.call28⟩
      | (refine Exists.intro _ ⟨ql (hwh) rfl, ?_⟩)
      | exact rfl
      | exact trivial
      | exact fun _ => rfl
      | exact qp _
      | apply qn []
      | exact DrOk.mk (by kernel_rfl)
      | exact qi fun _ => rfl
      | omega
      | (simp only [List.length_map, List.length_append, List.length_cons, List.length_nil, List.length_take, List.length_drop]; omega)
      | exact qw
      | (refine Exists.intro _ ⟨rfl, ?_⟩)
      | refine q7 ?_)
  | num n =>
   have hen := fun st => qgg x st _ hB (by omega) hee (fun h => by have := (qgm x).1 (by rw [hee]; exact h); rw [hee] at this; simp at this)
   apply qr []
   repeat' (first
    | apply And.intro
    | (intro h; first | (exfalso; omega) | (exfalso; exact h rfl) | (exfalso; revert h; decide) | skip)
    | exact ⟨Tryz.call27⟩
    | (refine Exists.intro _ ⟨ql (hbr) rfl, ?_⟩)
    | exact ⟨Tryz.call15⟩
    | (refine Exists.intro _ ⟨ql (hen) rfl, ?_⟩)
    | exact rfl
    | exact trivial
    | exact fun _ => rfl
    | exact qp _
    | apply qn []
    | exact DrOk.mk (by kernel_rfl)
    | exact qi fun _ => rfl
    | omega
    | (simp only [List.length_map, List.length_append, List.length_cons, List.length_nil, List.length_take, List.length_drop]; omega)
    | exact qw
    | (refine Exists.intro _ ⟨rfl, ?_⟩)
    | refine q7 ?_)
  | at' p n =>
   have hen := fun st => qgg x st _ hB (by omega) hee (fun h => by have := (qgm x).1 (by rw [hee]; exact h); rw [hee] at this; simp at this)
   apply qr []
   repeat' (first
    | apply And.intro
    | (intro h; first | (exfalso; omega) | (exfalso; exact h rfl) | (exfalso; revert h; decide) | skip)
    | exact ⟨Tryz.call27⟩
    | (refine Exists.intro _ ⟨ql (hbr) rfl, ?_⟩)
    | exact ⟨Tryz.call15⟩
    | (refine Exists.intro _ ⟨ql (hen) rfl, ?_⟩)
    | exact rfl
    | exact trivial
    | exact fun _ => rfl
    | exact qp _
    | apply qn []
    | exact DrOk.mk (by kernel_rfl)
    | exact qi fun _ => rfl
    | omega
    | (simp only [List.length_map, List.length_append, List.length_cons, List.length_nil, List.length_take, List.length_drop]; omega)
    | exact qw
    | (refine Exists.intro _ ⟨rfl, ?_⟩)
    | refine q7 ?_)
 | num n =>
  rw [hbe] at hbk
  rw [hbk] at hbr
  unfold qjl at hbr
  apply qr []
  repeat' (first
   | apply And.intro
   | (intro h; first | (exfalso; omega) | (exfalso; exact h rfl) | (exfalso; revert h; decide) | skip)
   | exact ⟨Tryz.call27⟩
   | (refine Exists.intro _ ⟨ql (hbr) rfl, ?_⟩)
   | exact rfl
   | exact trivial
   | exact fun _ => rfl
   | exact qp _
   | apply qn []
   | exact DrOk.mk (by kernel_rfl)
   | exact qi fun _ => rfl
   | omega
   | (simp only [List.length_map, List.length_append, List.length_cons, List.length_nil, List.length_take, List.length_drop]; omega)
   | exact qw
   | (refine Exists.intro _ ⟨rfl, ?_⟩)
   | refine q7 ?_)
 | at' p n =>
  rw [hbe] at hbk
  rw [hbk] at hbr
  unfold qjl at hbr
  apply qr []
  repeat' (first
   | apply And.intro
   | (intro h; first | (exfalso; omega) | (exfalso; exact h rfl) | (exfalso; revert h; decide) | skip)
   | exact ⟨Tryz.call27⟩
   | (refine Exists.intro _ ⟨ql (hbr) rfl, ?_⟩)
   | exact rfl
   | exact trivial
   | exact fun _ => rfl
   | exact qp _
   | apply qn []
   | exact DrOk.mk (by kernel_rfl)
   | exact qi fun _ => rfl
   | omega
   | (simp only [List.length_map, List.length_append, List.length_cons, List.length_nil, List.length_take, List.length_drop]; omega)
   | exact qw
   | (refine Exists.intro _ ⟨rfl, ?_⟩)
   | refine q7 ?_)
end Go.Proofs.YtefmcijohgpfhaaGreatDoor
set_option maxRecDepth 100000
set_option linter.unusedVariables false
namespace Go.Pl
open Go Go.Proofs Go.Proofs.YtefmcijohgpfhaaGreatDoor
theorem ex13 : w6 [65, 58, 32, 49, 10, 37, 97, 109] ⟨0, [65, 58, 32, 49, 10], [], [], [37, 97, 109]⟩ := by
 have h1 : wh [65, 58, 32, 49, 10, 37, 97, 109] = (0, [65, 58, 32, 49, 10, 37, 97, 109]) := by decide +kernel
 have h2 : (jr [65, 58, 32, 49, 10]).1 = none := by decide +kernel
 have h3 : (zo [37, 97, 109]).1 = 2 := by decide +kernel
 refine ⟨by decide +kernel, h1, ?_, nofun, h3, rfl, by simp⟩
 unfold qcl
 rw [if_neg (by simp), h2]
end Go.Pl
namespace Go.Proofs.YtefmcijohgpfhaaGreatDoor
open Go Go.Av Go.RowKit Go.Proofs Go.Pl
theorem qyr (st : List AObj) : qm E 24 [] st fun r st' => r = Bv true ∧ st' = st := by
 have hb := qk6 ex13
 have hrd := fun st => qh3 [65, 58, 32, 49, 10, 37, 97, 109] st (by simp)
 rw [hb] at hrd
 have hw := fun st => qga ⟨0, [65, 58, 32, 49, 10], [], [], [37, 97, 109]⟩ st (by simp) (by simp)
 have hs := fun st => q28 ⟨0, [65, 58, 32, 49, 10], [], [], [37, 97, 109]⟩ st (by simp) (by simp) (by simp) (by decide +kernel) (by decide +kernel)
 rw [show vm ⟨0, [65, 58, 32, 49, 10], [], [], [37, 97, 109]⟩ = 5 by decide +kernel] at hw hs
 refine wq [] (zd _) Tryz.func24 rfl rfl (fun _ => rfl) rfl fun S0 => ?_
 apply qr []
 repeat' (first
  | apply And.intro
  | (intro h; first | (exfalso; omega) | (exfalso; exact h rfl) | (exfalso; revert h; decide) | skip)
  | exact ⟨Tryz.call27⟩
  | (refine Exists.intro _ ⟨ql (hrd) rfl, ?_⟩)
  | exact ⟨Tryz.call34⟩
  | (refine Exists.intro _ ⟨ql (hs) rfl, ?_⟩)
  | exact ⟨Tryz.call28⟩
  | (refine Exists.intro _ ⟨ql (hw) rfl, ?_⟩)
  | exact rfl
  | exact trivial
  | exact fun _ => rfl
  | exact qp _
  | apply qn []
  | exact DrOk.mk (by kernel_rfl)
  | exact qi fun _ => rfl
  | omega
  | (simp only [List.length_map, List.length_append, List.length_cons, List.length_nil, List.length_take, List.length_drop]; omega)
  | exact qw
  | (refine Exists.intro _ ⟨rfl, ?_⟩)
  | refine q7 ?_)
end Go.Proofs.YtefmcijohgpfhaaGreatDoor
set_option maxRecDepth 100000
set_option linter.unusedVariables false
namespace Go.Proofs.YtefmcijohgpfhaaGreatDoor
open Go Go.Av Go.RowKit Go.Proofs Go.Pl
def qfd : List Fld → Int → Int → Bool
 | [], _, _ => false
 | f :: r, i, n => if 60 < i ∨ 6000 < n + (min (f.1.length : Int) 10000 + min (f.2.length : Int) 10000) then true else qfd r (i + 1) (n + (min (f.1.length : Int) 10000 + min (f.2.length : Int) 10000))
def qci : List qu → Int → Bool
 | [], _ => false
 | x :: r, i => if 50 < i then true else if qfd x.fields 0 0 = true then true else qci r (i + 1)
theorem qmz : ∀ (fs : List Fld) (i n : Int), 0 ≤ n → n ≤ 6000 → 0 ≤ i → qfd fs i n = false → fs.length ≤ (61 - i).toNat ∧ ∀ f ∈ fs, f.1.length ≤ 6000 ∧ f.2.length ≤ 6000
 | [], i, n, _, _, _, _ => by simp
 | f :: r, i, n, h0, h1, h2, h => by
  rw [qfd] at h
  split at h
  ·simp at h
  ·obtain ⟨g1, g2⟩ := qmz r _ _ (by omega) (by omega) (by omega) h
   simp only [List.length_cons]
   refine ⟨by omega, fun g hg => ?_⟩
   rcases List.mem_cons.1 hg with rfl | hg
   ·omega
   ·exact g2 g hg
theorem qld : ∀ (b : List qu) (i : Int), 0 ≤ i → qci b i = false → b.length ≤ (51 - i).toNat ∧ ∀ x ∈ b, q2w x.fields
 | [], _, _, _ => by simp
 | x :: r, i, h0, h => by
  rw [qci] at h
  split at h
  ·simp at h
  ·split at h
   ·simp at h
   ·rename_i hm
    obtain ⟨g1, g2⟩ := qld r _ (by omega) h
    simp only [List.length_cons]
    refine ⟨by omega, fun y hy => ?_⟩
    rcases List.mem_cons.1 hy with rfl | hy
    ·obtain ⟨k1, k2⟩ := qmz y.fields 0 0 (by omega) (by omega) (by omega) (by simpa using hm)
     exact ⟨by omega, fun f hf => by have := k2 f hf; omega⟩
    ·exact g2 y hy
theorem qq4 {b : List qu} (h : qci b 0 = false) : qzb b := by
 obtain ⟨h1, h2⟩ := qld b 0 (by omega) h
 exact ⟨by omega, h2⟩
theorem q4c (fs : List Fld) (st : List AObj) (hf : fs.length < 9223372036854775808) : qm E 51 [ju fs] st fun r st' => r = Bv (qfd fs 0 0) ∧ st' = st := by
 refine wq [.a (ju fs)] (zd _) Tryz.func51 rfl rfl (fun _ => rfl) rfl fun S0 => ?_
 have hm : (fs.map fldA).length = fs.length := by simp
 apply qr []
 repeat' (first
  | apply And.intro
  | (intro h; first | (exfalso; omega) | (exfalso; exact h rfl) | (exfalso; revert h; decide) | skip)
  | exact rfl
  | exact trivial
  | exact fun _ => rfl
  | exact qp _
  | apply qn []
  | exact DrOk.mk (by kernel_rfl)
  | exact qi fun _ => rfl
  | omega
  | (simp only [List.length_map, List.length_append, List.length_cons, List.length_nil, List.length_take, List.length_drop]; omega)
  | exact qw
  | (refine Exists.intro _ ⟨rfl, ?_⟩)
  | refine q7 ?_)
 refine qf8 (X := Nat × Int) (fun (k, n) => ⟨[(3, .i n), (6, .a (ju fs)), (7, .i fs.length), (8, .i k)], [], 0⟩) (fun (k, n) => k ≤ fs.length ∧ k ≤ 61 ∧ 0 ≤ n ∧ n ≤ 6000 ∧ qfd (fs.drop k) k n = qfd fs 0 0) (fun x => fs.length - x.1) (0, 0) ⟨by omega, by omega, by omega, by omega, rfl⟩ ?_ ?_
 ·skip
  repeat' (first
   | apply And.intro
   | (intro h; first | (exfalso; omega) | (exfalso; exact h rfl) | (exfalso; revert h; decide) | skip)
   | exact rfl
   | exact trivial
   | exact fun _ => rfl
   | exact qp _
   | apply qn []
   | exact DrOk.mk (by kernel_rfl)
   | exact qi fun _ => rfl
   | omega
   | (simp only [List.length_map, List.length_append, List.length_cons, List.length_nil, List.length_take, List.length_drop]; omega)
   | exact qw
   | (refine Exists.intro _ ⟨rfl, ?_⟩)
   | refine q7 ?_)
  all_goals first | (simp; done)
 ·rintro ⟨k, n⟩ ⟨hk, hk2, h0, h1, h⟩
  by_cases hc : k < fs.length
  ·obtain ⟨f, hx⟩ : ∃ f, fs[k]? = some f := ⟨_, List.getElem?_eq_getElem hc⟩
   have hg : (fs.map fldA)[k]? = some (fldA f) := by simp [hx]
   have hd : fs.drop k = f :: fs.drop (k + 1) := by
    obtain ⟨hlt, e⟩ := List.getElem?_eq_some_iff.1 hx
    rw [List.drop_eq_getElem_cons hlt, e]
   rw [hd, qfd] at h
   apply qr []
   repeat' (first
    | apply And.intro
    | (intro h; first | (exfalso; omega) | (exfalso; exact h rfl) | (exfalso; revert h; decide) | skip)
    | (refine Exists.intro (k) ⟨by omega, _, hg, ?_⟩)
    | (refine Exists.intro (k + 1, n + (min (f.1.length : Int) 10000 + min (f.2.length : Int) 10000)) ⟨⟨by omega, by omega, by omega, by omega, ?_⟩, by simp only; omega, ?_⟩)
    | exact rfl
    | exact trivial
    | exact fun _ => rfl
    | exact qp _
    | apply qn []
    | exact DrOk.mk (by kernel_rfl)
    | exact qi fun _ => rfl
    | omega
    | (simp only [List.length_map, List.length_append, List.length_cons, List.length_nil, List.length_take, List.length_drop]; omega)
    | exact qw
    | (refine Exists.intro _ ⟨rfl, ?_⟩)
    | refine q7 ?_)
   all_goals first | grind | (simp; done)
  ·have hd : fs.drop k = [] := List.drop_eq_nil_of_le (by omega)
   rw [hd, qfd] at h
   apply qr []
   repeat' (first
    | apply And.intro
    | (intro h; first | (exfalso; omega) | (exfalso; exact h rfl) | (exfalso; revert h; decide) | skip)
    | exact rfl
    | exact trivial
    | exact fun _ => rfl
    | exact qp _
    | apply qn []
    | exact DrOk.mk (by kernel_rfl)
    | exact qi fun _ => rfl
    | omega
    | (simp only [List.length_map, List.length_append, List.length_cons, List.length_nil, List.length_take, List.length_drop]; omega)
    | exact qw
    | (refine Exists.intro _ ⟨rfl, ?_⟩)
    | refine q7 ?_)
   all_goals first | grind | (simp [*]; done)
theorem q2a (b : List qu) (st : List AObj) (hb : b.length < 9223372036854775808) (hf : ∀ x ∈ b, x.fields.length < 9223372036854775808) : qm E 16 [ja b] st fun r st' => r = Bv (qci b 0) ∧ st' = st := by
 refine wq [.a (ja b)] (zd _) Tryz.func16 rfl rfl (fun _ => rfl) rfl fun S0 => ?_
 have hm : (b.map wi).length = b.length := by simp
 apply qr []
 repeat' (first
  | apply And.intro
  | (intro h; first | (exfalso; omega) | (exfalso; exact h rfl) | (exfalso; revert h; decide) | skip)
  | exact rfl
  | exact trivial
  | exact fun _ => rfl
  | exact qp _
  | apply qn []
  | exact DrOk.mk (by kernel_rfl)
  | exact qi fun _ => rfl
  | omega
  | (simp only [List.length_map, List.length_append, List.length_cons, List.length_nil, List.length_take, List.length_drop]; omega)
  | exact qw
  | (refine Exists.intro _ ⟨rfl, ?_⟩)
  | refine q7 ?_)
 refine qf8 (X := Nat) (fun k => ⟨[(5, .a (ja b)), (6, .i b.length), (7, .i k)], [], 0⟩) (fun k => k ≤ b.length ∧ k ≤ 51 ∧ qci (b.drop k) k = qci b 0) (fun x => b.length - x) 0 ⟨by omega, by omega, rfl⟩ ?_ ?_
 ·skip
  repeat' (first
   | apply And.intro
   | (intro h; first | (exfalso; omega) | (exfalso; exact h rfl) | (exfalso; revert h; decide) | skip)
   | exact rfl
   | exact trivial
   | exact fun _ => rfl
   | exact qp _
   | apply qn []
   | exact DrOk.mk (by kernel_rfl)
   | exact qi fun _ => rfl
   | omega
   | (simp only [List.length_map, List.length_append, List.length_cons, List.length_nil, List.length_take, List.length_drop]; omega)
   | exact qw
   | (refine Exists.intro _ ⟨rfl, ?_⟩)
   | refine q7 ?_)
  all_goals first | (simp; done)
 ·rintro k ⟨hk, hk2, h⟩
  by_cases hc : k < b.length
  ·obtain ⟨x, hx⟩ : ∃ x, b[k]? = some x := ⟨_, List.getElem?_eq_getElem hc⟩
   have hg : (b.map wi)[k]? = some (wi x) := by simp [hx]
   have hd : b.drop k = x :: b.drop (k + 1) := by
    obtain ⟨hlt, e⟩ := List.getElem?_eq_some_iff.1 hx
    rw [List.drop_eq_getElem_cons hlt, e]
   rw [hd, qci] at h
   have hmu := fun st => q4c x.fields st (hf x (List.mem_of_getElem? hx))
   apply qr []
   repeat' (first
    | apply And.intro
    | (intro h; first | (exfalso; omega) | (exfalso; exact h rfl) | (exfalso; revert h; decide) | skip)
    | exact ⟨Tryz.call51⟩
    | (refine Exists.intro _ ⟨ql (hmu) rfl, ?_⟩)
    | (refine Exists.intro (k) ⟨by omega, _, hg, ?_⟩)
    | (refine Exists.intro (k + 1) ⟨⟨by omega, by omega, ?_⟩, by omega, ?_⟩)
    | exact rfl
    | exact trivial
    | exact fun _ => rfl
    | exact qp _
    | apply qn []
    | exact DrOk.mk (by kernel_rfl)
    | exact qi fun _ => rfl
    | omega
    | (simp only [List.length_map, List.length_append, List.length_cons, List.length_nil, List.length_take, List.length_drop]; omega)
    | exact qw
    | (refine Exists.intro _ ⟨rfl, ?_⟩)
    | refine q7 ?_)
   all_goals first | grind | (simp; done)
  ·have hd : b.drop k = [] := List.drop_eq_nil_of_le (by omega)
   rw [hd, qci] at h
   apply qr []
   repeat' (first
    | apply And.intro
    | (intro h; first | (exfalso; omega) | (exfalso; exact h rfl) | (exfalso; revert h; decide) | skip)
    | exact rfl
    | exact trivial
    | exact fun _ => rfl
    | exact qp _
    | apply qn []
    | exact DrOk.mk (by kernel_rfl)
    | exact qi fun _ => rfl
    | omega
    | (simp only [List.length_map, List.length_append, List.length_cons, List.length_nil, List.length_take, List.length_drop]; omega)
    | exact qw
    | (refine Exists.intro _ ⟨rfl, ?_⟩)
    | refine q7 ?_)
   all_goals first | grind | (simp [*]; done)
end Go.Proofs.YtefmcijohgpfhaaGreatDoor
set_option maxRecDepth 100000
set_option linter.unusedVariables false
namespace Go.Proofs.YtefmcijohgpfhaaGreatDoor
open Go Go.Av Go.RowKit Go.Proofs Go.Pl
theorem q3t (cut : Int) (d : Int) (h1 : 0 < d) (h2 : d < 4611686018427387904) : ∃ m : Nat, (IntKind.wrap .u64 cut).tmod (IntKind.wrap .u64 d) = (m : Int) ∧ (m : Int) < d ∧ IntKind.wrap .u64 d ≠ 0 := by
 have e : IntKind.wrap .u64 d = d := by simp [IntKind.wrap, IntKind.bits, IntKind.signed]; omega
 have e2 : 0 ≤ IntKind.wrap .u64 cut := by simp [IntKind.wrap, IntKind.bits, IntKind.signed]; omega
 rw [e]
 have h3 := Int.tmod_lt_of_pos (IntKind.wrap .u64 cut) h1
 have h4 := Int.tmod_nonneg d e2
 exact ⟨_, (Int.toNat_of_nonneg h4).symm, by omega, by omega⟩
set_option maxHeartbeats 4000000 in
theorem qwm (text : qa) (x : List qu) (cut : Int) (st : List AObj) (hA : ArgE x) : qm E 8 [Sv text, ja x, Iv cut] st fun r st' => r = Bv true ∧ st' = st := by
 refine wq [.s text, .a (ja x), .i cut] (zd _) Tryz.func8 rfl rfl (fun _ => rfl) rfl fun S0 => ?_
 have hal := qyr
 have hhv := fun st => q2a x st hA.1 fun y hy => (hA.2 y hy).1
 by_cases h4 : 4000 < text.length
 ·apply qr []
  repeat' (first
   | apply And.intro
   | (intro h; first | (exfalso; omega) | (exfalso; exact h rfl) | (exfalso; revert h; decide) | skip)
   | exact ⟨Tryz.call24⟩
   | (refine Exists.intro _ ⟨ql (hal) rfl, ?_⟩)
   | exact rfl
   | exact trivial
   | exact fun _ => rfl
   | exact qp _
   | apply qn []
   | exact DrOk.mk (by kernel_rfl)
   | exact qi fun _ => rfl
   | omega
   | (simp only [List.length_map, List.length_append, List.length_cons, List.length_nil, List.length_take, List.length_drop]; omega)
   | exact qw
   | (refine Exists.intro _ ⟨rfl, ?_⟩)
   | refine q7 ?_)
 cases hh : qci x 0 with
 | true =>
  rw [hh] at hhv
  apply qr []
  repeat' (first
   | apply And.intro
   | (intro h; first | (exfalso; omega) | (exfalso; exact h rfl) | (exfalso; revert h; decide) | skip)
   | exact ⟨Tryz.call24⟩
   | (refine Exists.intro _ ⟨ql (hal) rfl, ?_⟩)
   | exact ⟨Tryz.call16⟩
   | (refine Exists.intro _ ⟨ql (hhv) rfl, ?_⟩)
   | exact rfl
   | exact trivial
   | exact fun _ => rfl
   | exact qp _
   | apply qn []
   | exact DrOk.mk (by kernel_rfl)
   | exact qi fun _ => rfl
   | omega
   | (simp only [List.length_map, List.length_append, List.length_cons, List.length_nil, List.length_take, List.length_drop]; omega)
   | exact qw
   | (refine Exists.intro _ ⟨rfl, ?_⟩)
   | refine q7 ?_)
 | false =>
 rw [hh] at hhv
 have hL := qq4 hh
 have hB := q3c hA hL
 have hx := hL.1
 have hfl : ∀ y ∈ x, y.fields.length < 1000000 := fun y hy => (hL.2 y hy).len
 have hrd := fun st => qh3 text st (by omega)
 have hap := fun st => q5n text x st (by omega) hB (by omega)
 have hbi := @qmg text
 have hai := @q3b text
 cases hbk : wz text with
 | mk e b =>
 cases hpk : Go.Pl.appF text x with
 | mk f s =>
 rw [hbk] at hrd hbi
 rw [hpk] at hap
 have hai := fun h => hai (s := s) hB (hpk.trans h)
 cases e with
 | num n =>
  cases f with
  | num n2 =>
   apply qr []
   repeat' (first
    | apply And.intro
    | (intro h; first | (exfalso; omega) | (exfalso; exact h rfl) | (exfalso; revert h; decide) | skip)
    | exact ⟨Tryz.call24⟩
    | (refine Exists.intro _ ⟨ql (hal) rfl, ?_⟩)
    | exact ⟨Tryz.call16⟩
    | (refine Exists.intro _ ⟨ql (hhv) rfl, ?_⟩)
    | exact ⟨Tryz.call27⟩
    | (refine Exists.intro _ ⟨ql (hrd) rfl, ?_⟩)
    | exact ⟨Tryz.call30⟩
    | (refine Exists.intro _ ⟨ql (hap) rfl, ?_⟩)
    | exact rfl
    | exact trivial
    | exact fun _ => rfl
    | exact qp _
    | apply qn []
    | exact DrOk.mk (by kernel_rfl)
    | exact qi fun _ => rfl
    | omega
    | (simp only [List.length_map, List.length_append, List.length_cons, List.length_nil, List.length_take, List.length_drop]; omega)
    | exact qw
    | (refine Exists.intro _ ⟨rfl, ?_⟩)
    | refine q7 ?_)
  | at' p2 n2 =>
   apply qr []
   repeat' (first
    | apply And.intro
    | (intro h; first | (exfalso; omega) | (exfalso; exact h rfl) | (exfalso; revert h; decide) | skip)
    | exact ⟨Tryz.call24⟩
    | (refine Exists.intro _ ⟨ql (hal) rfl, ?_⟩)
    | exact ⟨Tryz.call16⟩
    | (refine Exists.intro _ ⟨ql (hhv) rfl, ?_⟩)
    | exact ⟨Tryz.call27⟩
    | (refine Exists.intro _ ⟨ql (hrd) rfl, ?_⟩)
    | exact ⟨Tryz.call30⟩
    | (refine Exists.intro _ ⟨ql (hap) rfl, ?_⟩)
    | exact rfl
    | exact trivial
    | exact fun _ => rfl
    | exact qp _
    | apply qn []
    | exact DrOk.mk (by kernel_rfl)
    | exact qi fun _ => rfl
    | omega
    | (simp only [List.length_map, List.length_append, List.length_cons, List.length_nil, List.length_take, List.length_drop]; omega)
    | exact qw
    | (refine Exists.intro _ ⟨rfl, ?_⟩)
    | refine q7 ?_)
  | no =>
   apply qr []
   repeat' (first
    | apply And.intro
    | (intro h; first | (exfalso; omega) | (exfalso; exact h rfl) | (exfalso; revert h; decide) | skip)
    | exact ⟨Tryz.call24⟩
    | (refine Exists.intro _ ⟨ql (hal) rfl, ?_⟩)
    | exact ⟨Tryz.call16⟩
    | (refine Exists.intro _ ⟨ql (hhv) rfl, ?_⟩)
    | exact ⟨Tryz.call27⟩
    | (refine Exists.intro _ ⟨ql (hrd) rfl, ?_⟩)
    | exact ⟨Tryz.call30⟩
    | (refine Exists.intro _ ⟨ql (hap) rfl, ?_⟩)
    | exact rfl
    | exact trivial
    | exact fun _ => rfl
    | exact qp _
    | apply qn []
    | exact DrOk.mk (by kernel_rfl)
    | exact qi fun _ => rfl
    | omega
    | (simp only [List.length_map, List.length_append, List.length_cons, List.length_nil, List.length_take, List.length_drop]; omega)
    | exact qw
    | (refine Exists.intro _ ⟨rfl, ?_⟩)
    | refine q7 ?_)
 | at' p n =>
  cases f with
  | num n2 =>
   apply qr []
   repeat' (first
    | apply And.intro
    | (intro h; first | (exfalso; omega) | (exfalso; exact h rfl) | (exfalso; revert h; decide) | skip)
    | exact ⟨Tryz.call24⟩
    | (refine Exists.intro _ ⟨ql (hal) rfl, ?_⟩)
    | exact ⟨Tryz.call16⟩
    | (refine Exists.intro _ ⟨ql (hhv) rfl, ?_⟩)
    | exact ⟨Tryz.call27⟩
    | (refine Exists.intro _ ⟨ql (hrd) rfl, ?_⟩)
    | exact ⟨Tryz.call30⟩
    | (refine Exists.intro _ ⟨ql (hap) rfl, ?_⟩)
    | exact rfl
    | exact trivial
    | exact fun _ => rfl
    | exact qp _
    | apply qn []
    | exact DrOk.mk (by kernel_rfl)
    | exact qi fun _ => rfl
    | omega
    | (simp only [List.length_map, List.length_append, List.length_cons, List.length_nil, List.length_take, List.length_drop]; omega)
    | exact qw
    | (refine Exists.intro _ ⟨rfl, ?_⟩)
    | refine q7 ?_)
  | at' p2 n2 =>
   apply qr []
   repeat' (first
    | apply And.intro
    | (intro h; first | (exfalso; omega) | (exfalso; exact h rfl) | (exfalso; revert h; decide) | skip)
    | exact ⟨Tryz.call24⟩
    | (refine Exists.intro _ ⟨ql (hal) rfl, ?_⟩)
    | exact ⟨Tryz.call16⟩
    | (refine Exists.intro _ ⟨ql (hhv) rfl, ?_⟩)
    | exact ⟨Tryz.call27⟩
    | (refine Exists.intro _ ⟨ql (hrd) rfl, ?_⟩)
    | exact ⟨Tryz.call30⟩
    | (refine Exists.intro _ ⟨ql (hap) rfl, ?_⟩)
    | exact rfl
    | exact trivial
    | exact fun _ => rfl
    | exact qp _
    | apply qn []
    | exact DrOk.mk (by kernel_rfl)
    | exact qi fun _ => rfl
    | omega
    | (simp only [List.length_map, List.length_append, List.length_cons, List.length_nil, List.length_take, List.length_drop]; omega)
    | exact qw
    | (refine Exists.intro _ ⟨rfl, ?_⟩)
    | refine q7 ?_)
  | no =>
   apply qr []
   repeat' (first
    | apply And.intro
    | (intro h; first | (exfalso; omega) | (exfalso; exact h rfl) | (exfalso; revert h; decide) | skip)
    | exact ⟨Tryz.call24⟩
    | (refine Exists.intro _ ⟨ql (hal) rfl, ?_⟩)
    | exact ⟨Tryz.call16⟩
    | (refine Exists.intro _ ⟨ql (hhv) rfl, ?_⟩)
    | exact ⟨Tryz.call27⟩
    | (refine Exists.intro _ ⟨ql (hrd) rfl, ?_⟩)
    | exact ⟨Tryz.call30⟩
    | (refine Exists.intro _ ⟨ql (hap) rfl, ?_⟩)
    | exact rfl
    | exact trivial
    | exact fun _ => rfl
    | exact qp _
    | apply qn []
    | exact DrOk.mk (by kernel_rfl)
    | exact qi fun _ => rfl
    | omega
    | (simp only [List.length_map, List.length_append, List.length_cons, List.length_nil, List.length_take, List.length_drop]; omega)
    | exact qw
    | (refine Exists.intro _ ⟨rfl, ?_⟩)
    | refine q7 ?_)
 | no =>
 cases f with
 | num n =>
  apply qr []
  repeat' (first
   | apply And.intro
   | (intro h; first | (exfalso; omega) | (exfalso; exact h rfl) | (exfalso; revert h; decide) | skip)
   | exact ⟨Tryz.call24⟩
   | (refine Exists.intro _ ⟨ql (hal) rfl, ?_⟩)
   | exact ⟨Tryz.call16⟩
   | (refine Exists.intro _ ⟨ql (hhv) rfl, ?_⟩)
   | exact ⟨Tryz.call27⟩
   | (refine Exists.intro _ ⟨ql (hrd) rfl, ?_⟩)
   | exact ⟨Tryz.call30⟩
   | (refine Exists.intro _ ⟨ql (hap) rfl, ?_⟩)
   | exact rfl
   | exact trivial
   | exact fun _ => rfl
   | exact qp _
   | apply qn []
   | exact DrOk.mk (by kernel_rfl)
   | exact qi fun _ => rfl
   | omega
   | (simp only [List.length_map, List.length_append, List.length_cons, List.length_nil, List.length_take, List.length_drop]; omega)
   | exact qw
   | (refine Exists.intro _ ⟨rfl, ?_⟩)
   | refine q7 ?_)
 | at' p n =>
  apply qr []
  repeat' (first
   | apply And.intro
   | (intro h; first | (exfalso; omega) | (exfalso; exact h rfl) | (exfalso; revert h; decide) | skip)
   | exact ⟨Tryz.call24⟩
   | (refine Exists.intro _ ⟨ql (hal) rfl, ?_⟩)
   | exact ⟨Tryz.call16⟩
   | (refine Exists.intro _ ⟨ql (hhv) rfl, ?_⟩)
   | exact ⟨Tryz.call27⟩
   | (refine Exists.intro _ ⟨ql (hrd) rfl, ?_⟩)
   | exact ⟨Tryz.call30⟩
   | (refine Exists.intro _ ⟨ql (hap) rfl, ?_⟩)
   | exact rfl
   | exact trivial
   | exact fun _ => rfl
   | exact qp _
   | apply qn []
   | exact DrOk.mk (by kernel_rfl)
   | exact qi fun _ => rfl
   | omega
   | (simp only [List.length_map, List.length_append, List.length_cons, List.length_nil, List.length_take, List.length_drop]; omega)
   | exact qw
   | (refine Exists.intro _ ⟨rfl, ?_⟩)
   | refine q7 ?_)
 | no =>
 dsimp only at hrd hap
 have hT := hbi rfl
 obtain ⟨b', hT', hG, hs, hs2⟩ := hai rfl
 obtain rfl : b = b' := by
  have e := qk6 hT'
  rw [hbk] at e
  simpa using e
 have hS := qg9 hT
 have hw0 := hS.whole
 have hwl := hS.wlen
 have hpos := qif x
 have hsl : s.length = (jp b).length + (recE x).length := by rw [hs]; simp
 obtain ⟨m, hm, hmd, hne⟩ := q3t cut ((s.length : Int) - (jp b).length) (by omega) (by omega)
 have htk : s.take ((jp b).length + m) = jp b ++ (recE x).take m := by rw [hs, List.take_append]; simp; exact List.take_of_length_le (by omega)
 have hc0 := hT.tailed (t := (recE x).take m) (by rw [show zo ((recE x).take m) = (2, [], 0) from q1g hG.good (List.take_prefix _ _) (by simp [recE] at *; omega)]) (by rw [← htk]; simp; omega)
 have hd0 := hT.more hG (by rw [← hs]; omega)
 rw [← htk] at hc0
 rw [← hs] at hd0
 have hW := fun st => qga b st hS.base hS.ends
 rw [hw0] at hW
 have hrc := fun st => qh3 (s.take ((jp b).length + m)) st (by simp; omega)
 have hrD := fun st => qh3 s st (by omega)
 rw [qk6 hc0] at hrc
 rw [qk6 hd0] at hrD
 have hdS := qg9 hd0
 have hWd := fun st => qga _ st hdS.base hdS.ends
 have hws : vm { b with batches := b.batches ++ [x], ends := b.ends ++ [vm b + (recE x).length], tail := [] } = s.length := by
  have := hdS.size
  simp only [List.length_nil] at this
  omega
 rw [hws] at hWd
 replace hrd : ∀ st, qm E 27 [Sv text] st fun r st' => r = .tu [qi6 b, errA .no] ∧ st' = st := hrd
 replace hrc : ∀ st, qm E 27 [Sv (s.take ((jp b).length + m))] st fun r st' => r = .tu [.ag [Iv b.gen, Sv b.base, qbp b.batches, qid b.ends, Sv ((recE x).take m)], errA .no] ∧ st' = st := hrc
 replace hrD : ∀ st, qm E 27 [Sv s] st fun r st' => r = .tu [.ag [Iv b.gen, Sv b.base, qbp (b.batches ++ [x]), qid (b.ends ++ [vm b + (recE x).length]), Sv []], errA .no] ∧ st' = st := hrD
 have htl : (recE x).take m = (s.take ((jp b).length + m)).drop (jp b).length := by rw [htk]; simp
 have hml : ((b.batches ++ [x]).map ja).length = (b.batches.map ja).length + 1 := by simp
 have hbl : b.batches.length < 1000000 := by
  have h1 := qj2 b.batches
  have : (jp b).length = (kz b.gen).length + (b.base.length + (kq b.batches).length) := by simp [jp]
  omega
 apply qr []
 repeat' (first
  | apply And.intro
  | (intro h; first | (exfalso; omega) | (exfalso; exact h rfl) | (exfalso; revert h; decide) | skip)
  | exact ⟨Tryz.call24⟩
  | (refine Exists.intro _ ⟨ql (hal) rfl, ?_⟩)
  | exact ⟨Tryz.call16⟩
  | (refine Exists.intro _ ⟨ql (hhv) rfl, ?_⟩)
  | exact ⟨Tryz.call27⟩
  | (refine Exists.intro _ ⟨ql (hrd) rfl, ?_⟩)
  | exact ⟨Tryz.call30⟩
  | (refine Exists.intro _ ⟨ql (hap) rfl, ?_⟩)
  | exact ⟨Tryz.call28⟩
  | (refine Exists.intro _ ⟨ql (hW) rfl, ?_⟩)
  | exact ⟨Tryz.call27⟩
  | (refine Exists.intro _ ⟨ql (hrc) rfl, ?_⟩)
  | exact ⟨Tryz.call27⟩
  | (refine Exists.intro _ ⟨ql (hrD) rfl, ?_⟩)
  | exact ⟨Tryz.call28⟩
  | (refine Exists.intro _ ⟨ql (hWd) rfl, ?_⟩)
  | (refine Exists.intro ((jp b).length + m) ⟨by omega, ?_⟩)
  | exact rfl
  | exact trivial
  | exact fun _ => rfl
  | exact qp _
  | apply qn []
  | exact DrOk.mk (by kernel_rfl)
  | exact qi fun _ => rfl
  | omega
  | (simp only [List.length_map, List.length_append, List.length_cons, List.length_nil, List.length_take, List.length_drop]; omega)
  | exact qw
  | (refine Exists.intro _ ⟨rfl, ?_⟩)
  | refine q7 ?_)
 ·exact absurd htl (by assumption)
 have hEx := fun (y : List qu) (hy : qbd y) st => by
  have h := hy.ok
  exact q14 y y st (by have := (qky h).2.1; omega) (fun z hz => (hy.B z hz).len)
 have hEd : ∀ (k : Nat) (hk : k < b.batches.length) st, qm E 14 [ja b.batches[k], ja b.batches[k]] st fun r st' => r = Bv true ∧ st' = st := fun k hk st => by
  have := hEx b.batches[k] (hT.good _ (List.getElem_mem hk)) st
  rwa [qo9 rfl] at this
 have hEl : ∀ st, qm E 14 [ja x, ja x] st fun r st' => r = Bv true ∧ st' = st := fun st => by
  have := hEx x hG st
  rwa [qo9 rfl] at this
 have hmb : (b.batches.map ja).length = b.batches.length := by simp
 refine qf8 (X := Nat) (fun k => ⟨[(1, .a (ja x)), (7, .bx 0 0), (12, .bx 1 0), (13, .bx 2 0), (142, .a (qbp b.batches)), (143, .i b.batches.length), (144, .i k)],
  [(0, some (.cells 53 [.i b.gen, .s b.base, .a (qbp b.batches), .a (qid b.ends), .s b.tail])), (1, some (.cells 53 [.i b.gen, .s b.base, .a (qbp b.batches), .a (qid b.ends), .s ((recE x).take m)])), (2, some (.cells 53 [.i b.gen, .s b.base, .a (qbp (b.batches ++ [x])), .a (qid (b.ends ++ [vm b + (recE x).length])), .s []]))], 3⟩) (fun k => k ≤ b.batches.length) (fun k => b.batches.length - k) 0 (by omega) ?_ ?_
 ·skip
  repeat' (first
   | apply And.intro
   | (intro h; first | (exfalso; omega) | (exfalso; exact h rfl) | (exfalso; revert h; decide) | skip)
   | exact rfl
   | exact trivial
   | exact fun _ => rfl
   | exact qp _
   | apply qn []
   | exact DrOk.mk (by kernel_rfl)
   | exact qi fun _ => rfl
   | omega
   | (simp only [List.length_map, List.length_append, List.length_cons, List.length_nil, List.length_take, List.length_drop]; omega)
   | exact qw
   | (refine Exists.intro _ ⟨rfl, ?_⟩)
   | refine q7 ?_)
  all_goals first | (simp; done)
 ·intro k hk
  by_cases hc : k < b.batches.length
  ·have g1 : (b.batches.map ja)[k]? = some (ja b.batches[k]) := by simp [hc]
   have g2 : ((b.batches ++ [x]).map ja)[k]? = some (ja b.batches[k]) := by rw [List.getElem?_map, List.getElem?_append_left hc, List.getElem?_eq_getElem hc]; rfl
   have hE := hEd k hc
   apply qr []
   repeat' (first
    | apply And.intro
    | (intro h; first | (exfalso; omega) | (exfalso; exact h rfl) | (exfalso; revert h; decide) | skip)
    | (refine Exists.intro (k) ⟨by omega, _, g1, ?_⟩)
    | (refine Exists.intro (k) ⟨by omega, _, g2, ?_⟩)
    | exact ⟨Tryz.call14⟩
    | (refine Exists.intro _ ⟨ql (hE) rfl, ?_⟩)
    | (refine Exists.intro (k + 1) ⟨by omega, by omega, ?_⟩)
    | exact rfl
    | exact trivial
    | exact fun _ => rfl
    | exact qp _
    | apply qn []
    | exact DrOk.mk (by kernel_rfl)
    | exact qi fun _ => rfl
    | omega
    | (simp only [List.length_map, List.length_append, List.length_cons, List.length_nil, List.length_take, List.length_drop]; omega)
    | exact qw
    | (refine Exists.intro _ ⟨rfl, ?_⟩)
    | refine q7 ?_)
  ·have g3 : ((b.batches ++ [x]).map ja)[b.batches.length]? = some (ja x) := by simp
   apply qr []
   repeat' (first
    | apply And.intro
    | (intro h; first | (exfalso; omega) | (exfalso; exact h rfl) | (exfalso; revert h; decide) | skip)
    | (refine Exists.intro (b.batches.length) ⟨by omega, _, g3, ?_⟩)
    | exact ⟨Tryz.call14⟩
    | (refine Exists.intro _ ⟨ql (hEl) rfl, ?_⟩)
    | exact rfl
    | exact trivial
    | exact fun _ => rfl
    | exact qp _
    | apply qn []
    | exact DrOk.mk (by kernel_rfl)
    | exact qi fun _ => rfl
    | omega
    | (simp only [List.length_map, List.length_append, List.length_cons, List.length_nil, List.length_take, List.length_drop]; omega)
    | exact qw
    | (refine Exists.intro _ ⟨rfl, ?_⟩)
    | refine q7 ?_)
theorem qwu (text : qa) (x : List qu) (hA : ArgE x) (cut : Int) (hc : -9223372036854775808 ≤ cut ∧ cut ≤ 9223372036854775807) (st : List AObj) : qm E 8 [Sv text, ja x, Iv cut] st fun r st' => r = Bv true ∧ st' = st := qwm text x cut st hA
end Go.Proofs.YtefmcijohgpfhaaGreatDoor
