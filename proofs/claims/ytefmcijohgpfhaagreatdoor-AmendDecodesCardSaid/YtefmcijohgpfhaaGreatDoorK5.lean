/- Contracts and plain facts that the closing text leans on (part 5). No condition of their own beyond those that each states. -/
import Derived.Test.YtefmcijohgpfhaaGreatDoorK4
import Derived.LaidEql
import Derived.Stop.Asserts
import Derived.RowKitTokens
set_option maxRecDepth 100000
set_option linter.unusedVariables false
set_option linter.unusedSimpArgs false
set_option maxRecDepth 100000
set_option linter.unusedVariables false
namespace Go.Pl
open Go Go.Proofs
def wj (p : PSt) (no : Int) (text : qk) : PSt := { p with lines := [text], frm := no, full := decide (p.fields.length = 40 ∨ (p.fields.length = 0 ∧ p.records = 400)) }
def vb (p : PSt) (no : Int) (text : qk) (ended : Bool) (kind : Int) : Option (Int × Int) × PSt :=
 if kind = 3 then
  if p.lines = [] then (some (no, 2), p)
  else if ended = true then (none, { p with lines := p.lines ++ [text] })
  else vn { p with lines := p.lines ++ [text] }
 else if kind = 1 then endP p
 else vn p
end Go.Pl
namespace Go.Proofs.YtefmcijohgpfhaaGreatDoor
open Go Go.Av Go.RowKit Go.Proofs Go.Pl
@[reducible] def lnO (no at' : Int) (text : qk) (ended : Bool) : AV := .ag [Iv no, Iv at', Sv text, Bv ended]
theorem qoh {rd : Option Nat} {N : Nat} {ops : Array Oper} {K : AS → Prop} {s : AS} {l : List Oper} (i : Nat) {sz len cap k : Nat} {T' : TypeId} {cs xs : List AV} {st loc : List AObj} (hs : s.st = st ++ loc) (hi : s.t i = .os (st.length + k) 0 0 len cap) (ho : loc[k]? = some (.cells 0 T' cs)) (hc : cs.length = cap * sz) (hlen : xs.length = len) (h0 : 0 < len) (hle : len ≤ cap) (hcm : cap ≤ maxLen) (hw : ∀ x ∈ xs, x.cells.length = sz) (hfl : flat xs = cs.take (len * sz))
  (h : AOps E rd N ops l K ⟨Av.put s.t i (.sl sz xs (some (st.length + k))), st ++ loc.set k (.tip len sz T'), s.df⟩) : AOps E rd N ops l K s :=
 qri i hi (by rw [hs]; exact zw ho) hc hlen h0 hle hcm hw hfl (by rw [hs, wu]; exact h)
theorem qsh {b o t : Nat} {p : PSt} {st : List AObj} {c1 c2 c3 c4 : AV} {text : qk} {no : Int} {full : Bool} (P : ParS b o p st c1 c2 c3 c4) (g1 : st[t]? = some (.tip 1 1 9)) (g2 : b ≤ t) (g3 : ∀ ys, c3 ≠ .sl 1 ys (some t)) :
  Par b o { p with lines := [text], frm := no, full := full } (st.set o (parO (.sl 1 [Sv text] (some t)) c2 c3 c4 { p with lines := [text], frm := no, full := full })) := by
 have hlt := P.lt
 have hle := P.le
 refine ⟨.sl 1 [Sv text] (some t), c2, c3, c4, hlt, by simp; omega, ?_, kv hlt (qed (xs := [Sv text]) hlt g1 g2), kv hlt P.h2, kv hlt P.h3, kv hlt P.h4, fun t' xs ys h1 h2 => ?_⟩
 ·have : o < st.length := by omega
  simp [this]
 ·simp only [AV.sl.injEq, Option.some.injEq, true_and] at h1
  rw [← h1.2] at h2
  exact g3 _ h2
theorem qq0 {b o t : Nat} {p q : PSt} {st : List AObj} {c1 c2 c3 c4 : AV} {text : qk} {no : Int} {full : Bool} (P : ParS b o p st c1 c2 c3 c4) (g1 : st[t]? = some (.tip 1 1 9)) (g2 : b ≤ t) (g3 : ∀ ys, c3 ≠ .sl 1 ys (some t)) (hq : q = ⟨[text], no, full, p.items, p.block, p.fields, p.records⟩) :
  Par b o q (st.set o (.cells 0 148 [.sl 1 [Sv text] (some t), Iv no, Bv full, c2, c3, c4, Iv p.records])) := by
 subst hq
 exact qsh P g1 g2 g3
theorem qh3 {b : Nat} {st : List AObj} {sz : Nat} {T : TypeId} {xs ys : List AV} {c : AV} {t : Nat} (h : TipC b st sz T xs c) (hc : c = .sl sz ys (some t)) : t < st.length := by
 rcases h with ⟨_, h⟩ | ⟨t', h1, h2, _⟩
 ·rw [h] at hc; simp at hc
 ·rw [hc] at h1
  simp only [AV.sl.injEq, Option.some.injEq, true_and] at h1
  rw [h1.2]
  exact lt_of_getElem? h2
theorem qg6 {b o t : Nat} {p : PSt} {text : qk} {st st' : List AObj} {c1 c2 c3 c4 : AV} (P : ParS b o p st c1 c2 c3 c4) (g1 : st'[t]? = some (.tip (p.lines.map (fun x => Sv x) ++ [Sv text]).length 1 9)) (g2 : b ≤ t) (g3 : Fr st st' t) (g4 : c1 = .sl 1 (p.lines.map fun x => Sv x) (some t) ∨ st.length ≤ t) :
  Par b o { p with lines := p.lines ++ [text] } (st'.set o (parO (.sl 1 (p.lines.map (fun x => Sv x) ++ [Sv text]) (some t)) c2 c3 c4 p)) := by
 have hlt := P.lt
 have hle := P.le
 have hl := g3.len
 have e : (p.lines ++ [text]).map (fun x => Sv x) = p.lines.map (fun x => Sv x) ++ [Sv text] := by simp
 have hne : ∀ t' ys, c3 = .sl 1 ys (some t') → t' ≠ t := fun t' ys h1 e => by
  subst e
  rcases g4 with g4 | g4
  ·exact P.ne _ _ _ g4 h1
  ·have := qh3 P.h3 h1
   omega
 refine ⟨.sl 1 (p.lines.map (fun x => Sv x) ++ [Sv text]) (some t), c2, c3, c4, hlt, by simp; omega, ?_, ?_, ?_, ?_, ?_, ?_⟩
 ·have : o < st'.length := by omega
  simp [this]
 ·refine kv hlt ?_
  rw [← e] at g1 ⊢
  exact qed hlt g1 g2
 ·exact kv hlt (x3 g3 P.h1 g4 rfl P.h2)
 ·exact kv hlt (qkr g3 (fun t' h => hne t' _ h) P.h3)
 ·exact kv hlt (x3 g3 P.h1 g4 rfl P.h4)
 ·intro t' xs ys h1 h2
  simp only [AV.sl.injEq, Option.some.injEq, true_and] at h1
  exact hne t' _ h2 h1.2.symm
theorem qby {b o t : Nat} {p : PSt} {text : qk} {st st' : List AObj} {c1 c2 c3 c4 : AV} (P : ParS b o p st c1 c2 c3 c4) (g1 : st'[t]? = some (.tip (p.block.map (fun x => Sv x) ++ [Sv text]).length 1 9)) (g2 : b ≤ t) (g3 : Fr st st' t) (g4 : c3 = .sl 1 (p.block.map fun x => Sv x) (some t) ∨ st.length ≤ t) :
  Par b o { p with block := p.block ++ [text] } (st'.set o (parO c1 c2 (.sl 1 (p.block.map (fun x => Sv x) ++ [Sv text]) (some t)) c4 p)) := by
 have hlt := P.lt
 have hle := P.le
 have hl := g3.len
 have e : (p.block ++ [text]).map (fun x => Sv x) = p.block.map (fun x => Sv x) ++ [Sv text] := by simp
 have hne : ∀ t' ys, c1 = .sl 1 ys (some t') → t' ≠ t := fun t' ys h1 e => by
  subst e
  rcases g4 with g4 | g4
  ·exact P.ne _ _ _ h1 g4
  ·have := qh3 P.h1 h1
   omega
 refine ⟨c1, c2, .sl 1 (p.block.map (fun x => Sv x) ++ [Sv text]) (some t), c4, hlt, by simp; omega, ?_, ?_, ?_, ?_, ?_, ?_⟩
 ·have : o < st'.length := by omega
  simp [this]
 ·exact kv hlt (qkr g3 (fun t' h => hne t' _ h) P.h1)
 ·exact kv hlt (x3 g3 P.h3 g4 rfl P.h2)
 ·refine kv hlt ?_
  rw [← e] at g1 ⊢
  exact qed hlt g1 g2
 ·exact kv hlt (x3 g3 P.h3 g4 rfl P.h4)
 ·intro t' xs ys h1 h2
  simp only [AV.sl.injEq, Option.some.injEq, true_and] at h2
  exact hne t' _ h1 h2.2.symm
set_option maxHeartbeats 4000000 in
theorem qtx (b o : Nat) (p : PSt) (st : List AObj) (no at' : Int) (text : qk) (ended : Bool) (h : Par b o p st) : zr E 135 [.bx o 0 0, lnO no at' text ended] st fun r st' => r = .tu [] ∧ Par b o (wj p no text) st' ∧ Keep b o st st' := by
 obtain ⟨c1, c2, c3, c4, P⟩ := h
 obtain ⟨ls, fr, fu, its, bk, fs, rc⟩ := p
 have hob : st[o]? = some (.cells 0 148 [c1, Iv fr, Bv fu, c2, c3, c4, Iv rc]) := P.ob
 have hl4 : lenA c4 = some (fs.map fldA).length := qeh P.h4
 have hml : (fs.map fldA).length = fs.length := by simp
 have hle := P.le
 have hlt := P.lt
 refine zp Tryz.func135 rfl (Nat.le_of_ble_eq_true rfl) ?_
 repeat' (first
  | (apply xd; (iterate 6 exact rfl); refine qoh 29 (k := 1) (sz := 1) (len := 1) (cap := 1) (xs := [Sv text]) (T' := 9) rfl rfl rfl rfl rfl (by omega) (Nat.le_refl _) (by decide) (by simp [AV.cells]) rfl ?_)
  | apply qr
  | apply qe
  | apply qa
  | apply qn
  | apply qf
  | (apply qt; (iterate 3 exact rfl))
  | (apply zh; (iterate 4 exact rfl))
  | (apply xc; (first | assumption | omega))
  | (apply ko; (first | assumption | omega))
  | (apply vo; (first | assumption | omega))
  | (apply yz; (first | assumption | omega))
  | (apply wt; (iterate 4 exact rfl))
  | (apply wc <;> intro h)
  | (apply zk; exact rfl; first | (apply jx; (first | assumption | omega)) | (apply jw; (first | assumption | omega)) | (apply jy; (first | exact rfl | assumption)) | (apply jv; (first | exact rfl | assumption)) | (apply pk_t; (first | exact rfl | assumption)) | (apply pk_f; (first | exact rfl | assumption)))
  | (apply ky; (iterate 4 exact rfl))
  | (apply za; (iterate 3 exact rfl))
  | (apply qx; (iterate 5 exact rfl))
  | (apply j6; (iterate 3 exact rfl))
  | (apply ki; exact rfl; exact rfl)
  | (apply qb; exact rfl; exact z6 hob; exact rfl; exact rfl)
  | (apply zo; exact rfl; exact hl4; exact rfl; exact rfl)
  | (apply qm; exact rfl; exact rfl; exact z6 hob; (iterate 6 exact rfl)))
 all_goals
  have g3 : ∀ ys, c3 ≠ .sl 1 ys (some (st.length + 1)) := fun ys e => by
   have := qh3 P.h3 e
   omega
 all_goals refine qs rfl (y0 rfl) ⟨rfl, qq0 (text := text) (no := no) (t := st.length + 1) P.pre (zw rfl) (by omega) g3 ?_, (wy hle).trans jc⟩
 all_goals unfold wj
 ·have h1 : fs.length = 40 := by omega
  simp [h1]
 ·have h1 : fs.length = 0 := by omega
  simp [h1]
 ·have h1 : ¬ fs.length = 40 := by omega
  have h2 : ¬ fs.length = 0 := by omega
  simp [h1, h2]
set_option maxHeartbeats 4000000 in
theorem quq (b o n : Nat) (p : PSt) (st : List AObj) (no at' : Int) (text : qk) (ended : Bool) (kind : Int) (h : Par b o p st) (hB : PB n p) (hs : n + 2 < 900000) (ht : text.length < 1000000) : zr E 133 [.bx o 0 0, lnO no at' text ended, Iv kind] st fun r st' => r = errP (vb p no text ended kind).1 ∧ ((vb p no text ended kind).1 = none → Par b o (vb p no text ended kind).2 st') ∧ Keep b o st st' := by
  obtain ⟨c1, c2, c3, c4, P⟩ := h
  have hle := P.le
  have hlt := P.lt
  refine zp Tryz.func133 rfl (Nat.le_of_ble_eq_true rfl) ?_
  by_cases hk3 : kind = 3
  · obtain ⟨ls, fr, fu, its, bk, fs, rc⟩ := p
    have hob : st[o]? = some (.cells 0 148 [c1, Iv fr, Bv fu, c2, c3, c4, Iv rc]) := P.ob
    have hl1 : lenA c1 = some (ls.map fun x => Sv x).length := qeh P.h1
    have hml : (ls.map fun x => Sv x).length = ls.length := by simp
    have hlsn : ls.length ≤ n := hB.lines
    by_cases h0 : ls = []
    · have hz : (ls.map fun x => Sv x).length = 0 := by rw [h0]; rfl
      have hf : vb ⟨ls, fr, fu, its, bk, fs, rc⟩ no text ended kind = (some (no, 2), ⟨ls, fr, fu, its, bk, fs, rc⟩) := by
        unfold vb
        rw [if_pos hk3, if_pos h0]
      rw [hf]
      repeat' (first
        | apply qr
        | apply q7
        | apply qe
        | apply qa
        | apply qn
        | apply qf
        | (apply qt; (iterate 3 exact rfl))
        | (apply qg; exact rfl; first | (apply zd; (first | assumption | omega)) | (apply zf; (first | assumption | omega)) | (apply ze; (first | exact rfl | assumption)) | (apply zg; (first | exact rfl | assumption)) | (apply cd_n <;> intro h) | (apply cd_t; (first | exact rfl | assumption)) | (apply cd_f; (first | exact rfl | assumption)) | (apply cd_d <;> intro h) | (apply cd_s <;> intro h))
        | (apply z7; exact rfl; exact rfl)
        | (apply ky; (iterate 4 exact rfl))
        | (apply za; (iterate 3 exact rfl))
        | (apply qx; (iterate 5 exact rfl))
        | (apply ki; exact rfl; exact rfl)
        | apply q9
        | (apply qi; exact Tryz.call134; exact qel _ _ _)
        | (apply qb; exact rfl; exact z6 hob; exact rfl; exact rfl)
        | (apply zo; exact rfl; exact hl1; exact rfl; exact rfl))
      exact qs rfl (zt rfl) ⟨rfl, nofun, wy hle⟩
    · have hz : 0 < (ls.map fun x => Sv x).length := by rw [hml]; exact List.length_pos_iff.2 h0
      have P2 := P.pre (l := [.cells 0 129 (lnO no at' text ended).cells])
      have hl2 := P2.le
      have hol : o < (st ++ [AObj.cells 0 129 (lnO no at' text ended).cells]).length := by omega
      have hob2 := z6 (l := [AObj.cells 0 129 (lnO no at' text ended).cells]) hob
      have hlo : (st ++ [AObj.cells 0 129 (lnO no at' text ended).cells])[st.length + 0]? = some (.cells 0 129 (lnO no at' text ended).cells) := zw rfl
      repeat' (first
        | apply qr
        | apply q7
        | apply qe
        | apply qa
        | apply qn
        | apply qf
        | (apply qt; (iterate 3 exact rfl))
        | (apply qg; exact rfl; first | (apply zd; (first | assumption | omega)) | (apply zf; (first | assumption | omega)) | (apply ze; (first | exact rfl | assumption)) | (apply zg; (first | exact rfl | assumption)) | (apply cd_n <;> intro h) | (apply cd_t; (first | exact rfl | assumption)) | (apply cd_f; (first | exact rfl | assumption)) | (apply cd_d <;> intro h) | (apply cd_s <;> intro h))
        | (apply ky; (iterate 4 exact rfl))
        | (apply za; (iterate 3 exact rfl))
        | (apply ki; exact rfl; exact rfl)
        | apply q8
        | (apply qb; exact rfl; exact z6 hob; exact rfl; exact rfl)
        | (apply zo; exact rfl; exact hl1; exact rfl; exact rfl))
      have hne : ∀ t4, (c1 = .sl 1 (ls.map fun x => Sv x) (some t4) ∨ (st ++ [AObj.cells 0 129 (lnO no at' text ended).cells]).length ≤ t4) → st.length + 0 ≠ t4 := fun t4 h e => by
        rcases h with h | h
        · have := qh3 P.h1 h
          omega
        · simp at h
          omega
      have hBl : PB (n + 1) ⟨ls ++ [text], fr, fu, its, bk, fs, rc⟩ := ⟨by omega, by simp; omega, fun s hs' => by
        rcases List.mem_append.1 hs' with h | h
        · exact hB.linesV s h
        · simp at h; subst h; exact ht, by have : its.length ≤ n := hB.items
                                           simp only; omega, by have : bk.length ≤ n := hB.block
                                                                simp only; omega, hB.blockV, by have : fs.length ≤ n := hB.fields
                                                                                                simp only; omega, hB.rec0, by have : rc ≤ (n : Int) := hB.rec1
                                                                                                                              simp only; omega⟩
      refine qat (fun s => s.t 0 = .bx o 0 0 ∧ s.t 4 = .bx (st.length + 0) 0 0 ∧ s.df = [] ∧ Par b o ⟨ls ++ [text], fr, fu, its, bk, fs, rc⟩ s.st ∧ Keep b o st s.st ∧ s.st[st.length + 0]? = some (.cells 0 129 (lnO no at' text ended).cells)) ?_ ?_
      · refine x8 rfl rfl ?_
        (apply qo 0; exact rfl; kernel_rfl; kernel_rfl; kernel_rfl; exact rfl; exact vv)
        (apply qo 1; exact rfl; kernel_rfl; kernel_rfl; kernel_rfl; exact rfl; exact vv)
        (apply qo 2; exact rfl; kernel_rfl; kernel_rfl; kernel_rfl; exact rfl; (apply zx; exact rfl; exact rfl))
        (apply qo 3; exact rfl; kernel_rfl; kernel_rfl; kernel_rfl; exact rfl; (first | (apply qq; (iterate 3 exact rfl)) | (apply qp; (iterate 4 exact rfl))))
        (apply qo 4; exact rfl; kernel_rfl; kernel_rfl; kernel_rfl; exact rfl; (first | (apply qq; (iterate 3 exact rfl)) | (apply qp; (iterate 4 exact rfl))))
        (apply qo 6; exact rfl; kernel_rfl; kernel_rfl; kernel_rfl; exact rfl; (first | (apply qq; (iterate 3 exact rfl)) | (apply qp; (iterate 4 exact rfl))))
        refine qc [5, 7] (by kernel_rfl) rfl ⟨⟨_, rfl, ?_⟩, ⟨_, rfl, ?_⟩, trivial⟩
        · (first | (apply qb; exact rfl; exact hob2; exact rfl; exact rfl) | (apply zb; (iterate 5 exact rfl)) | (apply qx; (iterate 5 exact rfl)) | (apply qv; (iterate 3 exact rfl)))
          apply qa
          refine qc [7] (by kernel_rfl) rfl ⟨⟨_, rfl, ?_⟩, trivial⟩
          (first | (apply qb; exact rfl; exact hob2; exact rfl; exact rfl) | (apply zb; (iterate 5 exact rfl)) | (apply qx; (iterate 5 exact rfl)) | (apply qv; (iterate 3 exact rfl)))
          apply qa
          refine qc [8] (by kernel_rfl) rfl ⟨⟨_, rfl, ?_⟩, trivial⟩
          (apply qj; (iterate 9 exact rfl))
          apply qa
          refine qc [9] (by kernel_rfl) rfl ⟨⟨_, rfl, ?_⟩, trivial⟩
          (apply zq (b := b) (xs := ls.map fun x => Sv x) (ys := [Sv text]) (bytes := 16); exact rfl; exact rfl; exact P2.h1; exact hl2; (iterate 3 exact rfl); exact ⟨⟨_, _, rfl, rfl, rfl, rfl, rfl⟩⟩; exact rfl; (simp [maxLen]; omega); (simp; omega); intro t4 st4 g1 g2 g3 g4; have ho4 := (g3.same o (by omega) hol).trans hob2; have hlo4 := (g3.same (st.length + 0) (hne t4 g4) (lt_of_getElem? hlo)).trans hlo)
          apply qa
          (apply qo 10; exact rfl; kernel_rfl; kernel_rfl; kernel_rfl; exact rfl; (apply zx; exact rfl; exact rfl))
          (apply qo 11; exact rfl; kernel_rfl; kernel_rfl; kernel_rfl; exact rfl; (first | (apply qq; (iterate 3 exact rfl)) | (apply qp; (iterate 4 exact rfl))))
          (apply qo 12; exact rfl; kernel_rfl; kernel_rfl; kernel_rfl; exact rfl; (first | (apply qq; (iterate 3 exact rfl)) | (apply qp; (iterate 4 exact rfl))))
          refine qc [13] (by kernel_rfl) rfl ⟨⟨_, rfl, ?_⟩, trivial⟩
          (first | (apply qm; exact rfl; exact rfl; exact ho4; (iterate 6 exact rfl)) | (apply zm; (iterate 11 exact rfl)) | (apply q6; (iterate 11 exact rfl)))
          apply qa
          refine zj (by kernel_rfl) ?_
          exact ⟨rfl, rfl, rfl, qg6 P2 g1 g2 g3 g4, ((wy hle).trans (j9 g3 hl2 g2 P2.h1 g4)).trans jc, qh hlo4 (by omega)⟩
        · (first | (apply qb; exact rfl; exact hob2; exact rfl; exact rfl) | (apply zb; (iterate 5 exact rfl)) | (apply qx; (iterate 5 exact rfl)) | (apply qv; (iterate 3 exact rfl)))
          apply qa
          refine qc [5, 8] (by kernel_rfl) rfl ⟨⟨_, rfl, ?_⟩, ⟨_, rfl, ?_⟩, trivial⟩
          · (first | (apply qb; exact rfl; exact hob2; exact rfl; exact rfl) | (apply zb; (iterate 5 exact rfl)) | (apply qx; (iterate 5 exact rfl)) | (apply qv; (iterate 3 exact rfl)))
            apply qa
            refine qc [8] (by kernel_rfl) rfl ⟨⟨_, rfl, ?_⟩, trivial⟩
            (apply qj; (iterate 9 exact rfl))
            apply qa
            refine qc [9] (by kernel_rfl) rfl ⟨⟨_, rfl, ?_⟩, trivial⟩
            (apply zq (b := b) (xs := ls.map fun x => Sv x) (ys := [Sv text]) (bytes := 16); exact rfl; exact rfl; exact P2.h1; exact hl2; (iterate 3 exact rfl); exact ⟨⟨_, _, rfl, rfl, rfl, rfl, rfl⟩⟩; exact rfl; (simp [maxLen]; omega); (simp; omega); intro t4 st4 g1 g2 g3 g4; have ho4 := (g3.same o (by omega) hol).trans hob2; have hlo4 := (g3.same (st.length + 0) (hne t4 g4) (lt_of_getElem? hlo)).trans hlo)
            apply qa
            (apply qo 10; exact rfl; kernel_rfl; kernel_rfl; kernel_rfl; exact rfl; (apply zx; exact rfl; exact rfl))
            (apply qo 11; exact rfl; kernel_rfl; kernel_rfl; kernel_rfl; exact rfl; (first | (apply qq; (iterate 3 exact rfl)) | (apply qp; (iterate 4 exact rfl))))
            (apply qo 12; exact rfl; kernel_rfl; kernel_rfl; kernel_rfl; exact rfl; (first | (apply qq; (iterate 3 exact rfl)) | (apply qp; (iterate 4 exact rfl))))
            refine qc [13] (by kernel_rfl) rfl ⟨⟨_, rfl, ?_⟩, trivial⟩
            (first | (apply qm; exact rfl; exact rfl; exact ho4; (iterate 6 exact rfl)) | (apply zm; (iterate 11 exact rfl)) | (apply q6; (iterate 11 exact rfl)))
            apply qa
            refine zj (by kernel_rfl) ?_
            exact ⟨rfl, rfl, rfl, qg6 P2 g1 g2 g3 g4, ((wy hle).trans (j9 g3 hl2 g2 P2.h1 g4)).trans jc, qh hlo4 (by omega)⟩
          · (apply qj; (iterate 9 exact rfl))
            apply qa
            refine qc [5] (by kernel_rfl) rfl ⟨⟨_, rfl, ?_⟩, trivial⟩
            (first | (apply qb; exact rfl; exact hob2; exact rfl; exact rfl) | (apply zb; (iterate 5 exact rfl)) | (apply qx; (iterate 5 exact rfl)) | (apply qv; (iterate 3 exact rfl)))
            apply qa
            refine qc [9] (by kernel_rfl) rfl ⟨⟨_, rfl, ?_⟩, trivial⟩
            (apply zq (b := b) (xs := ls.map fun x => Sv x) (ys := [Sv text]) (bytes := 16); exact rfl; exact rfl; exact P2.h1; exact hl2; (iterate 3 exact rfl); exact ⟨⟨_, _, rfl, rfl, rfl, rfl, rfl⟩⟩; exact rfl; (simp [maxLen]; omega); (simp; omega); intro t4 st4 g1 g2 g3 g4; have ho4 := (g3.same o (by omega) hol).trans hob2; have hlo4 := (g3.same (st.length + 0) (hne t4 g4) (lt_of_getElem? hlo)).trans hlo)
            apply qa
            (apply qo 10; exact rfl; kernel_rfl; kernel_rfl; kernel_rfl; exact rfl; (apply zx; exact rfl; exact rfl))
            (apply qo 11; exact rfl; kernel_rfl; kernel_rfl; kernel_rfl; exact rfl; (first | (apply qq; (iterate 3 exact rfl)) | (apply qp; (iterate 4 exact rfl))))
            (apply qo 12; exact rfl; kernel_rfl; kernel_rfl; kernel_rfl; exact rfl; (first | (apply qq; (iterate 3 exact rfl)) | (apply qp; (iterate 4 exact rfl))))
            refine qc [13] (by kernel_rfl) rfl ⟨⟨_, rfl, ?_⟩, trivial⟩
            (first | (apply qm; exact rfl; exact rfl; exact ho4; (iterate 6 exact rfl)) | (apply zm; (iterate 11 exact rfl)) | (apply q6; (iterate 11 exact rfl)))
            apply qa
            refine zj (by kernel_rfl) ?_
            exact ⟨rfl, rfl, rfl, qg6 P2 g1 g2 g3 g4, ((wy hle).trans (j9 g3 hl2 g2 P2.h1 g4)).trans jc, qh hlo4 (by omega)⟩
      · rintro ⟨t2, st2, df2⟩ ⟨h20, h24, hd, hp2, hk2, hlx⟩
        simp only at h20 h24 hd hp2 hk2 hlx
        subst hd
        have ht2 : t2 = puts t2 [(0, .bx o 0 0), (4, .bx (st.length + 0) 0 0)] := (qaa (L := [(0, .bx o 0 0), (4, .bx (st.length + 0) 0 0)]) ⟨h20, h24, trivial⟩).symm
        rw [ht2]
        cases ended
        · have hf : vb ⟨ls, fr, fu, its, bk, fs, rc⟩ no text false kind = vn ⟨ls ++ [text], fr, fu, its, bk, fs, rc⟩ := by
            unfold vb
            rw [if_pos hk3, if_neg h0, if_neg (by simp)]
          rw [hf]
          repeat' (first
            | apply qr
            | apply qe
            | apply qa
            | apply qn
            | (apply qg; exact rfl; first | (apply zd; (first | assumption | omega)) | (apply zf; (first | assumption | omega)) | (apply ze; (first | exact rfl | assumption)) | (apply zg; (first | exact rfl | assumption)) | (apply cd_n <;> intro h) | (apply cd_t; (first | exact rfl | assumption)) | (apply cd_f; (first | exact rfl | assumption)) | (apply cd_d <;> intro h) | (apply cd_s <;> intro h))
            | (apply za; (iterate 3 exact rfl))
            | apply q8
            | (apply qb; exact rfl; exact hlx; exact rfl; exact rfl))
          refine xp Tryz.call136 ((qk9 b o _ st2 (n + 1) hp2 hBl).mono ?_)
          rintro _ st1 ⟨rfl, hp, hk⟩
          show AOps _ _ _ _ _ _ _
          repeat' (first
            | apply qa
            | apply qf
            | apply q9)
          exact qs rfl (zt rfl) ⟨rfl, hp, hk2.trans hk⟩
        · have hf : vb ⟨ls, fr, fu, its, bk, fs, rc⟩ no text true kind = (none, ⟨ls ++ [text], fr, fu, its, bk, fs, rc⟩) := by
            unfold vb
            rw [if_pos hk3, if_neg h0, if_pos rfl]
          rw [hf]
          repeat' (first
            | apply qr
            | apply qe
            | apply qa
            | apply qf
            | (apply qg; exact rfl; first | (apply zd; (first | assumption | omega)) | (apply zf; (first | assumption | omega)) | (apply ze; (first | exact rfl | assumption)) | (apply zg; (first | exact rfl | assumption)) | (apply cd_n <;> intro h) | (apply cd_t; (first | exact rfl | assumption)) | (apply cd_f; (first | exact rfl | assumption)) | (apply cd_d <;> intro h) | (apply cd_s <;> intro h))
            | (apply za; (iterate 3 exact rfl))
            | apply q9
            | (apply qb; exact rfl; exact hlx; exact rfl; exact rfl))
          exact qs rfl (zt rfl) ⟨rfl, fun _ => hp2, hk2⟩
  · by_cases hk1 : kind = 1
    · have hf : vb p no text ended kind = endP p := by
        unfold vb
        rw [if_neg hk3, if_pos hk1]
      rw [hf]
      repeat' (first
        | apply qr
        | apply q7
        | apply qe
        | apply qa
        | apply qn
        | apply qf
        | (apply qt; (iterate 3 exact rfl))
        | (apply qg; exact rfl; first | (apply zd; (first | assumption | omega)) | (apply zf; (first | assumption | omega)) | (apply ze; (first | exact rfl | assumption)) | (apply zg; (first | exact rfl | assumption)) | (apply cd_n <;> intro h) | (apply cd_t; (first | exact rfl | assumption)) | (apply cd_f; (first | exact rfl | assumption)) | (apply cd_d <;> intro h) | (apply cd_s <;> intro h))
        | (apply ky; (iterate 4 exact rfl)))
      refine xp Tryz.call93 ((qta b o n p _ ⟨c1, c2, c3, c4, P.pre⟩ hB (by omega)).mono ?_)
      rintro _ st1 ⟨rfl, hp, hk⟩
      show AOps _ _ _ _ _ _ _
      repeat' (first
        | apply qa
        | apply qf
        | apply q9)
      exact qs rfl (zt rfl) ⟨rfl, hp, (wy hle).trans hk⟩
    · have hf : vb p no text ended kind = vn p := by
        unfold vb
        rw [if_neg hk3, if_neg hk1]
      rw [hf]
      repeat' (first
        | apply qr
        | apply q7
        | apply qe
        | apply qa
        | apply qn
        | apply qf
        | (apply qt; (iterate 3 exact rfl))
        | (apply qg; exact rfl; first | (apply zd; (first | assumption | omega)) | (apply zf; (first | assumption | omega)) | (apply ze; (first | exact rfl | assumption)) | (apply zg; (first | exact rfl | assumption)) | (apply cd_n <;> intro h) | (apply cd_t; (first | exact rfl | assumption)) | (apply cd_f; (first | exact rfl | assumption)) | (apply cd_d <;> intro h) | (apply cd_s <;> intro h))
        | (apply ky; (iterate 4 exact rfl))
        | apply q8)
      refine xp Tryz.call136 ((qk9 b o p _ n ⟨c1, c2, c3, c4, P.pre⟩ hB).mono ?_)
      rintro _ st1 ⟨rfl, hp, hk⟩
      show AOps _ _ _ _ _ _ _
      repeat' (first
        | apply qa
        | apply qf
        | apply q9)
      exact qs rfl (zt rfl) ⟨rfl, hp, (wy hle).trans hk⟩
end Go.Proofs.YtefmcijohgpfhaaGreatDoor
set_option maxRecDepth 100000
set_option linter.unusedVariables false
namespace Go.Pl
open Go Go.Proofs
def xn (p : PSt) (no : Int) (text : qk) (ended : Bool) : Option (Int × Int) × PSt :=
 match (vb p no text ended (jf text)).1 with
 | some e => (some e, p)
 | none =>
  if jf text = 5 ∨ ended = false then (some (no, 2), p)
  else if jf text = 1 then (none, { (vb p no text ended (jf text)).2 with items := (vb p no text ended (jf text)).2.items ++ [⟨1, text ++ [10], []⟩] })
  else if jf text = 4 then (none, { wj (vb p no text ended (jf text)).2 no text with block := (vb p no text ended (jf text)).2.block ++ [text] })
  else (none, { (vb p no text ended (jf text)).2 with block := (vb p no text ended (jf text)).2.block ++ [text] })
end Go.Pl
namespace Go.Proofs.YtefmcijohgpfhaaGreatDoor
open Go Go.Av Go.RowKit Go.Proofs Go.Pl
theorem PB.more {n m : Nat} {p : PSt} (h : PB n p) (hm : n ≤ m) (hs : m < 900000) : PB m p := by
 have h1 := h.lines; have h2 := h.items; have h3 := h.block; have h4 := h.fields; have h5 := h.rec0; have h6 := h.rec1
 exact ⟨hs, by omega, h.linesV, by omega, by omega, h.blockV, by omega, h5, by omega⟩
theorem qst {n : Nat} {p : PSt} (h : PB n p) (hs : n + 1 < 900000) : PB (n + 1) (w6 p) := by
 have h1 := h.lines; have h2 := h.items; have h3 := h.block; have h4 := h.fields; have h5 := h.rec0; have h6 := h.rec1
 unfold w6
 split
 ·exact ⟨hs, by simp only; omega, h.linesV, by simp only; omega, by simp, by simp, by simp, h5, by simp only; omega⟩
 ·refine ⟨hs, by simp only; omega, h.linesV, by simp; omega, by simp, by simp, by simp, ?_, ?_⟩
  ·simp only; split <;> omega
  ·simp only; split <;> omega
theorem qms {n : Nat} {p : PSt} {text : qk} (h : PB n p) (hs : n + 1 < 900000) (ht : text.length < 1000000) : PB (n + 1) { p with lines := p.lines ++ [text] } := by
 have h1 := h.lines; have h2 := h.items; have h3 := h.block; have h4 := h.fields; have h5 := h.rec0; have h6 := h.rec1
 exact ⟨hs, by simp; omega, qa2 h.linesV ht, by simp only; omega, by simp only; omega, h.blockV, by simp only; omega, h5, by simp only; omega⟩
theorem qny {n : Nat} {p : PSt} {text : qk} (h : PB n p) (hs : n + 1 < 900000) (ht : text.length < 1000000) : PB (n + 1) { p with block := p.block ++ [text] } := by
 have h1 := h.lines; have h2 := h.items; have h3 := h.block; have h4 := h.fields; have h5 := h.rec0; have h6 := h.rec1
 exact ⟨hs, by simp only; omega, h.linesV, by simp only; omega, by simp; omega, qa2 h.blockV ht, by simp only; omega, h5, by simp only; omega⟩
theorem qux {n : Nat} {p : PSt} {x : wl} (h : PB n p) (hs : n + 1 < 900000) : PB (n + 1) { p with items := p.items ++ [x] } := by
 have h1 := h.lines; have h2 := h.items; have h3 := h.block; have h4 := h.fields; have h5 := h.rec0; have h6 := h.rec1
 exact ⟨hs, by simp only; omega, h.linesV, by simp; omega, by simp only; omega, h.blockV, by simp only; omega, h5, by simp only; omega⟩
theorem qns {n : Nat} {p : PSt} {no : Int} {text : qk} (h : PB n p) (hs : n + 1 < 900000) (ht : text.length < 1000000) : PB (n + 1) (wj p no text) := by
 have h1 := h.lines; have h2 := h.items; have h3 := h.block; have h4 := h.fields; have h5 := h.rec0; have h6 := h.rec1
 exact ⟨hs, by simp [wj], by simp [wj, ht], by simp only [wj]; omega, by simp only [wj]; omega, h.blockV, by simp only [wj]; omega, h5, by simp only [wj]; omega⟩
theorem qlp {n : Nat} {p : PSt} {no : Int} {text : qk} {ended : Bool} {kind : Int} (h : PB n p) (hs : n + 2 < 900000) (ht : text.length < 1000000) : PB (n + 2) (vb p no text ended kind).2 := by
 unfold vb
 split
 ·split
  ·exact h.more (by omega) hs
  ·split
   ·exact (qms h (by omega) ht).more (by omega) hs
   ·exact qep (qms h (by omega) ht) hs
 ·split
  ·unfold endP
   split
   ·exact h.more (by omega) hs
   ·exact qst (qep h (by omega)) hs
  ·exact (qep h (by omega)).more (by omega) hs
theorem qhu (k : Int) (r : qk) : ∀ G v, Rel G (.ag [Iv k, Sv r, jm]) v → Rel G (zu ⟨k, r, []⟩) v :=
 qqe rfl fun i x y hx hy => by
  match i with
  | 0 => simp at hx hy; subst hx; subst hy; exact kp _
  | 1 => simp at hx hy; subst hx; subst hy; exact kp _
  | 2 => simp at hx hy; subst hx; subst hy; exact vd 2
  | i + 3 => simp at hx
theorem qrg (l : qk) : 1 ≤ jf l ∧ jf l ≤ 5 := by
 unfold jf
 repeat' split
 all_goals decide
theorem qw {ver : Nat} {T : TypeId} {cs : List AV} {x : Option AObj} (h : x = some (.cells ver T cs)) : qb1 x := fun n sz T' e => by
 rw [h] at e
 simp at e
theorem qup {n : Nat} {p : PSt} {no : Int} {text : qk} {ended : Bool} (h : PB n p) (hs : n + 4 < 900000) (ht : text.length < 1000000) : PB (n + 4) (xn p no text ended).2 := by
 have h2 : PB (n + 2) (vb p no text ended (jf text)).2 := qlp h (by omega) ht
 unfold xn
 split
 ·exact h.more (by omega) hs
 ·split
  ·exact h.more (by omega) hs
  ·split
   ·exact (qux h2 (by omega)).more (by omega) hs
   ·split
    ·exact qny (qns h2 (by omega) ht) hs ht
    ·exact (qny h2 (by omega) ht).more (by omega) hs
set_option maxHeartbeats 8000000 in
theorem qve (b o n : Nat) (p : PSt) (st : List AObj) (no at' : Int) (text : qk) (ended : Bool) (h : Par b o p st) (hB : PB n p) (hs : n + 4 < 900000) (ht : text.length < 1000000) : zr E 92 [.bx o 0 0, lnO no at' text ended] st fun r st' => r = errP (xn p no text ended).1 ∧ ((xn p no text ended).1 = none → Par b o (xn p no text ended).2 st') ∧ Keep b o st st' := by
 obtain ⟨c1, c2, c3, c4, P⟩ := h
 have hle := P.le
 have hlt := P.lt
 refine zp Tryz.func92 rfl (Nat.le_of_ble_eq_true rfl) ?_
 have hkr := qrg text
 repeat' (first
  | apply qr
  | apply qe
  | apply qa
  | apply qn
  | apply qf
  | (apply ky; (iterate 4 exact rfl))
  | (apply za; (iterate 3 exact rfl))
  | (apply qx; (iterate 5 exact rfl))
  | (apply qi; exact Tryz.call132; exact qhv _ _ (by omega)))
 refine xp Tryz.call133 ((quq b o n p _ no at' text ended (jf text) ⟨c1, c2, c3, c4, P.pre⟩ hB (by omega) ht).mono ?_)
 rintro _ st1 ⟨rfl, hp, hk⟩
 have hlx : st1[st.length + 0]? = some (.cells 0 129 (lnO no at' text ended).cells) := (hk.same (st.length + 0) (by omega) (by simp) (.inr (qw (zw rfl)))).trans (zw rfl)
 have hk1 : Keep b o st st1 := (wy hle).trans hk
 have hB1 := qlp (no := no) (ended := ended) (kind := jf text) hB (by omega) ht
 cases hah : (vb p no text ended (jf text)).1 with
 | some e =>
  obtain ⟨a, m⟩ := e
  have he : xn p no text ended = (some (a, m), p) := by unfold xn; rw [hah]
  rw [qez rfl, he]
  show AOps _ _ _ _ _ _ _
  repeat' (first
   | apply qr
   | apply qe
   | apply qa
   | apply qn
   | apply qf
   | (apply qg; exact rfl; first | (apply zd; (first | assumption | omega)) | (apply zf; (first | assumption | omega)) | (apply ze; (first | exact rfl | assumption)) | (apply zg; (first | exact rfl | assumption)) | (apply cd_n <;> intro h) | (apply cd_t; (first | exact rfl | assumption)) | (apply cd_f; (first | exact rfl | assumption)) | (apply cd_d <;> intro h) | (apply cd_s <;> intro h))
   | (apply ku; exact rfl; exact rfl)
   | apply q9)
  exact qs rfl (zt rfl) ⟨rfl, nofun, hk1⟩
 | none =>
  replace hp := hp hah
  have he : xn p no text ended = if jf text = 5 ∨ ended = false then (some (no, 2), p)
    else if jf text = 1 then (none, { (vb p no text ended (jf text)).2 with items := (vb p no text ended (jf text)).2.items ++ [⟨1, text ++ [10], []⟩] })
    else if jf text = 4 then (none, { wj (vb p no text ended (jf text)).2 no text with block := (vb p no text ended (jf text)).2.block ++ [text] })
    else (none, { (vb p no text ended (jf text)).2 with block := (vb p no text ended (jf text)).2.block ++ [text] }) := by unfold xn; rw [hah]
  rw [he]
  generalize (vb p no text ended (jf text)).2 = p1 at hp hB1
  clear he hah
  show AOps _ _ _ _ _ _ _
  by_cases k5 : jf text = 5
  ·rw [if_pos (.inl k5)]
   repeat' (first
    | apply qr
    | apply q7
    | apply qe
    | apply qa
    | apply qn
    | apply qf
    | (apply qt; (iterate 3 exact rfl))
    | (apply zh; (iterate 4 exact rfl))
    | (apply vo; (first | assumption | omega))
    | (apply zk; exact rfl; first | (apply jx; (first | assumption | omega)) | (apply jw; (first | assumption | omega)) | (apply jy; (first | exact rfl | assumption)) | (apply jv; (first | exact rfl | assumption)) | (apply pk_t; (first | exact rfl | assumption)) | (apply pk_f; (first | exact rfl | assumption)))
    | (apply qg; exact rfl; first | (apply zd; (first | assumption | omega)) | (apply zf; (first | assumption | omega)) | (apply ze; (first | exact rfl | assumption)) | (apply zg; (first | exact rfl | assumption)) | (apply cd_n <;> intro h) | (apply cd_t; (first | exact rfl | assumption)) | (apply cd_f; (first | exact rfl | assumption)) | (apply cd_d <;> intro h) | (apply cd_s <;> intro h))
    | (apply j3; exact rfl; exact rfl)
    | (apply z7; exact rfl; exact rfl)
    | (apply za; (iterate 3 exact rfl))
    | apply q8
    | apply q9
    | (apply qi; exact Tryz.call134; exact qel _ _ _)
    | (apply qb; exact rfl; exact hlx; exact rfl; exact rfl))
   exact qs rfl (zt rfl) ⟨rfl, nofun, hk1⟩
  ·cases ended
   ·rw [if_pos (.inr rfl)]
    repeat' (first
     | apply qr
     | apply q7
     | apply qe
     | apply qa
     | apply qn
     | apply qf
     | (apply qt; (iterate 3 exact rfl))
     | (apply kd; exact rfl)
     | (apply zh; (iterate 4 exact rfl))
     | (apply ko; (first | assumption | omega))
     | (apply zk; exact rfl; first | (apply jx; (first | assumption | omega)) | (apply jw; (first | assumption | omega)) | (apply jy; (first | exact rfl | assumption)) | (apply jv; (first | exact rfl | assumption)) | (apply pk_t; (first | exact rfl | assumption)) | (apply pk_f; (first | exact rfl | assumption)))
     | (apply qg; exact rfl; first | (apply zd; (first | assumption | omega)) | (apply zf; (first | assumption | omega)) | (apply ze; (first | exact rfl | assumption)) | (apply zg; (first | exact rfl | assumption)) | (apply cd_n <;> intro h) | (apply cd_t; (first | exact rfl | assumption)) | (apply cd_f; (first | exact rfl | assumption)) | (apply cd_d <;> intro h) | (apply cd_s <;> intro h))
     | (apply j3; exact rfl; exact rfl)
     | (apply z7; exact rfl; exact rfl)
     | (apply za; (iterate 3 exact rfl))
     | apply q8
     | apply q9
     | (apply qi; exact Tryz.call134; exact qel _ _ _)
     | (apply qb; exact rfl; exact hlx; exact rfl; exact rfl))
    exact qs rfl (zt rfl) ⟨rfl, nofun, hk1⟩
   ·rw [if_neg (by simp [k5])]
    by_cases k1 : jf text = 1
    ·rw [if_pos k1]
     obtain ⟨d1, d2, d3, d4, P1⟩ := hp
     obtain ⟨ls, fr, fu, its, bk, fs, rc⟩ := p1
     have hob1 : st1[o]? = some (.cells 0 148 [d1, Iv fr, Bv fu, d2, d3, d4, Iv rc]) := P1.ob
     have hle1 := P1.le
     have hol : o < st1.length := by omega
     have hin : its.length ≤ n + 2 := hB1.items
     have hil : (its.map zu).length = its.length := by simp
     repeat' (first
      | apply qr
      | apply q7
      | apply qe
      | apply qa
      | apply qn
      | apply qf
      | (apply qt; (iterate 3 exact rfl))
      | (apply kd; exact rfl)
      | (apply zh; (iterate 4 exact rfl))
      | (apply ko; (first | assumption | omega))
      | (apply zk; exact rfl; first | (apply jx; (first | assumption | omega)) | (apply jw; (first | assumption | omega)) | (apply jy; (first | exact rfl | assumption)) | (apply jv; (first | exact rfl | assumption)) | (apply pk_t; (first | exact rfl | assumption)) | (apply pk_f; (first | exact rfl | assumption)))
      | (apply qg; exact rfl; first | (apply zd; (first | assumption | omega)) | (apply zf; (first | assumption | omega)) | (apply ze; (first | exact rfl | assumption)) | (apply zg; (first | exact rfl | assumption)) | (apply cd_n <;> intro h) | (apply cd_t; (first | exact rfl | assumption)) | (apply cd_f; (first | exact rfl | assumption)) | (apply cd_d <;> intro h) | (apply cd_s <;> intro h))
      | (apply j3; exact rfl; exact rfl)
      | (apply za; (iterate 3 exact rfl))
      | apply q8
      | (apply qb; exact rfl; exact hlx; exact rfl; exact rfl))
     refine qat (fun s => s.df = [] ∧ Par b o ⟨ls, fr, fu, its ++ [⟨1, text ++ [10], []⟩], bk, fs, rc⟩ s.st ∧ Keep b o st s.st) ?_ ?_
     ·refine x8 rfl rfl ?_
      (apply qo 0; exact rfl; kernel_rfl; kernel_rfl; kernel_rfl; exact rfl; exact vv)
      (apply qo 1; exact rfl; kernel_rfl; kernel_rfl; kernel_rfl; exact rfl; exact vv)
      (apply qo 2; exact rfl; kernel_rfl; kernel_rfl; kernel_rfl; exact rfl; (apply zx; exact rfl; exact rfl))
      (apply qo 3; exact rfl; kernel_rfl; kernel_rfl; kernel_rfl; exact rfl; (first | (apply qq; (iterate 3 exact rfl)) | (apply qp; (iterate 4 exact rfl))))
      (apply qo 5; exact rfl; kernel_rfl; kernel_rfl; kernel_rfl; exact rfl; (first | (apply qq; (iterate 3 exact rfl)) | (apply qp; (iterate 4 exact rfl))))
      refine qc [4, 6] (by kernel_rfl) rfl ⟨⟨_, rfl, ?_⟩, ⟨_, rfl, ?_⟩, trivial⟩
      ·(first | (apply qb; exact rfl; exact hob1; exact rfl; exact rfl) | (apply qb; exact rfl; exact hlx; exact rfl; exact rfl) | (apply zb; (iterate 5 exact rfl)) | (apply qx; (iterate 5 exact rfl)) | (apply qv; (iterate 3 exact rfl)))
       apply qa
       refine qc [6] (by kernel_rfl) rfl ⟨⟨_, rfl, ?_⟩, trivial⟩
       (first | (apply qb; exact rfl; exact hob1; exact rfl; exact rfl) | (apply qb; exact rfl; exact hlx; exact rfl; exact rfl) | (apply zb; (iterate 5 exact rfl)) | (apply qx; (iterate 5 exact rfl)) | (apply qv; (iterate 3 exact rfl)))
       apply qa
       (apply qo 7; exact rfl; kernel_rfl; kernel_rfl; kernel_rfl; exact rfl; (apply vf; exact rfl; exact rfl; (first | omega | (simp only [List.length_append, List.length_cons, List.length_nil]; omega))))
       (apply qo 8; exact rfl; kernel_rfl; kernel_rfl; kernel_rfl; exact rfl; (apply vi; (iterate 3 exact rfl)))
       refine qc [9] (by kernel_rfl) rfl ⟨⟨_, rfl, ?_⟩, trivial⟩
       (first | (apply zi 40 rfl (qhu 1 (text ++ [10])); apply qj; (iterate 9 exact rfl)) | (apply qj; (iterate 9 exact rfl)))
       apply qa
       refine qc [10] (by kernel_rfl) rfl ⟨⟨_, rfl, ?_⟩, trivial⟩
       (apply zq (b := b) (xs := its.map zu) (ys := [zu ⟨1, text ++ [10], []⟩]) (bytes := 48); exact rfl; exact rfl; exact P1.h2; exact hle1; (iterate 3 exact rfl); exact ⟨⟨_, _, rfl, rfl, rfl, rfl, rfl⟩⟩; exact rfl; (simp [maxLen]; omega); (simp; omega); intro t4 st4 g1 g2 g3 g4; have ho4 := (g3.same o (by omega) hol).trans hob1)
       apply qa
       (apply qo 11; exact rfl; kernel_rfl; kernel_rfl; kernel_rfl; exact rfl; (apply zx; exact rfl; exact rfl))
       (apply qo 12; exact rfl; kernel_rfl; kernel_rfl; kernel_rfl; exact rfl; (first | (apply qq; (iterate 3 exact rfl)) | (apply qp; (iterate 4 exact rfl))))
       refine qc [13] (by kernel_rfl) rfl ⟨⟨_, rfl, ?_⟩, trivial⟩
       (first | (apply qm; exact rfl; exact rfl; exact ho4; (iterate 6 exact rfl)) | (apply zm; (iterate 11 exact rfl)) | (apply q6; (iterate 11 exact rfl)))
       apply qa
       refine zj (by kernel_rfl) ?_
       exact ⟨rfl, ka P1 g1 g2 g3 g4, hk1.trans ((j9 g3 hle1 g2 P1.h2 g4).trans jc)⟩
      ·(first | (apply qb; exact rfl; exact hob1; exact rfl; exact rfl) | (apply qb; exact rfl; exact hlx; exact rfl; exact rfl) | (apply zb; (iterate 5 exact rfl)) | (apply qx; (iterate 5 exact rfl)) | (apply qv; (iterate 3 exact rfl)))
       apply qa
       (apply qo 7; exact rfl; kernel_rfl; kernel_rfl; kernel_rfl; exact rfl; (apply vf; exact rfl; exact rfl; (first | omega | (simp only [List.length_append, List.length_cons, List.length_nil]; omega))))
       (apply qo 8; exact rfl; kernel_rfl; kernel_rfl; kernel_rfl; exact rfl; (apply vi; (iterate 3 exact rfl)))
       refine qc [4, 9] (by kernel_rfl) rfl ⟨⟨_, rfl, ?_⟩, ⟨_, rfl, ?_⟩, trivial⟩
       ·(first | (apply qb; exact rfl; exact hob1; exact rfl; exact rfl) | (apply qb; exact rfl; exact hlx; exact rfl; exact rfl) | (apply zb; (iterate 5 exact rfl)) | (apply qx; (iterate 5 exact rfl)) | (apply qv; (iterate 3 exact rfl)))
        apply qa
        refine qc [9] (by kernel_rfl) rfl ⟨⟨_, rfl, ?_⟩, trivial⟩
        (first | (apply zi 40 rfl (qhu 1 (text ++ [10])); apply qj; (iterate 9 exact rfl)) | (apply qj; (iterate 9 exact rfl)))
        apply qa
        refine qc [10] (by kernel_rfl) rfl ⟨⟨_, rfl, ?_⟩, trivial⟩
        (apply zq (b := b) (xs := its.map zu) (ys := [zu ⟨1, text ++ [10], []⟩]) (bytes := 48); exact rfl; exact rfl; exact P1.h2; exact hle1; (iterate 3 exact rfl); exact ⟨⟨_, _, rfl, rfl, rfl, rfl, rfl⟩⟩; exact rfl; (simp [maxLen]; omega); (simp; omega); intro t4 st4 g1 g2 g3 g4; have ho4 := (g3.same o (by omega) hol).trans hob1)
        apply qa
        (apply qo 11; exact rfl; kernel_rfl; kernel_rfl; kernel_rfl; exact rfl; (apply zx; exact rfl; exact rfl))
        (apply qo 12; exact rfl; kernel_rfl; kernel_rfl; kernel_rfl; exact rfl; (first | (apply qq; (iterate 3 exact rfl)) | (apply qp; (iterate 4 exact rfl))))
        refine qc [13] (by kernel_rfl) rfl ⟨⟨_, rfl, ?_⟩, trivial⟩
        (first | (apply qm; exact rfl; exact rfl; exact ho4; (iterate 6 exact rfl)) | (apply zm; (iterate 11 exact rfl)) | (apply q6; (iterate 11 exact rfl)))
        apply qa
        refine zj (by kernel_rfl) ?_
        exact ⟨rfl, ka P1 g1 g2 g3 g4, hk1.trans ((j9 g3 hle1 g2 P1.h2 g4).trans jc)⟩
       ·(first | (apply zi 40 rfl (qhu 1 (text ++ [10])); apply qj; (iterate 9 exact rfl)) | (apply qj; (iterate 9 exact rfl)))
        apply qa
        refine qc [4] (by kernel_rfl) rfl ⟨⟨_, rfl, ?_⟩, trivial⟩
        (first | (apply qb; exact rfl; exact hob1; exact rfl; exact rfl) | (apply qb; exact rfl; exact hlx; exact rfl; exact rfl) | (apply zb; (iterate 5 exact rfl)) | (apply qx; (iterate 5 exact rfl)) | (apply qv; (iterate 3 exact rfl)))
        apply qa
        refine qc [10] (by kernel_rfl) rfl ⟨⟨_, rfl, ?_⟩, trivial⟩
        (apply zq (b := b) (xs := its.map zu) (ys := [zu ⟨1, text ++ [10], []⟩]) (bytes := 48); exact rfl; exact rfl; exact P1.h2; exact hle1; (iterate 3 exact rfl); exact ⟨⟨_, _, rfl, rfl, rfl, rfl, rfl⟩⟩; exact rfl; (simp [maxLen]; omega); (simp; omega); intro t4 st4 g1 g2 g3 g4; have ho4 := (g3.same o (by omega) hol).trans hob1)
        apply qa
        (apply qo 11; exact rfl; kernel_rfl; kernel_rfl; kernel_rfl; exact rfl; (apply zx; exact rfl; exact rfl))
        (apply qo 12; exact rfl; kernel_rfl; kernel_rfl; kernel_rfl; exact rfl; (first | (apply qq; (iterate 3 exact rfl)) | (apply qp; (iterate 4 exact rfl))))
        refine qc [13] (by kernel_rfl) rfl ⟨⟨_, rfl, ?_⟩, trivial⟩
        (first | (apply qm; exact rfl; exact rfl; exact ho4; (iterate 6 exact rfl)) | (apply zm; (iterate 11 exact rfl)) | (apply q6; (iterate 11 exact rfl)))
        apply qa
        refine zj (by kernel_rfl) ?_
        exact ⟨rfl, ka P1 g1 g2 g3 g4, hk1.trans ((j9 g3 hle1 g2 P1.h2 g4).trans jc)⟩
     ·rintro ⟨t2, st2, df2⟩ ⟨hd, hp2, hk2⟩
      simp only at hd hp2 hk2
      subst hd
      repeat' (first
       | apply qr
       | apply qe
       | apply qa
       | apply qf
       | apply q9)
      exact qs rfl (zt rfl) ⟨rfl, fun _ => hp2, hk2⟩
    ·rw [if_neg k1]
     by_cases k4 : jf text = 4
     ·rw [if_pos k4]
      repeat' (first
       | apply qr
       | apply q7
       | apply qe
       | apply qa
       | apply qn
       | apply qf
       | (apply qt; (iterate 3 exact rfl))
       | (apply kd; exact rfl)
       | (apply zh; (iterate 4 exact rfl))
       | (apply ko; (first | assumption | omega))
       | (apply zk; exact rfl; first | (apply jx; (first | assumption | omega)) | (apply jw; (first | assumption | omega)) | (apply jy; (first | exact rfl | assumption)) | (apply jv; (first | exact rfl | assumption)) | (apply pk_t; (first | exact rfl | assumption)) | (apply pk_f; (first | exact rfl | assumption)))
       | (apply qg; exact rfl; first | (apply zd; (first | assumption | omega)) | (apply zf; (first | assumption | omega)) | (apply ze; (first | exact rfl | assumption)) | (apply zg; (first | exact rfl | assumption)) | (apply cd_n <;> intro h) | (apply cd_t; (first | exact rfl | assumption)) | (apply cd_f; (first | exact rfl | assumption)) | (apply cd_d <;> intro h) | (apply cd_s <;> intro h))
       | (apply j3; exact rfl; exact rfl)
       | (apply za; (iterate 3 exact rfl))
       | apply q8
       | (apply qb; exact rfl; exact hlx; exact rfl; exact rfl))
      refine xp Tryz.call135 ((qtx b o p1 _ no at' text true hp).mono ?_)
      rintro _ stX ⟨rfl, hpX, hkb⟩
      have hlX : stX[st.length + 0]? = some (.cells 0 129 (lnO no at' text true).cells) := (hkb.same (st.length + 0) (by omega) (lt_of_getElem? hlx) (.inr (qw hlx))).trans hlx
      have hBX : PB (n + 3) (wj p1 no text) := qns hB1 (by omega) ht
      have hkX : Keep b o st stX := hk1.trans hkb
      show AOps _ _ _ _ _ _ _
      repeat' (first
       | apply qr
       | apply qa)
      rw [show p1.block = (wj p1 no text).block from rfl]
      generalize wj p1 no text = pX at hpX hBX
      refine wf [(0, .bx o 0 0), (3, .bx (st.length + 0) 0 0)] stX [] ⟨rfl, rfl, trivial⟩ rfl rfl fun t => ?_
      obtain ⟨d1, d2, d3, d4, P1⟩ := hpX
      obtain ⟨ls, fr, fu, its, bk, fs, rc⟩ := pX
      have hob1 : stX[o]? = some (.cells 0 148 [d1, Iv fr, Bv fu, d2, d3, d4, Iv rc]) := P1.ob
      have hle1 := P1.le
      have hol : o < stX.length := by omega
      have hin : bk.length ≤ n + 3 := hBX.block
      have hil : (bk.map fun x => Sv x).length = bk.length := by simp
      refine qat (fun s => s.df = [] ∧ Par b o ⟨ls, fr, fu, its, bk ++ [text], fs, rc⟩ s.st ∧ Keep b o st s.st) ?_ ?_
      ·refine x8 rfl rfl ?_
       (apply qo 0; exact rfl; kernel_rfl; kernel_rfl; kernel_rfl; exact rfl; exact vv)
       (apply qo 1; exact rfl; kernel_rfl; kernel_rfl; kernel_rfl; exact rfl; exact vv)
       (apply qo 2; exact rfl; kernel_rfl; kernel_rfl; kernel_rfl; exact rfl; (apply zx; exact rfl; exact rfl))
       (apply qo 3; exact rfl; kernel_rfl; kernel_rfl; kernel_rfl; exact rfl; (first | (apply qq; (iterate 3 exact rfl)) | (apply qp; (iterate 4 exact rfl))))
       (apply qo 5; exact rfl; kernel_rfl; kernel_rfl; kernel_rfl; exact rfl; (first | (apply qq; (iterate 3 exact rfl)) | (apply qp; (iterate 4 exact rfl))))
       refine qc [4, 6] (by kernel_rfl) rfl ⟨⟨_, rfl, ?_⟩, ⟨_, rfl, ?_⟩, trivial⟩
       ·(first | (apply qb; exact rfl; exact hob1; exact rfl; exact rfl) | (apply qb; exact rfl; exact hlX; exact rfl; exact rfl) | (apply zb; (iterate 5 exact rfl)) | (apply qx; (iterate 5 exact rfl)) | (apply qv; (iterate 3 exact rfl)))
        apply qa
        refine qc [6] (by kernel_rfl) rfl ⟨⟨_, rfl, ?_⟩, trivial⟩
        (first | (apply qb; exact rfl; exact hob1; exact rfl; exact rfl) | (apply qb; exact rfl; exact hlX; exact rfl; exact rfl) | (apply zb; (iterate 5 exact rfl)) | (apply qx; (iterate 5 exact rfl)) | (apply qv; (iterate 3 exact rfl)))
        apply qa
        refine qc [7] (by kernel_rfl) rfl ⟨⟨_, rfl, ?_⟩, trivial⟩
        (apply qj; (iterate 9 exact rfl))
        apply qa
        refine qc [8] (by kernel_rfl) rfl ⟨⟨_, rfl, ?_⟩, trivial⟩
        (apply zq (b := b) (xs := bk.map fun x => Sv x) (ys := [Sv text]) (bytes := 16); exact rfl; exact rfl; exact P1.h3; exact hle1; (iterate 3 exact rfl); exact ⟨⟨_, _, rfl, rfl, rfl, rfl, rfl⟩⟩; exact rfl; (simp [maxLen]; omega); (simp; omega); intro t4 st4 g1 g2 g3 g4; have ho4 := (g3.same o (by omega) hol).trans hob1)
        apply qa
        (apply qo 9; exact rfl; kernel_rfl; kernel_rfl; kernel_rfl; exact rfl; (apply zx; exact rfl; exact rfl))
        (apply qo 10; exact rfl; kernel_rfl; kernel_rfl; kernel_rfl; exact rfl; (first | (apply qq; (iterate 3 exact rfl)) | (apply qp; (iterate 4 exact rfl))))
        refine qc [11] (by kernel_rfl) rfl ⟨⟨_, rfl, ?_⟩, trivial⟩
        (first | (apply qm; exact rfl; exact rfl; exact ho4; (iterate 6 exact rfl)) | (apply zm; (iterate 11 exact rfl)) | (apply q6; (iterate 11 exact rfl)))
        apply qa
        refine zj (by kernel_rfl) ?_
        exact ⟨rfl, qby P1 g1 g2 g3 g4, hkX.trans ((j9 g3 hle1 g2 P1.h3 g4).trans jc)⟩
       ·(first | (apply qb; exact rfl; exact hob1; exact rfl; exact rfl) | (apply qb; exact rfl; exact hlX; exact rfl; exact rfl) | (apply zb; (iterate 5 exact rfl)) | (apply qx; (iterate 5 exact rfl)) | (apply qv; (iterate 3 exact rfl)))
        apply qa
        refine qc [4, 7] (by kernel_rfl) rfl ⟨⟨_, rfl, ?_⟩, ⟨_, rfl, ?_⟩, trivial⟩
        ·(first | (apply qb; exact rfl; exact hob1; exact rfl; exact rfl) | (apply qb; exact rfl; exact hlX; exact rfl; exact rfl) | (apply zb; (iterate 5 exact rfl)) | (apply qx; (iterate 5 exact rfl)) | (apply qv; (iterate 3 exact rfl)))
         apply qa
         refine qc [7] (by kernel_rfl) rfl ⟨⟨_, rfl, ?_⟩, trivial⟩
         (apply qj; (iterate 9 exact rfl))
         apply qa
         refine qc [8] (by kernel_rfl) rfl ⟨⟨_, rfl, ?_⟩, trivial⟩
         (apply zq (b := b) (xs := bk.map fun x => Sv x) (ys := [Sv text]) (bytes := 16); exact rfl; exact rfl; exact P1.h3; exact hle1; (iterate 3 exact rfl); exact ⟨⟨_, _, rfl, rfl, rfl, rfl, rfl⟩⟩; exact rfl; (simp [maxLen]; omega); (simp; omega); intro t4 st4 g1 g2 g3 g4; have ho4 := (g3.same o (by omega) hol).trans hob1)
         apply qa
         (apply qo 9; exact rfl; kernel_rfl; kernel_rfl; kernel_rfl; exact rfl; (apply zx; exact rfl; exact rfl))
         (apply qo 10; exact rfl; kernel_rfl; kernel_rfl; kernel_rfl; exact rfl; (first | (apply qq; (iterate 3 exact rfl)) | (apply qp; (iterate 4 exact rfl))))
         refine qc [11] (by kernel_rfl) rfl ⟨⟨_, rfl, ?_⟩, trivial⟩
         (first | (apply qm; exact rfl; exact rfl; exact ho4; (iterate 6 exact rfl)) | (apply zm; (iterate 11 exact rfl)) | (apply q6; (iterate 11 exact rfl)))
         apply qa
         refine zj (by kernel_rfl) ?_
         exact ⟨rfl, qby P1 g1 g2 g3 g4, hkX.trans ((j9 g3 hle1 g2 P1.h3 g4).trans jc)⟩
        ·(apply qj; (iterate 9 exact rfl))
         apply qa
         refine qc [4] (by kernel_rfl) rfl ⟨⟨_, rfl, ?_⟩, trivial⟩
         (first | (apply qb; exact rfl; exact hob1; exact rfl; exact rfl) | (apply qb; exact rfl; exact hlX; exact rfl; exact rfl) | (apply zb; (iterate 5 exact rfl)) | (apply qx; (iterate 5 exact rfl)) | (apply qv; (iterate 3 exact rfl)))
         apply qa
         refine qc [8] (by kernel_rfl) rfl ⟨⟨_, rfl, ?_⟩, trivial⟩
         (apply zq (b := b) (xs := bk.map fun x => Sv x) (ys := [Sv text]) (bytes := 16); exact rfl; exact rfl; exact P1.h3; exact hle1; (iterate 3 exact rfl); exact ⟨⟨_, _, rfl, rfl, rfl, rfl, rfl⟩⟩; exact rfl; (simp [maxLen]; omega); (simp; omega); intro t4 st4 g1 g2 g3 g4; have ho4 := (g3.same o (by omega) hol).trans hob1)
         apply qa
         (apply qo 9; exact rfl; kernel_rfl; kernel_rfl; kernel_rfl; exact rfl; (apply zx; exact rfl; exact rfl))
         (apply qo 10; exact rfl; kernel_rfl; kernel_rfl; kernel_rfl; exact rfl; (first | (apply qq; (iterate 3 exact rfl)) | (apply qp; (iterate 4 exact rfl))))
         refine qc [11] (by kernel_rfl) rfl ⟨⟨_, rfl, ?_⟩, trivial⟩
         (first | (apply qm; exact rfl; exact rfl; exact ho4; (iterate 6 exact rfl)) | (apply zm; (iterate 11 exact rfl)) | (apply q6; (iterate 11 exact rfl)))
         apply qa
         refine zj (by kernel_rfl) ?_
         exact ⟨rfl, qby P1 g1 g2 g3 g4, hkX.trans ((j9 g3 hle1 g2 P1.h3 g4).trans jc)⟩
      ·rintro ⟨t2, st2, df2⟩ ⟨hd, hp2, hk2⟩
       simp only at hd hp2 hk2
       subst hd
       repeat' (first
        | apply qr
        | apply qe
        | apply qa
        | apply qf
        | apply q9)
       exact qs rfl (zt rfl) ⟨rfl, fun _ => hp2, hk2⟩
     ·rw [if_neg k4]
      repeat' (first
       | apply qr
       | apply q7
       | apply qe
       | apply qa
       | apply qn
       | apply qf
       | (apply qt; (iterate 3 exact rfl))
       | (apply kd; exact rfl)
       | (apply zh; (iterate 4 exact rfl))
       | (apply ko; (first | assumption | omega))
       | (apply zk; exact rfl; first | (apply jx; (first | assumption | omega)) | (apply jw; (first | assumption | omega)) | (apply jy; (first | exact rfl | assumption)) | (apply jv; (first | exact rfl | assumption)) | (apply pk_t; (first | exact rfl | assumption)) | (apply pk_f; (first | exact rfl | assumption)))
       | (apply qg; exact rfl; first | (apply zd; (first | assumption | omega)) | (apply zf; (first | assumption | omega)) | (apply ze; (first | exact rfl | assumption)) | (apply zg; (first | exact rfl | assumption)) | (apply cd_n <;> intro h) | (apply cd_t; (first | exact rfl | assumption)) | (apply cd_f; (first | exact rfl | assumption)) | (apply cd_d <;> intro h) | (apply cd_s <;> intro h))
       | (apply j3; exact rfl; exact rfl)
       | (apply za; (iterate 3 exact rfl))
       | apply q8
       | (apply qb; exact rfl; exact hlx; exact rfl; exact rfl))
      obtain ⟨stX, hsX⟩ : ∃ x, x = st1 := ⟨_, rfl⟩
      obtain ⟨pX, hpX0⟩ : ∃ x, x = p1 := ⟨_, rfl⟩
      have hpX : Par b o pX stX := by rw [hpX0, hsX]; exact hp
      have hBX : PB (n + 3) pX := by rw [hpX0]; exact hB1.more (by omega) (by omega)
      have hkX : Keep b o st stX := by rw [hsX]; exact hk1
      have hlX : stX[st.length + 0]? = some (.cells 0 129 (lnO no at' text true).cells) := by rw [hsX]; exact hlx
      rw [← hpX0]
      refine wf [(0, .bx o 0 0), (3, .bx (st.length + 0) 0 0)] stX [] ⟨rfl, rfl, trivial⟩ hsX.symm rfl fun t => ?_
      obtain ⟨d1, d2, d3, d4, P1⟩ := hpX
      obtain ⟨ls, fr, fu, its, bk, fs, rc⟩ := pX
      have hob1 : stX[o]? = some (.cells 0 148 [d1, Iv fr, Bv fu, d2, d3, d4, Iv rc]) := P1.ob
      have hle1 := P1.le
      have hol : o < stX.length := by omega
      have hin : bk.length ≤ n + 3 := hBX.block
      have hil : (bk.map fun x => Sv x).length = bk.length := by simp
      refine qat (fun s => s.df = [] ∧ Par b o ⟨ls, fr, fu, its, bk ++ [text], fs, rc⟩ s.st ∧ Keep b o st s.st) ?_ ?_
      ·refine x8 rfl rfl ?_
       (apply qo 0; exact rfl; kernel_rfl; kernel_rfl; kernel_rfl; exact rfl; exact vv)
       (apply qo 1; exact rfl; kernel_rfl; kernel_rfl; kernel_rfl; exact rfl; exact vv)
       (apply qo 2; exact rfl; kernel_rfl; kernel_rfl; kernel_rfl; exact rfl; (apply zx; exact rfl; exact rfl))
       (apply qo 3; exact rfl; kernel_rfl; kernel_rfl; kernel_rfl; exact rfl; (first | (apply qq; (iterate 3 exact rfl)) | (apply qp; (iterate 4 exact rfl))))
       (apply qo 5; exact rfl; kernel_rfl; kernel_rfl; kernel_rfl; exact rfl; (first | (apply qq; (iterate 3 exact rfl)) | (apply qp; (iterate 4 exact rfl))))
       refine qc [4, 6] (by kernel_rfl) rfl ⟨⟨_, rfl, ?_⟩, ⟨_, rfl, ?_⟩, trivial⟩
       ·(first | (apply qb; exact rfl; exact hob1; exact rfl; exact rfl) | (apply qb; exact rfl; exact hlX; exact rfl; exact rfl) | (apply zb; (iterate 5 exact rfl)) | (apply qx; (iterate 5 exact rfl)) | (apply qv; (iterate 3 exact rfl)))
        apply qa
        refine qc [6] (by kernel_rfl) rfl ⟨⟨_, rfl, ?_⟩, trivial⟩
        (first | (apply qb; exact rfl; exact hob1; exact rfl; exact rfl) | (apply qb; exact rfl; exact hlX; exact rfl; exact rfl) | (apply zb; (iterate 5 exact rfl)) | (apply qx; (iterate 5 exact rfl)) | (apply qv; (iterate 3 exact rfl)))
        apply qa
        refine qc [7] (by kernel_rfl) rfl ⟨⟨_, rfl, ?_⟩, trivial⟩
        (apply qj; (iterate 9 exact rfl))
        apply qa
        refine qc [8] (by kernel_rfl) rfl ⟨⟨_, rfl, ?_⟩, trivial⟩
        (apply zq (b := b) (xs := bk.map fun x => Sv x) (ys := [Sv text]) (bytes := 16); exact rfl; exact rfl; exact P1.h3; exact hle1; (iterate 3 exact rfl); exact ⟨⟨_, _, rfl, rfl, rfl, rfl, rfl⟩⟩; exact rfl; (simp [maxLen]; omega); (simp; omega); intro t4 st4 g1 g2 g3 g4; have ho4 := (g3.same o (by omega) hol).trans hob1)
        apply qa
        (apply qo 9; exact rfl; kernel_rfl; kernel_rfl; kernel_rfl; exact rfl; (apply zx; exact rfl; exact rfl))
        (apply qo 10; exact rfl; kernel_rfl; kernel_rfl; kernel_rfl; exact rfl; (first | (apply qq; (iterate 3 exact rfl)) | (apply qp; (iterate 4 exact rfl))))
        refine qc [11] (by kernel_rfl) rfl ⟨⟨_, rfl, ?_⟩, trivial⟩
        (first | (apply qm; exact rfl; exact rfl; exact ho4; (iterate 6 exact rfl)) | (apply zm; (iterate 11 exact rfl)) | (apply q6; (iterate 11 exact rfl)))
        apply qa
        refine zj (by kernel_rfl) ?_
        exact ⟨rfl, qby P1 g1 g2 g3 g4, hkX.trans ((j9 g3 hle1 g2 P1.h3 g4).trans jc)⟩
       ·(first | (apply qb; exact rfl; exact hob1; exact rfl; exact rfl) | (apply qb; exact rfl; exact hlX; exact rfl; exact rfl) | (apply zb; (iterate 5 exact rfl)) | (apply qx; (iterate 5 exact rfl)) | (apply qv; (iterate 3 exact rfl)))
        apply qa
        refine qc [4, 7] (by kernel_rfl) rfl ⟨⟨_, rfl, ?_⟩, ⟨_, rfl, ?_⟩, trivial⟩
        ·(first | (apply qb; exact rfl; exact hob1; exact rfl; exact rfl) | (apply qb; exact rfl; exact hlX; exact rfl; exact rfl) | (apply zb; (iterate 5 exact rfl)) | (apply qx; (iterate 5 exact rfl)) | (apply qv; (iterate 3 exact rfl)))
         apply qa
         refine qc [7] (by kernel_rfl) rfl ⟨⟨_, rfl, ?_⟩, trivial⟩
         (apply qj; (iterate 9 exact rfl))
         apply qa
         refine qc [8] (by kernel_rfl) rfl ⟨⟨_, rfl, ?_⟩, trivial⟩
         (apply zq (b := b) (xs := bk.map fun x => Sv x) (ys := [Sv text]) (bytes := 16); exact rfl; exact rfl; exact P1.h3; exact hle1; (iterate 3 exact rfl); exact ⟨⟨_, _, rfl, rfl, rfl, rfl, rfl⟩⟩; exact rfl; (simp [maxLen]; omega); (simp; omega); intro t4 st4 g1 g2 g3 g4; have ho4 := (g3.same o (by omega) hol).trans hob1)
         apply qa
         (apply qo 9; exact rfl; kernel_rfl; kernel_rfl; kernel_rfl; exact rfl; (apply zx; exact rfl; exact rfl))
         (apply qo 10; exact rfl; kernel_rfl; kernel_rfl; kernel_rfl; exact rfl; (first | (apply qq; (iterate 3 exact rfl)) | (apply qp; (iterate 4 exact rfl))))
         refine qc [11] (by kernel_rfl) rfl ⟨⟨_, rfl, ?_⟩, trivial⟩
         (first | (apply qm; exact rfl; exact rfl; exact ho4; (iterate 6 exact rfl)) | (apply zm; (iterate 11 exact rfl)) | (apply q6; (iterate 11 exact rfl)))
         apply qa
         refine zj (by kernel_rfl) ?_
         exact ⟨rfl, qby P1 g1 g2 g3 g4, hkX.trans ((j9 g3 hle1 g2 P1.h3 g4).trans jc)⟩
        ·(apply qj; (iterate 9 exact rfl))
         apply qa
         refine qc [4] (by kernel_rfl) rfl ⟨⟨_, rfl, ?_⟩, trivial⟩
         (first | (apply qb; exact rfl; exact hob1; exact rfl; exact rfl) | (apply qb; exact rfl; exact hlX; exact rfl; exact rfl) | (apply zb; (iterate 5 exact rfl)) | (apply qx; (iterate 5 exact rfl)) | (apply qv; (iterate 3 exact rfl)))
         apply qa
         refine qc [8] (by kernel_rfl) rfl ⟨⟨_, rfl, ?_⟩, trivial⟩
         (apply zq (b := b) (xs := bk.map fun x => Sv x) (ys := [Sv text]) (bytes := 16); exact rfl; exact rfl; exact P1.h3; exact hle1; (iterate 3 exact rfl); exact ⟨⟨_, _, rfl, rfl, rfl, rfl, rfl⟩⟩; exact rfl; (simp [maxLen]; omega); (simp; omega); intro t4 st4 g1 g2 g3 g4; have ho4 := (g3.same o (by omega) hol).trans hob1)
         apply qa
         (apply qo 9; exact rfl; kernel_rfl; kernel_rfl; kernel_rfl; exact rfl; (apply zx; exact rfl; exact rfl))
         (apply qo 10; exact rfl; kernel_rfl; kernel_rfl; kernel_rfl; exact rfl; (first | (apply qq; (iterate 3 exact rfl)) | (apply qp; (iterate 4 exact rfl))))
         refine qc [11] (by kernel_rfl) rfl ⟨⟨_, rfl, ?_⟩, trivial⟩
         (first | (apply qm; exact rfl; exact rfl; exact ho4; (iterate 6 exact rfl)) | (apply zm; (iterate 11 exact rfl)) | (apply q6; (iterate 11 exact rfl)))
         apply qa
         refine zj (by kernel_rfl) ?_
         exact ⟨rfl, qby P1 g1 g2 g3 g4, hkX.trans ((j9 g3 hle1 g2 P1.h3 g4).trans jc)⟩
      ·rintro ⟨t2, st2, df2⟩ ⟨hd, hp2, hk2⟩
       simp only at hd hp2 hk2
       subst hd
       repeat' (first
        | apply qr
        | apply qe
        | apply qa
        | apply qf
        | apply q9)
       exact qs rfl (zt rfl) ⟨rfl, fun _ => hp2, hk2⟩
end Go.Proofs.YtefmcijohgpfhaaGreatDoor
set_option maxRecDepth 100000
set_option linter.unusedVariables false
namespace Go.Proofs.YtefmcijohgpfhaaGreatDoor
open Go Go.Av Go.RowKit Go.Proofs Go.Pl
structure Ext (n : Nat) (S S' : List AObj) : Prop where
 len : S.length ≤ S'.length
 low : ∀ k, k < n → S'[k]? = S[k]?
 tips : ∀ (t m sz : Nat) (T : TypeId), S[t]? = some (AObj.tip m sz T) → S'[t]? = S[t]?
theorem qia {n : Nat} {S l : List AObj} (h : n ≤ S.length) : Ext n S (S ++ l) := ⟨by simp, fun k hk => List.getElem?_append_left (by omega), fun t m sz T ht => List.getElem?_append_left (lt_of_getElem? ht)⟩
theorem yb {n o : Nat} {S : List AObj} {x : AObj} (h : n ≤ o) (hn : qb1 S[o]?) : Ext n S (S.set o x) := ⟨by simp, fun k hk => List.getElem?_set_ne (by omega), fun t m sz T ht => List.getElem?_set_ne (fun e => by subst e; exact hn _ _ _ ht)⟩
theorem Ext.weak {n m : Nat} {S S' : List AObj} (h : Ext n S S') (hm : m ≤ n) : Ext m S S' := ⟨h.len, fun k hk => h.low k (by omega), h.tips⟩
theorem Ext.trans {n : Nat} {S S' S'' : List AObj} (h : Ext n S S') (k : Ext n S' S'') : Ext n S S'' := ⟨Nat.le_trans h.len k.len, fun i hi => (k.low i hi).trans (h.low i hi), fun t m sz T ht => (k.tips t m sz T ((h.tips t m sz T ht).trans ht)).trans (h.tips t m sz T ht)⟩
theorem qsy (text : List UInt8) (o kb ver n m : Nat) (I : Nat → List UInt8 → List AObj → Prop) (D : List AObj → Prop) (S : List AObj) (hm : S.length = m) (hn : n ≤ m) (ht : text.length < 4294967281) (h0 : I 0 text S)
  (hI : ∀ k rest S', I k rest S' → S'[kb]? = some (.cells ver 9 [Sv text]))
  (hst : ∀ k rest S' S'', Ext n S' S'' → I k rest S' → I k rest S'')
  (hY : ∀ k rest S' cs, I k rest S' → S'[m]? = some (.cells 0 129 cs) → rest ≠ [] → rest.length ≤ text.length → yi E o [qau k text rest] S' fun b S'' => S''[m]? = some (.cells 0 129 cs) ∧ (b = true → I (k + 1) (past 10 rest) S'') ∧ (b = false → D S'')) :
  zr E 113 [.yd o, .bx kb ver 0] S fun r S' => (∃ k, I k [] S') ∨ D S' := by
 subst hm
 refine zp Tryz.func113 rfl (Nat.le_of_ble_eq_true rfl) ?_
 have hb := hI 0 text S h0
 repeat' (first
  | apply qr
  | apply q7
  | apply qe
  | apply qa
  | apply qf
  | (apply jh; exact rfl; exact rfl)
  | (apply q6; (iterate 11 exact rfl))
  | (apply j6; (iterate 3 exact rfl))
  | (apply qao; exact rfl; exact rfl; exact hb; exact rfl; exact rfl))
 refine vy (fun (x : Nat × List UInt8) s => match x with | (k, rest) => ∃ S' at' ta eb, I k rest S' ∧ k + rest.length ≤ text.length ∧ at' = (text.length : Int) - rest.length ∧ S'[S.length]? = some (.cells 0 129 [Iv k, Iv at', Sv ta, Bv eb]) ∧ StA [(0, .yd o), (1, .bx kb ver 0), (3, .bx S.length 0 0), (4, Sv rest)] S' [] s) (fun x => x.2.length) (0, text)
  ⟨_, 0, [], false, hst _ _ _ _ (qia hn) h0, by simp, by simp, zw (k := 0) rfl, vl ⟨rfl, rfl, rfl, rfl, trivial⟩⟩ ?_
 rintro ⟨k, rest⟩ _ ⟨S', _, ta, eb, hi, hle, rfl, hown, t, rfl⟩
 have hb' := hI k rest S' hi
 repeat' (first
  | apply qr
  | apply q7
  | apply qe
  | apply qa
  | apply qn
  | apply qf
  | (apply z1; exact rfl; exact rfl)
  | (apply kw; (iterate 3 exact rfl))
  | (apply qg; exact rfl; first | (apply zd; (first | assumption | omega)) | (apply zf; (first | assumption | omega)) | (apply ze; (first | exact rfl | assumption)) | (apply zg; (first | exact rfl | assumption)) | (apply cd_n <;> intro h) | (apply cd_t; (first | exact rfl | assumption)) | (apply cd_f; (first | exact rfl | assumption)) | (apply cd_d <;> intro h) | (apply cd_s <;> intro h))
  | (apply za; (iterate 3 exact rfl))
  | apply q8
  | apply jp
  | (apply qi; exact Tryz.call36; exact qeb _ _ _ (by omega))
  | (apply qb; exact rfl; (focus first | assumption | (repeat' (first | assumption | exact jl | exact zw rfl | apply zn | apply qh | omega | apply z6))); exact rfl; exact rfl)
  | (apply qm; exact rfl; exact rfl; (focus first | assumption | (repeat' (first | assumption | exact jl | exact zw rfl | apply zn | apply qh | omega | apply z6))); (iterate 6 exact rfl)))
 ·have e1 : Ext n S' ((S'.set S.length (.cells 0 129 [Iv k, Iv ((text.length : Int) - rest.length), Sv (upto 10 rest), Bv eb])).set S.length (.cells 0 129 [Iv k, Iv ((text.length : Int) - rest.length), Sv (upto 10 rest), Bv (decide (10 ∈ rest))])) :=
   (yb hn (qw hown)).trans (yb hn (qw (zn hown)))
  apply qci (o := o) rfl
  refine yi.mono (hY k rest _ _ (hst _ _ _ _ e1 hi) (zn (zn hown)) h (by omega)) ?_
  rintro b S2 ⟨hown2, h1, h2⟩
  show AOps _ _ _ _ _ _ _
  cases b
  ·skip
   repeat' (first
    | apply qa
    | (apply kd; exact rfl)
    | (apply qg; exact rfl; first | (apply zd; (first | assumption | omega)) | (apply zf; (first | assumption | omega)) | (apply ze; (first | exact rfl | assumption)) | (apply zg; (first | exact rfl | assumption)) | (apply cd_n <;> intro h) | (apply cd_t; (first | exact rfl | assumption)) | (apply cd_f; (first | exact rfl | assumption)) | (apply cd_d <;> intro h) | (apply cd_s <;> intro h))
    | apply q9)
   exact qs rfl (y0 rfl) (.inr (h2 rfl))
  ·have hi3 := h1 rfl
   have hb3 := hI _ _ _ hi3
   have hp := xk 10 rest
   have hr0 : 0 < rest.length := List.length_pos_iff.2 h
   have hkb : kb ≠ S.length := fun e => by
    rw [e, hown2] at hb3
    simp at hb3
   repeat' (first
    | apply qr
    | apply qe
    | apply qa
    | apply qn
    | (apply kd; exact rfl)
    | (apply qg; exact rfl; first | (apply zd; (first | assumption | omega)) | (apply zf; (first | assumption | omega)) | (apply ze; (first | exact rfl | assumption)) | (apply zg; (first | exact rfl | assumption)) | (apply cd_n <;> intro h) | (apply cd_t; (first | exact rfl | assumption)) | (apply cd_f; (first | exact rfl | assumption)) | (apply cd_d <;> intro h) | (apply cd_s <;> intro h))
    | (apply j4; (iterate 3 exact rfl))
    | (apply jj; exact rfl; exact rfl; exact z2 (by omega) (by omega))
    | (apply w7; exact rfl; exact rfl; exact z2 (by omega) (by omega))
    | (apply za; (iterate 3 exact rfl))
    | apply q8
    | (apply qb; exact rfl; exact qh hb3 (Ne.symm hkb); exact rfl; exact rfl)
    | (apply qb; exact rfl; (focus first | assumption | (repeat' (first | assumption | exact jl | exact zw rfl | apply zn | apply qh | omega | apply z6))); exact rfl; exact rfl)
    | (apply qm; exact rfl; exact rfl; (focus first | assumption | (repeat' (first | assumption | exact jl | exact zw rfl | apply zn | apply qh | omega | apply z6))); (iterate 6 exact rfl)))
   have e2 : Ext n S2 _ := (yb hn (qw hown2)).trans (yb (x := .cells 0 129 [Iv ((k : Int) + 1), Iv ((text.length : Int) - (past 10 rest).length), Sv (upto 10 rest), Bv (decide (10 ∈ rest))]) hn (qw (zn (y := .cells 0 129 [Iv ((k : Int) + 1), Iv ((text.length : Int) - rest.length), Sv (upto 10 rest), Bv (decide (10 ∈ rest))]) hown2)))
   exact ⟨(k + 1, past 10 rest), ⟨_, _, _, _, hst _ _ _ _ e2 hi3, by omega, rfl, zn (zn hown2), vl ⟨rfl, rfl, rfl, rfl, trivial⟩⟩, by simp only; omega⟩
 ·have hr : rest = [] := Classical.not_not.1 h
  subst hr
  exact qs rfl (y0 rfl) (.inl ⟨k, hi⟩)
@[reducible] def qwb (n : Nat) (F : LoopState → Option Code → AObj) (own : AObj) (I : List AObj → Prop) (D : Code → List AObj → Prop) : Exit → AS → Prop
 | .normal, s => s.st[n]? = some .dfr ∧ s.st[n + 1]? = some (F .busy none) ∧ s.st[n + 2]? = some own ∧ I s.st
 | .ret, s => s.st[n]? = some .dfr ∧ s.st[n + 1]? = some (F .busy none) ∧ s.st[n + 2]? = some own ∧ D .ret s.st
 | .exit id, s => s.st[n]? = some .dfr ∧ s.st[n + 1]? = some (F .busy none) ∧ s.st[n + 2]? = some own ∧ D (.exit id) s.st
 | _, _ => False
theorem jz {N : Nat} {t : Nat → AV} {ps : Array Tmp} {asg body : Code} {F : LoopState → Option Code → AObj} (hF : qfu F N t ps asg body) (ls : LoopState) (pend : Option Code) {x : Option AObj} (h : x = some (F ls pend)) : qb1 x := fun n sz T' e => by
 rw [h, hF] at e
 simp at e
theorem qe1 {N : Nat} {Q : Exit → AS → Prop} {s : AS} {f : Operand} {p : Tmp} {asg body : Code} {S0 : List AObj} {kb ver : Nat} (text : List UInt8) (hst : s.st = S0) (hx : qz N s f = .fn (.func 113) [] [.bx kb ver 0]) (ht : text.length < 4294967281)
  (I : Nat → List UInt8 → List AObj → Prop) (D : Code → List AObj → Prop) (h0 : I 0 text S0)
  (hI : ∀ k rest S, I k rest S → S[kb]? = some (.cells ver 9 [Sv text]))
  (hs1 : ∀ k rest S S', Ext S0.length S S' → I k rest S → I k rest S') (hs2 : ∀ c S S', Ext S0.length S S' → D c S → D c S')
  (hb : ∀ F own rd k rest S, qfu F N s.t #[p] asg body → I k rest S → rest ≠ [] → rest.length ≤ text.length → S[S0.length]? = some .dfr → S[S0.length + 1]? = some (F .ready none) → S[S0.length + 2]? = some own → qb1 (some own) →
   AWp E (some rd) N asg (only fun s1 => s1.st[S0.length + 1]? = some (F .ready none) ∧ s1.df = [] ∧ AWp E (some rd) N body (qwb S0.length F own (I (k + 1) (past 10 rest)) D) ⟨s1.t, s1.st.set (S0.length + 1) (F .busy none), []⟩) ⟨put s.t p (qau k text rest), S, []⟩)
  (hn : ∀ k S, I k [] S → S[S0.length]? = some .dfr → Q .normal ⟨s.t, S, S0.length :: s.df⟩)
  (hd : ∀ c S, D c S → S[S0.length]? = some .dfr → AWp E none N c Q ⟨s.t, S, S0.length :: s.df⟩) : AWp E none N (.rangeFunc f #[p] asg body) Q s := by
 refine qf2 (st := S0) (loc := []) (by rw [hst]; simp) hx Tryz.call113 fun F hF => ?_
 have hl : (S0 ++ ([] ++ [AObj.dfr, F .ready none])).length = S0.length + 2 := by simp
 have g1 : (S0 ++ ([] ++ [AObj.dfr, F .ready none]))[S0.length]? = some .dfr := by simp
 have g2 : (S0 ++ ([] ++ [AObj.dfr, F .ready none]))[S0.length + 1]? = some (F .ready none) := by simp
 have hz : S0.length + (([] : List AObj).length + 1) = S0.length + 1 := by simp
 rw [hz, show S0.length + ([] : List AObj).length = S0.length from rfl]
 refine zr.mono (qsy text (S0.length + 1) kb ver (S0.length + 2) (S0.length + 2) (fun k rest S => I k rest S ∧ S[S0.length]? = some .dfr ∧ S[S0.length + 1]? = some (F .ready none)) (fun S => ∃ c, D c S ∧ S[S0.length]? = some .dfr ∧ S[S0.length + 1]? = some (F .done (some c))) (S0 ++ ([] ++ [.dfr, F .ready none])) hl (Nat.le_refl _) ht ⟨hs1 _ _ _ _ (qia (Nat.le_refl _)) h0, g1, g2⟩ (fun k rest S h => hI k rest S h.1) (fun k rest S S' hE ⟨a, b, c⟩ => ⟨hs1 _ _ _ _ (hE.weak (by omega)) a, (hE.low _ (by omega)).trans b, (hE.low _ (by omega)).trans c⟩) ?_) ?_
 ·rintro k rest S' cs ⟨hi, hd1, hf1⟩ hown hne hle
  refine qi9 hF hf1 rfl fun rd => ?_
  refine (hb F (.cells 0 129 cs) rd k rest S' hF hi hne hle hd1 hf1 hown (qw rfl)).mono fun e s1 hq => ?_
  cases e with
  | normal =>
   obtain ⟨q1, q2, q3⟩ := hq
   refine ⟨q1, q2, q3.mono fun e s2 hq2 => ?_⟩
   cases e with
   | normal =>
    obtain ⟨k1, k2, k3, k4⟩ := hq2
    exact ⟨k2, qh k3 (by omega), fun _ => ⟨hs1 _ _ _ _ (yb (by omega) (jz hF _ _ k2)) k4, qh k1 (by omega), zn k2⟩, nofun⟩
   | ret =>
    obtain ⟨k1, k2, k3, k4⟩ := hq2
    exact ⟨k2, qh k3 (by omega), nofun, fun _ => ⟨_, hs2 _ _ _ (yb (by omega) (jz hF _ _ k2)) k4, qh k1 (by omega), zn k2⟩⟩
   | exit id =>
    obtain ⟨k1, k2, k3, k4⟩ := hq2
    exact ⟨k2, qh k3 (by omega), nofun, fun _ => ⟨_, hs2 _ _ _ (yb (by omega) (jz hF _ _ k2)) k4, qh k1 (by omega), zn k2⟩⟩
   | _ => exact hq2.elim
  | _ => exact hq.elim
 ·rintro r S' (⟨k, hi, hd1, hf1⟩ | ⟨c, hi, hd1, hf1⟩)
  ·exact ⟨.ready, none, nofun, hf1, hn k _ (hs1 _ _ _ _ (yb (by omega) (jz hF _ _ hf1)) hi) (qh hd1 (by omega))⟩
  ·exact ⟨.done, some c, nofun, hf1, hd c _ (hs2 _ _ _ (yb (by omega) (jz hF _ _ hf1)) hi) (qh hd1 (by omega))⟩
end Go.Proofs.YtefmcijohgpfhaaGreatDoor
set_option maxRecDepth 100000
set_option linter.unusedVariables false
namespace Go.Pl
open Go Go.Proofs
def p0 : PSt := ⟨[], 0, false, [], [], [], 0⟩
def runL : Nat → List (qk × Bool) → PSt → Option (Int × Int) × PSt
 | _, [], p => endP p
 | k, (t, e) :: r, p => match (xn p k t e).1 with
  | some x => (some x, p)
  | none => runL (k + 1) r (xn p k t e).2
def vw (text : qk) : Option (Int × Int) × List wl := match (runL 0 (kh text) p0).1 with
 | some e => (some e, [])
 | none => (none, (runL 0 (kh text) p0).2.items)
end Go.Pl
namespace Go.Proofs.YtefmcijohgpfhaaGreatDoor
open Go Go.Av Go.RowKit Go.Proofs Go.Pl
theorem qs2 (x : Option (Int × Int)) : Pure (errP x) := by
 rcases x with _ | ⟨a, n⟩
 ·exact jn _
 ·exact qe5 a n
theorem qqn (f : Fld) : qjp (fldA f) := fun x hx => by
 simp only [AV.cells, List.mem_cons, List.not_mem_nil, or_false] at hx
 rcases hx with rfl | rfl <;> exact jn _
theorem qbc (fs : List Fld) : Pure (jd fs) := qdz fun x hx => by
 obtain ⟨f, _, rfl⟩ := List.mem_map.1 hx
 exact qqn f
theorem qok (x : wl) : qjp (zu x) := fun y hy => by
 simp only [AV.cells, List.mem_cons, List.not_mem_nil, or_false] at hy
 rcases hy with rfl | rfl | rfl
 ·exact jn _
 ·exact jn _
 ·exact qbc _
theorem qph (xs : List wl) : Pure (qfo xs) := qdz fun x hx => by
 obtain ⟨f, _, rfl⟩ := List.mem_map.1 hx
 exact qok f
theorem yl {x y : AV} (hx : Pure x) (hy : Pure y) : Pure (.tu [x, y]) := qcg fun z hz => by
 simp only [List.mem_cons, List.not_mem_nil, or_false] at hz
 rcases hz with rfl | rfl
 ·exact hx
 ·exact hy
def qei (text : qk) : AV := .tu [qfo (vw text).2, errP (vw text).1]
theorem qor (text : qk) : Pure (qei text) := yl (qph _) (qs2 _)
theorem Keep.get {b o k : Nat} {S S' : List AObj} {x : AObj} (h : Keep b o S S') (hx : S[k]? = some x) (hne : k ≠ o) (hc : k < b ∨ qb1 (some x)) : S'[k]? = some x := (h.same k hne (lt_of_getElem? hx) (by rw [hx]; exact hc)).trans hx
theorem qge {n b : Nat} {S S' : List AObj} {sz : Nat} {T : TypeId} {xs : List AV} {c : AV} (hE : Ext n S S') (h : TipC b S sz T xs c) : TipC b S' sz T xs c := by
 rcases h with h | ⟨t, h1, h2, h3⟩
 ·exact .inl h
 ·exact .inr ⟨t, h1, (hE.tips t _ _ _ h2).trans h2, h3⟩
theorem qqd {n b o : Nat} {p : PSt} {S S' : List AObj} (hE : Ext n S S') (ho : o < n) (h : Par b o p S) : Par b o p S' := by
 obtain ⟨c1, c2, c3, c4, P⟩ := h
 have := hE.len
 exact ⟨c1, c2, c3, c4, P.lt, Nat.le_trans P.le this, (hE.low o ho).trans P.ob, qge hE P.h1, qge hE P.h2, qge hE P.h3, qge hE P.h4, P.ne⟩
theorem zv {S : List AObj} {o k : Nat} {x : AObj} (h : k ≠ o) : (S.set o x)[k]? = S[k]? := List.getElem?_set_ne (Ne.symm h)
theorem ja : qb1 (some .dfr) := fun n sz T e => by simp at e
theorem qws : PB 0 p0 := ⟨by omega, by simp [p0], by simp [p0], by simp [p0], by simp [p0], by simp [p0], by simp [p0], by simp [p0], by simp [p0]⟩
structure qdu (st : List AObj) (text : qk) (r1 r2 : AV) (S : List AObj) : Prop where
 low : ∀ j, j < st.length → S[j]? = st[j]?
 c0 : S[st.length + 0]? = some (.cells 0 109 [r1])
 c1 : S[st.length + 1]? = some (.cells 0 25 [r2])
 c3 : S[st.length + 3]? = some (.cells 0 144 [.bx (st.length + 2) 0 0])
 c4 : S[st.length + 4]? = some (.cells 0 9 [Sv text])
theorem qdu.ext {st : List AObj} {text : qk} {r1 r2 : AV} {S S' : List AObj} (h : qdu st text r1 r2 S) (hE : Ext (st.length + 5) S S') : qdu st text r1 r2 S' :=
 ⟨fun j hj => (hE.low j (by omega)).trans (h.low j hj), (hE.low _ (by omega)).trans h.c0, (hE.low _ (by omega)).trans h.c1, (hE.low _ (by omega)).trans h.c3, (hE.low _ (by omega)).trans h.c4⟩
theorem qdu.keep {st : List AObj} {text : qk} {r1 r2 : AV} {S S' : List AObj} (h : qdu st text r1 r2 S) (hE : Keep (st.length + 5) (st.length + 2) S S') : qdu st text r1 r2 S' :=
 ⟨fun j hj => by
  rw [← h.low j hj]
  have := lt_of_getElem? h.c0
  exact hE.same j (by omega) (by omega) (.inl (by omega)), hE.get h.c0 (by omega) (.inl (by omega)), hE.get h.c1 (by omega) (.inl (by omega)), hE.get h.c3 (by omega) (.inl (by omega)), hE.get h.c4 (by omega) (.inl (by omega))⟩
set_option maxHeartbeats 8000000 in
theorem qm3 (text : qk) (st : List AObj) (hl : text.length ≤ 60000) : zr E 57 [Sv text] st fun r st' => r = qei text ∧ st' = st := by
 refine z4 (qor text) (zp Tryz.func57 rfl (Nat.le_of_ble_eq_true rfl) ?_)
 repeat' (first
  | apply qr
  | apply q7
  | apply qe
  | apply qa
  | apply qn
  | (apply qt; (iterate 3 exact rfl))
  | (apply qg; exact rfl; first | (apply zd; (first | assumption | omega)) | (apply zf; (first | assumption | omega)) | (apply ze; (first | exact rfl | assumption)) | (apply zg; (first | exact rfl | assumption)) | (apply cd_n <;> intro h) | (apply cd_t; (first | exact rfl | assumption)) | (apply cd_f; (first | exact rfl | assumption)) | (apply cd_d <;> intro h) | (apply cd_s <;> intro h))
  | (apply j4; (iterate 3 exact rfl))
  | (apply jh; exact rfl; exact rfl)
  | (apply ky; (iterate 4 exact rfl))
  | (apply q6; (iterate 11 exact rfl))
  | (apply j6; (iterate 3 exact rfl))
  | apply q8
  | (refine qi Tryz.call72 (qhf _ _ _ _ rfl) ?_))
 have hSl : (st ++ [AObj.cells 0 109 [jm], .cells 0 25 [.v .nilIface], .cells 0 148 [jm, Iv 0, Bv false, jm, jm, jm, Iv 0], .cells 0 144 [.bx (st.length + 2) 0 0], .cells 0 9 [Sv text]]).length = st.length + 5 := by simp
 have h00 : qdu st text jm (.v .nilIface) (st ++ [AObj.cells 0 109 [jm], .cells 0 25 [.v .nilIface], .cells 0 148 [jm, Iv 0, Bv false, jm, jm, jm, Iv 0], .cells 0 144 [.bx (st.length + 2) 0 0], .cells 0 9 [Sv text]]) :=
  ⟨fun j hj => List.getElem?_append_left hj, zw rfl, zw rfl, zw rfl, zw rfl⟩
 have hP0 : Par (st.length + 5) (st.length + 2) p0 (st ++ [AObj.cells 0 109 [jm], .cells 0 25 [.v .nilIface], .cells 0 148 [jm, Iv 0, Bv false, jm, jm, jm, Iv 0], .cells 0 144 [.bx (st.length + 2) 0 0], .cells 0 9 [Sv text]]) :=
  ⟨jm, jm, jm, jm, by omega, by omega, zw rfl, qa5 .., qa5 .., qa5 .., qa5 .., nofun⟩
 generalize hS0 : st ++ [AObj.cells 0 109 [jm], .cells 0 25 [.v .nilIface], .cells 0 148 [jm, Iv 0, Bv false, jm, jm, jm, Iv 0], .cells 0 144 [.bx (st.length + 2) 0 0], .cells 0 9 [Sv text]] = S0 at hSl h00 hP0
 refine wf [(2, .bx (st.length + 0) 0 0), (3, .bx (st.length + 1) 0 0), (4, .bx (st.length + 3) 0 0), (15, .fn (.func 113) [] [.bx (st.length + 4) 0 0])] S0 [] ⟨rfl, rfl, rfl, rfl, trivial⟩ hS0 rfl fun t => ?_
 refine qe1 (S0 := S0) text rfl rfl (by omega) (fun k rest S => qdu st text jm (.v .nilIface) S ∧ ∃ p, Par (st.length + 5) (st.length + 2) p S ∧ PB (4 * k) p ∧ k + rest.length ≤ text.length ∧ runL 0 (kh text) p0 = runL k (kh rest) p)
  (fun c S => ∃ a m, c = .ret ∧ (runL 0 (kh text) p0).1 = some (a, m) ∧ qdu st text jm (qcc a m) S) ⟨h00, p0, hP0, qws, by omega, rfl⟩
  (fun k rest S h => h.1.c4) (fun k rest S S' hE ⟨h1, p, h2, h3⟩ => ⟨h1.ext (by rw [← hSl]; exact hE), p, qqd hE (by omega) h2, h3⟩) (fun c S S' hE ⟨a, m, h1, h2, h3⟩ => ⟨a, m, h1, h2, h3.ext (by rw [← hSl]; exact hE)⟩) ?_ ?_ ?_
 ·rintro F own rd k rest S hF ⟨hi, p, hp, hB, hkl, hrun⟩ hne hle hd1 hf1 hown hnt
  rw [hSl] at hd1 hf1 hown ⊢
  have hlen := lt_of_getElem? hown
  have hcons := ym hne
  have hu := wv 10 rest
  have hr0 : 0 < rest.length := List.length_pos_iff.2 hne
  have hpl := xk 10 rest
  have hc3 := hi.c3
  repeat' (first
   | apply qe
   | apply qa
   | (apply x7 (st := S); exact rfl; exact rfl)
   | (apply qm; exact rfl; exact rfl; (focus first | assumption | (repeat' (first | assumption | exact jl | exact zw rfl | apply zn | apply qh | omega | apply z6))); (iterate 6 exact rfl)))
  refine ⟨?_, rfl, ?_⟩
  ·((focus first | assumption | (repeat' (first | assumption | exact jl | exact zw rfl | apply zn | apply qh | omega | apply z6))))
  repeat' (first
   | apply qr
   | apply q7
   | apply qe
   | (apply qb; exact rfl; (focus first | assumption | (repeat' (first | assumption | exact jl | exact zw rfl | apply zn | apply qh | omega | apply z6))); exact rfl; exact rfl))
  have hE1 : Ext (st.length + 5) S (((S ++ [AObj.cells 0 129 [Iv 0, Iv 0, Sv [], Bv false]]).set S.length (.cells 0 129 (qau k text rest).cells)).set (st.length + 5 + 1) (F .busy none)) := ((qia (by omega)).trans (yb (by omega) (qw jl))).trans (yb (by omega) (jz hF .ready none (by (focus first | assumption | (repeat' (first | assumption | exact jl | exact zw rfl | apply zn | apply qh | omega | apply z6))))))
  apply xp Tryz.call92
  refine zr.mono (st := ((S ++ [AObj.cells 0 129 [Iv 0, Iv 0, Sv [], Bv false]]).set S.length (.cells 0 129 (qau k text rest).cells)).set (st.length + 5 + 1) (F .busy none)) ((qve (st.length + 5) (st.length + 2) (4 * k) p _ k ((text.length : Int) - rest.length) (upto 10 rest) (decide (10 ∈ rest)) (qqd hE1 (by omega) hp) hB (by omega) (by omega))) ?_
  rintro _ S2 ⟨rfl, hp2, hk2⟩
  have hi2 := (hi.ext hE1).keep hk2
  have hd2 : S2[st.length + 5]? = some .dfr := hk2.get (by (focus first | assumption | (repeat' (first | assumption | exact jl | exact zw rfl | apply zn | apply qh | omega | apply z6)))) (by omega) (.inr ja)
  have hf2 : S2[st.length + 5 + 1]? = some (F .busy none) := hk2.get (by (focus first | assumption | (repeat' (first | assumption | exact jl | exact zw rfl | apply zn | apply qh | omega | apply z6)))) (by omega) (.inr (jz hF _ _ rfl))
  have hown2 : S2[st.length + 5 + 2]? = some own := hk2.get (by (focus first | assumption | (repeat' (first | assumption | exact jl | exact zw rfl | apply zn | apply qh | omega | apply z6)))) (by omega) (.inr hnt)
  have hlen2 := lt_of_getElem? hown2
  show AOps _ _ _ _ _ _ _
  cases hah : (xn p k (upto 10 rest) (decide (10 ∈ rest))).1 with
  | some e =>
   obtain ⟨a, m⟩ := e
   have hre : (runL 0 (kh text) p0).1 = some (a, m) := by rw [hrun, hcons]; simp only [runL, hah]
   rw [qez rfl]
   have c0 := hi2.c0
   have c1 := hi2.c1
   repeat' (first
    | apply qr
    | apply qe
    | apply qa
    | apply qn
    | apply qf
    | (apply qg; exact rfl; first | (apply zd; (first | assumption | omega)) | (apply zf; (first | assumption | omega)) | (apply ze; (first | exact rfl | assumption)) | (apply zg; (first | exact rfl | assumption)) | (apply cd_n <;> intro h) | (apply cd_t; (first | exact rfl | assumption)) | (apply cd_f; (first | exact rfl | assumption)) | (apply cd_d <;> intro h) | (apply cd_s <;> intro h))
    | (apply ku; exact rfl; exact rfl)
    | apply q9
    | (apply qm; exact rfl; exact rfl; (focus first | assumption | (repeat' (first | assumption | exact jl | exact zw rfl | apply zn | apply qh | omega | apply z6))); (iterate 6 exact rfl)))
   exact ⟨(by (focus first | assumption | (repeat' (first | assumption | exact jl | exact zw rfl | apply zn | apply qh | omega | apply z6)))), (by (focus first | assumption | (repeat' (first | assumption | exact jl | exact zw rfl | apply zn | apply qh | omega | apply z6)))), (by (focus first | assumption | (repeat' (first | assumption | exact jl | exact zw rfl | apply zn | apply qh | omega | apply z6)))), a, m, rfl, hre, ⟨fun j hj => (zv (by omega)).trans ((zv (by omega)).trans (hi2.low j hj)), (by (focus first | assumption | (repeat' (first | assumption | exact jl | exact zw rfl | apply zn | apply qh | omega | apply z6)))), (by (focus first | assumption | (repeat' (first | assumption | exact jl | exact zw rfl | apply zn | apply qh | omega | apply z6)))), qh (qh hi2.c3 (by omega)) (by omega), qh (qh hi2.c4 (by omega)) (by omega)⟩⟩
  | none =>
   have hB2 := qup (no := k) (text := upto 10 rest) (ended := decide (10 ∈ rest)) hB (by omega) (by omega)
   repeat' (first
    | apply qr
    | apply qe
    | apply qa
    | apply qn
    | apply qf
    | (apply qg; exact rfl; first | (apply zd; (first | assumption | omega)) | (apply zf; (first | assumption | omega)) | (apply ze; (first | exact rfl | assumption)) | (apply zg; (first | exact rfl | assumption)) | (apply cd_n <;> intro h) | (apply cd_t; (first | exact rfl | assumption)) | (apply cd_f; (first | exact rfl | assumption)) | (apply cd_d <;> intro h) | (apply cd_s <;> intro h))
    | (apply j3; exact rfl; exact rfl)
    | apply q8)
   exact ⟨hd2, hf2, hown2, hi2, _, hp2 hah, hB2, by omega, by rw [hrun, hcons]; simp only [runL, hah]⟩
 ·rintro k S ⟨hi, p, hp, hB, hkl, hrun⟩ hd1
  have hre : runL k (kh []) p = endP p := by rw [ya]; rfl
  rw [hre] at hrun
  rw [hSl] at hd1 ⊢
  have hc3 := hi.c3
  repeat' (first
   | apply qr
   | apply qe
   | (apply qb; exact rfl; (focus first | assumption | (repeat' (first | assumption | exact jl | exact zw rfl | apply zn | apply qh | omega | apply z6))); exact rfl; exact rfl))
  refine xp Tryz.call93 ((qta (st.length + 5) (st.length + 2) (4 * k) p _ hp hB (by omega)).mono ?_)
  rintro _ S2 ⟨rfl, hp2, hk2⟩
  have hi2 := hi.keep hk2
  have hd2 : S2[st.length + 5]? = some .dfr := hk2.get hd1 (by omega) (.inr ja)
  have hlen2 := lt_of_getElem? hd2
  have c0 := hi2.c0
  have c1 := hi2.c1
  have c3 := hi2.c3
  show AOps _ _ _ _ _ _ _
  cases hah : (endP p).1 with
  | some e =>
   obtain ⟨a, m⟩ := e
   have hpf : vw text = (some (a, m), []) := by unfold vw; rw [hrun, hah]
   rw [qez rfl]
   repeat' (first
    | apply qr
    | apply qe
    | apply qa
    | apply qn
    | apply qf
    | (apply qg; exact rfl; first | (apply zd; (first | assumption | omega)) | (apply zf; (first | assumption | omega)) | (apply ze; (first | exact rfl | assumption)) | (apply zg; (first | exact rfl | assumption)) | (apply cd_n <;> intro h) | (apply cd_t; (first | exact rfl | assumption)) | (apply cd_f; (first | exact rfl | assumption)) | (apply cd_d <;> intro h) | (apply cd_s <;> intro h))
    | (apply ku; exact rfl; exact rfl)
    | apply q9
    | (apply qm; exact rfl; exact rfl; (focus first | assumption | (repeat' (first | assumption | exact jl | exact zw rfl | apply zn | apply qh | omega | apply z6))); (iterate 6 exact rfl)))
   show ARet _ _ _ _
   refine qbz (o := st.length + 5) rfl ?_ ?_
   ·((focus first | assumption | (repeat' (first | assumption | exact jl | exact zw rfl | apply zn | apply qh | omega | apply z6))))
   refine qs rfl (kq ?_ (vj (vd 3) (kp (qcc a m)))) ⟨?_, qcb ?_ fun j hj => (zv (by omega)).trans ((zv (by omega)).trans ((zv (by omega)).trans (hi2.low j hj)))⟩
   ·(apply qdm; exact rfl; exact rfl; (focus first | assumption | (repeat' (first | assumption | exact jl | exact zw rfl | apply zn | apply qh | omega | apply z6))); (iterate 3 exact rfl); (focus first | assumption | (repeat' (first | assumption | exact jl | exact zw rfl | apply zn | apply qh | omega | apply z6))); exact rfl; exact rfl)
   rotate_left
   ·(first | (simp; omega) | (simp [AS.put]; omega))
   unfold qei
   rw [hpf]
   rfl
  | none =>
   have hpf : vw text = (none, (endP p).2.items) := by unfold vw; rw [hrun, hah]
   obtain ⟨d1, d2, d3, d4, P2⟩ := hp2 hah
   have hob : S2[st.length + 2]? = some (.cells 0 148 [d1, Iv (endP p).2.frm, Bv (endP p).2.full, d2, d3, d4, Iv (endP p).2.records]) := P2.ob
   have hw := jb P2.h2
   rcases P2.h2 with ⟨hx, rfl⟩ | ⟨t2, rfl, ht2, hb2⟩
   all_goals
    repeat' (first
     | apply qr
     | apply qe
     | apply qa
     | apply qn
     | apply qf
     | (apply qg; exact rfl; first | (apply zd; (first | assumption | omega)) | (apply zf; (first | assumption | omega)) | (apply ze; (first | exact rfl | assumption)) | (apply zg; (first | exact rfl | assumption)) | (apply cd_n <;> intro h) | (apply cd_t; (first | exact rfl | assumption)) | (apply cd_f; (first | exact rfl | assumption)) | (apply cd_d <;> intro h) | (apply cd_s <;> intro h))
     | (apply j3; exact rfl; exact rfl)
     | (apply za; (iterate 3 exact rfl))
     | (apply ki; exact rfl; exact rfl)
     | apply q8
     | apply q9
     | (apply qb; exact rfl; (focus first | assumption | (repeat' (first | assumption | exact jl | exact zw rfl | apply zn | apply qh | omega | apply z6))); exact rfl; exact rfl)
     | (apply qm; exact rfl; exact rfl; (focus first | assumption | (repeat' (first | assumption | exact jl | exact zw rfl | apply zn | apply qh | omega | apply z6))); (iterate 6 exact rfl)))
    show ARet _ _ _ _
    refine qbz (o := st.length + 5) rfl ?_ ?_
    ·((focus first | assumption | (repeat' (first | assumption | exact jl | exact zw rfl | apply zn | apply qh | omega | apply z6))))
    refine qs rfl (kq ?_ (vj hw (kp (.v .nilIface)))) ⟨?_, qcb ?_ fun j hj => (zv (by omega)).trans ((zv (by omega)).trans ((zv (by omega)).trans (hi2.low j hj)))⟩
    ·(apply qdm; exact rfl; exact rfl; (focus first | assumption | (repeat' (first | assumption | exact jl | exact zw rfl | apply zn | apply qh | omega | apply z6))); (iterate 3 exact rfl); (focus first | assumption | (repeat' (first | assumption | exact jl | exact zw rfl | apply zn | apply qh | omega | apply z6))); exact rfl; exact rfl)
    rotate_left
    ·(first | (simp; omega) | (simp [AS.put]; omega))
    unfold qei
    rw [hpf]
    rfl
 ·rintro _ S ⟨a, m, rfl, hre, hi⟩ hd1
  have hpf : vw text = (some (a, m), []) := by unfold vw; rw [hre]
  rw [hSl] at hd1 ⊢
  have hlen2 := lt_of_getElem? hd1
  have c0 := hi.c0
  have c1 := hi.c1
  apply q9
  show ARet _ _ _ _
  refine qbz (o := st.length + 5) rfl ?_ ?_
  ·((focus first | assumption | (repeat' (first | assumption | exact jl | exact zw rfl | apply zn | apply qh | omega | apply z6))))
  refine qs rfl (kq ?_ (vj (vd 3) (kp (qcc a m)))) ⟨?_, qcb ?_ fun j hj => (zv (by omega)).trans (hi.low j hj)⟩
  ·(apply qdm; exact rfl; exact rfl; (focus first | assumption | (repeat' (first | assumption | exact jl | exact zw rfl | apply zn | apply qh | omega | apply z6))); (iterate 3 exact rfl); (focus first | assumption | (repeat' (first | assumption | exact jl | exact zw rfl | apply zn | apply qh | omega | apply z6))); exact rfl; exact rfl)
  rotate_left
  ·(first | (simp; omega) | (simp [AS.put]; omega))
  unfold qei
  rw [hpf]
  rfl
end Go.Proofs.YtefmcijohgpfhaaGreatDoor
set_option maxRecDepth 100000
set_option linter.unusedVariables false
namespace Go.Proofs.YtefmcijohgpfhaaGreatDoor
open Go Go.RowKit Go.Extern.Stop Go.Stop Go.Extern Go.Proofs
theorem asT.valueOf27 (t : Addr) (w : World) : (ReflectliteValue.unpack (.iface 194 (.pointer (some t)))).run Tryz.prog w
  = .ok (.agg #[.pointer (some ⟨9, 194, none⟩), .pointer (some ⟨w.heap.size, 0, none⟩), .int .u64 150]) (w.alloc (.cells #[.pointer (some t)] 194)) := by kernel_rfl
theorem asT.type27 (a : Addr) (w : World) : (ReflectliteValue.methodAny (ReflectliteValue.valueError "reflectlite.Value.Type" 0) (fun t _ _ _ => ReflectliteType.toType t) #[.agg #[.pointer (some ⟨9, 194, none⟩), .pointer (some a), .int .u64 150]]).run Tryz.prog w
  = .ok (.iface 244 (.agg #[.pointer (some ⟨9, 194, none⟩)])) w := by kernel_rfl
theorem asT.methodKind (h : Value) (w : World) : (Go.method 401 244 (.agg #[h]) "Kind").run Tryz.prog w = .ok (239, h) w := by kernel_rfl
theorem asT.kind27 (w : World) : ((ReflectliteType.abiMethod fun t => (fun a : Nat => Value.int IntKind.u8 (a : Int)) <$> Rtype.kind t) #[.pointer (some ⟨9, 194, none⟩)]).run Tryz.prog w = .ok (.int .u8 22) w := by kernel_rfl
theorem asT.kind25 (w : World) : ((ReflectliteType.abiMethod fun t => (fun a : Nat => Value.int IntKind.u8 (a : Int)) <$> Rtype.kind t) #[.pointer (some ⟨9, 103, none⟩)]).run Tryz.prog w = .ok (.int .u8 22) w := by kernel_rfl
theorem rlm (z : Sem Value) (f : TypeId → Addr → Nat → Nat → Sem Value) (v : Value) :
  ReflectliteValue.method z f #[v] = (do match ← ReflectliteValue.parts v with | none => z | some (t, a, fl) => f t a fl (fl % 32)) := rfl
theorem asT.parts27 (a : Addr) (w : World) : (ReflectliteValue.parts (.agg #[.pointer (some ⟨9, 194, none⟩), .pointer (some a), .int .u64 150])).run Tryz.prog w = .ok (some (194, a, 150)) w := by kernel_rfl
theorem asT.isNil27 (a p : Addr) (W : World) (ha : W.cell? a = some (.pointer (some p))) :
  (ReflectliteValue.method (ReflectliteValue.valueError "reflectlite.Value.IsNil" 0) ReflectliteValue.isNil #[.agg #[.pointer (some ⟨9, 194, none⟩), .pointer (some a), .int .u64 150]]).run Tryz.prog W = .ok (.bool false) W := by
 rw [rlm]
 simp only [Sem.run_bind, asT.parts27, Result.andThen]
 simp [ReflectliteValue.isNil, loadVar, isAgg, underlying, Tryz.underlying194, ha, Result.andThen]
theorem asT.methodElem (h : Value) (w : World) : (Go.method 401 244 (.agg #[h]) "Elem").run Tryz.prog w = .ok (256, .agg #[h]) w := by kernel_rfl
theorem asT.methodImplements (h : Value) (w : World) : (Go.method 401 244 (.agg #[h]) "Implements").run Tryz.prog w = .ok (257, .agg #[h]) w := by kernel_rfl
theorem asT.methodAssignableTo (h : Value) (w : World) : (Go.method 401 244 (.agg #[h]) "AssignableTo").run Tryz.prog w = .ok (254, .agg #[h]) w := by kernel_rfl
theorem asT.elem27 (w : World) : (ReflectliteType.method ReflectliteType.elem #[.agg #[.pointer (some ⟨9, 194, none⟩)]]).run Tryz.prog w = .ok (.iface 244 (.agg #[.pointer (some ⟨9, 103, none⟩)])) w := by kernel_rfl
theorem asT.implements25 (w : World) : (ReflectliteType.relation "Implements" ReflectliteType.implements_ #[.agg #[.pointer (some ⟨9, 103, none⟩)], .iface 244 (.agg #[.pointer (some ⟨9, 25, none⟩)])]).run Tryz.prog w = .ok (.bool true) w := by kernel_rfl
theorem asT.typeOf25 (v : Value) (w : World) : (ReflectliteType.typeOf #[.iface 103 v]).run Tryz.prog w = .ok (.iface 244 (.agg #[.pointer (some ⟨9, 103, none⟩)])) w := by kernel_rfl
theorem asT.assignable25 (w : World) : (ReflectliteType.relation "AssignableTo" ReflectliteType.assignableTo #[.agg #[.pointer (some ⟨9, 103, none⟩)], .iface 244 (.agg #[.pointer (some ⟨9, 103, none⟩)])]).run Tryz.prog w = .ok (.bool true) w := by kernel_rfl
theorem asT.valueOf25 (e : Addr) (w : World) : (ReflectliteValue.unpack (.iface 103 (.pointer (some e)))).run Tryz.prog w
  = .ok (.agg #[.pointer (some ⟨9, 103, none⟩), .pointer (some ⟨w.heap.size, 0, none⟩), .int .u64 150]) (w.alloc (.cells #[.pointer (some e)] 103)) := by kernel_rfl
theorem asT.elemOf27 (w : World) : (Rtype.elem? 194).run Tryz.prog w = .ok (some 103) w := by kernel_rfl
theorem asT.mk25 (p : Addr) (w : World) : (ReflectliteValue.mk 103 p ReflectliteValue.flagAddr).run Tryz.prog w = .ok (.agg #[.pointer (some ⟨9, 103, none⟩), .pointer (some p), .int .u64 406]) w := by kernel_rfl
theorem asT.elemV27 (a p : Addr) (W : World) (ha : W.cell? a = some (.pointer (some p))) :
  (ReflectliteValue.method (ReflectliteValue.valueError "reflectlite.Value.Elem" 0) ReflectliteValue.elem #[.agg #[.pointer (some ⟨9, 194, none⟩), .pointer (some a), .int .u64 150]]).run Tryz.prog W
   = .ok (.agg #[.pointer (some ⟨9, 103, none⟩), .pointer (some p), .int .u64 406]) W := by
 rw [rlm]
 simp only [Sem.run_bind, asT.parts27, Result.andThen]
 simp [ReflectliteValue.elem, loadVar, isAgg, underlying, Tryz.underlying194, ha, Result.andThen, asT.elemOf27, asT.mk25]
theorem rls (v x : Value) : ReflectliteValue.set #[v, x] = (do
  let (some (dst, a, fl), some (src, b, _)) := (← ReflectliteValue.parts v, ← ReflectliteValue.parts x)
   | unsupported (.noEntry "extern/(internal/reflectlite.Value).Set.zeroValue")
  if fl / ReflectliteValue.flagAddr % 2 == 0 then unsupported (.noEntry "extern/(internal/reflectlite.Value).Set.unaddressable")
  let val ← loadVar src b
  if ← Rtype.directlyAssignable dst src then storeVar dst a val
  else if ← Rtype.implements dst src then
   if (← Rtype.kind src) == 20 then
    match val with
    | .nilIface => unsupported (.noEntry "extern/reflectlite: a nil value of one interface type handed on as a value of another")
    | _ => storeVar dst a val
   else storeVar dst a (.iface src val)
  else panicString ("reflectlite.Set: value of type " ++ (← Rtype.spelt src) ++ " is not assignable to type " ++ (← Rtype.spelt dst))
  pure (.tuple #[])) := rfl
theorem asT.parts25a (a : Addr) (w : World) : (ReflectliteValue.parts (.agg #[.pointer (some ⟨9, 103, none⟩), .pointer (some a), .int .u64 406])).run Tryz.prog w = .ok (some (103, a, 406)) w := by kernel_rfl
theorem asT.parts25 (a : Addr) (w : World) : (ReflectliteValue.parts (.agg #[.pointer (some ⟨9, 103, none⟩), .pointer (some a), .int .u64 150])).run Tryz.prog w = .ok (some (103, a, 150)) w := by kernel_rfl
theorem asT.direct25 (w : World) : (Rtype.directlyAssignable 103 103).run Tryz.prog w = .ok true w := by kernel_rfl
theorem asT.set25 (ta b e : Addr) (old : Value) (W : World) (hb : W.cell? b = some (.pointer (some e))) (ht : W.cell? ta = some old) (hf : W.frozen? ta = false) :
  (ReflectliteValue.set #[.agg #[.pointer (some ⟨9, 103, none⟩), .pointer (some ta), .int .u64 406], .agg #[.pointer (some ⟨9, 103, none⟩), .pointer (some b), .int .u64 150]]).run Tryz.prog W
   = .ok (.tuple #[]) (W.setCell ta (.pointer (some e))) := by
 rw [rls]
 simp only [Sem.run_bind, asT.parts25a, asT.parts25, Result.andThen]
 simp [ReflectliteValue.flagAddr, loadVar, isAgg, underlying, Tryz.underlying103, hb, Result.andThen, asT.direct25, storeVar, Value.cells, storeCells, Addr.add]
 rw [run_store Tryz.prog W ta _ _ (by rfl)]
 simp [ht, hf]
set_option maxHeartbeats 4000000 in
theorem qwa (e t : Addr) (old : Value) (w : World) (hg : w.cell? ⟨3, 0, none⟩ = some (.iface 244 (.agg #[.pointer (some ⟨9, 25, none⟩)]))) (ht0 : w.cell? t = some old) (hf0 : w.frozen? t = false) :
  Calls Tryz.prog 158 #[.iface 103 (.pointer (some e)), .iface 194 (.pointer (some t))] w fun ev w' => ev = .returned (.bool true) ∧ w' = ((((w.alloc (.cells #[.pointer (some t)] 194)).alloc (.cells #[.pointer (some ⟨9, 194, none⟩), .pointer (some ⟨w.heap.size, 0, none⟩), .int .u64 150] 213)).alloc (.cells #[.pointer (some ⟨9, 194, none⟩), .pointer (some ⟨w.heap.size, 0, none⟩), .int .u64 150] 213)).alloc (.cells #[.pointer (some e)] 103)).setCell t (.pointer (some e)) := by
 have h6 := @run_callFunc_extern Tryz.prog 177 _ (fun args => ReflectliteValue.unpack (args.getD 0 (.tuple #[]))) Tryz.func177 (by kernel_rfl) (by kernel_rfl) (by kernel_rfl) (by kernel_rfl)
 have h7 := @run_callFunc_extern Tryz.prog 178 _ (ReflectliteValue.methodAny (ReflectliteValue.valueError "reflectlite.Value.Type" 0) (fun t _ _ _ => ReflectliteType.toType t)) Tryz.func178 (by kernel_rfl) (by kernel_rfl) (by kernel_rfl) (by kernel_rfl)
 have h8 := @run_callFunc_extern Tryz.prog 179 _ (ReflectliteValue.method (ReflectliteValue.valueError "reflectlite.Value.IsNil" 0) ReflectliteValue.isNil) Tryz.func179 (by kernel_rfl) (by kernel_rfl) (by kernel_rfl) (by kernel_rfl)
 have h27 := @run_callFunc_extern Tryz.prog 239 _ (ReflectliteType.abiMethod fun t => do pure (.int .u8 (← Rtype.kind t))) Tryz.func239 (by kernel_rfl) (by kernel_rfl) (by kernel_rfl) (by kernel_rfl)
 have h37 := @run_callFunc_extern Tryz.prog 256 _ (ReflectliteType.method ReflectliteType.elem) Tryz.func256 (by kernel_rfl) (by kernel_rfl) (by kernel_rfl) (by kernel_rfl)
 have h38 := @run_callFunc_extern Tryz.prog 257 _ (ReflectliteType.relation "Implements" ReflectliteType.implements_) Tryz.func257 (by kernel_rfl) (by kernel_rfl) (by kernel_rfl) (by kernel_rfl)
 have h10 := @run_callFunc_extern Tryz.prog 202 _ ReflectliteType.typeOf Tryz.func202 (by kernel_rfl) (by kernel_rfl) (by kernel_rfl) (by kernel_rfl)
 have h35 := @run_callFunc_extern Tryz.prog 254 _ (ReflectliteType.relation "AssignableTo" ReflectliteType.assignableTo) Tryz.func254 (by kernel_rfl) (by kernel_rfl) (by kernel_rfl) (by kernel_rfl)
 have h11 := @run_callFunc_extern Tryz.prog 203 _ (ReflectliteValue.method (ReflectliteValue.valueError "reflectlite.Value.Elem" 0) ReflectliteValue.elem) Tryz.func203 (by kernel_rfl) (by kernel_rfl) (by kernel_rfl) (by kernel_rfl)
 have h12 := @run_callFunc_extern Tryz.prog 204 _ ReflectliteValue.set Tryz.func204 (by kernel_rfl) (by kernel_rfl) (by kernel_rfl) (by kernel_rfl)
 have tO := asT.typeOf25
 have mA := asT.methodAssignableTo
 have a25 := asT.assignable25
 have v25 := asT.valueOf25
 have f6 := asT.valueOf27
 have f7 := asT.type27
 have mK := asT.methodKind
 have mE := asT.methodElem
 have mI := asT.methodImplements
 have k27 := asT.kind27
 have k25 := asT.kind25
 have e27 := asT.elem27
 have i25 := asT.implements25
 have n8 := asT.isNil27 ⟨w.heap.size, 0, none⟩ t ((w.alloc (.cells #[.pointer (some t)] 194)).alloc (.cells #[.pointer (some ⟨9, 194, none⟩), .pointer (some ⟨w.heap.size, 0, none⟩), .int .u64 150] 213)) (by simp)
 have hlt : 3 < w.heap.size := by
  rcases Nat.lt_or_ge 3 w.heap.size with h | h
  ·exact h
  ·simp [World.cell?, Array.getElem?_eq_none h] at hg
 have hg2 : ((w.alloc (.cells #[.pointer (some t)] 194)).alloc (.cells #[.pointer (some ⟨9, 194, none⟩), .pointer (some ⟨w.heap.size, 0, none⟩), .int .u64 150] 213)).cell? ⟨3, 0, none⟩ = some (.iface 244 (.agg #[.pointer (some ⟨9, 25, none⟩)])) := by
  rw [World.cell?_alloc_lt _ _ ⟨3, 0, none⟩ (by simp; omega), World.cell?_alloc_lt _ _ ⟨3, 0, none⟩ hlt]; exact hg
 have htl : t.block < w.heap.size := by
  rcases Nat.lt_or_ge t.block w.heap.size with h | h
  ·exact h
  ·simp [World.cell?, Array.getElem?_eq_none h] at ht0
 have el := asT.elemV27 ⟨w.heap.size, 0, none⟩ t (((w.alloc (.cells #[.pointer (some t)] 194)).alloc (.cells #[.pointer (some ⟨9, 194, none⟩), .pointer (some ⟨w.heap.size, 0, none⟩), .int .u64 150] 213)).alloc (.cells #[.pointer (some ⟨9, 194, none⟩), .pointer (some ⟨w.heap.size, 0, none⟩), .int .u64 150] 213)) (by rw [World.cell?_alloc_lt _ _ ⟨w.heap.size, 0, none⟩ (by simp; omega)]; simp)
 have st := asT.set25 t ⟨w.heap.size + 1 + 1 + 1, 0, none⟩ e old ((((w.alloc (.cells #[.pointer (some t)] 194)).alloc (.cells #[.pointer (some ⟨9, 194, none⟩), .pointer (some ⟨w.heap.size, 0, none⟩), .int .u64 150] 213)).alloc (.cells #[.pointer (some ⟨9, 194, none⟩), .pointer (some ⟨w.heap.size, 0, none⟩), .int .u64 150] 213)).alloc (.cells #[.pointer (some e)] 103))
  (by rw [World.cell?_alloc_at _ _ _ _ (by simp)]; rfl)
  (by rw [World.cell?_alloc_lt _ _ t (by simp; omega), World.cell?_alloc_lt _ _ t (by simp; omega), World.cell?_alloc_lt _ _ t (by simp; omega), World.cell?_alloc_lt _ _ t htl]; exact ht0)
  (by rw [World.frozen?_alloc_old _ _ t (by simp; omega), World.frozen?_alloc_old _ _ t (by simp; omega), World.frozen?_alloc_old _ _ t (by simp; omega), World.frozen?_alloc_old _ _ t (Nat.ne_of_lt htl)]; exact hf0)
 go_enter Tryz.func158, Tryz.ntmps158
 go_wp2
 refine wp_loop_rounds 1 ?_
 rw [rounds_succ]
 go_wp2
 go_ret
 exact ⟨rfl, rfl⟩
end Go.Proofs.YtefmcijohgpfhaaGreatDoor
set_option maxRecDepth 100000
set_option linter.unusedVariables false
namespace Go.Proofs.YtefmcijohgpfhaaGreatDoor
open Go Go.RowKit Go.Extern.Stop Go.Stop Go.Extern Go.Proofs
theorem asT.typeOf31 (v : Value) (w : World) : (ReflectliteType.typeOf #[.iface 31 v]).run Tryz.prog w = .ok (.iface 244 (.agg #[.pointer (some ⟨9, 31, none⟩)])) w := by kernel_rfl
theorem asT.assignable31 (w : World) : (ReflectliteType.relation "AssignableTo" ReflectliteType.assignableTo #[.agg #[.pointer (some ⟨9, 31, none⟩)], .iface 244 (.agg #[.pointer (some ⟨9, 103, none⟩)])]).run Tryz.prog w = .ok (.bool false) w := by kernel_rfl
theorem asT.no230 (v : Value) (xT : TypeId) (w : World) : (Instr.typeAssert (.iface 31 v) xT 249 true).run Tryz.prog w = .ok (.tuple #[.nilIface, .bool false]) w := run_typeAssert_lacksB Tryz.underlying249 (by kernel_rfl) (by kernel_rfl) v xT w
theorem asT.no233 (v : Value) (xT : TypeId) (w : World) : (Instr.typeAssert (.iface 31 v) xT 252 true).run Tryz.prog w = .ok (.tuple #[.nilIface, .bool false]) w := run_typeAssert_lacksB Tryz.underlying252 (by kernel_rfl) (by kernel_rfl) v xT w
theorem asT.no234 (v : Value) (xT : TypeId) (w : World) : (Instr.typeAssert (.iface 31 v) xT 253 true).run Tryz.prog w = .ok (.tuple #[.nilIface, .bool false]) w := run_typeAssert_lacksB Tryz.underlying253 (by kernel_rfl) (by kernel_rfl) v xT w
set_option maxHeartbeats 4000000 in
theorem qvu (n : Int) (t : Addr) (old : Value) (w : World) (hg : w.cell? ⟨3, 0, none⟩ = some (.iface 244 (.agg #[.pointer (some ⟨9, 25, none⟩)]))) (ht0 : w.cell? t = some old) :
  Calls Tryz.prog 158 #[.iface 31 (.int .i64 n), .iface 194 (.pointer (some t))] w fun ev w' => ev = .returned (.bool false) ∧ Below w.heap.size w w' := by
 have h6 := @run_callFunc_extern Tryz.prog 177 _ (fun args => ReflectliteValue.unpack (args.getD 0 (.tuple #[]))) Tryz.func177 (by kernel_rfl) (by kernel_rfl) (by kernel_rfl) (by kernel_rfl)
 have h7 := @run_callFunc_extern Tryz.prog 178 _ (ReflectliteValue.methodAny (ReflectliteValue.valueError "reflectlite.Value.Type" 0) (fun t _ _ _ => ReflectliteType.toType t)) Tryz.func178 (by kernel_rfl) (by kernel_rfl) (by kernel_rfl) (by kernel_rfl)
 have h8 := @run_callFunc_extern Tryz.prog 179 _ (ReflectliteValue.method (ReflectliteValue.valueError "reflectlite.Value.IsNil" 0) ReflectliteValue.isNil) Tryz.func179 (by kernel_rfl) (by kernel_rfl) (by kernel_rfl) (by kernel_rfl)
 have h27 := @run_callFunc_extern Tryz.prog 239 _ (ReflectliteType.abiMethod fun t => do pure (.int .u8 (← Rtype.kind t))) Tryz.func239 (by kernel_rfl) (by kernel_rfl) (by kernel_rfl) (by kernel_rfl)
 have h37 := @run_callFunc_extern Tryz.prog 256 _ (ReflectliteType.method ReflectliteType.elem) Tryz.func256 (by kernel_rfl) (by kernel_rfl) (by kernel_rfl) (by kernel_rfl)
 have h38 := @run_callFunc_extern Tryz.prog 257 _ (ReflectliteType.relation "Implements" ReflectliteType.implements_) Tryz.func257 (by kernel_rfl) (by kernel_rfl) (by kernel_rfl) (by kernel_rfl)
 have h10 := @run_callFunc_extern Tryz.prog 202 _ ReflectliteType.typeOf Tryz.func202 (by kernel_rfl) (by kernel_rfl) (by kernel_rfl) (by kernel_rfl)
 have h35 := @run_callFunc_extern Tryz.prog 254 _ (ReflectliteType.relation "AssignableTo" ReflectliteType.assignableTo) Tryz.func254 (by kernel_rfl) (by kernel_rfl) (by kernel_rfl) (by kernel_rfl)
 have h11 := @run_callFunc_extern Tryz.prog 203 _ (ReflectliteValue.method (ReflectliteValue.valueError "reflectlite.Value.Elem" 0) ReflectliteValue.elem) Tryz.func203 (by kernel_rfl) (by kernel_rfl) (by kernel_rfl) (by kernel_rfl)
 have h12 := @run_callFunc_extern Tryz.prog 204 _ ReflectliteValue.set Tryz.func204 (by kernel_rfl) (by kernel_rfl) (by kernel_rfl) (by kernel_rfl)
 have tO := asT.typeOf31
 have mA := asT.methodAssignableTo
 have a25 := asT.assignable31
 have f6 := asT.valueOf27
 have f7 := asT.type27
 have mK := asT.methodKind
 have mE := asT.methodElem
 have mI := asT.methodImplements
 have k27 := asT.kind27
 have k25 := asT.kind25
 have e27 := asT.elem27
 have i25 := asT.implements25
 have n8 := asT.isNil27 ⟨w.heap.size, 0, none⟩ t ((w.alloc (.cells #[.pointer (some t)] 194)).alloc (.cells #[.pointer (some ⟨9, 194, none⟩), .pointer (some ⟨w.heap.size, 0, none⟩), .int .u64 150] 213)) (by simp)
 have hlt : 3 < w.heap.size := by
  rcases Nat.lt_or_ge 3 w.heap.size with h | h
  ·exact h
  ·simp [World.cell?, Array.getElem?_eq_none h] at hg
 have hg2 : ((w.alloc (.cells #[.pointer (some t)] 194)).alloc (.cells #[.pointer (some ⟨9, 194, none⟩), .pointer (some ⟨w.heap.size, 0, none⟩), .int .u64 150] 213)).cell? ⟨3, 0, none⟩ = some (.iface 244 (.agg #[.pointer (some ⟨9, 25, none⟩)])) := by
  rw [World.cell?_alloc_lt _ _ ⟨3, 0, none⟩ (by simp; omega), World.cell?_alloc_lt _ _ ⟨3, 0, none⟩ hlt]; exact hg
 have htl : t.block < w.heap.size := by
  rcases Nat.lt_or_ge t.block w.heap.size with h | h
  ·exact h
  ·simp [World.cell?, Array.getElem?_eq_none h] at ht0
 have n1 := asT.no230
 have n2 := asT.no233
 have n3 := asT.no234
 go_enter Tryz.func158, Tryz.ntmps158
 go_wp2
 refine wp_loop_rounds 1 ?_
 rw [rounds_succ]
 go_wp2
 go_ret
 exact ⟨rfl, (((Below.refl _ _).alloc (Nat.le_refl _) _).alloc (by simp) _).alloc (by simp; omega) _⟩
end Go.Proofs.YtefmcijohgpfhaaGreatDoor
set_option maxRecDepth 100000
set_option linter.unusedVariables false
namespace Go.Proofs.YtefmcijohgpfhaaGreatDoor
open Go Go.Av Go.RowKit Go.Proofs Go.Pl
theorem qo8 {w : World} {b : Nat} {T : TypeId} {fz : Nat × Nat} {c : Array Value} (v : Value) (hc : w.heap[b]? = some (.cells c T fz)) (h1 : c.size = 1) : w.setCell ⟨b, 0, none⟩ v = w.setRow b #[v] := by
 unfold World.setCell World.setRow
 congr 1
 apply Array.ext_getElem?
 intro i
 rw [Array.getElem?_modify, Array.getElem?_modify]
 by_cases hi : b = i
 ·subst hi
  rw [if_pos rfl, if_pos rfl, hc]
  have : c.setIfInBounds 0 v = #[v] := by
   apply Array.ext
   ·simp [h1]
   ·intro i h2 h3
    have : i = 0 := by simp at h3; omega
    subst this
    simp
  simp [this]
 ·rw [if_neg hi, if_neg hi]
theorem qv2 (a n : Int) (o : Nat) (st : List AObj) (ho : st[o]? = some (.cells 0 103 [.v (.pointer none)])) : zr E 158 [qcc a n, .ifc 194 (.bx o 0 0)] st fun r st' => r = Bv true ∧ st' = st.set o (.cells 0 103 [.pp [Iv a, .ifc 31 (Iv n)]]) := by
 refine ⟨fun B0 w0 G vals w hL hA hR => ?_⟩
 obtain ⟨v1, v2, rfl⟩ : ∃ x y, vals = #[x, y] := by
  have := hR.1
  match vals, this with
  | ⟨[x, y]⟩, _ => exact ⟨x, y, rfl⟩
 have h1 := hR.2 0 _ v1 rfl rfl
 have h2 := hR.2 1 _ v2 rfl rfl
 unfold qcc at h1
 cases h1 with
 | ifc _ _ y1 h1 =>
  cases h2 with
  | ifc _ _ y2 h2 =>
   have hpp := h1
   cases h1 with
   | pp _ b off pub hp hlen hr =>
    cases h2 with
    | bx _ _ _ b2 hn hv hb =>
     obtain ⟨_, g1, g2, g3, c, g4, g5, g6⟩ := hA.ob o _ ho
     have hb := hb g1
     subst hb
     have hc1 : c.size = 1 := by simpa using g5.symm
     have hl := (hL w hA.below).ert
     have hcell : w.cell? ⟨(G.ob o).blk, 0, none⟩ = some c[0] := by simp [World.cell?, g4, hc1]
     have hfz : w.frozen? ⟨(G.ob o).blk, 0, none⟩ = false := by simp [World.frozen?, g4]
     have hlt : (G.ob o).blk < w.heap.size := (Array.getElem?_eq_some_iff.1 g4).1
     refine (qwa ⟨b, off, none⟩ ⟨(G.ob o).blk, 0, none⟩ c[0] w hl hcell hfz).mono ?_
     rintro e w' ⟨rfl, rfl⟩
     have hb1 : Below w.heap.size w ((((w.alloc (.cells #[.pointer (some ⟨(G.ob o).blk, 0, none⟩)] 194)).alloc (.cells #[.pointer (some ⟨9, 194, none⟩), .pointer (some ⟨w.heap.size, 0, none⟩), .int .u64 150] 213)).alloc (.cells #[.pointer (some ⟨9, 194, none⟩), .pointer (some ⟨w.heap.size, 0, none⟩), .int .u64 150] 213)).alloc (.cells #[.pointer (some ⟨b, off, none⟩)] 103)) :=
      ((((Below.refl _ _).alloc (Nat.le_refl _) _).alloc (by simp) _).alloc (by simp; omega) _).alloc (by simp; omega) _
     have hA1 := hA.fresh hb1
     obtain ⟨_, k1, k2, k3, c', k4, k5, k6⟩ := hA1.ob o _ ho
     have hc1' : c'.size = 1 := by simpa using k5.symm
     refine ⟨.bool true, G, Bv true, _, rfl, .refl G, ?_, .v _, rfl, rfl⟩
     rw [qo8 _ k4 hc1']
     exact hA1.setRow ho (by simp) fun i x y hx hy => by
      match i with
      | 0 => simp at hx hy; subst hx; subst hy; exact hpp
      | i + 1 => simp at hx
theorem qur (n : Int) (o : Nat) (st : List AObj) (ho : st[o]? = some (.cells 0 103 [.v (.pointer none)])) : zr E 158 [.ifc 31 (Iv n), .ifc 194 (.bx o 0 0)] st fun r st' => r = Bv false ∧ st' = st := by
 refine ⟨fun B0 w0 G vals w hL hA hR => ?_⟩
 obtain ⟨v1, v2, rfl⟩ : ∃ x y, vals = #[x, y] := by
  have := hR.1
  match vals, this with
  | ⟨[x, y]⟩, _ => exact ⟨x, y, rfl⟩
 have h1 := hR.2 0 _ v1 rfl rfl
 have h2 := hR.2 1 _ v2 rfl rfl
 cases h1 with
 | ifc _ _ y1 h1 =>
  cases h2 with
  | ifc _ _ y2 h2 =>
   cases h1 with
   | v =>
    cases h2 with
    | bx _ _ _ b2 hn hv hb =>
     obtain ⟨_, g1, g2, g3, c, g4, g5, g6⟩ := hA.ob o _ ho
     have hb := hb g1
     subst hb
     have hc1 : c.size = 1 := by simpa using g5.symm
     have hl := (hL w hA.below).ert
     have hcell : w.cell? ⟨(G.ob o).blk, 0, none⟩ = some c[0] := by simp [World.cell?, g4, hc1]
     refine (qvu n ⟨(G.ob o).blk, 0, none⟩ c[0] w hl hcell).mono ?_
     rintro e w' ⟨rfl, hb⟩
     exact ⟨_, G, Bv false, st, rfl, .refl G, hA.fresh hb, .v _, rfl, rfl⟩
end Go.Proofs.YtefmcijohgpfhaaGreatDoor
set_option maxRecDepth 100000
set_option linter.unusedVariables false
namespace Go.Pl
open Go Go.Proofs
inductive ErrV where
 | no
 | num (n : Int)
 | at' (a n : Int)
 deriving DecidableEq
def ErrV.code : ErrV → Int
 | .no => 0
 | .num n => n
 | .at' _ n => n
def ErrV.pos : ErrV → Int
 | .no => -9
 | .num _ => -9
 | .at' a _ => a
def w9 : Nat → List Fld → ErrV
 | _, [] => .no
 | k, f :: r => if ve f = 0 then w9 (k + 1) r else .at' k (ve f)
def ww (fs : List Fld) : ErrV := if fs = [] then .num 2 else if 40 < fs.length then .num 11 else w9 0 fs
theorem qbf : ∀ (k : Nat) (p r : List Fld), (∀ x ∈ p, ve x = 0) → w9 k (p ++ r) = w9 (k + p.length) r
 | k, [], r, _ => by simp
 | k, f :: p, r, h => by
  have h1 := h f (by simp)
  rw [List.cons_append, w9, if_pos h1, qbf (k + 1) p r fun x hx => h x (by simp [hx])]
  congr 1
  simp
  omega
theorem qhi : ∀ (k : Nat) (r : List Fld), (w9 k r).code = 0 ↔ w9 k r = .no
 | k, [] => by simp [w9, ErrV.code]
 | k, f :: r => by
  unfold w9
  split
  ·exact qhi _ r
  ·rename_i h
   simp [ErrV.code, h]
theorem qn1 (fs : List Fld) : (ww fs).code = 0 ↔ ww fs = .no := by
 unfold ww
 split
 ·simp [ErrV.code]
 ·split
  ·simp [ErrV.code]
  ·exact qhi _ _
end Go.Pl
namespace Go.Proofs.YtefmcijohgpfhaaGreatDoor
open Go Go.Av Go.RowKit Go.Proofs Go.Pl
theorem qk3 {st st' : List AObj} (h : ∀ k, k < st.length → st'[k]? = st[k]?) : ∃ ext, st' = st ++ ext := by
 refine qcb ?_ h
 rcases Nat.eq_zero_or_pos st.length with h0 | h0
 ·omega
 ·have h1 := h (st.length - 1) (by omega)
  have h2 : st[st.length - 1]? = some (st[st.length - 1]'(by omega)) := List.getElem?_eq_getElem (by omega)
  have := lt_of_getElem? (h1.trans h2)
  omega
def gErr (x : z8) : ErrV := if x.kind = 2 then (if x.fields = [] then .no else .num 2) else if x.kind = 1 ∨ x.kind = 3 then ww x.fields else .num 2
def y7 : Nat → List z8 → ErrV
 | _, [] => .no
 | k, x :: r => if (gErr x).code = 0 then y7 (k + 1) r else .at' k (gErr x).code
def eErr (b : List z8) : ErrV := if b.length < 1 ∨ 40 < b.length then .num 1 else y7 0 b
theorem qc8 : ∀ (k : Nat) (p r : List z8), (∀ x ∈ p, (gErr x).code = 0) → y7 k (p ++ r) = y7 (k + p.length) r
 | k, [], r, _ => by simp
 | k, f :: p, r, h => by
  have h1 := h f (by simp)
  rw [List.cons_append, y7, if_pos h1, qc8 (k + 1) p r fun x hx => h x (by simp [hx])]
  congr 1
  simp
  omega
theorem qhr (x : z8) : (gErr x).code = 0 ↔ gErr x = .no := by
 unfold gErr
 split
 ·split <;> simp [ErrV.code]
 ·split
  ·exact qn1 _
  ·simp [ErrV.code]
theorem qjq : ∀ (k : Nat) (r : List z8), (y7 k r).code = 0 ↔ y7 k r = .no
 | k, [] => by simp [y7, ErrV.code]
 | k, f :: r => by
  unfold y7
  split
  ·exact qjq _ r
  ·rename_i h
   simp [ErrV.code] at h ⊢
   exact h
theorem qgz (b : List z8) : (eErr b).code = 0 ↔ eErr b = .no := by
 unfold eErr
 split
 ·simp [ErrV.code]
 ·exact qjq _ _
def errA : ErrV → AV
 | .no => .v .nilIface
 | .num n => .ifc 31 (Iv n)
 | .at' a n => .ifc 103 (.pp [Iv a, .ifc 31 (Iv n)])
theorem qc6 (e : ErrV) : Pure (errA e) := by
 cases e with
 | no => exact jn _
 | num n => exact qbm (jn _)
 | at' a n => exact qe5 a n
def KeyB (fs : List Fld) : Prop := ∀ f ∈ fs, f.1.length < 4294967281
theorem qm2 (fs : List Fld) (st : List AObj) (e : ErrV) (h : ww fs = e) (hK : KeyB fs) (hl : fs.length < 9223372036854775808) : zr E 122 [jd fs] st fun r st' => r = errA e ∧ st' = st := by
 subst h
 refine z4 (qc6 _) (zp Tryz.func122 rfl (Nat.le_of_ble_eq_true rfl) ?_)
 have hml : (fs.map fldA).length = fs.length := by simp
 by_cases h0 : fs = []
 ·subst h0
  repeat' (first
   | apply qr
   | apply q7
   | apply qe
   | apply qa
   | apply qn
   | apply qf
   | (apply qt; (iterate 3 exact rfl))
   | (apply qg; exact rfl; first | (apply zd; (first | assumption | omega)) | (apply zf; (first | assumption | omega)) | (apply ze; (first | exact rfl | assumption)) | (apply zg; (first | exact rfl | assumption)) | (apply cd_n <;> intro h) | (apply cd_t; (first | exact rfl | assumption)) | (apply cd_f; (first | exact rfl | assumption)) | (apply cd_d <;> intro h) | (apply cd_s <;> intro h))
   | (apply zo; (iterate 4 exact rfl))
   | (apply z7; exact rfl; exact rfl)
   | apply q9)
  exact qs rfl (zt rfl) ⟨rfl, _, rfl⟩
 have hp : 0 < fs.length := List.length_pos_iff.2 h0
 by_cases h40 : 40 < fs.length
 ·have hc : ww fs = .num 11 := by unfold ww; rw [if_neg h0, if_pos h40]
  rw [hc]
  repeat' (first
   | apply qr
   | apply q7
   | apply qe
   | apply qa
   | apply qn
   | apply qf
   | (apply qt; (iterate 3 exact rfl))
   | (apply qg; exact rfl; first | (apply zd; (first | assumption | omega)) | (apply zf; (first | assumption | omega)) | (apply ze; (first | exact rfl | assumption)) | (apply zg; (first | exact rfl | assumption)) | (apply cd_n <;> intro h) | (apply cd_t; (first | exact rfl | assumption)) | (apply cd_f; (first | exact rfl | assumption)) | (apply cd_d <;> intro h) | (apply cd_s <;> intro h))
   | (apply zo; (iterate 4 exact rfl))
   | (apply z7; exact rfl; exact rfl)
   | apply q9)
  exact qs rfl (zt rfl) ⟨rfl, _, rfl⟩
 have hc : ww fs = w9 0 fs := by unfold ww; rw [if_neg h0, if_neg h40]
 rw [hc]
 repeat' (first
  | apply qr
  | apply q7
  | apply qe
  | apply qa
  | apply qn
  | apply qf
  | (apply qt; (iterate 3 exact rfl))
  | (apply qg; exact rfl; first | (apply zd; (first | assumption | omega)) | (apply zf; (first | assumption | omega)) | (apply ze; (first | exact rfl | assumption)) | (apply zg; (first | exact rfl | assumption)) | (apply cd_n <;> intro h) | (apply cd_t; (first | exact rfl | assumption)) | (apply cd_f; (first | exact rfl | assumption)) | (apply cd_d <;> intro h) | (apply cd_s <;> intro h))
  | (apply zo; (iterate 4 exact rfl))
  | apply q8)
 refine vz fs (fun pre s => (∀ x ∈ pre, ve x = 0) ∧ StE [(16, jd fs), (17, Iv fs.length), (18, Iv pre.length)] st [] s) ⟨by simp, we ⟨rfl, congrArg (fun n : Nat => Iv (n : Int)) hml, rfl, trivial⟩ rfl⟩ ?_ ?_
 ·rintro _ ⟨h3, t, ext, rfl⟩
  have he := qbf 0 fs [] h3
  rw [List.append_nil] at he
  rw [he]
  repeat' (first
   | apply qr
   | apply qe
   | apply qa
   | apply qf
   | (apply qt; (iterate 3 exact rfl))
   | (apply qg; exact rfl; first | (apply zd; (first | assumption | omega)) | (apply zf; (first | assumption | omega)) | (apply ze; (first | exact rfl | assumption)) | (apply zg; (first | exact rfl | assumption)) | (apply cd_n <;> intro h) | (apply cd_t; (first | exact rfl | assumption)) | (apply cd_f; (first | exact rfl | assumption)) | (apply cd_d <;> intro h) | (apply cd_s <;> intro h))
   | apply jp
   | apply q9)
  exact qs rfl (zt rfl) ⟨rfl, kg _ _ _ _⟩
 ·rintro pre a rest _ hr ⟨h3, t, ext, rfl⟩
  have hrlen : fs.length = pre.length + (rest.length + 1) := by rw [hr]; simp
  have hget : (fs.map fldA)[pre.length]? = some (fldA a) := by rw [hr]; simp
  have hka := hK a (by rw [hr]; simp)
  by_cases ha : ve a = 0
  ·skip
   repeat' (first
    | apply qr
    | apply q7
    | apply qe
    | apply qa
    | apply qn
    | apply qf
    | (apply qt; (iterate 3 exact rfl))
    | (apply qg; exact rfl; first | (apply zd; (first | assumption | omega)) | (apply zf; (first | assumption | omega)) | (apply ze; (first | exact rfl | assumption)) | (apply zg; (first | exact rfl | assumption)) | (apply cd_n <;> intro h) | (apply cd_t; (first | exact rfl | assumption)) | (apply cd_f; (first | exact rfl | assumption)) | (apply cd_d <;> intro h) | (apply cd_s <;> intro h))
    | (apply jj; exact rfl; exact rfl; exact z2 (by omega) (by omega))
    | (apply j3; exact rfl; exact rfl)
    | (apply jh; exact rfl; exact rfl)
    | (apply qv; (iterate 3 exact rfl))
    | (apply qx; (iterate 5 exact rfl))
    | (apply q6; (iterate 11 exact rfl))
    | apply q8
    | (apply qi; exact Tryz.call124; exact qek _ _ hka ha)
    | (apply zy (n := pre.length); (iterate 5 exact rfl); exact hget))
   refine ⟨fun x hx => ?_, vm ⟨rfl, rfl, xh pre a, trivial⟩ rfl⟩
   rcases List.mem_append.1 hx with hx | hx
   ·exact h3 x hx
   ·simp at hx; subst hx; exact ha
  ·have he := qbf 0 pre (a :: rest) h3
   rw [← hr, w9, if_neg ha] at he
   rw [he]
   repeat' (first
    | (apply qeq; (iterate 3 exact rfl))
    | apply qr
    | apply q7
    | apply qe
    | apply qa
    | apply qn
    | apply qf
    | (apply qt; (iterate 3 exact rfl))
    | (apply qg; exact rfl; first | (apply zd; (first | assumption | omega)) | (apply zf; (first | assumption | omega)) | (apply ze; (first | exact rfl | assumption)) | (apply zg; (first | exact rfl | assumption)) | (apply cd_n <;> intro h) | (apply cd_t; (first | exact rfl | assumption)) | (apply cd_f; (first | exact rfl | assumption)) | (apply cd_d <;> intro h) | (apply cd_s <;> intro h))
    | (apply ku; exact rfl; exact rfl)
    | (apply z7; exact rfl; exact rfl)
    | (apply jh; exact rfl; exact rfl)
    | (apply qv; (iterate 3 exact rfl))
    | (apply qx; (iterate 5 exact rfl))
    | (apply q6; (iterate 11 exact rfl))
    | (apply j6; (iterate 3 exact rfl))
    | apply q8
    | apply q9
    | (apply qi; exact Tryz.call124; exact qea _ _ hka ha)
    | (apply zy (n := pre.length); (iterate 5 exact rfl); exact hget))
   refine qs rfl (zt rfl) ⟨?_, kg _ _ _ _⟩
   rw [Nat.zero_add]
   rfl
theorem qkp (x : z8) (st : List AObj) (e : ErrV) (h : gErr x = e) (hK : KeyB x.fields) (hl : x.fields.length < 9223372036854775808) : zr E 83 [kc x] st fun r st' => r = errA e ∧ st' = st := by
 subst h
 refine z4 (qc6 _) (zp Tryz.func83 rfl (Nat.le_of_ble_eq_true rfl) ?_)
 have hml : (x.fields.map fldA).length = x.fields.length := by simp
 have hpos : x.fields = [] ↔ x.fields.length = 0 := by simp
 unfold gErr
 by_cases h2 : x.kind = 2
 ·rw [if_pos h2]
  by_cases h0 : x.fields = []
  ·rw [if_pos h0]
   have hz := hpos.1 h0
   repeat' (first
    | apply qr
    | apply q7
    | apply qe
    | apply qa
    | apply qf
    | (apply qt; (iterate 3 exact rfl))
    | (apply qg; exact rfl; first | (apply zd; (first | assumption | omega)) | (apply zf; (first | assumption | omega)) | (apply ze; (first | exact rfl | assumption)) | (apply zg; (first | exact rfl | assumption)) | (apply cd_n <;> intro h) | (apply cd_t; (first | exact rfl | assumption)) | (apply cd_f; (first | exact rfl | assumption)) | (apply cd_d <;> intro h) | (apply cd_s <;> intro h))
    | (apply zo; (iterate 4 exact rfl))
    | (apply ky; (iterate 4 exact rfl))
    | (apply za; (iterate 3 exact rfl))
    | (apply qx; (iterate 5 exact rfl))
    | apply q8
    | apply q9)
   exact qs rfl (zt rfl) ⟨rfl, _, rfl⟩
  ·rw [if_neg h0]
   have hz : 0 < x.fields.length := List.length_pos_iff.2 h0
   repeat' (first
    | apply qr
    | apply q7
    | apply qe
    | apply qa
    | apply qf
    | (apply qt; (iterate 3 exact rfl))
    | (apply qg; exact rfl; first | (apply zd; (first | assumption | omega)) | (apply zf; (first | assumption | omega)) | (apply ze; (first | exact rfl | assumption)) | (apply zg; (first | exact rfl | assumption)) | (apply cd_n <;> intro h) | (apply cd_t; (first | exact rfl | assumption)) | (apply cd_f; (first | exact rfl | assumption)) | (apply cd_d <;> intro h) | (apply cd_s <;> intro h))
    | (apply zo; (iterate 4 exact rfl))
    | (apply z7; exact rfl; exact rfl)
    | (apply ky; (iterate 4 exact rfl))
    | (apply za; (iterate 3 exact rfl))
    | (apply qx; (iterate 5 exact rfl))
    | apply q9)
   exact qs rfl (zt rfl) ⟨rfl, _, rfl⟩
 ·rw [if_neg h2]
  by_cases h1 : x.kind = 1
  ·rw [if_pos (.inl h1)]
   repeat' (first
    | apply qr
    | apply q7
    | apply qe
    | apply qa
    | apply qf
    | (apply qt; (iterate 3 exact rfl))
    | (apply qg; exact rfl; first | (apply zd; (first | assumption | omega)) | (apply zf; (first | assumption | omega)) | (apply ze; (first | exact rfl | assumption)) | (apply zg; (first | exact rfl | assumption)) | (apply cd_n <;> intro h) | (apply cd_t; (first | exact rfl | assumption)) | (apply cd_f; (first | exact rfl | assumption)) | (apply cd_d <;> intro h) | (apply cd_s <;> intro h))
    | (apply ky; (iterate 4 exact rfl))
    | (apply za; (iterate 3 exact rfl))
    | (apply qx; (iterate 5 exact rfl))
    | apply q8
    | apply q9
    | (apply qi; exact Tryz.call122; exact qm2 _ _ _ rfl hK hl))
   exact qs rfl (zt rfl) ⟨rfl, _, rfl⟩
  ·by_cases h3 : x.kind = 3
   ·rw [if_pos (.inr h3)]
    repeat' (first
     | apply qr
     | apply q7
     | apply qe
     | apply qa
     | apply qf
     | (apply qt; (iterate 3 exact rfl))
     | (apply qg; exact rfl; first | (apply zd; (first | assumption | omega)) | (apply zf; (first | assumption | omega)) | (apply ze; (first | exact rfl | assumption)) | (apply zg; (first | exact rfl | assumption)) | (apply cd_n <;> intro h) | (apply cd_t; (first | exact rfl | assumption)) | (apply cd_f; (first | exact rfl | assumption)) | (apply cd_d <;> intro h) | (apply cd_s <;> intro h))
     | (apply ky; (iterate 4 exact rfl))
     | (apply za; (iterate 3 exact rfl))
     | (apply qx; (iterate 5 exact rfl))
     | apply q9
     | (apply qi; exact Tryz.call122; exact qm2 _ _ _ rfl hK hl))
    exact qs rfl (zt rfl) ⟨rfl, _, rfl⟩
   ·rw [if_neg (by rintro (h | h) <;> contradiction)]
    repeat' (first
     | apply qr
     | apply q7
     | apply qe
     | apply qa
     | apply qf
     | (apply qt; (iterate 3 exact rfl))
     | (apply qg; exact rfl; first | (apply zd; (first | assumption | omega)) | (apply zf; (first | assumption | omega)) | (apply ze; (first | exact rfl | assumption)) | (apply zg; (first | exact rfl | assumption)) | (apply cd_n <;> intro h) | (apply cd_t; (first | exact rfl | assumption)) | (apply cd_f; (first | exact rfl | assumption)) | (apply cd_d <;> intro h) | (apply cd_s <;> intro h))
     | (apply z7; exact rfl; exact rfl)
     | (apply ky; (iterate 4 exact rfl))
     | (apply za; (iterate 3 exact rfl))
     | (apply qx; (iterate 5 exact rfl))
     | apply q8
     | apply q9)
    exact qs rfl (zt rfl) ⟨rfl, _, rfl⟩
theorem que (n : Int) (st : List AObj) : zr E 123 [.ifc 31 (Iv n)] st fun r st' => r = .ifc 31 (Iv n) ∧ st' = st := by
 refine z4 (qbm (jn _)) (zp Tryz.func123 rfl (Nat.le_of_ble_eq_true rfl) ?_)
 repeat' (first
  | apply qr
  | apply qe
  | apply qa
  | apply qn
  | apply qf
  | (apply qg; exact rfl; first | (apply zd; (first | assumption | omega)) | (apply zf; (first | assumption | omega)) | (apply ze; (first | exact rfl | assumption)) | (apply zg; (first | exact rfl | assumption)) | (apply cd_n <;> intro h) | (apply cd_t; (first | exact rfl | assumption)) | (apply cd_f; (first | exact rfl | assumption)) | (apply cd_d <;> intro h) | (apply cd_s <;> intro h))
  | (apply z7; exact rfl; exact rfl)
  | (apply jh; exact rfl; exact rfl)
  | apply q8
  | apply q9
  | (apply qi; exact Tryz.call158; exact qur _ (st.length + 0) _ (zw rfl)))
 exact qs rfl (zt rfl) ⟨rfl, _, rfl⟩
theorem quc (a n : Int) (st : List AObj) : zr E 123 [qcc a n] st fun r st' => r = .ifc 31 (Iv n) ∧ st' = st := by
 refine z4 (qbm (jn _)) (zp Tryz.func123 rfl (Nat.le_of_ble_eq_true rfl) ?_)
 repeat' (first
  | apply qr
  | apply qe
  | apply qa
  | apply qn
  | apply qf
  | (apply qg; exact rfl; first | (apply zd; (first | assumption | omega)) | (apply zf; (first | assumption | omega)) | (apply ze; (first | exact rfl | assumption)) | (apply zg; (first | exact rfl | assumption)) | (apply cd_n <;> intro h) | (apply cd_t; (first | exact rfl | assumption)) | (apply cd_f; (first | exact rfl | assumption)) | (apply cd_d <;> intro h) | (apply cd_s <;> intro h))
  | (apply z7; exact rfl; exact rfl)
  | (apply jh; exact rfl; exact rfl)
  | (apply vt; (iterate 4 exact rfl))
  | (apply qv; (iterate 3 exact rfl))
  | (apply ki; exact rfl; exact rfl)
  | apply q9
  | (apply qi; exact Tryz.call158; exact qv2 a n (st.length + 0) _ (zw rfl))
  | (apply qb; exact rfl; (focus first | assumption | (repeat' (first | assumption | exact jl | exact zw rfl | apply zn | apply qh | omega | apply z6))); exact rfl; exact rfl))
 exact qs rfl (zt rfl) ⟨rfl, qk3 fun j hj => (zv (by omega)).trans (List.getElem?_append_left hj)⟩
theorem qm9 (k : Int) (e : ErrV) (st : List AObj) (he : e.code ≠ 0) : zr E 84 [Iv k, errA e] st fun r st' => r = errA (.at' k e.code) ∧ st' = st := by
 refine z4 (qc6 _) (zp Tryz.func84 rfl (Nat.le_of_ble_eq_true rfl) ?_)
 cases e with
 | no => exact absurd rfl he
 | num n =>
  repeat' (first
   | (apply qeq; (iterate 3 exact rfl))
   | apply qr
   | apply qe
   | apply qa
   | apply qn
   | apply qf
   | (apply z7; exact rfl; exact rfl)
   | (apply j6; (iterate 3 exact rfl))
   | apply q9
   | (apply qi; exact Tryz.call123; exact que _ _))
  exact qs rfl (zt rfl) ⟨rfl, _, rfl⟩
 | at' a n =>
  repeat' (first
   | (apply qeq; (iterate 3 exact rfl))
   | apply qr
   | apply qe
   | apply qa
   | apply qn
   | apply qf
   | (apply z7; exact rfl; exact rfl)
   | (apply j6; (iterate 3 exact rfl))
   | apply q9
   | (apply qi; exact Tryz.call123; exact quc a n _))
  exact qs rfl (zt rfl) ⟨rfl, _, rfl⟩
structure EdB (x : z8) : Prop where
 keys : KeyB x.fields
 len : x.fields.length < 9223372036854775808
 id1 : -9223372036854775808 ≤ x.id
 id2 : x.id ≤ 9223372036854775807
@[reducible] def vu (b : List z8) : AV := .sl 3 (b.map kc) none
theorem qjf (b : List z8) (st : List AObj) (e : ErrV) (h : eErr b = e) (hB : ∀ x ∈ b, EdB x) (hl : b.length < 9223372036854775808) : zr E 45 [vu b] st fun r st' => r = errA e ∧ st' = st := by
 subst h
 refine z4 (qc6 _) (zp Tryz.func45 rfl (Nat.le_of_ble_eq_true rfl) ?_)
 have hml : (b.map kc).length = b.length := by simp
 by_cases h1 : b.length < 1 ∨ 40 < b.length
 ·have hc : eErr b = .num 1 := if_pos h1
  rw [hc]
  rcases h1 with h1 | h1
  ·skip
   repeat' (first
    | apply qr
    | apply qe
    | apply qa
    | apply qn
    | apply qf
    | (apply qt; (iterate 3 exact rfl))
    | (apply zh; (iterate 4 exact rfl))
    | (apply vo; (first | assumption | omega))
    | (apply zk; exact rfl; first | (apply jx; (first | assumption | omega)) | (apply jw; (first | assumption | omega)) | (apply jy; (first | exact rfl | assumption)) | (apply jv; (first | exact rfl | assumption)) | (apply pk_t; (first | exact rfl | assumption)) | (apply pk_f; (first | exact rfl | assumption)))
    | (apply qg; exact rfl; first | (apply zd; (first | assumption | omega)) | (apply zf; (first | assumption | omega)) | (apply ze; (first | exact rfl | assumption)) | (apply zg; (first | exact rfl | assumption)) | (apply cd_n <;> intro h) | (apply cd_t; (first | exact rfl | assumption)) | (apply cd_f; (first | exact rfl | assumption)) | (apply cd_d <;> intro h) | (apply cd_s <;> intro h))
    | (apply zo; (iterate 4 exact rfl))
    | (apply z7; exact rfl; exact rfl)
    | apply q9)
   exact qs rfl (zt rfl) ⟨rfl, _, rfl⟩
  ·skip
   repeat' (first
    | apply qr
    | apply qe
    | apply qa
    | apply qn
    | apply qf
    | (apply qt; (iterate 3 exact rfl))
    | (apply zh; (iterate 4 exact rfl))
    | (apply ko; (first | assumption | omega))
    | (apply zk; exact rfl; first | (apply jx; (first | assumption | omega)) | (apply jw; (first | assumption | omega)) | (apply jy; (first | exact rfl | assumption)) | (apply jv; (first | exact rfl | assumption)) | (apply pk_t; (first | exact rfl | assumption)) | (apply pk_f; (first | exact rfl | assumption)))
    | (apply qg; exact rfl; first | (apply zd; (first | assumption | omega)) | (apply zf; (first | assumption | omega)) | (apply ze; (first | exact rfl | assumption)) | (apply zg; (first | exact rfl | assumption)) | (apply cd_n <;> intro h) | (apply cd_t; (first | exact rfl | assumption)) | (apply cd_f; (first | exact rfl | assumption)) | (apply cd_d <;> intro h) | (apply cd_s <;> intro h))
    | (apply zo; (iterate 4 exact rfl))
    | (apply z7; exact rfl; exact rfl)
    | apply q9)
   exact qs rfl (zt rfl) ⟨rfl, _, rfl⟩
 have hc : eErr b = y7 0 b := if_neg h1
 rw [hc]
 repeat' (first
  | apply qr
  | apply q7
  | apply qe
  | apply qa
  | apply qn
  | apply qf
  | (apply qt; (iterate 3 exact rfl))
  | (apply zh; (iterate 4 exact rfl))
  | (apply ko; (first | assumption | omega))
  | (apply zk; exact rfl; first | (apply jx; (first | assumption | omega)) | (apply jw; (first | assumption | omega)) | (apply jy; (first | exact rfl | assumption)) | (apply jv; (first | exact rfl | assumption)) | (apply pk_t; (first | exact rfl | assumption)) | (apply pk_f; (first | exact rfl | assumption)))
  | (apply qg; exact rfl; first | (apply zd; (first | assumption | omega)) | (apply zf; (first | assumption | omega)) | (apply ze; (first | exact rfl | assumption)) | (apply zg; (first | exact rfl | assumption)) | (apply cd_n <;> intro h) | (apply cd_t; (first | exact rfl | assumption)) | (apply cd_f; (first | exact rfl | assumption)) | (apply cd_d <;> intro h) | (apply cd_s <;> intro h))
  | (apply zo; (iterate 4 exact rfl))
  | apply q8)
 refine vz b (fun pre s => (∀ x ∈ pre, (gErr x).code = 0) ∧ StE [(15, vu b), (16, Iv b.length), (17, Iv pre.length)] st [] s) ⟨by simp, we ⟨rfl, congrArg (fun n : Nat => Iv (n : Int)) hml, rfl, trivial⟩ rfl⟩ ?_ ?_
 ·rintro _ ⟨h3, t, ext, rfl⟩
  have he := qc8 0 b [] h3
  rw [List.append_nil] at he
  rw [he]
  repeat' (first
   | apply qr
   | apply qe
   | apply qa
   | apply qf
   | (apply qt; (iterate 3 exact rfl))
   | (apply qg; exact rfl; first | (apply zd; (first | assumption | omega)) | (apply zf; (first | assumption | omega)) | (apply ze; (first | exact rfl | assumption)) | (apply zg; (first | exact rfl | assumption)) | (apply cd_n <;> intro h) | (apply cd_t; (first | exact rfl | assumption)) | (apply cd_f; (first | exact rfl | assumption)) | (apply cd_d <;> intro h) | (apply cd_s <;> intro h))
   | apply jp
   | apply q9)
  exact qs rfl (zt rfl) ⟨rfl, kg _ _ _ _⟩
 ·rintro pre a rest _ hr ⟨h3, t, ext, rfl⟩
  have hrlen : b.length = pre.length + (rest.length + 1) := by rw [hr]; simp
  have hget : (b.map kc)[pre.length]? = some (kc a) := by rw [hr]; simp
  have hka := hB a (by rw [hr]; simp)
  by_cases ha : (gErr a).code = 0
  ·have hn := (qhr a).1 ha
   repeat' (first
    | apply qr
    | apply q7
    | apply qe
    | apply qa
    | apply qn
    | apply qf
    | (apply qt; (iterate 3 exact rfl))
    | (apply qg; exact rfl; first | (apply zd; (first | assumption | omega)) | (apply zf; (first | assumption | omega)) | (apply ze; (first | exact rfl | assumption)) | (apply zg; (first | exact rfl | assumption)) | (apply cd_n <;> intro h) | (apply cd_t; (first | exact rfl | assumption)) | (apply cd_f; (first | exact rfl | assumption)) | (apply cd_d <;> intro h) | (apply cd_s <;> intro h))
    | (apply jj; exact rfl; exact rfl; exact z2 (by omega) (by omega))
    | (apply j3; exact rfl; exact rfl)
    | (apply jh; exact rfl; exact rfl)
    | (apply qv; (iterate 3 exact rfl))
    | (apply qx; (iterate 5 exact rfl))
    | (apply q6; (iterate 11 exact rfl))
    | apply q8
    | (apply qi; exact Tryz.call83; exact qkp _ _ _ hn hka.keys hka.len)
    | (apply zy (n := pre.length); (iterate 5 exact rfl); exact hget))
   refine ⟨fun x hx => ?_, vm ⟨rfl, rfl, xh pre a, trivial⟩ rfl⟩
   rcases List.mem_append.1 hx with hx | hx
   ·exact h3 x hx
   ·simp at hx; subst hx; exact ha
  ·have he := qc8 0 pre (a :: rest) h3
   rw [← hr, y7, if_neg ha, Nat.zero_add] at he
   rw [he]
   cases hg : gErr a with
   | no => rw [hg] at ha; exact absurd rfl ha
   | num n =>
    have ha2 : (ErrV.num n).code ≠ 0 := by rw [← hg]; exact ha
    repeat' (first
     | apply qr
     | apply q7
     | apply qe
     | apply qa
     | apply qn
     | apply qf
     | (apply qt; (iterate 3 exact rfl))
     | (apply qg; exact rfl; first | (apply zd; (first | assumption | omega)) | (apply zf; (first | assumption | omega)) | (apply ze; (first | exact rfl | assumption)) | (apply zg; (first | exact rfl | assumption)) | (apply cd_n <;> intro h) | (apply cd_t; (first | exact rfl | assumption)) | (apply cd_f; (first | exact rfl | assumption)) | (apply cd_d <;> intro h) | (apply cd_s <;> intro h))
     | (apply ku; exact rfl; exact rfl)
     | (apply jh; exact rfl; exact rfl)
     | (apply qv; (iterate 3 exact rfl))
     | (apply qx; (iterate 5 exact rfl))
     | (apply q6; (iterate 11 exact rfl))
     | apply q8
     | apply q9
     | (apply qi; exact Tryz.call83; exact qkp _ _ _ hg hka.keys hka.len)
     | (apply qi; exact Tryz.call84; exact qm9 _ (.num n) _ ha2)
     | (apply zy (n := pre.length); (iterate 5 exact rfl); exact hget))
    exact qs rfl (zt rfl) ⟨rfl, kg _ _ _ _⟩
   | at' p n =>
    have ha2 : (ErrV.at' p n).code ≠ 0 := by rw [← hg]; exact ha
    repeat' (first
     | apply qr
     | apply q7
     | apply qe
     | apply qa
     | apply qn
     | apply qf
     | (apply qt; (iterate 3 exact rfl))
     | (apply qg; exact rfl; first | (apply zd; (first | assumption | omega)) | (apply zf; (first | assumption | omega)) | (apply ze; (first | exact rfl | assumption)) | (apply zg; (first | exact rfl | assumption)) | (apply cd_n <;> intro h) | (apply cd_t; (first | exact rfl | assumption)) | (apply cd_f; (first | exact rfl | assumption)) | (apply cd_d <;> intro h) | (apply cd_s <;> intro h))
     | (apply ku; exact rfl; exact rfl)
     | (apply jh; exact rfl; exact rfl)
     | (apply qv; (iterate 3 exact rfl))
     | (apply qx; (iterate 5 exact rfl))
     | (apply q6; (iterate 11 exact rfl))
     | apply q8
     | apply q9
     | (apply qi; exact Tryz.call83; exact qkp _ _ _ hg hka.keys hka.len)
     | (apply qi; exact Tryz.call84; exact qm9 _ (.at' p n) _ ha2)
     | (apply zy (n := pre.length); (iterate 5 exact rfl); exact hget))
    exact qs rfl (zt rfl) ⟨rfl, kg _ _ _ _⟩
end Go.Proofs.YtefmcijohgpfhaaGreatDoor
set_option maxRecDepth 100000
set_option linter.unusedVariables false
namespace Go.Proofs.YtefmcijohgpfhaaGreatDoor
open Go Go.Av Go.RowKit Go.Proofs Go.Pl
theorem qpx (a b : Int) : Pure (.tu [Iv a, Iv b]) := yl (jn _) (jn _)
theorem qn8 (fs : List Fld) (st : List AObj) (hK : KeyB fs) (hl : fs.length < 9223372036854775808) : zr E 89 [jd fs] st fun r st' => r = .tu [Iv (ww fs).pos, Iv (ww fs).code] ∧ st' = st := by
 refine z4 (qpx _ _) (zp Tryz.func89 rfl (Nat.le_of_ble_eq_true rfl) ?_)
 have hml : (fs.map fldA).length = fs.length := by simp
 by_cases h0 : fs = []
 ·subst h0
  repeat' (first
   | apply qr
   | apply qe
   | apply qa
   | apply qn
   | apply qf
   | (apply qt; (iterate 3 exact rfl))
   | (apply qg; exact rfl; first | (apply zd; (first | assumption | omega)) | (apply zf; (first | assumption | omega)) | (apply ze; (first | exact rfl | assumption)) | (apply zg; (first | exact rfl | assumption)) | (apply cd_n <;> intro h) | (apply cd_t; (first | exact rfl | assumption)) | (apply cd_f; (first | exact rfl | assumption)) | (apply cd_d <;> intro h) | (apply cd_s <;> intro h))
   | (apply zo; (iterate 4 exact rfl))
   | apply q9)
  exact qs rfl (ju rfl) ⟨rfl, _, rfl⟩
 have hp : 0 < fs.length := List.length_pos_iff.2 h0
 by_cases h40 : 40 < fs.length
 ·have hc : ww fs = .num 11 := by unfold ww; rw [if_neg h0, if_pos h40]
  rw [hc]
  repeat' (first
   | apply qr
   | apply qe
   | apply qa
   | apply qn
   | apply qf
   | (apply qt; (iterate 3 exact rfl))
   | (apply qg; exact rfl; first | (apply zd; (first | assumption | omega)) | (apply zf; (first | assumption | omega)) | (apply ze; (first | exact rfl | assumption)) | (apply zg; (first | exact rfl | assumption)) | (apply cd_n <;> intro h) | (apply cd_t; (first | exact rfl | assumption)) | (apply cd_f; (first | exact rfl | assumption)) | (apply cd_d <;> intro h) | (apply cd_s <;> intro h))
   | (apply zo; (iterate 4 exact rfl))
   | apply q8
   | apply q9)
  exact qs rfl (ju rfl) ⟨rfl, _, rfl⟩
 have hc : ww fs = w9 0 fs := by unfold ww; rw [if_neg h0, if_neg h40]
 rw [hc]
 repeat' (first
  | apply qr
  | apply q7
  | apply qe
  | apply qa
  | apply qn
  | apply qf
  | (apply qt; (iterate 3 exact rfl))
  | (apply qg; exact rfl; first | (apply zd; (first | assumption | omega)) | (apply zf; (first | assumption | omega)) | (apply ze; (first | exact rfl | assumption)) | (apply zg; (first | exact rfl | assumption)) | (apply cd_n <;> intro h) | (apply cd_t; (first | exact rfl | assumption)) | (apply cd_f; (first | exact rfl | assumption)) | (apply cd_d <;> intro h) | (apply cd_s <;> intro h))
  | (apply zo; (iterate 4 exact rfl))
  | apply q8)
 refine vz fs (fun pre s => (∀ x ∈ pre, ve x = 0) ∧ StE [(0, jd fs), (4, Iv pre.length)] st [] s) ⟨by simp, we ⟨rfl, rfl, trivial⟩ rfl⟩ ?_ ?_
 ·rintro _ ⟨h3, t, ext, rfl⟩
  have he := qbf 0 fs [] h3
  rw [List.append_nil] at he
  rw [he]
  repeat' (first
   | apply qr
   | apply qe
   | apply qa
   | apply qn
   | apply qf
   | (apply qt; (iterate 3 exact rfl))
   | (apply qg; exact rfl; first | (apply zd; (first | assumption | omega)) | (apply zf; (first | assumption | omega)) | (apply ze; (first | exact rfl | assumption)) | (apply zg; (first | exact rfl | assumption)) | (apply cd_n <;> intro h) | (apply cd_t; (first | exact rfl | assumption)) | (apply cd_f; (first | exact rfl | assumption)) | (apply cd_d <;> intro h) | (apply cd_s <;> intro h))
   | (apply zo; (iterate 4 exact rfl))
   | apply jp
   | apply q9)
  exact qs rfl (ju rfl) ⟨rfl, kg _ _ _ _⟩
 ·rintro pre a rest _ hr ⟨h3, t, ext, rfl⟩
  have hrlen : fs.length = pre.length + (rest.length + 1) := by rw [hr]; simp
  have hget : (fs.map fldA)[pre.length]? = some (fldA a) := by rw [hr]; simp
  have hka := hK a (by rw [hr]; simp)
  by_cases ha : ve a = 0
  ·skip
   repeat' (first
    | apply qr
    | apply q7
    | apply qe
    | apply qa
    | apply qn
    | apply qf
    | (apply qt; (iterate 3 exact rfl))
    | (apply qg; exact rfl; first | (apply zd; (first | assumption | omega)) | (apply zf; (first | assumption | omega)) | (apply ze; (first | exact rfl | assumption)) | (apply zg; (first | exact rfl | assumption)) | (apply cd_n <;> intro h) | (apply cd_t; (first | exact rfl | assumption)) | (apply cd_f; (first | exact rfl | assumption)) | (apply cd_d <;> intro h) | (apply cd_s <;> intro h))
    | (apply zo; (iterate 4 exact rfl))
    | (apply jj; exact rfl; exact rfl; exact z2 (by omega) (by omega))
    | (apply qv; (iterate 3 exact rfl))
    | apply q8
    | (apply qi; exact Tryz.call130; exact qhq _ _ hka)
    | (apply zy (n := pre.length); (iterate 5 exact rfl); exact hget))
   refine ⟨fun x hx => ?_, vm ⟨rfl, xh pre a, trivial⟩ rfl⟩
   rcases List.mem_append.1 hx with hx | hx
   ·exact h3 x hx
   ·simp at hx; subst hx; exact ha
  ·have he := qbf 0 pre (a :: rest) h3
   rw [← hr, w9, if_neg ha, Nat.zero_add] at he
   rw [he]
   repeat' (first
    | apply qr
    | apply q7
    | apply qe
    | apply qa
    | apply qn
    | apply qf
    | (apply qt; (iterate 3 exact rfl))
    | (apply qg; exact rfl; first | (apply zd; (first | assumption | omega)) | (apply zf; (first | assumption | omega)) | (apply ze; (first | exact rfl | assumption)) | (apply zg; (first | exact rfl | assumption)) | (apply cd_n <;> intro h) | (apply cd_t; (first | exact rfl | assumption)) | (apply cd_f; (first | exact rfl | assumption)) | (apply cd_d <;> intro h) | (apply cd_s <;> intro h))
    | (apply zo; (iterate 4 exact rfl))
    | (apply qv; (iterate 3 exact rfl))
    | apply q8
    | apply q9
    | (apply qi; exact Tryz.call130; exact qhq _ _ hka)
    | (apply zy (n := pre.length); (iterate 5 exact rfl); exact hget))
   exact qs rfl (ju rfl) ⟨rfl, kg _ _ _ _⟩
theorem qik (x : z8) (st : List AObj) (hK : EdB x) : zr E 53 [kc x] st fun r st' => r = Iv (gErr x).code ∧ st' = st := by
 refine z4 (jn _) (zp Tryz.func53 rfl (Nat.le_of_ble_eq_true rfl) ?_)
 have hml : (x.fields.map fldA).length = x.fields.length := by simp
 have hpos : x.fields = [] ↔ x.fields.length = 0 := by simp
 unfold gErr
 by_cases h2 : x.kind = 2
 ·rw [if_pos h2]
  have h1 : ¬ x.kind < 1 := by omega
  have h3 : ¬ 3 < x.kind := by omega
  by_cases h0 : x.fields = []
  ·rw [if_pos h0]
   have hz := hpos.1 h0
   repeat' (first
    | apply qr
    | apply qe
    | apply qa
    | apply qn
    | apply qf
    | (apply qt; (iterate 3 exact rfl))
    | (apply zh; (iterate 4 exact rfl))
    | (apply xc; (first | assumption | omega))
    | (apply ko; (first | assumption | omega))
    | (apply zk; exact rfl; first | (apply jx; (first | assumption | omega)) | (apply jw; (first | assumption | omega)) | (apply jy; (first | exact rfl | assumption)) | (apply jv; (first | exact rfl | assumption)) | (apply pk_t; (first | exact rfl | assumption)) | (apply pk_f; (first | exact rfl | assumption)))
    | (apply qg; exact rfl; first | (apply zd; (first | assumption | omega)) | (apply zf; (first | assumption | omega)) | (apply ze; (first | exact rfl | assumption)) | (apply zg; (first | exact rfl | assumption)) | (apply cd_n <;> intro h) | (apply cd_t; (first | exact rfl | assumption)) | (apply cd_f; (first | exact rfl | assumption)) | (apply cd_d <;> intro h) | (apply cd_s <;> intro h))
    | (apply zo; (iterate 4 exact rfl))
    | (apply ky; (iterate 4 exact rfl))
    | (apply za; (iterate 3 exact rfl))
    | (apply qx; (iterate 5 exact rfl))
    | apply q8
    | apply q9)
   exact qs rfl (zt rfl) ⟨rfl, _, rfl⟩
  ·rw [if_neg h0]
   have hz : 0 < x.fields.length := List.length_pos_iff.2 h0
   repeat' (first
    | apply qr
    | apply qe
    | apply qa
    | apply qn
    | apply qf
    | (apply qt; (iterate 3 exact rfl))
    | (apply zh; (iterate 4 exact rfl))
    | (apply xc; (first | assumption | omega))
    | (apply ko; (first | assumption | omega))
    | (apply zk; exact rfl; first | (apply jx; (first | assumption | omega)) | (apply jw; (first | assumption | omega)) | (apply jy; (first | exact rfl | assumption)) | (apply jv; (first | exact rfl | assumption)) | (apply pk_t; (first | exact rfl | assumption)) | (apply pk_f; (first | exact rfl | assumption)))
    | (apply qg; exact rfl; first | (apply zd; (first | assumption | omega)) | (apply zf; (first | assumption | omega)) | (apply ze; (first | exact rfl | assumption)) | (apply zg; (first | exact rfl | assumption)) | (apply cd_n <;> intro h) | (apply cd_t; (first | exact rfl | assumption)) | (apply cd_f; (first | exact rfl | assumption)) | (apply cd_d <;> intro h) | (apply cd_s <;> intro h))
    | (apply zo; (iterate 4 exact rfl))
    | (apply ky; (iterate 4 exact rfl))
    | (apply za; (iterate 3 exact rfl))
    | (apply qx; (iterate 5 exact rfl))
    | apply q9)
   exact qs rfl (zt rfl) ⟨rfl, _, rfl⟩
 ·rw [if_neg h2]
  by_cases h1 : x.kind = 1 ∨ x.kind = 3
  ·rw [if_pos h1]
   have h4 : ¬ x.kind < 1 := by omega
   have h3 : ¬ 3 < x.kind := by omega
   repeat' (first
    | apply qr
    | apply qe
    | apply qa
    | apply qn
    | apply qf
    | (apply z1; exact rfl; exact rfl)
    | (apply qt; (iterate 3 exact rfl))
    | (apply zh; (iterate 4 exact rfl))
    | (apply ko; (first | assumption | omega))
    | (apply yz; (first | assumption | omega))
    | (apply zk; exact rfl; first | (apply jx; (first | assumption | omega)) | (apply jw; (first | assumption | omega)) | (apply jy; (first | exact rfl | assumption)) | (apply jv; (first | exact rfl | assumption)) | (apply pk_t; (first | exact rfl | assumption)) | (apply pk_f; (first | exact rfl | assumption)))
    | (apply qg; exact rfl; first | (apply zd; (first | assumption | omega)) | (apply zf; (first | assumption | omega)) | (apply ze; (first | exact rfl | assumption)) | (apply zg; (first | exact rfl | assumption)) | (apply cd_n <;> intro h) | (apply cd_t; (first | exact rfl | assumption)) | (apply cd_f; (first | exact rfl | assumption)) | (apply cd_d <;> intro h) | (apply cd_s <;> intro h))
    | (apply ky; (iterate 4 exact rfl))
    | (apply za; (iterate 3 exact rfl))
    | (apply qx; (iterate 5 exact rfl))
    | apply q8
    | apply q9
    | (apply qi; exact Tryz.call89; exact qn8 _ _ hK.keys hK.len))
   exact qs rfl (zt rfl) ⟨rfl, _, rfl⟩
  ·rw [if_neg h1]
   by_cases h4 : x.kind < 1
   ·skip
    repeat' (first
     | apply qr
     | apply qe
     | apply qa
     | apply qn
     | apply qf
     | (apply qt; (iterate 3 exact rfl))
     | (apply zh; (iterate 4 exact rfl))
     | (apply vo; (first | assumption | omega))
     | (apply wt; (iterate 4 exact rfl))
     | (apply x6; (first | exact rfl | assumption))
     | (apply zk; exact rfl; first | (apply jx; (first | assumption | omega)) | (apply jw; (first | assumption | omega)) | (apply jy; (first | exact rfl | assumption)) | (apply jv; (first | exact rfl | assumption)) | (apply pk_t; (first | exact rfl | assumption)) | (apply pk_f; (first | exact rfl | assumption)))
     | (apply qg; exact rfl; first | (apply zd; (first | assumption | omega)) | (apply zf; (first | assumption | omega)) | (apply ze; (first | exact rfl | assumption)) | (apply zg; (first | exact rfl | assumption)) | (apply cd_n <;> intro h) | (apply cd_t; (first | exact rfl | assumption)) | (apply cd_f; (first | exact rfl | assumption)) | (apply cd_d <;> intro h) | (apply cd_s <;> intro h))
     | (apply ky; (iterate 4 exact rfl))
     | (apply za; (iterate 3 exact rfl))
     | (apply qx; (iterate 5 exact rfl))
     | apply q9)
    exact qs rfl (zt rfl) ⟨rfl, _, rfl⟩
   ·have h3 : 3 < x.kind := by omega
    repeat' (first
     | apply qr
     | apply qe
     | apply qa
     | apply qn
     | apply qf
     | (apply qt; (iterate 3 exact rfl))
     | (apply zh; (iterate 4 exact rfl))
     | (apply ko; (first | assumption | omega))
     | (apply vo; (first | assumption | omega))
     | (apply wt; (iterate 4 exact rfl))
     | (apply zk; exact rfl; first | (apply jx; (first | assumption | omega)) | (apply jw; (first | assumption | omega)) | (apply jy; (first | exact rfl | assumption)) | (apply jv; (first | exact rfl | assumption)) | (apply pk_t; (first | exact rfl | assumption)) | (apply pk_f; (first | exact rfl | assumption)))
     | (apply qg; exact rfl; first | (apply zd; (first | assumption | omega)) | (apply zf; (first | assumption | omega)) | (apply ze; (first | exact rfl | assumption)) | (apply zg; (first | exact rfl | assumption)) | (apply cd_n <;> intro h) | (apply cd_t; (first | exact rfl | assumption)) | (apply cd_f; (first | exact rfl | assumption)) | (apply cd_d <;> intro h) | (apply cd_s <;> intro h))
     | (apply ky; (iterate 4 exact rfl))
     | (apply za; (iterate 3 exact rfl))
     | (apply qx; (iterate 5 exact rfl))
     | apply q9)
    exact qs rfl (zt rfl) ⟨rfl, _, rfl⟩
theorem qn2 (b : List z8) (st : List AObj) (hB : ∀ x ∈ b, EdB x) (hl : b.length < 9223372036854775808) : zr E 18 [vu b] st fun r st' => r = .tu [Iv (eErr b).pos, Iv (eErr b).code] ∧ st' = st := by
 refine z4 (qpx _ _) (zp Tryz.func18 rfl (Nat.le_of_ble_eq_true rfl) ?_)
 have hml : (b.map kc).length = b.length := by simp
 by_cases h1 : b.length < 1 ∨ 40 < b.length
 ·have hc : eErr b = .num 1 := if_pos h1
  rw [hc]
  rcases h1 with h1 | h1
  ·skip
   repeat' (first
    | apply qr
    | apply qe
    | apply qa
    | apply qn
    | apply qf
    | (apply qt; (iterate 3 exact rfl))
    | (apply zh; (iterate 4 exact rfl))
    | (apply vo; (first | assumption | omega))
    | (apply zk; exact rfl; first | (apply jx; (first | assumption | omega)) | (apply jw; (first | assumption | omega)) | (apply jy; (first | exact rfl | assumption)) | (apply jv; (first | exact rfl | assumption)) | (apply pk_t; (first | exact rfl | assumption)) | (apply pk_f; (first | exact rfl | assumption)))
    | (apply qg; exact rfl; first | (apply zd; (first | assumption | omega)) | (apply zf; (first | assumption | omega)) | (apply ze; (first | exact rfl | assumption)) | (apply zg; (first | exact rfl | assumption)) | (apply cd_n <;> intro h) | (apply cd_t; (first | exact rfl | assumption)) | (apply cd_f; (first | exact rfl | assumption)) | (apply cd_d <;> intro h) | (apply cd_s <;> intro h))
    | (apply zo; (iterate 4 exact rfl))
    | apply q9)
   exact qs rfl (ju rfl) ⟨rfl, _, rfl⟩
  ·skip
   repeat' (first
    | apply qr
    | apply qe
    | apply qa
    | apply qn
    | apply qf
    | (apply qt; (iterate 3 exact rfl))
    | (apply zh; (iterate 4 exact rfl))
    | (apply ko; (first | assumption | omega))
    | (apply zk; exact rfl; first | (apply jx; (first | assumption | omega)) | (apply jw; (first | assumption | omega)) | (apply jy; (first | exact rfl | assumption)) | (apply jv; (first | exact rfl | assumption)) | (apply pk_t; (first | exact rfl | assumption)) | (apply pk_f; (first | exact rfl | assumption)))
    | (apply qg; exact rfl; first | (apply zd; (first | assumption | omega)) | (apply zf; (first | assumption | omega)) | (apply ze; (first | exact rfl | assumption)) | (apply zg; (first | exact rfl | assumption)) | (apply cd_n <;> intro h) | (apply cd_t; (first | exact rfl | assumption)) | (apply cd_f; (first | exact rfl | assumption)) | (apply cd_d <;> intro h) | (apply cd_s <;> intro h))
    | (apply zo; (iterate 4 exact rfl))
    | apply q9)
   exact qs rfl (ju rfl) ⟨rfl, _, rfl⟩
 have hc : eErr b = y7 0 b := if_neg h1
 rw [hc]
 repeat' (first
  | apply qr
  | apply q7
  | apply qe
  | apply qa
  | apply qn
  | apply qf
  | (apply qt; (iterate 3 exact rfl))
  | (apply zh; (iterate 4 exact rfl))
  | (apply ko; (first | assumption | omega))
  | (apply zk; exact rfl; first | (apply jx; (first | assumption | omega)) | (apply jw; (first | assumption | omega)) | (apply jy; (first | exact rfl | assumption)) | (apply jv; (first | exact rfl | assumption)) | (apply pk_t; (first | exact rfl | assumption)) | (apply pk_f; (first | exact rfl | assumption)))
  | (apply qg; exact rfl; first | (apply zd; (first | assumption | omega)) | (apply zf; (first | assumption | omega)) | (apply ze; (first | exact rfl | assumption)) | (apply zg; (first | exact rfl | assumption)) | (apply cd_n <;> intro h) | (apply cd_t; (first | exact rfl | assumption)) | (apply cd_f; (first | exact rfl | assumption)) | (apply cd_d <;> intro h) | (apply cd_s <;> intro h))
  | (apply zo; (iterate 4 exact rfl))
  | apply q8)
 refine vz b (fun pre s => (∀ x ∈ pre, (gErr x).code = 0) ∧ StE [(0, vu b), (4, Iv pre.length)] st [] s) ⟨by simp, we ⟨rfl, rfl, trivial⟩ rfl⟩ ?_ ?_
 ·rintro _ ⟨h3, t, ext, rfl⟩
  have he := qc8 0 b [] h3
  rw [List.append_nil] at he
  rw [he]
  repeat' (first
   | apply qr
   | apply qe
   | apply qa
   | apply qn
   | apply qf
   | (apply qt; (iterate 3 exact rfl))
   | (apply qg; exact rfl; first | (apply zd; (first | assumption | omega)) | (apply zf; (first | assumption | omega)) | (apply ze; (first | exact rfl | assumption)) | (apply zg; (first | exact rfl | assumption)) | (apply cd_n <;> intro h) | (apply cd_t; (first | exact rfl | assumption)) | (apply cd_f; (first | exact rfl | assumption)) | (apply cd_d <;> intro h) | (apply cd_s <;> intro h))
   | (apply zo; (iterate 4 exact rfl))
   | apply jp
   | apply q9)
  exact qs rfl (ju rfl) ⟨rfl, kg _ _ _ _⟩
 ·rintro pre a rest _ hr ⟨h3, t, ext, rfl⟩
  have hrlen : b.length = pre.length + (rest.length + 1) := by rw [hr]; simp
  have hget : (b.map kc)[pre.length]? = some (kc a) := by rw [hr]; simp
  have hka := hB a (by rw [hr]; simp)
  by_cases ha : (gErr a).code = 0
  ·skip
   repeat' (first
    | apply qr
    | apply q7
    | apply qe
    | apply qa
    | apply qn
    | apply qf
    | (apply qt; (iterate 3 exact rfl))
    | (apply qg; exact rfl; first | (apply zd; (first | assumption | omega)) | (apply zf; (first | assumption | omega)) | (apply ze; (first | exact rfl | assumption)) | (apply zg; (first | exact rfl | assumption)) | (apply cd_n <;> intro h) | (apply cd_t; (first | exact rfl | assumption)) | (apply cd_f; (first | exact rfl | assumption)) | (apply cd_d <;> intro h) | (apply cd_s <;> intro h))
    | (apply zo; (iterate 4 exact rfl))
    | (apply jj; exact rfl; exact rfl; exact z2 (by omega) (by omega))
    | (apply qv; (iterate 3 exact rfl))
    | apply q8
    | (apply qi; exact Tryz.call53; exact qik _ _ hka)
    | (apply zy (n := pre.length); (iterate 5 exact rfl); exact hget))
   refine ⟨fun x hx => ?_, vm ⟨rfl, xh pre a, trivial⟩ rfl⟩
   rcases List.mem_append.1 hx with hx | hx
   ·exact h3 x hx
   ·simp at hx; subst hx; exact ha
  ·have he := qc8 0 pre (a :: rest) h3
   rw [← hr, y7, if_neg ha, Nat.zero_add] at he
   rw [he]
   repeat' (first
    | apply qr
    | apply q7
    | apply qe
    | apply qa
    | apply qn
    | apply qf
    | (apply qt; (iterate 3 exact rfl))
    | (apply qg; exact rfl; first | (apply zd; (first | assumption | omega)) | (apply zf; (first | assumption | omega)) | (apply ze; (first | exact rfl | assumption)) | (apply zg; (first | exact rfl | assumption)) | (apply cd_n <;> intro h) | (apply cd_t; (first | exact rfl | assumption)) | (apply cd_f; (first | exact rfl | assumption)) | (apply cd_d <;> intro h) | (apply cd_s <;> intro h))
    | (apply zo; (iterate 4 exact rfl))
    | (apply qv; (iterate 3 exact rfl))
    | apply q8
    | apply q9
    | (apply qi; exact Tryz.call53; exact qik _ _ hka)
    | (apply zy (n := pre.length); (iterate 5 exact rfl); exact hget))
   exact qs rfl (ju rfl) ⟨rfl, kg _ _ _ _⟩
def okE : ErrV → Prop
 | .no => True
 | .num n => n ≠ 0
 | .at' _ n => n ≠ 0
theorem qv6 (e : ErrV) (st : List AObj) (he : okE e) : zr E 19 [errA e] st fun r st' => r = Iv e.code ∧ st' = st := by
 refine z4 (jn _) (zp Tryz.func19 rfl (Nat.le_of_ble_eq_true rfl) ?_)
 cases e with
 | no =>
  repeat' (first
   | apply qr
   | apply q7
   | apply qe
   | apply qa
   | apply qn
   | apply qf)
  refine vy (fun (k : Unit) s => StA [(0, .v .nilIface), (7, Iv 0)] (st ++ []) [] s) (fun k => 0) () (vl ⟨rfl, rfl, trivial⟩) ?_
  rintro k _ ⟨t, rfl⟩
  repeat' (first
   | apply qr
   | apply q7
   | apply qe
   | apply qa
   | apply qn
   | apply qf
   | (apply qt; (iterate 3 exact rfl))
   | (apply qg; exact rfl; first | (apply zd; (first | assumption | omega)) | (apply zf; (first | assumption | omega)) | (apply ze; (first | exact rfl | assumption)) | (apply zg; (first | exact rfl | assumption)) | (apply cd_n <;> intro h) | (apply cd_t; (first | exact rfl | assumption)) | (apply cd_f; (first | exact rfl | assumption)) | (apply cd_d <;> intro h) | (apply cd_s <;> intro h))
   | (apply xz; exact rfl; exact rfl)
   | apply q8
   | apply q9)
  exact qs rfl (zt rfl) ⟨rfl, _, rfl⟩
 | num n =>
  have hk : n ≠ 0 := he
  repeat' (first
   | apply qr
   | apply q7
   | apply qe
   | apply qa
   | apply qn
   | apply qf)
  refine vy (fun (k : Unit) s => StA [(0, errA (.num n)), (7, Iv 0)] (st ++ []) [] s) (fun k => 0) () (vl ⟨rfl, rfl, trivial⟩) ?_
  rintro k _ ⟨t, rfl⟩
  repeat' (first
   | apply qr
   | apply q7
   | apply qe
   | apply qa
   | apply qn
   | apply qf
   | (apply z1; exact rfl; exact rfl)
   | (apply qt; (iterate 3 exact rfl))
   | (apply zh; (iterate 4 exact rfl))
   | (apply yg; (first | exact rfl | assumption))
   | (apply zk; exact rfl; first | (apply jx; (first | assumption | omega)) | (apply jw; (first | assumption | omega)) | (apply jy; (first | exact rfl | assumption)) | (apply jv; (first | exact rfl | assumption)) | (apply pk_t; (first | exact rfl | assumption)) | (apply pk_f; (first | exact rfl | assumption)))
   | (apply qg; exact rfl; first | (apply zd; (first | assumption | omega)) | (apply zf; (first | assumption | omega)) | (apply ze; (first | exact rfl | assumption)) | (apply zg; (first | exact rfl | assumption)) | (apply cd_n <;> intro h) | (apply cd_t; (first | exact rfl | assumption)) | (apply cd_f; (first | exact rfl | assumption)) | (apply cd_d <;> intro h) | (apply cd_s <;> intro h))
   | (apply xa; exact rfl; exact rfl)
   | apply q8
   | apply q9
   | (apply qcp; (iterate 3 exact rfl)))
  exact qs rfl (zt rfl) ⟨rfl, _, rfl⟩
 | at' a n =>
  have hk : n ≠ 0 := he
  repeat' (first
   | apply qr
   | apply q7
   | apply qe
   | apply qa
   | apply qn
   | apply qf)
  refine vy (fun (j : Nat) s => (j = 0 ∧ StA [(0, errA (.at' a n)), (7, Iv 0)] (st ++ []) [] s) ∨ (j = 1 ∧ StA [(0, errA (.num n)), (7, Iv 1)] (st ++ []) [] s)) (fun j => 1 - j) 0 (.inl ⟨rfl, vl ⟨rfl, rfl, trivial⟩⟩) ?_
  rintro j _ (⟨rfl, t, rfl⟩ | ⟨rfl, t, rfl⟩)
  ·skip
   repeat' (first
    | apply qr
    | apply q7
    | apply qe
    | apply qa
    | apply qn
    | apply qf
    | (apply z1; exact rfl; exact rfl)
    | (apply qt; (iterate 3 exact rfl))
    | (apply kd; exact rfl)
    | (apply zh; (iterate 4 exact rfl))
    | (apply xq; (first | exact rfl | assumption))
    | (apply qa1; (first | exact rfl | assumption))
    | (apply qaf; (first | exact rfl | assumption))
    | (apply zk; exact rfl; first | (apply jx; (first | assumption | omega)) | (apply jw; (first | assumption | omega)) | (apply jy; (first | exact rfl | assumption)) | (apply jv; (first | exact rfl | assumption)) | (apply pk_t; (first | exact rfl | assumption)) | (apply pk_f; (first | exact rfl | assumption)))
    | (apply qg; exact rfl; first | (apply zd; (first | assumption | omega)) | (apply zf; (first | assumption | omega)) | (apply ze; (first | exact rfl | assumption)) | (apply zg; (first | exact rfl | assumption)) | (apply cd_n <;> intro h) | (apply cd_t; (first | exact rfl | assumption)) | (apply cd_f; (first | exact rfl | assumption)) | (apply cd_d <;> intro h) | (apply cd_s <;> intro h))
    | (apply jj; exact rfl; exact rfl; exact z2 (by omega) (by omega))
    | (apply xa; exact rfl; exact rfl)
    | (apply vt; (iterate 4 exact rfl))
    | (apply qv; (iterate 3 exact rfl))
    | (apply ki; exact rfl; exact rfl)
    | (apply yp; (iterate 3 exact rfl))
    | apply q8
    | (apply qjk; (iterate 5 exact rfl))
    | (apply qcp; (iterate 3 exact rfl)))
   exact ⟨1, .inr ⟨rfl, vl ⟨rfl, rfl, trivial⟩⟩, by omega⟩
  ·skip
   repeat' (first
    | apply qr
    | apply q7
    | apply qe
    | apply qa
    | apply qn
    | apply qf
    | (apply z1; exact rfl; exact rfl)
    | (apply qt; (iterate 3 exact rfl))
    | (apply zh; (iterate 4 exact rfl))
    | (apply yg; (first | exact rfl | assumption))
    | (apply zk; exact rfl; first | (apply jx; (first | assumption | omega)) | (apply jw; (first | assumption | omega)) | (apply jy; (first | exact rfl | assumption)) | (apply jv; (first | exact rfl | assumption)) | (apply pk_t; (first | exact rfl | assumption)) | (apply pk_f; (first | exact rfl | assumption)))
    | (apply qg; exact rfl; first | (apply zd; (first | assumption | omega)) | (apply zf; (first | assumption | omega)) | (apply ze; (first | exact rfl | assumption)) | (apply zg; (first | exact rfl | assumption)) | (apply cd_n <;> intro h) | (apply cd_t; (first | exact rfl | assumption)) | (apply cd_f; (first | exact rfl | assumption)) | (apply cd_d <;> intro h) | (apply cd_s <;> intro h))
    | (apply xa; exact rfl; exact rfl)
    | apply q8
    | apply q9
    | (apply qcp; (iterate 3 exact rfl)))
   exact qs rfl (zt rfl) ⟨rfl, _, rfl⟩
theorem qwm (e : ErrV) (w : Int) (st : List AObj) (he : okE e) : zr E 13 [errA e, Iv w] st fun r st' => r = Bv (decide (e.code = w)) ∧ st' = st := by
 refine z4 (jn _) (zp Tryz.func13 rfl (Nat.le_of_ble_eq_true rfl) ?_)
 repeat' (first
  | apply qr
  | apply qe
  | apply qa
  | apply qn
  | apply qf
  | (apply qt; (iterate 3 exact rfl))
  | apply q9
  | (apply qi; exact Tryz.call19; exact qv6 _ _ he))
 exact qs rfl (zt rfl) ⟨rfl, _, rfl⟩
end Go.Proofs.YtefmcijohgpfhaaGreatDoor
