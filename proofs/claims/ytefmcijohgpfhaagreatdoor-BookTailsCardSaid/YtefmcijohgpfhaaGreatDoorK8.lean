/- Contracts and plain facts that the closing text leans on (part 8). No condition of their own beyond those that each states. -/
import Derived.Test.YtefmcijohgpfhaaGreatDoorK7
set_option maxRecDepth 100000
set_option linter.unusedVariables false
set_option linter.unusedSimpArgs false
set_option maxRecDepth 100000
set_option linter.unusedVariables false
namespace Go.Proofs.YtefmcijohgpfhaaGreatDoor
open Go Go.Av Go.RowKit Go.Proofs Go.Pl
def q1z (L : List LnV) (i : Nat) (x : LnV) : List qb := x.text :: wu ((L.drop (i + 1)).map qww)
theorem qrz : ∀ (r : List (qb × Bool)), (wu r).length ≤ r.length
 | [] => by simp [wu]
 | (t, e) :: r => by
  have := qrz r
  rw [wu]
  split <;> simp <;> omega
theorem qsm : ∀ {r : List (qb × Bool)} {n : Nat}, (∀ p ∈ r, p.1.length ≤ n) → ∀ s ∈ wu r, s.length ≤ n
 | [], _, _, s, hs => by simp [wu] at hs
 | (t, e) :: r, n, h, s, hs => by
  rw [wu] at hs
  split at hs
  ·rcases List.mem_cons.1 hs with rfl | hs
   ·exact h (s, e) (by simp)
   ·exact qsm (fun p hp => h p (by simp [hp])) s hs
  ·simp at hs
structure LnsB (L : List LnV) : Prop where
 len : L.length < 100000
 val : ∀ x ∈ L, x.text.length < 100000
theorem LnsB.said {L : List LnV} (h : LnsB L) {i : Nat} {x : LnV} (hx : L[i]? = some x) : LsB (q1z L i x) := by
 have h1 := qrz ((L.drop (i + 1)).map qww)
 have h2 := h.len
 have h3 := h.val x (List.mem_of_getElem? hx)
 refine ⟨?_, fun s hs => ?_⟩
 ·unfold q1z
  simp at h1 ⊢
  omega
 ·rcases List.mem_cons.1 hs with rfl | hs
  ·omega
  ·have := qsm (n := 100000) (fun p hp => by
    obtain ⟨y, hy, rfl⟩ := List.mem_map.1 hp
    have := h.val y (List.mem_of_mem_drop hy)
    simp only [qww]
    omega) s hs
   omega
end Go.Proofs.YtefmcijohgpfhaaGreatDoor
set_option maxRecDepth 100000
set_option linter.unusedVariables false
namespace Go.Pl
open Go Go.Proofs Go.Proofs.YtefmcijohgpfhaaGreatDoor
theorem qwc (l : qb) : (je l).1 = 1 ∨ (je l).1 = 2 ∨ (je l).1 = 3 := by
 unfold je
 split
 ·split
  ·split
   ·unfold qdf
    split <;> simp
   ·split
    ·unfold qbk
     split
     ·simp
     ·split <;> simp
    ·simp
  ·simp
 ·split <;> simp
theorem qyi {l : qb} (h1 : (je l).1 = 1) : ∃ k : Nat, (je l).2.2 = (k : Int) ∧ 0 < k ∧ k ≤ l.length := by
 obtain ⟨_, m, hm, hn⟩ := qnk (show je l = (1, (je l).2.1, (je l).2.2) by rw [← h1])
 refine ⟨_, hn, ?_, ?_⟩
 ·rw [qif]
  simp [recL, xi, jr]
 ·have := congrArg List.length hm
  rw [List.length_append] at this
  omega
theorem qqi {l : qb} : (je l).2.1.length ≤ l.length := by
 have hp := wm 10 l
 unfold je
 split
 ·split
  ·split
   ·simp
   ·split
    ·unfold qbk
     split
     ·simp
     ·split
      ·simp; omega
      ·simp
    ·simp
  ·simp
 ·split <;> simp
theorem qst (l : qb) : kw l.length l ≤ l.length := (qj3 _ _ _ (Nat.le_refl _) (Nat.le_refl _)).2
theorem qwr {f : Nat} {l : qb} {a : Int} {bs : List (List zq)} {es : List Int} (h : (je l).1 = 2) : recsF (f + 1) l a bs es = (false, bs, es, l) := by
 rw [recsF, if_pos h]
theorem qzq {f : Nat} {l : qb} {a : Int} {bs : List (List zq)} {es : List Int} (h : (je l).1 = 3) : recsF (f + 1) l a bs es = (true, bs, es, l) := by
 rw [recsF, if_neg (by rw [h]; decide), if_neg (by rw [h]; decide)]
theorem qxs {f : Nat} {l : qb} {a : Int} {bs : List (List zq)} {es : List Int} (h : (je l).1 = 1) (hd : decF (je l).2.1 = none) : recsF (f + 1) l a bs es = (true, bs, es, l) := by
 rw [recsF, if_neg (by rw [h]; decide), if_pos h, hd]
theorem qw5 {f k : Nat} {l : qb} {a : Int} {bs : List (List zq)} {es : List Int} {b : List zq} (h : (je l).1 = 1) (hd : decF (je l).2.1 = some b) (hk : (je l).2.2 = (k : Int)) : recsF (f + 1) l a bs es = recsF f (l.drop k) (a + k) (bs ++ [b]) (es ++ [a + k]) := by
 rw [recsF, if_neg (by rw [h]; decide), if_pos h, hd, hk]
 rfl
end Go.Pl
namespace Go.Proofs.YtefmcijohgpfhaaGreatDoor
open Go Go.Av Go.RowKit Go.Proofs Go.Pl
@[reducible] def qg3 (es : List Int) : AV := .sl 1 (es.map fun x => Iv x) none
@[reducible] def qse (bs : List (List zq)) : AV := .sl 1 (bs.map wc) none
@[reducible] def qlc (b : y6) : AV := .ag [Iv b.gen, Sv b.base, qse b.batches, qg3 b.ends, Sv b.tail]
end Go.Proofs.YtefmcijohgpfhaaGreatDoor
set_option maxRecDepth 100000
set_option linter.unusedVariables false
namespace Go.Av
open Go Go.RowKit
theorem qfz {b t0 : Nat} {st st' : List AObj} {sz sz0 : Nat} {T T0 : TypeId} {xs xs0 : List AV} {c c0 : AV} (hf : Fr st st' t0) (h0 : TipO b st sz0 T0 xs0 c0) (hid : c0 = .sl sz0 xs0 (some t0) ∨ st.length ≤ t0) (hd : (Nat.beq sz sz0 && Nat.beq T T0) = false) (h : TipO b st sz T xs c) : TipO b st' sz T xs c := by
 rcases h with h | h
 ·rcases h0 with h0 | ⟨_, o, v, f, rfl⟩
  ·exact .inl (qak hf h0 hid hd h)
  ·exact Go.Proofs.YtefmcijohgpfhaaGreatDoor.tipO_frO hf hid (.inl h)
 ·exact .inr h
end Go.Av
namespace Go.Proofs.YtefmcijohgpfhaaGreatDoor
open Go Go.Av Go.RowKit Go.Proofs Go.Pl
theorem q3e (l : qb) (b : Bool) (st : List AObj) (hl : l.length < 4294967281) (h : begF l = b) : q7 E 97 [Sv l] st fun r st' => r = Bv b ∧ st' = st := by
 subst h
 exact q0n l st hl
theorem qz4 (text : qb) (st : List AObj) (hl : text.length < 1000000) : q7 E 62 [Sv text] st fun r st' => r = Iv ((kw text.length text : Nat) : Int) ∧ st' = st := by
 refine qbj [.s text] (z4 _) Tryz.func62 rfl rfl (fun _ => rfl) rfl fun S0 => ?_
 apply jx []
 repeat' (first
  | apply And.intro
  | (intro h; first | (exfalso; omega) | (exfalso; exact h rfl) | (exfalso; revert h; decide) | skip)
  | exact ⟨Tryz.call72⟩
  | (refine Exists.intro _ ⟨qnl _, ?_⟩)
  | exact rfl
  | exact trivial
  | exact fun _ => rfl
  | exact kf _
  | apply jt []
  | exact DrOk.mk (by kernel_rfl)
  | exact ja fun _ => rfl
  | omega
  | (simp only [List.length_map, List.length_append, List.length_cons, List.length_nil, List.length_take, List.length_drop]; omega)
  | exact ku
  | (refine Exists.intro _ ⟨rfl, ?_⟩)
  | refine v4 ?_)
 refine qh9 (X := Int) text 1 2 [0, 1] (fun r => ⟨[(0, .s text), (2, .bx 0 0), (5, .fn (.func 113) [] [.bx 1 0])], [(0, some (.cells 3 [.i r])), (1, some (.cells 9 [.s text]))], 2⟩) _
  (fun k rest r => r = 0 ∧ rest.length ≤ text.length ∧ kw text.length text = kw text.length rest) (fun c r => c = .ret ∧ r = ((kw text.length text : Nat) : Int)) 0 ⟨rfl, by omega, rfl⟩ ?_ id (by omega) (fun _ => rfl) rfl (fun _ => rfl) (fun _ => rfl) rfl ?_ ?_ ?_
 ·skip
  repeat' (first
   | apply And.intro
   | (intro h; first | (exfalso; omega) | (exfalso; exact h rfl) | (exfalso; revert h; decide) | skip)
   | exact rfl
   | exact trivial
   | exact fun _ => rfl
   | exact kf _
   | apply jt []
   | exact DrOk.mk (by kernel_rfl)
   | exact ja fun _ => rfl
   | omega
   | (simp only [List.length_map, List.length_append, List.length_cons, List.length_nil, List.length_take, List.length_drop]; omega)
   | exact ku
   | (refine Exists.intro _ ⟨rfl, ?_⟩)
   | refine v4 ?_)
 ·rintro k rest r ⟨rfl, hrl, hbeg⟩ hne hle
  have hu := wi 10 rest
  have hpl := wm 10 rest
  have hbg := fun st => q3e (upto 10 rest) _ st (by omega) rfl
  unfold qqw
  by_cases hb : begF (upto 10 rest) = true
  ·rw [hb] at hbg
   have hv : ((text.length : Int) - rest.length) = ((kw text.length text : Nat) : Int) := by
    rw [hbeg, qin hne hb]
    omega
   refine RA.mk fun S F ρ rd => ?_
   apply jx []
   repeat' (first
    | apply And.intro
    | (intro h; first | (exfalso; omega) | (exfalso; exact h rfl) | (exfalso; revert h; decide) | skip)
    | (refine RB.mk fun S rd => ?_; apply jx [])
    | exact ⟨Tryz.call97⟩
    | (refine Exists.intro _ ⟨j5 (hbg) rfl, ?_⟩)
    | (refine Exists.intro _ ⟨⟨rfl, hv⟩, ?_⟩)
    | exact rfl
    | exact trivial
    | exact fun _ => rfl
    | exact kf _
    | apply jt []
    | exact DrOk.mk (by kernel_rfl)
    | exact ja fun _ => rfl
    | omega
    | (simp only [List.length_map, List.length_append, List.length_cons, List.length_nil, List.length_take, List.length_drop]; omega)
    | exact ku
    | (refine Exists.intro _ ⟨rfl, ?_⟩)
    | refine v4 ?_)
  ·have hb' : begF (upto 10 rest) = false := by simpa using hb
   rw [hb'] at hbg
   refine RA.mk fun S F ρ rd => ?_
   apply jx []
   repeat' (first
    | apply And.intro
    | (intro h; first | (exfalso; omega) | (exfalso; exact h rfl) | (exfalso; revert h; decide) | skip)
    | (refine RB.mk fun S rd => ?_; apply jx [])
    | exact ⟨Tryz.call97⟩
    | (refine Exists.intro _ ⟨j5 (hbg) rfl, ?_⟩)
    | (refine Exists.intro 0 ⟨⟨rfl, by omega, by rw [hbeg, qko hne (by rw [hb']; decide)]⟩, ?_⟩)
    | exact rfl
    | exact trivial
    | exact fun _ => rfl
    | exact kf _
    | apply jt []
    | exact DrOk.mk (by kernel_rfl)
    | exact ja fun _ => rfl
    | omega
    | (simp only [List.length_map, List.length_append, List.length_cons, List.length_nil, List.length_take, List.length_drop]; omega)
    | exact ku
    | (refine Exists.intro _ ⟨rfl, ?_⟩)
    | refine v4 ?_)
 ·rintro k r ⟨rfl, hrl, hbeg⟩
  rw [qeg] at hbeg
  rw [hbeg]
  repeat' (first
   | apply And.intro
   | (intro h; first | (exfalso; omega) | (exfalso; exact h rfl) | (exfalso; revert h; decide) | skip)
   | exact rfl
   | exact trivial
   | exact fun _ => rfl
   | exact kf _
   | apply jt []
   | exact DrOk.mk (by kernel_rfl)
   | exact ja fun _ => rfl
   | omega
   | (simp only [List.length_map, List.length_append, List.length_cons, List.length_nil, List.length_take, List.length_drop]; omega)
   | exact ku
   | (refine Exists.intro _ ⟨rfl, ?_⟩)
   | refine v4 ?_)
 ·rintro c r ⟨rfl, rfl⟩
  repeat' (first
   | apply And.intro
   | (intro h; first | (exfalso; omega) | (exfalso; exact h rfl) | (exfalso; revert h; decide) | skip)
   | exact rfl
   | exact trivial
   | exact fun _ => rfl
   | exact kf _
   | apply jt []
   | exact DrOk.mk (by kernel_rfl)
   | exact ja fun _ => rfl
   | omega
   | (simp only [List.length_map, List.length_append, List.length_cons, List.length_nil, List.length_take, List.length_drop]; omega)
   | exact ku
   | (refine Exists.intro _ ⟨rfl, ?_⟩)
   | refine v4 ?_)
structure RecI (st : List AObj) (o : Nat) (T : TypeId) (gen : Int) (base tail : qb) (bs : List (List zq)) (es : List Int) (dB dE : AV) (S : List AObj) : Prop where
 low : ∀ j, j < st.length → j ≠ o → S[j]? = st[j]?
 len : st.length ≤ S.length
 ob : S[o]? = some (.cells 0 T [Iv gen, Sv base, dB, dE, Sv tail])
 hB : TipO st.length S 1 23 (bs.map wc) dB
 hE : TipO st.length S 1 3 (es.map fun x => Iv x) dE
theorem notJ {a b : Bool} (h : a = true → b = true) (hb : b = false) : a = false := by
 cases a with
 | false => rfl
 | true => rw [h rfl] at hb; simp at hb
theorem qqd (x : Option (List zq)) : ∃ b e, decA x = .tu [wc b, errA e] := by
 cases x with
 | none => exact ⟨[], .num 2, rfl⟩
 | some b => exact ⟨b, .no, rfl⟩
def qow (R : Bool × List (List zq) × List Int × qb) : ErrV := if R.1 = true then .at' R.2.1.length 10 else .no
set_option maxHeartbeats 8000000 in
theorem qu8 (o : Nat) (gen : Int) (base text : qb) (a : Nat) (st : List AObj) (ho : st[o]? = some (.cells 0 53 [Iv gen, Sv base, zx, zx, Sv []])) (hl : text.length < 1000000) (ha : a ≤ text.length) : q7 E 63 [.bx o 0 0, Sv text, Iv a] st fun r st' => r = errA (qow (Go.Pl.recsF (text.length + 1) (text.drop a) a [] [])) ∧
  (∀ j, j < st.length → j ≠ o → st'[j]? = st[j]?) ∧ st.length ≤ st'.length ∧ ((Go.Pl.recsF (text.length + 1) (text.drop a) a [] []).1 = false → ∃ dB dE, RecI st o 53 gen base (Go.Pl.recsF (text.length + 1) (text.drop a) a [] []).2.2.2 (Go.Pl.recsF (text.length + 1) (text.drop a) a [] []).2.1 (Go.Pl.recsF (text.length + 1) (text.drop a) a [] []).2.2.1 dB dE st') := by
 refine q8 Tryz.func63 rfl (Nat.le_of_ble_eq_true rfl) ?_
 obtain ⟨R, hR⟩ : ∃ R, R = Go.Pl.recsF (text.length + 1) (text.drop a) a [] [] := ⟨_, rfl⟩
 rw [← hR]
 have hos := lt_of_getElem? ho
 rw [List.append_nil]
 repeat' (first
  | (apply qat; first | apply qm | apply q4 | apply qe | (apply qg; exact rfl; first | (apply ze; (first | assumption | omega)) | (apply zd; (first | assumption | omega)) | (apply zc; (first | exact rfl | assumption)) | (apply zb; (first | exact rfl | assumption)) | (apply cd_n <;> intro h) | (apply cd_t; (first | exact rfl | assumption)) | (apply cd_f; (first | exact rfl | assumption)) | (apply cd_d <;> intro h) | (apply cd_s <;> intro h)) | (apply qad; exact rfl; kernel_rfl) | apply q6 | apply jp | apply qz)
  | (apply x8; first | (apply za; (iterate 4 exact rfl)) | (apply j8; (iterate 4 exact rfl)))
  | (apply qbe; first | (apply xk; (first | assumption | omega)) | (apply kv; (first | assumption | omega)) | (apply ve; (first | assumption | omega)) | (apply wz; (first | assumption | omega)) | (apply yq; (first | exact rfl | assumption)) | (apply vw; (first | exact rfl | assumption)) | (apply v6; (first | exact rfl | assumption)) | (apply xp; (first | exact rfl | assumption)) | (apply xh <;> intro h) | (apply xa; (first | exact rfl | assumption)) | (apply yc; (first | exact rfl | assumption)) | (apply vz; (first | exact rfl | assumption)) | (apply wd; (first | exact rfl | assumption)) | (apply kl <;> intro h) | (apply xu <;> intro h))
  | (apply qbi; first | apply qbb | (apply qbg; (iterate 4 exact rfl)) | (apply qcj; exact rfl; exact rfl; exact zi (by omega) (by omega)) | (apply qbf; (iterate 4 exact rfl); (first | assumption | omega | (simp; omega)); first | assumption | omega | (simp; omega)) | (apply xl; (iterate 5 exact rfl)) | (apply yi; exact rfl; exact rfl; (first | omega | (simp only [List.length_append, List.length_cons, List.length_nil]; omega) | (simp; omega))) | (apply xq; (iterate 3 exact rfl)) | (apply wv; (iterate 5 exact rfl)) | (apply vk; (iterate 4 exact rfl)) | (apply vi; (iterate 3 exact rfl)) | (apply qb4; (iterate 3 exact rfl); first | assumption | omega | (simp; omega)) | (apply qa0; exact rfl; exact rfl) | (apply qab; exact rfl; exact rfl) | (apply qaa; (iterate 3 exact rfl); omega) | (apply ym; (iterate 3 exact rfl)) | apply qac | apply yn | (apply qcl; exact rfl; exact rfl; exact zi (by omega) (by omega)) | (apply qbh; (iterate 3 exact rfl)) | (apply qa1; (iterate 3 exact rfl); first | assumption | omega | (simp; omega)) | (apply qa3; (iterate 3 exact rfl); first | assumption | omega | (simp; omega)) | (apply xo; exact rfl; exact rfl))
  | (apply x7; first | (apply qw; (iterate 3 exact rfl)) | (apply ji; (iterate 3 exact rfl)) | (apply jy; exact rfl; exact rfl; (first | omega | (simp only [List.length_append, List.length_cons, List.length_nil]; omega) | (simp; omega))) | (apply js; exact rfl; exact rfl; exact zi (by omega) (by omega)) | (apply w9; exact rfl; exact rfl; exact zi (by omega) (by omega)) | (apply z8; exact rfl; exact rfl) | (apply zr; exact rfl; exact rfl) | (apply vl; exact rfl; exact rfl) | (apply vh; exact rfl; exact rfl) | (apply vb; (iterate 3 exact rfl)) | (apply vt; (iterate 3 exact rfl)) | (apply wt; exact rfl; exact rfl; (first | exact qy _ | exact rfl); first | exact qy _ | exact rfl) | (apply xe; exact rfl; exact rfl; (first | exact qy _ | exact rfl); first | exact qy _ | exact rfl) | (apply y4; exact rfl; exact rfl; (first | exact qy _ | exact rfl); first | exact qy _ | exact rfl) | (apply wg; (iterate 3 exact rfl)) | (apply wr; (iterate 3 exact rfl)))
  | (apply y5; first | (apply qk; (iterate 3 exact rfl)) | (apply qq; (iterate 5 exact rfl)) | (apply qh; (iterate 5 exact rfl)))
  | (apply y0; first | (apply xm; exact rfl) | (apply jc; exact rfl) | (apply v7; exact rfl))
  | (apply x9; first | (apply xw; (iterate 3 exact rfl); first | assumption | omega | (simp; omega)) | (apply xz; (iterate 3 exact rfl); first | assumption | omega | (simp; omega)) | (apply yp; (iterate 4 exact rfl); (first | assumption | omega | (simp; omega)); first | assumption | omega | (simp; omega)) | (apply va; (iterate 4 exact rfl); (first | assumption | omega | exact Nat.succ_le_succ (Nat.zero_le _) | (simp; omega)); exact rfl))
  | (apply y3; first | (apply j3; (iterate 3 exact rfl)) | (apply zy; (iterate 4 exact rfl)))
  | (apply vu; first | (apply qr; (iterate 3 exact rfl)) | (apply jl; (iterate 4 exact rfl)))
  | (apply ya; first | (apply qx; (iterate 11 exact rfl)) | (apply qn; (iterate 11 exact rfl)))
  | (apply qar; first | apply qa | apply qi | apply qf | (apply zj; exact rfl; exact rfl) | (apply zg; exact rfl; first | (apply kc; (first | assumption | omega)) | (apply ka; (first | assumption | omega)) | (apply j9; (first | exact rfl | assumption)) | (apply ke; (first | exact rfl | assumption)) | (apply pk_t; (first | exact rfl | assumption)) | (apply pk_f; (first | exact rfl | assumption))) | (apply q9; exact rfl; exact rfl) | apply vj | (apply z0; exact rfl; exact rfl) | (apply j7; (iterate 4 exact rfl)) | (apply xd; (iterate 3 exact rfl)) | (apply yu; (iterate 3 exact rfl); first | assumption | omega | (simp; omega)) | (apply jq; (iterate 3 exact rfl)) | (apply qv; (iterate 9 exact rfl)) | (apply zv; exact rfl; exact rfl) | (apply wk; (iterate 4 exact rfl); (first | assumption | omega | decide); exact rfl) | (apply ki; (iterate 4 exact rfl); first | assumption | omega | decide)))
 refine yg (fun (k : Nat) s => k ≤ text.length ∧ ∃ f bs es dB dE S, text.length - k < f ∧ Go.Pl.recsF f (text.drop k) k bs es = R ∧ bs.length ≤ k ∧ es.length = bs.length ∧ RecI st o 53 gen base [] bs es dB dE S ∧ StA [(0, .bx o 0 0), (1, Sv text), (2, Iv k)] S [] s) (fun k => text.length - k) a
  ⟨ha, text.length + 1, [], [], zx, zx, st, by omega, hR.symm, by simp, rfl, ⟨fun _ _ _ => rfl, Nat.le_refl _, ho, qjm .., qjm ..⟩, qal ⟨rfl, rfl, rfl, trivial⟩⟩ ?_
 rintro k _ ⟨hk, f, bs, es, dB, dE, S, hf, hRf, hbl, hel, hI, t, rfl⟩
 obtain ⟨f, rfl⟩ : ∃ f', f = f' + 1 := ⟨f - 1, by omega⟩
 have hob := hI.ob
 have hob0 := hob
 have hSl := hI.len
 have hos2 := lt_of_getElem? hob
 obtain ⟨l, hlk⟩ : ∃ l, l = text.drop k := ⟨_, rfl⟩
 have hll : l.length = text.length - k := by rw [hlk]; simp
 rw [← hlk] at hRf
 have hrd : ∀ st, q7 E 98 [Sv (text.drop k)] st fun r st' => r = .tu [Iv (je l).1, Sv (je l).2.1, Iv (je l).2.2] ∧ st' = st := fun st => by rw [← hlk]; exact q3q l st (by omega)
 have hbd := qqi (l := l)
 have hde := fun st => q0m (je l).2.1 st (by omega)
 rcases qwc l with h1 | h2 | h3
 ·rw [h1] at hrd
  cases hdd : decF (je l).2.1 with
  | none =>
   rw [qxs h1 hdd] at hRf
   have hde2 : ∀ st, q7 E 11 [Sv (je l).2.1] st fun r st' => r = .tu [wc [], .ifc 31 (Iv 2)] ∧ st' = st := fun st => by have := hde st; rw [hdd] at this; exact this
   have hbb : lenA dB = some bs.length := by have := qje hI.hB; simpa using this
   repeat' (first
    | (apply qea; (iterate 3 exact rfl))
    | (apply qat; first | apply qm | apply q4 | apply qe | (apply qg; exact rfl; first | (apply ze; (first | assumption | omega)) | (apply zd; (first | assumption | omega)) | (apply zc; (first | exact rfl | assumption)) | (apply zb; (first | exact rfl | assumption)) | (apply cd_n <;> intro h) | (apply cd_t; (first | exact rfl | assumption)) | (apply cd_f; (first | exact rfl | assumption)) | (apply cd_d <;> intro h) | (apply cd_s <;> intro h)) | (apply qad; exact rfl; kernel_rfl) | apply q6 | apply jp | apply qz)
    | (apply x8; first | (apply za; (iterate 4 exact rfl)) | (apply j8; (iterate 4 exact rfl)))
    | (apply qbe; first | (apply xk; (first | assumption | omega)) | (apply kv; (first | assumption | omega)) | (apply ve; (first | assumption | omega)) | (apply wz; (first | assumption | omega)) | (apply yq; (first | exact rfl | assumption)) | (apply vw; (first | exact rfl | assumption)) | (apply v6; (first | exact rfl | assumption)) | (apply xp; (first | exact rfl | assumption)) | (apply xh <;> intro h) | (apply xa; (first | exact rfl | assumption)) | (apply yc; (first | exact rfl | assumption)) | (apply vz; (first | exact rfl | assumption)) | (apply wd; (first | exact rfl | assumption)) | (apply kl <;> intro h) | (apply xu <;> intro h))
    | (apply qbi; first | apply qbb | (apply qbg; (iterate 4 exact rfl)) | (apply qcj; exact rfl; exact rfl; exact zi (by omega) (by omega)) | (apply qbf; (iterate 4 exact rfl); (first | assumption | omega | (simp; omega)); first | assumption | omega | (simp; omega)) | (apply xl; (iterate 5 exact rfl)) | (apply yi; exact rfl; exact rfl; (first | omega | (simp only [List.length_append, List.length_cons, List.length_nil]; omega) | (simp; omega))) | (apply xq; (iterate 3 exact rfl)) | (apply wv; (iterate 5 exact rfl)) | (apply vk; (iterate 4 exact rfl)) | (apply vi; (iterate 3 exact rfl)) | (apply qb4; (iterate 3 exact rfl); first | assumption | omega | (simp; omega)) | (apply qa0; exact rfl; exact rfl) | (apply qab; exact rfl; exact rfl) | (apply qaa; (iterate 3 exact rfl); omega) | (apply ym; (iterate 3 exact rfl)) | apply qac | apply yn | (apply qcl; exact rfl; exact rfl; exact zi (by omega) (by omega)) | (apply qbh; (iterate 3 exact rfl)) | (apply qa1; (iterate 3 exact rfl); first | assumption | omega | (simp; omega)) | (apply qa3; (iterate 3 exact rfl); first | assumption | omega | (simp; omega)) | (apply xo; exact rfl; exact rfl))
    | (apply x7; first | (apply qw; (iterate 3 exact rfl)) | (apply ji; (iterate 3 exact rfl)) | (apply jy; exact rfl; exact rfl; (first | omega | (simp only [List.length_append, List.length_cons, List.length_nil]; omega) | (simp; omega))) | (apply js; exact rfl; exact rfl; exact zi (by omega) (by omega)) | (apply w9; exact rfl; exact rfl; exact zi (by omega) (by omega)) | (apply z8; exact rfl; exact rfl) | (apply zr; exact rfl; exact rfl) | (apply vl; exact rfl; exact rfl) | (apply vh; exact rfl; exact rfl) | (apply vb; (iterate 3 exact rfl)) | (apply vt; (iterate 3 exact rfl)) | (apply wt; exact rfl; exact rfl; (first | exact qy _ | exact rfl); first | exact qy _ | exact rfl) | (apply xe; exact rfl; exact rfl; (first | exact qy _ | exact rfl); first | exact qy _ | exact rfl) | (apply y4; exact rfl; exact rfl; (first | exact qy _ | exact rfl); first | exact qy _ | exact rfl) | (apply wg; (iterate 3 exact rfl)) | (apply wr; (iterate 3 exact rfl)))
    | (apply y5; first | (apply qk; (iterate 3 exact rfl)) | (apply qq; (iterate 5 exact rfl)) | (apply qh; (iterate 5 exact rfl)))
    | (apply y0; first | (apply xm; exact rfl) | (apply jc; exact rfl) | (apply v7; exact rfl))
    | (apply x9; first | (apply xw; (iterate 3 exact rfl); first | assumption | omega | (simp; omega)) | (apply xz; (iterate 3 exact rfl); first | assumption | omega | (simp; omega)) | (apply yp; (iterate 4 exact rfl); (first | assumption | omega | (simp; omega)); first | assumption | omega | (simp; omega)) | (apply va; (iterate 4 exact rfl); (first | assumption | omega | exact Nat.succ_le_succ (Nat.zero_le _) | (simp; omega)); exact rfl))
    | (apply y3; first | (apply j3; (iterate 3 exact rfl)) | (apply zy; (iterate 4 exact rfl)))
    | (apply vu; first | (apply qr; (iterate 3 exact rfl)) | (apply jl; (iterate 4 exact rfl)))
    | (apply ya; first | (apply qx; (iterate 11 exact rfl)) | (apply qn; (iterate 11 exact rfl)))
    | (apply qar; first | apply qa | apply qi | apply qf | (apply zj; exact rfl; exact rfl) | (apply zg; exact rfl; first | (apply kc; (first | assumption | omega)) | (apply ka; (first | assumption | omega)) | (apply j9; (first | exact rfl | assumption)) | (apply ke; (first | exact rfl | assumption)) | (apply pk_t; (first | exact rfl | assumption)) | (apply pk_f; (first | exact rfl | assumption))) | (apply q9; exact rfl; exact rfl) | apply vj | (apply z0; exact rfl; exact rfl) | (apply j7; (iterate 4 exact rfl)) | (apply xd; (iterate 3 exact rfl)) | (apply yu; (iterate 3 exact rfl); first | assumption | omega | (simp; omega)) | (apply jq; (iterate 3 exact rfl)) | (apply qv; (iterate 9 exact rfl)) | (apply zv; exact rfl; exact rfl) | (apply wk; (iterate 4 exact rfl); (first | assumption | omega | decide); exact rfl) | (apply ki; (iterate 4 exact rfl); first | assumption | omega | decide))
    | (apply qd; exact Tryz.call98; exact hrd _)
    | (apply qd; exact Tryz.call11; exact hde2 _)
    | (apply qc; exact rfl; exact hob0; exact rfl; exact rfl)
    | (apply zy; exact rfl; exact hbb; exact rfl; exact rfl))
   refine qo rfl (zm rfl) ⟨?_, hI.low, hI.len, fun h => by rw [← hRf] at h; simp at h⟩
   rw [← hRf]
   rfl
  | some b =>
   obtain ⟨n, hn, hn0, hnl⟩ := qyi h1
   rw [qw5 h1 hdd hn] at hRf
   have hde2 : ∀ st, q7 E 11 [Sv (je l).2.1] st fun r st' => r = .tu [wc b, .v .nilIface] ∧ st' = st := fun st => by have := hde st; rw [hdd] at this; exact this
   rw [hn] at hrd
   generalize (je l).2.1 = body at hrd hde2
   have hkn : ((k : Int) + (n : Int)) = ((k + n : Nat) : Int) := by omega
   repeat' (first
    | (apply qat; first | apply qm | apply q4 | apply qe | (apply qg; exact rfl; first | (apply ze; (first | assumption | omega)) | (apply zd; (first | assumption | omega)) | (apply zc; (first | exact rfl | assumption)) | (apply zb; (first | exact rfl | assumption)) | (apply cd_n <;> intro h) | (apply cd_t; (first | exact rfl | assumption)) | (apply cd_f; (first | exact rfl | assumption)) | (apply cd_d <;> intro h) | (apply cd_s <;> intro h)) | apply q6 | apply jp | apply qz)
    | (apply x8; first | (apply za; (iterate 4 exact rfl)) | (apply j8; (iterate 4 exact rfl)))
    | (apply qbe; first | (apply xk; (first | assumption | omega)) | (apply kv; (first | assumption | omega)) | (apply ve; (first | assumption | omega)) | (apply wz; (first | assumption | omega)) | (apply yq; (first | exact rfl | assumption)) | (apply vw; (first | exact rfl | assumption)) | (apply v6; (first | exact rfl | assumption)) | (apply xp; (first | exact rfl | assumption)) | (apply xh <;> intro h) | (apply xa; (first | exact rfl | assumption)) | (apply yc; (first | exact rfl | assumption)) | (apply vz; (first | exact rfl | assumption)) | (apply wd; (first | exact rfl | assumption)) | (apply kl <;> intro h) | (apply xu <;> intro h))
    | (apply qbi; first | apply qbb | (apply qbg; (iterate 4 exact rfl)) | (apply qcj; exact rfl; exact rfl; exact zi (by omega) (by omega)) | (apply qbf; (iterate 4 exact rfl); (first | assumption | omega | (simp; omega)); first | assumption | omega | (simp; omega)) | (apply xl; (iterate 5 exact rfl)) | (apply yi; exact rfl; exact rfl; (first | omega | (simp only [List.length_append, List.length_cons, List.length_nil]; omega) | (simp; omega))) | (apply xq; (iterate 3 exact rfl)) | (apply wv; (iterate 5 exact rfl)) | (apply vk; (iterate 4 exact rfl)) | (apply vi; (iterate 3 exact rfl)) | (apply qb4; (iterate 3 exact rfl); first | assumption | omega | (simp; omega)) | (apply qa0; exact rfl; exact rfl) | (apply qab; exact rfl; exact rfl) | (apply qaa; (iterate 3 exact rfl); omega) | (apply ym; (iterate 3 exact rfl)) | apply qac | apply yn | (apply qcl; exact rfl; exact rfl; exact zi (by omega) (by omega)) | (apply qbh; (iterate 3 exact rfl)) | (apply qa1; (iterate 3 exact rfl); first | assumption | omega | (simp; omega)) | (apply qa3; (iterate 3 exact rfl); first | assumption | omega | (simp; omega)) | (apply xo; exact rfl; exact rfl))
    | (apply x7; first | (apply qw; (iterate 3 exact rfl)) | (apply ji; (iterate 3 exact rfl)) | (apply jy; exact rfl; exact rfl; (first | omega | (simp only [List.length_append, List.length_cons, List.length_nil]; omega) | (simp; omega))) | (apply js; exact rfl; exact rfl; exact zi (by omega) (by omega)) | (apply w9; exact rfl; exact rfl; exact zi (by omega) (by omega)) | (apply z8; exact rfl; exact rfl) | (apply zr; exact rfl; exact rfl) | (apply vl; exact rfl; exact rfl) | (apply vh; exact rfl; exact rfl) | (apply vb; (iterate 3 exact rfl)) | (apply vt; (iterate 3 exact rfl)) | (apply wt; exact rfl; exact rfl; (first | exact qy _ | exact rfl); first | exact qy _ | exact rfl) | (apply xe; exact rfl; exact rfl; (first | exact qy _ | exact rfl); first | exact qy _ | exact rfl) | (apply y4; exact rfl; exact rfl; (first | exact qy _ | exact rfl); first | exact qy _ | exact rfl) | (apply wg; (iterate 3 exact rfl)) | (apply wr; (iterate 3 exact rfl)))
    | (apply y5; first | (apply qk; (iterate 3 exact rfl)) | (apply qq; (iterate 5 exact rfl)) | (apply qh; (iterate 5 exact rfl)))
    | (apply y0; first | (apply xm; exact rfl) | (apply jc; exact rfl) | (apply v7; exact rfl))
    | (apply x9; first | (apply xw; (iterate 3 exact rfl); first | assumption | omega | (simp; omega)) | (apply xz; (iterate 3 exact rfl); first | assumption | omega | (simp; omega)) | (apply yp; (iterate 4 exact rfl); (first | assumption | omega | (simp; omega)); first | assumption | omega | (simp; omega)) | (apply va; (iterate 4 exact rfl); (first | assumption | omega | exact Nat.succ_le_succ (Nat.zero_le _) | (simp; omega)); exact rfl))
    | (apply y3; first | (apply j3; (iterate 3 exact rfl)) | (apply zy; (iterate 4 exact rfl)))
    | (apply vu; first | (apply qr; (iterate 3 exact rfl)) | (apply jl; (iterate 4 exact rfl)))
    | (apply ya; first | (apply qx; (iterate 11 exact rfl)) | (apply qn; (iterate 11 exact rfl)))
    | (apply qar; first | apply qa | apply qi | apply qf | (apply zj; exact rfl; exact rfl) | (apply zg; exact rfl; first | (apply kc; (first | assumption | omega)) | (apply ka; (first | assumption | omega)) | (apply j9; (first | exact rfl | assumption)) | (apply ke; (first | exact rfl | assumption)) | (apply pk_t; (first | exact rfl | assumption)) | (apply pk_f; (first | exact rfl | assumption))) | (apply q9; exact rfl; exact rfl) | apply vj | (apply z0; exact rfl; exact rfl) | (apply j7; (iterate 4 exact rfl)) | (apply xd; (iterate 3 exact rfl)) | (apply yu; (iterate 3 exact rfl); first | assumption | omega | (simp; omega)) | (apply jq; (iterate 3 exact rfl)) | (apply qv; (iterate 9 exact rfl)) | (apply zv; exact rfl; exact rfl) | (apply wk; (iterate 4 exact rfl); (first | assumption | omega | decide); exact rfl) | (apply ki; (iterate 4 exact rfl); first | assumption | omega | decide))
    | (apply qd; exact Tryz.call98; exact hrd _)
    | (apply qd; exact Tryz.call11; exact hde2 _))
   refine qax [(0, .bx o 0 0), (1, Sv text), (2, Iv ((k + n : Nat) : Int)), (10, wc b)] S [] ⟨rfl, rfl, congrArg Iv hkn, rfl, trivial⟩ rfl rfl fun t => ?_
   rw [hlk, List.drop_drop, hkn] at hRf
   refine qwq (X := AV × AV) rfl (by kernel_rfl) (by kernel_rfl) [(0, .bx o 0 0), (1, Sv text), (2, Iv ((k + n : Nat) : Int)), (10, wc b)]
    (fun x => [(0, 53, .bx o 0 0), (1, 54, .bx o 0 0), (2, 55, .bx o 0 0), (3, 56, .bx o 0 0), (4, 57, .bx o 0 (0 + 2)), (5, 58, dB), (6, 59, wc b), (7, 60, .sl 1 [wc b] none), (8, 61, x.1), (9, 62, .bx o 0 0), (10, 63, .bx o 0 0), (11, 64, .bx o 0 (0 + 3)), (12, 65, dE), (13, 66, Iv ((k + n : Nat) : Int)), (14, 67, .sl 1 [Iv ((k + n : Nat) : Int)] none), (15, 68, x.2), (16, 69, .bx o 0 0), (17, 70, .bx o 0 (0 + 2)), (19, 71, .bx o 0 0), (20, 72, .bx o 0 (0 + 3))])
    (fun J x st1 => (∀ j, j < st.length → j ≠ o → st1[j]? = st[j]?) ∧ st.length ≤ st1.length ∧ st1[o]? = some (.cells 0 53 [Iv gen, Sv base, bif J 18 then x.1 else dB, bif J 21 then x.2 else dE, Sv []]) ∧
     (J 8 = false → TipO st.length st1 1 23 (bs.map wc) dB) ∧ (J 8 = true → TipO st.length st1 1 23 ((bs ++ [b]).map wc) x.1) ∧ (J 15 = false → TipO st.length st1 1 3 (es.map fun x => Iv x) dE) ∧ (J 15 = true → TipO st.length st1 1 3 ((es ++ [((k + n : Nat) : Int)]).map fun x => Iv x) x.2) ∧
     (J 8 = true → J 5 = true) ∧ (J 18 = true → J 8 = true) ∧ (J 15 = true → J 12 = true) ∧ (J 21 = true → J 15 = true))
    (zx, zx) rfl ⟨rfl, rfl, rfl, rfl, trivial⟩ ⟨hI.low, hI.len, hob, fun _ => hI.hB, nofun, fun _ => hI.hE, nofun, nofun, nofun, nofun, nofun⟩ ?_ ?_
   rotate_left
   ·skip
    refine ⟨?_, ?_, ?_, ?_, ?_, ?_, ?_, ?_, ?_, ?_, ?_, ?_, ?_, ?_, ?_, ?_, ?_, ?_, ?_, ?_, ?_, ?_, trivial⟩
    ·intro J t st1 y hi hd hb hv hS
     obtain ⟨e0, e1, e2, e10, _⟩ := id hb
     apply qi
     apply qa
     exact ⟨rfl, wa hb rfl, y, wj hv rfl rfl (by first | exact e0 | exact rfl), hS⟩
    ·intro J t st1 y hi hd hb hv hS
     obtain ⟨e0, e1, e2, e10, _⟩ := id hb
     apply qi
     apply qa
     exact ⟨rfl, wa hb rfl, y, wj hv rfl rfl (by first | exact e0 | exact rfl), hS⟩
    ·intro J t st1 y hi hd hb hv hS
     obtain ⟨e0, e1, e2, e10, _⟩ := id hb
     apply qi
     apply qa
     exact ⟨rfl, wa hb rfl, y, wj hv rfl rfl (by first | exact e0 | exact rfl), hS⟩
    ·intro J t st1 y hi hd hb hv hS
     obtain ⟨e0, e1, e2, e10, _⟩ := id hb
     have e55 := hv 2 55 _ rfl (hd 2 (by kernel_rfl))
     apply zv
     exact e55
     exact rfl
     apply qa
     exact ⟨rfl, wa hb rfl, y, wj hv rfl rfl (by first | exact e55 | exact rfl), hS⟩
    ·intro J t st1 y hi hd hb hv hS
     obtain ⟨e0, e1, e2, e10, _⟩ := id hb
     have e56 := hv 3 56 _ rfl (hd 3 (by kernel_rfl))
     first | (apply qr; exact e56; exact rfl; exact rfl) | (apply jl; exact e56; (iterate 3 exact rfl))
     apply qa
     exact ⟨rfl, wa hb rfl, y, wj hv rfl rfl (by first | exact e56 | exact rfl), hS⟩
    ·intro J t st1 y hi hd hb hv hS
     obtain ⟨e0, e1, e2, e10, _⟩ := id hb
     have e57 := hv 4 57 _ rfl (hd 4 (by kernel_rfl))
     have h8 : J 8 = false := notJ hS.2.2.2.2.2.2.2.1 hi
     have h18 : J 18 = false := notJ hS.2.2.2.2.2.2.2.2.1 h8
     have hob := hS.2.2.1
     rw [h18] at hob
     apply qc
     ·exact e57
     ·exact hob
     ·exact rfl
     ·exact rfl
     apply qa
     exact ⟨rfl, wa hb rfl, y, wj hv rfl rfl rfl, hS.1, hS.2.1, hS.2.2.1, hS.2.2.2.1, hS.2.2.2.2.1, hS.2.2.2.2.2.1, hS.2.2.2.2.2.2.1, fun _ => rfl, hS.2.2.2.2.2.2.2.2⟩
    ·intro J t st1 y hi hd hb hv hS
     obtain ⟨e0, e1, e2, e10, _⟩ := id hb
     apply qi
     apply qa
     exact ⟨rfl, wa hb rfl, y, wj hv rfl rfl (by first | exact e10 | exact rfl), hS⟩
    ·intro J t st1 y hi hd hb hv hS
     obtain ⟨e0, e1, e2, e10, _⟩ := id hb
     have e59 := hv 6 59 _ rfl (hd 6 (by kernel_rfl))
     apply qgj [(0, wc b)] (xs := [wc b])
     ·exact congrArg (fun v => [(0, v)]) e59
     iterate 9 exact rfl
     apply qa
     exact ⟨rfl, wa hb rfl, y, wj hv rfl rfl (by first | exact e59 | exact rfl), hS⟩
    ·intro J t st1 y hi hd hb hv hS
     obtain ⟨e0, e1, e2, e10, _⟩ := id hb
     have e58 := hv 5 58 _ rfl (hd 5 (by kernel_rfl))
     have e60 := hv 7 60 _ rfl (hd 7 (by kernel_rfl))
     have h18 : J 18 = false := notJ hS.2.2.2.2.2.2.2.2.1 hi
     have hob := hS.2.2.1
     have hos3 := lt_of_getElem? hob
     rw [h18] at hob
     have hTd := hS.2.2.2.1 hi
     apply qc4 (b := st.length) (st := st1) (sz := 1) (xs := bs.map wc) (ys := [wc b]) (bytes := 24)
     ·exact rfl
     ·exact e58
     ·exact e60
     ·exact rfl
     ·exact rfl
     ·exact ⟨⟨_, _, rfl, rfl, rfl, rfl, rfl⟩⟩
     ·exact hTd
     ·exact hS.2.1
     ·exact rfl
     ·simp [maxLen]; omega
     ·simp; omega
     intro c3 st3 t3 g1 g2 g3 g4
     have g1' : TipO st.length st3 1 23 ((bs ++ [b]).map wc) c3 := by simpa using g1
     apply qa
     exact ⟨rfl, wa hb rfl, (c3, y.2), wj (qu2 8 (fun k hk => by simp only [qer, hk, cond_false]) hi hv) rfl rfl rfl, fun j hj hn => (g2.same j (by omega) (by have := hS.2.1; omega)).trans (hS.1 j hj hn), Nat.le_trans hS.2.1 g2.len, (g2.same o (by omega) hos3).trans (by rw [hob]; show _ = some (AObj.cells 0 _ [_, _, bif J 18 then c3 else dB, _, _]); rw [h18]; rfl), fun h => absurd h (by simp [addL]), fun _ => g1', fun h => qfz g2 hTd g4 rfl (hS.2.2.2.2.2.1 h), fun h => qfz g2 hTd g4 rfl (hS.2.2.2.2.2.2.1 h), fun _ => hd 5 (by kernel_rfl), fun _ => rfl, hS.2.2.2.2.2.2.2.2.2⟩
    ·intro J t st1 y hi hd hb hv hS
     obtain ⟨e0, e1, e2, e10, _⟩ := id hb
     apply qi
     apply qa
     exact ⟨rfl, wa hb rfl, y, wj hv rfl rfl (by first | exact e0 | exact rfl), hS⟩
    ·intro J t st1 y hi hd hb hv hS
     obtain ⟨e0, e1, e2, e10, _⟩ := id hb
     have e62 := hv 9 62 _ rfl (hd 9 (by kernel_rfl))
     apply zv
     exact e62
     exact rfl
     apply qa
     exact ⟨rfl, wa hb rfl, y, wj hv rfl rfl (by first | exact e62 | exact rfl), hS⟩
    ·intro J t st1 y hi hd hb hv hS
     obtain ⟨e0, e1, e2, e10, _⟩ := id hb
     have e63 := hv 10 63 _ rfl (hd 10 (by kernel_rfl))
     first | (apply qr; exact e63; exact rfl; exact rfl) | (apply jl; exact e63; (iterate 3 exact rfl))
     apply qa
     exact ⟨rfl, wa hb rfl, y, wj hv rfl rfl (by first | exact e63 | exact rfl), hS⟩
    ·intro J t st1 y hi hd hb hv hS
     obtain ⟨e0, e1, e2, e10, _⟩ := id hb
     have e64 := hv 11 64 _ rfl (hd 11 (by kernel_rfl))
     have h15 : J 15 = false := notJ hS.2.2.2.2.2.2.2.2.2.1 hi
     have h21 : J 21 = false := notJ hS.2.2.2.2.2.2.2.2.2.2 h15
     have hob := hS.2.2.1
     rw [h21] at hob
     apply qc
     ·exact e64
     ·exact hob
     ·exact rfl
     ·exact rfl
     apply qa
     exact ⟨rfl, wa hb rfl, y, wj hv rfl rfl rfl, hS.1, hS.2.1, hS.2.2.1, hS.2.2.2.1, hS.2.2.2.2.1, hS.2.2.2.2.2.1, hS.2.2.2.2.2.2.1, hS.2.2.2.2.2.2.2.1, hS.2.2.2.2.2.2.2.2.1, fun _ => rfl, hS.2.2.2.2.2.2.2.2.2.2⟩
    ·intro J t st1 y hi hd hb hv hS
     obtain ⟨e0, e1, e2, e10, _⟩ := id hb
     apply qi
     apply qa
     exact ⟨rfl, wa hb rfl, y, wj hv rfl rfl (by first | exact e2 | exact rfl), hS⟩
    ·intro J t st1 y hi hd hb hv hS
     obtain ⟨e0, e1, e2, e10, _⟩ := id hb
     have e66 := hv 13 66 _ rfl (hd 13 (by kernel_rfl))
     apply qgj [(0, Iv ((k + n : Nat) : Int))] (xs := [Iv ((k + n : Nat) : Int)])
     ·exact congrArg (fun v => [(0, v)]) e66
     iterate 9 exact rfl
     apply qa
     exact ⟨rfl, wa hb rfl, y, wj hv rfl rfl (by first | exact e66 | exact rfl), hS⟩
    ·intro J t st1 y hi hd hb hv hS
     obtain ⟨e0, e1, e2, e10, _⟩ := id hb
     have e65 := hv 12 65 _ rfl (hd 12 (by kernel_rfl))
     have e67 := hv 14 67 _ rfl (hd 14 (by kernel_rfl))
     have h21 : J 21 = false := notJ hS.2.2.2.2.2.2.2.2.2.2 hi
     have hob := hS.2.2.1
     have hos3 := lt_of_getElem? hob
     rw [h21] at hob
     have hTd := hS.2.2.2.2.2.1 hi
     apply qc4 (b := st.length) (st := st1) (sz := 1) (xs := es.map fun x => Iv x) (ys := [Iv ((k + n : Nat) : Int)]) (bytes := 8)
     ·exact rfl
     ·exact e65
     ·exact e67
     ·exact rfl
     ·exact rfl
     ·exact ⟨⟨_, _, rfl, rfl, rfl, rfl, rfl⟩⟩
     ·exact hTd
     ·exact hS.2.1
     ·exact rfl
     ·simp [maxLen]; omega
     ·simp; omega
     intro c3 st3 t3 g1 g2 g3 g4
     have g1' : TipO st.length st3 1 3 ((es ++ [((k + n : Nat) : Int)]).map fun x => Iv x) c3 := by simpa using g1
     apply qa
     exact ⟨rfl, wa hb rfl, (y.1, c3), wj (qu2 15 (fun k hk => by simp only [qer, hk, cond_false]) hi hv) rfl rfl rfl, fun j hj hn => (g2.same j (by omega) (by have := hS.2.1; omega)).trans (hS.1 j hj hn), Nat.le_trans hS.2.1 g2.len, (g2.same o (by omega) hos3).trans (by rw [hob]; show _ = some (AObj.cells 0 _ [_, _, _, bif J 21 then c3 else dE, _]); rw [h21]; rfl), fun h => qfz g2 hTd g4 rfl (hS.2.2.2.1 h), fun h => qfz g2 hTd g4 rfl (hS.2.2.2.2.1 h), fun h => absurd h (by simp [addL]), fun _ => g1', hS.2.2.2.2.2.2.2.1, hS.2.2.2.2.2.2.2.2.1, fun _ => hd 12 (by kernel_rfl), fun _ => rfl⟩
    ·intro J t st1 y hi hd hb hv hS
     obtain ⟨e0, e1, e2, e10, _⟩ := id hb
     have e53 := hv 0 53 _ rfl (hd 0 (by kernel_rfl))
     apply zv
     exact e53
     exact rfl
     apply qa
     exact ⟨rfl, wa hb rfl, y, wj hv rfl rfl (by first | exact e53 | exact rfl), hS⟩
    ·intro J t st1 y hi hd hb hv hS
     obtain ⟨e0, e1, e2, e10, _⟩ := id hb
     have e69 := hv 16 69 _ rfl (hd 16 (by kernel_rfl))
     first | (apply qr; exact e69; exact rfl; exact rfl) | (apply jl; exact e69; (iterate 3 exact rfl))
     apply qa
     exact ⟨rfl, wa hb rfl, y, wj hv rfl rfl (by first | exact e69 | exact rfl), hS⟩
    ·intro J t st1 y hi hd hb hv hS
     obtain ⟨e0, e1, e2, e10, _⟩ := id hb
     have e70 := hv 17 70 _ rfl (hd 17 (by kernel_rfl))
     have e61 := hv 8 61 _ rfl (hd 8 (by kernel_rfl))
     have hob := hS.2.2.1
     have hTd := hS.2.2.2.2.1 (hd 8 (by kernel_rfl))
     apply qs
     ·exact e70
     ·exact e61
     ·exact hob
     ·exact rfl
     ·exact qrn hTd
     ·exact qnn hTd
     ·exact rfl
     ·exact qrd hTd
     ·exact rfl
     apply qa
     exact ⟨rfl, hb, y, qp6 hv rfl, fun j hj hn => (v8 hn).trans (hS.1 j hj hn), Nat.le_trans hS.2.1 (Nat.le_of_eq List.length_set.symm), zw hob, fun h => qbz hos (hS.2.2.2.1 h), fun h => qbz hos (hS.2.2.2.2.1 h), fun h => qbz hos (hS.2.2.2.2.2.1 h), fun h => qbz hos (hS.2.2.2.2.2.2.1 h), hS.2.2.2.2.2.2.2.1, fun _ => hd 8 (by kernel_rfl), hS.2.2.2.2.2.2.2.2.2⟩
    ·intro J t st1 y hi hd hb hv hS
     obtain ⟨e0, e1, e2, e10, _⟩ := id hb
     have e54 := hv 1 54 _ rfl (hd 1 (by kernel_rfl))
     apply zv
     exact e54
     exact rfl
     apply qa
     exact ⟨rfl, wa hb rfl, y, wj hv rfl rfl (by first | exact e54 | exact rfl), hS⟩
    ·intro J t st1 y hi hd hb hv hS
     obtain ⟨e0, e1, e2, e10, _⟩ := id hb
     have e71 := hv 19 71 _ rfl (hd 19 (by kernel_rfl))
     first | (apply qr; exact e71; exact rfl; exact rfl) | (apply jl; exact e71; (iterate 3 exact rfl))
     apply qa
     exact ⟨rfl, wa hb rfl, y, wj hv rfl rfl (by first | exact e71 | exact rfl), hS⟩
    ·intro J t st1 y hi hd hb hv hS
     obtain ⟨e0, e1, e2, e10, _⟩ := id hb
     have e72 := hv 20 72 _ rfl (hd 20 (by kernel_rfl))
     have e68 := hv 15 68 _ rfl (hd 15 (by kernel_rfl))
     have hob := hS.2.2.1
     have hTd := hS.2.2.2.2.2.2.1 (hd 15 (by kernel_rfl))
     apply qs
     ·exact e72
     ·exact e68
     ·exact hob
     ·exact rfl
     ·exact qrn hTd
     ·exact qnn hTd
     ·exact rfl
     ·exact qrd hTd
     ·exact rfl
     apply qa
     exact ⟨rfl, hb, y, qp6 hv rfl, fun j hj hn => (v8 hn).trans (hS.1 j hj hn), Nat.le_trans hS.2.1 (Nat.le_of_eq List.length_set.symm), zw hob, fun h => qbz hos (hS.2.2.2.1 h), fun h => qbz hos (hS.2.2.2.2.1 h), fun h => qbz hos (hS.2.2.2.2.2.1 h), fun h => qbz hos (hS.2.2.2.2.2.2.1 h), hS.2.2.2.2.2.2.2.1, hS.2.2.2.2.2.2.2.2.1, hS.2.2.2.2.2.2.2.2.2.1, fun _ => hd 15 (by kernel_rfl)⟩
   ·rintro J t2 st2 x hall hb hv ⟨hS1, hS2, hS3, _, hS5, _, hS7, _, _, _, _⟩
    rw [hall 18 (by decide), hall 21 (by decide)] at hS3
    exact ⟨k + n, ⟨by omega, f, bs ++ [b], es ++ [((k + n : Nat) : Int)], x.1, x.2, st2, by omega, hRf, by simp; omega, by simp [hel], ⟨hS1, hS2, hS3, hS5 (hall 8 (by decide)), hS7 (hall 15 (by decide))⟩, qal ⟨hb.1, hb.2.1, hb.2.2.1, trivial⟩⟩, by omega⟩
 ·rw [h2] at hrd
  rw [qwr h2] at hRf
  obtain ⟨b, e, hbe⟩ := qqd (decF (je l).2.1)
  rw [hbe] at hde
  repeat' (first
   | (apply qat; first | apply qm | apply q4 | apply qe | (apply qg; exact rfl; first | (apply ze; (first | assumption | omega)) | (apply zd; (first | assumption | omega)) | (apply zc; (first | exact rfl | assumption)) | (apply zb; (first | exact rfl | assumption)) | (apply cd_n <;> intro h) | (apply cd_t; (first | exact rfl | assumption)) | (apply cd_f; (first | exact rfl | assumption)) | (apply cd_d <;> intro h) | (apply cd_s <;> intro h)) | (apply qad; exact rfl; kernel_rfl) | apply q6 | apply jp | apply qz)
   | (apply x8; first | (apply za; (iterate 4 exact rfl)) | (apply j8; (iterate 4 exact rfl)))
   | (apply qbe; first | (apply xk; (first | assumption | omega)) | (apply kv; (first | assumption | omega)) | (apply ve; (first | assumption | omega)) | (apply wz; (first | assumption | omega)) | (apply yq; (first | exact rfl | assumption)) | (apply vw; (first | exact rfl | assumption)) | (apply v6; (first | exact rfl | assumption)) | (apply xp; (first | exact rfl | assumption)) | (apply xh <;> intro h) | (apply xa; (first | exact rfl | assumption)) | (apply yc; (first | exact rfl | assumption)) | (apply vz; (first | exact rfl | assumption)) | (apply wd; (first | exact rfl | assumption)) | (apply kl <;> intro h) | (apply xu <;> intro h))
   | (apply qbi; first | apply qbb | (apply qbg; (iterate 4 exact rfl)) | (apply qcj; exact rfl; exact rfl; exact zi (by omega) (by omega)) | (apply qbf; (iterate 4 exact rfl); (first | assumption | omega | (simp; omega)); first | assumption | omega | (simp; omega)) | (apply xl; (iterate 5 exact rfl)) | (apply yi; exact rfl; exact rfl; (first | omega | (simp only [List.length_append, List.length_cons, List.length_nil]; omega) | (simp; omega))) | (apply xq; (iterate 3 exact rfl)) | (apply wv; (iterate 5 exact rfl)) | (apply vk; (iterate 4 exact rfl)) | (apply vi; (iterate 3 exact rfl)) | (apply qb4; (iterate 3 exact rfl); first | assumption | omega | (simp; omega)) | (apply qa0; exact rfl; exact rfl) | (apply qab; exact rfl; exact rfl) | (apply qaa; (iterate 3 exact rfl); omega) | (apply ym; (iterate 3 exact rfl)) | apply qac | apply yn | (apply qcl; exact rfl; exact rfl; exact zi (by omega) (by omega)) | (apply qbh; (iterate 3 exact rfl)) | (apply qa1; (iterate 3 exact rfl); first | assumption | omega | (simp; omega)) | (apply qa3; (iterate 3 exact rfl); first | assumption | omega | (simp; omega)) | (apply xo; exact rfl; exact rfl))
   | (apply x7; first | (apply qw; (iterate 3 exact rfl)) | (apply ji; (iterate 3 exact rfl)) | (apply jy; exact rfl; exact rfl; (first | omega | (simp only [List.length_append, List.length_cons, List.length_nil]; omega) | (simp; omega))) | (apply js; exact rfl; exact rfl; exact zi (by omega) (by omega)) | (apply w9; exact rfl; exact rfl; exact zi (by omega) (by omega)) | (apply z8; exact rfl; exact rfl) | (apply zr; exact rfl; exact rfl) | (apply vl; exact rfl; exact rfl) | (apply vh; exact rfl; exact rfl) | (apply vb; (iterate 3 exact rfl)) | (apply vt; (iterate 3 exact rfl)) | (apply wt; exact rfl; exact rfl; (first | exact qy _ | exact rfl); first | exact qy _ | exact rfl) | (apply xe; exact rfl; exact rfl; (first | exact qy _ | exact rfl); first | exact qy _ | exact rfl) | (apply y4; exact rfl; exact rfl; (first | exact qy _ | exact rfl); first | exact qy _ | exact rfl) | (apply wg; (iterate 3 exact rfl)) | (apply wr; (iterate 3 exact rfl)))
   | (apply y5; first | (apply qk; (iterate 3 exact rfl)) | (apply qq; (iterate 5 exact rfl)) | (apply qh; (iterate 5 exact rfl)))
   | (apply y0; first | (apply xm; exact rfl) | (apply jc; exact rfl) | (apply v7; exact rfl))
   | (apply x9; first | (apply xw; (iterate 3 exact rfl); first | assumption | omega | (simp; omega)) | (apply xz; (iterate 3 exact rfl); first | assumption | omega | (simp; omega)) | (apply yp; (iterate 4 exact rfl); (first | assumption | omega | (simp; omega)); first | assumption | omega | (simp; omega)) | (apply va; (iterate 4 exact rfl); (first | assumption | omega | exact Nat.succ_le_succ (Nat.zero_le _) | (simp; omega)); exact rfl))
   | (apply y3; first | (apply j3; (iterate 3 exact rfl)) | (apply zy; (iterate 4 exact rfl)))
   | (apply vu; first | (apply qr; (iterate 3 exact rfl)) | (apply jl; (iterate 4 exact rfl)))
   | (apply ya; first | (apply qx; (iterate 11 exact rfl)) | (apply qn; (iterate 11 exact rfl)))
   | (apply qar; first | apply qa | apply qi | apply qf | (apply zj; exact rfl; exact rfl) | (apply zg; exact rfl; first | (apply kc; (first | assumption | omega)) | (apply ka; (first | assumption | omega)) | (apply j9; (first | exact rfl | assumption)) | (apply ke; (first | exact rfl | assumption)) | (apply pk_t; (first | exact rfl | assumption)) | (apply pk_f; (first | exact rfl | assumption))) | (apply q9; exact rfl; exact rfl) | apply vj | (apply z0; exact rfl; exact rfl) | (apply j7; (iterate 4 exact rfl)) | (apply xd; (iterate 3 exact rfl)) | (apply yu; (iterate 3 exact rfl); first | assumption | omega | (simp; omega)) | (apply jq; (iterate 3 exact rfl)) | (apply qv; (iterate 9 exact rfl)) | (apply zv; exact rfl; exact rfl) | (apply wk; (iterate 4 exact rfl); (first | assumption | omega | decide); exact rfl) | (apply ki; (iterate 4 exact rfl); first | assumption | omega | decide))
   | (apply qd; exact Tryz.call98; exact hrd _)
   | (apply qd; exact Tryz.call11; exact hde _)
   | (apply qs; exact rfl; exact rfl; exact hob0; (iterate 6 exact rfl)))
  refine qo rfl (zm rfl) ⟨by rw [← hRf]; rfl, fun j hj hn => (v8 hn).trans (hI.low j hj hn), Nat.le_trans hI.len (Nat.le_of_eq List.length_set.symm), fun _ => ⟨dB, dE, ?_⟩⟩
  rw [← hRf, hlk]
  exact ⟨fun j hj hn => (v8 hn).trans (hI.low j hj hn), Nat.le_trans hI.len (Nat.le_of_eq List.length_set.symm), zw hob, qbz hos hI.hB, qbz hos hI.hE⟩
 ·rw [h3] at hrd
  rw [qzq h3] at hRf
  obtain ⟨b, e, hbe⟩ := qqd (decF (je l).2.1)
  rw [hbe] at hde
  have hbb : lenA dB = some bs.length := by have := qje hI.hB; simpa using this
  repeat' (first
   | (apply qea; (iterate 3 exact rfl))
   | (apply qat; first | apply qm | apply q4 | apply qe | (apply qg; exact rfl; first | (apply ze; (first | assumption | omega)) | (apply zd; (first | assumption | omega)) | (apply zc; (first | exact rfl | assumption)) | (apply zb; (first | exact rfl | assumption)) | (apply cd_n <;> intro h) | (apply cd_t; (first | exact rfl | assumption)) | (apply cd_f; (first | exact rfl | assumption)) | (apply cd_d <;> intro h) | (apply cd_s <;> intro h)) | (apply qad; exact rfl; kernel_rfl) | apply q6 | apply jp | apply qz)
   | (apply x8; first | (apply za; (iterate 4 exact rfl)) | (apply j8; (iterate 4 exact rfl)))
   | (apply qbe; first | (apply xk; (first | assumption | omega)) | (apply kv; (first | assumption | omega)) | (apply ve; (first | assumption | omega)) | (apply wz; (first | assumption | omega)) | (apply yq; (first | exact rfl | assumption)) | (apply vw; (first | exact rfl | assumption)) | (apply v6; (first | exact rfl | assumption)) | (apply xp; (first | exact rfl | assumption)) | (apply xh <;> intro h) | (apply xa; (first | exact rfl | assumption)) | (apply yc; (first | exact rfl | assumption)) | (apply vz; (first | exact rfl | assumption)) | (apply wd; (first | exact rfl | assumption)) | (apply kl <;> intro h) | (apply xu <;> intro h))
   | (apply qbi; first | apply qbb | (apply qbg; (iterate 4 exact rfl)) | (apply qcj; exact rfl; exact rfl; exact zi (by omega) (by omega)) | (apply qbf; (iterate 4 exact rfl); (first | assumption | omega | (simp; omega)); first | assumption | omega | (simp; omega)) | (apply xl; (iterate 5 exact rfl)) | (apply yi; exact rfl; exact rfl; (first | omega | (simp only [List.length_append, List.length_cons, List.length_nil]; omega) | (simp; omega))) | (apply xq; (iterate 3 exact rfl)) | (apply wv; (iterate 5 exact rfl)) | (apply vk; (iterate 4 exact rfl)) | (apply vi; (iterate 3 exact rfl)) | (apply qb4; (iterate 3 exact rfl); first | assumption | omega | (simp; omega)) | (apply qa0; exact rfl; exact rfl) | (apply qab; exact rfl; exact rfl) | (apply qaa; (iterate 3 exact rfl); omega) | (apply ym; (iterate 3 exact rfl)) | apply qac | apply yn | (apply qcl; exact rfl; exact rfl; exact zi (by omega) (by omega)) | (apply qbh; (iterate 3 exact rfl)) | (apply qa1; (iterate 3 exact rfl); first | assumption | omega | (simp; omega)) | (apply qa3; (iterate 3 exact rfl); first | assumption | omega | (simp; omega)) | (apply xo; exact rfl; exact rfl))
   | (apply x7; first | (apply qw; (iterate 3 exact rfl)) | (apply ji; (iterate 3 exact rfl)) | (apply jy; exact rfl; exact rfl; (first | omega | (simp only [List.length_append, List.length_cons, List.length_nil]; omega) | (simp; omega))) | (apply js; exact rfl; exact rfl; exact zi (by omega) (by omega)) | (apply w9; exact rfl; exact rfl; exact zi (by omega) (by omega)) | (apply z8; exact rfl; exact rfl) | (apply zr; exact rfl; exact rfl) | (apply vl; exact rfl; exact rfl) | (apply vh; exact rfl; exact rfl) | (apply vb; (iterate 3 exact rfl)) | (apply vt; (iterate 3 exact rfl)) | (apply wt; exact rfl; exact rfl; (first | exact qy _ | exact rfl); first | exact qy _ | exact rfl) | (apply xe; exact rfl; exact rfl; (first | exact qy _ | exact rfl); first | exact qy _ | exact rfl) | (apply y4; exact rfl; exact rfl; (first | exact qy _ | exact rfl); first | exact qy _ | exact rfl) | (apply wg; (iterate 3 exact rfl)) | (apply wr; (iterate 3 exact rfl)))
   | (apply y5; first | (apply qk; (iterate 3 exact rfl)) | (apply qq; (iterate 5 exact rfl)) | (apply qh; (iterate 5 exact rfl)))
   | (apply y0; first | (apply xm; exact rfl) | (apply jc; exact rfl) | (apply v7; exact rfl))
   | (apply x9; first | (apply xw; (iterate 3 exact rfl); first | assumption | omega | (simp; omega)) | (apply xz; (iterate 3 exact rfl); first | assumption | omega | (simp; omega)) | (apply yp; (iterate 4 exact rfl); (first | assumption | omega | (simp; omega)); first | assumption | omega | (simp; omega)) | (apply va; (iterate 4 exact rfl); (first | assumption | omega | exact Nat.succ_le_succ (Nat.zero_le _) | (simp; omega)); exact rfl))
   | (apply y3; first | (apply j3; (iterate 3 exact rfl)) | (apply zy; (iterate 4 exact rfl)))
   | (apply vu; first | (apply qr; (iterate 3 exact rfl)) | (apply jl; (iterate 4 exact rfl)))
   | (apply ya; first | (apply qx; (iterate 11 exact rfl)) | (apply qn; (iterate 11 exact rfl)))
   | (apply qar; first | apply qa | apply qi | apply qf | (apply zj; exact rfl; exact rfl) | (apply zg; exact rfl; first | (apply kc; (first | assumption | omega)) | (apply ka; (first | assumption | omega)) | (apply j9; (first | exact rfl | assumption)) | (apply ke; (first | exact rfl | assumption)) | (apply pk_t; (first | exact rfl | assumption)) | (apply pk_f; (first | exact rfl | assumption))) | (apply q9; exact rfl; exact rfl) | apply vj | (apply z0; exact rfl; exact rfl) | (apply j7; (iterate 4 exact rfl)) | (apply xd; (iterate 3 exact rfl)) | (apply yu; (iterate 3 exact rfl); first | assumption | omega | (simp; omega)) | (apply jq; (iterate 3 exact rfl)) | (apply qv; (iterate 9 exact rfl)) | (apply zv; exact rfl; exact rfl) | (apply wk; (iterate 4 exact rfl); (first | assumption | omega | decide); exact rfl) | (apply ki; (iterate 4 exact rfl); first | assumption | omega | decide))
   | (apply qd; exact Tryz.call98; exact hrd _)
   | (apply qd; exact Tryz.call11; exact hde _)
   | (apply qc; exact rfl; exact hob0; exact rfl; exact rfl)
   | (apply zy; exact rfl; exact hbb; exact rfl; exact rfl))
  refine qo rfl (zm rfl) ⟨?_, hI.low, hI.len, fun h => by rw [← hRf] at h; simp at h⟩
  rw [← hRf]
  rfl
end Go.Proofs.YtefmcijohgpfhaaGreatDoor
set_option maxRecDepth 100000
set_option linter.unusedVariables false
namespace Go.Proofs.YtefmcijohgpfhaaGreatDoor
open Go Go.Av Go.RowKit Go.Proofs Go.Pl
theorem qr1 (b : List zq) : qk9 (wc b) := fun y hy => by
 simp only [AV.cells, List.mem_cons, List.not_mem_nil, or_false] at hy
 subst hy
 exact qhq _
theorem qqv (bs : List (List zq)) : Pure (qse bs) := qe2 fun x hx => by
 obtain ⟨b, _, rfl⟩ := List.mem_map.1 hx
 exact qr1 b
theorem qv7 (es : List Int) : Pure (qg3 es) := qe2 fun x hx => by
 obtain ⟨b, _, rfl⟩ := List.mem_map.1 hx
 intro y hy
 simp only [AV.cells, List.mem_cons, List.not_mem_nil, or_false] at hy
 subst hy
 exact z4 _
theorem qwi (b : y6) : Pure (qlc b) := qk2 fun x hx => by
 simp only [List.mem_cons, List.not_mem_nil, or_false] at hx
 rcases hx with rfl | rfl | rfl | rfl | rfl
 ·exact z4 _
 ·exact z4 _
 ·exact qqv _
 ·exact qv7 _
 ·exact z4 _
def qyp (x : ErrV × y6) : AV := .tu [qlc x.2, errA x.1]
theorem qt2 (x : ErrV × y6) : Pure (qyp x) := y9 (qwi _) (qc6 _)
theorem qts (text : qb) (st : List AObj) (hl : 60000 < text.length) (h2 : text.length < 1000000) : q7 E 57 [Sv text] st fun r st' => r = .tu [qfo [], errA (.num 1)] ∧ st' = st := by
 refine qbj [.s text] (y9 (qlz _) (qc6 _)) Tryz.func57 rfl rfl (fun _ => rfl) rfl fun S0 => ?_
 apply jx []
 repeat' (first
  | apply And.intro
  | (intro h; first | (exfalso; omega) | (exfalso; exact h rfl) | (exfalso; revert h; decide) | skip)
  | exact rfl
  | exact trivial
  | exact fun _ => rfl
  | exact kf _
  | apply jt []
  | exact DrOk.mk (by kernel_rfl)
  | exact ja fun _ => rfl
  | omega
  | (simp only [List.length_map, List.length_append, List.length_cons, List.length_nil, List.length_take, List.length_drop]; omega)
  | exact ku
  | (refine Exists.intro _ ⟨rfl, ?_⟩)
  | refine v4 ?_)
def itsE (text : qb) : List wb := if 60000 < text.length then [] else (kp text).2
theorem qz2 (text : qb) (st : List AObj) (hl : text.length < 1000000) : q7 E 57 [Sv text] st fun r st' => r = .tu [qfo (itsE text), errA (qdp text)] ∧ st' = st := by
 unfold qdp itsE
 by_cases hb : 60000 < text.length
 ·rw [if_pos hb, if_pos hb]
  exact qts text st hb hl
 ·rw [if_neg hb, if_neg hb]
  have := qmb text st (by omega)
  unfold qfm at this
  rcases hp : (kp text).1 with _ | ⟨x, y⟩
  ·rw [hp] at this
   exact this
  ·rw [hp] at this
   exact this
def qgl (k nx : Nat) (gen : Int) (base : qb) (R : Bool × List (List zq) × List Int × qb) : Ef :=
 ⟨.a (.v .nilIface), [k], [(k, some (.cells 53 [.i gen, .s base, .tp nx, .tp (nx + 1), .s R.2.2.2])), (nx, some (.tip 1 23 (R.2.1.map wc))), (nx + 1, some (.tip 1 3 (R.2.2.1.map fun x => Iv x)))], nx + 2⟩
theorem qtl {b : Nat} {st : List AObj} {sz : Nat} {T : TypeId} {xs : List AV} {c : AV} (h : TipO b st sz T xs c) : TipO 0 st sz T xs c := by
 rcases h with (h | ⟨t, h1, h2, h3⟩) | h
 ·exact .inl (.inl h)
 ·exact .inl (.inr ⟨t, h1, h2, Nat.zero_le _⟩)
 ·exact .inr h
theorem qip {b : Nat} {st : List AObj} {sz : Nat} {T : TypeId} {xs : List AV} {c : AV} (h : TipO b st sz T xs c) {o : Nat} (ho : j4 c = some o) : b ≤ o ∧ st[o]? = some (.tip xs.length sz T) := by
 rcases h with (⟨_, rfl⟩ | ⟨t, rfl, h2, h3⟩) | ⟨_, _, _, _, rfl⟩
 ·simp [j4] at ho
 ·simp only [j4, Option.some.injEq] at ho; subst ho; exact ⟨h3, h2⟩
 ·simp [j4] at ho
theorem q0r {nx k : Nat} {H : Nat → Option SR} (gen : Int) (base text : qb) (a : Nat) (hk : Nat.blt k nx = true) (hH : H k = some (.cells 53 [.i gen, .s base, .a zx, .a zx, .s []])) (hl : text.length < 1000000) (ha : a ≤ text.length)
  (h1 : (Go.Pl.recsF (text.length + 1) (text.drop a) a [] []).1 = false) : qkc E 63 [.bx k 0, .s text, .i a] nx H (qgl k nx gen base (Go.Pl.recsF (text.length + 1) (text.drop a) a [] [])) := fun ρ S hS => by
 have hk := yh hk
 obtain ⟨o, v, g1, g2, rfl⟩ := hS.ok k _ ((qa9 k).trans hH)
 have hc := qu8 o gen base text a S g2 hl ha
 have e1 : SV.evs ρ [.bx k 0, .s text, .i a] = [.bx o 0 0, Sv text, Iv a] := by simp only [SV.evs, SV.ev, g1, bxAt]
 rw [e1]
 generalize Go.Pl.recsF (text.length + 1) (text.drop a) a [] [] = R at hc h1
 refine hc.mono ?_
 rintro r S' ⟨hr, hlow, hlen, hrec⟩
 obtain ⟨dB, dE, hI⟩ := hrec h1
 have he : qow R = .no := if_neg (by rw [h1]; simp)
 rw [he] at hr
 have hos := lt_of_getElem? g2
 refine ⟨upd (upd ρ nx dB) (nx + 1) dE, hr, ⟨fun j hj => ?_, ⟨fun j q hj => ?_, fun j j' q q' hne hj hj' o' ho ho' => ?_⟩, hlen, fun j hj hn => ?_, fun j q hj o' ho => ?_⟩⟩
 ·simp only [qgl] at hj
  rw [x3 _ _ (by omega), x3 _ _ (by omega)]
 all_goals
  have key : ∀ j q, chF (qgl k nx gen base R).ch (resF (qgl k nx gen base R).ks H) j = some q → (j = k ∧ q = .cells 53 [.i gen, .s base, .tp nx, .tp (nx + 1), .s R.2.2.2]) ∨ (j = nx ∧ q = .tip 1 23 (R.2.1.map wc)) ∨ (j = nx + 1 ∧ q = .tip 1 3 (R.2.2.1.map fun x => Iv x)) := fun j q hj => by
   simp only [qgl, chF, lkS] at hj
   by_cases e1 : k = j
   ·subst e1; simp at hj; exact .inl ⟨rfl, hj.symm⟩
   ·rw [vp e1] at hj
    by_cases e2 : nx = j
    ·subst e2; simp at hj; exact .inr (.inl ⟨rfl, hj.symm⟩)
    ·rw [vp e2] at hj
     by_cases e3 : nx + 1 = j
     ·subst e3; simp at hj; exact .inr (.inr ⟨rfl, hj.symm⟩)
     ·rw [vp e3] at hj
      have := (wy hj).1
      simp only [memN, List.any_cons, List.any_nil, Bool.or_false] at this
      exact absurd (Nat.eq_of_beq_eq_true this).symm e1
  have v1 : upd (upd ρ nx dB) (nx + 1) dE k = .bx o 0 0 := by rw [x3 _ _ (by omega), x3 _ _ (by omega)]; exact g1
  have v2 : upd (upd ρ nx dB) (nx + 1) dE nx = dB := by rw [x3 _ _ (by omega), w6]
  have v3 : upd (upd ρ nx dB) (nx + 1) dE (nx + 1) = dE := w6 _ _ _
 ·rcases key j q hj with ⟨rfl, rfl⟩ | ⟨rfl, rfl⟩ | ⟨rfl, rfl⟩
  ·refine ⟨o, 0, v1, ?_, rfl⟩
   have := hI.ob
   simp only [SV.evs, SV.ev, v2, v3, qgq hI.hB, qgq hI.hE]
   exact this
  ·rw [v2]; exact qtl hI.hB
  ·rw [v3]; exact qtl hI.hE
 ·have L : ∀ j q o', chF (qgl k nx gen base R).ch (resF (qgl k nx gen base R).ks H) j = some q → j4 (upd (upd ρ nx dB) (nx + 1) dE j) = some o' → (j = k ∧ o' = o) ∨ (j = nx ∧ S.length ≤ o' ∧ S'[o']? = some (.tip (R.2.1.map wc).length 1 23)) ∨ (j = nx + 1 ∧ S.length ≤ o' ∧ S'[o']? = some (.tip (R.2.2.1.map fun x => Iv x).length 1 3)) := fun j q o' hj ho => by
   rcases key j q hj with ⟨rfl, _⟩ | ⟨rfl, _⟩ | ⟨rfl, _⟩
   ·rw [v1] at ho; simp only [j4, Option.some.injEq] at ho; exact .inl ⟨rfl, ho.symm⟩
   ·rw [v2] at ho; exact .inr (.inl ⟨rfl, qip hI.hB ho⟩)
   ·rw [v3] at ho; exact .inr (.inr ⟨rfl, qip hI.hE ho⟩)
  rcases L j q o' hj ho with ⟨a1, a2⟩ | ⟨a1, a2, a3⟩ | ⟨a1, a2, a3⟩ <;> rcases L j' q' o' hj' ho' with ⟨b1, b2⟩ | ⟨b1, b2, b3⟩ | ⟨b1, b2, b3⟩
  all_goals first | exact hne (a1.trans b1.symm) | omega | (rw [a3] at b3; simp at b3)
 ·refine hlow j hj fun e => ?_
  subst e
  exact hn k _ ((qa9 k).trans hH) (by rw [g1]; rfl)
 ·rcases key j q hj with ⟨rfl, rfl⟩ | ⟨rfl, rfl⟩ | ⟨rfl, rfl⟩
  ·rw [v1] at ho; exact .inr ⟨j, _, (qa9 j).trans hH, by rw [g1]; exact ho⟩
  ·rw [v2] at ho; exact .inl (qip hI.hB ho).1
  ·rw [v3] at ho; exact .inl (qip hI.hE ho).1
theorem qx8 {nx k : Nat} {H : Nat → Option SR} (gen : Int) (base text : qb) (a : Nat) (hH : H k = some (.cells 53 [.i gen, .s base, .a zx, .a zx, .s []])) (hl : text.length < 1000000) (ha : a ≤ text.length)
  (h1 : (Go.Pl.recsF (text.length + 1) (text.drop a) a [] []).1 = true) : qkc E 63 [.bx k 0, .s text, .i a] nx H ⟨.a (errA (.at' (Go.Pl.recsF (text.length + 1) (text.drop a) a [] []).2.1.length 10)), [k], [(k, none)], nx⟩ := fun ρ S hS => by
 obtain ⟨o, v, g1, g2, rfl⟩ := hS.ok k _ ((qa9 k).trans hH)
 have hc := qu8 o gen base text a S g2 hl ha
 have e1 : SV.evs ρ [.bx k 0, .s text, .i a] = [.bx o 0 0, Sv text, Iv a] := by simp only [SV.evs, SV.ev, g1, bxAt]
 rw [e1]
 generalize Go.Pl.recsF (text.length + 1) (text.drop a) a [] [] = R at hc h1
 refine hc.mono ?_
 rintro r S' ⟨hr, hlow, hlen, _⟩
 have he : qow R = .at' R.2.1.length 10 := if_pos h1
 rw [he] at hr
 have key : ∀ j q, chF [(k, none)] (resF [k] H) j = some q → False := fun j q hj => by
  simp only [chF, lkS] at hj
  by_cases e1 : k = j
  ·subst e1; simp at hj
  ·rw [vp e1] at hj
   have := (wy hj).1
   simp only [memN, List.any_cons, List.any_nil, Bool.or_false] at this
   exact e1 (Nat.eq_of_beq_eq_true this).symm
 exact ⟨ρ, hr, ⟨fun _ _ => rfl, ⟨fun j q hj => (key j q hj).elim, fun j j' q q' _ hj => (key j q hj).elim⟩, hlen, fun j hj hn => hlow j hj fun e => by
  subst e
  exact hn k _ ((qa9 k).trans hH) (by rw [g1]; rfl), fun j q hj => (key j q hj).elim⟩⟩
end Go.Proofs.YtefmcijohgpfhaaGreatDoor
set_option maxRecDepth 100000
set_option linter.unusedVariables false
namespace Go.Proofs.YtefmcijohgpfhaaGreatDoor
open Go Go.Av Go.RowKit Go.Proofs Go.Pl
theorem qpd (text : qb) (st : List AObj) (hl : text.length < 1000000) : q7 E 27 [Sv text] st fun r st' => r = qyp (qen text) ∧ st' = st := by
 refine qbj [.s text] (qt2 _) Tryz.func27 rfl rfl (fun _ => rfl) rfl fun S0 => ?_
 by_cases hbig : 120000 < text.length
 ·have e : qen text = (.num 1, qg9) := if_pos hbig
  rw [e]
  apply jx []
  repeat' (first
   | apply And.intro
   | (intro h; first | (exfalso; omega) | (exfalso; exact h rfl) | (exfalso; revert h; decide) | skip)
   | exact rfl
   | exact trivial
   | exact fun _ => rfl
   | exact kf _
   | apply jt []
   | exact DrOk.mk (by kernel_rfl)
   | exact ja fun _ => rfl
   | omega
   | (simp only [List.length_map, List.length_append, List.length_cons, List.length_nil, List.length_take, List.length_drop]; omega)
   | exact ku
   | (refine Exists.intro _ ⟨rfl, ?_⟩)
   | refine v4 ?_)
 have hsp := qht text
 have hrl : (yr text).2.length ≤ text.length := by
  conv => rhs; rw [hsp.1]
  simp
 have hbl := qst (yr text).2
 obtain ⟨g, rest, htk⟩ : ∃ g rest, yr text = (g, rest) := ⟨_, _, rfl⟩
 have hF : qen text = match qdp (rest.take (kw rest.length rest)) with
   | .no => if (Go.Pl.recsF (text.length + 1) (rest.drop (kw rest.length rest)) (((text.length - rest.length + kw rest.length rest : Nat)) : Int) [] []).1 = true then (.at' (Go.Pl.recsF (text.length + 1) (rest.drop (kw rest.length rest)) (((text.length - rest.length + kw rest.length rest : Nat)) : Int) [] []).2.1.length 10, qg9)
    else (.no, ⟨g, rest.take (kw rest.length rest), (Go.Pl.recsF (text.length + 1) (rest.drop (kw rest.length rest)) (((text.length - rest.length + kw rest.length rest : Nat)) : Int) [] []).2.1, (Go.Pl.recsF (text.length + 1) (rest.drop (kw rest.length rest)) (((text.length - rest.length + kw rest.length rest : Nat)) : Int) [] []).2.2.1, (Go.Pl.recsF (text.length + 1) (rest.drop (kw rest.length rest)) (((text.length - rest.length + kw rest.length rest : Nat)) : Int) [] []).2.2.2⟩)
   | e => (e, qg9) := by
  unfold qen
  rw [if_neg hbig]
  unfold qct qf0 atH qb0
  rw [htk]
  rfl
 have htk2 : ∀ st, q7 E 61 [Sv text] st fun r st' => r = .tu [Iv g, Sv rest] ∧ st' = st := fun st => by
  have := q2q text st hl
  rw [htk] at this
  exact this
 rw [htk] at hrl hbl hsp
 simp only at hrl hbl hsp
 have hdr : rest.drop (kw rest.length rest) = text.drop (text.length - rest.length + kw rest.length rest) := by
  have h1 : text.length = (xf g).length + rest.length := by
   have := congrArg List.length hsp.1
   simpa using this
  conv => rhs; rhs; rw [hsp.1]
  rw [← List.drop_drop, show text.length - rest.length = (xf g).length by omega, List.drop_left]
 rw [hdr] at hF
 clear hdr hsp htk
 have hbg := fun st => qz4 rest st (by omega)
 generalize kw rest.length rest = a at hF hbl hbg
 have hpa := fun st => qz2 (rest.take a) st (by simp; omega)
 have hsub : ((text.length : Int) - (rest.length : Int)) + (a : Int) = ((text.length - rest.length + a : Nat) : Int) := by omega
 have hok := fun {nx k : Nat} {H : Nat → Option SR} => @q0r nx k H g (rest.take a) text (text.length - rest.length + a)
 have hbad := fun {nx k : Nat} {H : Nat → Option SR} => @qx8 nx k H g (rest.take a) text (text.length - rest.length + a)
 rw [← hsub] at hok hbad hF
 generalize Go.Pl.recsF (text.length + 1) (text.drop (text.length - rest.length + a)) ((text.length : Int) - (rest.length : Int) + (a : Int)) [] [] = R at hF hok hbad
 generalize itsE (rest.take a) = its at hpa
 cases hpe : qdp (rest.take a) with
 | no =>
  rw [hpe] at hF hpa
  simp only at hF
  by_cases hR1 : R.1 = true
  ·rw [if_pos hR1] at hF
   rw [hF]
   apply jx []
   repeat' (first
    | apply And.intro
    | (intro h; first | (exfalso; omega) | (exfalso; exact h rfl) | (exfalso; revert h; decide) | skip)
    | exact ⟨Tryz.call61⟩
    | (refine Exists.intro _ ⟨j5 (htk2) rfl, ?_⟩)
    | exact ⟨Tryz.call62⟩
    | (refine Exists.intro _ ⟨j5 (hbg) rfl, ?_⟩)
    | exact ⟨Tryz.call57⟩
    | (refine Exists.intro _ ⟨j5 (hpa) rfl, ?_⟩)
    | exact ⟨Tryz.call63⟩
    | (refine Exists.intro _ ⟨hbad rfl hl (by omega) hR1, ?_⟩)
    | exact rfl
    | exact trivial
    | exact fun _ => rfl
    | exact kf _
    | apply jt []
    | exact DrOk.mk (by kernel_rfl)
    | exact ja fun _ => rfl
    | omega
    | (simp only [List.length_map, List.length_append, List.length_cons, List.length_nil, List.length_take, List.length_drop]; omega)
    | exact ku
    | (refine Exists.intro _ ⟨rfl, ?_⟩)
    | refine v4 ?_)
  ·rw [if_neg hR1] at hF
   rw [hF]
   apply jx []
   repeat' (first
    | apply And.intro
    | (intro h; first | (exfalso; omega) | (exfalso; exact h rfl) | (exfalso; revert h; decide) | skip)
    | exact ⟨Tryz.call61⟩
    | (refine Exists.intro _ ⟨j5 (htk2) rfl, ?_⟩)
    | exact ⟨Tryz.call62⟩
    | (refine Exists.intro _ ⟨j5 (hbg) rfl, ?_⟩)
    | exact ⟨Tryz.call57⟩
    | (refine Exists.intro _ ⟨j5 (hpa) rfl, ?_⟩)
    | exact ⟨Tryz.call63⟩
    | (refine Exists.intro _ ⟨hok rfl rfl hl (by omega) (by simpa using hR1), ?_⟩)
    | exact rfl
    | exact trivial
    | exact fun _ => rfl
    | exact kf _
    | apply jt []
    | exact DrOk.mk (by kernel_rfl)
    | exact ja fun _ => rfl
    | omega
    | (simp only [List.length_map, List.length_append, List.length_cons, List.length_nil, List.length_take, List.length_drop]; omega)
    | exact ku
    | (refine Exists.intro _ ⟨rfl, ?_⟩)
    | refine v4 ?_)
 | num n =>
  rw [hpe] at hF hpa
  have hF2 : qen text = (.num n, qg9) := hF
  rw [hF2]
  apply jx []
  repeat' (first
   | apply And.intro
   | (intro h; first | (exfalso; omega) | (exfalso; exact h rfl) | (exfalso; revert h; decide) | skip)
   | exact ⟨Tryz.call61⟩
   | (refine Exists.intro _ ⟨j5 (htk2) rfl, ?_⟩)
   | exact ⟨Tryz.call62⟩
   | (refine Exists.intro _ ⟨j5 (hbg) rfl, ?_⟩)
   | exact ⟨Tryz.call57⟩
   | (refine Exists.intro _ ⟨j5 (hpa) rfl, ?_⟩)
   | exact rfl
   | exact trivial
   | exact fun _ => rfl
   | exact kf _
   | apply jt []
   | exact DrOk.mk (by kernel_rfl)
   | exact ja fun _ => rfl
   | omega
   | (simp only [List.length_map, List.length_append, List.length_cons, List.length_nil, List.length_take, List.length_drop]; omega)
   | exact ku
   | (refine Exists.intro _ ⟨rfl, ?_⟩)
   | refine v4 ?_)
 | at' p n =>
  rw [hpe] at hF hpa
  have hF2 : qen text = (.at' p n, qg9) := hF
  rw [hF2]
  apply jx []
  repeat' (first
   | apply And.intro
   | (intro h; first | (exfalso; omega) | (exfalso; exact h rfl) | (exfalso; revert h; decide) | skip)
   | exact ⟨Tryz.call61⟩
   | (refine Exists.intro _ ⟨j5 (htk2) rfl, ?_⟩)
   | exact ⟨Tryz.call62⟩
   | (refine Exists.intro _ ⟨j5 (hbg) rfl, ?_⟩)
   | exact ⟨Tryz.call57⟩
   | (refine Exists.intro _ ⟨j5 (hpa) rfl, ?_⟩)
   | exact rfl
   | exact trivial
   | exact fun _ => rfl
   | exact kf _
   | apply jt []
   | exact DrOk.mk (by kernel_rfl)
   | exact ja fun _ => rfl
   | omega
   | (simp only [List.length_map, List.length_append, List.length_cons, List.length_nil, List.length_take, List.length_drop]; omega)
   | exact ku
   | (refine Exists.intro _ ⟨rfl, ?_⟩)
   | refine v4 ?_)
end Go.Proofs.YtefmcijohgpfhaaGreatDoor
set_option maxRecDepth 100000
set_option linter.unusedVariables false
namespace Go.Proofs.YtefmcijohgpfhaaGreatDoor
open Go Go.Av Go.RowKit Go.Proofs Go.Pl
theorem q1h (n : Int) : (xf n).length ≤ 100 := by
 unfold xf
 split
 ·rename_i h
  have := qp2 h
  omega
 ·simp
theorem qmp (b : y6) (st : List AObj) (hb : b.base.length < 1000000) (he : b.ends.length < 1000000) : q7 E 28 [qlc b] st fun r st' => r = Iv (qau b) ∧ st' = st := by
 have hh := q1h b.gen
 have hle := fun st => q39 b.gen st
 refine qbj [.a (qlc b)] (z4 _) Tryz.func28 rfl rfl (fun _ => rfl) rfl fun S0 => ?_
 by_cases h0 : b.ends = []
 ·have e : qau b = ((xf b.gen).length : Int) + (b.base.length : Int) := by simp [qau, h0]
  rw [e]
  have hl0 : (b.ends.map fun x => Iv x).length = 0 := by simp [h0]
  apply jx []
  repeat' (first
   | apply And.intro
   | (intro h; first | (exfalso; omega) | (exfalso; exact h rfl) | (exfalso; revert h; decide) | skip)
   | exact ⟨Tryz.call64⟩
   | (refine Exists.intro _ ⟨j5 (hle) rfl, ?_⟩)
   | exact rfl
   | exact trivial
   | exact fun _ => rfl
   | exact kf _
   | apply jt []
   | exact DrOk.mk (by kernel_rfl)
   | exact ja fun _ => rfl
   | omega
   | (simp only [List.length_map, List.length_append, List.length_cons, List.length_nil, List.length_take, List.length_drop]; omega)
   | exact ku
   | (refine Exists.intro _ ⟨rfl, ?_⟩)
   | refine v4 ?_)
 ·obtain ⟨x, hx⟩ : ∃ x, b.ends.getLast? = some x := by
   cases h : b.ends.getLast? with
   | none => exact absurd (List.getLast?_eq_none_iff.1 h) h0
   | some x => exact ⟨x, rfl⟩
  have e : qau b = x := by simp [qau, hx]
  rw [e]
  have hl0 : 0 < b.ends.length := List.length_pos_iff.2 h0
  have hml : (b.ends.map fun x => Iv x).length = b.ends.length := by simp
  have hg : (b.ends.map fun x => Iv x)[b.ends.length - 1]? = some (Iv x) := by
   rw [List.getLast?_eq_getElem?] at hx
   simp [hx]
  apply jx []
  repeat' (first
   | apply And.intro
   | (intro h; first | (exfalso; omega) | (exfalso; exact h rfl) | (exfalso; revert h; decide) | skip)
   | exact ⟨Tryz.call64⟩
   | (refine Exists.intro _ ⟨j5 (hle) rfl, ?_⟩)
   | (refine Exists.intro (b.ends.length - 1) ⟨by omega, _, hg, ?_⟩)
   | exact rfl
   | exact trivial
   | exact fun _ => rfl
   | exact kf _
   | apply jt []
   | exact DrOk.mk (by kernel_rfl)
   | exact ja fun _ => rfl
   | omega
   | (simp only [List.length_map, List.length_append, List.length_cons, List.length_nil, List.length_take, List.length_drop]; omega)
   | exact ku
   | (refine Exists.intro _ ⟨rfl, ?_⟩)
   | refine v4 ?_)
theorem q25 (b : y6) (st : List AObj) (hb : b.base.length < 1000000) (he : b.ends.length < 1000000) (ht : b.tail.length < 1000000) (h1 : 0 ≤ qau b) (h2 : qau b ≤ 1000000000) : q7 E 34 [qlc b] st fun r st' => r = Iv (qau b + b.tail.length) ∧ st' = st := by
 have hw := fun st => qmp b st hb he
 refine qbj [.a (qlc b)] (z4 _) Tryz.func34 rfl rfl (fun _ => rfl) rfl fun S0 => ?_
 apply jx []
 repeat' (first
  | apply And.intro
  | (intro h; first | (exfalso; omega) | (exfalso; exact h rfl) | (exfalso; revert h; decide) | skip)
  | exact ⟨Tryz.call28⟩
  | (refine Exists.intro _ ⟨j5 (hw) rfl, ?_⟩)
  | exact rfl
  | exact trivial
  | exact fun _ => rfl
  | exact kf _
  | apply jt []
  | exact DrOk.mk (by kernel_rfl)
  | exact ja fun _ => rfl
  | omega
  | (simp only [List.length_map, List.length_append, List.length_cons, List.length_nil, List.length_take, List.length_drop]; omega)
  | exact ku
  | (refine Exists.intro _ ⟨rfl, ?_⟩)
  | refine v4 ?_)
theorem qqe : ∀ r : List (List zq), r.length ≤ (wo r).length
 | [] => by simp [wo]
 | b :: r => by
  have := qqe r
  have h1 := qmv b
  rw [qbt]
  simp
  omega
structure q4r (text : qb) (b : y6) : Prop where
 base : b.base.length < 1000000
 tail : b.tail.length < 1000000
 ends : b.ends.length < 1000000
 whole : qau b = ((x2 b).length : Int)
 wlen : (x2 b).length ≤ text.length
 size : qau b + b.tail.length = text.length
theorem quk {text : qb} {b : y6} (h : qai text b) : q4r text b := by
 have h1 := congrArg List.length h.split
 have h2 := h.len
 have h3 := qqe b.batches
 have h4 := h.whole
 simp only [List.length_append, x2] at h1
 refine ⟨by omega, by omega, by rw [h.ends, qka]; omega, h4, by simp only [x2, List.length_append]; omega, ?_⟩
 rw [h4]
 simp only [x2, List.length_append]
 omega
end Go.Proofs.YtefmcijohgpfhaaGreatDoor
set_option maxRecDepth 100000
set_option linter.unusedVariables false
namespace Go.Pl
open Go Go.Proofs Go.Proofs.YtefmcijohgpfhaaGreatDoor
theorem ex13 : qai [65, 58, 32, 49, 10, 37, 97, 109] ⟨0, [65, 58, 32, 49, 10], [], [], [37, 97, 109]⟩ := by
 have h1 : yr [65, 58, 32, 49, 10, 37, 97, 109] = (0, [65, 58, 32, 49, 10, 37, 97, 109]) := by decide +kernel
 have h2 : (kp [65, 58, 32, 49, 10]).1 = none := by decide +kernel
 have h3 : (je [37, 97, 109]).1 = 2 := by decide +kernel
 refine ⟨by decide +kernel, h1, ?_, nofun, h3, rfl, by simp⟩
 unfold qdp
 rw [if_neg (by simp), h2]
end Go.Pl
namespace Go.Proofs.YtefmcijohgpfhaaGreatDoor
open Go Go.Av Go.RowKit Go.Proofs Go.Pl
theorem qym (st : List AObj) : q7 E 24 [] st fun r st' => r = Bv true ∧ st' = st := by
 have hb := qvo ex13
 have hrd := fun st => qpd [65, 58, 32, 49, 10, 37, 97, 109] st (by simp)
 rw [hb] at hrd
 have hw := fun st => qmp ⟨0, [65, 58, 32, 49, 10], [], [], [37, 97, 109]⟩ st (by simp) (by simp)
 have hs := fun st => q25 ⟨0, [65, 58, 32, 49, 10], [], [], [37, 97, 109]⟩ st (by simp) (by simp) (by simp) (by decide +kernel) (by decide +kernel)
 rw [show qau ⟨0, [65, 58, 32, 49, 10], [], [], [37, 97, 109]⟩ = 5 by decide +kernel] at hw hs
 refine qbj [] (z4 _) Tryz.func24 rfl rfl (fun _ => rfl) rfl fun S0 => ?_
 apply jx []
 repeat' (first
  | apply And.intro
  | (intro h; first | (exfalso; omega) | (exfalso; exact h rfl) | (exfalso; revert h; decide) | skip)
  | exact ⟨Tryz.call27⟩
  | (refine Exists.intro _ ⟨j5 (hrd) rfl, ?_⟩)
  | exact ⟨Tryz.call34⟩
  | (refine Exists.intro _ ⟨j5 (hs) rfl, ?_⟩)
  | exact ⟨Tryz.call28⟩
  | (refine Exists.intro _ ⟨j5 (hw) rfl, ?_⟩)
  | exact rfl
  | exact trivial
  | exact fun _ => rfl
  | exact kf _
  | apply jt []
  | exact DrOk.mk (by kernel_rfl)
  | exact ja fun _ => rfl
  | omega
  | (simp only [List.length_map, List.length_append, List.length_cons, List.length_nil, List.length_take, List.length_drop]; omega)
  | exact ku
  | (refine Exists.intro _ ⟨rfl, ?_⟩)
  | refine v4 ?_)
theorem q4h (a b : List Int) (st : List AObj) (ha : a.length < 1000000) : q7 E 29 [qg3 a, qg3 b] st fun r st' => r = Bv (decide (a = b)) ∧ st' = st := by
 refine qbj [.a (qg3 a), .a (qg3 b)] (z4 _) Tryz.func29 rfl rfl (fun _ => rfl) rfl fun S0 => ?_
 have hma : (a.map fun x => Iv x).length = a.length := by simp
 have hmb : (b.map fun x => Iv x).length = b.length := by simp
 by_cases hl : a.length = b.length
 ·apply jx []
  repeat' (first
   | apply And.intro
   | (intro h; first | (exfalso; omega) | (exfalso; exact h rfl) | (exfalso; revert h; decide) | skip)
   | exact rfl
   | exact trivial
   | exact fun _ => rfl
   | exact kf _
   | apply jt []
   | exact DrOk.mk (by kernel_rfl)
   | exact ja fun _ => rfl
   | omega
   | (simp only [List.length_map, List.length_append, List.length_cons, List.length_nil, List.length_take, List.length_drop]; omega)
   | exact ku
   | (refine Exists.intro _ ⟨rfl, ?_⟩)
   | refine v4 ?_)
  refine qz9 (X := Nat) (fun k => ⟨[(0, .a (qg3 a)), (1, .a (qg3 b)), (12, .i a.length), (13, .i k)], [], 0⟩) (fun k => k ≤ a.length ∧ a.take k = b.take k) (fun k => a.length - k) 0 ⟨by omega, by simp⟩ ?_ ?_
  ·skip
   repeat' (first
    | apply And.intro
    | (intro h; first | (exfalso; omega) | (exfalso; exact h rfl) | (exfalso; revert h; decide) | skip)
    | exact rfl
    | exact trivial
    | exact fun _ => rfl
    | exact kf _
    | apply jt []
    | exact DrOk.mk (by kernel_rfl)
    | exact ja fun _ => rfl
    | omega
    | (simp only [List.length_map, List.length_append, List.length_cons, List.length_nil, List.length_take, List.length_drop]; omega)
    | exact ku
    | (refine Exists.intro _ ⟨rfl, ?_⟩)
    | refine v4 ?_)
   all_goals first | (simp; done)
  ·rintro k ⟨hk, ht⟩
   by_cases hc : k < a.length
   ·have hga : (a.map fun x => Iv x)[k]? = some (Iv a[k]) := by simp [hc]
    have hgb : (b.map fun x => Iv x)[k]? = some (Iv (b[k]'(by omega))) := by simp [show k < b.length by omega]
    apply jx []
    repeat' (first
     | apply And.intro
     | (intro h; first | (exfalso; omega) | (exfalso; exact h rfl) | (exfalso; revert h; decide) | skip)
     | (refine Exists.intro (k) ⟨by omega, _, hga, ?_⟩)
     | (refine Exists.intro (k) ⟨by omega, _, hgb, ?_⟩)
     | (refine Exists.intro (k + 1) ⟨⟨by omega, ?_⟩, by omega, ?_⟩)
     | exact rfl
     | exact trivial
     | exact fun _ => rfl
     | exact kf _
     | apply jt []
     | exact DrOk.mk (by kernel_rfl)
     | exact ja fun _ => rfl
     | omega
     | (simp only [List.length_map, List.length_append, List.length_cons, List.length_nil, List.length_take, List.length_drop]; omega)
     | exact ku
     | (refine Exists.intro _ ⟨rfl, ?_⟩)
     | refine v4 ?_)
    ·have hab : a ≠ b := fun e => by subst e; simp at *
     simp [hab]
    ·refine qhp (d := 0) hl hc ht ?_
     simp [List.getD, hc, show k < b.length by omega]
     try omega
   ·apply jx []
    repeat' (first
     | apply And.intro
     | (intro h; first | (exfalso; omega) | (exfalso; exact h rfl) | (exfalso; revert h; decide) | skip)
     | exact rfl
     | exact trivial
     | exact fun _ => rfl
     | exact kf _
     | apply jt []
     | exact DrOk.mk (by kernel_rfl)
     | exact ja fun _ => rfl
     | omega
     | (simp only [List.length_map, List.length_append, List.length_cons, List.length_nil, List.length_take, List.length_drop]; omega)
     | exact ku
     | (refine Exists.intro _ ⟨rfl, ?_⟩)
     | refine v4 ?_)
    have hab : a = b := by
     rw [List.take_of_length_le (by omega), List.take_of_length_le (by omega)] at ht
     exact ht
    simp [hab]
 ·apply jx []
  repeat' (first
   | apply And.intro
   | (intro h; first | (exfalso; omega) | (exfalso; exact h rfl) | (exfalso; revert h; decide) | skip)
   | exact rfl
   | exact trivial
   | exact fun _ => rfl
   | exact kf _
   | apply jt []
   | exact DrOk.mk (by kernel_rfl)
   | exact ja fun _ => rfl
   | omega
   | (simp only [List.length_map, List.length_append, List.length_cons, List.length_nil, List.length_take, List.length_drop]; omega)
   | exact ku
   | (refine Exists.intro _ ⟨rfl, ?_⟩)
   | refine v4 ?_)
  all_goals
   have hab : a ≠ b := fun e => hl (by rw [e])
   simp [hab]
theorem qt9 (text : qb) (st : List AObj) : q7 E 6 [Sv text] st fun r st' => r = Bv true ∧ st' = st := by
 refine qbj [.s text] (z4 _) Tryz.func6 rfl rfl (fun _ => rfl) rfl fun S0 => ?_
 have hal := qym
 by_cases h5 : 5000 < text.length
 ·apply jx []
  repeat' (first
   | apply And.intro
   | (intro h; first | (exfalso; omega) | (exfalso; exact h rfl) | (exfalso; revert h; decide) | skip)
   | exact ⟨Tryz.call24⟩
   | (refine Exists.intro _ ⟨j5 (hal) rfl, ?_⟩)
   | exact rfl
   | exact trivial
   | exact fun _ => rfl
   | exact kf _
   | apply jt []
   | exact DrOk.mk (by kernel_rfl)
   | exact ja fun _ => rfl
   | omega
   | (simp only [List.length_map, List.length_append, List.length_cons, List.length_nil, List.length_take, List.length_drop]; omega)
   | exact ku
   | (refine Exists.intro _ ⟨rfl, ?_⟩)
   | refine v4 ?_)
 ·have hrd := fun st => qpd text st (by omega)
  cases hb : qen text with
  | mk e b =>
  rw [hb] at hrd
  cases e with
  | num n =>
   apply jx []
   repeat' (first
    | apply And.intro
    | (intro h; first | (exfalso; omega) | (exfalso; exact h rfl) | (exfalso; revert h; decide) | skip)
    | exact ⟨Tryz.call24⟩
    | (refine Exists.intro _ ⟨j5 (hal) rfl, ?_⟩)
    | exact ⟨Tryz.call27⟩
    | (refine Exists.intro _ ⟨j5 (hrd) rfl, ?_⟩)
    | exact rfl
    | exact trivial
    | exact fun _ => rfl
    | exact kf _
    | apply jt []
    | exact DrOk.mk (by kernel_rfl)
    | exact ja fun _ => rfl
    | omega
    | (simp only [List.length_map, List.length_append, List.length_cons, List.length_nil, List.length_take, List.length_drop]; omega)
    | exact ku
    | (refine Exists.intro _ ⟨rfl, ?_⟩)
    | refine v4 ?_)
  | at' p n =>
   apply jx []
   repeat' (first
    | apply And.intro
    | (intro h; first | (exfalso; omega) | (exfalso; exact h rfl) | (exfalso; revert h; decide) | skip)
    | exact ⟨Tryz.call24⟩
    | (refine Exists.intro _ ⟨j5 (hal) rfl, ?_⟩)
    | exact ⟨Tryz.call27⟩
    | (refine Exists.intro _ ⟨j5 (hrd) rfl, ?_⟩)
    | exact rfl
    | exact trivial
    | exact fun _ => rfl
    | exact kf _
    | apply jt []
    | exact DrOk.mk (by kernel_rfl)
    | exact ja fun _ => rfl
    | omega
    | (simp only [List.length_map, List.length_append, List.length_cons, List.length_nil, List.length_take, List.length_drop]; omega)
    | exact ku
    | (refine Exists.intro _ ⟨rfl, ?_⟩)
    | refine v4 ?_)
  | no =>
   have hT := q0s hb
   have hS := quk hT
   have htk := hT.take
   have hwl := hS.wlen
   have hw0 := hS.whole
   have hW := fun st => qmp b st hS.base hS.ends
   rw [hw0] at hW htk
   rw [Int.toNat_natCast] at htk
   have hrd2 := fun st => qpd (text.take (x2 b).length) st (by simp; omega)
   have hbt := qvo hT.noTail
   rw [← htk] at hbt
   rw [hbt] at hrd2
   have hin := fun st => q4h b.ends b.ends st hS.ends
   simp only [decide_true] at hin
   apply jx []
   repeat' (first
    | apply And.intro
    | (intro h; first | (exfalso; omega) | (exfalso; exact h rfl) | (exfalso; revert h; decide) | skip)
    | exact ⟨Tryz.call24⟩
    | (refine Exists.intro _ ⟨j5 (hal) rfl, ?_⟩)
    | exact ⟨Tryz.call27⟩
    | (refine Exists.intro _ ⟨j5 (hrd) rfl, ?_⟩)
    | exact ⟨Tryz.call28⟩
    | (refine Exists.intro _ ⟨j5 (hW) rfl, ?_⟩)
    | exact ⟨Tryz.call27⟩
    | (refine Exists.intro _ ⟨j5 (hrd2) rfl, ?_⟩)
    | exact ⟨Tryz.call29⟩
    | (refine Exists.intro _ ⟨j5 (hin) rfl, ?_⟩)
    | exact rfl
    | exact trivial
    | exact fun _ => rfl
    | exact kf _
    | apply jt []
    | exact DrOk.mk (by kernel_rfl)
    | exact ja fun _ => rfl
    | omega
    | (simp only [List.length_map, List.length_append, List.length_cons, List.length_nil, List.length_take, List.length_drop]; omega)
    | exact ku
    | (refine Exists.intro _ ⟨rfl, ?_⟩)
    | refine v4 ?_)
   all_goals first | grind | (simp; done)
end Go.Proofs.YtefmcijohgpfhaaGreatDoor
