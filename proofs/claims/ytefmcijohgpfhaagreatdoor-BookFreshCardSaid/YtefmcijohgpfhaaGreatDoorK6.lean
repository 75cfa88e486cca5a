/- Contracts and plain facts that the closing text leans on (part 6). No condition of their own beyond those that each states. -/
import Derived.Test.YtefmcijohgpfhaaGreatDoorK5
import Derived.LaidEql
import Derived.Stop.Asserts
import Derived.RowKitTokens
set_option maxRecDepth 100000
set_option linter.unusedVariables false
set_option linter.unusedSimpArgs false
set_option linter.unusedVariables false
namespace Go.Av
open Go Go.RowKit
def qay (hp : List (Nat × Option SR)) : List (Nat × Option SR) := hp.map fun q => (q.1, none)
def retS (P : Program) (fn : Func) (nx0 : Nat) (r : SV) (hp1 : List (Nat × Option SR)) (nx1 : Nat) (e : Exit) (C : Conf) : Prop :=
 match e with
 | .normal => (match resV P fn.ntmps C fn.results.toList with
  | some v => v.all (fun k => Nat.blt k C.nx) = true ∧ EntA nx0 ⟨[(0, v)], C.hp, C.nx⟩ ⟨[(0, r)], hp1, nx1⟩
  | none => False)
 | .ret => (match resV P fn.ntmps C fn.results.toList with
  | some v => v.all (fun k => Nat.blt k C.nx) = true ∧ EntA nx0 ⟨[(0, v)], C.hp, C.nx⟩ ⟨[(0, r)], hp1, nx1⟩
  | none => False)
 | _ => False
theorem qwp {hp : List (Nat × Option SR)} {k : Nat} {r : SR} (h : hpF hp k = some r) : memN (y5 hp) k = true := by
 have := xw (qad h)
 exact List.any_eq_true.2 ⟨k, List.mem_map.2 ⟨_, this, rfl⟩, by simp⟩
theorem qao (hp : List (Nat × Option SR)) : resF (y5 hp) (hpF hp) = hpF hp := by
 funext k
 unfold resF
 cases h : memN (y5 hp) k with
 | true => rfl
 | false =>
  cases h2 : hpF hp k with
  | none => rfl
  | some r => rw [qwp h2] at h; simp at h
theorem qpy : ∀ (hp : List (Nat × Option SR)) (k : Nat), lkS (qay hp) k = none ∧ lkS hp k = none ∨ lkS (qay hp) k = some none
 | [], _ => .inl ⟨rfl, rfl⟩
 | (i, x) :: r, k => by
  simp only [qay, List.map_cons, lkS]
  cases hb : Nat.beq i k with
  | true => exact .inr rfl
  | false => exact qpy r k
theorem qh3 (hp0 hp1 : List (Nat × Option SR)) : chF (hp1 ++ qay hp0) (hpF hp0) = hpF hp1 := by
 funext k
 unfold chF
 rw [qcs]
 unfold hpF
 cases h : lkS hp1 k with
 | some r => rfl
 | none =>
  simp only
  rcases qpy hp0 k with ⟨h1, h2⟩ | h1
  ·rw [h1, h2]
  ·rw [h1]
theorem qex {E : Env} {f : FuncId} {fn : Func} {c : Code} (vs : List SV) (hp0 : List (Nat × Option SR)) (nx0 : Nat) (r : SV) (hp1 : List (Nat × Option SR)) (nx1 : Nat) (hf : E.P.funcs[f]? = some fn) (hb : fn.body = some c) (hn : Nat.ble vs.length fn.ntmps = true)
  (hc : okC ⟨v6 0 vs, hp0, nx0⟩ = true) (hc1 : okC ⟨[(0, r)], hp1, nx1⟩ = true)
  (h : ∀ S F ρ, numK 0 vs fun sl => Sm E none fn.ntmps ⟨S, F, ρ, nx0, False⟩ c (retS E.P fn nx0 r hp1 nx1) ⟨sl, hp0, nx0⟩) : qax E f vs nx0 (hpF hp0) ⟨r, y5 hp0, hp1 ++ qay hp0, nx1⟩ := fun ρ S hS => by
 simp only [qo4] at h
 simp only [qao] at hS
 have hlen : (SV.evs ρ vs).length = vs.length := by rw [yg, List.length_map]
 refine qv hf hb (by rw [hlen]; exact Nat.le_of_ble_eq_true hn) ?_
 rw [List.append_nil]
 simp only [okC, Bool.and_eq_true] at hc hc1
 have hwhp : ∀ k r, hpF hp0 k = some r → k < nx0 ∧ r.all (fun k => Nat.blt k nx0) = true := fun k r hk => by
  have := List.all_eq_true.1 hc.2 _ (xw (qad hk))
  simp only [Bool.and_eq_true] at this
  exact ⟨xm this.1, this.2⟩
 have hst : SatC ⟨S, qcj hp0 ρ, ρ, nx0, False⟩ ⟨v6 0 vs, hp0, nx0⟩ ⟨argT (SV.evs ρ vs), S, []⟩ := by
  refine ⟨ρ, ⟨nofun, List.nodup_nil, fun _ _ => rfl, Nat.le_refl _, nofun⟩, ⟨fun d v hd => ?_, hS, fun k r hk o ho => .inr ⟨k, r, hk, ho⟩, fun _ _ _ => rfl, Nat.le_refl _, fun d v hd => ?_, hwhp⟩⟩
  ·obtain ⟨j, h1, h2⟩ := qec hd
   have : (SV.evs ρ vs)[j]? = some (v.ev ρ) := by rw [yg, List.getElem?_map, h2]; rfl
   rw [h1, Nat.zero_add]
   simp only [argT, List.getD, this, Option.getD_some]
  ·exact List.all_eq_true.1 hc.1 _ (xw hd)
 refine ((h S (qcj hp0 ρ) ρ).run _ hst).mono fun e s' ⟨C', hq, hs'⟩ => ?_
 obtain ⟨t, S', df⟩ := s'
 obtain ⟨ρ2, hdf, hR⟩ := hs'
 simp only at hdf hR
 have fin : (match resV E.P fn.ntmps C' fn.results.toList with
  | some v => v.all (fun k => Nat.blt k C'.nx) = true ∧ EntA nx0 ⟨[(0, v)], C'.hp, C'.nx⟩ ⟨[(0, r)], hp1, nx1⟩
  | none => False) → ARet E fn (fun r' S' => ∃ ρ', r' = r.ev ρ' ∧ qfv ρ S nx0 (hpF hp0) ⟨r, y5 hp0, hp1 ++ qay hp0, nx1⟩ ρ' S') ⟨t, S', df⟩ := fun h => by
  split at h
  ·rename_i v hv
   obtain ⟨hva, he⟩ := h
   obtain ⟨σ, hrg, he⟩ := he.ent
   refine qip hR hdf.dm hdf.nd fun S2 hR2 => ?_
   have hR3 : SatR S (qcj hp0 ρ) ⟨[(0, v)], C'.hp, C'.nx⟩ ρ2 (fun _ => v.ev ρ2) S2 :=
    ⟨fun d u hd => by
     simp only [lkS] at hd
     cases hb : Nat.beq 0 d with
     | true => rw [hb] at hd; simp only [cond_true, Option.some.injEq] at hd; rw [hd]
     | false => rw [hb] at hd; simp [lkS] at hd, hR2.hp, hR2.own, hR2.low, hR2.len, fun d u hd => by
     simp only [lkS] at hd
     cases hb : Nat.beq 0 d with
     | true => rw [hb] at hd; simp only [cond_true, Option.some.injEq] at hd; rw [← hd]; exact hva
     | false => rw [hb] at hd; simp [lkS] at hd, hR2.whp⟩
   obtain ⟨t', hw, hR4⟩ := he.sat hR3
   have hrig : ∀ k, k < nx0 → renR σ ρ2 k = ρ k := fun k hk => by
    simp only [Bool.and_eq_true] at hrg
    unfold renR
    rw [qmx hrg.1 k hk]
    exact hdf.rig k hk
   have hrn : nx0 ≤ nx1 := by
    simp only [Bool.and_eq_true] at hrg
    exact Nat.le_of_ble_eq_true hrg.2
   generalize renR σ ρ2 = ρ3 at hR4 hrig
   have h0 : t' 0 = r.ev ρ3 := hR4.sl 0 r rfl
   have hwk := hw 0
   rw [h0] at hwk
   let ρ' : Nat → AV := fun k => bif Nat.ble nx1 k then ρ k else ρ3 k
   have hρ' : ∀ k, Nat.blt k nx1 = true → ρ' k = ρ3 k := fun k hk => by
    show (bif Nat.ble nx1 k then ρ k else ρ3 k) = _
    have : Nat.ble nx1 k = false := by
     cases hb : Nat.ble nx1 k with
     | false => rfl
     | true => have := Nat.le_of_ble_eq_true hb; have := xm hk; omega
    rw [this]
    rfl
   have hra : r.all (fun k => Nat.blt k nx1) = true := List.all_eq_true.1 hc1.1 (0, r) (by simp)
   have hev : r.ev ρ' = r.ev ρ3 := qb5 hρ' r hra
   refine qi rfl (yw (qvz hR2 hv) hwk) ⟨ρ', hev.symm, ?_⟩
   have hwh : ∀ k r, hpF hp1 k = some r → ρ' k = ρ3 k ∧ r.all (fun k => Nat.blt k nx1) = true := fun k r hk => by
    obtain ⟨g1, g2⟩ := hR4.whp k r hk
    exact ⟨hρ' k (qbm g1), g2⟩
   refine ⟨fun k hk => ?_, ?_, hR4.len, fun j hj hn => ?_, fun k r hk o ho => ?_⟩
   ·show (bif Nat.ble nx1 k then ρ k else ρ3 k) = _
    cases hb : Nat.ble nx1 k with
    | true => rfl
    | false =>
     rcases hk with hk | hk
     ·exact hrig k hk
     ·have := Nat.ble_eq_true_of_le hk
      simp only at this
      rw [this] at hb
      simp at hb
   ·simp only [qao, qh3]
    refine ⟨fun k r hk => ?_, fun k k' r r' hne h1 h2 o ho => ?_⟩
    ·obtain ⟨g1, g2⟩ := hwh k r hk
     rw [g1]
     exact SR.ok_of g2 hρ' (hR4.hp.ok k r hk) fun _ _ => rfl
    ·rw [(hwh k r h1).1] at ho
     rw [(hwh k' r' h2).1]
     exact hR4.hp.sep k k' r r' hne h1 h2 o ho
   ·simp only [qao] at hn
    exact hR4.low j hj fun ⟨k, r, hk, hl⟩ => hn k r hk hl
   ·simp only [qao, qh3] at hk ⊢
    rw [(hwh k r hk).1] at ho
    exact hR4.own k r hk o ho
  ·exact h.elim
 cases e with
 | normal => exact fin hq
 | ret => exact fin hq
 | _ => exact hq.elim
end Go.Av
set_option linter.unusedVariables false
namespace Go.Av
open Go Go.RowKit
def newN : Nat → Nat → Nat → List (Nat × Nat)
 | _, _, 0 => []
 | a, b, m + 1 => (a, b) :: newN (a + 1) (b + 1) m
theorem qsi : ∀ (m a b k : Nat), lkS (newN a b m) k = if a ≤ k ∧ k < a + m then some (b + (k - a)) else none
 | 0, a, b, k => by rw [if_neg (by omega)]; rfl
 | m + 1, a, b, k => by
  simp only [newN, lkS]
  by_cases h : a = k
  ·subst h
   simp
  ·rw [wm h, qsi m]
   simp only [cond_false]
   by_cases h2 : a + 1 ≤ k ∧ k < a + 1 + m
   ·rw [if_pos h2, if_pos (by omega)]
    congr 1
    omega
   ·rw [if_neg h2, if_neg (by omega)]
def nmOf (σ : List (Nat × Nat)) (k : Nat) : Nat := match lkS σ k with
 | some j => j
 | none => 0
def SR.ren (σ : List (Nat × Nat)) : SR → SR
 | .cells T cs => .cells T (SV.rens σ cs)
 | .tip sz T xs => .tip sz T xs
 | .own sz T xs => .own sz T xs
def renO (σ : List (Nat × Nat)) : Option SR → Option SR
 | some r => some (r.ren σ)
 | none => none
def renH (σ : List (Nat × Nat)) : List (Nat × Option SR) → List (Nat × Option SR)
 | [] => []
 | (k, r) :: l => (nmOf σ k, renO σ r) :: renH σ l
def fltH (ks : List Nat) : List (Nat × Option SR) → List (Nat × Option SR)
 | [] => []
 | (k, r) :: l => bif memN ks k then (k, r) :: fltH ks l else fltH ks l
def outH (ks : List Nat) : List (Nat × Option SR) := ks.map fun k => (k, none)
def qny : List Nat → Bool
 | [] => true
 | k :: r => !memN r k && qny r
theorem qv5 (ks : List Nat) : ∀ (hp : List (Nat × Option SR)) (k : Nat), lkS (fltH ks hp) k = bif memN ks k then lkS hp k else none
 | [], k => by simp only [fltH, lkS]; cases memN ks k <;> rfl
 | (i, r) :: l, k => by
  have ih := qv5 ks l k
  simp only [fltH]
  by_cases e : i = k
  ·subst e
   cases hm : memN ks i with
   | true => simp [lkS]
   | false => rw [hm] at ih; simp only [cond_false] at ih ⊢; exact ih
  ·cases hm : memN ks i with
   | true => simp only [cond_true, lkS, wm e, cond_false]; exact ih
   | false => simp only [cond_false, lkS, wm e]; exact ih
theorem qvs (ks : List Nat) (hp : List (Nat × Option SR)) : hpF (fltH ks hp) = resF ks (hpF hp) := by
 funext k
 unfold hpF resF
 rw [qv5]
 cases memN ks k <;> rfl
theorem qvc {σ : List (Nat × Nat)} : ∀ {hp : List (Nat × Option SR)} {j : Nat} {rr : SR}, lkS (renH σ hp) j = some (some rr) → ∃ k r, (k, some r) ∈ hp ∧ nmOf σ k = j ∧ rr = r.ren σ
 | [], j, rr, h => by simp [renH, lkS] at h
 | (k, r) :: l, j, rr, h => by
  simp only [renH, lkS] at h
  cases hb : Nat.beq (nmOf σ k) j with
  | true =>
   rw [hb] at h
   simp only [cond_true, Option.some.injEq] at h
   cases r with
   | none => simp [renO] at h
   | some r =>
    simp only [renO, Option.some.injEq] at h
    exact ⟨k, r, by simp, Nat.eq_of_beq_eq_true hb, h.symm⟩
  | false =>
   rw [hb] at h
   obtain ⟨k', r', h1, h2, h3⟩ := qvc h
   exact ⟨k', r', List.mem_cons_of_mem _ h1, h2, h3⟩
theorem qpx : ∀ {hp : List (Nat × Option SR)} {k : Nat} {r : SR}, qny (y5 hp) = true → (k, some r) ∈ hp → hpF hp k = some r
 | [], k, r, _, h => by simp at h
 | (i, x) :: l, k, r, hd, h => by
  simp only [y5, List.map_cons, qny, Bool.and_eq_true] at hd
  unfold hpF
  simp only [lkS]
  rcases List.mem_cons.1 h with e | e
  ·simp only [Prod.mk.injEq] at e
   obtain ⟨rfl, rfl⟩ := e
   simp
  ·have hne : i ≠ k := fun e' => by
    subst e'
    have : memN (List.map Prod.fst l) i = true := List.any_eq_true.2 ⟨i, List.mem_map.2 ⟨_, e, rfl⟩, by simp⟩
    rw [this] at hd
    simp at hd
   rw [wm hne]
   exact qpx hd.2 e
theorem qve : ∀ (ks : List Nat) (j : Nat), lkS (outH ks) j = bif memN ks j then some none else none
 | [], j => rfl
 | k :: r, j => by
  have ih := qve r j
  simp only [outH, List.map_cons, lkS, memN, List.any_cons]
  by_cases e : k = j
  ·subst e; simp
  ·rw [wm e, wm (fun h => e h.symm)]
   exact ih
theorem qtf {α : Type} : ∀ {l : List α} {i0 i : Nat} {v : α}, l[i]? = some v → lkS (v6 i0 l) (i0 + i) = some v
 | [], _, _, _, h => by simp at h
 | x :: r, i0, 0, v, h => by
  simp only [List.getElem?_cons_zero, Option.some.injEq] at h
  subst h
  simp [v6, lkS]
 | x :: r, i0, i + 1, v, h => by
  simp only [v6, lkS]
  rw [wm (by omega), show i0 + (i + 1) = i0 + 1 + i by omega]
  exact qtf (by simpa using h)
theorem q5o {E : Env} {f : FuncId} {vs0 : List SV} {hp0 : List (Nat × Option SR)} {nx0 : Nat} {r : SV} {hp1 : List (Nat × Option SR)} {nx1 : Nat} (h : qax E f vs0 nx0 (hpF hp0) ⟨r, y5 hp0, hp1 ++ qay hp0, nx1⟩)
  (σ : List (Nat × Nat)) {hpU : List (Nat × Option SR)} {vs : List SV} {nx : Nat} (hl : vs.length = vs0.length) (hc : okC ⟨v6 0 vs, fltH (σ.map Prod.snd) hpU, nx⟩ = true)
  (he : EntC σ ⟨v6 0 vs, fltH (σ.map Prod.snd) hpU, nx⟩ ⟨v6 0 vs0, hp0, nx0⟩) (hc1 : okC ⟨[(0, r)], hp1, nx1⟩ = true)
  (hk : (qny (y5 hp1) && hp1.all (fun q => (lkS (newN nx0 nx (nx1 - nx0) ++ σ) q.1).isSome) && σ.all (fun q => Nat.blt q.1 nx0 && Nat.blt q.2 nx) && Nat.ble nx0 nx1) = true) :
  qax E f vs nx (hpF hpU) ⟨r.ren (newN nx0 nx (nx1 - nx0) ++ σ), σ.map Prod.snd, renH (newN nx0 nx (nx1 - nx0) ++ σ) hp1 ++ outH (σ.map Prod.snd), nx + (nx1 - nx0)⟩ := fun ρ S hS => by
 simp only at hS
 simp only [Bool.and_eq_true] at hk
 obtain ⟨⟨⟨hd, hsm⟩, hσ⟩, hn⟩ := hk
 have hn := Nat.le_of_ble_eq_true hn
 simp only [okC, Bool.and_eq_true] at hc hc1
 generalize hks : σ.map Prod.snd = ks at hS hc he ⊢
 obtain ⟨m, hm⟩ : ∃ m, m = nx1 - nx0 := ⟨_, rfl⟩
 rw [← hm] at hsm ⊢
 have hR : SatR S (qcj (fltH ks hpU) ρ) ⟨v6 0 vs, fltH ks hpU, nx⟩ ρ (argT (SV.evs ρ vs)) S := by
  refine ⟨fun d v hd => ?_, by simp only [qvs]; exact hS, fun k r hk o ho => .inr ⟨k, r, hk, ho⟩, fun _ _ _ => rfl, Nat.le_refl _, fun d v hd => List.all_eq_true.1 hc.1 _ (xw hd), fun k r hk => ?_⟩
  ·obtain ⟨j, h1, h2⟩ := qec hd
   have : (SV.evs ρ vs)[j]? = some (v.ev ρ) := by rw [yg, List.getElem?_map, h2]; rfl
   rw [h1, Nat.zero_add]
   simp only [argT, List.getD, this, Option.getD_some]
  ·have := List.all_eq_true.1 hc.2 _ (xw (qad hk))
   simp only [Bool.and_eq_true] at this
   exact ⟨xm this.1, this.2⟩
 obtain ⟨t', hw, hR'⟩ := he.sat hR
 have hrc : ∀ k j, lkS σ k = some j → renR σ ρ k = ρ j := fun k j e => by unfold renR; rw [e]
 have hrn : ∀ k, lkS σ k = none → renR σ ρ k = j9 := fun k e => by unfold renR; rw [e]
 -- where a canonical resource lies
 have foot : ∀ k r, hpF hp0 k = some r → ∀ o, kl (renR σ ρ k) = some o → ∃ j r', resF ks (hpF hpU) j = some r' ∧ kl (ρ j) = some o := fun k r hk o ho => by
  have hE := qev he.2.1 (qad hk)
  simp only [qvs] at hE
  unfold entR at hE
  cases hl : lkS σ k with
  | none =>
   rw [hrn k hl] at ho
   simp [kl] at ho
  | some j =>
   rw [hrc k j hl] at ho
   rw [hl] at hE
   cases hj : resF ks (hpF hpU) j with
   | none => cases r <;> (simp only [hj] at hE)
   | some r' => exact ⟨j, r', hj, ho⟩
 have hS0 : SatF S (renR σ ρ) (hpF hp0) := hR'.hp
 refine qtx (ys := SV.evs (renR σ ρ) vs0) (by simp [yg, hl]) (fun i x y hx hy => ?_) ((h (renR σ ρ) S (by simp only [qao]; exact hS0)).mono fun r' S' ⟨ρc, hr, hp⟩ => ?_)
 ·have h1 := hw i
  simp only [yg, List.getElem?_map] at hy hx
  cases hv : vs0[i]? with
  | none => rw [hv] at hy; simp at hy
  | some v =>
   rw [hv] at hy
   simp only [Option.map_some, Option.some.injEq] at hy
   have h2 := hR'.sl i v (by have := qtf (i0 := 0) hv; rwa [Nat.zero_add] at this)
   rw [h2, hy] at h1
   have : argT (SV.evs ρ vs) i = x := by simp only [argT, List.getD, yg, List.getElem?_map, hx, Option.getD_some]
   rw [this] at h1
   exact h1
 ·let ρ' : Nat → AV := fun j => bif Nat.ble nx j && Nat.blt j (nx + m) then ρc (nx0 + (j - nx)) else ρ j
  have hold : ∀ j, (j < nx ∨ nx + m ≤ j) → ρ' j = ρ j := fun j hj => by
   show (bif Nat.ble nx j && Nat.blt j (nx + m) then ρc (nx0 + (j - nx)) else ρ j) = ρ j
   have : (Nat.ble nx j && Nat.blt j (nx + m)) = false := by
    cases hb : (Nat.ble nx j && Nat.blt j (nx + m)) with
    | false => rfl
    | true =>
     simp only [Bool.and_eq_true] at hb
     have h1 := Nat.le_of_ble_eq_true hb.1
     have h2 := xm hb.2
     omega
   rw [this]
   rfl
  have hnew : ∀ i, i < m → ρ' (nx + i) = ρc (nx0 + i) := fun i hi => by
   show (bif Nat.ble nx (nx + i) && Nat.blt (nx + i) (nx + m) then ρc (nx0 + (nx + i - nx)) else ρ (nx + i)) = _
   have h1 : Nat.ble nx (nx + i) = true := Nat.ble_eq_true_of_le (by omega)
   have h2 : Nat.blt (nx + i) (nx + m) = true := qbm (by omega)
   rw [h1, h2, show nx + i - nx = i by omega]
   rfl
  have hσj : ∀ k j, lkS σ k = some j → k < nx0 ∧ j < nx := fun k j e => by
   have := List.all_eq_true.1 hσ _ (xw e)
   simp only [Bool.and_eq_true] at this
   exact ⟨xm this.1, xm this.2⟩
  have hro : ∀ k, k < nx0 → ρc k = renR σ ρ k := fun k hk => hp.old k (.inl hk)
  have key : ∀ k, k < nx1 → renR (newN nx0 nx m ++ σ) ρ' k = ρc k := fun k hk => by
   have e : renR (newN nx0 nx m ++ σ) ρ' k = match lkS (newN nx0 nx m ++ σ) k with | some j => ρ' j | none => j9 := rfl
   rw [e, qcs, qsi]
   by_cases hkn : nx0 ≤ k
   ·rw [if_pos ⟨hkn, by omega⟩]
    simp only
    rw [hnew _ (by omega), show nx0 + (k - nx0) = k by omega]
   ·rw [if_neg (by omega), hro k (by omega)]
    simp only
    cases hl : lkS σ k with
    | none => rw [hrn k hl]
    | some j =>
     rw [hrc k j hl]
     exact hold j (.inl (hσj k j hl).2)
  have keyj : ∀ k, k < nx1 → (lkS (newN nx0 nx m ++ σ) k).isSome = true → ρ' (nmOf (newN nx0 nx m ++ σ) k) = ρc k := fun k hk hs => by
   rw [← key k hk]
   unfold renR nmOf
   cases hl : lkS (newN nx0 nx m ++ σ) k with
   | none => rw [hl] at hs; simp at hs
   | some j => rfl
  have res : ∀ j rr, chF (renH (newN nx0 nx m ++ σ) hp1 ++ outH ks) (resF ks (hpF hpU)) j = some rr → ∃ k r, hpF hp1 k = some r ∧ nmOf (newN nx0 nx m ++ σ) k = j ∧ rr = r.ren (newN nx0 nx m ++ σ) ∧ ρ' j = ρc k ∧ r.all (fun k => Nat.blt k nx1) = true := fun j rr hj => by
   unfold chF at hj
   rw [qcs] at hj
   cases hl : lkS (renH (newN nx0 nx m ++ σ) hp1) j with
   | some x =>
    rw [hl] at hj
    simp only at hj
    subst hj
    obtain ⟨k, r, h1, h2, h3⟩ := qvc hl
    have h4 := List.all_eq_true.1 hc1.2 _ h1
    simp only [Bool.and_eq_true] at h4
    have h5 := List.all_eq_true.1 hsm _ h1
    refine ⟨k, r, qpx hd h1, h2, h3, ?_, h4.2⟩
    rw [← h2]
    exact keyj k (xm h4.1) h5
   | none =>
    rw [hl] at hj
    simp only [qve] at hj
    cases hmm : memN ks j with
    | true => rw [hmm] at hj; simp at hj
    | false =>
     rw [hmm] at hj
     simp [resF, hmm] at hj
  have hra : r.all (fun k => Nat.blt k nx1) = true := List.all_eq_true.1 hc1.1 (0, r) (by simp)
  refine ⟨ρ', ?_, fun k hk => hold k hk, ⟨fun j rr hj => ?_, fun j j' rr rr' hne h1 h2 o ho => ?_⟩, hp.len, fun j hj hnj => ?_, fun j rr hj o ho => ?_⟩
  ·rw [hr]
   simp only
   rw [qnb]
   exact (qb5 (fun k hk => key k (xm hk)) r hra).symm
  ·obtain ⟨k, r0, h1, h2, rfl, h4, h5⟩ := res j rr hj
   rw [h4]
   have hsat := hp.sat
   simp only [qao, qh3] at hsat
   have hok := hsat.ok k r0 h1
   cases r0 with
   | cells T cs =>
    obtain ⟨o, v, g1, g2, g3⟩ := hok
    refine ⟨o, v, g1, ?_, g3⟩
    rw [qeu, qby (fun k hk => key k (xm hk)) cs h5]
    exact g2
   | tip sz T xs => exact hok
   | own sz T xs => exact hok
  ·obtain ⟨k, r0, h3, h4, _, h5, _⟩ := res j rr h1
   obtain ⟨k', r0', h3', h4', _, h5', _⟩ := res j' rr' h2
   rw [h5] at ho
   rw [h5']
   have hsat := hp.sat
   simp only [qao, qh3] at hsat
   exact hsat.sep k k' r0 r0' (fun e => hne (by rw [← h4, ← h4', e])) h3 h3' o ho
  ·refine hp.fr j hj fun k r0 hk hlo => ?_
   simp only [qao] at hk
   obtain ⟨j', r', g1, g2⟩ := foot k r0 hk j hlo
   exact hnj j' r' g1 g2
  ·obtain ⟨k, r0, h1, h2, _, h4, _⟩ := res j rr hj
   rw [h4] at ho
   have hlc := hp.loc k r0 (by simp only [qao, qh3]; exact h1) o ho
   rcases hlc with g | ⟨k', r', g1, g2⟩
   ·exact .inl g
   ·simp only [qao] at g1
    obtain ⟨j', r'', g3, g4⟩ := foot k' r' g1 o g2
    exact .inr ⟨j', r'', g3, g4⟩
def useW (vs0 : List SV) (hp0 : List (Nat × Option SR)) (nx0 : Nat) (r : SV) (hp1 : List (Nat × Option SR)) (nx1 : Nat) (hpU : List (Nat × Option SR)) (vs : List SV) (nx : Nat) (k : Ef → Prop) : Prop :=
 fcP (addS [] (prsL vs0 vs)) fun a => fcP (addS a (sigH (hpF hpU) a hp0)) fun σ =>
  vs.length = vs0.length ∧ okC ⟨v6 0 vs, fltH (σ.map Prod.snd) hpU, nx⟩ = true ∧ EntC σ ⟨v6 0 vs, fltH (σ.map Prod.snd) hpU, nx⟩ ⟨v6 0 vs0, hp0, nx0⟩ ∧ okC ⟨[(0, r)], hp1, nx1⟩ = true ∧
   (qny (y5 hp1) && hp1.all (fun q => (lkS (newN nx0 nx (nx1 - nx0) ++ σ) q.1).isSome) && σ.all (fun q => Nat.blt q.1 nx0 && Nat.blt q.2 nx) && Nat.ble nx0 nx1) = true ∧
   k ⟨r.ren (newN nx0 nx (nx1 - nx0) ++ σ), σ.map Prod.snd, renH (newN nx0 nx (nx1 - nx0) ++ σ) hp1 ++ outH (σ.map Prod.snd), nx + (nx1 - nx0)⟩
theorem qah {E : Env} {f : FuncId} {vs0 : List SV} {hp0 : List (Nat × Option SR)} {nx0 : Nat} {r : SV} {hp1 : List (Nat × Option SR)} {nx1 : Nat} (h : qax E f vs0 nx0 (hpF hp0) ⟨r, y5 hp0, hp1 ++ qay hp0, nx1⟩) {hpU : List (Nat × Option SR)} {vs : List SV} {nx : Nat} {k : Ef → Prop}
  (hw : useW vs0 hp0 nx0 r hp1 nx1 hpU vs nx k) : ∃ e, qax E f vs nx (hpF hpU) e ∧ k e := by
 unfold useW at hw
 simp only [qtz] at hw
 obtain ⟨h1, h2, h3, h4, h5, h6⟩ := hw
 exact ⟨_, q5o h _ h1 h2 h3 h4 h5, h6⟩
end Go.Av
set_option linter.unusedVariables false
namespace Go.Av
open Go Go.RowKit
theorem SatR.drop {S0 : List AObj} {F : Nat → Prop} {C : Conf} {ρ t : Nat → AV} {S : List AObj} (h : SatR S0 F C ρ t S) {b o : Nat} {q : SR} (hb : hpF C.hp b = some q) (ho : ∀ o', kl (ρ b) = some o' → o' = o) (hd : kl (ρ b) = some o ∨ S.set o .dead = S) :
  SatR S0 F ⟨C.sl, (b, none) :: C.hp, C.nx⟩ ρ t (S.set o .dead) := by
 have hget : ∀ k r, hpF ((b, none) :: C.hp) k = some r → k ≠ b ∧ hpF C.hp k = some r := fun k r hk => by
  unfold hpF at hk ⊢
  simp only [lkS] at hk
  by_cases e : b = k
  ·subst e; simp at hk
  ·rw [wm e] at hk
   exact ⟨fun h => e h.symm, hk⟩
 rcases hd with hd | hd
 ·refine ⟨h.sl, ⟨fun k r hk => ?_, fun k k' r r' hne hk hk' => h.hp.sep k k' r r' hne (hget k r hk).2 (hget k' r' hk').2⟩, fun k r hk => h.own k r (hget k r hk).2, fun j hj hF => ?_, by simpa using h.len, h.wsl, fun k r hk => h.whp k r (hget k r hk).2⟩
  ·obtain ⟨hne, hk⟩ := hget k r hk
   refine SR.ok_of (f := fun _ => true) (SR.all_mono (fun _ _ => rfl) r (h.whp k r hk).2) (fun _ _ => rfl) (h.hp.ok k r hk) fun j hj => ?_
   have : o ≠ j := fun e => h.hp.sep b k _ r (fun e => hne e.symm) hb hk o hd (e ▸ hj)
   rw [List.getElem?_set_ne this]
  ·have : o ≠ j := fun e => by
    rcases h.own b _ hb o hd with g | g
    ·omega
    ·exact hF (e ▸ g)
   rw [List.getElem?_set_ne this]
   exact h.low j hj hF
 ·rw [hd]
  exact ⟨h.sl, ⟨fun k r hk => h.hp.ok k r (hget k r hk).2, fun k k' r r' hne hk hk' => h.hp.sep k k' r r' hne (hget k r hk).2 (hget k' r' hk').2⟩, fun k r hk => h.own k r (hget k r hk).2, h.low, h.len, h.wsl, fun k r hk => h.whp k r (hget k r hk).2⟩
theorem SatR.slot {S0 : List AObj} {F : Nat → Prop} {C : Conf} {ρ t : Nat → AV} {S : List AObj} (h : SatR S0 F C ρ t S) (d : Nat) {y : AV} : SatR S0 F ⟨(d, .a y) :: C.sl, C.hp, C.nx⟩ ρ (Av.put t d y) S := by
 refine ⟨fun x v hx => ?_, h.hp, h.own, h.low, h.len, fun x v hx => ?_, h.whp⟩
 ·simp only [lkS] at hx
  by_cases e : d = x
  ·subst e
   simp at hx
   subst hx
   exact qai _ _ _
  ·rw [wm e] at hx
   simp only [cond_false] at hx
   exact (qcd _ _ _ _ (fun h => e h.symm)).trans (h.sl x v hx)
 ·simp only [lkS] at hx
  by_cases e : d = x
  ·subst e
   simp at hx
   subst hx
   rfl
  ·rw [wm e] at hx
   exact h.wsl x v hx
theorem SatR.pub {S0 : List AObj} {F : Nat → Prop} {C : Conf} {ρ t : Nat → AV} {S : List AObj} (h : SatR S0 F C ρ t S) {d b o : Nat} {T : TypeId} {cs : List SV} {xs : List AV} (hb : hpF C.hp b = some (.cells T cs)) (ho : kl (ρ b) = some o) :
  SatR S0 F ⟨(d, .a (.pp xs)) :: C.sl, (b, none) :: C.hp, C.nx⟩ ρ (Av.put t d (.pp xs)) (S.set o .dead) :=
 (h.drop hb (fun o' ho' => by rw [ho] at ho'; simpa using ho'.symm) (.inl ho)).slot d
end Go.Av
set_option maxRecDepth 100000
set_option linter.unusedVariables false
namespace Go.Pl
open Go Go.Proofs
structure w9 where
 kind : Int
 raw : qa
 fields : List Fld
structure PSt where
 lines : List qa
 frm : Int
 full : Bool
 items : List w9
 block : List qa
 fields : List Fld
 records : Int
def v8 (p : PSt) : Option (Int × Int) × PSt :=
 if p.lines = [] then (none, p)
 else if (j8 p.lines).2 ≠ 0 then (some (p.frm, (j8 p.lines).2), p)
 else if p.full = true then (some (p.frm, 11), p)
 else (none, { p with lines := [], fields := p.fields ++ [(j8 p.lines).1] })
end Go.Pl
namespace Go.Proofs.YtefmcijohgpfhaaGreatDoor
open Go Go.Av Go.RowKit Go.Proofs Go.Pl
@[reducible] def yy (x : w9) : AV := .ag [Iv x.kind, Sv x.raw, qa1 x.fields]
@[reducible] def y3 (xs : List w9) : AV := .sl 3 (xs.map yy) none
@[reducible] def parC (c1 c2 c3 c4 : AV) (p : PSt) : List AV := [c1, Iv p.frm, Bv p.full, c2, c3, c4, Iv p.records]
@[reducible] def parO (c1 c2 c3 c4 : AV) (p : PSt) : AObj := .cells 0 148 (parC c1 c2 c3 c4 p)
structure ParS (b o : Nat) (p : PSt) (st : List AObj) (c1 c2 c3 c4 : AV) : Prop where
 lt : o < b
 le : b ≤ st.length
 ob : st[o]? = some (parO c1 c2 c3 c4 p)
 h1 : TipC b st 1 9 (p.lines.map fun x => Sv x) c1
 h2 : TipC b st 3 152 (p.items.map yy) c2
 h3 : TipC b st 1 9 (p.block.map fun x => Sv x) c3
 h4 : TipC b st 2 69 (p.fields.map fldA) c4
 ne : ∀ t xs ys, c1 = .sl 1 xs (some t) → c3 = .sl 1 ys (some t) → False
structure Keep (b o : Nat) (st st' : List AObj) : Prop where
 len : st.length ≤ st'.length
 same : ∀ k, k ≠ o → k < st.length → (k < b ∨ qgj st[k]?) → st'[k]? = st[k]?
theorem Keep.trans {b o : Nat} {st st' st'' : List AObj} (h : Keep b o st st') (k : Keep b o st' st'') : Keep b o st st'' := ⟨Nat.le_trans h.len k.len, fun i hne hi hc => by
 have e := h.same i hne hi hc
 refine (k.same i hne (Nat.lt_of_lt_of_le hi h.len) ?_).trans e
 rw [e]
 exact hc⟩
def qff (a n : Int) : AV := .ifc 103 (.pp [Iv a, .ifc 31 (Iv n)])
def errP : Option (Int × Int) → AV
 | none => .v .nilIface
 | some (a, n) => qff a n
theorem qhr (a n : Int) : Pure (qff a n) := qb9 (q30 fun x hx => by
 simp only [List.mem_cons, List.not_mem_nil, or_false] at hx
 rcases hx with rfl | rfl
 ·exact zi _
 ·exact qb9 (zi _))
theorem qiq (a n : Int) (st : List AObj) : qt E 134 [Iv a, .ifc 31 (Iv n)] st fun r st' => r = qff a n ∧ st' = st := by
 refine zg (qhr a n) (qv Tryz.func134 rfl (Nat.le_of_ble_eq_true rfl) ?_)
 repeat' (first
  | (apply qhl; (iterate 3 exact rfl))
  | apply qj
  | apply qc
  | apply qg
  | apply qh
  | apply qb
  | (apply qy; exact rfl; exact rfl)
  | (apply zt; (iterate 3 exact rfl))
  | apply qq)
 exact qi rfl (zf rfl) ⟨rfl, _, rfl⟩
theorem qxg (ls : List qa) (t : Option Nat) (st : List AObj) (hB : LsB ls) (h : (j8 ls).2 = 0) : qt E 166 [.sl 1 (ls.map fun x => Sv x) t] st fun r st' => r = .tu [fldA (j8 ls).1, .v .nilIface] ∧ st' = st := by
 have := qkr ls st hB
 unfold qd8 at this
 rw [h] at this
 exact qlj (qeh _ _ _) this
theorem qw4 (ls : List qa) (t : Option Nat) (st : List AObj) (hB : LsB ls) (h : (j8 ls).2 ≠ 0) : qt E 166 [.sl 1 (ls.map fun x => Sv x) t] st fun r st' => r = .tu [fldA (j8 ls).1, .ifc 31 (Iv (j8 ls).2)] ∧ st' = st := by
 have := qkr ls st hB
 unfold qd8 at this
 rw [qh7 h] at this
 exact qlj (qeh _ _ _) this
structure PB (n : Nat) (p : PSt) : Prop where
 small : n < 900000
 lines : p.lines.length ≤ n
 linesV : ∀ s ∈ p.lines, s.length < 1000000
 items : p.items.length ≤ n
 block : p.block.length ≤ n
 blockV : ∀ s ∈ p.block, s.length < 1000000
 fields : p.fields.length ≤ n
 rec0 : 0 ≤ p.records
 rec1 : p.records ≤ n
theorem PB.ls {n : Nat} {p : PSt} (h : PB n p) : LsB p.lines := ⟨by have := h.lines; have := h.small; omega, h.linesV⟩
theorem ParS.pre {b o : Nat} {p : PSt} {st l : List AObj} {c1 c2 c3 c4 : AV} (P : ParS b o p st c1 c2 c3 c4) : ParS b o p (st ++ l) c1 c2 c3 c4 :=
 ⟨P.lt, by have := P.le; simp; omega, qb1 P.ob, qgi P.h1, qgi P.h2, qgi P.h3, qgi P.h4, P.ne⟩
end Go.Proofs.YtefmcijohgpfhaaGreatDoor
set_option maxRecDepth 100000
set_option linter.unusedVariables false
namespace Go.Pl
open Go Go.Proofs
def qaa (p : PSt) : PSt :=
 if p.block = [] then { p with block := [], fields := [] }
 else { p with items := p.items ++ [⟨if p.fields = [] then 2 else 3, jp p.block, p.fields⟩], records := if p.fields = [] then p.records else p.records + 1, block := [], fields := [] }
def endP (p : PSt) : Option (Int × Int) × PSt := match (v8 p).1 with
 | some e => (some e, p)
 | none => (none, qaa (v8 p).2)
theorem qkc : ∀ (x : qa) (r : List qa), Lib.join (x :: r) [10] ++ [10] = jp (x :: r)
 | x, [] => by rw [Lib.join_one]; simp [jp]
 | x, y :: r => by
  have ih := qkc y r
  rw [Lib.join_cons] at ih ⊢
  unfold Lib.joinTail at ih ⊢
  simp only [List.map_cons, List.flatten_cons, jp, List.flatMap_cons] at ih ⊢
  rw [← ih]
  simp
theorem qjn : ∀ (r : List qa), (∀ s ∈ r, s.length < 1000000) → (jp r).length ≤ 1000001 * r.length
 | [], _ => by simp [jp]
 | a :: r, h => by
  have ih := qjn r fun s hs => h s (by simp [hs])
  have ha := h a (by simp)
  simp only [jp, List.flatMap_cons, List.length_append, List.length_cons, List.length_nil] at ih ⊢
  omega
end Go.Pl
namespace Go.Proofs.YtefmcijohgpfhaaGreatDoor
open Go Go.Av Go.RowKit Go.Proofs Go.Pl
theorem qhj {n : Nat} {p : PSt} (h : PB n p) (hs : n + 1 < 900000) : PB (n + 1) (v8 p).2 := by
 have h1 := h.lines; have h2 := h.items; have h3 := h.block; have h4 := h.fields; have h5 := h.rec0; have h6 := h.rec1
 unfold v8
 split
 ·exact ⟨hs, by simp only; omega, h.linesV, by simp only; omega, by simp only; omega, h.blockV, by simp only; omega, h5, by simp only; omega⟩
 ·split
  ·exact ⟨hs, by simp only; omega, h.linesV, by simp only; omega, by simp only; omega, h.blockV, by simp only; omega, h5, by simp only; omega⟩
  ·split
   ·exact ⟨hs, by simp only; omega, h.linesV, by simp only; omega, by simp only; omega, h.blockV, by simp only; omega, h5, by simp only; omega⟩
   ·exact ⟨hs, by simp, by simp, by simp only; omega, by simp only; omega, h.blockV, by simp; omega, h5, by simp only; omega⟩
theorem q34 (xs : List qa) (tip : Option Nat) (st : List AObj) (hne : xs ≠ []) (hN : xs.length ≤ 900000) (hv : ∀ s ∈ xs, s.length < 1000000) : qt E 88 [.sl 1 (xs.map fun x => Sv x) tip, Sv [10]] st fun r st' => r = Sv (Lib.join xs [10]) ∧ st' = st := by
 refine qyk xs tip [10] st (by omega) ?_
 have h1 := qjn xs hv
 cases xs with
 | nil => exact absurd rfl hne
 | cons x r =>
  have h2 := congrArg List.length (qkc x r)
  rw [List.length_append] at h2
  simp only [List.length_cons, List.length_nil] at h2 h1 hN
  omega
end Go.Proofs.YtefmcijohgpfhaaGreatDoor
set_option maxRecDepth 100000
set_option linter.unusedVariables false
namespace Go.Proofs.YtefmcijohgpfhaaGreatDoor
open Go Go.Av Go.RowKit Go.Proofs Go.Pl
def parH (a : Nat) (p : PSt) : List (Nat × Option SR) := [(0, some (.cells 148 [.tp a, .i p.frm, .b p.full, .tp (a + 1), .tp (a + 2), .tp (a + 3), .i p.records])), (a, some (.tip 1 9 (p.lines.map fun x => Sv x))), (a + 1, some (.tip 3 152 (p.items.map yy))), (a + 2, some (.tip 1 9 (p.block.map fun x => Sv x))), (a + 3, some (.tip 2 69 (p.fields.map fldA)))]
theorem qms (n : Nat) (p : PSt) (hB : PB n p) : qax E 136 [.bx 0 0] 5 (hpF (parH 1 p)) ⟨.a (errP (v8 p).1), y5 (parH 1 p), parH 5 (v8 p).2 ++ qay (parH 1 p), 9⟩ := by
 refine qex [.bx 0 0] (parH 1 p) 5 (.a (errP (v8 p).1)) (parH 5 (v8 p).2) 9 Tryz.func136 rfl rfl rfl rfl fun S F ρ => ?_
 have hls := hB.ls
 have hsm := hB.small
 have hfl := hB.fields
 by_cases h0 : p.lines = []
 ·have e : v8 p = (none, p) := by unfold v8; rw [if_pos h0]
  rw [e]
  have hl0 : (p.lines.map fun x => Sv x).length = 0 := by simp [h0]
  apply zd []
  repeat' (first
   | apply And.intro
   | (intro h; first | (exfalso; omega) | (exfalso; exact h rfl) | (exfalso; revert h; decide) | skip)
   | exact rfl
   | exact trivial
   | exact fun _ => rfl
   | exact zb _
   | apply qz []
   | exact DrOk.mk (by kernel_rfl)
   | exact qn fun _ => rfl
   | omega
   | (simp only [List.length_map, List.length_append, List.length_cons, List.length_nil, List.length_take, List.length_drop]; omega)
   | exact zh
   | (refine Exists.intro _ ⟨rfl, ?_⟩)
   | refine zu ?_)
 ·have hl0 : (p.lines.map fun x => Sv x).length ≠ 0 := by simp [h0]
  by_cases hu : (j8 p.lines).2 = 0
  ·have hun := fun st => qxg p.lines none st hls hu
   cases hf : p.full with
   | true =>
    have e : v8 p = (some (p.frm, 11), p) := by unfold v8; rw [if_neg h0, if_neg (by simp [hu]), if_pos hf]
    rw [e]
    have hft := fun st => qiq p.frm 11 st
    apply zd []
    repeat' (first
     | apply And.intro
     | (intro h; first | (exfalso; omega) | (exfalso; exact h rfl) | (exfalso; revert h; decide) | skip)
     | exact ⟨Tryz.call166⟩
     | (refine Exists.intro _ ⟨qw (hun) rfl, ?_⟩)
     | exact ⟨Tryz.call134⟩
     | (refine Exists.intro _ ⟨qw (hft) rfl, ?_⟩)
     | (exact absurd (by assumption : p.full = false) (by rw [hf]; decide))
     | exact rfl
     | exact trivial
     | exact fun _ => rfl
     | exact zb _
     | apply qz []
     | exact DrOk.mk (by kernel_rfl)
     | exact qn fun _ => rfl
     | omega
     | (simp only [List.length_map, List.length_append, List.length_cons, List.length_nil, List.length_take, List.length_drop]; omega)
     | exact zh
     | (refine Exists.intro _ ⟨rfl, ?_⟩)
     | refine zu ?_)
   | false =>
    have e : v8 p = (none, { p with lines := [], fields := p.fields ++ [(j8 p.lines).1] }) := by unfold v8; rw [if_neg h0, if_neg (by simp [hu]), if_neg (by simp [hf])]
    rw [e]
    apply zd [51]
    repeat' (first
     | apply And.intro
     | (intro h; first | (exfalso; omega) | (exfalso; exact h rfl) | (exfalso; revert h; decide) | skip)
     | exact ⟨Tryz.call166⟩
     | (refine Exists.intro _ ⟨qw (hun) rfl, ?_⟩)
     | (exact absurd (by assumption : p.full = true) (by rw [hf]; decide))
     | exact rfl
     | exact trivial
     | exact fun _ => rfl
     | exact zb _
     | apply qz [51]
     | exact DrOk.mk (by kernel_rfl)
     | exact qn fun _ => rfl
     | omega
     | (simp only [List.length_map, List.length_append, List.length_cons, List.length_nil, List.length_take, List.length_drop]; omega)
     | exact zh
     | (refine Exists.intro _ ⟨rfl, ?_⟩)
     | refine zu ?_)
    all_goals first | (simp [SV.evs, SV.ev]; done) | (simp [SV.evs]; omega)
  ·have hun := fun st => qw4 p.lines none st hls hu
   have e : v8 p = (some (p.frm, (j8 p.lines).2), p) := by unfold v8; rw [if_neg h0, if_pos hu]
   rw [e]
   have hft := fun st => qiq p.frm (j8 p.lines).2 st
   apply zd []
   repeat' (first
    | apply And.intro
    | (intro h; first | (exfalso; omega) | (exfalso; exact h rfl) | (exfalso; revert h; decide) | skip)
    | exact ⟨Tryz.call166⟩
    | (refine Exists.intro _ ⟨qw (hun) rfl, ?_⟩)
    | exact ⟨Tryz.call134⟩
    | (refine Exists.intro _ ⟨qw (hft) rfl, ?_⟩)
    | exact rfl
    | exact trivial
    | exact fun _ => rfl
    | exact zb _
    | apply qz []
    | exact DrOk.mk (by kernel_rfl)
    | exact qn fun _ => rfl
    | omega
    | (simp only [List.length_map, List.length_append, List.length_cons, List.length_nil, List.length_take, List.length_drop]; omega)
    | exact zh
    | (refine Exists.intro _ ⟨rfl, ?_⟩)
    | refine zu ?_)
theorem qvf (n : Nat) (p : PSt) (hB : PB n p) (hs : n + 1 < 900000) : qax E 93 [.bx 0 0] 5 (hpF (parH 1 p)) ⟨.a (errP (endP p).1), y5 (parH 1 p), parH 5 (endP p).2 ++ qay (parH 1 p), 9⟩ := by
 refine qex [.bx 0 0] (parH 1 p) 5 (.a (errP (endP p).1)) (parH 5 (endP p).2) 9 Tryz.func93 rfl rfl rfl rfl fun S F ρ => ?_
 have hfc := qms n p hB
 have hB2 := qhj hB hs
 have hsame : ∀ e, (v8 p).1 = some e → (v8 p).2 = p := fun e => by
  unfold v8
  split
  ·simp
  ·split
   ·simp
   ·split
    ·simp
    ·simp
 unfold endP
 generalize v8 p = fq at hfc hB2 hsame
 obtain ⟨fe, q⟩ := fq
 cases fe with
 | some e =>
  obtain rfl := hsame e rfl
  obtain ⟨a, k⟩ := e
  apply zd []
  repeat' (first
   | apply And.intro
   | (intro h; first | (exfalso; omega) | (exfalso; exact h rfl) | (exfalso; revert h; decide) | skip)
   | exact ⟨Tryz.call136⟩
   | (refine qah hfc ?_)
   | exact rfl
   | exact trivial
   | exact fun _ => rfl
   | exact zb _
   | apply qz []
   | exact DrOk.mk (by kernel_rfl)
   | exact qn fun _ => rfl
   | omega
   | (simp only [List.length_map, List.length_append, List.length_cons, List.length_nil, List.length_take, List.length_drop]; omega)
   | exact zh
   | (refine Exists.intro _ ⟨rfl, ?_⟩)
   | refine zu ?_)
 | none =>
  dsimp only at hB2 hfc
  have h3 := hB2.fields
  have h4 := hB2.rec0
  have h5 := hB2.rec1
  have h1 := hB2.block
  have h2 := hB2.items
  by_cases hb : q.block = []
  ·have e : qaa q = { q with block := [], fields := [] } := by unfold qaa; rw [if_pos hb]
   simp only [e]
   have hl0 : (q.block.map fun x => Sv x).length = 0 := by simp [hb]
   apply zd []
   repeat' (first
    | apply And.intro
    | (intro h; first | (exfalso; omega) | (exfalso; exact h rfl) | (exfalso; revert h; decide) | skip)
    | exact ⟨Tryz.call136⟩
    | (refine qah hfc ?_)
    | exact rfl
    | exact trivial
    | exact fun _ => rfl
    | exact zb _
    | apply qz []
    | exact DrOk.mk (by kernel_rfl)
    | exact qn fun _ => rfl
    | omega
    | (simp only [List.length_map, List.length_append, List.length_cons, List.length_nil, List.length_take, List.length_drop]; omega)
    | exact zh
    | (refine Exists.intro _ ⟨rfl, ?_⟩)
    | refine zu ?_)
  ·have hl0 : (q.block.map fun x => Sv x).length ≠ 0 := by simp [hb]
   have hbl := qjn q.block hB2.blockV
   obtain ⟨b, r, hbr⟩ : ∃ b r, q.block = b :: r := by
    cases hq : q.block with
    | nil => exact absurd hq hb
    | cons b r => exact ⟨b, r, rfl⟩
   have hjt := qkc b r
   rw [← hbr] at hjt
   have hjl := congrArg List.length hjt
   simp only [List.length_append, List.length_cons, List.length_nil] at hjl
   have hjo := fun st => q34 q.block none st hb (by omega) hB2.blockV
   by_cases hf : q.fields = []
   ·have e : qaa q = { q with items := q.items ++ [⟨2, jp q.block, q.fields⟩], records := q.records, block := [], fields := [] } := by unfold qaa; rw [if_neg hb, if_pos hf, if_pos hf]
    simp only [e]
    have hl1 : (q.fields.map fldA).length = 0 := by simp [hf]
    apply zd []
    repeat' (first
     | apply And.intro
     | (intro h; first | (exfalso; omega) | (exfalso; exact h rfl) | (exfalso; revert h; decide) | skip)
     | exact ⟨Tryz.call136⟩
     | (refine qah hfc ?_)
     | exact ⟨Tryz.call88⟩
     | (refine Exists.intro _ ⟨qw (hjo) rfl, ?_⟩)
     | exact rfl
     | exact trivial
     | exact fun _ => rfl
     | exact zb _
     | apply qz []
     | exact DrOk.mk (by kernel_rfl)
     | exact qn fun _ => rfl
     | omega
     | (simp only [List.length_map, List.length_append, List.length_cons, List.length_nil, List.length_take, List.length_drop]; omega)
     | exact zh
     | (refine Exists.intro _ ⟨rfl, ?_⟩)
     | refine zu ?_)
    all_goals first | (simp [SV.evs, SV.ev, hjt]; done) | (simp [SV.evs]; omega)
   ·have e : qaa q = { q with items := q.items ++ [⟨3, jp q.block, q.fields⟩], records := q.records + 1, block := [], fields := [] } := by unfold qaa; rw [if_neg hb, if_neg hf, if_neg hf]
    simp only [e]
    have hl1 : (q.fields.map fldA).length ≠ 0 := by simp [hf]
    apply zd []
    repeat' (first
     | apply And.intro
     | (intro h; first | (exfalso; omega) | (exfalso; exact h rfl) | (exfalso; revert h; decide) | skip)
     | exact ⟨Tryz.call136⟩
     | (refine qah hfc ?_)
     | exact ⟨Tryz.call88⟩
     | (refine Exists.intro _ ⟨qw (hjo) rfl, ?_⟩)
     | exact rfl
     | exact trivial
     | exact fun _ => rfl
     | exact zb _
     | apply qz []
     | exact DrOk.mk (by kernel_rfl)
     | exact qn fun _ => rfl
     | omega
     | (simp only [List.length_map, List.length_append, List.length_cons, List.length_nil, List.length_take, List.length_drop]; omega)
     | exact zh
     | (refine Exists.intro _ ⟨rfl, ?_⟩)
     | refine zu ?_)
    all_goals first | (simp [SV.evs, SV.ev, hjt]; done) | (simp [SV.evs]; omega)
end Go.Proofs.YtefmcijohgpfhaaGreatDoor
set_option maxRecDepth 100000
set_option linter.unusedVariables false
namespace Go.Pl
open Go Go.Proofs
def wp (p : PSt) (no : Int) (text : qa) : PSt := { p with lines := [text], frm := no, full := decide (p.fields.length = 40 ∨ (p.fields.length = 0 ∧ p.records = 400)) }
def vu (p : PSt) (no : Int) (text : qa) (ended : Bool) (kind : Int) : Option (Int × Int) × PSt :=
 if kind = 3 then
  if p.lines = [] then (some (no, 2), p)
  else if ended = true then (none, { p with lines := p.lines ++ [text] })
  else v8 { p with lines := p.lines ++ [text] }
 else if kind = 1 then endP p
 else v8 p
end Go.Pl
set_option maxRecDepth 100000
set_option linter.unusedVariables false
namespace Go.Pl
open Go Go.Proofs
def x8 (p : PSt) (no : Int) (text : qa) (ended : Bool) : Option (Int × Int) × PSt :=
 match (vu p no text ended (q9 text)).1 with
 | some e => (some e, p)
 | none =>
  if q9 text = 5 ∨ ended = false then (some (no, 2), p)
  else if q9 text = 1 then (none, { (vu p no text ended (q9 text)).2 with items := (vu p no text ended (q9 text)).2.items ++ [⟨1, text ++ [10], []⟩] })
  else if q9 text = 4 then (none, { wp (vu p no text ended (q9 text)).2 no text with block := (vu p no text ended (q9 text)).2.block ++ [text] })
  else (none, { (vu p no text ended (q9 text)).2 with block := (vu p no text ended (q9 text)).2.block ++ [text] })
end Go.Pl
namespace Go.Proofs.YtefmcijohgpfhaaGreatDoor
open Go Go.Av Go.RowKit Go.Proofs Go.Pl
theorem PB.more {n m : Nat} {p : PSt} (h : PB n p) (hm : n ≤ m) (hs : m < 900000) : PB m p := by
 have h1 := h.lines; have h2 := h.items; have h3 := h.block; have h4 := h.fields; have h5 := h.rec0; have h6 := h.rec1
 exact ⟨hs, by omega, h.linesV, by omega, by omega, h.blockV, by omega, h5, by omega⟩
theorem qyz {n : Nat} {p : PSt} (h : PB n p) (hs : n + 1 < 900000) : PB (n + 1) (qaa p) := by
 have h1 := h.lines; have h2 := h.items; have h3 := h.block; have h4 := h.fields; have h5 := h.rec0; have h6 := h.rec1
 unfold qaa
 split
 ·exact ⟨hs, by simp only; omega, h.linesV, by simp only; omega, by simp, by simp, by simp, h5, by simp only; omega⟩
 ·refine ⟨hs, by simp only; omega, h.linesV, by simp; omega, by simp, by simp, by simp, ?_, ?_⟩
  ·simp only; split <;> omega
  ·simp only; split <;> omega
theorem ql6 {n : Nat} {p : PSt} {text : qa} (h : PB n p) (hs : n + 1 < 900000) (ht : text.length < 1000000) : PB (n + 1) { p with lines := p.lines ++ [text] } := by
 have h1 := h.lines; have h2 := h.items; have h3 := h.block; have h4 := h.fields; have h5 := h.rec0; have h6 := h.rec1
 exact ⟨hs, by simp; omega, qcz h.linesV ht, by simp only; omega, by simp only; omega, h.blockV, by simp only; omega, h5, by simp only; omega⟩
theorem qrl {n : Nat} {p : PSt} {text : qa} (h : PB n p) (hs : n + 1 < 900000) (ht : text.length < 1000000) : PB (n + 1) { p with block := p.block ++ [text] } := by
 have h1 := h.lines; have h2 := h.items; have h3 := h.block; have h4 := h.fields; have h5 := h.rec0; have h6 := h.rec1
 exact ⟨hs, by simp only; omega, h.linesV, by simp only; omega, by simp; omega, qcz h.blockV ht, by simp only; omega, h5, by simp only; omega⟩
theorem q1o {n : Nat} {p : PSt} {x : w9} (h : PB n p) (hs : n + 1 < 900000) : PB (n + 1) { p with items := p.items ++ [x] } := by
 have h1 := h.lines; have h2 := h.items; have h3 := h.block; have h4 := h.fields; have h5 := h.rec0; have h6 := h.rec1
 exact ⟨hs, by simp only; omega, h.linesV, by simp; omega, by simp only; omega, h.blockV, by simp only; omega, h5, by simp only; omega⟩
theorem q1g {n : Nat} {p : PSt} {no : Int} {text : qa} (h : PB n p) (hs : n + 1 < 900000) (ht : text.length < 1000000) : PB (n + 1) (wp p no text) := by
 have h1 := h.lines; have h2 := h.items; have h3 := h.block; have h4 := h.fields; have h5 := h.rec0; have h6 := h.rec1
 exact ⟨hs, by simp [wp], by simp [wp, ht], by simp only [wp]; omega, by simp only [wp]; omega, h.blockV, by simp only [wp]; omega, h5, by simp only [wp]; omega⟩
theorem qg1 {n : Nat} {p : PSt} {no : Int} {text : qa} {ended : Bool} {kind : Int} (h : PB n p) (hs : n + 2 < 900000) (ht : text.length < 1000000) : PB (n + 2) (vu p no text ended kind).2 := by
 unfold vu
 split
 ·split
  ·exact h.more (by omega) hs
  ·split
   ·exact (ql6 h (by omega) ht).more (by omega) hs
   ·exact qhj (ql6 h (by omega) ht) hs
 ·split
  ·unfold endP
   split
   ·exact h.more (by omega) hs
   ·exact qyz (qhj h (by omega)) hs
  ·exact (qhj h (by omega)).more (by omega) hs
theorem qnu (l : qa) : 1 ≤ q9 l ∧ q9 l ≤ 5 := by
 unfold q9
 repeat' split
 all_goals decide
theorem qsm {n : Nat} {p : PSt} {no : Int} {text : qa} {ended : Bool} (h : PB n p) (hs : n + 4 < 900000) (ht : text.length < 1000000) : PB (n + 4) (x8 p no text ended).2 := by
 have h2 : PB (n + 2) (vu p no text ended (q9 text)).2 := qg1 h (by omega) ht
 unfold x8
 split
 ·exact h.more (by omega) hs
 ·split
  ·exact h.more (by omega) hs
  ·split
   ·exact (q1o h2 (by omega)).more (by omega) hs
   ·split
    ·exact qrl (q1g h2 (by omega) ht) hs ht
    ·exact (qrl h2 (by omega) ht).more (by omega) hs
end Go.Proofs.YtefmcijohgpfhaaGreatDoor
set_option maxRecDepth 100000
set_option linter.unusedVariables false
namespace Go.Proofs.YtefmcijohgpfhaaGreatDoor
open Go Go.Av Go.RowKit Go.Proofs Go.Pl
theorem qzf (n : Nat) (p : PSt) (no at' : Int) (text : qa) (ended : Bool) (hB : PB n p) : qax E 135 [.bx 0 0, .ag [.i no, .i at', .s text, .b ended]] 5 (hpF (parH 1 p)) ⟨.tu [], y5 (parH 1 p), parH 5 (wp p no text) ++ qay (parH 1 p), 9⟩ := by
  refine qex [.bx 0 0, .ag [.i no, .i at', .s text, .b ended]] (parH 1 p) 5 (.tu []) (parH 5 (wp p no text)) 9 Tryz.func135 rfl rfl rfl rfl fun S F ρ => ?_
  obtain ⟨ls, fr, fu, its, bk, fs, rc⟩ := p
  have hml : (fs.map fldA).length = fs.length := by simp
  by_cases ha : fs.length = 40 ∨ (fs.length = 0 ∧ rc = 400)
  · have e : wp ⟨ls, fr, fu, its, bk, fs, rc⟩ no text = ⟨[text], no, true, its, bk, fs, rc⟩ := by
      unfold wp
      simp only [decide_eq_true ha]
    rw [e]
    apply zd [29]
    repeat' (first
      | apply And.intro
      | (intro h; first | (exfalso; omega) | (exfalso; exact h rfl) | (exfalso; revert h; decide) | skip)
      | exact rfl
      | exact trivial
      | exact fun _ => rfl
      | exact zb _
      | apply qz [29]
      | exact DrOk.mk (by kernel_rfl)
      | exact qn fun _ => rfl
      | omega
      | (simp only [List.length_map, List.length_append, List.length_cons, List.length_nil, List.length_take, List.length_drop]; omega)
      | exact zh
      | (refine Exists.intro _ ⟨rfl, ?_⟩)
      | refine zu ?_)
    all_goals (intros; simp only [hml] at *; first | (exfalso; omega) | (have hrc : rc = 400 := by omega
                                                                         subst hrc; rfl))
  · have e : wp ⟨ls, fr, fu, its, bk, fs, rc⟩ no text = ⟨[text], no, false, its, bk, fs, rc⟩ := by
      unfold wp
      simp only [decide_eq_false ha]
    rw [e]
    apply zd [29]
    repeat' (first
      | apply And.intro
      | (intro h; first | (exfalso; omega) | (exfalso; exact h rfl) | (exfalso; revert h; decide) | skip)
      | exact rfl
      | exact trivial
      | exact fun _ => rfl
      | exact zb _
      | apply qz [29]
      | exact DrOk.mk (by kernel_rfl)
      | exact qn fun _ => rfl
      | omega
      | (simp only [List.length_map, List.length_append, List.length_cons, List.length_nil, List.length_take, List.length_drop]; omega)
      | exact zh
      | (refine Exists.intro _ ⟨rfl, ?_⟩)
      | refine zu ?_)
    all_goals (intros; simp only [hml] at *; first | (exfalso; omega) | (have hrc : ¬ rc = 400 := by omega
                                                                         simp [SV.evs, SV.ev, SV.rens, SV.ren, lkS, xy, hrc]; exact ⟨rfl, rfl, rfl⟩))
theorem qqh (n : Nat) (p : PSt) (no at' : Int) (text : qa) (ended : Bool) (kind : Int) (hB : PB n p) (hs : n + 2 < 900000) (ht : text.length < 1000000) : qax E 133 [.bx 0 0, .ag [.i no, .i at', .s text, .b ended], .i kind] 5 (hpF (parH 1 p)) ⟨.a (errP (vu p no text ended kind).1), y5 (parH 1 p), parH 5 (vu p no text ended kind).2 ++ qay (parH 1 p), 9⟩ := by
 refine qex [.bx 0 0, .ag [.i no, .i at', .s text, .b ended], .i kind] (parH 1 p) 5 (.a (errP (vu p no text ended kind).1)) (parH 5 (vu p no text ended kind).2) 9 Tryz.func133 rfl rfl rfl rfl fun S F ρ => ?_
 unfold vu
 by_cases hk3 : kind = 3
 ·rw [if_pos hk3]
  by_cases h0 : p.lines = []
  ·rw [if_pos h0]
   have hl0 : (p.lines.map fun x => Sv x).length = 0 := by simp [h0]
   have hft := fun st => qiq no 2 st
   apply zd []
   repeat' (first
    | apply And.intro
    | (intro h; first | (exfalso; omega) | (exfalso; exact h rfl) | (exfalso; revert h; decide) | skip)
    | exact ⟨Tryz.call134⟩
    | (refine Exists.intro _ ⟨qw (hft) rfl, ?_⟩)
    | exact rfl
    | exact trivial
    | exact fun _ => rfl
    | exact zb _
    | apply qz []
    | exact DrOk.mk (by kernel_rfl)
    | exact qn fun _ => rfl
    | omega
    | (simp only [List.length_map, List.length_append, List.length_cons, List.length_nil, List.length_take, List.length_drop]; omega)
    | exact zh
    | (refine Exists.intro _ ⟨rfl, ?_⟩)
    | refine zu ?_)
  ·rw [if_neg h0]
   have hl0 : (p.lines.map fun x => Sv x).length ≠ 0 := by simp [h0]
   have hll := hB.lines
   have hsm := hB.small
   have hml : (p.lines.map fun x => Sv x).length = p.lines.length := by simp
   have hfc := qms (n + 1) { p with lines := p.lines ++ [text] } (ql6 hB (by omega) ht)
   cases ended with
   | true =>
    rw [if_pos rfl]
    apply zd []
    repeat' (first
     | apply And.intro
     | (intro h; first | (exfalso; omega) | (exfalso; exact h rfl) | (exfalso; revert h; decide) | skip)
     | (exact absurd (by assumption : true = false) (by decide))
     | exact rfl
     | exact trivial
     | exact fun _ => rfl
     | exact zb _
     | apply qz []
     | exact DrOk.mk (by kernel_rfl)
     | exact qn fun _ => rfl
     | omega
     | (simp only [List.length_map, List.length_append, List.length_cons, List.length_nil, List.length_take, List.length_drop]; omega)
     | exact zh
     | (refine Exists.intro _ ⟨rfl, ?_⟩)
     | refine zu ?_)
    all_goals first | (simp [SV.evs, SV.ev]; done) | (simp [SV.evs]; omega)
   | false =>
    rw [if_neg (by decide)]
    apply zd []
    repeat' (first
     | apply And.intro
     | (intro h; first | (exfalso; omega) | (exfalso; exact h rfl) | (exfalso; revert h; decide) | skip)
     | (exact absurd (by assumption : false = true) (by decide))
     | exact ⟨Tryz.call136⟩
     | (refine qah hfc ?_)
     | exact rfl
     | exact trivial
     | exact fun _ => rfl
     | exact zb _
     | apply qz []
     | exact DrOk.mk (by kernel_rfl)
     | exact qn fun _ => rfl
     | omega
     | (simp only [List.length_map, List.length_append, List.length_cons, List.length_nil, List.length_take, List.length_drop]; omega)
     | exact zh
     | (refine Exists.intro _ ⟨rfl, ?_⟩)
     | refine zu ?_)
    all_goals first | (simp [SV.evs, SV.ev]; done) | (simp [SV.evs]; omega)
 ·rw [if_neg hk3]
  by_cases hk1 : kind = 1
  ·rw [if_pos hk1]
   have hfc := qvf n p hB (by omega)
   apply zd []
   repeat' (first
    | apply And.intro
    | (intro h; first | (exfalso; omega) | (exfalso; exact h rfl) | (exfalso; revert h; decide) | skip)
    | exact ⟨Tryz.call93⟩
    | (refine qah hfc ?_)
    | exact rfl
    | exact trivial
    | exact fun _ => rfl
    | exact zb _
    | apply qz []
    | exact DrOk.mk (by kernel_rfl)
    | exact qn fun _ => rfl
    | omega
    | (simp only [List.length_map, List.length_append, List.length_cons, List.length_nil, List.length_take, List.length_drop]; omega)
    | exact zh
    | (refine Exists.intro _ ⟨rfl, ?_⟩)
    | refine zu ?_)
  ·rw [if_neg hk1]
   have hfc := qms n p hB
   apply zd []
   repeat' (first
    | apply And.intro
    | (intro h; first | (exfalso; omega) | (exfalso; exact h rfl) | (exfalso; revert h; decide) | skip)
    | exact ⟨Tryz.call136⟩
    | (refine qah hfc ?_)
    | exact rfl
    | exact trivial
    | exact fun _ => rfl
    | exact zb _
    | apply qz []
    | exact DrOk.mk (by kernel_rfl)
    | exact qn fun _ => rfl
    | omega
    | (simp only [List.length_map, List.length_append, List.length_cons, List.length_nil, List.length_take, List.length_drop]; omega)
    | exact zh
    | (refine Exists.intro _ ⟨rfl, ?_⟩)
    | refine zu ?_)
theorem q15 (n : Nat) (p : PSt) (no at' : Int) (text : qa) (ended : Bool) (hB : PB n p) (hs : n + 4 < 900000) (ht : text.length < 1000000) (hok : (x8 p no text ended).1 = none) : qax E 92 [.bx 0 0, .ag [.i no, .i at', .s text, .b ended]] 5 (hpF (parH 1 p)) ⟨.a (.v .nilIface), y5 (parH 1 p), parH 5 (x8 p no text ended).2 ++ qay (parH 1 p), 9⟩ := by
 refine qex [.bx 0 0, .ag [.i no, .i at', .s text, .b ended]] (parH 1 p) 5 (.a (.v .nilIface)) (parH 5 (x8 p no text ended).2) 9 Tryz.func92 rfl rfl rfl rfl fun S F ρ => ?_
 have hfc := qqh n p no at' text ended (q9 text) hB (by omega) ht
 have hB1 := qg1 (no := no) (text := text) (ended := ended) (kind := q9 text) hB (by omega) ht
 have hkr := qnu text
 have hkd := fun st => qgo text st (by omega)
 unfold x8 at hok ⊢
 generalize vu p no text ended (q9 text) = fq at hfc hB1 hok ⊢
 obtain ⟨fe, q⟩ := fq
 cases fe with
 | some e => exact absurd hok (by simp)
 | none =>
  dsimp only at hB1 hfc hok ⊢
  have h1 := hB1.block
  have h2 := hB1.items
  have hmb : (q.block.map fun x => Sv x).length = q.block.length := by simp
  have hmi : (q.items.map yy).length = q.items.length := by simp
  by_cases hk : q9 text = 5 ∨ ended = false
  ·rw [if_pos hk] at hok
   exact absurd hok (by simp)
  ·rw [if_neg hk] at hok ⊢
   have hk5 : q9 text ≠ 5 := fun h => hk (.inl h)
   obtain rfl : ended = true := by cases ended <;> simp_all
   by_cases hk1 : q9 text = 1
   ·rw [if_pos hk1]
    apply zd []
    repeat' (first
     | apply And.intro
     | (intro h; first | (exfalso; omega) | (exfalso; exact h rfl) | (exfalso; revert h; decide) | skip)
     | exact ⟨Tryz.call132⟩
     | (refine Exists.intro _ ⟨qw (hkd) rfl, ?_⟩)
     | exact ⟨Tryz.call133⟩
     | (refine qah hfc ?_)
     | (exact absurd (by assumption : true = false) (by decide))
     | exact rfl
     | exact trivial
     | exact fun _ => rfl
     | exact zb _
     | apply qz []
     | exact DrOk.mk (by kernel_rfl)
     | exact qn fun _ => rfl
     | omega
     | (simp only [List.length_map, List.length_append, List.length_cons, List.length_nil, List.length_take, List.length_drop]; omega)
     | exact zh
     | (refine Exists.intro _ ⟨rfl, ?_⟩)
     | refine zu ?_)
    all_goals first | (simp [SV.evs, SV.ev]; done) | (simp [SV.evs]; omega)
   ·rw [if_neg hk1]
    by_cases hk4 : q9 text = 4
    ·rw [if_pos hk4]
     have hbc := qzf (n + 2) q no at' text true hB1
     apply zd []
     repeat' (first
      | apply And.intro
      | (intro h; first | (exfalso; omega) | (exfalso; exact h rfl) | (exfalso; revert h; decide) | skip)
      | exact ⟨Tryz.call132⟩
      | (refine Exists.intro _ ⟨qw (hkd) rfl, ?_⟩)
      | exact ⟨Tryz.call133⟩
      | (refine qah hfc ?_)
      | exact ⟨Tryz.call135⟩
      | (refine qah hbc ?_)
      | (exact absurd (by assumption : true = false) (by decide))
      | exact rfl
      | exact trivial
      | exact fun _ => rfl
      | exact zb _
      | apply qz []
      | exact DrOk.mk (by kernel_rfl)
      | exact qn fun _ => rfl
      | omega
      | (simp only [List.length_map, List.length_append, List.length_cons, List.length_nil, List.length_take, List.length_drop]; omega)
      | exact zh
      | (refine Exists.intro _ ⟨rfl, ?_⟩)
      | refine zu ?_)
     all_goals first | (simp [SV.evs, SV.ev, wp]; done) | (simp [SV.evs, wp]; omega)
    ·rw [if_neg hk4]
     apply zd []
     repeat' (first
      | apply And.intro
      | (intro h; first | (exfalso; omega) | (exfalso; exact h rfl) | (exfalso; revert h; decide) | skip)
      | exact ⟨Tryz.call132⟩
      | (refine Exists.intro _ ⟨qw (hkd) rfl, ?_⟩)
      | exact ⟨Tryz.call133⟩
      | (refine qah hfc ?_)
      | (exact absurd (by assumption : true = false) (by decide))
      | exact rfl
      | exact trivial
      | exact fun _ => rfl
      | exact zb _
      | apply qz []
      | exact DrOk.mk (by kernel_rfl)
      | exact qn fun _ => rfl
      | omega
      | (simp only [List.length_map, List.length_append, List.length_cons, List.length_nil, List.length_take, List.length_drop]; omega)
      | exact zh
      | (refine Exists.intro _ ⟨rfl, ?_⟩)
      | refine zu ?_)
     all_goals first | (simp [SV.evs, SV.ev]; done) | (simp [SV.evs]; omega)
theorem q1s (n : Nat) (p : PSt) (no at' : Int) (text : qa) (ended : Bool) (hB : PB n p) (hs : n + 4 < 900000) (ht : text.length < 1000000) (a m : Int) (hok : (x8 p no text ended).1 = some (a, m)) : qax E 92 [.bx 0 0, .ag [.i no, .i at', .s text, .b ended]] 5 (hpF (parH 1 p)) ⟨.a (qff a m), y5 (parH 1 p), parH 5 (vu p no text ended (q9 text)).2 ++ qay (parH 1 p), 9⟩ := by
 refine qex [.bx 0 0, .ag [.i no, .i at', .s text, .b ended]] (parH 1 p) 5 (.a (qff a m)) (parH 5 (vu p no text ended (q9 text)).2) 9 Tryz.func92 rfl rfl rfl rfl fun S F ρ => ?_
 have hfc := qqh n p no at' text ended (q9 text) hB (by omega) ht
 have hB1 := qg1 (no := no) (text := text) (ended := ended) (kind := q9 text) hB (by omega) ht
 have hkr := qnu text
 have hkd := fun st => qgo text st (by omega)
 unfold x8 at hok
 generalize vu p no text ended (q9 text) = fq at hfc hB1 hok ⊢
 obtain ⟨fe, q⟩ := fq
 cases fe with
 | some e =>
  dsimp only at hB1 hfc hok ⊢
  obtain rfl : e = (a, m) := by simpa using hok
  apply zd []
  repeat' (first
   | apply And.intro
   | (intro h; first | (exfalso; omega) | (exfalso; exact h rfl) | (exfalso; revert h; decide) | skip)
   | exact ⟨Tryz.call132⟩
   | (refine Exists.intro _ ⟨qw (hkd) rfl, ?_⟩)
   | exact ⟨Tryz.call133⟩
   | (refine qah hfc ?_)
   | exact rfl
   | exact trivial
   | exact fun _ => rfl
   | exact zb _
   | apply qz []
   | exact DrOk.mk (by kernel_rfl)
   | exact qn fun _ => rfl
   | omega
   | (simp only [List.length_map, List.length_append, List.length_cons, List.length_nil, List.length_take, List.length_drop]; omega)
   | exact zh
   | (refine Exists.intro _ ⟨rfl, ?_⟩)
   | refine zu ?_)
 | none =>
  dsimp only at hB1 hfc hok ⊢
  by_cases hk : q9 text = 5 ∨ ended = false
  ·rw [if_pos hk] at hok
   obtain ⟨rfl, rfl⟩ : no = a ∧ 2 = m := by simpa using hok
   have hft := fun st => qiq no 2 st
   cases ended with
   | true =>
    have hk5 : q9 text = 5 := by simpa using hk
    apply zd []
    repeat' (first
     | apply And.intro
     | (intro h; first | (exfalso; omega) | (exfalso; exact h rfl) | (exfalso; revert h; decide) | skip)
     | exact ⟨Tryz.call132⟩
     | (refine Exists.intro _ ⟨qw (hkd) rfl, ?_⟩)
     | exact ⟨Tryz.call134⟩
     | (refine Exists.intro _ ⟨qw (hft) rfl, ?_⟩)
     | exact ⟨Tryz.call133⟩
     | (refine qah hfc ?_)
     | (exact absurd (by assumption : true = false) (by decide))
     | exact rfl
     | exact trivial
     | exact fun _ => rfl
     | exact zb _
     | apply qz []
     | exact DrOk.mk (by kernel_rfl)
     | exact qn fun _ => rfl
     | omega
     | (simp only [List.length_map, List.length_append, List.length_cons, List.length_nil, List.length_take, List.length_drop]; omega)
     | exact zh
     | (refine Exists.intro _ ⟨rfl, ?_⟩)
     | refine zu ?_)
   | false =>
    apply zd []
    repeat' (first
     | apply And.intro
     | (intro h; first | (exfalso; omega) | (exfalso; exact h rfl) | (exfalso; revert h; decide) | skip)
     | exact ⟨Tryz.call132⟩
     | (refine Exists.intro _ ⟨qw (hkd) rfl, ?_⟩)
     | exact ⟨Tryz.call134⟩
     | (refine Exists.intro _ ⟨qw (hft) rfl, ?_⟩)
     | exact ⟨Tryz.call133⟩
     | (refine qah hfc ?_)
     | (exact absurd (by assumption : false = true) (by decide))
     | exact rfl
     | exact trivial
     | exact fun _ => rfl
     | exact zb _
     | apply qz []
     | exact DrOk.mk (by kernel_rfl)
     | exact qn fun _ => rfl
     | omega
     | (simp only [List.length_map, List.length_append, List.length_cons, List.length_nil, List.length_take, List.length_drop]; omega)
     | exact zh
     | (refine Exists.intro _ ⟨rfl, ?_⟩)
     | refine zu ?_)
  ·rw [if_neg hk] at hok
   split at hok
   ·simp at hok
   ·split at hok
    ·simp at hok
    ·simp at hok
end Go.Proofs.YtefmcijohgpfhaaGreatDoor
set_option maxRecDepth 100000
set_option linter.unusedVariables false
namespace Go.Pl
open Go Go.Proofs
def p0 : PSt := ⟨[], 0, false, [], [], [], 0⟩
def runL : Nat → List (qa × Bool) → PSt → Option (Int × Int) × PSt
 | _, [], p => endP p
 | k, (t, e) :: r, p => match (x8 p k t e).1 with
  | some x => (some x, p)
  | none => runL (k + 1) r (x8 p k t e).2
def v7 (text : qa) : Option (Int × Int) × List w9 := match (runL 0 (jm text) p0).1 with
 | some e => (some e, [])
 | none => (none, (runL 0 (jm text) p0).2.items)
end Go.Pl
namespace Go.Proofs.YtefmcijohgpfhaaGreatDoor
open Go Go.Av Go.RowKit Go.Proofs Go.Pl
theorem q0d (x : Option (Int × Int)) : Pure (errP x) := by
 rcases x with _ | ⟨a, n⟩
 ·exact zi _
 ·exact qhr a n
theorem qxt (f : Fld) : qk4 (fldA f) := fun x hx => by
 simp only [AV.cells, List.mem_cons, List.not_mem_nil, or_false] at hx
 rcases hx with rfl | rfl <;> exact zi _
theorem qf6 (fs : List Fld) : Pure (qa1 fs) := qdv fun x hx => by
 obtain ⟨f, _, rfl⟩ := List.mem_map.1 hx
 exact qxt f
theorem qus (x : w9) : qk4 (yy x) := fun y hy => by
 simp only [AV.cells, List.mem_cons, List.not_mem_nil, or_false] at hy
 rcases hy with rfl | rfl | rfl
 ·exact zi _
 ·exact zi _
 ·exact qf6 _
theorem qdh (xs : List w9) : Pure (y3 xs) := qdv fun x hx => by
 obtain ⟨f, _, rfl⟩ := List.mem_map.1 hx
 exact qus f
theorem yl {x y : AV} (hx : Pure x) (hy : Pure y) : Pure (.tu [x, y]) := qd7 fun z hz => by
 simp only [List.mem_cons, List.not_mem_nil, or_false] at hz
 rcases hz with rfl | rfl
 ·exact hx
 ·exact hy
def qcp (text : qa) : AV := .tu [y3 (v7 text).2, errP (v7 text).1]
theorem quf (text : qa) : Pure (qcp text) := yl (qdh _) (q0d _)
theorem qlt {S : List AObj} {o k : Nat} {x : AObj} (h : k ≠ o) : (S.set o x)[k]? = S[k]? := List.getElem?_set_ne (Ne.symm h)
theorem q5z : PB 0 p0 := ⟨by omega, by simp [p0], by simp [p0], by simp [p0], by simp [p0], by simp [p0], by simp [p0], by simp [p0], by simp [p0]⟩
theorem qma (text : qa) (st : List AObj) (hl : text.length ≤ 60000) : qt E 57 [Sv text] st fun r st' => r = qcp text ∧ st' = st := by
 refine yr [.s text] (quf text) Tryz.func57 rfl rfl (fun _ => rfl) rfl fun S0 => ?_
 apply zd [13]
 repeat' (first
  | apply And.intro
  | (intro h; first | (exfalso; omega) | (exfalso; exact h rfl) | (exfalso; revert h; decide) | skip)
  | exact ⟨Tryz.call72⟩
  | (refine Exists.intro _ ⟨qi2 _, ?_⟩)
  | exact rfl
  | exact trivial
  | exact fun _ => rfl
  | exact zb _
  | apply qz [13]
  | exact DrOk.mk (by kernel_rfl)
  | exact qn fun _ => rfl
  | omega
  | (simp only [List.length_map, List.length_append, List.length_cons, List.length_nil, List.length_take, List.length_drop]; omega)
  | exact zh
  | (refine Exists.intro _ ⟨rfl, ?_⟩)
  | refine zu ?_)
 refine qeq (X := PSt × Option (Int × Int)) text 4 5 [0, 1, 2, 3, 4] (fun (p, e) => ⟨[(2, .bx 0 0), (3, .bx 1 0), (4, .bx 2 0), (15, .fn (.func 113) [] [.bx 4 0])],
   [(0, some (.cells 109 [.a j9])), (1, some (.cells 25 [.a (errP e)])), (2, some (.cells 144 [.bx 3 0])), (3, some (.cells 148 [.tp 5, .i p.frm, .b p.full, .tp 6, .tp 7, .tp 8, .i p.records])), (4, some (.cells 9 [.s text])),
    (5, some (.tip 1 9 (p.lines.map fun x => Sv x))), (6, some (.tip 3 152 (p.items.map yy))), (7, some (.tip 1 9 (p.block.map fun x => Sv x))), (8, some (.tip 2 69 (p.fields.map fldA)))], 9⟩) _
  (fun k rest (p, e) => e = none ∧ PB (4 * k) p ∧ k + rest.length ≤ text.length ∧ runL 0 (jm text) p0 = runL k (jm rest) p)
  (fun c (p, e) => ∃ a m, c = .ret ∧ e = some (a, m) ∧ (runL 0 (jm text) p0).1 = some (a, m)) (p0, none) ⟨rfl, q5z, by omega, rfl⟩ ?_ id (by omega) (fun _ => rfl) rfl (fun _ => rfl) (fun _ => rfl) rfl ?_ ?_ ?_
 ·skip
  repeat' (first
   | apply And.intro
   | (intro h; first | (exfalso; omega) | (exfalso; exact h rfl) | (exfalso; revert h; decide) | skip)
   | exact rfl
   | exact trivial
   | exact fun _ => rfl
   | exact zb _
   | apply qz []
   | exact DrOk.mk (by kernel_rfl)
   | exact qn fun _ => rfl
   | omega
   | (simp only [List.length_map, List.length_append, List.length_cons, List.length_nil, List.length_take, List.length_drop]; omega)
   | exact zh
   | (refine Exists.intro _ ⟨rfl, ?_⟩)
   | refine zu ?_)
 ·rintro k rest ⟨p, e⟩ ⟨rfl, hB, hkl, hrun⟩ hne hle
  have hcons := x4 hne
  have hu := wt 10 rest
  have hpl := wr 10 rest
  have hr0 : 0 < rest.length := List.length_pos_iff.2 hne
  rw [hcons] at hrun
  simp only [runL] at hrun
  unfold qjg
  generalize hen : decide (10 ∈ rest) = en at hrun
  generalize upto 10 rest = up at hu hrun ⊢
  have hB2 := qsm (no := k) (text := up) (ended := en) hB (by omega) (by omega)
  cases hah : (x8 p k up en).1 with
  | some e =>
   obtain ⟨a, m⟩ := e
   rw [hah] at hrun
   simp only at hrun
   have htk := q1s (4 * k) p k ((text.length : Int) - rest.length) up en hB (by omega) (by omega) a m hah
   refine RA.mk fun S F ρ rd => ?_
   apply zd []
   repeat' (first
    | apply And.intro
    | (intro h; first | (exfalso; omega) | (exfalso; exact h rfl) | (exfalso; revert h; decide) | skip)
    | (refine RB.mk fun S rd => ?_; apply zd [])
    | exact ⟨Tryz.call92⟩
    | (refine qah htk ?_)
    | (refine Exists.intro ((vu p k up en (q9 up)).2, some (a, m)) ⟨⟨a, m, rfl, rfl, by rw [hrun]⟩, ?_⟩)
    | exact rfl
    | exact trivial
    | exact fun _ => rfl
    | exact zb _
    | apply qz []
    | exact DrOk.mk (by kernel_rfl)
    | exact qn fun _ => rfl
    | omega
    | (simp only [List.length_map, List.length_append, List.length_cons, List.length_nil, List.length_take, List.length_drop]; omega)
    | exact zh
    | (refine Exists.intro _ ⟨rfl, ?_⟩)
    | refine zu ?_)
   all_goals (rw [← hen]; rfl)
  | none =>
   rw [hah] at hrun
   simp only at hrun
   have htk := q15 (4 * k) p k ((text.length : Int) - rest.length) up en hB (by omega) (by omega) hah
   refine RA.mk fun S F ρ rd => ?_
   apply zd []
   repeat' (first
    | apply And.intro
    | (intro h; first | (exfalso; omega) | (exfalso; exact h rfl) | (exfalso; revert h; decide) | skip)
    | (refine RB.mk fun S rd => ?_; apply zd [])
    | exact ⟨Tryz.call92⟩
    | (refine qah htk ?_)
    | (refine Exists.intro ((x8 p k up en).2, none) ⟨⟨rfl, hB2, by omega, hrun⟩, ?_⟩)
    | exact rfl
    | exact trivial
    | exact fun _ => rfl
    | exact zb _
    | apply qz []
    | exact DrOk.mk (by kernel_rfl)
    | exact qn fun _ => rfl
    | omega
    | (simp only [List.length_map, List.length_append, List.length_cons, List.length_nil, List.length_take, List.length_drop]; omega)
    | exact zh
    | (refine Exists.intro _ ⟨rfl, ?_⟩)
    | refine zu ?_)
   all_goals (rw [← hen]; rfl)
 ·rintro k ⟨p, e⟩ ⟨rfl, hB, hkl, hrun⟩
  have hre : runL k (jm []) p = endP p := by rw [x7]; rfl
  rw [hre] at hrun
  have hpe := qvf (4 * k) p hB (by omega)
  generalize endP p = fq at hrun hpe
  obtain ⟨fe, q⟩ := fq
  cases fe with
  | some e =>
   have hpf : qcp text = .tu [y3 [], errP (some e)] := by unfold qcp v7; rw [hrun]
   rw [hpf]
   obtain ⟨a, m⟩ := e
   repeat' (first
    | apply And.intro
    | (intro h; first | (exfalso; omega) | (exfalso; exact h rfl) | (exfalso; revert h; decide) | skip)
    | exact ⟨Tryz.call93⟩
    | (refine qah hpe ?_)
    | exact rfl
    | exact trivial
    | exact fun _ => rfl
    | exact zb _
    | apply qz []
    | exact DrOk.mk (by kernel_rfl)
    | exact qn fun _ => rfl
    | omega
    | (simp only [List.length_map, List.length_append, List.length_cons, List.length_nil, List.length_take, List.length_drop]; omega)
    | exact zh
    | (refine Exists.intro _ ⟨rfl, ?_⟩)
    | refine zu ?_)
  | none =>
   have hpf : qcp text = .tu [y3 q.items, errP none] := by unfold qcp v7; rw [hrun]
   rw [hpf]
   dsimp only at hpe
   repeat' (first
    | apply And.intro
    | (intro h; first | (exfalso; omega) | (exfalso; exact h rfl) | (exfalso; revert h; decide) | skip)
    | exact ⟨Tryz.call93⟩
    | (refine qah hpe ?_)
    | exact rfl
    | exact trivial
    | exact fun _ => rfl
    | exact zb _
    | apply qz []
    | exact DrOk.mk (by kernel_rfl)
    | exact qn fun _ => rfl
    | omega
    | (simp only [List.length_map, List.length_append, List.length_cons, List.length_nil, List.length_take, List.length_drop]; omega)
    | exact zh
    | (refine Exists.intro _ ⟨rfl, ?_⟩)
    | refine zu ?_)
 ·rintro c ⟨p, e⟩ ⟨a, m, rfl, rfl, hre⟩
  have hpf : qcp text = .tu [y3 [], errP (some (a, m))] := by unfold qcp v7; rw [hre]
  rw [hpf]
  repeat' (first
   | apply And.intro
   | (intro h; first | (exfalso; omega) | (exfalso; exact h rfl) | (exfalso; revert h; decide) | skip)
   | exact rfl
   | exact trivial
   | exact fun _ => rfl
   | exact zb _
   | apply qz []
   | exact DrOk.mk (by kernel_rfl)
   | exact qn fun _ => rfl
   | omega
   | (simp only [List.length_map, List.length_append, List.length_cons, List.length_nil, List.length_take, List.length_drop]; omega)
   | exact zh
   | (refine Exists.intro _ ⟨rfl, ?_⟩)
   | refine zu ?_)
end Go.Proofs.YtefmcijohgpfhaaGreatDoor
set_option maxRecDepth 100000
set_option linter.unusedVariables false
namespace Go.Proofs.YtefmcijohgpfhaaGreatDoor
open Go Go.RowKit Go.Extern.Stop Go.Stop Go.Extern Go.Proofs
theorem asT.valueOf27 (t : Addr) (w : World) : (ReflectliteValue.unpack (.iface 194 (.pointer (some t)))).run Tryz.prog w
  = .ok (.agg #[.pointer (some ⟨9, 194, none⟩), .pointer (some ⟨w.heap.size, 0, none⟩), .int .u64 150]) (w.alloc (.cells #[.pointer (some t)] 194)) := by kernel_rfl
theorem asT.type27 (a : Addr) (w : World) : (ReflectliteValue.methodAny (ReflectliteValue.valueError "reflectlite.Value.Type" 0) (fun t _ _ _ => ReflectliteType.toType t) #[.agg #[.pointer (some ⟨9, 194, none⟩), .pointer (some a), .int .u64 150]]).run Tryz.prog w
  = .ok (.iface 244 (.agg #[.pointer (some ⟨9, 194, none⟩)])) w := by kernel_rfl
theorem asT.methodKind (h : Value) (w : World) : (Go.method 401 244 (.agg #[h]) "Kind").run Tryz.prog w = .ok (239, h) w := by kernel_rfl
theorem asT.kind27 (w : World) : ((ReflectliteType.abiMethod fun t => (fun a : Nat => Value.int IntKind.u8 (a : Int)) <$> Rtype.kind t) #[.pointer (some ⟨9, 194, none⟩)]).run Tryz.prog w = .ok (.int .u8 22) w := by kernel_rfl
theorem asT.kind25 (w : World) : ((ReflectliteType.abiMethod fun t => (fun a : Nat => Value.int IntKind.u8 (a : Int)) <$> Rtype.kind t) #[.pointer (some ⟨9, 103, none⟩)]).run Tryz.prog w = .ok (.int .u8 22) w := by kernel_rfl
theorem rlm (z : Sem Value) (f : TypeId → Addr → Nat → Nat → Sem Value) (v : Value) :
  ReflectliteValue.method z f #[v] = (do match ← ReflectliteValue.parts v with | none => z | some (t, a, fl) => f t a fl (fl % 32)) := rfl
theorem asT.parts27 (a : Addr) (w : World) : (ReflectliteValue.parts (.agg #[.pointer (some ⟨9, 194, none⟩), .pointer (some a), .int .u64 150])).run Tryz.prog w = .ok (some (194, a, 150)) w := by kernel_rfl
theorem asT.isNil27 (a p : Addr) (W : World) (ha : W.cell? a = some (.pointer (some p))) :
  (ReflectliteValue.method (ReflectliteValue.valueError "reflectlite.Value.IsNil" 0) ReflectliteValue.isNil #[.agg #[.pointer (some ⟨9, 194, none⟩), .pointer (some a), .int .u64 150]]).run Tryz.prog W = .ok (.bool false) W := by
 rw [rlm]
 simp only [Sem.run_bind, asT.parts27, Result.andThen]
 simp [ReflectliteValue.isNil, loadVar, isAgg, underlying, Tryz.underlying194, ha, Result.andThen]
theorem asT.methodElem (h : Value) (w : World) : (Go.method 401 244 (.agg #[h]) "Elem").run Tryz.prog w = .ok (256, .agg #[h]) w := by kernel_rfl
theorem asT.methodImplements (h : Value) (w : World) : (Go.method 401 244 (.agg #[h]) "Implements").run Tryz.prog w = .ok (257, .agg #[h]) w := by kernel_rfl
theorem asT.methodAssignableTo (h : Value) (w : World) : (Go.method 401 244 (.agg #[h]) "AssignableTo").run Tryz.prog w = .ok (254, .agg #[h]) w := by kernel_rfl
theorem asT.elem27 (w : World) : (ReflectliteType.method ReflectliteType.elem #[.agg #[.pointer (some ⟨9, 194, none⟩)]]).run Tryz.prog w = .ok (.iface 244 (.agg #[.pointer (some ⟨9, 103, none⟩)])) w := by kernel_rfl
theorem asT.implements25 (w : World) : (ReflectliteType.relation "Implements" ReflectliteType.implements_ #[.agg #[.pointer (some ⟨9, 103, none⟩)], .iface 244 (.agg #[.pointer (some ⟨9, 25, none⟩)])]).run Tryz.prog w = .ok (.bool true) w := by kernel_rfl
theorem asT.typeOf25 (v : Value) (w : World) : (ReflectliteType.typeOf #[.iface 103 v]).run Tryz.prog w = .ok (.iface 244 (.agg #[.pointer (some ⟨9, 103, none⟩)])) w := by kernel_rfl
theorem asT.assignable25 (w : World) : (ReflectliteType.relation "AssignableTo" ReflectliteType.assignableTo #[.agg #[.pointer (some ⟨9, 103, none⟩)], .iface 244 (.agg #[.pointer (some ⟨9, 103, none⟩)])]).run Tryz.prog w = .ok (.bool true) w := by kernel_rfl
theorem asT.valueOf25 (e : Addr) (w : World) : (ReflectliteValue.unpack (.iface 103 (.pointer (some e)))).run Tryz.prog w
  = .ok (.agg #[.pointer (some ⟨9, 103, none⟩), .pointer (some ⟨w.heap.size, 0, none⟩), .int .u64 150]) (w.alloc (.cells #[.pointer (some e)] 103)) := by kernel_rfl
theorem asT.elemOf27 (w : World) : (Rtype.elem? 194).run Tryz.prog w = .ok (some 103) w := by kernel_rfl
theorem asT.mk25 (p : Addr) (w : World) : (ReflectliteValue.mk 103 p ReflectliteValue.flagAddr).run Tryz.prog w = .ok (.agg #[.pointer (some ⟨9, 103, none⟩), .pointer (some p), .int .u64 406]) w := by kernel_rfl
theorem asT.elemV27 (a p : Addr) (W : World) (ha : W.cell? a = some (.pointer (some p))) :
  (ReflectliteValue.method (ReflectliteValue.valueError "reflectlite.Value.Elem" 0) ReflectliteValue.elem #[.agg #[.pointer (some ⟨9, 194, none⟩), .pointer (some a), .int .u64 150]]).run Tryz.prog W
   = .ok (.agg #[.pointer (some ⟨9, 103, none⟩), .pointer (some p), .int .u64 406]) W := by
 rw [rlm]
 simp only [Sem.run_bind, asT.parts27, Result.andThen]
 simp [ReflectliteValue.elem, loadVar, isAgg, underlying, Tryz.underlying194, ha, Result.andThen, asT.elemOf27, asT.mk25]
theorem rls (v x : Value) : ReflectliteValue.set #[v, x] = (do
  let (some (dst, a, fl), some (src, b, _)) := (← ReflectliteValue.parts v, ← ReflectliteValue.parts x)
   | unsupported (.noEntry "extern/(internal/reflectlite.Value).Set.zeroValue")
  if fl / ReflectliteValue.flagAddr % 2 == 0 then unsupported (.noEntry "extern/(internal/reflectlite.Value).Set.unaddressable")
  let val ← loadVar src b
  if ← Rtype.directlyAssignable dst src then storeVar dst a val
  else if ← Rtype.implements dst src then
   if (← Rtype.kind src) == 20 then
    match val with
    | .nilIface => unsupported (.noEntry "extern/reflectlite: a nil value of one interface type handed on as a value of another")
    | _ => storeVar dst a val
   else storeVar dst a (.iface src val)
  else panicString ("reflectlite.Set: value of type " ++ (← Rtype.spelt src) ++ " is not assignable to type " ++ (← Rtype.spelt dst))
  pure (.tuple #[])) := rfl
theorem asT.parts25a (a : Addr) (w : World) : (ReflectliteValue.parts (.agg #[.pointer (some ⟨9, 103, none⟩), .pointer (some a), .int .u64 406])).run Tryz.prog w = .ok (some (103, a, 406)) w := by kernel_rfl
theorem asT.parts25 (a : Addr) (w : World) : (ReflectliteValue.parts (.agg #[.pointer (some ⟨9, 103, none⟩), .pointer (some a), .int .u64 150])).run Tryz.prog w = .ok (some (103, a, 150)) w := by kernel_rfl
theorem asT.direct25 (w : World) : (Rtype.directlyAssignable 103 103).run Tryz.prog w = .ok true w := by kernel_rfl
theorem asT.set25 (ta b e : Addr) (old : Value) (W : World) (hb : W.cell? b = some (.pointer (some e))) (ht : W.cell? ta = some old) (hf : W.frozen? ta = false) :
  (ReflectliteValue.set #[.agg #[.pointer (some ⟨9, 103, none⟩), .pointer (some ta), .int .u64 406], .agg #[.pointer (some ⟨9, 103, none⟩), .pointer (some b), .int .u64 150]]).run Tryz.prog W
   = .ok (.tuple #[]) (W.setCell ta (.pointer (some e))) := by
 rw [rls]
 simp only [Sem.run_bind, asT.parts25a, asT.parts25, Result.andThen]
 simp [ReflectliteValue.flagAddr, loadVar, isAgg, underlying, Tryz.underlying103, hb, Result.andThen, asT.direct25, storeVar, Value.cells, storeCells, Addr.add]
 rw [run_store Tryz.prog W ta _ _ (by rfl)]
 simp [ht, hf]
set_option maxHeartbeats 4000000 in
theorem q5k (e t : Addr) (old : Value) (w : World) (hg : w.cell? ⟨3, 0, none⟩ = some (.iface 244 (.agg #[.pointer (some ⟨9, 25, none⟩)]))) (ht0 : w.cell? t = some old) (hf0 : w.frozen? t = false) :
  Calls Tryz.prog 158 #[.iface 103 (.pointer (some e)), .iface 194 (.pointer (some t))] w fun ev w' => ev = .returned (.bool true) ∧ w' = ((((w.alloc (.cells #[.pointer (some t)] 194)).alloc (.cells #[.pointer (some ⟨9, 194, none⟩), .pointer (some ⟨w.heap.size, 0, none⟩), .int .u64 150] 213)).alloc (.cells #[.pointer (some ⟨9, 194, none⟩), .pointer (some ⟨w.heap.size, 0, none⟩), .int .u64 150] 213)).alloc (.cells #[.pointer (some e)] 103)).setCell t (.pointer (some e)) := by
 have h6 := @run_callFunc_extern Tryz.prog 177 _ (fun args => ReflectliteValue.unpack (args.getD 0 (.tuple #[]))) Tryz.func177 (by kernel_rfl) (by kernel_rfl) (by kernel_rfl) (by kernel_rfl)
 have h7 := @run_callFunc_extern Tryz.prog 178 _ (ReflectliteValue.methodAny (ReflectliteValue.valueError "reflectlite.Value.Type" 0) (fun t _ _ _ => ReflectliteType.toType t)) Tryz.func178 (by kernel_rfl) (by kernel_rfl) (by kernel_rfl) (by kernel_rfl)
 have h8 := @run_callFunc_extern Tryz.prog 179 _ (ReflectliteValue.method (ReflectliteValue.valueError "reflectlite.Value.IsNil" 0) ReflectliteValue.isNil) Tryz.func179 (by kernel_rfl) (by kernel_rfl) (by kernel_rfl) (by kernel_rfl)
 have h27 := @run_callFunc_extern Tryz.prog 239 _ (ReflectliteType.abiMethod fun t => do pure (.int .u8 (← Rtype.kind t))) Tryz.func239 (by kernel_rfl) (by kernel_rfl) (by kernel_rfl) (by kernel_rfl)
 have h37 := @run_callFunc_extern Tryz.prog 256 _ (ReflectliteType.method ReflectliteType.elem) Tryz.func256 (by kernel_rfl) (by kernel_rfl) (by kernel_rfl) (by kernel_rfl)
 have h38 := @run_callFunc_extern Tryz.prog 257 _ (ReflectliteType.relation "Implements" ReflectliteType.implements_) Tryz.func257 (by kernel_rfl) (by kernel_rfl) (by kernel_rfl) (by kernel_rfl)
 have h10 := @run_callFunc_extern Tryz.prog 202 _ ReflectliteType.typeOf Tryz.func202 (by kernel_rfl) (by kernel_rfl) (by kernel_rfl) (by kernel_rfl)
 have h35 := @run_callFunc_extern Tryz.prog 254 _ (ReflectliteType.relation "AssignableTo" ReflectliteType.assignableTo) Tryz.func254 (by kernel_rfl) (by kernel_rfl) (by kernel_rfl) (by kernel_rfl)
 have h11 := @run_callFunc_extern Tryz.prog 203 _ (ReflectliteValue.method (ReflectliteValue.valueError "reflectlite.Value.Elem" 0) ReflectliteValue.elem) Tryz.func203 (by kernel_rfl) (by kernel_rfl) (by kernel_rfl) (by kernel_rfl)
 have h12 := @run_callFunc_extern Tryz.prog 204 _ ReflectliteValue.set Tryz.func204 (by kernel_rfl) (by kernel_rfl) (by kernel_rfl) (by kernel_rfl)
 have tO := asT.typeOf25
 have mA := asT.methodAssignableTo
 have a25 := asT.assignable25
 have v25 := asT.valueOf25
 have f6 := asT.valueOf27
 have f7 := asT.type27
 have mK := asT.methodKind
 have mE := asT.methodElem
 have mI := asT.methodImplements
 have k27 := asT.kind27
 have k25 := asT.kind25
 have e27 := asT.elem27
 have i25 := asT.implements25
 have n8 := asT.isNil27 ⟨w.heap.size, 0, none⟩ t ((w.alloc (.cells #[.pointer (some t)] 194)).alloc (.cells #[.pointer (some ⟨9, 194, none⟩), .pointer (some ⟨w.heap.size, 0, none⟩), .int .u64 150] 213)) (by simp)
 have hlt : 3 < w.heap.size := by
  rcases Nat.lt_or_ge 3 w.heap.size with h | h
  ·exact h
  ·simp [World.cell?, Array.getElem?_eq_none h] at hg
 have hg2 : ((w.alloc (.cells #[.pointer (some t)] 194)).alloc (.cells #[.pointer (some ⟨9, 194, none⟩), .pointer (some ⟨w.heap.size, 0, none⟩), .int .u64 150] 213)).cell? ⟨3, 0, none⟩ = some (.iface 244 (.agg #[.pointer (some ⟨9, 25, none⟩)])) := by
  rw [World.cell?_alloc_lt _ _ ⟨3, 0, none⟩ (by first | (simp; done) | (simp; omega)), World.cell?_alloc_lt _ _ ⟨3, 0, none⟩ hlt]; exact hg
 have htl : t.block < w.heap.size := by
  rcases Nat.lt_or_ge t.block w.heap.size with h | h
  ·exact h
  ·simp [World.cell?, Array.getElem?_eq_none h] at ht0
 have el := asT.elemV27 ⟨w.heap.size, 0, none⟩ t (((w.alloc (.cells #[.pointer (some t)] 194)).alloc (.cells #[.pointer (some ⟨9, 194, none⟩), .pointer (some ⟨w.heap.size, 0, none⟩), .int .u64 150] 213)).alloc (.cells #[.pointer (some ⟨9, 194, none⟩), .pointer (some ⟨w.heap.size, 0, none⟩), .int .u64 150] 213)) (by rw [World.cell?_alloc_lt _ _ ⟨w.heap.size, 0, none⟩ (by first | (simp; done) | (simp; omega))]; simp)
 have st := asT.set25 t ⟨w.heap.size + 1 + 1 + 1, 0, none⟩ e old ((((w.alloc (.cells #[.pointer (some t)] 194)).alloc (.cells #[.pointer (some ⟨9, 194, none⟩), .pointer (some ⟨w.heap.size, 0, none⟩), .int .u64 150] 213)).alloc (.cells #[.pointer (some ⟨9, 194, none⟩), .pointer (some ⟨w.heap.size, 0, none⟩), .int .u64 150] 213)).alloc (.cells #[.pointer (some e)] 103))
  (by rw [World.cell?_alloc_at _ _ _ _ (by simp)]; rfl)
  (by rw [World.cell?_alloc_lt _ _ t (by first | (simp; done) | (simp; omega)), World.cell?_alloc_lt _ _ t (by first | (simp; done) | (simp; omega)), World.cell?_alloc_lt _ _ t (by first | (simp; done) | (simp; omega)), World.cell?_alloc_lt _ _ t htl]; exact ht0)
  (by rw [World.frozen?_alloc_old _ _ t (by first | (simp; done) | (simp; omega)), World.frozen?_alloc_old _ _ t (by first | (simp; done) | (simp; omega)), World.frozen?_alloc_old _ _ t (by first | (simp; done) | (simp; omega)), World.frozen?_alloc_old _ _ t (Nat.ne_of_lt htl)]; exact hf0)
 go_enter Tryz.func158, Tryz.ntmps158
 go_wp2
 refine wp_loop_rounds 1 ?_
 rw [rounds_succ]
 go_wp2
 go_ret
 exact ⟨rfl, rfl⟩
end Go.Proofs.YtefmcijohgpfhaaGreatDoor
set_option maxRecDepth 100000
set_option linter.unusedVariables false
namespace Go.Proofs.YtefmcijohgpfhaaGreatDoor
open Go Go.RowKit Go.Extern.Stop Go.Stop Go.Extern Go.Proofs
theorem asT.typeOf31 (v : Value) (w : World) : (ReflectliteType.typeOf #[.iface 31 v]).run Tryz.prog w = .ok (.iface 244 (.agg #[.pointer (some ⟨9, 31, none⟩)])) w := by kernel_rfl
theorem asT.assignable31 (w : World) : (ReflectliteType.relation "AssignableTo" ReflectliteType.assignableTo #[.agg #[.pointer (some ⟨9, 31, none⟩)], .iface 244 (.agg #[.pointer (some ⟨9, 103, none⟩)])]).run Tryz.prog w = .ok (.bool false) w := by kernel_rfl
theorem asT.no230 (v : Value) (xT : TypeId) (w : World) : (Instr.typeAssert (.iface 31 v) xT 249 true).run Tryz.prog w = .ok (.tuple #[.nilIface, .bool false]) w := run_typeAssert_lacksB Tryz.underlying249 (by kernel_rfl) (by kernel_rfl) v xT w
theorem asT.no233 (v : Value) (xT : TypeId) (w : World) : (Instr.typeAssert (.iface 31 v) xT 252 true).run Tryz.prog w = .ok (.tuple #[.nilIface, .bool false]) w := run_typeAssert_lacksB Tryz.underlying252 (by kernel_rfl) (by kernel_rfl) v xT w
theorem asT.no234 (v : Value) (xT : TypeId) (w : World) : (Instr.typeAssert (.iface 31 v) xT 253 true).run Tryz.prog w = .ok (.tuple #[.nilIface, .bool false]) w := run_typeAssert_lacksB Tryz.underlying253 (by kernel_rfl) (by kernel_rfl) v xT w
set_option maxHeartbeats 4000000 in
theorem q3m (n : Int) (t : Addr) (old : Value) (w : World) (hg : w.cell? ⟨3, 0, none⟩ = some (.iface 244 (.agg #[.pointer (some ⟨9, 25, none⟩)]))) (ht0 : w.cell? t = some old) :
  Calls Tryz.prog 158 #[.iface 31 (.int .i64 n), .iface 194 (.pointer (some t))] w fun ev w' => ev = .returned (.bool false) ∧ Below w.heap.size w w' := by
 have h6 := @run_callFunc_extern Tryz.prog 177 _ (fun args => ReflectliteValue.unpack (args.getD 0 (.tuple #[]))) Tryz.func177 (by kernel_rfl) (by kernel_rfl) (by kernel_rfl) (by kernel_rfl)
 have h7 := @run_callFunc_extern Tryz.prog 178 _ (ReflectliteValue.methodAny (ReflectliteValue.valueError "reflectlite.Value.Type" 0) (fun t _ _ _ => ReflectliteType.toType t)) Tryz.func178 (by kernel_rfl) (by kernel_rfl) (by kernel_rfl) (by kernel_rfl)
 have h8 := @run_callFunc_extern Tryz.prog 179 _ (ReflectliteValue.method (ReflectliteValue.valueError "reflectlite.Value.IsNil" 0) ReflectliteValue.isNil) Tryz.func179 (by kernel_rfl) (by kernel_rfl) (by kernel_rfl) (by kernel_rfl)
 have h27 := @run_callFunc_extern Tryz.prog 239 _ (ReflectliteType.abiMethod fun t => do pure (.int .u8 (← Rtype.kind t))) Tryz.func239 (by kernel_rfl) (by kernel_rfl) (by kernel_rfl) (by kernel_rfl)
 have h37 := @run_callFunc_extern Tryz.prog 256 _ (ReflectliteType.method ReflectliteType.elem) Tryz.func256 (by kernel_rfl) (by kernel_rfl) (by kernel_rfl) (by kernel_rfl)
 have h38 := @run_callFunc_extern Tryz.prog 257 _ (ReflectliteType.relation "Implements" ReflectliteType.implements_) Tryz.func257 (by kernel_rfl) (by kernel_rfl) (by kernel_rfl) (by kernel_rfl)
 have h10 := @run_callFunc_extern Tryz.prog 202 _ ReflectliteType.typeOf Tryz.func202 (by kernel_rfl) (by kernel_rfl) (by kernel_rfl) (by kernel_rfl)
 have h35 := @run_callFunc_extern Tryz.prog 254 _ (ReflectliteType.relation "AssignableTo" ReflectliteType.assignableTo) Tryz.func254 (by kernel_rfl) (by kernel_rfl) (by kernel_rfl) (by kernel_rfl)
 have h11 := @run_callFunc_extern Tryz.prog 203 _ (ReflectliteValue.method (ReflectliteValue.valueError "reflectlite.Value.Elem" 0) ReflectliteValue.elem) Tryz.func203 (by kernel_rfl) (by kernel_rfl) (by kernel_rfl) (by kernel_rfl)
 have h12 := @run_callFunc_extern Tryz.prog 204 _ ReflectliteValue.set Tryz.func204 (by kernel_rfl) (by kernel_rfl) (by kernel_rfl) (by kernel_rfl)
 have tO := asT.typeOf31
 have mA := asT.methodAssignableTo
 have a25 := asT.assignable31
 have f6 := asT.valueOf27
 have f7 := asT.type27
 have mK := asT.methodKind
 have mE := asT.methodElem
 have mI := asT.methodImplements
 have k27 := asT.kind27
 have k25 := asT.kind25
 have e27 := asT.elem27
 have i25 := asT.implements25
 have n8 := asT.isNil27 ⟨w.heap.size, 0, none⟩ t ((w.alloc (.cells #[.pointer (some t)] 194)).alloc (.cells #[.pointer (some ⟨9, 194, none⟩), .pointer (some ⟨w.heap.size, 0, none⟩), .int .u64 150] 213)) (by simp)
 have hlt : 3 < w.heap.size := by
  rcases Nat.lt_or_ge 3 w.heap.size with h | h
  ·exact h
  ·simp [World.cell?, Array.getElem?_eq_none h] at hg
 have hg2 : ((w.alloc (.cells #[.pointer (some t)] 194)).alloc (.cells #[.pointer (some ⟨9, 194, none⟩), .pointer (some ⟨w.heap.size, 0, none⟩), .int .u64 150] 213)).cell? ⟨3, 0, none⟩ = some (.iface 244 (.agg #[.pointer (some ⟨9, 25, none⟩)])) := by
  rw [World.cell?_alloc_lt _ _ ⟨3, 0, none⟩ (by first | (simp; done) | (simp; omega)), World.cell?_alloc_lt _ _ ⟨3, 0, none⟩ hlt]; exact hg
 have htl : t.block < w.heap.size := by
  rcases Nat.lt_or_ge t.block w.heap.size with h | h
  ·exact h
  ·simp [World.cell?, Array.getElem?_eq_none h] at ht0
 have n1 := asT.no230
 have n2 := asT.no233
 have n3 := asT.no234
 go_enter Tryz.func158, Tryz.ntmps158
 go_wp2
 refine wp_loop_rounds 1 ?_
 rw [rounds_succ]
 go_wp2
 go_ret
 exact ⟨rfl, (((Below.refl _ _).alloc (Nat.le_refl _) _).alloc (by simp) _).alloc (by first | (simp; done) | (simp; omega)) _⟩
end Go.Proofs.YtefmcijohgpfhaaGreatDoor
set_option maxRecDepth 100000
set_option linter.unusedVariables false
namespace Go.Proofs.YtefmcijohgpfhaaGreatDoor
open Go Go.Av Go.RowKit Go.Proofs Go.Pl
theorem qt9 {w : World} {b : Nat} {T : TypeId} {fz : Nat × Nat} {c : Array Value} (v : Value) (hc : w.heap[b]? = some (.cells c T fz)) (h1 : c.size = 1) : w.setCell ⟨b, 0, none⟩ v = w.setRow b #[v] := by
 unfold World.setCell World.setRow
 congr 1
 apply Array.ext_getElem?
 intro i
 rw [Array.getElem?_modify, Array.getElem?_modify]
 by_cases hi : b = i
 ·subst hi
  rw [if_pos rfl, if_pos rfl, hc]
  have : c.setIfInBounds 0 v = #[v] := by
   apply Array.ext
   ·simp [h1]
   ·intro i h2 h3
    have : i = 0 := by simp at h3; omega
    subst this
    simp
  simp [this]
 ·rw [if_neg hi, if_neg hi]
theorem q3f (a n : Int) (o : Nat) (st : List AObj) (ho : st[o]? = some (.cells 0 103 [.v (.pointer none)])) : qt E 158 [qff a n, .ifc 194 (.bx o 0 0)] st fun r st' => r = Bv true ∧ st' = st.set o (.cells 0 103 [.pp [Iv a, .ifc 31 (Iv n)]]) := by
 refine ⟨fun B0 w0 G vals w hL hA hR => ?_⟩
 obtain ⟨v1, v2, rfl⟩ : ∃ x y, vals = #[x, y] := by
  have := hR.1
  match vals, this with
  | ⟨[x, y]⟩, _ => exact ⟨x, y, rfl⟩
 have h1 := hR.2 0 _ v1 rfl rfl
 have h2 := hR.2 1 _ v2 rfl rfl
 unfold qff at h1
 cases h1 with
 | ifc _ _ y1 h1 =>
  cases h2 with
  | ifc _ _ y2 h2 =>
   have hpp := h1
   cases h1 with
   | pp _ b off pub hp hlen hr =>
    cases h2 with
    | bx _ _ _ b2 hn hv hb =>
     obtain ⟨_, g1, g2, g3, c, g4, g5, g6⟩ := hA.ob o _ ho
     have hb := hb g1
     subst hb
     have hc1 : c.size = 1 := by simpa using g5.symm
     have hl := (hL w hA.below).ert
     have hcell : w.cell? ⟨(G.ob o).blk, 0, none⟩ = some c[0] := by simp [World.cell?, g4, hc1]
     have hfz : w.frozen? ⟨(G.ob o).blk, 0, none⟩ = false := by simp [World.frozen?, g4]
     have hlt : (G.ob o).blk < w.heap.size := (Array.getElem?_eq_some_iff.1 g4).1
     refine (q5k ⟨b, off, none⟩ ⟨(G.ob o).blk, 0, none⟩ c[0] w hl hcell hfz).mono ?_
     rintro e w' ⟨rfl, rfl⟩
     have hb1 : Below w.heap.size w ((((w.alloc (.cells #[.pointer (some ⟨(G.ob o).blk, 0, none⟩)] 194)).alloc (.cells #[.pointer (some ⟨9, 194, none⟩), .pointer (some ⟨w.heap.size, 0, none⟩), .int .u64 150] 213)).alloc (.cells #[.pointer (some ⟨9, 194, none⟩), .pointer (some ⟨w.heap.size, 0, none⟩), .int .u64 150] 213)).alloc (.cells #[.pointer (some ⟨b, off, none⟩)] 103)) :=
      ((((Below.refl _ _).alloc (Nat.le_refl _) _).alloc (by simp) _).alloc (by first | (simp; done) | (simp; omega)) _).alloc (by first | (simp; done) | (simp; omega)) _
     have hA1 := hA.fresh hb1
     obtain ⟨_, k1, k2, k3, c', k4, k5, k6⟩ := hA1.ob o _ ho
     have hc1' : c'.size = 1 := by simpa using k5.symm
     refine ⟨.bool true, G, Bv true, _, rfl, .refl G, ?_, .v _, rfl, rfl⟩
     rw [qt9 _ k4 hc1']
     exact hA1.setRow ho (by simp) fun i x y hx hy => by
      match i with
      | 0 => simp at hx hy; subst hx; subst hy; exact hpp
      | i + 1 => simp at hx
theorem q2o (n : Int) (o : Nat) (st : List AObj) (ho : st[o]? = some (.cells 0 103 [.v (.pointer none)])) : qt E 158 [.ifc 31 (Iv n), .ifc 194 (.bx o 0 0)] st fun r st' => r = Bv false ∧ st' = st := by
 refine ⟨fun B0 w0 G vals w hL hA hR => ?_⟩
 obtain ⟨v1, v2, rfl⟩ : ∃ x y, vals = #[x, y] := by
  have := hR.1
  match vals, this with
  | ⟨[x, y]⟩, _ => exact ⟨x, y, rfl⟩
 have h1 := hR.2 0 _ v1 rfl rfl
 have h2 := hR.2 1 _ v2 rfl rfl
 cases h1 with
 | ifc _ _ y1 h1 =>
  cases h2 with
  | ifc _ _ y2 h2 =>
   cases h1 with
   | v =>
    cases h2 with
    | bx _ _ _ b2 hn hv hb =>
     obtain ⟨_, g1, g2, g3, c, g4, g5, g6⟩ := hA.ob o _ ho
     have hb := hb g1
     subst hb
     have hc1 : c.size = 1 := by simpa using g5.symm
     have hl := (hL w hA.below).ert
     have hcell : w.cell? ⟨(G.ob o).blk, 0, none⟩ = some c[0] := by simp [World.cell?, g4, hc1]
     refine (q3m n ⟨(G.ob o).blk, 0, none⟩ c[0] w hl hcell).mono ?_
     rintro e w' ⟨rfl, hb⟩
     exact ⟨_, G, Bv false, st, rfl, .refl G, hA.fresh hb, .v _, rfl, rfl⟩
end Go.Proofs.YtefmcijohgpfhaaGreatDoor
set_option maxRecDepth 100000
set_option linter.unusedVariables false
namespace Go.Pl
open Go Go.Proofs
inductive ErrV where
 | no
 | num (n : Int)
 | at' (a n : Int)
 deriving DecidableEq
def ErrV.code : ErrV → Int
 | .no => 0
 | .num n => n
 | .at' _ n => n
def ErrV.pos : ErrV → Int
 | .no => -9
 | .num _ => -9
 | .at' a _ => a
def qag : Nat → List Fld → ErrV
 | _, [] => .no
 | k, f :: r => if xd f = 0 then qag (k + 1) r else .at' k (xd f)
def qbw (fs : List Fld) : ErrV := if fs = [] then .num 2 else if 40 < fs.length then .num 11 else qag 0 fs
theorem qht : ∀ (k : Nat) (p r : List Fld), (∀ x ∈ p, xd x = 0) → qag k (p ++ r) = qag (k + p.length) r
 | k, [], r, _ => by simp
 | k, f :: p, r, h => by
  have h1 := h f (by simp)
  rw [List.cons_append, qag, if_pos h1, qht (k + 1) p r fun x hx => h x (by simp [hx])]
  congr 1
  simp
  omega
theorem qj9 : ∀ (k : Nat) (r : List Fld), (qag k r).code = 0 ↔ qag k r = .no
 | k, [] => by simp [qag, ErrV.code]
 | k, f :: r => by
  unfold qag
  split
  ·exact qj9 _ r
  ·rename_i h
   simp [ErrV.code, h]
theorem qri (fs : List Fld) : (qbw fs).code = 0 ↔ qbw fs = .no := by
 unfold qbw
 split
 ·simp [ErrV.code]
 ·split
  ·simp [ErrV.code]
  ·exact qj9 _ _
end Go.Pl
namespace Go.Proofs.YtefmcijohgpfhaaGreatDoor
open Go Go.Av Go.RowKit Go.Proofs Go.Pl
theorem qvh {st st' : List AObj} (h : ∀ k, k < st.length → st'[k]? = st[k]?) : ∃ ext, st' = st ++ ext := by
 refine qob ?_ h
 rcases Nat.eq_zero_or_pos st.length with h0 | h0
 ·omega
 ·have h1 := h (st.length - 1) (by omega)
  have h2 : st[st.length - 1]? = some (st[st.length - 1]'(by omega)) := List.getElem?_eq_getElem (by omega)
  have := lt_of_getElem? (h1.trans h2)
  omega
def gErr (x : z1) : ErrV := if x.kind = 2 then (if x.fields = [] then .no else .num 2) else if x.kind = 1 ∨ x.kind = 3 then qbw x.fields else .num 2
def qcl : Nat → List z1 → ErrV
 | _, [] => .no
 | k, x :: r => if (gErr x).code = 0 then qcl (k + 1) r else .at' k (gErr x).code
def eErr (b : List z1) : ErrV := if b.length < 1 ∨ 40 < b.length then .num 1 else qcl 0 b
theorem qj0 : ∀ (k : Nat) (p r : List z1), (∀ x ∈ p, (gErr x).code = 0) → qcl k (p ++ r) = qcl (k + p.length) r
 | k, [], r, _ => by simp
 | k, f :: p, r, h => by
  have h1 := h f (by simp)
  rw [List.cons_append, qcl, if_pos h1, qj0 (k + 1) p r fun x hx => h x (by simp [hx])]
  congr 1
  simp
  omega
theorem qka (x : z1) : (gErr x).code = 0 ↔ gErr x = .no := by
 unfold gErr
 split
 ·split <;> simp [ErrV.code]
 ·split
  ·exact qri _
  ·simp [ErrV.code]
theorem qne : ∀ (k : Nat) (r : List z1), (qcl k r).code = 0 ↔ qcl k r = .no
 | k, [] => by simp [qcl, ErrV.code]
 | k, f :: r => by
  unfold qcl
  split
  ·exact qne _ r
  ·rename_i h
   simp [ErrV.code] at h ⊢
   exact h
theorem qql (b : List z1) : (eErr b).code = 0 ↔ eErr b = .no := by
 unfold eErr
 split
 ·simp [ErrV.code]
 ·exact qne _ _
def errA : ErrV → AV
 | .no => .v .nilIface
 | .num n => .ifc 31 (Iv n)
 | .at' a n => .ifc 103 (.pp [Iv a, .ifc 31 (Iv n)])
theorem qbx (e : ErrV) : Pure (errA e) := by
 cases e with
 | no => exact zi _
 | num n => exact qb9 (zi _)
 | at' a n => exact qhr a n
def KeyB (fs : List Fld) : Prop := ∀ f ∈ fs, f.1.length < 4294967281
theorem qt2 (fs : List Fld) (st : List AObj) (e : ErrV) (h : qbw fs = e) (hK : KeyB fs) (hl : fs.length < 9223372036854775808) : qt E 122 [qa1 fs] st fun r st' => r = errA e ∧ st' = st := by
 subst h
 refine zg (qbx _) (qv Tryz.func122 rfl (Nat.le_of_ble_eq_true rfl) ?_)
 have hml : (fs.map fldA).length = fs.length := by simp
 by_cases h0 : fs = []
 ·subst h0
  repeat' (first
   | apply qj
   | apply qp
   | apply qc
   | apply qg
   | apply qh
   | apply qb
   | (apply qm; (iterate 3 exact rfl))
   | (apply qe; exact rfl; first | (apply q5; (first | assumption | omega)) | (apply q6; (first | assumption | omega)) | (apply q7; (first | exact rfl | assumption)) | (apply q8; (first | exact rfl | assumption)) | (apply cd_n <;> intro h) | (apply cd_t; (first | exact rfl | assumption)) | (apply cd_f; (first | exact rfl | assumption)) | (apply cd_d <;> intro h) | (apply cd_s <;> intro h))
   | (apply zk; (iterate 4 exact rfl))
   | (apply qy; exact rfl; exact rfl)
   | apply qq)
  exact qi rfl (zf rfl) ⟨rfl, _, rfl⟩
 have hp : 0 < fs.length := List.length_pos_iff.2 h0
 by_cases h40 : 40 < fs.length
 ·have hc : qbw fs = .num 11 := by unfold qbw; rw [if_neg h0, if_pos h40]
  rw [hc]
  repeat' (first
   | apply qj
   | apply qp
   | apply qc
   | apply qg
   | apply qh
   | apply qb
   | (apply qm; (iterate 3 exact rfl))
   | (apply qe; exact rfl; first | (apply q5; (first | assumption | omega)) | (apply q6; (first | assumption | omega)) | (apply q7; (first | exact rfl | assumption)) | (apply q8; (first | exact rfl | assumption)) | (apply cd_n <;> intro h) | (apply cd_t; (first | exact rfl | assumption)) | (apply cd_f; (first | exact rfl | assumption)) | (apply cd_d <;> intro h) | (apply cd_s <;> intro h))
   | (apply zk; (iterate 4 exact rfl))
   | (apply qy; exact rfl; exact rfl)
   | apply qq)
  exact qi rfl (zf rfl) ⟨rfl, _, rfl⟩
 have hc : qbw fs = qag 0 fs := by unfold qbw; rw [if_neg h0, if_neg h40]
 rw [hc]
 repeat' (first
  | apply qj
  | apply qp
  | apply qc
  | apply qg
  | apply qh
  | apply qb
  | (apply qm; (iterate 3 exact rfl))
  | (apply qe; exact rfl; first | (apply q5; (first | assumption | omega)) | (apply q6; (first | assumption | omega)) | (apply q7; (first | exact rfl | assumption)) | (apply q8; (first | exact rfl | assumption)) | (apply cd_n <;> intro h) | (apply cd_t; (first | exact rfl | assumption)) | (apply cd_f; (first | exact rfl | assumption)) | (apply cd_d <;> intro h) | (apply cd_s <;> intro h))
  | (apply zk; (iterate 4 exact rfl))
  | apply qs)
 refine qap fs (fun pre s => (∀ x ∈ pre, xd x = 0) ∧ StE [(16, qa1 fs), (17, Iv fs.length), (18, Iv pre.length)] st [] s) ⟨by simp, qci ⟨rfl, congrArg (fun n : Nat => Iv (n : Int)) hml, rfl, trivial⟩ rfl⟩ ?_ ?_
 ·rintro _ ⟨h3, t, ext, rfl⟩
  have he := qht 0 fs [] h3
  rw [List.append_nil] at he
  rw [he]
  repeat' (first
   | apply qj
   | apply qc
   | apply qg
   | apply qb
   | (apply qm; (iterate 3 exact rfl))
   | (apply qe; exact rfl; first | (apply q5; (first | assumption | omega)) | (apply q6; (first | assumption | omega)) | (apply q7; (first | exact rfl | assumption)) | (apply q8; (first | exact rfl | assumption)) | (apply cd_n <;> intro h) | (apply cd_t; (first | exact rfl | assumption)) | (apply cd_f; (first | exact rfl | assumption)) | (apply cd_d <;> intro h) | (apply cd_s <;> intro h))
   | apply z6
   | apply qq)
  exact qi rfl (zf rfl) ⟨rfl, xh _ _ _ _⟩
 ·rintro pre a rest _ hr ⟨h3, t, ext, rfl⟩
  have hrlen : fs.length = pre.length + (rest.length + 1) := by rw [hr]; simp
  have hget : (fs.map fldA)[pre.length]? = some (fldA a) := by rw [hr]; simp
  have hka := hK a (by rw [hr]; simp)
  by_cases ha : xd a = 0
  ·skip
   repeat' (first
    | apply qj
    | apply qp
    | apply qc
    | apply qg
    | apply qh
    | apply qb
    | (apply qm; (iterate 3 exact rfl))
    | (apply qe; exact rfl; first | (apply q5; (first | assumption | omega)) | (apply q6; (first | assumption | omega)) | (apply q7; (first | exact rfl | assumption)) | (apply q8; (first | exact rfl | assumption)) | (apply cd_n <;> intro h) | (apply cd_t; (first | exact rfl | assumption)) | (apply cd_f; (first | exact rfl | assumption)) | (apply cd_d <;> intro h) | (apply cd_s <;> intro h))
    | (apply zy; exact rfl; exact rfl; exact ql (by omega) (by omega))
    | (apply zl; exact rfl; exact rfl)
    | (apply zj; exact rfl; exact rfl)
    | (apply zc; (iterate 3 exact rfl))
    | (apply ze; (iterate 5 exact rfl))
    | (apply za; (iterate 11 exact rfl))
    | apply qs
    | (apply qf; exact Tryz.call124; exact qgu _ _ hka ha)
    | (apply q4 (n := pre.length); (iterate 5 exact rfl); exact hget))
   refine ⟨fun x hx => ?_, qal ⟨rfl, rfl, qd6 pre a, trivial⟩ rfl⟩
   rcases List.mem_append.1 hx with hx | hx
   ·exact h3 x hx
   ·simp at hx; subst hx; exact ha
  ·have he := qht 0 pre (a :: rest) h3
   rw [← hr, qag, if_neg ha] at he
   rw [he]
   repeat' (first
    | (apply qhl; (iterate 3 exact rfl))
    | apply qj
    | apply qp
    | apply qc
    | apply qg
    | apply qh
    | apply qb
    | (apply qm; (iterate 3 exact rfl))
    | (apply qe; exact rfl; first | (apply q5; (first | assumption | omega)) | (apply q6; (first | assumption | omega)) | (apply q7; (first | exact rfl | assumption)) | (apply q8; (first | exact rfl | assumption)) | (apply cd_n <;> intro h) | (apply cd_t; (first | exact rfl | assumption)) | (apply cd_f; (first | exact rfl | assumption)) | (apply cd_d <;> intro h) | (apply cd_s <;> intro h))
    | (apply zo; exact rfl; exact rfl)
    | (apply qy; exact rfl; exact rfl)
    | (apply zj; exact rfl; exact rfl)
    | (apply zc; (iterate 3 exact rfl))
    | (apply ze; (iterate 5 exact rfl))
    | (apply za; (iterate 11 exact rfl))
    | (apply zt; (iterate 3 exact rfl))
    | apply qs
    | apply qq
    | (apply qf; exact Tryz.call124; exact qgk _ _ hka ha)
    | (apply q4 (n := pre.length); (iterate 5 exact rfl); exact hget))
   refine qi rfl (zf rfl) ⟨?_, xh _ _ _ _⟩
   rw [Nat.zero_add]
   rfl
theorem qoz (x : z1) (st : List AObj) (e : ErrV) (h : gErr x = e) (hK : KeyB x.fields) (hl : x.fields.length < 9223372036854775808) : qt E 83 [qb7 x] st fun r st' => r = errA e ∧ st' = st := by
 subst h
 refine zg (qbx _) (qv Tryz.func83 rfl (Nat.le_of_ble_eq_true rfl) ?_)
 have hml : (x.fields.map fldA).length = x.fields.length := by simp
 have hpos : x.fields = [] ↔ x.fields.length = 0 := by simp
 unfold gErr
 by_cases h2 : x.kind = 2
 ·rw [if_pos h2]
  by_cases h0 : x.fields = []
  ·rw [if_pos h0]
   have hz := hpos.1 h0
   repeat' (first
    | apply qj
    | apply qp
    | apply qc
    | apply qg
    | apply qb
    | (apply qm; (iterate 3 exact rfl))
    | (apply qe; exact rfl; first | (apply q5; (first | assumption | omega)) | (apply q6; (first | assumption | omega)) | (apply q7; (first | exact rfl | assumption)) | (apply q8; (first | exact rfl | assumption)) | (apply cd_n <;> intro h) | (apply cd_t; (first | exact rfl | assumption)) | (apply cd_f; (first | exact rfl | assumption)) | (apply cd_d <;> intro h) | (apply cd_s <;> intro h))
    | (apply zk; (iterate 4 exact rfl))
    | (apply j4; (iterate 4 exact rfl))
    | (apply qu; (iterate 3 exact rfl))
    | (apply ze; (iterate 5 exact rfl))
    | apply qs
    | apply qq)
   exact qi rfl (zf rfl) ⟨rfl, _, rfl⟩
  ·rw [if_neg h0]
   have hz : 0 < x.fields.length := List.length_pos_iff.2 h0
   repeat' (first
    | apply qj
    | apply qp
    | apply qc
    | apply qg
    | apply qb
    | (apply qm; (iterate 3 exact rfl))
    | (apply qe; exact rfl; first | (apply q5; (first | assumption | omega)) | (apply q6; (first | assumption | omega)) | (apply q7; (first | exact rfl | assumption)) | (apply q8; (first | exact rfl | assumption)) | (apply cd_n <;> intro h) | (apply cd_t; (first | exact rfl | assumption)) | (apply cd_f; (first | exact rfl | assumption)) | (apply cd_d <;> intro h) | (apply cd_s <;> intro h))
    | (apply zk; (iterate 4 exact rfl))
    | (apply qy; exact rfl; exact rfl)
    | (apply j4; (iterate 4 exact rfl))
    | (apply qu; (iterate 3 exact rfl))
    | (apply ze; (iterate 5 exact rfl))
    | apply qq)
   exact qi rfl (zf rfl) ⟨rfl, _, rfl⟩
 ·rw [if_neg h2]
  by_cases h1 : x.kind = 1
  ·rw [if_pos (.inl h1)]
   repeat' (first
    | apply qj
    | apply qp
    | apply qc
    | apply qg
    | apply qb
    | (apply qm; (iterate 3 exact rfl))
    | (apply qe; exact rfl; first | (apply q5; (first | assumption | omega)) | (apply q6; (first | assumption | omega)) | (apply q7; (first | exact rfl | assumption)) | (apply q8; (first | exact rfl | assumption)) | (apply cd_n <;> intro h) | (apply cd_t; (first | exact rfl | assumption)) | (apply cd_f; (first | exact rfl | assumption)) | (apply cd_d <;> intro h) | (apply cd_s <;> intro h))
    | (apply j4; (iterate 4 exact rfl))
    | (apply qu; (iterate 3 exact rfl))
    | (apply ze; (iterate 5 exact rfl))
    | apply qs
    | apply qq
    | (apply qf; exact Tryz.call122; exact qt2 _ _ _ rfl hK hl))
   exact qi rfl (zf rfl) ⟨rfl, _, rfl⟩
  ·by_cases h3 : x.kind = 3
   ·rw [if_pos (.inr h3)]
    repeat' (first
     | apply qj
     | apply qp
     | apply qc
     | apply qg
     | apply qb
     | (apply qm; (iterate 3 exact rfl))
     | (apply qe; exact rfl; first | (apply q5; (first | assumption | omega)) | (apply q6; (first | assumption | omega)) | (apply q7; (first | exact rfl | assumption)) | (apply q8; (first | exact rfl | assumption)) | (apply cd_n <;> intro h) | (apply cd_t; (first | exact rfl | assumption)) | (apply cd_f; (first | exact rfl | assumption)) | (apply cd_d <;> intro h) | (apply cd_s <;> intro h))
     | (apply j4; (iterate 4 exact rfl))
     | (apply qu; (iterate 3 exact rfl))
     | (apply ze; (iterate 5 exact rfl))
     | apply qq
     | (apply qf; exact Tryz.call122; exact qt2 _ _ _ rfl hK hl))
    exact qi rfl (zf rfl) ⟨rfl, _, rfl⟩
   ·rw [if_neg (by rintro (h | h) <;> contradiction)]
    repeat' (first
     | apply qj
     | apply qp
     | apply qc
     | apply qg
     | apply qb
     | (apply qm; (iterate 3 exact rfl))
     | (apply qe; exact rfl; first | (apply q5; (first | assumption | omega)) | (apply q6; (first | assumption | omega)) | (apply q7; (first | exact rfl | assumption)) | (apply q8; (first | exact rfl | assumption)) | (apply cd_n <;> intro h) | (apply cd_t; (first | exact rfl | assumption)) | (apply cd_f; (first | exact rfl | assumption)) | (apply cd_d <;> intro h) | (apply cd_s <;> intro h))
     | (apply qy; exact rfl; exact rfl)
     | (apply j4; (iterate 4 exact rfl))
     | (apply qu; (iterate 3 exact rfl))
     | (apply ze; (iterate 5 exact rfl))
     | apply qs
     | apply qq)
    exact qi rfl (zf rfl) ⟨rfl, _, rfl⟩
theorem q1i (n : Int) (st : List AObj) : qt E 123 [.ifc 31 (Iv n)] st fun r st' => r = .ifc 31 (Iv n) ∧ st' = st := by
 refine zg (qb9 (zi _)) (qv Tryz.func123 rfl (Nat.le_of_ble_eq_true rfl) ?_)
 repeat' (first
  | apply qj
  | apply qc
  | apply qg
  | apply qh
  | apply qb
  | (apply qe; exact rfl; first | (apply q5; (first | assumption | omega)) | (apply q6; (first | assumption | omega)) | (apply q7; (first | exact rfl | assumption)) | (apply q8; (first | exact rfl | assumption)) | (apply cd_n <;> intro h) | (apply cd_t; (first | exact rfl | assumption)) | (apply cd_f; (first | exact rfl | assumption)) | (apply cd_d <;> intro h) | (apply cd_s <;> intro h))
  | (apply qy; exact rfl; exact rfl)
  | (apply zj; exact rfl; exact rfl)
  | apply qs
  | apply qq
  | (apply qf; exact Tryz.call158; exact q2o _ (st.length + 0) _ (vg rfl)))
 exact qi rfl (zf rfl) ⟨rfl, _, rfl⟩
theorem q17 (a n : Int) (st : List AObj) : qt E 123 [qff a n] st fun r st' => r = .ifc 31 (Iv n) ∧ st' = st := by
 refine zg (qb9 (zi _)) (qv Tryz.func123 rfl (Nat.le_of_ble_eq_true rfl) ?_)
 repeat' (first
  | apply qj
  | apply qc
  | apply qg
  | apply qh
  | apply qb
  | (apply qe; exact rfl; first | (apply q5; (first | assumption | omega)) | (apply q6; (first | assumption | omega)) | (apply q7; (first | exact rfl | assumption)) | (apply q8; (first | exact rfl | assumption)) | (apply cd_n <;> intro h) | (apply cd_t; (first | exact rfl | assumption)) | (apply cd_f; (first | exact rfl | assumption)) | (apply cd_d <;> intro h) | (apply cd_s <;> intro h))
  | (apply qy; exact rfl; exact rfl)
  | (apply zj; exact rfl; exact rfl)
  | (apply zn; (iterate 4 exact rfl))
  | (apply zc; (iterate 3 exact rfl))
  | (apply zv; exact rfl; exact rfl)
  | apply qq
  | (apply qf; exact Tryz.call158; exact q3f a n (st.length + 0) _ (vg rfl))
  | (apply w6; exact rfl; (focus first | assumption | (repeat' (first | assumption | exact qa3 | exact vg rfl | apply x3 | apply w8 | omega | apply qb1))); exact rfl; exact rfl))
 exact qi rfl (zf rfl) ⟨rfl, qvh fun j hj => (qlt (by omega)).trans (List.getElem?_append_left hj)⟩
theorem qta (k : Int) (e : ErrV) (st : List AObj) (he : e.code ≠ 0) : qt E 84 [Iv k, errA e] st fun r st' => r = errA (.at' k e.code) ∧ st' = st := by
 refine zg (qbx _) (qv Tryz.func84 rfl (Nat.le_of_ble_eq_true rfl) ?_)
 cases e with
 | no => exact absurd rfl he
 | num n =>
  repeat' (first
   | (apply qhl; (iterate 3 exact rfl))
   | apply qj
   | apply qc
   | apply qg
   | apply qh
   | apply qb
   | (apply qy; exact rfl; exact rfl)
   | (apply zt; (iterate 3 exact rfl))
   | apply qq
   | (apply qf; exact Tryz.call123; exact q1i _ _))
  exact qi rfl (zf rfl) ⟨rfl, _, rfl⟩
 | at' a n =>
  repeat' (first
   | (apply qhl; (iterate 3 exact rfl))
   | apply qj
   | apply qc
   | apply qg
   | apply qh
   | apply qb
   | (apply qy; exact rfl; exact rfl)
   | (apply zt; (iterate 3 exact rfl))
   | apply qq
   | (apply qf; exact Tryz.call123; exact q17 a n _))
  exact qi rfl (zf rfl) ⟨rfl, _, rfl⟩
structure EdB (x : z1) : Prop where
 keys : KeyB x.fields
 len : x.fields.length < 9223372036854775808
 id1 : -9223372036854775808 ≤ x.id
 id2 : x.id ≤ 9223372036854775807
@[reducible] def qbr (b : List z1) : AV := .sl 3 (b.map qb7) none
theorem qmd (b : List z1) (st : List AObj) (e : ErrV) (h : eErr b = e) (hB : ∀ x ∈ b, EdB x) (hl : b.length < 9223372036854775808) : qt E 45 [qbr b] st fun r st' => r = errA e ∧ st' = st := by
 subst h
 refine zg (qbx _) (qv Tryz.func45 rfl (Nat.le_of_ble_eq_true rfl) ?_)
 have hml : (b.map qb7).length = b.length := by simp
 by_cases h1 : b.length < 1 ∨ 40 < b.length
 ·have hc : eErr b = .num 1 := if_pos h1
  rw [hc]
  rcases h1 with h1 | h1
  ·skip
   repeat' (first
    | apply qj
    | apply qc
    | apply qg
    | apply qh
    | apply qb
    | (apply qm; (iterate 3 exact rfl))
    | (apply qo; (iterate 4 exact rfl))
    | (apply jt; (first | assumption | omega))
    | (apply qr; exact rfl; first | (apply jn; (first | assumption | omega)) | (apply jq; (first | assumption | omega)) | (apply jo; (first | exact rfl | assumption)) | (apply jr; (first | exact rfl | assumption)) | (apply pk_t; (first | exact rfl | assumption)) | (apply pk_f; (first | exact rfl | assumption)))
    | (apply qe; exact rfl; first | (apply q5; (first | assumption | omega)) | (apply q6; (first | assumption | omega)) | (apply q7; (first | exact rfl | assumption)) | (apply q8; (first | exact rfl | assumption)) | (apply cd_n <;> intro h) | (apply cd_t; (first | exact rfl | assumption)) | (apply cd_f; (first | exact rfl | assumption)) | (apply cd_d <;> intro h) | (apply cd_s <;> intro h))
    | (apply zk; (iterate 4 exact rfl))
    | (apply qy; exact rfl; exact rfl)
    | apply qq)
   exact qi rfl (zf rfl) ⟨rfl, _, rfl⟩
  ·skip
   repeat' (first
    | apply qj
    | apply qc
    | apply qg
    | apply qh
    | apply qb
    | (apply qm; (iterate 3 exact rfl))
    | (apply qo; (iterate 4 exact rfl))
    | (apply jv; (first | assumption | omega))
    | (apply qr; exact rfl; first | (apply jn; (first | assumption | omega)) | (apply jq; (first | assumption | omega)) | (apply jo; (first | exact rfl | assumption)) | (apply jr; (first | exact rfl | assumption)) | (apply pk_t; (first | exact rfl | assumption)) | (apply pk_f; (first | exact rfl | assumption)))
    | (apply qe; exact rfl; first | (apply q5; (first | assumption | omega)) | (apply q6; (first | assumption | omega)) | (apply q7; (first | exact rfl | assumption)) | (apply q8; (first | exact rfl | assumption)) | (apply cd_n <;> intro h) | (apply cd_t; (first | exact rfl | assumption)) | (apply cd_f; (first | exact rfl | assumption)) | (apply cd_d <;> intro h) | (apply cd_s <;> intro h))
    | (apply zk; (iterate 4 exact rfl))
    | (apply qy; exact rfl; exact rfl)
    | apply qq)
   exact qi rfl (zf rfl) ⟨rfl, _, rfl⟩
 have hc : eErr b = qcl 0 b := if_neg h1
 rw [hc]
 repeat' (first
  | apply qj
  | apply qp
  | apply qc
  | apply qg
  | apply qh
  | apply qb
  | (apply qm; (iterate 3 exact rfl))
  | (apply qo; (iterate 4 exact rfl))
  | (apply jv; (first | assumption | omega))
  | (apply qr; exact rfl; first | (apply jn; (first | assumption | omega)) | (apply jq; (first | assumption | omega)) | (apply jo; (first | exact rfl | assumption)) | (apply jr; (first | exact rfl | assumption)) | (apply pk_t; (first | exact rfl | assumption)) | (apply pk_f; (first | exact rfl | assumption)))
  | (apply qe; exact rfl; first | (apply q5; (first | assumption | omega)) | (apply q6; (first | assumption | omega)) | (apply q7; (first | exact rfl | assumption)) | (apply q8; (first | exact rfl | assumption)) | (apply cd_n <;> intro h) | (apply cd_t; (first | exact rfl | assumption)) | (apply cd_f; (first | exact rfl | assumption)) | (apply cd_d <;> intro h) | (apply cd_s <;> intro h))
  | (apply zk; (iterate 4 exact rfl))
  | apply qs)
 refine qap b (fun pre s => (∀ x ∈ pre, (gErr x).code = 0) ∧ StE [(15, qbr b), (16, Iv b.length), (17, Iv pre.length)] st [] s) ⟨by simp, qci ⟨rfl, congrArg (fun n : Nat => Iv (n : Int)) hml, rfl, trivial⟩ rfl⟩ ?_ ?_
 ·rintro _ ⟨h3, t, ext, rfl⟩
  have he := qj0 0 b [] h3
  rw [List.append_nil] at he
  rw [he]
  repeat' (first
   | apply qj
   | apply qc
   | apply qg
   | apply qb
   | (apply qm; (iterate 3 exact rfl))
   | (apply qe; exact rfl; first | (apply q5; (first | assumption | omega)) | (apply q6; (first | assumption | omega)) | (apply q7; (first | exact rfl | assumption)) | (apply q8; (first | exact rfl | assumption)) | (apply cd_n <;> intro h) | (apply cd_t; (first | exact rfl | assumption)) | (apply cd_f; (first | exact rfl | assumption)) | (apply cd_d <;> intro h) | (apply cd_s <;> intro h))
   | apply z6
   | apply qq)
  exact qi rfl (zf rfl) ⟨rfl, xh _ _ _ _⟩
 ·rintro pre a rest _ hr ⟨h3, t, ext, rfl⟩
  have hrlen : b.length = pre.length + (rest.length + 1) := by rw [hr]; simp
  have hget : (b.map qb7)[pre.length]? = some (qb7 a) := by rw [hr]; simp
  have hka := hB a (by rw [hr]; simp)
  by_cases ha : (gErr a).code = 0
  ·have hn := (qka a).1 ha
   repeat' (first
    | apply qj
    | apply qp
    | apply qc
    | apply qg
    | apply qh
    | apply qb
    | (apply qm; (iterate 3 exact rfl))
    | (apply qe; exact rfl; first | (apply q5; (first | assumption | omega)) | (apply q6; (first | assumption | omega)) | (apply q7; (first | exact rfl | assumption)) | (apply q8; (first | exact rfl | assumption)) | (apply cd_n <;> intro h) | (apply cd_t; (first | exact rfl | assumption)) | (apply cd_f; (first | exact rfl | assumption)) | (apply cd_d <;> intro h) | (apply cd_s <;> intro h))
    | (apply zy; exact rfl; exact rfl; exact ql (by omega) (by omega))
    | (apply zl; exact rfl; exact rfl)
    | (apply zj; exact rfl; exact rfl)
    | (apply zc; (iterate 3 exact rfl))
    | (apply ze; (iterate 5 exact rfl))
    | (apply za; (iterate 11 exact rfl))
    | apply qs
    | (apply qf; exact Tryz.call83; exact qoz _ _ _ hn hka.keys hka.len)
    | (apply q4 (n := pre.length); (iterate 5 exact rfl); exact hget))
   refine ⟨fun x hx => ?_, qal ⟨rfl, rfl, qd6 pre a, trivial⟩ rfl⟩
   rcases List.mem_append.1 hx with hx | hx
   ·exact h3 x hx
   ·simp at hx; subst hx; exact ha
  ·have he := qj0 0 pre (a :: rest) h3
   rw [← hr, qcl, if_neg ha, Nat.zero_add] at he
   rw [he]
   cases hg : gErr a with
   | no => rw [hg] at ha; exact absurd rfl ha
   | num n =>
    have ha2 : (ErrV.num n).code ≠ 0 := by rw [← hg]; exact ha
    repeat' (first
     | apply qj
     | apply qp
     | apply qc
     | apply qg
     | apply qh
     | apply qb
     | (apply qm; (iterate 3 exact rfl))
     | (apply qe; exact rfl; first | (apply q5; (first | assumption | omega)) | (apply q6; (first | assumption | omega)) | (apply q7; (first | exact rfl | assumption)) | (apply q8; (first | exact rfl | assumption)) | (apply cd_n <;> intro h) | (apply cd_t; (first | exact rfl | assumption)) | (apply cd_f; (first | exact rfl | assumption)) | (apply cd_d <;> intro h) | (apply cd_s <;> intro h))
     | (apply zo; exact rfl; exact rfl)
     | (apply zj; exact rfl; exact rfl)
     | (apply zc; (iterate 3 exact rfl))
     | (apply ze; (iterate 5 exact rfl))
     | (apply za; (iterate 11 exact rfl))
     | apply qs
     | apply qq
     | (apply qf; exact Tryz.call83; exact qoz _ _ _ hg hka.keys hka.len)
     | (apply qf; exact Tryz.call84; exact qta _ (.num n) _ ha2)
     | (apply q4 (n := pre.length); (iterate 5 exact rfl); exact hget))
    exact qi rfl (zf rfl) ⟨rfl, xh _ _ _ _⟩
   | at' p n =>
    have ha2 : (ErrV.at' p n).code ≠ 0 := by rw [← hg]; exact ha
    repeat' (first
     | apply qj
     | apply qp
     | apply qc
     | apply qg
     | apply qh
     | apply qb
     | (apply qm; (iterate 3 exact rfl))
     | (apply qe; exact rfl; first | (apply q5; (first | assumption | omega)) | (apply q6; (first | assumption | omega)) | (apply q7; (first | exact rfl | assumption)) | (apply q8; (first | exact rfl | assumption)) | (apply cd_n <;> intro h) | (apply cd_t; (first | exact rfl | assumption)) | (apply cd_f; (first | exact rfl | assumption)) | (apply cd_d <;> intro h) | (apply cd_s <;> intro h))
     | (apply zo; exact rfl; exact rfl)
     | (apply zj; exact rfl; exact rfl)
     | (apply zc; (iterate 3 exact rfl))
     | (apply ze; (iterate 5 exact rfl))
     | (apply za; (iterate 11 exact rfl))
     | apply qs
     | apply qq
     | (apply qf; exact Tryz.call83; exact qoz _ _ _ hg hka.keys hka.len)
     | (apply qf; exact Tryz.call84; exact qta _ (.at' p n) _ ha2)
     | (apply q4 (n := pre.length); (iterate 5 exact rfl); exact hget))
    exact qi rfl (zf rfl) ⟨rfl, xh _ _ _ _⟩
end Go.Proofs.YtefmcijohgpfhaaGreatDoor
set_option maxRecDepth 100000
set_option linter.unusedVariables false
namespace Go.Proofs.YtefmcijohgpfhaaGreatDoor
open Go Go.Av Go.RowKit Go.Proofs Go.Pl
def okE : ErrV → Prop
 | .no => True
 | .num n => n ≠ 0
 | .at' _ n => n ≠ 0
theorem q5l (e : ErrV) (st : List AObj) (he : okE e) : qt E 19 [errA e] st fun r st' => r = Iv e.code ∧ st' = st := by
 refine zg (zi _) (qv Tryz.func19 rfl (Nat.le_of_ble_eq_true rfl) ?_)
 cases e with
 | no =>
  repeat' (first
   | apply qj
   | apply qp
   | apply qc
   | apply qg
   | apply qh
   | apply qb)
  refine xc (fun (k : Unit) s => StA [(0, .v .nilIface), (7, Iv 0)] (st ++ []) [] s) (fun k => 0) () (x2 ⟨rfl, rfl, trivial⟩) ?_
  rintro k _ ⟨t, rfl⟩
  repeat' (first
   | apply qj
   | apply qp
   | apply qc
   | apply qg
   | apply qh
   | apply qb
   | (apply qm; (iterate 3 exact rfl))
   | (apply qe; exact rfl; first | (apply q5; (first | assumption | omega)) | (apply q6; (first | assumption | omega)) | (apply q7; (first | exact rfl | assumption)) | (apply q8; (first | exact rfl | assumption)) | (apply cd_n <;> intro h) | (apply cd_t; (first | exact rfl | assumption)) | (apply cd_f; (first | exact rfl | assumption)) | (apply cd_d <;> intro h) | (apply cd_s <;> intro h))
   | (apply jg; exact rfl; exact rfl)
   | apply qs
   | apply qq)
  exact qi rfl (zf rfl) ⟨rfl, _, rfl⟩
 | num n =>
  have hk : n ≠ 0 := he
  repeat' (first
   | apply qj
   | apply qp
   | apply qc
   | apply qg
   | apply qh
   | apply qb)
  refine xc (fun (k : Unit) s => StA [(0, errA (.num n)), (7, Iv 0)] (st ++ []) [] s) (fun k => 0) () (x2 ⟨rfl, rfl, trivial⟩) ?_
  rintro k _ ⟨t, rfl⟩
  repeat' (first
   | apply qj
   | apply qp
   | apply qc
   | apply qg
   | apply qh
   | apply qb
   | (apply qx; exact rfl; exact rfl)
   | (apply qm; (iterate 3 exact rfl))
   | (apply qo; (iterate 4 exact rfl))
   | (apply kg; (first | exact rfl | assumption))
   | (apply qr; exact rfl; first | (apply jn; (first | assumption | omega)) | (apply jq; (first | assumption | omega)) | (apply jo; (first | exact rfl | assumption)) | (apply jr; (first | exact rfl | assumption)) | (apply pk_t; (first | exact rfl | assumption)) | (apply pk_f; (first | exact rfl | assumption)))
   | (apply qe; exact rfl; first | (apply q5; (first | assumption | omega)) | (apply q6; (first | assumption | omega)) | (apply q7; (first | exact rfl | assumption)) | (apply q8; (first | exact rfl | assumption)) | (apply cd_n <;> intro h) | (apply cd_t; (first | exact rfl | assumption)) | (apply cd_f; (first | exact rfl | assumption)) | (apply cd_d <;> intro h) | (apply cd_s <;> intro h))
   | (apply z8; exact rfl; exact rfl)
   | apply qs
   | apply qq
   | (apply qda; (iterate 3 exact rfl)))
  exact qi rfl (zf rfl) ⟨rfl, _, rfl⟩
 | at' a n =>
  have hk : n ≠ 0 := he
  repeat' (first
   | apply qj
   | apply qp
   | apply qc
   | apply qg
   | apply qh
   | apply qb)
  refine xc (fun (j : Nat) s => (j = 0 ∧ StA [(0, errA (.at' a n)), (7, Iv 0)] (st ++ []) [] s) ∨ (j = 1 ∧ StA [(0, errA (.num n)), (7, Iv 1)] (st ++ []) [] s)) (fun j => 1 - j) 0 (.inl ⟨rfl, x2 ⟨rfl, rfl, trivial⟩⟩) ?_
  rintro j _ (⟨rfl, t, rfl⟩ | ⟨rfl, t, rfl⟩)
  ·skip
   repeat' (first
    | apply qj
    | apply qp
    | apply qc
    | apply qg
    | apply qh
    | apply qb
    | (apply qx; exact rfl; exact rfl)
    | (apply qm; (iterate 3 exact rfl))
    | (apply z7; exact rfl)
    | (apply qo; (iterate 4 exact rfl))
    | (apply j3; (first | exact rfl | assumption))
    | (apply vn; (first | exact rfl | assumption))
    | (apply ju; (first | exact rfl | assumption))
    | (apply qr; exact rfl; first | (apply jn; (first | assumption | omega)) | (apply jq; (first | assumption | omega)) | (apply jo; (first | exact rfl | assumption)) | (apply jr; (first | exact rfl | assumption)) | (apply pk_t; (first | exact rfl | assumption)) | (apply pk_f; (first | exact rfl | assumption)))
    | (apply qe; exact rfl; first | (apply q5; (first | assumption | omega)) | (apply q6; (first | assumption | omega)) | (apply q7; (first | exact rfl | assumption)) | (apply q8; (first | exact rfl | assumption)) | (apply cd_n <;> intro h) | (apply cd_t; (first | exact rfl | assumption)) | (apply cd_f; (first | exact rfl | assumption)) | (apply cd_d <;> intro h) | (apply cd_s <;> intro h))
    | (apply zy; exact rfl; exact rfl; exact ql (by omega) (by omega))
    | (apply z8; exact rfl; exact rfl)
    | (apply zn; (iterate 4 exact rfl))
    | (apply zc; (iterate 3 exact rfl))
    | (apply zv; exact rfl; exact rfl)
    | (apply jd; (iterate 3 exact rfl))
    | apply qs
    | (apply qgx; (iterate 5 exact rfl))
    | (apply qda; (iterate 3 exact rfl)))
   exact ⟨1, .inr ⟨rfl, x2 ⟨rfl, rfl, trivial⟩⟩, by omega⟩
  ·skip
   repeat' (first
    | apply qj
    | apply qp
    | apply qc
    | apply qg
    | apply qh
    | apply qb
    | (apply qx; exact rfl; exact rfl)
    | (apply qm; (iterate 3 exact rfl))
    | (apply qo; (iterate 4 exact rfl))
    | (apply kg; (first | exact rfl | assumption))
    | (apply qr; exact rfl; first | (apply jn; (first | assumption | omega)) | (apply jq; (first | assumption | omega)) | (apply jo; (first | exact rfl | assumption)) | (apply jr; (first | exact rfl | assumption)) | (apply pk_t; (first | exact rfl | assumption)) | (apply pk_f; (first | exact rfl | assumption)))
    | (apply qe; exact rfl; first | (apply q5; (first | assumption | omega)) | (apply q6; (first | assumption | omega)) | (apply q7; (first | exact rfl | assumption)) | (apply q8; (first | exact rfl | assumption)) | (apply cd_n <;> intro h) | (apply cd_t; (first | exact rfl | assumption)) | (apply cd_f; (first | exact rfl | assumption)) | (apply cd_d <;> intro h) | (apply cd_s <;> intro h))
    | (apply z8; exact rfl; exact rfl)
    | apply qs
    | apply qq
    | (apply qda; (iterate 3 exact rfl)))
   exact qi rfl (zf rfl) ⟨rfl, _, rfl⟩
theorem q5r (e : ErrV) (st : List AObj) : qt E 20 [errA e] st fun r st' => r = Iv e.pos ∧ st' = st := by
 refine zg (zi _) (qv Tryz.func20 rfl (Nat.le_of_ble_eq_true rfl) ?_)
 cases e with
 | no =>
  repeat' (first
   | apply qj
   | apply qc
   | apply qg
   | apply qh
   | apply qb
   | (apply qx; exact rfl; exact rfl)
   | (apply qo; (iterate 4 exact rfl))
   | (apply ju; (first | exact rfl | assumption))
   | (apply qr; exact rfl; first | (apply jn; (first | assumption | omega)) | (apply jq; (first | assumption | omega)) | (apply jo; (first | exact rfl | assumption)) | (apply jr; (first | exact rfl | assumption)) | (apply pk_t; (first | exact rfl | assumption)) | (apply pk_f; (first | exact rfl | assumption)))
   | (apply qe; exact rfl; first | (apply q5; (first | assumption | omega)) | (apply q6; (first | assumption | omega)) | (apply q7; (first | exact rfl | assumption)) | (apply q8; (first | exact rfl | assumption)) | (apply cd_n <;> intro h) | (apply cd_t; (first | exact rfl | assumption)) | (apply cd_f; (first | exact rfl | assumption)) | (apply cd_d <;> intro h) | (apply cd_s <;> intro h))
   | apply qs
   | apply qq
   | (apply qpk; (iterate 4 exact rfl)))
  exact qi rfl (zf rfl) ⟨rfl, _, rfl⟩
 | num n =>
  repeat' (first
   | apply qj
   | apply qc
   | apply qg
   | apply qh
   | apply qb
   | (apply qx; exact rfl; exact rfl)
   | (apply qo; (iterate 4 exact rfl))
   | (apply ju; (first | exact rfl | assumption))
   | (apply qr; exact rfl; first | (apply jn; (first | assumption | omega)) | (apply jq; (first | assumption | omega)) | (apply jo; (first | exact rfl | assumption)) | (apply jr; (first | exact rfl | assumption)) | (apply pk_t; (first | exact rfl | assumption)) | (apply pk_f; (first | exact rfl | assumption)))
   | (apply qe; exact rfl; first | (apply q5; (first | assumption | omega)) | (apply q6; (first | assumption | omega)) | (apply q7; (first | exact rfl | assumption)) | (apply q8; (first | exact rfl | assumption)) | (apply cd_n <;> intro h) | (apply cd_t; (first | exact rfl | assumption)) | (apply cd_f; (first | exact rfl | assumption)) | (apply cd_d <;> intro h) | (apply cd_s <;> intro h))
   | apply qs
   | apply qq
   | (apply qgx; (iterate 5 exact rfl)))
  exact qi rfl (zf rfl) ⟨rfl, _, rfl⟩
 | at' a n =>
  repeat' (first
   | apply qj
   | apply qc
   | apply qg
   | apply qh
   | apply qb
   | (apply qx; exact rfl; exact rfl)
   | (apply qo; (iterate 4 exact rfl))
   | (apply kg; (first | exact rfl | assumption))
   | (apply qr; exact rfl; first | (apply jn; (first | assumption | omega)) | (apply jq; (first | assumption | omega)) | (apply jo; (first | exact rfl | assumption)) | (apply jr; (first | exact rfl | assumption)) | (apply pk_t; (first | exact rfl | assumption)) | (apply pk_f; (first | exact rfl | assumption)))
   | (apply qe; exact rfl; first | (apply q5; (first | assumption | omega)) | (apply q6; (first | assumption | omega)) | (apply q7; (first | exact rfl | assumption)) | (apply q8; (first | exact rfl | assumption)) | (apply cd_n <;> intro h) | (apply cd_t; (first | exact rfl | assumption)) | (apply cd_f; (first | exact rfl | assumption)) | (apply cd_d <;> intro h) | (apply cd_s <;> intro h))
   | (apply zn; (iterate 4 exact rfl))
   | (apply zc; (iterate 3 exact rfl))
   | (apply zv; exact rfl; exact rfl)
   | (apply ji; (iterate 3 exact rfl))
   | apply qq
   | (apply qda; (iterate 3 exact rfl)))
  exact qi rfl (zf rfl) ⟨rfl, _, rfl⟩
end Go.Proofs.YtefmcijohgpfhaaGreatDoor
set_option maxRecDepth 100000
set_option linter.unusedVariables false
namespace Go.Proofs.YtefmcijohgpfhaaGreatDoor
open Go Go.Av Go.RowKit Go.Proofs Go.Pl
def wa (x : z1) : qa := xi x ++ [10] ++ qav [32, 32] (xq x.fields)
def encF (b : List z1) : qa := b.flatMap wa
theorem q2p (a b : List z1) : encF (a ++ b) = encF a ++ encF b := by simp [encF]
theorem q2w (x : z1) : encF [x] = wa x := by simp [encF]
theorem qnn : ∀ (k : Nat) (r : List Fld), qag k r = .no ↔ ∀ f ∈ r, wj f
 | k, [] => by simp [qag]
 | k, f :: r => by
  unfold qag
  split
  ·rename_i h
   rw [qnn (k + 1) r]
   have := (qcg f).1 h
   simp [this]
  ·rename_i h
   have h2 : ¬ wj f := fun g => h ((qcg f).2 g)
   simp [h2]
theorem qxf {fs : List Fld} (h : qbw fs = .no) : fs ≠ [] ∧ fs.length ≤ 40 ∧ ∀ f ∈ fs, wj f := by
 unfold qbw at h
 split at h
 ·exact absurd h (by simp)
 ·split at h
  ·exact absurd h (by simp)
  ·exact ⟨by assumption, by omega, (qnn _ _).1 h⟩
theorem qpo {x : z1} (h : gErr x = .no) : x.fields.length ≤ 40 ∧ ∀ f ∈ x.fields, wj f := by
 unfold gErr at h
 split at h
 ·split at h
  ·rename_i h0; rw [h0]; simp
  ·exact absurd h (by simp)
 ·split at h
  ·exact (qxf h).2
  ·exact absurd h (by simp)
theorem qr0 : ∀ (k : Nat) (b : List z1), qcl k b = .no ↔ ∀ x ∈ b, gErr x = .no
 | k, [] => by simp [qcl]
 | k, x :: b => by
  unfold qcl
  split
  ·rename_i h
   rw [qr0 (k + 1) b]
   have := (qka x).1 h
   simp [this]
  ·rename_i h
   have h2 : ¬ gErr x = .no := fun g => h ((qka x).2 g)
   simp [h2]
theorem qo7 {b : List z1} (h : eErr b = .no) : 1 ≤ b.length ∧ b.length ≤ 40 ∧ ∀ x ∈ b, gErr x = .no := by
 unfold eErr at h
 split at h
 ·exact absurd h (by simp)
 ·exact ⟨by omega, by omega, (qr0 _ _).1 h⟩
theorem q4q {fs : List Fld} (hl : fs.length ≤ 40) (h : ∀ f ∈ fs, wj f) : q20 fs := ⟨by omega, fun f hf => by
 have := h f hf
 have h1 := this.1.2.1
 have h2 := this.2
 omega⟩
theorem qwi (xs : List FldV) (st : List AObj) (hl : xs.length ≤ 40) (h : ∀ f ∈ xs, wj f) : qt E 46 [qa1 xs] st fun r st' => r = .tu [Sv (xq xs), .v .nilIface] ∧ st' = st := by
 have := q5m xs st (q4q hl h)
 unfold qnx at this
 have h0 := (qj2 xs).2 h
 rw [if_pos h0, h0] at this
 exact this
theorem qlc (l : qa) : (qav [32, 32] l).length ≤ 3 * l.length := by
 unfold qav
 obtain ⟨h1, h2⟩ := qfj _ l (Nat.le_refl _)
 have := qmo [32, 32] (jm l)
 simp only [List.length_cons, List.length_nil] at this
 omega
theorem qps (x : z1) (h1 : -9223372036854775808 ≤ x.id) (h2 : x.id ≤ 9223372036854775807) : (xi x).length ≤ 100 := by
 have hn := Lib.itoa_length_le x.id h1 h2
 unfold xi qbd
 split
 ·split
  ·simp; omega
  ·split
   ·simp; omega
   ·split <;> simp <;> omega
 ·simp
theorem qw9 {x : z1} (hB : EdB x) (h : gErr x = .no) : (wa x).length ≤ 700000 := by
 obtain ⟨hl, hg⟩ := qpo h
 have h1 := qg0 x.fields hg
 have h2 := qlc (xq x.fields)
 have h3 := qps x hB.id1 hB.id2
 unfold wa
 simp only [List.length_append, List.length_cons, List.length_nil]
 omega
theorem qm5 : ∀ (b : List z1), (∀ x ∈ b, EdB x) → (∀ x ∈ b, gErr x = .no) → (encF b).length ≤ 700000 * b.length
 | [], _, _ => by simp [encF]
 | x :: r, hB, h => by
  have ih := qm5 r (fun y hy => hB y (by simp [hy])) (fun y hy => h y (by simp [hy]))
  have h1 := qw9 (hB x (by simp)) (h x (by simp))
  have e : encF (x :: r) = wa x ++ encF r := by simp [encF]
  rw [e, List.length_append, List.length_cons]
  omega
set_option maxHeartbeats 2000000 in
theorem qyo (b : List z1) (st : List AObj) (hB : ∀ x ∈ b, EdB x) (he : eErr b = .no) : qt E 15 [qbr b] st fun r st' => r = .tu [Sv (encF b), .v .nilIface] ∧ st' = st := by
 refine zg (yl (zi _) (zi _)) (qv Tryz.func15 rfl (Nat.le_of_ble_eq_true rfl) ?_)
 have hml : (b.map qb7).length = b.length := by simp
 obtain ⟨hb1, hb40, hg⟩ := qo7 he
 have hel := qm5 b hB hg
 repeat' (first
  | (apply qhu; exact rfl)
  | apply qj
  | apply qp
  | apply qc
  | apply qg
  | apply qh
  | apply qb
  | (apply qe; exact rfl; first | (apply q5; (first | assumption | omega)) | (apply q6; (first | assumption | omega)) | (apply q7; (first | exact rfl | assumption)) | (apply q8; (first | exact rfl | assumption)) | (apply cd_n <;> intro h) | (apply cd_t; (first | exact rfl | assumption)) | (apply cd_f; (first | exact rfl | assumption)) | (apply cd_d <;> intro h) | (apply cd_s <;> intro h))
  | (apply zk; (iterate 4 exact rfl))
  | (apply zl; exact rfl; exact rfl)
  | apply qs
  | (apply qf; exact Tryz.call45; exact qmd _ _ _ he hB (by omega)))
 refine qap b (fun pre s => ∃ q, (q = .v (.pointer none) ∨ q = .bx (st.length + 0) 0 0) ∧ StE [(5, .bx (st.length + 0) 0 0), (15, qbr b), (16, Iv b.length), (17, Iv pre.length)] st [bldO 0 q (encF pre) (st.length + 1), .tip (encF pre).length 1 5] s) ⟨_, .inl rfl, qci ⟨rfl, rfl, congrArg (fun n : Nat => Iv (n : Int)) hml, rfl, trivial⟩ rfl⟩ ?_ ?_
 ·rintro _ ⟨q, hq, t, ext, rfl⟩
  repeat' (first
   | apply qj
   | apply qc
   | apply qg
   | apply qb
   | (apply qm; (iterate 3 exact rfl))
   | (apply qe; exact rfl; first | (apply q5; (first | assumption | omega)) | (apply q6; (first | assumption | omega)) | (apply q7; (first | exact rfl | assumption)) | (apply q8; (first | exact rfl | assumption)) | (apply cd_n <;> intro h) | (apply cd_t; (first | exact rfl | assumption)) | (apply cd_f; (first | exact rfl | assumption)) | (apply cd_d <;> intro h) | (apply cd_s <;> intro h))
   | apply z6
   | apply qq
   | (refine qf Tryz.call50 (qho st _ _ _ _ 0 1 0 _ _ rfl rfl rfl) ?_))
  exact qi rfl (yj rfl) ⟨rfl, xh _ _ _ _⟩
 ·rintro pre x rest _ hr ⟨q, hq, t, ext, rfl⟩
  have hlen : b.length = pre.length + (rest.length + 1) := by rw [hr]; simp
  have hget : (b.map qb7)[pre.length]? = some (qb7 x) := by rw [hr]; simp
  have hxb := hB x (by rw [hr]; simp)
  have hxg := hg x (by rw [hr]; simp)
  obtain ⟨hfl, hfg⟩ := qpo hxg
  have hpl := qm5 pre (fun y hy => hB y (by rw [hr]; simp [hy])) (fun y hy => hg y (by rw [hr]; simp [hy]))
  have hll := qps x hxb.id1 hxb.id2
  have hfo := qg0 x.fields hfg
  have hin := qlc (xq x.fields)
  repeat' (first
   | apply qj
   | apply qp
   | apply qc
   | apply qg
   | apply qh
   | apply qb
   | (apply qx; exact rfl; exact rfl)
   | (apply qm; (iterate 3 exact rfl))
   | (apply qe; exact rfl; first | (apply q5; (first | assumption | omega)) | (apply q6; (first | assumption | omega)) | (apply q7; (first | exact rfl | assumption)) | (apply q8; (first | exact rfl | assumption)) | (apply cd_n <;> intro h) | (apply cd_t; (first | exact rfl | assumption)) | (apply cd_f; (first | exact rfl | assumption)) | (apply cd_d <;> intro h) | (apply cd_s <;> intro h))
   | (apply zq; exact rfl; exact rfl; (first | omega | (simp only [List.length_append, List.length_cons, List.length_nil]; omega) | (simp; omega)))
   | (apply zl; exact rfl; exact rfl)
   | (apply zj; exact rfl; exact rfl)
   | (apply qu; (iterate 3 exact rfl))
   | (apply zc; (iterate 3 exact rfl))
   | (apply ze; (iterate 5 exact rfl))
   | (apply za; (iterate 11 exact rfl))
   | (apply zr; (iterate 9 exact rfl))
   | apply qs
   | (apply qf; exact Tryz.call46; exact qwi _ _ hfl hfg)
   | (apply qf; exact Tryz.call48; exact q5h _ _ hxb.id1 hxb.id2)
   | (apply qf; exact Tryz.call49; exact q1y _ _ _ (by omega) (by decide))
   | (apply q4 (n := pre.length); (iterate 5 exact rfl); exact hget))
  refine qf Tryz.call47 (qix st _ _ _ _ 0 1 0 _ _ _ rfl rfl ?_ ?_ rfl) ?_; (exact hq); (simp only [List.length_append, List.length_cons, List.length_nil]; omega)
  repeat' (first
   | apply qc
   | apply qg
   | apply qh
   | (apply zy; exact rfl; exact rfl; exact ql (by omega) (by omega)))
  refine ⟨_, .inr rfl, qal ⟨rfl, rfl, rfl, ?_, trivial⟩ ?_⟩
  ·rw [qcq pre x]; rfl
  ·have e : encF (pre ++ [x]) = encF pre ++ ((xi x ++ [10]) ++ qav [32, 32] (xq x.fields)) := by rw [q2p, q2w]; rfl
   rw [e]; rfl
theorem qpv (b : List z1) (st : List AObj) (e : ErrV) (hB : ∀ x ∈ b, EdB x) (hl : b.length < 9223372036854775808) (he : eErr b = e) (h0 : e.code ≠ 0) : qt E 15 [qbr b] st fun r st' => r = .tu [Sv [], errA e] ∧ st' = st := by
 refine zg (yl (zi _) (qbx _)) (qv Tryz.func15 rfl (Nat.le_of_ble_eq_true rfl) ?_)
 cases e with
 | no => exact absurd rfl h0
 | num n =>
  repeat' (first
   | apply qj
   | apply qc
   | apply qg
   | apply qh
   | apply qb
   | (apply qe; exact rfl; first | (apply q5; (first | assumption | omega)) | (apply q6; (first | assumption | omega)) | (apply q7; (first | exact rfl | assumption)) | (apply q8; (first | exact rfl | assumption)) | (apply cd_n <;> intro h) | (apply cd_t; (first | exact rfl | assumption)) | (apply cd_f; (first | exact rfl | assumption)) | (apply cd_d <;> intro h) | (apply cd_s <;> intro h))
   | (apply zo; exact rfl; exact rfl)
   | apply qq
   | (apply qf; exact Tryz.call45; exact qmd _ _ _ he hB hl))
  exact qi rfl (yj rfl) ⟨rfl, _, rfl⟩
 | at' a n =>
  repeat' (first
   | apply qj
   | apply qc
   | apply qg
   | apply qh
   | apply qb
   | (apply qe; exact rfl; first | (apply q5; (first | assumption | omega)) | (apply q6; (first | assumption | omega)) | (apply q7; (first | exact rfl | assumption)) | (apply q8; (first | exact rfl | assumption)) | (apply cd_n <;> intro h) | (apply cd_t; (first | exact rfl | assumption)) | (apply cd_f; (first | exact rfl | assumption)) | (apply cd_d <;> intro h) | (apply cd_s <;> intro h))
   | (apply zo; exact rfl; exact rfl)
   | apply qq
   | (apply qf; exact Tryz.call45; exact qmd _ _ _ he hB hl))
  exact qi rfl (yj rfl) ⟨rfl, _, rfl⟩
end Go.Proofs.YtefmcijohgpfhaaGreatDoor
set_option maxRecDepth 100000
set_option linter.unusedVariables false
namespace Go.Av
open Go Go.RowKit
theorem qt1 {b : Nat} {st l : List AObj} {sz : Nat} {T : TypeId} {xs : List AV} {c : AV} (h : TipO b st sz T xs c) : TipO b (st ++ l) sz T xs c := by
 rcases h with h | h
 ·exact .inl (qgi h)
 ·exact .inr h
theorem qvr {b : Nat} {st st' : List AObj} {sz : Nat} {T : TypeId} {xs : List AV} {c : AV} (hs : ∀ (t m sz : Nat) (T : TypeId), st[t]? = some (AObj.tip m sz T) → st'[t]? = st[t]?) (h : TipO b st sz T xs c) : TipO b st' sz T xs c := by
 rcases h with (h | ⟨t, h1, h2, h3⟩) | h
 ·exact .inl (.inl h)
 ·exact .inl (.inr ⟨t, h1, (hs t _ _ _ h2).trans h2, h3⟩)
 ·exact .inr h
end Go.Av
namespace Go.Proofs.YtefmcijohgpfhaaGreatDoor
open Go Go.Av Go.RowKit Go.Proofs Go.Pl
theorem q36 {st l : List AObj} : st.length ≤ (st ++ l).length := by simp
theorem qx9 {b o : Nat} {st : List AObj} {sz : Nat} {T : TypeId} {xs : List AV} {c : AV} {x : AObj} (h : TipO b st sz T xs c) (hn : qgj st[o]?) : TipO b (st.set o x) sz T xs c :=
 qvr (fun t m sz T ht => List.getElem?_set_ne (fun e => by subst e; exact hn _ _ _ ht)) h
structure OutI (st : List AObj) (S : List AObj) : Prop where
 low : ∀ j, j < st.length → S[j]? = st[j]?
 len : st.length ≤ S.length
theorem OutI.pre {st S l : List AObj} (h : OutI st S) : OutI st (S ++ l) := ⟨fun j hj => (List.getElem?_append_left (by have := h.len; omega)).trans (h.low j hj), by have := h.len; simp; omega⟩
theorem OutI.set {st S : List AObj} {o : Nat} {x : AObj} (h : OutI st S) (ho : st.length ≤ o) : OutI st (S.set o x) := ⟨fun j hj => (qlt (by omega)).trans (h.low j hj), by have := h.len; simp; omega⟩
theorem OutI.fr {st S S' : List AObj} {t : Nat} (h : OutI st S) (hf : Fr S S' t) (ht : st.length ≤ t) : OutI st S' := ⟨fun j hj => (hf.same j (by omega) (by have := h.len; omega)).trans (h.low j hj), Nat.le_trans h.len hf.len⟩
theorem OutI.ext {st S : List AObj} (h : OutI st S) : ∃ ext, S = st ++ ext := qvh h.low
theorem qmp {E : Env} {rd : Option Nat} {N : Nat} {ops : Array Oper} {K : AS → Prop} {s : AS} {rest : List Oper} {d : Option Tmp} {T : TypeId} {p : String} {af : Array Edge} {t e : TypeId} {len sz : Nat} {agg : Bool} {parts : Array (Nat × Operand)} {zs cs : List AV} {st : List AObj} (hst : s.st = st) (hu : E.P.underlying t = some (.slice e)) (ht : tyOf E.P e = some (sz, agg)) (hz : qee E.P e len = some zs)
  (hf : qb4 (fun i => some (i * sz, sz)) zs (xl N s parts) = some cs) (hsz : Nat.ble (len * sz) 16777216 = true)
  (h : AOps E rd N ops rest K (AS.put ⟨s.t, st ++ [.cells 0 e cs], s.df⟩ d (.os st.length 0 0 len len))) : AOps E rd N ops (⟨d, .buildSlice t len parts, T, p, af, none⟩ :: rest) K s :=
 qab (loc := []) (by rw [hst]; simp) hu ht hz hf hsz h
theorem qhw (x : z1) : qk4 (qb7 x) := fun y hy => by
 simp only [AV.cells, List.mem_cons, List.not_mem_nil, or_false] at hy
 rcases hy with rfl | rfl | rfl
 ·exact zi _
 ·exact zi _
 ·exact qf6 _
theorem qhs (b : List z1) : Pure (qbr b) := qdv fun x hx => by
 obtain ⟨f, _, rfl⟩ := List.mem_map.1 hx
 exact qhw f
theorem q1m {α β : Type} (g : α → β) (l : List α) (a : α) : (l ++ [a]).map g = l.map g ++ [g a] := by simp
end Go.Proofs.YtefmcijohgpfhaaGreatDoor
set_option maxRecDepth 100000
set_option linter.unusedVariables false
namespace Go.Proofs.YtefmcijohgpfhaaGreatDoor
open Go Go.Av Go.RowKit Go.Proofs Go.Pl
def tryB (k : Int) (l : qa) : Option Int := if qbd k <+: l then (match Lib.atoiAll (l.drop (qbd k).length) with
 | .ok n => some n
 | _ => none) else none
def begE (l : qa) : Option (Int × Int) := match tryB 1 l with
 | some n => some (1, n)
 | none => match tryB 2 l with
  | some n => some (2, n)
  | none => match tryB 3 l with
   | some n => some (3, n)
   | none => none
def begA : Option (Int × Int) → AV
 | some (k, n) => .tu [qb7 ⟨k, n, []⟩, Bv true]
 | none => .tu [qb7 ⟨0, 0, []⟩, Bv false]
theorem qz0 (x : Option (Int × Int)) : Pure (begA x) := by
 rcases x with _ | ⟨k, n⟩
 ·exact yl (qjs (qhw _)) (zi _)
 ·exact yl (qjs (qhw _)) (zi _)
theorem qpt (k n : Int) : Weak (.ag [Iv k, Iv n, j9]) (qb7 ⟨k, n, []⟩) :=
 q35 rfl fun i x y hx hy => by
  match i with
  | 0 => simp at hx hy; subst hx; subst hy; exact qbb _
  | 1 => simp at hx hy; subst hx; subst hy; exact qbb _
  | 2 => simp at hx hy; subst hx; subst hy; exact qed 2
  | i + 3 => simp at hx
theorem qwm (l m : qa) (st : List AObj) (h : m <+: l) : qt E 76 [Sv l, Sv m] st fun r st' => r = .tu [Sv (l.drop m.length), Bv true] ∧ st' = st := by
 have := qdc l m st
 rw [qcb h, (yv l m).2 h] at this
 exact this
theorem qwl (l m d : qa) (st : List AObj) (h : m <+: l) (hd : l.drop m.length = d) : qt E 76 [Sv l, Sv m] st fun r st' => r = .tu [Sv d, Bv true] ∧ st' = st := by
 subst hd
 exact qwm l m st h
theorem qxm (l m : qa) (st : List AObj) (h : ¬ m <+: l) : qt E 76 [Sv l, Sv m] st fun r st' => r = .tu [Sv l, Bv false] ∧ st' = st := by
 have := qdc l m st
 have hf : Lib.hasPrefix l m = false := by
  cases hb : Lib.hasPrefix l m with
  | false => rfl
  | true => exact absurd ((yv l m).1 hb) h
 have ht : Lib.trimPrefix l m = l := by
  unfold Lib.trimPrefix
  rw [if_neg (by simp [hf])]
 rw [ht, hf] at this
 exact this
theorem q3b {l : qa} {k : Nat} {n : Int} (h1 : 1 ≤ k) (h3 : k ≤ 3) (h : ∀ j : Nat, 1 ≤ j → j < k → tryB j l = none) (hk : tryB k l = some n) : begE l = some ((k : Int), n) := by
 have : k = 1 ∨ k = 2 ∨ k = 3 := by omega
 rcases this with rfl | rfl | rfl
 ·have hk1 : tryB 1 l = some n := hk
  simp [begE, hk1]
 ·have e1 : tryB 1 l = none := h 1 (by omega) (by omega)
  have hk1 : tryB 2 l = some n := hk
  simp [begE, e1, hk1]
 ·have e1 : tryB 1 l = none := h 1 (by omega) (by omega)
  have e2 : tryB 2 l = none := h 2 (by omega) (by omega)
  have hk1 : tryB 3 l = some n := hk
  simp [begE, e1, e2, hk1]
theorem qzw {l : qa} (h : ∀ j : Nat, 1 ≤ j → j < 4 → tryB j l = none) : begE l = none := by
 have e1 : tryB 1 l = none := h 1 (by omega) (by omega)
 have e2 : tryB 2 l = none := h 2 (by omega) (by omega)
 have e3 : tryB 3 l = none := h 3 (by omega) (by omega)
 simp [begE, e1, e2, e3]
theorem qyc {k : Nat} (h1 : 1 ≤ k) (h3 : k ≤ 3) : qbj (k : Int) ≠ [] ∧ ([32] ++ qbj (k : Int)) ++ [32] = qbd (k : Int) ∧ (qbj (k : Int)).length ≤ 10 := by
 have : k = 1 ∨ k = 2 ∨ k = 3 := by omega
 rcases this with rfl | rfl | rfl <;> decide
set_option maxHeartbeats 2000000 in
theorem q3n (l : qa) (st : List AObj) (hl : l.length < 1000000) : qt E 37 [Sv l] st fun r st' => r = begA (begE l) ∧ st' = st := by
 refine zg (qz0 _) (qv Tryz.func37 rfl (Nat.le_of_ble_eq_true rfl) ?_)
 repeat' (first
  | apply qj
  | apply qp
  | apply qc
  | apply qg
  | apply qb
  | (apply zj; exact rfl; exact rfl))
 refine xc (fun (k : Nat) s => 1 ≤ k ∧ k ≤ 4 ∧ (∀ j : Nat, 1 ≤ j → j < k → tryB j l = none) ∧ StE [(0, Sv l), (2, .bx (st.length + 0) 0 0), (4, Iv k)] st [.cells 0 45 [Iv 0, Iv 0, j9]] s) (fun k => 4 - k) 1 ⟨by omega, by omega, fun j h1 h2 => by omega, qci ⟨rfl, rfl, rfl, trivial⟩ rfl⟩ ?_
 rintro k _ ⟨hk1, hk4, hno, t, ext, rfl⟩
 by_cases h4 : k = 4
 ·subst h4
  have hw : qbj ((4 : Nat) : Int) = [] := by decide
  rw [qzw hno]
  repeat' (first
   | apply qj
   | apply qc
   | apply qg
   | apply qh
   | apply qb
   | (apply z0; (iterate 3 exact rfl))
   | (apply qe; exact rfl; first | (apply q5; (first | assumption | omega)) | (apply q6; (first | assumption | omega)) | (apply q7; (first | exact rfl | assumption)) | (apply q8; (first | exact rfl | assumption)) | (apply cd_n <;> intro h) | (apply cd_t; (first | exact rfl | assumption)) | (apply cd_f; (first | exact rfl | assumption)) | (apply cd_d <;> intro h) | (apply cd_s <;> intro h))
   | (apply zm; (iterate 11 exact rfl))
   | (apply zt; (iterate 3 exact rfl))
   | apply z6
   | apply qq
   | (apply qf; exact Tryz.call75; exact qn9 _ _))
  refine qi rfl (yw (yu rfl rfl rfl rfl rfl rfl) (qds (qpt 0 0) (qbb _))) ⟨rfl, xh _ _ _ _⟩
 ·obtain ⟨hw, hm, hwl⟩ := qyc hk1 (by omega)
  by_cases hp : qbd (k : Int) <+: l
  ·have hp' : ([32] ++ qbj (k : Int)) ++ [32] <+: l := by rw [hm]; exact hp
   obtain ⟨d, hd0⟩ : ∃ d, d = l.drop (qbd (k : Int)).length := ⟨_, rfl⟩
   have hd : l.drop ((([32] : qa) ++ qbj (k : Int)) ++ [32]).length = d := by rw [hm, hd0]
   have hdl : d.length < 1000000 := by rw [hd0, List.length_drop]; omega
   repeat' (first
    | apply qj
    | apply qp
    | apply qc
    | apply qg
    | apply qh
    | apply qb
    | (apply qx; exact rfl; exact rfl)
    | (apply z0; (iterate 3 exact rfl))
    | (apply qe; exact rfl; first | (apply q5; (first | assumption | omega)) | (apply q6; (first | assumption | omega)) | (apply q7; (first | exact rfl | assumption)) | (apply q8; (first | exact rfl | assumption)) | (apply cd_n <;> intro h) | (apply cd_t; (first | exact rfl | assumption)) | (apply cd_f; (first | exact rfl | assumption)) | (apply cd_d <;> intro h) | (apply cd_s <;> intro h))
    | (apply zq; exact rfl; exact rfl; (first | omega | (simp only [List.length_append, List.length_cons, List.length_nil]; omega) | (simp; omega)))
    | apply qs
    | (apply qf; exact Tryz.call75; exact qn9 _ _)
    | (apply qf; exact Tryz.call76; exact qwl _ _ _ _ hp' hd))
   refine qd2 Tryz.call77 ((qko d _ (by omega)).mono ?_)
   rintro _ _ ⟨rfl, n, x, rfl, hx⟩
   rw [hd0] at hx
   rcases x with _ | ⟨t', y⟩
   ·simp only at hx
    have htr : tryB (k : Int) l = some n := by unfold tryB; rw [if_pos hp, hx]
    rw [q3b hk1 (by omega) hno htr]
    repeat' (first
     | apply qj
     | apply qc
     | apply qg
     | apply qh
     | apply qb
     | (apply qx; exact rfl; exact rfl)
     | (apply qo; (iterate 4 exact rfl))
     | (apply kg; (first | exact rfl | assumption))
     | (apply qr; exact rfl; first | (apply jn; (first | assumption | omega)) | (apply jq; (first | assumption | omega)) | (apply jo; (first | exact rfl | assumption)) | (apply jr; (first | exact rfl | assumption)) | (apply pk_t; (first | exact rfl | assumption)) | (apply pk_f; (first | exact rfl | assumption)))
     | (apply qe; exact rfl; first | (apply q5; (first | assumption | omega)) | (apply q6; (first | assumption | omega)) | (apply q7; (first | exact rfl | assumption)) | (apply q8; (first | exact rfl | assumption)) | (apply cd_n <;> intro h) | (apply cd_t; (first | exact rfl | assumption)) | (apply cd_f; (first | exact rfl | assumption)) | (apply cd_d <;> intro h) | (apply cd_s <;> intro h))
     | (apply jg; exact rfl; exact rfl)
     | (apply zm; (iterate 11 exact rfl))
     | (apply zt; (iterate 3 exact rfl))
     | apply qq)
    refine qi rfl (yw (yu rfl rfl rfl rfl rfl rfl) (qds (qpt k n) (qbb _))) ⟨rfl, xh _ _ _ _⟩
   ·simp only at hx
    have htr : tryB (k : Int) l = none := by
     unfold tryB
     rw [if_pos hp]
     split
     ·rename_i v hv; exact absurd hv (hx v)
     ·rfl
    repeat' (first
     | apply qj
     | apply qc
     | apply qg
     | apply qh
     | apply qb
     | (apply qx; exact rfl; exact rfl)
     | (apply qo; (iterate 4 exact rfl))
     | (apply kg; (first | exact rfl | assumption))
     | (apply qr; exact rfl; first | (apply jn; (first | assumption | omega)) | (apply jq; (first | assumption | omega)) | (apply jo; (first | exact rfl | assumption)) | (apply jr; (first | exact rfl | assumption)) | (apply pk_t; (first | exact rfl | assumption)) | (apply pk_f; (first | exact rfl | assumption)))
     | (apply qe; exact rfl; first | (apply q5; (first | assumption | omega)) | (apply q6; (first | assumption | omega)) | (apply q7; (first | exact rfl | assumption)) | (apply q8; (first | exact rfl | assumption)) | (apply cd_n <;> intro h) | (apply cd_t; (first | exact rfl | assumption)) | (apply cd_f; (first | exact rfl | assumption)) | (apply cd_d <;> intro h) | (apply cd_s <;> intro h))
     | (apply zy; exact rfl; exact rfl; exact ql (by omega) (by omega))
     | (apply z8; exact rfl; exact rfl)
     | apply qs)
    refine ⟨k + 1, ⟨by omega, by omega, fun j h1 h2 => ?_, qal ⟨rfl, rfl, rfl, trivial⟩ rfl⟩, by omega⟩
    by_cases hjk : j = k
    ·subst hjk; exact htr
    ·exact hno j h1 (by omega)
  ·have hp' : ¬ ([32] ++ qbj (k : Int)) ++ [32] <+: l := by rw [hm]; exact hp
   have htr : tryB (k : Int) l = none := by unfold tryB; rw [if_neg hp]
   repeat' (first
    | apply qj
    | apply qp
    | apply qc
    | apply qg
    | apply qh
    | apply qb
    | (apply qx; exact rfl; exact rfl)
    | (apply z0; (iterate 3 exact rfl))
    | (apply qe; exact rfl; first | (apply q5; (first | assumption | omega)) | (apply q6; (first | assumption | omega)) | (apply q7; (first | exact rfl | assumption)) | (apply q8; (first | exact rfl | assumption)) | (apply cd_n <;> intro h) | (apply cd_t; (first | exact rfl | assumption)) | (apply cd_f; (first | exact rfl | assumption)) | (apply cd_d <;> intro h) | (apply cd_s <;> intro h))
    | (apply zq; exact rfl; exact rfl; (first | omega | (simp only [List.length_append, List.length_cons, List.length_nil]; omega) | (simp; omega)))
    | apply qs
    | (apply qf; exact Tryz.call75; exact qn9 _ _)
    | (apply qf; exact Tryz.call76; exact qxm _ _ _ hp'))
   refine qd2 Tryz.call77 ((qko l _ (by omega)).mono ?_)
   rintro _ _ ⟨rfl, n, x, rfl, hx⟩
   rcases x with _ | ⟨t', y⟩
   all_goals
    repeat' (first
     | apply qj
     | apply qc
     | apply qg
     | apply qh
     | apply qb
     | (apply qx; exact rfl; exact rfl)
     | (apply qo; (iterate 4 exact rfl))
     | (apply ju; (first | exact rfl | assumption))
     | (apply qr; exact rfl; first | (apply jn; (first | assumption | omega)) | (apply jq; (first | assumption | omega)) | (apply jo; (first | exact rfl | assumption)) | (apply jr; (first | exact rfl | assumption)) | (apply pk_t; (first | exact rfl | assumption)) | (apply pk_f; (first | exact rfl | assumption)))
     | (apply qe; exact rfl; first | (apply q5; (first | assumption | omega)) | (apply q6; (first | assumption | omega)) | (apply q7; (first | exact rfl | assumption)) | (apply q8; (first | exact rfl | assumption)) | (apply cd_n <;> intro h) | (apply cd_t; (first | exact rfl | assumption)) | (apply cd_f; (first | exact rfl | assumption)) | (apply cd_d <;> intro h) | (apply cd_s <;> intro h))
     | (apply zy; exact rfl; exact rfl; exact ql (by omega) (by omega))
     | apply qs)
    refine ⟨k + 1, ⟨by omega, by omega, fun j h1 h2 => ?_, qal ⟨rfl, rfl, rfl, trivial⟩ rfl⟩, by omega⟩
    by_cases hjk : j = k
    ·subst hjk; exact htr
    ·exact hno j h1 (by omega)
def recsF (its : List w9) : List (List Fld) := (its.filter fun x => decide (x.kind = 3)).map w9.fields
@[reducible] def q25 (ls : List (List Fld)) : AV := .sl 1 (ls.map qa1) none
theorem qxn (ls : List (List Fld)) : Pure (q25 ls) := qdv fun x hx => by
 obtain ⟨f, _, rfl⟩ := List.mem_map.1 hx
 intro y hy
 simp only [AV.cells, List.mem_cons, List.not_mem_nil, or_false] at hy
 subst hy
 exact qf6 _
theorem qu8 (l : List w9) (x : w9) (h : x.kind = 3) : recsF (l ++ [x]) = recsF l ++ [x.fields] := by simp [recsF, h]
theorem qug (l : List w9) (x : w9) (h : ¬ x.kind = 3) : recsF (l ++ [x]) = recsF l := by simp [recsF, h]
theorem q3d {b t1 : Nat} {st st' : List AObj} {sz : Nat} {T : TypeId} {xs : List AV} {c c0 : AV} {sz0 : Nat} {xs0 : List AV} (hf : Fr st st' t1) (hid : c0 = .sl sz0 xs0 (some t1) ∨ st.length ≤ t1) (h0 : ∀ t, c0 ≠ .sl sz0 xs0 (some t)) (h : TipO b st sz T xs c) : TipO b st' sz T xs c :=
 qvr (fun t m sz T ht => hf.same t (fun e => by
  subst e
  rcases hid with hid | hid
  ·exact h0 _ hid
  ·have := lt_of_getElem? ht; omega) (lt_of_getElem? ht)) h
theorem q2d {b t1 : Nat} {st st' : List AObj} {sz : Nat} {T : TypeId} {xs : List AV} {c : AV} {sz0 : Nat} {xs0 : List AV} {o v f l k : Nat} (hf : Fr st st' t1) (hid : AV.os o v f l k = .sl sz0 xs0 (some t1) ∨ st.length ≤ t1) (h : TipO b st sz T xs c) : TipO b st' sz T xs c :=
 q3d hf hid (by simp) h
set_option maxHeartbeats 2000000 in
theorem q0z (its : List w9) (st : List AObj) (hl : its.length < 1000000) (hf : ∀ x ∈ its, x.fields.length < 1000000) : qt E 79 [y3 its] st fun r st' => r = q25 (recsF its) ∧ st' = st := by
 refine zg (qxn _) (qv Tryz.func79 rfl (Nat.le_of_ble_eq_true rfl) ?_)
 have hml : (its.map yy).length = its.length := by simp
 rw [List.append_nil]
 repeat' (first
  | apply qj
  | apply qp
  | apply qc
  | apply qg
  | apply qh
  | apply qb
  | (apply zk; (iterate 4 exact rfl)))
 refine qap its (fun pre s => ∃ c S, OutI st S ∧ TipO st.length S 1 43 ((recsF pre).map qa1) c ∧ StA [(3, c), (6, y3 its), (7, Iv its.length), (8, Iv pre.length)] S [] s) ⟨_, st, ⟨fun _ _ => rfl, Nat.le_refl _⟩, q07 .., x2 ⟨rfl, rfl, congrArg (fun n : Nat => Iv (n : Int)) hml, rfl, trivial⟩⟩ ?_ ?_
 ·rintro _ ⟨c, S, hO, hT, t, rfl⟩
  repeat' (first
   | apply qj
   | apply qc
   | apply qg
   | apply qh
   | apply qb
   | (apply qm; (iterate 3 exact rfl))
   | (apply qe; exact rfl; first | (apply q5; (first | assumption | omega)) | (apply q6; (first | assumption | omega)) | (apply q7; (first | exact rfl | assumption)) | (apply q8; (first | exact rfl | assumption)) | (apply cd_n <;> intro h) | (apply cd_t; (first | exact rfl | assumption)) | (apply cd_f; (first | exact rfl | assumption)) | (apply cd_d <;> intro h) | (apply cd_s <;> intro h))
   | apply z6
   | apply qq)
  exact qi rfl (yw (zf rfl) (qm4 hT)) ⟨rfl, hO.ext⟩
 ·rintro pre x rest _ hr ⟨c, S, hO, hT, t, rfl⟩
  have hlen : its.length = pre.length + (rest.length + 1) := by rw [hr]; simp
  have hget : (its.map yy)[pre.length]? = some (yy x) := by rw [hr]; simp
  have hxf := hf x (by rw [hr]; simp)
  have hpl : (recsF pre).length ≤ pre.length := by unfold recsF; rw [List.length_map]; exact List.length_filter_le _ _
  have hSl := hO.len
  have hO1 : OutI st ((S ++ [AObj.cells 0 152 [Iv 0, Sv [], j9]]).set S.length (.cells 0 152 (yy x).cells)) := hO.pre.set hSl
  have hT1 : TipO st.length ((S ++ [AObj.cells 0 152 [Iv 0, Sv [], j9]]).set S.length (.cells 0 152 (yy x).cells)) 1 43 ((recsF pre).map qa1) c := qx9 (qt1 hT) (qbv qa3)
  have hob : ((S ++ [AObj.cells 0 152 [Iv 0, Sv [], j9]]).set S.length (.cells 0 152 (yy x).cells))[S.length]? = some (.cells 0 152 (yy x).cells) := x3 qa3
  by_cases h3 : x.kind = 3
  ·skip
   repeat' (first
    | (apply qmp (st := (S ++ [AObj.cells 0 152 [Iv 0, Sv [], j9]]).set S.length (.cells 0 152 (yy x).cells)); (iterate 6 exact rfl))
    | (apply qzy 19 rfl (qm4 g1); apply zr; (iterate 9 exact rfl))
    | apply qj
    | apply qp
    | apply qc
    | apply qg
    | apply qh
    | apply qb
    | (apply qm; (iterate 3 exact rfl))
    | (apply qe; exact rfl; first | (apply q5; (first | assumption | omega)) | (apply q6; (first | assumption | omega)) | (apply q7; (first | exact rfl | assumption)) | (apply q8; (first | exact rfl | assumption)) | (apply cd_n <;> intro h) | (apply cd_t; (first | exact rfl | assumption)) | (apply cd_f; (first | exact rfl | assumption)) | (apply cd_d <;> intro h) | (apply cd_s <;> intro h))
    | (apply zy; exact rfl; exact rfl; exact ql (by omega) (by omega))
    | (apply qu; (iterate 3 exact rfl))
    | (apply zc; (iterate 3 exact rfl))
    | apply qs
    | (apply w6; exact rfl; exact hob; exact rfl; exact rfl)
    | (apply w6; exact rfl; exact qb1 hob; exact rfl; exact rfl)
    | (apply qhx (st := S); exact rfl; exact rfl)
    | (apply y8; exact rfl; exact rfl; (focus first | assumption | (repeat' (first | assumption | exact qa3 | exact vg rfl | apply x3 | apply w8 | omega | apply qb1))); (iterate 6 exact rfl))
    | (apply q4 (n := pre.length); (iterate 5 exact rfl); exact hget)
    | (apply qkq (b := st.length) (xs := []) (ys := x.fields.map fldA) (bytes := 32);  (iterate 5 exact rfl); exact ⟨⟨_, _, rfl, rfl, rfl, rfl, rfl⟩⟩; exact q32 _ _ _ _ _ _ _; (exact Nat.le_trans hO1.len q36); (first | exact rfl | exact qn fun _ => rfl); ((simp [maxLen]; omega)); ((simp; omega)); intro c1 S1 t1 g1 g2 g3 g4)
    | (apply qkq (b := st.length) (xs := (recsF pre).map qa1) (ys := [qa1 x.fields]) (bytes := 24);  (iterate 5 exact rfl); exact ⟨⟨_, _, rfl, rfl, rfl, rfl, rfl⟩⟩; exact q2d g2 g4 (qt1 hT1); (exact (hO1.pre.fr g2 g3).len); (first | exact rfl | exact qn fun _ => rfl); ((simp [maxLen]; omega)); ((simp; omega)); intro c2 S2 t2 k1 k2 k3 k4))
   exact ⟨c2, S2, (hO1.pre.fr g2 g3).fr k2 k3, by rw [qu8 _ _ h3, q1m]; exact k1, x2 ⟨rfl, rfl, rfl, qd6 pre x, trivial⟩⟩
  ·skip
   repeat' (first
    | apply qj
    | apply qp
    | apply qc
    | apply qg
    | apply qh
    | (apply qm; (iterate 3 exact rfl))
    | (apply qe; exact rfl; first | (apply q5; (first | assumption | omega)) | (apply q6; (first | assumption | omega)) | (apply q7; (first | exact rfl | assumption)) | (apply q8; (first | exact rfl | assumption)) | (apply cd_n <;> intro h) | (apply cd_t; (first | exact rfl | assumption)) | (apply cd_f; (first | exact rfl | assumption)) | (apply cd_d <;> intro h) | (apply cd_s <;> intro h))
    | (apply zy; exact rfl; exact rfl; exact ql (by omega) (by omega))
    | (apply qu; (iterate 3 exact rfl))
    | (apply zc; (iterate 3 exact rfl))
    | apply qs
    | (apply w6; exact rfl; exact hob; exact rfl; exact rfl)
    | (apply qhx (st := S); exact rfl; exact rfl)
    | (apply y8; exact rfl; exact rfl; (focus first | assumption | (repeat' (first | assumption | exact qa3 | exact vg rfl | apply x3 | apply w8 | omega | apply qb1))); (iterate 6 exact rfl))
    | (apply q4 (n := pre.length); (iterate 5 exact rfl); exact hget))
   exact ⟨c, _, hO1, by rw [qug _ _ h3]; exact hT1, x2 ⟨rfl, rfl, rfl, qd6 pre x, trivial⟩⟩
end Go.Proofs.YtefmcijohgpfhaaGreatDoor
