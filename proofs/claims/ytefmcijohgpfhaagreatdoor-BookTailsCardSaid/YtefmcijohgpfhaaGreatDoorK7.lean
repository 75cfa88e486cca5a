/- Contracts and plain facts that the closing text leans on (part 7). No condition of their own beyond those that each states. -/
import Derived.Test.YtefmcijohgpfhaaGreatDoorK6
import Derived.Laws.StructEq
set_option maxRecDepth 100000
set_option linter.unusedVariables false
set_option linter.unusedSimpArgs false
set_option linter.unusedVariables false
namespace Go.Av
open Go Go.RowKit
def cf {α : Type} (L : Nat → Bool) : Nat → List (List (Nat × α)) → List (Nat × α) → List (Nat × α)
 | _, [], base => base
 | i, c :: r, base => cf L (i + 1) r (bif L i then c ++ base else base)
def xx {α : Type} (L : Nat → Bool) (k : Nat) : Nat → List (List (Nat × α)) → Option α
 | _, [] => none
 | i, c :: r => match xx L k (i + 1) r with
  | some v => some v
  | none => bif L i then lkS c k else none
theorem qdb {α : Type} (L : Nat → Bool) (k : Nat) : ∀ (i : Nat) (chs : List (List (Nat × α))) (base : List (Nat × α)), lkS (cf L i chs base) k = match xx L k i chs with | some v => some v | none => lkS base k
 | _, [], _ => rfl
 | i, c :: r, base => by
  simp only [cf, xx]
  rw [qdb L k (i + 1) r]
  cases xx L k (i + 1) r with
  | some v => rfl
  | none =>
   cases L i with
   | true => simp only [cond_true]; rw [qgv]; cases lkS c k <;> rfl
   | false => rfl
theorem qcr {α : Type} {L L' : Nat → Bool} {k : Nat} : ∀ {i : Nat} {chs : List (List (Nat × α))}, (∀ j c, chs[j]? = some c → lkS c k ≠ none → L (i + j) = L' (i + j)) → xx L k i chs = xx L' k i chs
 | _, [], _ => rfl
 | i, c :: r, h => by
  simp only [xx]
  rw [qcr (L := L) (L' := L') (i := i + 1) (chs := r) fun j c hc hl => by
   have := h (j + 1) c (by simpa using hc) hl
   rw [show i + 1 + j = i + (j + 1) by omega]
   exact this]
  cases xx L' k (i + 1) r with
  | some v => rfl
  | none =>
   simp only
   cases hl : lkS c k with
   | none => cases L i <;> cases L' i <;> rfl
   | some v =>
    have := h 0 c rfl (by rw [hl]; simp)
    rw [Nat.add_zero] at this
    rw [this]
theorem qga {α : Type} {L : Nat → Bool} {k : Nat} {v : α} : ∀ {i : Nat} {chs : List (List (Nat × α))}, xx L k i chs = some v → ∃ j c, chs[j]? = some c ∧ L (i + j) = true ∧ lkS c k = some v
 | _, [], h => by simp [xx] at h
 | i, c :: r, h => by
  simp only [xx] at h
  cases hr : xx L k (i + 1) r with
  | some w =>
   rw [hr] at h
   simp only [Option.some.injEq] at h
   subst h
   obtain ⟨j, c', h1, h2, h3⟩ := qga hr
   exact ⟨j + 1, c', by simpa using h1, by rw [show i + (j + 1) = i + 1 + j by omega]; exact h2, h3⟩
  | none =>
   rw [hr] at h
   simp only at h
   cases hL : L i with
   | true => rw [hL] at h; exact ⟨0, c, rfl, hL, h⟩
   | false => rw [hL] at h; simp at h
theorem qjz {α : Type} {L : Nat → Bool} {k : Nat} : ∀ {i j0 : Nat} {chs : List (List (Nat × α))} {c0 : List (Nat × α)}, chs[j0]? = some c0 → (∀ j c, j0 < j → chs[j]? = some c → L (i + j) = true → lkS c0 k ≠ none → lkS c k = none) →
  xx (addL L (i + j0)) k i chs = match lkS c0 k with | some v => some v | none => bif L (i + j0) then xx (addL L (i + j0)) k i chs else xx L k i chs
 | _, _, [], _, h, _ => by simp at h
 | i, 0, c :: r, c0, h, hd => by
  simp only [List.getElem?_cons_zero, Option.some.injEq] at h
  subst h
  have hr : xx (addL L (i + 0)) k (i + 1) r = xx L k (i + 1) r := qcr fun j c _ _ => by
   unfold addL
   rw [vp (by omega), Bool.false_or]
  have ha : addL L (i + 0) i = true := by simp [addL]
  cases hl : lkS c k with
  | some v =>
   have hn : xx L k (i + 1) r = none := by
    cases hq : xx L k (i + 1) r with
    | none => rfl
    | some w =>
     obtain ⟨j, c', h1, h2, h3⟩ := qga hq
     have := hd (j + 1) c' (by omega) (by simpa using h1) (by rw [show i + (j + 1) = i + 1 + j by omega]; exact h2) (by rw [hl]; simp)
     rw [this] at h3
     simp at h3
   simp only [xx, hr, hn, ha, cond_true, hl]
  | none =>
   cases hLi : L (i + 0) with
   | true => rfl
   | false =>
    simp only [cond_false, xx, hr, ha, cond_true, hl]
    rw [Nat.add_zero] at hLi
    rw [hLi]
    cases xx L k (i + 1) r <;> rfl
 | i, j0 + 1, c :: r, c0, h, hd => by
  have ih := qjz (L := L) (k := k) (i := i + 1) (j0 := j0) (chs := r) (c0 := c0) (by simpa using h) fun j c hj hc hL hl => hd (j + 1) c (by omega) (by simpa using hc) (by rw [show i + (j + 1) = i + 1 + j by omega]; exact hL) hl
  rw [show i + 1 + j0 = i + (j0 + 1) by omega] at ih
  have hi : addL L (i + (j0 + 1)) i = L i := by
   unfold addL
   rw [vp (by omega), Bool.false_or]
  cases hl : lkS c0 k with
  | some v => rw [hl] at ih; simp only [xx, ih]
  | none =>
   rw [hl] at ih
   simp only at ih
   cases hLi : L (i + (j0 + 1)) with
   | true => rfl
   | false =>
    rw [hLi] at ih
    simp only [cond_false] at ih ⊢
    simp only [xx, ih, hi]
theorem qik {α : Type} : ∀ {L : Nat → Bool} {i : Nat} {chs : List (List (Nat × α))} {base : List (Nat × α)}, (∀ j, j < chs.length → L (i + j) = false) → cf L i chs base = base
 | _, _, [], _, _ => rfl
 | L, i, c :: r, base, h => by
  have h0 := h 0 (by simp)
  rw [Nat.add_zero] at h0
  simp only [cf, h0, cond_false]
  exact qik fun j hj => by
   have := h (j + 1) (by simpa using hj)
   rw [show i + 1 + j = i + (j + 1) by omega]
   exact this
structure Tr where
 rd : List Nat
 dst : Option Nat
 e : Ef
 nx : Nat
def Tr.sch (t : Tr) : List (Nat × SV) := match t.dst with
 | some d => [(d, t.e.val)]
 | none => []
def runT : List Tr → Conf → Conf
 | [], C => C
 | t :: r, C => runT r (C.app t.dst t.e)
theorem q4b (C : Conf) (t : Tr) : (C.app t.dst t.e).sl = t.sch ++ C.sl := by
 unfold Conf.app Tr.sch
 cases t.dst <;> rfl
theorem qid : ∀ (tr : List Tr) (i0 n : Nat) (C : Conf), cf (fun j => Nat.blt j (i0 + n)) i0 (tr.map Tr.sch) C.sl = (runT (tr.take n) C).sl ∧ cf (fun j => Nat.blt j (i0 + n)) i0 (tr.map fun t => t.e.ch) C.hp = (runT (tr.take n) C).hp
 | [], _, n, C => by simp [cf, runT]
 | t :: r, i0, 0, C => by
  have hf : ∀ {m : Nat} (j : Nat), j < m → Nat.blt (i0 + j) (i0 + 0) = false := fun j _ => by
   cases hb : Nat.blt (i0 + j) (i0 + 0) with
   | false => rfl
   | true => have := yh hb; omega
  exact ⟨qik fun j hj => hf j hj, qik fun j hj => hf j hj⟩
 | t :: r, i0, n + 1, C => by
  have hb : Nat.blt i0 (i0 + (n + 1)) = true := qcm (by omega)
  have ih := qid r (i0 + 1) n (C.app t.dst t.e)
  rw [show i0 + 1 + n = i0 + (n + 1) by omega] at ih
  simp only [List.map_cons, cf, hb, cond_true, List.take_succ_cons, runT]
  rw [← q4b]
  exact ih
def qoa (ch : List (Nat × Option SR)) : List Nat := ch.map Prod.fst
def qcv (a b : List Nat) : Bool := a.all fun x => !memN b x
def dstL : Option Nat → List Nat
 | some d => [d]
 | none => []
def indT (a b : Tr) : Bool :=
 qcv (dstL a.dst) b.rd && qcv (dstL a.dst) (dstL b.dst) && qcv (dstL b.dst) a.rd &&
 qcv (qoa a.e.ch) b.e.ks && qcv (qoa a.e.ch) (qoa b.e.ch) && qcv (qoa b.e.ch) a.e.ks &&
 b.e.val.all (fun k => Nat.blt k a.nx || Nat.ble a.e.nx k) && b.e.ch.all (fun q => (Nat.blt q.1 a.nx || Nat.ble a.e.nx q.1) && match q.2 with
  | some r => r.all fun k => Nat.blt k a.nx || Nat.ble a.e.nx k
  | none => true)
def qf8 (o : Oper) (acc : List Nat) : Nat := (qcc o).foldl (fun m d => (m ||| 2 ^ d) ||| acc.getD d 0) 0
def ancs : List Oper → List Nat → List Nat
 | [], acc => acc
 | o :: r, acc => ancs r (acc ++ [qf8 o acc])
inductive AncR (l : List Oper) : Nat → Nat → Prop
 | dep {i j : Nat} {o : Oper} (ho : l[j]? = some o) (hi : i ∈ qcc o) : AncR l i j
 | step {i d j : Nat} {o : Oper} (ho : l[j]? = some o) (hd : d ∈ qcc o) (h : AncR l i d) : AncR l i j
theorem qx2 {l : List Oper} {acc : List Nat} (hacc : ∀ j i, (acc.getD j 0).testBit i = true → AncR l i j) {o : Oper} {j : Nat} (ho : l[j]? = some o) {i : Nat} (h : (qf8 o acc).testBit i = true) : AncR l i j := by
 unfold qf8 at h
 have key : ∀ (ds : List Nat) (m : Nat), (∀ d ∈ ds, d ∈ qcc o) → (m.testBit i = true → AncR l i j) → (ds.foldl (fun m d => (m ||| 2 ^ d) ||| acc.getD d 0) m).testBit i = true → AncR l i j := by
  intro ds
  induction ds with
  | nil => exact fun m _ hm h => hm h
  | cons d r ih =>
   intro m hd hm h
   refine ih ((m ||| 2 ^ d) ||| acc.getD d 0) (fun d' hd' => hd d' (by simp [hd'])) (fun hb => ?_) h
   rw [Nat.testBit_or, Nat.testBit_or, Bool.or_eq_true, Bool.or_eq_true, Nat.testBit_two_pow] at hb
   rcases hb with (hb | hb) | hb
   ·exact hm hb
   ·have : d = i := by simpa using hb
    subst this
    exact .dep ho (hd d (by simp))
   ·exact .step ho (hd d (by simp)) (hacc d i hb)
 exact key (qcc o) 0 (fun d hd => hd) (fun h => by simp at h) h
theorem qrb {l : List Oper} : ∀ (r : List Oper) (acc : List Nat), (∀ k o, r[k]? = some o → l[acc.length + k]? = some o) → (∀ j i, (acc.getD j 0).testBit i = true → AncR l i j) → ∀ j i, ((ancs r acc).getD j 0).testBit i = true → AncR l i j
 | [], acc, _, h => h
 | o :: r, acc, hr, h => by
  refine qrb r (acc ++ [qf8 o acc]) (fun k o' hk => ?_) (fun j i hb => ?_)
  ·have := hr (k + 1) o' (by simpa using hk)
   rw [List.length_append]
   simp only [List.length_cons, List.length_nil]
   rw [show acc.length + (0 + 1) + k = acc.length + (k + 1) by omega]
   exact this
  ·by_cases hj : j < acc.length
   ·have e : (acc ++ [qf8 o acc]).getD j 0 = acc.getD j 0 := by simp [List.getD, List.getElem?_append_left hj]
    rw [e] at hb
    exact h j i hb
   ·by_cases hj' : j = acc.length
    ·subst hj'
     have e : (acc ++ [qf8 o acc]).getD acc.length 0 = qf8 o acc := by simp [List.getD]
     rw [e] at hb
     exact qx2 h (by have := hr 0 o rfl; simpa using this) hb
    ·have e : (acc ++ [qf8 o acc]).getD j 0 = 0 := by simp [List.getD, List.getElem?_eq_none (show (acc ++ [qf8 o acc]).length ≤ j by simp; omega)]
     rw [e] at hb
     simp at hb
def chkR : Nat → Tr → Nat → List Tr → List Nat → Bool
 | _, _, _, [], _ => true
 | i, a, j, b :: r, m => ((m.getD j 0).testBit i || indT a b) && chkR i a (j + 1) r m
def chkT : Nat → List Tr → List Nat → Bool
 | _, [], _ => true
 | i, a :: r, m => chkR i a (i + 1) r m && chkT (i + 1) r m
theorem qto : ∀ {i : Nat} {a : Tr} {j0 : Nat} {l : List Tr} {m : List Nat}, chkR i a j0 l m = true → ∀ j b, l[j]? = some b → (m.getD (j0 + j) 0).testBit i = true ∨ indT a b = true
 | _, _, _, [], _, _, j, b, h => by simp at h
 | i, a, j0, b :: r, m, h, j, b', hb => by
  simp only [chkR, Bool.and_eq_true, Bool.or_eq_true] at h
  cases j with
  | zero =>
   simp only [List.getElem?_cons_zero, Option.some.injEq] at hb
   subst hb
   exact h.1
  | succ j =>
   have := qto h.2 j b' (by simpa using hb)
   rw [show j0 + (j + 1) = j0 + 1 + j by omega]
   exact this
theorem qr7 : ∀ {i0 : Nat} {l : List Tr} {m : List Nat}, chkT i0 l m = true → ∀ i j a b, i < j → l[i]? = some a → l[j]? = some b → (m.getD (i0 + j) 0).testBit (i0 + i) = true ∨ indT a b = true
 | _, [], _, _, _, _, _, _, _, h, _ => by simp at h
 | i0, a :: r, m, h, i, j, a', b', hij, ha, hb => by
  simp only [chkT, Bool.and_eq_true] at h
  cases i with
  | zero =>
   simp only [List.getElem?_cons_zero, Option.some.injEq] at ha
   subst ha
   obtain ⟨j, rfl⟩ : ∃ j', j = j' + 1 := ⟨j - 1, by omega⟩
   have := qto h.1 j b' (by simpa using hb)
   rw [show i0 + (j + 1) = i0 + 1 + j by omega, Nat.add_zero]
   exact this
  | succ i =>
   obtain ⟨j, rfl⟩ : ∃ j', j = j' + 1 := ⟨j - 1, by omega⟩
   have := qr7 h.2 i j a' b' (by omega) (by simpa using ha) (by simpa using hb)
   rw [show i0 + (j + 1) = i0 + 1 + j by omega, show i0 + (i + 1) = i0 + 1 + i by omega]
   exact this
theorem qd3 {a b : List Nat} (h : qcv a b = true) {x : Nat} (hx : memN a x = true) : memN b x = false := by
 unfold memN at hx
 obtain ⟨y, hy, e⟩ := List.any_eq_true.1 hx
 have := Nat.eq_of_beq_eq_true e
 subst this
 simpa using List.all_eq_true.1 h _ hy
theorem qkm {ch : List (Nat × Option SR)} {k : Nat} (h : lkS ch k ≠ none) : memN (qoa ch) k = true := by
 cases hl : lkS ch k with
 | none => exact absurd hl h
 | some v => exact List.any_eq_true.2 ⟨k, List.mem_map.2 ⟨_, qaf hl, rfl⟩, by simp⟩
theorem qmc {t : Tr} {d : Nat} (h : lkS t.sch d ≠ none) : memN (dstL t.dst) d = true := by
 unfold Tr.sch at h
 cases ht : t.dst with
 | none => rw [ht] at h; simp [lkS] at h
 | some x =>
  rw [ht] at h
  simp only [lkS] at h
  by_cases e : x = d
  ·subst e; simp [dstL, memN]
  ·rw [vp e] at h; simp at h
def rs (rd : List Nat) (sl : List (Nat × SV)) : List (Nat × SV) := rd.filterMap fun d => match lkS sl d with
 | some v => some (d, v)
 | none => none
theorem q3j {rd : List Nat} {sl : List (Nat × SV)} {d : Nat} {v : SV} (h : lkS (rs rd sl) d = some v) : memN rd d = true ∧ lkS sl d = some v := by
 have := qaf h
 unfold rs at this
 obtain ⟨x, hx, he⟩ := List.mem_filterMap.1 this
 split at he
 ·rename_i w hw
  simp only [Option.some.injEq, Prod.mk.injEq] at he
  obtain ⟨rfl, rfl⟩ := he
  exact ⟨List.any_eq_true.2 ⟨x, hx, by simp⟩, hw⟩
 ·simp at he
theorem qsw {l : List Nat} {x : Nat} (h : memN l x = true) : x ∈ l := by
 obtain ⟨y, hy, e⟩ := List.any_eq_true.1 h
 rw [Nat.eq_of_beq_eq_true e]
 exact hy
theorem SatR.congr {S0 : List AObj} {F : Nat → Prop} {C C' : Conf} {ρ t : Nat → AV} {S : List AObj} (h : SatR S0 F C ρ t S) (h1 : ∀ d, lkS C'.sl d = lkS C.sl d) (h2 : hpF C'.hp = hpF C.hp) (h3 : C.nx ≤ C'.nx) : SatR S0 F C' ρ t S :=
 ⟨fun d v hd => h.sl d v (by rw [← h1]; exact hd), by rw [h2]; exact h.hp, by rw [h2]; exact h.own, h.low, h.len, fun d v hd => all_mono (fun k hk => qcm (by have := yh hk; omega)) v (h.wsl d v (by rw [← h1]; exact hd)), fun k r hk => by
  rw [h2] at hk
  obtain ⟨g1, g2⟩ := h.whp k r hk
  exact ⟨by omega, SR.all_mono (fun k hk => qcm (by have := yh hk; omega)) r g2⟩⟩
structure qwj (E : Env) (N : Nat) (l : List Oper) (C0 : Conf) (tr : List Tr) : Prop where
 len : tr.length = l.length
 loc : ∀ i o t, l[i]? = some o → tr[i]? = some t → Loc E N l.toArray o t.nx (rs t.rd (runT (tr.take i) C0).sl) (hpF (runT (tr.take i) C0).hp) t.e ∧ t.e.wf t.nx = true ∧ t.nx = (runT (tr.take i) C0).nx ∧ t.dst = o.dst
theorem qib {E : Env} {N : Nat} {l : List Oper} {C0 : Conf} {tr : List Tr} (h : qwj E N l C0 tr) : ∀ {i j : Nat}, i ≤ j → j ≤ tr.length → (runT (tr.take i) C0).nx ≤ (runT (tr.take j) C0).nx := by
 have step : ∀ (r : List Tr) (C : Conf) (t : Tr), (runT (r ++ [t]) C) = (runT r C).app t.dst t.e := by
  intro r
  induction r with
  | nil => exact fun C t => rfl
  | cons a r ih => exact fun C t => ih _ t
 intro i j hij
 induction hij with
 | refl => exact fun _ => Nat.le_refl _
 | step hm ih =>
  rename_i m
  intro hj
  refine Nat.le_trans (ih (by omega)) ?_
  have ht : tr[m]? = some (tr[m]'(by omega)) := List.getElem?_eq_getElem (by omega)
  have ho : l[m]? = some (l[m]'(by have := h.len; omega)) := List.getElem?_eq_getElem _
  obtain ⟨_, h2, h3, _⟩ := h.loc m _ _ ho ht
  rw [List.take_succ_eq_append_getElem (by omega), step]
  have := (qey h2).1
  rw [h3] at this
  exact this
theorem qxv {tr : List Tr} {i : Nat} {t : Tr} (ht : tr[i]? = some t) (C0 : Conf) : runT (tr.take (i + 1)) C0 = (runT (tr.take i) C0).app t.dst t.e := by
 have step : ∀ (r : List Tr) (C : Conf) (t : Tr), (runT (r ++ [t]) C) = (runT r C).app t.dst t.e := by
  intro r
  induction r with
  | nil => exact fun C t => rfl
  | cons a r ih => exact fun C t => ih _ t
 obtain ⟨hi, e⟩ := List.getElem?_eq_some_iff.1 ht
 rw [List.take_succ_eq_append_getElem hi, step, e]
def qlb (l : List Oper) (L : Nat → Bool) : Prop := ∀ j o, L j = true → l[j]? = some o → ∀ d ∈ qcc o, L d = true
theorem qlb.anc {l : List Oper} {L : Nat → Bool} (h : qlb l L) {i j : Nat} (ha : AncR l i j) : L j = true → L i = true := by
 induction ha with
 | dep ho hi => exact fun hj => h _ _ hj ho _ hi
 | step ho hd _ ih => exact fun hj => ih (h _ _ hj ho _ hd)
theorem qzh {E : Env} {rd : Option Nat} {N : Nat} {id : Nat} {l : List Oper} {B : Bs} {C0 : Conf} {tr : List Tr} {Q : Exit → AS → Prop} {s : AS} (hm : E.P.follows .mixedOrders = true) (hnd : l.toArray.all qda = true) (hd : qee 0 l = true)
  (hw : qwj E N l C0 tr) (hc : chkT 0 tr (ancs l []) = true) (hs : SatC B C0 s) (hq : ∀ s', SatC B (runT tr C0) s' → Q .normal s') : AWp E rd N (.region id l.toArray true) Q s := by
 have hlen := hw.len
 let NX := (runT tr C0).nx
 let SC := tr.map Tr.sch
 let HC := tr.map fun t : Tr => t.e.ch
 have hSC : ∀ {j : Nat} {c : List (Nat × SV)}, SC[j]? = some c → ∃ t, tr[j]? = some t ∧ c = t.sch := fun {j c} h => by
  simp only [SC, List.getElem?_map] at h
  cases ht : tr[j]? with
  | none => rw [ht] at h; simp at h
  | some t => rw [ht] at h; simp at h; exact ⟨t, rfl, h.symm⟩
 have hHC : ∀ {j : Nat} {c : List (Nat × Option SR)}, HC[j]? = some c → ∃ t, tr[j]? = some t ∧ c = t.e.ch := fun {j c} h => by
  simp only [HC, List.getElem?_map] at h
  cases ht : tr[j]? with
  | none => rw [ht] at h; simp at h
  | some t => rw [ht] at h; simp at h; exact ⟨t, rfl, h.symm⟩
 have hop : ∀ {j : Nat} {t : Tr}, tr[j]? = some t → ∃ o, l[j]? = some o := fun {j t} h => ⟨_, List.getElem?_eq_getElem (by have := lt_of_getElem? h; omega)⟩
 have htk : tr.take tr.length = tr := List.take_length
 have hnx : ∀ {j : Nat} {t : Tr}, tr[j]? = some t → t.nx = (runT (tr.take j) C0).nx ∧ t.e.nx = (runT (tr.take (j + 1)) C0).nx := fun {j t} h => by
  obtain ⟨o, ho⟩ := hop h
  refine ⟨(hw.loc j o t ho h).2.2.1, ?_⟩
  rw [qxv h]
  rfl
 have hmono : ∀ {i j : Nat} {a b : Tr}, i < j → tr[i]? = some a → tr[j]? = some b → a.e.nx ≤ b.nx := fun {i j a b} hij ha hb => by
  rw [(hnx ha).2, (hnx hb).1]
  exact qib hw (by omega) (by have := lt_of_getElem? hb; omega)
 have hNX : ∀ {j : Nat} {t : Tr}, tr[j]? = some t → t.e.nx ≤ NX := fun {j t} h => by
  rw [(hnx h).2]
  have := qib hw (i := j + 1) (j := tr.length) (by have := lt_of_getElem? h; omega) (Nat.le_refl _)
  rw [htk] at this
  exact this
 have h0nx : ∀ {j : Nat} {t : Tr}, tr[j]? = some t → C0.nx ≤ t.nx := fun {j t} h => by
  rw [(hnx h).1]
  exact qib hw (i := 0) (Nat.zero_le j) (by have := lt_of_getElem? h; omega)
 have hanc : ∀ j i, ((ancs l []).getD j 0).testBit i = true → AncR l i j := qrb l [] (fun k o hk => by simpa using hk) (fun j i h => by simp [List.getD] at h)
 have pair : ∀ {i j : Nat} {a b : Tr}, i < j → tr[i]? = some a → tr[j]? = some b → AncR l i j ∨ indT a b = true := fun {i j a b} hij ha hb => by
  have := qr7 hc i j a b hij ha hb
  rw [Nat.zero_add, Nat.zero_add] at this
  exact this.imp_left fun h => hanc j i h
 have hb0 : B.n0 ≤ C0.nx := by obtain ⟨_, h, _⟩ := hs; exact h.le
 refine qp3 hm hnd hd (fun L s => qlb l L ∧ SatC B ⟨cf L 0 SC C0.sl, cf L 0 HC C0.hp, NX⟩ s) ⟨fun j o h => by simp at h, ?_⟩ ?_ ?_
 ·obtain ⟨ρ, hdf, hR⟩ := hs
  have hC0 : C0.nx ≤ NX := by
   have := qib hw (i := 0) (j := tr.length) (Nat.zero_le _) (Nat.le_refl _)
   rw [htk] at this
   exact this
  refine ⟨ρ, hdf.nx (Nat.le_trans hdf.le hC0), hR.congr (fun d => ?_) ?_ ?_⟩
  ·rw [qik fun _ _ => rfl]
  ·show hpF (cf (fun _ => false) 0 HC C0.hp) = hpF C0.hp
   rw [qik fun _ _ => rfl]
  ·have := qib hw (i := 0) (j := tr.length) (Nat.zero_le _) (Nat.le_refl _)
   rw [htk] at this
   exact this
 ·rintro L s' hall ⟨_, ρ, hdf, hR⟩
  refine hq s' ⟨ρ, hdf.nx hdf.le, hR.congr (fun d => ?_) ?_ (Nat.le_refl _)⟩
  ·have h1 := (qid tr 0 tr.length C0).1
   rw [htk] at h1
   rw [← h1]
   simp only [qdb]
   rw [qcr (L := fun j => Nat.blt j (0 + tr.length)) (L' := L) fun j c hc _ => by
    obtain ⟨t, ht, _⟩ := hSC hc
    have hj := lt_of_getElem? ht
    rw [hall (0 + j) (by omega)]
    exact qcm (by omega)]
  ·have h1 := (qid tr 0 tr.length C0).2
   rw [htk] at h1
   rw [← h1]
   funext k
   unfold hpF
   simp only [qdb]
   rw [qcr (L := fun j => Nat.blt j (0 + tr.length)) (L' := L) fun j c hc _ => by
    obtain ⟨t, ht, _⟩ := hHC hc
    have hj := lt_of_getElem? ht
    rw [hall (0 + j) (by omega)]
    exact qcm (by omega)]
 ·-- the steps
  suffices H : ∀ (i : Nat) (o : Oper), l[i]? = some o → ∀ L s, L i = false → (∀ j, (qcc o).contains j = true → L j = true) → (qlb l L ∧ SatC B ⟨cf L 0 SC C0.sl, cf L 0 HC C0.hp, NX⟩ s) →
    AOps E none N l.toArray [o] (fun s => qlb l (addL L i) ∧ SatC B ⟨cf (addL L i) 0 SC C0.sl, cf (addL L i) 0 HC C0.hp, NX⟩ s) s by
   have gen : ∀ (r : List Oper) (i0 : Nat), (∀ k o, r[k]? = some o → l[i0 + k]? = some o) → qie E N l.toArray (fun L s => qlb l L ∧ SatC B ⟨cf L 0 SC C0.sl, cf L 0 HC C0.hp, NX⟩ s) i0 r := by
    intro r
    induction r with
    | nil => exact fun _ _ => trivial
    | cons o r ih =>
     intro i0 hr
     exact ⟨H i0 o (by have := hr 0 o rfl; simpa using this), ih (i0 + 1) fun k o' hk => by rw [show i0 + 1 + k = i0 + (k + 1) by omega]; exact hr (k + 1) o' (by simpa using hk)⟩
   exact gen l 0 fun k o hk => by simpa using hk
  rintro i o ho L ⟨t0, S, df⟩ hLi hdeps ⟨hdown, ρ, hdf, hR⟩
  simp only at hdf hR
  have hil := lt_of_getElem? ho
  obtain ⟨t, ht⟩ : ∃ t, tr[i]? = some t := ⟨_, List.getElem?_eq_getElem (by omega)⟩
  obtain ⟨hL, hwf, hnxi, hdst⟩ := hw.loc i o t ho ht
  obtain ⟨w1, w2, w3⟩ := qey hwf
  -- who has done what, told by the text
  have anc_in : ∀ {j : Nat}, AncR l j i → L j = true := fun {j} h => by
   cases h with
   | dep ho' hi =>
    rw [ho] at ho'
    simp only [Option.some.injEq] at ho'
    subst ho'
    exact hdeps j (by simpa using hi)
   | step ho' hd' h' =>
    rw [ho] at ho'
    simp only [Option.some.injEq] at ho'
    subst ho'
    exact hdown.anc h' (hdeps _ (by simpa using hd'))
  have not_after : ∀ {j : Nat}, AncR l i j → L j = false := fun {j} h => by
   cases hj : L j with
   | false => rfl
   | true => rw [hdown.anc h hj] at hLi; simp at hLi
  have agree : ∀ {j : Nat} {b : Tr}, tr[j]? = some b → (∀ (hji : j < i), indT b t = true → False) → (∀ (hij : i < j), indT t b = true → False) → L j = Nat.blt j i := fun {j b} hb h1 h2 => by
   rcases Nat.lt_trichotomy j i with hji | hji | hji
   ·rw [qcm hji]
    rcases pair hji hb ht with h | h
    ·exact anc_in h
    ·exact (h1 hji h).elim
   ·subst hji
    rw [hLi]
    cases hbb : Nat.blt j j with
    | false => rfl
    | true => have := yh hbb; omega
   ·have : Nat.blt j i = false := by
     cases hbb : Nat.blt j i with
     | false => rfl
     | true => have := yh hbb; omega
    rw [this]
    rcases pair hji ht hb with h | h
    ·exact not_after h
    ·exact (h2 hji h).elim
  have hslA : ∀ d, memN t.rd d = true → lkS (cf L 0 SC C0.sl) d = lkS (runT (tr.take i) C0).sl d := fun d hd => by
   have h1 := (qid tr 0 i C0).1
   rw [← h1]
   simp only [qdb]
   rw [qcr (L := L) (L' := fun j => Nat.blt j (0 + i)) fun j c hc hl => by
    obtain ⟨b, hb, rfl⟩ := hSC hc
    have hdm := qmc hl
    rw [Nat.zero_add, Nat.zero_add]
    refine agree hb (fun hji h => ?_) (fun hij h => ?_)
    ·simp only [indT, Bool.and_eq_true] at h
     have := qd3 h.1.1.1.1.1.1.1 hdm
     rw [hd] at this
     simp at this
    ·simp only [indT, Bool.and_eq_true] at h
     have := qd3 h.1.1.1.1.1.2 hdm
     rw [hd] at this
     simp at this]
  have hhpA : resF t.e.ks (hpF (runT (tr.take i) C0).hp) = resF t.e.ks (hpF (cf L 0 HC C0.hp)) := by
   funext k
   unfold resF
   cases hk : memN t.e.ks k with
   | false => rfl
   | true =>
    simp only [cond_true]
    have h1 := (qid tr 0 i C0).2
    rw [← h1]
    unfold hpF
    simp only [qdb]
    rw [qcr (L := fun j => Nat.blt j (0 + i)) (L' := L) fun j c hc hl => by
     obtain ⟨b, hb, rfl⟩ := hHC hc
     have hdm := qkm hl
     rw [Nat.zero_add, Nat.zero_add]
     refine (agree hb (fun hji h => ?_) (fun hij h => ?_)).symm
     ·simp only [indT, Bool.and_eq_true] at h
      have := qd3 h.1.1.1.1.2 hdm
      rw [hk] at this
      simp at this
     ·simp only [indT, Bool.and_eq_true] at h
      have := qd3 h.1.1.2 hdm
      rw [hk] at this
      simp at this]
  refine hL _ none _ [] ρ t0 S (fun d v hd' => ?_) (by rw [hhpA]; exact hR.hp.res _) fun ρ' S' hp => qa ⟨fun j o' hj ho' d hd' => ?_, ρ', ?_, ?_⟩
  ·obtain ⟨g1, g2⟩ := q3j hd'
   exact hR.sl d v (by rw [hslA d g1]; exact g2)
  ·unfold addL at hj ⊢
   rcases Bool.or_eq_true_iff.1 hj with hj | hj
   ·have := Nat.eq_of_beq_eq_true hj
    subst this
    rw [ho] at ho'
    simp only [Option.some.injEq] at ho'
    subst ho'
    rw [hdeps d (by simpa using hd'), Bool.or_true]
   ·rw [hdown j o' hj ho' d hd', Bool.or_true]
  ·have hp2 : qhh ρ S t.nx (hpF (cf L 0 HC C0.hp)) t.e ρ' S' := ⟨hp.old, by rw [← hhpA]; exact hp.sat, hp.len, by rw [← hhpA]; exact hp.fr, by rw [← hhpA]; exact hp.loc⟩
   have := hdf.stepG (C' := ⟨cf (addL L i) 0 SC C0.sl, cf (addL L i) 0 HC C0.hp, NX⟩) hR.hp hp2 (by have := hb0; have := h0nx ht; omega) hdf.le
   cases o.dst <;> exact this
  ·have hp2 : qhh ρ S t.nx (hpF (cf L 0 HC C0.hp)) t.e ρ' S' := ⟨hp.old, by rw [← hhpA]; exact hp.sat, hp.len, by rw [← hhpA]; exact hp.fr, by rw [← hhpA]; exact hp.loc⟩
   have old_lt : ∀ k, Nat.blt k C0.nx = true → (Nat.blt k t.nx || Nat.ble t.e.nx k) = true := fun k hk => by
    have := h0nx ht
    rw [qcm (by have := yh hk; omega), Bool.true_or]
   have ear_lt : ∀ {j : Nat} {b : Tr}, j < i → tr[j]? = some b → ∀ k, Nat.blt k b.e.nx = true → (Nat.blt k t.nx || Nat.ble t.e.nx k) = true := fun {j b} hji hb k hk => by
    have := hmono hji hb ht
    rw [qcm (by have := yh hk; omega), Bool.true_or]
   have lat : ∀ {j : Nat} {b : Tr}, tr[j]? = some b → L j = true → ¬ j < i → indT t b = true ∧ i < j := fun {j b} hb hLj hji => by
    have hij : i < j := by
     rcases Nat.lt_trichotomy i j with h | h | h
     ·exact h
     ·subst h; rw [hLi] at hLj; simp at hLj
     ·omega
    rcases pair hij ht hb with h | h
    ·rw [not_after h] at hLj; simp at hLj
    ·exact ⟨h, hij⟩
   have hst := hR.stepG (d := o.dst) (nx := t.nx) (NX := NX) (Nat.le_refl _) (all_mono (fun k hk => qcm (by have := yh hk; have := hNX ht; omega)) _ w2) (fun q hq' => ⟨by have := (w3 q hq').1; have := hNX ht; omega, fun r hr => SR.all_mono (fun k hk => qcm (by have := yh hk; have := hNX ht; omega)) r ((w3 q hq').2.2 r hr)⟩) (fun d v hd' => ?_) (fun k r hk => ?_) hp2
   ·refine SatR.congr (S0 := B.S0) (F := B.F) (C := ⟨match o.dst with | some d => (d, t.e.val) :: cf L 0 SC C0.sl | none => cf L 0 SC C0.sl, t.e.ch ++ cf L 0 HC C0.hp, NX⟩) ?_ (fun d => ?_) ?_ (Nat.le_refl _)
    ·cases hod : o.dst with
     | none => rw [hod] at hst; exact hst
     | some x => rw [hod] at hst; exact hst
    ·have hSi : SC[i]? = some t.sch := by simp only [SC, List.getElem?_map, ht]; rfl
     have hadd := qjz (L := L) (k := d) (i := 0) (j0 := i) hSi fun j c hij hc hLj hl => by
      obtain ⟨b, hb, rfl⟩ := hSC hc
      rw [Nat.zero_add] at hLj
      have h := (lat hb hLj (by omega)).1
      simp only [indT, Bool.and_eq_true] at h
      have h2 := qd3 h.1.1.1.1.1.1.2 (qmc hl)
      cases hq' : lkS b.sch d with
      | none => rfl
      | some w =>
       have := qmc (t := b) (d := d) (by rw [hq']; simp)
       rw [h2] at this
       simp at this
     rw [Nat.zero_add, hLi] at hadd
     simp only [cond_false] at hadd
     have e : lkS (match o.dst with | some d => (d, t.e.val) :: cf L 0 SC C0.sl | none => cf L 0 SC C0.sl) d = lkS (t.sch ++ cf L 0 SC C0.sl) d := by
      unfold Tr.sch
      rw [hdst]
      cases o.dst <;> rfl
     rw [e, qgv]
     simp only [qdb]
     rw [hadd]
     cases lkS t.sch d <;> rfl
    ·rw [qvp]
     funext k
     have hHi : HC[i]? = some t.e.ch := by simp only [HC, List.getElem?_map, ht]; rfl
     have hadd := qjz (L := L) (k := k) (i := 0) (j0 := i) hHi fun j c hij hc hLj hl => by
      obtain ⟨b, hb, rfl⟩ := hHC hc
      rw [Nat.zero_add] at hLj
      have h := (lat hb hLj (by omega)).1
      simp only [indT, Bool.and_eq_true] at h
      have h2 := qd3 h.1.1.1.2 (qkm hl)
      cases hq' : lkS b.e.ch k with
      | none => rfl
      | some w =>
       have := qkm (ch := b.e.ch) (k := k) (by rw [hq']; simp)
       rw [h2] at this
       simp at this
     rw [Nat.zero_add, hLi] at hadd
     simp only [cond_false] at hadd
     unfold chF hpF
     simp only [qdb]
     rw [hadd]
     cases lkS t.e.ch k <;> rfl
   ·simp only [qdb] at hd'
    cases hlast : xx L d 0 SC with
    | none =>
     rw [hlast] at hd'
     simp only at hd'
     obtain ⟨ρ0, _, hR0⟩ := hs
     exact all_mono old_lt v (hR0.wsl d v hd')
    | some u =>
     rw [hlast] at hd'
     simp only [Option.some.injEq] at hd'
     subst hd'
     obtain ⟨j, c, hc', hLj, hl⟩ := qga hlast
     obtain ⟨b, hb, rfl⟩ := hSC hc'
     rw [Nat.zero_add] at hLj
     obtain ⟨ob, hob⟩ := hop hb
     have hu : u = b.e.val := by
      unfold Tr.sch at hl
      cases hbd : b.dst with
      | none => rw [hbd] at hl; simp [lkS] at hl
      | some x =>
       rw [hbd] at hl
       simp only [lkS] at hl
       cases hbx : Nat.beq x d with
       | true => rw [hbx] at hl; simp only [cond_true, Option.some.injEq] at hl; exact hl.symm
       | false => rw [hbx] at hl; simp at hl
     subst hu
     by_cases hji : j < i
     ·exact all_mono (ear_lt hji hb) _ (qey (hw.loc j ob b hob hb).2.1).2.1
     ·have h := (lat hb hLj hji).1
      simp only [indT, Bool.and_eq_true] at h
      exact h.1.2
   ·have hk' := qeu hk
    simp only [qdb] at hk'
    cases hlast : xx L k 0 HC with
    | none =>
     rw [hlast] at hk'
     simp only at hk'
     obtain ⟨ρ0, _, hR0⟩ := hs
     obtain ⟨g1, g2⟩ := hR0.whp k r (by unfold hpF; rw [hk'])
     exact ⟨.inl (by have := h0nx ht; omega), SR.all_mono old_lt r g2⟩
    | some u =>
     rw [hlast] at hk'
     simp only [Option.some.injEq] at hk'
     subst hk'
     obtain ⟨j, c, hc', hLj, hl⟩ := qga hlast
     obtain ⟨b, hb, rfl⟩ := hHC hc'
     rw [Nat.zero_add] at hLj
     obtain ⟨ob, hob⟩ := hop hb
     obtain ⟨g1, _, g3⟩ := (qey (hw.loc j ob b hob hb).2.1).2.2 _ (qaf hl)
     by_cases hji : j < i
     ·exact ⟨.inl (by have := hmono hji hb ht; simp only at g1; omega), SR.all_mono (ear_lt hji hb) r (g3 r rfl)⟩
     ·have h := (lat hb hLj hji).1
      simp only [indT, Bool.and_eq_true] at h
      have h2 := List.all_eq_true.1 h.2 _ (qaf hl)
      simp only [Bool.and_eq_true, Bool.or_eq_true] at h2
      exact ⟨h2.1.imp yh Nat.le_of_ble_eq_true, h2.2⟩
def opTm : Operand → Option Nat
 | .tmp i => some i
 | _ => none
def rdOf (l : List Oper) (o : Oper) : List Nat := o.op.operands.toList.filterMap opTm ++ match o.guard with
 | some (j, _) => dstL (qqy l j)
 | none => []
def wpDr (E : Env) (N : Nat) (l : List Oper) (bxs : List Nat) : Nat → List Oper → List Tr → (List Tr → Conf → Prop) → Conf → Prop
 | _, [], tr, K, C => K tr C
 | i, o :: r, tr, K, ⟨sl, hp, nx⟩ => opG E N l bxs nx (rs (rdOf l o) sl) (hpF hp) (gdW (isGd i l) (fcE fun e => qq4 sl hp nx o.dst (wpDr E N l bxs (i + 1) r (tr ++ [⟨rdOf l o, o.dst, e, nx⟩]) K) e)) o
theorem q0g (r : List Tr) (t : Tr) : ∀ C, runT (r ++ [t]) C = (runT r C).app t.dst t.e := by
 induction r with
 | nil => exact fun C => rfl
 | cons a r ih => exact fun C => ih _
theorem qu7 {E : Env} {N : Nat} {l : List Oper} {bxs : List Nat} {C0 : Conf} {K : List Tr → Conf → Prop} : ∀ {r : List Oper} {i : Nat} {tr : List Tr} {C : Conf}, (∀ k, r[k]? = l[i + k]?) → tr.length = i → i + r.length = l.length → C = runT tr C0 →
  (∀ j o t, l[j]? = some o → tr[j]? = some t → Loc E N l.toArray o t.nx (rs t.rd (runT (tr.take j) C0).sl) (hpF (runT (tr.take j) C0).hp) t.e ∧ t.e.wf t.nx = true ∧ t.nx = (runT (tr.take j) C0).nx ∧ t.dst = o.dst) →
  wpDr E N l bxs i r tr K C → ∃ tr', qwj E N l C0 tr' ∧ K tr' (runT tr' C0)
 | [], i, tr, C, hr, hl, hn, hC, hw, h => ⟨tr, ⟨by simpa [hl] using hn, hw⟩, by rw [← hC]; exact h⟩
 | o :: r, i, tr, ⟨sl, hp, nx⟩, hr, hl, hn, hC, hw, h => by
  obtain ⟨e, hL, h⟩ := qx9 h
  obtain ⟨e, hL, h⟩ := qyj hL h
  rw [qyo] at h
  obtain ⟨hwf, h⟩ := qsr h
  ·refine qu7 (r := r) (i := i + 1) (tr := tr ++ [⟨rdOf l o, o.dst, e, nx⟩]) (fun k => ?_) (by simp [hl]) (by simp at hn; omega) (by rw [q0g, ← hC]) (fun j o' t ho ht => ?_) h
   ·have := hr (k + 1)
    rw [show i + 1 + k = i + (k + 1) by omega, ← this]
    rfl
   ·by_cases hj : j < tr.length
    ·rw [List.getElem?_append_left hj] at ht
     rw [List.take_append_of_le_length (by omega)]
     exact hw j o' t ho ht
    ·have hji : j = tr.length := by
      have := lt_of_getElem? ht
      simp at this
      omega
     subst hji
     simp only [List.getElem?_concat_length, Option.some.injEq] at ht
     subst ht
     have ho2 := hr 0
     rw [← hl, Nat.add_zero, ho] at ho2
     simp only [List.getElem?_cons_zero, Option.some.injEq] at ho2
     subst ho2
     rw [List.take_left, ← hC]
     exact ⟨hL, hwf, rfl, rfl⟩
def drB (E : Env) (l : List Oper) (tr : List Tr) : Bool := E.P.follows .mixedOrders && l.toArray.all qda && qee 0 l && chkT 0 tr (ancs l [])
structure DrOk (E : Env) (l : List Oper) (tr : List Tr) : Prop where
 ok : drB E l tr = true
theorem jt {E : Env} {rd : Option Nat} {N : Nat} {B : Bs} {Q : Exit → Conf → Prop} {C : Conf} {id : Nat} {ops : Array Oper} (bxs : List Nat)
  (h : wpDr E N ops.toList bxs 0 ops.toList [] (fun tr C' => DrOk E ops.toList tr ∧ Q .normal C') C) : Sm E rd N B (.region id ops true) Q C := ⟨fun s hs => by
 obtain ⟨tr, hw, hb, hq⟩ := qu7 (C0 := C) (l := ops.toList) (i := 0) (tr := []) (fun k => by rw [Nat.zero_add]) rfl (by simp) rfl (fun j o t _ ht => by simp at ht) h
 have hb := hb.ok
 simp only [drB, Bool.and_eq_true] at hb
 have e : ops = ops.toList.toArray := by simp
 rw [e]
 exact qzh hb.1.1.1 hb.1.1.2 hb.1.2 hw hb.2 hs fun s' hs' => ⟨_, hq, hs'⟩⟩
end Go.Av
set_option linter.unusedVariables false
namespace Go.Proofs.YtefmcijohgpfhaaGreatDoor
open Go Go.Av Go.RowKit Go.Proofs Go.Pl
def qi1 (n0 : Nat) (ks : List Nat) (sl : List (Nat × SV)) (hp : List (Nat × Option SR)) (nx : Nat) : Bool :=
 sl.all (fun q => q.2.all fun k => Nat.blt k n0) && hp.all (fun q => match q.2 with
  | some (.cells _ _) => memN ks q.1
  | _ => true) && Nat.ble n0 nx
def ksIn (n0 : Nat) (ks : List Nat) (hp : List (Nat × Option SR)) : Bool := ks.all fun k => Nat.blt k n0 && match lkS hp k with
 | some (some (.cells _ _)) => true
 | _ => false
structure RB (E : Env) (N : Nat) (F : Nat → Prop) (ρ : Nat → AV) (n0 : Nat) (body : Code) (Q : Exit → Conf → Prop) (C : Conf) : Prop where
 run : ∀ S rd, Sm E rd N ⟨S, F, ρ, n0, False⟩ body Q C
structure RA (E : Env) (N : Nat) (n0 : Nat) (asg : Code) (K : (Nat → Prop) → (Nat → AV) → Conf → Prop) (C : Conf) : Prop where
 run : ∀ S F ρ rd, Sm E rd N ⟨S, F, ρ, n0, True⟩ asg (fun e C1 => match e with
  | .normal => ∀ F', K F' ρ C1
  | _ => False) C
def q4n (Q : Exit → Conf → Prop) : Code → Conf → Prop
 | .ret => Q .ret
 | .exit id => Q (.exit id)
 | _ => fun _ => False
def qqw (k : Nat) (text rest : List UInt8) : SV := .ag [.i k, .i ((text.length : Int) - rest.length), .s (upto 10 rest), .p (10 ∈ rest) inferInstance]
theorem q1f (k : Nat) (text rest : List UInt8) (ρ : Nat → AV) : (qqw k text rest).ev ρ = qcg k text rest := rfl
@[reducible] def rndQ {X : Type} (n0 : Nat) (P : X → Prop) (D : Code → X → Prop) (C : X → Conf) (e : Exit) (C2 : Conf) : Prop := match e with
 | .normal => ∃ x, P x ∧ EntA n0 C2 (C x)
 | .ret => ∃ x, D .ret x ∧ EntA n0 C2 (C x)
 | .exit id => ∃ x, D (.exit id) x ∧ EntA n0 C2 (C x)
 | _ => False
section
variable {N : Nat} {B : Bs} {C : Conf} {Q : Exit → Conf → Prop} {rd : Option Nat}
structure RInv (B : Bs) (n0 n : Nat) (ks : List Nat) (ρ1 t : Nat → AV) (df : List Nat) (C : Conf) (S : List AObj) : Prop where
 ex : ∃ ρ, (∀ k, k < n0 → ρ k = ρ1 k) ∧ SatR B.S0 B.F C ρ t S ∧ (∀ d ∈ df, S[d]? = some .dfr) ∧ n ≤ S.length
theorem qtm {n0 n : Nat} {ks : List Nat} {ρ1 ρ : Nat → AV} {hp : List (Nat × Option SR)} {sl : List (Nat × SV)} {nx k : Nat} {T : TypeId} {cs : List SV} (hks : ∀ k ∈ ks, k < n0 ∧ ∃ o, ρ1 k = .bx o 0 0 ∧ o < n) (hr : qi1 n0 ks sl hp nx = true) (hρ : ∀ k, k < n0 → ρ k = ρ1 k) (hk : hpF hp k = some (.cells T cs)) : k < n0 ∧ ∃ o, ρ k = .bx o 0 0 ∧ o < n := by
 have h1 := qeu hk
 simp only [qi1, Bool.and_eq_true] at hr
 have := List.all_eq_true.1 hr.1.2 _ (qaf h1)
 simp only at this
 obtain ⟨g1, g2⟩ := hks k (qsw this)
 refine ⟨g1, ?_⟩
 rw [hρ k g1]
 exact g2
theorem RInv.ext {n0 n : Nat} {ks : List Nat} {ρ1 t : Nat → AV} {df : List Nat} {C : Conf} {S S' : List AObj} (h : RInv B n0 n ks ρ1 t df C S) (hks : ∀ k ∈ ks, k < n0 ∧ ∃ o, ρ1 k = .bx o 0 0 ∧ o < n) (hr : qi1 n0 ks C.sl C.hp C.nx = true) (hB : B.S0.length ≤ n) (hdn : ∀ d ∈ df, d < n) (hE : Ext n S S') : RInv B n0 n ks ρ1 t df C S' := by
 obtain ⟨ρ, hρ, hR, hd, hn⟩ := h.ex
 refine ⟨ρ, hρ, ⟨hR.sl, ⟨fun k r hk => ?_, hR.hp.sep⟩, hR.own, fun j hj hF => ?_, Nat.le_trans hR.len hE.len, hR.wsl, hR.whp⟩, fun d hdd => ?_, Nat.le_trans hn hE.len⟩
 ·refine SR.ok_of (f := fun _ => true) (SR.all_mono (fun _ _ => rfl) r (hR.whp k r hk).2) (fun _ _ => rfl) (hR.hp.ok k r hk) fun o ho => ?_
  rcases SR.ok_ct (hR.hp.ok k r hk) ho with ⟨T, cs, v, h1, T', cs', rfl⟩ | ⟨m, sz, T, h1⟩
  ·obtain ⟨_, o', h2, h3⟩ := qtm hks hr hρ hk
   rw [h2] at ho
   simp only [j4, Option.some.injEq] at ho
   subst ho
   exact hE.low _ h3
  ·exact hE.tips _ _ _ _ h1
 ·rw [hE.low j (by omega)]
  exact hR.low j hj hF
 ·rw [hE.low d (hdn d hdd)]
  exact hd d hdd
theorem qh9 {X : Type} {f : Operand} {p : Tmp} {asg body : Code} (text : List UInt8) (kb n0 : Nat) (ks : List Nat) (I : X → Conf) (sl0 : List (Nat × SV)) (P : Nat → List UInt8 → X → Prop) (D : Code → X → Prop) (x0 : X) (h0 : P 0 text x0)
  (he : EntA B.n0 C (I x0)) (hz : ¬ B.dz) (ht : text.length < 4294967281) (hsl : ∀ x, (I x).sl = sl0)
  (hf : sval N sl0 f = some (.fn (.func 113) [] [.bx kb 0]))
  (hkb : ∀ x, lkS (I x).hp kb = some (some (.cells 9 [.s text])))
  (hr : ∀ x, qi1 n0 ks (I x).sl (I x).hp (I x).nx = true) (h0r : (ksIn n0 ks (I x0).hp && Nat.ble B.n0 n0) = true)
  (hb : ∀ k rest x, P k rest x → rest ≠ [] → rest.length ≤ text.length → RA E N n0 asg (fun F ρ C1 => RB E N F ρ n0 body (rndQ n0 (P (k + 1) (past 10 rest)) D I) C1) ⟨(p, qqw k text rest) :: (I x).sl, (I x).hp, (I x).nx⟩)
  (hn : ∀ k x, P k [] x → Q .normal (I x)) (hd : ∀ c x, D c x → q4n Q c (I x)) : Sm E none N B (.rangeFunc f #[p] asg body) Q C := ⟨fun s hs => by
 obtain ⟨ts, S0, df⟩ := s
 obtain ⟨ρ0, hF0, hR0⟩ := hs
 simp only at hF0 hR0
 obtain ⟨σ, hrg, he⟩ := he.ent
 have hF1 := hF0.ren (C' := I x0) hrg
 obtain ⟨t, hw, hR1⟩ := he.sat hR0
 clear hF0 hR0 he hrg
 generalize renR σ ρ0 = ρ1 at hF1 hR1
 refine qy6 hw ?_
 simp only [Bool.and_eq_true] at h0r
 have hBn := Nat.le_of_ble_eq_true h0r.2
 have hB := hR1.len
 have hks : ∀ k ∈ ks, k < n0 ∧ ∃ o, ρ1 k = .bx o 0 0 ∧ o < S0.length := fun k hk => by
  have := List.all_eq_true.1 h0r.1 k hk
  simp only [Bool.and_eq_true] at this
  refine ⟨yh this.1, ?_⟩
  have h2 := this.2
  split at h2
  ·rename_i T cs hl
   have hk2 : hpF (I x0).hp k = some (.cells T cs) := by unfold hpF; rw [hl]
   obtain ⟨o, v, h1, h3, rfl⟩ := hR1.hp.ok k _ hk2
   exact ⟨o, h1, lt_of_getElem? h3⟩
  ·simp at h2
 have hdn : ∀ d ∈ df, d < S0.length := fun d hd => lt_of_getElem? (hF1.dm d hd).1
 have hi0 : RInv B n0 S0.length ks ρ1 t df (I x0) S0 := ⟨ρ1, fun _ _ => rfl, hR1, fun d hd => (hF1.dm d hd).1, Nat.le_refl _⟩
 have hnm : ∀ x, (sl0.all fun q => q.2.all fun k => Nat.blt k n0) = true := fun x => by
  have := hr x
  simp only [qi1, Bool.and_eq_true, hsl] at this
  exact this.1.1
 have hnm := hnm x0
 have slot : ∀ {ρ : Nat → AV}, (∀ k, k < n0 → ρ k = ρ1 k) → SlOk ρ t sl0 := fun {ρ} hρ d v hd => by
  rw [hR1.sl d v (by rw [hsl]; exact hd)]
  exact (qe1 (fun k hk => hρ k (yh hk)) v (List.all_eq_true.1 hnm _ (qaf hd))).symm
 have hnx : ∀ x, n0 ≤ (I x).nx := fun x => by
  have := hr x
  simp only [qi1, Bool.and_eq_true] at this
  exact Nat.le_of_ble_eq_true this.2
 have hkb1 : kb < n0 ∧ ∃ o, ρ1 kb = .bx o 0 0 ∧ o < S0.length := by
  have h1 := hr x0
  simp only [qi1, Bool.and_eq_true] at h1
  have := List.all_eq_true.1 h1.1.2 _ (qaf (hkb x0))
  exact hks kb (qsw this)
 obtain ⟨hkbn, okb, hokb, hokl⟩ := hkb1
 have hfe := zp (S := S0) (df := df) (slot fun _ _ => rfl) hf
 simp only [SV.ev, SV.evs, hokb, bxAt] at hfe
 have out : ∀ {x S}, RInv B n0 S0.length ks ρ1 t df (I x) S → S[S0.length]? = some .dfr → SatC B (I x) ⟨t, S, S0.length :: df⟩ := fun {x S} hi hm => by
  obtain ⟨ρ, hρ, hR, hdd, hnS⟩ := hi.ex
  refine ⟨ρ, ⟨fun d hd => ?_, List.nodup_cons.2 ⟨fun h => Nat.lt_irrefl _ (hdn _ h), hF1.nd⟩, fun k hk => (hρ k (by omega)).trans (hF1.rig k hk), Nat.le_trans hBn (hnx x), fun h => (hz h).elim⟩, hR⟩
  rcases List.mem_cons.1 hd with rfl | hd
  ·exact ⟨hm, hB⟩
  ·exact ⟨hdd d hd, (hF1.dm d hd).2⟩
 refine qhe (S0 := S0) text rfl hfe ht
  (fun k rest S => ∃ x, P k rest x ∧ RInv B n0 S0.length ks ρ1 t df (I x) S) (fun c S => ∃ x, D c x ∧ RInv B n0 S0.length ks ρ1 t df (I x) S) ⟨x0, h0, hi0⟩ ?_ ?_ ?_ ?_ ?_ ?_
 ·rintro k rest S ⟨x, _, hi⟩
  obtain ⟨ρ, hρ, hR, _⟩ := hi.ex
  have hk2 : hpF (I x).hp kb = some (.cells 9 [.s text]) := by unfold hpF; rw [hkb x]
  obtain ⟨o, v, h1, h3, rfl⟩ := hR.hp.ok kb _ hk2
  rw [hρ kb hkbn, hokb] at h1
  simp only [AV.bx.injEq] at h1
  obtain ⟨rfl, _⟩ := h1
  exact h3
 ·rintro k rest S S' hE ⟨x, hx, hi⟩
  exact ⟨x, hx, hi.ext hks (hr x) hB hdn hE⟩
 ·rintro c S S' hE ⟨x, hx, hi⟩
  exact ⟨x, hx, hi.ext hks (hr x) hB hdn hE⟩
 ·rintro F own rd k rest S hF ⟨x, hx, hi⟩ hne hle hm0 hm1 hm2 hnt
  obtain ⟨ρ, hρ, hR, hdd, hnS⟩ := hi.ex
  -- what no resource's place is
  have qcv : ∀ o y, S[o]? = some y → S0.length ≤ o → (∀ m sz T, y ≠ .tip m sz T) → ¬ qfc (I x).hp ρ o := fun o y hy ho hyt ⟨k, r, hk, hl⟩ => by
   rcases SR.ok_ct (hR.hp.ok k r hk) hl with ⟨T, cs, v, h1, T', cs', rfl⟩ | ⟨m, sz, T, h1⟩
   ·obtain ⟨_, o', h2, h3⟩ := qtm hks (hr x) hρ hk
    rw [h2] at hl
    simp only [j4, Option.some.injEq] at hl
    omega
   ·rw [h1] at hy
    simp only [Option.some.injEq] at hy
    exact hyt _ _ _ hy.symm
  have a0 := qcv _ _ hm0 (by omega) (fun _ _ _ => by simp)
  have a1 := qcv _ _ hm1 (by omega) (fun _ _ _ => by rw [hF]; simp)
  have a2 := qcv _ _ hm2 (by omega) (fun m sz T e => hnt m sz T (by rw [e]))
  have ad : ∀ d ∈ df, ¬ qfc (I x).hp ρ d := fun d hd ⟨k, r, hk, hl⟩ => SR.ok_dfr (hR.hp.ok k r hk) hl (hdd d hd)
  have l2 := lt_of_getElem? hm2
  have s1 := ((hb k rest x hx hne hle).run S (qfc (I x).hp ρ) ρ1 rd).run ⟨put t p (qcg k text rest), S, []⟩
   ⟨ρ, ⟨nofun, List.nodup_nil, hρ, hnx x, fun _ => rfl⟩, ?_⟩
  rotate_left
  ·have hb1 := hR.rebase (S' := S) fun _ _ => rfl
   refine ⟨fun d v hd => ?_, hb1.hp, hb1.own, hb1.low, hb1.len, fun d v hd => ?_, hb1.whp⟩
   ·simp only [lkS] at hd
    cases hbe : Nat.beq p d with
    | true =>
     rw [hbe] at hd
     simp only [cond_true, Option.some.injEq] at hd
     have e := Nat.eq_of_beq_eq_true hbe
     subst e hd
     simp only [put]
     rw [q1f]
     simp
    | false =>
     rw [hbe] at hd
     have e : d ≠ p := fun e => by subst e; simp at hbe
     have := hb1.sl d v hd
     simp only [put]
     rw [show Nat.beq d p = false from vp e]
     exact this
   ·simp only [lkS] at hd
    cases hbe : Nat.beq p d with
    | true =>
     rw [hbe] at hd
     simp only [cond_true, Option.some.injEq] at hd
     subst hd
     rfl
    | false =>
     rw [hbe] at hd
     exact hb1.wsl d v hd
  refine s1.mono fun e s1 ⟨C1, hq, hs1⟩ => ?_
  cases e with
  | normal =>
   obtain ⟨ρs, hFs, hRs⟩ := hs1
   have hdf1 := hFs.dz trivial
   have b1 : s1.st[S0.length + 1]? = some (F .ready none) := (hRs.low _ (by simp only; omega) a1).trans hm1
   refine ⟨b1, hdf1, ?_⟩
   have hq := (hq (qfc C1.hp ρs)).run (s1.st.set (S0.length + 1) (F .busy none)) (some rd)
   have c0 : ∀ o, o < S.length → ¬ qfc (I x).hp ρ o → ¬ qfc C1.hp ρs o := fun o ho hn ⟨k, r, hk, hl⟩ => by
    rcases hRs.own k r hk o hl with h | h
    ·simp only at h
     omega
    ·exact hn h
   have hRb := hRs.rebase (S' := s1.st.set (S0.length + 1) (F .busy none)) fun o ho => List.getElem?_set_ne fun e => c0 (S0.length + 1) (by omega) a1 (by rw [e]; exact ho)
   refine (hq.run ⟨s1.t, s1.st.set (S0.length + 1) (F .busy none), []⟩ ⟨ρs, ⟨nofun, List.nodup_nil, hFs.rig, hFs.le, nofun⟩, hRb⟩).mono fun e s2 ⟨C2, hq2, hs2⟩ => ?_
   obtain ⟨ρ2, hF2, hR2⟩ := hs2
   have hl1 := hRs.len
   have keep : ∀ o y, o ≠ S0.length + 1 → S[o]? = some y → ¬ qfc (I x).hp ρ o → s2.st[o]? = some y := fun o y hne hy hn => by
    have ho := lt_of_getElem? hy
    rw [hR2.low o (by simp only [List.length_set]; simp only at hl1; omega) (c0 o ho hn)]
    simp only
    rw [List.getElem?_set_ne (fun e => hne e.symm), hRs.low o ho hn]
    exact hy
   have k0 := keep _ _ (by omega) hm0 a0
   have k2 := keep _ _ (by omega) hm2 a2
   have k1 : s2.st[S0.length + 1]? = some (F .busy none) := by
    rw [hR2.low _ (by simp only [List.length_set]; simp only at hl1; omega) (c0 _ (by omega) a1)]
    simp only
    exact zw b1
   have fin : ∀ x', EntA n0 C2 (I x') → RInv B n0 S0.length ks ρ1 t df (I x') s2.st := fun x' he' => by
    obtain ⟨σ2, hrg2, he2⟩ := he'.ent
    have hF3 := hF2.ren (C' := I x') hrg2
    obtain ⟨t3, _, hR3⟩ := he2.sat hR2
    have hl3 := hR3.len
    simp only [List.length_set] at hl3
    simp only at hl1
    refine ⟨_, hF3.rig, ⟨by rw [hsl]; exact slot hF3.rig, hR3.hp, fun k r hk o ho => ?_, fun j hj hnj => ?_, by omega, hR3.wsl, hR3.whp⟩, fun d hd => ?_, by omega⟩
    ·rcases hR3.own k r hk o ho with h | ⟨k', r', h, h'⟩
     ·simp only [List.length_set] at h
      exact .inl (by omega)
     ·rcases hRs.own k' r' h o h' with h | ⟨k2, r2, h2, h3⟩
      ·simp only at h
       exact .inl (by omega)
      ·exact hR.own k2 r2 h2 o h3
    ·have hj0 : ¬ qfc (I x).hp ρ j := fun ⟨k', r', h, h'⟩ => by
      rcases hR.own k' r' h j h' with h | h
      ·omega
      ·exact hnj h
     have hjS : j < S.length := by omega
     rw [← hR.low j hj hnj]
     obtain ⟨y, hy⟩ : ∃ y, S[j]? = some y := ⟨_, List.getElem?_eq_getElem hjS⟩
     rw [hy]
     exact keep j y (by omega) hy hj0
    ·exact keep d _ (by have := hdn d hd; omega) (hdd d hd) (ad d hd)
   cases e with
   | normal =>
    obtain ⟨x', hx', he'⟩ := hq2
    exact ⟨k0, k1, k2, x', hx', fin x' he'⟩
   | ret =>
    obtain ⟨x', hx', he'⟩ := hq2
    exact ⟨k0, k1, k2, x', hx', fin x' he'⟩
   | exit id =>
    obtain ⟨x', hx', he'⟩ := hq2
    exact ⟨k0, k1, k2, x', hx', fin x' he'⟩
   | _ => exact hq2.elim
  | _ => exact hq.elim
 ·rintro k S ⟨x, hx, hi⟩ hm
  exact ⟨I x, hn k x hx, out hi hm⟩
 ·rintro c S ⟨x, hx, hi⟩ hm
  have hq := hd c x hx
  cases c with
  | ret => exact qz ⟨I x, hq, out hi hm⟩
  | exit id => exact jp ⟨I x, hq, out hi hm⟩
  | _ => exact hq.elim⟩
end
end Go.Proofs.YtefmcijohgpfhaaGreatDoor
set_option linter.unusedVariables false
namespace Go.Av
open Go Go.RowKit
def SR.ren (σ : List (Nat × Nat)) : SR → SR
 | .cells T cs => .cells T (SV.rens σ cs)
 | .tip sz T xs => .tip sz T xs
end Go.Av
set_option maxRecDepth 100000
set_option linter.unusedVariables false
namespace Go.Proofs.YtefmcijohgpfhaaGreatDoor
open Go Go.Av Go.RowKit Go.Proofs Go.Pl
def yo (text : qb) : List LnV → Nat → List qb
 | [], frm => [text.drop frm]
 | l :: r, frm => if frm < l.at' ∧ ¬ [32, 32] <+: l.text then (text.take l.at').drop frm :: yo text r l.at' else yo text r frm
def y8 (text : qb) : List qb := yo text (lns text) 0
theorem qrn {b sz : Nat} {T : TypeId} {xs : List AV} {c : AV} {S : List AObj} (h : TipO b S sz T xs c) : c.okc = true := by
 rcases h with (⟨_, rfl⟩ | ⟨t, rfl, _⟩) | ⟨_, o, v, f, rfl⟩ <;> rfl
theorem qnn {b sz : Nat} {T : TypeId} {xs : List AV} {c : AV} {S : List AObj} (h : TipO b S sz T xs c) : c.cells = [c] := by
 rcases h with (⟨_, rfl⟩ | ⟨t, rfl, _⟩) | ⟨_, o, v, f, rfl⟩ <;> rfl
theorem qje {b sz : Nat} {T : TypeId} {xs : List AV} {c : AV} {S : List AObj} (h : TipO b S sz T xs c) : lenA c = some xs.length := by
 rcases h with (⟨rfl, rfl⟩ | ⟨t, rfl, _⟩) | ⟨rfl, o, v, f, rfl⟩ <;> rfl
theorem qrd {b sz : Nat} {T : TypeId} {xs : List AV} {c : AV} {S : List AObj} (h : TipO b S sz T xs c) : xc [c] = true := by
 rcases h with (⟨_, rfl⟩ | ⟨t, rfl, _⟩) | ⟨_, o, v, f, rfl⟩ <;> rfl
theorem qxr (l m : qb) (st : List AObj) (h : m <+: l) : q7 E 73 [Sv l, Sv m] st fun r st' => r = Bv true ∧ st' = st := by
 have := qdh l m st
 rw [(yb l m).2 h] at this
 exact this
theorem qx0 (l m : qb) (st : List AObj) (h : ¬ m <+: l) : q7 E 73 [Sv l, Sv m] st fun r st' => r = Bv false ∧ st' = st := by
 have := qdh l m st
 have hf : Lib.hasPrefix l m = false := by
  cases hb : Lib.hasPrefix l m with
  | false => rfl
  | true => exact absurd ((yb l m).1 hb) h
 rw [hf] at this
 exact this
theorem qnl {nx : Nat} {H : Nat → Option SR} (text : qb) : qkc E 72 [.s text] nx H ⟨.fn (.func 113) [] [.bx nx 0], [], [(nx, some (.cells 9 [.s text]))], nx + 1⟩ := fun ρ S hS => by
 refine (qpg text S _ S.length rfl rfl).mono fun r S' ⟨hr, hs⟩ => ⟨upd ρ nx (.bx S.length 0 0), ?_, ?_⟩
 ·rw [hr]
  simp only [SV.ev, SV.evs, w6, bxAt]
 ·subst hs
  have key : ∀ k r', chF [(nx, some (SR.cells 9 [.s text]))] (resF [] H) k = some r' → k = nx ∧ r' = .cells 9 [.s text] := fun k r' hk => by
   simp only [chF, lkS] at hk
   cases hb : Nat.beq nx k with
   | true =>
    rw [hb] at hk
    simp only [cond_true, Option.some.injEq] at hk
    exact ⟨(Nat.eq_of_beq_eq_true hb).symm, hk.symm⟩
   | false =>
    rw [hb] at hk
    simp [resF, memN] at hk
  refine ⟨fun k hk => x3 _ _ (by simp only at hk; omega), ⟨fun k r hk => ?_, fun k k' r r' hne h1 h2 => ?_⟩, by simp, fun j hj _ => List.getElem?_append_left hj, fun k r hk o ho => ?_⟩
  ·obtain ⟨rfl, rfl⟩ := key _ _ hk
   exact ⟨S.length, 0, w6 _ _ _, by simp [SV.evs, SV.ev], rfl⟩
  ·obtain ⟨rfl, _⟩ := key _ _ h1
   obtain ⟨rfl, _⟩ := key _ _ h2
   exact absurd rfl hne
  ·obtain ⟨rfl, _⟩ := key _ _ hk
   rw [w6] at ho
   simp only [j4, Option.some.injEq] at ho
   subst ho
   exact .inl (Nat.le_refl _)
theorem q2g (text : qb) (st : List AObj) (hl : text.length < 1000000) : q7 E 35 [Sv text] st fun r st' => r = Ss (y8 text) ∧ st' = st := by
 refine qbj [.s text] (qvc _) Tryz.func35 rfl rfl (fun _ => rfl) rfl fun S0 => ?_
 apply jx []
 repeat' (first
  | apply And.intro
  | (intro h; first | (exfalso; omega) | (exfalso; exact h rfl) | (exfalso; revert h; decide) | skip)
  | exact ⟨Tryz.call72⟩
  | (refine Exists.intro _ ⟨qnl _, ?_⟩)
  | exact rfl
  | exact trivial
  | exact fun _ => rfl
  | exact kf _
  | apply jt []
  | exact DrOk.mk (by kernel_rfl)
  | exact ja fun _ => rfl
  | omega
  | (simp only [List.length_map, List.length_append, List.length_cons, List.length_nil, List.length_take, List.length_drop]; omega)
  | exact ku
  | (refine Exists.intro _ ⟨rfl, ?_⟩)
  | refine v4 ?_)
 refine qh9 (X := List qb × Nat) text 2 3 [0, 1, 2] (fun (out, frm) => ⟨[(1, .a (.pp [Sv text])), (3, .bx 0 0), (4, .bx 1 0), (7, .fn (.func 113) [] [.bx 2 0])],
   [(0, some (.cells 70 [.tp 3])), (1, some (.cells 3 [.i frm])), (2, some (.cells 9 [.s text])), (3, some (.tip 1 9 (out.map fun x => Sv x)))], 4⟩) _
  (fun k rest (out, frm) => ∃ a, a + rest.length = text.length ∧ frm ≤ a ∧ out.length ≤ k ∧ k ≤ a ∧ out ++ yo text (yl k a rest) frm = y8 text) (fun _ _ => False) ([], 0) ⟨0, by simp, by omega, by simp, by omega, rfl⟩ ?_ id (by omega) (fun _ => rfl) rfl (fun _ => rfl) (fun _ => rfl) rfl ?_ ?_ (fun _ _ h => h.elim)
 ·skip
  repeat' (first
   | apply And.intro
   | (intro h; first | (exfalso; omega) | (exfalso; exact h rfl) | (exfalso; revert h; decide) | skip)
   | exact rfl
   | exact trivial
   | exact fun _ => rfl
   | exact kf _
   | apply jt []
   | exact DrOk.mk (by kernel_rfl)
   | exact ja fun _ => rfl
   | omega
   | (simp only [List.length_map, List.length_append, List.length_cons, List.length_nil, List.length_take, List.length_drop]; omega)
   | exact ku
   | (refine Exists.intro _ ⟨rfl, ?_⟩)
   | refine v4 ?_)
 ·rintro k rest ⟨out, frm⟩ ⟨a, ha, hfa, hok, hka, hrun⟩ hne hle
  have hcons := qgi (k := k) (a := a) hne
  have hul := wi 10 rest
  have hr0 : 0 < rest.length := List.length_pos_iff.2 hne
  have hpl := wm 10 rest
  have hpa : a + (upto 10 rest).length + 1 + (past 10 rest).length = text.length ∨ past 10 rest = [] := by
   by_cases h10 : 10 ∈ rest
   ·have := qdd h10
    exact .inl (by omega)
   ·right
    unfold past
    rw [qdw h10]
    simp
  have hpast : ∀ f, yo text (yl (k + 1) (a + (upto 10 rest).length + 1) (past 10 rest)) f = yo text (yl (k + 1) (text.length - (past 10 rest).length) (past 10 rest)) f := fun f => by
   rcases hpa with h | h
   ·have : a + (upto 10 rest).length + 1 = text.length - (past 10 rest).length := by omega
    rw [this]
   ·rw [h, qh7, qh7]
  have e : (text.length : Int) - rest.length = (a : Int) := by omega
  rw [hcons, yo] at hrun
  unfold qqw
  rw [e]
  by_cases hp : [32, 32] <+: upto 10 rest
  ·have hhp := fun st => qxr (upto 10 rest) [32, 32] st hp
   rw [if_neg (fun h => h.2 hp), hpast] at hrun
   refine RA.mk fun S F ρ rd => ?_
   apply jx []
   repeat' (first
    | apply And.intro
    | (intro h; first | (exfalso; omega) | (exfalso; exact h rfl) | (exfalso; revert h; decide) | skip)
    | (refine RB.mk fun S rd => ?_; apply jx [])
    | exact ⟨Tryz.call73⟩
    | (refine Exists.intro _ ⟨j5 (hhp) rfl, ?_⟩)
    | (refine Exists.intro (out, frm) ⟨⟨text.length - (past 10 rest).length, by omega, by omega, by omega, by omega, hrun⟩, ?_⟩)
    | exact rfl
    | exact trivial
    | exact fun _ => rfl
    | exact kf _
    | apply jt []
    | exact DrOk.mk (by kernel_rfl)
    | exact ja fun _ => rfl
    | omega
    | (simp only [List.length_map, List.length_append, List.length_cons, List.length_nil, List.length_take, List.length_drop]; omega)
    | exact ku
    | (refine Exists.intro _ ⟨rfl, ?_⟩)
    | refine v4 ?_)
  ·have hhp := fun st => qx0 (upto 10 rest) [32, 32] st hp
   by_cases hfr : frm < a
   ·rw [if_pos ⟨hfr, hp⟩, hpast] at hrun
    refine RA.mk fun S F ρ rd => ?_
    apply jx []
    repeat' (first
     | apply And.intro
     | (intro h; first | (exfalso; omega) | (exfalso; exact h rfl) | (exfalso; revert h; decide) | skip)
     | (refine RB.mk fun S rd => ?_; apply jx [25])
     | exact ⟨Tryz.call73⟩
     | (refine Exists.intro _ ⟨j5 (hhp) rfl, ?_⟩)
     | (refine Exists.intro (out ++ [(text.take a).drop frm], a) ⟨⟨text.length - (past 10 rest).length, by omega, by omega, by simp; omega, by omega, by rw [← hrun]; simp⟩, ?_⟩)
     | exact rfl
     | exact trivial
     | exact fun _ => rfl
     | exact kf _
     | apply jt [25]
     | exact DrOk.mk (by kernel_rfl)
     | exact ja fun _ => rfl
     | omega
     | (simp only [List.length_map, List.length_append, List.length_cons, List.length_nil, List.length_take, List.length_drop]; omega)
     | exact ku
     | (refine Exists.intro _ ⟨rfl, ?_⟩)
     | refine v4 ?_)
    all_goals first | (simp [SV.evs]; omega) | (simp [SV.evs, SV.ev]; done)
   ·rw [if_neg (fun h => hfr h.1), hpast] at hrun
    refine RA.mk fun S F ρ rd => ?_
    apply jx []
    repeat' (first
     | apply And.intro
     | (intro h; first | (exfalso; omega) | (exfalso; exact h rfl) | (exfalso; revert h; decide) | skip)
     | (refine RB.mk fun S rd => ?_; apply jx [])
     | exact ⟨Tryz.call73⟩
     | (refine Exists.intro _ ⟨j5 (hhp) rfl, ?_⟩)
     | (refine Exists.intro (out, frm) ⟨⟨text.length - (past 10 rest).length, by omega, by omega, by omega, by omega, hrun⟩, ?_⟩)
     | exact rfl
     | exact trivial
     | exact fun _ => rfl
     | exact kf _
     | apply jt []
     | exact DrOk.mk (by kernel_rfl)
     | exact ja fun _ => rfl
     | omega
     | (simp only [List.length_map, List.length_append, List.length_cons, List.length_nil, List.length_take, List.length_drop]; omega)
     | exact ku
     | (refine Exists.intro _ ⟨rfl, ?_⟩)
     | refine v4 ?_)
 ·rintro k ⟨out, frm⟩ ⟨a, ha, hfa, hok, hka, hrun⟩
  rw [qh7, yo] at hrun
  repeat' (first
   | apply And.intro
   | (intro h; first | (exfalso; omega) | (exfalso; exact h rfl) | (exfalso; revert h; decide) | skip)
   | exact rfl
   | exact trivial
   | exact fun _ => rfl
   | exact kf _
   | apply jt []
   | exact DrOk.mk (by kernel_rfl)
   | exact ja fun _ => rfl
   | omega
   | (simp only [List.length_map, List.length_append, List.length_cons, List.length_nil, List.length_take, List.length_drop]; omega)
   | exact ku
   | (refine Exists.intro _ ⟨rfl, ?_⟩)
   | refine v4 ?_)
  rw [← hrun]
  simp
end Go.Proofs.YtefmcijohgpfhaaGreatDoor
set_option maxRecDepth 100000
set_option linter.unusedVariables false
namespace Go.Proofs.YtefmcijohgpfhaaGreatDoor
open Go Go.Av Go.RowKit Go.Proofs Go.Pl
def decP : List qb → List zq → Option (List zq)
 | [], acc => some acc
 | p :: r, acc => match begE (upto 10 p) with
  | none => none
  | some (k, n) => if (qci (past 10 p)).2 = true ∧ acc.length ≠ 40 then decP r (acc ++ [⟨k, n, (qci (past 10 p)).1⟩]) else none
def decF (text : qb) : Option (List zq) := if 50000 < text.length then none else match decP (y8 text) [] with
 | none => none
 | some b => if eErr b = .no ∧ encF b = text then some b else none
def decA : Option (List zq) → AV
 | none => .tu [wc [], .ifc 31 (Iv 2)]
 | some b => .tu [wc b, .v .nilIface]
theorem qyl (x : Option (List zq)) : Pure (decA x) := by
 rcases x with _ | b
 ·exact y9 (qhq _) (qc5 (z4 _))
 ·exact y9 (qhq _) (z4 _)
theorem qhm (text : qb) : ∀ (ls : List LnV) (f : Nat), (∀ p ∈ yo text ls f, p.length ≤ text.length) ∧ (yo text ls f).length ≤ ls.length + 1
 | [], f => by simp [yo]
 | l :: r, f => by
  unfold yo
  split
  ·obtain ⟨h1, h2⟩ := qhm text r l.at'
   refine ⟨fun p hp => ?_, by simp; omega⟩
   rcases List.mem_cons.1 hp with rfl | hp
   ·simp; omega
   ·exact h1 p hp
  ·obtain ⟨h1, h2⟩ := qhm text r f
   exact ⟨h1, by simp; omega⟩
theorem qos {l : qb} {k n : Int} (h : begE l = some (k, n)) : -9223372036854775808 ≤ n ∧ n ≤ 9223372036854775807 := by
 have key : ∀ {j : Int} {n : Int}, tryB j l = some n → -9223372036854775808 ≤ n ∧ n ≤ 9223372036854775807 := fun {j n} h => by
  unfold tryB at h
  split at h
  ·split at h
   ·rename_i v hv
    cases h
    exact Lib.atoiAll_bounds hv
   ·simp at h
  ·simp at h
 unfold begE at h
 split at h
 ·rename_i v hv; simp at h; rw [← h.2]; exact key hv
 ·split at h
  ·rename_i v hv; simp at h; rw [← h.2]; exact key hv
  ·split at h
   ·rename_i v hv; simp at h; rw [← h.2]; exact key hv
   ·simp at h
theorem qlh (text : qb) : GF (qci text).1 := by
 unfold qci
 split
 ·exact ⟨by simp, by simp⟩
 ·split
  ·exact ⟨by simp, by simp⟩
  ·rename_i f r hr
   exact (qwk (qlk _) f (by rw [hr]; simp)).1
theorem qzn {k n : Int} {fs : List Fld} (h1 : -9223372036854775808 ≤ n) (h2 : n ≤ 9223372036854775807) (hg : GF fs) : EdB ⟨k, n, fs⟩ :=
 ⟨fun f hf => by have := (hg.2 f hf).1.2.1; omega, by have := hg.1; simp only; omega, h1, h2⟩
set_option maxHeartbeats 4000000 in
theorem q0m (text : qb) (st : List AObj) (hl : text.length < 1000000) : q7 E 11 [Sv text] st fun r st' => r = decA (decF text) ∧ st' = st := by
 refine zt (qyl _) (q8 Tryz.func11 rfl (Nat.le_of_ble_eq_true rfl) ?_)
 by_cases hbig : 50000 < text.length
 ·have hd : decF text = none := if_pos hbig
  rw [hd]
  repeat' (first
   | apply qm
   | apply qe
   | apply qa
   | apply qi
   | apply qf
   | (apply qw; (iterate 3 exact rfl))
   | (apply qg; exact rfl; first | (apply ze; (first | assumption | omega)) | (apply zd; (first | assumption | omega)) | (apply zc; (first | exact rfl | assumption)) | (apply zb; (first | exact rfl | assumption)) | (apply cd_n <;> intro h) | (apply cd_t; (first | exact rfl | assumption)) | (apply cd_f; (first | exact rfl | assumption)) | (apply cd_d <;> intro h) | (apply cd_s <;> intro h))
   | (apply j3; (iterate 3 exact rfl))
   | (apply q9; exact rfl; exact rfl)
   | apply qz)
  exact qo rfl (vg (vd rfl) (w7 (wq 3) (vc (.ifc 31 (Iv 2))))) ⟨rfl, _, rfl⟩
 have hdf : decF text = match decP (y8 text) [] with
  | none => none
  | some b => if eErr b = .no ∧ encF b = text then some b else none := if_neg hbig
 rw [List.append_nil]
 have hpl := (qhm text (lns text) 0).1
 have hpn := (qhm text (lns text) 0).2
 have hln := qpj _ text 0 0 (Nat.le_refl _)
 have hpe : yo text (lns text) 0 = y8 text := rfl
 have hle : (lns text).length ≤ text.length := hln
 rw [hpe] at hpl hpn
 have hml : ((y8 text).map fun x => Sv x).length = (y8 text).length := by simp
 repeat' (first
  | apply qm
  | apply q4
  | apply qe
  | apply qa
  | apply qi
  | apply qf
  | (apply qw; (iterate 3 exact rfl))
  | (apply qg; exact rfl; first | (apply ze; (first | assumption | omega)) | (apply zd; (first | assumption | omega)) | (apply zc; (first | exact rfl | assumption)) | (apply zb; (first | exact rfl | assumption)) | (apply cd_n <;> intro h) | (apply cd_t; (first | exact rfl | assumption)) | (apply cd_f; (first | exact rfl | assumption)) | (apply cd_d <;> intro h) | (apply cd_s <;> intro h))
  | (apply j3; (iterate 3 exact rfl))
  | (apply zy; (iterate 4 exact rfl))
  | apply q6
  | (apply qd; exact Tryz.call35; exact q2g _ _ hl))
 refine qbp (y8 text) (fun pre s => ∃ acc c S, OutI st S ∧ TipO st.length S 3 45 (acc.map qbd) c ∧ acc.length ≤ pre.length ∧ (∀ x ∈ acc, EdB x) ∧ (∀ rest, y8 text = pre ++ rest → decP (y8 text) [] = decP rest acc) ∧ StA [(0, Sv text), (4, c), (21, Ss (y8 text)), (22, Iv (y8 text).length), (23, Iv pre.length)] S [] s) ⟨[], _, st, ⟨fun _ _ => rfl, Nat.le_refl _⟩, qjm .., by simp, by simp, fun rest h => by rw [h]; rfl, qal ⟨rfl, rfl, rfl, congrArg (fun n : Nat => Iv (n : Int)) hml, rfl, trivial⟩⟩ ?_ ?_
 ·rintro _ ⟨acc, c, S, hO, hT, hal, hB, hrun, t, rfl⟩
  have hrun := hrun [] (by simp)
  have hrun2 : decP (y8 text) [] = some acc := hrun
  rw [hrun2] at hdf
  simp only at hdf
  cases he : eErr acc with
  | no =>
   by_cases ht : encF acc = text
   ·rw [if_pos ⟨he, ht⟩] at hdf
    rw [hdf]
    have hnn : ¬ encF acc ≠ text := fun h => h ht
    repeat' (first
     | apply qm
     | apply qe
     | apply qa
     | apply qi
     | apply qf
     | (apply zj; exact rfl; exact rfl)
     | (apply qw; (iterate 3 exact rfl))
     | (apply ji; (iterate 3 exact rfl))
     | (apply za; (iterate 4 exact rfl))
     | (apply yc; (first | exact rfl | assumption))
     | (apply zg; exact rfl; first | (apply kc; (first | assumption | omega)) | (apply ka; (first | assumption | omega)) | (apply j9; (first | exact rfl | assumption)) | (apply ke; (first | exact rfl | assumption)) | (apply pk_t; (first | exact rfl | assumption)) | (apply pk_f; (first | exact rfl | assumption)))
     | (apply qg; exact rfl; first | (apply ze; (first | assumption | omega)) | (apply zd; (first | assumption | omega)) | (apply zc; (first | exact rfl | assumption)) | (apply zb; (first | exact rfl | assumption)) | (apply cd_n <;> intro h) | (apply cd_t; (first | exact rfl | assumption)) | (apply cd_f; (first | exact rfl | assumption)) | (apply cd_d <;> intro h) | (apply cd_s <;> intro h))
     | (apply zr; exact rfl; exact rfl)
     | apply q6
     | apply jp
     | apply qz
     | (apply zo 63 rfl (qcz hT); apply qd; exact Tryz.call15; exact qpl _ _ hB he))
    exact qo rfl (vg (vd rfl) (w7 (qcz hT) (vc (.v .nilIface)))) ⟨rfl, hO.ext⟩
   ·rw [if_neg fun h => ht h.2] at hdf
    rw [hdf]
    repeat' (first
     | apply qm
     | apply qe
     | apply qa
     | apply qi
     | apply qf
     | (apply zj; exact rfl; exact rfl)
     | (apply qw; (iterate 3 exact rfl))
     | (apply ji; (iterate 3 exact rfl))
     | (apply za; (iterate 4 exact rfl))
     | (apply yc; (first | exact rfl | assumption))
     | (apply zg; exact rfl; first | (apply kc; (first | assumption | omega)) | (apply ka; (first | assumption | omega)) | (apply j9; (first | exact rfl | assumption)) | (apply ke; (first | exact rfl | assumption)) | (apply pk_t; (first | exact rfl | assumption)) | (apply pk_f; (first | exact rfl | assumption)))
     | (apply qg; exact rfl; first | (apply ze; (first | assumption | omega)) | (apply zd; (first | assumption | omega)) | (apply zc; (first | exact rfl | assumption)) | (apply zb; (first | exact rfl | assumption)) | (apply cd_n <;> intro h) | (apply cd_t; (first | exact rfl | assumption)) | (apply cd_f; (first | exact rfl | assumption)) | (apply cd_d <;> intro h) | (apply cd_s <;> intro h))
     | (apply zr; exact rfl; exact rfl)
     | (apply q9; exact rfl; exact rfl)
     | apply jp
     | apply qz
     | (apply zo 63 rfl (qcz hT); apply qd; exact Tryz.call15; exact qpl _ _ hB he))
    exact qo rfl (vg (vd rfl) (w7 (wq 3) (vc (.ifc 31 (Iv 2))))) ⟨rfl, hO.ext⟩
  | num n =>
   have h0 : (ErrV.num n).code ≠ 0 := fun h => by
    have := (qpo acc).1 (by rw [he]; exact h)
    rw [he] at this
    simp at this
   rw [if_neg fun h => by rw [he] at h; simp at h] at hdf
   rw [hdf]
   repeat' (first
    | apply qm
    | apply qe
    | apply qa
    | apply qi
    | apply qf
    | (apply zj; exact rfl; exact rfl)
    | (apply qw; (iterate 3 exact rfl))
    | (apply za; (iterate 4 exact rfl))
    | (apply vz; (first | exact rfl | assumption))
    | (apply zg; exact rfl; first | (apply kc; (first | assumption | omega)) | (apply ka; (first | assumption | omega)) | (apply j9; (first | exact rfl | assumption)) | (apply ke; (first | exact rfl | assumption)) | (apply pk_t; (first | exact rfl | assumption)) | (apply pk_f; (first | exact rfl | assumption)))
    | (apply qg; exact rfl; first | (apply ze; (first | assumption | omega)) | (apply zd; (first | assumption | omega)) | (apply zc; (first | exact rfl | assumption)) | (apply zb; (first | exact rfl | assumption)) | (apply cd_n <;> intro h) | (apply cd_t; (first | exact rfl | assumption)) | (apply cd_f; (first | exact rfl | assumption)) | (apply cd_d <;> intro h) | (apply cd_s <;> intro h))
    | (apply z8; exact rfl; exact rfl)
    | (apply q9; exact rfl; exact rfl)
    | apply jp
    | apply qz
    | (apply zo 63 rfl (qcz hT); apply qd; exact Tryz.call15; exact qpy _ _ (.num n) hB (by omega) he h0))
   exact qo rfl (vg (vd rfl) (w7 (wq 3) (vc (.ifc 31 (Iv 2))))) ⟨rfl, hO.ext⟩
  | at' a n =>
   have h0 : (ErrV.at' a n).code ≠ 0 := fun h => by
    have := (qpo acc).1 (by rw [he]; exact h)
    rw [he] at this
    simp at this
   rw [if_neg fun h => by rw [he] at h; simp at h] at hdf
   rw [hdf]
   repeat' (first
    | apply qm
    | apply qe
    | apply qa
    | apply qi
    | apply qf
    | (apply zj; exact rfl; exact rfl)
    | (apply qw; (iterate 3 exact rfl))
    | (apply za; (iterate 4 exact rfl))
    | (apply vz; (first | exact rfl | assumption))
    | (apply zg; exact rfl; first | (apply kc; (first | assumption | omega)) | (apply ka; (first | assumption | omega)) | (apply j9; (first | exact rfl | assumption)) | (apply ke; (first | exact rfl | assumption)) | (apply pk_t; (first | exact rfl | assumption)) | (apply pk_f; (first | exact rfl | assumption)))
    | (apply qg; exact rfl; first | (apply ze; (first | assumption | omega)) | (apply zd; (first | assumption | omega)) | (apply zc; (first | exact rfl | assumption)) | (apply zb; (first | exact rfl | assumption)) | (apply cd_n <;> intro h) | (apply cd_t; (first | exact rfl | assumption)) | (apply cd_f; (first | exact rfl | assumption)) | (apply cd_d <;> intro h) | (apply cd_s <;> intro h))
    | (apply z8; exact rfl; exact rfl)
    | (apply q9; exact rfl; exact rfl)
    | apply jp
    | apply qz
    | (apply zo 63 rfl (qcz hT); apply qd; exact Tryz.call15; exact qpy _ _ (.at' a n) hB (by omega) he h0))
   exact qo rfl (vg (vd rfl) (w7 (wq 3) (vc (.ifc 31 (Iv 2))))) ⟨rfl, hO.ext⟩
 ·rintro pre p rest _ hr ⟨acc, c, S, hO, hT, hal, hB, hrun, t, rfl⟩
  have hlen : (y8 text).length = pre.length + (rest.length + 1) := by rw [hr]; simp
  have hget : ((y8 text).map fun x => Sv x)[pre.length]? = some (Sv p) := by rw [hr]; simp
  have hpp := hpl p (by rw [hr]; simp)
  have hul := wi 10 p
  have hpal := wm 10 p
  have hrun1 := hrun (p :: rest) hr
  have hSl := hO.len
  have hma : (acc.map qbd).length = acc.length := by simp
  have hgf := qlh (past 10 p)
  cases hbe : begE (upto 10 p) with
  | none =>
   have hno : decP (y8 text) [] = none := by rw [hrun1]; simp only [decP, hbe]
   rw [hno] at hdf
   simp only at hdf
   rw [hdf]
   have hbc := fun st => qu0 (upto 10 p) st (by omega)
   rw [hbe] at hbc
   repeat' (first
    | apply qm
    | apply q4
    | apply qe
    | apply qa
    | apply qi
    | apply qf
    | (apply zj; exact rfl; exact rfl)
    | (apply qw; (iterate 3 exact rfl))
    | (apply jc; exact rfl)
    | (apply za; (iterate 4 exact rfl))
    | (apply v6; (first | exact rfl | assumption))
    | (apply vz; (first | exact rfl | assumption))
    | (apply zg; exact rfl; first | (apply kc; (first | assumption | omega)) | (apply ka; (first | assumption | omega)) | (apply j9; (first | exact rfl | assumption)) | (apply ke; (first | exact rfl | assumption)) | (apply pk_t; (first | exact rfl | assumption)) | (apply pk_f; (first | exact rfl | assumption)))
    | (apply qg; exact rfl; first | (apply ze; (first | assumption | omega)) | (apply zd; (first | assumption | omega)) | (apply zc; (first | exact rfl | assumption)) | (apply zb; (first | exact rfl | assumption)) | (apply cd_n <;> intro h) | (apply cd_t; (first | exact rfl | assumption)) | (apply cd_f; (first | exact rfl | assumption)) | (apply cd_d <;> intro h) | (apply cd_s <;> intro h))
    | (apply q9; exact rfl; exact rfl)
    | (apply qk; (iterate 3 exact rfl))
    | apply q6
    | apply qz
    | (apply qd; exact Tryz.call36; exact qdi _ _ _ (by omega))
    | (apply qd; exact Tryz.call37; exact hbc _)
    | (apply qd; exact Tryz.call38; exact qs1 _ _ (by omega))
    | (apply qay (st := S); exact rfl; exact rfl)
    | (apply qs; exact rfl; exact rfl; (focus first | assumption | (repeat' (first | assumption | exact jj | exact zn rfl | apply zw | apply zk | omega | apply z6))); (iterate 6 exact rfl))
    | (apply jg (n := pre.length); (iterate 5 exact rfl); exact hget))
   exact qo rfl (vg (vd rfl) (w7 (wq 3) (vc (.ifc 31 (Iv 2))))) ⟨rfl, (hO.pre.set hSl).ext⟩
  | some kn =>
   obtain ⟨k, n⟩ := kn
   have hid := qos hbe
   have hbc := fun st => qu0 (upto 10 p) st (by omega)
   rw [hbe] at hbc
   have hfc := fun st => qs1 (past 10 p) st (by omega)
   obtain ⟨fs, hfs⟩ : ∃ x, x = (qci (past 10 p)).1 := ⟨_, rfl⟩
   rw [← hfs] at hfc hgf
   have hstep : decP (p :: rest) acc = if (qci (past 10 p)).2 = true ∧ acc.length ≠ 40 then decP rest (acc ++ [⟨k, n, fs⟩]) else none := by simp only [decP, hbe, hfs]
   cases hok : (qci (past 10 p)).2 with
   | false =>
    rw [hok] at hfc hstep
    rw [hstep, if_neg (by simp)] at hrun1
    rw [hrun1] at hdf
    simp only at hdf
    rw [hdf]
    repeat' (first
     | apply qm
     | apply q4
     | apply qe
     | apply qa
     | apply qi
     | apply qf
     | (apply zj; exact rfl; exact rfl)
     | (apply qw; (iterate 3 exact rfl))
     | (apply jc; exact rfl)
     | (apply za; (iterate 4 exact rfl))
     | (apply vw; (first | exact rfl | assumption))
     | (apply v6; (first | exact rfl | assumption))
     | (apply zg; exact rfl; first | (apply kc; (first | assumption | omega)) | (apply ka; (first | assumption | omega)) | (apply j9; (first | exact rfl | assumption)) | (apply ke; (first | exact rfl | assumption)) | (apply pk_t; (first | exact rfl | assumption)) | (apply pk_f; (first | exact rfl | assumption)))
     | (apply qg; exact rfl; first | (apply ze; (first | assumption | omega)) | (apply zd; (first | assumption | omega)) | (apply zc; (first | exact rfl | assumption)) | (apply zb; (first | exact rfl | assumption)) | (apply cd_n <;> intro h) | (apply cd_t; (first | exact rfl | assumption)) | (apply cd_f; (first | exact rfl | assumption)) | (apply cd_d <;> intro h) | (apply cd_s <;> intro h))
     | (apply q9; exact rfl; exact rfl)
     | (apply qk; (iterate 3 exact rfl))
     | apply q6
     | apply qz
     | (apply qd; exact Tryz.call36; exact qdi _ _ _ (by omega))
     | (apply qd; exact Tryz.call37; exact hbc _)
     | (apply qd; exact Tryz.call38; exact hfc _)
     | (apply qay (st := S); exact rfl; exact rfl)
     | (apply qs; exact rfl; exact rfl; (focus first | assumption | (repeat' (first | assumption | exact jj | exact zn rfl | apply zw | apply zk | omega | apply z6))); (iterate 6 exact rfl))
     | (apply jg (n := pre.length); (iterate 5 exact rfl); exact hget))
    exact qo rfl (vg (vd rfl) (w7 (wq 3) (vc (.ifc 31 (Iv 2))))) ⟨rfl, (hO.pre.set hSl).ext⟩
   | true =>
    rw [hok] at hfc hstep
    by_cases h40 : acc.length = 40
    ·rw [hstep, if_neg (by simp [h40])] at hrun1
     rw [hrun1] at hdf
     simp only at hdf
     rw [hdf]
     repeat' (first
      | apply qm
      | apply q4
      | apply qe
      | apply qa
      | apply qi
      | apply qf
      | (apply zj; exact rfl; exact rfl)
      | (apply qw; (iterate 3 exact rfl))
      | (apply jc; exact rfl)
      | (apply za; (iterate 4 exact rfl))
      | (apply vw; (first | exact rfl | assumption))
      | (apply zg; exact rfl; first | (apply kc; (first | assumption | omega)) | (apply ka; (first | assumption | omega)) | (apply j9; (first | exact rfl | assumption)) | (apply ke; (first | exact rfl | assumption)) | (apply pk_t; (first | exact rfl | assumption)) | (apply pk_f; (first | exact rfl | assumption)))
      | (apply qg; exact rfl; first | (apply ze; (first | assumption | omega)) | (apply zd; (first | assumption | omega)) | (apply zc; (first | exact rfl | assumption)) | (apply zb; (first | exact rfl | assumption)) | (apply cd_n <;> intro h) | (apply cd_t; (first | exact rfl | assumption)) | (apply cd_f; (first | exact rfl | assumption)) | (apply cd_d <;> intro h) | (apply cd_s <;> intro h))
      | (apply q9; exact rfl; exact rfl)
      | (apply qk; (iterate 3 exact rfl))
      | apply q6
      | apply qz
      | (apply qd; exact Tryz.call36; exact qdi _ _ _ (by omega))
      | (apply qd; exact Tryz.call37; exact hbc _)
      | (apply qd; exact Tryz.call38; exact hfc _)
      | (apply qay (st := S); exact rfl; exact rfl)
      | (apply qs; exact rfl; exact rfl; (focus first | assumption | (repeat' (first | assumption | exact jj | exact zn rfl | apply zw | apply zk | omega | apply z6))); (iterate 6 exact rfl))
      | (apply jg (n := pre.length); (iterate 5 exact rfl); exact hget)
      | (apply zy; exact rfl; exact qje hT; exact rfl; exact rfl))
     exact qo rfl (vg (vd rfl) (w7 (wq 3) (vc (.ifc 31 (Iv 2))))) ⟨rfl, (hO.pre.set hSl).ext⟩
    ·rw [hstep, if_pos ⟨rfl, h40⟩] at hrun1
     have hO1 : OutI st (((S ++ [AObj.cells 0 45 [Iv 0, Iv 0, zx]]).set S.length (.cells 0 45 [Iv k, Iv n, y7 []])).set S.length (.cells 0 45 [Iv k, Iv n, y7 fs])) := (hO.pre.set hSl).set hSl
     have hT1 : TipO st.length (((S ++ [AObj.cells 0 45 [Iv 0, Iv 0, zx]]).set S.length (.cells 0 45 [Iv k, Iv n, y7 []])).set S.length (.cells 0 45 [Iv k, Iv n, y7 fs])) 3 45 (acc.map qbd) c := qkk (qkk (ql6 hT) (xj jj)) (xj (zw jj))
     repeat' (first
      | apply qm
      | apply q4
      | apply qe
      | apply qa
      | apply qi
      | apply qf
      | (apply zj; exact rfl; exact rfl)
      | (apply qw; (iterate 3 exact rfl))
      | (apply jc; exact rfl)
      | (apply za; (iterate 4 exact rfl))
      | (apply vw; (first | exact rfl | assumption))
      | (apply zg; exact rfl; first | (apply kc; (first | assumption | omega)) | (apply ka; (first | assumption | omega)) | (apply j9; (first | exact rfl | assumption)) | (apply ke; (first | exact rfl | assumption)) | (apply pk_t; (first | exact rfl | assumption)) | (apply pk_f; (first | exact rfl | assumption)))
      | (apply qg; exact rfl; first | (apply ze; (first | assumption | omega)) | (apply zd; (first | assumption | omega)) | (apply zc; (first | exact rfl | assumption)) | (apply zb; (first | exact rfl | assumption)) | (apply cd_n <;> intro h) | (apply cd_t; (first | exact rfl | assumption)) | (apply cd_f; (first | exact rfl | assumption)) | (apply cd_d <;> intro h) | (apply cd_s <;> intro h))
      | (apply js; exact rfl; exact rfl; exact zi (by omega) (by omega))
      | (apply qr; (iterate 3 exact rfl))
      | (apply qk; (iterate 3 exact rfl))
      | (apply qv; (iterate 9 exact rfl))
      | apply q6
      | (apply qd; exact Tryz.call36; exact qdi _ _ _ (by omega))
      | (apply qd; exact Tryz.call37; exact hbc _)
      | (apply qd; exact Tryz.call38; exact hfc _)
      | (apply qay (st := S); exact rfl; exact rfl)
      | (apply qc; exact rfl; (focus first | assumption | (repeat' (first | assumption | exact jj | exact zn rfl | apply zw | apply zk | omega | apply z6))); exact rfl; exact rfl)
      | (apply qs; exact rfl; exact rfl; (focus first | assumption | (repeat' (first | assumption | exact jj | exact zn rfl | apply zw | apply zk | omega | apply z6))); (iterate 6 exact rfl))
      | (apply jg (n := pre.length); (iterate 5 exact rfl); exact hget)
      | (apply zy; exact rfl; exact qje hT; exact rfl; exact rfl)
      | (apply qc4 (b := st.length) (xs := acc.map qbd) (ys := [qbd ⟨k, n, fs⟩]) (bytes := 40);  (iterate 5 exact rfl); exact ⟨⟨_, _, rfl, rfl, rfl, rfl, rfl⟩⟩; exact hT1; (exact hO1.len); (first | exact rfl | exact ja fun _ => rfl); ((simp [maxLen]; omega)); ((simp; omega)); intro c' S2 t1 g1 g2 g3 g4))
     refine ⟨acc ++ [⟨k, n, fs⟩], c', S2, hO1.fr g2 g3, by rw [qtf]; exact g1, by simp; omega, fun x hx => ?_, fun rest2 hr2 => ?_, qal ⟨rfl, rfl, rfl, rfl, qew pre p, trivial⟩⟩
     ·rcases List.mem_append.1 hx with hx | hx
      ·exact hB x hx
      ·simp at hx; subst hx; exact qzn hid.1 hid.2 hgf
     ·have : rest2 = rest := by
       rw [hr, List.append_assoc] at hr2
       simpa using (List.append_cancel_left hr2).symm
      rw [this, hrun1]
end Go.Proofs.YtefmcijohgpfhaaGreatDoor
set_option maxRecDepth 100000
set_option linter.unusedVariables false
namespace Go.Proofs.YtefmcijohgpfhaaGreatDoor
open Go Go.Av Go.RowKit Go.Proofs Go.Pl
theorem qhp {α : Type} [DecidableEq α] {a b : List α} {k : Nat} {d : α} (hl : a.length = b.length) (hk : k < a.length) (h : a.take k = b.take k) (h2 : a.getD k d = b.getD k d) : a.take (k + 1) = b.take (k + 1) := by
 rw [List.take_succ_eq_append_getElem hk, List.take_succ_eq_append_getElem (by omega), h]
 congr 2
 simpa [List.getD, hk, show k < b.length by omega] using h2
end Go.Proofs.YtefmcijohgpfhaaGreatDoor
set_option maxRecDepth 100000
set_option linter.unusedVariables false
namespace Go.Pl
open Go Go.Proofs Go.Proofs.YtefmcijohgpfhaaGreatDoor
theorem qaj (s : qb) (r : List qb) : jd (s :: r) = s ++ 10 :: jd r := by simp [jd]
theorem qcw : ∀ (ls : List qb), (∀ s ∈ ls, 10 ∉ s) → jk (jd ls) = ls.map fun s => (s, true)
 | [], _ => by simp [jd, x6]
 | s :: r, h => by
  have hs := h s (by simp)
  rw [qaj, x5 (by simp), yx _ hs, qaq _ hs, qcw r fun x hx => h x (by simp [hx])]
  simp
theorem quv {f : Fld} (h : kr f) : ∀ s ∈ kg f, 10 ∉ s := fun s hs => by
 unfold kg at hs
 rcases List.mem_cons.1 hs with rfl | hs
 ·have h1 := qeh f.2 _ (qme f.2)
  have h2 := h.1.2.2.2.2.2
  unfold vq
  split <;> simp_all
 ·obtain ⟨x, hx, rfl⟩ := List.mem_map.1 hs
  have h1 := qeh f.2 x (List.mem_of_mem_tail hx)
  have := qnv h1
  simp [this]
theorem qj0 {f : Fld} (h : kr f) : ∃ hd mr, kg f = hd :: mr ∧ zl hd = 4 ∧ ∀ s ∈ mr, zl s = 3 := by
 refine ⟨_, _, rfl, qp7 h.1 (qeh f.2 _ (qme f.2)), fun s hs => ?_⟩
 obtain ⟨x, hx, rfl⟩ := List.mem_map.1 hs
 exact qp0 x (qeh f.2 x (List.mem_of_mem_tail hx))
theorem qy5 {p : PSt} {k : Int} {t : qb} (ht : zl t = 3) (hl : p.lines ≠ []) : xg p k t true = (none, { p with lines := p.lines ++ [t], block := p.block ++ [t] }) := by
 have ha : jn p k t true (zl t) = (none, { p with lines := p.lines ++ [t] }) := by
  unfold jn
  rw [if_pos ht, if_neg hl, if_pos rfl]
 unfold xg
 rw [ha, ht]
 simp
theorem qpv {p q : PSt} {k : Int} {t : qb} (ht : zl t = 4) (hf : kh p = (none, q)) : xg p k t true = (none, { vm q k t with block := q.block ++ [t] }) := by
 have ha : jn p k t true (zl t) = (none, q) := by
  unfold jn
  rw [if_neg (by omega), if_neg (by omega)]
  exact hf
 unfold xg
 rw [ha, ht]
 simp
theorem qmz : ∀ (m : List qb) (k : Nat) (p : PSt) (ls : List (qb × Bool)), (∀ s ∈ m, zl s = 3) → p.lines ≠ [] →
  runL k (m.map (fun s => (s, true)) ++ ls) p = runL (k + m.length) ls { p with lines := p.lines ++ m, block := p.block ++ m }
 | [], k, p, ls, _, _ => by simp
 | s :: m, k, p, ls, h, hl => by
  have hs := h s (by simp)
  rw [List.map_cons, List.cons_append, runL, qy5 hs hl]
  simp only
  rw [qmz m (k + 1) _ ls (fun x hx => h x (by simp [hx])) (by simp)]
  simp only [List.append_assoc, List.cons_append, List.nil_append, List.length_cons]
  congr 1
  omega
theorem qng {g : Fld} (hg : kr g) (frm : Int) (its : List wb) (blk : List qb) (done : List Fld) (rc : Int) : kh ⟨kg g, frm, false, its, blk, done, rc⟩ = (none, ⟨[], frm, false, its, blk, done ++ [g], rc⟩) := by
 have hu := qqp hg
 unfold kh
 rw [if_neg (by simp [kg]), hu]
 simp
theorem qsd : ∀ (r : List Fld) (done : List Fld) (g : Fld) (k : Nat) (frm : Int) (blk : List qb), kr g → (∀ f ∈ r, kr f) → done.length + 1 + r.length ≤ 40 → blk ≠ [] →
  (runL k ((r.flatMap kg).map fun s => (s, true)) ⟨kg g, frm, false, [], blk, done, 0⟩).1 = none ∧ (runL k ((r.flatMap kg).map fun s => (s, true)) ⟨kg g, frm, false, [], blk, done, 0⟩).2.items = [⟨3, jd (blk ++ r.flatMap kg), done ++ g :: r⟩]
 | [], done, g, k, frm, blk, hg, _, _, hb => by
  have he : endP ⟨kg g, frm, false, [], blk, done, 0⟩ = (none, yj ⟨[], frm, false, [], blk, done ++ [g], 0⟩) := by
   unfold endP
   rw [qng hg]
  simp only [List.flatMap_nil, List.map_nil, runL, he, List.append_nil]
  refine ⟨trivial, ?_⟩
  unfold yj
  rw [if_neg hb]
  simp
 | f :: r, done, g, k, frm, blk, hg, hr, hl, hb => by
  have hf := hr f (by simp)
  obtain ⟨hd, mr, hlf, hk4, hk3⟩ := qj0 hf
  simp only [List.length_cons] at hl
  have hrun : runL k (((f :: r).flatMap kg).map fun s => (s, true)) ⟨kg g, frm, false, [], blk, done, 0⟩ = runL (k + 1 + mr.length) ((r.flatMap kg).map fun s => (s, true)) ⟨kg f, k, false, [], blk ++ kg f, done ++ [g], 0⟩ := by
   rw [List.flatMap_cons, List.map_append, hlf, List.map_cons, List.cons_append, runL, qpv hk4 (qng hg frm [] blk done 0)]
   simp only
   rw [qmz mr (k + 1) _ _ hk3 (by simp [vm])]
   have hfu : decide ((done ++ [g]).length = 40 ∨ ((done ++ [g]).length = 0 ∧ (0 : Int) = 400)) = false := by
    simp
    omega
   simp only [vm, hfu, List.append_assoc, List.cons_append, List.nil_append]
  rw [hrun]
  have ih := qsd r (done ++ [g]) f (k + 1 + mr.length) k (blk ++ kg f) hf (fun x hx => hr x (by simp [hx])) (by simp; omega) (by simp [hb])
  rw [ih.1, ih.2]
  simp [List.flatMap_cons]
theorem qf7 (fs : List Fld) : we fs = jd (fs.flatMap kg) := by
 induction fs with
 | nil => rfl
 | cons f r ih =>
  rw [List.flatMap_cons, qd5, ← ih]
  simp [we]
theorem qho {fs : List Fld} (h : ∀ f ∈ fs, kr f) : ∀ s ∈ fs.flatMap kg, 10 ∉ s := fun s hs => by
 obtain ⟨f, hf, hs⟩ := List.mem_flatMap.1 hs
 exact quv (h f hf) s hs
theorem qwz {fs : List Fld} (hg : GF fs) (hne : fs ≠ []) : kp (we fs) = (none, [⟨3, we fs, fs⟩]) := by
 have hl := qcw _ (qho hg.2)
 rw [← qf7] at hl
 cases fs with
 | nil => exact absurd rfl hne
 | cons f r =>
  have hf := hg.2 f (by simp)
  obtain ⟨hd, mr, hlf, hk4, hk3⟩ := qj0 hf
  have hlen := hg.1
  simp only [List.length_cons] at hlen
  have hrun : runL 0 (((f :: r).flatMap kg).map fun s => (s, true)) p0 = runL (0 + 1 + mr.length) ((r.flatMap kg).map fun s => (s, true)) ⟨kg f, (0 : Nat), false, [], kg f, [], 0⟩ := by
   have hfl : kh p0 = (none, p0) := rfl
   rw [List.flatMap_cons, List.map_append, hlf, List.map_cons, List.cons_append, runL, qpv hk4 hfl]
   simp only
   rw [qmz mr (0 + 1) _ _ hk3 (by simp [vm])]
   simp [vm, p0]
  have ih := qsd r [] f (0 + 1 + mr.length) (0 : Nat) (kg f) hf (fun x hx => hg.2 x (by simp [hx])) (by simp; omega) (by simp [kg])
  unfold kp
  rw [hl, hrun, ih.1]
  simp only
  rw [ih.2]
  rw [qf7, List.flatMap_cons, List.nil_append]
theorem qza : kp [] = (none, []) := by
 unfold kp
 rw [x6]
 rfl
theorem ql1 {ls : List qb} (h : ∀ s ∈ ls, 10 ∉ s) : qa7 [32, 32] (jd ls) = jd (ls.map fun s => [32, 32] ++ s) := by
 unfold qa7 indF
 rw [qcw ls h]
 simp only [jd, List.flatMap_map, yy, if_pos]
theorem qs7 {ls : List qb} (h : ∀ s ∈ ls, 10 ∉ s) : ∀ s ∈ ls.map (fun s => [32, 32] ++ s), 10 ∉ s := fun s hs => by
 obtain ⟨x, hx, rfl⟩ := List.mem_map.1 hs
 have := h x hx
 simp [this]
theorem qqk {ls : List qb} (h : ∀ s ∈ ls, 10 ∉ s) : vn [32, 32] (qa7 [32, 32] (jd ls)) = (jd ls, true) := by
 rw [ql1 h]
 unfold vn
 rw [qcw _ (qs7 h), if_pos]
 ·simp [jd, List.flatMap_map, yy]
 ·intro x hx
  obtain ⟨s, hs, rfl⟩ := List.mem_map.1 hx
  obtain ⟨y, _, rfl⟩ := List.mem_map.1 hs
  exact List.prefix_append _ _
theorem qqq {fs : List Fld} (hl : fs.length ≤ 40) (hg : ∀ f ∈ fs, kr f) : qci (qa7 [32, 32] (we fs)) = (fs, true) := by
 have hd : vn [32, 32] (qa7 [32, 32] (we fs)) = (we fs, true) := by
  rw [qf7]
  exact qqk (qho hg)
 unfold qci
 rw [hd]
 simp only
 by_cases h0 : fs = []
 ·subst h0
  have hp : kp (we []) = (none, []) := qza
  rw [hp]
  simp [recsF, we]
 ·rw [qwz ⟨hl, hg⟩ h0]
  simp [recsF]
theorem qxa {j k : Int} {s : qb} (hj : j = 1 ∨ j = 2 ∨ j = 3) (hk : k = 1 ∨ k = 2 ∨ k = 3) (hne : j ≠ k) : ¬ qbr j <+: qbr k ++ s := by
 rintro ⟨t, ht⟩
 have h2 := congrArg (List.take 2) ht
 rcases hj with rfl | rfl | rfl <;> rcases hk with rfl | rfl | rfl <;> first | exact absurd rfl hne | (revert h2; simp [qbr])
theorem qze {x : zq} (hk : x.kind = 1 ∨ x.kind = 2 ∨ x.kind = 3) (h1 : -9223372036854775808 ≤ x.id) (h2 : x.id ≤ 9223372036854775807) : begE (vv x) = some (x.kind, x.id) := by
 have hl : vv x = qbr x.kind ++ Lib.itoa x.id := by
  unfold vv
  rw [if_pos (by omega)]
 have hself : tryB x.kind (vv x) = some x.id := by
  unfold tryB
  rw [hl, if_pos (List.prefix_append _ _), List.drop_left, qiv h1 h2]
 have hoth : ∀ j : Int, (j = 1 ∨ j = 2 ∨ j = 3) → j ≠ x.kind → tryB j (vv x) = none := fun j hj hne => by
  unfold tryB
  rw [hl, if_neg (qxa hj hk hne)]
 unfold begE
 rcases hk with h | h | h
 ·rw [h] at hself hoth ⊢
  rw [hself]
 ·rw [h] at hself hoth ⊢
  rw [hoth 1 (by simp) (by decide), hself]
 ·rw [h] at hself hoth ⊢
  rw [hoth 1 (by simp) (by decide), hoth 2 (by simp) (by decide), hself]
def qcd (x : zq) : List qb := (x.fields.flatMap kg).map fun s => [32, 32] ++ s
theorem qlt (v : Int) : ∀ c ∈ Lib.itoa v, c ≠ 10 ∧ c ≠ 32 := fun c hc => by
 by_cases hv : v < 0
 ·rw [qg1 hv] at hc
  rcases List.mem_cons.1 hc with rfl | hc
  ·decide
  ·have := xv _ _ (Nat.le_refl _) c hc
   constructor <;> rintro rfl <;> simp at this
 ·rw [qgr (by omega)] at hc
  have := xv _ _ (Nat.le_refl _) c hc
  constructor <;> rintro rfl <;> simp at this
theorem qcy (x : zq) : 10 ∉ vv x := by
 unfold vv
 split
 ·rename_i hk
  have h1 := qlt x.id
  intro hc
  rcases List.mem_append.1 hc with hc | hc
  ·have : x.kind = 1 ∨ x.kind = 2 ∨ x.kind = 3 := by omega
   rcases this with h | h | h <;> rw [h] at hc <;> revert hc <;> decide
  ·exact (h1 10 hc).1 rfl
 ·simp
theorem quq {x : zq} (hk : x.kind = 1 ∨ x.kind = 2 ∨ x.kind = 3) : ¬ [32, 32] <+: vv x := by
 unfold vv
 rw [if_pos (by omega)]
 rintro ⟨t, ht⟩
 have h2 := congrArg (List.take 2) ht
 rcases hk with h | h | h <;> rw [h] at h2 <;> revert h2 <;> simp [qbr]
theorem qfe {x : zq} (hg : ∀ f ∈ x.fields, kr f) : kj x = jd (vv x :: qcd x) := by
 unfold kj qcd
 rw [qaj, qf7, ql1 (qho hg)]
 simp
theorem qzz {x : zq} (hg : ∀ f ∈ x.fields, kr f) : ∀ s ∈ qcd x, 10 ∉ s := qs7 (qho hg)
theorem qeo (text : qb) : ∀ (m : List qb) (k a f : Nat) (R : qb), (∀ s ∈ m, 10 ∉ s ∧ [32, 32] <+: s) → ∃ k', yo text (yl k a (jd m ++ R)) f = yo text (yl k' (a + (jd m).length) R) f
 | [], k, a, f, R, _ => ⟨k, by simp [jd]⟩
 | s :: m, k, a, f, R, h => by
  obtain ⟨h10, hp⟩ := h s (by simp)
  have e : jd (s :: m) ++ R = s ++ 10 :: (jd m ++ R) := by rw [qaj]; simp
  obtain ⟨k', ih⟩ := qeo text m (k + 1) (a + s.length + 1) f R fun x hx => h x (by simp [hx])
  refine ⟨k', ?_⟩
  rw [e, qgi (by simp), yx _ h10, qaq _ h10, yo, if_neg (fun h => h.2 hp), ih, qaj]
  congr 2
  simp
  omega
theorem qku {x : zq} (hg : ∀ f ∈ x.fields, kr f) : ∀ s ∈ qcd x, 10 ∉ s ∧ [32, 32] <+: s := fun s hs => ⟨qzz hg s hs, by
 obtain ⟨y, _, rfl⟩ := List.mem_map.1 hs
 exact List.prefix_append _ _⟩
structure EncG (x : zq) : Prop where
 kind : x.kind = 1 ∨ x.kind = 2 ∨ x.kind = 3
 len : x.fields.length ≤ 40
 good : ∀ f ∈ x.fields, kr f
 id1 : -9223372036854775808 ≤ x.id
 id2 : x.id ≤ 9223372036854775807
theorem qog : ∀ (r : List zq) (D : qb) (x : zq) (k : Nat), EncG x → (∀ y ∈ r, EncG y) →
  yo (D ++ (kj x ++ encF r)) (yl k (D.length + ((vv x).length + 1)) (jd (qcd x) ++ encF r)) D.length = kj x :: r.map kj
 | [], D, x, k, hx, _ => by
  obtain ⟨k', h⟩ := qeo (D ++ (kj x ++ encF [])) (qcd x) k (D.length + ((vv x).length + 1)) D.length (encF []) (qku hx.good)
  rw [h]
  have e : encF [] = [] := rfl
  rw [e, qh7, yo]
  simp
 | y :: r, D, x, k, hx, hr => by
  have hy := hr y (by simp)
  obtain ⟨k', h⟩ := qeo (D ++ (kj x ++ encF (y :: r))) (qcd x) k (D.length + ((vv x).length + 1)) D.length (encF (y :: r)) (qku hx.good)
  rw [h]
  have e : encF (y :: r) = vv y ++ 10 :: (jd (qcd y) ++ encF r) := by
   have : encF (y :: r) = kj y ++ encF r := by simp [encF]
   rw [this, qfe hy.good, qaj]
   simp
  have hlx : (kj x).length = (vv x).length + 1 + (jd (qcd x)).length := by
   rw [qfe hx.good, qaj]
   simp
   omega
  have e2 : encF (y :: r) = kj y ++ encF r := by simp [encF]
  have hpos : D.length + ((vv x).length + 1) + (jd (qcd x)).length = (D ++ kj x).length := by
   rw [List.length_append, hlx]
   omega
  rw [hpos]
  have hc : yl k' (D ++ kj x).length (encF (y :: r)) = ⟨k', (D ++ kj x).length, vv y, true⟩ :: yl (k' + 1) ((D ++ kj x).length + (vv y).length + 1) (jd (qcd y) ++ encF r) := by
   rw [e, qgi (by simp), yx _ (qcy y), qaq _ (qcy y)]
   simp
  have hlt : D.length < (D ++ kj x).length := by rw [List.length_append, hlx]; omega
  rw [hc, yo, if_pos ⟨hlt, quq hy.kind⟩]
  have ih := qog r (D ++ kj x) y (k' + 1) hy fun z hz => hr z (by simp [hz])
  have et : D ++ (kj x ++ encF (y :: r)) = (D ++ kj x) ++ (kj y ++ encF r) := by rw [e2]; simp
  rw [et]
  have ed : ((D ++ kj x ++ (kj y ++ encF r)).take (D ++ kj x).length).drop D.length = kj x := by
   rw [List.take_left, List.drop_left]
  rw [ed, List.map_cons]
  simp only
  rw [show (D ++ kj x).length + (vv y).length + 1 = (D ++ kj x).length + ((vv y).length + 1) by omega, ih]
theorem qzx {x : zq} {r : List zq} (hx : EncG x) (hr : ∀ y ∈ r, EncG y) : y8 (encF (x :: r)) = (x :: r).map kj := by
 have e2 : encF (x :: r) = kj x ++ encF r := by simp [encF]
 have e : encF (x :: r) = vv x ++ 10 :: (jd (qcd x) ++ encF r) := by
  rw [e2, qfe hx.good, qaj]
  simp
 have h := qog r [] x 1 hx hr
 simp only [List.nil_append, List.length_nil, Nat.zero_add] at h
 have hc : lns (encF (x :: r)) = ⟨0, 0, vv x, true⟩ :: yl 1 ((vv x).length + 1) (jd (qcd x) ++ encF r) := by
  unfold lns
  rw [e, qgi (by simp), yx _ (qcy x), qaq _ (qcy x)]
  simp
 unfold y8
 rw [hc, yo, if_neg (by simp), e2, h]
 rfl
theorem qr4 : ∀ (r acc : List zq), (∀ y ∈ r, EncG y) → acc.length + r.length ≤ 40 → decP (r.map kj) acc = some (acc ++ r)
 | [], acc, _, _ => by simp [decP]
 | x :: r, acc, h, hl => by
  have hx := h x (by simp)
  simp only [List.length_cons] at hl
  have hu : upto 10 (kj x) = vv x := by
   unfold kj
   rw [List.append_assoc]
   exact yx _ (qcy x)
  have hp : past 10 (kj x) = qa7 [32, 32] (we x.fields) := by
   unfold kj
   rw [List.append_assoc]
   exact qaq _ (qcy x)
  have hfl := qqq hx.len hx.good
  rw [List.map_cons, decP, hu, qze hx.kind hx.id1 hx.id2]
  simp only [hp, hfl]
  rw [if_pos ⟨trivial, by omega⟩]
  have ih := qr4 r (acc ++ [⟨x.kind, x.id, x.fields⟩]) (fun y hy => h y (by simp [hy])) (by simp; omega)
  rw [ih]
  simp
theorem qu6 {x : zq} (h : gErr x = .no) (hB : EdB x) : EncG x := by
 obtain ⟨h1, h2⟩ := qor h
 refine ⟨?_, h1, h2, hB.id1, hB.id2⟩
 unfold gErr at h
 split at h
 ·exact .inr (.inl (by assumption))
 ·split at h
  ·rename_i hk; omega
  ·simp at h
theorem q24 {b : List zq} (he : eErr b = .no) (hB : ∀ x ∈ b, EdB x) (hl : (encF b).length ≤ 50000) : decF (encF b) = some b := by
 obtain ⟨h1, h40, hg⟩ := qoy he
 have hG : ∀ y ∈ b, EncG y := fun y hy => qu6 (hg y hy) (hB y hy)
 unfold decF
 rw [if_neg (by omega)]
 cases b with
 | nil => simp at h1
 | cons x r =>
  rw [qzx (hG x (by simp)) (fun y hy => hG y (by simp [hy])), qr4 (x :: r) [] hG (by simp at h40 ⊢; omega)]
  simp only [List.nil_append]
  rw [if_pos ⟨he, trivial⟩]
theorem q0x {text : qb} {b : List zq} (h : decF text = some b) : eErr b = .no ∧ encF b = text ∧ text.length ≤ 50000 := by
 unfold decF at h
 split at h
 ·simp at h
 ·split at h
  ·simp at h
  ·split at h
   ·rename_i hc
    cases h
    exact ⟨hc.1, hc.2, by omega⟩
   ·simp at h
end Go.Pl
set_option maxRecDepth 100000
set_option linter.unusedVariables false
namespace Go.Pl
open Go Go.Proofs Go.Proofs.YtefmcijohgpfhaaGreatDoor
def SpL (L : List qb) : Prop := L ≠ [] ∧ ∀ s ∈ L, 10 ∉ s ∧ [32] <+: s
def encL (b : List zq) : List qb := b.flatMap fun x => vv x :: qcd x
theorem qy2 {b : List zq} (hg : ∀ x ∈ b, EncG x) : encF b = jd (encL b) := by
 induction b with
 | nil => rfl
 | cons x r ih =>
  have e : encL (x :: r) = (vv x :: qcd x) ++ encL r := by simp [encL]
  have e2 : encF (x :: r) = kj x ++ encF r := by simp [encF]
  rw [e, qd5, e2, qfe (hg x (by simp)).good, ih fun y hy => hg y (by simp [hy])]
theorem q20 {x : zq} (hk : x.kind = 1 ∨ x.kind = 2 ∨ x.kind = 3) : [32] <+: vv x := by
 unfold vv
 rw [if_pos (by omega)]
 rcases hk with h | h | h <;> rw [h] <;> exact ⟨_, rfl⟩
theorem q22 {b : List zq} (hne : b ≠ []) (hg : ∀ x ∈ b, EncG x) : SpL (encL b) := by
 refine ⟨?_, fun s hs => ?_⟩
 ·cases b with
  | nil => exact absurd rfl hne
  | cons x r => simp [encL]
 ·obtain ⟨x, hx, hs⟩ := List.mem_flatMap.1 hs
  have hG := hg x hx
  rcases List.mem_cons.1 hs with rfl | hs
  ·exact ⟨qcy x, q20 hG.kind⟩
  ·obtain ⟨h1, t, ht⟩ := qku hG.good s hs
   exact ⟨h1, [32] ++ t, by rw [← ht]; rfl⟩
theorem q2a {L : List qb} (h : SpL L) : sp true (jd L) = true := by
 rw [← qim _ (jd L) (Nat.le_refl _), qcw L fun s hs => (h.2 s hs).1]
 intro x hx
 obtain ⟨s, hs, rfl⟩ := List.mem_map.1 hx
 exact (h.2 s hs).2
theorem qzo {L : List qb} (h : SpL L) : (jd L)[0]? = some 32 := by
 obtain ⟨hne, hs⟩ := h
 cases L with
 | nil => exact absurd rfl hne
 | cons s r =>
  obtain ⟨t, ht⟩ := (hs s (by simp)).2
  rw [qaj, ← ht]
  rfl
theorem qpp : ∀ (L : List qb), L ≠ [] → (jd L).getLast? = some 10
 | [], h => absurd rfl h
 | [s], _ => by rw [qaj]; simp [jd]
 | s :: t :: r, _ => by
  have ih := qpp (t :: r) (by simp)
  have hne : jd (t :: r) ≠ [] := fun e => by rw [e] at ih; simp at ih
  rw [qaj, List.getLast?_append, List.getLast?_cons, ih]
  simp
theorem qzv {b : List zq} (he : eErr b = .no) (hB : ∀ x ∈ b, EdB x) (hl : (encF b).length ≤ 50000) : qbm (encF b) := by
 obtain ⟨h1, h40, hg⟩ := qoy he
 have hG : ∀ y ∈ b, EncG y := fun y hy => qu6 (hg y hy) (hB y hy)
 have hne : b ≠ [] := fun e => by subst e; simp at h1
 have hS := q22 hne hG
 have ht := qy2 hG
 have hh := qzo hS
 have hlast := qpp _ hS.1
 rw [← ht] at hh hlast
 have hsp := q2a hS
 rw [← ht] at hsp
 refine ⟨?_, hl, hlast, by rw [qhg]; exact hsp⟩
 rcases hc : encF b with _ | ⟨c, _ | ⟨d, r⟩⟩
 ·rw [hc] at hh; simp at hh
 ·rw [hc] at hh hlast
  simp at hh hlast
  rw [hh] at hlast
  simp at hlast
 ·simp
end Go.Pl
set_option maxRecDepth 100000
set_option linter.unusedVariables false
namespace Go.Proofs.YtefmcijohgpfhaaGreatDoor
open Go Go.Av Go.RowKit Go.Proofs Go.Pl
theorem qzc : ∀ (ps : List qb) (acc b : List zq), (∀ x ∈ acc, EdB x) → decP ps acc = some b → ∀ x ∈ b, EdB x
 | [], acc, b, h, e => by
  rw [decP] at e
  cases e
  exact h
 | p :: r, acc, b, h, e => by
  rw [decP] at e
  split at e
  ·simp at e
  ·rename_i k n hb
   split at e
   ·refine qzc r _ b (fun x hx => ?_) e
    rcases List.mem_append.1 hx with hx | hx
    ·exact h x hx
    ·obtain rfl := List.mem_singleton.1 hx
     exact qzn (qos hb).1 (qos hb).2 (qlh _)
   ·simp at e
theorem q3z {text : qb} {b : List zq} (h : decF text = some b) : ∀ x ∈ b, EdB x := by
 unfold decF at h
 split at h
 ·simp at h
 ·split at h
  ·simp at h
  ·rename_i c hc
   split at h
   ·cases h
    exact qzc _ _ _ (by simp) hc
   ·simp at h
end Go.Proofs.YtefmcijohgpfhaaGreatDoor
set_option maxRecDepth 100000
set_option linter.unusedVariables false
namespace Go.Pl
open Go Go.Proofs Go.Proofs.YtefmcijohgpfhaaGreatDoor
def OutG (out : List zq) (m : Nat) : Prop := ∀ x ∈ out, (∀ f ∈ x.fields, kr f) ∧ x.fields.length ≤ m ∧ -9223372036854775808 ≤ x.id ∧ x.id ≤ 9223372036854775807
theorem OutG.mono {out : List zq} {m m' : Nat} (h : OutG out m) (hm : m ≤ m') : OutG out m' := fun x hx => ⟨(h x hx).1, by have := (h x hx).2.1; omega, (h x hx).2.2⟩
end Go.Pl
set_option maxRecDepth 100000
set_option linter.unusedVariables false
namespace Go.Pl
open Go Go.Proofs
def wu : List (qb × Bool) → List qb
 | [] => []
 | (t, _) :: r => if zl t = 3 then t :: wu r else []
def yf (prev : Bool) (t : qb) (e : Bool) (r : List (qb × Bool)) (fields : Nat) (records : Int) : Int :=
 if zl t = 5 ∨ (zl t = 3 ∧ prev = false) ∨ e = false then 2
 else if zl t ≠ 4 then 0
 else if (jv (t :: wu r)).2 ≠ 0 then (jv (t :: wu r)).2
 else if 40 ≤ fields ∨ (fields = 0 ∧ 400 ≤ records) then 11 else 0
theorem qtu {α : Type} {l : List α} {x : α} (h : l.getLast? = some x) : l.dropLast ++ [x] = l := by
 have hne : l ≠ [] := fun e => by subst e; simp at h
 rw [List.getLast?_eq_some_getLast hne] at h
 obtain rfl := Option.some.inj h
 exact List.dropLast_concat_getLast hne
def outR (now : wb) (out : List wb) : List wb := if now.raw = [] then out else out ++ [now]
def refL : Nat → List (qb × Bool) → Bool → wb → Int → List wb → Option (Int × Int) × List wb
 | _, [], _, now, _, out => (none, outR now out)
 | i, (t, e) :: r, prev, now, rec, out =>
  if yf prev t e r now.fields.length rec ≠ 0 then (some ((i : Int), yf prev t e r now.fields.length rec), [])
  else if zl t = 1 then refL (i + 1) r false ⟨2, [], []⟩ rec (outR now out ++ [⟨1, t ++ [10], []⟩])
  else if zl t = 4 then refL (i + 1) r true ⟨3, now.raw ++ t ++ [10], now.fields ++ [(jv (t :: wu r)).1]⟩ (if now.kind = 2 then rec + 1 else rec) out
  else refL (i + 1) r (decide (zl t = 3)) ⟨now.kind, now.raw ++ t ++ [10], now.fields⟩ rec out
def qqx : List (qb × Bool) → Prop
 | [] => True
 | (_, e) :: r => (e = false → r = []) ∧ qqx r
theorem qlo : ∀ (n : Nat) (l : qb), l.length ≤ n → qqx (jk l)
 | 0, l, h => by
  have : l = [] := List.length_eq_zero_iff.1 (by omega)
  subst this
  rw [x6]
  trivial
 | n + 1, l, h => by
  by_cases hl : l = []
  ·subst hl
   rw [x6]
   trivial
  ·rw [x5 hl]
   refine ⟨fun he => ?_, qlo n _ (by have := yz (c := 10) hl; omega)⟩
   have h10 : 10 ∉ l := by simpa using he
   have : past 10 l = [] := by
    unfold past
    rw [qdw h10]
    exact List.drop_eq_nil_of_le (by omega)
   rw [this, x6]
def qdq (ls : List qb) (full : Bool) : Int := if (jv ls).2 ≠ 0 then (jv ls).2 else if full = true then 11 else 0
theorem qgd {p : PSt} (h : p.lines ≠ []) (hc : qdq p.lines p.full ≠ 0) : (kh p).1 = some (p.frm, qdq p.lines p.full) := by
 unfold qdq at *
 unfold kh
 rw [if_neg h]
 by_cases h1 : (jv p.lines).2 ≠ 0
 ·rw [if_pos h1, if_pos h1]
 ·rw [if_neg h1] at hc ⊢
  rw [if_neg h1]
  by_cases h2 : p.full = true
  ·rw [if_pos h2, if_pos h2]
  ·rw [if_neg h2] at hc
   exact absurd rfl hc
theorem qpu {p : PSt} (h : p.lines = [] ∨ qdq p.lines p.full = 0) : kh p = (none, { p with lines := [], fields := p.fields ++ (if p.lines = [] then [] else [(jv p.lines).1]) }) := by
 unfold kh
 by_cases h0 : p.lines = []
 ·rw [if_pos h0, if_pos h0]
  obtain ⟨a, b, c, d, e, f, g⟩ := p
  simp only at h0
  subst h0
  simp
 ·rw [if_neg h0, if_neg h0]
  have h := h.resolve_left h0
  unfold qdq at h
  by_cases h1 : (jv p.lines).2 ≠ 0
  ·rw [if_pos h1] at h
   exact absurd h h1
  ·rw [if_neg h1] at h ⊢
   by_cases h2 : p.full = true
   ·rw [if_pos h2] at h
    simp at h
   ·rw [if_neg h2]
theorem qmy {p : PSt} {no : Int} {t : qb} {e : Bool} {x : Int × Int} (h : (jn p no t e (zl t)).1 = some x) : (xg p no t e).1 = some x := by
 unfold xg
 rw [h]
theorem qmm {p q : PSt} {no : Int} {t : qb} {e : Bool} (h : jn p no t e (zl t) = (none, q)) (hc : zl t = 5 ∨ e = false) : (xg p no t e).1 = some (no, 2) := by
 unfold xg
 rw [h]
 simp only
 rw [if_pos hc]
theorem qia {p q : PSt} {no : Int} {t : qb} (h : jn p no t true (zl t) = (none, q)) (hc : zl t ≠ 5) : xg p no t true =
  if zl t = 1 then (none, { q with items := q.items ++ [⟨1, t ++ [10], []⟩] }) else if zl t = 4 then (none, { vm q no t with block := q.block ++ [t] }) else (none, { q with block := q.block ++ [t] }) := by
 unfold xg
 rw [h]
 simp only
 rw [if_neg (by simp [hc])]
theorem qec {k : Nat} {t : qb} {e : Bool} {r : List (qb × Bool)} {p : PSt} {x : Int × Int} (h : (xg p k t e).1 = some x) : (runL k ((t, e) :: r) p).1 = some x := by
 rw [runL, h]
theorem qfj {k : Nat} {t : qb} {e : Bool} {r : List (qb × Bool)} {p q : PSt} (h : xg p k t e = (none, q)) : runL k ((t, e) :: r) p = runL (k + 1) r q := by
 rw [runL, h]
theorem qne {p : PSt} {no : Int} {t : qb} (hk : zl t = 3) (hl : p.lines ≠ []) : jn p no t true (zl t) = (none, { p with lines := p.lines ++ [t] }) := by
 unfold jn
 rw [if_pos hk, if_neg hl, if_pos rfl]
theorem qnf {p : PSt} {no : Int} {t : qb} (hk : zl t = 3) (hl : p.lines ≠ []) : jn p no t false (zl t) = kh { p with lines := p.lines ++ [t] } := by
 unfold jn
 rw [if_pos hk, if_neg hl, if_neg (by simp)]
theorem qff {p : PSt} {no : Int} {t : qb} {e : Bool} (hk : zl t ≠ 3) (h1 : zl t ≠ 1) : jn p no t e (zl t) = kh p := by
 unfold jn
 rw [if_neg hk, if_neg h1]
theorem qhs {p : PSt} {no : Int} {t : qb} {e : Bool} (h1 : zl t = 1) : jn p no t e (zl t) = endP p := by
 unfold jn
 rw [if_neg (by omega), if_pos h1]
theorem qoc {t : qb} {e : Bool} {r : List (qb × Bool)} (h : zl t ≠ 3) : wu ((t, e) :: r) = [] := by
 rw [wu, if_neg h]
theorem qhv {t : qb} {e : Bool} {r : List (qb × Bool)} (h : zl t = 3) : wu ((t, e) :: r) = t :: wu r := by
 rw [wu, if_pos h]
theorem qtk {p : PSt} {x : Int × Int} (h : (kh p).1 = some x) : (endP p).1 = some x := by
 unfold endP
 rw [h]
theorem qoz {p q : PSt} (h : kh p = (none, q)) : endP p = (none, yj q) := by
 unfold endP
 rw [h]
theorem qrf : ∀ (r : List (qb × Bool)) (p : PSt) (k : Nat) (c : Int), qqx r → p.lines ≠ [] → qdq (p.lines ++ wu r) p.full = c → c ≠ 0 → (runL k r p).1 = some (p.frm, c)
 | [], p, k, c, _, hl, hc, h0 => by
  rw [wu, List.append_nil] at hc
  rw [runL]
  subst hc
  exact qtk (qgd hl h0)
 | (t, e) :: r, p, k, c, hE, hl, hc, h0 => by
  by_cases h3 : zl t = 3
  ·rw [qhv h3] at hc
   cases e with
   | true =>
    have ht := qia (qne (no := k) h3 hl) (by omega)
    rw [if_neg (by omega), if_neg (by omega)] at ht
    rw [qfj ht]
    exact qrf r _ (k + 1) c hE.2 (by simp) (by simpa using hc) h0
   | false =>
    have hr := hE.1 rfl
    subst hr
    refine qec (qmy ?_)
    rw [qnf h3 hl]
    have hc' : qdq (p.lines ++ [t]) p.full = c := hc
    have := qgd (p := { p with lines := p.lines ++ [t] }) (by simp) (by simp only; rw [hc']; exact h0)
    simp only at this
    rw [this, hc']
  ·rw [qoc h3, List.append_nil] at hc
   subst hc
   refine qec (qmy ?_)
   by_cases h1 : zl t = 1
   ·rw [qhs h1]
    exact qtk (qgd hl h0)
   ·rw [qff h3 h1]
    exact qgd hl h0
structure Sim (r : List (qb × Bool)) (p : PSt) (prev : Bool) (now : wb) (rec : Int) (out : List wb) : Prop where
 hprev : prev = decide (p.lines ≠ [])
 hok : p.lines = [] ∨ qdq (p.lines ++ wu r) p.full = 0
 hraw : now.raw = jd p.block
 hfields : now.fields = p.fields ++ (if p.lines = [] then [] else [(jv (p.lines ++ wu r)).1])
 hkind : now.kind = if now.fields = [] then 2 else 3
 hrec : rec = p.records + if now.fields = [] then 0 else 1
 hout : out = p.items
 hempty : p.block = [] → p.lines = [] ∧ p.fields = []
 b1 : now.fields.length ≤ 40
 b2 : rec ≤ 400
theorem qyu (b : List qb) : jd b = [] ↔ b = [] := by
 cases b with
 | nil => simp [jd]
 | cons x r => simp [jd]
theorem qiw (b : List qb) (t : qb) : jd (b ++ [t]) = jd b ++ t ++ [10] := by simp [jd]
theorem Sim.flush {r : List (qb × Bool)} {p : PSt} {prev : Bool} {now : wb} {rec : Int} {out : List wb} (h : Sim r p prev now rec out) (hm : wu r = []) : kh p = (none, { p with lines := [], fields := now.fields }) := by
 have h1 := h.hok
 have h2 := h.hfields
 rw [hm, List.append_nil] at h1 h2
 rw [qpu h1, h2]
theorem Sim.close {r : List (qb × Bool)} {p : PSt} {prev : Bool} {now : wb} {rec : Int} {out : List wb} (h : Sim r p prev now rec out) (hm : wu r = []) : yj { p with lines := [], fields := now.fields } = { p with lines := [], fields := [], block := [], items := outR now out, records := rec } := by
 have hk := h.hkind
 have hr := h.hrec
 have hw := h.hraw
 have ho := h.hout
 unfold yj outR
 simp only
 by_cases hb : p.block = []
 ·obtain ⟨e1, e2⟩ := h.hempty hb
  have hf : now.fields = [] := by rw [h.hfields, e1, e2]; simp
  rw [if_pos hb, if_pos (by rw [hw, hb]; rfl), ho, hr, hf]
  simp
 ·have hne : ¬ now.raw = [] := by rw [hw, qyu]; exact hb
  rw [if_neg hb, if_neg hne, ho, hr, ← hw]
  obtain ⟨nk, nr, nf⟩ := now
  simp only at hk hne ⊢
  by_cases hf : nf = []
  ·rw [if_pos hf] at hk
   simp [hf, hk, hne]
  ·rw [if_neg hf] at hk
   simp [hf, hk, hne]
theorem qig : ∀ (r : List (qb × Bool)) (k : Nat) (p : PSt) (prev : Bool) (now : wb) (rec : Int) (out : List wb), qqx r → Sim r p prev now rec out →
  refL k r prev now rec out = match (runL k r p).1 with
   | some e => (some e, [])
   | none => (none, (runL k r p).2.items)
 | [], k, p, prev, now, rec, out, _, h => by
  rw [runL, qoz (h.flush rfl), h.close rfl, refL]
 | (t, e) :: r, k, p, prev, now, rec, out, hE, h => by
  rw [refL]
  by_cases h3 : zl t = 3
  ·by_cases hl : p.lines = []
   ·have hp : prev = false := by rw [h.hprev]; simp [hl]
    have hw : yf prev t e r now.fields.length rec = 2 := by
     unfold yf
     rw [if_pos (.inr (.inl ⟨h3, hp⟩))]
    rw [hw, if_pos (by decide), qec (x := ((k : Int), 2)) (qmy (by unfold jn; rw [if_pos h3, if_pos hl]))]
   ·cases e with
    | true =>
     have hp : prev = true := by rw [h.hprev]; simp [hl]
     have hw : yf prev t true r now.fields.length rec = 0 := by
      unfold yf
      rw [if_neg (by simp [hp]; omega), if_pos (by omega)]
     have ht := qia (qne (no := k) h3 hl) (by omega)
     rw [if_neg (by omega), if_neg (by omega)] at ht
     rw [hw, if_neg (by simp), if_neg (by omega), if_neg (by omega), qfj ht]
     have hm := qhv (e := true) (r := r) h3
     have hok := h.hok.resolve_left hl
     have hfs := h.hfields
     rw [if_neg hl, hm] at hfs
     rw [hm] at hok
     refine qig r (k + 1) _ _ _ _ _ hE.2 ⟨by simp [h3], .inr (by simpa using hok), by rw [qiw, ← h.hraw], by simp [hfs], h.hkind, h.hrec, h.hout, by simp, h.b1, h.b2⟩
    | false =>
     have hr := hE.1 rfl
     subst hr
     have hw : yf prev t false [] now.fields.length rec = 2 := by
      unfold yf
      rw [if_pos (.inr (.inr rfl))]
     have hok := h.hok.resolve_left hl
     rw [qhv h3] at hok
     have hf := qpu (p := { p with lines := p.lines ++ [t] }) (.inr hok)
     rw [hw, if_pos (by decide), qec (x := ((k : Int), 2)) (qmm ((qnf h3 hl).trans hf) (.inr rfl))]
  ·have hm := qoc (e := e) (r := r) h3
   have hf := h.flush hm
   have hc := h.close hm
   by_cases hbad : zl t = 5 ∨ e = false
   ·have hw : yf prev t e r now.fields.length rec = 2 := by
     unfold yf
     rw [if_pos (by rcases hbad with h | h; exact .inl h; exact .inr (.inr h))]
    rw [hw, if_pos (by decide)]
    by_cases h1 : zl t = 1
    ·rw [qec (x := ((k : Int), 2)) (qmm ((qhs h1).trans (qoz hf)) hbad)]
    ·rw [qec (x := ((k : Int), 2)) (qmm ((qff h3 h1).trans hf) hbad)]
   ·have he : e = true := by
     cases e with
     | true => rfl
     | false => exact absurd (.inr rfl) hbad
    have h5 : zl t ≠ 5 := fun h => hbad (.inl h)
    subst he
    by_cases h1 : zl t = 1
    ·have hw : yf prev t true r now.fields.length rec = 0 := by
      unfold yf
      rw [if_neg (by simp [h3, h5]), if_pos (by omega)]
     have ht := qia ((qhs (no := k) h1).trans (qoz hf)) h5
     rw [if_pos h1, hc] at ht
     rw [hw, if_neg (by simp), if_pos h1, qfj ht]
     exact qig r (k + 1) _ _ _ _ _ hE.2 ⟨by simp, .inl rfl, rfl, by simp, by simp, by simp, rfl, by simp, by simp, h.b2⟩
    ·by_cases h4 : zl t = 4
     ·have ht := qia ((qff (no := k) h3 h1).trans hf) h5
      rw [if_neg h1, if_pos h4] at ht
      rw [qfj ht]
      have hb1 := h.b1
      have hb2 := h.b2
      have hrec := h.hrec
      have hfull : (40 ≤ now.fields.length ∨ (now.fields.length = 0 ∧ 400 ≤ rec)) ↔ (now.fields.length = 40 ∨ (now.fields.length = 0 ∧ p.records = 400)) := by
       by_cases hz : now.fields = []
       ·rw [if_pos hz] at hrec
        simp only [hz, List.length_nil]
        constructor
        ·rintro (h' | h')
         ·exact absurd h' (by decide)
         ·exact .inr ⟨trivial, by omega⟩
        ·rintro (h' | h')
         ·exact absurd h' (by decide)
         ·exact .inr ⟨trivial, by omega⟩
       ·have : now.fields.length ≠ 0 := fun h => hz (List.length_eq_zero_iff.1 h)
        constructor
        ·rintro (h' | h')
         ·exact .inl (by omega)
         ·exact absurd h'.1 this
        ·rintro (h' | h')
         ·exact .inl (by omega)
         ·exact absurd h'.1 this
      have hw : yf prev t true r now.fields.length rec = qdq (t :: wu r) (decide (now.fields.length = 40 ∨ (now.fields.length = 0 ∧ p.records = 400))) := by
       unfold yf qdq
       rw [if_neg (by simp [h3, h5]), if_neg (by omega)]
       by_cases hu : (jv (t :: wu r)).2 ≠ 0
       ·rw [if_pos hu, if_pos hu]
       ·rw [if_neg hu, if_neg hu]
        by_cases hx : 40 ≤ now.fields.length ∨ (now.fields.length = 0 ∧ 400 ≤ rec)
        ·rw [if_pos hx, if_pos (decide_eq_true (hfull.1 hx))]
        ·rw [if_neg hx, if_neg (by simpa using fun h => hx (hfull.2 h))]
      by_cases hw0 : yf prev t true r now.fields.length rec = 0
      ·rw [if_neg (by simp [hw0]), if_neg h1, if_pos h4]
       have hx : ¬ (40 ≤ now.fields.length ∨ (now.fields.length = 0 ∧ 400 ≤ rec)) := fun hx => by
        unfold yf at hw0
        rw [if_neg (by simp [h3, h5]), if_neg (by omega)] at hw0
        by_cases hu : (jv (t :: wu r)).2 ≠ 0
        ·rw [if_pos hu] at hw0; exact hu hw0
        ·rw [if_neg hu, if_pos hx] at hw0; simp at hw0
       rw [hw] at hw0
       refine qig r (k + 1) _ _ _ _ _ hE.2 ⟨by simp [vm], .inr hw0, by simp only [vm]; rw [qiw, ← h.hraw], by simp [vm], by simp, ?_, h.hout, by simp [vm], by simp; omega, ?_⟩
       ·have hkd := h.hkind
        simp only [vm]
        by_cases hz : now.fields = []
        ·rw [if_pos hz] at hrec hkd
         rw [hkd]
         simp
         omega
        ·rw [if_neg hz] at hrec hkd
         rw [hkd]
         simp
         omega
       ·rw [h.hkind]
        by_cases hz : now.fields = []
        ·have : now.fields.length = 0 := by rw [hz]; rfl
         rw [if_pos hz, if_pos rfl]
         omega
        ·rw [if_neg hz, if_neg (by decide)]
         exact hb2
      ·rw [if_pos hw0]
       have := qrf r { vm { p with lines := [], fields := now.fields } k t with block := p.block ++ [t] } (k + 1) (yf prev t true r now.fields.length rec) hE.2 (by simp [vm]) hw.symm hw0
       simp only [vm] at this ⊢
       rw [this]
     ·have hw : yf prev t true r now.fields.length rec = 0 := by
       unfold yf
       rw [if_neg (by simp [h3, h5]), if_pos h4]
      have ht := qia ((qff (no := k) h3 h1).trans hf) h5
      rw [if_neg h1, if_neg h4] at ht
      rw [hw, if_neg (by simp), if_neg h1, if_neg h4, qfj ht]
      exact qig r (k + 1) _ _ _ _ _ hE.2 ⟨by simp [h3], .inl rfl, by rw [qiw, ← h.hraw], by simp, h.hkind, h.hrec, h.hout, by simp, h.b1, h.b2⟩
theorem qun (text : qb) : refL 0 (jk text) false ⟨2, [], []⟩ 0 [] = kp text := by
 unfold kp
 exact qig (jk text) 0 p0 false ⟨2, [], []⟩ 0 [] (qlo _ text (Nat.le_refl _)) ⟨by simp [p0], .inl rfl, rfl, by simp [p0], by simp, by simp [p0], rfl, by simp [p0], by simp, by omega⟩
end Go.Pl
set_option maxRecDepth 100000
set_option linter.unusedVariables false
namespace Go.Pl
open Go Go.Proofs Go.Proofs.YtefmcijohgpfhaaGreatDoor
theorem qnk {l b : qb} {n : Int} (h : je l = (1, b, n)) : qbm b ∧ ∃ m, l = recF b ++ m ∧ n = (recF b).length := by
 unfold je at h
 split at h
 ·rename_i h10
  split at h
  ·rename_i ho
   generalize hr : past 10 l = r at *
   have hl := qaz h10
   rw [hr] at hl
   generalize hu : upto 10 l = u at *
   have hop : u = xi (ju u).1 (ju u).2.1 ∧ 2 ≤ (ju u).1 ∧ (ju u).1 ≤ 50000 := by
    simp only [ju, decide_eq_true_eq] at ho ⊢
    obtain ⟨o1, o2, o3, o4, o5⟩ := ho
    refine ⟨?_, o3, qcb _⟩
    obtain ⟨t, rfl⟩ := o1
    rw [qiz] at *
    have := qe6 rfl (Nat.le_trans (by decide) o3)
    unfold xi
    rw [← this, ← qaz o2]
   generalize (ju u).1 = n at *
   generalize (ju u).2.1 = fig at *
   obtain ⟨rfl, h2, hn⟩ := hop
   split at h
   ·unfold qdf at h
    split at h <;> simp at h
   ·rename_i hge
    split at h
    ·rename_i hg
     have hlen : (r.take n).length = n := by simp; omega
     unfold qbk at h
     rw [hlen] at h
     split at h
     ·simp at h
     ·split at h
      ·rename_i hc
       obtain ⟨⟨m, hm⟩, hs⟩ := hc
       simp only [Prod.mk.injEq, true_and] at h
       obtain ⟨rfl, rfl⟩ := h
       refine ⟨hg, m, ?_, ?_⟩
       ·rw [qif, hlen, ← hs, hl]
        unfold recL
        conv => lhs; rw [← List.take_append_drop n r, ← hm]
        simp
       ·rw [qlf _ hg, hlen]
      ·simp at h
    ·simp at h
  ·simp at h
 ·split at h <;> simp at h
theorem qpb (s sub : qb) (i : Nat) : Lib.occAt s sub i = true ↔ sub <+: s.drop i := by
 unfold Lib.occAt
 rw [List.isPrefixOf_iff_prefix]
theorem q3u {a : qb} (r : qb) (h : 10 ∉ a) : Lib.cut (a ++ 10 :: 10 :: r) [10, 10] = (a, r, true) := by
 have hi : Lib.index (a ++ 10 :: 10 :: r) [10, 10] = (a.length : Int) := by
  refine Lib.index_first (by simp) ?_ fun j hj => ?_
  ·rw [qpb, List.drop_left]
   exact ⟨r, rfl⟩
  ·cases hb : Lib.occAt (a ++ 10 :: 10 :: r) [10, 10] j with
   | false => rfl
   | true =>
    obtain ⟨t, ht⟩ := (qpb _ _ _).1 hb
    rw [List.drop_append_of_le_length (by omega)] at ht
    have : a.drop j ≠ [] := by
     intro e
     have := congrArg List.length e
     simp at this
     omega
    obtain ⟨c, q, hq⟩ := List.exists_cons_of_ne_nil this
    rw [hq] at ht
    have h10 : c = 10 := by simpa using (List.cons.inj ht).1.symm
    exact absurd (List.mem_of_mem_drop (by rw [hq, h10]; simp : (10 : UInt8) ∈ a.drop j)) h
 unfold Lib.cut
 rw [hi, if_pos (by omega)]
 simp only [Int.toNat_natCast, List.take_left', List.length_cons, List.length_nil]
 rw [show a.length + (0 + 1 + 1) = (a ++ [10, 10]).length by simp, show a ++ 10 :: 10 :: r = (a ++ [10, 10]) ++ r by simp, List.drop_left]
theorem q1l {l m : qb} (h : (Lib.cut l m).2.2 = true) : l = (Lib.cut l m).1 ++ m ++ (Lib.cut l m).2.1 := by
 rcases Lib.index_spec l m with ⟨h1, _⟩ | ⟨i, h1, h2, h3, _⟩
 ·unfold Lib.cut at h
  rw [h1, if_neg (by omega)] at h
  simp at h
 ·unfold Lib.cut
  rw [h1, if_pos (by omega)]
  simp only [Int.toNat_natCast]
  obtain ⟨t, ht⟩ := (qpb _ _ _).1 h3
  have e : l.drop (i + m.length) = t := by rw [← List.drop_drop, ← ht, List.drop_left]
  rw [e, List.append_assoc, ht, List.take_append_drop]
def genL : qb := [35, 37, 103, 101, 110, 32]
def yw (n : Int) : qb := genL ++ Lib.itoa n ++ [10, 10]
def qbc (n : Int) : Prop := 1 ≤ n ∧ n ≤ 2147483648
instance (n : Int) : Decidable (qbc n) := inferInstanceAs (Decidable (_ ∧ _))
def yr (text : qb) : Int × qb :=
 if genL <+: text then
  match numZ (upto 10 (text.drop 6)) with
  | some n => if qbc n ∧ [10, 10] <+: text.drop (6 + (upto 10 (text.drop 6)).length) then (n, text.drop (8 + (upto 10 (text.drop 6)).length)) else (0, text)
  | none => (0, text)
 else (0, text)
theorem qiu (v : Int) : (10 : UInt8) ∉ Lib.itoa v := by
 intro h
 by_cases hv : v < 0
 ·rw [qg1 hv] at h
  rcases List.mem_cons.1 h with h | h
  ·simp at h
  ·have := xv _ _ (Nat.le_refl _) _ h
   simp at this
 ·rw [qgr (by omega)] at h
  have := xv _ _ (Nat.le_refl _) _ h
  simp at this
theorem qjk (n : Int) (r : qb) : yw n ++ r = genL ++ (Lib.itoa n ++ 10 :: 10 :: r) := by simp [yw]
theorem qi9 {n : Int} (h : qbc n) (r : qb) : yr (yw n ++ r) = (n, r) := by
 unfold yr
 have hd : (genL ++ (Lib.itoa n ++ 10 :: 10 :: r)).drop 6 = Lib.itoa n ++ 10 :: 10 :: r := by rw [show (6 : Nat) = genL.length by rfl, List.drop_left]
 rw [qjk, if_pos (List.prefix_append _ _), hd, yx _ (qiu n), qxp (by have := h.1; omega) (by have := h.2; omega)]
 have e1 : (genL ++ (Lib.itoa n ++ 10 :: 10 :: r)).drop (6 + (Lib.itoa n).length) = 10 :: 10 :: r := by rw [← List.drop_drop, hd, List.drop_left]
 have e2 : (genL ++ (Lib.itoa n ++ 10 :: 10 :: r)).drop (8 + (Lib.itoa n).length) = r := by
  rw [show 8 + (Lib.itoa n).length = (6 + (Lib.itoa n).length) + 2 by omega, ← List.drop_drop, e1]
  rfl
 simp only
 rw [e1, e2, if_pos ⟨h, r, rfl⟩]
theorem qpn {text : qb} (h : ∀ n r, qbc n → text ≠ yw n ++ r) : yr text = (0, text) := by
 unfold yr
 split
 ·rename_i hp
  obtain ⟨t, rfl⟩ := hp
  have hd : (genL ++ t).drop 6 = t := by rw [show (6 : Nat) = genL.length by rfl, List.drop_left]
  rw [hd]
  split
  ·rename_i n hn
   split
   ·rename_i hc
    obtain ⟨hg, r, hr⟩ := hc
    rw [← List.drop_drop, hd] at hr
    obtain ⟨he, _⟩ := qzp hn
    refine absurd ?_ (h n r hg)
    rw [qjk, ← he]
    congr 1
    conv => lhs; rw [← List.take_append_drop (upto 10 t).length t, qg4, ← hr]
    rfl
   ·rfl
  ·rfl
 ·rfl
theorem qlg (text : qb) : (∃ n r, qbc n ∧ text = yw n ++ r ∧ yr text = (n, r)) ∨ ((∀ n r, qbc n → text ≠ yw n ++ r) ∧ yr text = (0, text)) := by
 by_cases h : ∃ n r, qbc n ∧ text = yw n ++ r
 ·obtain ⟨n, r, hg, rfl⟩ := h
  exact .inl ⟨n, r, hg, rfl, qi9 hg r⟩
 ·have h' : ∀ n r, qbc n → text ≠ yw n ++ r := fun n r hg e => h ⟨n, r, hg, e⟩
  exact .inr ⟨h', qpn h'⟩
def xf (n : Int) : qb := if qbc n then yw n else []
theorem qht (text : qb) : text = xf (yr text).1 ++ (yr text).2 ∧ ((yr text).1 = 0 ∨ qbc (yr text).1) := by
 rcases qlg text with ⟨n, r, hg, he, ht⟩ | ⟨_, ht⟩
 ·rw [ht]
  simp only
  unfold xf
  rw [if_pos hg]
  exact ⟨he, .inr hg⟩
 ·rw [ht]
  exact ⟨rfl, .inl rfl⟩
theorem qp2 {n : Int} (h : qbc n) : (yw n).length ≤ 28 := by
 have := qj9 (v := n) (by have := h.1; omega) (by have := h.2; omega)
 simp [yw, genL]
 omega
def begF (l : qb) : Bool := decide (l.head? = some 37 ∧ zl l = 5)
def kw (n : Nat) (l : qb) : Nat := if h : l = [] then n else if begF (upto 10 l) = true then n - l.length else kw n (past 10 l)
 termination_by l.length
 decreasing_by exact yz h
theorem qeg (n : Nat) : kw n [] = n := by rw [kw, dif_pos rfl]
theorem qin {n : Nat} {l : qb} (h : l ≠ []) (hb : begF (upto 10 l) = true) : kw n l = n - l.length := by rw [kw, dif_neg h, if_pos hb]
theorem qko {n : Nat} {l : qb} (h : l ≠ []) (hb : ¬ begF (upto 10 l) = true) : kw n l = kw n (past 10 l) := by
 conv => lhs; rw [kw]
 rw [dif_neg h, if_neg hb]
theorem qj3 : ∀ (k n : Nat) (l : qb), l.length ≤ k → l.length ≤ n → n - l.length ≤ kw n l ∧ kw n l ≤ n
 | 0, n, l, h, hn => by
  have : l = [] := List.length_eq_zero_iff.1 (by omega)
  subst this
  rw [qeg]
  simp
 | k + 1, n, l, h, hn => by
  by_cases hl : l = []
  ·subst hl; rw [qeg]; simp
  ·by_cases hb : begF (upto 10 l) = true
   ·rw [qin hl hb]
    omega
   ·have := yz (c := 10) hl
    rw [qko hl hb]
    have := qj3 k n (past 10 l) (by omega) (by omega)
    omega
theorem qn5 : ∀ (k n : Nat) (l x : qb), l.length ≤ k → (∀ p ∈ jk l, begF p.1 = false ∧ p.2 = true) → kw n (l ++ x) = kw n x
 | 0, n, l, x, h, _ => by
  have : l = [] := List.length_eq_zero_iff.1 (by omega)
  subst this
  rfl
 | k + 1, n, l, x, h, hp => by
  by_cases hl : l = []
  ·subst hl; rfl
  ·rw [x5 hl] at hp
   obtain ⟨h1, h2⟩ := hp _ (List.mem_cons_self ..)
   have h10 : 10 ∈ l := by simpa using h2
   have e := qaz h10
   have hu : upto 10 (l ++ x) = upto 10 l ∧ past 10 (l ++ x) = past 10 l ++ x := by
    have e2 : l ++ x = upto 10 l ++ 10 :: (past 10 l ++ x) := by
     conv => lhs; rw [e]
     simp
    rw [e2, yx _ (qde 10 l), qaq _ (qde 10 l)]
    exact ⟨rfl, rfl⟩
   rw [qko (by simp [hl]) (by rw [hu.1]; simp [h1]), hu.2]
   exact qn5 k n _ x (by have := yz (c := 10) hl; omega) fun p hp' => hp p (by simp [hp'])
theorem qf5 : ∀ (r : List (qb × Bool)) (k : Nat) (prev : Bool) (now : wb) (rec : Int) (out : List wb), (refL k r prev now rec out).1 = none → ∀ x ∈ r, zl x.1 ≠ 5 ∧ x.2 = true
 | [], _, _, _, _, _, _ => by simp
 | (t, e) :: r, k, prev, now, rec, out, h => by
  rw [refL] at h
  split at h
  ·simp at h
  ·rename_i hw
   have hx : zl t ≠ 5 ∧ e = true := by
    unfold yf at hw
    split at hw
    ·simp at hw
    ·rename_i hc
     exact ⟨fun h5 => hc (.inl h5), by cases e with | true => rfl | false => exact absurd (.inr (.inr rfl)) hc⟩
   have hr : ∀ x ∈ r, zl x.1 ≠ 5 ∧ x.2 = true := by
    split at h
    ·exact qf5 r _ _ _ _ _ h
    ·split at h
     ·exact qf5 r _ _ _ _ _ h
     ·exact qf5 r _ _ _ _ _ h
   intro x hx'
   rcases List.mem_cons.1 hx' with rfl | hx'
   ·exact hx
   ·exact hr x hx'
theorem qud {text : qb} (h : (kp text).1 = none) : ∀ x ∈ jk text, begF x.1 = false ∧ x.2 = true := fun x hx => by
 rw [← qun] at h
 obtain ⟨h1, h2⟩ := qf5 _ _ _ _ _ _ h x hx
 exact ⟨by simp [begF, h1], h2⟩
theorem qhd {n : Nat} {fig l : qb} (hf : qav fig) (h : l <+: xi n fig) (hne : l ≠ []) : begF l = true := by
 have h10 : 10 ∉ l := qo7 h (qc9 n hf)
 have h58 : (58 : UInt8) ∉ l := qo7 h fun h' => by
  unfold xi at h'
  rcases List.mem_append.1 h' with h' | h'
  ·revert h'; decide
  ·rcases List.mem_append.1 h' with h' | h'
   ·exact qit n (by decide) h'
   ·rcases List.mem_cons.1 h' with h' | h'
    ·simp at h'
    ·exact qky hf (by decide) h'
 obtain ⟨c, q, rfl⟩ := List.exists_cons_of_ne_nil hne
 have hc : c = 37 := by
  obtain ⟨t, ht⟩ := h
  unfold xi jr at ht
  exact (List.cons.inj ht).1
 subst hc
 have hk := qul h10 (fun hb => by
  have := hb 37 (by simp)
  revert this
  decide)
 simp only [begF, List.head?_cons, true_and, decide_eq_true_eq]
 rw [hk.2]
 rw [if_neg (by simp), if_neg (by simp [ye]), if_neg (fun h => h58 h.1)]
theorem qxw {n : Nat} {fig body l : qb} (hf : qav fig) (h : l <+: recL n fig body) (hne : l ≠ []) : begF (upto 10 l) = true := by
 rcases qpq (show l <+: xi n fig ++ 10 :: (body ++ qdu n) from h) with h | ⟨r, rfl, hr⟩
 ·rw [qdw (qo7 h (qc9 n hf))]
  exact qhd hf h hne
 ·cases r with
  | nil =>
   rw [List.append_nil, qdw (qc9 n hf)]
   exact qhd hf (List.prefix_refl _) (by simp [xi, jr])
  | cons c r =>
   have : c = 10 := by obtain ⟨t, ht⟩ := hr; exact (List.cons.inj ht).1
   subst this
   rw [yx _ (qc9 n hf)]
   exact qhd hf (List.prefix_refl _) (by simp [xi, jr])
theorem q2j {b : qb} (x : qb) (hg : qbm b) : begF (upto 10 (recF b ++ x)) = true := by
 rw [qif]
 have hx : qav (sumF b) := qlp (addP 0 b)
 unfold recL
 rw [List.append_assoc, List.cons_append, yx _ (qc9 _ hx)]
 exact qhd hx (List.prefix_refl _) (by simp [xi, jr])
end Go.Pl
set_option maxRecDepth 100000
set_option linter.unusedVariables false
namespace Go.Av
open Go Go.RowKit
section
variable {E : Env} {rd : Option Nat} {N : Nat} {ops : Array Oper} {K K' : AS → Prop} {s : AS}
theorem AOps.mono {l : List Oper} (h : AOps E rd N ops l K' s) (hk : ∀ s, K' s → K s) : AOps E rd N ops l K s :=
 ⟨fun B0 w0 G a w hL hI Q hQ => h.run B0 w0 G a w hL hI Q fun G' s' a' w' hG hI' hK => hQ G' s' a' w' hG hI' (hk _ hK)⟩
end
end Go.Av
namespace Go.Proofs.YtefmcijohgpfhaaGreatDoor
open Go Go.Av Go.RowKit Go.Proofs Go.Pl
theorem qbz {b o : Nat} {st : List AObj} {sz : Nat} {T : TypeId} {xs : List AV} {c : AV} {x : AObj} (ho : o < b) (h : TipO b st sz T xs c) : TipO b (st.set o x) sz T xs c := by
 rcases h with h | h
 ·exact .inl (j6 ho h)
 ·exact .inr h
end Go.Proofs.YtefmcijohgpfhaaGreatDoor
set_option maxRecDepth 100000
set_option linter.unusedVariables false
namespace Go.Pl
open Go Go.Proofs Go.Proofs.YtefmcijohgpfhaaGreatDoor
structure y6 where
 gen : Int
 base : qb
 batches : List (List zq)
 ends : List Int
 tail : qb
def qg9 : y6 := ⟨0, [], [], [], []⟩
def qdp (text : qb) : ErrV := if 60000 < text.length then .num 1 else match (kp text).1 with
 | none => .no
 | some (a, n) => .at' a n
def recsF : Nat → qb → Int → List (List zq) → List Int → Bool × List (List zq) × List Int × qb
 | 0, l, _, bs, es => (false, bs, es, l)
 | f + 1, l, a, bs, es =>
  if (je l).1 = 2 then (false, bs, es, l)
  else if (je l).1 = 1 then match decF (je l).2.1 with
   | some b => recsF f (l.drop (je l).2.2.toNat) (a + (je l).2.2) (bs ++ [b]) (es ++ [a + (je l).2.2])
   | none => (true, bs, es, l)
  else (true, bs, es, l)
def qb0 (text : qb) : qb := (yr text).2
def atH (text : qb) : Nat := kw (qb0 text).length (qb0 text)
def qf0 (text : qb) : qb := (qb0 text).take (atH text)
def qct (text : qb) : Bool × List (List zq) × List Int × qb := recsF (text.length + 1) ((qb0 text).drop (atH text)) (((text.length - (qb0 text).length + atH text : Nat)) : Int) [] []
def qen (text : qb) : ErrV × y6 :=
 if 120000 < text.length then (.num 1, qg9)
 else match qdp (qf0 text) with
  | .no => if (qct text).1 = true then (.at' (qct text).2.1.length 10, qg9) else (.no, ⟨(yr text).1, qf0 text, (qct text).2.1, (qct text).2.2.1, (qct text).2.2.2⟩)
  | e => (e, qg9)
structure qem (b : List zq) : Prop where
 ok : eErr b = .no
 B : ∀ x ∈ b, EdB x
 len : (encF b).length ≤ 50000
theorem qem.dec {b : List zq} (h : qem b) : decF (encF b) = some b := q24 h.ok h.B h.len
theorem qem.good {b : List zq} (h : qem b) : qbm (encF b) := qzv h.ok h.B h.len
theorem q0q {t : qb} {b : List zq} (h : decF t = some b) : qem b ∧ encF b = t := by
 obtain ⟨h1, h2, h3⟩ := q0x h
 exact ⟨⟨h1, q3z h, by rw [h2]; exact h3⟩, h2⟩
def recE (b : List zq) : qb := recF (encF b)
def wo (bs : List (List zq)) : qb := bs.flatMap recE
def qam (a : Int) : List (List zq) → List Int
 | [] => []
 | b :: r => (a + (recE b).length) :: qam (a + (recE b).length) r
theorem qbt (b : List zq) (r : List (List zq)) : wo (b :: r) = recE b ++ wo r := rfl
theorem qwt (r : List (List zq)) (b : List zq) : wo (r ++ [b]) = wo r ++ recE b := by simp [wo]
theorem qnu : ∀ (r : List (List zq)) (a : Int) (b : List zq), qam a (r ++ [b]) = qam a r ++ [a + (wo r).length + (recE b).length]
 | [], a, b => by simp [qam, wo]
 | x :: r, a, b => by
  rw [List.cons_append, qam, qam, qnu r, qbt]
  simp
  omega
theorem qka : ∀ (r : List (List zq)) (a : Int), (qam a r).length = r.length
 | [], _ => rfl
 | x :: r, a => by rw [qam]; simp [qka r]
theorem qm4 : ∀ (r : List (List zq)) (a : Int), r ≠ [] → (qam a r).getLast? = some (a + (wo r).length)
 | [], _, h => absurd rfl h
 | [x], a, _ => by simp [qam, wo]
 | x :: y :: r, a, _ => by
  have := qm4 (y :: r) (a + (recE x).length) (by simp)
  rw [qam, List.getLast?_cons]
  rw [this, qbt x]
  simp
  omega
theorem qmv (b : List zq) : 0 < (recE b).length := by
 unfold recE
 rw [qif]
 simp [recL, xi, jr]
theorem qrw : ∀ (bs : List (List zq)) (f : Nat) (t : qb) (a : Int) (xs : List (List zq)) (es : List Int), (∀ b ∈ bs, qem b) → (je t).1 = 2 → bs.length < f →
  recsF f (wo bs ++ t) a xs es = (false, xs ++ bs, es ++ qam a bs, t)
 | [], f + 1, t, a, xs, es, _, ht, _ => by
  rw [recsF]
  simp only [wo, List.flatMap_nil, List.nil_append, qam, List.append_nil]
  rw [if_pos ht]
 | b :: r, f + 1, t, a, xs, es, h, ht, hf => by
  have hb := h b (by simp)
  have hrd : je (wo (b :: r) ++ t) = (1, encF b, ((recE b).length : Int)) := by
   rw [qbt, List.append_assoc]
   exact q0p _ hb.good
  have hdr : (wo (b :: r) ++ t).drop (recE b).length = wo r ++ t := by
   rw [qbt, List.append_assoc, List.drop_left]
  rw [recsF, hrd]
  simp only
  rw [if_neg (by decide), if_pos trivial, hb.dec]
  simp only [Int.toNat_natCast]
  rw [hdr, qrw r f t _ _ _ (fun x hx => h x (by simp [hx])) ht (by simp at hf; omega)]
  simp [qam]
theorem qsk : ∀ (f : Nat) (l : qb) (a : Int) (xs xs' : List (List zq)) (es es' : List Int) (t : qb), l.length < f → recsF f l a xs es = (false, xs', es', t) →
  ∃ bs, l = wo bs ++ t ∧ xs' = xs ++ bs ∧ es' = es ++ qam a bs ∧ (∀ b ∈ bs, qem b) ∧ (je t).1 = 2
 | 0, l, a, xs, xs', es, es', t, hl, h => absurd hl (by omega)
 | f + 1, l, a, xs, xs', es, es', t, hl, h => by
  rw [recsF] at h
  split at h
  ·rename_i h2
   simp only [Prod.mk.injEq, true_and] at h
   obtain ⟨rfl, rfl, rfl⟩ := h
   exact ⟨[], by simp [wo], by simp, by simp [qam], by simp, h2⟩
  ·split at h
   ·rename_i h1
    split at h
    ·rename_i b hd
     obtain ⟨hg, he⟩ := q0q hd
     have hrd : je l = (1, (je l).2.1, (je l).2.2) := by rw [← h1]
     obtain ⟨_, m, hm, hn⟩ := qnk hrd
     rw [← he] at hm hn
     have hm' : l = recE b ++ m := hm
     have hn' : (je l).2.2 = ((recE b).length : Int) := hn
     have hpos := qmv b
     have hlen : l.length = (recE b).length + m.length := by rw [hm']; simp
     have hdr : l.drop (recE b).length = m := by
      conv => lhs; rw [hm']
      rw [List.drop_left]
     rw [hn', Int.toNat_natCast, hdr] at h
     obtain ⟨bs, e1, e2, e3, e4, e5⟩ := qsk f m _ _ _ _ _ _ (by omega) h
     refine ⟨b :: bs, ?_, by rw [e2]; simp, by rw [e3]; simp [qam], ?_, e5⟩
     ·rw [qbt, List.append_assoc, ← e1]
      exact hm'
     ·intro x hx
      rcases List.mem_cons.1 hx with rfl | hx
      ·exact hg
      ·exact e4 x hx
    ·simp at h
   ·simp at h
structure qai (text : qb) (b : y6) : Prop where
 txt : text = xf b.gen ++ (b.base ++ (wo b.batches ++ b.tail))
 gen : yr text = (b.gen, b.base ++ (wo b.batches ++ b.tail))
 parse : qdp b.base = .no
 good : ∀ x ∈ b.batches, qem x
 tail : (je b.tail).1 = 2
 ends : b.ends = qam ((xf b.gen).length + b.base.length) b.batches
 len : text.length ≤ 120000
def BegP (x : qb) : Prop := x = [] ∨ begF (upto 10 x) = true
theorem qyv {t : qb} (h : (je t).1 = 2) : BegP t := by
 by_cases h0 : t = []
 ·exact .inl h0
 ·obtain ⟨n, fig, body, R, hp, _⟩ := q18 h
  obtain ⟨_, _, _, _, _, hx⟩ := R
  exact .inr (qxw hx hp h0)
theorem qqa {bs : List (List zq)} {t : qb} (hg : ∀ b ∈ bs, qem b) (h : (je t).1 = 2) : BegP (wo bs ++ t) := by
 cases bs with
 | nil => exact qyv h
 | cons b r =>
  refine .inr ?_
  rw [qbt, List.append_assoc]
  exact q2j _ (hg b (by simp)).good
theorem qzr {x : qb} (h : BegP x) : x = [] ∨ x.head? = some 37 := by
 rcases h with h | h
 ·exact .inl h
 ·simp only [begF, decide_eq_true_eq] at h
  cases x with
  | nil => exact .inl rfl
  | cons c r =>
   refine .inr ?_
   have h1 := h.1
   unfold upto at h1
   by_cases hc : c = 10
   ·subst hc; simp at h1
   ·simpa [hc] using h1
theorem qkn {l : qb} (h : qdp l = .no) : (∀ p ∈ jk l, begF p.1 = false ∧ p.2 = true) ∧ l.length ≤ 60000 := by
 unfold qdp at h
 split at h
 ·simp at h
 ·split at h
  ·rename_i hp
   exact ⟨qud hp, by omega⟩
  ·simp at h
theorem qxj {l x : qb} (h : qdp l = .no) (hx : BegP x) : kw (l ++ x).length (l ++ x) = l.length := by
 rw [qn5 _ _ l x (Nat.le_refl _) (qkn h).1]
 rcases hx with rfl | hx
 ·rw [qeg]; simp
 ·by_cases h0 : x = []
  ·subst h0; rw [qeg]; simp
  ·rw [qin h0 hx]
   simp
theorem qvo {text : qb} {b : y6} (h : qai text b) : qen text = (.no, b) := by
 have hr : qb0 text = b.base ++ (wo b.batches ++ b.tail) := by unfold qb0; rw [h.gen]
 have ha : atH text = b.base.length := by
  unfold atH
  rw [hr]
  exact qxj h.parse (qqa h.good h.tail)
 have hb : qf0 text = b.base := by
  unfold qf0
  rw [ha, hr, List.take_left]
 have hl : text.length - (qb0 text).length = (xf b.gen).length := by
  rw [hr]
  conv => lhs; rw [h.txt]
  simp
 have hc : qct text = (false, b.batches, b.ends, b.tail) := by
  unfold qct
  rw [hl, ha, hr, List.drop_left, qrw b.batches _ b.tail _ _ _ h.good h.tail]
  ·rw [h.ends]
   simp
  ·have : ∀ bs : List (List zq), bs.length ≤ (wo bs).length := fun bs => by
    induction bs with
    | nil => simp
    | cons x r ih =>
     have := qmv x
     rw [qbt]
     simp
     omega
   have := this b.batches
   rw [h.txt]
   simp
   omega
 have hlen := h.len
 unfold qen
 rw [if_neg (by omega), hb, h.parse, hc, h.gen]
 simp
theorem q0s {text : qb} {b : y6} (h : qen text = (.no, b)) : qai text b := by
 unfold qen at h
 split at h
 ·simp at h
 ·rename_i hlen
  split at h
  ·rename_i hp
   split at h
   ·simp at h
   ·rename_i hc
    simp only [Prod.mk.injEq, true_and] at h
    subst h
    have hs := qht text
    have hle : atH text ≤ (qb0 text).length := (qj3 _ _ _ (Nat.le_refl _) (Nat.le_refl _)).2
    have hrl : (qb0 text).length ≤ text.length := by
     conv => rhs; rw [hs.1]
     unfold qb0
     simp
    have hhl : text.length - (qb0 text).length = (xf (yr text).1).length := by
     have : text.length = (xf (yr text).1).length + (qb0 text).length := by
      conv => lhs; rw [hs.1]
      unfold qb0
      simp
     omega
    have hq : qct text = (false, (qct text).2.1, (qct text).2.2.1, (qct text).2.2.2) := by
     have : (qct text).1 = false := by simpa using hc
     rw [← this]
    obtain ⟨bs, e1, e2, e3, e4, e5⟩ := qsk _ _ _ _ _ _ _ _ (by simp; omega) (show recsF (text.length + 1) _ _ _ _ = _ from hq)
    simp only [List.nil_append] at e2 e3
    have hbl : (qf0 text).length = atH text := by unfold qf0; simp; omega
    have hrest : qb0 text = qf0 text ++ (wo bs ++ (qct text).2.2.2) := by
     rw [← e1]
     unfold qf0
     rw [List.take_append_drop]
    refine ⟨?_, ?_, hp, ?_, e5, ?_, by omega⟩
    ·simp only
     rw [e2, ← hrest]
     exact hs.1
    ·simp only
     rw [e2, ← hrest]
     rfl
    ·simp only
     rw [e2]
     exact e4
    ·simp only
     rw [e2, e3, hbl, hhl]
     simp
  ·rename_i hp
   simp only [Prod.mk.injEq] at h
   exact absurd h.1 hp
def x2 (b : y6) : qb := xf b.gen ++ (b.base ++ wo b.batches)
def qau (b : y6) : Int := match b.ends.getLast? with
 | some e => e
 | none => ((xf b.gen).length + b.base.length : Nat)
theorem qai.split {text : qb} {b : y6} (h : qai text b) : text = x2 b ++ b.tail := by
 have := h.txt
 unfold x2
 simpa using this
theorem qai.whole {text : qb} {b : y6} (h : qai text b) : qau b = ((x2 b).length : Int) := by
 unfold qau
 rw [h.ends]
 by_cases h0 : b.batches = []
 ·rw [h0]
  simp [qam, x2, h0, wo]
 ·rw [qm4 _ _ h0]
  simp [x2]
  omega
theorem qai.take {text : qb} {b : y6} (h : qai text b) : text.take (qau b).toNat = x2 b := by
 rw [h.whole, Int.toNat_natCast]
 conv => lhs; rw [h.split]
 rw [List.take_left]
theorem qxc {l : qb} (h : l ≠ []) (hp : ∀ p ∈ jk l, p.2 = true) : l.getLast? = some 10 := by
 have : ∀ (k : Nat) (l : qb), l.length ≤ k → l ≠ [] → (∀ p ∈ jk l, p.2 = true) → l.getLast? = some 10 := by
  intro k
  induction k with
  | zero => intro l hl h0; exact absurd (List.length_eq_zero_iff.1 (by omega)) h0
  | succ k ih =>
   intro l hl h0 hp
   rw [x5 h0] at hp
   have h10 : 10 ∈ l := by simpa using hp _ (List.mem_cons_self ..)
   have e := qaz h10
   by_cases hq : past 10 l = []
   ·rw [hq] at e
    rw [e]
    simp
   ·have := ih (past 10 l) (by have := yz (c := 10) h0; omega) hq fun p hp' => hp p (by simp [hp'])
    rw [e]
    rw [List.getLast?_append, List.getLast?_cons, this]
    simp
 exact this _ l (Nat.le_refl _) h hp
theorem q2s {l x : qb} {n : Int} (h : ∀ p ∈ jk l, p.2 = true) (hx : x = [] ∨ x.head? = some 37) (hp : yw n <+: l ++ x) : yw n <+: l := by
 rcases qpq hp with h1 | ⟨r, h1, hr⟩
 ·exact h1
 ·by_cases hr0 : r = []
  ·rw [h1, hr0, List.append_nil]
   exact List.prefix_refl _
  ·exfalso
   obtain ⟨c, q, rfl⟩ := List.exists_cons_of_ne_nil hr0
   have hc : c = 37 := by
    obtain ⟨t, ht⟩ := hr
    rcases hx with rfl | hx
    ·simp at ht
    ·rw [← ht] at hx
     simpa using hx
   subst hc
   by_cases hl : l = []
   ·rw [hl] at h1
    simp [yw, genL] at h1
   ·have hlast := qxc hl h
    obtain ⟨q0, hq0⟩ : ∃ q0, l = q0 ++ [10] := by
     have := qtu hlast
     exact ⟨_, this.symm⟩
    have e : genL ++ Lib.itoa n ++ 10 :: [10] = q0 ++ 10 :: (37 :: q) := by
     have := h1
     unfold yw at this
     rw [hq0] at this
     simpa using this
    have hu10 : 10 ∉ genL ++ Lib.itoa n := by
     intro h
     rcases List.mem_append.1 h with h | h
     ·revert h; decide
     ·exact qiu n h
    have hA := yx (c := 10) [10] hu10
    have hB := qaq (c := 10) [10] hu10
    rw [e] at hA hB
    by_cases hq10 : 10 ∈ q0
    ·have e2 := qaz hq10
     have e3 : q0 ++ 10 :: (37 :: q) = upto 10 q0 ++ 10 :: (past 10 q0 ++ 10 :: (37 :: q)) := by
      conv => lhs; rw [e2]
      simp
     rw [e3, qaq _ (qde 10 q0)] at hB
     have := congrArg List.length hB
     simp at this
     omega
    ·rw [qaq _ hq10] at hB
     simp at hB
theorem qwx {l x y : qb} (h : ∀ p ∈ jk l, p.2 = true) (hx : yr (l ++ x) = (0, l ++ x)) (hy : y = [] ∨ y.head? = some 37) : yr (l ++ y) = (0, l ++ y) := by
 refine qpn fun n r hg e => ?_
 obtain ⟨t, ht⟩ := q2s (n := n) h hy ⟨r, e.symm⟩
 have : yr (l ++ x) = (n, t ++ x) := by rw [← ht, List.append_assoc, qi9 hg]
 rw [hx] at this
 have h0 : (0 : Int) = n := (Prod.mk.inj this).1
 have := hg.1
 omega
theorem qai.gen0 {text : qb} {b : y6} (h : qai text b) : b.gen = 0 ∨ qbc b.gen := by
 have := (qht text).2
 rw [h.gen] at this
 exact this
theorem qai.other {text : qb} {b : y6} (h : qai text b) {bs : List (List zq)} {t : qb} (hg : ∀ x ∈ bs, qem x) (ht : (je t).1 = 2) (hlen : (xf b.gen ++ (b.base ++ (wo bs ++ t))).length ≤ 120000) :
  qai (xf b.gen ++ (b.base ++ (wo bs ++ t))) ⟨b.gen, b.base, bs, qam ((xf b.gen).length + b.base.length) bs, t⟩ := by
 refine ⟨rfl, ?_, h.parse, hg, ht, rfl, hlen⟩
 rcases h.gen0 with h0 | h0
 ·have hgen := h.gen
  have htext := h.txt
  have e : xf b.gen = [] := by unfold xf; rw [if_neg (by rw [h0]; decide)]
  rw [e, List.nil_append] at htext ⊢
  rw [h0, htext] at hgen
  simp only
  rw [h0]
  exact qwx (fun p hp => ((qkn h.parse).1 p hp).2) hgen (qzr (qqa hg ht))
 ·have e : xf b.gen = yw b.gen := by unfold xf; rw [if_pos h0]
  simp only
  rw [e, qi9 h0]
theorem qs3 : je [] = (2, [], 0) := by
 unfold je qd0
 rw [if_neg (by simp), if_pos]
 rw [if_neg (by decide)]
 decide
theorem qai.noTail {text : qb} {b : y6} (h : qai text b) : qai (x2 b) { b with tail := [] } := by
 have hl := h.len
 rw [h.split] at hl
 have := h.other (bs := b.batches) (t := []) h.good (by rw [qs3]) (by
  simp [x2] at hl ⊢
  omega)
 rw [← h.ends] at this
 have e : xf b.gen ++ (b.base ++ (wo b.batches ++ [])) = x2 b := by simp [x2]
 rw [e] at this
 exact this
theorem qai.more {text : qb} {b : y6} (h : qai text b) {x : List zq} (hx : qem x) (hl : (x2 b ++ recE x).length ≤ 120000) : qai (x2 b ++ recE x) { b with batches := b.batches ++ [x], ends := b.ends ++ [qau b + (recE x).length], tail := [] } := by
 have e : xf b.gen ++ (b.base ++ (wo (b.batches ++ [x]) ++ [])) = x2 b ++ recE x := by simp [x2, qwt]
 have := h.other (bs := b.batches ++ [x]) (t := []) (fun y hy => by
  rcases List.mem_append.1 hy with hy | hy
  ·exact h.good y hy
  ·obtain rfl := List.mem_singleton.1 hy
   exact hx) (by rw [qs3]) (by rw [e]; exact hl)
 rw [e, qnu, ← h.ends] at this
 have hw : ((xf b.gen).length + b.base.length + (wo b.batches).length + (recE x).length : Int) = qau b + (recE x).length := by
  rw [h.whole]
  simp [x2]
  omega
 rw [hw] at this
 exact this
end Go.Pl
set_option maxRecDepth 100000
set_option linter.unusedVariables false
namespace Go.Proofs.YtefmcijohgpfhaaGreatDoor
open Go Go.Av Go.RowKit Go.Proofs Go.Pl
theorem qi6 (n : Int) (st : List AObj) (h : qbc n) : q7 E 91 [Iv n] st fun r st' => r = .tu [Sv (yw n), .v .nilIface] ∧ st' = st := by
 have h1 := h.1
 have h2 := h.2
 have hl := qj9 (v := n) (by omega) (by omega)
 have hit := fun st => qkq n st (by omega) (by omega)
 refine qbj [.i n] (y9 (z4 _) (z4 _)) Tryz.func91 rfl rfl (fun _ => rfl) rfl fun S0 => ?_
 apply jx []
 repeat' (first
  | apply And.intro
  | (intro h; first | (exfalso; omega) | (exfalso; exact h rfl) | (exfalso; revert h; decide) | skip)
  | exact ⟨Tryz.call87⟩
  | (refine Exists.intro _ ⟨j5 (hit) rfl, ?_⟩)
  | exact rfl
  | exact trivial
  | exact fun _ => rfl
  | exact kf _
  | apply jt []
  | exact DrOk.mk (by kernel_rfl)
  | exact ja fun _ => rfl
  | omega
  | (simp only [List.length_map, List.length_append, List.length_cons, List.length_nil, List.length_take, List.length_drop]; omega)
  | exact ku
  | (refine Exists.intro _ ⟨rfl, ?_⟩)
  | refine v4 ?_)
 all_goals first | (simp; omega) | (simp [yw, genL]; done)
theorem qro (n : Int) (st : List AObj) (h : ¬ qbc n) : q7 E 91 [Iv n] st fun r st' => r = .tu [Sv [], .ifc 31 (Iv 1)] ∧ st' = st := by
 refine qbj [.i n] (y9 (z4 _) (qc5 (z4 _))) Tryz.func91 rfl rfl (fun _ => rfl) rfl fun S0 => ?_
 unfold qbc at h
 apply jx []
 repeat' (first
  | apply And.intro
  | (intro h; first | (exfalso; omega) | (exfalso; exact h rfl) | (exfalso; revert h; decide) | skip)
  | exact rfl
  | exact trivial
  | exact fun _ => rfl
  | exact kf _
  | apply jt []
  | exact DrOk.mk (by kernel_rfl)
  | exact ja fun _ => rfl
  | omega
  | (simp only [List.length_map, List.length_append, List.length_cons, List.length_nil, List.length_take, List.length_drop]; omega)
  | exact ku
  | (refine Exists.intro _ ⟨rfl, ?_⟩)
  | refine v4 ?_)
theorem q39 (n : Int) (st : List AObj) : q7 E 64 [Iv n] st fun r st' => r = Iv ((xf n).length : Nat) ∧ st' = st := by
 refine qbj [.i n] (z4 _) Tryz.func64 rfl rfl (fun _ => rfl) rfl fun S0 => ?_
 by_cases hg : qbc n
 ·have e : xf n = yw n := by unfold xf; rw [if_pos hg]
  have hln := fun st => qi6 n st hg
  rw [e]
  apply jx []
  repeat' (first
   | apply And.intro
   | (intro h; first | (exfalso; omega) | (exfalso; exact h rfl) | (exfalso; revert h; decide) | skip)
   | exact ⟨Tryz.call91⟩
   | (refine Exists.intro _ ⟨j5 (hln) rfl, ?_⟩)
   | exact rfl
   | exact trivial
   | exact fun _ => rfl
   | exact kf _
   | apply jt []
   | exact DrOk.mk (by kernel_rfl)
   | exact ja fun _ => rfl
   | omega
   | (simp only [List.length_map, List.length_append, List.length_cons, List.length_nil, List.length_take, List.length_drop]; omega)
   | exact ku
   | (refine Exists.intro _ ⟨rfl, ?_⟩)
   | refine v4 ?_)
 ·have e : xf n = [] := by unfold xf; rw [if_neg hg]
  have hln := fun st => qro n st hg
  rw [e]
  apply jx []
  repeat' (first
   | apply And.intro
   | (intro h; first | (exfalso; omega) | (exfalso; exact h rfl) | (exfalso; revert h; decide) | skip)
   | exact ⟨Tryz.call91⟩
   | (refine Exists.intro _ ⟨j5 (hln) rfl, ?_⟩)
   | exact rfl
   | exact trivial
   | exact fun _ => rfl
   | exact kf _
   | apply jt []
   | exact DrOk.mk (by kernel_rfl)
   | exact ja fun _ => rfl
   | omega
   | (simp only [List.length_map, List.length_append, List.length_cons, List.length_nil, List.length_take, List.length_drop]; omega)
   | exact ku
   | (refine Exists.intro _ ⟨rfl, ?_⟩)
   | refine v4 ?_)
theorem qz0 (l : qb) (st : List AObj) : q7 E 96 [Sv (genL ++ l), Sv [35, 37, 103, 101, 110, 32]] st fun r st' => r = Sv l ∧ st' = st := by
 have := qgz (genL ++ l) [35, 37, 103, 101, 110, 32] st
 rw [qck (show [35, 37, 103, 101, 110, 32] <+: genL ++ l from List.prefix_append genL l)] at this
 have e : (genL ++ l).drop ([35, 37, 103, 101, 110, 32] : qb).length = l := by rw [show ([35, 37, 103, 101, 110, 32] : qb).length = genL.length by rfl, List.drop_left]
 rw [e] at this
 exact this
set_option maxHeartbeats 2000000 in
theorem q2q (text : qb) (st : List AObj) (hl : text.length < 1000000) : q7 E 61 [Sv text] st fun r st' => r = .tu [Iv (yr text).1, Sv (yr text).2] ∧ st' = st := by
 refine zt (y9 (z4 _) (z4 _)) (q8 Tryz.func61 rfl (Nat.le_of_ble_eq_true rfl) ?_)
 rcases qlg text with ⟨n, r, hg, he, ht⟩ | ⟨hno, ht⟩
 ·rw [ht]
  have hn10 : 10 ∉ genL ++ Lib.itoa n := fun h => by
   rcases List.mem_append.1 h with h | h
   ·revert h; decide
   ·exact qiu n h
  have hcut : ∀ st, q7 E 36 [Sv text, Sv [10, 10]] st fun x st' => x = .tu [Sv (genL ++ Lib.itoa n), Sv r, Bv true] ∧ st' = st := fun st => by
   have := qm5 text [10, 10] st (by omega)
   rw [he, qjk, ← List.append_assoc, q3u r hn10] at this
   rw [he, qjk, ← List.append_assoc]
   exact this
  have hb := qj9 (v := n) (by have := hg.1; omega) (by have := hg.2; omega)
  have hgl : genL.length = 6 := rfl
  have hat := qiv (v := n) (by have := hg.1; omega) (by have := hg.2; omega)
  repeat' (first
   | (apply qat; first | apply qm | apply q4 | apply qe | (apply qg; exact rfl; first | (apply ze; (first | assumption | omega)) | (apply zd; (first | assumption | omega)) | (apply zc; (first | exact rfl | assumption)) | (apply zb; (first | exact rfl | assumption)) | (apply cd_n <;> intro h) | (apply cd_t; (first | exact rfl | assumption)) | (apply cd_f; (first | exact rfl | assumption)) | (apply cd_d <;> intro h) | (apply cd_s <;> intro h)) | (apply qad; exact rfl; kernel_rfl) | apply q6 | apply jp | apply qz)
   | (apply x8; first | (apply za; (iterate 4 exact rfl)) | (apply j8; (iterate 4 exact rfl)))
   | (apply qbe; first | (apply xk; (first | assumption | omega)) | (apply kv; (first | assumption | omega)) | (apply ve; (first | assumption | omega)) | (apply wz; (first | assumption | omega)) | (apply yq; (first | exact rfl | assumption)) | (apply vw; (first | exact rfl | assumption)) | (apply v6; (first | exact rfl | assumption)) | (apply xp; (first | exact rfl | assumption)) | (apply xh <;> intro h) | (apply xa; (first | exact rfl | assumption)) | (apply yc; (first | exact rfl | assumption)) | (apply vz; (first | exact rfl | assumption)) | (apply wd; (first | exact rfl | assumption)) | (apply kl <;> intro h) | (apply xu <;> intro h))
   | (apply qbi; first | apply qbb | (apply qbg; (iterate 4 exact rfl)) | (apply qcj; exact rfl; exact rfl; exact zi (by omega) (by omega)) | (apply qbf; (iterate 4 exact rfl); (first | assumption | omega | (simp; omega)); first | assumption | omega | (simp; omega)) | (apply xl; (iterate 5 exact rfl)) | (apply yi; exact rfl; exact rfl; (first | omega | (simp only [List.length_append, List.length_cons, List.length_nil]; omega) | (simp; omega))) | (apply xq; (iterate 3 exact rfl)) | (apply wv; (iterate 5 exact rfl)) | (apply vk; (iterate 4 exact rfl)) | (apply vi; (iterate 3 exact rfl)) | (apply qb4; (iterate 3 exact rfl); first | assumption | omega | (simp; omega)) | (apply qa0; exact rfl; exact rfl) | (apply qab; exact rfl; exact rfl) | (apply qaa; (iterate 3 exact rfl); omega) | (apply ym; (iterate 3 exact rfl)) | apply qac | apply yn | (apply qcl; exact rfl; exact rfl; exact zi (by omega) (by omega)) | (apply qbh; (iterate 3 exact rfl)) | (apply qa1; (iterate 3 exact rfl); first | assumption | omega | (simp; omega)) | (apply qa3; (iterate 3 exact rfl); first | assumption | omega | (simp; omega)) | (apply xo; exact rfl; exact rfl))
   | (apply x7; first | (apply qw; (iterate 3 exact rfl)) | (apply ji; (iterate 3 exact rfl)) | (apply jy; exact rfl; exact rfl; (first | omega | (simp only [List.length_append, List.length_cons, List.length_nil]; omega) | (simp; omega))) | (apply js; exact rfl; exact rfl; exact zi (by omega) (by omega)) | (apply w9; exact rfl; exact rfl; exact zi (by omega) (by omega)) | (apply z8; exact rfl; exact rfl) | (apply zr; exact rfl; exact rfl) | (apply vl; exact rfl; exact rfl) | (apply vh; exact rfl; exact rfl) | (apply vb; (iterate 3 exact rfl)) | (apply vt; (iterate 3 exact rfl)) | (apply wt; exact rfl; exact rfl; (first | exact qy _ | exact rfl); first | exact qy _ | exact rfl) | (apply xe; exact rfl; exact rfl; (first | exact qy _ | exact rfl); first | exact qy _ | exact rfl) | (apply y4; exact rfl; exact rfl; (first | exact qy _ | exact rfl); first | exact qy _ | exact rfl) | (apply wg; (iterate 3 exact rfl)) | (apply wr; (iterate 3 exact rfl)))
   | (apply y5; first | (apply qk; (iterate 3 exact rfl)) | (apply qq; (iterate 5 exact rfl)) | (apply qh; (iterate 5 exact rfl)))
   | (apply y0; first | (apply xm; exact rfl) | (apply jc; exact rfl) | (apply v7; exact rfl))
   | (apply x9; first | (apply xw; (iterate 3 exact rfl); first | assumption | omega | (simp; omega)) | (apply xz; (iterate 3 exact rfl); first | assumption | omega | (simp; omega)) | (apply yp; (iterate 4 exact rfl); (first | assumption | omega | (simp; omega)); first | assumption | omega | (simp; omega)) | (apply va; (iterate 4 exact rfl); (first | assumption | omega | exact Nat.succ_le_succ (Nat.zero_le _) | (simp; omega)); exact rfl))
   | (apply y3; first | (apply j3; (iterate 3 exact rfl)) | (apply zy; (iterate 4 exact rfl)))
   | (apply vu; first | (apply qr; (iterate 3 exact rfl)) | (apply jl; (iterate 4 exact rfl)))
   | (apply ya; first | (apply qx; (iterate 11 exact rfl)) | (apply qn; (iterate 11 exact rfl)))
   | (apply qar; first | apply qa | apply qi | apply qf | (apply zj; exact rfl; exact rfl) | (apply zg; exact rfl; first | (apply kc; (first | assumption | omega)) | (apply ka; (first | assumption | omega)) | (apply j9; (first | exact rfl | assumption)) | (apply ke; (first | exact rfl | assumption)) | (apply pk_t; (first | exact rfl | assumption)) | (apply pk_f; (first | exact rfl | assumption))) | (apply q9; exact rfl; exact rfl) | apply vj | (apply z0; exact rfl; exact rfl) | (apply j7; (iterate 4 exact rfl)) | (apply xd; (iterate 3 exact rfl)) | (apply yu; (iterate 3 exact rfl); first | assumption | omega | (simp; omega)) | (apply jq; (iterate 3 exact rfl)) | (apply qv; (iterate 9 exact rfl)) | (apply zv; exact rfl; exact rfl) | (apply wk; (iterate 4 exact rfl); (first | assumption | omega | decide); exact rfl) | (apply ki; (iterate 4 exact rfl); first | assumption | omega | decide))
   | (apply qd; exact Tryz.call36; exact hcut _)
   | (apply qd; exact Tryz.call96; exact qz0 _ _))
  refine xy Tryz.call77 ((qkh (Lib.itoa n) _ (by omega)).mono ?_)
  rintro _ _ ⟨rfl, n', x, rfl, hx⟩
  rcases x with _ | ⟨t', y⟩
  ·simp only at hx
   rw [hat] at hx
   have e : n = n' := by simpa using hx
   subst e
   show AOps _ _ _ _ _ _ _
   have hs : yw n = (genL ++ Lib.itoa n) ++ [10, 10] := rfl
   have hs2 : ¬ yw n ≠ (genL ++ Lib.itoa n) ++ [10, 10] := fun h => h hs
   repeat' (first
    | (apply qat; first | apply qm | apply q4 | apply qe | (apply qg; exact rfl; first | (apply ze; (first | assumption | omega)) | (apply zd; (first | assumption | omega)) | (apply zc; (first | exact rfl | assumption)) | (apply zb; (first | exact rfl | assumption)) | (apply cd_n <;> intro h) | (apply cd_t; (first | exact rfl | assumption)) | (apply cd_f; (first | exact rfl | assumption)) | (apply cd_d <;> intro h) | (apply cd_s <;> intro h)) | (apply qad; exact rfl; kernel_rfl) | apply q6 | apply jp | apply qz)
    | (apply x8; first | (apply za; (iterate 4 exact rfl)) | (apply j8; (iterate 4 exact rfl)))
    | (apply qbe; first | (apply xk; (first | assumption | omega)) | (apply kv; (first | assumption | omega)) | (apply ve; (first | assumption | omega)) | (apply wz; (first | assumption | omega)) | (apply yq; (first | exact rfl | assumption)) | (apply vw; (first | exact rfl | assumption)) | (apply v6; (first | exact rfl | assumption)) | (apply xp; (first | exact rfl | assumption)) | (apply xh <;> intro h) | (apply xa; (first | exact rfl | assumption)) | (apply yc; (first | exact rfl | assumption)) | (apply vz; (first | exact rfl | assumption)) | (apply wd; (first | exact rfl | assumption)) | (apply kl <;> intro h) | (apply xu <;> intro h))
    | (apply qbi; first | apply qbb | (apply qbg; (iterate 4 exact rfl)) | (apply qcj; exact rfl; exact rfl; exact zi (by omega) (by omega)) | (apply qbf; (iterate 4 exact rfl); (first | assumption | omega | (simp; omega)); first | assumption | omega | (simp; omega)) | (apply xl; (iterate 5 exact rfl)) | (apply yi; exact rfl; exact rfl; (first | omega | (simp only [List.length_append, List.length_cons, List.length_nil]; omega) | (simp; omega))) | (apply xq; (iterate 3 exact rfl)) | (apply wv; (iterate 5 exact rfl)) | (apply vk; (iterate 4 exact rfl)) | (apply vi; (iterate 3 exact rfl)) | (apply qb4; (iterate 3 exact rfl); first | assumption | omega | (simp; omega)) | (apply qa0; exact rfl; exact rfl) | (apply qab; exact rfl; exact rfl) | (apply qaa; (iterate 3 exact rfl); omega) | (apply ym; (iterate 3 exact rfl)) | apply qac | apply yn | (apply qcl; exact rfl; exact rfl; exact zi (by omega) (by omega)) | (apply qbh; (iterate 3 exact rfl)) | (apply qa1; (iterate 3 exact rfl); first | assumption | omega | (simp; omega)) | (apply qa3; (iterate 3 exact rfl); first | assumption | omega | (simp; omega)) | (apply xo; exact rfl; exact rfl))
    | (apply x7; first | (apply qw; (iterate 3 exact rfl)) | (apply ji; (iterate 3 exact rfl)) | (apply jy; exact rfl; exact rfl; (first | omega | (simp only [List.length_append, List.length_cons, List.length_nil]; omega) | (simp; omega))) | (apply js; exact rfl; exact rfl; exact zi (by omega) (by omega)) | (apply w9; exact rfl; exact rfl; exact zi (by omega) (by omega)) | (apply z8; exact rfl; exact rfl) | (apply zr; exact rfl; exact rfl) | (apply vl; exact rfl; exact rfl) | (apply vh; exact rfl; exact rfl) | (apply vb; (iterate 3 exact rfl)) | (apply vt; (iterate 3 exact rfl)) | (apply wt; exact rfl; exact rfl; (first | exact qy _ | exact rfl); first | exact qy _ | exact rfl) | (apply xe; exact rfl; exact rfl; (first | exact qy _ | exact rfl); first | exact qy _ | exact rfl) | (apply y4; exact rfl; exact rfl; (first | exact qy _ | exact rfl); first | exact qy _ | exact rfl) | (apply wg; (iterate 3 exact rfl)) | (apply wr; (iterate 3 exact rfl)))
    | (apply y5; first | (apply qk; (iterate 3 exact rfl)) | (apply qq; (iterate 5 exact rfl)) | (apply qh; (iterate 5 exact rfl)))
    | (apply y0; first | (apply xm; exact rfl) | (apply jc; exact rfl) | (apply v7; exact rfl))
    | (apply x9; first | (apply xw; (iterate 3 exact rfl); first | assumption | omega | (simp; omega)) | (apply xz; (iterate 3 exact rfl); first | assumption | omega | (simp; omega)) | (apply yp; (iterate 4 exact rfl); (first | assumption | omega | (simp; omega)); first | assumption | omega | (simp; omega)) | (apply va; (iterate 4 exact rfl); (first | assumption | omega | exact Nat.succ_le_succ (Nat.zero_le _) | (simp; omega)); exact rfl))
    | (apply y3; first | (apply j3; (iterate 3 exact rfl)) | (apply zy; (iterate 4 exact rfl)))
    | (apply vu; first | (apply qr; (iterate 3 exact rfl)) | (apply jl; (iterate 4 exact rfl)))
    | (apply ya; first | (apply qx; (iterate 11 exact rfl)) | (apply qn; (iterate 11 exact rfl)))
    | (apply qar; first | apply qa | apply qi | apply qf | (apply zj; exact rfl; exact rfl) | (apply zg; exact rfl; first | (apply kc; (first | assumption | omega)) | (apply ka; (first | assumption | omega)) | (apply j9; (first | exact rfl | assumption)) | (apply ke; (first | exact rfl | assumption)) | (apply pk_t; (first | exact rfl | assumption)) | (apply pk_f; (first | exact rfl | assumption))) | (apply q9; exact rfl; exact rfl) | apply vj | (apply z0; exact rfl; exact rfl) | (apply j7; (iterate 4 exact rfl)) | (apply xd; (iterate 3 exact rfl)) | (apply yu; (iterate 3 exact rfl); first | assumption | omega | (simp; omega)) | (apply jq; (iterate 3 exact rfl)) | (apply qv; (iterate 9 exact rfl)) | (apply zv; exact rfl; exact rfl) | (apply wk; (iterate 4 exact rfl); (first | assumption | omega | decide); exact rfl) | (apply ki; (iterate 4 exact rfl); first | assumption | omega | decide))
    | (apply qd; exact Tryz.call91; exact qi6 _ _ hg))
   exact qo rfl (vd rfl) ⟨rfl, _, rfl⟩
  ·exact absurd hat (hx n)
 ·rw [ht]
  have hfst := qom text [10, 10]
  have hct := fun h => q1l (l := text) (m := [10, 10]) h
  have htr := qds (Lib.cut text [10, 10]).1 [35, 37, 103, 101, 110, 32]
  have hcc := fun st => qm5 text [10, 10] st (by omega)
  generalize Lib.cut text [10, 10] = c at hfst hct htr hcc
  obtain ⟨a, b, d⟩ := c
  simp only at hfst hct htr hcc
  repeat' (first
   | (apply qat; first | apply qm | apply q4 | apply qe | (apply qg; exact rfl; first | (apply ze; (first | assumption | omega)) | (apply zd; (first | assumption | omega)) | (apply zc; (first | exact rfl | assumption)) | (apply zb; (first | exact rfl | assumption)) | (apply cd_n <;> intro h) | (apply cd_t; (first | exact rfl | assumption)) | (apply cd_f; (first | exact rfl | assumption)) | (apply cd_d <;> intro h) | (apply cd_s <;> intro h)) | (apply qad; exact rfl; kernel_rfl) | apply q6 | apply jp | apply qz)
   | (apply x8; first | (apply za; (iterate 4 exact rfl)) | (apply j8; (iterate 4 exact rfl)))
   | (apply qbe; first | (apply xk; (first | assumption | omega)) | (apply kv; (first | assumption | omega)) | (apply ve; (first | assumption | omega)) | (apply wz; (first | assumption | omega)) | (apply yq; (first | exact rfl | assumption)) | (apply vw; (first | exact rfl | assumption)) | (apply v6; (first | exact rfl | assumption)) | (apply xp; (first | exact rfl | assumption)) | (apply xh <;> intro h) | (apply xa; (first | exact rfl | assumption)) | (apply yc; (first | exact rfl | assumption)) | (apply vz; (first | exact rfl | assumption)) | (apply wd; (first | exact rfl | assumption)) | (apply kl <;> intro h) | (apply xu <;> intro h))
   | (apply qbi; first | apply qbb | (apply qbg; (iterate 4 exact rfl)) | (apply qcj; exact rfl; exact rfl; exact zi (by omega) (by omega)) | (apply qbf; (iterate 4 exact rfl); (first | assumption | omega | (simp; omega)); first | assumption | omega | (simp; omega)) | (apply xl; (iterate 5 exact rfl)) | (apply yi; exact rfl; exact rfl; (first | omega | (simp only [List.length_append, List.length_cons, List.length_nil]; omega) | (simp; omega))) | (apply xq; (iterate 3 exact rfl)) | (apply wv; (iterate 5 exact rfl)) | (apply vk; (iterate 4 exact rfl)) | (apply vi; (iterate 3 exact rfl)) | (apply qb4; (iterate 3 exact rfl); first | assumption | omega | (simp; omega)) | (apply qa0; exact rfl; exact rfl) | (apply qab; exact rfl; exact rfl) | (apply qaa; (iterate 3 exact rfl); omega) | (apply ym; (iterate 3 exact rfl)) | apply qac | apply yn | (apply qcl; exact rfl; exact rfl; exact zi (by omega) (by omega)) | (apply qbh; (iterate 3 exact rfl)) | (apply qa1; (iterate 3 exact rfl); first | assumption | omega | (simp; omega)) | (apply qa3; (iterate 3 exact rfl); first | assumption | omega | (simp; omega)) | (apply xo; exact rfl; exact rfl))
   | (apply x7; first | (apply qw; (iterate 3 exact rfl)) | (apply ji; (iterate 3 exact rfl)) | (apply jy; exact rfl; exact rfl; (first | omega | (simp only [List.length_append, List.length_cons, List.length_nil]; omega) | (simp; omega))) | (apply js; exact rfl; exact rfl; exact zi (by omega) (by omega)) | (apply w9; exact rfl; exact rfl; exact zi (by omega) (by omega)) | (apply z8; exact rfl; exact rfl) | (apply zr; exact rfl; exact rfl) | (apply vl; exact rfl; exact rfl) | (apply vh; exact rfl; exact rfl) | (apply vb; (iterate 3 exact rfl)) | (apply vt; (iterate 3 exact rfl)) | (apply wt; exact rfl; exact rfl; (first | exact qy _ | exact rfl); first | exact qy _ | exact rfl) | (apply xe; exact rfl; exact rfl; (first | exact qy _ | exact rfl); first | exact qy _ | exact rfl) | (apply y4; exact rfl; exact rfl; (first | exact qy _ | exact rfl); first | exact qy _ | exact rfl) | (apply wg; (iterate 3 exact rfl)) | (apply wr; (iterate 3 exact rfl)))
   | (apply y5; first | (apply qk; (iterate 3 exact rfl)) | (apply qq; (iterate 5 exact rfl)) | (apply qh; (iterate 5 exact rfl)))
   | (apply y0; first | (apply xm; exact rfl) | (apply jc; exact rfl) | (apply v7; exact rfl))
   | (apply x9; first | (apply xw; (iterate 3 exact rfl); first | assumption | omega | (simp; omega)) | (apply xz; (iterate 3 exact rfl); first | assumption | omega | (simp; omega)) | (apply yp; (iterate 4 exact rfl); (first | assumption | omega | (simp; omega)); first | assumption | omega | (simp; omega)) | (apply va; (iterate 4 exact rfl); (first | assumption | omega | exact Nat.succ_le_succ (Nat.zero_le _) | (simp; omega)); exact rfl))
   | (apply y3; first | (apply j3; (iterate 3 exact rfl)) | (apply zy; (iterate 4 exact rfl)))
   | (apply vu; first | (apply qr; (iterate 3 exact rfl)) | (apply jl; (iterate 4 exact rfl)))
   | (apply ya; first | (apply qx; (iterate 11 exact rfl)) | (apply qn; (iterate 11 exact rfl)))
   | (apply qar; first | apply qa | apply qi | apply qf | (apply zj; exact rfl; exact rfl) | (apply zg; exact rfl; first | (apply kc; (first | assumption | omega)) | (apply ka; (first | assumption | omega)) | (apply j9; (first | exact rfl | assumption)) | (apply ke; (first | exact rfl | assumption)) | (apply pk_t; (first | exact rfl | assumption)) | (apply pk_f; (first | exact rfl | assumption))) | (apply q9; exact rfl; exact rfl) | apply vj | (apply z0; exact rfl; exact rfl) | (apply j7; (iterate 4 exact rfl)) | (apply xd; (iterate 3 exact rfl)) | (apply yu; (iterate 3 exact rfl); first | assumption | omega | (simp; omega)) | (apply jq; (iterate 3 exact rfl)) | (apply qv; (iterate 9 exact rfl)) | (apply zv; exact rfl; exact rfl) | (apply wk; (iterate 4 exact rfl); (first | assumption | omega | decide); exact rfl) | (apply ki; (iterate 4 exact rfl); first | assumption | omega | decide))
   | (apply qd; exact Tryz.call36; exact hcc _)
   | (apply qd; exact Tryz.call96; exact qgz _ _ _))
  refine xy Tryz.call77 ((qkh (Lib.trimPrefix a [35, 37, 103, 101, 110, 32]) _ (by omega)).mono ?_)
  rintro _ _ ⟨rfl, n, x, rfl, hx⟩
  show AOps _ _ _ _ _ _ _
  have hbad : ¬ (d = true ∧ qbc n ∧ yw n = a ++ [10, 10]) := fun ⟨h1, h2, h3⟩ => by
   refine hno n b h2 ?_
   rw [h3]
   exact hct h1
  by_cases hg : qbc n
  ·have hll := qp2 hg
   cases d with
   | false =>
    rcases x with _ | ⟨t', y⟩
    all_goals
     repeat' (first
      | (apply qat; first | apply qm | apply q4 | apply qe | (apply qg; exact rfl; first | (apply ze; (first | assumption | omega)) | (apply zd; (first | assumption | omega)) | (apply zc; (first | exact rfl | assumption)) | (apply zb; (first | exact rfl | assumption)) | (apply cd_n <;> intro h) | (apply cd_t; (first | exact rfl | assumption)) | (apply cd_f; (first | exact rfl | assumption)) | (apply cd_d <;> intro h) | (apply cd_s <;> intro h)) | (apply qad; exact rfl; kernel_rfl) | apply q6 | apply jp | apply qz)
      | (apply x8; first | (apply za; (iterate 4 exact rfl)) | (apply j8; (iterate 4 exact rfl)))
      | (apply qbe; first | (apply xk; (first | assumption | omega)) | (apply kv; (first | assumption | omega)) | (apply ve; (first | assumption | omega)) | (apply wz; (first | assumption | omega)) | (apply yq; (first | exact rfl | assumption)) | (apply vw; (first | exact rfl | assumption)) | (apply v6; (first | exact rfl | assumption)) | (apply xp; (first | exact rfl | assumption)) | (apply xh <;> intro h) | (apply xa; (first | exact rfl | assumption)) | (apply yc; (first | exact rfl | assumption)) | (apply vz; (first | exact rfl | assumption)) | (apply wd; (first | exact rfl | assumption)) | (apply kl <;> intro h) | (apply xu <;> intro h))
      | (apply qbi; first | apply qbb | (apply qbg; (iterate 4 exact rfl)) | (apply qcj; exact rfl; exact rfl; exact zi (by omega) (by omega)) | (apply qbf; (iterate 4 exact rfl); (first | assumption | omega | (simp; omega)); first | assumption | omega | (simp; omega)) | (apply xl; (iterate 5 exact rfl)) | (apply yi; exact rfl; exact rfl; (first | omega | (simp only [List.length_append, List.length_cons, List.length_nil]; omega) | (simp; omega))) | (apply xq; (iterate 3 exact rfl)) | (apply wv; (iterate 5 exact rfl)) | (apply vk; (iterate 4 exact rfl)) | (apply vi; (iterate 3 exact rfl)) | (apply qb4; (iterate 3 exact rfl); first | assumption | omega | (simp; omega)) | (apply qa0; exact rfl; exact rfl) | (apply qab; exact rfl; exact rfl) | (apply qaa; (iterate 3 exact rfl); omega) | (apply ym; (iterate 3 exact rfl)) | apply qac | apply yn | (apply qcl; exact rfl; exact rfl; exact zi (by omega) (by omega)) | (apply qbh; (iterate 3 exact rfl)) | (apply qa1; (iterate 3 exact rfl); first | assumption | omega | (simp; omega)) | (apply qa3; (iterate 3 exact rfl); first | assumption | omega | (simp; omega)) | (apply xo; exact rfl; exact rfl))
      | (apply x7; first | (apply qw; (iterate 3 exact rfl)) | (apply ji; (iterate 3 exact rfl)) | (apply jy; exact rfl; exact rfl; (first | omega | (simp only [List.length_append, List.length_cons, List.length_nil]; omega) | (simp; omega))) | (apply js; exact rfl; exact rfl; exact zi (by omega) (by omega)) | (apply w9; exact rfl; exact rfl; exact zi (by omega) (by omega)) | (apply z8; exact rfl; exact rfl) | (apply zr; exact rfl; exact rfl) | (apply vl; exact rfl; exact rfl) | (apply vh; exact rfl; exact rfl) | (apply vb; (iterate 3 exact rfl)) | (apply vt; (iterate 3 exact rfl)) | (apply wt; exact rfl; exact rfl; (first | exact qy _ | exact rfl); first | exact qy _ | exact rfl) | (apply xe; exact rfl; exact rfl; (first | exact qy _ | exact rfl); first | exact qy _ | exact rfl) | (apply y4; exact rfl; exact rfl; (first | exact qy _ | exact rfl); first | exact qy _ | exact rfl) | (apply wg; (iterate 3 exact rfl)) | (apply wr; (iterate 3 exact rfl)))
      | (apply y5; first | (apply qk; (iterate 3 exact rfl)) | (apply qq; (iterate 5 exact rfl)) | (apply qh; (iterate 5 exact rfl)))
      | (apply y0; first | (apply xm; exact rfl) | (apply jc; exact rfl) | (apply v7; exact rfl))
      | (apply x9; first | (apply xw; (iterate 3 exact rfl); first | assumption | omega | (simp; omega)) | (apply xz; (iterate 3 exact rfl); first | assumption | omega | (simp; omega)) | (apply yp; (iterate 4 exact rfl); (first | assumption | omega | (simp; omega)); first | assumption | omega | (simp; omega)) | (apply va; (iterate 4 exact rfl); (first | assumption | omega | exact Nat.succ_le_succ (Nat.zero_le _) | (simp; omega)); exact rfl))
      | (apply y3; first | (apply j3; (iterate 3 exact rfl)) | (apply zy; (iterate 4 exact rfl)))
      | (apply vu; first | (apply qr; (iterate 3 exact rfl)) | (apply jl; (iterate 4 exact rfl)))
      | (apply ya; first | (apply qx; (iterate 11 exact rfl)) | (apply qn; (iterate 11 exact rfl)))
      | (apply qar; first | apply qa | apply qi | apply qf | (apply zj; exact rfl; exact rfl) | (apply zg; exact rfl; first | (apply kc; (first | assumption | omega)) | (apply ka; (first | assumption | omega)) | (apply j9; (first | exact rfl | assumption)) | (apply ke; (first | exact rfl | assumption)) | (apply pk_t; (first | exact rfl | assumption)) | (apply pk_f; (first | exact rfl | assumption))) | (apply q9; exact rfl; exact rfl) | apply vj | (apply z0; exact rfl; exact rfl) | (apply j7; (iterate 4 exact rfl)) | (apply xd; (iterate 3 exact rfl)) | (apply yu; (iterate 3 exact rfl); first | assumption | omega | (simp; omega)) | (apply jq; (iterate 3 exact rfl)) | (apply qv; (iterate 9 exact rfl)) | (apply zv; exact rfl; exact rfl) | (apply wk; (iterate 4 exact rfl); (first | assumption | omega | decide); exact rfl) | (apply ki; (iterate 4 exact rfl); first | assumption | omega | decide))
      | (apply qd; exact Tryz.call91; exact qi6 _ _ hg))
     exact qo rfl (vd rfl) ⟨rfl, _, rfl⟩
   | true =>
    have hne : yw n ≠ a ++ [10, 10] := fun h => hbad ⟨rfl, hg, h⟩
    rcases x with _ | ⟨t', y⟩
    all_goals
     repeat' (first
      | (apply qat; first | apply qm | apply q4 | apply qe | (apply qg; exact rfl; first | (apply ze; (first | assumption | omega)) | (apply zd; (first | assumption | omega)) | (apply zc; (first | exact rfl | assumption)) | (apply zb; (first | exact rfl | assumption)) | (apply cd_n <;> intro h) | (apply cd_t; (first | exact rfl | assumption)) | (apply cd_f; (first | exact rfl | assumption)) | (apply cd_d <;> intro h) | (apply cd_s <;> intro h)) | (apply qad; exact rfl; kernel_rfl) | apply q6 | apply jp | apply qz)
      | (apply x8; first | (apply za; (iterate 4 exact rfl)) | (apply j8; (iterate 4 exact rfl)))
      | (apply qbe; first | (apply xk; (first | assumption | omega)) | (apply kv; (first | assumption | omega)) | (apply ve; (first | assumption | omega)) | (apply wz; (first | assumption | omega)) | (apply yq; (first | exact rfl | assumption)) | (apply vw; (first | exact rfl | assumption)) | (apply v6; (first | exact rfl | assumption)) | (apply xp; (first | exact rfl | assumption)) | (apply xh <;> intro h) | (apply xa; (first | exact rfl | assumption)) | (apply yc; (first | exact rfl | assumption)) | (apply vz; (first | exact rfl | assumption)) | (apply wd; (first | exact rfl | assumption)) | (apply kl <;> intro h) | (apply xu <;> intro h))
      | (apply qbi; first | apply qbb | (apply qbg; (iterate 4 exact rfl)) | (apply qcj; exact rfl; exact rfl; exact zi (by omega) (by omega)) | (apply qbf; (iterate 4 exact rfl); (first | assumption | omega | (simp; omega)); first | assumption | omega | (simp; omega)) | (apply xl; (iterate 5 exact rfl)) | (apply yi; exact rfl; exact rfl; (first | omega | (simp only [List.length_append, List.length_cons, List.length_nil]; omega) | (simp; omega))) | (apply xq; (iterate 3 exact rfl)) | (apply wv; (iterate 5 exact rfl)) | (apply vk; (iterate 4 exact rfl)) | (apply vi; (iterate 3 exact rfl)) | (apply qb4; (iterate 3 exact rfl); first | assumption | omega | (simp; omega)) | (apply qa0; exact rfl; exact rfl) | (apply qab; exact rfl; exact rfl) | (apply qaa; (iterate 3 exact rfl); omega) | (apply ym; (iterate 3 exact rfl)) | apply qac | apply yn | (apply qcl; exact rfl; exact rfl; exact zi (by omega) (by omega)) | (apply qbh; (iterate 3 exact rfl)) | (apply qa1; (iterate 3 exact rfl); first | assumption | omega | (simp; omega)) | (apply qa3; (iterate 3 exact rfl); first | assumption | omega | (simp; omega)) | (apply xo; exact rfl; exact rfl))
      | (apply x7; first | (apply qw; (iterate 3 exact rfl)) | (apply ji; (iterate 3 exact rfl)) | (apply jy; exact rfl; exact rfl; (first | omega | (simp only [List.length_append, List.length_cons, List.length_nil]; omega) | (simp; omega))) | (apply js; exact rfl; exact rfl; exact zi (by omega) (by omega)) | (apply w9; exact rfl; exact rfl; exact zi (by omega) (by omega)) | (apply z8; exact rfl; exact rfl) | (apply zr; exact rfl; exact rfl) | (apply vl; exact rfl; exact rfl) | (apply vh; exact rfl; exact rfl) | (apply vb; (iterate 3 exact rfl)) | (apply vt; (iterate 3 exact rfl)) | (apply wt; exact rfl; exact rfl; (first | exact qy _ | exact rfl); first | exact qy _ | exact rfl) | (apply xe; exact rfl; exact rfl; (first | exact qy _ | exact rfl); first | exact qy _ | exact rfl) | (apply y4; exact rfl; exact rfl; (first | exact qy _ | exact rfl); first | exact qy _ | exact rfl) | (apply wg; (iterate 3 exact rfl)) | (apply wr; (iterate 3 exact rfl)))
      | (apply y5; first | (apply qk; (iterate 3 exact rfl)) | (apply qq; (iterate 5 exact rfl)) | (apply qh; (iterate 5 exact rfl)))
      | (apply y0; first | (apply xm; exact rfl) | (apply jc; exact rfl) | (apply v7; exact rfl))
      | (apply x9; first | (apply xw; (iterate 3 exact rfl); first | assumption | omega | (simp; omega)) | (apply xz; (iterate 3 exact rfl); first | assumption | omega | (simp; omega)) | (apply yp; (iterate 4 exact rfl); (first | assumption | omega | (simp; omega)); first | assumption | omega | (simp; omega)) | (apply va; (iterate 4 exact rfl); (first | assumption | omega | exact Nat.succ_le_succ (Nat.zero_le _) | (simp; omega)); exact rfl))
      | (apply y3; first | (apply j3; (iterate 3 exact rfl)) | (apply zy; (iterate 4 exact rfl)))
      | (apply vu; first | (apply qr; (iterate 3 exact rfl)) | (apply jl; (iterate 4 exact rfl)))
      | (apply ya; first | (apply qx; (iterate 11 exact rfl)) | (apply qn; (iterate 11 exact rfl)))
      | (apply qar; first | apply qa | apply qi | apply qf | (apply zj; exact rfl; exact rfl) | (apply zg; exact rfl; first | (apply kc; (first | assumption | omega)) | (apply ka; (first | assumption | omega)) | (apply j9; (first | exact rfl | assumption)) | (apply ke; (first | exact rfl | assumption)) | (apply pk_t; (first | exact rfl | assumption)) | (apply pk_f; (first | exact rfl | assumption))) | (apply q9; exact rfl; exact rfl) | apply vj | (apply z0; exact rfl; exact rfl) | (apply j7; (iterate 4 exact rfl)) | (apply xd; (iterate 3 exact rfl)) | (apply yu; (iterate 3 exact rfl); first | assumption | omega | (simp; omega)) | (apply jq; (iterate 3 exact rfl)) | (apply qv; (iterate 9 exact rfl)) | (apply zv; exact rfl; exact rfl) | (apply wk; (iterate 4 exact rfl); (first | assumption | omega | decide); exact rfl) | (apply ki; (iterate 4 exact rfl); first | assumption | omega | decide))
      | (apply qd; exact Tryz.call91; exact qi6 _ _ hg))
     exact qo rfl (vd rfl) ⟨rfl, _, rfl⟩
  ·cases d
   all_goals
    rcases x with _ | ⟨t', y⟩
    all_goals
     repeat' (first
      | (apply qat; first | apply qm | apply q4 | apply qe | (apply qg; exact rfl; first | (apply ze; (first | assumption | omega)) | (apply zd; (first | assumption | omega)) | (apply zc; (first | exact rfl | assumption)) | (apply zb; (first | exact rfl | assumption)) | (apply cd_n <;> intro h) | (apply cd_t; (first | exact rfl | assumption)) | (apply cd_f; (first | exact rfl | assumption)) | (apply cd_d <;> intro h) | (apply cd_s <;> intro h)) | (apply qad; exact rfl; kernel_rfl) | apply q6 | apply jp | apply qz)
      | (apply x8; first | (apply za; (iterate 4 exact rfl)) | (apply j8; (iterate 4 exact rfl)))
      | (apply qbe; first | (apply xk; (first | assumption | omega)) | (apply kv; (first | assumption | omega)) | (apply ve; (first | assumption | omega)) | (apply wz; (first | assumption | omega)) | (apply yq; (first | exact rfl | assumption)) | (apply vw; (first | exact rfl | assumption)) | (apply v6; (first | exact rfl | assumption)) | (apply xp; (first | exact rfl | assumption)) | (apply xh <;> intro h) | (apply xa; (first | exact rfl | assumption)) | (apply yc; (first | exact rfl | assumption)) | (apply vz; (first | exact rfl | assumption)) | (apply wd; (first | exact rfl | assumption)) | (apply kl <;> intro h) | (apply xu <;> intro h))
      | (apply qbi; first | apply qbb | (apply qbg; (iterate 4 exact rfl)) | (apply qcj; exact rfl; exact rfl; exact zi (by omega) (by omega)) | (apply qbf; (iterate 4 exact rfl); (first | assumption | omega | (simp; omega)); first | assumption | omega | (simp; omega)) | (apply xl; (iterate 5 exact rfl)) | (apply yi; exact rfl; exact rfl; (first | omega | (simp only [List.length_append, List.length_cons, List.length_nil]; omega) | (simp; omega))) | (apply xq; (iterate 3 exact rfl)) | (apply wv; (iterate 5 exact rfl)) | (apply vk; (iterate 4 exact rfl)) | (apply vi; (iterate 3 exact rfl)) | (apply qb4; (iterate 3 exact rfl); first | assumption | omega | (simp; omega)) | (apply qa0; exact rfl; exact rfl) | (apply qab; exact rfl; exact rfl) | (apply qaa; (iterate 3 exact rfl); omega) | (apply ym; (iterate 3 exact rfl)) | apply qac | apply yn | (apply qcl; exact rfl; exact rfl; exact zi (by omega) (by omega)) | (apply qbh; (iterate 3 exact rfl)) | (apply qa1; (iterate 3 exact rfl); first | assumption | omega | (simp; omega)) | (apply qa3; (iterate 3 exact rfl); first | assumption | omega | (simp; omega)) | (apply xo; exact rfl; exact rfl))
      | (apply x7; first | (apply qw; (iterate 3 exact rfl)) | (apply ji; (iterate 3 exact rfl)) | (apply jy; exact rfl; exact rfl; (first | omega | (simp only [List.length_append, List.length_cons, List.length_nil]; omega) | (simp; omega))) | (apply js; exact rfl; exact rfl; exact zi (by omega) (by omega)) | (apply w9; exact rfl; exact rfl; exact zi (by omega) (by omega)) | (apply z8; exact rfl; exact rfl) | (apply zr; exact rfl; exact rfl) | (apply vl; exact rfl; exact rfl) | (apply vh; exact rfl; exact rfl) | (apply vb; (iterate 3 exact rfl)) | (apply vt; (iterate 3 exact rfl)) | (apply wt; exact rfl; exact rfl; (first | exact qy _ | exact rfl); first | exact qy _ | exact rfl) | (apply xe; exact rfl; exact rfl; (first | exact qy _ | exact rfl); first | exact qy _ | exact rfl) | (apply y4; exact rfl; exact rfl; (first | exact qy _ | exact rfl); first | exact qy _ | exact rfl) | (apply wg; (iterate 3 exact rfl)) | (apply wr; (iterate 3 exact rfl)))
      | (apply y5; first | (apply qk; (iterate 3 exact rfl)) | (apply qq; (iterate 5 exact rfl)) | (apply qh; (iterate 5 exact rfl)))
      | (apply y0; first | (apply xm; exact rfl) | (apply jc; exact rfl) | (apply v7; exact rfl))
      | (apply x9; first | (apply xw; (iterate 3 exact rfl); first | assumption | omega | (simp; omega)) | (apply xz; (iterate 3 exact rfl); first | assumption | omega | (simp; omega)) | (apply yp; (iterate 4 exact rfl); (first | assumption | omega | (simp; omega)); first | assumption | omega | (simp; omega)) | (apply va; (iterate 4 exact rfl); (first | assumption | omega | exact Nat.succ_le_succ (Nat.zero_le _) | (simp; omega)); exact rfl))
      | (apply y3; first | (apply j3; (iterate 3 exact rfl)) | (apply zy; (iterate 4 exact rfl)))
      | (apply vu; first | (apply qr; (iterate 3 exact rfl)) | (apply jl; (iterate 4 exact rfl)))
      | (apply ya; first | (apply qx; (iterate 11 exact rfl)) | (apply qn; (iterate 11 exact rfl)))
      | (apply qar; first | apply qa | apply qi | apply qf | (apply zj; exact rfl; exact rfl) | (apply zg; exact rfl; first | (apply kc; (first | assumption | omega)) | (apply ka; (first | assumption | omega)) | (apply j9; (first | exact rfl | assumption)) | (apply ke; (first | exact rfl | assumption)) | (apply pk_t; (first | exact rfl | assumption)) | (apply pk_f; (first | exact rfl | assumption))) | (apply q9; exact rfl; exact rfl) | apply vj | (apply z0; exact rfl; exact rfl) | (apply j7; (iterate 4 exact rfl)) | (apply xd; (iterate 3 exact rfl)) | (apply yu; (iterate 3 exact rfl); first | assumption | omega | (simp; omega)) | (apply jq; (iterate 3 exact rfl)) | (apply qv; (iterate 9 exact rfl)) | (apply zv; exact rfl; exact rfl) | (apply wk; (iterate 4 exact rfl); (first | assumption | omega | decide); exact rfl) | (apply ki; (iterate 4 exact rfl); first | assumption | omega | decide))
      | (apply qd; exact Tryz.call91; exact qro _ _ hg))
     exact qo rfl (vd rfl) ⟨rfl, _, rfl⟩
end Go.Proofs.YtefmcijohgpfhaaGreatDoor
