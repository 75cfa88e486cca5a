/- Contracts and plain facts that the closing text leans on (part 4). No condition of their own beyond those that each states. -/
import Derived.Test.YtefmcijohgpfhaaGreatDoorK3
set_option maxRecDepth 100000
set_option linter.unusedVariables false
set_option linter.unusedSimpArgs false
set_option maxRecDepth 100000
set_option linter.unusedVariables false
namespace Go.Pl
open Go Go.Proofs
def qww (x : LnV) : qb × Bool := (x.text, x.ended)
end Go.Pl
set_option linter.unusedVariables false
namespace Go.Av
open Go Go.RowKit
def TipC (b : Nat) (st : List AObj) (sz : Nat) (T : TypeId) (xs : List AV) (c : AV) : Prop := (xs = [] ∧ c = zx) ∨ ∃ t, c = .sl sz xs (some t) ∧ st[t]? = some (.tip xs.length sz T) ∧ b ≤ t
structure Fr (st st' : List AObj) (t : Nat) : Prop where
 len : st.length ≤ st'.length
 same : ∀ k, k ≠ t → k < st.length → st'[k]? = st[k]?
theorem qcx (b : Nat) (st : List AObj) (sz : Nat) (T : TypeId) : TipC b st sz T [] zx := .inl ⟨rfl, rfl⟩
theorem qg0 {b : Nat} {st l : List AObj} {sz : Nat} {T : TypeId} {xs : List AV} {c : AV} (h : TipC b st sz T xs c) : TipC b (st ++ l) sz T xs c := by
 rcases h with h | ⟨t, h1, h2, h3⟩
 ·exact .inl h
 ·exact .inr ⟨t, h1, by rw [List.getElem?_append_left (lt_of_getElem? h2)]; exact h2, h3⟩
theorem j6 {b o : Nat} {st : List AObj} {sz : Nat} {T : TypeId} {xs : List AV} {c : AV} {x : AObj} (ho : o < b) (h : TipC b st sz T xs c) : TipC b (st.set o x) sz T xs c := by
 rcases h with h | ⟨t, h1, h2, h3⟩
 ·exact .inl h
 ·exact .inr ⟨t, h1, zk h2 (by omega), h3⟩
theorem qox {b t0 : Nat} {st st' : List AObj} {sz : Nat} {T : TypeId} {xs : List AV} {c : AV} (hf : Fr st st' t0) (hne : ∀ t, c = .sl sz xs (some t) → t ≠ t0) (h : TipC b st sz T xs c) : TipC b st' sz T xs c := by
 rcases h with h | ⟨t, h1, h2, h3⟩
 ·exact .inl h
 ·exact .inr ⟨t, h1, by rw [hf.same t (hne t h1) (lt_of_getElem? h2)]; exact h2, h3⟩
theorem qak {b t0 : Nat} {st st' : List AObj} {sz sz0 : Nat} {T T0 : TypeId} {xs xs0 : List AV} {c c0 : AV} (hf : Fr st st' t0) (h0 : TipC b st sz0 T0 xs0 c0) (hid : c0 = .sl sz0 xs0 (some t0) ∨ st.length ≤ t0) (hd : (Nat.beq sz sz0 && Nat.beq T T0) = false) (h : TipC b st sz T xs c) : TipC b st' sz T xs c := by
 refine qox hf (fun t ht e => ?_) h
 subst e
 rcases h with ⟨_, hc⟩ | ⟨t1, h1, h2, h3⟩
 ·rw [hc] at ht; simp at ht
 ·rw [ht] at h1
  simp only [AV.sl.injEq, Option.some.injEq, true_and] at h1
  subst h1
  rcases hid with hid | hid
  ·rcases h0 with ⟨_, hc⟩ | ⟨t2, k1, k2, k3⟩
   ·rw [hc] at hid; simp at hid
   ·rw [hid] at k1
    simp only [AV.sl.injEq, Option.some.injEq, true_and] at k1
    subst k1
    rw [h2] at k2
    simp only [Option.some.injEq, AObj.tip.injEq] at k2
    obtain ⟨_, rfl, rfl⟩ := k2
    simp at hd
  ·have := lt_of_getElem? h2
   omega
section
variable {E : Env} {rd : Option Nat} {N : Nat} {ops : Array Oper} {K : AS → Prop} {s : AS} {rest : List Oper} {d : Option Tmp} {T : TypeId} {p : String} {af : Array Edge}
theorem q5 {x y : Operand} {t u T' : TypeId} {sz bytes b : Nat} {xs ys : List AV} {tip : Option Nat} {c : AV} {st : List AObj} (hst : s.st = st) (hx : ql N s x = c) (hc : TipC b st sz T' xs c) (hb : b ≤ st.length) (hy : ql N s y = .sl sz ys tip)
  (ht : E.P.underlying t = some (.slice T')) (hu : E.P.underlying u = some (.slice T')) (hT : qdn E.P T' sz bytes) (hone : xc (flat ys) = true) (h63 : xs.length + ys.length ≤ maxLen) (hby : (xs.length + ys.length) * bytes ≤ 140737488355328)
  (h : ∀ t1 st', st'[t1]? = some (.tip (xs ++ ys).length sz T') → b ≤ t1 → Fr st st' t1 → (c = .sl sz xs (some t1) ∨ st.length ≤ t1) → AOps E rd N ops rest K (AS.put ⟨s.t, st', s.df⟩ d (.sl sz (xs ++ ys) (some t1)))) : AOps E rd N ops (⟨d, .call ⟨.builtin .append, #[x, y], #[t, u]⟩, T, p, af, none⟩ :: rest) K s := by
 subst hst
 refine z2 rfl (z1 nofun fun B0 w0 G a w _ hI => ?_)
 rcases hc with ⟨hxs, hcn⟩ | ⟨t1, h1, h2, h3⟩
 ·subst hxs
  have hle := G.le_new 0 0 0 false
  have hA := hI.agree.newTip sz T'
  have hv : a.eval x = .slice none 0 0 := hI.evalv (hx.trans hcn)
  have hn := hI.agree.n
  obtain ⟨news, k1, k2, k3⟩ := qc7 (P := E.P) hA ((hI.eval_of hy).mono hle) (by simpa [xc] using hone)
  have hr : Rel (G.new 0 0 0 false) (.sl sz [] (some s.st.length)) (a.eval x) := by
   rw [hv]
   exact .sl0 sz _ none 0 fun t ht => by simp only [Option.some.injEq] at ht; subst ht; exact ⟨by simp [Gh.new, hn], rfl, rfl⟩
  obtain ⟨v', w', G', e1, e2, e3, e4⟩ := qb2 (ty := T) hA ht hu (.inr ⟨_, rfl⟩) hT (t := s.st.length) (n := 0) (by simp) hr rfl rfl k1 k2 k3 (by simpa using h63) (by simpa using hby)
  refine ⟨v', w', G', _, _, ?_, hle.trans e2, e3, e4, h s.st.length _ ?_ hb ⟨by simp, fun k hk hlt => ?_⟩ (.inr (Nat.le_refl _))⟩
  ·generalize a.eval = ρ at e1
   simp [execOp, resolve, invoke, builtin, e1]
  ·simp
  ·rw [List.getElem?_set_ne (Ne.symm hk), List.getElem?_append_left hlt]
 ·obtain ⟨news, k1, k2, k3⟩ := qc7 (P := E.P) hI.agree (hI.eval_of hy) (by simpa [xc] using hone)
  obtain ⟨v', w', G', e1, e2, e3, e4⟩ := qb2 (ty := T) hI.agree ht hu (.inr ⟨_, rfl⟩) hT h2 (hI.eval_of (hx.trans h1)) rfl rfl k1 k2 k3 h63 hby
  refine ⟨v', w', G', _, _, ?_, e2, e3, e4, h t1 _ ?_ h3 ⟨by simp, fun k hk hlt => ?_⟩ (.inl h1)⟩
  ·generalize a.eval = ρ at e1
   simp [execOp, resolve, invoke, builtin, e1]
  ·rw [List.length_append]
   exact zw h2
  ·rw [List.getElem?_set_ne (Ne.symm hk)]
theorem qea {t : TypeId} {x : Operand} {r : AV} {cs : List AV} (hx : ql N s x = r) (hok : r.okc = true) (hc : r.cells = cs)
  (h : AOps E rd N ops rest K (s.put d (.pp cs))) : AOps E rd N ops (⟨d, .box t x, T, p, af, none⟩ :: rest) K s := by
 refine z2 rfl (z1 nofun fun B0 w0 G a w _ hI => ?_)
 have hr := (hI.eval_of hx).cells hok
 rw [hc] at hr
 obtain ⟨hle, hA⟩ := hI.agree.newPub t (a.eval x).cells (0, 0) (a.eval x).cells.toList (fun i y hy => by simpa using hy)
 have hrun : (execOp a.eval ⟨d, .box t x, T, p, af, none⟩).run E.P w = .ok (.value (.pointer (some ⟨w.heap.size, 0, none⟩))) (w.alloc (.cells (a.eval x).cells t)) := by
  generalize a.eval = ρ
  simp [execOp, Instr.box, newVar, newRow, newObj, Sem.run]
 refine ⟨_, _, _, .pp cs, s.st, hrun, hle, hA, .pp cs w.heap.size 0 (a.eval x).cells.toList (by simp [Gh.publish]) (by rw [hr.1]; simp) fun i x y hx hy => (hr.2 i x y hx (by simpa using hy)).mono hle, h⟩
end
theorem qlr {E : Env} {f : FuncId} {x x' : AV} {us : List AV} {st : List AObj} {R : AV → List AObj → Prop} (hw : ∀ G v, Rel G x v → Rel G x' v) (h : q7 E f (x' :: us) st R) : q7 E f (x :: us) st R :=
 ⟨fun B0 w0 G vals w hL hA hR => h.run B0 w0 G vals w hL hA ⟨by have := hR.1; simpa using this, fun i a b ha hb => by
  cases i with
  | zero => simp at ha; subst ha; exact hw G b (hR.2 0 x b rfl hb)
  | succ i => exact hR.2 (i + 1) a b (by simpa using ha) hb⟩⟩
theorem z6 {st l : List AObj} {o : Nat} {x : AObj} (h : st[o]? = some x) : (st ++ l)[o]? = some x := by
 rw [List.getElem?_append_left (lt_of_getElem? h)]; exact h
theorem jj {st : List AObj} {x : AObj} : (st ++ [x])[st.length]? = some x := by simp
section
variable {E : Env} {rd : Option Nat} {N : Nat} {ops : Array Oper} {K : AS → Prop} {s : AS} {rest : List Oper} {d : Option Tmp} {T : TypeId} {p : String} {af : Array Edge}
theorem qay {t : TypeId} {st : List AObj} {cs : List AV} (hst : s.st = st) (hz : qep E.P t = some cs)
  (h : AOps E rd N ops rest K (AS.put ⟨s.t, st ++ [.cells 0 t cs], s.df⟩ d (.bx st.length 0 0))) : AOps E rd N ops (⟨d, .alloc t, T, p, af, none⟩ :: rest) K s :=
 z0 (loc := []) (by rw [hst]; simp) hz h
theorem qyr {t : TypeId} {x : Operand} {st : List AObj} {r : AV} {cs : List AV} (hst : s.st = st) (hx : ql N s x = r) (hok : r.okc = true) (hc : r.cells = cs)
  (h : AOps E rd N ops rest K (AS.put ⟨s.t, st ++ [.cells 0 t cs], s.df⟩ d (.bx st.length 0 0))) : AOps E rd N ops (⟨d, .box t x, T, p, af, none⟩ :: rest) K s :=
 j7 (loc := []) (by rw [hst]; simp) hx hok hc h
end
theorem qef {st st' : List AObj} (hl : st.length ≤ st'.length) (h : ∀ k, k < st.length → st'[k]? = st[k]?) : ∃ ext, st' = st ++ ext := by
 refine ⟨st'.drop st.length, ?_⟩
 apply List.ext_getElem?
 intro k
 by_cases hk : k < st.length
 ·rw [h k hk, List.getElem?_append_left hk]
 ·rw [List.getElem?_append_right (by omega), List.getElem?_drop]
  congr 1
  omega
end Go.Av
set_option maxRecDepth 100000
set_option linter.unusedVariables false
namespace Go.Pl
open Go Go.Proofs
structure wb where
 kind : Int
 raw : qb
 fields : List Fld
structure PSt where
 lines : List qb
 frm : Int
 full : Bool
 items : List wb
 block : List qb
 fields : List Fld
 records : Int
def kh (p : PSt) : Option (Int × Int) × PSt :=
 if p.lines = [] then (none, p)
 else if (jv p.lines).2 ≠ 0 then (some (p.frm, (jv p.lines).2), p)
 else if p.full = true then (some (p.frm, 11), p)
 else (none, { p with lines := [], fields := p.fields ++ [(jv p.lines).1] })
end Go.Pl
namespace Go.Proofs.YtefmcijohgpfhaaGreatDoor
open Go Go.Av Go.RowKit Go.Proofs Go.Pl
@[reducible] def zf (x : wb) : AV := .ag [Iv x.kind, Sv x.raw, y7 x.fields]
@[reducible] def qfo (xs : List wb) : AV := .sl 3 (xs.map zf) none
@[reducible] def parC (c1 c2 c3 c4 : AV) (p : PSt) : List AV := [c1, Iv p.frm, Bv p.full, c2, c3, c4, Iv p.records]
@[reducible] def parO (c1 c2 c3 c4 : AV) (p : PSt) : AObj := .cells 0 148 (parC c1 c2 c3 c4 p)
structure ParS (b o : Nat) (p : PSt) (st : List AObj) (c1 c2 c3 c4 : AV) : Prop where
 lt : o < b
 le : b ≤ st.length
 ob : st[o]? = some (parO c1 c2 c3 c4 p)
 h1 : TipC b st 1 9 (p.lines.map fun x => Sv x) c1
 h2 : TipC b st 3 152 (p.items.map zf) c2
 h3 : TipC b st 1 9 (p.block.map fun x => Sv x) c3
 h4 : TipC b st 2 69 (p.fields.map fldA) c4
 ne : ∀ t xs ys, c1 = .sl 1 xs (some t) → c3 = .sl 1 ys (some t) → False
def Par (b o : Nat) (p : PSt) (st : List AObj) : Prop := ∃ c1 c2 c3 c4, ParS b o p st c1 c2 c3 c4
def qfg (x : Option AObj) : Prop := ∀ n sz T, x ≠ some (.tip n sz T)
structure Keep (b o : Nat) (st st' : List AObj) : Prop where
 len : st.length ≤ st'.length
 same : ∀ k, k ≠ o → k < st.length → (k < b ∨ qfg st[k]?) → st'[k]? = st[k]?
theorem Keep.trans {b o : Nat} {st st' st'' : List AObj} (h : Keep b o st st') (k : Keep b o st' st'') : Keep b o st st'' := ⟨Nat.le_trans h.len k.len, fun i hne hi hc => by
 have e := h.same i hne hi hc
 refine (k.same i hne (Nat.lt_of_lt_of_le hi h.len) ?_).trans e
 rw [e]
 exact hc⟩
theorem yv {b o : Nat} {st l : List AObj} (hb : b ≤ st.length) : Keep b o st (st ++ l) := ⟨by simp, fun k _ hk _ => List.getElem?_append_left hk⟩
theorem zz {b o : Nat} {st : List AObj} {x : AObj} : Keep b o st (st.set o x) := ⟨by simp, fun k hne _ _ => List.getElem?_set_ne (Ne.symm hne)⟩
theorem jm {b o t sz : Nat} {T : TypeId} {xs : List AV} {c : AV} {st st' : List AObj} (hf : Fr st st' t) (hb : b ≤ st.length) (ht : b ≤ t) (h0 : TipC b st sz T xs c) (hid : c = .sl sz xs (some t) ∨ st.length ≤ t) : Keep b o st st' := ⟨hf.len, fun k _ hk hc => hf.same k (fun e => by
 subst e
 rcases hc with hc | hc
 ·omega
 ·rcases hid with hid | hid
  ·rcases h0 with ⟨_, h⟩ | ⟨t2, k1, k2, _⟩
   ·rw [h] at hid; simp at hid
   ·rw [hid] at k1
    simp only [AV.sl.injEq, Option.some.injEq, true_and] at k1
    subst k1
    exact hc _ _ _ k2
  ·omega) hk⟩
def qei (a n : Int) : AV := .ifc 103 (.pp [Iv a, .ifc 31 (Iv n)])
def errP : Option (Int × Int) → AV
 | none => .v .nilIface
 | some (a, n) => qei a n
theorem qhu (a n : Int) : Pure (qei a n) := qc5 (q3a fun x hx => by
 simp only [List.mem_cons, List.not_mem_nil, or_false] at hx
 rcases hx with rfl | rfl
 ·exact z4 _
 ·exact qc5 (z4 _))
theorem qgu (a n : Int) (st : List AObj) : q7 E 134 [Iv a, .ifc 31 (Iv n)] st fun r st' => r = qei a n ∧ st' = st := by
 refine zt (qhu a n) (q8 Tryz.func134 rfl (Nat.le_of_ble_eq_true rfl) ?_)
 repeat' (first
  | (apply qea; (iterate 3 exact rfl))
  | apply qm
  | apply qe
  | apply qa
  | apply qi
  | apply qf
  | (apply q9; exact rfl; exact rfl)
  | (apply jq; (iterate 3 exact rfl))
  | apply qz)
 exact qo rfl (zm rfl) ⟨rfl, _, rfl⟩
theorem qob (ls : List qb) (t : Option Nat) (st : List AObj) (hB : LsB ls) (h : (jv ls).2 = 0) : q7 E 166 [.sl 1 (ls.map fun x => Sv x) t] st fun r st' => r = .tu [fldA (jv ls).1, .v .nilIface] ∧ st' = st := by
 have := qks ls st hB
 unfold qd2 at this
 rw [h] at this
 exact qlr (qi4 _ _ _) this
theorem qwv (ls : List qb) (t : Option Nat) (st : List AObj) (hB : LsB ls) (h : (jv ls).2 ≠ 0) : q7 E 166 [.sl 1 (ls.map fun x => Sv x) t] st fun r st' => r = .tu [fldA (jv ls).1, .ifc 31 (Iv (jv ls).2)] ∧ st' = st := by
 have := qks ls st hB
 unfold qd2 at this
 rw [qh8 h] at this
 exact qlr (qi4 _ _ _) this
theorem qpi {b : Nat} {st : List AObj} {sz : Nat} {T : TypeId} {xs : List AV} {c : AV} (h : TipC b st sz T xs c) (hne : xs ≠ []) : ∃ t, c = .sl sz xs (some t) := by
 rcases h with ⟨h, _⟩ | ⟨t, h, _⟩
 ·exact absurd h hne
 ·exact ⟨t, h⟩
theorem qg2 {b : Nat} {st : List AObj} {sz : Nat} {T : TypeId} {xs : List AV} {c : AV} (h : TipC b st sz T xs c) : lenA c = some xs.length := by
 rcases h with ⟨rfl, rfl⟩ | ⟨t, rfl, _⟩ <;> rfl
structure PB (n : Nat) (p : PSt) : Prop where
 small : n < 900000
 lines : p.lines.length ≤ n
 linesV : ∀ s ∈ p.lines, s.length < 1000000
 items : p.items.length ≤ n
 block : p.block.length ≤ n
 blockV : ∀ s ∈ p.block, s.length < 1000000
 fields : p.fields.length ≤ n
 rec0 : 0 ≤ p.records
 rec1 : p.records ≤ n
theorem PB.ls {n : Nat} {p : PSt} (h : PB n p) : LsB p.lines := ⟨by have := h.lines; have := h.small; omega, h.linesV⟩
theorem ParS.pre {b o : Nat} {p : PSt} {st l : List AObj} {c1 c2 c3 c4 : AV} (P : ParS b o p st c1 c2 c3 c4) : ParS b o p (st ++ l) c1 c2 c3 c4 :=
 ⟨P.lt, by have := P.le; simp; omega, z6 P.ob, qg0 P.h1, qg0 P.h2, qg0 P.h3, qg0 P.h4, P.ne⟩
theorem qgn {b o t : Nat} {st : List AObj} {sz : Nat} {T : TypeId} {xs : List AV} (hlt : o < b) (g1 : st[t]? = some (.tip xs.length sz T)) (g2 : b ≤ t) : TipC b st sz T xs (.sl sz xs (some t)) := .inr ⟨t, rfl, g1, g2⟩
theorem qkf {b o t : Nat} {p : PSt} {x : Fld} {st st' : List AObj} {c1 c2 c3 c4 : AV} {X : AObj} (P : ParS b o p st c1 c2 c3 c4) (g1 : st'[t]? = some (.tip (p.fields.map fldA ++ [fldA x]).length 2 69)) (g2 : b ≤ t) (g3 : Fr st st' t) (g4 : c4 = .sl 2 (p.fields.map fldA) (some t) ∨ st.length ≤ t) :
  Par b o { p with lines := [], fields := p.fields ++ [x] } ((st'.set o X).set o (parO zx c2 c3 (.sl 2 (p.fields.map fldA ++ [fldA x]) (some t)) p)) := by
 have hlt := P.lt
 have hle := P.le
 have hl := g3.len
 have e : (p.fields ++ [x]).map fldA = p.fields.map fldA ++ [fldA x] := by simp
 refine ⟨zx, c2, c3, .sl 2 (p.fields.map fldA ++ [fldA x]) (some t), hlt, by simp; omega, ?_, qcx .., ?_, ?_, ?_, nofun⟩
 ·have : o < st'.length := by omega
  simp [this]
 ·exact j6 hlt (j6 hlt (qak g3 P.h4 g4 rfl P.h2))
 ·exact j6 hlt (j6 hlt (qak g3 P.h4 g4 rfl P.h3))
 ·refine j6 hlt (j6 hlt ?_)
  rw [← e] at g1 ⊢
  exact qgn hlt g1 g2
set_option maxHeartbeats 4000000 in
theorem qoo (b o : Nat) (p : PSt) (st : List AObj) (n : Nat) (h : Par b o p st) (hB : PB n p) : q7 E 136 [.bx o 0 0] st fun r st' => r = errP (kh p).1 ∧ ((kh p).1 = none → Par b o (kh p).2 st') ∧ Keep b o st st' := by
 obtain ⟨c1, c2, c3, c4, P⟩ := h
 obtain ⟨ls, fr, fu, its, bk, fs, rc⟩ := p
 have hob : st[o]? = some (.cells 0 148 [c1, Iv fr, Bv fu, c2, c3, c4, Iv rc]) := P.ob
 have hl1 : lenA c1 = some (ls.map fun x => Sv x).length := qg2 P.h1
 have hle := P.le
 have hlt := P.lt
 have hml : (ls.map fun x => Sv x).length = ls.length := by simp
 refine q8 Tryz.func136 rfl (Nat.le_of_ble_eq_true rfl) ?_
 by_cases h0 : ls = []
 ·have hf : kh ⟨ls, fr, fu, its, bk, fs, rc⟩ = (none, ⟨ls, fr, fu, its, bk, fs, rc⟩) := if_pos h0
  have hz : (ls.map fun x => Sv x).length = 0 := by rw [h0]; rfl
  repeat' (first
   | apply qm
   | apply qe
   | apply qa
   | apply qi
   | apply qf
   | (apply qw; (iterate 3 exact rfl))
   | (apply qg; exact rfl; first | (apply ze; (first | assumption | omega)) | (apply zd; (first | assumption | omega)) | (apply zc; (first | exact rfl | assumption)) | (apply zb; (first | exact rfl | assumption)) | (apply cd_n <;> intro h) | (apply cd_t; (first | exact rfl | assumption)) | (apply cd_f; (first | exact rfl | assumption)) | (apply cd_d <;> intro h) | (apply cd_s <;> intro h))
   | (apply qr; (iterate 3 exact rfl))
   | (apply zv; exact rfl; exact rfl)
   | apply qz
   | (apply qc; exact rfl; exact z6 hob; exact rfl; exact rfl)
   | (apply zy; exact rfl; exact hl1; exact rfl; exact rfl))
  refine qo rfl (zm rfl) ⟨?_, ?_, yv hle⟩
  ·rw [hf]; rfl
  ·rw [hf]
   intro _
   rw [List.append_nil]
   exact ⟨c1, c2, c3, c4, P⟩
 ·have hz : 0 < (ls.map fun x => Sv x).length := by rw [hml]; exact List.length_pos_iff.2 h0
  obtain ⟨t1, rfl⟩ : ∃ t, c1 = .sl 1 (ls.map fun x => Sv x) (some t) := qpi P.h1 (by simpa using h0)
  by_cases hu : (jv ls).2 = 0
  ·cases fu
   ·have hf : kh ⟨ls, fr, false, its, bk, fs, rc⟩ = (none, ⟨[], fr, false, its, bk, fs ++ [(jv ls).1], rc⟩) := by
     unfold kh
     rw [if_neg h0, if_neg (by simp [hu]), if_neg (by simp)]
    rw [hf]
    have hfl : fs.length < 1000000 := Nat.lt_of_le_of_lt hB.fields (by have := hB.small; omega)
    have hmf : (fs.map fldA).length = fs.length := by simp
    repeat' (first
     | apply qm
     | apply q4
     | apply qe
     | apply qa
     | apply qi
     | apply qf
     | (apply zj; exact rfl; exact rfl)
     | (apply qw; (iterate 3 exact rfl))
     | (apply qg; exact rfl; first | (apply ze; (first | assumption | omega)) | (apply zd; (first | assumption | omega)) | (apply zc; (first | exact rfl | assumption)) | (apply zb; (first | exact rfl | assumption)) | (apply cd_n <;> intro h) | (apply cd_t; (first | exact rfl | assumption)) | (apply cd_f; (first | exact rfl | assumption)) | (apply cd_d <;> intro h) | (apply cd_s <;> intro h))
     | (apply zy; (iterate 4 exact rfl))
     | (apply zr; exact rfl; exact rfl)
     | (apply z0; exact rfl; exact rfl)
     | (apply qr; (iterate 3 exact rfl))
     | (apply qn; (iterate 11 exact rfl))
     | (apply zv; exact rfl; exact rfl)
     | apply q6
     | (apply qd; exact Tryz.call166; exact qob _ _ _ hB.ls hu)
     | (apply qc; exact rfl; exact z6 hob; exact rfl; exact rfl))
    have P2 := P.pre (l := [.cells 0 69 (fldA (jv ls).1).cells])
    have hl2 : b ≤ (st ++ [AObj.cells 0 69 (fldA (jv ls).1).cells]).length := P2.le
    have hol : o < (st ++ [AObj.cells 0 69 (fldA (jv ls).1).cells]).length := by omega
    have hob2 := z6 (l := [AObj.cells 0 69 (fldA (jv ls).1).cells]) hob
    refine qe3 (fun s => s.df = [] ∧ Par b o ⟨[], fr, false, its, bk, fs ++ [(jv ls).1], rc⟩ s.st ∧ Keep b o st s.st) ?_ ?_
    ·refine qca rfl rfl ?_
     (apply qj 0; exact rfl; kernel_rfl; kernel_rfl; kernel_rfl; exact rfl; exact ww)
     (apply qj 1; exact rfl; kernel_rfl; kernel_rfl; kernel_rfl; exact rfl; exact ww)
     (apply qj 2; exact rfl; kernel_rfl; kernel_rfl; kernel_rfl; exact rfl; exact ww)
     (apply qj 3; exact rfl; kernel_rfl; kernel_rfl; kernel_rfl; exact rfl; (apply zh; exact rfl; exact rfl))
     (apply qj 4; exact rfl; kernel_rfl; kernel_rfl; kernel_rfl; exact rfl; (first | (apply qt; (iterate 3 exact rfl)) | (apply qu; (iterate 4 exact rfl))))
     refine qp [5, 6] (by kernel_rfl) rfl ⟨⟨_, rfl, ?_⟩, ⟨_, rfl, ?_⟩, trivial⟩
     ·(first | (apply qc; exact rfl; exact hob2; exact rfl; exact rfl) | (apply qq; (iterate 5 exact rfl)) | (apply qh; (iterate 5 exact rfl)) | (apply qk; (iterate 3 exact rfl)))
      apply qa
      refine qp [6] (by kernel_rfl) rfl ⟨⟨_, rfl, ?_⟩, trivial⟩
      (first | (apply qc; exact rfl; exact hob2; exact rfl; exact rfl) | (apply qq; (iterate 5 exact rfl)) | (apply qh; (iterate 5 exact rfl)) | (apply qk; (iterate 3 exact rfl)))
      apply qa
      refine qp [7] (by kernel_rfl) rfl ⟨⟨_, rfl, ?_⟩, trivial⟩
      (apply qv; (iterate 9 exact rfl))
      apply qa
      refine qp [8] (by kernel_rfl) rfl ⟨⟨_, rfl, ?_⟩, trivial⟩
      (apply q5 (b := b) (xs := fs.map fldA) (ys := [fldA (jv ls).1]) (bytes := 32); exact rfl; exact rfl; exact P2.h4; exact hl2; (iterate 3 exact rfl); exact ⟨⟨_, _, rfl, rfl, rfl, rfl, rfl⟩⟩; exact rfl; (simp [maxLen]; omega); (simp; omega); intro t4 st4 g1 g2 g3 g4; have ho4 := (g3.same o (by omega) hol).trans hob2)
      apply qa
      (apply qj 9; exact rfl; kernel_rfl; kernel_rfl; kernel_rfl; exact rfl; (apply zh; exact rfl; exact rfl))
      (apply qj 10; exact rfl; kernel_rfl; kernel_rfl; kernel_rfl; exact rfl; (first | (apply qt; (iterate 3 exact rfl)) | (apply qu; (iterate 4 exact rfl))))
      refine qp [11] (by kernel_rfl) rfl ⟨⟨_, rfl, ?_⟩, trivial⟩
      (first | (apply qs; exact rfl; exact rfl; exact ho4; (iterate 6 exact rfl)) | (apply qs; exact rfl; exact rfl; exact zw ho4; (iterate 6 exact rfl)) | (apply qx; (iterate 11 exact rfl)) | (apply qn; (iterate 11 exact rfl)))
      apply qa
      (apply qj 12; exact rfl; kernel_rfl; kernel_rfl; kernel_rfl; exact rfl; (apply zh; exact rfl; exact rfl))
      (apply qj 13; exact rfl; kernel_rfl; kernel_rfl; kernel_rfl; exact rfl; (first | (apply qt; (iterate 3 exact rfl)) | (apply qu; (iterate 4 exact rfl))))
      (apply qj 14; exact rfl; kernel_rfl; kernel_rfl; kernel_rfl; exact rfl; (first | (apply qt; (iterate 3 exact rfl)) | (apply qu; (iterate 4 exact rfl))))
      refine qp [15] (by kernel_rfl) rfl ⟨⟨_, rfl, ?_⟩, trivial⟩
      (first | (apply qs; exact rfl; exact rfl; exact ho4; (iterate 6 exact rfl)) | (apply qs; exact rfl; exact rfl; exact zw ho4; (iterate 6 exact rfl)) | (apply qx; (iterate 11 exact rfl)) | (apply qn; (iterate 11 exact rfl)))
      apply qa
      refine jh (by kernel_rfl) ?_
      exact ⟨rfl, qkf P2 g1 g2 g3 g4, ((yv hle).trans (jm g3 hl2 g2 P2.h4 g4)).trans (zz.trans zz)⟩
     ·(first | (apply qc; exact rfl; exact hob2; exact rfl; exact rfl) | (apply qq; (iterate 5 exact rfl)) | (apply qh; (iterate 5 exact rfl)) | (apply qk; (iterate 3 exact rfl)))
      apply qa
      refine qp [5, 7] (by kernel_rfl) rfl ⟨⟨_, rfl, ?_⟩, ⟨_, rfl, ?_⟩, trivial⟩
      ·(first | (apply qc; exact rfl; exact hob2; exact rfl; exact rfl) | (apply qq; (iterate 5 exact rfl)) | (apply qh; (iterate 5 exact rfl)) | (apply qk; (iterate 3 exact rfl)))
       apply qa
       refine qp [7] (by kernel_rfl) rfl ⟨⟨_, rfl, ?_⟩, trivial⟩
       (apply qv; (iterate 9 exact rfl))
       apply qa
       refine qp [8] (by kernel_rfl) rfl ⟨⟨_, rfl, ?_⟩, trivial⟩
       (apply q5 (b := b) (xs := fs.map fldA) (ys := [fldA (jv ls).1]) (bytes := 32); exact rfl; exact rfl; exact P2.h4; exact hl2; (iterate 3 exact rfl); exact ⟨⟨_, _, rfl, rfl, rfl, rfl, rfl⟩⟩; exact rfl; (simp [maxLen]; omega); (simp; omega); intro t4 st4 g1 g2 g3 g4; have ho4 := (g3.same o (by omega) hol).trans hob2)
       apply qa
       (apply qj 9; exact rfl; kernel_rfl; kernel_rfl; kernel_rfl; exact rfl; (apply zh; exact rfl; exact rfl))
       (apply qj 10; exact rfl; kernel_rfl; kernel_rfl; kernel_rfl; exact rfl; (first | (apply qt; (iterate 3 exact rfl)) | (apply qu; (iterate 4 exact rfl))))
       refine qp [11] (by kernel_rfl) rfl ⟨⟨_, rfl, ?_⟩, trivial⟩
       (first | (apply qs; exact rfl; exact rfl; exact ho4; (iterate 6 exact rfl)) | (apply qs; exact rfl; exact rfl; exact zw ho4; (iterate 6 exact rfl)) | (apply qx; (iterate 11 exact rfl)) | (apply qn; (iterate 11 exact rfl)))
       apply qa
       (apply qj 12; exact rfl; kernel_rfl; kernel_rfl; kernel_rfl; exact rfl; (apply zh; exact rfl; exact rfl))
       (apply qj 13; exact rfl; kernel_rfl; kernel_rfl; kernel_rfl; exact rfl; (first | (apply qt; (iterate 3 exact rfl)) | (apply qu; (iterate 4 exact rfl))))
       (apply qj 14; exact rfl; kernel_rfl; kernel_rfl; kernel_rfl; exact rfl; (first | (apply qt; (iterate 3 exact rfl)) | (apply qu; (iterate 4 exact rfl))))
       refine qp [15] (by kernel_rfl) rfl ⟨⟨_, rfl, ?_⟩, trivial⟩
       (first | (apply qs; exact rfl; exact rfl; exact ho4; (iterate 6 exact rfl)) | (apply qs; exact rfl; exact rfl; exact zw ho4; (iterate 6 exact rfl)) | (apply qx; (iterate 11 exact rfl)) | (apply qn; (iterate 11 exact rfl)))
       apply qa
       refine jh (by kernel_rfl) ?_
       exact ⟨rfl, qkf P2 g1 g2 g3 g4, ((yv hle).trans (jm g3 hl2 g2 P2.h4 g4)).trans (zz.trans zz)⟩
      ·(apply qv; (iterate 9 exact rfl))
       apply qa
       refine qp [5] (by kernel_rfl) rfl ⟨⟨_, rfl, ?_⟩, trivial⟩
       (first | (apply qc; exact rfl; exact hob2; exact rfl; exact rfl) | (apply qq; (iterate 5 exact rfl)) | (apply qh; (iterate 5 exact rfl)) | (apply qk; (iterate 3 exact rfl)))
       apply qa
       refine qp [8] (by kernel_rfl) rfl ⟨⟨_, rfl, ?_⟩, trivial⟩
       (apply q5 (b := b) (xs := fs.map fldA) (ys := [fldA (jv ls).1]) (bytes := 32); exact rfl; exact rfl; exact P2.h4; exact hl2; (iterate 3 exact rfl); exact ⟨⟨_, _, rfl, rfl, rfl, rfl, rfl⟩⟩; exact rfl; (simp [maxLen]; omega); (simp; omega); intro t4 st4 g1 g2 g3 g4; have ho4 := (g3.same o (by omega) hol).trans hob2)
       apply qa
       (apply qj 9; exact rfl; kernel_rfl; kernel_rfl; kernel_rfl; exact rfl; (apply zh; exact rfl; exact rfl))
       (apply qj 10; exact rfl; kernel_rfl; kernel_rfl; kernel_rfl; exact rfl; (first | (apply qt; (iterate 3 exact rfl)) | (apply qu; (iterate 4 exact rfl))))
       refine qp [11] (by kernel_rfl) rfl ⟨⟨_, rfl, ?_⟩, trivial⟩
       (first | (apply qs; exact rfl; exact rfl; exact ho4; (iterate 6 exact rfl)) | (apply qs; exact rfl; exact rfl; exact zw ho4; (iterate 6 exact rfl)) | (apply qx; (iterate 11 exact rfl)) | (apply qn; (iterate 11 exact rfl)))
       apply qa
       (apply qj 12; exact rfl; kernel_rfl; kernel_rfl; kernel_rfl; exact rfl; (apply zh; exact rfl; exact rfl))
       (apply qj 13; exact rfl; kernel_rfl; kernel_rfl; kernel_rfl; exact rfl; (first | (apply qt; (iterate 3 exact rfl)) | (apply qu; (iterate 4 exact rfl))))
       (apply qj 14; exact rfl; kernel_rfl; kernel_rfl; kernel_rfl; exact rfl; (first | (apply qt; (iterate 3 exact rfl)) | (apply qu; (iterate 4 exact rfl))))
       refine qp [15] (by kernel_rfl) rfl ⟨⟨_, rfl, ?_⟩, trivial⟩
       (first | (apply qs; exact rfl; exact rfl; exact ho4; (iterate 6 exact rfl)) | (apply qs; exact rfl; exact rfl; exact zw ho4; (iterate 6 exact rfl)) | (apply qx; (iterate 11 exact rfl)) | (apply qn; (iterate 11 exact rfl)))
       apply qa
       refine jh (by kernel_rfl) ?_
       exact ⟨rfl, qkf P2 g1 g2 g3 g4, ((yv hle).trans (jm g3 hl2 g2 P2.h4 g4)).trans (zz.trans zz)⟩
    ·rintro ⟨t2, st2, df2⟩ ⟨hd, hp, hk⟩
     simp only at hd hp hk
     subst hd
     repeat' (first
      | apply qm
      | apply qe
      | apply qa
      | apply qf
      | apply qz)
     exact qo rfl (zm rfl) ⟨rfl, fun _ => hp, hk⟩
   ·have hf : kh ⟨ls, fr, true, its, bk, fs, rc⟩ = (some (fr, 11), ⟨ls, fr, true, its, bk, fs, rc⟩) := by
     unfold kh
     rw [if_neg h0, if_neg (by simp [hu]), if_pos rfl]
    rw [hf]
    repeat' (first
     | apply qm
     | apply q4
     | apply qe
     | apply qa
     | apply qi
     | apply qf
     | (apply zj; exact rfl; exact rfl)
     | (apply qw; (iterate 3 exact rfl))
     | (apply qg; exact rfl; first | (apply ze; (first | assumption | omega)) | (apply zd; (first | assumption | omega)) | (apply zc; (first | exact rfl | assumption)) | (apply zb; (first | exact rfl | assumption)) | (apply cd_n <;> intro h) | (apply cd_t; (first | exact rfl | assumption)) | (apply cd_f; (first | exact rfl | assumption)) | (apply cd_d <;> intro h) | (apply cd_s <;> intro h))
     | (apply zy; (iterate 4 exact rfl))
     | (apply zr; exact rfl; exact rfl)
     | (apply q9; exact rfl; exact rfl)
     | (apply z0; exact rfl; exact rfl)
     | (apply qr; (iterate 3 exact rfl))
     | (apply qn; (iterate 11 exact rfl))
     | (apply zv; exact rfl; exact rfl)
     | apply q6
     | apply qz
     | (apply qd; exact Tryz.call166; exact qob _ _ _ hB.ls hu)
     | (apply qd; exact Tryz.call134; exact qgu _ _ _)
     | (apply qc; exact rfl; exact z6 hob; exact rfl; exact rfl))
    exact qo rfl (zm rfl) ⟨rfl, nofun, yv hle⟩
  ·have hf : kh ⟨ls, fr, fu, its, bk, fs, rc⟩ = (some (fr, (jv ls).2), ⟨ls, fr, fu, its, bk, fs, rc⟩) := by
    unfold kh
    rw [if_neg h0, if_pos hu]
   rw [hf]
   repeat' (first
    | apply qm
    | apply q4
    | apply qe
    | apply qa
    | apply qi
    | apply qf
    | (apply zj; exact rfl; exact rfl)
    | (apply qw; (iterate 3 exact rfl))
    | (apply qg; exact rfl; first | (apply ze; (first | assumption | omega)) | (apply zd; (first | assumption | omega)) | (apply zc; (first | exact rfl | assumption)) | (apply zb; (first | exact rfl | assumption)) | (apply cd_n <;> intro h) | (apply cd_t; (first | exact rfl | assumption)) | (apply cd_f; (first | exact rfl | assumption)) | (apply cd_d <;> intro h) | (apply cd_s <;> intro h))
    | (apply zy; (iterate 4 exact rfl))
    | (apply z8; exact rfl; exact rfl)
    | (apply z0; exact rfl; exact rfl)
    | (apply qr; (iterate 3 exact rfl))
    | (apply qn; (iterate 11 exact rfl))
    | (apply zv; exact rfl; exact rfl)
    | apply q6
    | apply qz
    | (apply qd; exact Tryz.call166; exact qwv _ _ _ hB.ls hu)
    | (apply qd; exact Tryz.call134; exact qgu _ _ _)
    | (apply qc; exact rfl; exact z6 hob; exact rfl; exact rfl))
   exact qo rfl (zm rfl) ⟨rfl, nofun, yv hle⟩
end Go.Proofs.YtefmcijohgpfhaaGreatDoor
set_option maxRecDepth 100000
set_option linter.unusedVariables false
namespace Go.Pl
open Go Go.Proofs
def yj (p : PSt) : PSt :=
 if p.block = [] then { p with block := [], fields := [] }
 else { p with items := p.items ++ [⟨if p.fields = [] then 2 else 3, jd p.block, p.fields⟩], records := if p.fields = [] then p.records else p.records + 1, block := [], fields := [] }
def endP (p : PSt) : Option (Int × Int) × PSt := match (kh p).1 with
 | some e => (some e, p)
 | none => (none, yj (kh p).2)
theorem qj6 : ∀ (x : qb) (r : List qb), Lib.join (x :: r) [10] ++ [10] = jd (x :: r)
 | x, [] => by rw [Lib.join_one]; simp [jd]
 | x, y :: r => by
  have ih := qj6 y r
  rw [Lib.join_cons] at ih ⊢
  unfold Lib.joinTail at ih ⊢
  simp only [List.map_cons, List.flatten_cons, jd, List.flatMap_cons] at ih ⊢
  rw [← ih]
  simp
theorem qjj : ∀ (r : List qb), (∀ s ∈ r, s.length < 1000000) → (jd r).length ≤ 1000001 * r.length
 | [], _ => by simp [jd]
 | a :: r, h => by
  have ih := qjj r fun s hs => h s (by simp [hs])
  have ha := h a (by simp)
  simp only [jd, List.flatMap_cons, List.length_append, List.length_cons, List.length_nil] at ih ⊢
  omega
end Go.Pl
namespace Go.Proofs.YtefmcijohgpfhaaGreatDoor
open Go Go.Av Go.RowKit Go.Proofs Go.Pl
theorem zu {b : Nat} {st : List AObj} {sz : Nat} {T : TypeId} {xs : List AV} {c : AV} (h : TipC b st sz T xs c) : ∀ G v, Rel G c v → Rel G (.sl sz xs none) v := by
 rcases h with ⟨rfl, rfl⟩ | ⟨t, rfl, _⟩
 ·exact fun G v h => qb9 h
 ·exact fun G v h => qg8 h
theorem qg6 {n : Nat} {p : PSt} (h : PB n p) (hs : n + 1 < 900000) : PB (n + 1) (kh p).2 := by
 have h1 := h.lines; have h2 := h.items; have h3 := h.block; have h4 := h.fields; have h5 := h.rec0; have h6 := h.rec1
 unfold kh
 split
 ·exact ⟨hs, by simp only; omega, h.linesV, by simp only; omega, by simp only; omega, h.blockV, by simp only; omega, h5, by simp only; omega⟩
 ·split
  ·exact ⟨hs, by simp only; omega, h.linesV, by simp only; omega, by simp only; omega, h.blockV, by simp only; omega, h5, by simp only; omega⟩
  ·split
   ·exact ⟨hs, by simp only; omega, h.linesV, by simp only; omega, by simp only; omega, h.blockV, by simp only; omega, h5, by simp only; omega⟩
   ·exact ⟨hs, by simp, by simp, by simp only; omega, by simp only; omega, h.blockV, by simp; omega, h5, by simp only; omega⟩
theorem qhn {x : Option (Int × Int)} {a n : Int} (h : x = some (a, n)) : errP x = .ifc 103 (.pp [Iv a, .ifc 31 (Iv n)]) := by subst h; rfl
theorem jb (xs : List qb) (tip : Option Nat) (st : List AObj) (hne : xs ≠ []) (hN : xs.length ≤ 900000) (hv : ∀ s ∈ xs, s.length < 1000000) : q7 E 88 [.sl 1 (xs.map fun x => Sv x) tip, Sv [10]] st fun r st' => r = Sv (Lib.join xs [10]) ∧ st' = st := by
 refine qys xs tip [10] st (by omega) ?_
 have h1 := qjj xs hv
 cases xs with
 | nil => exact absurd rfl hne
 | cons x r =>
  have h2 := congrArg List.length (qj6 x r)
  rw [List.length_append] at h2
  simp only [List.length_cons, List.length_nil] at h2 h1 hN
  omega
theorem qj8 {b o : Nat} {p : PSt} {st : List AObj} {c1 c2 c3 c4 : AV} {X : AObj} (P : ParS b o p st c1 c2 c3 c4) : Par b o { p with block := [], fields := [] } ((st.set o X).set o (parO c1 c2 zx zx p)) := by
 have hlt := P.lt
 have hle := P.le
 refine ⟨c1, c2, zx, zx, hlt, by simp; omega, ?_, j6 hlt (j6 hlt P.h1), j6 hlt (j6 hlt P.h2), qcx .., qcx .., nofun⟩
 have : o < st.length := by omega
 simp [this]
theorem jo {b o t : Nat} {p : PSt} {x : wb} {st st' : List AObj} {c1 c2 c3 c4 : AV} (P : ParS b o p st c1 c2 c3 c4) (g1 : st'[t]? = some (.tip (p.items.map zf ++ [zf x]).length 3 152)) (g2 : b ≤ t) (g3 : Fr st st' t) (g4 : c2 = .sl 3 (p.items.map zf) (some t) ∨ st.length ≤ t) :
  Par b o { p with items := p.items ++ [x] } (st'.set o (parO c1 (.sl 3 (p.items.map zf ++ [zf x]) (some t)) c3 c4 p)) := by
 have hlt := P.lt
 have hle := P.le
 have hl := g3.len
 have e : (p.items ++ [x]).map zf = p.items.map zf ++ [zf x] := by simp
 refine ⟨c1, .sl 3 (p.items.map zf ++ [zf x]) (some t), c3, c4, hlt, by simp; omega, ?_, ?_, ?_, ?_, ?_, P.ne⟩
 ·have : o < st'.length := by omega
  simp [this]
 ·exact j6 hlt (qak g3 P.h2 g4 rfl P.h1)
 ·refine j6 hlt ?_
  rw [← e] at g1 ⊢
  exact qgn hlt g1 g2
 ·exact j6 hlt (qak g3 P.h2 g4 rfl P.h3)
 ·exact j6 hlt (qak g3 P.h2 g4 rfl P.h4)
theorem q2k {b o : Nat} {p : PSt} {st : List AObj} {c1 c2 c3 c4 : AV} (P : ParS b o p st c1 c2 c3 c4) (n : Int) : ParS b o { p with records := n } (st.set o (parO c1 c2 c3 c4 { p with records := n })) c1 c2 c3 c4 := by
  have hlt := P.lt
  have hle := P.le
  exact ⟨hlt, by simp; omega, by have : o < st.length := by omega
                                 simp [this], j6 hlt P.h1, j6 hlt P.h2, j6 hlt P.h3, j6 hlt P.h4, P.ne⟩
set_option maxHeartbeats 8000000 in
theorem qxy (b o n : Nat) (p : PSt) (st : List AObj) (h : Par b o p st) (hB : PB n p) (hs : n + 1 < 900000) : q7 E 93 [.bx o 0 0] st fun r st' => r = errP (endP p).1 ∧ ((endP p).1 = none → Par b o (endP p).2 st') ∧ Keep b o st st' := by
 refine q8 Tryz.func93 rfl (Nat.le_of_ble_eq_true rfl) ?_
 rw [List.append_nil]
 repeat' (first
  | apply qm
  | apply qe
  | apply qa
  | apply qi
  | apply qf)
 refine xy Tryz.call136 ((qoo b o p st n h hB).mono ?_)
 rintro _ st1 ⟨rfl, hp, hk⟩
 have hB1 := qg6 hB hs
 cases hfl : (kh p).1 with
 | some e =>
  obtain ⟨a, m⟩ := e
  have he : endP p = (some (a, m), p) := by unfold endP; rw [hfl]
  rw [qhn rfl, he]
  repeat' (first
   | apply qm
   | apply qe
   | apply qa
   | apply qi
   | apply qf
   | (apply qg; exact rfl; first | (apply ze; (first | assumption | omega)) | (apply zd; (first | assumption | omega)) | (apply zc; (first | exact rfl | assumption)) | (apply zb; (first | exact rfl | assumption)) | (apply cd_n <;> intro h) | (apply cd_t; (first | exact rfl | assumption)) | (apply cd_f; (first | exact rfl | assumption)) | (apply cd_d <;> intro h) | (apply cd_s <;> intro h))
   | (apply z8; exact rfl; exact rfl)
   | apply qz)
  exact qo rfl (zm rfl) ⟨rfl, nofun, hk⟩
 | none =>
  have he : endP p = (none, yj (kh p).2) := by unfold endP; rw [hfl]
  rw [he]
  have hp := hp hfl
  generalize (kh p).2 = p1 at hp hB1
  obtain ⟨c1, c2, c3, c4, P⟩ := hp
  obtain ⟨ls, fr, fu, its, bk, fs, rc⟩ := p1
  have hob : st1[o]? = some (.cells 0 148 [c1, Iv fr, Bv fu, c2, c3, c4, Iv rc]) := P.ob
  have hl3 : lenA c3 = some (bk.map fun x => Sv x).length := qg2 P.h3
  have hl4 : lenA c4 = some (fs.map fldA).length := qg2 P.h4
  have hle := P.le
  have hlt := P.lt
  show AOps _ _ _ _ _ _ _
  by_cases hbk : bk = []
  ·have hz : (bk.map fun x => Sv x).length = 0 := by rw [hbk]; rfl
   have hcl : yj ⟨ls, fr, fu, its, bk, fs, rc⟩ = ⟨ls, fr, fu, its, [], [], rc⟩ := if_pos hbk
   repeat' (first
    | apply qm
    | apply qe
    | apply qa
    | apply qi
    | apply qf
    | (apply qw; (iterate 3 exact rfl))
    | (apply qg; exact rfl; first | (apply ze; (first | assumption | omega)) | (apply zd; (first | assumption | omega)) | (apply zc; (first | exact rfl | assumption)) | (apply zb; (first | exact rfl | assumption)) | (apply cd_n <;> intro h) | (apply cd_t; (first | exact rfl | assumption)) | (apply cd_f; (first | exact rfl | assumption)) | (apply cd_d <;> intro h) | (apply cd_s <;> intro h))
    | (apply zr; exact rfl; exact rfl)
    | (apply qr; (iterate 3 exact rfl))
    | (apply zv; exact rfl; exact rfl)
    | apply q6
    | apply qz
    | (apply qc; exact rfl; exact hob; exact rfl; exact rfl)
    | (apply zy; exact rfl; exact hl3; exact rfl; exact rfl)
    | (apply qs; exact rfl; exact rfl; exact hob; (iterate 6 exact rfl))
    | (apply qs; exact rfl; exact rfl; exact zw hob; (iterate 6 exact rfl)))
   refine qo rfl (zm rfl) ⟨rfl, fun _ => ?_, hk.trans (zz.trans zz)⟩
   rw [hcl]
   exact qj8 P
  ·have hz : 0 < (bk.map fun x => Sv x).length := by rw [List.length_map]; exact List.length_pos_iff.2 hbk
   obtain ⟨x0, r0, hxr⟩ : ∃ x r, bk = x :: r := by cases bk with | nil => exact absurd rfl hbk | cons x r => exact ⟨x, r, rfl⟩
   have hjt : Lib.join bk [10] ++ [10] = jd bk := by rw [hxr]; exact qj6 x0 r0
   have hbn : bk.length ≤ n + 1 := hB1.block
   have hbv : ∀ s ∈ bk, s.length < 1000000 := hB1.blockV
   have htl := qjj bk hbv
   have hjl : (Lib.join bk [10]).length ≤ 1000001 * bk.length := by
    have := congrArg List.length hjt
    rw [List.length_append] at this
    omega
   have hin : its.length ≤ n + 1 := hB1.items
   have hr0 : 0 ≤ rc := hB1.rec0
   have hr1 : rc ≤ ((n + 1 : Nat) : Int) := hB1.rec1
   have hil : (its.map zf).length = its.length := by simp
   obtain ⟨t3, rfl⟩ : ∃ t, c3 = .sl 1 (bk.map fun x => Sv x) (some t) := qpi P.h3 (by simpa using hbk)
   by_cases hfs : fs = []
   ·have hz4 : (fs.map fldA).length = 0 := by rw [hfs]; rfl
    have hcl : yj ⟨ls, fr, fu, its, bk, fs, rc⟩ = ⟨ls, fr, fu, its ++ [⟨2, Lib.join bk [10] ++ [10], fs⟩], [], [], rc⟩ := by
     unfold yj
     rw [if_neg hbk, hjt]
     simp [hfs]
    repeat' (first
     | apply qm
     | apply qe
     | apply qa
     | apply qi
     | apply qf
     | (apply qw; (iterate 3 exact rfl))
     | (apply qg; exact rfl; first | (apply ze; (first | assumption | omega)) | (apply zd; (first | assumption | omega)) | (apply zc; (first | exact rfl | assumption)) | (apply zb; (first | exact rfl | assumption)) | (apply cd_n <;> intro h) | (apply cd_t; (first | exact rfl | assumption)) | (apply cd_f; (first | exact rfl | assumption)) | (apply cd_d <;> intro h) | (apply cd_s <;> intro h))
     | (apply zy; (iterate 4 exact rfl))
     | (apply zr; exact rfl; exact rfl)
     | (apply qr; (iterate 3 exact rfl))
     | (apply zv; exact rfl; exact rfl)
     | apply q6
     | (apply qc; exact rfl; exact hob; exact rfl; exact rfl)
     | (apply zy; exact rfl; exact hl4; exact rfl; exact rfl))
    obtain ⟨stX, hsX⟩ : ∃ x, x = st1 := ⟨_, rfl⟩
    obtain ⟨rcX, hrX⟩ : ∃ x, x = rc := ⟨_, rfl⟩
    obtain ⟨KX, hKX⟩ : ∃ x : Int, x = 2 := ⟨_, rfl⟩
    have PX : ParS b o ⟨ls, fr, fu, its, bk, fs, rcX⟩ stX c1 c2 (.sl 1 (bk.map fun x => Sv x) (some t3)) c4 := by rw [hsX, hrX]; exact P
    have hkX : Keep b o st stX := by rw [hsX]; exact hk
    replace hcl : yj ⟨ls, fr, fu, its, bk, fs, rc⟩ = ⟨ls, fr, fu, its ++ [⟨KX, Lib.join bk [10] ++ [10], fs⟩], [], [], rcX⟩ := by rw [hKX, hrX]; exact hcl
    refine qax [(0, .bx o 0 0), (4, Iv KX)] stX [] ⟨rfl, (congrArg Iv hKX).symm, trivial⟩ hsX.symm rfl fun t => ?_
    have hleX := PX.le
    have holX : o < stX.length := by omega
    have hobX : stX[o]? = some (.cells 0 148 [c1, Iv fr, Bv fu, c2, .sl 1 (bk.map fun x => Sv x) (some t3), c4, Iv rcX]) := PX.ob
    refine qe3 (fun s => s.t 0 = .bx o 0 0 ∧ s.df = [] ∧ Par b o ⟨ls, fr, fu, its ++ [⟨KX, Lib.join bk [10] ++ [10], fs⟩], bk, fs, rcX⟩ s.st ∧ Keep b o st s.st) ?_ ?_
    ·refine qca rfl rfl ?_
     (apply qj 0; exact rfl; kernel_rfl; kernel_rfl; kernel_rfl; exact rfl; exact ww)
     (apply qj 1; exact rfl; kernel_rfl; kernel_rfl; kernel_rfl; exact rfl; exact ww)
     (apply qj 2; exact rfl; kernel_rfl; kernel_rfl; kernel_rfl; exact rfl; (apply zh; exact rfl; exact rfl))
     (apply qj 3; exact rfl; kernel_rfl; kernel_rfl; kernel_rfl; exact rfl; (first | (apply qt; (iterate 3 exact rfl)) | (apply qu; (iterate 4 exact rfl))))
     (apply qj 5; exact rfl; kernel_rfl; kernel_rfl; kernel_rfl; exact rfl; exact ww)
     (apply qj 6; exact rfl; kernel_rfl; kernel_rfl; kernel_rfl; exact rfl; exact ww)
     (apply qj 7; exact rfl; kernel_rfl; kernel_rfl; kernel_rfl; exact rfl; (apply zh; exact rfl; exact rfl))
     (apply qj 8; exact rfl; kernel_rfl; kernel_rfl; kernel_rfl; exact rfl; (first | (apply qt; (iterate 3 exact rfl)) | (apply qu; (iterate 4 exact rfl))))
     (apply qj 12; exact rfl; kernel_rfl; kernel_rfl; kernel_rfl; exact rfl; exact ww)
     (apply qj 13; exact rfl; kernel_rfl; kernel_rfl; kernel_rfl; exact rfl; (apply zh; exact rfl; exact rfl))
     (apply qj 14; exact rfl; kernel_rfl; kernel_rfl; kernel_rfl; exact rfl; (first | (apply qt; (iterate 3 exact rfl)) | (apply qu; (iterate 4 exact rfl))))
     refine qp [4, 9, 15] (by kernel_rfl) rfl ⟨⟨_, rfl, ?_⟩, ⟨_, rfl, ?_⟩, ⟨_, rfl, ?_⟩, trivial⟩
     ·(first | (apply qc; exact rfl; exact hobX; exact rfl; exact rfl; apply zo 44 rfl (zu PX.h4)) | (apply qc; exact rfl; exact hobX; exact rfl; exact rfl) | (apply qq; (iterate 5 exact rfl)) | (apply qh; (iterate 5 exact rfl)) | (apply qk; (iterate 3 exact rfl)))
      apply qa
      refine qp [9, 15] (by kernel_rfl) rfl ⟨⟨_, rfl, ?_⟩, ⟨_, rfl, ?_⟩, trivial⟩
      ·(first | (apply qc; exact rfl; exact hobX; exact rfl; exact rfl; apply zo 44 rfl (zu PX.h4)) | (apply qc; exact rfl; exact hobX; exact rfl; exact rfl) | (apply qq; (iterate 5 exact rfl)) | (apply qh; (iterate 5 exact rfl)) | (apply qk; (iterate 3 exact rfl)))
       apply qa
       refine qp [10, 15] (by kernel_rfl) rfl ⟨⟨_, rfl, ?_⟩, ⟨_, rfl, ?_⟩, trivial⟩
       ·(first | (refine qd Tryz.call88 (jb bk _ _ hbk (by omega) hbv) ?_) | (apply q5 (b := b) (xs := its.map zf) (ys := [zf ⟨KX, Lib.join bk [10] ++ [10], fs⟩]) (bytes := 48); exact rfl; exact rfl; exact PX.h2; exact hleX; (iterate 3 exact rfl); exact ⟨⟨_, _, rfl, rfl, rfl, rfl, rfl⟩⟩; exact rfl; (simp [maxLen]; omega); (simp; omega); intro t4 st4 g1 g2 g3 g4; have ho4 := (g3.same o (by omega) holX).trans hobX))
        apply qa
        (apply qj 11; exact rfl; kernel_rfl; kernel_rfl; kernel_rfl; exact rfl; (apply ko; exact rfl; exact rfl; (first | omega | (simp only [List.length_append, List.length_cons, List.length_nil]; omega))))
        refine qp [15] (by kernel_rfl) rfl ⟨⟨_, rfl, ?_⟩, trivial⟩
        (first | (apply qc; exact rfl; exact hobX; exact rfl; exact rfl; apply zo 44 rfl (zu PX.h4)) | (apply qc; exact rfl; exact hobX; exact rfl; exact rfl) | (apply qq; (iterate 5 exact rfl)) | (apply qh; (iterate 5 exact rfl)) | (apply qk; (iterate 3 exact rfl)))
        apply qa
        (apply qj 16; exact rfl; kernel_rfl; kernel_rfl; kernel_rfl; exact rfl; (apply kz; (iterate 3 exact rfl)))
        refine qp [17] (by kernel_rfl) rfl ⟨⟨_, rfl, ?_⟩, trivial⟩
        (apply qv; (iterate 9 exact rfl))
        apply qa
        refine qp [18] (by kernel_rfl) rfl ⟨⟨_, rfl, ?_⟩, trivial⟩
        (first | (refine qd Tryz.call88 (jb bk _ _ hbk (by omega) hbv) ?_) | (apply q5 (b := b) (xs := its.map zf) (ys := [zf ⟨KX, Lib.join bk [10] ++ [10], fs⟩]) (bytes := 48); exact rfl; exact rfl; exact PX.h2; exact hleX; (iterate 3 exact rfl); exact ⟨⟨_, _, rfl, rfl, rfl, rfl, rfl⟩⟩; exact rfl; (simp [maxLen]; omega); (simp; omega); intro t4 st4 g1 g2 g3 g4; have ho4 := (g3.same o (by omega) holX).trans hobX))
        apply qa
        (apply qj 19; exact rfl; kernel_rfl; kernel_rfl; kernel_rfl; exact rfl; (apply zh; exact rfl; exact rfl))
        (apply qj 20; exact rfl; kernel_rfl; kernel_rfl; kernel_rfl; exact rfl; (first | (apply qt; (iterate 3 exact rfl)) | (apply qu; (iterate 4 exact rfl))))
        refine qp [21] (by kernel_rfl) rfl ⟨⟨_, rfl, ?_⟩, trivial⟩
        (first | (apply qs; exact rfl; exact rfl; exact ho4; (iterate 6 exact rfl)) | (apply qx; (iterate 11 exact rfl)) | (apply qn; (iterate 11 exact rfl)))
        apply qa
        refine jh (by kernel_rfl) ?_
        exact ⟨rfl, rfl, jo PX g1 g2 g3 g4, (hkX.trans (jm g3 hleX g2 PX.h2 g4)).trans zz⟩
       ·(first | (apply qc; exact rfl; exact hobX; exact rfl; exact rfl; apply zo 44 rfl (zu PX.h4)) | (apply qc; exact rfl; exact hobX; exact rfl; exact rfl) | (apply qq; (iterate 5 exact rfl)) | (apply qh; (iterate 5 exact rfl)) | (apply qk; (iterate 3 exact rfl)))
        apply qa
        refine qp [10] (by kernel_rfl) rfl ⟨⟨_, rfl, ?_⟩, trivial⟩
        (first | (refine qd Tryz.call88 (jb bk _ _ hbk (by omega) hbv) ?_) | (apply q5 (b := b) (xs := its.map zf) (ys := [zf ⟨KX, Lib.join bk [10] ++ [10], fs⟩]) (bytes := 48); exact rfl; exact rfl; exact PX.h2; exact hleX; (iterate 3 exact rfl); exact ⟨⟨_, _, rfl, rfl, rfl, rfl, rfl⟩⟩; exact rfl; (simp [maxLen]; omega); (simp; omega); intro t4 st4 g1 g2 g3 g4; have ho4 := (g3.same o (by omega) holX).trans hobX))
        apply qa
        (apply qj 11; exact rfl; kernel_rfl; kernel_rfl; kernel_rfl; exact rfl; (apply ko; exact rfl; exact rfl; (first | omega | (simp only [List.length_append, List.length_cons, List.length_nil]; omega))))
        (apply qj 16; exact rfl; kernel_rfl; kernel_rfl; kernel_rfl; exact rfl; (apply kz; (iterate 3 exact rfl)))
        refine qp [17] (by kernel_rfl) rfl ⟨⟨_, rfl, ?_⟩, trivial⟩
        (apply qv; (iterate 9 exact rfl))
        apply qa
        refine qp [18] (by kernel_rfl) rfl ⟨⟨_, rfl, ?_⟩, trivial⟩
        (first | (refine qd Tryz.call88 (jb bk _ _ hbk (by omega) hbv) ?_) | (apply q5 (b := b) (xs := its.map zf) (ys := [zf ⟨KX, Lib.join bk [10] ++ [10], fs⟩]) (bytes := 48); exact rfl; exact rfl; exact PX.h2; exact hleX; (iterate 3 exact rfl); exact ⟨⟨_, _, rfl, rfl, rfl, rfl, rfl⟩⟩; exact rfl; (simp [maxLen]; omega); (simp; omega); intro t4 st4 g1 g2 g3 g4; have ho4 := (g3.same o (by omega) holX).trans hobX))
        apply qa
        (apply qj 19; exact rfl; kernel_rfl; kernel_rfl; kernel_rfl; exact rfl; (apply zh; exact rfl; exact rfl))
        (apply qj 20; exact rfl; kernel_rfl; kernel_rfl; kernel_rfl; exact rfl; (first | (apply qt; (iterate 3 exact rfl)) | (apply qu; (iterate 4 exact rfl))))
        refine qp [21] (by kernel_rfl) rfl ⟨⟨_, rfl, ?_⟩, trivial⟩
        (first | (apply qs; exact rfl; exact rfl; exact ho4; (iterate 6 exact rfl)) | (apply qx; (iterate 11 exact rfl)) | (apply qn; (iterate 11 exact rfl)))
        apply qa
        refine jh (by kernel_rfl) ?_
        exact ⟨rfl, rfl, jo PX g1 g2 g3 g4, (hkX.trans (jm g3 hleX g2 PX.h2 g4)).trans zz⟩
      ·(first | (apply qc; exact rfl; exact hobX; exact rfl; exact rfl; apply zo 44 rfl (zu PX.h4)) | (apply qc; exact rfl; exact hobX; exact rfl; exact rfl) | (apply qq; (iterate 5 exact rfl)) | (apply qh; (iterate 5 exact rfl)) | (apply qk; (iterate 3 exact rfl)))
       apply qa
       refine qp [9] (by kernel_rfl) rfl ⟨⟨_, rfl, ?_⟩, trivial⟩
       (first | (apply qc; exact rfl; exact hobX; exact rfl; exact rfl; apply zo 44 rfl (zu PX.h4)) | (apply qc; exact rfl; exact hobX; exact rfl; exact rfl) | (apply qq; (iterate 5 exact rfl)) | (apply qh; (iterate 5 exact rfl)) | (apply qk; (iterate 3 exact rfl)))
       apply qa
       refine qp [10] (by kernel_rfl) rfl ⟨⟨_, rfl, ?_⟩, trivial⟩
       (first | (refine qd Tryz.call88 (jb bk _ _ hbk (by omega) hbv) ?_) | (apply q5 (b := b) (xs := its.map zf) (ys := [zf ⟨KX, Lib.join bk [10] ++ [10], fs⟩]) (bytes := 48); exact rfl; exact rfl; exact PX.h2; exact hleX; (iterate 3 exact rfl); exact ⟨⟨_, _, rfl, rfl, rfl, rfl, rfl⟩⟩; exact rfl; (simp [maxLen]; omega); (simp; omega); intro t4 st4 g1 g2 g3 g4; have ho4 := (g3.same o (by omega) holX).trans hobX))
       apply qa
       (apply qj 11; exact rfl; kernel_rfl; kernel_rfl; kernel_rfl; exact rfl; (apply ko; exact rfl; exact rfl; (first | omega | (simp only [List.length_append, List.length_cons, List.length_nil]; omega))))
       (apply qj 16; exact rfl; kernel_rfl; kernel_rfl; kernel_rfl; exact rfl; (apply kz; (iterate 3 exact rfl)))
       refine qp [17] (by kernel_rfl) rfl ⟨⟨_, rfl, ?_⟩, trivial⟩
       (apply qv; (iterate 9 exact rfl))
       apply qa
       refine qp [18] (by kernel_rfl) rfl ⟨⟨_, rfl, ?_⟩, trivial⟩
       (first | (refine qd Tryz.call88 (jb bk _ _ hbk (by omega) hbv) ?_) | (apply q5 (b := b) (xs := its.map zf) (ys := [zf ⟨KX, Lib.join bk [10] ++ [10], fs⟩]) (bytes := 48); exact rfl; exact rfl; exact PX.h2; exact hleX; (iterate 3 exact rfl); exact ⟨⟨_, _, rfl, rfl, rfl, rfl, rfl⟩⟩; exact rfl; (simp [maxLen]; omega); (simp; omega); intro t4 st4 g1 g2 g3 g4; have ho4 := (g3.same o (by omega) holX).trans hobX))
       apply qa
       (apply qj 19; exact rfl; kernel_rfl; kernel_rfl; kernel_rfl; exact rfl; (apply zh; exact rfl; exact rfl))
       (apply qj 20; exact rfl; kernel_rfl; kernel_rfl; kernel_rfl; exact rfl; (first | (apply qt; (iterate 3 exact rfl)) | (apply qu; (iterate 4 exact rfl))))
       refine qp [21] (by kernel_rfl) rfl ⟨⟨_, rfl, ?_⟩, trivial⟩
       (first | (apply qs; exact rfl; exact rfl; exact ho4; (iterate 6 exact rfl)) | (apply qx; (iterate 11 exact rfl)) | (apply qn; (iterate 11 exact rfl)))
       apply qa
       refine jh (by kernel_rfl) ?_
       exact ⟨rfl, rfl, jo PX g1 g2 g3 g4, (hkX.trans (jm g3 hleX g2 PX.h2 g4)).trans zz⟩
     ·(first | (apply qc; exact rfl; exact hobX; exact rfl; exact rfl; apply zo 44 rfl (zu PX.h4)) | (apply qc; exact rfl; exact hobX; exact rfl; exact rfl) | (apply qq; (iterate 5 exact rfl)) | (apply qh; (iterate 5 exact rfl)) | (apply qk; (iterate 3 exact rfl)))
      apply qa
      refine qp [4, 10, 15] (by kernel_rfl) rfl ⟨⟨_, rfl, ?_⟩, ⟨_, rfl, ?_⟩, ⟨_, rfl, ?_⟩, trivial⟩
      ·(first | (apply qc; exact rfl; exact hobX; exact rfl; exact rfl; apply zo 44 rfl (zu PX.h4)) | (apply qc; exact rfl; exact hobX; exact rfl; exact rfl) | (apply qq; (iterate 5 exact rfl)) | (apply qh; (iterate 5 exact rfl)) | (apply qk; (iterate 3 exact rfl)))
       apply qa
       refine qp [10, 15] (by kernel_rfl) rfl ⟨⟨_, rfl, ?_⟩, ⟨_, rfl, ?_⟩, trivial⟩
       ·(first | (refine qd Tryz.call88 (jb bk _ _ hbk (by omega) hbv) ?_) | (apply q5 (b := b) (xs := its.map zf) (ys := [zf ⟨KX, Lib.join bk [10] ++ [10], fs⟩]) (bytes := 48); exact rfl; exact rfl; exact PX.h2; exact hleX; (iterate 3 exact rfl); exact ⟨⟨_, _, rfl, rfl, rfl, rfl, rfl⟩⟩; exact rfl; (simp [maxLen]; omega); (simp; omega); intro t4 st4 g1 g2 g3 g4; have ho4 := (g3.same o (by omega) holX).trans hobX))
        apply qa
        (apply qj 11; exact rfl; kernel_rfl; kernel_rfl; kernel_rfl; exact rfl; (apply ko; exact rfl; exact rfl; (first | omega | (simp only [List.length_append, List.length_cons, List.length_nil]; omega))))
        refine qp [15] (by kernel_rfl) rfl ⟨⟨_, rfl, ?_⟩, trivial⟩
        (first | (apply qc; exact rfl; exact hobX; exact rfl; exact rfl; apply zo 44 rfl (zu PX.h4)) | (apply qc; exact rfl; exact hobX; exact rfl; exact rfl) | (apply qq; (iterate 5 exact rfl)) | (apply qh; (iterate 5 exact rfl)) | (apply qk; (iterate 3 exact rfl)))
        apply qa
        (apply qj 16; exact rfl; kernel_rfl; kernel_rfl; kernel_rfl; exact rfl; (apply kz; (iterate 3 exact rfl)))
        refine qp [17] (by kernel_rfl) rfl ⟨⟨_, rfl, ?_⟩, trivial⟩
        (apply qv; (iterate 9 exact rfl))
        apply qa
        refine qp [18] (by kernel_rfl) rfl ⟨⟨_, rfl, ?_⟩, trivial⟩
        (first | (refine qd Tryz.call88 (jb bk _ _ hbk (by omega) hbv) ?_) | (apply q5 (b := b) (xs := its.map zf) (ys := [zf ⟨KX, Lib.join bk [10] ++ [10], fs⟩]) (bytes := 48); exact rfl; exact rfl; exact PX.h2; exact hleX; (iterate 3 exact rfl); exact ⟨⟨_, _, rfl, rfl, rfl, rfl, rfl⟩⟩; exact rfl; (simp [maxLen]; omega); (simp; omega); intro t4 st4 g1 g2 g3 g4; have ho4 := (g3.same o (by omega) holX).trans hobX))
        apply qa
        (apply qj 19; exact rfl; kernel_rfl; kernel_rfl; kernel_rfl; exact rfl; (apply zh; exact rfl; exact rfl))
        (apply qj 20; exact rfl; kernel_rfl; kernel_rfl; kernel_rfl; exact rfl; (first | (apply qt; (iterate 3 exact rfl)) | (apply qu; (iterate 4 exact rfl))))
        refine qp [21] (by kernel_rfl) rfl ⟨⟨_, rfl, ?_⟩, trivial⟩
        (first | (apply qs; exact rfl; exact rfl; exact ho4; (iterate 6 exact rfl)) | (apply qx; (iterate 11 exact rfl)) | (apply qn; (iterate 11 exact rfl)))
        apply qa
        refine jh (by kernel_rfl) ?_
        exact ⟨rfl, rfl, jo PX g1 g2 g3 g4, (hkX.trans (jm g3 hleX g2 PX.h2 g4)).trans zz⟩
       ·(first | (apply qc; exact rfl; exact hobX; exact rfl; exact rfl; apply zo 44 rfl (zu PX.h4)) | (apply qc; exact rfl; exact hobX; exact rfl; exact rfl) | (apply qq; (iterate 5 exact rfl)) | (apply qh; (iterate 5 exact rfl)) | (apply qk; (iterate 3 exact rfl)))
        apply qa
        refine qp [10] (by kernel_rfl) rfl ⟨⟨_, rfl, ?_⟩, trivial⟩
        (first | (refine qd Tryz.call88 (jb bk _ _ hbk (by omega) hbv) ?_) | (apply q5 (b := b) (xs := its.map zf) (ys := [zf ⟨KX, Lib.join bk [10] ++ [10], fs⟩]) (bytes := 48); exact rfl; exact rfl; exact PX.h2; exact hleX; (iterate 3 exact rfl); exact ⟨⟨_, _, rfl, rfl, rfl, rfl, rfl⟩⟩; exact rfl; (simp [maxLen]; omega); (simp; omega); intro t4 st4 g1 g2 g3 g4; have ho4 := (g3.same o (by omega) holX).trans hobX))
        apply qa
        (apply qj 11; exact rfl; kernel_rfl; kernel_rfl; kernel_rfl; exact rfl; (apply ko; exact rfl; exact rfl; (first | omega | (simp only [List.length_append, List.length_cons, List.length_nil]; omega))))
        (apply qj 16; exact rfl; kernel_rfl; kernel_rfl; kernel_rfl; exact rfl; (apply kz; (iterate 3 exact rfl)))
        refine qp [17] (by kernel_rfl) rfl ⟨⟨_, rfl, ?_⟩, trivial⟩
        (apply qv; (iterate 9 exact rfl))
        apply qa
        refine qp [18] (by kernel_rfl) rfl ⟨⟨_, rfl, ?_⟩, trivial⟩
        (first | (refine qd Tryz.call88 (jb bk _ _ hbk (by omega) hbv) ?_) | (apply q5 (b := b) (xs := its.map zf) (ys := [zf ⟨KX, Lib.join bk [10] ++ [10], fs⟩]) (bytes := 48); exact rfl; exact rfl; exact PX.h2; exact hleX; (iterate 3 exact rfl); exact ⟨⟨_, _, rfl, rfl, rfl, rfl, rfl⟩⟩; exact rfl; (simp [maxLen]; omega); (simp; omega); intro t4 st4 g1 g2 g3 g4; have ho4 := (g3.same o (by omega) holX).trans hobX))
        apply qa
        (apply qj 19; exact rfl; kernel_rfl; kernel_rfl; kernel_rfl; exact rfl; (apply zh; exact rfl; exact rfl))
        (apply qj 20; exact rfl; kernel_rfl; kernel_rfl; kernel_rfl; exact rfl; (first | (apply qt; (iterate 3 exact rfl)) | (apply qu; (iterate 4 exact rfl))))
        refine qp [21] (by kernel_rfl) rfl ⟨⟨_, rfl, ?_⟩, trivial⟩
        (first | (apply qs; exact rfl; exact rfl; exact ho4; (iterate 6 exact rfl)) | (apply qx; (iterate 11 exact rfl)) | (apply qn; (iterate 11 exact rfl)))
        apply qa
        refine jh (by kernel_rfl) ?_
        exact ⟨rfl, rfl, jo PX g1 g2 g3 g4, (hkX.trans (jm g3 hleX g2 PX.h2 g4)).trans zz⟩
      ·(first | (refine qd Tryz.call88 (jb bk _ _ hbk (by omega) hbv) ?_) | (apply q5 (b := b) (xs := its.map zf) (ys := [zf ⟨KX, Lib.join bk [10] ++ [10], fs⟩]) (bytes := 48); exact rfl; exact rfl; exact PX.h2; exact hleX; (iterate 3 exact rfl); exact ⟨⟨_, _, rfl, rfl, rfl, rfl, rfl⟩⟩; exact rfl; (simp [maxLen]; omega); (simp; omega); intro t4 st4 g1 g2 g3 g4; have ho4 := (g3.same o (by omega) holX).trans hobX))
       apply qa
       (apply qj 11; exact rfl; kernel_rfl; kernel_rfl; kernel_rfl; exact rfl; (apply ko; exact rfl; exact rfl; (first | omega | (simp only [List.length_append, List.length_cons, List.length_nil]; omega))))
       refine qp [4, 15] (by kernel_rfl) rfl ⟨⟨_, rfl, ?_⟩, ⟨_, rfl, ?_⟩, trivial⟩
       ·(first | (apply qc; exact rfl; exact hobX; exact rfl; exact rfl; apply zo 44 rfl (zu PX.h4)) | (apply qc; exact rfl; exact hobX; exact rfl; exact rfl) | (apply qq; (iterate 5 exact rfl)) | (apply qh; (iterate 5 exact rfl)) | (apply qk; (iterate 3 exact rfl)))
        apply qa
        refine qp [15] (by kernel_rfl) rfl ⟨⟨_, rfl, ?_⟩, trivial⟩
        (first | (apply qc; exact rfl; exact hobX; exact rfl; exact rfl; apply zo 44 rfl (zu PX.h4)) | (apply qc; exact rfl; exact hobX; exact rfl; exact rfl) | (apply qq; (iterate 5 exact rfl)) | (apply qh; (iterate 5 exact rfl)) | (apply qk; (iterate 3 exact rfl)))
        apply qa
        (apply qj 16; exact rfl; kernel_rfl; kernel_rfl; kernel_rfl; exact rfl; (apply kz; (iterate 3 exact rfl)))
        refine qp [17] (by kernel_rfl) rfl ⟨⟨_, rfl, ?_⟩, trivial⟩
        (apply qv; (iterate 9 exact rfl))
        apply qa
        refine qp [18] (by kernel_rfl) rfl ⟨⟨_, rfl, ?_⟩, trivial⟩
        (first | (refine qd Tryz.call88 (jb bk _ _ hbk (by omega) hbv) ?_) | (apply q5 (b := b) (xs := its.map zf) (ys := [zf ⟨KX, Lib.join bk [10] ++ [10], fs⟩]) (bytes := 48); exact rfl; exact rfl; exact PX.h2; exact hleX; (iterate 3 exact rfl); exact ⟨⟨_, _, rfl, rfl, rfl, rfl, rfl⟩⟩; exact rfl; (simp [maxLen]; omega); (simp; omega); intro t4 st4 g1 g2 g3 g4; have ho4 := (g3.same o (by omega) holX).trans hobX))
        apply qa
        (apply qj 19; exact rfl; kernel_rfl; kernel_rfl; kernel_rfl; exact rfl; (apply zh; exact rfl; exact rfl))
        (apply qj 20; exact rfl; kernel_rfl; kernel_rfl; kernel_rfl; exact rfl; (first | (apply qt; (iterate 3 exact rfl)) | (apply qu; (iterate 4 exact rfl))))
        refine qp [21] (by kernel_rfl) rfl ⟨⟨_, rfl, ?_⟩, trivial⟩
        (first | (apply qs; exact rfl; exact rfl; exact ho4; (iterate 6 exact rfl)) | (apply qx; (iterate 11 exact rfl)) | (apply qn; (iterate 11 exact rfl)))
        apply qa
        refine jh (by kernel_rfl) ?_
        exact ⟨rfl, rfl, jo PX g1 g2 g3 g4, (hkX.trans (jm g3 hleX g2 PX.h2 g4)).trans zz⟩
       ·(first | (apply qc; exact rfl; exact hobX; exact rfl; exact rfl; apply zo 44 rfl (zu PX.h4)) | (apply qc; exact rfl; exact hobX; exact rfl; exact rfl) | (apply qq; (iterate 5 exact rfl)) | (apply qh; (iterate 5 exact rfl)) | (apply qk; (iterate 3 exact rfl)))
        apply qa
        (apply qj 16; exact rfl; kernel_rfl; kernel_rfl; kernel_rfl; exact rfl; (apply kz; (iterate 3 exact rfl)))
        refine qp [4, 17] (by kernel_rfl) rfl ⟨⟨_, rfl, ?_⟩, ⟨_, rfl, ?_⟩, trivial⟩
        ·(first | (apply qc; exact rfl; exact hobX; exact rfl; exact rfl; apply zo 44 rfl (zu PX.h4)) | (apply qc; exact rfl; exact hobX; exact rfl; exact rfl) | (apply qq; (iterate 5 exact rfl)) | (apply qh; (iterate 5 exact rfl)) | (apply qk; (iterate 3 exact rfl)))
         apply qa
         refine qp [17] (by kernel_rfl) rfl ⟨⟨_, rfl, ?_⟩, trivial⟩
         (apply qv; (iterate 9 exact rfl))
         apply qa
         refine qp [18] (by kernel_rfl) rfl ⟨⟨_, rfl, ?_⟩, trivial⟩
         (first | (refine qd Tryz.call88 (jb bk _ _ hbk (by omega) hbv) ?_) | (apply q5 (b := b) (xs := its.map zf) (ys := [zf ⟨KX, Lib.join bk [10] ++ [10], fs⟩]) (bytes := 48); exact rfl; exact rfl; exact PX.h2; exact hleX; (iterate 3 exact rfl); exact ⟨⟨_, _, rfl, rfl, rfl, rfl, rfl⟩⟩; exact rfl; (simp [maxLen]; omega); (simp; omega); intro t4 st4 g1 g2 g3 g4; have ho4 := (g3.same o (by omega) holX).trans hobX))
         apply qa
         (apply qj 19; exact rfl; kernel_rfl; kernel_rfl; kernel_rfl; exact rfl; (apply zh; exact rfl; exact rfl))
         (apply qj 20; exact rfl; kernel_rfl; kernel_rfl; kernel_rfl; exact rfl; (first | (apply qt; (iterate 3 exact rfl)) | (apply qu; (iterate 4 exact rfl))))
         refine qp [21] (by kernel_rfl) rfl ⟨⟨_, rfl, ?_⟩, trivial⟩
         (first | (apply qs; exact rfl; exact rfl; exact ho4; (iterate 6 exact rfl)) | (apply qx; (iterate 11 exact rfl)) | (apply qn; (iterate 11 exact rfl)))
         apply qa
         refine jh (by kernel_rfl) ?_
         exact ⟨rfl, rfl, jo PX g1 g2 g3 g4, (hkX.trans (jm g3 hleX g2 PX.h2 g4)).trans zz⟩
        ·(apply qv; (iterate 9 exact rfl))
         apply qa
         refine qp [4] (by kernel_rfl) rfl ⟨⟨_, rfl, ?_⟩, trivial⟩
         (first | (apply qc; exact rfl; exact hobX; exact rfl; exact rfl; apply zo 44 rfl (zu PX.h4)) | (apply qc; exact rfl; exact hobX; exact rfl; exact rfl) | (apply qq; (iterate 5 exact rfl)) | (apply qh; (iterate 5 exact rfl)) | (apply qk; (iterate 3 exact rfl)))
         apply qa
         refine qp [18] (by kernel_rfl) rfl ⟨⟨_, rfl, ?_⟩, trivial⟩
         (first | (refine qd Tryz.call88 (jb bk _ _ hbk (by omega) hbv) ?_) | (apply q5 (b := b) (xs := its.map zf) (ys := [zf ⟨KX, Lib.join bk [10] ++ [10], fs⟩]) (bytes := 48); exact rfl; exact rfl; exact PX.h2; exact hleX; (iterate 3 exact rfl); exact ⟨⟨_, _, rfl, rfl, rfl, rfl, rfl⟩⟩; exact rfl; (simp [maxLen]; omega); (simp; omega); intro t4 st4 g1 g2 g3 g4; have ho4 := (g3.same o (by omega) holX).trans hobX))
         apply qa
         (apply qj 19; exact rfl; kernel_rfl; kernel_rfl; kernel_rfl; exact rfl; (apply zh; exact rfl; exact rfl))
         (apply qj 20; exact rfl; kernel_rfl; kernel_rfl; kernel_rfl; exact rfl; (first | (apply qt; (iterate 3 exact rfl)) | (apply qu; (iterate 4 exact rfl))))
         refine qp [21] (by kernel_rfl) rfl ⟨⟨_, rfl, ?_⟩, trivial⟩
         (first | (apply qs; exact rfl; exact rfl; exact ho4; (iterate 6 exact rfl)) | (apply qx; (iterate 11 exact rfl)) | (apply qn; (iterate 11 exact rfl)))
         apply qa
         refine jh (by kernel_rfl) ?_
         exact ⟨rfl, rfl, jo PX g1 g2 g3 g4, (hkX.trans (jm g3 hleX g2 PX.h2 g4)).trans zz⟩
      ·(first | (apply qc; exact rfl; exact hobX; exact rfl; exact rfl; apply zo 44 rfl (zu PX.h4)) | (apply qc; exact rfl; exact hobX; exact rfl; exact rfl) | (apply qq; (iterate 5 exact rfl)) | (apply qh; (iterate 5 exact rfl)) | (apply qk; (iterate 3 exact rfl)))
       apply qa
       refine qp [4, 10] (by kernel_rfl) rfl ⟨⟨_, rfl, ?_⟩, ⟨_, rfl, ?_⟩, trivial⟩
       ·(first | (apply qc; exact rfl; exact hobX; exact rfl; exact rfl; apply zo 44 rfl (zu PX.h4)) | (apply qc; exact rfl; exact hobX; exact rfl; exact rfl) | (apply qq; (iterate 5 exact rfl)) | (apply qh; (iterate 5 exact rfl)) | (apply qk; (iterate 3 exact rfl)))
        apply qa
        refine qp [10] (by kernel_rfl) rfl ⟨⟨_, rfl, ?_⟩, trivial⟩
        (first | (refine qd Tryz.call88 (jb bk _ _ hbk (by omega) hbv) ?_) | (apply q5 (b := b) (xs := its.map zf) (ys := [zf ⟨KX, Lib.join bk [10] ++ [10], fs⟩]) (bytes := 48); exact rfl; exact rfl; exact PX.h2; exact hleX; (iterate 3 exact rfl); exact ⟨⟨_, _, rfl, rfl, rfl, rfl, rfl⟩⟩; exact rfl; (simp [maxLen]; omega); (simp; omega); intro t4 st4 g1 g2 g3 g4; have ho4 := (g3.same o (by omega) holX).trans hobX))
        apply qa
        (apply qj 11; exact rfl; kernel_rfl; kernel_rfl; kernel_rfl; exact rfl; (apply ko; exact rfl; exact rfl; (first | omega | (simp only [List.length_append, List.length_cons, List.length_nil]; omega))))
        (apply qj 16; exact rfl; kernel_rfl; kernel_rfl; kernel_rfl; exact rfl; (apply kz; (iterate 3 exact rfl)))
        refine qp [17] (by kernel_rfl) rfl ⟨⟨_, rfl, ?_⟩, trivial⟩
        (apply qv; (iterate 9 exact rfl))
        apply qa
        refine qp [18] (by kernel_rfl) rfl ⟨⟨_, rfl, ?_⟩, trivial⟩
        (first | (refine qd Tryz.call88 (jb bk _ _ hbk (by omega) hbv) ?_) | (apply q5 (b := b) (xs := its.map zf) (ys := [zf ⟨KX, Lib.join bk [10] ++ [10], fs⟩]) (bytes := 48); exact rfl; exact rfl; exact PX.h2; exact hleX; (iterate 3 exact rfl); exact ⟨⟨_, _, rfl, rfl, rfl, rfl, rfl⟩⟩; exact rfl; (simp [maxLen]; omega); (simp; omega); intro t4 st4 g1 g2 g3 g4; have ho4 := (g3.same o (by omega) holX).trans hobX))
        apply qa
        (apply qj 19; exact rfl; kernel_rfl; kernel_rfl; kernel_rfl; exact rfl; (apply zh; exact rfl; exact rfl))
        (apply qj 20; exact rfl; kernel_rfl; kernel_rfl; kernel_rfl; exact rfl; (first | (apply qt; (iterate 3 exact rfl)) | (apply qu; (iterate 4 exact rfl))))
        refine qp [21] (by kernel_rfl) rfl ⟨⟨_, rfl, ?_⟩, trivial⟩
        (first | (apply qs; exact rfl; exact rfl; exact ho4; (iterate 6 exact rfl)) | (apply qx; (iterate 11 exact rfl)) | (apply qn; (iterate 11 exact rfl)))
        apply qa
        refine jh (by kernel_rfl) ?_
        exact ⟨rfl, rfl, jo PX g1 g2 g3 g4, (hkX.trans (jm g3 hleX g2 PX.h2 g4)).trans zz⟩
       ·(first | (refine qd Tryz.call88 (jb bk _ _ hbk (by omega) hbv) ?_) | (apply q5 (b := b) (xs := its.map zf) (ys := [zf ⟨KX, Lib.join bk [10] ++ [10], fs⟩]) (bytes := 48); exact rfl; exact rfl; exact PX.h2; exact hleX; (iterate 3 exact rfl); exact ⟨⟨_, _, rfl, rfl, rfl, rfl, rfl⟩⟩; exact rfl; (simp [maxLen]; omega); (simp; omega); intro t4 st4 g1 g2 g3 g4; have ho4 := (g3.same o (by omega) holX).trans hobX))
        apply qa
        (apply qj 11; exact rfl; kernel_rfl; kernel_rfl; kernel_rfl; exact rfl; (apply ko; exact rfl; exact rfl; (first | omega | (simp only [List.length_append, List.length_cons, List.length_nil]; omega))))
        (apply qj 16; exact rfl; kernel_rfl; kernel_rfl; kernel_rfl; exact rfl; (apply kz; (iterate 3 exact rfl)))
        refine qp [4, 17] (by kernel_rfl) rfl ⟨⟨_, rfl, ?_⟩, ⟨_, rfl, ?_⟩, trivial⟩
        ·(first | (apply qc; exact rfl; exact hobX; exact rfl; exact rfl; apply zo 44 rfl (zu PX.h4)) | (apply qc; exact rfl; exact hobX; exact rfl; exact rfl) | (apply qq; (iterate 5 exact rfl)) | (apply qh; (iterate 5 exact rfl)) | (apply qk; (iterate 3 exact rfl)))
         apply qa
         refine qp [17] (by kernel_rfl) rfl ⟨⟨_, rfl, ?_⟩, trivial⟩
         (apply qv; (iterate 9 exact rfl))
         apply qa
         refine qp [18] (by kernel_rfl) rfl ⟨⟨_, rfl, ?_⟩, trivial⟩
         (first | (refine qd Tryz.call88 (jb bk _ _ hbk (by omega) hbv) ?_) | (apply q5 (b := b) (xs := its.map zf) (ys := [zf ⟨KX, Lib.join bk [10] ++ [10], fs⟩]) (bytes := 48); exact rfl; exact rfl; exact PX.h2; exact hleX; (iterate 3 exact rfl); exact ⟨⟨_, _, rfl, rfl, rfl, rfl, rfl⟩⟩; exact rfl; (simp [maxLen]; omega); (simp; omega); intro t4 st4 g1 g2 g3 g4; have ho4 := (g3.same o (by omega) holX).trans hobX))
         apply qa
         (apply qj 19; exact rfl; kernel_rfl; kernel_rfl; kernel_rfl; exact rfl; (apply zh; exact rfl; exact rfl))
         (apply qj 20; exact rfl; kernel_rfl; kernel_rfl; kernel_rfl; exact rfl; (first | (apply qt; (iterate 3 exact rfl)) | (apply qu; (iterate 4 exact rfl))))
         refine qp [21] (by kernel_rfl) rfl ⟨⟨_, rfl, ?_⟩, trivial⟩
         (first | (apply qs; exact rfl; exact rfl; exact ho4; (iterate 6 exact rfl)) | (apply qx; (iterate 11 exact rfl)) | (apply qn; (iterate 11 exact rfl)))
         apply qa
         refine jh (by kernel_rfl) ?_
         exact ⟨rfl, rfl, jo PX g1 g2 g3 g4, (hkX.trans (jm g3 hleX g2 PX.h2 g4)).trans zz⟩
        ·(apply qv; (iterate 9 exact rfl))
         apply qa
         refine qp [4] (by kernel_rfl) rfl ⟨⟨_, rfl, ?_⟩, trivial⟩
         (first | (apply qc; exact rfl; exact hobX; exact rfl; exact rfl; apply zo 44 rfl (zu PX.h4)) | (apply qc; exact rfl; exact hobX; exact rfl; exact rfl) | (apply qq; (iterate 5 exact rfl)) | (apply qh; (iterate 5 exact rfl)) | (apply qk; (iterate 3 exact rfl)))
         apply qa
         refine qp [18] (by kernel_rfl) rfl ⟨⟨_, rfl, ?_⟩, trivial⟩
         (first | (refine qd Tryz.call88 (jb bk _ _ hbk (by omega) hbv) ?_) | (apply q5 (b := b) (xs := its.map zf) (ys := [zf ⟨KX, Lib.join bk [10] ++ [10], fs⟩]) (bytes := 48); exact rfl; exact rfl; exact PX.h2; exact hleX; (iterate 3 exact rfl); exact ⟨⟨_, _, rfl, rfl, rfl, rfl, rfl⟩⟩; exact rfl; (simp [maxLen]; omega); (simp; omega); intro t4 st4 g1 g2 g3 g4; have ho4 := (g3.same o (by omega) holX).trans hobX))
         apply qa
         (apply qj 19; exact rfl; kernel_rfl; kernel_rfl; kernel_rfl; exact rfl; (apply zh; exact rfl; exact rfl))
         (apply qj 20; exact rfl; kernel_rfl; kernel_rfl; kernel_rfl; exact rfl; (first | (apply qt; (iterate 3 exact rfl)) | (apply qu; (iterate 4 exact rfl))))
         refine qp [21] (by kernel_rfl) rfl ⟨⟨_, rfl, ?_⟩, trivial⟩
         (first | (apply qs; exact rfl; exact rfl; exact ho4; (iterate 6 exact rfl)) | (apply qx; (iterate 11 exact rfl)) | (apply qn; (iterate 11 exact rfl)))
         apply qa
         refine jh (by kernel_rfl) ?_
         exact ⟨rfl, rfl, jo PX g1 g2 g3 g4, (hkX.trans (jm g3 hleX g2 PX.h2 g4)).trans zz⟩
     ·(first | (apply qc; exact rfl; exact hobX; exact rfl; exact rfl; apply zo 44 rfl (zu PX.h4)) | (apply qc; exact rfl; exact hobX; exact rfl; exact rfl) | (apply qq; (iterate 5 exact rfl)) | (apply qh; (iterate 5 exact rfl)) | (apply qk; (iterate 3 exact rfl)))
      apply qa
      refine qp [4, 9] (by kernel_rfl) rfl ⟨⟨_, rfl, ?_⟩, ⟨_, rfl, ?_⟩, trivial⟩
      ·(first | (apply qc; exact rfl; exact hobX; exact rfl; exact rfl; apply zo 44 rfl (zu PX.h4)) | (apply qc; exact rfl; exact hobX; exact rfl; exact rfl) | (apply qq; (iterate 5 exact rfl)) | (apply qh; (iterate 5 exact rfl)) | (apply qk; (iterate 3 exact rfl)))
       apply qa
       refine qp [9] (by kernel_rfl) rfl ⟨⟨_, rfl, ?_⟩, trivial⟩
       (first | (apply qc; exact rfl; exact hobX; exact rfl; exact rfl; apply zo 44 rfl (zu PX.h4)) | (apply qc; exact rfl; exact hobX; exact rfl; exact rfl) | (apply qq; (iterate 5 exact rfl)) | (apply qh; (iterate 5 exact rfl)) | (apply qk; (iterate 3 exact rfl)))
       apply qa
       refine qp [10] (by kernel_rfl) rfl ⟨⟨_, rfl, ?_⟩, trivial⟩
       (first | (refine qd Tryz.call88 (jb bk _ _ hbk (by omega) hbv) ?_) | (apply q5 (b := b) (xs := its.map zf) (ys := [zf ⟨KX, Lib.join bk [10] ++ [10], fs⟩]) (bytes := 48); exact rfl; exact rfl; exact PX.h2; exact hleX; (iterate 3 exact rfl); exact ⟨⟨_, _, rfl, rfl, rfl, rfl, rfl⟩⟩; exact rfl; (simp [maxLen]; omega); (simp; omega); intro t4 st4 g1 g2 g3 g4; have ho4 := (g3.same o (by omega) holX).trans hobX))
       apply qa
       (apply qj 11; exact rfl; kernel_rfl; kernel_rfl; kernel_rfl; exact rfl; (apply ko; exact rfl; exact rfl; (first | omega | (simp only [List.length_append, List.length_cons, List.length_nil]; omega))))
       (apply qj 16; exact rfl; kernel_rfl; kernel_rfl; kernel_rfl; exact rfl; (apply kz; (iterate 3 exact rfl)))
       refine qp [17] (by kernel_rfl) rfl ⟨⟨_, rfl, ?_⟩, trivial⟩
       (apply qv; (iterate 9 exact rfl))
       apply qa
       refine qp [18] (by kernel_rfl) rfl ⟨⟨_, rfl, ?_⟩, trivial⟩
       (first | (refine qd Tryz.call88 (jb bk _ _ hbk (by omega) hbv) ?_) | (apply q5 (b := b) (xs := its.map zf) (ys := [zf ⟨KX, Lib.join bk [10] ++ [10], fs⟩]) (bytes := 48); exact rfl; exact rfl; exact PX.h2; exact hleX; (iterate 3 exact rfl); exact ⟨⟨_, _, rfl, rfl, rfl, rfl, rfl⟩⟩; exact rfl; (simp [maxLen]; omega); (simp; omega); intro t4 st4 g1 g2 g3 g4; have ho4 := (g3.same o (by omega) holX).trans hobX))
       apply qa
       (apply qj 19; exact rfl; kernel_rfl; kernel_rfl; kernel_rfl; exact rfl; (apply zh; exact rfl; exact rfl))
       (apply qj 20; exact rfl; kernel_rfl; kernel_rfl; kernel_rfl; exact rfl; (first | (apply qt; (iterate 3 exact rfl)) | (apply qu; (iterate 4 exact rfl))))
       refine qp [21] (by kernel_rfl) rfl ⟨⟨_, rfl, ?_⟩, trivial⟩
       (first | (apply qs; exact rfl; exact rfl; exact ho4; (iterate 6 exact rfl)) | (apply qx; (iterate 11 exact rfl)) | (apply qn; (iterate 11 exact rfl)))
       apply qa
       refine jh (by kernel_rfl) ?_
       exact ⟨rfl, rfl, jo PX g1 g2 g3 g4, (hkX.trans (jm g3 hleX g2 PX.h2 g4)).trans zz⟩
      ·(first | (apply qc; exact rfl; exact hobX; exact rfl; exact rfl; apply zo 44 rfl (zu PX.h4)) | (apply qc; exact rfl; exact hobX; exact rfl; exact rfl) | (apply qq; (iterate 5 exact rfl)) | (apply qh; (iterate 5 exact rfl)) | (apply qk; (iterate 3 exact rfl)))
       apply qa
       refine qp [4, 10] (by kernel_rfl) rfl ⟨⟨_, rfl, ?_⟩, ⟨_, rfl, ?_⟩, trivial⟩
       ·(first | (apply qc; exact rfl; exact hobX; exact rfl; exact rfl; apply zo 44 rfl (zu PX.h4)) | (apply qc; exact rfl; exact hobX; exact rfl; exact rfl) | (apply qq; (iterate 5 exact rfl)) | (apply qh; (iterate 5 exact rfl)) | (apply qk; (iterate 3 exact rfl)))
        apply qa
        refine qp [10] (by kernel_rfl) rfl ⟨⟨_, rfl, ?_⟩, trivial⟩
        (first | (refine qd Tryz.call88 (jb bk _ _ hbk (by omega) hbv) ?_) | (apply q5 (b := b) (xs := its.map zf) (ys := [zf ⟨KX, Lib.join bk [10] ++ [10], fs⟩]) (bytes := 48); exact rfl; exact rfl; exact PX.h2; exact hleX; (iterate 3 exact rfl); exact ⟨⟨_, _, rfl, rfl, rfl, rfl, rfl⟩⟩; exact rfl; (simp [maxLen]; omega); (simp; omega); intro t4 st4 g1 g2 g3 g4; have ho4 := (g3.same o (by omega) holX).trans hobX))
        apply qa
        (apply qj 11; exact rfl; kernel_rfl; kernel_rfl; kernel_rfl; exact rfl; (apply ko; exact rfl; exact rfl; (first | omega | (simp only [List.length_append, List.length_cons, List.length_nil]; omega))))
        (apply qj 16; exact rfl; kernel_rfl; kernel_rfl; kernel_rfl; exact rfl; (apply kz; (iterate 3 exact rfl)))
        refine qp [17] (by kernel_rfl) rfl ⟨⟨_, rfl, ?_⟩, trivial⟩
        (apply qv; (iterate 9 exact rfl))
        apply qa
        refine qp [18] (by kernel_rfl) rfl ⟨⟨_, rfl, ?_⟩, trivial⟩
        (first | (refine qd Tryz.call88 (jb bk _ _ hbk (by omega) hbv) ?_) | (apply q5 (b := b) (xs := its.map zf) (ys := [zf ⟨KX, Lib.join bk [10] ++ [10], fs⟩]) (bytes := 48); exact rfl; exact rfl; exact PX.h2; exact hleX; (iterate 3 exact rfl); exact ⟨⟨_, _, rfl, rfl, rfl, rfl, rfl⟩⟩; exact rfl; (simp [maxLen]; omega); (simp; omega); intro t4 st4 g1 g2 g3 g4; have ho4 := (g3.same o (by omega) holX).trans hobX))
        apply qa
        (apply qj 19; exact rfl; kernel_rfl; kernel_rfl; kernel_rfl; exact rfl; (apply zh; exact rfl; exact rfl))
        (apply qj 20; exact rfl; kernel_rfl; kernel_rfl; kernel_rfl; exact rfl; (first | (apply qt; (iterate 3 exact rfl)) | (apply qu; (iterate 4 exact rfl))))
        refine qp [21] (by kernel_rfl) rfl ⟨⟨_, rfl, ?_⟩, trivial⟩
        (first | (apply qs; exact rfl; exact rfl; exact ho4; (iterate 6 exact rfl)) | (apply qx; (iterate 11 exact rfl)) | (apply qn; (iterate 11 exact rfl)))
        apply qa
        refine jh (by kernel_rfl) ?_
        exact ⟨rfl, rfl, jo PX g1 g2 g3 g4, (hkX.trans (jm g3 hleX g2 PX.h2 g4)).trans zz⟩
       ·(first | (refine qd Tryz.call88 (jb bk _ _ hbk (by omega) hbv) ?_) | (apply q5 (b := b) (xs := its.map zf) (ys := [zf ⟨KX, Lib.join bk [10] ++ [10], fs⟩]) (bytes := 48); exact rfl; exact rfl; exact PX.h2; exact hleX; (iterate 3 exact rfl); exact ⟨⟨_, _, rfl, rfl, rfl, rfl, rfl⟩⟩; exact rfl; (simp [maxLen]; omega); (simp; omega); intro t4 st4 g1 g2 g3 g4; have ho4 := (g3.same o (by omega) holX).trans hobX))
        apply qa
        (apply qj 11; exact rfl; kernel_rfl; kernel_rfl; kernel_rfl; exact rfl; (apply ko; exact rfl; exact rfl; (first | omega | (simp only [List.length_append, List.length_cons, List.length_nil]; omega))))
        (apply qj 16; exact rfl; kernel_rfl; kernel_rfl; kernel_rfl; exact rfl; (apply kz; (iterate 3 exact rfl)))
        refine qp [4, 17] (by kernel_rfl) rfl ⟨⟨_, rfl, ?_⟩, ⟨_, rfl, ?_⟩, trivial⟩
        ·(first | (apply qc; exact rfl; exact hobX; exact rfl; exact rfl; apply zo 44 rfl (zu PX.h4)) | (apply qc; exact rfl; exact hobX; exact rfl; exact rfl) | (apply qq; (iterate 5 exact rfl)) | (apply qh; (iterate 5 exact rfl)) | (apply qk; (iterate 3 exact rfl)))
         apply qa
         refine qp [17] (by kernel_rfl) rfl ⟨⟨_, rfl, ?_⟩, trivial⟩
         (apply qv; (iterate 9 exact rfl))
         apply qa
         refine qp [18] (by kernel_rfl) rfl ⟨⟨_, rfl, ?_⟩, trivial⟩
         (first | (refine qd Tryz.call88 (jb bk _ _ hbk (by omega) hbv) ?_) | (apply q5 (b := b) (xs := its.map zf) (ys := [zf ⟨KX, Lib.join bk [10] ++ [10], fs⟩]) (bytes := 48); exact rfl; exact rfl; exact PX.h2; exact hleX; (iterate 3 exact rfl); exact ⟨⟨_, _, rfl, rfl, rfl, rfl, rfl⟩⟩; exact rfl; (simp [maxLen]; omega); (simp; omega); intro t4 st4 g1 g2 g3 g4; have ho4 := (g3.same o (by omega) holX).trans hobX))
         apply qa
         (apply qj 19; exact rfl; kernel_rfl; kernel_rfl; kernel_rfl; exact rfl; (apply zh; exact rfl; exact rfl))
         (apply qj 20; exact rfl; kernel_rfl; kernel_rfl; kernel_rfl; exact rfl; (first | (apply qt; (iterate 3 exact rfl)) | (apply qu; (iterate 4 exact rfl))))
         refine qp [21] (by kernel_rfl) rfl ⟨⟨_, rfl, ?_⟩, trivial⟩
         (first | (apply qs; exact rfl; exact rfl; exact ho4; (iterate 6 exact rfl)) | (apply qx; (iterate 11 exact rfl)) | (apply qn; (iterate 11 exact rfl)))
         apply qa
         refine jh (by kernel_rfl) ?_
         exact ⟨rfl, rfl, jo PX g1 g2 g3 g4, (hkX.trans (jm g3 hleX g2 PX.h2 g4)).trans zz⟩
        ·(apply qv; (iterate 9 exact rfl))
         apply qa
         refine qp [4] (by kernel_rfl) rfl ⟨⟨_, rfl, ?_⟩, trivial⟩
         (first | (apply qc; exact rfl; exact hobX; exact rfl; exact rfl; apply zo 44 rfl (zu PX.h4)) | (apply qc; exact rfl; exact hobX; exact rfl; exact rfl) | (apply qq; (iterate 5 exact rfl)) | (apply qh; (iterate 5 exact rfl)) | (apply qk; (iterate 3 exact rfl)))
         apply qa
         refine qp [18] (by kernel_rfl) rfl ⟨⟨_, rfl, ?_⟩, trivial⟩
         (first | (refine qd Tryz.call88 (jb bk _ _ hbk (by omega) hbv) ?_) | (apply q5 (b := b) (xs := its.map zf) (ys := [zf ⟨KX, Lib.join bk [10] ++ [10], fs⟩]) (bytes := 48); exact rfl; exact rfl; exact PX.h2; exact hleX; (iterate 3 exact rfl); exact ⟨⟨_, _, rfl, rfl, rfl, rfl, rfl⟩⟩; exact rfl; (simp [maxLen]; omega); (simp; omega); intro t4 st4 g1 g2 g3 g4; have ho4 := (g3.same o (by omega) holX).trans hobX))
         apply qa
         (apply qj 19; exact rfl; kernel_rfl; kernel_rfl; kernel_rfl; exact rfl; (apply zh; exact rfl; exact rfl))
         (apply qj 20; exact rfl; kernel_rfl; kernel_rfl; kernel_rfl; exact rfl; (first | (apply qt; (iterate 3 exact rfl)) | (apply qu; (iterate 4 exact rfl))))
         refine qp [21] (by kernel_rfl) rfl ⟨⟨_, rfl, ?_⟩, trivial⟩
         (first | (apply qs; exact rfl; exact rfl; exact ho4; (iterate 6 exact rfl)) | (apply qx; (iterate 11 exact rfl)) | (apply qn; (iterate 11 exact rfl)))
         apply qa
         refine jh (by kernel_rfl) ?_
         exact ⟨rfl, rfl, jo PX g1 g2 g3 g4, (hkX.trans (jm g3 hleX g2 PX.h2 g4)).trans zz⟩
    ·rintro ⟨t2, st2, df2⟩ ⟨h20, hd, hp2, hk2⟩
     simp only at h20 hd hp2 hk2
     subst hd
     obtain ⟨d1, d2, d3, d4, P2⟩ := hp2
     have hob2 : st2[o]? = some (.cells 0 148 [d1, Iv fr, Bv fu, d2, d3, d4, Iv rcX]) := P2.ob
     have ht2 : t2 = puts t2 [(0, .bx o 0 0)] := (qd8 (L := [(0, .bx o 0 0)]) ⟨h20, trivial⟩).symm
     rw [ht2]
     repeat' (first
      | apply qm
      | apply qe
      | apply qa
      | apply qi
      | apply qf
      | (apply qr; (iterate 3 exact rfl))
      | (apply zv; exact rfl; exact rfl)
      | apply qz
      | (apply qs; exact rfl; exact rfl; exact hob2; (iterate 6 exact rfl))
      | (apply qs; exact rfl; exact rfl; exact zw hob2; (iterate 6 exact rfl)))
     refine qo rfl (zm rfl) ⟨rfl, fun _ => ?_, hk2.trans (zz.trans zz)⟩
     rw [hcl]
     exact qj8 P2
   ·have hz4 : 0 < (fs.map fldA).length := by rw [List.length_map]; exact List.length_pos_iff.2 hfs
    have hcl : yj ⟨ls, fr, fu, its, bk, fs, rc⟩ = ⟨ls, fr, fu, its ++ [⟨3, Lib.join bk [10] ++ [10], fs⟩], [], [], rc + 1⟩ := by
     unfold yj
     rw [if_neg hbk, hjt]
     simp [hfs]
    repeat' (first
     | apply qm
     | apply qe
     | apply qa
     | apply qi
     | apply qf
     | (apply qw; (iterate 3 exact rfl))
     | (apply qg; exact rfl; first | (apply ze; (first | assumption | omega)) | (apply zd; (first | assumption | omega)) | (apply zc; (first | exact rfl | assumption)) | (apply zb; (first | exact rfl | assumption)) | (apply cd_n <;> intro h) | (apply cd_t; (first | exact rfl | assumption)) | (apply cd_f; (first | exact rfl | assumption)) | (apply cd_d <;> intro h) | (apply cd_s <;> intro h))
     | (apply zy; (iterate 4 exact rfl))
     | (apply js; exact rfl; exact rfl; exact zi (by omega) (by omega))
     | (apply zr; exact rfl; exact rfl)
     | (apply qr; (iterate 3 exact rfl))
     | (apply zv; exact rfl; exact rfl)
     | apply q6
     | (apply qc; exact rfl; exact hob; exact rfl; exact rfl)
     | (apply zy; exact rfl; exact hl4; exact rfl; exact rfl)
     | (apply qs; exact rfl; exact rfl; exact hob; (iterate 6 exact rfl)))
    obtain ⟨rcX, hrX⟩ : ∃ x, x = rc + 1 := ⟨_, rfl⟩
    obtain ⟨stX, hsX⟩ : ∃ x, x = st1.set o (parO c1 c2 (.sl 1 (bk.map fun x => Sv x) (some t3)) c4 ⟨ls, fr, fu, its, bk, fs, rcX⟩) := ⟨_, rfl⟩
    obtain ⟨KX, hKX⟩ : ∃ x : Int, x = 3 := ⟨_, rfl⟩
    have PX : ParS b o ⟨ls, fr, fu, its, bk, fs, rcX⟩ stX c1 c2 (.sl 1 (bk.map fun x => Sv x) (some t3)) c4 := by rw [hsX]; exact q2k P rcX
    have hkX : Keep b o st stX := by rw [hsX]; exact hk.trans zz
    replace hcl : yj ⟨ls, fr, fu, its, bk, fs, rc⟩ = ⟨ls, fr, fu, its ++ [⟨KX, Lib.join bk [10] ++ [10], fs⟩], [], [], rcX⟩ := by rw [hKX, hrX]; exact hcl
    refine qax [(0, .bx o 0 0), (4, Iv KX)] stX [] ⟨rfl, (congrArg Iv hKX).symm, trivial⟩ (by rw [hsX, hrX]; rfl) rfl fun t => ?_
    have hleX := PX.le
    have holX : o < stX.length := by omega
    have hobX : stX[o]? = some (.cells 0 148 [c1, Iv fr, Bv fu, c2, .sl 1 (bk.map fun x => Sv x) (some t3), c4, Iv rcX]) := PX.ob
    refine qe3 (fun s => s.t 0 = .bx o 0 0 ∧ s.df = [] ∧ Par b o ⟨ls, fr, fu, its ++ [⟨KX, Lib.join bk [10] ++ [10], fs⟩], bk, fs, rcX⟩ s.st ∧ Keep b o st s.st) ?_ ?_
    ·refine qca rfl rfl ?_
     (apply qj 0; exact rfl; kernel_rfl; kernel_rfl; kernel_rfl; exact rfl; exact ww)
     (apply qj 1; exact rfl; kernel_rfl; kernel_rfl; kernel_rfl; exact rfl; exact ww)
     (apply qj 2; exact rfl; kernel_rfl; kernel_rfl; kernel_rfl; exact rfl; (apply zh; exact rfl; exact rfl))
     (apply qj 3; exact rfl; kernel_rfl; kernel_rfl; kernel_rfl; exact rfl; (first | (apply qt; (iterate 3 exact rfl)) | (apply qu; (iterate 4 exact rfl))))
     (apply qj 5; exact rfl; kernel_rfl; kernel_rfl; kernel_rfl; exact rfl; exact ww)
     (apply qj 6; exact rfl; kernel_rfl; kernel_rfl; kernel_rfl; exact rfl; exact ww)
     (apply qj 7; exact rfl; kernel_rfl; kernel_rfl; kernel_rfl; exact rfl; (apply zh; exact rfl; exact rfl))
     (apply qj 8; exact rfl; kernel_rfl; kernel_rfl; kernel_rfl; exact rfl; (first | (apply qt; (iterate 3 exact rfl)) | (apply qu; (iterate 4 exact rfl))))
     (apply qj 12; exact rfl; kernel_rfl; kernel_rfl; kernel_rfl; exact rfl; exact ww)
     (apply qj 13; exact rfl; kernel_rfl; kernel_rfl; kernel_rfl; exact rfl; (apply zh; exact rfl; exact rfl))
     (apply qj 14; exact rfl; kernel_rfl; kernel_rfl; kernel_rfl; exact rfl; (first | (apply qt; (iterate 3 exact rfl)) | (apply qu; (iterate 4 exact rfl))))
     refine qp [4, 9, 15] (by kernel_rfl) rfl ⟨⟨_, rfl, ?_⟩, ⟨_, rfl, ?_⟩, ⟨_, rfl, ?_⟩, trivial⟩
     ·(first | (apply qc; exact rfl; exact hobX; exact rfl; exact rfl; apply zo 44 rfl (zu PX.h4)) | (apply qc; exact rfl; exact hobX; exact rfl; exact rfl) | (apply qq; (iterate 5 exact rfl)) | (apply qh; (iterate 5 exact rfl)) | (apply qk; (iterate 3 exact rfl)))
      apply qa
      refine qp [9, 15] (by kernel_rfl) rfl ⟨⟨_, rfl, ?_⟩, ⟨_, rfl, ?_⟩, trivial⟩
      ·(first | (apply qc; exact rfl; exact hobX; exact rfl; exact rfl; apply zo 44 rfl (zu PX.h4)) | (apply qc; exact rfl; exact hobX; exact rfl; exact rfl) | (apply qq; (iterate 5 exact rfl)) | (apply qh; (iterate 5 exact rfl)) | (apply qk; (iterate 3 exact rfl)))
       apply qa
       refine qp [10, 15] (by kernel_rfl) rfl ⟨⟨_, rfl, ?_⟩, ⟨_, rfl, ?_⟩, trivial⟩
       ·(first | (refine qd Tryz.call88 (jb bk _ _ hbk (by omega) hbv) ?_) | (apply q5 (b := b) (xs := its.map zf) (ys := [zf ⟨KX, Lib.join bk [10] ++ [10], fs⟩]) (bytes := 48); exact rfl; exact rfl; exact PX.h2; exact hleX; (iterate 3 exact rfl); exact ⟨⟨_, _, rfl, rfl, rfl, rfl, rfl⟩⟩; exact rfl; (simp [maxLen]; omega); (simp; omega); intro t4 st4 g1 g2 g3 g4; have ho4 := (g3.same o (by omega) holX).trans hobX))
        apply qa
        (apply qj 11; exact rfl; kernel_rfl; kernel_rfl; kernel_rfl; exact rfl; (apply ko; exact rfl; exact rfl; (first | omega | (simp only [List.length_append, List.length_cons, List.length_nil]; omega))))
        refine qp [15] (by kernel_rfl) rfl ⟨⟨_, rfl, ?_⟩, trivial⟩
        (first | (apply qc; exact rfl; exact hobX; exact rfl; exact rfl; apply zo 44 rfl (zu PX.h4)) | (apply qc; exact rfl; exact hobX; exact rfl; exact rfl) | (apply qq; (iterate 5 exact rfl)) | (apply qh; (iterate 5 exact rfl)) | (apply qk; (iterate 3 exact rfl)))
        apply qa
        (apply qj 16; exact rfl; kernel_rfl; kernel_rfl; kernel_rfl; exact rfl; (apply kz; (iterate 3 exact rfl)))
        refine qp [17] (by kernel_rfl) rfl ⟨⟨_, rfl, ?_⟩, trivial⟩
        (apply qv; (iterate 9 exact rfl))
        apply qa
        refine qp [18] (by kernel_rfl) rfl ⟨⟨_, rfl, ?_⟩, trivial⟩
        (first | (refine qd Tryz.call88 (jb bk _ _ hbk (by omega) hbv) ?_) | (apply q5 (b := b) (xs := its.map zf) (ys := [zf ⟨KX, Lib.join bk [10] ++ [10], fs⟩]) (bytes := 48); exact rfl; exact rfl; exact PX.h2; exact hleX; (iterate 3 exact rfl); exact ⟨⟨_, _, rfl, rfl, rfl, rfl, rfl⟩⟩; exact rfl; (simp [maxLen]; omega); (simp; omega); intro t4 st4 g1 g2 g3 g4; have ho4 := (g3.same o (by omega) holX).trans hobX))
        apply qa
        (apply qj 19; exact rfl; kernel_rfl; kernel_rfl; kernel_rfl; exact rfl; (apply zh; exact rfl; exact rfl))
        (apply qj 20; exact rfl; kernel_rfl; kernel_rfl; kernel_rfl; exact rfl; (first | (apply qt; (iterate 3 exact rfl)) | (apply qu; (iterate 4 exact rfl))))
        refine qp [21] (by kernel_rfl) rfl ⟨⟨_, rfl, ?_⟩, trivial⟩
        (first | (apply qs; exact rfl; exact rfl; exact ho4; (iterate 6 exact rfl)) | (apply qx; (iterate 11 exact rfl)) | (apply qn; (iterate 11 exact rfl)))
        apply qa
        refine jh (by kernel_rfl) ?_
        exact ⟨rfl, rfl, jo PX g1 g2 g3 g4, (hkX.trans (jm g3 hleX g2 PX.h2 g4)).trans zz⟩
       ·(first | (apply qc; exact rfl; exact hobX; exact rfl; exact rfl; apply zo 44 rfl (zu PX.h4)) | (apply qc; exact rfl; exact hobX; exact rfl; exact rfl) | (apply qq; (iterate 5 exact rfl)) | (apply qh; (iterate 5 exact rfl)) | (apply qk; (iterate 3 exact rfl)))
        apply qa
        refine qp [10] (by kernel_rfl) rfl ⟨⟨_, rfl, ?_⟩, trivial⟩
        (first | (refine qd Tryz.call88 (jb bk _ _ hbk (by omega) hbv) ?_) | (apply q5 (b := b) (xs := its.map zf) (ys := [zf ⟨KX, Lib.join bk [10] ++ [10], fs⟩]) (bytes := 48); exact rfl; exact rfl; exact PX.h2; exact hleX; (iterate 3 exact rfl); exact ⟨⟨_, _, rfl, rfl, rfl, rfl, rfl⟩⟩; exact rfl; (simp [maxLen]; omega); (simp; omega); intro t4 st4 g1 g2 g3 g4; have ho4 := (g3.same o (by omega) holX).trans hobX))
        apply qa
        (apply qj 11; exact rfl; kernel_rfl; kernel_rfl; kernel_rfl; exact rfl; (apply ko; exact rfl; exact rfl; (first | omega | (simp only [List.length_append, List.length_cons, List.length_nil]; omega))))
        (apply qj 16; exact rfl; kernel_rfl; kernel_rfl; kernel_rfl; exact rfl; (apply kz; (iterate 3 exact rfl)))
        refine qp [17] (by kernel_rfl) rfl ⟨⟨_, rfl, ?_⟩, trivial⟩
        (apply qv; (iterate 9 exact rfl))
        apply qa
        refine qp [18] (by kernel_rfl) rfl ⟨⟨_, rfl, ?_⟩, trivial⟩
        (first | (refine qd Tryz.call88 (jb bk _ _ hbk (by omega) hbv) ?_) | (apply q5 (b := b) (xs := its.map zf) (ys := [zf ⟨KX, Lib.join bk [10] ++ [10], fs⟩]) (bytes := 48); exact rfl; exact rfl; exact PX.h2; exact hleX; (iterate 3 exact rfl); exact ⟨⟨_, _, rfl, rfl, rfl, rfl, rfl⟩⟩; exact rfl; (simp [maxLen]; omega); (simp; omega); intro t4 st4 g1 g2 g3 g4; have ho4 := (g3.same o (by omega) holX).trans hobX))
        apply qa
        (apply qj 19; exact rfl; kernel_rfl; kernel_rfl; kernel_rfl; exact rfl; (apply zh; exact rfl; exact rfl))
        (apply qj 20; exact rfl; kernel_rfl; kernel_rfl; kernel_rfl; exact rfl; (first | (apply qt; (iterate 3 exact rfl)) | (apply qu; (iterate 4 exact rfl))))
        refine qp [21] (by kernel_rfl) rfl ⟨⟨_, rfl, ?_⟩, trivial⟩
        (first | (apply qs; exact rfl; exact rfl; exact ho4; (iterate 6 exact rfl)) | (apply qx; (iterate 11 exact rfl)) | (apply qn; (iterate 11 exact rfl)))
        apply qa
        refine jh (by kernel_rfl) ?_
        exact ⟨rfl, rfl, jo PX g1 g2 g3 g4, (hkX.trans (jm g3 hleX g2 PX.h2 g4)).trans zz⟩
      ·(first | (apply qc; exact rfl; exact hobX; exact rfl; exact rfl; apply zo 44 rfl (zu PX.h4)) | (apply qc; exact rfl; exact hobX; exact rfl; exact rfl) | (apply qq; (iterate 5 exact rfl)) | (apply qh; (iterate 5 exact rfl)) | (apply qk; (iterate 3 exact rfl)))
       apply qa
       refine qp [9] (by kernel_rfl) rfl ⟨⟨_, rfl, ?_⟩, trivial⟩
       (first | (apply qc; exact rfl; exact hobX; exact rfl; exact rfl; apply zo 44 rfl (zu PX.h4)) | (apply qc; exact rfl; exact hobX; exact rfl; exact rfl) | (apply qq; (iterate 5 exact rfl)) | (apply qh; (iterate 5 exact rfl)) | (apply qk; (iterate 3 exact rfl)))
       apply qa
       refine qp [10] (by kernel_rfl) rfl ⟨⟨_, rfl, ?_⟩, trivial⟩
       (first | (refine qd Tryz.call88 (jb bk _ _ hbk (by omega) hbv) ?_) | (apply q5 (b := b) (xs := its.map zf) (ys := [zf ⟨KX, Lib.join bk [10] ++ [10], fs⟩]) (bytes := 48); exact rfl; exact rfl; exact PX.h2; exact hleX; (iterate 3 exact rfl); exact ⟨⟨_, _, rfl, rfl, rfl, rfl, rfl⟩⟩; exact rfl; (simp [maxLen]; omega); (simp; omega); intro t4 st4 g1 g2 g3 g4; have ho4 := (g3.same o (by omega) holX).trans hobX))
       apply qa
       (apply qj 11; exact rfl; kernel_rfl; kernel_rfl; kernel_rfl; exact rfl; (apply ko; exact rfl; exact rfl; (first | omega | (simp only [List.length_append, List.length_cons, List.length_nil]; omega))))
       (apply qj 16; exact rfl; kernel_rfl; kernel_rfl; kernel_rfl; exact rfl; (apply kz; (iterate 3 exact rfl)))
       refine qp [17] (by kernel_rfl) rfl ⟨⟨_, rfl, ?_⟩, trivial⟩
       (apply qv; (iterate 9 exact rfl))
       apply qa
       refine qp [18] (by kernel_rfl) rfl ⟨⟨_, rfl, ?_⟩, trivial⟩
       (first | (refine qd Tryz.call88 (jb bk _ _ hbk (by omega) hbv) ?_) | (apply q5 (b := b) (xs := its.map zf) (ys := [zf ⟨KX, Lib.join bk [10] ++ [10], fs⟩]) (bytes := 48); exact rfl; exact rfl; exact PX.h2; exact hleX; (iterate 3 exact rfl); exact ⟨⟨_, _, rfl, rfl, rfl, rfl, rfl⟩⟩; exact rfl; (simp [maxLen]; omega); (simp; omega); intro t4 st4 g1 g2 g3 g4; have ho4 := (g3.same o (by omega) holX).trans hobX))
       apply qa
       (apply qj 19; exact rfl; kernel_rfl; kernel_rfl; kernel_rfl; exact rfl; (apply zh; exact rfl; exact rfl))
       (apply qj 20; exact rfl; kernel_rfl; kernel_rfl; kernel_rfl; exact rfl; (first | (apply qt; (iterate 3 exact rfl)) | (apply qu; (iterate 4 exact rfl))))
       refine qp [21] (by kernel_rfl) rfl ⟨⟨_, rfl, ?_⟩, trivial⟩
       (first | (apply qs; exact rfl; exact rfl; exact ho4; (iterate 6 exact rfl)) | (apply qx; (iterate 11 exact rfl)) | (apply qn; (iterate 11 exact rfl)))
       apply qa
       refine jh (by kernel_rfl) ?_
       exact ⟨rfl, rfl, jo PX g1 g2 g3 g4, (hkX.trans (jm g3 hleX g2 PX.h2 g4)).trans zz⟩
     ·(first | (apply qc; exact rfl; exact hobX; exact rfl; exact rfl; apply zo 44 rfl (zu PX.h4)) | (apply qc; exact rfl; exact hobX; exact rfl; exact rfl) | (apply qq; (iterate 5 exact rfl)) | (apply qh; (iterate 5 exact rfl)) | (apply qk; (iterate 3 exact rfl)))
      apply qa
      refine qp [4, 10, 15] (by kernel_rfl) rfl ⟨⟨_, rfl, ?_⟩, ⟨_, rfl, ?_⟩, ⟨_, rfl, ?_⟩, trivial⟩
      ·(first | (apply qc; exact rfl; exact hobX; exact rfl; exact rfl; apply zo 44 rfl (zu PX.h4)) | (apply qc; exact rfl; exact hobX; exact rfl; exact rfl) | (apply qq; (iterate 5 exact rfl)) | (apply qh; (iterate 5 exact rfl)) | (apply qk; (iterate 3 exact rfl)))
       apply qa
       refine qp [10, 15] (by kernel_rfl) rfl ⟨⟨_, rfl, ?_⟩, ⟨_, rfl, ?_⟩, trivial⟩
       ·(first | (refine qd Tryz.call88 (jb bk _ _ hbk (by omega) hbv) ?_) | (apply q5 (b := b) (xs := its.map zf) (ys := [zf ⟨KX, Lib.join bk [10] ++ [10], fs⟩]) (bytes := 48); exact rfl; exact rfl; exact PX.h2; exact hleX; (iterate 3 exact rfl); exact ⟨⟨_, _, rfl, rfl, rfl, rfl, rfl⟩⟩; exact rfl; (simp [maxLen]; omega); (simp; omega); intro t4 st4 g1 g2 g3 g4; have ho4 := (g3.same o (by omega) holX).trans hobX))
        apply qa
        (apply qj 11; exact rfl; kernel_rfl; kernel_rfl; kernel_rfl; exact rfl; (apply ko; exact rfl; exact rfl; (first | omega | (simp only [List.length_append, List.length_cons, List.length_nil]; omega))))
        refine qp [15] (by kernel_rfl) rfl ⟨⟨_, rfl, ?_⟩, trivial⟩
        (first | (apply qc; exact rfl; exact hobX; exact rfl; exact rfl; apply zo 44 rfl (zu PX.h4)) | (apply qc; exact rfl; exact hobX; exact rfl; exact rfl) | (apply qq; (iterate 5 exact rfl)) | (apply qh; (iterate 5 exact rfl)) | (apply qk; (iterate 3 exact rfl)))
        apply qa
        (apply qj 16; exact rfl; kernel_rfl; kernel_rfl; kernel_rfl; exact rfl; (apply kz; (iterate 3 exact rfl)))
        refine qp [17] (by kernel_rfl) rfl ⟨⟨_, rfl, ?_⟩, trivial⟩
        (apply qv; (iterate 9 exact rfl))
        apply qa
        refine qp [18] (by kernel_rfl) rfl ⟨⟨_, rfl, ?_⟩, trivial⟩
        (first | (refine qd Tryz.call88 (jb bk _ _ hbk (by omega) hbv) ?_) | (apply q5 (b := b) (xs := its.map zf) (ys := [zf ⟨KX, Lib.join bk [10] ++ [10], fs⟩]) (bytes := 48); exact rfl; exact rfl; exact PX.h2; exact hleX; (iterate 3 exact rfl); exact ⟨⟨_, _, rfl, rfl, rfl, rfl, rfl⟩⟩; exact rfl; (simp [maxLen]; omega); (simp; omega); intro t4 st4 g1 g2 g3 g4; have ho4 := (g3.same o (by omega) holX).trans hobX))
        apply qa
        (apply qj 19; exact rfl; kernel_rfl; kernel_rfl; kernel_rfl; exact rfl; (apply zh; exact rfl; exact rfl))
        (apply qj 20; exact rfl; kernel_rfl; kernel_rfl; kernel_rfl; exact rfl; (first | (apply qt; (iterate 3 exact rfl)) | (apply qu; (iterate 4 exact rfl))))
        refine qp [21] (by kernel_rfl) rfl ⟨⟨_, rfl, ?_⟩, trivial⟩
        (first | (apply qs; exact rfl; exact rfl; exact ho4; (iterate 6 exact rfl)) | (apply qx; (iterate 11 exact rfl)) | (apply qn; (iterate 11 exact rfl)))
        apply qa
        refine jh (by kernel_rfl) ?_
        exact ⟨rfl, rfl, jo PX g1 g2 g3 g4, (hkX.trans (jm g3 hleX g2 PX.h2 g4)).trans zz⟩
       ·(first | (apply qc; exact rfl; exact hobX; exact rfl; exact rfl; apply zo 44 rfl (zu PX.h4)) | (apply qc; exact rfl; exact hobX; exact rfl; exact rfl) | (apply qq; (iterate 5 exact rfl)) | (apply qh; (iterate 5 exact rfl)) | (apply qk; (iterate 3 exact rfl)))
        apply qa
        refine qp [10] (by kernel_rfl) rfl ⟨⟨_, rfl, ?_⟩, trivial⟩
        (first | (refine qd Tryz.call88 (jb bk _ _ hbk (by omega) hbv) ?_) | (apply q5 (b := b) (xs := its.map zf) (ys := [zf ⟨KX, Lib.join bk [10] ++ [10], fs⟩]) (bytes := 48); exact rfl; exact rfl; exact PX.h2; exact hleX; (iterate 3 exact rfl); exact ⟨⟨_, _, rfl, rfl, rfl, rfl, rfl⟩⟩; exact rfl; (simp [maxLen]; omega); (simp; omega); intro t4 st4 g1 g2 g3 g4; have ho4 := (g3.same o (by omega) holX).trans hobX))
        apply qa
        (apply qj 11; exact rfl; kernel_rfl; kernel_rfl; kernel_rfl; exact rfl; (apply ko; exact rfl; exact rfl; (first | omega | (simp only [List.length_append, List.length_cons, List.length_nil]; omega))))
        (apply qj 16; exact rfl; kernel_rfl; kernel_rfl; kernel_rfl; exact rfl; (apply kz; (iterate 3 exact rfl)))
        refine qp [17] (by kernel_rfl) rfl ⟨⟨_, rfl, ?_⟩, trivial⟩
        (apply qv; (iterate 9 exact rfl))
        apply qa
        refine qp [18] (by kernel_rfl) rfl ⟨⟨_, rfl, ?_⟩, trivial⟩
        (first | (refine qd Tryz.call88 (jb bk _ _ hbk (by omega) hbv) ?_) | (apply q5 (b := b) (xs := its.map zf) (ys := [zf ⟨KX, Lib.join bk [10] ++ [10], fs⟩]) (bytes := 48); exact rfl; exact rfl; exact PX.h2; exact hleX; (iterate 3 exact rfl); exact ⟨⟨_, _, rfl, rfl, rfl, rfl, rfl⟩⟩; exact rfl; (simp [maxLen]; omega); (simp; omega); intro t4 st4 g1 g2 g3 g4; have ho4 := (g3.same o (by omega) holX).trans hobX))
        apply qa
        (apply qj 19; exact rfl; kernel_rfl; kernel_rfl; kernel_rfl; exact rfl; (apply zh; exact rfl; exact rfl))
        (apply qj 20; exact rfl; kernel_rfl; kernel_rfl; kernel_rfl; exact rfl; (first | (apply qt; (iterate 3 exact rfl)) | (apply qu; (iterate 4 exact rfl))))
        refine qp [21] (by kernel_rfl) rfl ⟨⟨_, rfl, ?_⟩, trivial⟩
        (first | (apply qs; exact rfl; exact rfl; exact ho4; (iterate 6 exact rfl)) | (apply qx; (iterate 11 exact rfl)) | (apply qn; (iterate 11 exact rfl)))
        apply qa
        refine jh (by kernel_rfl) ?_
        exact ⟨rfl, rfl, jo PX g1 g2 g3 g4, (hkX.trans (jm g3 hleX g2 PX.h2 g4)).trans zz⟩
      ·(first | (refine qd Tryz.call88 (jb bk _ _ hbk (by omega) hbv) ?_) | (apply q5 (b := b) (xs := its.map zf) (ys := [zf ⟨KX, Lib.join bk [10] ++ [10], fs⟩]) (bytes := 48); exact rfl; exact rfl; exact PX.h2; exact hleX; (iterate 3 exact rfl); exact ⟨⟨_, _, rfl, rfl, rfl, rfl, rfl⟩⟩; exact rfl; (simp [maxLen]; omega); (simp; omega); intro t4 st4 g1 g2 g3 g4; have ho4 := (g3.same o (by omega) holX).trans hobX))
       apply qa
       (apply qj 11; exact rfl; kernel_rfl; kernel_rfl; kernel_rfl; exact rfl; (apply ko; exact rfl; exact rfl; (first | omega | (simp only [List.length_append, List.length_cons, List.length_nil]; omega))))
       refine qp [4, 15] (by kernel_rfl) rfl ⟨⟨_, rfl, ?_⟩, ⟨_, rfl, ?_⟩, trivial⟩
       ·(first | (apply qc; exact rfl; exact hobX; exact rfl; exact rfl; apply zo 44 rfl (zu PX.h4)) | (apply qc; exact rfl; exact hobX; exact rfl; exact rfl) | (apply qq; (iterate 5 exact rfl)) | (apply qh; (iterate 5 exact rfl)) | (apply qk; (iterate 3 exact rfl)))
        apply qa
        refine qp [15] (by kernel_rfl) rfl ⟨⟨_, rfl, ?_⟩, trivial⟩
        (first | (apply qc; exact rfl; exact hobX; exact rfl; exact rfl; apply zo 44 rfl (zu PX.h4)) | (apply qc; exact rfl; exact hobX; exact rfl; exact rfl) | (apply qq; (iterate 5 exact rfl)) | (apply qh; (iterate 5 exact rfl)) | (apply qk; (iterate 3 exact rfl)))
        apply qa
        (apply qj 16; exact rfl; kernel_rfl; kernel_rfl; kernel_rfl; exact rfl; (apply kz; (iterate 3 exact rfl)))
        refine qp [17] (by kernel_rfl) rfl ⟨⟨_, rfl, ?_⟩, trivial⟩
        (apply qv; (iterate 9 exact rfl))
        apply qa
        refine qp [18] (by kernel_rfl) rfl ⟨⟨_, rfl, ?_⟩, trivial⟩
        (first | (refine qd Tryz.call88 (jb bk _ _ hbk (by omega) hbv) ?_) | (apply q5 (b := b) (xs := its.map zf) (ys := [zf ⟨KX, Lib.join bk [10] ++ [10], fs⟩]) (bytes := 48); exact rfl; exact rfl; exact PX.h2; exact hleX; (iterate 3 exact rfl); exact ⟨⟨_, _, rfl, rfl, rfl, rfl, rfl⟩⟩; exact rfl; (simp [maxLen]; omega); (simp; omega); intro t4 st4 g1 g2 g3 g4; have ho4 := (g3.same o (by omega) holX).trans hobX))
        apply qa
        (apply qj 19; exact rfl; kernel_rfl; kernel_rfl; kernel_rfl; exact rfl; (apply zh; exact rfl; exact rfl))
        (apply qj 20; exact rfl; kernel_rfl; kernel_rfl; kernel_rfl; exact rfl; (first | (apply qt; (iterate 3 exact rfl)) | (apply qu; (iterate 4 exact rfl))))
        refine qp [21] (by kernel_rfl) rfl ⟨⟨_, rfl, ?_⟩, trivial⟩
        (first | (apply qs; exact rfl; exact rfl; exact ho4; (iterate 6 exact rfl)) | (apply qx; (iterate 11 exact rfl)) | (apply qn; (iterate 11 exact rfl)))
        apply qa
        refine jh (by kernel_rfl) ?_
        exact ⟨rfl, rfl, jo PX g1 g2 g3 g4, (hkX.trans (jm g3 hleX g2 PX.h2 g4)).trans zz⟩
       ·(first | (apply qc; exact rfl; exact hobX; exact rfl; exact rfl; apply zo 44 rfl (zu PX.h4)) | (apply qc; exact rfl; exact hobX; exact rfl; exact rfl) | (apply qq; (iterate 5 exact rfl)) | (apply qh; (iterate 5 exact rfl)) | (apply qk; (iterate 3 exact rfl)))
        apply qa
        (apply qj 16; exact rfl; kernel_rfl; kernel_rfl; kernel_rfl; exact rfl; (apply kz; (iterate 3 exact rfl)))
        refine qp [4, 17] (by kernel_rfl) rfl ⟨⟨_, rfl, ?_⟩, ⟨_, rfl, ?_⟩, trivial⟩
        ·(first | (apply qc; exact rfl; exact hobX; exact rfl; exact rfl; apply zo 44 rfl (zu PX.h4)) | (apply qc; exact rfl; exact hobX; exact rfl; exact rfl) | (apply qq; (iterate 5 exact rfl)) | (apply qh; (iterate 5 exact rfl)) | (apply qk; (iterate 3 exact rfl)))
         apply qa
         refine qp [17] (by kernel_rfl) rfl ⟨⟨_, rfl, ?_⟩, trivial⟩
         (apply qv; (iterate 9 exact rfl))
         apply qa
         refine qp [18] (by kernel_rfl) rfl ⟨⟨_, rfl, ?_⟩, trivial⟩
         (first | (refine qd Tryz.call88 (jb bk _ _ hbk (by omega) hbv) ?_) | (apply q5 (b := b) (xs := its.map zf) (ys := [zf ⟨KX, Lib.join bk [10] ++ [10], fs⟩]) (bytes := 48); exact rfl; exact rfl; exact PX.h2; exact hleX; (iterate 3 exact rfl); exact ⟨⟨_, _, rfl, rfl, rfl, rfl, rfl⟩⟩; exact rfl; (simp [maxLen]; omega); (simp; omega); intro t4 st4 g1 g2 g3 g4; have ho4 := (g3.same o (by omega) holX).trans hobX))
         apply qa
         (apply qj 19; exact rfl; kernel_rfl; kernel_rfl; kernel_rfl; exact rfl; (apply zh; exact rfl; exact rfl))
         (apply qj 20; exact rfl; kernel_rfl; kernel_rfl; kernel_rfl; exact rfl; (first | (apply qt; (iterate 3 exact rfl)) | (apply qu; (iterate 4 exact rfl))))
         refine qp [21] (by kernel_rfl) rfl ⟨⟨_, rfl, ?_⟩, trivial⟩
         (first | (apply qs; exact rfl; exact rfl; exact ho4; (iterate 6 exact rfl)) | (apply qx; (iterate 11 exact rfl)) | (apply qn; (iterate 11 exact rfl)))
         apply qa
         refine jh (by kernel_rfl) ?_
         exact ⟨rfl, rfl, jo PX g1 g2 g3 g4, (hkX.trans (jm g3 hleX g2 PX.h2 g4)).trans zz⟩
        ·(apply qv; (iterate 9 exact rfl))
         apply qa
         refine qp [4] (by kernel_rfl) rfl ⟨⟨_, rfl, ?_⟩, trivial⟩
         (first | (apply qc; exact rfl; exact hobX; exact rfl; exact rfl; apply zo 44 rfl (zu PX.h4)) | (apply qc; exact rfl; exact hobX; exact rfl; exact rfl) | (apply qq; (iterate 5 exact rfl)) | (apply qh; (iterate 5 exact rfl)) | (apply qk; (iterate 3 exact rfl)))
         apply qa
         refine qp [18] (by kernel_rfl) rfl ⟨⟨_, rfl, ?_⟩, trivial⟩
         (first | (refine qd Tryz.call88 (jb bk _ _ hbk (by omega) hbv) ?_) | (apply q5 (b := b) (xs := its.map zf) (ys := [zf ⟨KX, Lib.join bk [10] ++ [10], fs⟩]) (bytes := 48); exact rfl; exact rfl; exact PX.h2; exact hleX; (iterate 3 exact rfl); exact ⟨⟨_, _, rfl, rfl, rfl, rfl, rfl⟩⟩; exact rfl; (simp [maxLen]; omega); (simp; omega); intro t4 st4 g1 g2 g3 g4; have ho4 := (g3.same o (by omega) holX).trans hobX))
         apply qa
         (apply qj 19; exact rfl; kernel_rfl; kernel_rfl; kernel_rfl; exact rfl; (apply zh; exact rfl; exact rfl))
         (apply qj 20; exact rfl; kernel_rfl; kernel_rfl; kernel_rfl; exact rfl; (first | (apply qt; (iterate 3 exact rfl)) | (apply qu; (iterate 4 exact rfl))))
         refine qp [21] (by kernel_rfl) rfl ⟨⟨_, rfl, ?_⟩, trivial⟩
         (first | (apply qs; exact rfl; exact rfl; exact ho4; (iterate 6 exact rfl)) | (apply qx; (iterate 11 exact rfl)) | (apply qn; (iterate 11 exact rfl)))
         apply qa
         refine jh (by kernel_rfl) ?_
         exact ⟨rfl, rfl, jo PX g1 g2 g3 g4, (hkX.trans (jm g3 hleX g2 PX.h2 g4)).trans zz⟩
      ·(first | (apply qc; exact rfl; exact hobX; exact rfl; exact rfl; apply zo 44 rfl (zu PX.h4)) | (apply qc; exact rfl; exact hobX; exact rfl; exact rfl) | (apply qq; (iterate 5 exact rfl)) | (apply qh; (iterate 5 exact rfl)) | (apply qk; (iterate 3 exact rfl)))
       apply qa
       refine qp [4, 10] (by kernel_rfl) rfl ⟨⟨_, rfl, ?_⟩, ⟨_, rfl, ?_⟩, trivial⟩
       ·(first | (apply qc; exact rfl; exact hobX; exact rfl; exact rfl; apply zo 44 rfl (zu PX.h4)) | (apply qc; exact rfl; exact hobX; exact rfl; exact rfl) | (apply qq; (iterate 5 exact rfl)) | (apply qh; (iterate 5 exact rfl)) | (apply qk; (iterate 3 exact rfl)))
        apply qa
        refine qp [10] (by kernel_rfl) rfl ⟨⟨_, rfl, ?_⟩, trivial⟩
        (first | (refine qd Tryz.call88 (jb bk _ _ hbk (by omega) hbv) ?_) | (apply q5 (b := b) (xs := its.map zf) (ys := [zf ⟨KX, Lib.join bk [10] ++ [10], fs⟩]) (bytes := 48); exact rfl; exact rfl; exact PX.h2; exact hleX; (iterate 3 exact rfl); exact ⟨⟨_, _, rfl, rfl, rfl, rfl, rfl⟩⟩; exact rfl; (simp [maxLen]; omega); (simp; omega); intro t4 st4 g1 g2 g3 g4; have ho4 := (g3.same o (by omega) holX).trans hobX))
        apply qa
        (apply qj 11; exact rfl; kernel_rfl; kernel_rfl; kernel_rfl; exact rfl; (apply ko; exact rfl; exact rfl; (first | omega | (simp only [List.length_append, List.length_cons, List.length_nil]; omega))))
        (apply qj 16; exact rfl; kernel_rfl; kernel_rfl; kernel_rfl; exact rfl; (apply kz; (iterate 3 exact rfl)))
        refine qp [17] (by kernel_rfl) rfl ⟨⟨_, rfl, ?_⟩, trivial⟩
        (apply qv; (iterate 9 exact rfl))
        apply qa
        refine qp [18] (by kernel_rfl) rfl ⟨⟨_, rfl, ?_⟩, trivial⟩
        (first | (refine qd Tryz.call88 (jb bk _ _ hbk (by omega) hbv) ?_) | (apply q5 (b := b) (xs := its.map zf) (ys := [zf ⟨KX, Lib.join bk [10] ++ [10], fs⟩]) (bytes := 48); exact rfl; exact rfl; exact PX.h2; exact hleX; (iterate 3 exact rfl); exact ⟨⟨_, _, rfl, rfl, rfl, rfl, rfl⟩⟩; exact rfl; (simp [maxLen]; omega); (simp; omega); intro t4 st4 g1 g2 g3 g4; have ho4 := (g3.same o (by omega) holX).trans hobX))
        apply qa
        (apply qj 19; exact rfl; kernel_rfl; kernel_rfl; kernel_rfl; exact rfl; (apply zh; exact rfl; exact rfl))
        (apply qj 20; exact rfl; kernel_rfl; kernel_rfl; kernel_rfl; exact rfl; (first | (apply qt; (iterate 3 exact rfl)) | (apply qu; (iterate 4 exact rfl))))
        refine qp [21] (by kernel_rfl) rfl ⟨⟨_, rfl, ?_⟩, trivial⟩
        (first | (apply qs; exact rfl; exact rfl; exact ho4; (iterate 6 exact rfl)) | (apply qx; (iterate 11 exact rfl)) | (apply qn; (iterate 11 exact rfl)))
        apply qa
        refine jh (by kernel_rfl) ?_
        exact ⟨rfl, rfl, jo PX g1 g2 g3 g4, (hkX.trans (jm g3 hleX g2 PX.h2 g4)).trans zz⟩
       ·(first | (refine qd Tryz.call88 (jb bk _ _ hbk (by omega) hbv) ?_) | (apply q5 (b := b) (xs := its.map zf) (ys := [zf ⟨KX, Lib.join bk [10] ++ [10], fs⟩]) (bytes := 48); exact rfl; exact rfl; exact PX.h2; exact hleX; (iterate 3 exact rfl); exact ⟨⟨_, _, rfl, rfl, rfl, rfl, rfl⟩⟩; exact rfl; (simp [maxLen]; omega); (simp; omega); intro t4 st4 g1 g2 g3 g4; have ho4 := (g3.same o (by omega) holX).trans hobX))
        apply qa
        (apply qj 11; exact rfl; kernel_rfl; kernel_rfl; kernel_rfl; exact rfl; (apply ko; exact rfl; exact rfl; (first | omega | (simp only [List.length_append, List.length_cons, List.length_nil]; omega))))
        (apply qj 16; exact rfl; kernel_rfl; kernel_rfl; kernel_rfl; exact rfl; (apply kz; (iterate 3 exact rfl)))
        refine qp [4, 17] (by kernel_rfl) rfl ⟨⟨_, rfl, ?_⟩, ⟨_, rfl, ?_⟩, trivial⟩
        ·(first | (apply qc; exact rfl; exact hobX; exact rfl; exact rfl; apply zo 44 rfl (zu PX.h4)) | (apply qc; exact rfl; exact hobX; exact rfl; exact rfl) | (apply qq; (iterate 5 exact rfl)) | (apply qh; (iterate 5 exact rfl)) | (apply qk; (iterate 3 exact rfl)))
         apply qa
         refine qp [17] (by kernel_rfl) rfl ⟨⟨_, rfl, ?_⟩, trivial⟩
         (apply qv; (iterate 9 exact rfl))
         apply qa
         refine qp [18] (by kernel_rfl) rfl ⟨⟨_, rfl, ?_⟩, trivial⟩
         (first | (refine qd Tryz.call88 (jb bk _ _ hbk (by omega) hbv) ?_) | (apply q5 (b := b) (xs := its.map zf) (ys := [zf ⟨KX, Lib.join bk [10] ++ [10], fs⟩]) (bytes := 48); exact rfl; exact rfl; exact PX.h2; exact hleX; (iterate 3 exact rfl); exact ⟨⟨_, _, rfl, rfl, rfl, rfl, rfl⟩⟩; exact rfl; (simp [maxLen]; omega); (simp; omega); intro t4 st4 g1 g2 g3 g4; have ho4 := (g3.same o (by omega) holX).trans hobX))
         apply qa
         (apply qj 19; exact rfl; kernel_rfl; kernel_rfl; kernel_rfl; exact rfl; (apply zh; exact rfl; exact rfl))
         (apply qj 20; exact rfl; kernel_rfl; kernel_rfl; kernel_rfl; exact rfl; (first | (apply qt; (iterate 3 exact rfl)) | (apply qu; (iterate 4 exact rfl))))
         refine qp [21] (by kernel_rfl) rfl ⟨⟨_, rfl, ?_⟩, trivial⟩
         (first | (apply qs; exact rfl; exact rfl; exact ho4; (iterate 6 exact rfl)) | (apply qx; (iterate 11 exact rfl)) | (apply qn; (iterate 11 exact rfl)))
         apply qa
         refine jh (by kernel_rfl) ?_
         exact ⟨rfl, rfl, jo PX g1 g2 g3 g4, (hkX.trans (jm g3 hleX g2 PX.h2 g4)).trans zz⟩
        ·(apply qv; (iterate 9 exact rfl))
         apply qa
         refine qp [4] (by kernel_rfl) rfl ⟨⟨_, rfl, ?_⟩, trivial⟩
         (first | (apply qc; exact rfl; exact hobX; exact rfl; exact rfl; apply zo 44 rfl (zu PX.h4)) | (apply qc; exact rfl; exact hobX; exact rfl; exact rfl) | (apply qq; (iterate 5 exact rfl)) | (apply qh; (iterate 5 exact rfl)) | (apply qk; (iterate 3 exact rfl)))
         apply qa
         refine qp [18] (by kernel_rfl) rfl ⟨⟨_, rfl, ?_⟩, trivial⟩
         (first | (refine qd Tryz.call88 (jb bk _ _ hbk (by omega) hbv) ?_) | (apply q5 (b := b) (xs := its.map zf) (ys := [zf ⟨KX, Lib.join bk [10] ++ [10], fs⟩]) (bytes := 48); exact rfl; exact rfl; exact PX.h2; exact hleX; (iterate 3 exact rfl); exact ⟨⟨_, _, rfl, rfl, rfl, rfl, rfl⟩⟩; exact rfl; (simp [maxLen]; omega); (simp; omega); intro t4 st4 g1 g2 g3 g4; have ho4 := (g3.same o (by omega) holX).trans hobX))
         apply qa
         (apply qj 19; exact rfl; kernel_rfl; kernel_rfl; kernel_rfl; exact rfl; (apply zh; exact rfl; exact rfl))
         (apply qj 20; exact rfl; kernel_rfl; kernel_rfl; kernel_rfl; exact rfl; (first | (apply qt; (iterate 3 exact rfl)) | (apply qu; (iterate 4 exact rfl))))
         refine qp [21] (by kernel_rfl) rfl ⟨⟨_, rfl, ?_⟩, trivial⟩
         (first | (apply qs; exact rfl; exact rfl; exact ho4; (iterate 6 exact rfl)) | (apply qx; (iterate 11 exact rfl)) | (apply qn; (iterate 11 exact rfl)))
         apply qa
         refine jh (by kernel_rfl) ?_
         exact ⟨rfl, rfl, jo PX g1 g2 g3 g4, (hkX.trans (jm g3 hleX g2 PX.h2 g4)).trans zz⟩
     ·(first | (apply qc; exact rfl; exact hobX; exact rfl; exact rfl; apply zo 44 rfl (zu PX.h4)) | (apply qc; exact rfl; exact hobX; exact rfl; exact rfl) | (apply qq; (iterate 5 exact rfl)) | (apply qh; (iterate 5 exact rfl)) | (apply qk; (iterate 3 exact rfl)))
      apply qa
      refine qp [4, 9] (by kernel_rfl) rfl ⟨⟨_, rfl, ?_⟩, ⟨_, rfl, ?_⟩, trivial⟩
      ·(first | (apply qc; exact rfl; exact hobX; exact rfl; exact rfl; apply zo 44 rfl (zu PX.h4)) | (apply qc; exact rfl; exact hobX; exact rfl; exact rfl) | (apply qq; (iterate 5 exact rfl)) | (apply qh; (iterate 5 exact rfl)) | (apply qk; (iterate 3 exact rfl)))
       apply qa
       refine qp [9] (by kernel_rfl) rfl ⟨⟨_, rfl, ?_⟩, trivial⟩
       (first | (apply qc; exact rfl; exact hobX; exact rfl; exact rfl; apply zo 44 rfl (zu PX.h4)) | (apply qc; exact rfl; exact hobX; exact rfl; exact rfl) | (apply qq; (iterate 5 exact rfl)) | (apply qh; (iterate 5 exact rfl)) | (apply qk; (iterate 3 exact rfl)))
       apply qa
       refine qp [10] (by kernel_rfl) rfl ⟨⟨_, rfl, ?_⟩, trivial⟩
       (first | (refine qd Tryz.call88 (jb bk _ _ hbk (by omega) hbv) ?_) | (apply q5 (b := b) (xs := its.map zf) (ys := [zf ⟨KX, Lib.join bk [10] ++ [10], fs⟩]) (bytes := 48); exact rfl; exact rfl; exact PX.h2; exact hleX; (iterate 3 exact rfl); exact ⟨⟨_, _, rfl, rfl, rfl, rfl, rfl⟩⟩; exact rfl; (simp [maxLen]; omega); (simp; omega); intro t4 st4 g1 g2 g3 g4; have ho4 := (g3.same o (by omega) holX).trans hobX))
       apply qa
       (apply qj 11; exact rfl; kernel_rfl; kernel_rfl; kernel_rfl; exact rfl; (apply ko; exact rfl; exact rfl; (first | omega | (simp only [List.length_append, List.length_cons, List.length_nil]; omega))))
       (apply qj 16; exact rfl; kernel_rfl; kernel_rfl; kernel_rfl; exact rfl; (apply kz; (iterate 3 exact rfl)))
       refine qp [17] (by kernel_rfl) rfl ⟨⟨_, rfl, ?_⟩, trivial⟩
       (apply qv; (iterate 9 exact rfl))
       apply qa
       refine qp [18] (by kernel_rfl) rfl ⟨⟨_, rfl, ?_⟩, trivial⟩
       (first | (refine qd Tryz.call88 (jb bk _ _ hbk (by omega) hbv) ?_) | (apply q5 (b := b) (xs := its.map zf) (ys := [zf ⟨KX, Lib.join bk [10] ++ [10], fs⟩]) (bytes := 48); exact rfl; exact rfl; exact PX.h2; exact hleX; (iterate 3 exact rfl); exact ⟨⟨_, _, rfl, rfl, rfl, rfl, rfl⟩⟩; exact rfl; (simp [maxLen]; omega); (simp; omega); intro t4 st4 g1 g2 g3 g4; have ho4 := (g3.same o (by omega) holX).trans hobX))
       apply qa
       (apply qj 19; exact rfl; kernel_rfl; kernel_rfl; kernel_rfl; exact rfl; (apply zh; exact rfl; exact rfl))
       (apply qj 20; exact rfl; kernel_rfl; kernel_rfl; kernel_rfl; exact rfl; (first | (apply qt; (iterate 3 exact rfl)) | (apply qu; (iterate 4 exact rfl))))
       refine qp [21] (by kernel_rfl) rfl ⟨⟨_, rfl, ?_⟩, trivial⟩
       (first | (apply qs; exact rfl; exact rfl; exact ho4; (iterate 6 exact rfl)) | (apply qx; (iterate 11 exact rfl)) | (apply qn; (iterate 11 exact rfl)))
       apply qa
       refine jh (by kernel_rfl) ?_
       exact ⟨rfl, rfl, jo PX g1 g2 g3 g4, (hkX.trans (jm g3 hleX g2 PX.h2 g4)).trans zz⟩
      ·(first | (apply qc; exact rfl; exact hobX; exact rfl; exact rfl; apply zo 44 rfl (zu PX.h4)) | (apply qc; exact rfl; exact hobX; exact rfl; exact rfl) | (apply qq; (iterate 5 exact rfl)) | (apply qh; (iterate 5 exact rfl)) | (apply qk; (iterate 3 exact rfl)))
       apply qa
       refine qp [4, 10] (by kernel_rfl) rfl ⟨⟨_, rfl, ?_⟩, ⟨_, rfl, ?_⟩, trivial⟩
       ·(first | (apply qc; exact rfl; exact hobX; exact rfl; exact rfl; apply zo 44 rfl (zu PX.h4)) | (apply qc; exact rfl; exact hobX; exact rfl; exact rfl) | (apply qq; (iterate 5 exact rfl)) | (apply qh; (iterate 5 exact rfl)) | (apply qk; (iterate 3 exact rfl)))
        apply qa
        refine qp [10] (by kernel_rfl) rfl ⟨⟨_, rfl, ?_⟩, trivial⟩
        (first | (refine qd Tryz.call88 (jb bk _ _ hbk (by omega) hbv) ?_) | (apply q5 (b := b) (xs := its.map zf) (ys := [zf ⟨KX, Lib.join bk [10] ++ [10], fs⟩]) (bytes := 48); exact rfl; exact rfl; exact PX.h2; exact hleX; (iterate 3 exact rfl); exact ⟨⟨_, _, rfl, rfl, rfl, rfl, rfl⟩⟩; exact rfl; (simp [maxLen]; omega); (simp; omega); intro t4 st4 g1 g2 g3 g4; have ho4 := (g3.same o (by omega) holX).trans hobX))
        apply qa
        (apply qj 11; exact rfl; kernel_rfl; kernel_rfl; kernel_rfl; exact rfl; (apply ko; exact rfl; exact rfl; (first | omega | (simp only [List.length_append, List.length_cons, List.length_nil]; omega))))
        (apply qj 16; exact rfl; kernel_rfl; kernel_rfl; kernel_rfl; exact rfl; (apply kz; (iterate 3 exact rfl)))
        refine qp [17] (by kernel_rfl) rfl ⟨⟨_, rfl, ?_⟩, trivial⟩
        (apply qv; (iterate 9 exact rfl))
        apply qa
        refine qp [18] (by kernel_rfl) rfl ⟨⟨_, rfl, ?_⟩, trivial⟩
        (first | (refine qd Tryz.call88 (jb bk _ _ hbk (by omega) hbv) ?_) | (apply q5 (b := b) (xs := its.map zf) (ys := [zf ⟨KX, Lib.join bk [10] ++ [10], fs⟩]) (bytes := 48); exact rfl; exact rfl; exact PX.h2; exact hleX; (iterate 3 exact rfl); exact ⟨⟨_, _, rfl, rfl, rfl, rfl, rfl⟩⟩; exact rfl; (simp [maxLen]; omega); (simp; omega); intro t4 st4 g1 g2 g3 g4; have ho4 := (g3.same o (by omega) holX).trans hobX))
        apply qa
        (apply qj 19; exact rfl; kernel_rfl; kernel_rfl; kernel_rfl; exact rfl; (apply zh; exact rfl; exact rfl))
        (apply qj 20; exact rfl; kernel_rfl; kernel_rfl; kernel_rfl; exact rfl; (first | (apply qt; (iterate 3 exact rfl)) | (apply qu; (iterate 4 exact rfl))))
        refine qp [21] (by kernel_rfl) rfl ⟨⟨_, rfl, ?_⟩, trivial⟩
        (first | (apply qs; exact rfl; exact rfl; exact ho4; (iterate 6 exact rfl)) | (apply qx; (iterate 11 exact rfl)) | (apply qn; (iterate 11 exact rfl)))
        apply qa
        refine jh (by kernel_rfl) ?_
        exact ⟨rfl, rfl, jo PX g1 g2 g3 g4, (hkX.trans (jm g3 hleX g2 PX.h2 g4)).trans zz⟩
       ·(first | (refine qd Tryz.call88 (jb bk _ _ hbk (by omega) hbv) ?_) | (apply q5 (b := b) (xs := its.map zf) (ys := [zf ⟨KX, Lib.join bk [10] ++ [10], fs⟩]) (bytes := 48); exact rfl; exact rfl; exact PX.h2; exact hleX; (iterate 3 exact rfl); exact ⟨⟨_, _, rfl, rfl, rfl, rfl, rfl⟩⟩; exact rfl; (simp [maxLen]; omega); (simp; omega); intro t4 st4 g1 g2 g3 g4; have ho4 := (g3.same o (by omega) holX).trans hobX))
        apply qa
        (apply qj 11; exact rfl; kernel_rfl; kernel_rfl; kernel_rfl; exact rfl; (apply ko; exact rfl; exact rfl; (first | omega | (simp only [List.length_append, List.length_cons, List.length_nil]; omega))))
        (apply qj 16; exact rfl; kernel_rfl; kernel_rfl; kernel_rfl; exact rfl; (apply kz; (iterate 3 exact rfl)))
        refine qp [4, 17] (by kernel_rfl) rfl ⟨⟨_, rfl, ?_⟩, ⟨_, rfl, ?_⟩, trivial⟩
        ·(first | (apply qc; exact rfl; exact hobX; exact rfl; exact rfl; apply zo 44 rfl (zu PX.h4)) | (apply qc; exact rfl; exact hobX; exact rfl; exact rfl) | (apply qq; (iterate 5 exact rfl)) | (apply qh; (iterate 5 exact rfl)) | (apply qk; (iterate 3 exact rfl)))
         apply qa
         refine qp [17] (by kernel_rfl) rfl ⟨⟨_, rfl, ?_⟩, trivial⟩
         (apply qv; (iterate 9 exact rfl))
         apply qa
         refine qp [18] (by kernel_rfl) rfl ⟨⟨_, rfl, ?_⟩, trivial⟩
         (first | (refine qd Tryz.call88 (jb bk _ _ hbk (by omega) hbv) ?_) | (apply q5 (b := b) (xs := its.map zf) (ys := [zf ⟨KX, Lib.join bk [10] ++ [10], fs⟩]) (bytes := 48); exact rfl; exact rfl; exact PX.h2; exact hleX; (iterate 3 exact rfl); exact ⟨⟨_, _, rfl, rfl, rfl, rfl, rfl⟩⟩; exact rfl; (simp [maxLen]; omega); (simp; omega); intro t4 st4 g1 g2 g3 g4; have ho4 := (g3.same o (by omega) holX).trans hobX))
         apply qa
         (apply qj 19; exact rfl; kernel_rfl; kernel_rfl; kernel_rfl; exact rfl; (apply zh; exact rfl; exact rfl))
         (apply qj 20; exact rfl; kernel_rfl; kernel_rfl; kernel_rfl; exact rfl; (first | (apply qt; (iterate 3 exact rfl)) | (apply qu; (iterate 4 exact rfl))))
         refine qp [21] (by kernel_rfl) rfl ⟨⟨_, rfl, ?_⟩, trivial⟩
         (first | (apply qs; exact rfl; exact rfl; exact ho4; (iterate 6 exact rfl)) | (apply qx; (iterate 11 exact rfl)) | (apply qn; (iterate 11 exact rfl)))
         apply qa
         refine jh (by kernel_rfl) ?_
         exact ⟨rfl, rfl, jo PX g1 g2 g3 g4, (hkX.trans (jm g3 hleX g2 PX.h2 g4)).trans zz⟩
        ·(apply qv; (iterate 9 exact rfl))
         apply qa
         refine qp [4] (by kernel_rfl) rfl ⟨⟨_, rfl, ?_⟩, trivial⟩
         (first | (apply qc; exact rfl; exact hobX; exact rfl; exact rfl; apply zo 44 rfl (zu PX.h4)) | (apply qc; exact rfl; exact hobX; exact rfl; exact rfl) | (apply qq; (iterate 5 exact rfl)) | (apply qh; (iterate 5 exact rfl)) | (apply qk; (iterate 3 exact rfl)))
         apply qa
         refine qp [18] (by kernel_rfl) rfl ⟨⟨_, rfl, ?_⟩, trivial⟩
         (first | (refine qd Tryz.call88 (jb bk _ _ hbk (by omega) hbv) ?_) | (apply q5 (b := b) (xs := its.map zf) (ys := [zf ⟨KX, Lib.join bk [10] ++ [10], fs⟩]) (bytes := 48); exact rfl; exact rfl; exact PX.h2; exact hleX; (iterate 3 exact rfl); exact ⟨⟨_, _, rfl, rfl, rfl, rfl, rfl⟩⟩; exact rfl; (simp [maxLen]; omega); (simp; omega); intro t4 st4 g1 g2 g3 g4; have ho4 := (g3.same o (by omega) holX).trans hobX))
         apply qa
         (apply qj 19; exact rfl; kernel_rfl; kernel_rfl; kernel_rfl; exact rfl; (apply zh; exact rfl; exact rfl))
         (apply qj 20; exact rfl; kernel_rfl; kernel_rfl; kernel_rfl; exact rfl; (first | (apply qt; (iterate 3 exact rfl)) | (apply qu; (iterate 4 exact rfl))))
         refine qp [21] (by kernel_rfl) rfl ⟨⟨_, rfl, ?_⟩, trivial⟩
         (first | (apply qs; exact rfl; exact rfl; exact ho4; (iterate 6 exact rfl)) | (apply qx; (iterate 11 exact rfl)) | (apply qn; (iterate 11 exact rfl)))
         apply qa
         refine jh (by kernel_rfl) ?_
         exact ⟨rfl, rfl, jo PX g1 g2 g3 g4, (hkX.trans (jm g3 hleX g2 PX.h2 g4)).trans zz⟩
    ·rintro ⟨t2, st2, df2⟩ ⟨h20, hd, hp2, hk2⟩
     simp only at h20 hd hp2 hk2
     subst hd
     obtain ⟨d1, d2, d3, d4, P2⟩ := hp2
     have hob2 : st2[o]? = some (.cells 0 148 [d1, Iv fr, Bv fu, d2, d3, d4, Iv rcX]) := P2.ob
     have ht2 : t2 = puts t2 [(0, .bx o 0 0)] := (qd8 (L := [(0, .bx o 0 0)]) ⟨h20, trivial⟩).symm
     rw [ht2]
     repeat' (first
      | apply qm
      | apply qe
      | apply qa
      | apply qi
      | apply qf
      | (apply qr; (iterate 3 exact rfl))
      | (apply zv; exact rfl; exact rfl)
      | apply qz
      | (apply qs; exact rfl; exact rfl; exact hob2; (iterate 6 exact rfl))
      | (apply qs; exact rfl; exact rfl; exact zw hob2; (iterate 6 exact rfl)))
     refine qo rfl (zm rfl) ⟨rfl, fun _ => ?_, hk2.trans (zz.trans zz)⟩
     rw [hcl]
     exact qj8 P2
end Go.Proofs.YtefmcijohgpfhaaGreatDoor
set_option maxRecDepth 100000
set_option linter.unusedVariables false
namespace Go.Pl
open Go Go.Proofs
def vm (p : PSt) (no : Int) (text : qb) : PSt := { p with lines := [text], frm := no, full := decide (p.fields.length = 40 ∨ (p.fields.length = 0 ∧ p.records = 400)) }
def jn (p : PSt) (no : Int) (text : qb) (ended : Bool) (kind : Int) : Option (Int × Int) × PSt :=
 if kind = 3 then
  if p.lines = [] then (some (no, 2), p)
  else if ended = true then (none, { p with lines := p.lines ++ [text] })
  else kh { p with lines := p.lines ++ [text] }
 else if kind = 1 then endP p
 else kh p
end Go.Pl
namespace Go.Proofs.YtefmcijohgpfhaaGreatDoor
open Go Go.Av Go.RowKit Go.Proofs Go.Pl
@[reducible] def lnO (no at' : Int) (text : qb) (ended : Bool) : AV := .ag [Iv no, Iv at', Sv text, Bv ended]
theorem qtz {rd : Option Nat} {N : Nat} {ops : Array Oper} {K : AS → Prop} {s : AS} {l : List Oper} (i : Nat) {sz len cap k : Nat} {T' : TypeId} {cs xs : List AV} {st loc : List AObj} (hs : s.st = st ++ loc) (hi : s.t i = .os (st.length + k) 0 0 len cap) (ho : loc[k]? = some (.cells 0 T' cs)) (hc : cs.length = cap * sz) (hlen : xs.length = len) (h0 : 0 < len) (hle : len ≤ cap) (hcm : cap ≤ maxLen) (hw : ∀ x ∈ xs, x.cells.length = sz) (hfl : flat xs = cs.take (len * sz))
  (h : AOps E rd N ops l K ⟨Av.put s.t i (.sl sz xs (some (st.length + k))), st ++ loc.set k (.tip len sz T'), s.df⟩) : AOps E rd N ops l K s :=
 qoe i hi (by rw [hs]; exact zn ho) hc hlen h0 hle hcm hw hfl (by rw [hs, xn]; exact h)
theorem qxz {b o t : Nat} {p : PSt} {st : List AObj} {c1 c2 c3 c4 : AV} {text : qb} {no : Int} {full : Bool} (P : ParS b o p st c1 c2 c3 c4) (g1 : st[t]? = some (.tip 1 1 9)) (g2 : b ≤ t) (g3 : ∀ ys, c3 ≠ .sl 1 ys (some t)) :
  Par b o { p with lines := [text], frm := no, full := full } (st.set o (parO (.sl 1 [Sv text] (some t)) c2 c3 c4 { p with lines := [text], frm := no, full := full })) := by
 have hlt := P.lt
 have hle := P.le
 refine ⟨.sl 1 [Sv text] (some t), c2, c3, c4, hlt, by simp; omega, ?_, j6 hlt (qgn (xs := [Sv text]) hlt g1 g2), j6 hlt P.h2, j6 hlt P.h3, j6 hlt P.h4, fun t' xs ys h1 h2 => ?_⟩
 ·have : o < st.length := by omega
  simp [this]
 ·simp only [AV.sl.injEq, Option.some.injEq, true_and] at h1
  rw [← h1.2] at h2
  exact g3 _ h2
theorem qwl {b o t : Nat} {p q : PSt} {st : List AObj} {c1 c2 c3 c4 : AV} {text : qb} {no : Int} {full : Bool} (P : ParS b o p st c1 c2 c3 c4) (g1 : st[t]? = some (.tip 1 1 9)) (g2 : b ≤ t) (g3 : ∀ ys, c3 ≠ .sl 1 ys (some t)) (hq : q = ⟨[text], no, full, p.items, p.block, p.fields, p.records⟩) :
  Par b o q (st.set o (.cells 0 148 [.sl 1 [Sv text] (some t), Iv no, Bv full, c2, c3, c4, Iv p.records])) := by
 subst hq
 exact qxz P g1 g2 g3
theorem qld {b : Nat} {st : List AObj} {sz : Nat} {T : TypeId} {xs ys : List AV} {c : AV} {t : Nat} (h : TipC b st sz T xs c) (hc : c = .sl sz ys (some t)) : t < st.length := by
 rcases h with ⟨_, h⟩ | ⟨t', h1, h2, _⟩
 ·rw [h] at hc; simp at hc
 ·rw [hc] at h1
  simp only [AV.sl.injEq, Option.some.injEq, true_and] at h1
  rw [h1.2]
  exact lt_of_getElem? h2
theorem qju {b o t : Nat} {p : PSt} {text : qb} {st st' : List AObj} {c1 c2 c3 c4 : AV} (P : ParS b o p st c1 c2 c3 c4) (g1 : st'[t]? = some (.tip (p.lines.map (fun x => Sv x) ++ [Sv text]).length 1 9)) (g2 : b ≤ t) (g3 : Fr st st' t) (g4 : c1 = .sl 1 (p.lines.map fun x => Sv x) (some t) ∨ st.length ≤ t) :
  Par b o { p with lines := p.lines ++ [text] } (st'.set o (parO (.sl 1 (p.lines.map (fun x => Sv x) ++ [Sv text]) (some t)) c2 c3 c4 p)) := by
 have hlt := P.lt
 have hle := P.le
 have hl := g3.len
 have e : (p.lines ++ [text]).map (fun x => Sv x) = p.lines.map (fun x => Sv x) ++ [Sv text] := by simp
 have hne : ∀ t' ys, c3 = .sl 1 ys (some t') → t' ≠ t := fun t' ys h1 e => by
  subst e
  rcases g4 with g4 | g4
  ·exact P.ne _ _ _ g4 h1
  ·have := qld P.h3 h1
   omega
 refine ⟨.sl 1 (p.lines.map (fun x => Sv x) ++ [Sv text]) (some t), c2, c3, c4, hlt, by simp; omega, ?_, ?_, ?_, ?_, ?_, ?_⟩
 ·have : o < st'.length := by omega
  simp [this]
 ·refine j6 hlt ?_
  rw [← e] at g1 ⊢
  exact qgn hlt g1 g2
 ·exact j6 hlt (qak g3 P.h1 g4 rfl P.h2)
 ·exact j6 hlt (qox g3 (fun t' h => hne t' _ h) P.h3)
 ·exact j6 hlt (qak g3 P.h1 g4 rfl P.h4)
 ·intro t' xs ys h1 h2
  simp only [AV.sl.injEq, Option.some.injEq, true_and] at h1
  exact hne t' _ h2 h1.2.symm
theorem qd4 {b o t : Nat} {p : PSt} {text : qb} {st st' : List AObj} {c1 c2 c3 c4 : AV} (P : ParS b o p st c1 c2 c3 c4) (g1 : st'[t]? = some (.tip (p.block.map (fun x => Sv x) ++ [Sv text]).length 1 9)) (g2 : b ≤ t) (g3 : Fr st st' t) (g4 : c3 = .sl 1 (p.block.map fun x => Sv x) (some t) ∨ st.length ≤ t) :
  Par b o { p with block := p.block ++ [text] } (st'.set o (parO c1 c2 (.sl 1 (p.block.map (fun x => Sv x) ++ [Sv text]) (some t)) c4 p)) := by
 have hlt := P.lt
 have hle := P.le
 have hl := g3.len
 have e : (p.block ++ [text]).map (fun x => Sv x) = p.block.map (fun x => Sv x) ++ [Sv text] := by simp
 have hne : ∀ t' ys, c1 = .sl 1 ys (some t') → t' ≠ t := fun t' ys h1 e => by
  subst e
  rcases g4 with g4 | g4
  ·exact P.ne _ _ _ h1 g4
  ·have := qld P.h1 h1
   omega
 refine ⟨c1, c2, .sl 1 (p.block.map (fun x => Sv x) ++ [Sv text]) (some t), c4, hlt, by simp; omega, ?_, ?_, ?_, ?_, ?_, ?_⟩
 ·have : o < st'.length := by omega
  simp [this]
 ·exact j6 hlt (qox g3 (fun t' h => hne t' _ h) P.h1)
 ·exact j6 hlt (qak g3 P.h3 g4 rfl P.h2)
 ·refine j6 hlt ?_
  rw [← e] at g1 ⊢
  exact qgn hlt g1 g2
 ·exact j6 hlt (qak g3 P.h3 g4 rfl P.h4)
 ·intro t' xs ys h1 h2
  simp only [AV.sl.injEq, Option.some.injEq, true_and] at h2
  exact hne t' _ h1 h2.2.symm
set_option maxHeartbeats 4000000 in
theorem q1i (b o : Nat) (p : PSt) (st : List AObj) (no at' : Int) (text : qb) (ended : Bool) (h : Par b o p st) : q7 E 135 [.bx o 0 0, lnO no at' text ended] st fun r st' => r = .tu [] ∧ Par b o (vm p no text) st' ∧ Keep b o st st' := by
 obtain ⟨c1, c2, c3, c4, P⟩ := h
 obtain ⟨ls, fr, fu, its, bk, fs, rc⟩ := p
 have hob : st[o]? = some (.cells 0 148 [c1, Iv fr, Bv fu, c2, c3, c4, Iv rc]) := P.ob
 have hl4 : lenA c4 = some (fs.map fldA).length := qg2 P.h4
 have hml : (fs.map fldA).length = fs.length := by simp
 have hle := P.le
 have hlt := P.lt
 refine q8 Tryz.func135 rfl (Nat.le_of_ble_eq_true rfl) ?_
 repeat' (first
  | (apply qae; (iterate 6 exact rfl); refine qtz 29 (k := 1) (sz := 1) (len := 1) (cap := 1) (xs := [Sv text]) (T' := 9) rfl rfl rfl rfl rfl (by omega) (Nat.le_refl _) (by decide) (by simp [AV.cells]) rfl ?_)
  | apply qm
  | apply qe
  | apply qa
  | apply qi
  | apply qf
  | (apply qw; (iterate 3 exact rfl))
  | (apply za; (iterate 4 exact rfl))
  | (apply xk; (first | assumption | omega))
  | (apply kv; (first | assumption | omega))
  | (apply ve; (first | assumption | omega))
  | (apply wz; (first | assumption | omega))
  | (apply j8; (iterate 4 exact rfl))
  | (apply kl <;> intro h)
  | (apply zg; exact rfl; first | (apply kc; (first | assumption | omega)) | (apply ka; (first | assumption | omega)) | (apply j9; (first | exact rfl | assumption)) | (apply ke; (first | exact rfl | assumption)) | (apply pk_t; (first | exact rfl | assumption)) | (apply pk_f; (first | exact rfl | assumption)))
  | (apply j7; (iterate 4 exact rfl))
  | (apply qr; (iterate 3 exact rfl))
  | (apply qh; (iterate 5 exact rfl))
  | (apply jq; (iterate 3 exact rfl))
  | (apply zv; exact rfl; exact rfl)
  | (apply qc; exact rfl; exact z6 hob; exact rfl; exact rfl)
  | (apply zy; exact rfl; exact hl4; exact rfl; exact rfl)
  | (apply qs; exact rfl; exact rfl; exact z6 hob; (iterate 6 exact rfl)))
 all_goals
  have g3 : ∀ ys, c3 ≠ .sl 1 ys (some (st.length + 1)) := fun ys e => by
   have := qld P.h3 e
   omega
 all_goals refine qo rfl (qaw rfl) ⟨rfl, qwl (text := text) (no := no) (t := st.length + 1) P.pre (zn rfl) (by omega) g3 ?_, (yv hle).trans zz⟩
 all_goals unfold vm
 ·have h1 : fs.length = 40 := by omega
  simp [h1]
 ·have h1 : fs.length = 0 := by omega
  simp [h1]
 ·have h1 : ¬ fs.length = 40 := by omega
  have h2 : ¬ fs.length = 0 := by omega
  simp [h1, h2]
set_option maxHeartbeats 4000000 in
theorem q1a (b o n : Nat) (p : PSt) (st : List AObj) (no at' : Int) (text : qb) (ended : Bool) (kind : Int) (h : Par b o p st) (hB : PB n p) (hs : n + 2 < 900000) (ht : text.length < 1000000) : q7 E 133 [.bx o 0 0, lnO no at' text ended, Iv kind] st fun r st' => r = errP (jn p no text ended kind).1 ∧ ((jn p no text ended kind).1 = none → Par b o (jn p no text ended kind).2 st') ∧ Keep b o st st' := by
  obtain ⟨c1, c2, c3, c4, P⟩ := h
  have hle := P.le
  have hlt := P.lt
  refine q8 Tryz.func133 rfl (Nat.le_of_ble_eq_true rfl) ?_
  by_cases hk3 : kind = 3
  · obtain ⟨ls, fr, fu, its, bk, fs, rc⟩ := p
    have hob : st[o]? = some (.cells 0 148 [c1, Iv fr, Bv fu, c2, c3, c4, Iv rc]) := P.ob
    have hl1 : lenA c1 = some (ls.map fun x => Sv x).length := qg2 P.h1
    have hml : (ls.map fun x => Sv x).length = ls.length := by simp
    have hlsn : ls.length ≤ n := hB.lines
    by_cases h0 : ls = []
    · have hz : (ls.map fun x => Sv x).length = 0 := by rw [h0]; rfl
      have hf : jn ⟨ls, fr, fu, its, bk, fs, rc⟩ no text ended kind = (some (no, 2), ⟨ls, fr, fu, its, bk, fs, rc⟩) := by
        unfold jn
        rw [if_pos hk3, if_pos h0]
      rw [hf]
      repeat' (first
        | apply qm
        | apply q4
        | apply qe
        | apply qa
        | apply qi
        | apply qf
        | (apply qw; (iterate 3 exact rfl))
        | (apply qg; exact rfl; first | (apply ze; (first | assumption | omega)) | (apply zd; (first | assumption | omega)) | (apply zc; (first | exact rfl | assumption)) | (apply zb; (first | exact rfl | assumption)) | (apply cd_n <;> intro h) | (apply cd_t; (first | exact rfl | assumption)) | (apply cd_f; (first | exact rfl | assumption)) | (apply cd_d <;> intro h) | (apply cd_s <;> intro h))
        | (apply q9; exact rfl; exact rfl)
        | (apply j7; (iterate 4 exact rfl))
        | (apply qr; (iterate 3 exact rfl))
        | (apply qh; (iterate 5 exact rfl))
        | (apply zv; exact rfl; exact rfl)
        | apply qz
        | (apply qd; exact Tryz.call134; exact qgu _ _ _)
        | (apply qc; exact rfl; exact z6 hob; exact rfl; exact rfl)
        | (apply zy; exact rfl; exact hl1; exact rfl; exact rfl))
      exact qo rfl (zm rfl) ⟨rfl, nofun, yv hle⟩
    · have hz : 0 < (ls.map fun x => Sv x).length := by rw [hml]; exact List.length_pos_iff.2 h0
      have P2 := P.pre (l := [.cells 0 129 (lnO no at' text ended).cells])
      have hl2 := P2.le
      have hol : o < (st ++ [AObj.cells 0 129 (lnO no at' text ended).cells]).length := by omega
      have hob2 := z6 (l := [AObj.cells 0 129 (lnO no at' text ended).cells]) hob
      have hlo : (st ++ [AObj.cells 0 129 (lnO no at' text ended).cells])[st.length + 0]? = some (.cells 0 129 (lnO no at' text ended).cells) := zn rfl
      repeat' (first
        | apply qm
        | apply q4
        | apply qe
        | apply qa
        | apply qi
        | apply qf
        | (apply qw; (iterate 3 exact rfl))
        | (apply qg; exact rfl; first | (apply ze; (first | assumption | omega)) | (apply zd; (first | assumption | omega)) | (apply zc; (first | exact rfl | assumption)) | (apply zb; (first | exact rfl | assumption)) | (apply cd_n <;> intro h) | (apply cd_t; (first | exact rfl | assumption)) | (apply cd_f; (first | exact rfl | assumption)) | (apply cd_d <;> intro h) | (apply cd_s <;> intro h))
        | (apply j7; (iterate 4 exact rfl))
        | (apply qr; (iterate 3 exact rfl))
        | (apply zv; exact rfl; exact rfl)
        | apply q6
        | (apply qc; exact rfl; exact z6 hob; exact rfl; exact rfl)
        | (apply zy; exact rfl; exact hl1; exact rfl; exact rfl))
      have hne : ∀ t4, (c1 = .sl 1 (ls.map fun x => Sv x) (some t4) ∨ (st ++ [AObj.cells 0 129 (lnO no at' text ended).cells]).length ≤ t4) → st.length + 0 ≠ t4 := fun t4 h e => by
        rcases h with h | h
        · have := qld P.h1 h
          omega
        · simp at h
          omega
      have hBl : PB (n + 1) ⟨ls ++ [text], fr, fu, its, bk, fs, rc⟩ := ⟨by omega, by simp; omega, fun s hs' => by
        rcases List.mem_append.1 hs' with h | h
        · exact hB.linesV s h
        · simp at h; subst h; exact ht, by have : its.length ≤ n := hB.items
                                           simp only; omega, by have : bk.length ≤ n := hB.block
                                                                simp only; omega, hB.blockV, by have : fs.length ≤ n := hB.fields
                                                                                                simp only; omega, hB.rec0, by have : rc ≤ (n : Int) := hB.rec1
                                                                                                                              simp only; omega⟩
      refine qe3 (fun s => s.t 0 = .bx o 0 0 ∧ s.t 4 = .bx (st.length + 0) 0 0 ∧ s.df = [] ∧ Par b o ⟨ls ++ [text], fr, fu, its, bk, fs, rc⟩ s.st ∧ Keep b o st s.st ∧ s.st[st.length + 0]? = some (.cells 0 129 (lnO no at' text ended).cells)) ?_ ?_
      · refine qca rfl rfl ?_
        (apply qj 0; exact rfl; kernel_rfl; kernel_rfl; kernel_rfl; exact rfl; exact ww)
        (apply qj 1; exact rfl; kernel_rfl; kernel_rfl; kernel_rfl; exact rfl; exact ww)
        (apply qj 2; exact rfl; kernel_rfl; kernel_rfl; kernel_rfl; exact rfl; (apply zh; exact rfl; exact rfl))
        (apply qj 3; exact rfl; kernel_rfl; kernel_rfl; kernel_rfl; exact rfl; (first | (apply qt; (iterate 3 exact rfl)) | (apply qu; (iterate 4 exact rfl))))
        (apply qj 4; exact rfl; kernel_rfl; kernel_rfl; kernel_rfl; exact rfl; (first | (apply qt; (iterate 3 exact rfl)) | (apply qu; (iterate 4 exact rfl))))
        (apply qj 6; exact rfl; kernel_rfl; kernel_rfl; kernel_rfl; exact rfl; (first | (apply qt; (iterate 3 exact rfl)) | (apply qu; (iterate 4 exact rfl))))
        refine qp [5, 7] (by kernel_rfl) rfl ⟨⟨_, rfl, ?_⟩, ⟨_, rfl, ?_⟩, trivial⟩
        · (first | (apply qc; exact rfl; exact hob2; exact rfl; exact rfl) | (apply qq; (iterate 5 exact rfl)) | (apply qh; (iterate 5 exact rfl)) | (apply qk; (iterate 3 exact rfl)))
          apply qa
          refine qp [7] (by kernel_rfl) rfl ⟨⟨_, rfl, ?_⟩, trivial⟩
          (first | (apply qc; exact rfl; exact hob2; exact rfl; exact rfl) | (apply qq; (iterate 5 exact rfl)) | (apply qh; (iterate 5 exact rfl)) | (apply qk; (iterate 3 exact rfl)))
          apply qa
          refine qp [8] (by kernel_rfl) rfl ⟨⟨_, rfl, ?_⟩, trivial⟩
          (apply qv; (iterate 9 exact rfl))
          apply qa
          refine qp [9] (by kernel_rfl) rfl ⟨⟨_, rfl, ?_⟩, trivial⟩
          (apply q5 (b := b) (xs := ls.map fun x => Sv x) (ys := [Sv text]) (bytes := 16); exact rfl; exact rfl; exact P2.h1; exact hl2; (iterate 3 exact rfl); exact ⟨⟨_, _, rfl, rfl, rfl, rfl, rfl⟩⟩; exact rfl; (simp [maxLen]; omega); (simp; omega); intro t4 st4 g1 g2 g3 g4; have ho4 := (g3.same o (by omega) hol).trans hob2; have hlo4 := (g3.same (st.length + 0) (hne t4 g4) (lt_of_getElem? hlo)).trans hlo)
          apply qa
          (apply qj 10; exact rfl; kernel_rfl; kernel_rfl; kernel_rfl; exact rfl; (apply zh; exact rfl; exact rfl))
          (apply qj 11; exact rfl; kernel_rfl; kernel_rfl; kernel_rfl; exact rfl; (first | (apply qt; (iterate 3 exact rfl)) | (apply qu; (iterate 4 exact rfl))))
          (apply qj 12; exact rfl; kernel_rfl; kernel_rfl; kernel_rfl; exact rfl; (first | (apply qt; (iterate 3 exact rfl)) | (apply qu; (iterate 4 exact rfl))))
          refine qp [13] (by kernel_rfl) rfl ⟨⟨_, rfl, ?_⟩, trivial⟩
          (first | (apply qs; exact rfl; exact rfl; exact ho4; (iterate 6 exact rfl)) | (apply qx; (iterate 11 exact rfl)) | (apply qn; (iterate 11 exact rfl)))
          apply qa
          refine jh (by kernel_rfl) ?_
          exact ⟨rfl, rfl, rfl, qju P2 g1 g2 g3 g4, ((yv hle).trans (jm g3 hl2 g2 P2.h1 g4)).trans zz, zk hlo4 (by omega)⟩
        · (first | (apply qc; exact rfl; exact hob2; exact rfl; exact rfl) | (apply qq; (iterate 5 exact rfl)) | (apply qh; (iterate 5 exact rfl)) | (apply qk; (iterate 3 exact rfl)))
          apply qa
          refine qp [5, 8] (by kernel_rfl) rfl ⟨⟨_, rfl, ?_⟩, ⟨_, rfl, ?_⟩, trivial⟩
          · (first | (apply qc; exact rfl; exact hob2; exact rfl; exact rfl) | (apply qq; (iterate 5 exact rfl)) | (apply qh; (iterate 5 exact rfl)) | (apply qk; (iterate 3 exact rfl)))
            apply qa
            refine qp [8] (by kernel_rfl) rfl ⟨⟨_, rfl, ?_⟩, trivial⟩
            (apply qv; (iterate 9 exact rfl))
            apply qa
            refine qp [9] (by kernel_rfl) rfl ⟨⟨_, rfl, ?_⟩, trivial⟩
            (apply q5 (b := b) (xs := ls.map fun x => Sv x) (ys := [Sv text]) (bytes := 16); exact rfl; exact rfl; exact P2.h1; exact hl2; (iterate 3 exact rfl); exact ⟨⟨_, _, rfl, rfl, rfl, rfl, rfl⟩⟩; exact rfl; (simp [maxLen]; omega); (simp; omega); intro t4 st4 g1 g2 g3 g4; have ho4 := (g3.same o (by omega) hol).trans hob2; have hlo4 := (g3.same (st.length + 0) (hne t4 g4) (lt_of_getElem? hlo)).trans hlo)
            apply qa
            (apply qj 10; exact rfl; kernel_rfl; kernel_rfl; kernel_rfl; exact rfl; (apply zh; exact rfl; exact rfl))
            (apply qj 11; exact rfl; kernel_rfl; kernel_rfl; kernel_rfl; exact rfl; (first | (apply qt; (iterate 3 exact rfl)) | (apply qu; (iterate 4 exact rfl))))
            (apply qj 12; exact rfl; kernel_rfl; kernel_rfl; kernel_rfl; exact rfl; (first | (apply qt; (iterate 3 exact rfl)) | (apply qu; (iterate 4 exact rfl))))
            refine qp [13] (by kernel_rfl) rfl ⟨⟨_, rfl, ?_⟩, trivial⟩
            (first | (apply qs; exact rfl; exact rfl; exact ho4; (iterate 6 exact rfl)) | (apply qx; (iterate 11 exact rfl)) | (apply qn; (iterate 11 exact rfl)))
            apply qa
            refine jh (by kernel_rfl) ?_
            exact ⟨rfl, rfl, rfl, qju P2 g1 g2 g3 g4, ((yv hle).trans (jm g3 hl2 g2 P2.h1 g4)).trans zz, zk hlo4 (by omega)⟩
          · (apply qv; (iterate 9 exact rfl))
            apply qa
            refine qp [5] (by kernel_rfl) rfl ⟨⟨_, rfl, ?_⟩, trivial⟩
            (first | (apply qc; exact rfl; exact hob2; exact rfl; exact rfl) | (apply qq; (iterate 5 exact rfl)) | (apply qh; (iterate 5 exact rfl)) | (apply qk; (iterate 3 exact rfl)))
            apply qa
            refine qp [9] (by kernel_rfl) rfl ⟨⟨_, rfl, ?_⟩, trivial⟩
            (apply q5 (b := b) (xs := ls.map fun x => Sv x) (ys := [Sv text]) (bytes := 16); exact rfl; exact rfl; exact P2.h1; exact hl2; (iterate 3 exact rfl); exact ⟨⟨_, _, rfl, rfl, rfl, rfl, rfl⟩⟩; exact rfl; (simp [maxLen]; omega); (simp; omega); intro t4 st4 g1 g2 g3 g4; have ho4 := (g3.same o (by omega) hol).trans hob2; have hlo4 := (g3.same (st.length + 0) (hne t4 g4) (lt_of_getElem? hlo)).trans hlo)
            apply qa
            (apply qj 10; exact rfl; kernel_rfl; kernel_rfl; kernel_rfl; exact rfl; (apply zh; exact rfl; exact rfl))
            (apply qj 11; exact rfl; kernel_rfl; kernel_rfl; kernel_rfl; exact rfl; (first | (apply qt; (iterate 3 exact rfl)) | (apply qu; (iterate 4 exact rfl))))
            (apply qj 12; exact rfl; kernel_rfl; kernel_rfl; kernel_rfl; exact rfl; (first | (apply qt; (iterate 3 exact rfl)) | (apply qu; (iterate 4 exact rfl))))
            refine qp [13] (by kernel_rfl) rfl ⟨⟨_, rfl, ?_⟩, trivial⟩
            (first | (apply qs; exact rfl; exact rfl; exact ho4; (iterate 6 exact rfl)) | (apply qx; (iterate 11 exact rfl)) | (apply qn; (iterate 11 exact rfl)))
            apply qa
            refine jh (by kernel_rfl) ?_
            exact ⟨rfl, rfl, rfl, qju P2 g1 g2 g3 g4, ((yv hle).trans (jm g3 hl2 g2 P2.h1 g4)).trans zz, zk hlo4 (by omega)⟩
      · rintro ⟨t2, st2, df2⟩ ⟨h20, h24, hd, hp2, hk2, hlx⟩
        simp only at h20 h24 hd hp2 hk2 hlx
        subst hd
        have ht2 : t2 = puts t2 [(0, .bx o 0 0), (4, .bx (st.length + 0) 0 0)] := (qd8 (L := [(0, .bx o 0 0), (4, .bx (st.length + 0) 0 0)]) ⟨h20, h24, trivial⟩).symm
        rw [ht2]
        cases ended
        · have hf : jn ⟨ls, fr, fu, its, bk, fs, rc⟩ no text false kind = kh ⟨ls ++ [text], fr, fu, its, bk, fs, rc⟩ := by
            unfold jn
            rw [if_pos hk3, if_neg h0, if_neg (by simp)]
          rw [hf]
          repeat' (first
            | apply qm
            | apply qe
            | apply qa
            | apply qi
            | (apply qg; exact rfl; first | (apply ze; (first | assumption | omega)) | (apply zd; (first | assumption | omega)) | (apply zc; (first | exact rfl | assumption)) | (apply zb; (first | exact rfl | assumption)) | (apply cd_n <;> intro h) | (apply cd_t; (first | exact rfl | assumption)) | (apply cd_f; (first | exact rfl | assumption)) | (apply cd_d <;> intro h) | (apply cd_s <;> intro h))
            | (apply qr; (iterate 3 exact rfl))
            | apply q6
            | (apply qc; exact rfl; exact hlx; exact rfl; exact rfl))
          refine xy Tryz.call136 ((qoo b o _ st2 (n + 1) hp2 hBl).mono ?_)
          rintro _ st1 ⟨rfl, hp, hk⟩
          show AOps _ _ _ _ _ _ _
          repeat' (first
            | apply qa
            | apply qf
            | apply qz)
          exact qo rfl (zm rfl) ⟨rfl, hp, hk2.trans hk⟩
        · have hf : jn ⟨ls, fr, fu, its, bk, fs, rc⟩ no text true kind = (none, ⟨ls ++ [text], fr, fu, its, bk, fs, rc⟩) := by
            unfold jn
            rw [if_pos hk3, if_neg h0, if_pos rfl]
          rw [hf]
          repeat' (first
            | apply qm
            | apply qe
            | apply qa
            | apply qf
            | (apply qg; exact rfl; first | (apply ze; (first | assumption | omega)) | (apply zd; (first | assumption | omega)) | (apply zc; (first | exact rfl | assumption)) | (apply zb; (first | exact rfl | assumption)) | (apply cd_n <;> intro h) | (apply cd_t; (first | exact rfl | assumption)) | (apply cd_f; (first | exact rfl | assumption)) | (apply cd_d <;> intro h) | (apply cd_s <;> intro h))
            | (apply qr; (iterate 3 exact rfl))
            | apply qz
            | (apply qc; exact rfl; exact hlx; exact rfl; exact rfl))
          exact qo rfl (zm rfl) ⟨rfl, fun _ => hp2, hk2⟩
  · by_cases hk1 : kind = 1
    · have hf : jn p no text ended kind = endP p := by
        unfold jn
        rw [if_neg hk3, if_pos hk1]
      rw [hf]
      repeat' (first
        | apply qm
        | apply q4
        | apply qe
        | apply qa
        | apply qi
        | apply qf
        | (apply qw; (iterate 3 exact rfl))
        | (apply qg; exact rfl; first | (apply ze; (first | assumption | omega)) | (apply zd; (first | assumption | omega)) | (apply zc; (first | exact rfl | assumption)) | (apply zb; (first | exact rfl | assumption)) | (apply cd_n <;> intro h) | (apply cd_t; (first | exact rfl | assumption)) | (apply cd_f; (first | exact rfl | assumption)) | (apply cd_d <;> intro h) | (apply cd_s <;> intro h))
        | (apply j7; (iterate 4 exact rfl)))
      refine xy Tryz.call93 ((qxy b o n p _ ⟨c1, c2, c3, c4, P.pre⟩ hB (by omega)).mono ?_)
      rintro _ st1 ⟨rfl, hp, hk⟩
      show AOps _ _ _ _ _ _ _
      repeat' (first
        | apply qa
        | apply qf
        | apply qz)
      exact qo rfl (zm rfl) ⟨rfl, hp, (yv hle).trans hk⟩
    · have hf : jn p no text ended kind = kh p := by
        unfold jn
        rw [if_neg hk3, if_neg hk1]
      rw [hf]
      repeat' (first
        | apply qm
        | apply q4
        | apply qe
        | apply qa
        | apply qi
        | apply qf
        | (apply qw; (iterate 3 exact rfl))
        | (apply qg; exact rfl; first | (apply ze; (first | assumption | omega)) | (apply zd; (first | assumption | omega)) | (apply zc; (first | exact rfl | assumption)) | (apply zb; (first | exact rfl | assumption)) | (apply cd_n <;> intro h) | (apply cd_t; (first | exact rfl | assumption)) | (apply cd_f; (first | exact rfl | assumption)) | (apply cd_d <;> intro h) | (apply cd_s <;> intro h))
        | (apply j7; (iterate 4 exact rfl))
        | apply q6)
      refine xy Tryz.call136 ((qoo b o p _ n ⟨c1, c2, c3, c4, P.pre⟩ hB).mono ?_)
      rintro _ st1 ⟨rfl, hp, hk⟩
      show AOps _ _ _ _ _ _ _
      repeat' (first
        | apply qa
        | apply qf
        | apply qz)
      exact qo rfl (zm rfl) ⟨rfl, hp, (yv hle).trans hk⟩
end Go.Proofs.YtefmcijohgpfhaaGreatDoor
