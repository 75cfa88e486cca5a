/- Contracts and plain facts that the closing text leans on (part 3). No condition of their own beyond those that each states. -/
import Derived.Test.YtefmcijohgpfhaaGreatDoorK2
import Derived.Deep.Slices
import Derived.Deep.Fields
import Derived.WideKeyArgs
import Derived.Lib.ItoaLen
set_option maxRecDepth 100000
set_option linter.unusedVariables false
set_option linter.unusedSimpArgs false
set_option linter.unusedVariables false
namespace Go.Av
open Go Go.RowKit
section
variable {E : Env} {N : Nat} {ops : Array Oper} {K : AS → Prop} {s : AS} {rest : List Oper} {d : Option Tmp} {T : TypeId} {p : String} {af : Array Edge}
theorem qnu {B0 : Nat} {w0 : World} {G : Gh} {a : Act} {w : World} (hI : Inv B0 w0 N G s a w) {oj : Oper} {j e : Nat} {b : Bool} (hj : ops[j]? = some oj) (hd : oj.dst = some e) (hN : Nat.blt e N = true) (hb : s.t e = .v (.bool b)) : yielded ops a.tmps j = some b := by
 have hd' : e < a.tmps.size := by rw [hI.size]; simpa [Nat.blt_eq] using hN
 have hr := hI.tmps e a.tmps[e] (by simp [hd'])
 have hv : a.tmps[e]? = some (.bool b) := by
  rw [hb] at hr
  have : a.tmps[e] = .bool b := by generalize a.tmps[e] = v at hr; cases hr; rfl
  simp [hd', this]
 simp [yielded, hj, hd, hv]
theorem qd7 {op : Op} {oj : Oper} {j e : Nat} {want b : Bool} (hj : ops[j]? = some oj) (hd : oj.dst = some e) (hN : Nat.blt e N = true) (hb : s.t e = .v (.bool b)) (hw : b = want)
  (h : AQ E N ops (⟨d, op, T, p, af, none⟩ :: rest) K s) : AQ E N ops (⟨d, op, T, p, af, some (j, want)⟩ :: rest) K s := by
 refine ⟨fun B0 w0 G a w hL hI Q hQ => ?_⟩
 have hy := qnu hI hj hd hN hb
 have h' := h.run B0 w0 G a w hL hI Q hQ
 unfold wpQuietIn at h' ⊢
 refine ⟨fun _ _ _ _ => trivial, ?_⟩
 have h2 := h'.2
 rw [if_pos (by simp [Region.wanted])] at h2
 rw [if_pos (by simp [Region.wanted, hy, hw])]
 exact h2
theorem qgu {op : Op} {oj : Oper} {j e : Nat} {want b : Bool} (hj : ops[j]? = some oj) (hd : oj.dst = some e) (hN : Nat.blt e N = true) (hb : s.t e = .v (.bool b)) (hw : b = !want)
  (h : AQ E N ops rest K (s.put d (.v undef))) : AQ E N ops (⟨d, op, T, p, af, some (j, want)⟩ :: rest) K s := by
 refine ⟨fun B0 w0 G a w hL hI Q hQ => ?_⟩
 have hy := qnu hI hj hd hN hb
 unfold wpQuietIn
 refine ⟨fun _ _ _ _ => trivial, ?_⟩
 rw [if_neg (by simp [Region.wanted, hy, hw])]
 refine h.run B0 w0 G _ w hL (hI.put (.refl G) hI.agree d (.v _)) Q fun s' a' hI' hst hK => hQ s' a' hI' ?_ hK
 rw [hst]
 cases d <;> rfl
theorem qly {c x y : Operand} {b : Bool} (hc : qz N s c = .v (.bool b)) (hb : b = true) (h : AQ E N ops rest K (s.put d (qz N s x))) : AQ E N ops (⟨d, .pick c x y, T, p, af, none⟩ :: rest) K s :=
 qal rfl nofun fun _ _ G a w _ hI => ⟨a.eval x, qz N s x, fun w' _ => by
  have := hI.evalv hc
  have hx : a.eval x = a.eval x := rfl
  subst hb
  generalize a.eval = ρ at this
  simp [execOp, this, asBool], hI.eval x, h⟩
theorem qg4 {c x y : Operand} {b : Bool} (hc : qz N s c = .v (.bool b)) (hb : b = false) (h : AQ E N ops rest K (s.put d (qz N s y))) : AQ E N ops (⟨d, .pick c x y, T, p, af, none⟩ :: rest) K s :=
 qal rfl nofun fun _ _ G a w _ hI => ⟨a.eval y, qz N s y, fun w' _ => by
  have := hI.evalv hc
  subst hb
  generalize a.eval = ρ at this
  simp [execOp, this, asBool], hI.eval y, h⟩
theorem qjj {x : Operand} {t : TypeId} {sz : Nat} {agg : Bool} {o ver off : Nat} {T' : TypeId} {cs : List AV} {r : AV} (hx : qz N s x = .bx o ver off) (ho : s.st[o]? = some (.cells ver T' cs)) (ht : tyOf E.P t = some (sz, agg)) (hr : vq sz agg off cs = some r)
  (h : AQ E N ops rest K (s.put d r)) : AQ E N ops (⟨d, .load t x, T, p, af, none⟩ :: rest) K s := by
 refine qal rfl nofun fun B0 w0 G a w _ hI => ?_
 have he := hI.eval_of hx
 generalize hv : a.eval x = v at he
 cases he with
 | bx _ _ _ b hn hv' hb =>
  obtain ⟨_, h1, h2, h3, c, h4, h5, h6⟩ := hI.agree.ob o _ ho
  have hb := hb h1
  subst hb
  have hlt : (G.ob o).blk < w.heap.size := by
   rcases Nat.lt_or_ge (G.ob o).blk w.heap.size with h' | h'
   ·exact h'
   ·rw [Array.getElem?_eq_none h'] at h4; simp at h4
  -- the value is read out of the cells, whatever is drawn behind them
  have key : ∀ w', Below w.heap.size w w' → ∃ v, (loadVar t ⟨(G.ob o).blk, off, none⟩).run E.P w' = .ok v w' ∧ Rel G r v := fun w' hw' => by
   have h4' : w'.heap[(G.ob o).blk]? = some (.cells c T' (0, 0)) := by rw [hw'.block _ hlt]; exact h4
   exact qab (w := w') (G := G) (b := (G.ob o).blk) (off := off) (off' := off) ht (fun i x hx hi => by
    obtain ⟨y, hy⟩ := v8 hx (Nat.le_of_eq h5)
    refine ⟨y, ?_, h6 i x y hx hy⟩
    simp [World.cell?, h4', show off + (i - off) = i by omega, hy]) hr
  have hsame : ∀ w', Below w.heap.size w w' → ∀ v, (loadVar t ⟨(G.ob o).blk, off, none⟩).run E.P w = .ok v w → (loadVar t ⟨(G.ob o).blk, off, none⟩).run E.P w' = .ok v w' := fun w' hw' v hr1 => by
   obtain ⟨i1, i2⟩ := wa ht w
   obtain ⟨j1, j2⟩ := wa ht w'
   have hc : ∀ k, w'.cell? ⟨(G.ob o).blk, k, none⟩ = w.cell? ⟨(G.ob o).blk, k, none⟩ := fun k => by simp [World.cell?, hw'.block _ hlt]
   obtain ⟨v', h1', _⟩ := key w' hw'
   rw [h1']
   congr 1
   cases agg with
   | false =>
    simp only [vq, cond_false] at hr
    obtain ⟨y, hy⟩ := v8 hr (Nat.le_of_eq h5)
    have e1 : w.cell? ⟨(G.ob o).blk, off, none⟩ = some y := by simp [World.cell?, h4, hy]
    have e2 : w'.cell? ⟨(G.ob o).blk, off, none⟩ = some y := by rw [hc, e1]
    simp [loadVar, i2, run_load, e1] at hr1
    simp [loadVar, j2, run_load, e2] at h1'
    rw [← h1', hr1]
   | true =>
    simp only [vq, cond_true] at hr
    cases hb2 : Nat.ble (off + sz) cs.length with
    | false => rw [hb2] at hr; simp at hr
    | true =>
     have hle : off + sz ≤ cs.length := Nat.le_of_ble_eq_true hb2
     have e1 : ∀ j, j < sz → w.cell? ⟨(G.ob o).blk, off + j, none⟩ = some (c.getD (off + j) undef) := fun j hj => by
      have : off + j < c.size := by omega
      simp [World.cell?, h4, this]
     have e2 : ∀ j, j < sz → w'.cell? ⟨(G.ob o).blk, off + j, none⟩ = some (c.getD (off + j) undef) := fun j hj => by rw [hc, e1 j hj]
     have l1 := run_loadCells (P := E.P) (w := w) ⟨(G.ob o).blk, off, none⟩ sz (fun j => c.getD (off + j) undef) (fun j hj => by rw [Addr.add_lit]; exact e1 j hj)
     have l2 := run_loadCells (P := E.P) (w := w') ⟨(G.ob o).blk, off, none⟩ sz (fun j => c.getD (off + j) undef) (fun j hj => by rw [Addr.add_lit]; exact e2 j hj)
     simp [loadVar, i1, i2, l1] at hr1
     simp [loadVar, j1, j2, l2] at h1'
     rw [← h1', hr1]
  obtain ⟨v, hrun, hR⟩ := key w (Below.refl _ _)
  exact ⟨v, r, fun w' hw' => by simp only [execOp, hv, Instr.loadAt, Instr.sureAddr]; simp [hsame w' hw' v hrun], hR, h⟩
theorem qee {f : FuncId} {xs : Array Operand} {ts : Array TypeId} {args : List AV} {r : AV} {v : Value} (hok : qu0 E) (hrun : ∀ vs w, (callFunc f vs).run E.P w = .ok (.enter f vs) w)
  (hxs : xs.toList.map (qz N s) = args) (hp : ∀ x ∈ args, Pure x) (hs : Sure r v) (hpr : ∀ G, Rel G r v) (hc : zr E f args [] fun a st1 => a = r ∧ st1 = [])
  (h : AQ E N ops rest K (s.put d r)) : AQ E N ops (⟨d, .call ⟨.value (.func f), xs, ts⟩, T, p, af, none⟩ :: rest) K s := by
 refine ⟨fun B0 w0 G a w hL hI Q hQ => ?_⟩
 refine ⟨fun _ _ _ _ => trivial, ?_⟩
 simp only [Region.wanted]
 refine ⟨v, fun w' hw' => ?_, ?_⟩
 ·have hr : (execOp a.eval ⟨d, .call ⟨.value (.func f), xs, ts⟩, T, p, af, none⟩).run E.P w' = .ok (.enter f (xs.map a.eval)) w' := by
   have he : a.eval (.func f) = .func (.func f) #[] #[] := rfl
   generalize a.eval = ρ at he
   simp [execOp, resolve, Deferred.ofValue, he, invoke, hrun]
  have hrl := qbp hI xs
  rw [hxs] at hrl
  unfold Oper.quietAtIn
  rw [hr]
  refine ⟨rfl, fun h => by simp [fw, Fence.wide] at h, qfw ?_⟩
  have hb : Below B0 w0 w' := hI.agree.below.trans (hw'.mono hI.agree.hB)
  have hB : B0 ≤ w'.heap.size := Nat.le_trans hI.agree.hB hw'.size
  have hA' := hI.agree.fresh hw'
  refine (hc.run w'.heap.size w' ⟨G.pub, G.ob, 0⟩ (xs.map a.eval) w' (hok B0 w0 w' hL hb hB) ⟨Below.refl _ _, Nat.le_refl _, rfl, hA'.pub, nofun, nofun⟩ ⟨hrl.1, fun i x y hx hy => ?_⟩).mono ?_
  ·exact hp x (List.mem_of_getElem? hx) G _ y (fun b vs hb => ⟨[], by simpa using hb⟩) (hrl.2 i x y hx hy)
  ·rintro e w'' ⟨u, G', r', st', rfl, hG, hA, hR, rfl, rfl⟩
   rw [hs G' u hR]
   exact ⟨rfl, hw'.trans (hA.below.mono hw'.size)⟩
 ·refine h.run B0 w0 G _ w hL (hI.put (.refl G) hI.agree d (hpr G)) Q fun s' a' hI' hst hK => hQ s' a' hI' ?_ hK
  rw [hst]
  cases d <;> rfl
end
end Go.Av
set_option linter.unusedVariables false
namespace Go.Av
open Go Go.RowKit
section
variable {E : Env} {rd : Option Nat} {N : Nat} {ops : Array Oper} {K : AS → Prop} {s : AS} {rest : List Oper} {d : Option Tmp} {T : TypeId} {p : String} {af : Array Edge}
theorem qcw {x : Operand} {t : TypeId} {sz : Nat} {agg : Bool} {st loc : List AObj} {k ver off : Nat} {T' : TypeId} {cs : List AV} {r : AV} (hs : s.st = st ++ loc) (hx : qz N s x = .bx (st.length + k) ver off) (ho : loc[k]? = some (.cells ver T' cs)) (ht : tyOf E.P t = some (sz, agg)) (hr : vq sz agg off cs = some r)
  (h : AQ E N ops rest K (s.put d r)) : AQ E N ops (⟨d, .load t x, T, p, af, none⟩ :: rest) K s :=
 qjj hx (by rw [hs]; exact zw ho) ht hr h
end
end Go.Av
set_option maxRecDepth 100000
set_option linter.unusedVariables false
namespace Go.Proofs.YtefmcijohgpfhaaGreatDoor
open Go Go.Av Go.RowKit Go.Proofs Go.Pl
structure qcz where
 kind : Int
 key : qk
 text : qk
 lo : Int
 hi : Int
abbrev FldV := qk × qk
@[reducible] def fldA (f : FldV) : AV := .ag [Sv f.1, Sv f.2]
@[reducible] def jd (l : List FldV) : AV := .sl 2 (l.map fldA) none
def qu3 (r : qcz) : Prop := 1 ≤ r.kind ∧ r.kind ≤ 7 ∧ (r.kind = 6 ∨ xl r.key)
instance (r : qcz) : Decidable (qu3 r) := inferInstanceAs (Decidable (_ ∧ _ ∧ _))
def qpp (l : qk) : List qk := if l = [] then [] else z0 l
theorem qsi (xs : List qk) : Pure (.sl 1 (xs.map fun x => Sv x) none) := qdz fun x hx => by
 simp only [List.mem_map] at hx
 obtain ⟨l, _, rfl⟩ := hx
 intro y hy
 simp [AV.cells] at hy
 subst hy
 exact jn _
def qie (r : qcz) (n : Int) : Prop := r.lo ≤ n ∧ n ≤ r.hi
instance (r : qcz) (n : Int) : Decidable (qie r n) := inferInstanceAs (Decidable (_ ∧ _))
def qps (r : qcz) (l : qk) : Prop := ∃ n, numZ l = some n ∧ qie r n
instance (r : qcz) (l : qk) : Decidable (qps r l) :=
 match h : numZ l with
 | some n => decidable_of_iff (qie r n) ⟨fun h' => ⟨n, h, h'⟩, fun ⟨m, h1, h2⟩ => by rw [h] at h1; cases h1; exact h2⟩
 | none => .isFalse fun ⟨m, h1, _⟩ => by rw [h] at h1; cases h1
def qs6 (r : qcz) (f : FldV) : Prop :=
 (r.kind = 3 → f.1 = r.key → qps r f.2) ∧ (r.kind = 4 → f.1 = r.key → f.2 ∈ qpp r.text) ∧ (r.kind = 5 → f.1 = r.key → qie r f.2.length) ∧ (r.kind = 6 → f.1 ∈ qpp r.text)
instance (r : qcz) (f : FldV) : Decidable (qs6 r f) := inferInstanceAs (Decidable (_ ∧ _ ∧ _ ∧ _))
end Go.Proofs.YtefmcijohgpfhaaGreatDoor
set_option maxRecDepth 100000
set_option linter.unusedVariables false
namespace Go.Proofs.YtefmcijohgpfhaaGreatDoor
open Go Go.Av Go.RowKit Go.Proofs Go.Pl
theorem qfv {xs : List FldV} {k : Nat} (hk : k < xs.length) : (xs.map fldA)[k]? = some (fldA (xs.getD k ([], []))) := by
 simp [List.getD, hk]
def qs3 (key : qk) (xs : List FldV) : List qk := (xs.filter fun f => f.1 = key).map Prod.snd
end Go.Proofs.YtefmcijohgpfhaaGreatDoor
set_option maxRecDepth 100000
set_option linter.unusedVariables false
namespace Go.Proofs.YtefmcijohgpfhaaGreatDoor
open Go Go.Av Go.RowKit Go.Proofs Go.Pl
def qvg (r : qcz) (xs : List FldV) : Prop := qu3 r ∧ ((r.kind = 1 ∧ (qs3 r.key xs).length = 0) ∨ (r.kind = 2 ∧ 1 < (qs3 r.key xs).length) ∨ (r.kind ≠ 1 ∧ r.kind ≠ 2 ∧ xs.any (fun f => !decide (qs6 r f)) = true))
instance (r : qcz) (xs : List FldV) : Decidable (qvg r xs) := inferInstanceAs (Decidable (_ ∧ (_ ∨ _ ∨ _)))
end Go.Proofs.YtefmcijohgpfhaaGreatDoor
set_option linter.unusedVariables false
namespace Go.Av
open Go Go.RowKit Go.WideShapes Go.ChangeShapes Go.Deep
def RelK (G : Gh) (us : List AV) (cs : List Value) : Prop := us.length = cs.length ∧ ∀ (i : Nat) (x : AV) (y : Value), us[i]? = some x → cs[i]? = some y → Rel G x y
theorem RelK.one {G : Gh} {a : AV} {v : Value} (h : RelK G [a] [v]) : Rel G a v := h.2 0 a v rfl rfl
def fieldsOf (P : Program) (t : TypeId) : Array Field := match P.underlying t with | some (.struct fs) => fs | _ => #[]
end Go.Av
set_option maxRecDepth 100000
set_option linter.unusedVariables false
namespace Go.Proofs.YtefmcijohgpfhaaGreatDoor
open Go Go.Av Go.RowKit Go.Proofs Go.Pl
theorem y5 (l w : List UInt8) (st : List AObj) : zr E 40 [Sv l, Sv w] st fun r st' => r = Bv (decide (w <+: l)) ∧ st' = st := by
 refine z4 (jn _) (zp Tryz.func40 rfl (Nat.le_of_ble_eq_true rfl) ?_)
 repeat' (first
  | apply qr
  | apply qe
  | apply qa
  | apply qn
  | apply qf
  | (apply qt; (iterate 3 exact rfl))
  | (apply kw; (iterate 3 exact rfl))
  | (apply zh; (iterate 4 exact rfl))
  | (apply xc; (first | assumption | omega))
  | (apply yz; (first | assumption | omega))
  | (apply wc <;> intro h)
  | (apply zk; exact rfl; first | (apply jx; (first | assumption | omega)) | (apply jw; (first | assumption | omega)) | (apply jy; (first | exact rfl | assumption)) | (apply jv; (first | exact rfl | assumption)) | (apply pk_t; (first | exact rfl | assumption)) | (apply pk_f; (first | exact rfl | assumption)))
  | (apply j4; (iterate 3 exact rfl))
  | (apply qbv; (iterate 3 exact rfl); first | assumption | omega | (simp; omega))
  | apply q9)
 all_goals refine qs rfl (zt rfl) ⟨congrArg Bv (?_ : (_ : Bool) = _), _, rfl⟩
 ·have e : w <+: l ↔ l.take w.length = w := by
   rw [List.prefix_iff_eq_take]
   exact ⟨fun h => h.symm, fun h => h.symm⟩
  exact decide_eq_decide.2 e.symm
 ·refine (decide_eq_false fun h => ?_).symm
  have := h.length_le
  omega
structure z8 where
 kind : Int
 id : Int
 fields : List FldV
@[reducible] def kc (e : z8) : AV := .ag [Iv e.kind, Iv e.id, jd e.fields]
def wo (k : Int) : qk := if k = 1 then [32, 114, 101, 112, 108, 97, 99, 101, 32] else if k = 2 then [32, 100, 101, 108, 101, 116, 101, 32] else if k = 3 then [32, 105, 110, 115, 101, 114, 116, 32] else []
def vc (e : z8) : qk := if 1 ≤ e.kind ∧ e.kind ≤ 3 then wo e.kind ++ Lib.itoa e.id else []
theorem qlz (e : z8) (st : List AObj) (h1 : -9223372036854775808 ≤ e.id) (h2 : e.id ≤ 9223372036854775807) : zr E 42 [kc e] st fun r st' => r = Sv (vc e) ∧ st' = st := by
 refine z4 (jn _) (zp Tryz.func42 rfl (Nat.le_of_ble_eq_true rfl) ?_)
 have hn := Lib.itoa_length_le e.id h1 h2
 repeat' (first
  | apply qr
  | apply qe
  | apply qa
  | apply qf
  | (apply qt; (iterate 3 exact rfl))
  | (apply qg; exact rfl; first | (apply zd; (first | assumption | omega)) | (apply zf; (first | assumption | omega)) | (apply ze; (first | exact rfl | assumption)) | (apply zg; (first | exact rfl | assumption)) | (apply cd_n <;> intro h) | (apply cd_t; (first | exact rfl | assumption)) | (apply cd_f; (first | exact rfl | assumption)) | (apply cd_d <;> intro h) | (apply cd_s <;> intro h))
  | (apply kl; exact rfl; exact rfl; (first | omega | (simp only [List.length_append, List.length_cons, List.length_nil]; omega) | (simp; omega)))
  | (apply ky; (iterate 4 exact rfl))
  | (apply za; (iterate 3 exact rfl))
  | (apply qx; (iterate 5 exact rfl))
  | apply q8
  | apply q9
  | (apply qi; exact Tryz.call82; exact qdc _ _ h1 h2))
 all_goals refine qs rfl (zt rfl) ⟨congrArg (fun l : qk => Sv l) (?_ : _ = vc e), _, rfl⟩
 all_goals simp_all [vc, wo]
 all_goals omega
def yw (k : Int) : qk := if k = 1 then [114, 101, 112, 108, 97, 99, 101] else if k = 2 then [100, 101, 108, 101, 116, 101] else if k = 3 then [105, 110, 115, 101, 114, 116] else []
theorem qjt (k : Int) (st : List AObj) : zr E 75 [Iv k] st fun r st' => r = Sv (yw k) ∧ st' = st := by
 refine z4 (jn _) (zp Tryz.func75 rfl (Nat.le_of_ble_eq_true rfl) ?_)
 repeat' (first
  | apply qr
  | apply q7
  | apply qe
  | apply qa
  | apply qn
  | apply qf
  | (apply qt; (iterate 3 exact rfl))
  | (apply qg; exact rfl; first | (apply zd; (first | assumption | omega)) | (apply zf; (first | assumption | omega)) | (apply ze; (first | exact rfl | assumption)) | (apply zg; (first | exact rfl | assumption)) | (apply cd_n <;> intro h) | (apply cd_t; (first | exact rfl | assumption)) | (apply cd_f; (first | exact rfl | assumption)) | (apply cd_d <;> intro h) | (apply cd_s <;> intro h))
  | apply q8
  | apply q9)
 all_goals refine qs rfl (zt rfl) ⟨congrArg (fun l : qk => Sv l) (?_ : _ = yw k), _, rfl⟩
 all_goals simp_all [yw]
theorem qs4 (k : Int) : (yw k).length ≤ 7 := by
 unfold yw
 repeat' split
 all_goals simp
theorem qpj (k : Int) : wo k = if yw k = [] then [] else [32] ++ yw k ++ [32] := by
 unfold wo yw
 repeat' split
 all_goals simp_all
theorem qtm (k : Int) : yw k = [] ↔ ¬ (1 ≤ k ∧ k ≤ 3) := by
 unfold yw
 repeat' split
 all_goals simp_all
 omega
theorem qwh (e : z8) (st : List AObj) (h1 : -9223372036854775808 ≤ e.id) (h2 : e.id ≤ 9223372036854775807) : zr E 48 [kc e] st fun r st' => r = Sv (vc e) ∧ st' = st := by
 refine z4 (jn _) (zp Tryz.func48 rfl (Nat.le_of_ble_eq_true rfl) ?_)
 have hn := Lib.itoa_length_le e.id h1 h2
 have hw := qs4 e.kind
 have ho := qpj e.kind
 have hz := qtm e.kind
 repeat' (first
  | apply qr
  | apply qe
  | apply qa
  | apply qn
  | apply qf
  | (apply kw; (iterate 3 exact rfl))
  | (apply qg; exact rfl; first | (apply zd; (first | assumption | omega)) | (apply zf; (first | assumption | omega)) | (apply ze; (first | exact rfl | assumption)) | (apply zg; (first | exact rfl | assumption)) | (apply cd_n <;> intro h) | (apply cd_t; (first | exact rfl | assumption)) | (apply cd_f; (first | exact rfl | assumption)) | (apply cd_d <;> intro h) | (apply cd_s <;> intro h))
  | (apply kl; exact rfl; exact rfl; (first | omega | (simp only [List.length_append, List.length_cons, List.length_nil]; omega) | (simp; omega)))
  | (apply ky; (iterate 4 exact rfl))
  | (apply za; (iterate 3 exact rfl))
  | (apply qx; (iterate 5 exact rfl))
  | apply q8
  | apply q9
  | (apply qi; exact Tryz.call75; exact qjt _ _)
  | (apply qi; exact Tryz.call87; exact qv7 _ _ h1 h2))
 all_goals refine qs rfl (zt rfl) ⟨congrArg (fun l : qk => Sv l) (?_ : _ = vc e), _, rfl⟩
 all_goals unfold vc
 ·rw [if_neg (by simp_all)]
 ·rw [if_pos (by simp_all), ho, if_neg (by assumption)]
end Go.Proofs.YtefmcijohgpfhaaGreatDoor
set_option linter.unusedVariables false
namespace Go.Av
open Go Go.RowKit
def noop (o : Oper) : Oper := { o with op := .move (.const undef), guard := none }
section
variable {F : Fence} {n : Nat} {P : Program} {ops ops' : Array Oper} {md : Region.Mode} {C : World → Prop} {Q : Exit → Act → World → Prop} {k : Nat} {o : Oper}
theorem qfh {listed : Array Bool} : ∀ k, listed.getD k true = false → ∃ j, j ≤ k ∧ listed.getD j true = false ∧ ∀ i, i < j → listed.getD i true = true := by
 intro k
 induction k using Nat.strongRecOn with
 | _ k ih =>
  intro h
  by_cases hall : ∀ i, i < k → listed.getD i true = true
  ·exact ⟨k, Nat.le_refl _, h, hall⟩
  ·have ⟨i, hi⟩ := Classical.not_forall.1 hall
   have ⟨hi1, hi2⟩ := Classical.not_imp.1 hi
   obtain ⟨j, h1, h2, h3⟩ := ih i hi1 (by simpa using hi2)
   exact ⟨j, by omega, h2, h3⟩
theorem ql8 {listed : Array Bool} {i : Nat} (h : listed.getD i true = true) (hi : i < listed.size) : listed.getD i false = true := by
 simp [Array.getD, hi] at h ⊢
 exact h
theorem qot {listed : Array Bool} {i : Nat} (h : listed.getD i true = false) (h2 : listed.getD i false = true) : False := by
 unfold Array.getD at h h2
 by_cases hi : i < listed.size
 ·rw [dif_pos hi] at h h2
  rw [h] at h2
  cases h2
 ·rw [dif_neg hi] at h
  cases h
theorem qin {listed : Array Bool} {j : Nat} (hsz : listed.size = ops.size) (hord : ∀ (j : Nat) o, ops[j]? = some o → ∀ e ∈ o.after, e.on < j) (hj : listed.getD j true = false) (hall : ∀ i, i < j → listed.getD i true = true) : j ∈ Region.ready md ops listed := by
 have hlt : j < listed.size := by
  rcases Nat.lt_or_ge j listed.size with h | h
  ·exact h
  ·simp [Array.getD, Nat.not_lt.2 h] at hj
 rw [mem_ready]
 have ho : ops[j]? = some ops[j] := Array.getElem?_eq_getElem (by omega)
 exact ⟨hj, _, ho, fun e he _ => ql8 (hall _ (hord j _ ho e he)) (by have := hord j _ ho e he; omega)⟩
theorem qgg {listed : Array Bool} (hs : ops.size = ops'.size) (hk : ops[k]? = some o) (hk' : ops'[k]? = some (noop o)) (hoth : ∀ j, j ≠ k → ops'[j]? = ops[j]?) : Region.ready md ops' listed = Region.ready md ops listed := by
 unfold Region.ready
 rw [hs]
 refine List.filter_congr fun i _ => ?_
 by_cases h : i = k
 ·subst h; rw [hk, hk']; rfl
 ·rw [hoth i h]
theorem qnl (hd : o.dst = none) (hk : ops[k]? = some o) (hk' : ops'[k]? = some (noop o)) (hoth : ∀ j, j ≠ k → ops'[j]? = ops[j]?) (t : Array Value) : yielded ops' t = yielded ops t := by
 funext j
 unfold yielded
 by_cases h : j = k
 ·subst h; rw [hk, hk']; simp [noop, hd]
 ·rw [hoth j h]
theorem qhm (hro : F.round = none) (hsz : ops.size = ops'.size) (hk : ops[k]? = some o) (hk' : ops'[k]? = some (noop o)) (hoth : ∀ j, j ≠ k → ops'[j]? = ops[j]?) (hd : o.dst = none)
  (hord : ∀ (j : Nat) o, ops[j]? = some o → ∀ e ∈ o.after, e.on < j) (hcov : ∀ j, j < ops.size → j ≠ k → ∃ e ∈ o.after, Region.binds md e = true ∧ e.on = j) :
  ∀ (fuel : Nat) (listed : Array Bool) (a : Act) (w : World), C w → listed.size = ops.size → listed.getD k true = false → wpAnyQIn F n P md ops' C (fun a => ∀ w, C w → wpOpIn F n P ops Q k (Q .normal) a w) fuel listed a → wpAnyIn F n P md ops Q fuel listed a w
 | 0, listed, a, w, hC, hs, hun, h => by
  have ⟨j, _, h2, h3⟩ := qfh k hun
  have := qin (md := md) hs hord h2 h3
  rw [← qgg hsz hk hk' hoth, h.1] at this
  cases this
 | fuel + 1, listed, a, w, hC, hs, hun, h => by
  obtain ⟨hq1, hq2⟩ := h
  rw [qgg hsz hk hk' hoth] at hq1 hq2
  refine ⟨fun h0 => ?_, fun i hi => ?_⟩
  ·have ⟨j, _, h2, h3⟩ := qfh k hun
   have := qin (md := md) hs hord h2 h3
   rw [h0] at this
   cases this
  ·have hqi := hq2 i hi
   by_cases hik : i = k
   ·subst hik
    obtain ⟨_, o', ho', hall⟩ := mem_ready.1 hi
    rw [hk] at ho'
    cases ho'
    have hr : Region.ready md ops (listed.setIfInBounds i true) = [] := by
     rw [List.eq_nil_iff_forall_not_mem]
     intro j hj
     obtain ⟨hju, oj, hoj, _⟩ := mem_ready.1 hj
     have hjs : j < ops.size := by
      rcases Nat.lt_or_ge j ops.size with h | h
      ·exact h
      ·rw [Array.getElem?_eq_none h] at hoj; cases hoj
     by_cases hji : j = i
     ·subst hji
      simp [Array.getD, hs, hjs] at hju
     ·obtain ⟨e, he, hb, heq⟩ := hcov j hjs hji
      have h5 := hall e he hb
      rw [heq] at h5
      rw [getD_set_ne true (Ne.symm hji)] at hju
      exact qot hju h5
    unfold qOpIn at hqi
    rw [hk'] at hqi
    simp only at hqi
    have hqe := hqi.2
    have hwn : Region.wanted (noop o) (yielded ops' a.tmps) = true := by simp [noop, Region.wanted]
    rw [if_pos hwn] at hqe
    obtain ⟨v, _, hK⟩ := hqe
    have hput : a.put (noop o).dst v = a := by simp [noop, hd, Act.put]
    rw [hput] at hK
    have hQ' : ∀ w, C w → wpOpIn F n P ops Q i (Q .normal) a w := by
     cases fuel with
     | zero => exact hK.2
     | succ fuel => exact hK.1 (by rw [qgg hsz hk hk' hoth]; exact hr)
    exact wpOpIn_mono (fun a' w' h' => wpAnyIn_done hr h' _) (hQ' w hC)
   ·have he : qOpIn F n P ops C i (wpAnyQIn F n P md ops' C (fun a => ∀ w, C w → wpOpIn F n P ops Q k (Q .normal) a w) fuel (listed.setIfInBounds i true)) a := by
     unfold qOpIn at hqi ⊢
     rw [hoth i hik] at hqi
     rw [← qnl hd hk hk' hoth]
     exact hqi
    refine wpOpIn_of_qOpIn hro hC (fun a' w' hC' hX => qhm hro hsz hk hk' hoth hd hord hcov fuel _ a' w' hC' (by simpa using hs) ?_ hX) he
    rw [getD_set_ne true hik]
    exact hun
def qbs {α : Type} : List α → Option (List α × α)
 | [] => none
 | [x] => some ([], x)
 | x :: y :: r => match qbs (y :: r) with
  | some (l, o) => some (x :: l, o)
  | none => none
theorem qho {α : Type} : ∀ {L l : List α} {o : α}, qbs L = some (l, o) → L = l ++ [o]
 | [], _, _, h => by simp [qbs] at h
 | [x], _, _, h => by simp [qbs] at h; obtain ⟨rfl, rfl⟩ := h; rfl
 | x :: y :: r, l, o, h => by
  unfold qbs at h
  split at h
  ·rename_i l' o' he
   simp only [Option.some.injEq, Prod.mk.injEq] at h
   obtain ⟨rfl, rfl⟩ := h
   rw [qho he]
   rfl
  ·simp at h
def qpr (o : Oper) (k : Nat) : Bool := (List.range k).all fun j => o.after.toList.any fun e => Region.binds .any e && Nat.beq e.on j
def qmv (ops : List Oper) : Bool := (List.range ops.length).all fun j => match ops[j]? with | some o => o.after.toList.all fun e => Nat.blt e.on j | none => true
end
section
variable {E : Env} {N : Nat} {s : AS}
theorem ql2 {id : Nat} {L l : List Oper} {o : Oper} {Q : Exit → AS → Prop} (hsp : qbs L = some (l, o)) (hd : o.dst = none) (hcov : qpr o l.length = true) (hord : qmv L = true) (hm : E.P.follows .mixedOrders = true) (hB : Region.lexB .any (l ++ [noop o]).toArray = true)
  (h : AQ E N (l ++ [noop o]).toArray l (fun s' => AOps E none N L.toArray [o] (Q .normal) s') s) : AWp E none N (.region id L.toArray true) Q s := by
 have hLe := qho hsp
 subst hLe
 refine ⟨fun B0 w0 G a w hL hI => ?_⟩
 have hB2 := hB
 simp only [Region.lexB, Bool.and_eq_true] at hB2
 have hk : (l ++ [o]).toArray[l.length]? = some o := by simp
 have hk' : (l ++ [noop o]).toArray[l.length]? = some (noop o) := by simp
 have hoth : ∀ j, j ≠ l.length → (l ++ [noop o]).toArray[j]? = (l ++ [o]).toArray[j]? := fun j hj => by
  simp only [List.getElem?_toArray]
  rcases Nat.lt_or_ge j l.length with h | h
  ·rw [List.getElem?_append_left h, List.getElem?_append_left h]
  ·rw [List.getElem?_eq_none (by simp; omega), List.getElem?_eq_none (by simp; omega)]
 have hordP : ∀ (j : Nat) o', (l ++ [o]).toArray[j]? = some o' → ∀ e ∈ o'.after, e.on < j := fun j o' hj e he => by
  simp only [qmv, List.all_eq_true, List.mem_range] at hord
  simp only [List.getElem?_toArray] at hj
  have h1 := hord j (lt_of_getElem? hj)
  rw [hj] at h1
  simp only at h1
  have h2 := List.all_eq_true.1 h1 e (by simpa using he)
  exact Nat.le_of_ble_eq_true h2
 have hcovP : ∀ j, j < (l ++ [o]).toArray.size → j ≠ l.length → ∃ e ∈ o.after, Region.binds .any e = true ∧ e.on = j := fun j hj hne => by
  simp only [qpr, List.all_eq_true, List.mem_range] at hcov
  have h1 := hcov j (by simp at hj; omega)
  obtain ⟨e, he, h2⟩ := List.any_eq_true.1 h1
  simp only [Bool.and_eq_true] at h2
  exact ⟨e, by simpa using he, h2.1, Nat.eq_of_beq_eq_true h2.2⟩
 have hBl : Below w.heap.size w { w with drawn := w.drawn + 1 } := ⟨rfl, rfl, rfl, Nat.le_refl _, fun _ _ => rfl⟩
 refine wpIn_region_any hm (qhm (C := fun w' => Below w.heap.size w w') (ops' := (l ++ [noop o]).toArray) (k := l.length) rfl (by simp) hk hk' hoth hd hordP hcovP _ _ _ _ hBl (by simp) (by simp [Array.getD]) ?_)
 have hq : wpQuietIn (fw none) 0 E.P (l ++ [noop o]).toArray (fun w' => Below w.heap.size w w') (fun a => ∀ w', Below w.heap.size w w' → wpOpIn (fw none) 0 E.P (l ++ [o]).toArray (fun e a' w' => ∃ (G' : Gh) (s' : AS), G.le G' ∧ Inv B0 w0 N G' s' a' w' ∧ Q e s') l.length (fun a' w' => ∃ (G' : Gh) (s' : AS), G.le G' ∧ Inv B0 w0 N G' s' a' w' ∧ Q .normal s') a w') (l ++ [noop o]) a := by
  have step : ∀ (l1 : List Oper) (a : Act) (X : Act → Prop), wpQuietIn (fw none) 0 E.P (l ++ [noop o]).toArray (fun w' => Below w.heap.size w w') X l1 a → wpQuietIn (fw none) 0 E.P (l ++ [noop o]).toArray (fun w' => Below w.heap.size w w') X (l1 ++ [noop o]) a := by
   intro l1
   induction l1 with
   | nil =>
    intro a X hX
    refine ⟨fun _ _ _ hf => ?_, ?_⟩
    ·simp [Oper.about, noop] at hf
    ·have hwn : Region.wanted (noop o) (yielded (l ++ [noop o]).toArray a.tmps) = true := by simp [noop, Region.wanted]
     rw [if_pos hwn]
     refine ⟨undef, fun w' _ => ?_, ?_⟩
     ·unfold Oper.quietAtIn
      simp [noop, execOp, Oper.quietUponIn, Act.eval]
     ·have hput : a.put (noop o).dst undef = a := by simp [noop, hd, Act.put]
      rw [hput]
      exact hX
   | cons o1 l1 ih =>
    intro a X hX
    refine ⟨hX.1, ?_⟩
    have h2 := hX.2
    split
    ·rename_i hw
     rw [if_pos hw] at h2
     obtain ⟨v, h3, h4⟩ := h2
     exact ⟨v, h3, ih _ _ h4⟩
    ·rename_i hw
     rw [if_neg hw] at h2
     exact ih _ _ h2
  refine step l a _ (h.run B0 w0 G a w hL hI _ fun s' a' hI' hst hks w' hw' => ?_)
  have hI2 : Inv B0 w0 N G s' a' w' := ⟨hI'.agree.fresh hw', hI'.defers, hI'.size, hI'.tmps⟩
  have hr := hks.run B0 w0 G a' w' hL hI2 (fun e a' w' => ∃ (G' : Gh) (s' : AS), G.le G' ∧ Inv B0 w0 N G' s' a' w' ∧ Q e s') (fun G' s'' a'' w'' hG hI3 hQ => ⟨G', s'', hG, hI3, hQ⟩)
  unfold wpOpIn
  rw [hk]
  exact hr
 have := wpAnyQIn_lex (F := fw none) (n := 0) (C := fun w' => Below w.heap.size w w') (md := .any) hB2.1 (l ++ [noop o]) 0 (Array.replicate (l ++ [noop o]).length false) a (by simp) (by simpa using hB2.2) hq
 simpa using this
variable {ops : Array Oper} {K : AS → Prop} {rest : List Oper} {d : Option Tmp} {T : TypeId} {p : String} {af : Array Edge}
theorem qb0 {x y : Operand} {t t' : TypeId} {m n : List UInt8} (hx : qz N s x = Sv m) (hy : qz N s y = Sv n) (hl : m.length + n.length < 9223372036854775808)
  (h : AQ E N ops rest K (s.put d (Sv (m ++ n)))) : AQ E N ops (⟨d, .binOp .add t x y t', T, p, af, none⟩ :: rest) K s :=
 xu _ rfl nofun (fun a w he => by
  simp only [execOp, he _ _ hx, he _ _ hy, eqGuard_at_string, binOp, Op.stringOp, xy, qgy, IntKind.max_i64]
  rw [if_neg (by omega)]
  simp) h
theorem qpu {op : BinOp} {x y : Operand} {t t' : TypeId} {k : IntKind} {m n : Int} {b : Bool} (hx : qz N s x = .v (.int k m)) (hy : qz N s y = .v (.int k n)) (hb : cmpI op m n = some b)
  (h : AQ E N ops rest K (s.put d (Bv b))) : AQ E N ops (⟨d, .binOp op t x y t', T, p, af, none⟩ :: rest) K s :=
 xu _ rfl nofun (fun a w he => by
  cases op <;> simp only [cmpI, Option.some.injEq, reduceCtorEq] at hb <;> subst hb <;> simp [execOp, he _ _ hx, he _ _ hy, eqGuard_at_int, binOp, Op.intCmp, ← Bool.beq_eq_decide_eq, bne]) h
theorem vx {x y : Operand} {t e : TypeId} {sz : Nat} {agg : Bool} {xs : List AV} {tip : Option Nat} {k : IntKind} {i : Int} {n : Nat} {z : AV} (hx : qz N s x = .sl sz xs tip) (hy : qz N s y = .v (.int k i)) (hu : E.P.underlying t = some (.slice e)) (ht : tyOf E.P e = some (sz, agg)) (hi : i = n) (hz : xs[n]? = some z)
  (h : AQ E N ops rest K (s.put d (.pp z.cells))) : AQ E N ops (⟨d, .indexAddr t x y, T, p, af, none⟩ :: rest) K s := by
 refine qal rfl nofun fun B0 w0 G a w _ hI => ?_
 subst hi
 have he := hI.eval_of hx
 have hey := hI.evalv hy
 generalize hv : a.eval x = v at he
 have hlt := lt_of_getElem? hz
 cases he with
 | sl0 => simp at hz
 | sl _ _ _ b off cap pub hp hw hlen hrel htip hcap =>
  have hzs : z.cells.length = sz := hw z (List.mem_of_getElem? hz)
  have hfl := vr hw
  have hle : (n + 1) * sz ≤ xs.length * sz := Nat.mul_le_mul_right _ hlt
  rw [Nat.succ_mul] at hle
  refine ⟨.pointer (some ⟨b, off + n * sz, none⟩), .pp z.cells, fun w' _ => ?_, ?_, h⟩
  ·generalize a.eval = ρ at hv hey
   simp only [execOp, hv, hey]
   simp [Instr.indexAt, asIntOf, run_underlying hu, hlt, (wa ht w').1, Addr.add_lit]
  ·refine .pp _ b _ pub hp (by omega) fun j q r h1 h2 => ?_
   have hj : j < sz := by have := lt_of_getElem? h1; omega
   have hf := qje hw hz j hj
   exact hrel (n * sz + j) q r (by rw [hf]; exact h1) (by rw [← h2]; congr 1; omega)
theorem qer {x y : Operand} {t e : TypeId} {sz : Nat} {agg : Bool} {o ver off len cp : Nat} {k : IntKind} {i : Int} {n : Nat} (hx : qz N s x = .os o ver off len cp) (hy : qz N s y = .v (.int k i)) (hu : E.P.underlying t = some (.slice e)) (ht : tyOf E.P e = some (sz, agg)) (hi : i = n) (hn : n < len)
  (h : AQ E N ops rest K (s.put d (.bx o ver (off + n * sz)))) : AQ E N ops (⟨d, .indexAddr t x y, T, p, af, none⟩ :: rest) K s := by
 refine qal rfl nofun fun B0 w0 G a w _ hI => ?_
 subst hi
 have he := hI.eval_of hx
 have hey := hI.evalv hy
 generalize hv : a.eval x = v at he
 cases he with
 | os _ _ _ _ b cap hn' hver hb =>
  refine ⟨.pointer (some ⟨b, off + n * sz, none⟩), _, fun w' _ => ?_, .bx o ver _ b hn' hver hb, h⟩
  generalize a.eval = ρ at hv hey
  simp only [execOp, hv, hey]
  simp [Instr.indexAt, asIntOf, run_underlying hu, hn, (wa ht w').1, Addr.add_lit]
theorem qb8 {t : TypeId} {x : Operand} {f off sz : Nat} {agg : Bool} {o ver q : Nat} (hx : qz N s x = .bx o ver q) (hf : qaq E.P t f = some (off, sz, agg)) (hsz : Nat.beq sz 0 = false)
  (h : AQ E N ops rest K (s.put d (.bx o ver (q + off)))) : AQ E N ops (⟨d, .fieldAddr t x f, T, p, af, none⟩ :: rest) K s := by
 refine qal rfl nofun fun B0 w0 G a w _ hI => ?_
 have he := hI.eval_of hx
 generalize hv : a.eval x = v at he
 cases he with
 | bx _ _ _ b hn hv' hb =>
  have hs : sz ≠ 0 := fun e => by subst e; simp at hsz
  exact ⟨_, _, fun w' _ => by simp only [execOp, hv]; simp [qar hf hs], .bx o ver _ b hn hv' hb, h⟩
theorem wk {t : TypeId} {x : Operand} {f off sz : Nat} {agg : Bool} {cs : List AV} (hx : qz N s x = .pp cs) (hf : qaq E.P t f = some (off, sz, agg)) (hsz : Nat.beq sz 0 = false) (hle : Nat.ble off cs.length = true)
  (h : AQ E N ops rest K (s.put d (.pp (cs.drop off)))) : AQ E N ops (⟨d, .fieldAddr t x f, T, p, af, none⟩ :: rest) K s := by
 refine qal rfl nofun fun B0 w0 G a w _ hI => ?_
 have he := hI.eval_of hx
 generalize hv : a.eval x = v at he
 cases he with
 | pp _ b q pub hp hlen hrel =>
  have hs : sz ≠ 0 := fun e => by subst e; simp at hsz
  have ho : off ≤ cs.length := Nat.le_of_ble_eq_true hle
  refine ⟨.pointer (some ⟨b, q + off, none⟩), _, fun w' _ => by simp only [execOp, hv]; simp [qar hf hs], ?_, h⟩
  exact .pp _ b (q + off) pub hp (by simp; omega) fun i x y h1 h2 => hrel (off + i) x y (by simpa using h1) (by rw [← h2]; congr 1; omega)
theorem w8 {x : Operand} {t : TypeId} {sz : Nat} {agg : Bool} {cs : List AV} {r : AV} (hx : qz N s x = .pp cs) (ht : tyOf E.P t = some (sz, agg)) (hr : vq sz agg 0 cs = some r)
  (h : AQ E N ops rest K (s.put d r)) : AQ E N ops (⟨d, .load t x, T, p, af, none⟩ :: rest) K s := by
 refine qal rfl nofun fun B0 w0 G a w _ hI => ?_
 have he := hI.eval_of hx
 generalize hv : a.eval x = v at he
 cases he with
 | pp _ b off pub hp hlen hrel =>
  obtain ⟨c, T', fz, hc, hcc⟩ := hI.agree.pub b pub hp
  have hlt : b < w.heap.size := hI.agree.pub_lt hp
  have key : ∀ w', Below w.heap.size w w' → ∃ v, (loadVar t ⟨b, off, none⟩).run E.P w' = .ok v w' ∧ Rel G r v := fun w' hw' => by
   have h4' : w'.heap[b]? = some (.cells c T' fz) := by rw [hw'.block _ hlt]; exact hc
   exact qab (w := w') (G := G) (b := b) (off := off) ht (fun i x hx _ => by
    have hi := lt_of_getElem? hx
    have hy : pub[off + i]? = some (pub[off + i]'(by omega)) := List.getElem?_eq_getElem (by omega)
    refine ⟨_, ?_, hrel i x _ hx hy⟩
    simp [World.cell?, h4', hcc _ _ hy]) hr
  have hg : ∀ w', Below w.heap.size w w' → ∀ j, j < cs.length → w'.cell? ⟨b, off + j, none⟩ = some (pub.getD (off + j) undef) := fun w' hw' j hj => by
   have h4' : w'.heap[b]? = some (.cells c T' fz) := by rw [hw'.block _ hlt]; exact hc
   have hlt2 : off + j < pub.length := by omega
   have hy : pub[off + j]? = some (pub.getD (off + j) undef) := by simp [List.getD, hlt2]
   simp [World.cell?, h4', hcc _ _ hy]
  have hsame : ∀ w', Below w.heap.size w w' → ∀ v, (loadVar t ⟨b, off, none⟩).run E.P w = .ok v w → (loadVar t ⟨b, off, none⟩).run E.P w' = .ok v w' := fun w' hw' v hr1 => by
   obtain ⟨i1, i2⟩ := wa ht w
   obtain ⟨j1, j2⟩ := wa ht w'
   obtain ⟨v', h1', _⟩ := key w' hw'
   rw [h1']
   congr 1
   cases agg with
   | false =>
    simp only [vq, cond_false] at hr
    have h0 := lt_of_getElem? hr
    have e1 := hg w (Below.refl _ _) 0 h0
    have e2 := hg w' hw' 0 h0
    rw [Nat.add_zero] at e1 e2
    simp [loadVar, i2, run_load, e1] at hr1
    simp [loadVar, j2, run_load, e2] at h1'
    rw [← h1', hr1]
   | true =>
    simp only [vq, cond_true] at hr
    cases hb2 : Nat.ble (0 + sz) cs.length with
    | false => rw [hb2] at hr; simp at hr
    | true =>
     have hle : 0 + sz ≤ cs.length := Nat.le_of_ble_eq_true hb2
     have l1 := run_loadCells (P := E.P) (w := w) ⟨b, off, none⟩ sz (fun j => pub.getD (off + j) undef) (fun j hj => by rw [Addr.add_lit]; exact hg w (Below.refl _ _) j (by omega))
     have l2 := run_loadCells (P := E.P) (w := w') ⟨b, off, none⟩ sz (fun j => pub.getD (off + j) undef) (fun j hj => by rw [Addr.add_lit]; exact hg w' hw' j (by omega))
     simp [loadVar, i1, i2, l1] at hr1
     simp [loadVar, j1, j2, l2] at h1'
     rw [← h1', hr1]
  obtain ⟨v, hrun, hR⟩ := key w (Below.refl _ _)
  exact ⟨v, r, fun w' hw' => by simp only [execOp, hv, Instr.loadAt, Instr.sureAddr]; simp [hsame w' hw' v hrun], hR, h⟩
theorem qj0 {x y : Operand} {t t' : TypeId} {k : IntKind} {m n r : Int} (hx : qz N s x = .v (.int k m)) (hy : qz N s y = .v (.int k n)) (hr : k.wrap (m - n) = r)
  (h : AQ E N ops rest K (s.put d (.v (.int k r)))) : AQ E N ops (⟨d, .binOp .sub t x y t', T, p, af, none⟩ :: rest) K s :=
 xu _ rfl nofun (fun a w he => by rw [← hr]; simp [execOp, he _ _ hx, he _ _ hy, eqGuard_at_int, binOp, Op.intArith]) h
theorem qif {x y z : Operand} {t : TypeId} {k k' : IntKind} {l : List UInt8} {i j : Nat} (hx : qz N s x = Sv l) (hy : qz N s y = .v (.int k' (i : Int))) (hz : qz N s z = .v (.int k (j : Int))) (hu : E.P.underlying t = some .string) (h1 : i ≤ j) (h2 : j ≤ l.length)
  (h : AQ E N ops rest K (s.put d (Sv ((l.take j).drop i)))) : AQ E N ops (⟨d, .slice t x (some y) (some z) none, T, p, af, none⟩ :: rest) K s :=
 qi3 (i := i) (j := j) hx hu ⟨_, hy⟩ ⟨_, hz⟩ (by omega) (by omega) (by omega) (by simpa using h)
theorem qh6 {x : Operand} {ts : Array TypeId} {t0 e : TypeId} {v : AV} {n : Nat} (hx : qz N s x = v) (hl : lenA v = some n) (ht : ts[0]? = some t0) (hu : E.P.underlying t0 = some (.slice e))
  (h : AQ E N ops rest K (s.put d (Iv n))) : AQ E N ops (⟨d, .call ⟨.builtin .len, #[x], ts⟩, T, p, af, none⟩ :: rest) K s := by
 refine qal rfl nofun fun B0 w0 G a w _ hI => ?_
 have he := hI.eval_of hx
 have key : ∃ b c, a.eval x = .slice b n c := by
  generalize a.eval x = u at he
  cases he <;> simp [lenA] at hl
  case v y =>
   cases u <;> simp at hl
   subst hl
   exact ⟨_, _, rfl⟩
  case sl0 => subst hl; exact ⟨_, _, rfl⟩
  case sl => subst hl; exact ⟨_, _, rfl⟩
  case os => subst hl; exact ⟨_, _, rfl⟩
 obtain ⟨b, c, hv⟩ := key
 refine ⟨.int .i64 n, Iv n, fun w' _ => ?_, .v _, h⟩
 generalize a.eval = ρ at hv
 simp [execOp, resolve, invoke, builtin, Builtin.len_, hv, ht, run_underlying hu, goInt]
theorem qc1 {x : Operand} {t : TypeId} {sz : Nat} {agg : Bool} {st loc ext new : List AObj} {k ver off : Nat} {T' : TypeId} {cs : List AV} {r : AV} (hs : s.st = ((st ++ loc) ++ ext) ++ new) (hx : qz N s x = .bx (st.length + k) ver off) (ho : loc[k]? = some (.cells ver T' cs)) (ht : tyOf E.P t = some (sz, agg)) (hr : vq sz agg off cs = some r)
  (h : AQ E N ops rest K (s.put d r)) : AQ E N ops (⟨d, .load t x, T, p, af, none⟩ :: rest) K s :=
 qjj hx (by rw [hs]; exact xw ho) ht hr h
end
end Go.Av
set_option linter.unusedVariables false
namespace Go.Av
open Go Go.RowKit
section
variable {B0 : Nat} {w0 : World} {G : Gh} {st : List AObj} {w : World}
theorem jg.pubOb (h : jg B0 w0 G st w) {o ver : Nat} {T : TypeId} {cs : List AV} (ho : st[o]? = some (.cells ver T cs)) :
  ∃ vs : List Value, G.le (G.publish (G.ob o).blk vs) ∧ jg B0 w0 (G.publish (G.ob o).blk vs) (st.set o .dead) w ∧ (G.ob o).ver = ver ∧ (G.publish (G.ob o).blk vs).pub (G.ob o).blk = some vs ∧ cs.length = vs.length ∧
   ∀ (i : Nat) (x : AV) (y : Value), cs[i]? = some x → vs[i]? = some y → Rel (G.publish (G.ob o).blk vs) x y := by
 obtain ⟨h0, h1, h2, h3, c, h4, h5, h6⟩ := h.ob o _ ho
 have hle : G.le (G.publish (G.ob o).blk c.toList) := G.le_publish _ _ [] [] (.inl h3)
 refine ⟨c.toList, hle, ?_, h1, by simp [Gh.publish], by simpa using h5, fun i x y hx hy => (h6 i x y hx (by simpa using hy)).mono hle⟩
 have key : ∀ (k : Nat) (x : AObj), (st.set o .dead)[k]? = some x → x = .dead ∨ (k ≠ o ∧ st[k]? = some x) := fun k x hx => by
  rcases getElem?_set' _ _ _ _ _ hx with ⟨_, e⟩ | e
  ·exact .inl e
  ·exact .inr e
 refine ⟨h.below, h.hB, by simp [h.n, Gh.publish], fun b vs hb => ?_, fun k x hx => ?_, fun k k' x x' hne hx hx' hl hl' => ?_⟩
 ·simp only [Gh.publish] at hb
  by_cases e : b = (G.ob o).blk
  ·rw [if_pos e] at hb
   cases hb
   subst e
   exact ⟨c, T, (0, 0), h4, fun i y hy => by simpa using hy⟩
  ·rw [if_neg e] at hb
   exact h.pub b vs hb
 ·rcases key k x hx with rfl | ⟨hk, hx⟩
  ·trivial
  ·refine (h.ob k x hx).mono hle rfl (fun hl => ?_) (fun _ => rfl)
   have := h.sep k o x _ hk hx ho hl trivial
   simp [Gh.publish, this]
 ·rcases key k x hx with rfl | ⟨hk, hx⟩
  ·exact hl.elim
  ·rcases key k' x' hx' with rfl | ⟨hk', hx'⟩
   ·exact hl'.elim
   ·exact h.sep k k' x x' hne hx hx' hl hl'
end
section
variable {E : Env} {rd : Option Nat} {N : Nat} {ops : Array Oper} {K : AS → Prop} {s : AS} {rest : List Oper} {d : Option Tmp} {T : TypeId} {p : String} {af : Array Edge}
theorem Inv.pub {B0 : Nat} {w0 : World} {G : Gh} {a : Act} {w : World} (h : Inv B0 w0 N G s a w) {i o ver : Nat} {T' : TypeId} {cs : List AV} (hi : s.t i = .bx o ver 0) (ho : s.st[o]? = some (.cells ver T' cs)) :
  ∃ G', G.le G' ∧ Inv B0 w0 N G' ⟨Av.put s.t i (.pp cs), s.st.set o .dead, s.df⟩ a w := by
 obtain ⟨vs, hle, hA, hv, hp, hl, hr⟩ := h.agree.pubOb ho
 refine ⟨_, hle, hA, h.defers_mono hle, h.size, fun j y hy => ?_⟩
 have hj := h.tmps j y hy
 by_cases e : j = i
 ·subst e
  simp only [qaj]
  rw [hi] at hj
  cases hj with
  | bx _ _ _ b hn hv' hb =>
   have hb := hb hv
   subst hb
   exact .pp cs _ 0 vs hp (by omega) fun k x y hx hy => hr k x y hx (by simpa using hy)
 ·simp only
  rw [qb6 _ _ _ _ e]
  exact hj.mono hle
theorem zm {x y : Operand} {t : TypeId} {sz : Nat} {agg : Bool} {st loc loc' ext new : List AObj} {k ver off : Nat} {T' : TypeId} {cs xs : List AV} {r : AV} (hs : s.st = ((st ++ loc) ++ ext) ++ new) (hx : qz N s x = .bx (st.length + k) ver off) (hy : qz N s y = r) (ho : loc[k]? = some (.cells ver T' cs)) (ht : tyOf E.P t = some (sz, agg))
  (hok : r.okc = true) (hc : r.cells = xs) (hsz : Nat.beq xs.length sz = true) (h1 : wg xs = true) (hfit : Nat.ble (off + sz) cs.length = true) (hl : loc' = loc.set k (.cells ver T' (wi cs off xs)))
  (h : AOps E rd N ops rest K (AS.put ⟨s.t, ((st ++ loc') ++ ext) ++ new, s.df⟩ d (.v undef))) : AOps E rd N ops (⟨d, .store t x y, T, p, af, none⟩ :: rest) K s := by
 have hk := lt_of_getElem? ho
 exact qm hx hy (by rw [hs]; exact xw ho) ht hok hc hsz h1 hfit (by rw [hs, qbb _ hk, ← hl]; exact h)
end
theorem xf {α : Type} (l : List α) (a : α) : (l ++ [a]).length = l.length + 1 := by simp
theorem xh {α : Type} (l : List α) (a : α) : Iv ((l.length : Int) + 1) = Iv ((l ++ [a]).length : Nat) := by rw [xf]; rfl
theorem qcm {α : Type} (l : List α) (a : α) : Iv ((l.length : Int) + 1 + 1) = Iv (((l ++ [a]).length : Nat) + 1) := by rw [xf]; rfl
theorem qef {α : Type} {sz : Nat} {tip : Option Nat} (x0 : AV) (g : α → AV) (pre : List α) (a : α) (v : AV) (h : v = g a) : AV.sl sz ((x0 :: pre.map g) ++ [v]) tip = AV.sl sz (x0 :: (pre ++ [a]).map g) tip := by rw [List.map_append, h]; rfl
theorem qpn {E : Env} {rd : Option Nat} {N : Nat} {ops : Array Oper} {K : AS → Prop} {s : AS} {rest : List Oper} {d : Option Tmp} {T : TypeId} {p : String} {af : Array Edge} {t : TypeId} {st loc : List AObj} {cs : List AV} {n : Nat} (hst : s.st = st ++ loc) (hn : st.length = n) (hz : qdq E.P t = some cs)
  (h : AOps E rd N ops rest K (AS.put ⟨s.t, st ++ (loc ++ [.cells 0 t cs]), s.df⟩ d (.bx (n + loc.length) 0 0))) : AOps E rd N ops (⟨d, .alloc t, T, p, af, none⟩ :: rest) K s := by
 subst hn
 exact jh hst hz h
theorem qj6 {E : Env} {rd : Option Nat} {N : Nat} {ops : Array Oper} {K : AS → Prop} {s : AS} {rest : List Oper} {d : Option Tmp} {T : TypeId} {p : String} {af : Array Edge} {x y : Operand} {t : TypeId} {sz : Nat} {agg : Bool} {st loc ext new : List AObj} {k ver off : Nat} {T' : TypeId} {cs xs : List AV} {r : AV} (hs : s.st = ((st ++ loc) ++ ext) ++ new) (hx : qz N s x = .bx (st.length + k) ver off) (hy : qz N s y = r) (ho : loc[k]? = some (.cells ver T' cs)) (ht : tyOf E.P t = some (sz, agg))
  (hok : r.okc = true) (hc : r.cells = xs) (hsz : xs.length = sz) (h1 : wg xs = true) (hfit : off + sz ≤ cs.length)
  (h : AOps E rd N ops rest K (AS.put ⟨s.t, ((st ++ loc.set k (.cells ver T' (wi cs off xs))) ++ ext) ++ new, s.df⟩ d (.v undef))) : AOps E rd N ops (⟨d, .store t x y, T, p, af, none⟩ :: rest) K s := by
 have hk := lt_of_getElem? ho
 exact qfr hx hy (by rw [hs]; exact xw ho) ht hok hc hsz (by simpa [wg] using h1) hfit (by rw [hs, qbb _ hk]; exact h)
theorem vz {E : Env} {rd : Option Nat} {N : Nat} {c : Code} {Q : Exit → AS → Prop} {s : AS} {α : Type} (xs : List α) (I : List α → AS → Prop) (h0 : I [] s) (hend : ∀ s, I xs s → AWp E rd N c (qju (fun _ => False) Q) s)
  (hstep : ∀ pre a rest s, xs = pre ++ a :: rest → I pre s → AWp E rd N c (qju (fun s' => I (pre ++ [a]) s') Q) s) : AWp E rd N (.loop c) Q s := by
 refine vy (fun (x : List α × List α) s => xs = x.1 ++ x.2 ∧ I x.1 s) (fun x => x.2.length) ([], xs) ⟨rfl, h0⟩ ?_
 rintro ⟨pre, rest⟩ s ⟨hx, hi⟩
 cases rest with
 | nil =>
  simp only [List.append_nil] at hx
  subst hx
  refine (hend s hi).mono fun e s' h => ?_
  cases e with
  | normal => exact h.elim
  | _ => exact h
 | cons a rest =>
  refine (hstep pre a rest s hx hi).mono fun e s' h => ?_
  cases e with
  | normal => exact ⟨(pre ++ [a], rest), ⟨by rw [hx]; simp, h⟩, by simp⟩
  | _ => exact h
theorem qmb {E : Env} {fn : Func} {R : AV → List AObj → Prop} {s : AS} {st loc ext new : List AObj} {k : Nat} {ds : List Nat} (hs : s.st = ((st ++ loc) ++ ext) ++ new) (hd : s.df = (st.length + k) :: ds) (ho : loc[k]? = some .dfr) (h : ARet E fn R ⟨s.t, ((st ++ loc.set k .dead) ++ ext) ++ new, ds⟩) : ARet E fn R s :=
 qbz hd (by rw [hs]; exact xw ho) (by rw [hs, qbb _ (lt_of_getElem? ho)]; exact h)
@[reducible] def qso (F : LoopState → Option Code → AObj) (st : List AObj) (own : AObj) (I : List AObj → Prop) (D : Code → List AObj → Prop) : Exit → AS → Prop
 | .normal, s => ∃ l ext new, s.st = ((st ++ (l ++ [.dfr, F .busy none, own])) ++ ext) ++ new ∧ I l
 | .ret, s => ∃ l ext new, s.st = ((st ++ (l ++ [.dfr, F .busy none, own])) ++ ext) ++ new ∧ D .ret l
 | .exit id, s => ∃ l ext new, s.st = ((st ++ (l ++ [.dfr, F .busy none, own])) ++ ext) ++ new ∧ D (.exit id) l
 | _, _ => False
theorem qpb {E : Env} {o : Nat} {xs : List AV} {st st' : List AObj} {R : Bool → List AObj → Prop} (e : st = st') (h : yi E o xs st R) : yi E o xs st' R := e ▸ h
theorem qaz {st l ext : List AObj} {a b c : AObj} {n : Nat} (hl : l.length = n) : (((st ++ (l ++ [a, b, c])) ++ ext))[st.length + (n + 1)]? = some b := by
 subst hl
 rw [List.append_assoc, List.append_assoc, List.getElem?_append_right (by omega), Nat.add_sub_cancel_left, List.getElem?_append_right (by omega)]
 simp
theorem qbu {st l ext : List AObj} {a b c y : AObj} {n : Nat} (hl : l.length = n) : ((st ++ (l ++ [a, b, c])) ++ ext).set (st.length + (n + 1)) y = (st ++ (l ++ [a, y, c])) ++ ext := by
 subst hl
 rw [List.append_assoc, List.append_assoc, List.set_append_right _ _ (by omega), Nat.add_sub_cancel_left, List.set_append_right _ _ (by omega)]
 simp
theorem quk {E : Env} {N : Nat} {t : Nat → AV} {ps : Array Tmp} {asg body : Code} {st l ext : List AObj} {own : AObj} {n : Nat} {xs : List AV} {F : LoopState → Option Code → AObj} {I : List AObj → Prop} {D : Code → List AObj → Prop} (hF : qfu F N t ps asg body) (hl : l.length = n) (hps : ps.size = xs.length)
  (hI : ∀ l, I l → l.length = n) (hD : ∀ c l, D c l → l.length = n)
  (h : ∀ rd, AWp E (some rd) N asg (only fun s1 => ∃ new, s1.st = ((st ++ (l ++ [.dfr, F .ready none, own])) ++ ext) ++ new ∧ s1.df = [] ∧ AWp E (some rd) N body (qso F st own I D) ⟨s1.t, ((st ++ (l ++ [.dfr, F .busy none, own])) ++ ext) ++ new, []⟩) ⟨qey t (ps.toList.zip xs), ((st ++ (l ++ [.dfr, F .ready none, own])) ++ ext) ++ [], []⟩) :
  yi E (st.length + (n + 1)) xs ((st ++ (l ++ [.dfr, F .ready none, own])) ++ ext) fun b st2 => ∃ l' ext', (b = true → st2 = (st ++ (l' ++ [.dfr, F .ready none, own])) ++ ext' ∧ I l') ∧ (b = false → ∃ c, st2 = (st ++ (l' ++ [.dfr, F .done (some c), own])) ++ ext' ∧ D c l') := by
 refine qi9 hF (qaz hl) hps fun rd => ?_
 have h := h rd
 rw [List.append_nil] at h
 refine h.mono fun e s1 hq => ?_
 cases e with
 | normal =>
  obtain ⟨new, h1, h2, h3⟩ := hq
  refine ⟨by rw [h1, List.append_assoc]; exact qaz hl, h2, ?_⟩
  have e : s1.st.set (st.length + (n + 1)) (F .busy none) = ((st ++ (l ++ [.dfr, F .busy none, own])) ++ ext) ++ new := by
   rw [h1, List.append_assoc, qbu hl, List.append_assoc _ ext]
  rw [e]
  refine h3.mono fun e s2 hq2 => ?_
  cases e with
  | normal =>
   obtain ⟨l', ext', new', k1, k2⟩ := hq2
   exact ⟨by rw [k1, List.append_assoc]; exact qaz (hI _ k2), l', ext' ++ new', fun _ => ⟨by rw [k1, List.append_assoc, qbu (hI _ k2)], k2⟩, nofun⟩
  | ret =>
   obtain ⟨l', ext', new', k1, k2⟩ := hq2
   exact ⟨by rw [k1, List.append_assoc]; exact qaz (hD _ _ k2), l', ext' ++ new', nofun, fun _ => ⟨_, by rw [k1, List.append_assoc, qbu (hD _ _ k2)], k2⟩⟩
  | exit id =>
   obtain ⟨l', ext', new', k1, k2⟩ := hq2
   exact ⟨by rw [k1, List.append_assoc]; exact qaz (hD _ _ k2), l', ext' ++ new', nofun, fun _ => ⟨_, by rw [k1, List.append_assoc, qbu (hD _ _ k2)], k2⟩⟩
  | _ => exact hq2.elim
 | _ => exact hq.elim
end Go.Av
set_option linter.unusedVariables false
namespace Go.Pl
open Go Go.Proofs
abbrev Fld := qk × qk
def y3 (s : qk) : Prop := ∀ c ∈ s, v6 c
instance (s : qk) : Decidable (y3 s) := inferInstanceAs (Decidable (∀ c ∈ s, v6 c))
def vp (s : qk) : qk := if y3 s ∨ s.head? = some 46 then 46 :: s else s
def km (key p : qk) : qk := key ++ [58] ++ if p = [] then [] else [32] ++ p
def jr (f : Fld) : List qk := km f.1 ((z0 f.2).headD []) :: (z0 f.2).tail.map fun s => [32] ++ vp s
def j0 (ls : List qk) : qk := ls.flatMap fun s => s ++ [10]
def kj (xs : List Fld) : qk := xs.flatMap fun f => j0 (jr f)
def ve (f : Fld) : Int := if ¬ xl f.1 then 5 else if 1000 < f.2.length then 6 else 0
def kz (f : Fld) : Prop := xl f.1 ∧ f.2.length ≤ 1000
instance (f : Fld) : Decidable (kz f) := inferInstanceAs (Decidable (_ ∧ _))
theorem qas (f : Fld) : ve f = 0 ↔ kz f := by
 unfold ve kz
 by_cases h : xl f.1
 ·by_cases h2 : 1000 < f.2.length
  ·simp [h, h2]
  ·simp [h, h2]; omega
 ·simp [h]
def vh (c : UInt8) (l : qk) : qk := if l.head? = some c then l.drop 1 else l
theorem qk7 (c : UInt8) (l : qk) : Lib.trimPrefix l [c] = vh c l := by
 unfold Lib.trimPrefix vh
 rw [qgs]
 simp
def yr (l : qk) (r : List qk) : qk := vh 32 (kk l) ++ r.flatMap fun s => [10] ++ vh 46 (s.drop 1)
def qi4 (ls : List qk) : Prop := ls ≠ [] ∧ jf (ls.headD []) = 4 ∧ ∀ s ∈ ls.tail, jf s = 3
instance (ls : List qk) : Decidable (qi4 ls) := inferInstanceAs (Decidable (_ ∧ _ ∧ _))
def jq (ls : List qk) : Fld × Int :=
 if qi4 ls then
  if 1000 < (yr (ls.headD []) ls.tail).length then (([], []), 6) else ((j7 (ls.headD []), yr (ls.headD []) ls.tail), 0)
 else (([], []), 2)
theorem qcd (l : qk) : z0 l ≠ [] := by
 by_cases h : 10 ∈ l
 ·rw [wp h]; simp
 ·rw [wn h]; simp
theorem qf9 (l : qk) : z0 l = (z0 l).headD [] :: (z0 l).tail := by
 cases h : z0 l with
 | nil => exact absurd h (qcd l)
 | cons a r => rfl
theorem qdp : ∀ (n : Nat) (l : qk), l.length ≤ n → (z0 l).headD [] ++ (z0 l).tail.flatMap (fun s => [10] ++ s) = l
 | n, l, hn => by
  by_cases h : 10 ∈ l
  ·rw [wp h]
   have hne : l ≠ [] := fun e => by subst e; simp at h
   have hlt := xv (c := 10) hne
   cases n with
   | zero => omega
   | succ n =>
    have ih := qdp n (past 10 l) (by omega)
    simp only [List.headD_cons, List.tail_cons]
    rw [qf9 (past 10 l)]
    simp only [List.flatMap_cons]
    rw [List.append_assoc, ih]
    have := qc3 h
    simp [← this]
  ·rw [wn h]; simp
theorem qa9 (l : qk) : ∀ x ∈ z0 l, 10 ∉ x := fun x hx => (qde l.length l (Nat.le_refl _) x hx).2
theorem qbe (l : qk) : ∀ x ∈ z0 l, x.length ≤ l.length := fun x hx => (qde l.length l (Nat.le_refl _) x hx).1
theorem qi2 (l : qk) : (z0 l).headD [] ∈ z0 l := by
 have h := qcd l
 cases e : z0 l with
 | nil => exact absurd e h
 | cons a r => simp
theorem qo1 (s : qk) : vh 46 (vp s) = s := by
 unfold vp vh
 by_cases h : y3 s ∨ s.head? = some 46
 ·rw [if_pos h]; simp
 ·rw [if_neg h, if_neg (fun h' => h (.inr h'))]
theorem qk5 (s : qk) : ¬ y3 (vp s) := by
 unfold vp
 by_cases h : y3 s ∨ s.head? = some 46
 ·rw [if_pos h]
  intro h'
  have := h' 46 (by simp)
  revert this; decide
 ·rw [if_neg h]
  exact fun h' => h (.inl h')
theorem qka {s : qk} (h : 10 ∉ s) : 10 ∉ vp s := by
 unfold vp
 split
 ·simp [h]
 ·exact h
theorem qhj (s : qk) : (vp s).length ≤ s.length + 1 := by
 unfold vp
 split <;> simp
theorem qli (s : qk) (h : 10 ∉ s) : jf ([32] ++ vp s) = 3 := by
 have hn := qka h
 have hb := qk5 s
 unfold jf
 have h10 : 10 ∉ ([32] ++ vp s) := by simp [hn]
 rw [if_neg h10, if_neg (fun h' => hb fun c hc => h' c (by simp [hc])), if_neg (by simp), if_pos ⟨32, by simp, .inl rfl⟩]
theorem qe2 {k r : qk} (h : 58 ∉ k) : j7 (k ++ [58] ++ r) = k := by
 unfold j7
 induction k with
 | nil => simp
 | cons a k ih =>
  simp only [List.mem_cons, not_or] at h
  have : (58 : UInt8) ≠ a := h.1
  simp only [List.cons_append, List.takeWhile_cons]
  rw [if_pos (by simpa using fun e => this e.symm)]
  rw [ih h.2]
theorem qng {k r : qk} (h : 58 ∉ k) : kk (k ++ [58] ++ r) = r := by
 unfold kk
 rw [qe2 h]
 rw [List.drop_append_of_le_length (by simp)]
 simp
theorem qet {k : qk} (h : xl k) : ∃ c, k.head? = some c ∧ ¬ v6 c ∧ c ≠ 35 := by
 obtain ⟨h1, h2, h3, h4, h5, h6⟩ := h
 cases k with
 | nil => exact absurd rfl h1
 | cons a r => exact ⟨a, rfl, fun hb => h3 ⟨a, rfl, hb⟩, fun e => h4 (by simp [e])⟩
theorem ql6 {k p : qk} (h : xl k) (hp : 10 ∉ p) : jf (km k p) = 4 := by
 obtain ⟨c, hc, hb, h35⟩ := qet h
 have hk10 : 10 ∉ k := h.2.2.2.2.2
 have hk58 : 58 ∉ k := h.2.2.2.2.1
 have hh : (km k p).head? = some c := by
  unfold km
  cases k with
  | nil => simp at hc
  | cons a r => simpa using hc
 have e : km k p = k ++ [58] ++ (if p = [] then [] else [32] ++ p) := rfl
 have h10 : 10 ∉ km k p := by
  rw [e]
  split <;> simp [hk10, hp]
 have hmem : c ∈ km k p := List.mem_of_head? hh
 unfold jf
 rw [if_neg h10, if_neg (fun h' => hb (h' c hmem)), if_neg (by rw [hh]; simpa using h35), if_neg (fun ⟨d, hd, hd'⟩ => by rw [hh] at hd; cases hd; exact hb hd')]
 rw [if_pos]
 refine ⟨by rw [e]; simp, ?_⟩
 rw [e, qe2 hk58]
 exact h
theorem qr3 (k p : qk) (h : 58 ∉ k) : vh 32 (kk (km k p)) = p := by
 unfold km
 rw [qng h]
 by_cases hp : p = []
 ·rw [if_pos hp]; simp [vh, hp]
 ·rw [if_neg hp]; simp [vh]
theorem qgt {f : Fld} (h : kz f) : jq (jr f) = (f, 0) := by
 obtain ⟨hk, hv⟩ := h
 have hk58 : 58 ∉ f.1 := hk.2.2.2.2.1
 have h10 := qa9 f.2
 have hval : yr (km f.1 ((z0 f.2).headD [])) ((z0 f.2).tail.map fun s => [32] ++ vp s) = f.2 := by
  unfold yr
  rw [qr3 _ _ hk58]
  have : ((z0 f.2).tail.map fun s => [32] ++ vp s).flatMap (fun s => [10] ++ vh 46 (s.drop 1)) = (z0 f.2).tail.flatMap (fun s => [10] ++ s) := by
   rw [List.flatMap_map]
   congr 1
   funext s
   simp [qo1]
  rw [this, qdp _ _ (Nat.le_refl _)]
 unfold jq jr
 rw [if_pos]
 ·simp only [List.headD_cons, List.tail_cons]
  refine (if_neg (by rw [hval]; omega)).trans ?_
  have : j7 (km f.1 ((z0 f.2).headD [])) = f.1 := qe2 hk58
  rw [this, hval]
 ·refine ⟨by simp, ?_, ?_⟩
  ·simp only [List.headD_cons]
   exact ql6 hk (h10 _ (qi2 _))
  ·intro s hs
   simp only [List.tail_cons, List.mem_map] at hs
   obtain ⟨x, hx, rfl⟩ := hs
   exact qli x (h10 x (List.mem_of_mem_tail hx))
end Go.Pl
set_option linter.unusedVariables false
namespace Go.Av
open Go Go.RowKit
section
variable {E : Env} {rd : Option Nat} {N : Nat} {ops : Array Oper} {K : AS → Prop} {s : AS} {rest : List Oper} {d : Option Tmp} {T : TypeId} {p : String} {af : Array Edge}
theorem xd {t e : TypeId} {len sz : Nat} {agg : Bool} {parts : Array (Nat × Operand)} {zs cs : List AV} {st loc : List AObj} (hst : s.st = st ++ loc) (hu : E.P.underlying t = some (.slice e)) (ht : tyOf E.P e = some (sz, agg)) (hz : qhh E.P e len = some zs)
  (hf : qb5 (fun i => some (i * sz, sz)) zs (xb N s parts) = some cs) (hsz : Nat.ble (len * sz) 16777216 = true)
  (h : AOps E rd N ops rest K (AS.put ⟨s.t, st ++ (loc ++ [.cells 0 e cs]), s.df⟩ d (.os (st.length + loc.length) 0 0 len len))) : AOps E rd N ops (⟨d, .buildSlice t len parts, T, p, af, none⟩ :: rest) K s := by
 refine jk rfl (ji nofun fun B0 w0 G a w _ hI => ?_)
 obtain ⟨c', hrun, h2⟩ := qfp (d := d) (T := T) (p := p) (af := af) hI hu ht hz hf hsz
 have hA := hI.agree.newCells e c' cs h2.1 h2.2
 have hn := hI.agree.n
 rw [hst] at hA hn
 simp only [List.append_assoc, List.length_append] at hA hn
 exact ⟨_, _, _, _, _, hrun, G.le_new _ _ _ _, hA, .os _ _ _ _ _ _ (by simp [Gh.new, hn]) (Nat.zero_le _) (fun _ => by simp [Gh.new, hn]), h⟩
theorem jg.ownTip {B0 : Nat} {w0 : World} {G : Gh} {st : List AObj} {w : World} (h : jg B0 w0 G st w) {o sz len cap : Nat} {T : TypeId} {cs : List AV} {xs : List AV} (ho : st[o]? = some (.cells 0 T cs)) (hc : cs.length = cap * sz) (hlen : xs.length = len) (h0 : 0 < len) (hle : len ≤ cap) (hcm : cap ≤ maxLen) (hw : ∀ x ∈ xs, x.cells.length = sz) (hfl : flat xs = cs.take (len * sz)) :
  ∃ G', G.le G' ∧ jg B0 w0 G' (st.set o (.tip len sz T)) w ∧ Rel G' (.sl sz xs (some o)) (.slice (some ⟨(G.ob o).blk, 0, none⟩) len cap) := by
 subst hlen
 have hon := lt_of_getElem? ho
 obtain ⟨g0, g1, g2, g3, c, g4, g5, g6⟩ := h.ob o _ ho
 have hle1 : G.le (G.publish (G.ob o).blk (c.toList.take (xs.length * sz))) := G.le_publish _ _ [] [] (.inl g3)
 -- dead, published
 have key : ∀ (k : Nat) (x : AObj), (st.set o .dead)[k]? = some x → x = .dead ∨ (k ≠ o ∧ st[k]? = some x) := fun k x hx => by
  rcases getElem?_set' _ _ _ _ _ hx with ⟨_, e⟩ | e
  ·exact .inl e
  ·exact .inr e
 have hA1 : jg B0 w0 (G.publish (G.ob o).blk (c.toList.take (xs.length * sz))) (st.set o .dead) w := by
  refine ⟨h.below, h.hB, by simp [h.n, Gh.publish], fun b vs hb => ?_, fun k x hx => ?_, fun k k' x x' hne hx hx' hl hl' => ?_⟩
  ·simp only [Gh.publish] at hb
   by_cases e : b = (G.ob o).blk
   ·rw [if_pos e] at hb
    cases hb
    subst e
    refine ⟨c, T, (0, 0), g4, fun i y hy => ?_⟩
    rw [List.getElem?_take] at hy
    split at hy
    ·simpa using hy
    ·simp at hy
   ·rw [if_neg e] at hb
    exact h.pub b vs hb
  ·rcases key k x hx with rfl | ⟨hk, hx⟩
   ·trivial
   ·refine (h.ob k x hx).mono hle1 rfl (fun hl => ?_) (fun _ => rfl)
    have := h.sep k o x _ hk hx ho hl trivial
    simp [Gh.publish, this]
  ·rcases key k x hx with rfl | ⟨hk, hx⟩
   ·exact hl.elim
   ·rcases key k' x' hx' with rfl | ⟨hk', hx'⟩
    ·exact hl'.elim
    ·exact h.sep k k' x x' hne hx hx' hl hl'
 have hvl : (c.toList.take (xs.length * sz)).length = xs.length * sz := by
  have : xs.length * sz ≤ cap * sz := Nat.mul_le_mul_right _ hle
  simp
  omega
 obtain ⟨hle2, hA2⟩ := hA1.setTip (t := o) (n := 0) (n' := xs.length) (k := (G.ob o).blk) (cap := c.size) (sz := sz) (T := T) (c := c) (vs := c.toList.take (xs.length * sz)) (by simp [hon]) g0 g1 h0 g4 (by simp [Gh.publish]) hvl rfl g2 (fun k x hx hl => by
  rcases key k x hx with rfl | ⟨hk, hx⟩
  ·exact hl.elim
  ·exact h.sep k o x _ hk hx ho hl trivial)
 rw [List.set_set] at hA2
 refine ⟨_, hle1.trans hle2, hA2, ?_⟩
 have hgn : o < G.n := by rw [h.n]; exact hon
 refine .sl sz xs (some o) (G.ob o).blk 0 cap (c.toList.take (xs.length * sz)) (by simp [Gh.setOb, Gh.publish]) hw (by rw [hfl, hvl]; simp; omega) (fun i x y h1 h2 => ?_) (fun t ht => ?_) (by omega)
 ·rw [hfl] at h1
  rw [Nat.zero_add] at h2
  rw [List.getElem?_take] at h1 h2
  split at h1
  ·rename_i hi
   rw [if_pos hi] at h2
   exact ((g6 i x y h1 (by simpa using h2)).mono hle1).mono hle2
  ·simp at h1
 ·simp only [Option.some.injEq] at ht
  subst ht
  refine ⟨by simpa [Gh.setOb, Gh.publish] using hgn, by omega, by simp [Gh.setOb], fun _ => ⟨by simp [Gh.setOb], rfl, by simp [Gh.setOb, ← g5, hc], hcm, by omega⟩⟩
theorem Inv.osTip {B0 : Nat} {w0 : World} {G : Gh} {a : Act} {w : World} (h : Inv B0 w0 N G s a w) {i o sz len cap : Nat} {T' : TypeId} {cs xs : List AV} (hi : s.t i = .os o 0 0 len cap) (ho : s.st[o]? = some (.cells 0 T' cs)) (hc : cs.length = cap * sz) (hlen : xs.length = len) (h0 : 0 < len) (hle : len ≤ cap) (hcm : cap ≤ maxLen) (hw : ∀ x ∈ xs, x.cells.length = sz) (hfl : flat xs = cs.take (len * sz)) :
  ∃ G', G.le G' ∧ Inv B0 w0 N G' ⟨Av.put s.t i (.sl sz xs (some o)), s.st.set o (.tip len sz T'), s.df⟩ a w := by
 obtain ⟨G', hG, hA, hR⟩ := h.agree.ownTip ho hc hlen h0 hle hcm hw hfl
 obtain ⟨_, g1, _⟩ := h.agree.ob o _ ho
 refine ⟨G', hG, hA, h.defers_mono hG, h.size, fun j y hy => ?_⟩
 have hj := h.tmps j y hy
 by_cases e : j = i
 ·subst e
  simp only [qaj]
  rw [hi] at hj
  cases hj with
  | os _ _ _ _ b _ hn hv hb =>
   have hb := hb g1
   subst hb
   exact hR
 ·simp only
  rw [qb6 _ _ _ _ e]
  exact hj.mono hG
theorem qhz {c : Code} {Q : Exit → AS → Prop} (i : Nat) {o sz len cap : Nat} {T' : TypeId} {cs xs : List AV} (hi : s.t i = .os o 0 0 len cap) (ho : s.st[o]? = some (.cells 0 T' cs)) (hc : cs.length = cap * sz) (hlen : xs.length = len) (h0 : 0 < len) (hle : len ≤ cap) (hcm : cap ≤ maxLen) (hw : ∀ x ∈ xs, x.cells.length = sz) (hfl : flat xs = cs.take (len * sz))
  (h : AWp E rd N c Q ⟨Av.put s.t i (.sl sz xs (some o)), s.st.set o (.tip len sz T'), s.df⟩) : AWp E rd N c Q s :=
 ⟨fun B0 w0 G a w hL hI => let ⟨G1, h1, h2⟩ := hI.osTip hi ho hc hlen h0 hle hcm hw hfl; wpIn_mono (h.run B0 w0 _ a w hL h2) fun _ _ _ ⟨G', s', hG, k1, k2⟩ => ⟨G', s', h1.trans hG, k1, k2⟩⟩
theorem qri {l : List Oper} (i : Nat) {o sz len cap : Nat} {T' : TypeId} {cs xs : List AV} (hi : s.t i = .os o 0 0 len cap) (ho : s.st[o]? = some (.cells 0 T' cs)) (hc : cs.length = cap * sz) (hlen : xs.length = len) (h0 : 0 < len) (hle : len ≤ cap) (hcm : cap ≤ maxLen) (hw : ∀ x ∈ xs, x.cells.length = sz) (hfl : flat xs = cs.take (len * sz))
  (h : AOps E rd N ops l K ⟨Av.put s.t i (.sl sz xs (some o)), s.st.set o (.tip len sz T'), s.df⟩) : AOps E rd N ops l K s :=
 ⟨fun B0 w0 G a w hL hI Q hQ => let ⟨G1, h1, h2⟩ := hI.osTip hi ho hc hlen h0 hle hcm hw hfl; h.run B0 w0 _ a w hL h2 Q fun G' s' a' w' hG k1 k2 => hQ G' s' a' w' (h1.trans hG) k1 k2⟩
theorem Inv.osPub {B0 : Nat} {w0 : World} {G : Gh} {a : Act} {w : World} (h : Inv B0 w0 N G s a w) {i o ver off sz len cap : Nat} {T' : TypeId} {cs xs : List AV} (hi : s.t i = .os o ver off len cap) (ho : s.st[o]? = some (.cells ver T' cs)) (hlen : xs.length = len) (hle : len ≤ cap) (hw : ∀ x ∈ xs, x.cells.length = sz) (hin : off + len * sz ≤ cs.length) (hfl : flat xs = (cs.drop off).take (len * sz)) :
  ∃ G', G.le G' ∧ Inv B0 w0 N G' ⟨Av.put s.t i (.sl sz xs none), s.st.set o .dead, s.df⟩ a w := by
 obtain ⟨vs, hle1, hA, hv, hp, hl, hr⟩ := h.agree.pubOb ho
 refine ⟨_, hle1, hA, h.defers_mono hle1, h.size, fun j y hy => ?_⟩
 have hj := h.tmps j y hy
 by_cases e : j = i
 ·subst e
  simp only [qaj]
  rw [hi] at hj
  cases hj with
  | os _ _ _ _ b _ hn hv' hb =>
   have hb := hb hv
   subst hb
   rw [← hlen]
   refine .sl sz xs none _ off cap vs hp hw (by rw [hfl]; simp; omega) (fun k x y hx hy => ?_) (fun t ht => by simp at ht) (by omega)
   rw [hfl, List.getElem?_take] at hx
   split at hx
   ·rw [List.getElem?_drop] at hx
    exact hr _ x y hx hy
   ·simp at hx
 ·simp only
  rw [qb6 _ _ _ _ e]
  exact hj.mono hle1
theorem zi {l : List Oper} (i : Nat) {x r : AV} (hi : s.t i = x) (hw : ∀ G v, Rel G x v → Rel G r v) (h : AOps E rd N ops l K ⟨Av.put s.t i r, s.st, s.df⟩) : AOps E rd N ops l K s :=
 ⟨fun B0 w0 G a w hL hI Q hQ => h.run B0 w0 G a w hL ⟨hI.agree, hI.defers, hI.size, fun j y hy => by
  have hj := hI.tmps j y hy
  by_cases e : j = i
  ·subst e; simp only [qaj]; rw [hi] at hj; exact hw G y hj
  ·simp only; rw [qb6 _ _ _ _ e]; exact hj⟩ Q hQ⟩
theorem qrp {P : Program} {t e : TypeId} {sz : Nat} {agg : Bool} (hu : P.underlying t = some (.slice e)) (ht : tyOf P e = some (sz, agg)) (a : Option Addr) (len cap : Nat) (lo hi : Option Value) (i j : Nat) (w : World)
  (hlo : match lo with | none => i = 0 | some v => ∃ k, v = .int k (i : Int)) (hhi : match hi with | none => j = len | some v => (∃ k, v = .int k (j : Int)) ∧ j ≤ cap) (h1 : i ≤ j) :
  (Instr.slice t (.slice a len cap) lo hi none).run P w = .ok (.slice (if cap = i then a else a.map (·.add (i * sz))) (j - i) (cap - i)) w := by
 have hs := (wa ht w).1
 cases lo with
 | none =>
  simp only at hlo
  subst hlo
  cases hi with
  | none =>
   simp only at hhi
   subst hhi
   simp [Instr.slice, run_underlying hu, Instr.sliceBounds, hs]
  | some v =>
   obtain ⟨⟨k, rfl⟩, h2⟩ := hhi
   simp [Instr.slice, run_underlying hu, Instr.sliceBounds, Instr.sliceBound, asIntOf, hs, h2]
 | some u =>
  obtain ⟨k', rfl⟩ := hlo
  cases hi with
  | none =>
   simp only at hhi
   subst hhi
   simp [Instr.slice, run_underlying hu, Instr.sliceBounds, Instr.sliceBound, asIntOf, hs, h1]
  | some v =>
   obtain ⟨⟨k, rfl⟩, h2⟩ := hhi
   simp [Instr.slice, run_underlying hu, Instr.sliceBounds, Instr.sliceBound, asIntOf, hs, h1, h2]
theorem qqx {G : Gh} {sz : Nat} {xs : List AV} {tip : Option Nat} {a : Option Addr} {len cap : Nat} (h : Rel G (.sl sz xs tip) (.slice a len cap)) {i j : Nat} (h1 : i ≤ j) (h2 : j ≤ xs.length) :
  len = xs.length ∧ len ≤ cap ∧ Rel G (.sl sz ((xs.take j).drop i) none) (.slice (if cap = i then a else a.map (·.add (i * sz))) (j - i) (cap - i)) := by
 cases h with
 | sl0 =>
  simp at h2
  subst h2
  have : i = 0 := by omega
  subst this
  refine ⟨rfl, Nat.zero_le _, ?_⟩
  simp
  exact .sl0 sz none _ _ (by simp)
 | sl _ _ _ b off cap pub hp hw hlen hr ht hcap =>
  refine ⟨rfl, hcap, ?_⟩
  have hl : ((xs.take j).drop i).length = j - i := by simp; omega
  by_cases hji : j = i
  ·subst hji
   have e : (xs.take j).drop j = [] := List.length_eq_zero_iff.1 (by rw [hl]; omega)
   rw [e, Nat.sub_self]
   exact .sl0 sz none _ _ (by simp)
  ·have hne : cap ≠ i := by omega
   rw [if_neg hne]
   simp only [Option.map_some]
   have hadd : Addr.add ⟨b, off, none⟩ (i * sz) = ⟨b, off + i * sz, none⟩ := Addr.add_lit ..
   rw [hadd, ← hl]
   have hw' : ∀ x ∈ (xs.take j).drop i, x.cells.length = sz := fun x hx => hw x (List.mem_of_mem_take (List.mem_of_mem_drop hx))
   have hfx : (flat xs).length = xs.length * sz := vr hw
   have hsplit : flat xs = flat (xs.take i) ++ flat ((xs.take j).drop i) ++ flat (xs.drop j) := by
    have e : xs.take i ++ (xs.take j).drop i = xs.take j := by
     conv => rhs; rw [← List.take_append_drop i (xs.take j), List.take_take, Nat.min_eq_left h1]
    rw [← wx, ← wx, e, List.take_append_drop]
   have hti : (flat (xs.take i)).length = i * sz := by
    rw [vr (fun x hx => hw x (List.mem_of_mem_take hx)), List.length_take, Nat.min_eq_left (by omega)]
   have hmid : (flat ((xs.take j).drop i)).length = (j - i) * sz := by rw [vr hw', hl]
   refine .sl sz _ none b (off + i * sz) (cap - i) pub hp hw' ?_ (fun k x y hx hy => ?_) (fun t ht => by simp at ht) (by rw [hl]; omega)
   ·have := congrArg List.length hsplit
    simp only [List.length_append] at this
    omega
   ·refine hr (i * sz + k) x y ?_ (by rw [← hy]; congr 1; omega)
    have hk := lt_of_getElem? hx
    rw [hsplit, List.append_assoc, List.getElem?_append_right (by omega), hti, Nat.add_sub_cancel_left, List.getElem?_append_left hk]
    exact hx
theorem qom {x : Operand} {t e : TypeId} {lo hi : Option Operand} {sz : Nat} {agg : Bool} {xs ys : List AV} {tip : Option Nat} {i j : Nat} (hx : qz N s x = .sl sz xs tip) (hu : E.P.underlying t = some (.slice e)) (ht : tyOf E.P e = some (sz, agg))
  (hlo : match lo with | none => i = 0 | some y => ∃ k, qz N s y = .v (.int k (i : Int))) (hhi : match hi with | none => j = xs.length | some y => ∃ k, qz N s y = .v (.int k (j : Int))) (h1 : i ≤ j) (h2 : j ≤ xs.length) (hy : (xs.take j).drop i = ys)
  (h : AOps E rd N ops rest K (s.put d (.sl sz ys none))) : AOps E rd N ops (⟨d, .slice t x lo hi none, T, p, af, none⟩ :: rest) K s := by
 subst hy
 refine jk rfl (ji nofun fun B0 w0 G a w _ hI => ?_)
 have he := hI.eval_of hx
 generalize hv : a.eval x = v at he
 have hsl : ∃ b len cap, v = .slice b len cap := by cases he <;> exact ⟨_, _, _, rfl⟩
 obtain ⟨b, len, cap, rfl⟩ := hsl
 obtain ⟨hl, hlc, hr⟩ := qqx he h1 h2
 refine ⟨_, w, G, _, s.st, ?_, .refl G, hI.agree, hr, h⟩
 have hrun := qrp hu ht b len cap (lo.map a.eval) (hi.map a.eval) i j w (by
  cases lo with
  | none => exact hlo
  | some y => obtain ⟨k, hy⟩ := hlo; exact ⟨k, hI.evalv hy⟩) (by
  cases hi with
  | none => simp only at hhi; simp only [Option.map_none]; omega
  | some y => obtain ⟨k, hy⟩ := hhi; exact ⟨⟨k, hI.evalv hy⟩, by omega⟩) h1
 generalize a.eval = ρ at hv hrun
 simp only [execOp, hv]
 simp [Instr.sliceAt, run_underlying hu, hrun]
theorem qae {x y : Operand} {t e : TypeId} {sz : Nat} {agg : Bool} {xs ys : List AV} {tip : Option Nat} {k : IntKind} {i : Nat} (hx : qz N s x = .sl sz xs tip) (hy : qz N s y = .v (.int k (i : Int))) (hu : E.P.underlying t = some (.slice e)) (ht : tyOf E.P e = some (sz, agg)) (h1 : i ≤ xs.length) (hz : xs.drop i = ys)
  (h : AOps E rd N ops rest K (s.put d (.sl sz ys none))) : AOps E rd N ops (⟨d, .slice t x (some y) none none, T, p, af, none⟩ :: rest) K s :=
 qom (i := i) (j := xs.length) hx hu ht ⟨k, hy⟩ rfl h1 (Nat.le_refl _) (by rw [List.take_length]; exact hz) h
end
end Go.Av
set_option linter.unusedVariables false
namespace Go.Av
open Go Go.RowKit
inductive Vec (sz : Nat) (T : TypeId) (o : Nat) (xs : List AV) : AV → AObj → Prop
 | nil (h : xs = []) : Vec sz T o xs jm (.tip 0 sz T)
 | os (ver cap : Nat) (pad : List AV) (hl : (flat xs ++ pad).length = cap * sz) (hw : ∀ x ∈ xs, x.cells.length = sz) (hle : xs.length ≤ cap) (hcm : cap ≤ maxLen) : Vec sz T o xs (.os o ver 0 xs.length cap) (.cells ver T (flat xs ++ pad))
section
variable {B0 : Nat} {w0 : World} {G : Gh} {st : List AObj} {w : World}
theorem jg.setCells (h : jg B0 w0 G st w) {t k cap v' : Nat} {T : TypeId} {cs : List AV} (ht : st[t]? = some .dead) (hraw : (G.ob t).raw = false) (hver : (G.ob t).ver < v')
  {c : Array Value} (hc : w.heap[k]? = some (.cells c T (0, 0))) (hp : G.pub k = none) (hl : cs.length = c.size) (hr : ∀ (i : Nat) (x : AV) (y : Value), cs[i]? = some x → c[i]? = some y → Rel G x y) (hk : B0 ≤ k) (hs : ∀ o x, st[o]? = some x → x.live → (G.ob o).blk ≠ k) :
  G.le (G.setOb t ⟨v', k, cap, false⟩) ∧ jg B0 w0 (G.setOb t ⟨v', k, cap, false⟩) (st.set t (.cells v' T cs)) w := by
 have hle := G.le_setOb t ⟨v', k, cap, false⟩ hver hraw
 have hob : ∀ o, o ≠ t → (G.setOb t ⟨v', k, cap, false⟩).ob o = G.ob o := fun o ho => by simp [Gh.setOb, ho]
 have hobt : (G.setOb t ⟨v', k, cap, false⟩).ob t = ⟨v', k, cap, false⟩ := by simp [Gh.setOb]
 refine ⟨hle, h.below, h.hB, by simp [h.n, Gh.setOb], h.pub, fun o x hx => ?_, fun o o' x x' hne hx hx' hl1 hl2 => ?_⟩
 ·rcases getElem?_set' _ _ _ _ _ hx with ⟨rfl, rfl⟩ | ⟨ho, hx⟩
  ·exact ⟨by rw [hobt], by rw [hobt], by rw [hobt]; exact hk, by rw [hobt]; exact hp, c, by rw [hobt]; exact hc, hl, fun i x y h1 h2 => (hr i x y h1 h2).mono hle⟩
  ·exact (h.ob o x hx).mono hle (hob o ho) (fun _ => rfl) (fun _ => rfl)
 ·rcases getElem?_set' _ _ _ _ _ hx with ⟨e1, e2⟩ | ⟨ho, hx⟩
  ·rcases getElem?_set' _ _ _ _ _ hx' with ⟨e3, _⟩ | ⟨ho', hx'⟩
   ·exact absurd (e1.trans e3.symm) hne
   ·rw [e1, hobt, hob o' ho']
    exact (hs o' x' hx' hl2).symm
  ·rcases getElem?_set' _ _ _ _ _ hx' with ⟨e3, _⟩ | ⟨ho', hx'⟩
   ·rw [e3, hobt, hob o ho]
    exact hs o x hx hl1
   ·rw [hob o ho, hob o' ho']
    exact h.sep o o' x x' hne hx hx' hl1 hl2
theorem qcy {G : Gh} {cs ds : List AV} {vs us : List Value} (hl : cs.length = vs.length) (h1 : ∀ (i : Nat) (x : AV) (y : Value), cs[i]? = some x → vs[i]? = some y → Rel G x y) (h2 : ∀ (i : Nat) (x : AV) (y : Value), ds[i]? = some x → us[i]? = some y → Rel G x y) :
  ∀ (i : Nat) (x : AV) (y : Value), (cs ++ ds)[i]? = some x → (vs ++ us)[i]? = some y → Rel G x y := fun i x y hx hy => by
 by_cases hi : i < cs.length
 ·rw [List.getElem?_append_left hi] at hx
  rw [List.getElem?_append_left (by omega)] at hy
  exact h1 i x y hx hy
 ·rw [List.getElem?_append_right (by omega)] at hx
  rw [List.getElem?_append_right (by omega), ← hl] at hy
  exact h2 _ x y hx hy
theorem qme {P : Program} (hA : jg B0 w0 G st w) {tt u ty T : TypeId} {du : TypeDesc} (htt : P.underlying tt = some (.slice T)) (hu : P.underlying u = some du) (hd : qdx du)
  {sz bytes : Nat} (hT : qax P T sz bytes) {o : Nat} {xs ys : List AV} {a : AV} {ob : AObj} {v x : Value} (hV : Vec sz T o xs a ob) (ho : st[o]? = some ob) (hv : Rel G a v)
  {news : List Value} (hx : Src P w x ys.length sz news) (hys : ∀ y ∈ ys, y.cells.length = sz) (hrel : ∀ (i : Nat) (a : AV) (b : Value), (flat ys)[i]? = some a → news[i]? = some b → Rel G a b)
  (h63 : xs.length + ys.length ≤ maxLen) (hbytes : (xs.length + ys.length) * bytes ≤ 140737488355328) :
  ∃ v' w' G' a' ob', (Builtin.append_ #[tt, u] ty #[v, x]).run P w = .ok v' w' ∧ G.le G' ∧ jg B0 w0 G' (st.set o ob') w' ∧ Rel G' a' v' ∧ Vec sz T o (xs ++ ys) a' ob' := by
 obtain ⟨i, z, hi, hz, rfl, rfl, hzs⟩ := hT.ex
 have hon := lt_of_getElem? ho
 have htn : o < G.n := by rw [hA.n]; exact hon
 have hraw : (G.ob o).raw = false := by
  have := hA.ob o _ ho
  cases hV with
  | nil h => exact this.1
  | os => exact this.1
 have hk := hA.kill o
 have hkt : (st.set o .dead)[o]? = some .dead := qej ho
 have hother : ∀ k x, (st.set o .dead)[k]? = some x → x.live → k ≠ o ∧ st[k]? = some x := fun k x hx hl => by
  rcases getElem?_set' _ _ _ _ _ hx with ⟨_, e⟩ | ⟨h1, h2⟩
  ·subst e; exact hl.elim
  ·exact ⟨h1, h2⟩
 have hself : st.set o ob = st := by
  apply List.ext_getElem?
  intro k
  by_cases e : o = k
  ·subst e; rw [List.getElem?_set_self hon]; exact ho.symm
  ·rw [List.getElem?_set_ne e]
 have hfy : (flat ys).length = ys.length * i.size := vr hys
 have grow : ∀ (base : Option Addr) (c : Nat) (olds : List Value), (Builtin.firstCells i.size xs.length (.slice base xs.length c)).run P w.drew = .ok olds.toArray w.drew → c < xs.length + ys.length → olds.length = xs.length * i.size → (∀ x ∈ xs, x.cells.length = i.size) →
   (∀ (j : Nat) (a : AV) (b : Value), (flat xs)[j]? = some a → olds[j]? = some b → Rel G a b) → Builtin.nextslicecap (xs.length + ys.length) c * i.bytes ≤ 281474976710656 →
   ∃ v' w' G' a' ob', (Builtin.append_ #[tt, u] ty #[.slice base xs.length c, x]).run P w = .ok v' w' ∧ G.le G' ∧ jg B0 w0 G' (st.set o ob') w' ∧ Rel G' a' v' ∧ Vec i.size T o (xs ++ ys) a' ob' := by
  intro base c olds hold hc hol hwx hrx hfit
  have hfx : (flat xs).length = xs.length * i.size := vr hwx
  have hrun := qd3 (ty := ty) htt hu hd hi hz hx base xs.length c olds hold hc (by simp only [maxLen] at h63; omega) hfit
  have hge := grownCap_ge w (xs.length + ys.length) c T
  have hle := grownCap_le_maxLen w (xs.length + ys.length) c T h63
  generalize grownCap w (xs.length + ys.length) c T = cap at hrun hge hle
  generalize hzc : (Builtin.zeroCells z.cells (cap - (xs.length + ys.length))) = zc at hrun
  have hzl : zc.size = (cap - (xs.length + ys.length)) * i.size := by rw [← hzc, size_zeroCells, hzs]
  have hdrew : Below w.heap.size w w.drew := ⟨rfl, rfl, rfl, Nat.le_refl _, fun _ _ => rfl⟩
  have hcl : (flat (xs ++ ys) ++ zc.toList.map AV.v).length = (olds.toArray ++ news.toArray ++ zc).size := by
   rw [wx]
   simp [hfx, hfy, hol, hx.count]
   omega
  have hA1 := (hk.fresh hdrew).fresh (w' := w.drew.alloc (.cells (olds.toArray ++ news.toArray ++ zc) T)) ⟨rfl, rfl, rfl, by simp [World.alloc], fun b hb => xe _ _ _ hb⟩
  have hnp : G.pub w.heap.size = none := by
   cases hp : G.pub w.heap.size with
   | none => rfl
   | some vs => exact absurd (hA.pub_lt hp) (Nat.lt_irrefl _)
  obtain ⟨hle2, hA2⟩ := hA1.setCells (t := o) (k := w.heap.size) (cap := 0) (v' := (G.ob o).ver + 1) (T := T) (cs := flat (xs ++ ys) ++ zc.toList.map AV.v) hkt hraw (Nat.lt_succ_self _) (xg w.drew _) hnp hcl (by
   have h1 := qcy (G := G) (cs := flat xs) (ds := flat ys) (vs := olds) (us := news) (by omega) hrx hrel
   have h2 := qcy (G := G) (cs := flat xs ++ flat ys) (ds := zc.toList.map AV.v) (vs := olds ++ news) (us := zc.toList) (by simp [hfx, hfy, hol, hx.count]) h1 (fun j a b h1 h2 => by
    rw [List.getElem?_map, h2] at h1
    simp at h1
    subst h1
    exact .v _)
   rw [wx]
   intro j a b g1 g2
   exact h2 j a b g1 (by rw [← g2]; simp [← Array.getElem?_toList])) hA.hB (fun k x hx hl => by
   obtain ⟨_, hx'⟩ := hother k x hx hl
   exact Nat.ne_of_lt ((hA.ob k x hx').lt hl))
  rw [List.set_set] at hA2
  refine ⟨_, _, _, _, _, hrun, hle2, hA2, .os o ((G.ob o).ver + 1) 0 (xs.length + ys.length) w.heap.size cap (by simpa [Gh.setOb] using htn) (by simp [Gh.setOb]) (fun _ => by simp [Gh.setOb]), ?_⟩
  have := Vec.os (o := o) (T := T) (xs := xs ++ ys) ((G.ob o).ver + 1) cap (zc.toList.map AV.v) (sz := i.size) (by
   have h1 : zc.toList.length = (cap - (xs.length + ys.length)) * i.size := by rw [← hzl]; simp
   rw [List.length_append, wx, List.length_append, hfx, hfy, List.length_map, h1, ← Nat.add_mul, ← Nat.add_mul]
   congr 1
   omega) (fun y hy => by
   rcases List.mem_append.1 hy with h | h
   ·exact hwx y h
   ·exact hys y h) (by simpa using hge) hle
  rw [List.length_append] at this
  exact this
 cases hV with
 | nil h =>
  subst h
  cases hv with
  | v _ =>
  by_cases hm0 : ys.length = 0
  ·have hy0 : ys = [] := List.eq_nil_of_length_eq_zero hm0
   subst hy0
   have hn0 : news = [] := List.eq_nil_of_length_eq_zero (by simpa using hx.count)
   subst hn0
   exact ⟨_, _, G, _, _, qb7 htt hu hd hi hx none 0 0 (Nat.le_refl _), .refl G, by rw [hself]; exact hA, .v _, .nil (by simp)⟩
  ·exact grow none 0 [] (by simp [run_firstCells_none]) (by simp; omega) (by simp) (by simp) (by simp [flat]) (by
    simp only [List.length_nil, Nat.zero_add] at hbytes ⊢
    rw [nextslicecap_zero (by omega)]
    omega)
 | os ver cap pad hl hw hle hcm =>
  obtain ⟨g0, g1, g2, g3, c, g4, g5, g6⟩ := hA.ob o _ ho
  have hfx : (flat xs).length = xs.length * i.size := vr hw
  cases hv with
  | os _ _ _ _ b _ hn hv' hb =>
  have hb := hb g1
  subst hb
  have hcs : c.size = cap * i.size := by rw [← g5, hl]
  by_cases hm0 : ys.length = 0
  ·have hy0 : ys = [] := List.eq_nil_of_length_eq_zero hm0
   subst hy0
   have hn0 : news = [] := List.eq_nil_of_length_eq_zero (by simpa using hx.count)
   subst hn0
   exact ⟨_, _, G, _, _, qb7 htt hu hd hi hx _ xs.length cap hle, .refl G, by rw [hself]; exact hA, .os _ _ _ _ _ _ hn hv' (fun _ => rfl), by rw [List.append_nil]; exact .os ver cap pad hl hw hle hcm⟩
  ·by_cases hroom : xs.length + ys.length ≤ cap
   ·have hmul : (xs.length + ys.length) * i.size ≤ cap * i.size := Nat.mul_le_mul_right _ hroom
    rw [Nat.add_mul] at hmul
    have hfit : xs.length * i.size + news.length ≤ c.size := by rw [hx.count, hcs]; omega
    have hrun := qg1 (ty := ty) htt hu hd hi hx (G.ob o).blk xs.length cap c g4 hroom hfit
    have hpl : pad.length = cap * i.size - xs.length * i.size := by
     have := hl
     rw [List.length_append, hfx] at this
     omega
    have hA2 := hA.setRow (cs' := flat (xs ++ ys) ++ pad.drop (ys.length * i.size)) (c' := (c.toList.take (xs.length * i.size) ++ news ++ c.toList.drop (xs.length * i.size + news.length)).toArray) ho (by
     rw [wx]
     simp [hfx, hfy, hx.count, hpl, hcs, Nat.min_eq_left hle]
     omega) (by
     have e1 : ∀ (j : Nat) (a : AV) (b : Value), (flat xs)[j]? = some a → (c.toList.take (xs.length * i.size))[j]? = some b → Rel G a b := fun j a b h1 h2 => by
      have hj := lt_of_getElem? h1
      rw [List.getElem?_take_of_lt (by omega)] at h2
      exact g6 j a b (by rw [List.getElem?_append_left hj]; exact h1) (by simpa using h2)
     have e2 := qcy (G := G) (cs := flat xs) (ds := flat ys) (vs := c.toList.take (xs.length * i.size)) (us := news) (by simp; omega) e1 hrel
     have e3 := qcy (G := G) (cs := flat xs ++ flat ys) (ds := pad.drop (ys.length * i.size)) (vs := c.toList.take (xs.length * i.size) ++ news) (us := c.toList.drop (xs.length * i.size + news.length)) (by
      simp [hfx, hfy, hx.count]
      omega) e2 (fun j a b h1 h2 => by
      rw [List.getElem?_drop] at h1 h2
      refine g6 (xs.length * i.size + news.length + j) a b ?_ (by simpa using h2)
      rw [List.getElem?_append_right (by rw [hfx]; omega), hfx, ← h1, hx.count]
      congr 1
      omega)
     rw [wx]
     intro j a b h1 h2
     exact e3 j a b h1 (by simpa using h2))
    refine ⟨_, _, G, _, _, hrun, .refl G, hA2, .os o ver 0 (xs.length + ys.length) _ cap hn hv' (fun _ => rfl), ?_⟩
    have := Vec.os (o := o) (T := T) (xs := xs ++ ys) ver cap (pad.drop (ys.length * i.size)) (sz := i.size) (by
     rw [List.length_append, wx, List.length_append, hfx, hfy, List.length_drop, hpl]
     omega) (fun y hy => by
     rcases List.mem_append.1 hy with h | h
     ·exact hw y h
     ·exact hys y h) (by simpa using hroom) hcm
    rw [List.length_append] at this
    exact this
   ·refine grow (some ⟨(G.ob o).blk, 0, none⟩) cap (c.toList.take (xs.length * i.size)) ?_ (by omega) (by
     have : xs.length * i.size ≤ cap * i.size := Nat.mul_le_mul_right _ hle
     simp
     omega) hw (fun j a b h1 h2 => ?_) (growslice_fits (by omega) hbytes)
    ·refine run_firstCells_some w.drew i.size xs.length ⟨(G.ob o).blk, 0, none⟩ xs.length cap _ (by
      have : xs.length * i.size ≤ cap * i.size := Nat.mul_le_mul_right _ hle
      simp
      omega) fun j y hy => ?_
     have e1' : w.drew.heap[(G.ob o).blk]? = some (.cells c T (0, 0)) := g4
     rw [Addr.add_lit]
     rw [List.getElem?_take] at hy
     split at hy
     ·simp only [Array.getElem?_toList] at hy
      simp [World.cell?, e1', hy]
     ·simp at hy
    ·have hj := lt_of_getElem? h1
     rw [List.getElem?_take_of_lt (by omega)] at h2
     exact g6 j a b (by rw [List.getElem?_append_left hj]; exact h1) (by simpa using h2)
end
section
variable {E : Env} {rd : Option Nat} {N : Nat} {ops : Array Oper} {K : AS → Prop} {s : AS} {rest : List Oper} {d : Option Tmp} {T : TypeId} {p : String} {af : Array Edge}
theorem qgx {x y : Operand} {t u T' : TypeId} {sz bytes o : Nat} {xs ys : List AV} {tip : Option Nat} {a : AV} {ob : AObj} (hx : qz N s x = a) (hy : qz N s y = .sl sz ys tip) (hV : Vec sz T' o xs a ob) (ho : s.st[o]? = some ob)
  (ht : E.P.underlying t = some (.slice T')) (hu : E.P.underlying u = some (.slice T')) (hT : qax E.P T' sz bytes) (hone : wg (flat ys) = true) (h63 : xs.length + ys.length ≤ maxLen) (hb : (xs.length + ys.length) * bytes ≤ 140737488355328)
  (h : ∀ a' ob', Vec sz T' o (xs ++ ys) a' ob' → AOps E rd N ops rest K (AS.put ⟨s.t, s.st.set o ob', s.df⟩ d a')) : AOps E rd N ops (⟨d, .call ⟨.builtin .append, #[x, y], #[t, u]⟩, T, p, af, none⟩ :: rest) K s := by
 refine jk rfl (ji nofun fun B0 w0 G a0 w _ hI => ?_)
 obtain ⟨news, h1, h2, h3⟩ := qc2 (P := E.P) hI.agree (hI.eval_of hy) (by simpa [wg] using hone)
 obtain ⟨v', w', G', a', ob', e1, e2, e3, e4, e5⟩ := qme (ty := T) hI.agree ht hu (.inr ⟨_, rfl⟩) hT hV ho (hI.eval_of hx) h1 h2 h3 h63 hb
 refine ⟨v', w', G', _, _, ?_, e2, e3, e4, h a' ob' e5⟩
 generalize a0.eval = ρ at e1
 simp [execOp, resolve, invoke, builtin, e1]
theorem qpw {sz : Nat} {T : TypeId} {o : Nat} {xs : List AV} {a : AV} {ob : AObj} (h : Vec sz T o xs a ob) : lenA a = some xs.length := by
 cases h with
 | nil h => subst h; rfl
 | os => rfl
theorem qwi {sz : Nat} {T : TypeId} {o : Nat} {xs : List AV} {a : AV} {ob : AObj} (h : Vec sz T o xs a ob) : (xs = [] ∧ a = jm ∧ ob = .tip 0 sz T) ∨ ∃ ver cap pad, a = .os o ver 0 xs.length cap ∧ ob = .cells ver T (flat xs ++ pad) ∧ (flat xs ++ pad).length = cap * sz ∧ (∀ x ∈ xs, x.cells.length = sz) ∧ xs.length ≤ cap ∧ cap ≤ maxLen := by
 cases h with
 | nil h => exact .inl ⟨h, rfl, rfl⟩
 | os ver cap pad h1 h2 h3 h4 => exact .inr ⟨ver, cap, pad, rfl, rfl, h1, h2, h3, h4⟩
theorem qmr {sz : Nat} : ∀ {xs : List AV} {i : Nat} {x : AV}, (∀ x ∈ xs, x.cells.length = sz) → x.cells.length = sz → i < xs.length → ∀ pad, wi (flat xs ++ pad) (0 + i * sz) x.cells = flat (xs.set i x) ++ pad
 | [], _, _, _, _, h, _ => by simp at h
 | y :: xs, 0, x, hw, hx, _, pad => by
  have hy := hw y (by simp)
  simp only [List.set_cons_zero, yx, wi, Nat.zero_mul, Nat.zero_add, List.take_zero, List.nil_append, hx]
  rw [List.append_assoc, List.drop_append_of_le_length (by omega), ← hy, List.drop_length]
  simp
 | y :: xs, i + 1, x, hw, hx, h, pad => by
  have hy := hw y (by simp)
  have ih := qmr (xs := xs) (i := i) (x := x) (fun z hz => hw z (by simp [hz])) hx (by simpa using h) pad
  simp only [List.set_cons_succ, yx, wi, Nat.zero_add] at ih ⊢
  have e : (i + 1) * sz = y.cells.length + i * sz := by rw [Nat.add_mul, hy]; omega
  simp only [List.append_assoc] at ih ⊢
  rw [e, List.take_length_add_append, show y.cells.length + i * sz + x.cells.length = y.cells.length + (i * sz + x.cells.length) by omega, List.drop_length_add_append]
  simp only [List.append_assoc]
  rw [ih]
theorem qp4 {sz : Nat} {T : TypeId} {o ver cap : Nat} {xs pad : List AV} (hl : (flat xs ++ pad).length = cap * sz) (hw : ∀ x ∈ xs, x.cells.length = sz) (hle : xs.length ≤ cap) (hcm : cap ≤ maxLen) {i : Nat} {x : AV} (hx : x.cells.length = sz) (hi : i < xs.length) :
  Vec sz T o (xs.set i x) (.os o ver 0 xs.length cap) (.cells ver T (wi (flat xs ++ pad) (0 + i * sz) x.cells)) := by
 rw [qmr hw hx hi]
 have hw' : ∀ y ∈ xs.set i x, y.cells.length = sz := fun y hy => by
  rcases List.mem_or_eq_of_mem_set hy with h | rfl
  ·exact hw y h
  ·exact hx
 have := Vec.os (o := o) (T := T) (xs := xs.set i x) ver cap pad (sz := sz) (by
  rw [List.length_append] at hl ⊢
  rw [vr hw', List.length_set, ← vr hw]
  exact hl) hw' (by simpa using hle) hcm
 rw [List.length_set] at this
 exact this
theorem qp7 {sz : Nat} {xs pad : List AV} (hw : ∀ x ∈ xs, x.cells.length = sz) {i : Nat} {x : AV} (hi : xs[i]? = some x) : ((flat xs ++ pad).drop (i * sz)).take sz = x.cells := by
 have hlt := lt_of_getElem? hi
 have hx := hw x (List.mem_of_getElem? hi)
 apply List.ext_getElem?
 intro j
 rw [List.getElem?_take]
 by_cases hj : j < sz
 ·rw [if_pos hj, List.getElem?_drop, ← qje hw hi j hj]
  have hle : (i + 1) * sz ≤ xs.length * sz := Nat.mul_le_mul_right _ hlt
  rw [Nat.succ_mul] at hle
  rw [List.getElem?_append_left (by rw [vr hw]; omega)]
 ·rw [if_neg hj, List.getElem?_eq_none (by omega)]
theorem qqq {i sz : Nat} {T' : TypeId} {c : Code} {Q : Exit → AS → Prop} (h : AWp E rd N c Q ⟨s.t, s.st ++ [AObj.tip 0 sz T'], s.df⟩) : AWp E rd N c Q s :=
 ⟨fun B0 w0 G a w hL hI => wpIn_mono (h.run B0 w0 _ a w hL ⟨hI.agree.newTip sz T', hI.defers_mono (G.le_new 0 0 0 false), hI.size, fun j y hy => (hI.tmps j y hy).mono (G.le_new 0 0 0 false)⟩) fun _ _ _ ⟨G', s', hG, h1, h2⟩ => ⟨G', s', (G.le_new 0 0 0 false).trans hG, h1, h2⟩⟩
end
structure Chg (N : Nat) (s s' : AS) : Prop where
 run : ∀ (B0 : Nat) (w0 : World) (G : Gh) (a : Act) (w : World), Inv B0 w0 N G s a w → ∃ G', G.le G' ∧ Inv B0 w0 N G' s' a w
theorem Chg.trans {N : Nat} {s s' s'' : AS} (h : Chg N s s') (k : Chg N s' s'') : Chg N s s'' := ⟨fun B0 w0 G a w hI => let ⟨G1, h1, h2⟩ := h.run B0 w0 G a w hI; let ⟨G2, k1, k2⟩ := k.run B0 w0 G1 a w h2; ⟨G2, h1.trans k1, k2⟩⟩
section
variable {E : Env} {rd : Option Nat} {N : Nat} {ops : Array Oper} {K : AS → Prop} {s s' : AS}
theorem qvs {c : Code} {Q : Exit → AS → Prop} (hc : Chg N s s') (h : AWp E rd N c Q s') : AWp E rd N c Q s :=
 ⟨fun B0 w0 G a w hL hI => let ⟨G1, h1, h2⟩ := hc.run B0 w0 G a w hI; wpIn_mono (h.run B0 w0 _ a w hL h2) fun _ _ _ ⟨G', s', hG, k1, k2⟩ => ⟨G', s', h1.trans hG, k1, k2⟩⟩
theorem qt3 {fn : Func} {R : AV → List AObj → Prop} (hc : Chg fn.ntmps s s') (h : ARet E fn R s') : ARet E fn R s :=
 ⟨fun B0 w0 G a w hL hI R2 hR2 => let ⟨G1, h1, h2⟩ := hc.run B0 w0 G a w hI; h.run B0 w0 G1 a w hL h2 R2 fun v G' r st' w' hG k1 k2 k3 => hR2 v G' r st' w' (h1.trans hG) k1 k2 k3⟩
theorem qt1 (i : Nat) {x r : AV} (hi : s.t i = x) (hw : ∀ G v, Rel G x v → Rel G r v) : Chg N s ⟨Av.put s.t i r, s.st, s.df⟩ :=
 ⟨fun B0 w0 G a w hI => ⟨G, .refl G, hI.agree, hI.defers, hI.size, fun j y hy => by
  have hj := hI.tmps j y hy
  by_cases e : j = i
  ·subst e; simp only [qaj]; rw [hi] at hj; exact hw G y hj
  ·simp only; rw [qb6 _ _ _ _ e]; exact hj⟩⟩
theorem qt4 (o : Nat) : Chg N s ⟨s.t, s.st.set o .dead, s.df⟩ := ⟨fun B0 w0 G a w hI => ⟨G, .refl G, hI.agree.kill o, hI.defers, hI.size, hI.tmps⟩⟩
theorem qru (i : Nat) {sz o : Nat} {T' : TypeId} {xs : List AV} {v : AV} {ob : AObj} (hi : s.t i = v) (hV : Vec sz T' o xs v ob) (ho : s.st[o]? = some ob) : Chg N s ⟨Av.put s.t i (.sl sz xs none), s.st.set o .dead, s.df⟩ := by
 cases hV with
 | nil hx =>
  subst hx
  exact (qt1 i hi (fun _ _ h => qex h)).trans (qt4 o)
 | os ver cap pad hl hw hle hcm =>
  have hm : xs.length * sz ≤ cap * sz := Nat.mul_le_mul_right _ hle
  refine ⟨fun _ _ _ _ _ hI => hI.osPub hi ho rfl hle hw (by omega) ?_⟩
  rw [List.drop_zero, List.take_append_of_le_length (by rw [vr hw]; exact Nat.le_refl _), List.take_of_length_le (by rw [vr hw]; exact Nat.le_refl _)]
theorem qiv (i : Nat) {sz k : Nat} {T' : TypeId} {xs : List AV} {v : AV} {ob : AObj} {st loc ext new : List AObj} (hs : s.st = ((st ++ loc) ++ ext) ++ new) (hi : s.t i = v) (hV : Vec sz T' (st.length + k) xs v ob) (ho : loc[k]? = some ob) : Chg N s ⟨Av.put s.t i (.sl sz xs none), ((st ++ loc.set k .dead) ++ ext) ++ new, s.df⟩ := by
 have := qru (N := N) i hi hV (by rw [hs]; exact xw ho)
 rw [hs, qbb _ (lt_of_getElem? ho)] at this
 exact this
theorem qmc {rest : List Oper} {d : Option Tmp} {T : TypeId} {p : String} {af : Array Edge} {x y : Operand} {t u T' : TypeId} {sz bytes k : Nat} {xs ys : List AV} {tip : Option Nat} {a : AV} {ob : AObj} {st loc ext new : List AObj} (hs : s.st = ((st ++ loc) ++ ext) ++ new) (hx : qz N s x = a) (hy : qz N s y = .sl sz ys tip) (hV : Vec sz T' (st.length + k) xs a ob) (ho : loc[k]? = some ob)
  (ht : E.P.underlying t = some (.slice T')) (hu : E.P.underlying u = some (.slice T')) (hT : qax E.P T' sz bytes) (hone : wg (flat ys) = true) (h63 : xs.length + ys.length ≤ maxLen) (hb : (xs.length + ys.length) * bytes ≤ 140737488355328)
  (h : ∀ a' ob', Vec sz T' (st.length + k) (xs ++ ys) a' ob' → AOps E rd N ops rest K (AS.put ⟨s.t, ((st ++ loc.set k ob') ++ ext) ++ new, s.df⟩ d a')) : AOps E rd N ops (⟨d, .call ⟨.builtin .append, #[x, y], #[t, u]⟩, T, p, af, none⟩ :: rest) K s :=
 qgx hx hy hV (by rw [hs]; exact xw ho) ht hu hT hone h63 hb fun a' ob' hV' => by rw [hs, qbb _ (lt_of_getElem? ho)]; exact h a' ob' hV'
end
end Go.Av
set_option linter.unusedVariables false
set_option maxRecDepth 100000
namespace Go.Proofs.YtefmcijohgpfhaaGreatDoor
open Go Go.Av Go.RowKit Go.Proofs Go.Pl
theorem qtd (text : List UInt8) (o kb ver n : Nat) (I : Nat → List UInt8 → List AObj → Prop) (D : List AObj → Prop) (st l0 : List AObj) (ht : text.length < 4294967281) (h0 : I 0 text l0)
  (hI : ∀ k rest l, I k rest l → l.length = n ∧ (st ++ l)[kb]? = some (.cells ver 9 [Sv text]))
  (hY : ∀ k rest l own ext, I k rest l → rest ≠ [] → rest.length ≤ text.length → yi E o [qau k text rest] (st ++ (l ++ own :: ext)) fun b st2 => ∃ l' ext', st2 = st ++ (l' ++ own :: ext') ∧ (b = true → I (k + 1) (past 10 rest) l') ∧ (b = false → D l' ∧ l'.length = n)) :
  zr E 113 [.yd o, .bx kb ver 0] (st ++ l0) fun r st' => ∃ l own ext', st' = st ++ (l ++ own :: ext') ∧ ((∃ k, I k [] l) ∨ D l) := by
 refine zp Tryz.func113 rfl (Nat.le_of_ble_eq_true rfl) ?_
 obtain ⟨hn, hb⟩ := hI 0 text l0 h0
 repeat' (first
  | apply qr
  | apply q7
  | apply qe
  | apply qa
  | apply qf
  | (apply jh; exact rfl; exact rfl)
  | (apply q6; (iterate 11 exact rfl))
  | (apply j6; (iterate 3 exact rfl))
  | (apply qao; exact rfl; exact rfl; exact hb; exact rfl; exact rfl))
 refine vy (fun (x : Nat × List UInt8) s => match x with | (k, rest) => ∃ l at' ta eb ext, I k rest l ∧ k + rest.length ≤ text.length ∧ at' = (text.length : Int) - rest.length ∧ StA [(0, .yd o), (1, .bx kb ver 0), (3, .bx ((st ++ l0).length + 0) 0 0), (4, Sv rest)] ((st ++ l) ++ (.cells 0 129 [Iv k, Iv at', Sv ta, Bv eb] :: ext)) [] s) (fun x => x.2.length) (0, text)
  ⟨l0, 0, [], false, [], h0, by simp, by simp, ?_⟩ ?_
 ·exact vl ⟨rfl, rfl, rfl, rfl, trivial⟩
 rintro ⟨k, rest⟩ _ ⟨l, _, ta, eb, ext, hi, hle, rfl, t, rfl⟩
 obtain ⟨hn', hb'⟩ := hI k rest l hi
 have hq : (st ++ l).length = (st ++ l0).length := by simp [hn, hn']
 repeat' (first
  | apply qr
  | apply q7
  | apply qe
  | apply qa
  | apply qn
  | apply qf
  | (apply z1; exact rfl; exact rfl)
  | (apply kw; (iterate 3 exact rfl))
  | (apply qg; exact rfl; first | (apply zd; (first | assumption | omega)) | (apply zf; (first | assumption | omega)) | (apply ze; (first | exact rfl | assumption)) | (apply zg; (first | exact rfl | assumption)) | (apply cd_n <;> intro h) | (apply cd_t; (first | exact rfl | assumption)) | (apply cd_f; (first | exact rfl | assumption)) | (apply cd_d <;> intro h) | (apply cd_s <;> intro h))
  | (apply za; (iterate 3 exact rfl))
  | apply q8
  | apply jp
  | (apply qi; exact Tryz.call36; exact qeb _ _ _ (by omega))
  | (apply yq; exact rfl; exact hq; (iterate 10 exact rfl))
  | (apply qac; exact rfl; exact hq; (iterate 4 exact rfl)))
 ·refine qci rfl (qpb (List.append_assoc st l (_ :: ext)).symm ((hY k rest l _ ext hi h (by omega)).mono ?_))
  rintro b _ ⟨l', ext', rfl, h1, h2⟩
  cases b
  ·skip
   rw [← List.append_assoc]
   repeat' (first
    | apply qa
    | (apply kd; exact rfl)
    | (apply qg; exact rfl; first | (apply zd; (first | assumption | omega)) | (apply zf; (first | assumption | omega)) | (apply ze; (first | exact rfl | assumption)) | (apply zg; (first | exact rfl | assumption)) | (apply cd_n <;> intro h) | (apply cd_t; (first | exact rfl | assumption)) | (apply cd_f; (first | exact rfl | assumption)) | (apply cd_d <;> intro h) | (apply cd_s <;> intro h))
    | apply q9)
   refine qs rfl (y0 rfl) ⟨l', _, ext', List.append_assoc _ _ _, .inr (h2 rfl).1⟩
  ·have hi3 := h1 rfl
   obtain ⟨hn3, hb3⟩ := hI _ _ _ hi3
   have hp := xk 10 rest
   have hr0 : 0 < rest.length := List.length_pos_iff.2 h
   have hq3 : (st ++ l').length = (st ++ l0).length := by simp [hn, hn3]
   rw [← List.append_assoc]
   repeat' (first
    | apply qr
    | apply qe
    | apply qa
    | apply qn
    | (apply kd; exact rfl)
    | (apply qg; exact rfl; first | (apply zd; (first | assumption | omega)) | (apply zf; (first | assumption | omega)) | (apply ze; (first | exact rfl | assumption)) | (apply zg; (first | exact rfl | assumption)) | (apply cd_n <;> intro h) | (apply cd_t; (first | exact rfl | assumption)) | (apply cd_f; (first | exact rfl | assumption)) | (apply cd_d <;> intro h) | (apply cd_s <;> intro h))
    | (apply j4; (iterate 3 exact rfl))
    | (apply jj; exact rfl; exact rfl; exact z2 (by omega) (by omega))
    | (apply w7; exact rfl; exact rfl; exact z2 (by omega) (by omega))
    | (apply za; (iterate 3 exact rfl))
    | apply q8
    | (apply qao; exact rfl; exact rfl; exact hb3; exact rfl; exact rfl)
    | (apply yq; exact rfl; exact hq3; (iterate 10 exact rfl))
    | (apply qac; exact rfl; exact hq3; (iterate 4 exact rfl)))
   exact ⟨(k + 1, past 10 rest), ⟨l', _, _, _, _, hi3, by omega, rfl, vl ⟨rfl, rfl, rfl, rfl, trivial⟩⟩, by simp only; omega⟩
 ·have hr : rest = [] := Classical.not_not.1 h
  subst hr
  exact qs rfl (y0 rfl) ⟨l, _, ext, List.append_assoc _ _ _, .inl ⟨k, hi⟩⟩
theorem qkq {N : Nat} {Q : Exit → AS → Prop} {s : AS} {f : Operand} {p : Tmp} {asg body : Code} {st loc : List AObj} {kb ver : Nat} (text : List UInt8) (hst : s.st = st ++ loc) (hx : qz N s f = .fn (.func 113) [] [.bx (st.length + kb) ver 0]) (ht : text.length < 4294967281)
  (I : Nat → List UInt8 → List AObj → Prop) (D : Code → List AObj → Prop) (h0 : I 0 text loc)
  (hI : ∀ k rest l, I k rest l → l.length = loc.length ∧ l[kb]? = some (.cells ver 9 [Sv text])) (hD : ∀ c l, D c l → l.length = loc.length)
  (hb : ∀ F own rd k rest l ext m, qfu F N s.t #[p] asg body → I k rest l → rest ≠ [] → rest.length ≤ text.length → ((st ++ (l ++ [.dfr, F .ready none, own])) ++ ext).length = m → ((st ++ (l ++ [.dfr, F .busy none, own])) ++ ext).length = m →
   AWp E (some rd) N asg (only fun s1 => ∃ new, s1.st = ((st ++ (l ++ [.dfr, F .ready none, own])) ++ ext) ++ new ∧ s1.df = [] ∧ AWp E (some rd) N body (qso F st own (I (k + 1) (past 10 rest)) D) ⟨s1.t, ((st ++ (l ++ [.dfr, F .busy none, own])) ++ ext) ++ new, []⟩) ⟨put s.t p (qau k text rest), ((st ++ (l ++ [.dfr, F .ready none, own])) ++ ext) ++ [], []⟩)
  (hn : ∀ k l ext, I k [] l → Q .normal ⟨s.t, ((st ++ (l ++ [.dfr, .dead])) ++ ext) ++ [], (st.length + loc.length) :: s.df⟩)
  (hd : ∀ c l ext, D c l → AWp E none N c Q ⟨s.t, ((st ++ (l ++ [.dfr, .dead])) ++ ext) ++ [], (st.length + loc.length) :: s.df⟩) : AWp E none N (.rangeFunc f #[p] asg body) Q s := by
 refine qf2 hst hx Tryz.call113 fun F hF => ?_
 refine zr.mono (qtd text (st.length + (loc.length + 1)) (st.length + kb) ver (loc.length + 2) (fun k rest l => ∃ l1, l = l1 ++ [.dfr, F .ready none] ∧ I k rest l1) (fun l => ∃ l1 c, l = l1 ++ [.dfr, F .done (some c)] ∧ D c l1) st (loc ++ [.dfr, F .ready none]) ht ⟨loc, rfl, h0⟩ ?_ ?_) ?_
 ·rintro k rest _ ⟨l, rfl, hi⟩
  obtain ⟨h1, h2⟩ := hI k rest l hi
  exact ⟨by simp [h1], zw (by rw [List.getElem?_append_left (lt_of_getElem? h2)]; exact h2)⟩
 ·rintro k rest _ own ext ⟨l, rfl, hi⟩ hne hle
  obtain ⟨h1, h2⟩ := hI k rest l hi
  have hy := quk (E := E) (st := st) (l := l) (ext := ext) (own := own) (n := loc.length) (xs := [qau k text rest]) (I := I (k + 1) (past 10 rest)) (D := D) hF h1 rfl (fun l hl => (hI _ _ l hl).1) hD (fun rd => hb F own rd k rest l ext _ hF hi hne hle rfl (by simp))
  have e : (st ++ (l ++ [.dfr, F .ready none, own])) ++ ext = st ++ ((l ++ [.dfr, F .ready none]) ++ own :: ext) := by simp
  rw [e] at hy
  refine hy.mono ?_
  rintro b st2 ⟨l', ext', g1, g2⟩
  cases b with
  | true =>
   obtain ⟨rfl, g⟩ := g1 rfl
   exact ⟨l' ++ [.dfr, F .ready none], ext', by simp, fun _ => ⟨l', rfl, g⟩, nofun⟩
  | false =>
   obtain ⟨c, rfl, g⟩ := g2 rfl
   exact ⟨l' ++ [.dfr, F .done (some c)], ext', by simp, nofun, fun _ => ⟨⟨l', c, rfl, g⟩, by simp [hD c l' g]⟩⟩
 ·rintro r _ ⟨_, own, ext, rfl, ⟨k, l, rfl, hi⟩ | ⟨l, c, rfl, hdl⟩⟩
  ·have h1 := (hI _ _ _ hi).1
   have e : st ++ ((l ++ [.dfr, F .ready none]) ++ own :: ext) = (st ++ (l ++ [.dfr, F .ready none, own])) ++ ext := by simp
   rw [e]
   refine ⟨.ready, none, nofun, qaz h1, ?_⟩
   rw [qbu h1]
   have := hn k l (own :: ext) hi
   simpa using this
  ·have h1 := hD _ _ hdl
   have e : st ++ ((l ++ [.dfr, F .done (some c)]) ++ own :: ext) = (st ++ (l ++ [.dfr, F .done (some c), own])) ++ ext := by simp
   rw [e]
   refine ⟨.done, some c, nofun, qaz h1, ?_⟩
   rw [qbu h1]
   have := hd c l (own :: ext) hdl
   simpa using this
end Go.Proofs.YtefmcijohgpfhaaGreatDoor
set_option linter.unusedVariables false
set_option maxRecDepth 100000
namespace Go.Proofs.YtefmcijohgpfhaaGreatDoor
open Go Go.Av Go.RowKit Go.Proofs Go.Pl
abbrev Ss (xs : List qk) : AV := .sl 1 (xs.map fun x => Sv x) none
theorem qnf (l m : List UInt8) (st : List AObj) : zr E 96 [Sv l, Sv m] st fun r st' => r = Sv (Lib.trimPrefix l m) ∧ st' = st :=
 qad (vals := #[.string ⟨l.toArray⟩, .string ⟨m.toArray⟩]) rfl fun _ _ w _ _ => (Tryz.strings_TrimPrefix ⟨l.toArray⟩ ⟨m.toArray⟩ w).mono fun _ _ ⟨h1, h2⟩ => ⟨h1, qcx h2⟩
theorem qpq (l : List UInt8) (c : UInt8) (st : List AObj) : zr E 96 [Sv l, Sv [c]] st fun r st' => r = Sv (vh c l) ∧ st' = st := by
 rw [← qk7]
 exact qnf _ _ _
theorem qq1 {B0 : Nat} {w0 : World} {G : Gh} {st : List AObj} {w : World} (hA : jg B0 w0 G st w) {xs : List qk} {tip : Option Nat} {v : Value} (h : Rel G (.sl 1 (xs.map fun x => Sv x) tip) v) :
  (xs = [] ∧ ∃ a c, v = .slice a 0 c) ∨ ∃ b off cap, v = .slice (some ⟨b, off, none⟩) xs.length cap ∧ b < w.heap.size ∧ xs.length ≤ cap ∧ ∀ (j : Nat) (x : qk), xs[j]? = some x → w.cell? ⟨b, off + j, none⟩ = some (.string ⟨x.toArray⟩) := by
 generalize hq : xs.map (fun x => Sv x) = q at h
 cases h with
 | sl0 sz tip base cap ht => exact .inl ⟨by simpa using hq, base, cap, rfl⟩
 | sl _ _ _ b off cap pub hp hw hlen hr ht hcap =>
  subst hq
  obtain ⟨c, T, fz, hc, hcc⟩ := hA.pub b pub hp
  refine .inr ⟨b, off, cap, by simp, hA.pub_lt hp, by simpa using hcap, fun j x hx => ?_⟩
  have hfl : flat (xs.map fun x => Sv x) = xs.map fun x => Sv x := by
   clear hx hr hlen hw ht hcap
   induction xs with
   | nil => rfl
   | cons a xs ih => rw [List.map_cons, yx, ih]; rfl
  have hj := lt_of_getElem? hx
  rw [hfl] at hlen
  simp only [List.length_map] at hlen
  have hy : pub[off + j]? = some (pub[off + j]'(by omega)) := List.getElem?_eq_getElem (by omega)
  have hrj := hr j (Sv x) _ (by rw [hfl, List.getElem?_map, hx]; rfl) hy
  generalize hz : pub[off + j]'(by omega) = z at hrj hy
  generalize hSx : Sv x = sx at hrj
  cases hrj <;> simp_all
  subst_vars
  simp [World.cell?, hc, hcc _ _ hy]
theorem qr4 (xs : List qk) (tip : Option Nat) (sep : qk) (st : List AObj) (hN : xs.length ≤ 140737488355328) (hl : (Lib.join xs sep).length ≤ 140737488355328) : zr E 88 [.sl 1 (xs.map fun x => Sv x) tip, Sv sep] st fun r st' => r = Sv (Lib.join xs sep) ∧ st' = st := by
 refine ⟨fun B0 w0 G vs w hL hA hR => ?_⟩
 have hs : vs.size = 2 := by have := hR.1; simpa using this.symm
 have e0 : vs[0]? = some vs[0] := by simp [hs]
 have e1 : vs[1]? = some vs[1] := by simp [hs]
 have h0 := hR.2 0 _ _ rfl e0
 have h1 := hR.2 1 _ _ rfl e1
 have hv1 : vs[1] = .string ⟨sep.toArray⟩ := by generalize vs[1] = y at h1; cases h1; rfl
 have hvs : vs = #[vs[0], .string ⟨sep.toArray⟩] := by
  apply Array.ext (by simp [hs])
  intro i g1 g2
  match i with
  | 0 => rfl
  | 1 => exact hv1
  | i + 2 => simp [hs] at g1; omega
 rw [hvs]
 rcases qq1 hA h0 with ⟨hx, a, c, hv⟩ | ⟨b, off, cap, hv, hb, hcap, hcell⟩
 ·rw [hv]
  subst hx
  refine (Tryz.strings_Join_none a c ⟨sep.toArray⟩ w).mono ?_
  rintro e w' ⟨rfl, rfl⟩
  exact ⟨_, G, Sv [], st, rfl, .refl G, hA, .v _, rfl, rfl⟩
 ·rw [hv]
  have hm : (xs.map fun l : qk => (⟨l.toArray⟩ : ByteArray)).map (·.data.toList) = xs := by simp [List.map_map, Function.comp_def]
  have hc := Tryz.strings_Join b off cap (xs.map fun l => ⟨l.toArray⟩) ⟨sep.toArray⟩ w (fun j x hx => by
   rw [List.getElem?_map] at hx
   cases hq : xs[j]? with
   | none => rw [hq] at hx; simp at hx
   | some y => rw [hq] at hx; simp at hx; subst hx; exact hcell j y hq) hb (by simpa using hN) (by simpa using hcap) (by rw [hm]; simpa using hl)
  rw [hm] at hc
  simp only [List.length_map] at hc
  refine hc.mono ?_
  rintro e w' ⟨rfl, hbw⟩
  exact ⟨_, G, Sv _, st, rfl, .refl G, hA.fresh hbw, .v _, rfl, rfl⟩
def Weak (x r : AV) : Prop := ∀ (G : Gh) (v : Value), Rel G x v → Rel G r v
theorem kp (x : AV) : Weak x x := fun _ _ h => h
theorem qdg (sz : Nat) (xs : List AV) (tip : Option Nat) : Weak (.sl sz xs tip) (.sl sz xs none) := fun _ _ h => qev h
theorem vd (sz : Nat) : Weak jm (.sl sz [] none) := fun _ _ h => qex h
theorem vj {x y x' y' : AV} (h1 : Weak x x') (h2 : Weak y y') : Weak (.tu [x, y]) (.tu [x', y']) := fun G v h => by
 cases h with
 | tu _ vs hl hr =>
  refine .tu _ vs hl fun i a b ha hb => ?_
  match i with
  | 0 => simp at ha; subst ha; exact h1 G b (hr 0 x b rfl hb)
  | 1 => simp at ha; subst ha; exact h2 G b (hr 1 y b rfl hb)
  | i + 2 => simp at ha
theorem qqe {xs ys : List AV} (hl : xs.length = ys.length) (h : ∀ (i : Nat) (x y : AV), xs[i]? = some x → ys[i]? = some y → Weak x y) : Weak (.ag xs) (.ag ys) := fun G v hr => by
 cases hr with
 | ag _ vs hl' hr =>
  refine .ag _ vs (by omega) fun i a b ha hb => ?_
  have hi := lt_of_getElem? ha
  exact h i _ a (List.getElem?_eq_getElem (by omega)) ha G b (hr i _ b (List.getElem?_eq_getElem (by omega)) hb)
theorem qqv {fn : Func} {s : AS} {t u : Tmp} {x y x' y' : AV} (hr : fn.results = #[.tmp t, .tmp u]) (hx : qz fn.ntmps s (.tmp t) = x) (hy : qz fn.ntmps s (.tmp u) = y) (h1 : Weak x x') (h2 : Weak y y') : ARes E fn s (.tu [x', y']) :=
 kq (ju hr) (by rw [hx, hy]; exact vj h1 h2)
theorem qrm {fn : Func} {s : AS} {t : Tmp} {x x' : AV} (hr : fn.results = #[.tmp t]) (hx : qz fn.ntmps s (.tmp t) = x) (h1 : Weak x x') : ARes E fn s x' :=
 kq (zt hr) (by rw [hx]; exact h1)
def errN (n : Int) : AV := if n = 0 then .v .nilIface else .ifc 31 (Iv n)
theorem qe0 (n : Int) : Pure (errN n) := by
 unfold errN
 split
 ·exact jn _
 ·exact qbm (jn _)
theorem qfg {n : Int} (h : n ≠ 0) : errN n = .ifc 31 (Iv n) := if_neg h
end Go.Proofs.YtefmcijohgpfhaaGreatDoor
set_option maxRecDepth 100000
set_option linter.unusedVariables false
namespace Go.Proofs.YtefmcijohgpfhaaGreatDoor
open Go Go.Av Go.RowKit Go.Proofs Go.Pl
theorem qiu (f : FldV) (st : List AObj) (hl : f.1.length < 4294967281) : zr E 124 [fldA f] st fun r st' => r = errN (ve f) ∧ st' = st := by
 refine z4 (qe0 _) (zp Tryz.func124 rfl (Nat.le_of_ble_eq_true rfl) ?_)
 repeat' (first
  | apply qr
  | apply q7
  | apply qe
  | apply qa
  | apply qf
  | (apply qt; (iterate 3 exact rfl))
  | (apply kd; exact rfl)
  | (apply qg; exact rfl; first | (apply zd; (first | assumption | omega)) | (apply zf; (first | assumption | omega)) | (apply ze; (first | exact rfl | assumption)) | (apply zg; (first | exact rfl | assumption)) | (apply cd_n <;> intro h) | (apply cd_t; (first | exact rfl | assumption)) | (apply cd_f; (first | exact rfl | assumption)) | (apply cd_d <;> intro h) | (apply cd_s <;> intro h))
  | (apply j4; (iterate 3 exact rfl))
  | (apply z7; exact rfl; exact rfl)
  | (apply ky; (iterate 4 exact rfl))
  | (apply za; (iterate 3 exact rfl))
  | (apply qx; (iterate 5 exact rfl))
  | apply q8
  | apply q9
  | (apply qi; exact Tryz.call159; exact quy _ _ hl))
 all_goals refine qs rfl (zt rfl) ⟨(?_ : _ = _), _, rfl⟩
 ·have e : ve f = 5 := if_pos (by simp_all)
  rw [e]; rfl
 ·have e : ve f = 6 := (if_neg (by simp_all)).trans (if_pos (by omega))
  rw [e]; rfl
 ·have e : ve f = 0 := (if_neg (by simp_all)).trans (if_neg (by omega))
  rw [e]; rfl
theorem qek (f : FldV) (st : List AObj) (hl : f.1.length < 4294967281) (h : ve f = 0) : zr E 124 [fldA f] st fun r st' => r = .v .nilIface ∧ st' = st := by
 have := qiu f st hl
 rw [h] at this
 exact this
theorem qea (f : FldV) (st : List AObj) (hl : f.1.length < 4294967281) (h : ve f ≠ 0) : zr E 124 [fldA f] st fun r st' => r = .ifc 31 (Iv (ve f)) ∧ st' = st := by
 have := qiu f st hl
 rw [qfg h] at this
 exact this
theorem qrx (s : List UInt8) (st : List AObj) (hl : s.length < 4294967281) : zr E 126 [Sv s] st fun r st' => r = Sv (vp s) ∧ st' = st := by
 refine z4 (jn _) (zp Tryz.func126 rfl (Nat.le_of_ble_eq_true rfl) ?_)
 have hb : Lib.trimS s [32, 9] = [] ↔ y3 s := by rw [qlu]; simp [v6, y3]
 repeat' (first
  | apply qr
  | apply qe
  | apply qa
  | apply qn
  | apply qf
  | (apply kw; (iterate 3 exact rfl))
  | (apply zh; (iterate 4 exact rfl))
  | (apply ko; (first | assumption | omega))
  | (apply vo; (first | assumption | omega))
  | (apply wc <;> intro h)
  | (apply zk; exact rfl; first | (apply jx; (first | assumption | omega)) | (apply jw; (first | assumption | omega)) | (apply jy; (first | exact rfl | assumption)) | (apply jv; (first | exact rfl | assumption)) | (apply pk_t; (first | exact rfl | assumption)) | (apply pk_f; (first | exact rfl | assumption)))
  | (apply qg; exact rfl; first | (apply zd; (first | assumption | omega)) | (apply zf; (first | assumption | omega)) | (apply ze; (first | exact rfl | assumption)) | (apply zg; (first | exact rfl | assumption)) | (apply cd_n <;> intro h) | (apply cd_t; (first | exact rfl | assumption)) | (apply cd_f; (first | exact rfl | assumption)) | (apply cd_d <;> intro h) | (apply cd_s <;> intro h))
  | (apply kl; exact rfl; exact rfl; (first | omega | (simp only [List.length_append, List.length_cons, List.length_nil]; omega) | (simp; omega)))
  | apply q8
  | apply q9
  | (apply qi; exact Tryz.call161; exact qvn _ _ _ (by omega) rfl rfl)
  | (apply qi; exact Tryz.call73; exact qeg _ _ _))
 all_goals refine qs rfl (zt rfl) ⟨congrArg (fun l : qk => Sv l) (?_ : _ = vp s), _, rfl⟩
 all_goals unfold vp
 all_goals simp_all
theorem qh9 (xs : List qk) : Pure (Ss xs) := qsi xs
theorem qqy (l p : qk) (r : List qk) (st : List AObj) (hl : l.length < 4294967281) (h : z0 l = p :: r) : zr E 125 [Sv l, Sv [10]] st fun x st' => x = .sl 1 (Sv p :: r.map fun x => Sv x) none ∧ st' = st := by
 have := qti l st hl
 rw [h] at this
 exact this
def qd8 (f : FldV) : AV := .tu [Ss (if ve f = 0 then jr f else []), errN (ve f)]
theorem qop (f : FldV) : Pure (qd8 f) := qcg fun x hx => by
 simp only [List.mem_cons, List.not_mem_nil, or_false] at hx
 rcases hx with rfl | rfl
 ·exact qh9 _
 ·exact qe0 _
set_option maxHeartbeats 2000000 in
theorem qir (f : FldV) (st : List AObj) (hl : f.1.length < 4294967281) (hv : f.2.length < 1000000) : zr E 85 [fldA f] st fun r st' => r = qd8 f ∧ st' = st := by
 refine z4 (qop _) (zp Tryz.func85 rfl (Nat.le_of_ble_eq_true rfl) ?_)
 by_cases hc : ve f = 0
 ·obtain ⟨p, r, hp⟩ : ∃ p r, z0 f.2 = p :: r := ⟨_, _, qf9 f.2⟩
  have hpl : p.length ≤ f.2.length := qbe f.2 p (by rw [hp]; simp)
  have hrl : ∀ x ∈ r, x.length ≤ f.2.length := fun x hx => qbe f.2 x (by rw [hp]; simp [hx])
  have hrn : r.length ≤ f.2.length := by have := y6 _ f.2 (Nat.le_refl _); rw [hp] at this; simpa using this
  repeat' (first
   | (apply xd; (iterate 6 exact rfl))
   | (apply ql2; (iterate 5 exact rfl); kernel_rfl)
   | apply qr
   | apply q7
   | apply qe
   | apply qa
   | apply qn
   | apply qf
   | (apply kw; (iterate 3 exact rfl))
   | (apply qg; exact rfl; first | (apply zd; (first | assumption | omega)) | (apply zf; (first | assumption | omega)) | (apply ze; (first | exact rfl | assumption)) | (apply zg; (first | exact rfl | assumption)) | (apply cd_n <;> intro h) | (apply cd_t; (first | exact rfl | assumption)) | (apply cd_f; (first | exact rfl | assumption)) | (apply cd_d <;> intro h) | (apply cd_s <;> intro h))
   | (apply zo; (iterate 4 exact rfl))
   | (apply kl; exact rfl; exact rfl; (first | omega | (simp only [List.length_append, List.length_cons, List.length_nil]; omega) | (simp; omega)))
   | (apply j3; exact rfl; exact rfl)
   | (apply ky; (iterate 4 exact rfl))
   | (apply za; (iterate 3 exact rfl))
   | (apply qv; (iterate 3 exact rfl))
   | (apply qx; (iterate 5 exact rfl))
   | (apply q6; (iterate 11 exact rfl))
   | (apply qae; (iterate 4 exact rfl); (first | assumption | omega | exact Nat.succ_le_succ (Nat.zero_le _) | (simp; omega)); exact rfl)
   | apply y8
   | (apply qb0; exact rfl; exact rfl; (first | omega | (simp only [List.length_append, List.length_cons, List.length_nil]; omega) | (simp; omega)))
   | (apply w8; (iterate 3 exact rfl))
   | (apply qcw; (iterate 5 exact rfl))
   | apply yc
   | apply q8
   | (apply qi; exact Tryz.call124; exact qek _ _ hl hc)
   | (apply qi; exact Tryz.call125; exact qqy _ _ _ _ (by omega) hp)
   | (apply zy (n := 0); (iterate 6 exact rfl))
   | (apply vx (n := 0); (iterate 6 exact rfl))
   | (apply qer (n := 0); (iterate 5 exact rfl); omega))
  all_goals refine qhz 6 (o := st.length + 1) (sz := 1) (len := 1) (cap := 1) (xs := [Sv (km f.1 p)]) (T' := 9) rfl (zw rfl) rfl rfl (by omega) (Nat.le_refl _) (by decide) (by simp [AV.cells]) ?_ ?_
  ·exact congrArg (fun l : qk => [Sv l]) (by unfold km; rw [if_neg h] : km f.1 p = f.1 ++ [58] ++ ([32] ++ p))
  rotate_left
  ·exact congrArg (fun l : qk => [Sv l]) (by unfold km; rw [if_pos (Classical.not_not.1 h), List.append_nil] : km f.1 p = f.1 ++ [58])
  all_goals
   have hre : qd8 f = .tu [Ss (km f.1 p :: r.map fun s => [32] ++ vp s), .v .nilIface] := by
    unfold qd8 jr
    rw [if_pos hc, hc, hp]
    rfl
   rw [hre]
   have hst : ∀ s, (vp s).length ≤ s.length + 1 := qhj
   refine vz r (fun pre s => StE [(6, .sl 1 (Sv (km f.1 p) :: pre.map (fun s => Sv ([32] ++ vp s))) (some (st.length + 1))), (35, .sl 1 (r.map fun x => Sv x) none), (36, Iv r.length), (37, Iv pre.length)] st [.cells 0 69 [Sv f.1, Sv f.2], .tip (pre.length + 1) 1 9] s) (we ⟨rfl, rfl, congrArg (fun n : Nat => Iv (n : Int)) (List.length_map ..), rfl, trivial⟩ (wu st _ 1 _)) ?_ ?_
   ·rintro _ ⟨t, ext, rfl⟩
    repeat' (first
     | apply qr
     | apply qe
     | apply qa
     | apply qn
     | apply qf
     | (apply qt; (iterate 3 exact rfl))
     | (apply qg; exact rfl; first | (apply zd; (first | assumption | omega)) | (apply zf; (first | assumption | omega)) | (apply ze; (first | exact rfl | assumption)) | (apply zg; (first | exact rfl | assumption)) | (apply cd_n <;> intro h) | (apply cd_t; (first | exact rfl | assumption)) | (apply cd_f; (first | exact rfl | assumption)) | (apply cd_d <;> intro h) | (apply cd_s <;> intro h))
     | apply jp
     | apply q9)
    refine qs rfl (qqv rfl rfl rfl (qdg _ _ _) (kp _)) ⟨?_, kg _ _ _ _⟩
    simp only [Ss, List.map_cons, List.map_map]
    rfl
   ·rintro pre a rest _ hr ⟨t, ext, rfl⟩
    have hlen : r.length = pre.length + (rest.length + 1) := by rw [hr]; simp
    have hget : (r.map fun x => Sv x)[pre.length]? = some (Sv a) := by rw [hr]; simp
    have ha : a.length ≤ f.2.length := hrl a (by rw [hr]; simp)
    have hsa := hst a
    repeat' (first
     | apply qr
     | apply q7
     | apply qe
     | apply qa
     | apply qn
     | apply qf
     | (apply qt; (iterate 3 exact rfl))
     | (apply qg; exact rfl; first | (apply zd; (first | assumption | omega)) | (apply zf; (first | assumption | omega)) | (apply ze; (first | exact rfl | assumption)) | (apply zg; (first | exact rfl | assumption)) | (apply cd_n <;> intro h) | (apply cd_t; (first | exact rfl | assumption)) | (apply cd_f; (first | exact rfl | assumption)) | (apply cd_d <;> intro h) | (apply cd_s <;> intro h))
     | (apply kl; exact rfl; exact rfl; (first | omega | (simp only [List.length_append, List.length_cons, List.length_nil]; omega) | (simp; omega)))
     | (apply jj; exact rfl; exact rfl; exact z2 (by omega) (by omega))
     | (apply qv; (iterate 3 exact rfl))
     | (apply qj; (iterate 9 exact rfl))
     | apply q8
     | (apply qi; exact Tryz.call126; exact qrx _ _ (by omega))
     | (apply zy (n := pre.length); (iterate 5 exact rfl); exact hget)
     | (apply xx (n := pre.length + 1) (m := 1) (sz := 1) (bytes := 16); (iterate 4 exact rfl); simp; exact rfl; exact rfl; exact ⟨⟨_, _, rfl, rfl, rfl, rfl, rfl⟩⟩; exact rfl; exact rfl; (unfold maxLen; omega); omega; exact rfl))
    refine vm ⟨?_, rfl, rfl, ?_, trivial⟩ ?_
    ·exact qef _ (fun s => Sv ([32] ++ vp s)) pre a _ rfl
    ·exact xh pre a
    ·rw [xf pre a]; rfl
 ·skip
  repeat' (first
   | apply qr
   | apply qe
   | apply qa
   | apply qn
   | apply qf
   | (apply qg; exact rfl; first | (apply zd; (first | assumption | omega)) | (apply zf; (first | assumption | omega)) | (apply ze; (first | exact rfl | assumption)) | (apply zg; (first | exact rfl | assumption)) | (apply cd_n <;> intro h) | (apply cd_t; (first | exact rfl | assumption)) | (apply cd_f; (first | exact rfl | assumption)) | (apply cd_d <;> intro h) | (apply cd_s <;> intro h))
   | (apply ku; exact rfl; exact rfl)
   | (apply ky; (iterate 4 exact rfl))
   | (apply qx; (iterate 5 exact rfl))
   | apply q9
   | (apply qi; exact Tryz.call124; exact qea _ _ hl hc))
  refine qs rfl (kq (r' := .tu [Ss [], .ifc 31 (Iv (ve f))]) (ju rfl) (vj (vd _) (kp _))) ⟨?_, _, rfl⟩
  unfold qd8
  rw [if_neg hc, qfg hc]
end Go.Proofs.YtefmcijohgpfhaaGreatDoor
set_option linter.unusedVariables false
set_option maxRecDepth 100000
namespace Go.Proofs.YtefmcijohgpfhaaGreatDoor
open Go Go.Av Go.RowKit Go.Proofs Go.Pl
theorem qe9 {rd : Option Nat} {N : Nat} {ops : Array Oper} {K : AS → Prop} {s : AS} {rest : List Oper} {d : Option Tmp} {T : TypeId} {p : String} {af : Array Edge} {st loc : List AObj} (hst : s.st = st ++ loc)
  (h : AOps E rd N ops rest K (AS.put ⟨s.t, st ++ (loc ++ [bldO 0 (.v (.pointer none)) [] (st.length + (loc.length + 1)), .tip 0 1 5]), s.df⟩ d (.bx (st.length + loc.length) 0 0))) : AOps E rd N ops (⟨d, .alloc 93, T, p, af, none⟩ :: rest) K s := by
 refine jh hst rfl ?_
 have e : ∀ (t : Nat → AV) (st' : List AObj) (df : List Nat) (x : AV), (AS.put ⟨t, st', df⟩ d x).st = st' := fun t st' df x => by cases d <;> rfl
 have e2 : ∀ (t : Nat → AV) (st' st2 : List AObj) (df : List Nat) (x : AV), (⟨(AS.put ⟨t, st', df⟩ d x).t, st2, (AS.put ⟨t, st', df⟩ d x).df⟩ : AS) = AS.put ⟨t, st2, df⟩ d x := fun t st' st2 df x => by cases d <;> rfl
 refine qod (o := st.length + loc.length) (j := 1) (sz := 1) (T' := 5) (T1 := 93) (ver := 0) (cs := [.v (.pointer none), jm]) ?_ rfl ?_
 ·rw [e, ← List.append_assoc, List.getElem?_append_right (by simp)]
  simp
  rfl
 ·rw [e, e2]
  have hx : (st ++ (loc ++ [AObj.cells 0 93 [.v (.pointer none), jm]])).set (st.length + loc.length) (.cells 0 93 ([AV.v (.pointer none), jm].set 1 (.sl 1 [] (some (st ++ (loc ++ [AObj.cells 0 93 [.v (.pointer none), jm]])).length)))) ++ [AObj.tip 0 1 5]
    = st ++ (loc ++ [bldO 0 (.v (.pointer none)) [] (st.length + (loc.length + 1)), .tip 0 1 5]) := by
   rw [wu, List.append_assoc, List.set_append_right _ _ (Nat.le_refl _)]
   simp
  have h' := h
  rw [← hx] at h'
  exact h'
theorem qgn (st loc ext new loc' : List AObj) (k kt ver : Nat) (q : AV) (l m : List UInt8) (hk : loc[k]? = some (bldO ver q l (st.length + kt))) (hkt : loc[kt]? = some (.tip l.length 1 5)) (hq : q = .v (.pointer none) ∨ q = .bx (st.length + k) ver 0)
  (hlen : l.length + m.length ≤ 140737488355328) (hl : loc' = (loc.set k (bldO ver (.bx (st.length + k) ver 0) (l ++ m) (st.length + kt))).set kt (.tip (l ++ m).length 1 5)) :
  zr E 47 [.bx (st.length + k) ver 0, Sv m] (((st ++ loc) ++ ext) ++ new) fun r st' => r = .tu [Iv m.length, .v .nilIface] ∧ st' = ((st ++ loc') ++ ext) ++ new := by
 refine (qof (st.length + k) ver (st.length + kt) q l m _ (xw hk) (xw hkt) hq hlen).mono fun r st' ⟨h1, h2⟩ => ⟨h1, ?_⟩
 have hk1 := lt_of_getElem? hk
 have hk2 := lt_of_getElem? hkt
 rw [h2, qbb _ hk1, qbb _ (by simpa using hk2), hl, List.length_append]
theorem qfc (st loc ext new loc' : List AObj) (k kt ver : Nat) (q : AV) (l : List UInt8) (hk : loc[k]? = some (bldO ver q l (st.length + kt))) (hkt : loc[kt]? = some (.tip l.length 1 5)) (hl : loc' = loc.set kt .dead) :
  zr E 50 [.bx (st.length + k) ver 0] (((st ++ loc) ++ ext) ++ new) fun r st' => r = Sv l ∧ st' = ((st ++ loc') ++ ext) ++ new := by
 refine (qlr (st.length + k) ver (st.length + kt) q l _ (xw hk) (xw hkt)).mono fun r st' ⟨h1, h2⟩ => ⟨h1, ?_⟩
 rw [h2, qbb _ (lt_of_getElem? hkt), hl]
end Go.Proofs.YtefmcijohgpfhaaGreatDoor
set_option maxRecDepth 100000
set_option linter.unusedVariables false
namespace Go.Proofs.YtefmcijohgpfhaaGreatDoor
open Go Go.Av Go.RowKit Go.Proofs Go.Pl
theorem qix : ∀ (r : List qk), (j0 (r.map fun s => [32] ++ vp s)).length ≤ 3 * (r.flatMap fun s => [10] ++ s).length
 | [] => by simp [j0]
 | a :: r => by
  have ih := qix r
  have := qhj a
  simp only [j0, List.map_cons, List.flatMap_cons, List.length_append, List.length_cons, List.length_nil] at ih ⊢
  omega
theorem x9 (a b : List qk) : j0 (a ++ b) = j0 a ++ j0 b := by simp [j0]
theorem qbt (s : qk) : j0 [s] = s ++ [10] := by simp [j0]
theorem qfd : ∀ (l : List qk), l.length ≤ (j0 l).length
 | [] => by simp
 | a :: r => by
  have ih := qfd r
  simp only [j0, List.flatMap_cons, List.length_append, List.length_cons, List.length_nil] at ih ⊢
  omega
theorem qlg (a b : List Fld) : kj (a ++ b) = kj a ++ kj b := by simp [kj]
theorem qhy (f : Fld) : kj [f] = j0 (jr f) := by simp [kj]
theorem qkh {f : Fld} (h : kz f) : (j0 (jr f)).length ≤ 5000 := by
 obtain ⟨hk, hv⟩ := h
 have h1 := qix (z0 f.2).tail
 have h2 := congrArg List.length (qdp _ f.2 (Nat.le_refl _))
 have h3 : (km f.1 ((z0 f.2).headD [])).length ≤ 32 + 2 + ((z0 f.2).headD []).length := by
  have := hk.2.1
  unfold km
  split <;> simp <;> omega
 have e : jr f = [km f.1 ((z0 f.2).headD [])] ++ (z0 f.2).tail.map fun s => [32] ++ vp s := rfl
 rw [e, x9, qbt]
 simp only [List.length_append, List.length_cons, List.length_nil] at h2 ⊢
 omega
theorem qc4 : ∀ (xs : List Fld), (∀ f ∈ xs, kz f) → (kj xs).length ≤ 5000 * xs.length
 | [], _ => by simp [kj]
 | f :: r, h => by
  have ih := qc4 r fun x hx => h x (by simp [hx])
  have h1 := qkh (h f (by simp))
  have e : kj (f :: r) = j0 (jr f) ++ kj r := by simp [kj]
  rw [e, List.length_append, List.length_cons]
  omega
def errF : List Fld → Int
 | [] => 0
 | f :: r => if ve f ≠ 0 then ve f else errF r
theorem qhe : ∀ (xs : List Fld), errF xs = 0 ↔ ∀ f ∈ xs, kz f
 | [] => by simp [errF]
 | f :: r => by
  have ih := qhe r
  unfold errF
  by_cases h : ve f ≠ 0
  ·rw [if_pos h]
   have hg : ¬ kz f := fun hg => h ((qas f).2 hg)
   simp [h, hg]
  ·have hg := (qas f).1 (Classical.not_not.1 h)
   rw [if_neg h, ih]
   simp [hg]
theorem qpv : ∀ {pre : List Fld} {f : Fld} {r : List Fld}, (∀ x ∈ pre, kz x) → ve f ≠ 0 → errF (pre ++ f :: r) = ve f
 | [], f, r, _, h => by simp [errF, h]
 | x :: pre, f, r, hp, h => by
  have := (qas x).2 (hp x (by simp))
  simp only [List.cons_append, errF, this]
  rw [if_neg (by simp)]
  exact qpv (fun y hy => hp y (by simp [hy])) h
theorem qn6 (f : FldV) (st : List AObj) (hl : f.1.length < 4294967281) (hv : f.2.length < 1000000) (h : ve f = 0) : zr E 85 [fldA f] st fun r st' => r = .tu [Ss (jr f), .v .nilIface] ∧ st' = st := by
 have := qir f st hl hv
 unfold qd8 at this
 rw [if_pos h, h] at this
 exact this
theorem qnv (f : FldV) (st : List AObj) (hl : f.1.length < 4294967281) (hv : f.2.length < 1000000) (h : ve f ≠ 0) : zr E 85 [fldA f] st fun r st' => r = .tu [Ss [], .ifc 31 (Iv (ve f))] ∧ st' = st := by
 have := qir f st hl hv
 unfold qd8 at this
 rw [if_neg h, qfg h] at this
 exact this
def qkc (xs : List Fld) : AV := .tu [Sv (if errF xs = 0 then kj xs else []), errN (errF xs)]
theorem qq5 (xs : List Fld) : Pure (qkc xs) := qcg fun x hx => by
 simp only [List.mem_cons, List.not_mem_nil, or_false] at hx
 rcases hx with rfl | rfl
 ·exact jn _
 ·exact qe0 _
structure qrd (xs : List FldV) : Prop where
 len : xs.length < 1000000
 val : ∀ f ∈ xs, f.1.length < 4294967281 ∧ f.2.length < 1000000
set_option maxHeartbeats 2000000 in
theorem qwc (xs : List FldV) (st : List AObj) (hx : qrd xs) : zr E 46 [jd xs] st fun r st' => r = qkc xs ∧ st' = st := by
 refine z4 (qq5 _) (zp Tryz.func46 rfl (Nat.le_of_ble_eq_true rfl) ?_)
 have hxl := hx.len
 repeat' (first
  | (apply qe9; exact rfl)
  | apply qr
  | apply q7
  | apply qe
  | apply qa
  | apply qn
  | apply qf
  | (apply zo; (iterate 4 exact rfl)))
 refine vz xs (fun pre s => (∀ f ∈ pre, kz f) ∧ ∃ q, (q = .v (.pointer none) ∨ q = .bx (st.length + 0) 0 0) ∧ StE [(4, .bx (st.length + 0) 0 0), (11, jd xs), (12, Iv xs.length), (13, Iv pre.length)] st [bldO 0 q (kj pre) (st.length + 1), .tip (kj pre).length 1 5] s) ⟨by simp, _, .inl rfl, we ⟨rfl, rfl, congrArg (fun n : Nat => Iv (n : Int)) (List.length_map ..), rfl, trivial⟩ rfl⟩ ?_ ?_
 ·rintro _ ⟨hg, q, hq, t, ext, rfl⟩
  repeat' (first
   | apply qr
   | apply qe
   | apply qa
   | apply qf
   | (apply qt; (iterate 3 exact rfl))
   | (apply qg; exact rfl; first | (apply zd; (first | assumption | omega)) | (apply zf; (first | assumption | omega)) | (apply ze; (first | exact rfl | assumption)) | (apply zg; (first | exact rfl | assumption)) | (apply cd_n <;> intro h) | (apply cd_t; (first | exact rfl | assumption)) | (apply cd_f; (first | exact rfl | assumption)) | (apply cd_d <;> intro h) | (apply cd_s <;> intro h))
   | apply jp
   | apply q9
   | (refine qi Tryz.call50 (qfc st _ _ _ _ 0 1 0 _ _ rfl rfl rfl) ?_))
  refine qs rfl (ju rfl) ⟨?_, kg _ _ _ _⟩
  unfold qkc
  have h0 := (qhe xs).2 hg
  rw [if_pos h0, h0]
  rfl
 ·rintro pre f rest _ hr ⟨hg, q, hq, t, ext, rfl⟩
  have hlen : xs.length = pre.length + (rest.length + 1) := by rw [hr]; simp
  have hget : (xs.map fldA)[pre.length]? = some (fldA f) := by rw [hr]; simp
  obtain ⟨hf1, hf2⟩ := hx.val f (by rw [hr]; simp)
  by_cases hc : ve f = 0
  ·have hgf := (qas f).1 hc
   have hb1 := qc4 pre hg
   have hb2 := qkh hgf
   repeat' (first
    | apply qr
    | apply q7
    | apply qe
    | apply qa
    | apply qn
    | apply qf
    | (apply z1; exact rfl; exact rfl)
    | (apply qt; (iterate 3 exact rfl))
    | (apply qg; exact rfl; first | (apply zd; (first | assumption | omega)) | (apply zf; (first | assumption | omega)) | (apply ze; (first | exact rfl | assumption)) | (apply zg; (first | exact rfl | assumption)) | (apply cd_n <;> intro h) | (apply cd_t; (first | exact rfl | assumption)) | (apply cd_f; (first | exact rfl | assumption)) | (apply cd_d <;> intro h) | (apply cd_s <;> intro h))
    | (apply zo; (iterate 4 exact rfl))
    | (apply j3; exact rfl; exact rfl)
    | (apply jh; exact rfl; exact rfl)
    | (apply qv; (iterate 3 exact rfl))
    | (apply qx; (iterate 5 exact rfl))
    | (apply q6; (iterate 11 exact rfl))
    | apply q8
    | (apply qi; exact Tryz.call85; exact qn6 _ _ hf1 hf2 hc)
    | (apply zy (n := pre.length); (iterate 5 exact rfl); exact hget))
   refine vz (jr f) (fun lp s => ∃ q, (q = .v (.pointer none) ∨ q = .bx (st.length + 0) 0 0) ∧ StE [(4, .bx (st.length + 0) 0 0), (11, jd xs), (12, Iv xs.length), (13, Iv pre.length), (25, Ss (jr f)), (26, Iv (jr f).length), (27, Iv lp.length)] st [bldO 0 q (kj pre ++ j0 lp) (st.length + 1), .tip (kj pre ++ j0 lp).length 1 5] s) ⟨_, hq, vm ⟨rfl, rfl, rfl, rfl, rfl, congrArg (fun n : Nat => Iv (n : Int)) (List.length_map ..), rfl, trivial⟩ (by simp [j0])⟩ ?_ ?_
   ·rintro _ ⟨q, hq, t, ext, rfl⟩
    repeat' (first
     | apply qr
     | apply qe
     | apply qa
     | apply qn
     | (apply qt; (iterate 3 exact rfl))
     | (apply qg; exact rfl; first | (apply zd; (first | assumption | omega)) | (apply zf; (first | assumption | omega)) | (apply ze; (first | exact rfl | assumption)) | (apply zg; (first | exact rfl | assumption)) | (apply cd_n <;> intro h) | (apply cd_t; (first | exact rfl | assumption)) | (apply cd_f; (first | exact rfl | assumption)) | (apply cd_d <;> intro h) | (apply cd_s <;> intro h))
     | (apply jj; exact rfl; exact rfl; exact z2 (by omega) (by omega))
     | apply jp)
    refine ⟨fun x hx => ?_, q, hq, vm ⟨rfl, rfl, rfl, ?_, trivial⟩ ?_⟩
    ·rcases List.mem_append.1 hx with hx | hx
     ·exact hg x hx
     ·simp at hx; subst hx; exact hgf
    ·rw [xf pre f]; rfl
    ·rw [qlg, qhy]
   ·rintro lp a lr _ hlr ⟨q, hq, t, ext, rfl⟩
    have hlen2 : (jr f).length = lp.length + (lr.length + 1) := by rw [hlr]; simp
    have hget2 : ((jr f).map fun x => Sv x)[lp.length]? = some (Sv a) := by rw [hlr]; simp
    have hb3 : (j0 lp).length + (a.length + 1) ≤ 5000 := by
     rw [hlr, x9] at hb2
     have : a :: lr = [a] ++ lr := rfl
     rw [this, x9, qbt] at hb2
     simp only [List.length_append, List.length_cons, List.length_nil] at hb2
     omega
    have hct := qfd lp
    repeat' (first
     | apply qr
     | apply q7
     | apply qe
     | apply qa
     | apply qn
     | apply qf
     | (apply qt; (iterate 3 exact rfl))
     | (apply qg; exact rfl; first | (apply zd; (first | assumption | omega)) | (apply zf; (first | assumption | omega)) | (apply ze; (first | exact rfl | assumption)) | (apply zg; (first | exact rfl | assumption)) | (apply cd_n <;> intro h) | (apply cd_t; (first | exact rfl | assumption)) | (apply cd_f; (first | exact rfl | assumption)) | (apply cd_d <;> intro h) | (apply cd_s <;> intro h))
     | (apply kl; exact rfl; exact rfl; (first | omega | (simp only [List.length_append, List.length_cons, List.length_nil]; omega) | (simp; omega)))
     | (apply qv; (iterate 3 exact rfl))
     | apply q8
     | (apply zy (n := lp.length); (iterate 5 exact rfl); exact hget2))
    refine qi Tryz.call47 (qgn st _ _ _ _ 0 1 0 _ _ _ rfl rfl ?_ ?_ rfl) ?_; (exact hq); (simp only [List.length_append, List.length_cons, List.length_nil]; omega)
    repeat' (first
     | apply qe
     | apply qa
     | apply qn
     | (apply jj; exact rfl; exact rfl; exact z2 (by omega) (by omega)))
    refine ⟨_, .inr rfl, vm ⟨rfl, rfl, rfl, rfl, rfl, rfl, ?_, trivial⟩ ?_⟩
    ·rw [xf lp a]; rfl
    ·have e : kj pre ++ j0 (lp ++ [a]) = (kj pre ++ j0 lp) ++ (a ++ [10]) := by rw [x9, qbt, List.append_assoc]
     rw [e]; rfl
  ·skip
   repeat' (first
    | apply qr
    | apply q7
    | apply qe
    | apply qa
    | apply qn
    | apply qf
    | (apply z1; exact rfl; exact rfl)
    | (apply qt; (iterate 3 exact rfl))
    | (apply qg; exact rfl; first | (apply zd; (first | assumption | omega)) | (apply zf; (first | assumption | omega)) | (apply ze; (first | exact rfl | assumption)) | (apply zg; (first | exact rfl | assumption)) | (apply cd_n <;> intro h) | (apply cd_t; (first | exact rfl | assumption)) | (apply cd_f; (first | exact rfl | assumption)) | (apply cd_d <;> intro h) | (apply cd_s <;> intro h))
    | (apply ku; exact rfl; exact rfl)
    | (apply jh; exact rfl; exact rfl)
    | (apply qv; (iterate 3 exact rfl))
    | (apply qx; (iterate 5 exact rfl))
    | (apply q6; (iterate 11 exact rfl))
    | apply q8
    | apply q9
    | (apply qi; exact Tryz.call85; exact qnv _ _ hf1 hf2 hc)
    | (apply zy (n := pre.length); (iterate 5 exact rfl); exact hget))
   refine qs rfl (ju rfl) ⟨?_, kg _ _ _ _⟩
   unfold qkc
   have h0 : errF xs = ve f := by rw [hr]; exact qpv hg hc
   rw [h0, if_neg hc, qfg hc]
   rfl
end Go.Proofs.YtefmcijohgpfhaaGreatDoor
set_option maxRecDepth 100000
set_option linter.unusedVariables false
namespace Go.Proofs.YtefmcijohgpfhaaGreatDoor
open Go Go.Av Go.RowKit Go.Proofs Go.Pl
theorem qlt : ∀ (n : Nat) (l : qk), l.length ≤ n → z0 (l ++ [10]) = z0 l ++ [[]]
 | n, l, hn => by
  by_cases h : 10 ∈ l
  ·have hne : l ≠ [] := fun e => by subst e; simp at h
   have hlt := xv (c := 10) hne
   cases n with
   | zero => omega
   | succ n =>
    have ih := qlt n (past 10 l) (by omega)
    have e := qc3 h
    have e2 : l ++ [10] = upto 10 l ++ 10 :: (past 10 l ++ [10]) := (congrArg (· ++ [10]) e).trans (by simp)
    rw [wp (by simp [h]), wp h, e2, yn _ (qai 10 l), y4 _ (qai 10 l), ih]
    rfl
  ·rw [wp (by simp), wn h, yn [] h, y4 [] h]
   rw [wn (by simp)]
   rfl
theorem qa8 : ∀ (n : Nat) (l : qk) (c : UInt8), l.length ≤ n → c ≠ 10 → z0 (l ++ [c]) = (z0 l).set ((z0 l).length - 1) ((z0 l).getD ((z0 l).length - 1) [] ++ [c])
 | n, l, c, hn, hc => by
  by_cases h : 10 ∈ l
  ·have hne : l ≠ [] := fun e => by subst e; simp at h
   have hlt := xv (c := 10) hne
   cases n with
   | zero => omega
   | succ n =>
    have ih := qa8 n (past 10 l) c (by omega) hc
    have e := qc3 h
    have e2 : l ++ [c] = upto 10 l ++ 10 :: (past 10 l ++ [c]) := (congrArg (· ++ [c]) e).trans (by simp)
    have hp := qcd (past 10 l)
    have hpl : 0 < (z0 (past 10 l)).length := List.length_pos_iff.2 hp
    rw [wp (by simp [h]), wp h, e2, yn _ (qai 10 l), y4 _ (qai 10 l), ih]
    have e3 : (upto 10 l :: z0 (past 10 l)).length - 1 = (z0 (past 10 l)).length - 1 + 1 := by simp; omega
    rw [e3, List.set_cons_succ]
    simp
  ·have h2 : 10 ∉ l ++ [c] := by simp [h, Ne.symm hc]
   rw [wn h, wn h2]
   simp
theorem qpa (l : qk) : (z0 l).length ≤ l.length + 1 := y6 _ l (Nat.le_refl _)
theorem qr1 (xs : List qk) : flat (xs.map fun x => Sv x) = xs.map fun x => Sv x := by
 induction xs with
 | nil => rfl
 | cons a xs ih => rw [List.map_cons, yx, ih]; rfl
set_option maxHeartbeats 2000000 in
theorem qqg (l : qk) (st : List AObj) (hl : l.length < 1000000) : zr E 131 [Sv l] st fun r st' => r = Ss (z0 l) ∧ st' = st := by
 refine z4 (qh9 _) (zp Tryz.func131 rfl (Nat.le_of_ble_eq_true rfl) ?_)
 have h0 : Vec 1 9 (st.length + 0) ((z0 []).map fun x => Sv x) (.os (st.length + 0) 0 0 1 1) (.cells 0 9 [Sv []]) := by
  rw [wn (by simp)]
  exact .os 0 1 [] rfl (by simp [AV.cells]) (Nat.le_refl _) (by decide)
 repeat' (first
  | (apply xd; (iterate 6 exact rfl))
  | apply qr
  | apply q7
  | apply qe
  | apply qa
  | apply qf)
 refine vz l (fun pre s => ∃ v ob, Vec 1 9 (st.length + 0) ((z0 pre).map fun x => Sv x) v ob ∧ StE [(0, Sv l), (3, v), (4, Iv pre.length)] st [ob] s) ⟨_, _, h0, we ⟨rfl, rfl, rfl, trivial⟩ rfl⟩ ?_ ?_
 ·rintro _ ⟨v, ob, hV, t, ext, rfl⟩
  repeat' (first
   | apply qr
   | apply qe
   | apply qa
   | apply qn
   | apply qf
   | (apply qt; (iterate 3 exact rfl))
   | (apply qg; exact rfl; first | (apply zd; (first | assumption | omega)) | (apply zf; (first | assumption | omega)) | (apply ze; (first | exact rfl | assumption)) | (apply zg; (first | exact rfl | assumption)) | (apply cd_n <;> intro h) | (apply cd_t; (first | exact rfl | assumption)) | (apply cd_f; (first | exact rfl | assumption)) | (apply cd_d <;> intro h) | (apply cd_s <;> intro h))
   | (apply j4; (iterate 3 exact rfl))
   | apply jp
   | apply q9)
  exact qt3 (qiv 2 rfl rfl hV rfl) (qs rfl (zt rfl) ⟨rfl, kg _ _ _ _⟩)
 ·rintro pre c rest _ hr ⟨v, ob, hV, t, ext, rfl⟩
  have hlen : l.length = pre.length + (rest.length + 1) := by rw [hr]; simp
  have hget : l.getD pre.length 0 = c := by rw [hr]; simp
  have hsp : (l.take (pre.length + 1)).drop pre.length = [c] := by rw [hr, show pre ++ c :: rest = (pre ++ [c]) ++ rest by simp, List.take_left' (by simp), List.drop_left' rfl]
  have hpc := qpa pre
  rcases qwi hV with ⟨h0, _⟩ | ⟨ver, cap, pad, rfl, rfl, hvl, hvw, hvle, hvm⟩
  ·exact absurd (List.map_eq_nil_iff.1 h0) (qcd pre)
  simp only [List.length_map] at hvle
  have hpos : 0 < (z0 pre).length := List.length_pos_iff.2 (qcd pre)
  have hml : ((z0 pre).map fun x => Sv x).length = (z0 pre).length := by simp
  have hpl : ((z0 pre).getD ((z0 pre).length - 1) []).length ≤ pre.length := by
   have hlt : (z0 pre).length - 1 < (z0 pre).length := by omega
   have e : (z0 pre).getD ((z0 pre).length - 1) [] = (z0 pre)[(z0 pre).length - 1] := by simp [List.getD, hlt]
   rw [e]
   exact qbe pre _ (List.getElem_mem _)
  have hdl : ((l.take (pre.length + 1)).drop pre.length).length = 1 := by rw [hsp]; rfl
  have hld : (flat ((z0 pre).map fun x => Sv x) ++ pad)[0 + ((z0 pre).length - 1) * 1]? = some (Sv ((z0 pre).getD ((z0 pre).length - 1) [])) := by
   rw [qr1, Nat.zero_add, Nat.mul_one, List.getElem?_append_left (by simp; omega), List.getElem?_map]
   have : (z0 pre)[(z0 pre).length - 1]? = some ((z0 pre).getD ((z0 pre).length - 1) []) := by
    have : (z0 pre).length - 1 < (z0 pre).length := by omega
    simp [List.getD, this]
   rw [this]
   rfl
  repeat' (first
   | (apply ql2; (iterate 5 exact rfl); kernel_rfl)
   | apply qr
   | apply q7
   | apply qe
   | apply qa
   | apply qn
   | (apply qt; (iterate 3 exact rfl))
   | (apply qg; exact rfl; first | (apply zd; (first | assumption | omega)) | (apply zf; (first | assumption | omega)) | (apply ze; (first | exact rfl | assumption)) | (apply zg; (first | exact rfl | assumption)) | (apply cd_n <;> intro h) | (apply cd_t; (first | exact rfl | assumption)) | (apply cd_f; (first | exact rfl | assumption)) | (apply cd_d <;> intro h) | (apply cd_s <;> intro h))
   | (apply j4; (iterate 3 exact rfl))
   | (apply wb; (iterate 3 exact rfl); first | assumption | omega | (simp; omega))
   | (apply qj; (iterate 9 exact rfl))
   | apply y8
   | (apply qh6; (iterate 4 exact rfl))
   | (apply qj0; exact rfl; exact rfl; exact z2 (by omega) (by omega))
   | (apply qif; (iterate 4 exact rfl); (first | assumption | omega | (simp; omega)); first | assumption | omega | (simp; omega))
   | (apply qb0; exact rfl; exact rfl; (first | omega | (simp only [List.length_append, List.length_cons, List.length_nil]; omega) | (simp; omega)))
   | apply yc
   | (apply qh0; exact rfl; exact rfl; exact z2 (by omega) (by omega))
   | apply q8
   | (apply qer (n := (z0 pre).length - 1); (iterate 4 exact rfl); (simp; omega); (simp; omega))
   | (apply qc1; (iterate 4 exact rfl); exact hld))
  ·refine qmc (xs := (z0 pre).map fun x => Sv x) (ys := [Sv []]) (sz := 1) (bytes := 16) rfl rfl rfl hV rfl rfl rfl ⟨⟨_, _, rfl, rfl, rfl, rfl, rfl⟩⟩ rfl ?_ ?_ ?_
   ·simp [maxLen]; omega
   ·simp; omega
   intro a' ob' hV'
   repeat' (first
    | apply qe
    | apply qa
    | apply qn
    | apply qf
    | (apply jj; exact rfl; exact rfl; exact z2 (by omega) (by omega)))
   have hc : c = 10 := by rw [hget] at h; exact (qb4 c).1 h
   refine ⟨a', ob', ?_, vm ⟨rfl, rfl, ?_, trivial⟩ rfl⟩
   ·rw [hc, qlt _ pre (Nat.le_refl _), List.map_append]
    exact hV'
   ·rw [xf pre c]; rfl
  ·refine qj6 (k := 0) (sz := 1) rfl rfl rfl rfl rfl rfl rfl rfl rfl (by show 0 + ((z0 pre).length - 1) * 1 + 1 ≤ _; rw [hvl]; omega) ?_
   repeat' (first
    | apply qe
    | apply qa
    | apply qn
    | apply qf
    | (apply jj; exact rfl; exact rfl; exact z2 (by omega) (by omega)))
   have hc : c ≠ 10 := fun e => by rw [hget] at h; exact h ((qb4 c).2 e)
   refine ⟨_, _, ?_, vm ⟨rfl, rfl, ?_, trivial⟩ rfl⟩
   ·rw [qa8 _ pre c (Nat.le_refl _) hc, ← hsp]
    have := qp4 (o := st.length + 0) (T := 9) (ver := ver) (sz := 1) hvl hvw (by simpa using hvle) hvm (i := (z0 pre).length - 1) (x := Sv ((z0 pre).getD ((z0 pre).length - 1) [] ++ (l.take (pre.length + 1)).drop pre.length)) rfl (by simp; omega)
    rw [← List.map_set] at this
    exact this
   ·rw [xf pre c]; rfl
end Go.Proofs.YtefmcijohgpfhaaGreatDoor
set_option maxRecDepth 100000
set_option linter.unusedVariables false
namespace Go.Proofs.YtefmcijohgpfhaaGreatDoor
open Go Go.Av Go.RowKit Go.Proofs Go.Pl
theorem qhq (f : FldV) (st : List AObj) (hl : f.1.length < 4294967281) : zr E 130 [fldA f] st fun r st' => r = Iv (ve f) ∧ st' = st := by
 refine z4 (jn _) (zp Tryz.func130 rfl (Nat.le_of_ble_eq_true rfl) ?_)
 repeat' (first
  | apply qr
  | apply qe
  | apply qa
  | apply qf
  | (apply qt; (iterate 3 exact rfl))
  | (apply kd; exact rfl)
  | (apply qg; exact rfl; first | (apply zd; (first | assumption | omega)) | (apply zf; (first | assumption | omega)) | (apply ze; (first | exact rfl | assumption)) | (apply zg; (first | exact rfl | assumption)) | (apply cd_n <;> intro h) | (apply cd_t; (first | exact rfl | assumption)) | (apply cd_f; (first | exact rfl | assumption)) | (apply cd_d <;> intro h) | (apply cd_s <;> intro h))
  | (apply j4; (iterate 3 exact rfl))
  | (apply ky; (iterate 4 exact rfl))
  | (apply za; (iterate 3 exact rfl))
  | (apply qx; (iterate 5 exact rfl))
  | apply q8
  | apply q9
  | (apply qi; exact Tryz.call120; exact qnc _ _ hl))
 all_goals refine qs rfl (zt rfl) ⟨congrArg Iv (?_ : _ = ve f), _, rfl⟩
 ·exact (if_pos (by simp_all) : ve f = 5).symm
 ·exact ((if_neg (by simp_all)).trans (if_pos (by omega)) : ve f = 6).symm
 ·exact ((if_neg (by simp_all)).trans (if_neg (by omega)) : ve f = 0).symm
theorem qua {s : qk} (h : 10 ∉ s) : jf s = 1 ↔ y3 s := by
 unfold jf y3
 rw [if_neg h]
 by_cases hb : ∀ c ∈ s, v6 c
 ·rw [if_pos hb]
  exact ⟨fun _ => hb, fun _ => rfl⟩
 ·rw [if_neg hb]
  refine ⟨fun h => ?_, fun h => absurd h hb⟩
  exfalso
  revert h
  repeat' split
  all_goals decide
theorem qtt (l p : qk) (r : List qk) (st : List AObj) (hl : l.length < 1000000) (h : z0 l = p :: r) : zr E 131 [Sv l] st fun x st' => x = .sl 1 (Sv p :: r.map fun x => Sv x) none ∧ st' = st := by
 have := qqg l st hl
 rw [h] at this
 exact this
theorem qpk {f : Fld} {p : qk} {r : List qk} (h : z0 f.2 = p :: r) : jr f = km f.1 p :: r.map fun s => [32] ++ vp s := by
 unfold jr
 rw [h]
 rfl
set_option maxHeartbeats 2000000 in
theorem qoy (f : FldV) (st : List AObj) (hl : f.1.length < 4294967281) (hv : f.2.length < 1000000) : zr E 90 [fldA f] st fun r st' => r = Ss (jr f) ∧ st' = st := by
 refine z4 (qh9 _) (zp Tryz.func90 rfl (Nat.le_of_ble_eq_true rfl) ?_)
 obtain ⟨p, r, hp⟩ : ∃ p r, z0 f.2 = p :: r := ⟨_, _, qf9 f.2⟩
 have hpl : p.length ≤ f.2.length := qbe f.2 p (by rw [hp]; simp)
 have hrl : ∀ x ∈ r, x.length ≤ f.2.length := fun x hx => qbe f.2 x (by rw [hp]; simp [hx])
 have hr10 : ∀ x ∈ r, 10 ∉ x := fun x hx => qa9 f.2 x (by rw [hp]; simp [hx])
 have hrn : r.length ≤ f.2.length := by have := y6 _ f.2 (Nat.le_refl _); rw [hp] at this; simpa using this
 have hlen : (Sv p :: r.map fun x => Sv x).length = r.length + 1 := by simp
 repeat' (first
  | (apply xd; (iterate 6 exact rfl))
  | apply qr
  | apply q7
  | apply qe
  | apply qa
  | apply qn
  | apply qf
  | (apply kw; (iterate 3 exact rfl))
  | (apply qg; exact rfl; first | (apply zd; (first | assumption | omega)) | (apply zf; (first | assumption | omega)) | (apply ze; (first | exact rfl | assumption)) | (apply zg; (first | exact rfl | assumption)) | (apply cd_n <;> intro h) | (apply cd_t; (first | exact rfl | assumption)) | (apply cd_f; (first | exact rfl | assumption)) | (apply cd_d <;> intro h) | (apply cd_s <;> intro h))
  | (apply kl; exact rfl; exact rfl; (first | omega | (simp only [List.length_append, List.length_cons, List.length_nil]; omega) | (simp; omega)))
  | (apply ky; (iterate 4 exact rfl))
  | (apply za; (iterate 3 exact rfl))
  | (apply qv; (iterate 3 exact rfl))
  | (apply qx; (iterate 5 exact rfl))
  | apply q8
  | (apply qi; exact Tryz.call131; exact qtt _ _ _ _ hv hp)
  | (apply zy (n := 0); (iterate 6 exact rfl)))
 all_goals refine qhz 5 (o := st.length + 1) (sz := 1) (len := 1) (cap := 1) (xs := [Sv (km f.1 p)]) (T' := 9) rfl (zw rfl) rfl rfl (by omega) (Nat.le_refl _) (by decide) (by simp [AV.cells]) ?_ ?_
 ·exact congrArg (fun l : qk => [Sv l]) (by unfold km; rw [if_neg (by assumption)]; simp : km f.1 p = f.1 ++ [58] ++ [32] ++ p)
 rotate_left
 ·exact congrArg (fun l : qk => [Sv l]) (by unfold km; rw [if_pos (Classical.not_not.1 (by assumption)), List.append_nil] : km f.1 p = f.1 ++ [58])
 all_goals
  rw [qpk hp]
  refine vz r (fun pre s => StE [(3, .sl 1 (Sv p :: r.map fun x => Sv x) none), (5, .sl 1 (Sv (km f.1 p) :: pre.map (fun s => Sv ([32] ++ vp s))) (some (st.length + 1))), (6, Iv (pre.length + 1))] st [.cells 0 69 [Sv f.1, Sv f.2], .tip (pre.length + 1) 1 9] s) (we ⟨rfl, rfl, rfl, trivial⟩ (wu st _ 1 _)) ?_ ?_
  ·rintro _ ⟨t, ext, rfl⟩
   repeat' (first
    | apply qr
    | apply qe
    | apply qa
    | apply qn
    | apply qf
    | (apply qt; (iterate 3 exact rfl))
    | (apply qg; exact rfl; first | (apply zd; (first | assumption | omega)) | (apply zf; (first | assumption | omega)) | (apply ze; (first | exact rfl | assumption)) | (apply zg; (first | exact rfl | assumption)) | (apply cd_n <;> intro h) | (apply cd_t; (first | exact rfl | assumption)) | (apply cd_f; (first | exact rfl | assumption)) | (apply cd_d <;> intro h) | (apply cd_s <;> intro h))
    | (apply zo; (iterate 4 exact rfl))
    | apply jp
    | apply q9)
   refine qs rfl (qrm rfl rfl (qdg _ _ _)) ⟨?_, kg _ _ _ _⟩
   simp only [Ss, List.map_cons, List.map_map]
   rfl
  ·rintro pre a rest _ hr ⟨t, ext, rfl⟩
   have hrlen : r.length = pre.length + (rest.length + 1) := by rw [hr]; simp
   have hget : (Sv p :: r.map fun x => Sv x)[pre.length + 1]? = some (Sv a) := by rw [hr]; simp
   have ha : a.length ≤ f.2.length := hrl a (by rw [hr]; simp)
   have ha10 : 10 ∉ a := hr10 a (by rw [hr]; simp)
   have hk := qua ha10
   have hsa := qhj a
   by_cases hb : jf a = 1
   ·have hs : vp a = 46 :: a := if_pos (.inl (hk.1 hb))
    repeat' (first
     | apply qr
     | apply q7
     | apply qe
     | apply qa
     | apply qn
     | apply qf
     | (apply qt; (iterate 3 exact rfl))
     | (apply zh; (iterate 4 exact rfl))
     | (apply vo; (first | assumption | omega))
     | (apply zk; exact rfl; first | (apply jx; (first | assumption | omega)) | (apply jw; (first | assumption | omega)) | (apply jy; (first | exact rfl | assumption)) | (apply jv; (first | exact rfl | assumption)) | (apply pk_t; (first | exact rfl | assumption)) | (apply pk_f; (first | exact rfl | assumption)))
     | (apply qg; exact rfl; first | (apply zd; (first | assumption | omega)) | (apply zf; (first | assumption | omega)) | (apply ze; (first | exact rfl | assumption)) | (apply zg; (first | exact rfl | assumption)) | (apply cd_n <;> intro h) | (apply cd_t; (first | exact rfl | assumption)) | (apply cd_f; (first | exact rfl | assumption)) | (apply cd_d <;> intro h) | (apply cd_s <;> intro h))
     | (apply zo; (iterate 4 exact rfl))
     | (apply kl; exact rfl; exact rfl; (first | omega | (simp only [List.length_append, List.length_cons, List.length_nil]; omega) | (simp; omega)))
     | (apply jj; exact rfl; exact rfl; exact z2 (by omega) (by omega))
     | (apply qv; (iterate 3 exact rfl))
     | (apply qj; (iterate 9 exact rfl))
     | apply q8
     | (apply qi; exact Tryz.call80; exact x4 _ _ (by omega))
     | (apply zy (n := pre.length + 1); (iterate 5 exact rfl); exact hget)
     | (apply xx (n := pre.length + 1) (m := 1) (sz := 1) (bytes := 16); (iterate 4 exact rfl); simp; exact rfl; exact rfl; exact ⟨⟨_, _, rfl, rfl, rfl, rfl, rfl⟩⟩; exact rfl; exact rfl; (unfold maxLen; omega); omega; exact rfl))
    refine vm ⟨rfl, ?_, ?_, trivial⟩ ?_
    ·exact qef _ (fun s => Sv ([32] ++ vp s)) pre a _ (congrArg (fun l : qk => Sv ([32] ++ l)) hs.symm : Sv ([32, 46] ++ a) = _)
    ·exact qcm pre a
    ·rw [xf pre a]; rfl
   ·have hne : a ≠ [] := fun e => hb (hk.2 (by subst e; intro c hc; simp at hc))
    have hpos : 0 < a.length := List.length_pos_iff.2 hne
    have hh : a.head? = some (a.getD 0 0) := by cases a with | nil => exact absurd rfl hne | cons x y => rfl
    have hs : vp a = if a.getD 0 0 = 46 then 46 :: a else a := by
     unfold vp
     have hnb : ¬ y3 a := fun h => hb (hk.2 h)
     rw [hh]
     simp [hnb]
    have h46 : ((a.getD 0 0).toNat : Int) = 46 ↔ a.getD 0 0 = 46 := u8i _ 46 (by omega)
    repeat' (first
     | apply qr
     | apply q7
     | apply qe
     | apply qa
     | apply qn
     | apply qf
     | (apply qt; (iterate 3 exact rfl))
     | (apply zh; (iterate 4 exact rfl))
     | (apply ko; (first | assumption | omega))
     | (apply zk; exact rfl; first | (apply jx; (first | assumption | omega)) | (apply jw; (first | assumption | omega)) | (apply jy; (first | exact rfl | assumption)) | (apply jv; (first | exact rfl | assumption)) | (apply pk_t; (first | exact rfl | assumption)) | (apply pk_f; (first | exact rfl | assumption)))
     | (apply qg; exact rfl; first | (apply zd; (first | assumption | omega)) | (apply zf; (first | assumption | omega)) | (apply ze; (first | exact rfl | assumption)) | (apply zg; (first | exact rfl | assumption)) | (apply cd_n <;> intro h) | (apply cd_t; (first | exact rfl | assumption)) | (apply cd_f; (first | exact rfl | assumption)) | (apply cd_d <;> intro h) | (apply cd_s <;> intro h))
     | (apply zo; (iterate 4 exact rfl))
     | (apply kl; exact rfl; exact rfl; (first | omega | (simp only [List.length_append, List.length_cons, List.length_nil]; omega) | (simp; omega)))
     | (apply jj; exact rfl; exact rfl; exact z2 (by omega) (by omega))
     | (apply qv; (iterate 3 exact rfl))
     | (apply wb; (iterate 3 exact rfl); first | assumption | omega | (simp; omega))
     | (apply qj; (iterate 9 exact rfl))
     | apply q8
     | (apply qi; exact Tryz.call80; exact x4 _ _ (by omega))
     | (apply zy (n := pre.length + 1); (iterate 5 exact rfl); exact hget)
     | (apply xx (n := pre.length + 1) (m := 1) (sz := 1) (bytes := 16); (iterate 4 exact rfl); simp; exact rfl; exact rfl; exact ⟨⟨_, _, rfl, rfl, rfl, rfl, rfl⟩⟩; exact rfl; exact rfl; (unfold maxLen; omega); omega; exact rfl))
    ·have hq : ((a.getD 0 0).toNat : Int) = 46 := by assumption
     refine vm ⟨rfl, ?_, ?_, trivial⟩ ?_
     ·exact qef _ (fun s => Sv ([32] ++ vp s)) pre a _ (congrArg (fun l : qk => Sv ([32] ++ l)) (hs.trans (if_pos (h46.1 hq))).symm : Sv ([32, 46] ++ a) = _)
     ·exact qcm pre a
     ·rw [xf pre a]; rfl
    ·have hq : ¬ ((a.getD 0 0).toNat : Int) = 46 := by assumption
     refine vm ⟨rfl, ?_, ?_, trivial⟩ ?_
     ·exact qef _ (fun s => Sv ([32] ++ vp s)) pre a _ (congrArg (fun l : qk => Sv ([32] ++ l)) (hs.trans (if_neg (fun e => hq (h46.2 e)))).symm : Sv ([32] ++ a) = _)
     ·exact qcm pre a
     ·rw [xf pre a]; rfl
theorem qis (f : Fld) : (j0 (jr f)).length ≤ f.1.length + 3 * f.2.length + 3 := by
 have h1 := qix (z0 f.2).tail
 have h2 := congrArg List.length (qdp _ f.2 (Nat.le_refl _))
 have h3 : (km f.1 ((z0 f.2).headD [])).length ≤ f.1.length + 2 + ((z0 f.2).headD []).length := by
  unfold km
  split <;> simp <;> omega
 have e : jr f = [km f.1 ((z0 f.2).headD [])] ++ (z0 f.2).tail.map fun s => [32] ++ vp s := rfl
 rw [e, x9, qbt]
 simp only [List.length_append, List.length_cons, List.length_nil] at h2 ⊢
 omega
theorem qkf : ∀ (xs : List Fld), (∀ f ∈ xs, f.1.length < 4294967281 ∧ f.2.length < 1000000) → (kj xs).length ≤ 5000000000 * xs.length
 | [], _ => by simp [kj]
 | f :: r, h => by
  have ih := qkf r fun x hx => h x (by simp [hx])
  have h1 := qis f
  have h2 := h f (by simp)
  have e : kj (f :: r) = j0 (jr f) ++ kj r := by simp [kj]
  rw [e, List.length_append, List.length_cons]
  omega
set_option maxHeartbeats 2000000 in
theorem qte (xs : List FldV) (st : List AObj) (hx : qrd xs) : zr E 55 [jd xs] st fun r st' => r = Sv (kj xs) ∧ st' = st := by
 refine z4 (jn _) (zp Tryz.func55 rfl (Nat.le_of_ble_eq_true rfl) ?_)
 have hxl := hx.len
 have hml : (xs.map fldA).length = xs.length := by simp
 repeat' (first
  | apply qr
  | apply q7
  | apply qe
  | apply qa
  | apply qf)
 refine vz xs (fun pre s => StE [(0, jd xs), (3, Sv (kj pre)), (4, Iv pre.length)] st [] s) (we ⟨rfl, rfl, rfl, trivial⟩ rfl) ?_ ?_
 ·rintro _ ⟨t, ext, rfl⟩
  repeat' (first
   | apply qr
   | apply qe
   | apply qa
   | apply qn
   | apply qf
   | (apply qt; (iterate 3 exact rfl))
   | (apply qg; exact rfl; first | (apply zd; (first | assumption | omega)) | (apply zf; (first | assumption | omega)) | (apply ze; (first | exact rfl | assumption)) | (apply zg; (first | exact rfl | assumption)) | (apply cd_n <;> intro h) | (apply cd_t; (first | exact rfl | assumption)) | (apply cd_f; (first | exact rfl | assumption)) | (apply cd_d <;> intro h) | (apply cd_s <;> intro h))
   | (apply zo; (iterate 4 exact rfl))
   | apply jp
   | apply q9)
  exact qs rfl (zt rfl) ⟨rfl, kg _ _ _ _⟩
 ·rintro pre f rest _ hr ⟨t, ext, rfl⟩
  have hlen : xs.length = pre.length + (rest.length + 1) := by rw [hr]; simp
  have hget : (xs.map fldA)[pre.length]? = some (fldA f) := by rw [hr]; simp
  obtain ⟨hf1, hf2⟩ := hx.val f (by rw [hr]; simp)
  have hb1 := qkf pre fun g hg => hx.val g (by rw [hr]; simp [hg])
  have hb2 := qis f
  repeat' (first
   | apply qr
   | apply q7
   | apply qe
   | apply qa
   | apply qn
   | (apply qt; (iterate 3 exact rfl))
   | (apply qg; exact rfl; first | (apply zd; (first | assumption | omega)) | (apply zf; (first | assumption | omega)) | (apply ze; (first | exact rfl | assumption)) | (apply zg; (first | exact rfl | assumption)) | (apply cd_n <;> intro h) | (apply cd_t; (first | exact rfl | assumption)) | (apply cd_f; (first | exact rfl | assumption)) | (apply cd_d <;> intro h) | (apply cd_s <;> intro h))
   | (apply zo; (iterate 4 exact rfl))
   | (apply qv; (iterate 3 exact rfl))
   | apply q8
   | (apply qi; exact Tryz.call90; exact qoy _ _ hf1 hf2)
   | (apply zy (n := pre.length); (iterate 5 exact rfl); exact hget))
  refine vz (jr f) (fun lp s => StE [(0, jd xs), (3, Sv (kj pre ++ j0 lp)), (4, Iv pre.length), (17, Ss (jr f)), (18, Iv (jr f).length), (19, Iv lp.length)] st [] s) ?_ ?_ ?_
  ·refine vm ⟨rfl, ?_, rfl, rfl, congrArg (fun n : Nat => Iv (n : Int)) (List.length_map ..), rfl, trivial⟩ rfl
   exact (congrArg (fun l : qk => Sv l) (by simp [j0]) : Sv (kj pre) = Sv (kj pre ++ j0 []))
  ·rintro _ ⟨t, ext, rfl⟩
   repeat' (first
    | apply qr
    | apply qe
    | apply qa
    | apply qn
    | apply qf
    | (apply qt; (iterate 3 exact rfl))
    | (apply qg; exact rfl; first | (apply zd; (first | assumption | omega)) | (apply zf; (first | assumption | omega)) | (apply ze; (first | exact rfl | assumption)) | (apply zg; (first | exact rfl | assumption)) | (apply cd_n <;> intro h) | (apply cd_t; (first | exact rfl | assumption)) | (apply cd_f; (first | exact rfl | assumption)) | (apply cd_d <;> intro h) | (apply cd_s <;> intro h))
    | (apply jj; exact rfl; exact rfl; exact z2 (by omega) (by omega))
    | apply jp)
   refine vm ⟨rfl, ?_, ?_, trivial⟩ rfl
   ·exact (congrArg (fun l : qk => Sv l) (by rw [qlg, qhy]) : Sv (kj pre ++ j0 (jr f)) = Sv (kj (pre ++ [f])))
   ·exact xh pre f
  ·rintro lp a lr _ hlr ⟨t, ext, rfl⟩
   have hlen2 : (jr f).length = lp.length + (lr.length + 1) := by rw [hlr]; simp
   have hget2 : ((jr f).map fun x => Sv x)[lp.length]? = some (Sv a) := by rw [hlr]; simp
   have hct := qfd lp
   have hb3 : (j0 lp).length + (a.length + 1) ≤ f.1.length + 3 * f.2.length + 3 := by
    rw [hlr, x9] at hb2
    have : a :: lr = [a] ++ lr := rfl
    rw [this, x9, qbt] at hb2
    simp only [List.length_append, List.length_cons, List.length_nil] at hb2
    omega
   repeat' (first
    | apply qr
    | apply q7
    | apply qe
    | apply qa
    | apply qn
    | apply qf
    | (apply qt; (iterate 3 exact rfl))
    | (apply qg; exact rfl; first | (apply zd; (first | assumption | omega)) | (apply zf; (first | assumption | omega)) | (apply ze; (first | exact rfl | assumption)) | (apply zg; (first | exact rfl | assumption)) | (apply cd_n <;> intro h) | (apply cd_t; (first | exact rfl | assumption)) | (apply cd_f; (first | exact rfl | assumption)) | (apply cd_d <;> intro h) | (apply cd_s <;> intro h))
    | (apply kl; exact rfl; exact rfl; (first | omega | (simp only [List.length_append, List.length_cons, List.length_nil]; omega) | (simp; omega)))
    | (apply jj; exact rfl; exact rfl; exact z2 (by omega) (by omega))
    | (apply qv; (iterate 3 exact rfl))
    | apply q8
    | (apply zy (n := lp.length); (iterate 5 exact rfl); exact hget2))
   refine vm ⟨rfl, ?_, rfl, rfl, rfl, ?_, trivial⟩ rfl
   ·exact (congrArg (fun l : qk => Sv l) (by rw [x9, qbt]; simp) : Sv (((kj pre ++ j0 lp) ++ a) ++ [10]) = Sv (kj pre ++ j0 (lp ++ [a])))
   ·exact xh lp a
end Go.Proofs.YtefmcijohgpfhaaGreatDoor
set_option linter.unusedVariables false
namespace Go.Av
open Go Go.RowKit
@[reducible] def qjw (K : Act → World → Prop) : Exit → Act → World → Prop
 | .normal, a, w => K a w
 | _, _, _ => False
structure AZ (E : Env) (N : Nat) (ops : Array Oper) (fuel : Nat) (listed : Array Bool) (K : AS → Prop) (s : AS) : Prop where
 run : ∀ (B0 : Nat) (w0 : World) (G : Gh) (a : Act) (w : World), E.L B0 w0 → Inv B0 w0 N G s a w → ∀ K' : Act → World → Prop, (∀ G' s' a' w', G.le G' → Inv B0 w0 N G' s' a' w' → K s' → K' a' w') → wpAnyIn (fw none) 0 E.P .any ops (qjw K') fuel listed a w
structure AY (E : Env) (N : Nat) (o : Oper) (s : AS) (r : AV) : Prop where
 run : ∀ (B0 : Nat) (w0 : World) (G : Gh) (a : Act) (w : World), Inv B0 w0 N G s a w → ∃ v, (∀ w', (execOp a.eval o).run E.P w' = .ok (.value v) w') ∧ (∀ w', o.about E.P w' a.eval = none) ∧ Rel G r v
section
variable {E : Env} {N : Nat} {ops : Array Oper} {K : AS → Prop} {s : AS} {fuel : Nat} {listed : Array Bool}
theorem x8 {id : Nat} {Q : Exit → AS → Prop} {n : Nat} (hm : E.P.follows .mixedOrders = true) (hn : ops.size = n) (h : AZ E N ops n (Array.replicate n false) (Q .normal) s) : AWp E none N (.region id ops true) Q s := by
 subst hn
 refine ⟨fun B0 w0 G a w hL hI => ?_⟩
 have hBl : Below w.heap.size w { w with drawn := w.drawn + 1 } := ⟨rfl, rfl, rfl, Nat.le_refl _, fun _ _ => rfl⟩
 have hI2 : Inv B0 w0 N G s a { w with drawn := w.drawn + 1 } := ⟨hI.agree.fresh hBl, hI.defers, hI.size, hI.tmps⟩
 have := h.run B0 w0 G a _ hL hI2 (fun a' w' => ∃ (G' : Gh) (s' : AS), G.le G' ∧ Inv B0 w0 N G' s' a' w' ∧ Q .normal s') fun G' s' a' w' hG hI' hk => ⟨G', s', hG, hI', hk⟩
 refine wpIn_mono (wpIn_region_any hm this) fun e a' w' hq => ?_
 cases e with
 | normal => exact hq
 | _ => exact hq.elim
theorem zj (hr : Region.ready .any ops listed = []) (h : K s) : AZ E N ops fuel listed K s :=
 ⟨fun B0 w0 G a w hL hI K' hK => wpAnyIn_done hr (hK G s a w (.refl G) hI h) fuel⟩
theorem qo (i : Nat) {oi : Oper} {r : AV} (hi : ops[i]? = some oi) (hs : Region.noSelect ops = true) (hf : Region.free .any ops listed i = true) (hr : (Region.ready .any ops listed).contains i = true) (hg : oi.guard = none) (hy : AY E N oi s r)
  (h : AZ E N ops fuel (listed.setIfInBounds i true) K (s.put oi.dst r)) : AZ E N ops (fuel + 1) listed K s := by
 refine ⟨fun B0 w0 G a w hL hI K' hK => ?_⟩
 obtain ⟨v, h1, h2, h3⟩ := hy.run B0 w0 G a w hI
 have hwn : Region.wanted oi (yielded ops a.tmps) = true := by simp [Region.wanted, hg]
 refine wpAnyIn_take (v := v) rfl hi hs hf hr (fun c a w hq => hq.elim) ⟨.inl ⟨hwn, h1⟩, h2⟩ (h.run B0 w0 G _ w hL (hI.put (.refl G) hI.agree oi.dst h3) K' fun G' s' a' w' hG hI' hk => hK G' s' a' w' hG hI' hk)
theorem qos {F : Fence} {n : Nat} {P : Program} {o : Oper} {a : Act} {w : World} {next X Y : Act → World → Prop} (h : o.wpIn F n P a w next (qjw X)) : o.wpIn F n P a w next (qjw Y) := by
 unfold Oper.wpIn at *
 refine ⟨h.1, ?_⟩
 have h := h.2
 generalize (o.semAt F.round a.eval).run P w = r at *
 cases r with
 | ok x w' =>
  cases x <;> simp only [Oper.uponIn] at h ⊢
  case value u => exact h
  case skip => exact h
  case defer d => exact h
  case enter f args =>
   refine ⟨h.1, CallsIn.mono h.2 fun e w'' he => ?_⟩
   cases e with
   | returned u => exact he
   | panicked c => exact he.elim
   | outgrown => exact absurd he (by simp [LetsOut])
  case row row args => exact h
  case round l f tmps assign body =>
   refine ⟨h.1, RoundIn.mono h.2 fun e w'' he => ?_⟩
   cases e with
   | returned u => exact he
   | panicked c => exact he.elim
   | outgrown => exact absurd he (by simp [LetsOut])
 | halt x w' =>
  cases x <;> simp only [Oper.uponIn] at h ⊢
  case panic u => exact h.elim
def qq3 (P : Nat → Prop) : List Nat → Prop
 | [] => True
 | i :: r => P i ∧ qq3 P r
theorem ql1 {P : Nat → Prop} : ∀ {l : List Nat}, qq3 P l → ∀ i ∈ l, P i
 | [], _, _, h => by simp at h
 | j :: l, h, i, hi => by
  rcases List.mem_cons.1 hi with rfl | hi
  ·exact h.1
  ·exact ql1 h.2 i hi
theorem qc (rs : List Nat) (hr : Region.ready .any ops listed = rs) (hne : Nat.blt 0 rs.length = true)
  (h : qq3 (fun i => ∃ o, ops[i]? = some o ∧ AOps E none N ops [o] (AZ E N ops fuel (listed.setIfInBounds i true) K) s) rs) : AZ E N ops (fuel + 1) listed K s := by
 refine ⟨fun B0 w0 G a w hL hI K' hK => wpAnyIn_all hr (fun e => by subst e; simp at hne) fun i hi => ?_⟩
 obtain ⟨o, ho, h⟩ := ql1 h i hi
 have hrun := h.run B0 w0 G a w hL hI (qjw fun a' w' => wpAnyIn (fw none) 0 E.P .any ops (qjw K') fuel (listed.setIfInBounds i true) a' w') fun G' s' a' w' hG hI' hk => hk.run B0 w0 G' a' w' hL hI' K' fun G2 s2 a2 w2 hG2 hI2 hk2 => hK G2 s2 a2 w2 (hG.trans hG2) hI2 hk2
 unfold wpOpIn
 rw [ho]
 simp only [wpListIn] at hrun ⊢
 split
 ·rename_i hw
  rw [if_pos hw] at hrun
  exact qos hrun
 ·rename_i hw
  rw [if_neg hw] at hrun
  exact hrun
variable {d : Option Tmp} {T : TypeId} {p : String} {af : Array Edge}
theorem qih {op : Op} {r : AV} (hnc : ∀ c, op ≠ .call c) (h : ∀ (G : Gh) (ρ : Operand → Value), (∀ x, Rel G (qz N s x) (ρ x)) → ∃ v, (∀ w', (execOp ρ ⟨d, op, T, p, af, none⟩).run E.P w' = .ok (.value v) w') ∧ Rel G r v) : AY E N ⟨d, op, T, p, af, none⟩ s r :=
 ⟨fun B0 w0 G a w hI => let ⟨v, h1, h2⟩ := h G a.eval hI.eval; ⟨v, h1, fun w' => by unfold Oper.about; cases op <;> first | rfl | exact absurd rfl (hnc _), h2⟩⟩
theorem vv {x : Operand} : AY E N ⟨d, .move x, T, p, af, none⟩ s (qz N s x) := qih nofun fun G ρ hρ => ⟨ρ x, fun w' => by simp [execOp], hρ x⟩
theorem x5 {x : Operand} : AY E N ⟨d, .assign x, T, p, af, none⟩ s (qz N s x) := qih nofun fun G ρ hρ => ⟨ρ x, fun w' => by simp [execOp], hρ x⟩
theorem zx {x : Operand} {r : AV} (hx : qz N s x = r) (hr : qmn r = true) : AY E N ⟨d, .nilCheck x, T, p, af, none⟩ s r := qih nofun fun G ρ hρ => by
 have he := hρ x
 rw [hx] at he
 generalize hv : ρ x = v at he
 have key : ∃ q, v = .pointer (some q) := by
  cases he <;> simp [qmn] at hr
  ·exact ⟨_, rfl⟩
  ·exact ⟨_, rfl⟩
 obtain ⟨q, rfl⟩ := key
 exact ⟨_, fun w' => by simp [execOp, hv], he⟩
theorem qq {t : TypeId} {x : Operand} {f off sz : Nat} {agg : Bool} {o ver q : Nat} (hx : qz N s x = .bx o ver q) (hf : qaq E.P t f = some (off, sz, agg)) (hsz : Nat.beq sz 0 = false) : AY E N ⟨d, .fieldAddr t x f, T, p, af, none⟩ s (.bx o ver (q + off)) := qih nofun fun G ρ hρ => by
 have he := hρ x
 rw [hx] at he
 generalize hv : ρ x = v at he
 cases he with
 | bx _ _ _ b hn hv' hb =>
  have hs : sz ≠ 0 := fun e => by subst e; simp at hsz
  exact ⟨_, fun w' => by simp only [execOp, hv]; simp [qar hf hs], .bx o ver _ b hn hv' hb⟩
theorem qp {t : TypeId} {x : Operand} {f off sz : Nat} {agg : Bool} {cs : List AV} (hx : qz N s x = .pp cs) (hf : qaq E.P t f = some (off, sz, agg)) (hsz : Nat.beq sz 0 = false) (hle : Nat.ble off cs.length = true) : AY E N ⟨d, .fieldAddr t x f, T, p, af, none⟩ s (.pp (cs.drop off)) := qih nofun fun G ρ hρ => by
 have he := hρ x
 rw [hx] at he
 generalize hv : ρ x = v at he
 cases he with
 | pp _ b q pub hp hlen hrel =>
  have hs : sz ≠ 0 := fun e => by subst e; simp at hsz
  have ho : off ≤ cs.length := Nat.le_of_ble_eq_true hle
  refine ⟨.pointer (some ⟨b, q + off, none⟩), fun w' => by simp only [execOp, hv]; simp [qar hf hs], ?_⟩
  exact .pp _ b (q + off) pub hp (by simp; omega) fun i x y h1 h2 => hrel (off + i) x y (by simpa using h1) (by rw [← h2]; congr 1; omega)
theorem vf {x y : Operand} {t t' : TypeId} {m n : List UInt8} (hx : qz N s x = Sv m) (hy : qz N s y = Sv n) (hl : m.length + n.length < 9223372036854775808) : AY E N ⟨d, .binOp .add t x y t', T, p, af, none⟩ s (Sv (m ++ n)) := qih nofun fun G ρ hρ => by
 have h1 := hρ x
 have h2 := hρ y
 rw [hx] at h1
 rw [hy] at h2
 generalize hv : ρ x = v at h1
 generalize hu : ρ y = u at h2
 cases h1; cases h2
 refine ⟨_, fun w' => ?_, .v _⟩
 simp only [execOp, hv, hu, eqGuard_at_string, binOp, Op.stringOp, xy, qgy, IntKind.max_i64]
 rw [if_neg (by omega)]
 simp
theorem vi {t : TypeId} {parts : Array (Nat × Operand)} {zs cs : List AV} {pl : List (Nat × Nat)} (hz : qdq E.P t = some zs) (hp : qic E.P t = some pl) (hf : qb5 (pl[·]?) zs (xb N s parts) = some cs) : AY E N ⟨d, .build t parts, T, p, af, none⟩ s (.ag cs) := by
 refine ⟨fun B0 w0 G a w hI => ?_⟩
 have key : ∃ z : Value, (∀ w', (zeroValue t).run E.P w' = .ok z w') ∧ RelC G zs z.cells := by
  unfold qdq at hz
  split at hz
  ·rename_i i hi
   cases hzr : i.zero with
   | none => rw [hzr] at hz; simp at hz
   | some z =>
    rw [hzr] at hz
    simp only [Option.map_some, Option.some.injEq] at hz
    subst hz
    refine ⟨z, fun w' => by simp [zeroValue, typeInfo, hi, hzr], by simp, fun i x y hx hy => ?_⟩
    rw [List.getElem?_map] at hx
    simp only [Array.getElem?_toList, hy, Option.map_some, Option.some.injEq] at hx
    subst hx
    exact .v y
  ·simp at hz
 obtain ⟨z, hrun, hr⟩ := key
 obtain ⟨c', h1, h2⟩ := qd0 (pl[·]?) (xb N s parts) (parts.toList.map fun x => (x.1, a.eval x.2)) zs z.cells cs (by simp [xb]) (qeu hI parts) hr hf
 unfold qic at hp
 split at hp
 ·rename_i fs hu
  refine ⟨.agg c', fun w' => ?_, fun w' => rfl, .ag _ _ h2.1 h2.2⟩
  generalize a.eval = ρ at h1
  simp [execOp, Instr.build, run_underlying hu, hrun, Array.mapM_eq_mapM_toList, run_places w' _ _ hp, h1]
 ·simp at hp
end
theorem qat {E : Env} {rd : Option Nat} {N : Nat} {c : Code} {Q : Exit → AS → Prop} {s : AS} (I : AS → Prop) (h : AWp E rd N c (only I) s) (hk : ∀ s', I s' → Q .normal s') : AWp E rd N c Q s := h.mono fun e s' h => by
 cases e <;> first | exact hk _ h | exact h.elim
end Go.Av
