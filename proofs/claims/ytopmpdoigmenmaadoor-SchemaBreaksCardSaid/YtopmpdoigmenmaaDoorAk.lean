/- What a call or a round made and nobody names any more is let go. Generic: names no program. -/
import Derived.Test.YtopmpdoigmenmaaDoorBu
set_option linter.unusedVariables false
namespace Go.Av
open Go Go.RowKit

/-- The second list's objects are the first's, or name nothing from n on. -/
inductive KeptL (n : Nat) : List AObj → List AObj → Prop
  | nil : KeptL n [] []
  | same {l l' : List AObj} (x : AObj) (h : KeptL n l l') : KeptL n (x :: l) (x :: l')
  | cut {l l' : List AObj} {x x' : AObj} (hx : CutOb n x') (h : KeptL n l l') : KeptL n (x :: l) (x' :: l')
  | loop {l l' : List AObj} {ls ls' : LoopState} {pend pend' : Option Code} {N : Nat} {t : Nat → AV} {ps : Array Tmp} {asg body : Code} (h : KeptL n l l') : KeptL n (.loop ls pend N t ps asg body :: l) (.loop ls' pend' N t ps asg body :: l')

theorem keptL_refl (n : Nat) : ∀ l, KeptL n l l
  | [] => .nil
  | x :: l => .same x (keptL_refl n l)
theorem keptL_pre {n : Nat} {l l' : List AObj} (h : KeptL n l l') : ∀ st, KeptL n (st ++ l) (st ++ l')
  | [] => h
  | x :: st => .same x (keptL_pre h st)
theorem KeptL.length {n : Nat} {l l' : List AObj} (h : KeptL n l l') : l'.length = l.length := by
  induction h with
  | nil => rfl
  | _ => simpa
theorem KeptL.get {n : Nat} {l l' : List AObj} (h : KeptL n l l') (hc : ∀ (o : Nat) (x : AObj), l[o]? = some x → CutOb n x) : ∀ (o : Nat) (x : AObj), l'[o]? = some x → CutOb n x := by
  induction h with
  | nil => exact hc
  | same y h ih =>
    intro o x hx
    cases o with
    | zero => exact hc 0 x hx
    | succ o => exact ih (fun o x h => hc (o + 1) x h) o x (by simpa using hx)
  | cut hx' h ih =>
    intro o x hx
    cases o with
    | zero => simp at hx; subst hx; exact hx'
    | succ o => exact ih (fun o x h => hc (o + 1) x h) o x (by simpa using hx)
  | loop h ih =>
    intro o x hx
    cases o with
    | zero => simp at hx; subst hx; have h0 := hc 0 _ rfl; exact h0
    | succ o => exact ih (fun o x h => hc (o + 1) x h) o x (by simpa using hx)

theorem acall_retL {E : Env} {f : FuncId} {args : List AV} {st : List AObj} {R : AV → List AObj → Prop}
    (h : ACall E f args st fun r st2 => ∃ st1 ext, st2 = st1 ++ ext ∧ KeptL st.length st st1 ∧ Cut st.length r ∧ R r st1) : ACall E f args st R := by
  refine ⟨fun B0 w0 G vals w hL hA hR => ?_⟩
  refine (h.run B0 w0 G vals w hL hA hR).mono ?_
  rintro e w' ⟨v, G', r, st2, he, hG, hA', hr, st1, ext, rfl, hk, hcr, hRR⟩
  have hle := hG.cut
  rw [hA.n] at hle
  refine ⟨v, G'.cut st.length, r, st1, he, hle, ?_, hcr G' v hr, hRR⟩
  have hd := hk.get (fun o x hx => hA.cutOb hx)
  have hl := hk.length
  rw [← hl] at hd ⊢
  exact hA'.drop hd

theorem ayield_retL {E : Env} {o : Nat} {xs : List AV} {st : List AObj} {R : Bool → List AObj → Prop}
    (h : AYield E o xs st fun b st2 => ∃ st1 ext, st2 = st1 ++ ext ∧ KeptL st.length st st1 ∧ R b st1) : AYield E o xs st R := by
  refine ⟨fun B0 w0 G vals w hL hA hR => ?_⟩
  obtain ⟨f, tmps, asg, body, h1, h2⟩ := h.run B0 w0 G vals w hL hA hR
  refine ⟨f, tmps, asg, body, h1, h2.mono ?_⟩
  rintro e w' ⟨b, G', st2, he, hG, hA', st1, ext, rfl, hk, hRR⟩
  have hle := hG.cut
  rw [hA.n] at hle
  refine ⟨b, G'.cut st.length, st1, he, hle, ?_, hRR⟩
  have hd := hk.get (fun o x hx => hA.cutOb hx)
  have hl := hk.length
  rw [← hl] at hd ⊢
  exact hA'.drop hd

theorem cutOb_cells {n ver : Nat} {T : TypeId} {cs : List AV} (h : ∀ x ∈ cs, Cut n x) : CutOb n (.cells ver T cs) := h
theorem cutOb_tip {n a b : Nat} {T : TypeId} : CutOb n (.tip a b T) := trivial
theorem cut_bx {n o ver off : Nat} (h : o < n) : Cut n (.bx o ver off) := cut_of_low (.bx o ver off h)
theorem cut_v {n : Nat} (x : Value) : Cut n (.v x) := cut_of_pure (pure_v x)
theorem cut_bytes {n tp : Nat} {l : List UInt8} (h : tp < n) : Cut n (.sl 1 (l.map fun c => .v (.int .u8 (c.toNat : Nat))) (some tp)) := by
  refine cut_of_low (.sl 1 _ _ (fun i x hx => ?_) (fun t ht => by simp at ht; omega))
  have := flat_bytes l
  rw [this] at hx
  simp only [List.getElem?_map] at hx
  cases hq : l[i]? with
  | none => simp [hq] at hx
  | some c => simp [hq] at hx; subst hx; exact .v _

/-- The record of a range over a function, its state and what is pending left open. -/
def LoopF (F : LoopState → Option Code → AObj) (N : Nat) (t : Nat → AV) (ps : Array Tmp) (asg body : Code) : Prop := ∀ ls pend, F ls pend = AObj.loop ls pend N t ps asg body

theorem keptF {n : Nat} {l l' : List AObj} {F : LoopState → Option Code → AObj} {ls ls' : LoopState} {pend pend' : Option Code} {N : Nat} {t : Nat → AV} {ps : Array Tmp} {asg body : Code} (hF : LoopF F N t ps asg body) (h : KeptL n l l') : KeptL n (F ls pend :: l) (F ls' pend' :: l') := by
  rw [hF, hF]
  exact .loop h

/-- What a round's end owes. -/
@[reducible] def roundF (o : Nat) (F : LoopState → Option Code → AObj) (R : Bool → List AObj → Prop) : Exit → AS → Prop
  | .normal, s => s.st[o]? = some (F .busy none) ∧ R true (s.st.set o (F .ready none))
  | .ret, s => s.st[o]? = some (F .busy none) ∧ R false (s.st.set o (F .done (some .ret)))
  | .exit id, s => s.st[o]? = some (F .busy none) ∧ R false (s.st.set o (F .done (some (.exit id))))
  | _, _ => False

theorem ayield_F {E : Env} {o N : Nat} {t : Nat → AV} {ps : Array Tmp} {asg body : Code} {st : List AObj} {R : Bool → List AObj → Prop} {xs : List AV} {F : LoopState → Option Code → AObj} (hF : LoopF F N t ps asg body) (ho : st[o]? = some (F .ready none)) (hps : ps.size = xs.length)
    (h : ∀ l, AWp E (some l) N asg (only fun s1 => s1.st[o]? = some (F .ready none) ∧ s1.df = [] ∧ AWp E (some l) N body (roundF o F R) ⟨s1.t, s1.st.set o (F .busy none), []⟩) ⟨setPs t (ps.toList.zip xs), st, []⟩) : AYield E o xs st R := by
  refine ayield_body (N := N) (t := t) (ps := ps) (asg := asg) (body := body) (by rw [ho, hF]) hps fun l => (h l).mono fun e s1 hq => ?_
  cases e with
  | normal =>
    obtain ⟨h1, h2, h3⟩ := hq
    refine ⟨by rw [h1, hF], h2, ?_⟩
    rw [hF] at h3
    refine h3.mono fun e s2 hq2 => ?_
    cases e with
    | normal => obtain ⟨k1, k2⟩ := hq2; exact ⟨by rw [k1, hF], by rw [hF] at k2; exact k2⟩
    | ret => obtain ⟨k1, k2⟩ := hq2; exact ⟨by rw [k1, hF], by rw [hF] at k2; exact k2⟩
    | exit id => obtain ⟨k1, k2⟩ := hq2; exact ⟨by rw [k1, hF], by rw [hF] at k2; exact k2⟩
    | _ => exact hq2.elim
  | _ => exact hq.elim

theorem awp_rangeF {E : Env} {N : Nat} {Q : Exit → AS → Prop} {s : AS} {f : Operand} {ps : Array Tmp} {asg body : Code} {st loc : List AObj} {g : FuncId} {fs cs : List AV} (hst : s.st = st ++ loc) (hx : aeval N s f = .fn (.func g) fs cs)
    (hrun : ∀ vs w, (callFunc g vs).run E.P w = .ok (.enter g vs) w)
    (h : ∀ F, LoopF F N s.t ps asg body → ACall E g (fs ++ [.yd (st.length + (loc.length + 1))] ++ cs) (st ++ (loc ++ [.dfr, F .ready none])) fun _ st' => ∃ ls pend, ls ≠ LoopState.busy ∧ st'[st.length + (loc.length + 1)]? = some (F ls pend) ∧
      match pend with
      | none => Q .normal ⟨s.t, st'.set (st.length + (loc.length + 1)) .dead, (st.length + loc.length) :: s.df⟩
      | some c => AWp E none N c Q ⟨s.t, st'.set (st.length + (loc.length + 1)) .dead, (st.length + loc.length) :: s.df⟩) : AWp E none N (.rangeFunc f ps asg body) Q s :=
  awp_rangeFunc hst hx hrun ((h (fun ls pend => .loop ls pend N s.t ps asg body) (fun _ _ => rfl)).mono fun _ _ ⟨ls, pend, h1, h2, h3⟩ => ⟨ls, pend, h1, h2, h3⟩)

theorem hasL_puts {t : Nat → AV} {L : List (Nat × AV)} (h : HasL t L) : puts t L = t := puts_of h
/-- The state is said anew: the slots that matter, and the store. -/
theorem awp_state {E : Env} {rd : Option Nat} {N : Nat} {c : Code} {Q : Exit → AS → Prop} {s : AS} (L : List (Nat × AV)) (st' : List AObj) (df' : List Nat) (h : HasL s.t L) (hst : s.st = st') (hdf : s.df = df') (k : ∀ t, AWp E rd N c Q ⟨puts t L, st', df'⟩) : AWp E rd N c Q s := by
  have := k s.t
  rw [puts_of h, ← hst, ← hdf] at this
  exact this

theorem load_bx_run {E : Env} {B0 : Nat} {w0 : World} {N : Nat} {G : Gh} {s : AS} {a : Act} {w : World} (hI : Inv B0 w0 N G s a w) {x : Operand} {t : TypeId} {sz : Nat} {agg : Bool} {o ver off : Nat} {T' : TypeId} {cs : List AV} {r : AV} (hx : aeval N s x = .bx o ver off) (ho : s.st[o]? = some (.cells ver T' cs)) (ht : tyOf E.P t = some (sz, agg)) (hr : aloadC sz agg off cs = some r) :
    ∃ b v, a.eval x = .pointer (some ⟨b, off, none⟩) ∧ (loadVar t ⟨b, off, none⟩).run E.P w = .ok v w ∧ Rel G r v := by
  have he := hI.eval_of hx
  generalize hv : a.eval x = v at he
  cases he with
  | bx _ _ _ b hn hv' hb =>
    obtain ⟨_, h1, h2, h3, c, h4, h5, h6⟩ := hI.agree.ob o _ ho
    have hb := hb h1
    rw [hb] at h4
    obtain ⟨v, hrun, hR⟩ := run_loadVar_of (w := w) (G := G) (b := b) (off := off) (off' := off) ht (fun i x hx hi => by
      obtain ⟨y, hy⟩ := get_of_size hx (Nat.le_of_eq h5)
      refine ⟨y, ?_, h6 i x y hx hy⟩
      simp [World.cell?, h4, show off + (i - off) = i by omega, hy]) hr
    exact ⟨b, v, rfl, hrun, hR⟩
/-- Two results that stand in variables. -/
theorem ares_cell2 {E : Env} {fn : Func} {s : AS} {t u : Tmp} {Ta Tb : TypeId} {o1 v1 f1 sz1 : Nat} {agg1 : Bool} {T1 : TypeId} {cs1 : List AV} {r1 : AV} {o2 v2 f2 sz2 : Nat} {agg2 : Bool} {T2 : TypeId} {cs2 : List AV} {r2 : AV} (hr : fn.results = #[.cell t Ta, .cell u Tb])
    (hx1 : aeval fn.ntmps s (.tmp t) = .bx o1 v1 f1) (ho1 : s.st[o1]? = some (.cells v1 T1 cs1)) (ht1 : tyOf E.P Ta = some (sz1, agg1)) (hl1 : aloadC sz1 agg1 f1 cs1 = some r1)
    (hx2 : aeval fn.ntmps s (.tmp u) = .bx o2 v2 f2) (ho2 : s.st[o2]? = some (.cells v2 T2 cs2)) (ht2 : tyOf E.P Tb = some (sz2, agg2)) (hl2 : aloadC sz2 agg2 f2 cs2 = some r2) : ARes E fn s (.tu [r1, r2]) := by
  refine ⟨fun B0 w0 G a w _ hI => ?_⟩
  obtain ⟨b1, y1, e1, e2, e3⟩ := load_bx_run hI hx1 ho1 ht1 hl1
  obtain ⟨b2, y2, k1, k2, k3⟩ := load_bx_run hI hx2 ho2 ht2 hl2
  simp only [Act.eval, Array.getD_eq_getD_getElem?] at e1 k1
  refine ⟨.tuple #[y1, y2], ?_, rel_tu2 e3 k3⟩
  simp [results, hr, e1, k1, asAddr, e2, k2]
theorem aret_mark_loc {E : Env} {fn : Func} {R : AV → List AObj → Prop} {s : AS} {st loc : List AObj} {k : Nat} {ds : List Nat} (hs : s.st = st ++ loc) (hd : s.df = (st.length + k) :: ds) (ho : loc[k]? = some .dfr) (h : ARet E fn R ⟨s.t, st ++ loc.set k .dead, ds⟩) : ARet E fn R s :=
  aret_mark hd (by rw [hs]; exact get_loc ho) (by rw [hs, set_loc]; exact h)
theorem ares_cell2_loc {E : Env} {fn : Func} {s : AS} {t u : Tmp} {Ta Tb : TypeId} {st loc : List AObj} {k1 v1 f1 sz1 : Nat} {agg1 : Bool} {T1 : TypeId} {cs1 : List AV} {r1 : AV} {k2 v2 f2 sz2 : Nat} {agg2 : Bool} {T2 : TypeId} {cs2 : List AV} {r2 : AV} (hr : fn.results = #[.cell t Ta, .cell u Tb]) (hs : s.st = st ++ loc)
    (hx1 : aeval fn.ntmps s (.tmp t) = .bx (st.length + k1) v1 f1) (ho1 : loc[k1]? = some (.cells v1 T1 cs1)) (ht1 : tyOf E.P Ta = some (sz1, agg1)) (hl1 : aloadC sz1 agg1 f1 cs1 = some r1)
    (hx2 : aeval fn.ntmps s (.tmp u) = .bx (st.length + k2) v2 f2) (ho2 : loc[k2]? = some (.cells v2 T2 cs2)) (ht2 : tyOf E.P Tb = some (sz2, agg2)) (hl2 : aloadC sz2 agg2 f2 cs2 = some r2) : ARes E fn s (.tu [r1, r2]) :=
  ares_cell2 hr hx1 (by rw [hs]; exact get_loc ho1) ht1 hl1 hx2 (by rw [hs]; exact get_loc ho2) ht2 hl2
end Go.Av
