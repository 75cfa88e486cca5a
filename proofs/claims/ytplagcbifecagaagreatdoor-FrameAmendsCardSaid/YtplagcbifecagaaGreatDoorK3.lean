/- Contracts and plain facts that the closing text leans on (part 3). No condition of their own beyond those that each states. -/
import Derived.Test.YtplagcbifecagaaGreatDoorK2
import Derived.Lib.SplitLaws
import Derived.Shelf.Strings.SplitShaped
import Derived.Deep.Slices
import Derived.Deep.Fields
import Derived.WideKeyArgs
import Derived.Lib.ItoaLen
import Derived.LaidEql
import Derived.Stop.Asserts
import Derived.RowKitTokens
set_option maxRecDepth 100000
set_option linter.unusedVariables false
set_option linter.unusedSimpArgs false
set_option maxRecDepth 100000
set_option linter.unusedVariables false
namespace Go.Proofs.YtplagcbifecagaaGreatDoor
open Go Go.Pl
theorem odd_of {l : Bytes} (h1 : 10 ∈ l → (openedF (upto 10 l)).2.2 = false) (h2 : 10 ∉ l → openingF l = false) : readF l = (3, [], 0) := by
  unfold readF
  by_cases h : 10 ∈ l
  · rw [if_pos h, if_neg (by rw [h1 h]; simp)]
  · rw [if_neg h, if_neg (by rw [h2 h]; simp)]
theorem R2 {l : Bytes} (hl : l.length ≤ 7) (h : ¬ l <+: beginL) : readF l = (3, [], 0) := by
  refine odd_of (fun h10 => decide_eq_false fun h' => ?_) (fun h10 => ?_)
  · have := h'.1.length_le
    have := upto_length_lt h10
    have e : beginL.length = 7 := rfl
    omega
  · unfold openingF
    by_cases hb : beginL <+: l
    · have := hb.eq_of_length_le hl
      exact absurd (this ▸ List.prefix_refl _) h
    · rw [if_neg hb]; exact decide_eq_false h
theorem take_tw {p : UInt8 → Bool} (s : Bytes) : s.take (s.takeWhile p).length = s.takeWhile p := by
  induction s with
  | nil => rfl
  | cons b s ih =>
    by_cases h : p b = true
    · rw [List.takeWhile_cons_of_pos h]; simp [ih]
    · rw [List.takeWhile_cons_of_neg h]; rfl
theorem tw_pre {p : UInt8 → Bool} {l m : Bytes} (hm : m <+: l) (h : ∀ c ∈ m, p c = true) : m.length ≤ (l.takeWhile p).length := by
  obtain ⟨r, rfl⟩ := hm
  rw [List.takeWhile_append_of_pos h]
  simp
end Go.Proofs.YtplagcbifecagaaGreatDoor
set_option maxRecDepth 100000
set_option linter.unusedVariables false
namespace Go.Proofs.YtplagcbifecagaaGreatDoor
open Go Go.Av Go.RowKit Go.Proofs Go.Pl
structure AtNum (l S : Bytes) (K n : Nat) : Prop where
  hl : l = beginL ++ S
  hK : (S.takeWhile isDig).length = K
  hD : S.take K = Lib.itoa (n : Int)
  h1 : 1 ≤ n
  h2 : n ≤ 50000
theorem AtNum.split {l S : Bytes} {K n : Nat} (A : AtNum l S K n) (h : K < S.length) : S = Lib.itoa (n : Int) ++ S.getD K 0 :: S.drop (K + 1) ∧ isDig (S.getD K 0) = false := by
  have e : S = S.take K ++ S.getD K 0 :: S.drop (K + 1) := by
    conv => lhs; rw [← List.take_append_drop K S]
    rw [List.drop_eq_getElem_cons h]
    congr 2
    simp [List.getD, h]
  refine ⟨by rw [← A.hD]; exact e, ?_⟩
  cases hc : isDig (S.getD K 0) with
  | false => rfl
  | true =>
    have hp : S.take (K + 1) <+: S := List.take_prefix _ _
    have := tw_pre (p := isDig) hp (fun c hc' => by
      rw [take_next h, List.mem_append, List.mem_singleton] at hc'
      rcases hc' with hc' | rfl
      · rw [← A.hK, take_tw] at hc'
        have ha := List.all_takeWhile (p := isDig) (l := S)
        rw [List.all_eq_true] at ha
        exact ha c hc'
      · exact hc)
    rw [A.hK] at this
    simp at this
    omega
end Go.Proofs.YtplagcbifecagaaGreatDoor
set_option linter.unusedVariables false
set_option maxRecDepth 100000
namespace Go.Proofs.YtplagcbifecagaaGreatDoor
open Go Go.Av Go.RowKit Go.Proofs Go.Pl
theorem recordG_c (l : List UInt8) (st : List AObj) (hl : l.length < 4294967281) (hg : goodF l) : ACall E 27 [Sv l] st fun r st' => r = .tu [Sv (recF l), .v .nilIface] ∧ st' = st := by
  have h := record_c l st hl
  unfold recordA at h
  rw [if_pos hg] at h
  exact h
theorem readR_c (b m : List UInt8) (st : List AObj) (hl : (recF b ++ m).length < 4294967281) (hg : goodF b) : ACall E 28 [Sv (recF b ++ m)] st fun r st' => r = .tu [Iv 1, Sv b, Iv (recF b).length] ∧ st' = st := by
  have h := read_c (recF b ++ m) st hl
  rw [read_rec m hg] at h
  exact h
theorem recF_bound {b : List UInt8} (h : goodF b) : (recF b).length ≤ b.length + 61 ∧ 1 ≤ (recF b).length := by
  have h1 := itoa_len b.length (by have := h.2.1; omega)
  unfold recF
  simp only [List.length_append, headF_length, sumF_length, tailF_length]
  omega
def aliveB : List UInt8 := [32, 97, 10]
theorem good_alive : goodF aliveB := (goodF_iff _).2 (by decide)
theorem rec_alive : recF aliveB = [37, 97, 109, 101, 110, 100, 32, 51, 32] ++ figsP (addP 0 aliveB) 8 ++ [10, 32, 97, 10, 37, 101, 110, 100, 32, 51, 10] := by
  have e : Lib.itoa ((aliveB.length : Nat) : Int) = [51] := by show Lib.itoa ((3 : Nat) : Int) = [51]; rw [itoa_nat, Lib.decDigits_one (by decide)]; rfl
  unfold recF headF tailF
  rw [e]
  simp [sumF, aliveB]
theorem alive11_c (st : List AObj) : ACall E 26 [] st fun r st' => r = Bv true ∧ st' = st := by
  refine acall_pure (pure_v _) (acall_of_awp Tryz.func26 rfl (Nat.le_of_ble_eq_true rfl) ?_)
  have hb := recF_bound good_alive
  have hbl : aliveB.length = 3 := rfl
  have heq := rec_alive
  have hf : (figsP (addP 0 aliveB) 8).length = 8 := by simp [figsP]
  repeat' (first
    | apply awp_seq
    | apply awp_region
    | apply aops_nil
    | apply aops_move
    | apply aops_assign
    | (apply aops_extract; exact rfl; exact rfl)
    | (apply aops_cmpI; exact rfl; exact rfl; exact rfl)
    | (apply aops_cmpS; exact rfl; exact rfl; exact rfl)
    | (apply aops_guard_any; exact rfl; exact rfl; exact rfl; exact rfl)
    | (apply gd_run_d; (first | assumption | omega))
    | (apply gd_run_t; (first | exact rfl | assumption))
    | (apply aops_pick_any; exact rfl; first | (apply pk_dt; (first | assumption | omega)) | (apply pk_df; (first | assumption | omega)) | (apply pk_nt; (first | exact rfl | assumption)) | (apply pk_nf; (first | exact rfl | assumption)) | (apply pk_t; (first | exact rfl | assumption)) | (apply pk_f; (first | exact rfl | assumption)))
    | (apply aops_lenS; exact rfl; exact rfl; exact rfl)
    | (apply aops_concat; exact rfl; exact rfl; (first | omega | (simp only [List.length_append, List.length_cons, List.length_nil]; omega) | (simp; omega)))
    | (apply aops_nilEqNil; exact rfl; exact rfl)
    | apply awp_ret
    | (apply aops_call1; exact Tryz.call27; exact recordG_c aliveB _ (by decide) good_alive)
    | (apply aops_call1; exact Tryz.call28; exact readR_c aliveB [120] _ (by simp; omega) good_alive)
    | (apply aops_call1; exact Tryz.call57; exact refSum_c aliveB _ (by decide))
    | (apply aops_call1; exact Tryz.call56; exact refFigs_c _ _))
  refine aret_plain rfl (ares_one rfl) ⟨congrArg Bv (?_ : _ = true), _, rfl⟩
  simp
end Go.Proofs.YtplagcbifecagaaGreatDoor
set_option linter.unusedVariables false
namespace Go.Av
open Go Go.RowKit
def StE (L : List (Nat × AV)) (st loc : List AObj) (s : AS) : Prop := ∃ t ext, s = ⟨puts t L, ((st ++ loc) ++ ext) ++ [], []⟩
theorem stE_mk {t : Nat → AV} {L : List (Nat × AV)} {st loc loc' ext new : List AObj} (h : HasL t L) (e : loc' = loc) : StE L st loc ⟨t, ((st ++ loc') ++ ext) ++ new, []⟩ :=
  ⟨t, ext ++ new, by rw [puts_of h, e]; simp⟩
theorem stE_mk0 {t : Nat → AV} {L : List (Nat × AV)} {st loc st' : List AObj} (h : HasL t L) (e : st' = st ++ loc) : StE L st loc ⟨t, st', []⟩ :=
  ⟨t, [], by rw [puts_of h, e]; simp⟩
theorem ext_end (st loc ext new : List AObj) : ∃ x, ((st ++ loc) ++ ext) ++ new = st ++ x := ⟨loc ++ ext ++ new, by simp⟩
theorem get_mid {st loc ext new : List AObj} {k : Nat} {x : AObj} (h : loc[k]? = some x) : (((st ++ loc) ++ ext) ++ new)[st.length + k]? = some x := by
  have hk := lt_of_getElem? h
  rw [List.append_assoc, List.append_assoc, List.getElem?_append_right (Nat.le_add_right _ _), Nat.add_sub_cancel_left, List.getElem?_append_left hk]
  exact h
theorem set_mid {st loc ext new : List AObj} {k : Nat} (x : AObj) (hk : k < loc.length) : (((st ++ loc) ++ ext) ++ new).set (st.length + k) x = ((st ++ loc.set k x) ++ ext) ++ new := by
  rw [List.append_assoc, List.append_assoc, List.set_append_right _ _ (Nat.le_add_right _ _), Nat.add_sub_cancel_left, List.set_append_left _ _ hk]
  simp
theorem rel_noTip {G : Gh} {sz : Nat} {xs : List AV} {tip : Option Nat} {v : Value} (h : Rel G (.sl sz xs tip) v) : Rel G (.sl sz xs none) v := by
  cases h with
  | sl0 _ _ base cap ht => exact .sl0 sz none base cap (by simp)
  | sl _ _ _ b off cap pub hp hw hlen hr ht hcap => exact .sl sz xs none b off cap pub hp hw hlen hr (fun t ht => by simp at ht) hcap
theorem rel_nilSl {G : Gh} {sz : Nat} {v : Value} (h : Rel G nilSl v) : Rel G (.sl sz [] none) v := by
  cases h
  exact .sl0 sz none none 0 (by simp)
section
variable {E : Env} {rd : Option Nat} {N : Nat} {ops : Array Oper} {K : AS → Prop} {s : AS} {rest : List Oper} {d : Option Tmp} {T : TypeId} {p : String} {af : Array Edge}
theorem ares_weak {fn : Func} {r r' : AV} (h : ARes E fn s r) (hw : ∀ (G : Gh) (v : Value), Rel G r v → Rel G r' v) : ARes E fn s r' :=
  ⟨fun B0 w0 G a w hL hI => let ⟨v, h1, h2⟩ := h.run B0 w0 G a w hL hI; ⟨v, h1, hw G v h2⟩⟩
theorem aops_append_mid {x y : Operand} {t u T' : TypeId} {sz bytes k n m : Nat} {xs ys zs : List AV} {tip : Option Nat} {st loc ext new : List AObj} (hs : s.st = ((st ++ loc) ++ ext) ++ new) (hx : aeval N s x = .sl sz xs (some (st.length + k))) (hy : aeval N s y = .sl sz ys tip) (ho : loc[k]? = some (.tip n sz T')) (hn : xs.length = n)
    (ht : E.P.underlying t = some (.slice T')) (hu : E.P.underlying u = some (.slice T')) (hT : ElemOk E.P T' sz bytes) (hone : allOne (flat ys) = true) (hm : ys.length = m) (h63 : n + m ≤ maxLen) (hb : (n + m) * bytes ≤ 140737488355328) (hz : xs ++ ys = zs)
    (h : AOps E rd N ops rest K (AS.put ⟨s.t, ((st ++ loc.set k (.tip (n + m) sz T')) ++ ext) ++ new, s.df⟩ d (.sl sz zs (some (st.length + k))))) : AOps E rd N ops (⟨d, .call ⟨.builtin .append, #[x, y], #[t, u]⟩, T, p, af, none⟩ :: rest) K s := by
  subst hz
  have hk := lt_of_getElem? ho
  exact aops_append hx hy (by rw [hs]; exact get_mid ho) hn ht hu hT hone hm h63 hb (by rw [hs, set_mid _ hk]; exact h)
theorem aops_load_mid {x : Operand} {t : TypeId} {sz : Nat} {agg : Bool} {st loc ext new : List AObj} {k ver off : Nat} {T' : TypeId} {cs : List AV} {r : AV} (hs : s.st = ((st ++ loc) ++ ext) ++ new) (hx : aeval N s x = .bx (st.length + k) ver off) (ho : loc[k]? = some (.cells ver T' cs)) (ht : tyOf E.P t = some (sz, agg)) (hr : aloadC sz agg off cs = some r)
    (h : AOps E rd N ops rest K (s.put d r)) : AOps E rd N ops (⟨d, .load t x, T, p, af, none⟩ :: rest) K s :=
  aops_load_bx hx (by rw [hs]; exact get_mid ho) ht hr h
end
end Go.Av
set_option linter.unusedVariables false
namespace Go.Pl
open Go
def partsOf (l : Bytes) : List Bytes :=
  if h : 10 ∈ l then upto 10 l :: partsOf (past 10 l) else [l]
  termination_by l.length
  decreasing_by exact past_lt (fun e => by rw [e] at h; simp at h)
theorem partsOf_mem {l : Bytes} (h : 10 ∈ l) : partsOf l = upto 10 l :: partsOf (past 10 l) := by rw [partsOf, dif_pos h]
theorem partsOf_not {l : Bytes} (h : 10 ∉ l) : partsOf l = [l] := by rw [partsOf, dif_neg h]
theorem split10 : ∀ (n : Nat) (l : Bytes), l.length ≤ n → Lib.splitK [10] 0 (Lib.count l [10]) l = partsOf l
  | n, l, hn => by
    by_cases h : 10 ∈ l
    · have hi := index_upto 10 l h
      have hne : l ≠ [] := fun e => by rw [e] at h; simp at h
      have hlt := past_lt (c := 10) hne
      rw [partsOf_mem h, Lib.count_hit (i := (upto 10 l).length) (by simp) hi, Nat.add_comm, Lib.splitK]
      rw [if_neg (by rw [hi]; simp), hi]
      cases n with
      | zero => exact absurd (List.length_eq_zero_iff.1 (by omega)) hne
      | succ n =>
        have := split10 n (past 10 l) (by omega)
        simp only [Int.toNat_natCast, Nat.add_zero, List.length_cons, List.length_nil, Nat.zero_add, take_upto]
        rw [show List.drop ((upto 10 l).length + 1) l = past 10 l from rfl, this]
    · have hi : Lib.index l [10] = -1 := by
        have := Lib.index_ge l [10]
        have h2 : ¬ 0 ≤ Lib.index l [10] := fun h' => h ((index_one l 10).1 h')
        omega
      rw [partsOf_not h, Lib.count_miss hi]
      rfl
theorem partsOf_length_le : ∀ (n : Nat) (l : Bytes), l.length ≤ n → (partsOf l).length ≤ l.length + 1
  | n, l, hn => by
    by_cases h : 10 ∈ l
    · have hne : l ≠ [] := fun e => by rw [e] at h; simp at h
      have hlt := past_lt (c := 10) hne
      rw [partsOf_mem h]
      cases n with
      | zero => exact absurd (List.length_eq_zero_iff.1 (by omega)) hne
      | succ n =>
        have := partsOf_length_le n (past 10 l) (by omega)
        simp only [List.length_cons]
        omega
    · rw [partsOf_not h]; simp
theorem partsOf_piece : ∀ (n : Nat) (l : Bytes), l.length ≤ n → ∀ x ∈ partsOf l, x.length ≤ l.length ∧ 10 ∉ x
  | n, l, hn, x, hx => by
    by_cases h : 10 ∈ l
    · have hne : l ≠ [] := fun e => by rw [e] at h; simp at h
      have hlt := past_lt (c := 10) hne
      rw [partsOf_mem h, List.mem_cons] at hx
      rcases hx with rfl | hx
      · exact ⟨upto_length_le 10 l, notin_upto 10 l⟩
      · cases n with
        | zero => exact absurd (List.length_eq_zero_iff.1 (by omega)) hne
        | succ n =>
          have := partsOf_piece n (past 10 l) (by omega) x hx
          exact ⟨by omega, this.2⟩
    · rw [partsOf_not h, List.mem_singleton] at hx
      subst hx
      exact ⟨Nat.le_refl _, h⟩
end Go.Pl
set_option maxRecDepth 100000
set_option linter.unusedVariables false
namespace Go.Proofs.YtplagcbifecagaaGreatDoor
open Go Go.Av Go.RowKit Go.Proofs Go.Pl
theorem acall_of_newStrings {f : FuncId} {st : List AObj} {args : List AV} {vals : Array Value} {xs : List Bytes} {T : TypeId} (ha : args = vals.toList.map .v) (hne : xs ≠ [])
    (h : ∀ B0 w0 w, E.L B0 w0 → Below B0 w0 w → Calls E.P f vals w fun e w' => e = .returned (.slice (some ⟨w.heap.size, 0, none⟩) xs.length xs.length) ∧ w' = w.alloc (.cells (xs.map fun l => Value.string ⟨l.toArray⟩).toArray T)) :
    ACall E f args st fun r st' => r = .sl 1 (xs.map fun l => Sv l) none ∧ st' = st := by
  subst ha
  refine ⟨fun B0 w0 G vs w hL hA hR => ?_⟩
  have hv : vs = vals := by
    have hs : vs.size = vals.size := by have := hR.1; simpa using this.symm
    apply Array.ext hs
    intro i h1 h2
    have := hR.2 i (.v vals[i]) vs[i] (by simp [h2]) (by simp [h1])
    generalize vs[i] = y at this
    cases this
    rfl
  subst hv
  refine (h B0 w0 w hL hA.below).mono ?_
  rintro e w' ⟨rfl, rfl⟩
  obtain ⟨hle, hA'⟩ := hA.newPub T (xs.map fun l => Value.string ⟨l.toArray⟩).toArray (0, 0) (xs.map fun l => Value.string ⟨l.toArray⟩) (fun i y hy => by simpa using hy)
  refine ⟨_, _, _, st, rfl, hle, hA', ?_, rfl, rfl⟩
  have hfl : flat (xs.map fun l => Sv l) = xs.map fun l => Sv l := by
    clear hne h hle hA'
    induction xs with
    | nil => rfl
    | cons a xs ih => rw [List.map_cons, flat_cons, ih]; rfl
  have := Rel.sl (G := G.publish w.heap.size (xs.map fun l => Value.string ⟨l.toArray⟩)) 1 (xs.map fun l => Sv l) none w.heap.size 0 xs.length (xs.map fun l => Value.string ⟨l.toArray⟩) (by simp [Gh.publish]) (fun x hx => by
    simp only [List.mem_map] at hx
    obtain ⟨l, _, rfl⟩ := hx
    rfl) (by rw [hfl]; simp) (fun i x y h1 h2 => by
    rw [hfl, List.getElem?_map] at h1
    rw [Nat.zero_add, List.getElem?_map] at h2
    cases hx : xs[i]? with
    | none => rw [hx] at h1; simp at h1
    | some l =>
      rw [hx] at h1 h2
      simp at h1 h2
      subst h1; subst h2
      exact .v _) (fun t ht => by simp at ht) (by simp)
  simpa using this
theorem split10_c (l : List UInt8) (st : List AObj) (hl : l.length < 4294967281) : ACall E 112 [Sv l, Sv [10]] st fun r st' => r = .sl 1 ((partsOf l).map fun x => Sv x) none ∧ st' = st := by
  have hd := Lib.splitB_data ⟨#[10]⟩ 0 (Lib.countB ⟨l.toArray⟩ ⟨#[10]⟩) ⟨l.toArray⟩
  have hs : Lib.splitK [10] 0 (Lib.count l [10]) l = partsOf l := split10 _ l (Nat.le_refl _)
  have hn := Lib.splitB_all ⟨#[10]⟩ (by simp [ByteArray.size]) 0 _ ⟨l.toArray⟩ rfl
  have hd2 : (Lib.splitB ⟨#[10]⟩ 0 (Lib.countB ⟨l.toArray⟩ ⟨#[10]⟩) ⟨l.toArray⟩).map (·.data.toList) = partsOf l := hd.trans hs
  have hlen : (partsOf l).length = Lib.countB ⟨l.toArray⟩ ⟨#[10]⟩ + 1 := by rw [← hd2, List.length_map, hn]
  refine acall_of_newStrings (T := 9) (vals := #[.string ⟨l.toArray⟩, .string ⟨#[10]⟩]) rfl (fun e => by rw [e] at hlen; simp at hlen) fun _ _ w hL hb => (Tryz.strings_Split_shaped ⟨l.toArray⟩ ⟨#[10]⟩ w (hL w hb).shaped (by simpa [ByteArray.size] using hl) (by simp [ByteArray.size])).mono fun e w' ⟨h1, h2⟩ => ?_
  refine ⟨by rw [h1, hlen], ?_⟩
  rw [h2, ← hd2, List.map_map]
  rfl
end Go.Proofs.YtplagcbifecagaaGreatDoor
set_option linter.unusedVariables false
namespace Go.Av
open Go Go.RowKit
section
variable {E : Env} {N : Nat} {ops : Array Oper} {K : AS → Prop} {s : AS} {rest : List Oper} {d : Option Tmp} {T : TypeId} {p : String} {af : Array Edge}
theorem aq_load_bx {x : Operand} {t : TypeId} {sz : Nat} {agg : Bool} {o ver off : Nat} {T' : TypeId} {cs : List AV} {r : AV} (hx : aeval N s x = .bx o ver off) (ho : s.st[o]? = some (.cells ver T' cs)) (ht : tyOf E.P t = some (sz, agg)) (hr : aloadC sz agg off cs = some r)
    (h : AQ E N ops rest K (s.put d r)) : AQ E N ops (⟨d, .load t x, T, p, af, none⟩ :: rest) K s := by
  refine aq_op rfl nofun fun B0 w0 G a w _ hI => ?_
  have he := hI.eval_of hx
  generalize hv : a.eval x = v at he
  cases he with
  | bx _ _ _ b hn hv' hb =>
    obtain ⟨_, h1, h2, h3, c, h4, h5, h6⟩ := hI.agree.ob o _ ho
    have hb := hb h1
    subst hb
    have hlt : (G.ob o).blk < w.heap.size := by
      rcases Nat.lt_or_ge (G.ob o).blk w.heap.size with h' | h'
      · exact h'
      · rw [Array.getElem?_eq_none h'] at h4; simp at h4
    -- the value is read out of the cells, whatever is drawn behind them
    have key : ∀ w', Below w.heap.size w w' → ∃ v, (loadVar t ⟨(G.ob o).blk, off, none⟩).run E.P w' = .ok v w' ∧ Rel G r v := fun w' hw' => by
      have h4' : w'.heap[(G.ob o).blk]? = some (.cells c T' (0, 0)) := by rw [hw'.block _ hlt]; exact h4
      exact run_loadVar_of (w := w') (G := G) (b := (G.ob o).blk) (off := off) (off' := off) ht (fun i x hx hi => by
        obtain ⟨y, hy⟩ := get_of_size hx (Nat.le_of_eq h5)
        refine ⟨y, ?_, h6 i x y hx hy⟩
        simp [World.cell?, h4', show off + (i - off) = i by omega, hy]) hr
    have hsame : ∀ w', Below w.heap.size w w' → ∀ v, (loadVar t ⟨(G.ob o).blk, off, none⟩).run E.P w = .ok v w → (loadVar t ⟨(G.ob o).blk, off, none⟩).run E.P w' = .ok v w' := fun w' hw' v hr1 => by
      obtain ⟨i1, i2⟩ := tyOf_info ht w
      obtain ⟨j1, j2⟩ := tyOf_info ht w'
      have hc : ∀ k, w'.cell? ⟨(G.ob o).blk, k, none⟩ = w.cell? ⟨(G.ob o).blk, k, none⟩ := fun k => by simp [World.cell?, hw'.block _ hlt]
      obtain ⟨v', h1', _⟩ := key w' hw'
      rw [h1']
      congr 1
      cases agg with
      | false =>
        simp only [aloadC, cond_false] at hr
        obtain ⟨y, hy⟩ := get_of_size hr (Nat.le_of_eq h5)
        have e1 : w.cell? ⟨(G.ob o).blk, off, none⟩ = some y := by simp [World.cell?, h4, hy]
        have e2 : w'.cell? ⟨(G.ob o).blk, off, none⟩ = some y := by rw [hc, e1]
        simp [loadVar, i2, run_load, e1] at hr1
        simp [loadVar, j2, run_load, e2] at h1'
        rw [← h1', hr1]
      | true =>
        simp only [aloadC, cond_true] at hr
        cases hb2 : Nat.ble (off + sz) cs.length with
        | false => rw [hb2] at hr; simp at hr
        | true =>
          have hle : off + sz ≤ cs.length := Nat.le_of_ble_eq_true hb2
          have e1 : ∀ j, j < sz → w.cell? ⟨(G.ob o).blk, off + j, none⟩ = some (c.getD (off + j) undef) := fun j hj => by
            have : off + j < c.size := by omega
            simp [World.cell?, h4, this]
          have e2 : ∀ j, j < sz → w'.cell? ⟨(G.ob o).blk, off + j, none⟩ = some (c.getD (off + j) undef) := fun j hj => by rw [hc, e1 j hj]
          have l1 := run_loadCells (P := E.P) (w := w) ⟨(G.ob o).blk, off, none⟩ sz (fun j => c.getD (off + j) undef) (fun j hj => by rw [Addr.add_lit]; exact e1 j hj)
          have l2 := run_loadCells (P := E.P) (w := w') ⟨(G.ob o).blk, off, none⟩ sz (fun j => c.getD (off + j) undef) (fun j hj => by rw [Addr.add_lit]; exact e2 j hj)
          simp [loadVar, i1, i2, l1] at hr1
          simp [loadVar, j1, j2, l2] at h1'
          rw [← h1', hr1]
    obtain ⟨v, hrun, hR⟩ := key w (Below.refl _ _)
    exact ⟨v, r, fun w' hw' => by simp only [execOp, hv, Instr.loadAt, Instr.sureAddr]; simp [hsame w' hw' v hrun], hR, h⟩
end
end Go.Av
set_option linter.unusedVariables false
namespace Go.Av
open Go Go.RowKit
theorem acall_pureP {E : Env} {f : FuncId} {args : List AV} {st : List AObj} {P : AV → Prop} (hp : ∀ r, P r → Pure r)
    (h : ACall E f args st fun r st2 => P r ∧ ∃ ext, st2 = st ++ ext) : ACall E f args st fun r st' => P r ∧ st' = st :=
  acall_ret (h.mono fun r st2 ⟨hr, ext, he⟩ => ⟨st, ext, he, rfl, fun _ _ hx => .inl hx, cut_of_pure (hp r hr), hr, rfl⟩)
section
variable {E : Env} {rd : Option Nat} {N : Nat} {ops : Array Oper} {K : AS → Prop} {s : AS} {rest : List Oper} {d : Option Tmp} {T : TypeId} {p : String} {af : Array Edge}
theorem aops_min {x y : Operand} {ts : Array TypeId} {a b : Int} (hx : aeval N s x = Iv a) (hy : aeval N s y = Iv b)
    (h : ∀ c : Int, c ≤ a → c ≤ b → (c = a ∨ c = b) → AOps E rd N ops rest K (s.put d (Iv c))) : AOps E rd N ops (⟨d, .call ⟨.builtin .min, #[x, y], ts⟩, T, p, af, none⟩ :: rest) K s :=
  aops_scalar _ rfl nofun (fun a w he => by simp [execOp, resolve, invoke, builtin, Builtin.min_, Builtin.min2, he _ _ hx, he _ _ hy]) (h (if b < a then b else a) (by split <;> omega) (by split <;> omega) (by split <;> simp))
theorem aq_load_loc {x : Operand} {t : TypeId} {sz : Nat} {agg : Bool} {st loc : List AObj} {k ver off : Nat} {T' : TypeId} {cs : List AV} {r : AV} (hs : s.st = st ++ loc) (hx : aeval N s x = .bx (st.length + k) ver off) (ho : loc[k]? = some (.cells ver T' cs)) (ht : tyOf E.P t = some (sz, agg)) (hr : aloadC sz agg off cs = some r)
    (h : AQ E N ops rest K (s.put d r)) : AQ E N ops (⟨d, .load t x, T, p, af, none⟩ :: rest) K s :=
  aq_load_bx hx (by rw [hs]; exact get_loc ho) ht hr h
end
end Go.Av
set_option maxRecDepth 100000
set_option linter.unusedVariables false
namespace Go.Proofs.YtplagcbifecagaaGreatDoor
open Go Go.Av Go.RowKit Go.Proofs Go.Pl
structure RuleV where
  kind : Int
  key : Bytes
  text : Bytes
  lo : Int
  hi : Int
abbrev FldV := Bytes × Bytes
@[reducible] def fldA (f : FldV) : AV := .ag [Sv f.1, Sv f.2]
@[reducible] def fldsA (l : List FldV) : AV := .sl 2 (l.map fldA) none
def goodR (r : RuleV) : Prop := 1 ≤ r.kind ∧ r.kind ≤ 7 ∧ (r.kind = 6 ∨ keyOk r.key)
instance (r : RuleV) : Decidable (goodR r) := inferInstanceAs (Decidable (_ ∧ _ ∧ _))
def wordsOf (l : Bytes) : List Bytes := if l = [] then [] else partsOf l
theorem pure_strs (xs : List Bytes) : Pure (.sl 1 (xs.map fun x => Sv x) none) := pure_sl fun x hx => by
  simp only [List.mem_map] at hx
  obtain ⟨l, _, rfl⟩ := hx
  intro y hy
  simp [AV.cells] at hy
  subst hy
  exact pure_v _
def withinR (r : RuleV) (n : Int) : Prop := r.lo ≤ n ∧ n ≤ r.hi
instance (r : RuleV) (n : Int) : Decidable (withinR r n) := inferInstanceAs (Decidable (_ ∧ _))
def numberR (r : RuleV) (l : Bytes) : Prop := ∃ n, numZ l = some n ∧ withinR r n
instance (r : RuleV) (l : Bytes) : Decidable (numberR r l) :=
  match h : numZ l with
  | some n => decidable_of_iff (withinR r n) ⟨fun h' => ⟨n, h, h'⟩, fun ⟨m, h1, h2⟩ => by rw [h] at h1; cases h1; exact h2⟩
  | none => .isFalse fun ⟨m, h1, _⟩ => by rw [h] at h1; cases h1
def takesR (r : RuleV) (f : FldV) : Prop :=
  (r.kind = 3 → f.1 = r.key → numberR r f.2) ∧ (r.kind = 4 → f.1 = r.key → f.2 ∈ wordsOf r.text) ∧ (r.kind = 5 → f.1 = r.key → withinR r f.2.length) ∧ (r.kind = 6 → f.1 ∈ wordsOf r.text)
instance (r : RuleV) (f : FldV) : Decidable (takesR r f) := inferInstanceAs (Decidable (_ ∧ _ ∧ _ ∧ _))
end Go.Proofs.YtplagcbifecagaaGreatDoor
set_option maxRecDepth 100000
set_option linter.unusedVariables false
namespace Go.Proofs.YtplagcbifecagaaGreatDoor
open Go Go.Av Go.RowKit Go.Proofs Go.Pl
theorem flds_get {xs : List FldV} {k : Nat} (hk : k < xs.length) : (xs.map fldA)[k]? = some (fldA (xs.getD k ([], []))) := by
  simp [List.getD, hk]
def valsOf (key : Bytes) (xs : List FldV) : List Bytes := (xs.filter fun f => f.1 = key).map Prod.snd
end Go.Proofs.YtplagcbifecagaaGreatDoor
set_option maxRecDepth 100000
set_option linter.unusedVariables false
namespace Go.Proofs.YtplagcbifecagaaGreatDoor
open Go Go.Av Go.RowKit Go.Proofs Go.Pl
def breaksR (r : RuleV) (xs : List FldV) : Prop := goodR r ∧ ((r.kind = 1 ∧ (valsOf r.key xs).length = 0) ∨ (r.kind = 2 ∧ 1 < (valsOf r.key xs).length) ∨ (r.kind ≠ 1 ∧ r.kind ≠ 2 ∧ xs.any (fun f => !decide (takesR r f)) = true))
instance (r : RuleV) (xs : List FldV) : Decidable (breaksR r xs) := inferInstanceAs (Decidable (_ ∧ (_ ∨ _ ∨ _)))
structure FldsB (xs : List FldV) : Prop where
  len : xs.length < 1000000
  val : ∀ f ∈ xs, f.1.length < 4294967281 ∧ f.2.length < 4294967281
end Go.Proofs.YtplagcbifecagaaGreatDoor
set_option maxRecDepth 100000
set_option linter.unusedVariables false
namespace Go.Proofs.YtplagcbifecagaaGreatDoor
open Go Go.Av Go.RowKit Go.Proofs Go.Pl
theorem flds_next {xs : List FldV} {k : Nat} {P : FldV → Prop} (hk : k < xs.length) (h : ∀ f ∈ xs.take k, P f) (h2 : P (xs.getD k ([], []))) : ∀ f ∈ xs.take (k + 1), P f := by
  intro f hf
  rw [List.take_succ_eq_append_getElem hk, List.mem_append, List.mem_singleton] at hf
  rcases hf with hf | rfl
  · exact h f hf
  · simpa [List.getD, hk] using h2
theorem much_c (xs : List FldV) (st : List AObj) (hx : xs.length < 9223372036854775808) : ACall E 44 [fldsA xs] st fun x st' => (∃ b, x = Bv b ∧ (b = false → FldsB xs)) ∧ st' = st := by
  refine acall_pureP (by rintro _ ⟨b, rfl, _⟩; exact pure_v _) (acall_of_awp Tryz.func44 rfl (Nat.le_of_ble_eq_true rfl) ?_)
  have hlen : (xs.map fldA).length = xs.length := by simp
  repeat' (first
    | apply awp_seq
    | apply awp_block
    | apply awp_region
    | apply aops_nil
    | apply aops_move
    | apply aops_assign
    | (apply aops_lenL; exact rfl; exact rfl; exact rfl; exact rfl))
  refine awp_loopG (fun (y : Nat × Int) s => y.1 ≤ xs.length ∧ y.1 ≤ 61 ∧ 0 ≤ y.2 ∧ y.2 ≤ 6000 ∧ (∀ f ∈ xs.take y.1, f.1.length ≤ 6000 ∧ f.2.length ≤ 6000) ∧ StE [(3, Iv y.2), (6, fldsA xs), (7, Iv xs.length), (8, Iv y.1)] st [] s) (fun y => xs.length - y.1) (0, 0) ⟨by simp, by simp, by simp, by simp, by simp, stE_mk0 ⟨rfl, rfl, congrArg (fun n : Nat => Iv (n : Int)) hlen, rfl, trivial⟩ rfl⟩ ?_
  rintro ⟨k, n⟩ _ ⟨hk, hk2, h0, hn, hf, t, ext, rfl⟩
  simp only at hk hk2 h0 hn hf ⊢
  rcases Nat.lt_or_ge k xs.length with hc | hc
  · skip
    repeat' (first
      | apply awp_seq
      | apply awp_block
      | apply awp_region
      | apply aops_nil
      | apply aops_move
      | apply aops_assign
      | (apply aops_cmpI; exact rfl; exact rfl; exact rfl)
      | (apply aops_guard_any; exact rfl; exact rfl; exact rfl; exact rfl)
      | (apply gd_run_n; (first | assumption | omega))
      | (apply gd_skip_d; (first | assumption | omega))
      | (apply gd_split_d <;> intro h)
      | (apply aops_pick_any; exact rfl; first | (apply pk_dt; (first | assumption | omega)) | (apply pk_df; (first | assumption | omega)) | (apply pk_nt; (first | exact rfl | assumption)) | (apply pk_nf; (first | exact rfl | assumption)) | (apply pk_t; (first | exact rfl | assumption)) | (apply pk_f; (first | exact rfl | assumption)))
      | (apply awp_cond_any; exact rfl; first | (apply cd_dt; (first | assumption | omega)) | (apply cd_df; (first | assumption | omega)) | (apply cd_nt; (first | exact rfl | assumption)) | (apply cd_nf; (first | exact rfl | assumption)) | (apply cd_n <;> intro h) | (apply cd_t; (first | exact rfl | assumption)) | (apply cd_f; (first | exact rfl | assumption)) | (apply cd_d <;> intro h) | (apply cd_s <;> intro h))
      | (apply aops_lenS; exact rfl; exact rfl; exact rfl)
      | (apply aops_add; exact rfl; exact rfl; exact wrap_i64 (by omega) (by omega))
      | (apply aops_alloc; exact rfl; exact rfl)
      | (apply aops_fieldAddr_bx; exact rfl; exact rfl; exact rfl)
      | (apply aops_load_pp; exact rfl; exact rfl; exact rfl)
      | (apply aops_load_loc; exact rfl; exact rfl; exact rfl; exact rfl; exact rfl)
      | (apply aops_store_loc; exact rfl; exact rfl; exact rfl; exact rfl; exact rfl; exact rfl; exact rfl; exact rfl; exact rfl; exact rfl; exact rfl)
      | apply awp_skip
      | apply awp_ret
      | (apply aops_indexAddr (n := k); exact rfl; exact rfl; exact rfl; exact rfl; exact rfl; exact flds_get (by omega))
      | (apply aops_min; exact rfl; exact rfl; intro c hc1 hc2 hc3))
    · exact aret_plain rfl (ares_one rfl) ⟨⟨_, rfl, nofun⟩, ext_end _ _ _ _⟩
    · exact aret_plain rfl (ares_one rfl) ⟨⟨_, rfl, nofun⟩, ext_end _ _ _ _⟩
    · exact ⟨(k + 1, _), ⟨by simp only; omega, by simp only; omega, by simp only; omega, by simp only; omega, flds_next (by omega) hf ⟨by omega, by omega⟩, stE_mk ⟨rfl, rfl, rfl, rfl, trivial⟩ rfl⟩, by simp only; omega⟩
  · skip
    repeat' (first
      | apply awp_seq
      | apply awp_region
      | apply aops_nil
      | apply aops_assign
      | (apply aops_cmpI; exact rfl; exact rfl; exact rfl)
      | (apply awp_cond_any; exact rfl; first | (apply cd_dt; (first | assumption | omega)) | (apply cd_df; (first | assumption | omega)) | (apply cd_nt; (first | exact rfl | assumption)) | (apply cd_nf; (first | exact rfl | assumption)) | (apply cd_n <;> intro h) | (apply cd_t; (first | exact rfl | assumption)) | (apply cd_f; (first | exact rfl | assumption)) | (apply cd_d <;> intro h) | (apply cd_s <;> intro h))
      | apply awp_exit
      | apply awp_ret)
    have e : k = xs.length := by omega
    subst e
    rw [List.take_length] at hf
    exact aret_plain rfl (ares_one rfl) ⟨⟨_, rfl, fun _ => ⟨by omega, fun f h => by have := hf f h; omega⟩⟩, ext_end _ _ _ _⟩
end Go.Proofs.YtplagcbifecagaaGreatDoor
set_option linter.unusedVariables false
namespace Go.Av
open Go Go.RowKit Go.WideShapes Go.ChangeShapes Go.Deep
def gW (W : World) : Gh := ⟨fun b => match W.heap[b]? with | some (.cells c _ _) => some c.toList | _ => none, fun _ => ⟨0, 0, 0, false⟩, 0⟩
theorem gW_pub {W : World} {b : Nat} {c : Array Value} {T : TypeId} {fz : Nat × Nat} (h : W.heap[b]? = some (.cells c T fz)) : (gW W).pub b = some c.toList := by
  simp [gW, h]
theorem agree_startW (W : World) : Agree W.heap.size W (gW W) [] W := by
  refine ⟨Below.refl _ _, Nat.le_refl _, rfl, fun b vs h => ?_, fun o x h => by simp at h, fun o o' x x' _ h => by simp at h⟩
  simp only [gW] at h
  split at h
  · rename_i c T fz hb
    cases h
    exact ⟨c, T, fz, hb, fun i y hy => by simpa using hy⟩
  · cases h
theorem calls_of_acallW {E : Env} {f : FuncId} {args : List AV} {vals : Array Value} {b : Bool} {W : World} (h : ACall E f args [] fun r st' => r = Bv b ∧ st' = []) (hL : E.L W.heap.size W) (ha : RelL (gW W) args vals) :
    Calls E.P f vals W fun e w' => e = .returned (.bool b) ∧ Below W.heap.size W w' := by
  refine (h.run W.heap.size W (gW W) vals W hL (agree_startW W) ha).mono ?_
  rintro e w' ⟨v, G', r, st', rfl, _, hA, hr, rfl, _⟩
  cases hr
  exact ⟨rfl, hA.below⟩
theorem relL_nil {G : Gh} : RelL G [] #[] := ⟨rfl, fun i x y h => by simp at h⟩
theorem relL_cons {G : Gh} {a : AV} {us : List AV} {v : Value} {vs : List Value} (h : Rel G a v) (hs : RelL G us vs.toArray) : RelL G (a :: us) (v :: vs).toArray := by
  refine ⟨by simpa using hs.1, fun i x y hx hy => ?_⟩
  cases i with
  | zero => simp at hx hy; subst hx; subst hy; exact h
  | succ i => exact hs.2 i x y (by simpa using hx) (by simpa using hy)
def RelK (G : Gh) (us : List AV) (cs : List Value) : Prop := us.length = cs.length ∧ ∀ (i : Nat) (x : AV) (y : Value), us[i]? = some x → cs[i]? = some y → Rel G x y
theorem relK_one {G : Gh} {a : AV} {v : Value} (h : Rel G a v) : RelK G [a] [v] := ⟨rfl, fun i x y hx hy => by
  cases i with
  | zero => simp at hx hy; subst hx; subst hy; exact h
  | succ i => simp at hx⟩
theorem RelK.one {G : Gh} {a : AV} {v : Value} (h : RelK G [a] [v]) : Rel G a v := h.2 0 a v rfl rfl
def Opn (P : Program) (t : TypeId) (S : AV → Prop) : Prop := ∀ (H : Type) (enc : TypeId × Value → H) (W : World) (fuel : Nat) (cs : List Value) (x : DataW H × List MemPlace),
  DataW.trod enc P W 0 (fun _ => true) true fuel t cs = some x → ∃ a, S a ∧ RelK (gW W) a.cells cs
def IsS (a : AV) : Prop := ∃ l : List UInt8, a = Sv l ∧ l.length ≤ maxLen
def IsI (k : IntKind) (a : AV) : Prop := ∃ n : Int, a = .v (.int k n) ∧ (Lit.int k n).wf = true
def IsSl (sz : Nat) (S : AV → Prop) (a : AV) : Prop := ∃ xs : List AV, a = .sl sz xs none ∧ xs.length ≤ maxLen ∧ ∀ x ∈ xs, S x
def IsAg (Ss : List (AV → Prop)) (a : AV) : Prop := ∃ vs : List AV, a = .ag vs ∧ vs.length = Ss.length ∧ ∀ (i : Nat) (S : AV → Prop) (v : AV), Ss[i]? = some S → vs[i]? = some v → S v
def One (S : AV → Prop) : Prop := ∀ a, S a → a.cells = [a]
theorem one_s : One IsS := by rintro _ ⟨l, rfl, _⟩; rfl
theorem one_i (k : IntKind) : One (IsI k) := by rintro _ ⟨l, rfl, _⟩; rfl
theorem sv_of (s : ByteArray) : Sv s.data.toList = .v (.string s) := by cases s; simp
theorem opn_s {P : Program} {t : TypeId} (hu : P.underlying t = some .string) : Opn P t IsS := by
  intro H enc W fuel cs x h
  obtain ⟨s, rfl, _, hs⟩ := DataW.trod_string hu h
  refine ⟨Sv s.data.toList, ⟨_, rfl, by simpa using hs⟩, relK_one ?_⟩
  rw [sv_of]
  exact .v _
theorem opn_i {P : Program} {t : TypeId} {k : IntKind} (hu : P.underlying t = some (.int k)) : Opn P t (IsI k) := by
  intro H enc W fuel cs x h
  obtain ⟨n, rfl, _, hs⟩ := DataW.trod_int hu h
  exact ⟨_, ⟨n, rfl, hs⟩, relK_one (.v _)⟩
theorem choose_list {n : Nat} {Q : Nat → AV → Prop} (h : ∀ i, i < n → ∃ a, Q i a) : ∃ vs : List AV, vs.length = n ∧ ∀ i v, vs[i]? = some v → Q i v := by
  induction n with
  | zero => exact ⟨[], rfl, fun i v h => by simp at h⟩
  | succ n ih =>
    obtain ⟨vs, hl, hv⟩ := ih fun i hi => h i (by omega)
    obtain ⟨a, ha⟩ := h n (by omega)
    refine ⟨vs ++ [a], by simp [hl], fun i v hi => ?_⟩
    rcases Nat.lt_or_ge i n with hc | hc
    · rw [List.getElem?_append_left (by omega)] at hi
      exact hv i v hi
    · rw [List.getElem?_append_right (by omega)] at hi
      have : i - vs.length = 0 := by
        rcases Nat.eq_zero_or_pos (i - vs.length) with h0 | h0
        · exact h0
        · rw [List.getElem?_eq_none (by simp; omega)] at hi; cases hi
      rw [this] at hi
      simp at hi
      subst hi
      have : i = n := by omega
      subst this
      exact ha
theorem opn_ag {P : Program} {t : TypeId} {fs : Array Field} {Ss : List (AV → Prop)} (hu : P.underlying t = some (.struct fs)) (hone : oneCellFields P fs = true) (hC : P.cellsOf t = fs.size) (hl : Ss.length = fs.size)
    (hS : ∀ (i : Nat) (f : Field) (S : AV → Prop), fs[i]? = some f → Ss[i]? = some S → Opn P f.type S ∧ One S) : Opn P t (IsAg Ss) := by
  intro H enc W fuel cs x h
  obtain ⟨xs, n, _, _, hcl, hxl, hf⟩ := DataW.trod_struct hu h
  have hcs : cs.length = fs.size := hcl.trans hC
  have step : ∀ i, i < fs.size → ∃ a : AV, (∀ S, Ss[i]? = some S → S a) ∧ ∀ y, cs[i]? = some y → Rel (gW W) a y := by
    intro i hi
    have hfi : fs[i]? = some fs[i] := Array.getElem?_eq_getElem hi
    have hSi : Ss[i]? = some (Ss[i]'(by omega)) := List.getElem?_eq_getElem (by omega)
    obtain ⟨hO, h1⟩ := hS i _ _ hfi hSi
    obtain ⟨ho, hk⟩ := hone_of hone i _ hfi
    have ht := hf i _ hfi
    rw [ho, hk] at ht
    have hd : (cs.drop i).take 1 = [cs[i]'(by omega)] := by
      rw [List.drop_eq_getElem_cons (by omega)]
      rfl
    rw [hd, List.getElem?_eq_getElem (by omega)] at ht
    obtain ⟨a, ha, hr⟩ := hO H enc W n _ _ ht
    rw [h1 a ha] at hr
    refine ⟨a, fun S hs => ?_, fun y hy => ?_⟩
    · rw [hSi] at hs; cases hs; exact ha
    · rw [List.getElem?_eq_getElem (by omega)] at hy; cases hy; exact hr.one
  obtain ⟨vs, hvl, hv⟩ := choose_list step
  refine ⟨.ag vs, ⟨vs, rfl, by omega, fun i S v hs hvi => (hv i v hvi).1 S hs⟩, by show vs.length = cs.length; omega, fun i x y hx hy => (hv i x hx).2 y hy⟩
theorem cell_at {W : World} {a : Addr} {n : Nat} {v : Value} (h : W.cell? (a.add n) = some v) : ∃ (c : Array Value) (T : TypeId) (fz : Nat × Nat), W.heap[a.block]? = some (.cells c T fz) ∧ c[a.off + n]? = some v ∧ (n = 0 → a.spot = none) := by
  unfold World.cell? Addr.add at h
  by_cases hn : n = 0
  · subst hn
    simp only [if_true] at h
    split at h
    · rename_i c T fz hb
      split at h
      · cases h
      · rename_i hs
        exact ⟨c, T, fz, hb, by simpa using h, fun _ => by simpa using hs⟩
    · cases h
  · rw [if_neg hn] at h
    simp only at h
    split at h
    · rename_i c T fz hb
      exact ⟨c, T, fz, hb, by simpa using h, fun e => absurd e hn⟩
    · cases h
theorem opn_sl {P : Program} {t e : TypeId} {sz : Nat} {S : AV → Prop} (hu : P.underlying t = some (.slice e)) (hC : P.cellsOf e = sz) (hz : 0 < sz) (hS : Opn P e S) : Opn P t (IsSl sz S) := by
  intro H enc W fuel cs x h
  rcases open_slice hu h with ⟨rfl, _⟩ | ⟨a, len, cap, m, n, D, Pl, rfl, _, hlc, hcm, hm, _, hel⟩
  · exact ⟨.sl sz [] none, ⟨[], rfl, by simp, by simp⟩, relK_one (.sl0 sz none _ _ (by simp))⟩
  · have hm' : len ≤ m := by rw [hm]; simpa using hlc
    rw [hC] at hel
    have step : ∀ i, i < len → ∃ y : AV, S y ∧ y.cells.length = sz ∧ ∀ j, j < sz → ∃ (u : AV) (v : Value), y.cells[j]? = some u ∧ W.cell? (a.add (i * sz + j)) = some v ∧ Rel (gW W) u v := by
      intro i hi
      obtain ⟨cs', hc, ht⟩ := hel i (by omega)
      obtain ⟨_, hcl, hat⟩ := World.cells?_some hc
      obtain ⟨y, hy, hr⟩ := hS H enc W n cs' _ ht
      refine ⟨y, hy, hr.1.trans hcl, fun j hj => ?_⟩
      have h1 : y.cells[j]? = some (y.cells[j]'(by rw [hr.1, hcl]; exact hj)) := List.getElem?_eq_getElem _
      have h2 : cs'[j]? = some (cs'[j]'(by omega)) := List.getElem?_eq_getElem _
      refine ⟨_, _, h1, ?_, hr.2 j _ _ h1 h2⟩
      rw [← Go.Deep.add_add, hat j hj, h2]
    obtain ⟨xs, hxl, hx⟩ := choose_list step
    have hmem : ∀ y ∈ xs, S y ∧ y.cells.length = sz := fun y hy => by
      obtain ⟨i, hi, rfl⟩ := List.mem_iff_getElem.1 hy
      have := hx i xs[i] (List.getElem?_eq_getElem hi)
      exact ⟨this.1, this.2.1⟩
    refine ⟨.sl sz xs none, ⟨xs, rfl, by omega, fun y hy => (hmem y hy).1⟩, relK_one ?_⟩
    rcases Nat.eq_zero_or_pos len with h0 | h0
    · subst h0
      have : xs = [] := List.length_eq_zero_iff.1 hxl
      subst this
      exact .sl0 sz none _ _ (by simp)
    · have hfl : (flat xs).length = len * sz := by rw [flat_length fun y hy => (hmem y hy).2, hxl]
      have at0 : ∀ k, k < len * sz → ∃ (u : AV) (v : Value), (flat xs)[k]? = some u ∧ W.cell? (a.add k) = some v ∧ Rel (gW W) u v := by
        intro k hk
        have hq : k / sz < len := (Nat.div_lt_iff_lt_mul hz).2 hk
        have hr : k % sz < sz := Nat.mod_lt _ hz
        have e : k / sz * sz + k % sz = k := by rw [Nat.mul_comm]; exact Nat.div_add_mod k sz
        have hxi : xs[k / sz]? = some (xs[k / sz]'(by omega)) := List.getElem?_eq_getElem _
        obtain ⟨_, _, hj⟩ := hx _ _ hxi
        obtain ⟨u, v, h1, h2, h3⟩ := hj _ hr
        have := flat_get (sz := sz) (fun y hy => (hmem y hy).2) hxi _ hr
        rw [e] at this h2
        exact ⟨u, v, this.trans h1, h2, h3⟩
      have hpos : 0 < len * sz := Nat.mul_pos h0 hz
      obtain ⟨_, _, _, hc0, _⟩ := at0 0 hpos
      obtain ⟨c, T, fz, hb, _, hspot⟩ := cell_at hc0
      have hin : ∀ k, k < len * sz → ∃ (u : AV) (v : Value), (flat xs)[k]? = some u ∧ c.toList[a.off + k]? = some v ∧ Rel (gW W) u v := by
        intro k hk
        obtain ⟨u, v, h1, h2, h3⟩ := at0 k hk
        obtain ⟨c', T', fz', hb', hv, _⟩ := cell_at h2
        rw [hb] at hb'
        cases hb'
        exact ⟨u, v, h1, by simpa using hv, h3⟩
      obtain ⟨b, off, spot⟩ := a
      have hs := hspot rfl
      simp only at hs hb hin
      subst hs
      rw [← hxl]
      refine .sl sz xs none b off cap c.toList (gW_pub hb) (fun y hy => (hmem y hy).2) ?_ ?_ ?_ (by omega)
      · obtain ⟨_, _, _, hv, _⟩ := hin (len * sz - 1) (by omega)
        have := (List.getElem?_eq_some_iff.1 hv).1
        omega
      · intro i x y hx' hy'
        have hi : i < len * sz := by rw [← hfl]; exact (List.getElem?_eq_some_iff.1 hx').1
        obtain ⟨u, v, h1, h2, h3⟩ := hin i hi
        rw [hx'] at h1
        rw [hy'] at h2
        cases h1
        cases h2
        exact h3
      · intro t ht
        simp at ht
def fieldsOf (P : Program) (t : TypeId) : Array Field := match P.underlying t with | some (.struct fs) => fs | _ => #[]
theorem opn_fields {P : Program} {t : TypeId} {As : List (Option TypeDesc × (AV → Prop))} (hu : P.underlying t = some (.struct (fieldsOf P t))) (hone : oneCellFields P (fieldsOf P t) = true) (hC : P.cellsOf t = (fieldsOf P t).size)
    (hF : (fieldsOf P t).toList.map (fun f => P.underlying f.type) = As.map Prod.fst) (hA : ∀ p ∈ As, (∀ u, P.underlying u = p.1 → Opn P u p.2) ∧ One p.2) : Opn P t (IsAg (As.map Prod.snd)) := by
  have hl : As.length = (fieldsOf P t).size := by have := congrArg List.length hF; simpa using this.symm
  refine opn_ag hu hone hC (by simpa using hl) fun i f S hf hS => ?_
  obtain ⟨p, hp, rfl⟩ : ∃ p, As[i]? = some p ∧ p.2 = S := by simpa using hS
  have h1 : ((fieldsOf P t).toList.map (fun f => P.underlying f.type))[i]? = some (P.underlying f.type) := by simp [hf]
  rw [hF, List.getElem?_map, hp] at h1
  obtain ⟨a, b⟩ := hA p (List.mem_of_getElem? hp)
  exact ⟨a _ (by simpa using h1.symm), b⟩
theorem all_map {α : Type} {g : α → AV} : ∀ {xs : List AV}, (∀ x ∈ xs, ∃ r, x = g r) → ∃ rs : List α, xs = rs.map g
  | [], _ => ⟨[], rfl⟩
  | x :: xs, h => by
    obtain ⟨r, rfl⟩ := h x (by simp)
    obtain ⟨rs, rfl⟩ := all_map (xs := xs) fun y hy => h y (by simp [hy])
    exact ⟨r :: rs, rfl⟩
theorem arg_sl {H : Type} {enc : TypeId × Value → H} {P : Program} {W : World} {r : Reach} {b0 : Nat} {t e : TypeId} {S : AV → Prop} {v : Value} {d : DataW H} {ps : List MemPlace} (hu : P.underlying t = some (.slice e)) (hO : Opn P t S) (h1 : One S) (hval : Value.okWide P W r b0 t v) (hd : DataW.Trod enc P W 0 (fun _ => true) true t v d ps) :
    ∃ a, S a ∧ Rel (gW W) a v := by
  obtain ⟨a, len, cap, rfl⟩ := okWide_slice hu hval
  obtain ⟨fuel, hf⟩ := hd
  obtain ⟨y, hy, hr⟩ := hO H enc W fuel _ _ hf
  rw [h1 y hy] at hr
  exact ⟨y, hy, RelK.one (by simpa [Value.cells] using hr)⟩
theorem arg_same {H : Type} {enc : TypeId × Value → H} {P : Program} {W W' : World} {t : TypeId} (hl : laidOutB P = true) (hr : P.readableRec t = true) (hrow : t < P.types.size) {sp : Nat → Bool} {v : Value} {d : DataW H} {ps : List MemPlace}
    (hd : DataW.Trod enc P W 0 (fun _ => true) true t v d ps) (hb : Below W.heap.size W W') (hlt : ∀ p ∈ ps, p.block < W.heap.size) (hs : ∀ p ∈ ps, sp p.block = true) : DataW.Trod enc P W' 0 sp true t v d ps :=
  Go.WideElems.Trod_stays hl hr hrow hd (fun p hp => hb.same (hlt p hp)) hs
end Go.Av
set_option maxRecDepth 100000
set_option linter.unusedVariables false
namespace Go.Proofs.YtplagcbifecagaaGreatDoor
open Go Go.Av Go.RowKit Go.Proofs Go.Pl
theorem opn_fld : Opn Tryz.prog 58 fun a => ∃ f : FldV, a = fldA f := by
  intro H enc W fuel cs x h
  obtain ⟨a, ⟨vs, rfl, hl, hv⟩, hr⟩ := opn_fields (As := [(some .string, IsS), (some .string, IsS)]) (by kernel_rfl) (by kernel_rfl) (by kernel_rfl) (by kernel_rfl)
    (List.forall_mem_cons.2 ⟨⟨fun _ h => opn_s h, one_s⟩, List.forall_mem_cons.2 ⟨⟨fun _ h => opn_s h, one_s⟩, nofun⟩⟩) H enc W fuel cs x h
  match vs, hl with
  | [v0, v1], _ =>
    obtain ⟨l0, rfl, _⟩ := hv 0 _ _ rfl rfl
    obtain ⟨l1, rfl, _⟩ := hv 1 _ _ rfl rfl
    exact ⟨_, ⟨(l0, l1), rfl⟩, hr⟩
theorem opn_flds {t : TypeId} (hu : Tryz.prog.underlying t = some (.slice 58)) : Opn Tryz.prog t fun a => ∃ xs : List FldV, a = fldsA xs ∧ xs.length ≤ maxLen := by
  intro H enc W fuel cs x h
  obtain ⟨a, ⟨xs, rfl, hl, hx⟩, hr⟩ := opn_sl (sz := 2) hu (by kernel_rfl) (by decide) opn_fld H enc W fuel cs x h
  obtain ⟨rs, rfl⟩ := all_map hx
  exact ⟨_, ⟨rs, rfl, by simpa using hl⟩, hr⟩
theorem one_flds : One fun a => ∃ xs : List FldV, a = fldsA xs ∧ xs.length ≤ maxLen := by rintro _ ⟨xs, rfl, _⟩; rfl
theorem lt_max {n : Nat} (h : n ≤ maxLen) : n < 9223372036854775808 := by unfold maxLen at h; omega
end Go.Proofs.YtplagcbifecagaaGreatDoor
set_option maxRecDepth 100000
set_option linter.unusedVariables false
namespace Go.Proofs.YtplagcbifecagaaGreatDoor
open Go Go.Av Go.RowKit Go.Proofs Go.Pl
structure EditV where
  kind : Int
  id : Int
  fields : List FldV
@[reducible] def editA (e : EditV) : AV := .ag [Iv e.kind, Iv e.id, fldsA e.fields]
def headOf (k : Int) : Bytes := if k = 1 then [32, 114, 101, 112, 108, 97, 99, 101, 32] else if k = 2 then [32, 100, 101, 108, 101, 116, 101, 32] else if k = 3 then [32, 105, 110, 115, 101, 114, 116, 32] else []
def lineE (e : EditV) : Bytes := if 1 ≤ e.kind ∧ e.kind ≤ 3 then headOf e.kind ++ Lib.itoa e.id else []
def wordE (k : Int) : Bytes := if k = 1 then [114, 101, 112, 108, 97, 99, 101] else if k = 2 then [100, 101, 108, 101, 116, 101] else if k = 3 then [105, 110, 115, 101, 114, 116] else []
theorem word_c (k : Int) (st : List AObj) : ACall E 49 [Iv k] st fun r st' => r = Sv (wordE k) ∧ st' = st := by
  refine acall_pure (pure_v _) (acall_of_awp Tryz.func49 rfl (Nat.le_of_ble_eq_true rfl) ?_)
  repeat' (first
    | apply awp_seq
    | apply awp_block
    | apply awp_region
    | apply aops_nil
    | apply aops_move
    | apply aops_assign
    | (apply aops_cmpI; exact rfl; exact rfl; exact rfl)
    | (apply awp_cond_any; exact rfl; first | (apply cd_dt; (first | assumption | omega)) | (apply cd_df; (first | assumption | omega)) | (apply cd_nt; (first | exact rfl | assumption)) | (apply cd_nf; (first | exact rfl | assumption)) | (apply cd_n <;> intro h) | (apply cd_t; (first | exact rfl | assumption)) | (apply cd_f; (first | exact rfl | assumption)) | (apply cd_d <;> intro h) | (apply cd_s <;> intro h))
    | apply awp_skip
    | apply awp_ret)
  all_goals refine aret_plain rfl (ares_one rfl) ⟨congrArg (fun l : Bytes => Sv l) (?_ : _ = wordE k), _, rfl⟩
  all_goals simp_all [wordE]
theorem wordE_len (k : Int) : (wordE k).length ≤ 7 := by
  unfold wordE
  repeat' split
  all_goals simp
theorem headOf_word (k : Int) : headOf k = if wordE k = [] then [] else [32] ++ wordE k ++ [32] := by
  unfold headOf wordE
  repeat' split
  all_goals simp_all
theorem wordE_nil (k : Int) : wordE k = [] ↔ ¬ (1 ≤ k ∧ k ≤ 3) := by
  unfold wordE
  repeat' split
  all_goals simp_all
  omega
theorem line_c (e : EditV) (st : List AObj) (h1 : -9223372036854775808 ≤ e.id) (h2 : e.id ≤ 9223372036854775807) : ACall E 22 [editA e] st fun r st' => r = Sv (lineE e) ∧ st' = st := by
  refine acall_pure (pure_v _) (acall_of_awp Tryz.func22 rfl (Nat.le_of_ble_eq_true rfl) ?_)
  have hn := Lib.itoa_length_le e.id h1 h2
  have hw := wordE_len e.kind
  have ho := headOf_word e.kind
  have hz := wordE_nil e.kind
  repeat' (first
    | apply awp_seq
    | apply awp_region
    | apply aops_nil
    | apply aops_move
    | apply aops_assign
    | (apply aops_cmpS; exact rfl; exact rfl; exact rfl)
    | (apply awp_cond_any; exact rfl; first | (apply cd_dt; (first | assumption | omega)) | (apply cd_df; (first | assumption | omega)) | (apply cd_nt; (first | exact rfl | assumption)) | (apply cd_nf; (first | exact rfl | assumption)) | (apply cd_n <;> intro h) | (apply cd_t; (first | exact rfl | assumption)) | (apply cd_f; (first | exact rfl | assumption)) | (apply cd_d <;> intro h) | (apply cd_s <;> intro h))
    | (apply aops_concat; exact rfl; exact rfl; (first | omega | (simp only [List.length_append, List.length_cons, List.length_nil]; omega) | (simp; omega)))
    | (apply aops_box; exact rfl; exact rfl; exact rfl; exact rfl)
    | (apply aops_fieldAddr_bx; exact rfl; exact rfl; exact rfl)
    | (apply aops_load_loc; exact rfl; exact rfl; exact rfl; exact rfl; exact rfl)
    | apply awp_skip
    | apply awp_ret
    | (apply aops_call1; exact Tryz.call49; exact word_c _ _)
    | (apply aops_call1; exact Tryz.call50; exact itoa_c _ _ h1 h2))
  all_goals refine aret_plain rfl (ares_one rfl) ⟨congrArg (fun l : Bytes => Sv l) (?_ : _ = lineE e), _, rfl⟩
  all_goals unfold lineE
  · rw [if_neg (by simp_all)]
  · rw [if_pos (by simp_all), ho, if_neg (by assumption)]
end Go.Proofs.YtplagcbifecagaaGreatDoor
set_option linter.unusedVariables false
namespace Go.Av
open Go Go.RowKit
def noop (o : Oper) : Oper := { o with op := .move (.const undef), guard := none }
section
variable {F : Fence} {n : Nat} {P : Program} {ops ops' : Array Oper} {md : Region.Mode} {C : World → Prop} {Q : Exit → Act → World → Prop} {k : Nat} {o : Oper}
theorem least_unlisted {listed : Array Bool} : ∀ k, listed.getD k true = false → ∃ j, j ≤ k ∧ listed.getD j true = false ∧ ∀ i, i < j → listed.getD i true = true := by
  intro k
  induction k using Nat.strongRecOn with
  | _ k ih =>
    intro h
    by_cases hall : ∀ i, i < k → listed.getD i true = true
    · exact ⟨k, Nat.le_refl _, h, hall⟩
    · have ⟨i, hi⟩ := Classical.not_forall.1 hall
      have ⟨hi1, hi2⟩ := Classical.not_imp.1 hi
      obtain ⟨j, h1, h2, h3⟩ := ih i hi1 (by simpa using hi2)
      exact ⟨j, by omega, h2, h3⟩
theorem getD_false_of {listed : Array Bool} {i : Nat} (h : listed.getD i true = true) (hi : i < listed.size) : listed.getD i false = true := by
  simp [Array.getD, hi] at h ⊢
  exact h
theorem getD_contra {listed : Array Bool} {i : Nat} (h : listed.getD i true = false) (h2 : listed.getD i false = true) : False := by
  unfold Array.getD at h h2
  by_cases hi : i < listed.size
  · rw [dif_pos hi] at h h2
    rw [h] at h2
    cases h2
  · rw [dif_neg hi] at h
    cases h
theorem ready_least {listed : Array Bool} {j : Nat} (hsz : listed.size = ops.size) (hord : ∀ (j : Nat) o, ops[j]? = some o → ∀ e ∈ o.after, e.on < j) (hj : listed.getD j true = false) (hall : ∀ i, i < j → listed.getD i true = true) : j ∈ Region.ready md ops listed := by
  have hlt : j < listed.size := by
    rcases Nat.lt_or_ge j listed.size with h | h
    · exact h
    · simp [Array.getD, Nat.not_lt.2 h] at hj
  rw [mem_ready]
  have ho : ops[j]? = some ops[j] := Array.getElem?_eq_getElem (by omega)
  exact ⟨hj, _, ho, fun e he _ => getD_false_of (hall _ (hord j _ ho e he)) (by have := hord j _ ho e he; omega)⟩
theorem ready_same {listed : Array Bool} (hs : ops.size = ops'.size) (hk : ops[k]? = some o) (hk' : ops'[k]? = some (noop o)) (hoth : ∀ j, j ≠ k → ops'[j]? = ops[j]?) : Region.ready md ops' listed = Region.ready md ops listed := by
  unfold Region.ready
  rw [hs]
  refine List.filter_congr fun i _ => ?_
  by_cases h : i = k
  · subst h; rw [hk, hk']; rfl
  · rw [hoth i h]
theorem yielded_same (hd : o.dst = none) (hk : ops[k]? = some o) (hk' : ops'[k]? = some (noop o)) (hoth : ∀ j, j ≠ k → ops'[j]? = ops[j]?) (t : Array Value) : yielded ops' t = yielded ops t := by
  funext j
  unfold yielded
  by_cases h : j = k
  · subst h; rw [hk, hk']; simp [noop, hd]
  · rw [hoth j h]
theorem wpAnyIn_last (hro : F.round = none) (hsz : ops.size = ops'.size) (hk : ops[k]? = some o) (hk' : ops'[k]? = some (noop o)) (hoth : ∀ j, j ≠ k → ops'[j]? = ops[j]?) (hd : o.dst = none)
    (hord : ∀ (j : Nat) o, ops[j]? = some o → ∀ e ∈ o.after, e.on < j) (hcov : ∀ j, j < ops.size → j ≠ k → ∃ e ∈ o.after, Region.binds md e = true ∧ e.on = j) :
    ∀ (fuel : Nat) (listed : Array Bool) (a : Act) (w : World), C w → listed.size = ops.size → listed.getD k true = false → wpAnyQIn F n P md ops' C (fun a => ∀ w, C w → wpOpIn F n P ops Q k (Q .normal) a w) fuel listed a → wpAnyIn F n P md ops Q fuel listed a w
  | 0, listed, a, w, hC, hs, hun, h => by
    have ⟨j, _, h2, h3⟩ := least_unlisted k hun
    have := ready_least (md := md) hs hord h2 h3
    rw [← ready_same hsz hk hk' hoth, h.1] at this
    cases this
  | fuel + 1, listed, a, w, hC, hs, hun, h => by
    obtain ⟨hq1, hq2⟩ := h
    rw [ready_same hsz hk hk' hoth] at hq1 hq2
    refine ⟨fun h0 => ?_, fun i hi => ?_⟩
    · have ⟨j, _, h2, h3⟩ := least_unlisted k hun
      have := ready_least (md := md) hs hord h2 h3
      rw [h0] at this
      cases this
    · have hqi := hq2 i hi
      by_cases hik : i = k
      · subst hik
        obtain ⟨_, o', ho', hall⟩ := mem_ready.1 hi
        rw [hk] at ho'
        cases ho'
        have hr : Region.ready md ops (listed.setIfInBounds i true) = [] := by
          rw [List.eq_nil_iff_forall_not_mem]
          intro j hj
          obtain ⟨hju, oj, hoj, _⟩ := mem_ready.1 hj
          have hjs : j < ops.size := by
            rcases Nat.lt_or_ge j ops.size with h | h
            · exact h
            · rw [Array.getElem?_eq_none h] at hoj; cases hoj
          by_cases hji : j = i
          · subst hji
            simp [Array.getD, hs, hjs] at hju
          · obtain ⟨e, he, hb, heq⟩ := hcov j hjs hji
            have h5 := hall e he hb
            rw [heq] at h5
            rw [getD_set_ne true (Ne.symm hji)] at hju
            exact getD_contra hju h5
        unfold qOpIn at hqi
        rw [hk'] at hqi
        simp only at hqi
        have hqe := hqi.2
        have hwn : Region.wanted (noop o) (yielded ops' a.tmps) = true := by simp [noop, Region.wanted]
        rw [if_pos hwn] at hqe
        obtain ⟨v, _, hK⟩ := hqe
        have hput : a.put (noop o).dst v = a := by simp [noop, hd, Act.put]
        rw [hput] at hK
        have hQ' : ∀ w, C w → wpOpIn F n P ops Q i (Q .normal) a w := by
          cases fuel with
          | zero => exact hK.2
          | succ fuel => exact hK.1 (by rw [ready_same hsz hk hk' hoth]; exact hr)
        exact wpOpIn_mono (fun a' w' h' => wpAnyIn_done hr h' _) (hQ' w hC)
      · have he : qOpIn F n P ops C i (wpAnyQIn F n P md ops' C (fun a => ∀ w, C w → wpOpIn F n P ops Q k (Q .normal) a w) fuel (listed.setIfInBounds i true)) a := by
          unfold qOpIn at hqi ⊢
          rw [hoth i hik] at hqi
          rw [← yielded_same hd hk hk' hoth]
          exact hqi
        refine wpOpIn_of_qOpIn hro hC (fun a' w' hC' hX => wpAnyIn_last hro hsz hk hk' hoth hd hord hcov fuel _ a' w' hC' (by simpa using hs) ?_ hX) he
        rw [getD_set_ne true hik]
        exact hun
def splitLast {α : Type} : List α → Option (List α × α)
  | [] => none
  | [x] => some ([], x)
  | x :: y :: r => match splitLast (y :: r) with
    | some (l, o) => some (x :: l, o)
    | none => none
theorem splitLast_eq {α : Type} : ∀ {L l : List α} {o : α}, splitLast L = some (l, o) → L = l ++ [o]
  | [], _, _, h => by simp [splitLast] at h
  | [x], _, _, h => by simp [splitLast] at h; obtain ⟨rfl, rfl⟩ := h; rfl
  | x :: y :: r, l, o, h => by
    unfold splitLast at h
    split at h
    · rename_i l' o' he
      simp only [Option.some.injEq, Prod.mk.injEq] at h
      obtain ⟨rfl, rfl⟩ := h
      rw [splitLast_eq he]
      rfl
    · simp at h
def coversB (o : Oper) (k : Nat) : Bool := (List.range k).all fun j => o.after.toList.any fun e => Region.binds .any e && Nat.beq e.on j
def orderedB (ops : List Oper) : Bool := (List.range ops.length).all fun j => match ops[j]? with | some o => o.after.toList.all fun e => Nat.blt e.on j | none => true
end
section
variable {E : Env} {N : Nat} {s : AS}
theorem awp_drawS {id : Nat} {L l : List Oper} {o : Oper} {Q : Exit → AS → Prop} (hsp : splitLast L = some (l, o)) (hd : o.dst = none) (hcov : coversB o l.length = true) (hord : orderedB L = true) (hm : E.P.follows .mixedOrders = true) (hB : Region.lexB .any (l ++ [noop o]).toArray = true)
    (h : AQ E N (l ++ [noop o]).toArray l (fun s' => AOps E none N L.toArray [o] (Q .normal) s') s) : AWp E none N (.region id L.toArray true) Q s := by
  have hLe := splitLast_eq hsp
  subst hLe
  refine ⟨fun B0 w0 G a w hL hI => ?_⟩
  have hB2 := hB
  simp only [Region.lexB, Bool.and_eq_true] at hB2
  have hk : (l ++ [o]).toArray[l.length]? = some o := by simp
  have hk' : (l ++ [noop o]).toArray[l.length]? = some (noop o) := by simp
  have hoth : ∀ j, j ≠ l.length → (l ++ [noop o]).toArray[j]? = (l ++ [o]).toArray[j]? := fun j hj => by
    simp only [List.getElem?_toArray]
    rcases Nat.lt_or_ge j l.length with h | h
    · rw [List.getElem?_append_left h, List.getElem?_append_left h]
    · rw [List.getElem?_eq_none (by simp; omega), List.getElem?_eq_none (by simp; omega)]
  have hordP : ∀ (j : Nat) o', (l ++ [o]).toArray[j]? = some o' → ∀ e ∈ o'.after, e.on < j := fun j o' hj e he => by
    simp only [orderedB, List.all_eq_true, List.mem_range] at hord
    simp only [List.getElem?_toArray] at hj
    have h1 := hord j (lt_of_getElem? hj)
    rw [hj] at h1
    simp only at h1
    have h2 := List.all_eq_true.1 h1 e (by simpa using he)
    exact Nat.le_of_ble_eq_true h2
  have hcovP : ∀ j, j < (l ++ [o]).toArray.size → j ≠ l.length → ∃ e ∈ o.after, Region.binds .any e = true ∧ e.on = j := fun j hj hne => by
    simp only [coversB, List.all_eq_true, List.mem_range] at hcov
    have h1 := hcov j (by simp at hj; omega)
    obtain ⟨e, he, h2⟩ := List.any_eq_true.1 h1
    simp only [Bool.and_eq_true] at h2
    exact ⟨e, by simpa using he, h2.1, Nat.eq_of_beq_eq_true h2.2⟩
  have hBl : Below w.heap.size w { w with drawn := w.drawn + 1 } := ⟨rfl, rfl, rfl, Nat.le_refl _, fun _ _ => rfl⟩
  refine wpIn_region_any hm (wpAnyIn_last (C := fun w' => Below w.heap.size w w') (ops' := (l ++ [noop o]).toArray) (k := l.length) rfl (by simp) hk hk' hoth hd hordP hcovP _ _ _ _ hBl (by simp) (by simp [Array.getD]) ?_)
  have hq : wpQuietIn (fw none) 0 E.P (l ++ [noop o]).toArray (fun w' => Below w.heap.size w w') (fun a => ∀ w', Below w.heap.size w w' → wpOpIn (fw none) 0 E.P (l ++ [o]).toArray (fun e a' w' => ∃ (G' : Gh) (s' : AS), G.le G' ∧ Inv B0 w0 N G' s' a' w' ∧ Q e s') l.length (fun a' w' => ∃ (G' : Gh) (s' : AS), G.le G' ∧ Inv B0 w0 N G' s' a' w' ∧ Q .normal s') a w') (l ++ [noop o]) a := by
    have step : ∀ (l1 : List Oper) (a : Act) (X : Act → Prop), wpQuietIn (fw none) 0 E.P (l ++ [noop o]).toArray (fun w' => Below w.heap.size w w') X l1 a → wpQuietIn (fw none) 0 E.P (l ++ [noop o]).toArray (fun w' => Below w.heap.size w w') X (l1 ++ [noop o]) a := by
      intro l1
      induction l1 with
      | nil =>
        intro a X hX
        refine ⟨fun _ _ _ hf => ?_, ?_⟩
        · simp [Oper.about, noop] at hf
        · have hwn : Region.wanted (noop o) (yielded (l ++ [noop o]).toArray a.tmps) = true := by simp [noop, Region.wanted]
          rw [if_pos hwn]
          refine ⟨undef, fun w' _ => ?_, ?_⟩
          · unfold Oper.quietAtIn
            simp [noop, execOp, Oper.quietUponIn, Act.eval]
          · have hput : a.put (noop o).dst undef = a := by simp [noop, hd, Act.put]
            rw [hput]
            exact hX
      | cons o1 l1 ih =>
        intro a X hX
        refine ⟨hX.1, ?_⟩
        have h2 := hX.2
        split
        · rename_i hw
          rw [if_pos hw] at h2
          obtain ⟨v, h3, h4⟩ := h2
          exact ⟨v, h3, ih _ _ h4⟩
        · rename_i hw
          rw [if_neg hw] at h2
          exact ih _ _ h2
    refine step l a _ (h.run B0 w0 G a w hL hI _ fun s' a' hI' hst hks w' hw' => ?_)
    have hI2 : Inv B0 w0 N G s' a' w' := ⟨hI'.agree.fresh hw', hI'.defers, hI'.size, hI'.tmps⟩
    have hr := hks.run B0 w0 G a' w' hL hI2 (fun e a' w' => ∃ (G' : Gh) (s' : AS), G.le G' ∧ Inv B0 w0 N G' s' a' w' ∧ Q e s') (fun G' s'' a'' w'' hG hI3 hQ => ⟨G', s'', hG, hI3, hQ⟩)
    unfold wpOpIn
    rw [hk]
    exact hr
  have := wpAnyQIn_lex (F := fw none) (n := 0) (C := fun w' => Below w.heap.size w w') (md := .any) hB2.1 (l ++ [noop o]) 0 (Array.replicate (l ++ [noop o]).length false) a (by simp) (by simpa using hB2.2) hq
  simpa using this
variable {ops : Array Oper} {K : AS → Prop} {rest : List Oper} {d : Option Tmp} {T : TypeId} {p : String} {af : Array Edge}
theorem aq_concat {x y : Operand} {t t' : TypeId} {m n : List UInt8} (hx : aeval N s x = Sv m) (hy : aeval N s y = Sv n) (hl : m.length + n.length < 9223372036854775808)
    (h : AQ E N ops rest K (s.put d (Sv (m ++ n)))) : AQ E N ops (⟨d, .binOp .add t x y t', T, p, af, none⟩ :: rest) K s :=
  aq_scalar _ rfl nofun (fun a w he => by
    simp only [execOp, he _ _ hx, he _ _ hy, eqGuard_at_string, binOp, Op.stringOp, size_mk, append_mk, IntKind.max_i64]
    rw [if_neg (by omega)]
    simp) h
theorem aq_indexAddr {x y : Operand} {t e : TypeId} {sz : Nat} {agg : Bool} {xs : List AV} {tip : Option Nat} {k : IntKind} {i : Int} {n : Nat} {z : AV} (hx : aeval N s x = .sl sz xs tip) (hy : aeval N s y = .v (.int k i)) (hu : E.P.underlying t = some (.slice e)) (ht : tyOf E.P e = some (sz, agg)) (hi : i = n) (hz : xs[n]? = some z)
    (h : AQ E N ops rest K (s.put d (.pp z.cells))) : AQ E N ops (⟨d, .indexAddr t x y, T, p, af, none⟩ :: rest) K s := by
  refine aq_op rfl nofun fun B0 w0 G a w _ hI => ?_
  subst hi
  have he := hI.eval_of hx
  have hey := hI.evalv hy
  generalize hv : a.eval x = v at he
  have hlt := lt_of_getElem? hz
  cases he with
  | sl0 => simp at hz
  | sl _ _ _ b off cap pub hp hw hlen hrel htip hcap =>
    have hzs : z.cells.length = sz := hw z (List.mem_of_getElem? hz)
    have hfl := flat_length hw
    have hle : (n + 1) * sz ≤ xs.length * sz := Nat.mul_le_mul_right _ hlt
    rw [Nat.succ_mul] at hle
    refine ⟨.pointer (some ⟨b, off + n * sz, none⟩), .pp z.cells, fun w' _ => ?_, ?_, h⟩
    · generalize a.eval = ρ at hv hey
      simp only [execOp, hv, hey]
      simp [Instr.indexAt, asIntOf, run_underlying hu, hlt, (tyOf_info ht w').1, Addr.add_lit]
    · refine .pp _ b _ pub hp (by omega) fun j q r h1 h2 => ?_
      have hj : j < sz := by have := lt_of_getElem? h1; omega
      have hf := flat_get hw hz j hj
      exact hrel (n * sz + j) q r (by rw [hf]; exact h1) (by rw [← h2]; congr 1; omega)
theorem aq_indexAddr_os {x y : Operand} {t e : TypeId} {sz : Nat} {agg : Bool} {o ver off len cp : Nat} {k : IntKind} {i : Int} {n : Nat} (hx : aeval N s x = .os o ver off len cp) (hy : aeval N s y = .v (.int k i)) (hu : E.P.underlying t = some (.slice e)) (ht : tyOf E.P e = some (sz, agg)) (hi : i = n) (hn : n < len)
    (h : AQ E N ops rest K (s.put d (.bx o ver (off + n * sz)))) : AQ E N ops (⟨d, .indexAddr t x y, T, p, af, none⟩ :: rest) K s := by
  refine aq_op rfl nofun fun B0 w0 G a w _ hI => ?_
  subst hi
  have he := hI.eval_of hx
  have hey := hI.evalv hy
  generalize hv : a.eval x = v at he
  cases he with
  | os _ _ _ _ b cap hn' hver hb =>
    refine ⟨.pointer (some ⟨b, off + n * sz, none⟩), _, fun w' _ => ?_, .bx o ver _ b hn' hver hb, h⟩
    generalize a.eval = ρ at hv hey
    simp only [execOp, hv, hey]
    simp [Instr.indexAt, asIntOf, run_underlying hu, hn, (tyOf_info ht w').1, Addr.add_lit]
theorem aq_load_pp {x : Operand} {t : TypeId} {sz : Nat} {agg : Bool} {cs : List AV} {r : AV} (hx : aeval N s x = .pp cs) (ht : tyOf E.P t = some (sz, agg)) (hr : aloadC sz agg 0 cs = some r)
    (h : AQ E N ops rest K (s.put d r)) : AQ E N ops (⟨d, .load t x, T, p, af, none⟩ :: rest) K s := by
  refine aq_op rfl nofun fun B0 w0 G a w _ hI => ?_
  have he := hI.eval_of hx
  generalize hv : a.eval x = v at he
  cases he with
  | pp _ b off pub hp hlen hrel =>
    obtain ⟨c, T', fz, hc, hcc⟩ := hI.agree.pub b pub hp
    have hlt : b < w.heap.size := hI.agree.pub_lt hp
    have key : ∀ w', Below w.heap.size w w' → ∃ v, (loadVar t ⟨b, off, none⟩).run E.P w' = .ok v w' ∧ Rel G r v := fun w' hw' => by
      have h4' : w'.heap[b]? = some (.cells c T' fz) := by rw [hw'.block _ hlt]; exact hc
      exact run_loadVar_of (w := w') (G := G) (b := b) (off := off) ht (fun i x hx _ => by
        have hi := lt_of_getElem? hx
        have hy : pub[off + i]? = some (pub[off + i]'(by omega)) := List.getElem?_eq_getElem (by omega)
        refine ⟨_, ?_, hrel i x _ hx hy⟩
        simp [World.cell?, h4', hcc _ _ hy]) hr
    have hg : ∀ w', Below w.heap.size w w' → ∀ j, j < cs.length → w'.cell? ⟨b, off + j, none⟩ = some (pub.getD (off + j) undef) := fun w' hw' j hj => by
      have h4' : w'.heap[b]? = some (.cells c T' fz) := by rw [hw'.block _ hlt]; exact hc
      have hlt2 : off + j < pub.length := by omega
      have hy : pub[off + j]? = some (pub.getD (off + j) undef) := by simp [List.getD, hlt2]
      simp [World.cell?, h4', hcc _ _ hy]
    have hsame : ∀ w', Below w.heap.size w w' → ∀ v, (loadVar t ⟨b, off, none⟩).run E.P w = .ok v w → (loadVar t ⟨b, off, none⟩).run E.P w' = .ok v w' := fun w' hw' v hr1 => by
      obtain ⟨i1, i2⟩ := tyOf_info ht w
      obtain ⟨j1, j2⟩ := tyOf_info ht w'
      obtain ⟨v', h1', _⟩ := key w' hw'
      rw [h1']
      congr 1
      cases agg with
      | false =>
        simp only [aloadC, cond_false] at hr
        have h0 := lt_of_getElem? hr
        have e1 := hg w (Below.refl _ _) 0 h0
        have e2 := hg w' hw' 0 h0
        rw [Nat.add_zero] at e1 e2
        simp [loadVar, i2, run_load, e1] at hr1
        simp [loadVar, j2, run_load, e2] at h1'
        rw [← h1', hr1]
      | true =>
        simp only [aloadC, cond_true] at hr
        cases hb2 : Nat.ble (0 + sz) cs.length with
        | false => rw [hb2] at hr; simp at hr
        | true =>
          have hle : 0 + sz ≤ cs.length := Nat.le_of_ble_eq_true hb2
          have l1 := run_loadCells (P := E.P) (w := w) ⟨b, off, none⟩ sz (fun j => pub.getD (off + j) undef) (fun j hj => by rw [Addr.add_lit]; exact hg w (Below.refl _ _) j (by omega))
          have l2 := run_loadCells (P := E.P) (w := w') ⟨b, off, none⟩ sz (fun j => pub.getD (off + j) undef) (fun j hj => by rw [Addr.add_lit]; exact hg w' hw' j (by omega))
          simp [loadVar, i1, i2, l1] at hr1
          simp [loadVar, j1, j2, l2] at h1'
          rw [← h1', hr1]
    obtain ⟨v, hrun, hR⟩ := key w (Below.refl _ _)
    exact ⟨v, r, fun w' hw' => by simp only [execOp, hv, Instr.loadAt, Instr.sureAddr]; simp [hsame w' hw' v hrun], hR, h⟩
end
end Go.Av
set_option linter.unusedVariables false
namespace Go.Av
open Go Go.RowKit
section
variable {B0 : Nat} {w0 : World} {G : Gh} {st : List AObj} {w : World}
theorem Agree.pubOb (h : Agree B0 w0 G st w) {o ver : Nat} {T : TypeId} {cs : List AV} (ho : st[o]? = some (.cells ver T cs)) :
    ∃ vs : List Value, G.le (G.publish (G.ob o).blk vs) ∧ Agree B0 w0 (G.publish (G.ob o).blk vs) (st.set o .dead) w ∧ (G.ob o).ver = ver ∧ (G.publish (G.ob o).blk vs).pub (G.ob o).blk = some vs ∧ cs.length = vs.length ∧
      ∀ (i : Nat) (x : AV) (y : Value), cs[i]? = some x → vs[i]? = some y → Rel (G.publish (G.ob o).blk vs) x y := by
  obtain ⟨h0, h1, h2, h3, c, h4, h5, h6⟩ := h.ob o _ ho
  have hle : G.le (G.publish (G.ob o).blk c.toList) := G.le_publish _ _ [] [] (.inl h3)
  refine ⟨c.toList, hle, ?_, h1, by simp [Gh.publish], by simpa using h5, fun i x y hx hy => (h6 i x y hx (by simpa using hy)).mono hle⟩
  have key : ∀ (k : Nat) (x : AObj), (st.set o .dead)[k]? = some x → x = .dead ∨ (k ≠ o ∧ st[k]? = some x) := fun k x hx => by
    rcases getElem?_set' _ _ _ _ _ hx with ⟨_, e⟩ | e
    · exact .inl e
    · exact .inr e
  refine ⟨h.below, h.hB, by simp [h.n, Gh.publish], fun b vs hb => ?_, fun k x hx => ?_, fun k k' x x' hne hx hx' hl hl' => ?_⟩
  · simp only [Gh.publish] at hb
    by_cases e : b = (G.ob o).blk
    · rw [if_pos e] at hb
      cases hb
      subst e
      exact ⟨c, T, (0, 0), h4, fun i y hy => by simpa using hy⟩
    · rw [if_neg e] at hb
      exact h.pub b vs hb
  · rcases key k x hx with rfl | ⟨hk, hx⟩
    · trivial
    · refine (h.ob k x hx).mono hle rfl (fun hl => ?_) (fun _ => rfl)
      have := h.sep k o x _ hk hx ho hl trivial
      simp [Gh.publish, this]
  · rcases key k x hx with rfl | ⟨hk, hx⟩
    · exact hl.elim
    · rcases key k' x' hx' with rfl | ⟨hk', hx'⟩
      · exact hl'.elim
      · exact h.sep k k' x x' hne hx hx' hl hl'
end
section
variable {E : Env} {rd : Option Nat} {N : Nat} {ops : Array Oper} {K : AS → Prop} {s : AS} {rest : List Oper} {d : Option Tmp} {T : TypeId} {p : String} {af : Array Edge}
theorem Inv.pub {B0 : Nat} {w0 : World} {G : Gh} {a : Act} {w : World} (h : Inv B0 w0 N G s a w) {i o ver : Nat} {T' : TypeId} {cs : List AV} (hi : s.t i = .bx o ver 0) (ho : s.st[o]? = some (.cells ver T' cs)) :
    ∃ G', G.le G' ∧ Inv B0 w0 N G' ⟨Av.put s.t i (.pp cs), s.st.set o .dead, s.df⟩ a w := by
  obtain ⟨vs, hle, hA, hv, hp, hl, hr⟩ := h.agree.pubOb ho
  refine ⟨_, hle, hA, h.defers_mono hle, h.size, fun j y hy => ?_⟩
  have hj := h.tmps j y hy
  by_cases e : j = i
  · subst e
    simp only [put_same]
    rw [hi] at hj
    cases hj with
    | bx _ _ _ b hn hv' hb =>
      have hb := hb hv
      subst hb
      exact .pp cs _ 0 vs hp (by omega) fun k x y hx hy => hr k x y hx (by simpa using hy)
  · simp only
    rw [put_ne _ _ _ _ e]
    exact hj.mono hle
end
theorem snoc_len {α : Type} (l : List α) (a : α) : (l ++ [a]).length = l.length + 1 := by simp
theorem iv_snoc {α : Type} (l : List α) (a : α) : Iv ((l.length : Int) + 1) = Iv ((l ++ [a]).length : Nat) := by rw [snoc_len]; rfl
theorem sl_snoc1 {α : Type} {sz : Nat} {tip : Option Nat} (x0 : AV) (g : α → AV) (pre : List α) (a : α) (v : AV) (h : v = g a) : AV.sl sz ((x0 :: pre.map g) ++ [v]) tip = AV.sl sz (x0 :: (pre ++ [a]).map g) tip := by rw [List.map_append, h]; rfl
theorem aops_allocN {E : Env} {rd : Option Nat} {N : Nat} {ops : Array Oper} {K : AS → Prop} {s : AS} {rest : List Oper} {d : Option Tmp} {T : TypeId} {p : String} {af : Array Edge} {t : TypeId} {st loc : List AObj} {cs : List AV} {n : Nat} (hst : s.st = st ++ loc) (hn : st.length = n) (hz : zeroA E.P t = some cs)
    (h : AOps E rd N ops rest K (AS.put ⟨s.t, st ++ (loc ++ [.cells 0 t cs]), s.df⟩ d (.bx (n + loc.length) 0 0))) : AOps E rd N ops (⟨d, .alloc t, T, p, af, none⟩ :: rest) K s := by
  subst hn
  exact aops_alloc hst hz h
theorem awp_loopL {E : Env} {rd : Option Nat} {N : Nat} {c : Code} {Q : Exit → AS → Prop} {s : AS} {α : Type} (xs : List α) (I : List α → AS → Prop) (h0 : I [] s) (hend : ∀ s, I xs s → AWp E rd N c (thenA (fun _ => False) Q) s)
    (hstep : ∀ pre a rest s, xs = pre ++ a :: rest → I pre s → AWp E rd N c (thenA (fun s' => I (pre ++ [a]) s') Q) s) : AWp E rd N (.loop c) Q s := by
  refine awp_loopG (fun (x : List α × List α) s => xs = x.1 ++ x.2 ∧ I x.1 s) (fun x => x.2.length) ([], xs) ⟨rfl, h0⟩ ?_
  rintro ⟨pre, rest⟩ s ⟨hx, hi⟩
  cases rest with
  | nil =>
    simp only [List.append_nil] at hx
    subst hx
    refine (hend s hi).mono fun e s' h => ?_
    cases e with
    | normal => exact h.elim
    | _ => exact h
  | cons a rest =>
    refine (hstep pre a rest s hx hi).mono fun e s' h => ?_
    cases e with
    | normal => exact ⟨(pre ++ [a], rest), ⟨by rw [hx]; simp, h⟩, by simp⟩
    | _ => exact h
theorem aret_mark_mid {E : Env} {fn : Func} {R : AV → List AObj → Prop} {s : AS} {st loc ext new : List AObj} {k : Nat} {ds : List Nat} (hs : s.st = ((st ++ loc) ++ ext) ++ new) (hd : s.df = (st.length + k) :: ds) (ho : loc[k]? = some .dfr) (h : ARet E fn R ⟨s.t, ((st ++ loc.set k .dead) ++ ext) ++ new, ds⟩) : ARet E fn R s :=
  aret_mark hd (by rw [hs]; exact get_mid ho) (by rw [hs, set_mid _ (lt_of_getElem? ho)]; exact h)
@[reducible] def roundG (F : LoopState → Option Code → AObj) (st : List AObj) (own : AObj) (I : List AObj → Prop) (D : Code → List AObj → Prop) : Exit → AS → Prop
  | .normal, s => ∃ l ext new, s.st = ((st ++ (l ++ [.dfr, F .busy none, own])) ++ ext) ++ new ∧ I l
  | .ret, s => ∃ l ext new, s.st = ((st ++ (l ++ [.dfr, F .busy none, own])) ++ ext) ++ new ∧ D .ret l
  | .exit id, s => ∃ l ext new, s.st = ((st ++ (l ++ [.dfr, F .busy none, own])) ++ ext) ++ new ∧ D (.exit id) l
  | _, _ => False
theorem ayield_cast {E : Env} {o : Nat} {xs : List AV} {st st' : List AObj} {R : Bool → List AObj → Prop} (e : st = st') (h : AYield E o xs st R) : AYield E o xs st' R := e ▸ h
theorem get_loopG {st l ext : List AObj} {a b c : AObj} {n : Nat} (hl : l.length = n) : (((st ++ (l ++ [a, b, c])) ++ ext))[st.length + (n + 1)]? = some b := by
  subst hl
  rw [List.append_assoc, List.append_assoc, List.getElem?_append_right (by omega), Nat.add_sub_cancel_left, List.getElem?_append_right (by omega)]
  simp
theorem set_loopG {st l ext : List AObj} {a b c y : AObj} {n : Nat} (hl : l.length = n) : ((st ++ (l ++ [a, b, c])) ++ ext).set (st.length + (n + 1)) y = (st ++ (l ++ [a, y, c])) ++ ext := by
  subst hl
  rw [List.append_assoc, List.append_assoc, List.set_append_right _ _ (by omega), Nat.add_sub_cancel_left, List.set_append_right _ _ (by omega)]
  simp
theorem ayield_G {E : Env} {N : Nat} {t : Nat → AV} {ps : Array Tmp} {asg body : Code} {st l ext : List AObj} {own : AObj} {n : Nat} {xs : List AV} {F : LoopState → Option Code → AObj} {I : List AObj → Prop} {D : Code → List AObj → Prop} (hF : LoopF F N t ps asg body) (hl : l.length = n) (hps : ps.size = xs.length)
    (hI : ∀ l, I l → l.length = n) (hD : ∀ c l, D c l → l.length = n)
    (h : ∀ rd, AWp E (some rd) N asg (only fun s1 => ∃ new, s1.st = ((st ++ (l ++ [.dfr, F .ready none, own])) ++ ext) ++ new ∧ s1.df = [] ∧ AWp E (some rd) N body (roundG F st own I D) ⟨s1.t, ((st ++ (l ++ [.dfr, F .busy none, own])) ++ ext) ++ new, []⟩) ⟨setPs t (ps.toList.zip xs), ((st ++ (l ++ [.dfr, F .ready none, own])) ++ ext) ++ [], []⟩) :
    AYield E (st.length + (n + 1)) xs ((st ++ (l ++ [.dfr, F .ready none, own])) ++ ext) fun b st2 => ∃ l' ext', (b = true → st2 = (st ++ (l' ++ [.dfr, F .ready none, own])) ++ ext' ∧ I l') ∧ (b = false → ∃ c, st2 = (st ++ (l' ++ [.dfr, F .done (some c), own])) ++ ext' ∧ D c l') := by
  refine ayield_F hF (get_loopG hl) hps fun rd => ?_
  have h := h rd
  rw [List.append_nil] at h
  refine h.mono fun e s1 hq => ?_
  cases e with
  | normal =>
    obtain ⟨new, h1, h2, h3⟩ := hq
    refine ⟨by rw [h1, List.append_assoc]; exact get_loopG hl, h2, ?_⟩
    have e : s1.st.set (st.length + (n + 1)) (F .busy none) = ((st ++ (l ++ [.dfr, F .busy none, own])) ++ ext) ++ new := by
      rw [h1, List.append_assoc, set_loopG hl, List.append_assoc _ ext]
    rw [e]
    refine h3.mono fun e s2 hq2 => ?_
    cases e with
    | normal =>
      obtain ⟨l', ext', new', k1, k2⟩ := hq2
      exact ⟨by rw [k1, List.append_assoc]; exact get_loopG (hI _ k2), l', ext' ++ new', fun _ => ⟨by rw [k1, List.append_assoc, set_loopG (hI _ k2)], k2⟩, nofun⟩
    | ret =>
      obtain ⟨l', ext', new', k1, k2⟩ := hq2
      exact ⟨by rw [k1, List.append_assoc]; exact get_loopG (hD _ _ k2), l', ext' ++ new', nofun, fun _ => ⟨_, by rw [k1, List.append_assoc, set_loopG (hD _ _ k2)], k2⟩⟩
    | exit id =>
      obtain ⟨l', ext', new', k1, k2⟩ := hq2
      exact ⟨by rw [k1, List.append_assoc]; exact get_loopG (hD _ _ k2), l', ext' ++ new', nofun, fun _ => ⟨_, by rw [k1, List.append_assoc, set_loopG (hD _ _ k2)], k2⟩⟩
    | _ => exact hq2.elim
  | _ => exact hq.elim
end Go.Av
set_option linter.unusedVariables false
namespace Go.Pl
open Go Go.Proofs
abbrev Fld := Bytes × Bytes
def blankAll (s : Bytes) : Prop := ∀ c ∈ s, isBlank c
instance (s : Bytes) : Decidable (blankAll s) := inferInstanceAs (Decidable (∀ c ∈ s, isBlank c))
def stuffF (s : Bytes) : Bytes := if blankAll s ∨ s.head? = some 46 then 46 :: s else s
def headLine (key p : Bytes) : Bytes := key ++ [58] ++ if p = [] then [] else [32] ++ p
def linesF (f : Fld) : List Bytes := headLine f.1 ((partsOf f.2).headD []) :: (partsOf f.2).tail.map fun s => [32] ++ stuffF s
def textF (ls : List Bytes) : Bytes := ls.flatMap fun s => s ++ [10]
def foldF (xs : List Fld) : Bytes := xs.flatMap fun f => textF (linesF f)
def checkF (f : Fld) : Int := if ¬ keyOk f.1 then 5 else if 1000 < f.2.length then 6 else 0
def goodFld (f : Fld) : Prop := keyOk f.1 ∧ f.2.length ≤ 1000
instance (f : Fld) : Decidable (goodFld f) := inferInstanceAs (Decidable (_ ∧ _))
theorem checkF_good (f : Fld) : checkF f = 0 ↔ goodFld f := by
  unfold checkF goodFld
  by_cases h : keyOk f.1
  · by_cases h2 : 1000 < f.2.length
    · simp [h, h2]
    · simp [h, h2]; omega
  · simp [h]
def trim1 (c : UInt8) (l : Bytes) : Bytes := if l.head? = some c then l.drop 1 else l
def valueU (l : Bytes) (r : List Bytes) : Bytes := trim1 32 (restPart l) ++ r.flatMap fun s => [10] ++ trim1 46 (s.drop 1)
def unfoldOk (ls : List Bytes) : Prop := ls ≠ [] ∧ kindOf (ls.headD []) = 4 ∧ ∀ s ∈ ls.tail, kindOf s = 3
instance (ls : List Bytes) : Decidable (unfoldOk ls) := inferInstanceAs (Decidable (_ ∧ _ ∧ _))
def unfoldF (ls : List Bytes) : Fld × Int :=
  if unfoldOk ls then
    if 1000 < (valueU (ls.headD []) ls.tail).length then (([], []), 6) else ((keyPart (ls.headD []), valueU (ls.headD []) ls.tail), 0)
  else (([], []), 2)
theorem partsOf_ne (l : Bytes) : partsOf l ≠ [] := by
  by_cases h : 10 ∈ l
  · rw [partsOf_mem h]; simp
  · rw [partsOf_not h]; simp
theorem partsOf_eq (l : Bytes) : partsOf l = (partsOf l).headD [] :: (partsOf l).tail := by
  cases h : partsOf l with
  | nil => exact absurd h (partsOf_ne l)
  | cons a r => rfl
theorem parts_join : ∀ (n : Nat) (l : Bytes), l.length ≤ n → (partsOf l).headD [] ++ (partsOf l).tail.flatMap (fun s => [10] ++ s) = l
  | n, l, hn => by
    by_cases h : 10 ∈ l
    · rw [partsOf_mem h]
      have hne : l ≠ [] := fun e => by subst e; simp at h
      have hlt := past_lt (c := 10) hne
      cases n with
      | zero => omega
      | succ n =>
        have ih := parts_join n (past 10 l) (by omega)
        simp only [List.headD_cons, List.tail_cons]
        rw [partsOf_eq (past 10 l)]
        simp only [List.flatMap_cons]
        rw [List.append_assoc, ih]
        have := upto_past h
        simp [← this]
    · rw [partsOf_not h]; simp
theorem parts_no10 (l : Bytes) : ∀ x ∈ partsOf l, 10 ∉ x := fun x hx => (partsOf_piece l.length l (Nat.le_refl _) x hx).2
theorem parts_lenle (l : Bytes) : ∀ x ∈ partsOf l, x.length ≤ l.length := fun x hx => (partsOf_piece l.length l (Nat.le_refl _) x hx).1
theorem head_mem (l : Bytes) : (partsOf l).headD [] ∈ partsOf l := by
  have h := partsOf_ne l
  cases e : partsOf l with
  | nil => exact absurd e h
  | cons a r => simp
theorem stuff_no10 {s : Bytes} (h : 10 ∉ s) : 10 ∉ stuffF s := by
  unfold stuffF
  split
  · simp [h]
  · exact h
theorem stuff_len (s : Bytes) : (stuffF s).length ≤ s.length + 1 := by
  unfold stuffF
  split <;> simp
theorem key_notAllBlank {k : Bytes} (h : keyOk k) : ∃ c, k.head? = some c ∧ ¬ isBlank c ∧ c ≠ 35 := by
  obtain ⟨h1, h2, h3, h4, h5, h6⟩ := h
  cases k with
  | nil => exact absurd rfl h1
  | cons a r => exact ⟨a, rfl, fun hb => h3 ⟨a, rfl, hb⟩, fun e => h4 (by simp [e])⟩
end Go.Pl
set_option linter.unusedVariables false
namespace Go.Av
open Go Go.RowKit
section
variable {E : Env} {rd : Option Nat} {N : Nat} {ops : Array Oper} {K : AS → Prop} {s : AS} {rest : List Oper} {d : Option Tmp} {T : TypeId} {p : String} {af : Array Edge}
theorem aops_buildSliceO {t e : TypeId} {len sz : Nat} {agg : Bool} {parts : Array (Nat × Operand)} {zs cs : List AV} {st loc : List AObj} (hst : s.st = st ++ loc) (hu : E.P.underlying t = some (.slice e)) (ht : tyOf E.P e = some (sz, agg)) (hz : zerosA E.P e len = some zs)
    (hf : fillA (fun i => some (i * sz, sz)) zs (partsA N s parts) = some cs) (hsz : Nat.ble (len * sz) 16777216 = true)
    (h : AOps E rd N ops rest K (AS.put ⟨s.t, st ++ (loc ++ [.cells 0 e cs]), s.df⟩ d (.os (st.length + loc.length) 0 0 len len))) : AOps E rd N ops (⟨d, .buildSlice t len parts, T, p, af, none⟩ :: rest) K s := by
  refine aops_cons rfl (aop_of_run nofun fun B0 w0 G a w _ hI => ?_)
  obtain ⟨c', hrun, h2⟩ := buildSlice_run (d := d) (T := T) (p := p) (af := af) hI hu ht hz hf hsz
  have hA := hI.agree.newCells e c' cs h2.1 h2.2
  have hn := hI.agree.n
  rw [hst] at hA hn
  simp only [List.append_assoc, List.length_append] at hA hn
  exact ⟨_, _, _, _, _, hrun, G.le_new _ _ _ _, hA, .os _ _ _ _ _ _ (by simp [Gh.new, hn]) (Nat.zero_le _) (fun _ => by simp [Gh.new, hn]), h⟩
theorem Agree.ownTip {B0 : Nat} {w0 : World} {G : Gh} {st : List AObj} {w : World} (h : Agree B0 w0 G st w) {o sz len cap : Nat} {T : TypeId} {cs : List AV} {xs : List AV} (ho : st[o]? = some (.cells 0 T cs)) (hc : cs.length = cap * sz) (hlen : xs.length = len) (h0 : 0 < len) (hle : len ≤ cap) (hcm : cap ≤ maxLen) (hw : ∀ x ∈ xs, x.cells.length = sz) (hfl : flat xs = cs.take (len * sz)) :
    ∃ G', G.le G' ∧ Agree B0 w0 G' (st.set o (.tip len sz T)) w ∧ Rel G' (.sl sz xs (some o)) (.slice (some ⟨(G.ob o).blk, 0, none⟩) len cap) := by
  subst hlen
  have hon := lt_of_getElem? ho
  obtain ⟨g0, g1, g2, g3, c, g4, g5, g6⟩ := h.ob o _ ho
  have hle1 : G.le (G.publish (G.ob o).blk (c.toList.take (xs.length * sz))) := G.le_publish _ _ [] [] (.inl g3)
  -- dead, published
  have key : ∀ (k : Nat) (x : AObj), (st.set o .dead)[k]? = some x → x = .dead ∨ (k ≠ o ∧ st[k]? = some x) := fun k x hx => by
    rcases getElem?_set' _ _ _ _ _ hx with ⟨_, e⟩ | e
    · exact .inl e
    · exact .inr e
  have hA1 : Agree B0 w0 (G.publish (G.ob o).blk (c.toList.take (xs.length * sz))) (st.set o .dead) w := by
    refine ⟨h.below, h.hB, by simp [h.n, Gh.publish], fun b vs hb => ?_, fun k x hx => ?_, fun k k' x x' hne hx hx' hl hl' => ?_⟩
    · simp only [Gh.publish] at hb
      by_cases e : b = (G.ob o).blk
      · rw [if_pos e] at hb
        cases hb
        subst e
        refine ⟨c, T, (0, 0), g4, fun i y hy => ?_⟩
        rw [List.getElem?_take] at hy
        split at hy
        · simpa using hy
        · simp at hy
      · rw [if_neg e] at hb
        exact h.pub b vs hb
    · rcases key k x hx with rfl | ⟨hk, hx⟩
      · trivial
      · refine (h.ob k x hx).mono hle1 rfl (fun hl => ?_) (fun _ => rfl)
        have := h.sep k o x _ hk hx ho hl trivial
        simp [Gh.publish, this]
    · rcases key k x hx with rfl | ⟨hk, hx⟩
      · exact hl.elim
      · rcases key k' x' hx' with rfl | ⟨hk', hx'⟩
        · exact hl'.elim
        · exact h.sep k k' x x' hne hx hx' hl hl'
  have hvl : (c.toList.take (xs.length * sz)).length = xs.length * sz := by
    have : xs.length * sz ≤ cap * sz := Nat.mul_le_mul_right _ hle
    simp
    omega
  obtain ⟨hle2, hA2⟩ := hA1.setTip (t := o) (n := 0) (n' := xs.length) (k := (G.ob o).blk) (cap := c.size) (sz := sz) (T := T) (c := c) (vs := c.toList.take (xs.length * sz)) (by simp [hon]) g0 g1 h0 g4 (by simp [Gh.publish]) hvl rfl g2 (fun k x hx hl => by
    rcases key k x hx with rfl | ⟨hk, hx⟩
    · exact hl.elim
    · exact h.sep k o x _ hk hx ho hl trivial)
  rw [List.set_set] at hA2
  refine ⟨_, hle1.trans hle2, hA2, ?_⟩
  have hgn : o < G.n := by rw [h.n]; exact hon
  refine .sl sz xs (some o) (G.ob o).blk 0 cap (c.toList.take (xs.length * sz)) (by simp [Gh.setOb, Gh.publish]) hw (by rw [hfl, hvl]; simp; omega) (fun i x y h1 h2 => ?_) (fun t ht => ?_) (by omega)
  · rw [hfl] at h1
    rw [Nat.zero_add] at h2
    rw [List.getElem?_take] at h1 h2
    split at h1
    · rename_i hi
      rw [if_pos hi] at h2
      exact ((g6 i x y h1 (by simpa using h2)).mono hle1).mono hle2
    · simp at h1
  · simp only [Option.some.injEq] at ht
    subst ht
    refine ⟨by simpa [Gh.setOb, Gh.publish] using hgn, by omega, by simp [Gh.setOb], fun _ => ⟨by simp [Gh.setOb], rfl, by simp [Gh.setOb, ← g5, hc], hcm, by omega⟩⟩
theorem Inv.osTip {B0 : Nat} {w0 : World} {G : Gh} {a : Act} {w : World} (h : Inv B0 w0 N G s a w) {i o sz len cap : Nat} {T' : TypeId} {cs xs : List AV} (hi : s.t i = .os o 0 0 len cap) (ho : s.st[o]? = some (.cells 0 T' cs)) (hc : cs.length = cap * sz) (hlen : xs.length = len) (h0 : 0 < len) (hle : len ≤ cap) (hcm : cap ≤ maxLen) (hw : ∀ x ∈ xs, x.cells.length = sz) (hfl : flat xs = cs.take (len * sz)) :
    ∃ G', G.le G' ∧ Inv B0 w0 N G' ⟨Av.put s.t i (.sl sz xs (some o)), s.st.set o (.tip len sz T'), s.df⟩ a w := by
  obtain ⟨G', hG, hA, hR⟩ := h.agree.ownTip ho hc hlen h0 hle hcm hw hfl
  obtain ⟨_, g1, _⟩ := h.agree.ob o _ ho
  refine ⟨G', hG, hA, h.defers_mono hG, h.size, fun j y hy => ?_⟩
  have hj := h.tmps j y hy
  by_cases e : j = i
  · subst e
    simp only [put_same]
    rw [hi] at hj
    cases hj with
    | os _ _ _ _ b _ hn hv hb =>
      have hb := hb g1
      subst hb
      exact hR
  · simp only
    rw [put_ne _ _ _ _ e]
    exact hj.mono hG
theorem awp_osTip {c : Code} {Q : Exit → AS → Prop} (i : Nat) {o sz len cap : Nat} {T' : TypeId} {cs xs : List AV} (hi : s.t i = .os o 0 0 len cap) (ho : s.st[o]? = some (.cells 0 T' cs)) (hc : cs.length = cap * sz) (hlen : xs.length = len) (h0 : 0 < len) (hle : len ≤ cap) (hcm : cap ≤ maxLen) (hw : ∀ x ∈ xs, x.cells.length = sz) (hfl : flat xs = cs.take (len * sz))
    (h : AWp E rd N c Q ⟨Av.put s.t i (.sl sz xs (some o)), s.st.set o (.tip len sz T'), s.df⟩) : AWp E rd N c Q s :=
  ⟨fun B0 w0 G a w hL hI => let ⟨G1, h1, h2⟩ := hI.osTip hi ho hc hlen h0 hle hcm hw hfl; wpIn_mono (h.run B0 w0 _ a w hL h2) fun _ _ _ ⟨G', s', hG, k1, k2⟩ => ⟨G', s', h1.trans hG, k1, k2⟩⟩
theorem run_sliceL {P : Program} {t e : TypeId} {sz : Nat} {agg : Bool} (hu : P.underlying t = some (.slice e)) (ht : tyOf P e = some (sz, agg)) (a : Option Addr) (len cap : Nat) (lo hi : Option Value) (i j : Nat) (w : World)
    (hlo : match lo with | none => i = 0 | some v => ∃ k, v = .int k (i : Int)) (hhi : match hi with | none => j = len | some v => (∃ k, v = .int k (j : Int)) ∧ j ≤ cap) (h1 : i ≤ j) :
    (Instr.slice t (.slice a len cap) lo hi none).run P w = .ok (.slice (if cap = i then a else a.map (·.add (i * sz))) (j - i) (cap - i)) w := by
  have hs := (tyOf_info ht w).1
  cases lo with
  | none =>
    simp only at hlo
    subst hlo
    cases hi with
    | none =>
      simp only at hhi
      subst hhi
      simp [Instr.slice, run_underlying hu, Instr.sliceBounds, hs]
    | some v =>
      obtain ⟨⟨k, rfl⟩, h2⟩ := hhi
      simp [Instr.slice, run_underlying hu, Instr.sliceBounds, Instr.sliceBound, asIntOf, hs, h2]
  | some u =>
    obtain ⟨k', rfl⟩ := hlo
    cases hi with
    | none =>
      simp only at hhi
      subst hhi
      simp [Instr.slice, run_underlying hu, Instr.sliceBounds, Instr.sliceBound, asIntOf, hs, h1]
    | some v =>
      obtain ⟨⟨k, rfl⟩, h2⟩ := hhi
      simp [Instr.slice, run_underlying hu, Instr.sliceBounds, Instr.sliceBound, asIntOf, hs, h1, h2]
theorem rel_sliceL {G : Gh} {sz : Nat} {xs : List AV} {tip : Option Nat} {a : Option Addr} {len cap : Nat} (h : Rel G (.sl sz xs tip) (.slice a len cap)) {i j : Nat} (h1 : i ≤ j) (h2 : j ≤ xs.length) :
    len = xs.length ∧ len ≤ cap ∧ Rel G (.sl sz ((xs.take j).drop i) none) (.slice (if cap = i then a else a.map (·.add (i * sz))) (j - i) (cap - i)) := by
  cases h with
  | sl0 =>
    simp at h2
    subst h2
    have : i = 0 := by omega
    subst this
    refine ⟨rfl, Nat.zero_le _, ?_⟩
    simp
    exact .sl0 sz none _ _ (by simp)
  | sl _ _ _ b off cap pub hp hw hlen hr ht hcap =>
    refine ⟨rfl, hcap, ?_⟩
    have hl : ((xs.take j).drop i).length = j - i := by simp; omega
    by_cases hji : j = i
    · subst hji
      have e : (xs.take j).drop j = [] := List.length_eq_zero_iff.1 (by rw [hl]; omega)
      rw [e, Nat.sub_self]
      exact .sl0 sz none _ _ (by simp)
    · have hne : cap ≠ i := by omega
      rw [if_neg hne]
      simp only [Option.map_some]
      have hadd : Addr.add ⟨b, off, none⟩ (i * sz) = ⟨b, off + i * sz, none⟩ := Addr.add_lit ..
      rw [hadd, ← hl]
      have hw' : ∀ x ∈ (xs.take j).drop i, x.cells.length = sz := fun x hx => hw x (List.mem_of_mem_take (List.mem_of_mem_drop hx))
      have hfx : (flat xs).length = xs.length * sz := flat_length hw
      have hsplit : flat xs = flat (xs.take i) ++ flat ((xs.take j).drop i) ++ flat (xs.drop j) := by
        have e : xs.take i ++ (xs.take j).drop i = xs.take j := by
          conv => rhs; rw [← List.take_append_drop i (xs.take j), List.take_take, Nat.min_eq_left h1]
        rw [← flat_append, ← flat_append, e, List.take_append_drop]
      have hti : (flat (xs.take i)).length = i * sz := by
        rw [flat_length (fun x hx => hw x (List.mem_of_mem_take hx)), List.length_take, Nat.min_eq_left (by omega)]
      have hmid : (flat ((xs.take j).drop i)).length = (j - i) * sz := by rw [flat_length hw', hl]
      refine .sl sz _ none b (off + i * sz) (cap - i) pub hp hw' ?_ (fun k x y hx hy => ?_) (fun t ht => by simp at ht) (by rw [hl]; omega)
      · have := congrArg List.length hsplit
        simp only [List.length_append] at this
        omega
      · refine hr (i * sz + k) x y ?_ (by rw [← hy]; congr 1; omega)
        have hk := lt_of_getElem? hx
        rw [hsplit, List.append_assoc, List.getElem?_append_right (by omega), hti, Nat.add_sub_cancel_left, List.getElem?_append_left hk]
        exact hx
theorem aops_sliceL {x : Operand} {t e : TypeId} {lo hi : Option Operand} {sz : Nat} {agg : Bool} {xs ys : List AV} {tip : Option Nat} {i j : Nat} (hx : aeval N s x = .sl sz xs tip) (hu : E.P.underlying t = some (.slice e)) (ht : tyOf E.P e = some (sz, agg))
    (hlo : match lo with | none => i = 0 | some y => ∃ k, aeval N s y = .v (.int k (i : Int))) (hhi : match hi with | none => j = xs.length | some y => ∃ k, aeval N s y = .v (.int k (j : Int))) (h1 : i ≤ j) (h2 : j ≤ xs.length) (hy : (xs.take j).drop i = ys)
    (h : AOps E rd N ops rest K (s.put d (.sl sz ys none))) : AOps E rd N ops (⟨d, .slice t x lo hi none, T, p, af, none⟩ :: rest) K s := by
  subst hy
  refine aops_cons rfl (aop_of_run nofun fun B0 w0 G a w _ hI => ?_)
  have he := hI.eval_of hx
  generalize hv : a.eval x = v at he
  have hsl : ∃ b len cap, v = .slice b len cap := by cases he <;> exact ⟨_, _, _, rfl⟩
  obtain ⟨b, len, cap, rfl⟩ := hsl
  obtain ⟨hl, hlc, hr⟩ := rel_sliceL he h1 h2
  refine ⟨_, w, G, _, s.st, ?_, .refl G, hI.agree, hr, h⟩
  have hrun := run_sliceL hu ht b len cap (lo.map a.eval) (hi.map a.eval) i j w (by
    cases lo with
    | none => exact hlo
    | some y => obtain ⟨k, hy⟩ := hlo; exact ⟨k, hI.evalv hy⟩) (by
    cases hi with
    | none => simp only at hhi; simp only [Option.map_none]; omega
    | some y => obtain ⟨k, hy⟩ := hhi; exact ⟨⟨k, hI.evalv hy⟩, by omega⟩) h1
  generalize a.eval = ρ at hv hrun
  simp only [execOp, hv]
  simp [Instr.sliceAt, run_underlying hu, hrun]
theorem aops_sliceFrom {x y : Operand} {t e : TypeId} {sz : Nat} {agg : Bool} {xs ys : List AV} {tip : Option Nat} {k : IntKind} {i : Nat} (hx : aeval N s x = .sl sz xs tip) (hy : aeval N s y = .v (.int k (i : Int))) (hu : E.P.underlying t = some (.slice e)) (ht : tyOf E.P e = some (sz, agg)) (h1 : i ≤ xs.length) (hz : xs.drop i = ys)
    (h : AOps E rd N ops rest K (s.put d (.sl sz ys none))) : AOps E rd N ops (⟨d, .slice t x (some y) none none, T, p, af, none⟩ :: rest) K s :=
  aops_sliceL (i := i) (j := xs.length) hx hu ht ⟨k, hy⟩ rfl h1 (Nat.le_refl _) (by rw [List.take_length]; exact hz) h
end
end Go.Av
set_option linter.unusedVariables false
namespace Go.Av
open Go Go.RowKit
structure Chg (N : Nat) (s s' : AS) : Prop where
  run : ∀ (B0 : Nat) (w0 : World) (G : Gh) (a : Act) (w : World), Inv B0 w0 N G s a w → ∃ G', G.le G' ∧ Inv B0 w0 N G' s' a w
theorem Chg.trans {N : Nat} {s s' s'' : AS} (h : Chg N s s') (k : Chg N s' s'') : Chg N s s'' := ⟨fun B0 w0 G a w hI => let ⟨G1, h1, h2⟩ := h.run B0 w0 G a w hI; let ⟨G2, k1, k2⟩ := k.run B0 w0 G1 a w h2; ⟨G2, h1.trans k1, k2⟩⟩
end Go.Av
set_option linter.unusedVariables false
set_option maxRecDepth 100000
namespace Go.Proofs.YtplagcbifecagaaGreatDoor
open Go Go.Av Go.RowKit Go.Proofs Go.Pl
theorem split1g_c (text : List UInt8) (o kb ver n : Nat) (I : Nat → List UInt8 → List AObj → Prop) (D : List AObj → Prop) (st l0 : List AObj) (ht : text.length < 4294967281) (h0 : I 0 text l0)
    (hI : ∀ k rest l, I k rest l → l.length = n ∧ (st ++ l)[kb]? = some (.cells ver 9 [Sv text]))
    (hY : ∀ k rest l own ext, I k rest l → rest ≠ [] → rest.length ≤ text.length → AYield E o [lineA k text rest] (st ++ (l ++ own :: ext)) fun b st2 => ∃ l' ext', st2 = st ++ (l' ++ own :: ext') ∧ (b = true → I (k + 1) (past 10 rest) l') ∧ (b = false → D l' ∧ l'.length = n)) :
    ACall E 85 [.yd o, .bx kb ver 0] (st ++ l0) fun r st' => ∃ l own ext', st' = st ++ (l ++ own :: ext') ∧ ((∃ k, I k [] l) ∨ D l) := by
  refine acall_of_awp Tryz.func85 rfl (Nat.le_of_ble_eq_true rfl) ?_
  obtain ⟨hn, hb⟩ := hI 0 text l0 h0
  repeat' (first
    | apply awp_seq
    | apply awp_block
    | apply awp_region
    | apply aops_nil
    | apply aops_assign
    | (apply aops_alloc; exact rfl; exact rfl)
    | (apply aops_store_loc; exact rfl; exact rfl; exact rfl; exact rfl; exact rfl; exact rfl; exact rfl; exact rfl; exact rfl; exact rfl; exact rfl)
    | (apply aops_build; exact rfl; exact rfl; exact rfl)
    | (apply aops_load_low; exact rfl; exact rfl; exact hb; exact rfl; exact rfl))
  refine awp_loopG (fun (x : Nat × List UInt8) s => match x with | (k, rest) => ∃ l at' ta eb ext, I k rest l ∧ k + rest.length ≤ text.length ∧ at' = (text.length : Int) - rest.length ∧ StA [(0, .yd o), (1, .bx kb ver 0), (3, .bx ((st ++ l0).length + 0) 0 0), (4, Sv rest)] ((st ++ l) ++ (.cells 0 102 [Iv k, Iv at', Sv ta, Bv eb] :: ext)) [] s) (fun x => x.2.length) (0, text)
    ⟨l0, 0, [], false, [], h0, by simp, by simp, ?_⟩ ?_
  · exact stA_mk ⟨rfl, rfl, rfl, rfl, trivial⟩
  rintro ⟨k, rest⟩ _ ⟨l, _, ta, eb, ext, hi, hle, rfl, t, rfl⟩
  obtain ⟨hn', hb'⟩ := hI k rest l hi
  have hq : (st ++ l).length = (st ++ l0).length := by simp [hn, hn']
  repeat' (first
    | apply awp_seq
    | apply awp_block
    | apply awp_region
    | apply aops_nil
    | apply aops_move
    | apply aops_assign
    | (apply aops_extract; exact rfl; exact rfl)
    | (apply aops_cmpS; exact rfl; exact rfl; exact rfl)
    | (apply awp_cond_any; exact rfl; first | (apply cd_dt; (first | assumption | omega)) | (apply cd_df; (first | assumption | omega)) | (apply cd_nt; (first | exact rfl | assumption)) | (apply cd_nf; (first | exact rfl | assumption)) | (apply cd_n <;> intro h) | (apply cd_t; (first | exact rfl | assumption)) | (apply cd_f; (first | exact rfl | assumption)) | (apply cd_d <;> intro h) | (apply cd_s <;> intro h))
    | (apply aops_fieldAddr_bx; exact rfl; exact rfl; exact rfl)
    | apply awp_skip
    | apply awp_exit
    | (apply aops_call1; exact Tryz.call31; exact cut1_c _ _ _ (by omega))
    | (apply aops_store_locn; exact rfl; exact hq; exact rfl; exact rfl; exact rfl; exact rfl; exact rfl; exact rfl; exact rfl; exact rfl; exact rfl; exact rfl)
    | (apply aops_load_locn; exact rfl; exact hq; exact rfl; exact rfl; exact rfl; exact rfl))
  · refine aops_callYield rfl (ayield_cast (List.append_assoc st l (_ :: ext)).symm ((hY k rest l _ ext hi h (by omega)).mono ?_))
    rintro b _ ⟨l', ext', rfl, h1, h2⟩
    cases b
    · skip
      rw [← List.append_assoc]
      repeat' (first
        | apply aops_nil
        | (apply aops_not; exact rfl)
        | (apply awp_cond_any; exact rfl; first | (apply cd_dt; (first | assumption | omega)) | (apply cd_df; (first | assumption | omega)) | (apply cd_nt; (first | exact rfl | assumption)) | (apply cd_nf; (first | exact rfl | assumption)) | (apply cd_n <;> intro h) | (apply cd_t; (first | exact rfl | assumption)) | (apply cd_f; (first | exact rfl | assumption)) | (apply cd_d <;> intro h) | (apply cd_s <;> intro h))
        | apply awp_ret)
      refine aret_plain rfl (ares_zero rfl) ⟨l', _, ext', List.append_assoc _ _ _, .inr (h2 rfl).1⟩
    · have hi3 := h1 rfl
      obtain ⟨hn3, hb3⟩ := hI _ _ _ hi3
      have hp := past_length 10 rest
      have hr0 : 0 < rest.length := List.length_pos_iff.2 h
      have hq3 : (st ++ l').length = (st ++ l0).length := by simp [hn, hn3]
      rw [← List.append_assoc]
      repeat' (first
        | apply awp_seq
        | apply awp_region
        | apply aops_nil
        | apply aops_move
        | (apply aops_not; exact rfl)
        | (apply awp_cond_any; exact rfl; first | (apply cd_dt; (first | assumption | omega)) | (apply cd_df; (first | assumption | omega)) | (apply cd_nt; (first | exact rfl | assumption)) | (apply cd_nf; (first | exact rfl | assumption)) | (apply cd_n <;> intro h) | (apply cd_t; (first | exact rfl | assumption)) | (apply cd_f; (first | exact rfl | assumption)) | (apply cd_d <;> intro h) | (apply cd_s <;> intro h))
        | (apply aops_lenS; exact rfl; exact rfl; exact rfl)
        | (apply aops_add; exact rfl; exact rfl; exact wrap_i64 (by omega) (by omega))
        | (apply aops_sub; exact rfl; exact rfl; exact wrap_i64 (by omega) (by omega))
        | (apply aops_fieldAddr_bx; exact rfl; exact rfl; exact rfl)
        | apply awp_skip
        | (apply aops_load_low; exact rfl; exact rfl; exact hb3; exact rfl; exact rfl)
        | (apply aops_store_locn; exact rfl; exact hq3; exact rfl; exact rfl; exact rfl; exact rfl; exact rfl; exact rfl; exact rfl; exact rfl; exact rfl; exact rfl)
        | (apply aops_load_locn; exact rfl; exact hq3; exact rfl; exact rfl; exact rfl; exact rfl))
      exact ⟨(k + 1, past 10 rest), ⟨l', _, _, _, _, hi3, by omega, rfl, stA_mk ⟨rfl, rfl, rfl, rfl, trivial⟩⟩, by simp only; omega⟩
  · have hr : rest = [] := Classical.not_not.1 h
    subst hr
    exact aret_plain rfl (ares_zero rfl) ⟨l, _, ext, List.append_assoc _ _ _, .inl ⟨k, hi⟩⟩
theorem awp_rangeSplit {N : Nat} {Q : Exit → AS → Prop} {s : AS} {f : Operand} {p : Tmp} {asg body : Code} {st loc : List AObj} {kb ver : Nat} (text : List UInt8) (hst : s.st = st ++ loc) (hx : aeval N s f = .fn (.func 85) [] [.bx (st.length + kb) ver 0]) (ht : text.length < 4294967281)
    (I : Nat → List UInt8 → List AObj → Prop) (D : Code → List AObj → Prop) (h0 : I 0 text loc)
    (hI : ∀ k rest l, I k rest l → l.length = loc.length ∧ l[kb]? = some (.cells ver 9 [Sv text])) (hD : ∀ c l, D c l → l.length = loc.length)
    (hb : ∀ F own rd k rest l ext m, LoopF F N s.t #[p] asg body → I k rest l → rest ≠ [] → rest.length ≤ text.length → ((st ++ (l ++ [.dfr, F .ready none, own])) ++ ext).length = m → ((st ++ (l ++ [.dfr, F .busy none, own])) ++ ext).length = m →
      AWp E (some rd) N asg (only fun s1 => ∃ new, s1.st = ((st ++ (l ++ [.dfr, F .ready none, own])) ++ ext) ++ new ∧ s1.df = [] ∧ AWp E (some rd) N body (roundG F st own (I (k + 1) (past 10 rest)) D) ⟨s1.t, ((st ++ (l ++ [.dfr, F .busy none, own])) ++ ext) ++ new, []⟩) ⟨put s.t p (lineA k text rest), ((st ++ (l ++ [.dfr, F .ready none, own])) ++ ext) ++ [], []⟩)
    (hn : ∀ k l ext, I k [] l → Q .normal ⟨s.t, ((st ++ (l ++ [.dfr, .dead])) ++ ext) ++ [], (st.length + loc.length) :: s.df⟩)
    (hd : ∀ c l ext, D c l → AWp E none N c Q ⟨s.t, ((st ++ (l ++ [.dfr, .dead])) ++ ext) ++ [], (st.length + loc.length) :: s.df⟩) : AWp E none N (.rangeFunc f #[p] asg body) Q s := by
  refine awp_rangeF hst hx Tryz.call85 fun F hF => ?_
  refine ACall.mono (split1g_c text (st.length + (loc.length + 1)) (st.length + kb) ver (loc.length + 2) (fun k rest l => ∃ l1, l = l1 ++ [.dfr, F .ready none] ∧ I k rest l1) (fun l => ∃ l1 c, l = l1 ++ [.dfr, F .done (some c)] ∧ D c l1) st (loc ++ [.dfr, F .ready none]) ht ⟨loc, rfl, h0⟩ ?_ ?_) ?_
  · rintro k rest _ ⟨l, rfl, hi⟩
    obtain ⟨h1, h2⟩ := hI k rest l hi
    exact ⟨by simp [h1], get_loc (by rw [List.getElem?_append_left (lt_of_getElem? h2)]; exact h2)⟩
  · rintro k rest _ own ext ⟨l, rfl, hi⟩ hne hle
    obtain ⟨h1, h2⟩ := hI k rest l hi
    have hy := ayield_G (E := E) (st := st) (l := l) (ext := ext) (own := own) (n := loc.length) (xs := [lineA k text rest]) (I := I (k + 1) (past 10 rest)) (D := D) hF h1 rfl (fun l hl => (hI _ _ l hl).1) hD (fun rd => hb F own rd k rest l ext _ hF hi hne hle rfl (by simp))
    have e : (st ++ (l ++ [.dfr, F .ready none, own])) ++ ext = st ++ ((l ++ [.dfr, F .ready none]) ++ own :: ext) := by simp
    rw [e] at hy
    refine hy.mono ?_
    rintro b st2 ⟨l', ext', g1, g2⟩
    cases b with
    | true =>
      obtain ⟨rfl, g⟩ := g1 rfl
      exact ⟨l' ++ [.dfr, F .ready none], ext', by simp, fun _ => ⟨l', rfl, g⟩, nofun⟩
    | false =>
      obtain ⟨c, rfl, g⟩ := g2 rfl
      exact ⟨l' ++ [.dfr, F .done (some c)], ext', by simp, nofun, fun _ => ⟨⟨l', c, rfl, g⟩, by simp [hD c l' g]⟩⟩
  · rintro r _ ⟨_, own, ext, rfl, ⟨k, l, rfl, hi⟩ | ⟨l, c, rfl, hdl⟩⟩
    · have h1 := (hI _ _ _ hi).1
      have e : st ++ ((l ++ [.dfr, F .ready none]) ++ own :: ext) = (st ++ (l ++ [.dfr, F .ready none, own])) ++ ext := by simp
      rw [e]
      refine ⟨.ready, none, nofun, get_loopG h1, ?_⟩
      rw [set_loopG h1]
      have := hn k l (own :: ext) hi
      simpa using this
    · have h1 := hD _ _ hdl
      have e : st ++ ((l ++ [.dfr, F .done (some c)]) ++ own :: ext) = (st ++ (l ++ [.dfr, F .done (some c), own])) ++ ext := by simp
      rw [e]
      refine ⟨.done, some c, nofun, get_loopG h1, ?_⟩
      rw [set_loopG h1]
      have := hd c l (own :: ext) hdl
      simpa using this
end Go.Proofs.YtplagcbifecagaaGreatDoor
set_option linter.unusedVariables false
set_option maxRecDepth 100000
namespace Go.Proofs.YtplagcbifecagaaGreatDoor
open Go Go.Av Go.RowKit Go.Proofs Go.Pl
abbrev Ss (xs : List Bytes) : AV := .sl 1 (xs.map fun x => Sv x) none
theorem strs_cells {B0 : Nat} {w0 : World} {G : Gh} {st : List AObj} {w : World} (hA : Agree B0 w0 G st w) {xs : List Bytes} {tip : Option Nat} {v : Value} (h : Rel G (.sl 1 (xs.map fun x => Sv x) tip) v) :
    (xs = [] ∧ ∃ a c, v = .slice a 0 c) ∨ ∃ b off cap, v = .slice (some ⟨b, off, none⟩) xs.length cap ∧ b < w.heap.size ∧ xs.length ≤ cap ∧ ∀ (j : Nat) (x : Bytes), xs[j]? = some x → w.cell? ⟨b, off + j, none⟩ = some (.string ⟨x.toArray⟩) := by
  generalize hq : xs.map (fun x => Sv x) = q at h
  cases h with
  | sl0 sz tip base cap ht => exact .inl ⟨by simpa using hq, base, cap, rfl⟩
  | sl _ _ _ b off cap pub hp hw hlen hr ht hcap =>
    subst hq
    obtain ⟨c, T, fz, hc, hcc⟩ := hA.pub b pub hp
    refine .inr ⟨b, off, cap, by simp, hA.pub_lt hp, by simpa using hcap, fun j x hx => ?_⟩
    have hfl : flat (xs.map fun x => Sv x) = xs.map fun x => Sv x := by
      clear hx hr hlen hw ht hcap
      induction xs with
      | nil => rfl
      | cons a xs ih => rw [List.map_cons, flat_cons, ih]; rfl
    have hj := lt_of_getElem? hx
    rw [hfl] at hlen
    simp only [List.length_map] at hlen
    have hy : pub[off + j]? = some (pub[off + j]'(by omega)) := List.getElem?_eq_getElem (by omega)
    have hrj := hr j (Sv x) _ (by rw [hfl, List.getElem?_map, hx]; rfl) hy
    generalize hz : pub[off + j]'(by omega) = z at hrj hy
    generalize hSx : Sv x = sx at hrj
    cases hrj <;> simp_all
    subst_vars
    simp [World.cell?, hc, hcc _ _ hy]
theorem join_c (xs : List Bytes) (tip : Option Nat) (sep : Bytes) (st : List AObj) (hN : xs.length ≤ 140737488355328) (hl : (Lib.join xs sep).length ≤ 140737488355328) : ACall E 80 [.sl 1 (xs.map fun x => Sv x) tip, Sv sep] st fun r st' => r = Sv (Lib.join xs sep) ∧ st' = st := by
  refine ⟨fun B0 w0 G vs w hL hA hR => ?_⟩
  have hs : vs.size = 2 := by have := hR.1; simpa using this.symm
  have e0 : vs[0]? = some vs[0] := by simp [hs]
  have e1 : vs[1]? = some vs[1] := by simp [hs]
  have h0 := hR.2 0 _ _ rfl e0
  have h1 := hR.2 1 _ _ rfl e1
  have hv1 : vs[1] = .string ⟨sep.toArray⟩ := by generalize vs[1] = y at h1; cases h1; rfl
  have hvs : vs = #[vs[0], .string ⟨sep.toArray⟩] := by
    apply Array.ext (by simp [hs])
    intro i g1 g2
    match i with
    | 0 => rfl
    | 1 => exact hv1
    | i + 2 => simp [hs] at g1; omega
  rw [hvs]
  rcases strs_cells hA h0 with ⟨hx, a, c, hv⟩ | ⟨b, off, cap, hv, hb, hcap, hcell⟩
  · rw [hv]
    subst hx
    refine (Tryz.strings_Join_none a c ⟨sep.toArray⟩ w).mono ?_
    rintro e w' ⟨rfl, rfl⟩
    exact ⟨_, G, Sv [], st, rfl, .refl G, hA, .v _, rfl, rfl⟩
  · rw [hv]
    have hm : (xs.map fun l : Bytes => (⟨l.toArray⟩ : ByteArray)).map (·.data.toList) = xs := by simp [List.map_map, Function.comp_def]
    have hc := Tryz.strings_Join b off cap (xs.map fun l => ⟨l.toArray⟩) ⟨sep.toArray⟩ w (fun j x hx => by
      rw [List.getElem?_map] at hx
      cases hq : xs[j]? with
      | none => rw [hq] at hx; simp at hx
      | some y => rw [hq] at hx; simp at hx; subst hx; exact hcell j y hq) hb (by simpa using hN) (by simpa using hcap) (by rw [hm]; simpa using hl)
    rw [hm] at hc
    simp only [List.length_map] at hc
    refine hc.mono ?_
    rintro e w' ⟨rfl, hbw⟩
    exact ⟨_, G, Sv _, st, rfl, .refl G, hA.fresh hbw, .v _, rfl, rfl⟩
def Weak (x r : AV) : Prop := ∀ (G : Gh) (v : Value), Rel G x v → Rel G r v
theorem weak_refl (x : AV) : Weak x x := fun _ _ h => h
theorem weak_noTip (sz : Nat) (xs : List AV) (tip : Option Nat) : Weak (.sl sz xs tip) (.sl sz xs none) := fun _ _ h => rel_noTip h
theorem weak_nilSl (sz : Nat) : Weak nilSl (.sl sz [] none) := fun _ _ h => rel_nilSl h
theorem weak_tu2 {x y x' y' : AV} (h1 : Weak x x') (h2 : Weak y y') : Weak (.tu [x, y]) (.tu [x', y']) := fun G v h => by
  cases h with
  | tu _ vs hl hr =>
    refine .tu _ vs hl fun i a b ha hb => ?_
    match i with
    | 0 => simp at ha; subst ha; exact h1 G b (hr 0 x b rfl hb)
    | 1 => simp at ha; subst ha; exact h2 G b (hr 1 y b rfl hb)
    | i + 2 => simp at ha
theorem ares_two_w {fn : Func} {s : AS} {t u : Tmp} {x y x' y' : AV} (hr : fn.results = #[.tmp t, .tmp u]) (hx : aeval fn.ntmps s (.tmp t) = x) (hy : aeval fn.ntmps s (.tmp u) = y) (h1 : Weak x x') (h2 : Weak y y') : ARes E fn s (.tu [x', y']) :=
  ares_weak (ares_two hr) (by rw [hx, hy]; exact weak_tu2 h1 h2)
def errN (n : Int) : AV := if n = 0 then .v .nilIface else .ifc 31 (Iv n)
theorem errN_pure (n : Int) : Pure (errN n) := by
  unfold errN
  split
  · exact pure_v _
  · exact pure_ifc (pure_v _)
theorem errN_ne {n : Int} (h : n ≠ 0) : errN n = .ifc 31 (Iv n) := if_neg h
end Go.Proofs.YtplagcbifecagaaGreatDoor
set_option maxRecDepth 100000
set_option linter.unusedVariables false
namespace Go.Proofs.YtplagcbifecagaaGreatDoor
open Go Go.Av Go.RowKit Go.Proofs Go.Pl
theorem foldCheck_c (f : FldV) (st : List AObj) (hl : f.1.length < 4294967281) : ACall E 111 [fldA f] st fun r st' => r = errN (checkF f) ∧ st' = st := by
  refine acall_pure (errN_pure _) (acall_of_awp Tryz.func111 rfl (Nat.le_of_ble_eq_true rfl) ?_)
  repeat' (first
    | apply awp_seq
    | apply awp_block
    | apply awp_region
    | apply aops_nil
    | apply aops_assign
    | (apply aops_cmpI; exact rfl; exact rfl; exact rfl)
    | (apply aops_not; exact rfl)
    | (apply awp_cond_any; exact rfl; first | (apply cd_dt; (first | assumption | omega)) | (apply cd_df; (first | assumption | omega)) | (apply cd_nt; (first | exact rfl | assumption)) | (apply cd_nf; (first | exact rfl | assumption)) | (apply cd_n <;> intro h) | (apply cd_t; (first | exact rfl | assumption)) | (apply cd_f; (first | exact rfl | assumption)) | (apply cd_d <;> intro h) | (apply cd_s <;> intro h))
    | (apply aops_lenS; exact rfl; exact rfl; exact rfl)
    | (apply aops_makeInterface; exact rfl; exact rfl)
    | (apply aops_box; exact rfl; exact rfl; exact rfl; exact rfl)
    | (apply aops_fieldAddr_bx; exact rfl; exact rfl; exact rfl)
    | (apply aops_load_loc; exact rfl; exact rfl; exact rfl; exact rfl; exact rfl)
    | apply awp_skip
    | apply awp_ret
    | (apply aops_call1; exact Tryz.call145; exact key_c _ _ hl))
  all_goals refine aret_plain rfl (ares_one rfl) ⟨(?_ : _ = _), _, rfl⟩
  · have e : checkF f = 5 := if_pos (by simp_all)
    rw [e]; rfl
  · have e : checkF f = 6 := (if_neg (by simp_all)).trans (if_pos (by omega))
    rw [e]; rfl
  · have e : checkF f = 0 := (if_neg (by simp_all)).trans (if_neg (by omega))
    rw [e]; rfl
theorem foldCheck0_c (f : FldV) (st : List AObj) (hl : f.1.length < 4294967281) (h : checkF f = 0) : ACall E 111 [fldA f] st fun r st' => r = .v .nilIface ∧ st' = st := by
  have := foldCheck_c f st hl
  rw [h] at this
  exact this
theorem foldCheck1_c (f : FldV) (st : List AObj) (hl : f.1.length < 4294967281) (h : checkF f ≠ 0) : ACall E 111 [fldA f] st fun r st' => r = .ifc 31 (Iv (checkF f)) ∧ st' = st := by
  have := foldCheck_c f st hl
  rw [errN_ne h] at this
  exact this
theorem stuffed_c (s : List UInt8) (st : List AObj) (hl : s.length < 4294967281) : ACall E 113 [Sv s] st fun r st' => r = Sv (stuffF s) ∧ st' = st := by
  refine acall_pure (pure_v _) (acall_of_awp Tryz.func113 rfl (Nat.le_of_ble_eq_true rfl) ?_)
  have hb : Lib.trimS s [32, 9] = [] ↔ blankAll s := by rw [trimS_nil]; simp [isBlank, blankAll]
  repeat' (first
    | apply awp_seq
    | apply awp_region
    | apply aops_nil
    | apply aops_move
    | apply aops_assign
    | (apply aops_cmpS; exact rfl; exact rfl; exact rfl)
    | (apply aops_guard_any; exact rfl; exact rfl; exact rfl; exact rfl)
    | (apply gd_run_n; (first | assumption | omega))
    | (apply gd_skip_d; (first | assumption | omega))
    | (apply gd_split_d <;> intro h)
    | (apply aops_pick_any; exact rfl; first | (apply pk_dt; (first | assumption | omega)) | (apply pk_df; (first | assumption | omega)) | (apply pk_nt; (first | exact rfl | assumption)) | (apply pk_nf; (first | exact rfl | assumption)) | (apply pk_t; (first | exact rfl | assumption)) | (apply pk_f; (first | exact rfl | assumption)))
    | (apply awp_cond_any; exact rfl; first | (apply cd_dt; (first | assumption | omega)) | (apply cd_df; (first | assumption | omega)) | (apply cd_nt; (first | exact rfl | assumption)) | (apply cd_nf; (first | exact rfl | assumption)) | (apply cd_n <;> intro h) | (apply cd_t; (first | exact rfl | assumption)) | (apply cd_f; (first | exact rfl | assumption)) | (apply cd_d <;> intro h) | (apply cd_s <;> intro h))
    | (apply aops_concat; exact rfl; exact rfl; (first | omega | (simp only [List.length_append, List.length_cons, List.length_nil]; omega) | (simp; omega)))
    | apply awp_skip
    | apply awp_ret
    | (apply aops_call1; exact Tryz.call96; exact trimA_c _ _ _ (by omega) rfl rfl)
    | (apply aops_call1; exact Tryz.call69; exact hasPrefix1_c _ _ _))
  all_goals refine aret_plain rfl (ares_one rfl) ⟨congrArg (fun l : Bytes => Sv l) (?_ : _ = stuffF s), _, rfl⟩
  all_goals unfold stuffF
  all_goals simp_all
theorem pure_Ss (xs : List Bytes) : Pure (Ss xs) := pure_strs xs
theorem split10e_c (l p : Bytes) (r : List Bytes) (st : List AObj) (hl : l.length < 4294967281) (h : partsOf l = p :: r) : ACall E 112 [Sv l, Sv [10]] st fun x st' => x = .sl 1 (Sv p :: r.map fun x => Sv x) none ∧ st' = st := by
  have := split10_c l st hl
  rw [h] at this
  exact this
def linesA (f : FldV) : AV := .tu [Ss (if checkF f = 0 then linesF f else []), errN (checkF f)]
theorem linesA_pure (f : FldV) : Pure (linesA f) := pure_tu fun x hx => by
  simp only [List.mem_cons, List.not_mem_nil, or_false] at hx
  rcases hx with rfl | rfl
  · exact pure_Ss _
  · exact errN_pure _
set_option maxHeartbeats 2000000 in
theorem foldLines_c (f : FldV) (st : List AObj) (hl : f.1.length < 4294967281) (hv : f.2.length < 1000000) : ACall E 78 [fldA f] st fun r st' => r = linesA f ∧ st' = st := by
  refine acall_pure (linesA_pure _) (acall_of_awp Tryz.func78 rfl (Nat.le_of_ble_eq_true rfl) ?_)
  by_cases hc : checkF f = 0
  · obtain ⟨p, r, hp⟩ : ∃ p r, partsOf f.2 = p :: r := ⟨_, _, partsOf_eq f.2⟩
    have hpl : p.length ≤ f.2.length := parts_lenle f.2 p (by rw [hp]; simp)
    have hrl : ∀ x ∈ r, x.length ≤ f.2.length := fun x hx => parts_lenle f.2 x (by rw [hp]; simp [hx])
    have hrn : r.length ≤ f.2.length := by have := partsOf_length_le _ f.2 (Nat.le_refl _); rw [hp] at this; simpa using this
    repeat' (first
      | (apply aops_buildSliceO; exact rfl; exact rfl; exact rfl; exact rfl; exact rfl; exact rfl)
      | (apply awp_drawS; exact rfl; exact rfl; exact rfl; exact rfl; exact rfl; kernel_rfl)
      | apply awp_seq
      | apply awp_block
      | apply awp_region
      | apply aops_nil
      | apply aops_move
      | apply aops_assign
      | (apply aops_cmpS; exact rfl; exact rfl; exact rfl)
      | (apply awp_cond_any; exact rfl; first | (apply cd_dt; (first | assumption | omega)) | (apply cd_df; (first | assumption | omega)) | (apply cd_nt; (first | exact rfl | assumption)) | (apply cd_nf; (first | exact rfl | assumption)) | (apply cd_n <;> intro h) | (apply cd_t; (first | exact rfl | assumption)) | (apply cd_f; (first | exact rfl | assumption)) | (apply cd_d <;> intro h) | (apply cd_s <;> intro h))
      | (apply aops_lenL; exact rfl; exact rfl; exact rfl; exact rfl)
      | (apply aops_concat; exact rfl; exact rfl; (first | omega | (simp only [List.length_append, List.length_cons, List.length_nil]; omega) | (simp; omega)))
      | (apply aops_nilNeNil; exact rfl; exact rfl)
      | (apply aops_box; exact rfl; exact rfl; exact rfl; exact rfl)
      | (apply aops_fieldAddr_bx; exact rfl; exact rfl; exact rfl)
      | (apply aops_load_pp; exact rfl; exact rfl; exact rfl)
      | (apply aops_load_loc; exact rfl; exact rfl; exact rfl; exact rfl; exact rfl)
      | (apply aops_store_loc; exact rfl; exact rfl; exact rfl; exact rfl; exact rfl; exact rfl; exact rfl; exact rfl; exact rfl; exact rfl; exact rfl)
      | (apply aops_sliceFrom; exact rfl; exact rfl; exact rfl; exact rfl; (first | assumption | omega | exact Nat.succ_le_succ (Nat.zero_le _) | (simp; omega)); exact rfl)
      | apply aq_nil
      | (apply aq_concat; exact rfl; exact rfl; (first | omega | (simp only [List.length_append, List.length_cons, List.length_nil]; omega) | (simp; omega)))
      | (apply aq_load_pp; exact rfl; exact rfl; exact rfl)
      | (apply aq_load_loc; exact rfl; exact rfl; exact rfl; exact rfl; exact rfl)
      | apply aq_move
      | apply awp_skip
      | (apply aops_call1; exact Tryz.call111; exact foldCheck0_c _ _ hl hc)
      | (apply aops_call1; exact Tryz.call112; exact split10e_c _ _ _ _ (by omega) hp)
      | (apply aops_indexAddr (n := 0); exact rfl; exact rfl; exact rfl; exact rfl; exact rfl; exact rfl)
      | (apply aq_indexAddr (n := 0); exact rfl; exact rfl; exact rfl; exact rfl; exact rfl; exact rfl)
      | (apply aq_indexAddr_os (n := 0); exact rfl; exact rfl; exact rfl; exact rfl; exact rfl; omega))
    all_goals refine awp_osTip 6 (o := st.length + 1) (sz := 1) (len := 1) (cap := 1) (xs := [Sv (headLine f.1 p)]) (T' := 9) rfl (get_loc rfl) rfl rfl (by omega) (Nat.le_refl _) (by decide) (by simp [AV.cells]) ?_ ?_
    · exact congrArg (fun l : Bytes => [Sv l]) (by unfold headLine; rw [if_neg h] : headLine f.1 p = f.1 ++ [58] ++ ([32] ++ p))
    rotate_left
    · exact congrArg (fun l : Bytes => [Sv l]) (by unfold headLine; rw [if_pos (Classical.not_not.1 h), List.append_nil] : headLine f.1 p = f.1 ++ [58])
    all_goals
      have hre : linesA f = .tu [Ss (headLine f.1 p :: r.map fun s => [32] ++ stuffF s), .v .nilIface] := by
        unfold linesA linesF
        rw [if_pos hc, hc, hp]
        rfl
      rw [hre]
      have hst : ∀ s, (stuffF s).length ≤ s.length + 1 := stuff_len
      refine awp_loopL r (fun pre s => StE [(6, .sl 1 (Sv (headLine f.1 p) :: pre.map (fun s => Sv ([32] ++ stuffF s))) (some (st.length + 1))), (35, .sl 1 (r.map fun x => Sv x) none), (36, Iv r.length), (37, Iv pre.length)] st [.cells 0 58 [Sv f.1, Sv f.2], .tip (pre.length + 1) 1 9] s) (stE_mk0 ⟨rfl, rfl, congrArg (fun n : Nat => Iv (n : Int)) (List.length_map ..), rfl, trivial⟩ (set_loc st _ 1 _)) ?_ ?_
      · rintro _ ⟨t, ext, rfl⟩
        repeat' (first
          | apply awp_seq
          | apply awp_region
          | apply aops_nil
          | apply aops_move
          | apply aops_assign
          | (apply aops_cmpI; exact rfl; exact rfl; exact rfl)
          | (apply awp_cond_any; exact rfl; first | (apply cd_dt; (first | assumption | omega)) | (apply cd_df; (first | assumption | omega)) | (apply cd_nt; (first | exact rfl | assumption)) | (apply cd_nf; (first | exact rfl | assumption)) | (apply cd_n <;> intro h) | (apply cd_t; (first | exact rfl | assumption)) | (apply cd_f; (first | exact rfl | assumption)) | (apply cd_d <;> intro h) | (apply cd_s <;> intro h))
          | apply awp_exit
          | apply awp_ret)
        refine aret_plain rfl (ares_two_w rfl rfl rfl (weak_noTip _ _ _) (weak_refl _)) ⟨?_, ext_end _ _ _ _⟩
        simp only [Ss, List.map_cons, List.map_map]
        rfl
      · rintro pre a rest _ hr ⟨t, ext, rfl⟩
        have hlen : r.length = pre.length + (rest.length + 1) := by rw [hr]; simp
        have hget : (r.map fun x => Sv x)[pre.length]? = some (Sv a) := by rw [hr]; simp
        have ha : a.length ≤ f.2.length := hrl a (by rw [hr]; simp)
        have hsa := hst a
        repeat' (first
          | apply awp_seq
          | apply awp_block
          | apply awp_region
          | apply aops_nil
          | apply aops_move
          | apply aops_assign
          | (apply aops_cmpI; exact rfl; exact rfl; exact rfl)
          | (apply awp_cond_any; exact rfl; first | (apply cd_dt; (first | assumption | omega)) | (apply cd_df; (first | assumption | omega)) | (apply cd_nt; (first | exact rfl | assumption)) | (apply cd_nf; (first | exact rfl | assumption)) | (apply cd_n <;> intro h) | (apply cd_t; (first | exact rfl | assumption)) | (apply cd_f; (first | exact rfl | assumption)) | (apply cd_d <;> intro h) | (apply cd_s <;> intro h))
          | (apply aops_concat; exact rfl; exact rfl; (first | omega | (simp only [List.length_append, List.length_cons, List.length_nil]; omega) | (simp; omega)))
          | (apply aops_add; exact rfl; exact rfl; exact wrap_i64 (by omega) (by omega))
          | (apply aops_load_pp; exact rfl; exact rfl; exact rfl)
          | (apply aops_buildSlice; exact rfl; exact rfl; exact rfl; exact rfl; exact rfl; exact rfl; exact rfl; exact rfl; exact rfl)
          | apply awp_skip
          | (apply aops_call1; exact Tryz.call113; exact stuffed_c _ _ (by omega))
          | (apply aops_indexAddr (n := pre.length); exact rfl; exact rfl; exact rfl; exact rfl; exact rfl; exact hget)
          | (apply aops_append_mid (n := pre.length + 1) (m := 1) (sz := 1) (bytes := 16); exact rfl; exact rfl; exact rfl; exact rfl; simp; exact rfl; exact rfl; exact ⟨⟨_, _, rfl, rfl, rfl, rfl, rfl⟩⟩; exact rfl; exact rfl; (unfold maxLen; omega); omega; exact rfl))
        refine stE_mk ⟨?_, rfl, rfl, ?_, trivial⟩ ?_
        · exact sl_snoc1 _ (fun s => Sv ([32] ++ stuffF s)) pre a _ rfl
        · exact iv_snoc pre a
        · rw [snoc_len pre a]; rfl
  · skip
    repeat' (first
      | apply awp_seq
      | apply awp_region
      | apply aops_nil
      | apply aops_move
      | apply aops_assign
      | (apply awp_cond_any; exact rfl; first | (apply cd_dt; (first | assumption | omega)) | (apply cd_df; (first | assumption | omega)) | (apply cd_nt; (first | exact rfl | assumption)) | (apply cd_nf; (first | exact rfl | assumption)) | (apply cd_n <;> intro h) | (apply cd_t; (first | exact rfl | assumption)) | (apply cd_f; (first | exact rfl | assumption)) | (apply cd_d <;> intro h) | (apply cd_s <;> intro h))
      | (apply aops_errNeNil; exact rfl; exact rfl)
      | (apply aops_box; exact rfl; exact rfl; exact rfl; exact rfl)
      | (apply aops_load_loc; exact rfl; exact rfl; exact rfl; exact rfl; exact rfl)
      | apply awp_ret
      | (apply aops_call1; exact Tryz.call111; exact foldCheck1_c _ _ hl hc))
    refine aret_plain rfl (ares_weak (r' := .tu [Ss [], .ifc 31 (Iv (checkF f))]) (ares_two rfl) (weak_tu2 (weak_nilSl _) (weak_refl _))) ⟨?_, _, rfl⟩
    unfold linesA
    rw [if_neg hc, errN_ne hc]
end Go.Proofs.YtplagcbifecagaaGreatDoor
set_option linter.unusedVariables false
set_option maxRecDepth 100000
namespace Go.Proofs.YtplagcbifecagaaGreatDoor
open Go Go.Av Go.RowKit Go.Proofs Go.Pl
theorem aops_allocB {rd : Option Nat} {N : Nat} {ops : Array Oper} {K : AS → Prop} {s : AS} {rest : List Oper} {d : Option Tmp} {T : TypeId} {p : String} {af : Array Edge} {st loc : List AObj} (hst : s.st = st ++ loc)
    (h : AOps E rd N ops rest K (AS.put ⟨s.t, st ++ (loc ++ [bldO 0 (.v (.pointer none)) [] (st.length + (loc.length + 1)), .tip 0 1 5]), s.df⟩ d (.bx (st.length + loc.length) 0 0))) : AOps E rd N ops (⟨d, .alloc 82, T, p, af, none⟩ :: rest) K s := by
  refine aops_alloc hst rfl ?_
  have e : ∀ (t : Nat → AV) (st' : List AObj) (df : List Nat) (x : AV), (AS.put ⟨t, st', df⟩ d x).st = st' := fun t st' df x => by cases d <;> rfl
  have e2 : ∀ (t : Nat → AV) (st' st2 : List AObj) (df : List Nat) (x : AV), (⟨(AS.put ⟨t, st', df⟩ d x).t, st2, (AS.put ⟨t, st', df⟩ d x).df⟩ : AS) = AS.put ⟨t, st2, df⟩ d x := fun t st' st2 df x => by cases d <;> rfl
  refine aops_tipCell (o := st.length + loc.length) (j := 1) (sz := 1) (T' := 5) (T1 := 82) (ver := 0) (cs := [.v (.pointer none), nilSl]) ?_ rfl ?_
  · rw [e, ← List.append_assoc, List.getElem?_append_right (by simp)]
    simp
    rfl
  · rw [e, e2]
    have hx : (st ++ (loc ++ [AObj.cells 0 82 [.v (.pointer none), nilSl]])).set (st.length + loc.length) (.cells 0 82 ([AV.v (.pointer none), nilSl].set 1 (.sl 1 [] (some (st ++ (loc ++ [AObj.cells 0 82 [.v (.pointer none), nilSl]])).length)))) ++ [AObj.tip 0 1 5]
        = st ++ (loc ++ [bldO 0 (.v (.pointer none)) [] (st.length + (loc.length + 1)), .tip 0 1 5]) := by
      rw [set_loc, List.append_assoc, List.set_append_right _ _ (Nat.le_refl _)]
      simp
    have h' := h
    rw [← hx] at h'
    exact h'
theorem bWrite_mid (st loc ext new loc' : List AObj) (k kt ver : Nat) (q : AV) (l m : List UInt8) (hk : loc[k]? = some (bldO ver q l (st.length + kt))) (hkt : loc[kt]? = some (.tip l.length 1 5)) (hq : q = .v (.pointer none) ∨ q = .bx (st.length + k) ver 0)
    (hlen : l.length + m.length ≤ 140737488355328) (hl : loc' = (loc.set k (bldO ver (.bx (st.length + k) ver 0) (l ++ m) (st.length + kt))).set kt (.tip (l ++ m).length 1 5)) :
    ACall E 41 [.bx (st.length + k) ver 0, Sv m] (((st ++ loc) ++ ext) ++ new) fun r st' => r = .tu [Iv m.length, .v .nilIface] ∧ st' = ((st ++ loc') ++ ext) ++ new := by
  refine (bWrite_c (st.length + k) ver (st.length + kt) q l m _ (get_mid hk) (get_mid hkt) hq hlen).mono fun r st' ⟨h1, h2⟩ => ⟨h1, ?_⟩
  have hk1 := lt_of_getElem? hk
  have hk2 := lt_of_getElem? hkt
  rw [h2, set_mid _ hk1, set_mid _ (by simpa using hk2), hl, List.length_append]
theorem bString_mid (st loc ext new loc' : List AObj) (k kt ver : Nat) (q : AV) (l : List UInt8) (hk : loc[k]? = some (bldO ver q l (st.length + kt))) (hkt : loc[kt]? = some (.tip l.length 1 5)) (hl : loc' = loc.set kt .dead) :
    ACall E 43 [.bx (st.length + k) ver 0] (((st ++ loc) ++ ext) ++ new) fun r st' => r = Sv l ∧ st' = ((st ++ loc') ++ ext) ++ new := by
  refine (bString_c (st.length + k) ver (st.length + kt) q l _ (get_mid hk) (get_mid hkt)).mono fun r st' ⟨h1, h2⟩ => ⟨h1, ?_⟩
  rw [h2, set_mid _ (lt_of_getElem? hkt), hl]
end Go.Proofs.YtplagcbifecagaaGreatDoor
set_option maxRecDepth 100000
set_option linter.unusedVariables false
namespace Go.Proofs.YtplagcbifecagaaGreatDoor
open Go Go.Av Go.RowKit Go.Proofs Go.Pl
theorem tail_sum : ∀ (r : List Bytes), (textF (r.map fun s => [32] ++ stuffF s)).length ≤ 3 * (r.flatMap fun s => [10] ++ s).length
  | [] => by simp [textF]
  | a :: r => by
    have ih := tail_sum r
    have := stuff_len a
    simp only [textF, List.map_cons, List.flatMap_cons, List.length_append, List.length_cons, List.length_nil] at ih ⊢
    omega
theorem textF_app (a b : List Bytes) : textF (a ++ b) = textF a ++ textF b := by simp [textF]
theorem textF_one (s : Bytes) : textF [s] = s ++ [10] := by simp [textF]
theorem textF_count : ∀ (l : List Bytes), l.length ≤ (textF l).length
  | [] => by simp
  | a :: r => by
    have ih := textF_count r
    simp only [textF, List.flatMap_cons, List.length_append, List.length_cons, List.length_nil] at ih ⊢
    omega
theorem foldF_app (a b : List Fld) : foldF (a ++ b) = foldF a ++ foldF b := by simp [foldF]
theorem foldF_one (f : Fld) : foldF [f] = textF (linesF f) := by simp [foldF]
theorem linesF_len {f : Fld} (h : goodFld f) : (textF (linesF f)).length ≤ 5000 := by
  obtain ⟨hk, hv⟩ := h
  have h1 := tail_sum (partsOf f.2).tail
  have h2 := congrArg List.length (parts_join _ f.2 (Nat.le_refl _))
  have h3 : (headLine f.1 ((partsOf f.2).headD [])).length ≤ 32 + 2 + ((partsOf f.2).headD []).length := by
    have := hk.2.1
    unfold headLine
    split <;> simp <;> omega
  have e : linesF f = [headLine f.1 ((partsOf f.2).headD [])] ++ (partsOf f.2).tail.map fun s => [32] ++ stuffF s := rfl
  rw [e, textF_app, textF_one]
  simp only [List.length_append, List.length_cons, List.length_nil] at h2 ⊢
  omega
theorem foldF_len : ∀ (xs : List Fld), (∀ f ∈ xs, goodFld f) → (foldF xs).length ≤ 5000 * xs.length
  | [], _ => by simp [foldF]
  | f :: r, h => by
    have ih := foldF_len r fun x hx => h x (by simp [hx])
    have h1 := linesF_len (h f (by simp))
    have e : foldF (f :: r) = textF (linesF f) ++ foldF r := by simp [foldF]
    rw [e, List.length_append, List.length_cons]
    omega
def errF : List Fld → Int
  | [] => 0
  | f :: r => if checkF f ≠ 0 then checkF f else errF r
theorem errF_zero : ∀ (xs : List Fld), errF xs = 0 ↔ ∀ f ∈ xs, goodFld f
  | [] => by simp [errF]
  | f :: r => by
    have ih := errF_zero r
    unfold errF
    by_cases h : checkF f ≠ 0
    · rw [if_pos h]
      have hg : ¬ goodFld f := fun hg => h ((checkF_good f).2 hg)
      simp [h, hg]
    · have hg := (checkF_good f).1 (Classical.not_not.1 h)
      rw [if_neg h, ih]
      simp [hg]
theorem errF_at : ∀ {pre : List Fld} {f : Fld} {r : List Fld}, (∀ x ∈ pre, goodFld x) → checkF f ≠ 0 → errF (pre ++ f :: r) = checkF f
  | [], f, r, _, h => by simp [errF, h]
  | x :: pre, f, r, hp, h => by
    have := (checkF_good x).2 (hp x (by simp))
    simp only [List.cons_append, errF, this]
    rw [if_neg (by simp)]
    exact errF_at (fun y hy => hp y (by simp [hy])) h
theorem foldLines0_c (f : FldV) (st : List AObj) (hl : f.1.length < 4294967281) (hv : f.2.length < 1000000) (h : checkF f = 0) : ACall E 78 [fldA f] st fun r st' => r = .tu [Ss (linesF f), .v .nilIface] ∧ st' = st := by
  have := foldLines_c f st hl hv
  unfold linesA at this
  rw [if_pos h, h] at this
  exact this
theorem foldLines1_c (f : FldV) (st : List AObj) (hl : f.1.length < 4294967281) (hv : f.2.length < 1000000) (h : checkF f ≠ 0) : ACall E 78 [fldA f] st fun r st' => r = .tu [Ss [], .ifc 31 (Iv (checkF f))] ∧ st' = st := by
  have := foldLines_c f st hl hv
  unfold linesA at this
  rw [if_neg h, errN_ne h] at this
  exact this
def foldA (xs : List Fld) : AV := .tu [Sv (if errF xs = 0 then foldF xs else []), errN (errF xs)]
theorem foldA_pure (xs : List Fld) : Pure (foldA xs) := pure_tu fun x hx => by
  simp only [List.mem_cons, List.not_mem_nil, or_false] at hx
  rcases hx with rfl | rfl
  · exact pure_v _
  · exact errN_pure _
structure FldsW (xs : List FldV) : Prop where
  len : xs.length < 1000000
  val : ∀ f ∈ xs, f.1.length < 4294967281 ∧ f.2.length < 1000000
set_option maxHeartbeats 2000000 in
theorem fold_c (xs : List FldV) (st : List AObj) (hx : FldsW xs) : ACall E 40 [fldsA xs] st fun r st' => r = foldA xs ∧ st' = st := by
  refine acall_pure (foldA_pure _) (acall_of_awp Tryz.func40 rfl (Nat.le_of_ble_eq_true rfl) ?_)
  have hxl := hx.len
  repeat' (first
    | (apply aops_allocB; exact rfl)
    | apply awp_seq
    | apply awp_block
    | apply awp_region
    | apply aops_nil
    | apply aops_move
    | apply aops_assign
    | (apply aops_lenL; exact rfl; exact rfl; exact rfl; exact rfl))
  refine awp_loopL xs (fun pre s => (∀ f ∈ pre, goodFld f) ∧ ∃ q, (q = .v (.pointer none) ∨ q = .bx (st.length + 0) 0 0) ∧ StE [(4, .bx (st.length + 0) 0 0), (11, fldsA xs), (12, Iv xs.length), (13, Iv pre.length)] st [bldO 0 q (foldF pre) (st.length + 1), .tip (foldF pre).length 1 5] s) ⟨by simp, _, .inl rfl, stE_mk0 ⟨rfl, rfl, congrArg (fun n : Nat => Iv (n : Int)) (List.length_map ..), rfl, trivial⟩ rfl⟩ ?_ ?_
  · rintro _ ⟨hg, q, hq, t, ext, rfl⟩
    repeat' (first
      | apply awp_seq
      | apply awp_region
      | apply aops_nil
      | apply aops_assign
      | (apply aops_cmpI; exact rfl; exact rfl; exact rfl)
      | (apply awp_cond_any; exact rfl; first | (apply cd_dt; (first | assumption | omega)) | (apply cd_df; (first | assumption | omega)) | (apply cd_nt; (first | exact rfl | assumption)) | (apply cd_nf; (first | exact rfl | assumption)) | (apply cd_n <;> intro h) | (apply cd_t; (first | exact rfl | assumption)) | (apply cd_f; (first | exact rfl | assumption)) | (apply cd_d <;> intro h) | (apply cd_s <;> intro h))
      | apply awp_exit
      | apply awp_ret
      | (refine aops_call1 Tryz.call43 (bString_mid st _ _ _ _ 0 1 0 _ _ rfl rfl rfl) ?_))
    refine aret_plain rfl (ares_two rfl) ⟨?_, ext_end _ _ _ _⟩
    unfold foldA
    have h0 := (errF_zero xs).2 hg
    rw [if_pos h0, h0]
    rfl
  · rintro pre f rest _ hr ⟨hg, q, hq, t, ext, rfl⟩
    have hlen : xs.length = pre.length + (rest.length + 1) := by rw [hr]; simp
    have hget : (xs.map fldA)[pre.length]? = some (fldA f) := by rw [hr]; simp
    obtain ⟨hf1, hf2⟩ := hx.val f (by rw [hr]; simp)
    by_cases hc : checkF f = 0
    · have hgf := (checkF_good f).1 hc
      have hb1 := foldF_len pre hg
      have hb2 := linesF_len hgf
      repeat' (first
        | apply awp_seq
        | apply awp_block
        | apply awp_region
        | apply aops_nil
        | apply aops_move
        | apply aops_assign
        | (apply aops_extract; exact rfl; exact rfl)
        | (apply aops_cmpI; exact rfl; exact rfl; exact rfl)
        | (apply awp_cond_any; exact rfl; first | (apply cd_dt; (first | assumption | omega)) | (apply cd_df; (first | assumption | omega)) | (apply cd_nt; (first | exact rfl | assumption)) | (apply cd_nf; (first | exact rfl | assumption)) | (apply cd_n <;> intro h) | (apply cd_t; (first | exact rfl | assumption)) | (apply cd_f; (first | exact rfl | assumption)) | (apply cd_d <;> intro h) | (apply cd_s <;> intro h))
        | (apply aops_lenL; exact rfl; exact rfl; exact rfl; exact rfl)
        | (apply aops_nilNeNil; exact rfl; exact rfl)
        | (apply aops_alloc; exact rfl; exact rfl)
        | (apply aops_load_pp; exact rfl; exact rfl; exact rfl)
        | (apply aops_load_loc; exact rfl; exact rfl; exact rfl; exact rfl; exact rfl)
        | (apply aops_store_loc; exact rfl; exact rfl; exact rfl; exact rfl; exact rfl; exact rfl; exact rfl; exact rfl; exact rfl; exact rfl; exact rfl)
        | apply awp_skip
        | (apply aops_call1; exact Tryz.call78; exact foldLines0_c _ _ hf1 hf2 hc)
        | (apply aops_indexAddr (n := pre.length); exact rfl; exact rfl; exact rfl; exact rfl; exact rfl; exact hget))
      refine awp_loopL (linesF f) (fun lp s => ∃ q, (q = .v (.pointer none) ∨ q = .bx (st.length + 0) 0 0) ∧ StE [(4, .bx (st.length + 0) 0 0), (11, fldsA xs), (12, Iv xs.length), (13, Iv pre.length), (25, Ss (linesF f)), (26, Iv (linesF f).length), (27, Iv lp.length)] st [bldO 0 q (foldF pre ++ textF lp) (st.length + 1), .tip (foldF pre ++ textF lp).length 1 5] s) ⟨_, hq, stE_mk ⟨rfl, rfl, rfl, rfl, rfl, congrArg (fun n : Nat => Iv (n : Int)) (List.length_map ..), rfl, trivial⟩ (by simp [textF])⟩ ?_ ?_
      · rintro _ ⟨q, hq, t, ext, rfl⟩
        repeat' (first
          | apply awp_seq
          | apply awp_region
          | apply aops_nil
          | apply aops_move
          | (apply aops_cmpI; exact rfl; exact rfl; exact rfl)
          | (apply awp_cond_any; exact rfl; first | (apply cd_dt; (first | assumption | omega)) | (apply cd_df; (first | assumption | omega)) | (apply cd_nt; (first | exact rfl | assumption)) | (apply cd_nf; (first | exact rfl | assumption)) | (apply cd_n <;> intro h) | (apply cd_t; (first | exact rfl | assumption)) | (apply cd_f; (first | exact rfl | assumption)) | (apply cd_d <;> intro h) | (apply cd_s <;> intro h))
          | (apply aops_add; exact rfl; exact rfl; exact wrap_i64 (by omega) (by omega))
          | apply awp_exit)
        refine ⟨fun x hx => ?_, q, hq, stE_mk ⟨rfl, rfl, rfl, ?_, trivial⟩ ?_⟩
        · rcases List.mem_append.1 hx with hx | hx
          · exact hg x hx
          · simp at hx; subst hx; exact hgf
        · rw [snoc_len pre f]; rfl
        · rw [foldF_app, foldF_one]
      · rintro lp a lr _ hlr ⟨q, hq, t, ext, rfl⟩
        have hlen2 : (linesF f).length = lp.length + (lr.length + 1) := by rw [hlr]; simp
        have hget2 : ((linesF f).map fun x => Sv x)[lp.length]? = some (Sv a) := by rw [hlr]; simp
        have hb3 : (textF lp).length + (a.length + 1) ≤ 5000 := by
          rw [hlr, textF_app] at hb2
          have : a :: lr = [a] ++ lr := rfl
          rw [this, textF_app, textF_one] at hb2
          simp only [List.length_append, List.length_cons, List.length_nil] at hb2
          omega
        have hct := textF_count lp
        repeat' (first
          | apply awp_seq
          | apply awp_block
          | apply awp_region
          | apply aops_nil
          | apply aops_move
          | apply aops_assign
          | (apply aops_cmpI; exact rfl; exact rfl; exact rfl)
          | (apply awp_cond_any; exact rfl; first | (apply cd_dt; (first | assumption | omega)) | (apply cd_df; (first | assumption | omega)) | (apply cd_nt; (first | exact rfl | assumption)) | (apply cd_nf; (first | exact rfl | assumption)) | (apply cd_n <;> intro h) | (apply cd_t; (first | exact rfl | assumption)) | (apply cd_f; (first | exact rfl | assumption)) | (apply cd_d <;> intro h) | (apply cd_s <;> intro h))
          | (apply aops_concat; exact rfl; exact rfl; (first | omega | (simp only [List.length_append, List.length_cons, List.length_nil]; omega) | (simp; omega)))
          | (apply aops_load_pp; exact rfl; exact rfl; exact rfl)
          | apply awp_skip
          | (apply aops_indexAddr (n := lp.length); exact rfl; exact rfl; exact rfl; exact rfl; exact rfl; exact hget2))
        refine aops_call1 Tryz.call41 (bWrite_mid st _ _ _ _ 0 1 0 _ _ _ rfl rfl ?_ ?_ rfl) ?_; (exact hq); (simp only [List.length_append, List.length_cons, List.length_nil]; omega)
        repeat' (first
          | apply awp_region
          | apply aops_nil
          | apply aops_move
          | (apply aops_add; exact rfl; exact rfl; exact wrap_i64 (by omega) (by omega)))
        refine ⟨_, .inr rfl, stE_mk ⟨rfl, rfl, rfl, rfl, rfl, rfl, ?_, trivial⟩ ?_⟩
        · rw [snoc_len lp a]; rfl
        · have e : foldF pre ++ textF (lp ++ [a]) = (foldF pre ++ textF lp) ++ (a ++ [10]) := by rw [textF_app, textF_one, List.append_assoc]
          rw [e]; rfl
    · skip
      repeat' (first
        | apply awp_seq
        | apply awp_block
        | apply awp_region
        | apply aops_nil
        | apply aops_move
        | apply aops_assign
        | (apply aops_extract; exact rfl; exact rfl)
        | (apply aops_cmpI; exact rfl; exact rfl; exact rfl)
        | (apply awp_cond_any; exact rfl; first | (apply cd_dt; (first | assumption | omega)) | (apply cd_df; (first | assumption | omega)) | (apply cd_nt; (first | exact rfl | assumption)) | (apply cd_nf; (first | exact rfl | assumption)) | (apply cd_n <;> intro h) | (apply cd_t; (first | exact rfl | assumption)) | (apply cd_f; (first | exact rfl | assumption)) | (apply cd_d <;> intro h) | (apply cd_s <;> intro h))
        | (apply aops_errNeNil; exact rfl; exact rfl)
        | (apply aops_alloc; exact rfl; exact rfl)
        | (apply aops_load_pp; exact rfl; exact rfl; exact rfl)
        | (apply aops_load_loc; exact rfl; exact rfl; exact rfl; exact rfl; exact rfl)
        | (apply aops_store_loc; exact rfl; exact rfl; exact rfl; exact rfl; exact rfl; exact rfl; exact rfl; exact rfl; exact rfl; exact rfl; exact rfl)
        | apply awp_skip
        | apply awp_ret
        | (apply aops_call1; exact Tryz.call78; exact foldLines1_c _ _ hf1 hf2 hc)
        | (apply aops_indexAddr (n := pre.length); exact rfl; exact rfl; exact rfl; exact rfl; exact rfl; exact hget))
      refine aret_plain rfl (ares_two rfl) ⟨?_, ext_end _ _ _ _⟩
      unfold foldA
      have h0 : errF xs = checkF f := by rw [hr]; exact errF_at hg hc
      rw [h0, if_neg hc, errN_ne hc]
      rfl
end Go.Proofs.YtplagcbifecagaaGreatDoor
set_option maxRecDepth 100000
set_option linter.unusedVariables false
namespace Go.Proofs.YtplagcbifecagaaGreatDoor
open Go Go.Av Go.RowKit Go.Proofs Go.Pl
theorem kind_four {l : Bytes} : kindOf l = 4 ↔ 10 ∉ l ∧ 58 ∈ l ∧ keyOk (keyPart l) := by
  unfold kindOf
  by_cases h10 : 10 ∈ l
  · simp [h10]
  · rw [if_neg h10]
    constructor
    · intro h
      split at h
      · simp at h
      · split at h
        · simp at h
        · split at h
          · simp at h
          · split at h
            · rename_i hk; exact ⟨h10, hk.1, hk.2⟩
            · simp at h
    · rintro ⟨_, h58, hk⟩
      obtain ⟨c, hc, hb, h35⟩ := key_notAllBlank hk
      have hh : l.head? = some c := by
        cases l with
        | nil => simp at h58
        | cons a r =>
          unfold keyPart at hc
          rw [List.takeWhile_cons] at hc
          split at hc
          · simpa using hc
          · simp at hc
      have hmem : c ∈ l := List.mem_of_head? hh
      rw [if_neg (fun h' => hb (h' c hmem)), if_neg (by rw [hh]; simpa using h35), if_neg (fun ⟨d, hd, hd'⟩ => by rw [hh] at hd; cases hd; exact hb hd'), if_pos ⟨h58, hk⟩]
structure LsB (ls : List Bytes) : Prop where
  len : ls.length < 1000000
  val : ∀ s ∈ ls, s.length < 1000000
theorem joinE_c (xs : List Bytes) (tip : Option Nat) (sep v : Bytes) (st : List AObj) (h : Lib.join xs sep = v) (hN : xs.length ≤ 140737488355328) (hl : v.length ≤ 140737488355328) : ACall E 80 [.sl 1 (xs.map fun x => Sv x) tip, Sv sep] st fun r st' => r = Sv v ∧ st' = st := by
  subst h
  exact join_c xs tip sep st hN hl
end Go.Proofs.YtplagcbifecagaaGreatDoor
set_option maxRecDepth 100000
set_option linter.unusedVariables false
namespace Go.Pl
open Go Go.Proofs
def whole (l : Bytes) : Prop := l = [] ∨ l.getLast? = some 10
end Go.Pl
set_option maxRecDepth 100000
set_option linter.unusedVariables false
namespace Go.Pl
open Go Go.Proofs
def indF (by' : Bytes) (ls : List (Bytes × Bool)) : Bytes := ls.flatMap fun x => by' ++ x.1 ++ lineEnd x.2
def indentF (by' l : Bytes) : Bytes := indF by' (linesOf l)
theorem indF_app (by' : Bytes) (a b : List (Bytes × Bool)) : indF by' (a ++ b) = indF by' a ++ indF by' b := by simp [indF]
theorem indF_one (by' : Bytes) (x : Bytes × Bool) : indF by' [x] = by' ++ x.1 ++ lineEnd x.2 := by simp [indF]
def lsum (ls : List (Bytes × Bool)) : Nat := (ls.map fun x => x.1.length + (lineEnd x.2).length).sum
theorem lines_sum : ∀ (n : Nat) (l : Bytes), l.length ≤ n → lsum (linesOf l) = l.length ∧ (linesOf l).length ≤ l.length
  | n, l, hn => by
    by_cases h : l = []
    · subst h; simp [linesOf_nil, lsum]
    · have hlt := past_lt (c := 10) h
      cases n with
      | zero => omega
      | succ n =>
        obtain ⟨h1, h2⟩ := lines_sum n (past 10 l) (by omega)
        rw [linesOf_cons h]
        unfold lsum at h1 ⊢
        simp only [List.map_cons, List.sum_cons, List.length_cons]
        rw [h1]
        have hp := past_length 10 l
        have hu := upto_length_le 10 l
        by_cases h10 : 10 ∈ l
        · have := upto_length_lt h10
          simp [h10, lineEnd]
          omega
        · have hu2 : (upto 10 l).length = l.length := by rw [upto_all h10]
          have hpos := List.length_pos_iff.2 h
          simp [h10, lineEnd]
          omega
theorem indF_len (by' : Bytes) : ∀ (ls : List (Bytes × Bool)), (indF by' ls).length = lsum ls + by'.length * ls.length
  | [] => by simp [indF, lsum]
  | x :: r => by
    have ih := indF_len by' r
    simp only [indF, lsum, List.flatMap_cons, List.length_append, List.map_cons, List.sum_cons, List.length_cons] at ih ⊢
    rw [ih, Nat.mul_add]
    omega
theorem lsum_app (a b : List (Bytes × Bool)) : lsum (a ++ b) = lsum a + lsum b := by simp [lsum]
end Go.Pl
namespace Go.Proofs.YtplagcbifecagaaGreatDoor
open Go Go.Av Go.RowKit Go.Proofs Go.Pl
theorem split_loc (text : List UInt8) (st loc : List AObj) (n : Nat) (hn : loc.length = n) : ACall E 52 [Sv text] (st ++ loc) fun r st1 => r = .fn (.func 85) [] [.bx (st.length + n) 0 0] ∧ st1 = st ++ (loc ++ [.cells 0 9 [Sv text]]) :=
  split_c text (st ++ loc) _ (st.length + n) (by simp [hn]) (by rw [List.append_assoc])
theorem joinOne_c (b sep : Bytes) (st : List AObj) (hl : b.length ≤ 140737488355328) : ACall E 80 [.sl 1 [Sv b] none, Sv sep] st fun r st' => r = Sv b ∧ st' = st :=
  joinE_c [b] none sep b st (by simp [Lib.join, List.intercalate]) (by simp) hl
theorem len_eq {st a b ext : List AObj} {m : Nat} (h : ((st ++ a) ++ ext).length = m) (e : b.length = a.length) : ((st ++ b) ++ ext).length = m := by
  simp only [List.length_append] at h ⊢
  omega
set_option maxHeartbeats 2000000 in
theorem indent_c (text by' : Bytes) (st : List AObj) (hl : text.length < 100000000) (hb : by'.length < 1000) : ACall E 42 [Sv text, .sl 1 [Sv by'] none] st fun r st' => r = Sv (indentF by' text) ∧ st' = st := by
  refine acall_pure (pure_v _) (acall_of_awp Tryz.func42 rfl (Nat.le_of_ble_eq_true rfl) ?_)
  obtain ⟨hsum, hcnt⟩ := lines_sum _ text (Nat.le_refl _)
  repeat' (first
    | (apply aops_allocB; exact rfl)
    | apply awp_seq
    | apply awp_block
    | apply awp_region
    | apply aops_nil
    | apply aops_move
    | apply aops_assign
    | (apply aops_alloc; exact rfl; exact rfl)
    | (apply aops_store_loc; exact rfl; exact rfl; exact rfl; exact rfl; exact rfl; exact rfl; exact rfl; exact rfl; exact rfl; exact rfl; exact rfl)
    | (apply aops_call1; exact Tryz.call80; exact joinOne_c _ _ _ (by omega))
    | (refine aops_call1 Tryz.call52 (split_loc _ _ _ _ rfl) ?_))
  refine awp_rangeSplit (st := st) text rfl rfl (by omega) (fun k rest l => ∃ q don, (q = .v (.pointer none) ∨ q = .bx (st.length + 0) 0 0) ∧ linesOf text = don ++ linesOf rest ∧ l = [bldO 0 q (indF by' don) (st.length + 1), .tip (indF by' don).length 1 5, .cells 0 9 [Sv by'], .cells 0 9 [Sv text]]) (fun _ _ => False)
    ⟨_, [], .inl rfl, rfl, rfl⟩ (fun k rest l ⟨q, don, _, _, e⟩ => by subst e; exact ⟨rfl, rfl⟩) (fun _ _ h => h.elim) ?_ ?_ (fun _ _ _ h => h.elim)
  · rintro F own rd k rest _ ext m hF ⟨q, don, hq, hd, rfl⟩ hne hle hm1 hm2
    have hmem : linesOf rest = (upto 10 rest, decide (10 ∈ rest)) :: linesOf (past 10 rest) := linesOf_cons hne
    have hu := upto_length_le 10 rest
    have hlen := indF_len by' (don ++ [(upto 10 rest, decide (10 ∈ rest))])
    have he : linesOf text = (don ++ [(upto 10 rest, decide (10 ∈ rest))]) ++ linesOf (past 10 rest) := by rw [hd, hmem]; simp
    have hs2 : lsum (don ++ [(upto 10 rest, decide (10 ∈ rest))]) + lsum (linesOf (past 10 rest)) = text.length := by rw [← lsum_app, ← he]; exact hsum
    have hc2 : (don ++ [(upto 10 rest, decide (10 ∈ rest))]).length + (linesOf (past 10 rest)).length ≤ text.length := by rw [← List.length_append, ← he]; exact hcnt
    have hm : by'.length * (don ++ [(upto 10 rest, decide (10 ∈ rest))]).length ≤ 1000 * 100000000 := Nat.mul_le_mul (by omega) (by omega)
    rw [indF_app, indF_one] at hlen
    simp only [List.length_append] at hlen hm hc2
    repeat' (first
      | (apply aops_allocN; exact rfl; assumption; exact rfl)
      | (apply aops_store_locn; exact rfl; assumption; exact rfl; exact rfl; exact rfl; exact rfl; exact rfl; exact rfl; exact rfl; exact rfl; exact rfl; exact rfl)
      | apply awp_region
      | apply aops_nil)
    refine ⟨_, rfl, rfl, ?_⟩
    repeat' (first
      | apply awp_seq
      | apply awp_block
      | apply awp_region
      | apply aops_nil
      | (apply awp_cond_any; exact rfl; first | (apply cd_dt; (first | assumption | omega)) | (apply cd_df; (first | assumption | omega)) | (apply cd_nt; (first | exact rfl | assumption)) | (apply cd_nf; (first | exact rfl | assumption)) | (apply cd_n <;> intro h) | (apply cd_t; (first | exact rfl | assumption)) | (apply cd_f; (first | exact rfl | assumption)) | (apply cd_d <;> intro h) | (apply cd_s <;> intro h))
      | (apply aops_concat; exact rfl; exact rfl; (first | omega | (simp only [List.length_append, List.length_cons, List.length_nil]; omega) | (simp; omega)))
      | (apply aops_fieldAddr_bx; exact rfl; exact rfl; exact rfl)
      | (apply aops_load_mid; exact rfl; exact rfl; exact rfl; exact rfl; exact rfl)
      | apply awp_skip
      | (apply aops_load_locn; exact rfl; exact len_eq hm2 rfl; exact rfl; exact rfl; exact rfl; exact rfl)
      | (refine aops_call1 Tryz.call41 (bWrite_mid st _ _ _ _ 0 1 0 _ _ _ rfl rfl ?_ ?_ rfl) ?_; (first | exact hq | exact .inr rfl); (simp only [List.length_append, List.length_cons, List.length_nil]; omega)))
    all_goals
      have hx : indF by' (don ++ [(upto 10 rest, decide (10 ∈ rest))]) = (indF by' don ++ (by' ++ upto 10 rest)) ++ lineEnd (decide (10 ∈ rest)) := by
        rw [indF_app, indF_one]; simp
      refine ⟨[bldO 0 (.bx (st.length + 0) 0 0) (indF by' (don ++ [(upto 10 rest, decide (10 ∈ rest))])) (st.length + 1), .tip (indF by' (don ++ [(upto 10 rest, decide (10 ∈ rest))])).length 1 5, .cells 0 9 [Sv by'], .cells 0 9 [Sv text]], ext, [.cells 0 102 (lineA k text rest).cells], ?_, _, _, .inr rfl, he, rfl⟩
    · have h10 : 10 ∈ rest := by simp_all
      rw [hx, show lineEnd (decide (10 ∈ rest)) = [10] by simp [h10, lineEnd]]
      rfl
    · have h10 : 10 ∉ rest := by simp_all
      have hx2 : indF by' (don ++ [(upto 10 rest, decide (10 ∈ rest))]) = indF by' don ++ (by' ++ upto 10 rest) := by
        rw [hx]; simp [h10, lineEnd]
      rw [hx2]
      rfl
  · rintro k _ ext ⟨q, don, hq, hd, rfl⟩
    repeat' (first
      | apply awp_seq
      | apply awp_region
      | apply aops_nil
      | apply aops_assign
      | apply awp_ret
      | (refine aops_call1 Tryz.call43 (bString_mid st _ _ _ _ 0 1 0 _ _ rfl rfl rfl) ?_))
    refine aret_mark_mid (k := 4) rfl rfl rfl (aret_plain rfl (ares_one rfl) ⟨congrArg (fun l : Bytes => Sv l) (?_ : _ = indentF by' text), ext_end _ _ _ _⟩)
    rw [linesOf_nil, List.append_nil] at hd
    unfold indentF
    rw [hd]
end Go.Proofs.YtplagcbifecagaaGreatDoor
set_option linter.unusedVariables false
namespace Go.Av
open Go Go.RowKit
def TipC (b : Nat) (st : List AObj) (sz : Nat) (T : TypeId) (xs : List AV) (c : AV) : Prop := (xs = [] ∧ c = nilSl) ∨ ∃ t, c = .sl sz xs (some t) ∧ st[t]? = some (.tip xs.length sz T) ∧ b ≤ t
theorem tipC_pre {b : Nat} {st l : List AObj} {sz : Nat} {T : TypeId} {xs : List AV} {c : AV} (h : TipC b st sz T xs c) : TipC b (st ++ l) sz T xs c := by
  rcases h with h | ⟨t, h1, h2, h3⟩
  · exact .inl h
  · exact .inr ⟨t, h1, by rw [List.getElem?_append_left (lt_of_getElem? h2)]; exact h2, h3⟩
section
variable {E : Env} {rd : Option Nat} {N : Nat} {ops : Array Oper} {K : AS → Prop} {s : AS} {rest : List Oper} {d : Option Tmp} {T : TypeId} {p : String} {af : Array Edge}
theorem aops_boxP {t : TypeId} {x : Operand} {r : AV} {cs : List AV} (hx : aeval N s x = r) (hok : r.okc = true) (hc : r.cells = cs)
    (h : AOps E rd N ops rest K (s.put d (.pp cs))) : AOps E rd N ops (⟨d, .box t x, T, p, af, none⟩ :: rest) K s := by
  refine aops_cons rfl (aop_of_run nofun fun B0 w0 G a w _ hI => ?_)
  have hr := (hI.eval_of hx).cells hok
  rw [hc] at hr
  obtain ⟨hle, hA⟩ := hI.agree.newPub t (a.eval x).cells (0, 0) (a.eval x).cells.toList (fun i y hy => by simpa using hy)
  have hrun : (execOp a.eval ⟨d, .box t x, T, p, af, none⟩).run E.P w = .ok (.value (.pointer (some ⟨w.heap.size, 0, none⟩))) (w.alloc (.cells (a.eval x).cells t)) := by
    generalize a.eval = ρ
    simp [execOp, Instr.box, newVar, newRow, newObj, Sem.run]
  refine ⟨_, _, _, .pp cs, s.st, hrun, hle, hA, .pp cs w.heap.size 0 (a.eval x).cells.toList (by simp [Gh.publish]) (by rw [hr.1]; simp) fun i x y hx hy => (hr.2 i x y hx (by simpa using hy)).mono hle, h⟩
end
theorem get_pre' {st l : List AObj} {o : Nat} {x : AObj} (h : st[o]? = some x) : (st ++ l)[o]? = some x := by
  rw [List.getElem?_append_left (lt_of_getElem? h)]; exact h
theorem get_end {st : List AObj} {x : AObj} : (st ++ [x])[st.length]? = some x := by simp
theorem ext_of_low {st st' : List AObj} (hl : st.length ≤ st'.length) (h : ∀ k, k < st.length → st'[k]? = st[k]?) : ∃ ext, st' = st ++ ext := by
  refine ⟨st'.drop st.length, ?_⟩
  apply List.ext_getElem?
  intro k
  by_cases hk : k < st.length
  · rw [h k hk, List.getElem?_append_left hk]
  · rw [List.getElem?_append_right (by omega), List.getElem?_drop]
    congr 1
    omega
end Go.Av
set_option maxRecDepth 100000
set_option linter.unusedVariables false
namespace Go.Pl
open Go Go.Proofs
structure ItemV where
  kind : Int
  raw : Bytes
  fields : List Fld
structure PSt where
  lines : List Bytes
  frm : Int
  full : Bool
  items : List ItemV
  block : List Bytes
  fields : List Fld
  records : Int
def flushP (p : PSt) : Option (Int × Int) × PSt :=
  if p.lines = [] then (none, p)
  else if (unfoldF p.lines).2 ≠ 0 then (some (p.frm, (unfoldF p.lines).2), p)
  else if p.full = true then (some (p.frm, 11), p)
  else (none, { p with lines := [], fields := p.fields ++ [(unfoldF p.lines).1] })
end Go.Pl
namespace Go.Proofs.YtplagcbifecagaaGreatDoor
open Go Go.Av Go.RowKit Go.Proofs Go.Pl
@[reducible] def itemA (x : ItemV) : AV := .ag [Iv x.kind, Sv x.raw, fldsA x.fields]
@[reducible] def parC (c1 c2 c3 c4 : AV) (p : PSt) : List AV := [c1, Iv p.frm, Bv p.full, c2, c3, c4, Iv p.records]
@[reducible] def parO (c1 c2 c3 c4 : AV) (p : PSt) : AObj := .cells 0 140 (parC c1 c2 c3 c4 p)
structure ParS (b o : Nat) (p : PSt) (st : List AObj) (c1 c2 c3 c4 : AV) : Prop where
  lt : o < b
  le : b ≤ st.length
  ob : st[o]? = some (parO c1 c2 c3 c4 p)
  h1 : TipC b st 1 9 (p.lines.map fun x => Sv x) c1
  h2 : TipC b st 3 144 (p.items.map itemA) c2
  h3 : TipC b st 1 9 (p.block.map fun x => Sv x) c3
  h4 : TipC b st 2 58 (p.fields.map fldA) c4
  ne : ∀ t xs ys, c1 = .sl 1 xs (some t) → c3 = .sl 1 ys (some t) → False
def notTip (x : Option AObj) : Prop := ∀ n sz T, x ≠ some (.tip n sz T)
structure Keep (b o : Nat) (st st' : List AObj) : Prop where
  len : st.length ≤ st'.length
  same : ∀ k, k ≠ o → k < st.length → (k < b ∨ notTip st[k]?) → st'[k]? = st[k]?
theorem Keep.trans {b o : Nat} {st st' st'' : List AObj} (h : Keep b o st st') (k : Keep b o st' st'') : Keep b o st st'' := ⟨Nat.le_trans h.len k.len, fun i hne hi hc => by
  have e := h.same i hne hi hc
  refine (k.same i hne (Nat.lt_of_lt_of_le hi h.len) ?_).trans e
  rw [e]
  exact hc⟩
def faultA (a n : Int) : AV := .ifc 92 (.pp [Iv a, .ifc 31 (Iv n)])
theorem faultA_pure (a n : Int) : Pure (faultA a n) := pure_ifc (pure_pp fun x hx => by
  simp only [List.mem_cons, List.not_mem_nil, or_false] at hx
  rcases hx with rfl | rfl
  · exact pure_v _
  · exact pure_ifc (pure_v _))
structure PB (n : Nat) (p : PSt) : Prop where
  small : n < 900000
  lines : p.lines.length ≤ n
  linesV : ∀ s ∈ p.lines, s.length < 1000000
  items : p.items.length ≤ n
  block : p.block.length ≤ n
  blockV : ∀ s ∈ p.block, s.length < 1000000
  fields : p.fields.length ≤ n
  rec0 : 0 ≤ p.records
  rec1 : p.records ≤ n
theorem PB.ls {n : Nat} {p : PSt} (h : PB n p) : LsB p.lines := ⟨by have := h.lines; have := h.small; omega, h.linesV⟩
theorem ParS.pre {b o : Nat} {p : PSt} {st l : List AObj} {c1 c2 c3 c4 : AV} (P : ParS b o p st c1 c2 c3 c4) : ParS b o p (st ++ l) c1 c2 c3 c4 :=
  ⟨P.lt, by have := P.le; simp; omega, get_pre' P.ob, tipC_pre P.h1, tipC_pre P.h2, tipC_pre P.h3, tipC_pre P.h4, P.ne⟩
end Go.Proofs.YtplagcbifecagaaGreatDoor
set_option maxRecDepth 100000
set_option linter.unusedVariables false
namespace Go.Pl
open Go Go.Proofs
def closeP (p : PSt) : PSt :=
  if p.block = [] then { p with block := [], fields := [] }
  else { p with items := p.items ++ [⟨if p.fields = [] then 2 else 3, textF p.block, p.fields⟩], records := if p.fields = [] then p.records else p.records + 1, block := [], fields := [] }
def endP (p : PSt) : Option (Int × Int) × PSt := match (flushP p).1 with
  | some e => (some e, p)
  | none => (none, closeP (flushP p).2)
end Go.Pl
set_option maxRecDepth 100000
set_option linter.unusedVariables false
namespace Go.Pl
open Go Go.Proofs
def beginP (p : PSt) (no : Int) (text : Bytes) : PSt := { p with lines := [text], frm := no, full := decide (p.fields.length = 40 ∨ (p.fields.length = 0 ∧ p.records = 400)) }
def aheadP (p : PSt) (no : Int) (text : Bytes) (ended : Bool) (kind : Int) : Option (Int × Int) × PSt :=
  if kind = 3 then
    if p.lines = [] then (some (no, 2), p)
    else if ended = true then (none, { p with lines := p.lines ++ [text] })
    else flushP { p with lines := p.lines ++ [text] }
  else if kind = 1 then endP p
  else flushP p
end Go.Pl
set_option maxRecDepth 100000
set_option linter.unusedVariables false
namespace Go.Pl
open Go Go.Proofs
def takeP (p : PSt) (no : Int) (text : Bytes) (ended : Bool) : Option (Int × Int) × PSt :=
  match (aheadP p no text ended (kindOf text)).1 with
  | some e => (some e, p)
  | none =>
    if kindOf text = 5 ∨ ended = false then (some (no, 2), p)
    else if kindOf text = 1 then (none, { (aheadP p no text ended (kindOf text)).2 with items := (aheadP p no text ended (kindOf text)).2.items ++ [⟨1, text ++ [10], []⟩] })
    else if kindOf text = 4 then (none, { beginP (aheadP p no text ended (kindOf text)).2 no text with block := (aheadP p no text ended (kindOf text)).2.block ++ [text] })
    else (none, { (aheadP p no text ended (kindOf text)).2 with block := (aheadP p no text ended (kindOf text)).2.block ++ [text] })
end Go.Pl
set_option maxRecDepth 100000
set_option linter.unusedVariables false
namespace Go.Proofs.YtplagcbifecagaaGreatDoor
open Go Go.Av Go.RowKit Go.Proofs Go.Pl
structure Ext (n : Nat) (S S' : List AObj) : Prop where
  len : S.length ≤ S'.length
  low : ∀ k, k < n → S'[k]? = S[k]?
  tips : ∀ (t m sz : Nat) (T : TypeId), S[t]? = some (AObj.tip m sz T) → S'[t]? = S[t]?
theorem Ext.trans {n : Nat} {S S' S'' : List AObj} (h : Ext n S S') (k : Ext n S' S'') : Ext n S S'' := ⟨Nat.le_trans h.len k.len, fun i hi => (k.low i hi).trans (h.low i hi), fun t m sz T ht => (k.tips t m sz T ((h.tips t m sz T ht).trans ht)).trans (h.tips t m sz T ht)⟩
end Go.Proofs.YtplagcbifecagaaGreatDoor
set_option maxRecDepth 100000
set_option linter.unusedVariables false
namespace Go.Pl
open Go Go.Proofs
def p0 : PSt := ⟨[], 0, false, [], [], [], 0⟩
def runL : Nat → List (Bytes × Bool) → PSt → Option (Int × Int) × PSt
  | _, [], p => endP p
  | k, (t, e) :: r, p => match (takeP p k t e).1 with
    | some x => (some x, p)
    | none => runL (k + 1) r (takeP p k t e).2
end Go.Pl
namespace Go.Proofs.YtplagcbifecagaaGreatDoor
open Go Go.Av Go.RowKit Go.Proofs Go.Pl
theorem pure_tu2 {x y : AV} (hx : Pure x) (hy : Pure y) : Pure (.tu [x, y]) := pure_tu fun z hz => by
  simp only [List.mem_cons, List.not_mem_nil, or_false] at hz
  rcases hz with rfl | rfl
  · exact hx
  · exact hy
theorem Keep.get {b o k : Nat} {S S' : List AObj} {x : AObj} (h : Keep b o S S') (hx : S[k]? = some x) (hne : k ≠ o) (hc : k < b ∨ notTip (some x)) : S'[k]? = some x := (h.same k hne (lt_of_getElem? hx) (by rw [hx]; exact hc)).trans hx
theorem get_set_low {S : List AObj} {o k : Nat} {x : AObj} (h : k ≠ o) : (S.set o x)[k]? = S[k]? := List.getElem?_set_ne (Ne.symm h)
structure ParsI (st : List AObj) (text : Bytes) (r1 r2 : AV) (S : List AObj) : Prop where
  low : ∀ j, j < st.length → S[j]? = st[j]?
  c0 : S[st.length + 0]? = some (.cells 0 113 [r1])
  c1 : S[st.length + 1]? = some (.cells 0 25 [r2])
  c3 : S[st.length + 3]? = some (.cells 0 136 [.bx (st.length + 2) 0 0])
  c4 : S[st.length + 4]? = some (.cells 0 9 [Sv text])
theorem ParsI.ext {st : List AObj} {text : Bytes} {r1 r2 : AV} {S S' : List AObj} (h : ParsI st text r1 r2 S) (hE : Ext (st.length + 5) S S') : ParsI st text r1 r2 S' :=
  ⟨fun j hj => (hE.low j (by omega)).trans (h.low j hj), (hE.low _ (by omega)).trans h.c0, (hE.low _ (by omega)).trans h.c1, (hE.low _ (by omega)).trans h.c3, (hE.low _ (by omega)).trans h.c4⟩
end Go.Proofs.YtplagcbifecagaaGreatDoor
set_option maxRecDepth 100000
set_option linter.unusedVariables false
namespace Go.Proofs.YtplagcbifecagaaGreatDoor
open Go Go.RowKit Go.Extern.Stop Go.Stop Go.Extern Go.Proofs
theorem asT.valueOf27 (t : Addr) (w : World) : (ReflectliteValue.unpack (.iface 180 (.pointer (some t)))).run Tryz.prog w
    = .ok (.agg #[.pointer (some ⟨9, 180, none⟩), .pointer (some ⟨w.heap.size, 0, none⟩), .int .u64 150]) (w.alloc (.cells #[.pointer (some t)] 180)) := by kernel_rfl
theorem asT.type27 (a : Addr) (w : World) : (ReflectliteValue.methodAny (ReflectliteValue.valueError "reflectlite.Value.Type" 0) (fun t _ _ _ => ReflectliteType.toType t) #[.agg #[.pointer (some ⟨9, 180, none⟩), .pointer (some a), .int .u64 150]]).run Tryz.prog w
    = .ok (.iface 225 (.agg #[.pointer (some ⟨9, 180, none⟩)])) w := by kernel_rfl
theorem asT.methodKind (h : Value) (w : World) : (Go.method 371 225 (.agg #[h]) "Kind").run Tryz.prog w = .ok (207, h) w := by kernel_rfl
theorem asT.kind27 (w : World) : ((ReflectliteType.abiMethod fun t => (fun a : Nat => Value.int IntKind.u8 (a : Int)) <$> Rtype.kind t) #[.pointer (some ⟨9, 180, none⟩)]).run Tryz.prog w = .ok (.int .u8 22) w := by kernel_rfl
theorem asT.kind25 (w : World) : ((ReflectliteType.abiMethod fun t => (fun a : Nat => Value.int IntKind.u8 (a : Int)) <$> Rtype.kind t) #[.pointer (some ⟨9, 92, none⟩)]).run Tryz.prog w = .ok (.int .u8 22) w := by kernel_rfl
theorem rlm (z : Sem Value) (f : TypeId → Addr → Nat → Nat → Sem Value) (v : Value) :
    ReflectliteValue.method z f #[v] = (do match ← ReflectliteValue.parts v with | none => z | some (t, a, fl) => f t a fl (fl % 32)) := rfl
theorem asT.parts27 (a : Addr) (w : World) : (ReflectliteValue.parts (.agg #[.pointer (some ⟨9, 180, none⟩), .pointer (some a), .int .u64 150])).run Tryz.prog w = .ok (some (180, a, 150)) w := by kernel_rfl
theorem asT.isNil27 (a p : Addr) (W : World) (ha : W.cell? a = some (.pointer (some p))) :
    (ReflectliteValue.method (ReflectliteValue.valueError "reflectlite.Value.IsNil" 0) ReflectliteValue.isNil #[.agg #[.pointer (some ⟨9, 180, none⟩), .pointer (some a), .int .u64 150]]).run Tryz.prog W = .ok (.bool false) W := by
  rw [rlm]
  simp only [Sem.run_bind, asT.parts27, Result.andThen]
  simp [ReflectliteValue.isNil, loadVar, isAgg, underlying, Tryz.underlying180, ha, Result.andThen]
theorem asT.methodElem (h : Value) (w : World) : (Go.method 371 225 (.agg #[h]) "Elem").run Tryz.prog w = .ok (224, .agg #[h]) w := by kernel_rfl
theorem asT.methodImplements (h : Value) (w : World) : (Go.method 371 225 (.agg #[h]) "Implements").run Tryz.prog w = .ok (225, .agg #[h]) w := by kernel_rfl
theorem asT.methodAssignableTo (h : Value) (w : World) : (Go.method 371 225 (.agg #[h]) "AssignableTo").run Tryz.prog w = .ok (222, .agg #[h]) w := by kernel_rfl
theorem asT.elem27 (w : World) : (ReflectliteType.method ReflectliteType.elem #[.agg #[.pointer (some ⟨9, 180, none⟩)]]).run Tryz.prog w = .ok (.iface 225 (.agg #[.pointer (some ⟨9, 92, none⟩)])) w := by kernel_rfl
theorem asT.implements25 (w : World) : (ReflectliteType.relation "Implements" ReflectliteType.implements_ #[.agg #[.pointer (some ⟨9, 92, none⟩)], .iface 225 (.agg #[.pointer (some ⟨9, 25, none⟩)])]).run Tryz.prog w = .ok (.bool true) w := by kernel_rfl
theorem asT.typeOf25 (v : Value) (w : World) : (ReflectliteType.typeOf #[.iface 92 v]).run Tryz.prog w = .ok (.iface 225 (.agg #[.pointer (some ⟨9, 92, none⟩)])) w := by kernel_rfl
theorem asT.assignable25 (w : World) : (ReflectliteType.relation "AssignableTo" ReflectliteType.assignableTo #[.agg #[.pointer (some ⟨9, 92, none⟩)], .iface 225 (.agg #[.pointer (some ⟨9, 92, none⟩)])]).run Tryz.prog w = .ok (.bool true) w := by kernel_rfl
theorem asT.valueOf25 (e : Addr) (w : World) : (ReflectliteValue.unpack (.iface 92 (.pointer (some e)))).run Tryz.prog w
    = .ok (.agg #[.pointer (some ⟨9, 92, none⟩), .pointer (some ⟨w.heap.size, 0, none⟩), .int .u64 150]) (w.alloc (.cells #[.pointer (some e)] 92)) := by kernel_rfl
theorem asT.elemOf27 (w : World) : (Rtype.elem? 180).run Tryz.prog w = .ok (some 92) w := by kernel_rfl
theorem asT.mk25 (p : Addr) (w : World) : (ReflectliteValue.mk 92 p ReflectliteValue.flagAddr).run Tryz.prog w = .ok (.agg #[.pointer (some ⟨9, 92, none⟩), .pointer (some p), .int .u64 406]) w := by kernel_rfl
theorem asT.elemV27 (a p : Addr) (W : World) (ha : W.cell? a = some (.pointer (some p))) :
    (ReflectliteValue.method (ReflectliteValue.valueError "reflectlite.Value.Elem" 0) ReflectliteValue.elem #[.agg #[.pointer (some ⟨9, 180, none⟩), .pointer (some a), .int .u64 150]]).run Tryz.prog W
      = .ok (.agg #[.pointer (some ⟨9, 92, none⟩), .pointer (some p), .int .u64 406]) W := by
  rw [rlm]
  simp only [Sem.run_bind, asT.parts27, Result.andThen]
  simp [ReflectliteValue.elem, loadVar, isAgg, underlying, Tryz.underlying180, ha, Result.andThen, asT.elemOf27, asT.mk25]
theorem rls (v x : Value) : ReflectliteValue.set #[v, x] = (do
    let (some (dst, a, fl), some (src, b, _)) := (← ReflectliteValue.parts v, ← ReflectliteValue.parts x)
      | unsupported (.noEntry "extern/(internal/reflectlite.Value).Set.zeroValue")
    if fl / ReflectliteValue.flagAddr % 2 == 0 then unsupported (.noEntry "extern/(internal/reflectlite.Value).Set.unaddressable")
    let val ← loadVar src b
    if ← Rtype.directlyAssignable dst src then storeVar dst a val
    else if ← Rtype.implements dst src then
      if (← Rtype.kind src) == 20 then
        match val with
        | .nilIface => unsupported (.noEntry "extern/reflectlite: a nil value of one interface type handed on as a value of another")
        | _ => storeVar dst a val
      else storeVar dst a (.iface src val)
    else panicString ("reflectlite.Set: value of type " ++ (← Rtype.spelt src) ++ " is not assignable to type " ++ (← Rtype.spelt dst))
    pure (.tuple #[])) := rfl
theorem asT.parts25a (a : Addr) (w : World) : (ReflectliteValue.parts (.agg #[.pointer (some ⟨9, 92, none⟩), .pointer (some a), .int .u64 406])).run Tryz.prog w = .ok (some (92, a, 406)) w := by kernel_rfl
theorem asT.parts25 (a : Addr) (w : World) : (ReflectliteValue.parts (.agg #[.pointer (some ⟨9, 92, none⟩), .pointer (some a), .int .u64 150])).run Tryz.prog w = .ok (some (92, a, 150)) w := by kernel_rfl
theorem asT.direct25 (w : World) : (Rtype.directlyAssignable 92 92).run Tryz.prog w = .ok true w := by kernel_rfl
theorem asT.set25 (ta b e : Addr) (old : Value) (W : World) (hb : W.cell? b = some (.pointer (some e))) (ht : W.cell? ta = some old) (hf : W.frozen? ta = false) :
    (ReflectliteValue.set #[.agg #[.pointer (some ⟨9, 92, none⟩), .pointer (some ta), .int .u64 406], .agg #[.pointer (some ⟨9, 92, none⟩), .pointer (some b), .int .u64 150]]).run Tryz.prog W
      = .ok (.tuple #[]) (W.setCell ta (.pointer (some e))) := by
  rw [rls]
  simp only [Sem.run_bind, asT.parts25a, asT.parts25, Result.andThen]
  simp [ReflectliteValue.flagAddr, loadVar, isAgg, underlying, Tryz.underlying92, hb, Result.andThen, asT.direct25, storeVar, Value.cells, storeCells, Addr.add]
  rw [run_store Tryz.prog W ta _ _ (by rfl)]
  simp [ht, hf]
set_option maxHeartbeats 4000000 in
theorem as_hit (e t : Addr) (old : Value) (w : World) (hg : w.cell? ⟨3, 0, none⟩ = some (.iface 225 (.agg #[.pointer (some ⟨9, 25, none⟩)]))) (ht0 : w.cell? t = some old) (hf0 : w.frozen? t = false) :
    Calls Tryz.prog 144 #[.iface 92 (.pointer (some e)), .iface 180 (.pointer (some t))] w fun ev w' => ev = .returned (.bool true) ∧ w' = ((((w.alloc (.cells #[.pointer (some t)] 180)).alloc (.cells #[.pointer (some ⟨9, 180, none⟩), .pointer (some ⟨w.heap.size, 0, none⟩), .int .u64 150] 203)).alloc (.cells #[.pointer (some ⟨9, 180, none⟩), .pointer (some ⟨w.heap.size, 0, none⟩), .int .u64 150] 203)).alloc (.cells #[.pointer (some e)] 92)).setCell t (.pointer (some e)) := by
  have h6 := @run_callFunc_extern Tryz.prog 167 _ (fun args => ReflectliteValue.unpack (args.getD 0 (.tuple #[]))) Tryz.func167 (by kernel_rfl) (by kernel_rfl) (by kernel_rfl) (by kernel_rfl)
  have h7 := @run_callFunc_extern Tryz.prog 168 _ (ReflectliteValue.methodAny (ReflectliteValue.valueError "reflectlite.Value.Type" 0) (fun t _ _ _ => ReflectliteType.toType t)) Tryz.func168 (by kernel_rfl) (by kernel_rfl) (by kernel_rfl) (by kernel_rfl)
  have h8 := @run_callFunc_extern Tryz.prog 169 _ (ReflectliteValue.method (ReflectliteValue.valueError "reflectlite.Value.IsNil" 0) ReflectliteValue.isNil) Tryz.func169 (by kernel_rfl) (by kernel_rfl) (by kernel_rfl) (by kernel_rfl)
  have h27 := @run_callFunc_extern Tryz.prog 207 _ (ReflectliteType.abiMethod fun t => do pure (.int .u8 (← Rtype.kind t))) Tryz.func207 (by kernel_rfl) (by kernel_rfl) (by kernel_rfl) (by kernel_rfl)
  have h37 := @run_callFunc_extern Tryz.prog 224 _ (ReflectliteType.method ReflectliteType.elem) Tryz.func224 (by kernel_rfl) (by kernel_rfl) (by kernel_rfl) (by kernel_rfl)
  have h38 := @run_callFunc_extern Tryz.prog 225 _ (ReflectliteType.relation "Implements" ReflectliteType.implements_) Tryz.func225 (by kernel_rfl) (by kernel_rfl) (by kernel_rfl) (by kernel_rfl)
  have h10 := @run_callFunc_extern Tryz.prog 185 _ ReflectliteType.typeOf Tryz.func185 (by kernel_rfl) (by kernel_rfl) (by kernel_rfl) (by kernel_rfl)
  have h35 := @run_callFunc_extern Tryz.prog 222 _ (ReflectliteType.relation "AssignableTo" ReflectliteType.assignableTo) Tryz.func222 (by kernel_rfl) (by kernel_rfl) (by kernel_rfl) (by kernel_rfl)
  have h11 := @run_callFunc_extern Tryz.prog 186 _ (ReflectliteValue.method (ReflectliteValue.valueError "reflectlite.Value.Elem" 0) ReflectliteValue.elem) Tryz.func186 (by kernel_rfl) (by kernel_rfl) (by kernel_rfl) (by kernel_rfl)
  have h12 := @run_callFunc_extern Tryz.prog 187 _ ReflectliteValue.set Tryz.func187 (by kernel_rfl) (by kernel_rfl) (by kernel_rfl) (by kernel_rfl)
  have tO := asT.typeOf25
  have mA := asT.methodAssignableTo
  have a25 := asT.assignable25
  have v25 := asT.valueOf25
  have f6 := asT.valueOf27
  have f7 := asT.type27
  have mK := asT.methodKind
  have mE := asT.methodElem
  have mI := asT.methodImplements
  have k27 := asT.kind27
  have k25 := asT.kind25
  have e27 := asT.elem27
  have i25 := asT.implements25
  have n8 := asT.isNil27 ⟨w.heap.size, 0, none⟩ t ((w.alloc (.cells #[.pointer (some t)] 180)).alloc (.cells #[.pointer (some ⟨9, 180, none⟩), .pointer (some ⟨w.heap.size, 0, none⟩), .int .u64 150] 203)) (by simp)
  have hlt : 3 < w.heap.size := by
    rcases Nat.lt_or_ge 3 w.heap.size with h | h
    · exact h
    · simp [World.cell?, Array.getElem?_eq_none h] at hg
  have hg2 : ((w.alloc (.cells #[.pointer (some t)] 180)).alloc (.cells #[.pointer (some ⟨9, 180, none⟩), .pointer (some ⟨w.heap.size, 0, none⟩), .int .u64 150] 203)).cell? ⟨3, 0, none⟩ = some (.iface 225 (.agg #[.pointer (some ⟨9, 25, none⟩)])) := by
    rw [World.cell?_alloc_lt _ _ ⟨3, 0, none⟩ (by simp; omega), World.cell?_alloc_lt _ _ ⟨3, 0, none⟩ hlt]; exact hg
  have htl : t.block < w.heap.size := by
    rcases Nat.lt_or_ge t.block w.heap.size with h | h
    · exact h
    · simp [World.cell?, Array.getElem?_eq_none h] at ht0
  have el := asT.elemV27 ⟨w.heap.size, 0, none⟩ t (((w.alloc (.cells #[.pointer (some t)] 180)).alloc (.cells #[.pointer (some ⟨9, 180, none⟩), .pointer (some ⟨w.heap.size, 0, none⟩), .int .u64 150] 203)).alloc (.cells #[.pointer (some ⟨9, 180, none⟩), .pointer (some ⟨w.heap.size, 0, none⟩), .int .u64 150] 203)) (by rw [World.cell?_alloc_lt _ _ ⟨w.heap.size, 0, none⟩ (by simp; omega)]; simp)
  have st := asT.set25 t ⟨w.heap.size + 1 + 1 + 1, 0, none⟩ e old ((((w.alloc (.cells #[.pointer (some t)] 180)).alloc (.cells #[.pointer (some ⟨9, 180, none⟩), .pointer (some ⟨w.heap.size, 0, none⟩), .int .u64 150] 203)).alloc (.cells #[.pointer (some ⟨9, 180, none⟩), .pointer (some ⟨w.heap.size, 0, none⟩), .int .u64 150] 203)).alloc (.cells #[.pointer (some e)] 92))
    (by rw [World.cell?_alloc_at _ _ _ _ (by simp)]; rfl)
    (by rw [World.cell?_alloc_lt _ _ t (by simp; omega), World.cell?_alloc_lt _ _ t (by simp; omega), World.cell?_alloc_lt _ _ t (by simp; omega), World.cell?_alloc_lt _ _ t htl]; exact ht0)
    (by rw [World.frozen?_alloc_old _ _ t (by simp; omega), World.frozen?_alloc_old _ _ t (by simp; omega), World.frozen?_alloc_old _ _ t (by simp; omega), World.frozen?_alloc_old _ _ t (Nat.ne_of_lt htl)]; exact hf0)
  go_enter Tryz.func144, Tryz.ntmps144
  go_wp2
  refine wp_loop_rounds 1 ?_
  rw [rounds_succ]
  go_wp2
  go_ret
  exact ⟨rfl, rfl⟩
end Go.Proofs.YtplagcbifecagaaGreatDoor
set_option maxRecDepth 100000
set_option linter.unusedVariables false
namespace Go.Proofs.YtplagcbifecagaaGreatDoor
open Go Go.RowKit Go.Extern.Stop Go.Stop Go.Extern Go.Proofs
theorem asT.typeOf31 (v : Value) (w : World) : (ReflectliteType.typeOf #[.iface 31 v]).run Tryz.prog w = .ok (.iface 225 (.agg #[.pointer (some ⟨9, 31, none⟩)])) w := by kernel_rfl
theorem asT.assignable31 (w : World) : (ReflectliteType.relation "AssignableTo" ReflectliteType.assignableTo #[.agg #[.pointer (some ⟨9, 31, none⟩)], .iface 225 (.agg #[.pointer (some ⟨9, 92, none⟩)])]).run Tryz.prog w = .ok (.bool false) w := by kernel_rfl
theorem asT.no230 (v : Value) (xT : TypeId) (w : World) : (Instr.typeAssert (.iface 31 v) xT 230 true).run Tryz.prog w = .ok (.tuple #[.nilIface, .bool false]) w := run_typeAssert_lacksB Tryz.underlying230 (by kernel_rfl) (by kernel_rfl) v xT w
theorem asT.no233 (v : Value) (xT : TypeId) (w : World) : (Instr.typeAssert (.iface 31 v) xT 233 true).run Tryz.prog w = .ok (.tuple #[.nilIface, .bool false]) w := run_typeAssert_lacksB Tryz.underlying233 (by kernel_rfl) (by kernel_rfl) v xT w
theorem asT.no234 (v : Value) (xT : TypeId) (w : World) : (Instr.typeAssert (.iface 31 v) xT 234 true).run Tryz.prog w = .ok (.tuple #[.nilIface, .bool false]) w := run_typeAssert_lacksB Tryz.underlying234 (by kernel_rfl) (by kernel_rfl) v xT w
set_option maxHeartbeats 4000000 in
theorem as_miss (n : Int) (t : Addr) (old : Value) (w : World) (hg : w.cell? ⟨3, 0, none⟩ = some (.iface 225 (.agg #[.pointer (some ⟨9, 25, none⟩)]))) (ht0 : w.cell? t = some old) :
    Calls Tryz.prog 144 #[.iface 31 (.int .i64 n), .iface 180 (.pointer (some t))] w fun ev w' => ev = .returned (.bool false) ∧ Below w.heap.size w w' := by
  have h6 := @run_callFunc_extern Tryz.prog 167 _ (fun args => ReflectliteValue.unpack (args.getD 0 (.tuple #[]))) Tryz.func167 (by kernel_rfl) (by kernel_rfl) (by kernel_rfl) (by kernel_rfl)
  have h7 := @run_callFunc_extern Tryz.prog 168 _ (ReflectliteValue.methodAny (ReflectliteValue.valueError "reflectlite.Value.Type" 0) (fun t _ _ _ => ReflectliteType.toType t)) Tryz.func168 (by kernel_rfl) (by kernel_rfl) (by kernel_rfl) (by kernel_rfl)
  have h8 := @run_callFunc_extern Tryz.prog 169 _ (ReflectliteValue.method (ReflectliteValue.valueError "reflectlite.Value.IsNil" 0) ReflectliteValue.isNil) Tryz.func169 (by kernel_rfl) (by kernel_rfl) (by kernel_rfl) (by kernel_rfl)
  have h27 := @run_callFunc_extern Tryz.prog 207 _ (ReflectliteType.abiMethod fun t => do pure (.int .u8 (← Rtype.kind t))) Tryz.func207 (by kernel_rfl) (by kernel_rfl) (by kernel_rfl) (by kernel_rfl)
  have h37 := @run_callFunc_extern Tryz.prog 224 _ (ReflectliteType.method ReflectliteType.elem) Tryz.func224 (by kernel_rfl) (by kernel_rfl) (by kernel_rfl) (by kernel_rfl)
  have h38 := @run_callFunc_extern Tryz.prog 225 _ (ReflectliteType.relation "Implements" ReflectliteType.implements_) Tryz.func225 (by kernel_rfl) (by kernel_rfl) (by kernel_rfl) (by kernel_rfl)
  have h10 := @run_callFunc_extern Tryz.prog 185 _ ReflectliteType.typeOf Tryz.func185 (by kernel_rfl) (by kernel_rfl) (by kernel_rfl) (by kernel_rfl)
  have h35 := @run_callFunc_extern Tryz.prog 222 _ (ReflectliteType.relation "AssignableTo" ReflectliteType.assignableTo) Tryz.func222 (by kernel_rfl) (by kernel_rfl) (by kernel_rfl) (by kernel_rfl)
  have h11 := @run_callFunc_extern Tryz.prog 186 _ (ReflectliteValue.method (ReflectliteValue.valueError "reflectlite.Value.Elem" 0) ReflectliteValue.elem) Tryz.func186 (by kernel_rfl) (by kernel_rfl) (by kernel_rfl) (by kernel_rfl)
  have h12 := @run_callFunc_extern Tryz.prog 187 _ ReflectliteValue.set Tryz.func187 (by kernel_rfl) (by kernel_rfl) (by kernel_rfl) (by kernel_rfl)
  have tO := asT.typeOf31
  have mA := asT.methodAssignableTo
  have a25 := asT.assignable31
  have f6 := asT.valueOf27
  have f7 := asT.type27
  have mK := asT.methodKind
  have mE := asT.methodElem
  have mI := asT.methodImplements
  have k27 := asT.kind27
  have k25 := asT.kind25
  have e27 := asT.elem27
  have i25 := asT.implements25
  have n8 := asT.isNil27 ⟨w.heap.size, 0, none⟩ t ((w.alloc (.cells #[.pointer (some t)] 180)).alloc (.cells #[.pointer (some ⟨9, 180, none⟩), .pointer (some ⟨w.heap.size, 0, none⟩), .int .u64 150] 203)) (by simp)
  have hlt : 3 < w.heap.size := by
    rcases Nat.lt_or_ge 3 w.heap.size with h | h
    · exact h
    · simp [World.cell?, Array.getElem?_eq_none h] at hg
  have hg2 : ((w.alloc (.cells #[.pointer (some t)] 180)).alloc (.cells #[.pointer (some ⟨9, 180, none⟩), .pointer (some ⟨w.heap.size, 0, none⟩), .int .u64 150] 203)).cell? ⟨3, 0, none⟩ = some (.iface 225 (.agg #[.pointer (some ⟨9, 25, none⟩)])) := by
    rw [World.cell?_alloc_lt _ _ ⟨3, 0, none⟩ (by simp; omega), World.cell?_alloc_lt _ _ ⟨3, 0, none⟩ hlt]; exact hg
  have htl : t.block < w.heap.size := by
    rcases Nat.lt_or_ge t.block w.heap.size with h | h
    · exact h
    · simp [World.cell?, Array.getElem?_eq_none h] at ht0
  have n1 := asT.no230
  have n2 := asT.no233
  have n3 := asT.no234
  go_enter Tryz.func144, Tryz.ntmps144
  go_wp2
  refine wp_loop_rounds 1 ?_
  rw [rounds_succ]
  go_wp2
  go_ret
  exact ⟨rfl, (((Below.refl _ _).alloc (Nat.le_refl _) _).alloc (by simp) _).alloc (by simp; omega) _⟩
end Go.Proofs.YtplagcbifecagaaGreatDoor
set_option maxRecDepth 100000
set_option linter.unusedVariables false
namespace Go.Proofs.YtplagcbifecagaaGreatDoor
open Go Go.Av Go.RowKit Go.Proofs Go.Pl
theorem setCell_one {w : World} {b : Nat} {T : TypeId} {fz : Nat × Nat} {c : Array Value} (v : Value) (hc : w.heap[b]? = some (.cells c T fz)) (h1 : c.size = 1) : w.setCell ⟨b, 0, none⟩ v = w.setRow b #[v] := by
  unfold World.setCell World.setRow
  congr 1
  apply Array.ext_getElem?
  intro i
  rw [Array.getElem?_modify, Array.getElem?_modify]
  by_cases hi : b = i
  · subst hi
    rw [if_pos rfl, if_pos rfl, hc]
    have : c.setIfInBounds 0 v = #[v] := by
      apply Array.ext
      · simp [h1]
      · intro i h2 h3
        have : i = 0 := by simp at h3; omega
        subst this
        simp
    simp [this]
  · rw [if_neg hi, if_neg hi]
theorem asHit_c (a n : Int) (o : Nat) (st : List AObj) (ho : st[o]? = some (.cells 0 92 [.v (.pointer none)])) : ACall E 144 [faultA a n, .ifc 180 (.bx o 0 0)] st fun r st' => r = Bv true ∧ st' = st.set o (.cells 0 92 [.pp [Iv a, .ifc 31 (Iv n)]]) := by
  refine ⟨fun B0 w0 G vals w hL hA hR => ?_⟩
  obtain ⟨v1, v2, rfl⟩ : ∃ x y, vals = #[x, y] := by
    have := hR.1
    match vals, this with
    | ⟨[x, y]⟩, _ => exact ⟨x, y, rfl⟩
  have h1 := hR.2 0 _ v1 rfl rfl
  have h2 := hR.2 1 _ v2 rfl rfl
  unfold faultA at h1
  cases h1 with
  | ifc _ _ y1 h1 =>
    cases h2 with
    | ifc _ _ y2 h2 =>
      have hpp := h1
      cases h1 with
      | pp _ b off pub hp hlen hr =>
        cases h2 with
        | bx _ _ _ b2 hn hv hb =>
          obtain ⟨_, g1, g2, g3, c, g4, g5, g6⟩ := hA.ob o _ ho
          have hb := hb g1
          subst hb
          have hc1 : c.size = 1 := by simpa using g5.symm
          have hl := (hL w hA.below).ert
          have hcell : w.cell? ⟨(G.ob o).blk, 0, none⟩ = some c[0] := by simp [World.cell?, g4, hc1]
          have hfz : w.frozen? ⟨(G.ob o).blk, 0, none⟩ = false := by simp [World.frozen?, g4]
          have hlt : (G.ob o).blk < w.heap.size := (Array.getElem?_eq_some_iff.1 g4).1
          refine (as_hit ⟨b, off, none⟩ ⟨(G.ob o).blk, 0, none⟩ c[0] w hl hcell hfz).mono ?_
          rintro e w' ⟨rfl, rfl⟩
          have hb1 : Below w.heap.size w ((((w.alloc (.cells #[.pointer (some ⟨(G.ob o).blk, 0, none⟩)] 180)).alloc (.cells #[.pointer (some ⟨9, 180, none⟩), .pointer (some ⟨w.heap.size, 0, none⟩), .int .u64 150] 203)).alloc (.cells #[.pointer (some ⟨9, 180, none⟩), .pointer (some ⟨w.heap.size, 0, none⟩), .int .u64 150] 203)).alloc (.cells #[.pointer (some ⟨b, off, none⟩)] 92)) :=
            ((((Below.refl _ _).alloc (Nat.le_refl _) _).alloc (by simp) _).alloc (by simp; omega) _).alloc (by simp; omega) _
          have hA1 := hA.fresh hb1
          obtain ⟨_, k1, k2, k3, c', k4, k5, k6⟩ := hA1.ob o _ ho
          have hc1' : c'.size = 1 := by simpa using k5.symm
          refine ⟨.bool true, G, Bv true, _, rfl, .refl G, ?_, .v _, rfl, rfl⟩
          rw [setCell_one _ k4 hc1']
          exact hA1.setRow ho (by simp) fun i x y hx hy => by
            match i with
            | 0 => simp at hx hy; subst hx; subst hy; exact hpp
            | i + 1 => simp at hx
theorem asMiss_c (n : Int) (o : Nat) (st : List AObj) (ho : st[o]? = some (.cells 0 92 [.v (.pointer none)])) : ACall E 144 [.ifc 31 (Iv n), .ifc 180 (.bx o 0 0)] st fun r st' => r = Bv false ∧ st' = st := by
  refine ⟨fun B0 w0 G vals w hL hA hR => ?_⟩
  obtain ⟨v1, v2, rfl⟩ : ∃ x y, vals = #[x, y] := by
    have := hR.1
    match vals, this with
    | ⟨[x, y]⟩, _ => exact ⟨x, y, rfl⟩
  have h1 := hR.2 0 _ v1 rfl rfl
  have h2 := hR.2 1 _ v2 rfl rfl
  cases h1 with
  | ifc _ _ y1 h1 =>
    cases h2 with
    | ifc _ _ y2 h2 =>
      cases h1 with
      | v =>
        cases h2 with
        | bx _ _ _ b2 hn hv hb =>
          obtain ⟨_, g1, g2, g3, c, g4, g5, g6⟩ := hA.ob o _ ho
          have hb := hb g1
          subst hb
          have hc1 : c.size = 1 := by simpa using g5.symm
          have hl := (hL w hA.below).ert
          have hcell : w.cell? ⟨(G.ob o).blk, 0, none⟩ = some c[0] := by simp [World.cell?, g4, hc1]
          refine (as_miss n ⟨(G.ob o).blk, 0, none⟩ c[0] w hl hcell).mono ?_
          rintro e w' ⟨rfl, hb⟩
          exact ⟨_, G, Bv false, st, rfl, .refl G, hA.fresh hb, .v _, rfl, rfl⟩
end Go.Proofs.YtplagcbifecagaaGreatDoor
