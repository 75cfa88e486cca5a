/- Contracts and plain facts that the closing text leans on (part 3). No condition of their own beyond those that each states. -/
import Derived.Test.YtplagcbifecagaaGreatDoorK2
set_option maxRecDepth 100000
set_option linter.unusedVariables false
set_option linter.unusedSimpArgs false
set_option linter.unusedVariables false
namespace Go.Av
open Go Go.RowKit
section
variable {B0 : Nat} {w0 : World} {G : Gh} {st : List AObj} {w : World}
theorem Agree.pubOb (h : Agree B0 w0 G st w) {o ver : Nat} {T : TypeId} {cs : List AV} (ho : st[o]? = some (.cells ver T cs)) :
    ∃ vs : List Value, G.le (G.publish (G.ob o).blk vs) ∧ Agree B0 w0 (G.publish (G.ob o).blk vs) (st.set o .dead) w ∧ (G.ob o).ver = ver ∧ (G.publish (G.ob o).blk vs).pub (G.ob o).blk = some vs ∧ cs.length = vs.length ∧
      ∀ (i : Nat) (x : AV) (y : Value), cs[i]? = some x → vs[i]? = some y → Rel (G.publish (G.ob o).blk vs) x y := by
  obtain ⟨h0, h1, h2, h3, c, h4, h5, h6⟩ := h.ob o _ ho
  have hle : G.le (G.publish (G.ob o).blk c.toList) := G.le_publish _ _ [] [] (.inl h3)
  refine ⟨c.toList, hle, ?_, h1, by simp [Gh.publish], by simpa using h5, fun i x y hx hy => (h6 i x y hx (by simpa using hy)).mono hle⟩
  have key : ∀ (k : Nat) (x : AObj), (st.set o .dead)[k]? = some x → x = .dead ∨ (k ≠ o ∧ st[k]? = some x) := fun k x hx => by
    rcases getElem?_set' _ _ _ _ _ hx with ⟨_, e⟩ | e
    · exact .inl e
    · exact .inr e
  refine ⟨h.below, h.hB, by simp [h.n, Gh.publish], fun b vs hb => ?_, fun k x hx => ?_, fun k k' x x' hne hx hx' hl hl' => ?_⟩
  · simp only [Gh.publish] at hb
    by_cases e : b = (G.ob o).blk
    · rw [if_pos e] at hb
      cases hb
      subst e
      exact ⟨c, T, (0, 0), h4, fun i y hy => by simpa using hy⟩
    · rw [if_neg e] at hb
      exact h.pub b vs hb
  · rcases key k x hx with rfl | ⟨hk, hx⟩
    · trivial
    · refine (h.ob k x hx).mono hle rfl (fun hl => ?_) (fun _ => rfl)
      have := h.sep k o x _ hk hx ho hl trivial
      simp [Gh.publish, this]
  · rcases key k x hx with rfl | ⟨hk, hx⟩
    · exact hl.elim
    · rcases key k' x' hx' with rfl | ⟨hk', hx'⟩
      · exact hl'.elim
      · exact h.sep k k' x x' hne hx hx' hl hl'
end
section
variable {E : Env} {rd : Option Nat} {N : Nat} {ops : Array Oper} {K : AS → Prop} {s : AS} {rest : List Oper} {d : Option Tmp} {T : TypeId} {p : String} {af : Array Edge}
theorem Inv.pub {B0 : Nat} {w0 : World} {G : Gh} {a : Act} {w : World} (h : Inv B0 w0 N G s a w) {i o ver : Nat} {T' : TypeId} {cs : List AV} (hi : s.t i = .bx o ver 0) (ho : s.st[o]? = some (.cells ver T' cs)) :
    ∃ G', G.le G' ∧ Inv B0 w0 N G' ⟨Av.put s.t i (.pp cs), s.st.set o .dead, s.df⟩ a w := by
  obtain ⟨vs, hle, hA, hv, hp, hl, hr⟩ := h.agree.pubOb ho
  refine ⟨_, hle, hA, h.defers_mono hle, h.size, fun j y hy => ?_⟩
  have hj := h.tmps j y hy
  by_cases e : j = i
  · subst e
    simp only [put_same]
    rw [hi] at hj
    cases hj with
    | bx _ _ _ b hn hv' hb =>
      have hb := hb hv
      subst hb
      exact .pp cs _ 0 vs hp (by omega) fun k x y hx hy => hr k x y hx (by simpa using hy)
  · simp only
    rw [put_ne _ _ _ _ e]
    exact hj.mono hle
theorem aops_store_mid {x y : Operand} {t : TypeId} {sz : Nat} {agg : Bool} {st loc loc' ext new : List AObj} {k ver off : Nat} {T' : TypeId} {cs xs : List AV} {r : AV} (hs : s.st = ((st ++ loc) ++ ext) ++ new) (hx : aeval N s x = .bx (st.length + k) ver off) (hy : aeval N s y = r) (ho : loc[k]? = some (.cells ver T' cs)) (ht : tyOf E.P t = some (sz, agg))
    (hok : r.okc = true) (hc : r.cells = xs) (hsz : Nat.beq xs.length sz = true) (h1 : allOne xs = true) (hfit : Nat.ble (off + sz) cs.length = true) (hl : loc' = loc.set k (.cells ver T' (splice cs off xs)))
    (h : AOps E rd N ops rest K (AS.put ⟨s.t, ((st ++ loc') ++ ext) ++ new, s.df⟩ d (.v undef))) : AOps E rd N ops (⟨d, .store t x y, T, p, af, none⟩ :: rest) K s := by
  have hk := lt_of_getElem? ho
  exact aops_store_at hx hy (by rw [hs]; exact get_mid ho) ht hok hc hsz h1 hfit (by rw [hs, set_mid _ hk, ← hl]; exact h)
end
theorem snoc_len {α : Type} (l : List α) (a : α) : (l ++ [a]).length = l.length + 1 := by simp
theorem iv_snoc {α : Type} (l : List α) (a : α) : Iv ((l.length : Int) + 1) = Iv ((l ++ [a]).length : Nat) := by rw [snoc_len]; rfl
theorem sl_snoc1 {α : Type} {sz : Nat} {tip : Option Nat} (x0 : AV) (g : α → AV) (pre : List α) (a : α) (v : AV) (h : v = g a) : AV.sl sz ((x0 :: pre.map g) ++ [v]) tip = AV.sl sz (x0 :: (pre ++ [a]).map g) tip := by rw [List.map_append, h]; rfl
theorem aops_allocN {E : Env} {rd : Option Nat} {N : Nat} {ops : Array Oper} {K : AS → Prop} {s : AS} {rest : List Oper} {d : Option Tmp} {T : TypeId} {p : String} {af : Array Edge} {t : TypeId} {st loc : List AObj} {cs : List AV} {n : Nat} (hst : s.st = st ++ loc) (hn : st.length = n) (hz : zeroA E.P t = some cs)
    (h : AOps E rd N ops rest K (AS.put ⟨s.t, st ++ (loc ++ [.cells 0 t cs]), s.df⟩ d (.bx (n + loc.length) 0 0))) : AOps E rd N ops (⟨d, .alloc t, T, p, af, none⟩ :: rest) K s := by
  subst hn
  exact aops_alloc hst hz h
theorem awp_loopL {E : Env} {rd : Option Nat} {N : Nat} {c : Code} {Q : Exit → AS → Prop} {s : AS} {α : Type} (xs : List α) (I : List α → AS → Prop) (h0 : I [] s) (hend : ∀ s, I xs s → AWp E rd N c (thenA (fun _ => False) Q) s)
    (hstep : ∀ pre a rest s, xs = pre ++ a :: rest → I pre s → AWp E rd N c (thenA (fun s' => I (pre ++ [a]) s') Q) s) : AWp E rd N (.loop c) Q s := by
  refine awp_loopG (fun (x : List α × List α) s => xs = x.1 ++ x.2 ∧ I x.1 s) (fun x => x.2.length) ([], xs) ⟨rfl, h0⟩ ?_
  rintro ⟨pre, rest⟩ s ⟨hx, hi⟩
  cases rest with
  | nil =>
    simp only [List.append_nil] at hx
    subst hx
    refine (hend s hi).mono fun e s' h => ?_
    cases e with
    | normal => exact h.elim
    | _ => exact h
  | cons a rest =>
    refine (hstep pre a rest s hx hi).mono fun e s' h => ?_
    cases e with
    | normal => exact ⟨(pre ++ [a], rest), ⟨by rw [hx]; simp, h⟩, by simp⟩
    | _ => exact h
theorem aret_mark_mid {E : Env} {fn : Func} {R : AV → List AObj → Prop} {s : AS} {st loc ext new : List AObj} {k : Nat} {ds : List Nat} (hs : s.st = ((st ++ loc) ++ ext) ++ new) (hd : s.df = (st.length + k) :: ds) (ho : loc[k]? = some .dfr) (h : ARet E fn R ⟨s.t, ((st ++ loc.set k .dead) ++ ext) ++ new, ds⟩) : ARet E fn R s :=
  aret_mark hd (by rw [hs]; exact get_mid ho) (by rw [hs, set_mid _ (lt_of_getElem? ho)]; exact h)
@[reducible] def roundG (F : LoopState → Option Code → AObj) (st : List AObj) (own : AObj) (I : List AObj → Prop) (D : Code → List AObj → Prop) : Exit → AS → Prop
  | .normal, s => ∃ l ext new, s.st = ((st ++ (l ++ [.dfr, F .busy none, own])) ++ ext) ++ new ∧ I l
  | .ret, s => ∃ l ext new, s.st = ((st ++ (l ++ [.dfr, F .busy none, own])) ++ ext) ++ new ∧ D .ret l
  | .exit id, s => ∃ l ext new, s.st = ((st ++ (l ++ [.dfr, F .busy none, own])) ++ ext) ++ new ∧ D (.exit id) l
  | _, _ => False
theorem ayield_cast {E : Env} {o : Nat} {xs : List AV} {st st' : List AObj} {R : Bool → List AObj → Prop} (e : st = st') (h : AYield E o xs st R) : AYield E o xs st' R := e ▸ h
theorem get_loopG {st l ext : List AObj} {a b c : AObj} {n : Nat} (hl : l.length = n) : (((st ++ (l ++ [a, b, c])) ++ ext))[st.length + (n + 1)]? = some b := by
  subst hl
  rw [List.append_assoc, List.append_assoc, List.getElem?_append_right (by omega), Nat.add_sub_cancel_left, List.getElem?_append_right (by omega)]
  simp
theorem set_loopG {st l ext : List AObj} {a b c y : AObj} {n : Nat} (hl : l.length = n) : ((st ++ (l ++ [a, b, c])) ++ ext).set (st.length + (n + 1)) y = (st ++ (l ++ [a, y, c])) ++ ext := by
  subst hl
  rw [List.append_assoc, List.append_assoc, List.set_append_right _ _ (by omega), Nat.add_sub_cancel_left, List.set_append_right _ _ (by omega)]
  simp
theorem ayield_G {E : Env} {N : Nat} {t : Nat → AV} {ps : Array Tmp} {asg body : Code} {st l ext : List AObj} {own : AObj} {n : Nat} {xs : List AV} {F : LoopState → Option Code → AObj} {I : List AObj → Prop} {D : Code → List AObj → Prop} (hF : LoopF F N t ps asg body) (hl : l.length = n) (hps : ps.size = xs.length)
    (hI : ∀ l, I l → l.length = n) (hD : ∀ c l, D c l → l.length = n)
    (h : ∀ rd, AWp E (some rd) N asg (only fun s1 => ∃ new, s1.st = ((st ++ (l ++ [.dfr, F .ready none, own])) ++ ext) ++ new ∧ s1.df = [] ∧ AWp E (some rd) N body (roundG F st own I D) ⟨s1.t, ((st ++ (l ++ [.dfr, F .busy none, own])) ++ ext) ++ new, []⟩) ⟨setPs t (ps.toList.zip xs), ((st ++ (l ++ [.dfr, F .ready none, own])) ++ ext) ++ [], []⟩) :
    AYield E (st.length + (n + 1)) xs ((st ++ (l ++ [.dfr, F .ready none, own])) ++ ext) fun b st2 => ∃ l' ext', (b = true → st2 = (st ++ (l' ++ [.dfr, F .ready none, own])) ++ ext' ∧ I l') ∧ (b = false → ∃ c, st2 = (st ++ (l' ++ [.dfr, F .done (some c), own])) ++ ext' ∧ D c l') := by
  refine ayield_F hF (get_loopG hl) hps fun rd => ?_
  have h := h rd
  rw [List.append_nil] at h
  refine h.mono fun e s1 hq => ?_
  cases e with
  | normal =>
    obtain ⟨new, h1, h2, h3⟩ := hq
    refine ⟨by rw [h1, List.append_assoc]; exact get_loopG hl, h2, ?_⟩
    have e : s1.st.set (st.length + (n + 1)) (F .busy none) = ((st ++ (l ++ [.dfr, F .busy none, own])) ++ ext) ++ new := by
      rw [h1, List.append_assoc, set_loopG hl, List.append_assoc _ ext]
    rw [e]
    refine h3.mono fun e s2 hq2 => ?_
    cases e with
    | normal =>
      obtain ⟨l', ext', new', k1, k2⟩ := hq2
      exact ⟨by rw [k1, List.append_assoc]; exact get_loopG (hI _ k2), l', ext' ++ new', fun _ => ⟨by rw [k1, List.append_assoc, set_loopG (hI _ k2)], k2⟩, nofun⟩
    | ret =>
      obtain ⟨l', ext', new', k1, k2⟩ := hq2
      exact ⟨by rw [k1, List.append_assoc]; exact get_loopG (hD _ _ k2), l', ext' ++ new', nofun, fun _ => ⟨_, by rw [k1, List.append_assoc, set_loopG (hD _ _ k2)], k2⟩⟩
    | exit id =>
      obtain ⟨l', ext', new', k1, k2⟩ := hq2
      exact ⟨by rw [k1, List.append_assoc]; exact get_loopG (hD _ _ k2), l', ext' ++ new', nofun, fun _ => ⟨_, by rw [k1, List.append_assoc, set_loopG (hD _ _ k2)], k2⟩⟩
    | _ => exact hq2.elim
  | _ => exact hq.elim
end Go.Av
set_option linter.unusedVariables false
namespace Go.Pl
open Go Go.Proofs
abbrev Fld := Bytes × Bytes
def blankAll (s : Bytes) : Prop := ∀ c ∈ s, isBlank c
instance (s : Bytes) : Decidable (blankAll s) := inferInstanceAs (Decidable (∀ c ∈ s, isBlank c))
def stuffF (s : Bytes) : Bytes := if blankAll s ∨ s.head? = some 46 then 46 :: s else s
def headLine (key p : Bytes) : Bytes := key ++ [58] ++ if p = [] then [] else [32] ++ p
def linesF (f : Fld) : List Bytes := headLine f.1 ((partsOf f.2).headD []) :: (partsOf f.2).tail.map fun s => [32] ++ stuffF s
def textF (ls : List Bytes) : Bytes := ls.flatMap fun s => s ++ [10]
def foldF (xs : List Fld) : Bytes := xs.flatMap fun f => textF (linesF f)
def checkF (f : Fld) : Int := if ¬ keyOk f.1 then 5 else if 1000 < f.2.length then 6 else 0
def goodFld (f : Fld) : Prop := keyOk f.1 ∧ f.2.length ≤ 1000
instance (f : Fld) : Decidable (goodFld f) := inferInstanceAs (Decidable (_ ∧ _))
theorem checkF_good (f : Fld) : checkF f = 0 ↔ goodFld f := by
  unfold checkF goodFld
  by_cases h : keyOk f.1
  · by_cases h2 : 1000 < f.2.length
    · simp [h, h2]
    · simp [h, h2]; omega
  · simp [h]
def trim1 (c : UInt8) (l : Bytes) : Bytes := if l.head? = some c then l.drop 1 else l
theorem trimPrefix_one (c : UInt8) (l : Bytes) : Lib.trimPrefix l [c] = trim1 c l := by
  unfold Lib.trimPrefix trim1
  rw [hasPrefix_one]
  simp
def valueU (l : Bytes) (r : List Bytes) : Bytes := trim1 32 (restPart l) ++ r.flatMap fun s => [10] ++ trim1 46 (s.drop 1)
def unfoldOk (ls : List Bytes) : Prop := ls ≠ [] ∧ kindOf (ls.headD []) = 4 ∧ ∀ s ∈ ls.tail, kindOf s = 3
instance (ls : List Bytes) : Decidable (unfoldOk ls) := inferInstanceAs (Decidable (_ ∧ _ ∧ _))
def unfoldF (ls : List Bytes) : Fld × Int :=
  if unfoldOk ls then
    if 1000 < (valueU (ls.headD []) ls.tail).length then (([], []), 6) else ((keyPart (ls.headD []), valueU (ls.headD []) ls.tail), 0)
  else (([], []), 2)
theorem partsOf_ne (l : Bytes) : partsOf l ≠ [] := by
  by_cases h : 10 ∈ l
  · rw [partsOf_mem h]; simp
  · rw [partsOf_not h]; simp
theorem partsOf_eq (l : Bytes) : partsOf l = (partsOf l).headD [] :: (partsOf l).tail := by
  cases h : partsOf l with
  | nil => exact absurd h (partsOf_ne l)
  | cons a r => rfl
theorem parts_join : ∀ (n : Nat) (l : Bytes), l.length ≤ n → (partsOf l).headD [] ++ (partsOf l).tail.flatMap (fun s => [10] ++ s) = l
  | n, l, hn => by
    by_cases h : 10 ∈ l
    · rw [partsOf_mem h]
      have hne : l ≠ [] := fun e => by subst e; simp at h
      have hlt := past_lt (c := 10) hne
      cases n with
      | zero => omega
      | succ n =>
        have ih := parts_join n (past 10 l) (by omega)
        simp only [List.headD_cons, List.tail_cons]
        rw [partsOf_eq (past 10 l)]
        simp only [List.flatMap_cons]
        rw [List.append_assoc, ih]
        have := upto_past h
        simp [← this]
    · rw [partsOf_not h]; simp
theorem parts_no10 (l : Bytes) : ∀ x ∈ partsOf l, 10 ∉ x := fun x hx => (partsOf_piece l.length l (Nat.le_refl _) x hx).2
theorem parts_lenle (l : Bytes) : ∀ x ∈ partsOf l, x.length ≤ l.length := fun x hx => (partsOf_piece l.length l (Nat.le_refl _) x hx).1
theorem head_mem (l : Bytes) : (partsOf l).headD [] ∈ partsOf l := by
  have h := partsOf_ne l
  cases e : partsOf l with
  | nil => exact absurd e h
  | cons a r => simp
theorem trim1_stuff (s : Bytes) : trim1 46 (stuffF s) = s := by
  unfold stuffF trim1
  by_cases h : blankAll s ∨ s.head? = some 46
  · rw [if_pos h]; simp
  · rw [if_neg h, if_neg (fun h' => h (.inr h'))]
theorem stuff_notBlank (s : Bytes) : ¬ blankAll (stuffF s) := by
  unfold stuffF
  by_cases h : blankAll s ∨ s.head? = some 46
  · rw [if_pos h]
    intro h'
    have := h' 46 (by simp)
    revert this; decide
  · rw [if_neg h]
    exact fun h' => h (.inl h')
theorem stuff_no10 {s : Bytes} (h : 10 ∉ s) : 10 ∉ stuffF s := by
  unfold stuffF
  split
  · simp [h]
  · exact h
theorem stuff_len (s : Bytes) : (stuffF s).length ≤ s.length + 1 := by
  unfold stuffF
  split <;> simp
theorem kind_more (s : Bytes) (h : 10 ∉ s) : kindOf ([32] ++ stuffF s) = 3 := by
  have hn := stuff_no10 h
  have hb := stuff_notBlank s
  unfold kindOf
  have h10 : 10 ∉ ([32] ++ stuffF s) := by simp [hn]
  rw [if_neg h10, if_neg (fun h' => hb fun c hc => h' c (by simp [hc])), if_neg (by simp), if_pos ⟨32, by simp, .inl rfl⟩]
theorem keyPart_app {k r : Bytes} (h : 58 ∉ k) : keyPart (k ++ [58] ++ r) = k := by
  unfold keyPart
  induction k with
  | nil => simp
  | cons a k ih =>
    simp only [List.mem_cons, not_or] at h
    have : (58 : UInt8) ≠ a := h.1
    simp only [List.cons_append, List.takeWhile_cons]
    rw [if_pos (by simpa using fun e => this e.symm)]
    rw [ih h.2]
theorem restPart_app {k r : Bytes} (h : 58 ∉ k) : restPart (k ++ [58] ++ r) = r := by
  unfold restPart
  rw [keyPart_app h]
  rw [List.drop_append_of_le_length (by simp)]
  simp
theorem key_notAllBlank {k : Bytes} (h : keyOk k) : ∃ c, k.head? = some c ∧ ¬ isBlank c ∧ c ≠ 35 := by
  obtain ⟨h1, h2, h3, h4, h5, h6⟩ := h
  cases k with
  | nil => exact absurd rfl h1
  | cons a r => exact ⟨a, rfl, fun hb => h3 ⟨a, rfl, hb⟩, fun e => h4 (by simp [e])⟩
theorem kind_head {k p : Bytes} (h : keyOk k) (hp : 10 ∉ p) : kindOf (headLine k p) = 4 := by
  obtain ⟨c, hc, hb, h35⟩ := key_notAllBlank h
  have hk10 : 10 ∉ k := h.2.2.2.2.2
  have hk58 : 58 ∉ k := h.2.2.2.2.1
  have hh : (headLine k p).head? = some c := by
    unfold headLine
    cases k with
    | nil => simp at hc
    | cons a r => simpa using hc
  have e : headLine k p = k ++ [58] ++ (if p = [] then [] else [32] ++ p) := rfl
  have h10 : 10 ∉ headLine k p := by
    rw [e]
    split <;> simp [hk10, hp]
  have hmem : c ∈ headLine k p := List.mem_of_head? hh
  unfold kindOf
  rw [if_neg h10, if_neg (fun h' => hb (h' c hmem)), if_neg (by rw [hh]; simpa using h35), if_neg (fun ⟨d, hd, hd'⟩ => by rw [hh] at hd; cases hd; exact hb hd')]
  rw [if_pos]
  refine ⟨by rw [e]; simp, ?_⟩
  rw [e, keyPart_app hk58]
  exact h
theorem head_rest (k p : Bytes) (h : 58 ∉ k) : trim1 32 (restPart (headLine k p)) = p := by
  unfold headLine
  rw [restPart_app h]
  by_cases hp : p = []
  · rw [if_pos hp]; simp [trim1, hp]
  · rw [if_neg hp]; simp [trim1]
theorem linesF_unfold {f : Fld} (h : goodFld f) : unfoldF (linesF f) = (f, 0) := by
  obtain ⟨hk, hv⟩ := h
  have hk58 : 58 ∉ f.1 := hk.2.2.2.2.1
  have h10 := parts_no10 f.2
  have hval : valueU (headLine f.1 ((partsOf f.2).headD [])) ((partsOf f.2).tail.map fun s => [32] ++ stuffF s) = f.2 := by
    unfold valueU
    rw [head_rest _ _ hk58]
    have : ((partsOf f.2).tail.map fun s => [32] ++ stuffF s).flatMap (fun s => [10] ++ trim1 46 (s.drop 1)) = (partsOf f.2).tail.flatMap (fun s => [10] ++ s) := by
      rw [List.flatMap_map]
      congr 1
      funext s
      simp [trim1_stuff]
    rw [this, parts_join _ _ (Nat.le_refl _)]
  unfold unfoldF linesF
  rw [if_pos]
  · simp only [List.headD_cons, List.tail_cons]
    refine (if_neg (by rw [hval]; omega)).trans ?_
    have : keyPart (headLine f.1 ((partsOf f.2).headD [])) = f.1 := keyPart_app hk58
    rw [this, hval]
  · refine ⟨by simp, ?_, ?_⟩
    · simp only [List.headD_cons]
      exact kind_head hk (h10 _ (head_mem _))
    · intro s hs
      simp only [List.tail_cons, List.mem_map] at hs
      obtain ⟨x, hx, rfl⟩ := hs
      exact kind_more x (h10 x (List.mem_of_mem_tail hx))
end Go.Pl
set_option linter.unusedVariables false
namespace Go.Av
open Go Go.RowKit
section
variable {E : Env} {rd : Option Nat} {N : Nat} {ops : Array Oper} {K : AS → Prop} {s : AS} {rest : List Oper} {d : Option Tmp} {T : TypeId} {p : String} {af : Array Edge}
theorem aops_buildSliceO {t e : TypeId} {len sz : Nat} {agg : Bool} {parts : Array (Nat × Operand)} {zs cs : List AV} {st loc : List AObj} (hst : s.st = st ++ loc) (hu : E.P.underlying t = some (.slice e)) (ht : tyOf E.P e = some (sz, agg)) (hz : zerosA E.P e len = some zs)
    (hf : fillA (fun i => some (i * sz, sz)) zs (partsA N s parts) = some cs) (hsz : Nat.ble (len * sz) 16777216 = true)
    (h : AOps E rd N ops rest K (AS.put ⟨s.t, st ++ (loc ++ [.cells 0 e cs]), s.df⟩ d (.os (st.length + loc.length) 0 0 len len))) : AOps E rd N ops (⟨d, .buildSlice t len parts, T, p, af, none⟩ :: rest) K s := by
  refine aops_cons rfl (aop_of_run nofun fun B0 w0 G a w _ hI => ?_)
  obtain ⟨c', hrun, h2⟩ := buildSlice_run (d := d) (T := T) (p := p) (af := af) hI hu ht hz hf hsz
  have hA := hI.agree.newCells e c' cs h2.1 h2.2
  have hn := hI.agree.n
  rw [hst] at hA hn
  simp only [List.append_assoc, List.length_append] at hA hn
  exact ⟨_, _, _, _, _, hrun, G.le_new _ _ _ _, hA, .os _ _ _ _ _ _ (by simp [Gh.new, hn]) (Nat.zero_le _) (fun _ => by simp [Gh.new, hn]), h⟩
theorem Agree.ownTip {B0 : Nat} {w0 : World} {G : Gh} {st : List AObj} {w : World} (h : Agree B0 w0 G st w) {o sz len cap : Nat} {T : TypeId} {cs : List AV} {xs : List AV} (ho : st[o]? = some (.cells 0 T cs)) (hc : cs.length = cap * sz) (hlen : xs.length = len) (h0 : 0 < len) (hle : len ≤ cap) (hcm : cap ≤ maxLen) (hw : ∀ x ∈ xs, x.cells.length = sz) (hfl : flat xs = cs.take (len * sz)) :
    ∃ G', G.le G' ∧ Agree B0 w0 G' (st.set o (.tip len sz T)) w ∧ Rel G' (.sl sz xs (some o)) (.slice (some ⟨(G.ob o).blk, 0, none⟩) len cap) := by
  subst hlen
  have hon := lt_of_getElem? ho
  obtain ⟨g0, g1, g2, g3, c, g4, g5, g6⟩ := h.ob o _ ho
  have hle1 : G.le (G.publish (G.ob o).blk (c.toList.take (xs.length * sz))) := G.le_publish _ _ [] [] (.inl g3)
  -- dead, published
  have key : ∀ (k : Nat) (x : AObj), (st.set o .dead)[k]? = some x → x = .dead ∨ (k ≠ o ∧ st[k]? = some x) := fun k x hx => by
    rcases getElem?_set' _ _ _ _ _ hx with ⟨_, e⟩ | e
    · exact .inl e
    · exact .inr e
  have hA1 : Agree B0 w0 (G.publish (G.ob o).blk (c.toList.take (xs.length * sz))) (st.set o .dead) w := by
    refine ⟨h.below, h.hB, by simp [h.n, Gh.publish], fun b vs hb => ?_, fun k x hx => ?_, fun k k' x x' hne hx hx' hl hl' => ?_⟩
    · simp only [Gh.publish] at hb
      by_cases e : b = (G.ob o).blk
      · rw [if_pos e] at hb
        cases hb
        subst e
        refine ⟨c, T, (0, 0), g4, fun i y hy => ?_⟩
        rw [List.getElem?_take] at hy
        split at hy
        · simpa using hy
        · simp at hy
      · rw [if_neg e] at hb
        exact h.pub b vs hb
    · rcases key k x hx with rfl | ⟨hk, hx⟩
      · trivial
      · refine (h.ob k x hx).mono hle1 rfl (fun hl => ?_) (fun _ => rfl)
        have := h.sep k o x _ hk hx ho hl trivial
        simp [Gh.publish, this]
    · rcases key k x hx with rfl | ⟨hk, hx⟩
      · exact hl.elim
      · rcases key k' x' hx' with rfl | ⟨hk', hx'⟩
        · exact hl'.elim
        · exact h.sep k k' x x' hne hx hx' hl hl'
  have hvl : (c.toList.take (xs.length * sz)).length = xs.length * sz := by
    have : xs.length * sz ≤ cap * sz := Nat.mul_le_mul_right _ hle
    simp
    omega
  obtain ⟨hle2, hA2⟩ := hA1.setTip (t := o) (n := 0) (n' := xs.length) (k := (G.ob o).blk) (cap := c.size) (sz := sz) (T := T) (c := c) (vs := c.toList.take (xs.length * sz)) (by simp [hon]) g0 g1 h0 g4 (by simp [Gh.publish]) hvl rfl g2 (fun k x hx hl => by
    rcases key k x hx with rfl | ⟨hk, hx⟩
    · exact hl.elim
    · exact h.sep k o x _ hk hx ho hl trivial)
  rw [List.set_set] at hA2
  refine ⟨_, hle1.trans hle2, hA2, ?_⟩
  have hgn : o < G.n := by rw [h.n]; exact hon
  refine .sl sz xs (some o) (G.ob o).blk 0 cap (c.toList.take (xs.length * sz)) (by simp [Gh.setOb, Gh.publish]) hw (by rw [hfl, hvl]; simp; omega) (fun i x y h1 h2 => ?_) (fun t ht => ?_) (by omega)
  · rw [hfl] at h1
    rw [Nat.zero_add] at h2
    rw [List.getElem?_take] at h1 h2
    split at h1
    · rename_i hi
      rw [if_pos hi] at h2
      exact ((g6 i x y h1 (by simpa using h2)).mono hle1).mono hle2
    · simp at h1
  · simp only [Option.some.injEq] at ht
    subst ht
    refine ⟨by simpa [Gh.setOb, Gh.publish] using hgn, by omega, by simp [Gh.setOb], fun _ => ⟨by simp [Gh.setOb], rfl, by simp [Gh.setOb, ← g5, hc], hcm, by omega⟩⟩
theorem Inv.osTip {B0 : Nat} {w0 : World} {G : Gh} {a : Act} {w : World} (h : Inv B0 w0 N G s a w) {i o sz len cap : Nat} {T' : TypeId} {cs xs : List AV} (hi : s.t i = .os o 0 0 len cap) (ho : s.st[o]? = some (.cells 0 T' cs)) (hc : cs.length = cap * sz) (hlen : xs.length = len) (h0 : 0 < len) (hle : len ≤ cap) (hcm : cap ≤ maxLen) (hw : ∀ x ∈ xs, x.cells.length = sz) (hfl : flat xs = cs.take (len * sz)) :
    ∃ G', G.le G' ∧ Inv B0 w0 N G' ⟨Av.put s.t i (.sl sz xs (some o)), s.st.set o (.tip len sz T'), s.df⟩ a w := by
  obtain ⟨G', hG, hA, hR⟩ := h.agree.ownTip ho hc hlen h0 hle hcm hw hfl
  obtain ⟨_, g1, _⟩ := h.agree.ob o _ ho
  refine ⟨G', hG, hA, h.defers_mono hG, h.size, fun j y hy => ?_⟩
  have hj := h.tmps j y hy
  by_cases e : j = i
  · subst e
    simp only [put_same]
    rw [hi] at hj
    cases hj with
    | os _ _ _ _ b _ hn hv hb =>
      have hb := hb g1
      subst hb
      exact hR
  · simp only
    rw [put_ne _ _ _ _ e]
    exact hj.mono hG
theorem awp_osTip {c : Code} {Q : Exit → AS → Prop} (i : Nat) {o sz len cap : Nat} {T' : TypeId} {cs xs : List AV} (hi : s.t i = .os o 0 0 len cap) (ho : s.st[o]? = some (.cells 0 T' cs)) (hc : cs.length = cap * sz) (hlen : xs.length = len) (h0 : 0 < len) (hle : len ≤ cap) (hcm : cap ≤ maxLen) (hw : ∀ x ∈ xs, x.cells.length = sz) (hfl : flat xs = cs.take (len * sz))
    (h : AWp E rd N c Q ⟨Av.put s.t i (.sl sz xs (some o)), s.st.set o (.tip len sz T'), s.df⟩) : AWp E rd N c Q s :=
  ⟨fun B0 w0 G a w hL hI => let ⟨G1, h1, h2⟩ := hI.osTip hi ho hc hlen h0 hle hcm hw hfl; wpIn_mono (h.run B0 w0 _ a w hL h2) fun _ _ _ ⟨G', s', hG, k1, k2⟩ => ⟨G', s', h1.trans hG, k1, k2⟩⟩
theorem aops_osTip {l : List Oper} (i : Nat) {o sz len cap : Nat} {T' : TypeId} {cs xs : List AV} (hi : s.t i = .os o 0 0 len cap) (ho : s.st[o]? = some (.cells 0 T' cs)) (hc : cs.length = cap * sz) (hlen : xs.length = len) (h0 : 0 < len) (hle : len ≤ cap) (hcm : cap ≤ maxLen) (hw : ∀ x ∈ xs, x.cells.length = sz) (hfl : flat xs = cs.take (len * sz))
    (h : AOps E rd N ops l K ⟨Av.put s.t i (.sl sz xs (some o)), s.st.set o (.tip len sz T'), s.df⟩) : AOps E rd N ops l K s :=
  ⟨fun B0 w0 G a w hL hI Q hQ => let ⟨G1, h1, h2⟩ := hI.osTip hi ho hc hlen h0 hle hcm hw hfl; h.run B0 w0 _ a w hL h2 Q fun G' s' a' w' hG k1 k2 => hQ G' s' a' w' (h1.trans hG) k1 k2⟩
theorem aops_weak {l : List Oper} (i : Nat) {x r : AV} (hi : s.t i = x) (hw : ∀ G v, Rel G x v → Rel G r v) (h : AOps E rd N ops l K ⟨Av.put s.t i r, s.st, s.df⟩) : AOps E rd N ops l K s :=
  ⟨fun B0 w0 G a w hL hI Q hQ => h.run B0 w0 G a w hL ⟨hI.agree, hI.defers, hI.size, fun j y hy => by
    have hj := hI.tmps j y hy
    by_cases e : j = i
    · subst e; simp only [put_same]; rw [hi] at hj; exact hw G y hj
    · simp only; rw [put_ne _ _ _ _ e]; exact hj⟩ Q hQ⟩
theorem run_sliceL {P : Program} {t e : TypeId} {sz : Nat} {agg : Bool} (hu : P.underlying t = some (.slice e)) (ht : tyOf P e = some (sz, agg)) (a : Option Addr) (len cap : Nat) (lo hi : Option Value) (i j : Nat) (w : World)
    (hlo : match lo with | none => i = 0 | some v => ∃ k, v = .int k (i : Int)) (hhi : match hi with | none => j = len | some v => (∃ k, v = .int k (j : Int)) ∧ j ≤ cap) (h1 : i ≤ j) :
    (Instr.slice t (.slice a len cap) lo hi none).run P w = .ok (.slice (if cap = i then a else a.map (·.add (i * sz))) (j - i) (cap - i)) w := by
  have hs := (tyOf_info ht w).1
  cases lo with
  | none =>
    simp only at hlo
    subst hlo
    cases hi with
    | none =>
      simp only at hhi
      subst hhi
      simp [Instr.slice, run_underlying hu, Instr.sliceBounds, hs]
    | some v =>
      obtain ⟨⟨k, rfl⟩, h2⟩ := hhi
      simp [Instr.slice, run_underlying hu, Instr.sliceBounds, Instr.sliceBound, asIntOf, hs, h2]
  | some u =>
    obtain ⟨k', rfl⟩ := hlo
    cases hi with
    | none =>
      simp only at hhi
      subst hhi
      simp [Instr.slice, run_underlying hu, Instr.sliceBounds, Instr.sliceBound, asIntOf, hs, h1]
    | some v =>
      obtain ⟨⟨k, rfl⟩, h2⟩ := hhi
      simp [Instr.slice, run_underlying hu, Instr.sliceBounds, Instr.sliceBound, asIntOf, hs, h1, h2]
theorem rel_sliceL {G : Gh} {sz : Nat} {xs : List AV} {tip : Option Nat} {a : Option Addr} {len cap : Nat} (h : Rel G (.sl sz xs tip) (.slice a len cap)) {i j : Nat} (h1 : i ≤ j) (h2 : j ≤ xs.length) :
    len = xs.length ∧ len ≤ cap ∧ Rel G (.sl sz ((xs.take j).drop i) none) (.slice (if cap = i then a else a.map (·.add (i * sz))) (j - i) (cap - i)) := by
  cases h with
  | sl0 =>
    simp at h2
    subst h2
    have : i = 0 := by omega
    subst this
    refine ⟨rfl, Nat.zero_le _, ?_⟩
    simp
    exact .sl0 sz none _ _ (by simp)
  | sl _ _ _ b off cap pub hp hw hlen hr ht hcap =>
    refine ⟨rfl, hcap, ?_⟩
    have hl : ((xs.take j).drop i).length = j - i := by simp; omega
    by_cases hji : j = i
    · subst hji
      have e : (xs.take j).drop j = [] := List.length_eq_zero_iff.1 (by rw [hl]; omega)
      rw [e, Nat.sub_self]
      exact .sl0 sz none _ _ (by simp)
    · have hne : cap ≠ i := by omega
      rw [if_neg hne]
      simp only [Option.map_some]
      have hadd : Addr.add ⟨b, off, none⟩ (i * sz) = ⟨b, off + i * sz, none⟩ := Addr.add_lit ..
      rw [hadd, ← hl]
      have hw' : ∀ x ∈ (xs.take j).drop i, x.cells.length = sz := fun x hx => hw x (List.mem_of_mem_take (List.mem_of_mem_drop hx))
      have hfx : (flat xs).length = xs.length * sz := flat_length hw
      have hsplit : flat xs = flat (xs.take i) ++ flat ((xs.take j).drop i) ++ flat (xs.drop j) := by
        have e : xs.take i ++ (xs.take j).drop i = xs.take j := by
          conv => rhs; rw [← List.take_append_drop i (xs.take j), List.take_take, Nat.min_eq_left h1]
        rw [← flat_append, ← flat_append, e, List.take_append_drop]
      have hti : (flat (xs.take i)).length = i * sz := by
        rw [flat_length (fun x hx => hw x (List.mem_of_mem_take hx)), List.length_take, Nat.min_eq_left (by omega)]
      have hmid : (flat ((xs.take j).drop i)).length = (j - i) * sz := by rw [flat_length hw', hl]
      refine .sl sz _ none b (off + i * sz) (cap - i) pub hp hw' ?_ (fun k x y hx hy => ?_) (fun t ht => by simp at ht) (by rw [hl]; omega)
      · have := congrArg List.length hsplit
        simp only [List.length_append] at this
        omega
      · refine hr (i * sz + k) x y ?_ (by rw [← hy]; congr 1; omega)
        have hk := lt_of_getElem? hx
        rw [hsplit, List.append_assoc, List.getElem?_append_right (by omega), hti, Nat.add_sub_cancel_left, List.getElem?_append_left hk]
        exact hx
theorem aops_sliceL {x : Operand} {t e : TypeId} {lo hi : Option Operand} {sz : Nat} {agg : Bool} {xs ys : List AV} {tip : Option Nat} {i j : Nat} (hx : aeval N s x = .sl sz xs tip) (hu : E.P.underlying t = some (.slice e)) (ht : tyOf E.P e = some (sz, agg))
    (hlo : match lo with | none => i = 0 | some y => ∃ k, aeval N s y = .v (.int k (i : Int))) (hhi : match hi with | none => j = xs.length | some y => ∃ k, aeval N s y = .v (.int k (j : Int))) (h1 : i ≤ j) (h2 : j ≤ xs.length) (hy : (xs.take j).drop i = ys)
    (h : AOps E rd N ops rest K (s.put d (.sl sz ys none))) : AOps E rd N ops (⟨d, .slice t x lo hi none, T, p, af, none⟩ :: rest) K s := by
  subst hy
  refine aops_cons rfl (aop_of_run nofun fun B0 w0 G a w _ hI => ?_)
  have he := hI.eval_of hx
  generalize hv : a.eval x = v at he
  have hsl : ∃ b len cap, v = .slice b len cap := by cases he <;> exact ⟨_, _, _, rfl⟩
  obtain ⟨b, len, cap, rfl⟩ := hsl
  obtain ⟨hl, hlc, hr⟩ := rel_sliceL he h1 h2
  refine ⟨_, w, G, _, s.st, ?_, .refl G, hI.agree, hr, h⟩
  have hrun := run_sliceL hu ht b len cap (lo.map a.eval) (hi.map a.eval) i j w (by
    cases lo with
    | none => exact hlo
    | some y => obtain ⟨k, hy⟩ := hlo; exact ⟨k, hI.evalv hy⟩) (by
    cases hi with
    | none => simp only at hhi; simp only [Option.map_none]; omega
    | some y => obtain ⟨k, hy⟩ := hhi; exact ⟨⟨k, hI.evalv hy⟩, by omega⟩) h1
  generalize a.eval = ρ at hv hrun
  simp only [execOp, hv]
  simp [Instr.sliceAt, run_underlying hu, hrun]
theorem aops_sliceFrom {x y : Operand} {t e : TypeId} {sz : Nat} {agg : Bool} {xs ys : List AV} {tip : Option Nat} {k : IntKind} {i : Nat} (hx : aeval N s x = .sl sz xs tip) (hy : aeval N s y = .v (.int k (i : Int))) (hu : E.P.underlying t = some (.slice e)) (ht : tyOf E.P e = some (sz, agg)) (h1 : i ≤ xs.length) (hz : xs.drop i = ys)
    (h : AOps E rd N ops rest K (s.put d (.sl sz ys none))) : AOps E rd N ops (⟨d, .slice t x (some y) none none, T, p, af, none⟩ :: rest) K s :=
  aops_sliceL (i := i) (j := xs.length) hx hu ht ⟨k, hy⟩ rfl h1 (Nat.le_refl _) (by rw [List.take_length]; exact hz) h
end
end Go.Av
set_option linter.unusedVariables false
namespace Go.Av
open Go Go.RowKit
structure Chg (N : Nat) (s s' : AS) : Prop where
  run : ∀ (B0 : Nat) (w0 : World) (G : Gh) (a : Act) (w : World), Inv B0 w0 N G s a w → ∃ G', G.le G' ∧ Inv B0 w0 N G' s' a w
theorem Chg.trans {N : Nat} {s s' s'' : AS} (h : Chg N s s') (k : Chg N s' s'') : Chg N s s'' := ⟨fun B0 w0 G a w hI => let ⟨G1, h1, h2⟩ := h.run B0 w0 G a w hI; let ⟨G2, k1, k2⟩ := k.run B0 w0 G1 a w h2; ⟨G2, h1.trans k1, k2⟩⟩
end Go.Av
set_option linter.unusedVariables false
set_option maxRecDepth 100000
namespace Go.Proofs.YtplagcbifecagaaGreatDoor
open Go Go.Av Go.RowKit Go.Proofs Go.Pl
theorem split1g_c (text : List UInt8) (o kb ver n : Nat) (I : Nat → List UInt8 → List AObj → Prop) (D : List AObj → Prop) (st l0 : List AObj) (ht : text.length < 4294967281) (h0 : I 0 text l0)
    (hI : ∀ k rest l, I k rest l → l.length = n ∧ (st ++ l)[kb]? = some (.cells ver 9 [Sv text]))
    (hY : ∀ k rest l own ext, I k rest l → rest ≠ [] → rest.length ≤ text.length → AYield E o [lineA k text rest] (st ++ (l ++ own :: ext)) fun b st2 => ∃ l' ext', st2 = st ++ (l' ++ own :: ext') ∧ (b = true → I (k + 1) (past 10 rest) l') ∧ (b = false → D l' ∧ l'.length = n)) :
    ACall E 85 [.yd o, .bx kb ver 0] (st ++ l0) fun r st' => ∃ l own ext', st' = st ++ (l ++ own :: ext') ∧ ((∃ k, I k [] l) ∨ D l) := by
  refine acall_of_awp Tryz.func85 rfl (Nat.le_of_ble_eq_true rfl) ?_
  obtain ⟨hn, hb⟩ := hI 0 text l0 h0
  repeat' (first
    | apply awp_seq
    | apply awp_block
    | apply awp_region
    | apply aops_nil
    | apply aops_assign
    | (apply aops_alloc; exact rfl; exact rfl)
    | (apply aops_store_loc; exact rfl; exact rfl; exact rfl; exact rfl; exact rfl; exact rfl; exact rfl; exact rfl; exact rfl; exact rfl; exact rfl)
    | (apply aops_build; exact rfl; exact rfl; exact rfl)
    | (apply aops_load_low; exact rfl; exact rfl; exact hb; exact rfl; exact rfl))
  refine awp_loopG (fun (x : Nat × List UInt8) s => match x with | (k, rest) => ∃ l at' ta eb ext, I k rest l ∧ k + rest.length ≤ text.length ∧ at' = (text.length : Int) - rest.length ∧ StA [(0, .yd o), (1, .bx kb ver 0), (3, .bx ((st ++ l0).length + 0) 0 0), (4, Sv rest)] ((st ++ l) ++ (.cells 0 102 [Iv k, Iv at', Sv ta, Bv eb] :: ext)) [] s) (fun x => x.2.length) (0, text)
    ⟨l0, 0, [], false, [], h0, by simp, by simp, ?_⟩ ?_
  · exact stA_mk ⟨rfl, rfl, rfl, rfl, trivial⟩
  rintro ⟨k, rest⟩ _ ⟨l, _, ta, eb, ext, hi, hle, rfl, t, rfl⟩
  obtain ⟨hn', hb'⟩ := hI k rest l hi
  have hq : (st ++ l).length = (st ++ l0).length := by simp [hn, hn']
  repeat' (first
    | apply awp_seq
    | apply awp_block
    | apply awp_region
    | apply aops_nil
    | apply aops_move
    | apply aops_assign
    | (apply aops_extract; exact rfl; exact rfl)
    | (apply aops_cmpS; exact rfl; exact rfl; exact rfl)
    | (apply awp_cond_any; exact rfl; first | (apply cd_dt; (first | assumption | omega)) | (apply cd_df; (first | assumption | omega)) | (apply cd_nt; (first | exact rfl | assumption)) | (apply cd_nf; (first | exact rfl | assumption)) | (apply cd_n <;> intro h) | (apply cd_t; (first | exact rfl | assumption)) | (apply cd_f; (first | exact rfl | assumption)) | (apply cd_d <;> intro h) | (apply cd_s <;> intro h))
    | (apply aops_fieldAddr_bx; exact rfl; exact rfl; exact rfl)
    | apply awp_skip
    | apply awp_exit
    | (apply aops_call1; exact Tryz.call31; exact cut1_c _ _ _ (by omega))
    | (apply aops_store_locn; exact rfl; exact hq; exact rfl; exact rfl; exact rfl; exact rfl; exact rfl; exact rfl; exact rfl; exact rfl; exact rfl; exact rfl)
    | (apply aops_load_locn; exact rfl; exact hq; exact rfl; exact rfl; exact rfl; exact rfl))
  · refine aops_callYield rfl (ayield_cast (List.append_assoc st l (_ :: ext)).symm ((hY k rest l _ ext hi h (by omega)).mono ?_))
    rintro b _ ⟨l', ext', rfl, h1, h2⟩
    cases b
    · skip
      rw [← List.append_assoc]
      repeat' (first
        | apply aops_nil
        | (apply aops_not; exact rfl)
        | (apply awp_cond_any; exact rfl; first | (apply cd_dt; (first | assumption | omega)) | (apply cd_df; (first | assumption | omega)) | (apply cd_nt; (first | exact rfl | assumption)) | (apply cd_nf; (first | exact rfl | assumption)) | (apply cd_n <;> intro h) | (apply cd_t; (first | exact rfl | assumption)) | (apply cd_f; (first | exact rfl | assumption)) | (apply cd_d <;> intro h) | (apply cd_s <;> intro h))
        | apply awp_ret)
      refine aret_plain rfl (ares_zero rfl) ⟨l', _, ext', List.append_assoc _ _ _, .inr (h2 rfl).1⟩
    · have hi3 := h1 rfl
      obtain ⟨hn3, hb3⟩ := hI _ _ _ hi3
      have hp := past_length 10 rest
      have hr0 : 0 < rest.length := List.length_pos_iff.2 h
      have hq3 : (st ++ l').length = (st ++ l0).length := by simp [hn, hn3]
      rw [← List.append_assoc]
      repeat' (first
        | apply awp_seq
        | apply awp_region
        | apply aops_nil
        | apply aops_move
        | (apply aops_not; exact rfl)
        | (apply awp_cond_any; exact rfl; first | (apply cd_dt; (first | assumption | omega)) | (apply cd_df; (first | assumption | omega)) | (apply cd_nt; (first | exact rfl | assumption)) | (apply cd_nf; (first | exact rfl | assumption)) | (apply cd_n <;> intro h) | (apply cd_t; (first | exact rfl | assumption)) | (apply cd_f; (first | exact rfl | assumption)) | (apply cd_d <;> intro h) | (apply cd_s <;> intro h))
        | (apply aops_lenS; exact rfl; exact rfl; exact rfl)
        | (apply aops_add; exact rfl; exact rfl; exact wrap_i64 (by omega) (by omega))
        | (apply aops_sub; exact rfl; exact rfl; exact wrap_i64 (by omega) (by omega))
        | (apply aops_fieldAddr_bx; exact rfl; exact rfl; exact rfl)
        | apply awp_skip
        | (apply aops_load_low; exact rfl; exact rfl; exact hb3; exact rfl; exact rfl)
        | (apply aops_store_locn; exact rfl; exact hq3; exact rfl; exact rfl; exact rfl; exact rfl; exact rfl; exact rfl; exact rfl; exact rfl; exact rfl; exact rfl)
        | (apply aops_load_locn; exact rfl; exact hq3; exact rfl; exact rfl; exact rfl; exact rfl))
      exact ⟨(k + 1, past 10 rest), ⟨l', _, _, _, _, hi3, by omega, rfl, stA_mk ⟨rfl, rfl, rfl, rfl, trivial⟩⟩, by simp only; omega⟩
  · have hr : rest = [] := Classical.not_not.1 h
    subst hr
    exact aret_plain rfl (ares_zero rfl) ⟨l, _, ext, List.append_assoc _ _ _, .inl ⟨k, hi⟩⟩
theorem awp_rangeSplit {N : Nat} {Q : Exit → AS → Prop} {s : AS} {f : Operand} {p : Tmp} {asg body : Code} {st loc : List AObj} {kb ver : Nat} (text : List UInt8) (hst : s.st = st ++ loc) (hx : aeval N s f = .fn (.func 85) [] [.bx (st.length + kb) ver 0]) (ht : text.length < 4294967281)
    (I : Nat → List UInt8 → List AObj → Prop) (D : Code → List AObj → Prop) (h0 : I 0 text loc)
    (hI : ∀ k rest l, I k rest l → l.length = loc.length ∧ l[kb]? = some (.cells ver 9 [Sv text])) (hD : ∀ c l, D c l → l.length = loc.length)
    (hb : ∀ F own rd k rest l ext m, LoopF F N s.t #[p] asg body → I k rest l → rest ≠ [] → rest.length ≤ text.length → ((st ++ (l ++ [.dfr, F .ready none, own])) ++ ext).length = m → ((st ++ (l ++ [.dfr, F .busy none, own])) ++ ext).length = m →
      AWp E (some rd) N asg (only fun s1 => ∃ new, s1.st = ((st ++ (l ++ [.dfr, F .ready none, own])) ++ ext) ++ new ∧ s1.df = [] ∧ AWp E (some rd) N body (roundG F st own (I (k + 1) (past 10 rest)) D) ⟨s1.t, ((st ++ (l ++ [.dfr, F .busy none, own])) ++ ext) ++ new, []⟩) ⟨put s.t p (lineA k text rest), ((st ++ (l ++ [.dfr, F .ready none, own])) ++ ext) ++ [], []⟩)
    (hn : ∀ k l ext, I k [] l → Q .normal ⟨s.t, ((st ++ (l ++ [.dfr, .dead])) ++ ext) ++ [], (st.length + loc.length) :: s.df⟩)
    (hd : ∀ c l ext, D c l → AWp E none N c Q ⟨s.t, ((st ++ (l ++ [.dfr, .dead])) ++ ext) ++ [], (st.length + loc.length) :: s.df⟩) : AWp E none N (.rangeFunc f #[p] asg body) Q s := by
  refine awp_rangeF hst hx Tryz.call85 fun F hF => ?_
  refine ACall.mono (split1g_c text (st.length + (loc.length + 1)) (st.length + kb) ver (loc.length + 2) (fun k rest l => ∃ l1, l = l1 ++ [.dfr, F .ready none] ∧ I k rest l1) (fun l => ∃ l1 c, l = l1 ++ [.dfr, F .done (some c)] ∧ D c l1) st (loc ++ [.dfr, F .ready none]) ht ⟨loc, rfl, h0⟩ ?_ ?_) ?_
  · rintro k rest _ ⟨l, rfl, hi⟩
    obtain ⟨h1, h2⟩ := hI k rest l hi
    exact ⟨by simp [h1], get_loc (by rw [List.getElem?_append_left (lt_of_getElem? h2)]; exact h2)⟩
  · rintro k rest _ own ext ⟨l, rfl, hi⟩ hne hle
    obtain ⟨h1, h2⟩ := hI k rest l hi
    have hy := ayield_G (E := E) (st := st) (l := l) (ext := ext) (own := own) (n := loc.length) (xs := [lineA k text rest]) (I := I (k + 1) (past 10 rest)) (D := D) hF h1 rfl (fun l hl => (hI _ _ l hl).1) hD (fun rd => hb F own rd k rest l ext _ hF hi hne hle rfl (by simp))
    have e : (st ++ (l ++ [.dfr, F .ready none, own])) ++ ext = st ++ ((l ++ [.dfr, F .ready none]) ++ own :: ext) := by simp
    rw [e] at hy
    refine hy.mono ?_
    rintro b st2 ⟨l', ext', g1, g2⟩
    cases b with
    | true =>
      obtain ⟨rfl, g⟩ := g1 rfl
      exact ⟨l' ++ [.dfr, F .ready none], ext', by simp, fun _ => ⟨l', rfl, g⟩, nofun⟩
    | false =>
      obtain ⟨c, rfl, g⟩ := g2 rfl
      exact ⟨l' ++ [.dfr, F .done (some c)], ext', by simp, nofun, fun _ => ⟨⟨l', c, rfl, g⟩, by simp [hD c l' g]⟩⟩
  · rintro r _ ⟨_, own, ext, rfl, ⟨k, l, rfl, hi⟩ | ⟨l, c, rfl, hdl⟩⟩
    · have h1 := (hI _ _ _ hi).1
      have e : st ++ ((l ++ [.dfr, F .ready none]) ++ own :: ext) = (st ++ (l ++ [.dfr, F .ready none, own])) ++ ext := by simp
      rw [e]
      refine ⟨.ready, none, nofun, get_loopG h1, ?_⟩
      rw [set_loopG h1]
      have := hn k l (own :: ext) hi
      simpa using this
    · have h1 := hD _ _ hdl
      have e : st ++ ((l ++ [.dfr, F .done (some c)]) ++ own :: ext) = (st ++ (l ++ [.dfr, F .done (some c), own])) ++ ext := by simp
      rw [e]
      refine ⟨.done, some c, nofun, get_loopG h1, ?_⟩
      rw [set_loopG h1]
      have := hd c l (own :: ext) hdl
      simpa using this
end Go.Proofs.YtplagcbifecagaaGreatDoor
set_option linter.unusedVariables false
set_option maxRecDepth 100000
namespace Go.Proofs.YtplagcbifecagaaGreatDoor
open Go Go.Av Go.RowKit Go.Proofs Go.Pl
abbrev Ss (xs : List Bytes) : AV := .sl 1 (xs.map fun x => Sv x) none
theorem count1_c (l : List UInt8) (c : UInt8) (st : List AObj) : ACall E 54 [Sv l, Sv [c]] st fun r st' => r = Iv (l.count c) ∧ st' = st :=
  acall_of_calls (vals := #[.string ⟨l.toArray⟩, .string ⟨#[c]⟩]) rfl fun _ _ w _ _ => (Tryz.strings_Count_one ⟨l.toArray⟩ c w).mono fun _ _ ⟨h1, h2⟩ => ⟨h1, below_of_eq h2⟩
theorem trimPrefix_c (l m : List UInt8) (st : List AObj) : ACall E 184 [Sv l, Sv m] st fun r st' => r = Sv (Lib.trimPrefix l m) ∧ st' = st :=
  acall_of_calls (vals := #[.string ⟨l.toArray⟩, .string ⟨m.toArray⟩]) rfl fun _ _ w _ _ => (Tryz.strings_TrimPrefix ⟨l.toArray⟩ ⟨m.toArray⟩ w).mono fun _ _ ⟨h1, h2⟩ => ⟨h1, below_of_eq h2⟩
theorem trim1_c (l : List UInt8) (c : UInt8) (st : List AObj) : ACall E 184 [Sv l, Sv [c]] st fun r st' => r = Sv (trim1 c l) ∧ st' = st := by
  rw [← trimPrefix_one]
  exact trimPrefix_c _ _ _
theorem strs_cells {B0 : Nat} {w0 : World} {G : Gh} {st : List AObj} {w : World} (hA : Agree B0 w0 G st w) {xs : List Bytes} {tip : Option Nat} {v : Value} (h : Rel G (.sl 1 (xs.map fun x => Sv x) tip) v) :
    (xs = [] ∧ ∃ a c, v = .slice a 0 c) ∨ ∃ b off cap, v = .slice (some ⟨b, off, none⟩) xs.length cap ∧ b < w.heap.size ∧ xs.length ≤ cap ∧ ∀ (j : Nat) (x : Bytes), xs[j]? = some x → w.cell? ⟨b, off + j, none⟩ = some (.string ⟨x.toArray⟩) := by
  generalize hq : xs.map (fun x => Sv x) = q at h
  cases h with
  | sl0 sz tip base cap ht => exact .inl ⟨by simpa using hq, base, cap, rfl⟩
  | sl _ _ _ b off cap pub hp hw hlen hr ht hcap =>
    subst hq
    obtain ⟨c, T, fz, hc, hcc⟩ := hA.pub b pub hp
    refine .inr ⟨b, off, cap, by simp, hA.pub_lt hp, by simpa using hcap, fun j x hx => ?_⟩
    have hfl : flat (xs.map fun x => Sv x) = xs.map fun x => Sv x := by
      clear hx hr hlen hw ht hcap
      induction xs with
      | nil => rfl
      | cons a xs ih => rw [List.map_cons, flat_cons, ih]; rfl
    have hj := lt_of_getElem? hx
    rw [hfl] at hlen
    simp only [List.length_map] at hlen
    have hy : pub[off + j]? = some (pub[off + j]'(by omega)) := List.getElem?_eq_getElem (by omega)
    have hrj := hr j (Sv x) _ (by rw [hfl, List.getElem?_map, hx]; rfl) hy
    generalize hz : pub[off + j]'(by omega) = z at hrj hy
    generalize hSx : Sv x = sx at hrj
    cases hrj <;> simp_all
    subst_vars
    simp [World.cell?, hc, hcc _ _ hy]
theorem join_c (xs : List Bytes) (tip : Option Nat) (sep : Bytes) (st : List AObj) (hN : xs.length ≤ 140737488355328) (hl : (Lib.join xs sep).length ≤ 140737488355328) : ACall E 80 [.sl 1 (xs.map fun x => Sv x) tip, Sv sep] st fun r st' => r = Sv (Lib.join xs sep) ∧ st' = st := by
  refine ⟨fun B0 w0 G vs w hL hA hR => ?_⟩
  have hs : vs.size = 2 := by have := hR.1; simpa using this.symm
  have e0 : vs[0]? = some vs[0] := by simp [hs]
  have e1 : vs[1]? = some vs[1] := by simp [hs]
  have h0 := hR.2 0 _ _ rfl e0
  have h1 := hR.2 1 _ _ rfl e1
  have hv1 : vs[1] = .string ⟨sep.toArray⟩ := by generalize vs[1] = y at h1; cases h1; rfl
  have hvs : vs = #[vs[0], .string ⟨sep.toArray⟩] := by
    apply Array.ext (by simp [hs])
    intro i g1 g2
    match i with
    | 0 => rfl
    | 1 => exact hv1
    | i + 2 => simp [hs] at g1; omega
  rw [hvs]
  rcases strs_cells hA h0 with ⟨hx, a, c, hv⟩ | ⟨b, off, cap, hv, hb, hcap, hcell⟩
  · rw [hv]
    subst hx
    refine (Tryz.strings_Join_none a c ⟨sep.toArray⟩ w).mono ?_
    rintro e w' ⟨rfl, rfl⟩
    exact ⟨_, G, Sv [], st, rfl, .refl G, hA, .v _, rfl, rfl⟩
  · rw [hv]
    have hm : (xs.map fun l : Bytes => (⟨l.toArray⟩ : ByteArray)).map (·.data.toList) = xs := by simp [List.map_map, Function.comp_def]
    have hc := Tryz.strings_Join b off cap (xs.map fun l => ⟨l.toArray⟩) ⟨sep.toArray⟩ w (fun j x hx => by
      rw [List.getElem?_map] at hx
      cases hq : xs[j]? with
      | none => rw [hq] at hx; simp at hx
      | some y => rw [hq] at hx; simp at hx; subst hx; exact hcell j y hq) hb (by simpa using hN) (by simpa using hcap) (by rw [hm]; simpa using hl)
    rw [hm] at hc
    simp only [List.length_map] at hc
    refine hc.mono ?_
    rintro e w' ⟨rfl, hbw⟩
    exact ⟨_, G, Sv _, st, rfl, .refl G, hA.fresh hbw, .v _, rfl, rfl⟩
def Weak (x r : AV) : Prop := ∀ (G : Gh) (v : Value), Rel G x v → Rel G r v
theorem weak_refl (x : AV) : Weak x x := fun _ _ h => h
theorem weak_noTip (sz : Nat) (xs : List AV) (tip : Option Nat) : Weak (.sl sz xs tip) (.sl sz xs none) := fun _ _ h => rel_noTip h
theorem weak_nilSl (sz : Nat) : Weak nilSl (.sl sz [] none) := fun _ _ h => rel_nilSl h
theorem weak_tu2 {x y x' y' : AV} (h1 : Weak x x') (h2 : Weak y y') : Weak (.tu [x, y]) (.tu [x', y']) := fun G v h => by
  cases h with
  | tu _ vs hl hr =>
    refine .tu _ vs hl fun i a b ha hb => ?_
    match i with
    | 0 => simp at ha; subst ha; exact h1 G b (hr 0 x b rfl hb)
    | 1 => simp at ha; subst ha; exact h2 G b (hr 1 y b rfl hb)
    | i + 2 => simp at ha
theorem weak_ag {xs ys : List AV} (hl : xs.length = ys.length) (h : ∀ (i : Nat) (x y : AV), xs[i]? = some x → ys[i]? = some y → Weak x y) : Weak (.ag xs) (.ag ys) := fun G v hr => by
  cases hr with
  | ag _ vs hl' hr =>
    refine .ag _ vs (by omega) fun i a b ha hb => ?_
    have hi := lt_of_getElem? ha
    exact h i _ a (List.getElem?_eq_getElem (by omega)) ha G b (hr i _ b (List.getElem?_eq_getElem (by omega)) hb)
theorem ares_two_w {fn : Func} {s : AS} {t u : Tmp} {x y x' y' : AV} (hr : fn.results = #[.tmp t, .tmp u]) (hx : aeval fn.ntmps s (.tmp t) = x) (hy : aeval fn.ntmps s (.tmp u) = y) (h1 : Weak x x') (h2 : Weak y y') : ARes E fn s (.tu [x', y']) :=
  ares_weak (ares_two hr) (by rw [hx, hy]; exact weak_tu2 h1 h2)
def errN (n : Int) : AV := if n = 0 then .v .nilIface else .ifc 31 (Iv n)
theorem errN_pure (n : Int) : Pure (errN n) := by
  unfold errN
  split
  · exact pure_v _
  · exact pure_ifc (pure_v _)
theorem errN_ne {n : Int} (h : n ≠ 0) : errN n = .ifc 31 (Iv n) := if_neg h
end Go.Proofs.YtplagcbifecagaaGreatDoor
set_option maxRecDepth 100000
set_option linter.unusedVariables false
namespace Go.Proofs.YtplagcbifecagaaGreatDoor
open Go Go.Av Go.RowKit Go.Proofs Go.Pl
theorem foldCheck_c (f : FldV) (st : List AObj) (hl : f.1.length < 4294967281) : ACall E 111 [fldA f] st fun r st' => r = errN (checkF f) ∧ st' = st := by
  refine acall_pure (errN_pure _) (acall_of_awp Tryz.func111 rfl (Nat.le_of_ble_eq_true rfl) ?_)
  repeat' (first
    | apply awp_seq
    | apply awp_block
    | apply awp_region
    | apply aops_nil
    | apply aops_assign
    | (apply aops_cmpI; exact rfl; exact rfl; exact rfl)
    | (apply aops_not; exact rfl)
    | (apply awp_cond_any; exact rfl; first | (apply cd_dt; (first | assumption | omega)) | (apply cd_df; (first | assumption | omega)) | (apply cd_nt; (first | exact rfl | assumption)) | (apply cd_nf; (first | exact rfl | assumption)) | (apply cd_n <;> intro h) | (apply cd_t; (first | exact rfl | assumption)) | (apply cd_f; (first | exact rfl | assumption)) | (apply cd_d <;> intro h) | (apply cd_s <;> intro h))
    | (apply aops_lenS; exact rfl; exact rfl; exact rfl)
    | (apply aops_makeInterface; exact rfl; exact rfl)
    | (apply aops_box; exact rfl; exact rfl; exact rfl; exact rfl)
    | (apply aops_fieldAddr_bx; exact rfl; exact rfl; exact rfl)
    | (apply aops_load_loc; exact rfl; exact rfl; exact rfl; exact rfl; exact rfl)
    | apply awp_skip
    | apply awp_ret
    | (apply aops_call1; exact Tryz.call145; exact key_c _ _ hl))
  all_goals refine aret_plain rfl (ares_one rfl) ⟨(?_ : _ = _), _, rfl⟩
  · have e : checkF f = 5 := if_pos (by simp_all)
    rw [e]; rfl
  · have e : checkF f = 6 := (if_neg (by simp_all)).trans (if_pos (by omega))
    rw [e]; rfl
  · have e : checkF f = 0 := (if_neg (by simp_all)).trans (if_neg (by omega))
    rw [e]; rfl
theorem foldCheck0_c (f : FldV) (st : List AObj) (hl : f.1.length < 4294967281) (h : checkF f = 0) : ACall E 111 [fldA f] st fun r st' => r = .v .nilIface ∧ st' = st := by
  have := foldCheck_c f st hl
  rw [h] at this
  exact this
theorem foldCheck1_c (f : FldV) (st : List AObj) (hl : f.1.length < 4294967281) (h : checkF f ≠ 0) : ACall E 111 [fldA f] st fun r st' => r = .ifc 31 (Iv (checkF f)) ∧ st' = st := by
  have := foldCheck_c f st hl
  rw [errN_ne h] at this
  exact this
theorem stuffed_c (s : List UInt8) (st : List AObj) (hl : s.length < 4294967281) : ACall E 113 [Sv s] st fun r st' => r = Sv (stuffF s) ∧ st' = st := by
  refine acall_pure (pure_v _) (acall_of_awp Tryz.func113 rfl (Nat.le_of_ble_eq_true rfl) ?_)
  have hb : Lib.trimS s [32, 9] = [] ↔ blankAll s := by rw [trimS_nil]; simp [isBlank, blankAll]
  repeat' (first
    | apply awp_seq
    | apply awp_region
    | apply aops_nil
    | apply aops_move
    | apply aops_assign
    | (apply aops_cmpS; exact rfl; exact rfl; exact rfl)
    | (apply aops_guard_any; exact rfl; exact rfl; exact rfl; exact rfl)
    | (apply gd_run_n; (first | assumption | omega))
    | (apply gd_skip_d; (first | assumption | omega))
    | (apply gd_split_d <;> intro h)
    | (apply aops_pick_any; exact rfl; first | (apply pk_dt; (first | assumption | omega)) | (apply pk_df; (first | assumption | omega)) | (apply pk_nt; (first | exact rfl | assumption)) | (apply pk_nf; (first | exact rfl | assumption)) | (apply pk_t; (first | exact rfl | assumption)) | (apply pk_f; (first | exact rfl | assumption)))
    | (apply awp_cond_any; exact rfl; first | (apply cd_dt; (first | assumption | omega)) | (apply cd_df; (first | assumption | omega)) | (apply cd_nt; (first | exact rfl | assumption)) | (apply cd_nf; (first | exact rfl | assumption)) | (apply cd_n <;> intro h) | (apply cd_t; (first | exact rfl | assumption)) | (apply cd_f; (first | exact rfl | assumption)) | (apply cd_d <;> intro h) | (apply cd_s <;> intro h))
    | (apply aops_concat; exact rfl; exact rfl; (first | omega | (simp only [List.length_append, List.length_cons, List.length_nil]; omega) | (simp; omega)))
    | apply awp_skip
    | apply awp_ret
    | (apply aops_call1; exact Tryz.call96; exact trimA_c _ _ _ (by omega) rfl rfl)
    | (apply aops_call1; exact Tryz.call69; exact hasPrefix1_c _ _ _))
  all_goals refine aret_plain rfl (ares_one rfl) ⟨congrArg (fun l : Bytes => Sv l) (?_ : _ = stuffF s), _, rfl⟩
  all_goals unfold stuffF
  all_goals simp_all
theorem pure_Ss (xs : List Bytes) : Pure (Ss xs) := pure_strs xs
theorem split10e_c (l p : Bytes) (r : List Bytes) (st : List AObj) (hl : l.length < 4294967281) (h : partsOf l = p :: r) : ACall E 112 [Sv l, Sv [10]] st fun x st' => x = .sl 1 (Sv p :: r.map fun x => Sv x) none ∧ st' = st := by
  have := split10_c l st hl
  rw [h] at this
  exact this
def linesA (f : FldV) : AV := .tu [Ss (if checkF f = 0 then linesF f else []), errN (checkF f)]
theorem linesA_pure (f : FldV) : Pure (linesA f) := pure_tu fun x hx => by
  simp only [List.mem_cons, List.not_mem_nil, or_false] at hx
  rcases hx with rfl | rfl
  · exact pure_Ss _
  · exact errN_pure _
set_option maxHeartbeats 2000000 in
theorem foldLines_c (f : FldV) (st : List AObj) (hl : f.1.length < 4294967281) (hv : f.2.length < 1000000) : ACall E 78 [fldA f] st fun r st' => r = linesA f ∧ st' = st := by
  refine acall_pure (linesA_pure _) (acall_of_awp Tryz.func78 rfl (Nat.le_of_ble_eq_true rfl) ?_)
  by_cases hc : checkF f = 0
  · obtain ⟨p, r, hp⟩ : ∃ p r, partsOf f.2 = p :: r := ⟨_, _, partsOf_eq f.2⟩
    have hpl : p.length ≤ f.2.length := parts_lenle f.2 p (by rw [hp]; simp)
    have hrl : ∀ x ∈ r, x.length ≤ f.2.length := fun x hx => parts_lenle f.2 x (by rw [hp]; simp [hx])
    have hrn : r.length ≤ f.2.length := by have := partsOf_length_le _ f.2 (Nat.le_refl _); rw [hp] at this; simpa using this
    repeat' (first
      | (apply aops_buildSliceO; exact rfl; exact rfl; exact rfl; exact rfl; exact rfl; exact rfl)
      | (apply awp_drawS; exact rfl; exact rfl; exact rfl; exact rfl; exact rfl; kernel_rfl)
      | apply awp_seq
      | apply awp_block
      | apply awp_region
      | apply aops_nil
      | apply aops_move
      | apply aops_assign
      | (apply aops_cmpS; exact rfl; exact rfl; exact rfl)
      | (apply awp_cond_any; exact rfl; first | (apply cd_dt; (first | assumption | omega)) | (apply cd_df; (first | assumption | omega)) | (apply cd_nt; (first | exact rfl | assumption)) | (apply cd_nf; (first | exact rfl | assumption)) | (apply cd_n <;> intro h) | (apply cd_t; (first | exact rfl | assumption)) | (apply cd_f; (first | exact rfl | assumption)) | (apply cd_d <;> intro h) | (apply cd_s <;> intro h))
      | (apply aops_lenL; exact rfl; exact rfl; exact rfl; exact rfl)
      | (apply aops_concat; exact rfl; exact rfl; (first | omega | (simp only [List.length_append, List.length_cons, List.length_nil]; omega) | (simp; omega)))
      | (apply aops_nilNeNil; exact rfl; exact rfl)
      | (apply aops_box; exact rfl; exact rfl; exact rfl; exact rfl)
      | (apply aops_fieldAddr_bx; exact rfl; exact rfl; exact rfl)
      | (apply aops_load_pp; exact rfl; exact rfl; exact rfl)
      | (apply aops_load_loc; exact rfl; exact rfl; exact rfl; exact rfl; exact rfl)
      | (apply aops_store_loc; exact rfl; exact rfl; exact rfl; exact rfl; exact rfl; exact rfl; exact rfl; exact rfl; exact rfl; exact rfl; exact rfl)
      | (apply aops_sliceFrom; exact rfl; exact rfl; exact rfl; exact rfl; (first | assumption | omega | exact Nat.succ_le_succ (Nat.zero_le _) | (simp; omega)); exact rfl)
      | apply aq_nil
      | (apply aq_concat; exact rfl; exact rfl; (first | omega | (simp only [List.length_append, List.length_cons, List.length_nil]; omega) | (simp; omega)))
      | (apply aq_load_pp; exact rfl; exact rfl; exact rfl)
      | (apply aq_load_loc; exact rfl; exact rfl; exact rfl; exact rfl; exact rfl)
      | apply aq_move
      | apply awp_skip
      | (apply aops_call1; exact Tryz.call111; exact foldCheck0_c _ _ hl hc)
      | (apply aops_call1; exact Tryz.call112; exact split10e_c _ _ _ _ (by omega) hp)
      | (apply aops_indexAddr (n := 0); exact rfl; exact rfl; exact rfl; exact rfl; exact rfl; exact rfl)
      | (apply aq_indexAddr (n := 0); exact rfl; exact rfl; exact rfl; exact rfl; exact rfl; exact rfl)
      | (apply aq_indexAddr_os (n := 0); exact rfl; exact rfl; exact rfl; exact rfl; exact rfl; omega))
    all_goals refine awp_osTip 6 (o := st.length + 1) (sz := 1) (len := 1) (cap := 1) (xs := [Sv (headLine f.1 p)]) (T' := 9) rfl (get_loc rfl) rfl rfl (by omega) (Nat.le_refl _) (by decide) (by simp [AV.cells]) ?_ ?_
    · exact congrArg (fun l : Bytes => [Sv l]) (by unfold headLine; rw [if_neg h] : headLine f.1 p = f.1 ++ [58] ++ ([32] ++ p))
    rotate_left
    · exact congrArg (fun l : Bytes => [Sv l]) (by unfold headLine; rw [if_pos (Classical.not_not.1 h), List.append_nil] : headLine f.1 p = f.1 ++ [58])
    all_goals
      have hre : linesA f = .tu [Ss (headLine f.1 p :: r.map fun s => [32] ++ stuffF s), .v .nilIface] := by
        unfold linesA linesF
        rw [if_pos hc, hc, hp]
        rfl
      rw [hre]
      have hst : ∀ s, (stuffF s).length ≤ s.length + 1 := stuff_len
      refine awp_loopL r (fun pre s => StE [(6, .sl 1 (Sv (headLine f.1 p) :: pre.map (fun s => Sv ([32] ++ stuffF s))) (some (st.length + 1))), (35, .sl 1 (r.map fun x => Sv x) none), (36, Iv r.length), (37, Iv pre.length)] st [.cells 0 58 [Sv f.1, Sv f.2], .tip (pre.length + 1) 1 9] s) (stE_mk0 ⟨rfl, rfl, congrArg (fun n : Nat => Iv (n : Int)) (List.length_map ..), rfl, trivial⟩ (set_loc st _ 1 _)) ?_ ?_
      · rintro _ ⟨t, ext, rfl⟩
        repeat' (first
          | apply awp_seq
          | apply awp_region
          | apply aops_nil
          | apply aops_move
          | apply aops_assign
          | (apply aops_cmpI; exact rfl; exact rfl; exact rfl)
          | (apply awp_cond_any; exact rfl; first | (apply cd_dt; (first | assumption | omega)) | (apply cd_df; (first | assumption | omega)) | (apply cd_nt; (first | exact rfl | assumption)) | (apply cd_nf; (first | exact rfl | assumption)) | (apply cd_n <;> intro h) | (apply cd_t; (first | exact rfl | assumption)) | (apply cd_f; (first | exact rfl | assumption)) | (apply cd_d <;> intro h) | (apply cd_s <;> intro h))
          | apply awp_exit
          | apply awp_ret)
        refine aret_plain rfl (ares_two_w rfl rfl rfl (weak_noTip _ _ _) (weak_refl _)) ⟨?_, ext_end _ _ _ _⟩
        simp only [Ss, List.map_cons, List.map_map]
        rfl
      · rintro pre a rest _ hr ⟨t, ext, rfl⟩
        have hlen : r.length = pre.length + (rest.length + 1) := by rw [hr]; simp
        have hget : (r.map fun x => Sv x)[pre.length]? = some (Sv a) := by rw [hr]; simp
        have ha : a.length ≤ f.2.length := hrl a (by rw [hr]; simp)
        have hsa := hst a
        repeat' (first
          | apply awp_seq
          | apply awp_block
          | apply awp_region
          | apply aops_nil
          | apply aops_move
          | apply aops_assign
          | (apply aops_cmpI; exact rfl; exact rfl; exact rfl)
          | (apply awp_cond_any; exact rfl; first | (apply cd_dt; (first | assumption | omega)) | (apply cd_df; (first | assumption | omega)) | (apply cd_nt; (first | exact rfl | assumption)) | (apply cd_nf; (first | exact rfl | assumption)) | (apply cd_n <;> intro h) | (apply cd_t; (first | exact rfl | assumption)) | (apply cd_f; (first | exact rfl | assumption)) | (apply cd_d <;> intro h) | (apply cd_s <;> intro h))
          | (apply aops_concat; exact rfl; exact rfl; (first | omega | (simp only [List.length_append, List.length_cons, List.length_nil]; omega) | (simp; omega)))
          | (apply aops_add; exact rfl; exact rfl; exact wrap_i64 (by omega) (by omega))
          | (apply aops_load_pp; exact rfl; exact rfl; exact rfl)
          | (apply aops_buildSlice; exact rfl; exact rfl; exact rfl; exact rfl; exact rfl; exact rfl; exact rfl; exact rfl; exact rfl)
          | apply awp_skip
          | (apply aops_call1; exact Tryz.call113; exact stuffed_c _ _ (by omega))
          | (apply aops_indexAddr (n := pre.length); exact rfl; exact rfl; exact rfl; exact rfl; exact rfl; exact hget)
          | (apply aops_append_mid (n := pre.length + 1) (m := 1) (sz := 1) (bytes := 16); exact rfl; exact rfl; exact rfl; exact rfl; simp; exact rfl; exact rfl; exact ⟨⟨_, _, rfl, rfl, rfl, rfl, rfl⟩⟩; exact rfl; exact rfl; (unfold maxLen; omega); omega; exact rfl))
        refine stE_mk ⟨?_, rfl, rfl, ?_, trivial⟩ ?_
        · exact sl_snoc1 _ (fun s => Sv ([32] ++ stuffF s)) pre a _ rfl
        · exact iv_snoc pre a
        · rw [snoc_len pre a]; rfl
  · skip
    repeat' (first
      | apply awp_seq
      | apply awp_region
      | apply aops_nil
      | apply aops_move
      | apply aops_assign
      | (apply awp_cond_any; exact rfl; first | (apply cd_dt; (first | assumption | omega)) | (apply cd_df; (first | assumption | omega)) | (apply cd_nt; (first | exact rfl | assumption)) | (apply cd_nf; (first | exact rfl | assumption)) | (apply cd_n <;> intro h) | (apply cd_t; (first | exact rfl | assumption)) | (apply cd_f; (first | exact rfl | assumption)) | (apply cd_d <;> intro h) | (apply cd_s <;> intro h))
      | (apply aops_errNeNil; exact rfl; exact rfl)
      | (apply aops_box; exact rfl; exact rfl; exact rfl; exact rfl)
      | (apply aops_load_loc; exact rfl; exact rfl; exact rfl; exact rfl; exact rfl)
      | apply awp_ret
      | (apply aops_call1; exact Tryz.call111; exact foldCheck1_c _ _ hl hc))
    refine aret_plain rfl (ares_weak (r' := .tu [Ss [], .ifc 31 (Iv (checkF f))]) (ares_two rfl) (weak_tu2 (weak_nilSl _) (weak_refl _))) ⟨?_, _, rfl⟩
    unfold linesA
    rw [if_neg hc, errN_ne hc]
end Go.Proofs.YtplagcbifecagaaGreatDoor
set_option linter.unusedVariables false
set_option maxRecDepth 100000
namespace Go.Proofs.YtplagcbifecagaaGreatDoor
open Go Go.Av Go.RowKit Go.Proofs Go.Pl
theorem aops_allocB {rd : Option Nat} {N : Nat} {ops : Array Oper} {K : AS → Prop} {s : AS} {rest : List Oper} {d : Option Tmp} {T : TypeId} {p : String} {af : Array Edge} {st loc : List AObj} (hst : s.st = st ++ loc)
    (h : AOps E rd N ops rest K (AS.put ⟨s.t, st ++ (loc ++ [bldO 0 (.v (.pointer none)) [] (st.length + (loc.length + 1)), .tip 0 1 5]), s.df⟩ d (.bx (st.length + loc.length) 0 0))) : AOps E rd N ops (⟨d, .alloc 82, T, p, af, none⟩ :: rest) K s := by
  refine aops_alloc hst rfl ?_
  have e : ∀ (t : Nat → AV) (st' : List AObj) (df : List Nat) (x : AV), (AS.put ⟨t, st', df⟩ d x).st = st' := fun t st' df x => by cases d <;> rfl
  have e2 : ∀ (t : Nat → AV) (st' st2 : List AObj) (df : List Nat) (x : AV), (⟨(AS.put ⟨t, st', df⟩ d x).t, st2, (AS.put ⟨t, st', df⟩ d x).df⟩ : AS) = AS.put ⟨t, st2, df⟩ d x := fun t st' st2 df x => by cases d <;> rfl
  refine aops_tipCell (o := st.length + loc.length) (j := 1) (sz := 1) (T' := 5) (T1 := 82) (ver := 0) (cs := [.v (.pointer none), nilSl]) ?_ rfl ?_
  · rw [e, ← List.append_assoc, List.getElem?_append_right (by simp)]
    simp
    rfl
  · rw [e, e2]
    have hx : (st ++ (loc ++ [AObj.cells 0 82 [.v (.pointer none), nilSl]])).set (st.length + loc.length) (.cells 0 82 ([AV.v (.pointer none), nilSl].set 1 (.sl 1 [] (some (st ++ (loc ++ [AObj.cells 0 82 [.v (.pointer none), nilSl]])).length)))) ++ [AObj.tip 0 1 5]
        = st ++ (loc ++ [bldO 0 (.v (.pointer none)) [] (st.length + (loc.length + 1)), .tip 0 1 5]) := by
      rw [set_loc, List.append_assoc, List.set_append_right _ _ (Nat.le_refl _)]
      simp
    have h' := h
    rw [← hx] at h'
    exact h'
theorem bWrite_mid (st loc ext new loc' : List AObj) (k kt ver : Nat) (q : AV) (l m : List UInt8) (hk : loc[k]? = some (bldO ver q l (st.length + kt))) (hkt : loc[kt]? = some (.tip l.length 1 5)) (hq : q = .v (.pointer none) ∨ q = .bx (st.length + k) ver 0)
    (hlen : l.length + m.length ≤ 140737488355328) (hl : loc' = (loc.set k (bldO ver (.bx (st.length + k) ver 0) (l ++ m) (st.length + kt))).set kt (.tip (l ++ m).length 1 5)) :
    ACall E 41 [.bx (st.length + k) ver 0, Sv m] (((st ++ loc) ++ ext) ++ new) fun r st' => r = .tu [Iv m.length, .v .nilIface] ∧ st' = ((st ++ loc') ++ ext) ++ new := by
  refine (bWrite_c (st.length + k) ver (st.length + kt) q l m _ (get_mid hk) (get_mid hkt) hq hlen).mono fun r st' ⟨h1, h2⟩ => ⟨h1, ?_⟩
  have hk1 := lt_of_getElem? hk
  have hk2 := lt_of_getElem? hkt
  rw [h2, set_mid _ hk1, set_mid _ (by simpa using hk2), hl, List.length_append]
theorem bString_mid (st loc ext new loc' : List AObj) (k kt ver : Nat) (q : AV) (l : List UInt8) (hk : loc[k]? = some (bldO ver q l (st.length + kt))) (hkt : loc[kt]? = some (.tip l.length 1 5)) (hl : loc' = loc.set kt .dead) :
    ACall E 43 [.bx (st.length + k) ver 0] (((st ++ loc) ++ ext) ++ new) fun r st' => r = Sv l ∧ st' = ((st ++ loc') ++ ext) ++ new := by
  refine (bString_c (st.length + k) ver (st.length + kt) q l _ (get_mid hk) (get_mid hkt)).mono fun r st' ⟨h1, h2⟩ => ⟨h1, ?_⟩
  rw [h2, set_mid _ (lt_of_getElem? hkt), hl]
end Go.Proofs.YtplagcbifecagaaGreatDoor
set_option maxRecDepth 100000
set_option linter.unusedVariables false
namespace Go.Proofs.YtplagcbifecagaaGreatDoor
open Go Go.Av Go.RowKit Go.Proofs Go.Pl
theorem tail_sum : ∀ (r : List Bytes), (textF (r.map fun s => [32] ++ stuffF s)).length ≤ 3 * (r.flatMap fun s => [10] ++ s).length
  | [] => by simp [textF]
  | a :: r => by
    have ih := tail_sum r
    have := stuff_len a
    simp only [textF, List.map_cons, List.flatMap_cons, List.length_append, List.length_cons, List.length_nil] at ih ⊢
    omega
theorem textF_app (a b : List Bytes) : textF (a ++ b) = textF a ++ textF b := by simp [textF]
theorem textF_one (s : Bytes) : textF [s] = s ++ [10] := by simp [textF]
theorem textF_count : ∀ (l : List Bytes), l.length ≤ (textF l).length
  | [] => by simp
  | a :: r => by
    have ih := textF_count r
    simp only [textF, List.flatMap_cons, List.length_append, List.length_cons, List.length_nil] at ih ⊢
    omega
theorem foldF_app (a b : List Fld) : foldF (a ++ b) = foldF a ++ foldF b := by simp [foldF]
theorem foldF_one (f : Fld) : foldF [f] = textF (linesF f) := by simp [foldF]
theorem linesF_len {f : Fld} (h : goodFld f) : (textF (linesF f)).length ≤ 5000 := by
  obtain ⟨hk, hv⟩ := h
  have h1 := tail_sum (partsOf f.2).tail
  have h2 := congrArg List.length (parts_join _ f.2 (Nat.le_refl _))
  have h3 : (headLine f.1 ((partsOf f.2).headD [])).length ≤ 32 + 2 + ((partsOf f.2).headD []).length := by
    have := hk.2.1
    unfold headLine
    split <;> simp <;> omega
  have e : linesF f = [headLine f.1 ((partsOf f.2).headD [])] ++ (partsOf f.2).tail.map fun s => [32] ++ stuffF s := rfl
  rw [e, textF_app, textF_one]
  simp only [List.length_append, List.length_cons, List.length_nil] at h2 ⊢
  omega
theorem foldF_len : ∀ (xs : List Fld), (∀ f ∈ xs, goodFld f) → (foldF xs).length ≤ 5000 * xs.length
  | [], _ => by simp [foldF]
  | f :: r, h => by
    have ih := foldF_len r fun x hx => h x (by simp [hx])
    have h1 := linesF_len (h f (by simp))
    have e : foldF (f :: r) = textF (linesF f) ++ foldF r := by simp [foldF]
    rw [e, List.length_append, List.length_cons]
    omega
def errF : List Fld → Int
  | [] => 0
  | f :: r => if checkF f ≠ 0 then checkF f else errF r
theorem errF_zero : ∀ (xs : List Fld), errF xs = 0 ↔ ∀ f ∈ xs, goodFld f
  | [] => by simp [errF]
  | f :: r => by
    have ih := errF_zero r
    unfold errF
    by_cases h : checkF f ≠ 0
    · rw [if_pos h]
      have hg : ¬ goodFld f := fun hg => h ((checkF_good f).2 hg)
      simp [h, hg]
    · have hg := (checkF_good f).1 (Classical.not_not.1 h)
      rw [if_neg h, ih]
      simp [hg]
theorem errF_at : ∀ {pre : List Fld} {f : Fld} {r : List Fld}, (∀ x ∈ pre, goodFld x) → checkF f ≠ 0 → errF (pre ++ f :: r) = checkF f
  | [], f, r, _, h => by simp [errF, h]
  | x :: pre, f, r, hp, h => by
    have := (checkF_good x).2 (hp x (by simp))
    simp only [List.cons_append, errF, this]
    rw [if_neg (by simp)]
    exact errF_at (fun y hy => hp y (by simp [hy])) h
theorem foldLines0_c (f : FldV) (st : List AObj) (hl : f.1.length < 4294967281) (hv : f.2.length < 1000000) (h : checkF f = 0) : ACall E 78 [fldA f] st fun r st' => r = .tu [Ss (linesF f), .v .nilIface] ∧ st' = st := by
  have := foldLines_c f st hl hv
  unfold linesA at this
  rw [if_pos h, h] at this
  exact this
theorem foldLines1_c (f : FldV) (st : List AObj) (hl : f.1.length < 4294967281) (hv : f.2.length < 1000000) (h : checkF f ≠ 0) : ACall E 78 [fldA f] st fun r st' => r = .tu [Ss [], .ifc 31 (Iv (checkF f))] ∧ st' = st := by
  have := foldLines_c f st hl hv
  unfold linesA at this
  rw [if_neg h, errN_ne h] at this
  exact this
def foldA (xs : List Fld) : AV := .tu [Sv (if errF xs = 0 then foldF xs else []), errN (errF xs)]
theorem foldA_pure (xs : List Fld) : Pure (foldA xs) := pure_tu fun x hx => by
  simp only [List.mem_cons, List.not_mem_nil, or_false] at hx
  rcases hx with rfl | rfl
  · exact pure_v _
  · exact errN_pure _
structure FldsW (xs : List FldV) : Prop where
  len : xs.length < 1000000
  val : ∀ f ∈ xs, f.1.length < 4294967281 ∧ f.2.length < 1000000
set_option maxHeartbeats 2000000 in
theorem fold_c (xs : List FldV) (st : List AObj) (hx : FldsW xs) : ACall E 40 [fldsA xs] st fun r st' => r = foldA xs ∧ st' = st := by
  refine acall_pure (foldA_pure _) (acall_of_awp Tryz.func40 rfl (Nat.le_of_ble_eq_true rfl) ?_)
  have hxl := hx.len
  repeat' (first
    | (apply aops_allocB; exact rfl)
    | apply awp_seq
    | apply awp_block
    | apply awp_region
    | apply aops_nil
    | apply aops_move
    | apply aops_assign
    | (apply aops_lenL; exact rfl; exact rfl; exact rfl; exact rfl))
  refine awp_loopL xs (fun pre s => (∀ f ∈ pre, goodFld f) ∧ ∃ q, (q = .v (.pointer none) ∨ q = .bx (st.length + 0) 0 0) ∧ StE [(4, .bx (st.length + 0) 0 0), (11, fldsA xs), (12, Iv xs.length), (13, Iv pre.length)] st [bldO 0 q (foldF pre) (st.length + 1), .tip (foldF pre).length 1 5] s) ⟨by simp, _, .inl rfl, stE_mk0 ⟨rfl, rfl, congrArg (fun n : Nat => Iv (n : Int)) (List.length_map ..), rfl, trivial⟩ rfl⟩ ?_ ?_
  · rintro _ ⟨hg, q, hq, t, ext, rfl⟩
    repeat' (first
      | apply awp_seq
      | apply awp_region
      | apply aops_nil
      | apply aops_assign
      | (apply aops_cmpI; exact rfl; exact rfl; exact rfl)
      | (apply awp_cond_any; exact rfl; first | (apply cd_dt; (first | assumption | omega)) | (apply cd_df; (first | assumption | omega)) | (apply cd_nt; (first | exact rfl | assumption)) | (apply cd_nf; (first | exact rfl | assumption)) | (apply cd_n <;> intro h) | (apply cd_t; (first | exact rfl | assumption)) | (apply cd_f; (first | exact rfl | assumption)) | (apply cd_d <;> intro h) | (apply cd_s <;> intro h))
      | apply awp_exit
      | apply awp_ret
      | (refine aops_call1 Tryz.call43 (bString_mid st _ _ _ _ 0 1 0 _ _ rfl rfl rfl) ?_))
    refine aret_plain rfl (ares_two rfl) ⟨?_, ext_end _ _ _ _⟩
    unfold foldA
    have h0 := (errF_zero xs).2 hg
    rw [if_pos h0, h0]
    rfl
  · rintro pre f rest _ hr ⟨hg, q, hq, t, ext, rfl⟩
    have hlen : xs.length = pre.length + (rest.length + 1) := by rw [hr]; simp
    have hget : (xs.map fldA)[pre.length]? = some (fldA f) := by rw [hr]; simp
    obtain ⟨hf1, hf2⟩ := hx.val f (by rw [hr]; simp)
    by_cases hc : checkF f = 0
    · have hgf := (checkF_good f).1 hc
      have hb1 := foldF_len pre hg
      have hb2 := linesF_len hgf
      repeat' (first
        | apply awp_seq
        | apply awp_block
        | apply awp_region
        | apply aops_nil
        | apply aops_move
        | apply aops_assign
        | (apply aops_extract; exact rfl; exact rfl)
        | (apply aops_cmpI; exact rfl; exact rfl; exact rfl)
        | (apply awp_cond_any; exact rfl; first | (apply cd_dt; (first | assumption | omega)) | (apply cd_df; (first | assumption | omega)) | (apply cd_nt; (first | exact rfl | assumption)) | (apply cd_nf; (first | exact rfl | assumption)) | (apply cd_n <;> intro h) | (apply cd_t; (first | exact rfl | assumption)) | (apply cd_f; (first | exact rfl | assumption)) | (apply cd_d <;> intro h) | (apply cd_s <;> intro h))
        | (apply aops_lenL; exact rfl; exact rfl; exact rfl; exact rfl)
        | (apply aops_nilNeNil; exact rfl; exact rfl)
        | (apply aops_alloc; exact rfl; exact rfl)
        | (apply aops_load_pp; exact rfl; exact rfl; exact rfl)
        | (apply aops_load_loc; exact rfl; exact rfl; exact rfl; exact rfl; exact rfl)
        | (apply aops_store_loc; exact rfl; exact rfl; exact rfl; exact rfl; exact rfl; exact rfl; exact rfl; exact rfl; exact rfl; exact rfl; exact rfl)
        | apply awp_skip
        | (apply aops_call1; exact Tryz.call78; exact foldLines0_c _ _ hf1 hf2 hc)
        | (apply aops_indexAddr (n := pre.length); exact rfl; exact rfl; exact rfl; exact rfl; exact rfl; exact hget))
      refine awp_loopL (linesF f) (fun lp s => ∃ q, (q = .v (.pointer none) ∨ q = .bx (st.length + 0) 0 0) ∧ StE [(4, .bx (st.length + 0) 0 0), (11, fldsA xs), (12, Iv xs.length), (13, Iv pre.length), (25, Ss (linesF f)), (26, Iv (linesF f).length), (27, Iv lp.length)] st [bldO 0 q (foldF pre ++ textF lp) (st.length + 1), .tip (foldF pre ++ textF lp).length 1 5] s) ⟨_, hq, stE_mk ⟨rfl, rfl, rfl, rfl, rfl, congrArg (fun n : Nat => Iv (n : Int)) (List.length_map ..), rfl, trivial⟩ (by simp [textF])⟩ ?_ ?_
      · rintro _ ⟨q, hq, t, ext, rfl⟩
        repeat' (first
          | apply awp_seq
          | apply awp_region
          | apply aops_nil
          | apply aops_move
          | (apply aops_cmpI; exact rfl; exact rfl; exact rfl)
          | (apply awp_cond_any; exact rfl; first | (apply cd_dt; (first | assumption | omega)) | (apply cd_df; (first | assumption | omega)) | (apply cd_nt; (first | exact rfl | assumption)) | (apply cd_nf; (first | exact rfl | assumption)) | (apply cd_n <;> intro h) | (apply cd_t; (first | exact rfl | assumption)) | (apply cd_f; (first | exact rfl | assumption)) | (apply cd_d <;> intro h) | (apply cd_s <;> intro h))
          | (apply aops_add; exact rfl; exact rfl; exact wrap_i64 (by omega) (by omega))
          | apply awp_exit)
        refine ⟨fun x hx => ?_, q, hq, stE_mk ⟨rfl, rfl, rfl, ?_, trivial⟩ ?_⟩
        · rcases List.mem_append.1 hx with hx | hx
          · exact hg x hx
          · simp at hx; subst hx; exact hgf
        · rw [snoc_len pre f]; rfl
        · rw [foldF_app, foldF_one]
      · rintro lp a lr _ hlr ⟨q, hq, t, ext, rfl⟩
        have hlen2 : (linesF f).length = lp.length + (lr.length + 1) := by rw [hlr]; simp
        have hget2 : ((linesF f).map fun x => Sv x)[lp.length]? = some (Sv a) := by rw [hlr]; simp
        have hb3 : (textF lp).length + (a.length + 1) ≤ 5000 := by
          rw [hlr, textF_app] at hb2
          have : a :: lr = [a] ++ lr := rfl
          rw [this, textF_app, textF_one] at hb2
          simp only [List.length_append, List.length_cons, List.length_nil] at hb2
          omega
        have hct := textF_count lp
        repeat' (first
          | apply awp_seq
          | apply awp_block
          | apply awp_region
          | apply aops_nil
          | apply aops_move
          | apply aops_assign
          | (apply aops_cmpI; exact rfl; exact rfl; exact rfl)
          | (apply awp_cond_any; exact rfl; first | (apply cd_dt; (first | assumption | omega)) | (apply cd_df; (first | assumption | omega)) | (apply cd_nt; (first | exact rfl | assumption)) | (apply cd_nf; (first | exact rfl | assumption)) | (apply cd_n <;> intro h) | (apply cd_t; (first | exact rfl | assumption)) | (apply cd_f; (first | exact rfl | assumption)) | (apply cd_d <;> intro h) | (apply cd_s <;> intro h))
          | (apply aops_concat; exact rfl; exact rfl; (first | omega | (simp only [List.length_append, List.length_cons, List.length_nil]; omega) | (simp; omega)))
          | (apply aops_load_pp; exact rfl; exact rfl; exact rfl)
          | apply awp_skip
          | (apply aops_indexAddr (n := lp.length); exact rfl; exact rfl; exact rfl; exact rfl; exact rfl; exact hget2))
        refine aops_call1 Tryz.call41 (bWrite_mid st _ _ _ _ 0 1 0 _ _ _ rfl rfl ?_ ?_ rfl) ?_; (exact hq); (simp only [List.length_append, List.length_cons, List.length_nil]; omega)
        repeat' (first
          | apply awp_region
          | apply aops_nil
          | apply aops_move
          | (apply aops_add; exact rfl; exact rfl; exact wrap_i64 (by omega) (by omega)))
        refine ⟨_, .inr rfl, stE_mk ⟨rfl, rfl, rfl, rfl, rfl, rfl, ?_, trivial⟩ ?_⟩
        · rw [snoc_len lp a]; rfl
        · have e : foldF pre ++ textF (lp ++ [a]) = (foldF pre ++ textF lp) ++ (a ++ [10]) := by rw [textF_app, textF_one, List.append_assoc]
          rw [e]; rfl
    · skip
      repeat' (first
        | apply awp_seq
        | apply awp_block
        | apply awp_region
        | apply aops_nil
        | apply aops_move
        | apply aops_assign
        | (apply aops_extract; exact rfl; exact rfl)
        | (apply aops_cmpI; exact rfl; exact rfl; exact rfl)
        | (apply awp_cond_any; exact rfl; first | (apply cd_dt; (first | assumption | omega)) | (apply cd_df; (first | assumption | omega)) | (apply cd_nt; (first | exact rfl | assumption)) | (apply cd_nf; (first | exact rfl | assumption)) | (apply cd_n <;> intro h) | (apply cd_t; (first | exact rfl | assumption)) | (apply cd_f; (first | exact rfl | assumption)) | (apply cd_d <;> intro h) | (apply cd_s <;> intro h))
        | (apply aops_errNeNil; exact rfl; exact rfl)
        | (apply aops_alloc; exact rfl; exact rfl)
        | (apply aops_load_pp; exact rfl; exact rfl; exact rfl)
        | (apply aops_load_loc; exact rfl; exact rfl; exact rfl; exact rfl; exact rfl)
        | (apply aops_store_loc; exact rfl; exact rfl; exact rfl; exact rfl; exact rfl; exact rfl; exact rfl; exact rfl; exact rfl; exact rfl; exact rfl)
        | apply awp_skip
        | apply awp_ret
        | (apply aops_call1; exact Tryz.call78; exact foldLines1_c _ _ hf1 hf2 hc)
        | (apply aops_indexAddr (n := pre.length); exact rfl; exact rfl; exact rfl; exact rfl; exact rfl; exact hget))
      refine aret_plain rfl (ares_two rfl) ⟨?_, ext_end _ _ _ _⟩
      unfold foldA
      have h0 : errF xs = checkF f := by rw [hr]; exact errF_at hg hc
      rw [h0, if_neg hc, errN_ne hc]
      rfl
end Go.Proofs.YtplagcbifecagaaGreatDoor
set_option maxRecDepth 100000
set_option linter.unusedVariables false
namespace Go.Proofs.YtplagcbifecagaaGreatDoor
open Go Go.Av Go.RowKit Go.Proofs Go.Pl
theorem parts_more : ∀ (n : Nat) (l : Bytes) (c : UInt8), l.length ≤ n → c ≠ 10 → partsOf (l ++ [c]) = (partsOf l).set ((partsOf l).length - 1) ((partsOf l).getD ((partsOf l).length - 1) [] ++ [c])
  | n, l, c, hn, hc => by
    by_cases h : 10 ∈ l
    · have hne : l ≠ [] := fun e => by subst e; simp at h
      have hlt := past_lt (c := 10) hne
      cases n with
      | zero => omega
      | succ n =>
        have ih := parts_more n (past 10 l) c (by omega) hc
        have e := upto_past h
        have e2 : l ++ [c] = upto 10 l ++ 10 :: (past 10 l ++ [c]) := (congrArg (· ++ [c]) e).trans (by simp)
        have hp := partsOf_ne (past 10 l)
        have hpl : 0 < (partsOf (past 10 l)).length := List.length_pos_iff.2 hp
        rw [partsOf_mem (by simp [h]), partsOf_mem h, e2, upto_app _ (notin_upto 10 l), past_app _ (notin_upto 10 l), ih]
        have e3 : (upto 10 l :: partsOf (past 10 l)).length - 1 = (partsOf (past 10 l)).length - 1 + 1 := by simp; omega
        rw [e3, List.set_cons_succ]
        simp
    · have h2 : 10 ∉ l ++ [c] := by simp [h, Ne.symm hc]
      rw [partsOf_not h, partsOf_not h2]
      simp
end Go.Proofs.YtplagcbifecagaaGreatDoor
set_option linter.unusedVariables false
namespace Go.Av
open Go Go.RowKit
@[reducible] def onlyN (K : Act → World → Prop) : Exit → Act → World → Prop
  | .normal, a, w => K a w
  | _, _, _ => False
structure AZ (E : Env) (N : Nat) (ops : Array Oper) (fuel : Nat) (listed : Array Bool) (K : AS → Prop) (s : AS) : Prop where
  run : ∀ (B0 : Nat) (w0 : World) (G : Gh) (a : Act) (w : World), E.L B0 w0 → Inv B0 w0 N G s a w → ∀ K' : Act → World → Prop, (∀ G' s' a' w', G.le G' → Inv B0 w0 N G' s' a' w' → K s' → K' a' w') → wpAnyIn (fw none) 0 E.P .any ops (onlyN K') fuel listed a w
structure AY (E : Env) (N : Nat) (o : Oper) (s : AS) (r : AV) : Prop where
  run : ∀ (B0 : Nat) (w0 : World) (G : Gh) (a : Act) (w : World), Inv B0 w0 N G s a w → ∃ v, (∀ w', (execOp a.eval o).run E.P w' = .ok (.value v) w') ∧ (∀ w', o.about E.P w' a.eval = none) ∧ Rel G r v
section
variable {E : Env} {N : Nat} {ops : Array Oper} {K : AS → Prop} {s : AS} {fuel : Nat} {listed : Array Bool}
theorem awp_drawZ {id : Nat} {Q : Exit → AS → Prop} {n : Nat} (hm : E.P.follows .mixedOrders = true) (hn : ops.size = n) (h : AZ E N ops n (Array.replicate n false) (Q .normal) s) : AWp E none N (.region id ops true) Q s := by
  subst hn
  refine ⟨fun B0 w0 G a w hL hI => ?_⟩
  have hBl : Below w.heap.size w { w with drawn := w.drawn + 1 } := ⟨rfl, rfl, rfl, Nat.le_refl _, fun _ _ => rfl⟩
  have hI2 : Inv B0 w0 N G s a { w with drawn := w.drawn + 1 } := ⟨hI.agree.fresh hBl, hI.defers, hI.size, hI.tmps⟩
  have := h.run B0 w0 G a _ hL hI2 (fun a' w' => ∃ (G' : Gh) (s' : AS), G.le G' ∧ Inv B0 w0 N G' s' a' w' ∧ Q .normal s') fun G' s' a' w' hG hI' hk => ⟨G', s', hG, hI', hk⟩
  refine wpIn_mono (wpIn_region_any hm this) fun e a' w' hq => ?_
  cases e with
  | normal => exact hq
  | _ => exact hq.elim
theorem az_done (hr : Region.ready .any ops listed = []) (h : K s) : AZ E N ops fuel listed K s :=
  ⟨fun B0 w0 G a w hL hI K' hK => wpAnyIn_done hr (hK G s a w (.refl G) hI h) fuel⟩
theorem az_take (i : Nat) {oi : Oper} {r : AV} (hi : ops[i]? = some oi) (hs : Region.noSelect ops = true) (hf : Region.free .any ops listed i = true) (hr : (Region.ready .any ops listed).contains i = true) (hg : oi.guard = none) (hy : AY E N oi s r)
    (h : AZ E N ops fuel (listed.setIfInBounds i true) K (s.put oi.dst r)) : AZ E N ops (fuel + 1) listed K s := by
  refine ⟨fun B0 w0 G a w hL hI K' hK => ?_⟩
  obtain ⟨v, h1, h2, h3⟩ := hy.run B0 w0 G a w hI
  have hwn : Region.wanted oi (yielded ops a.tmps) = true := by simp [Region.wanted, hg]
  refine wpAnyIn_take (v := v) rfl hi hs hf hr (fun c a w hq => hq.elim) ⟨.inl ⟨hwn, h1⟩, h2⟩ (h.run B0 w0 G _ w hL (hI.put (.refl G) hI.agree oi.dst h3) K' fun G' s' a' w' hG hI' hk => hK G' s' a' w' hG hI' hk)
theorem oper_panics {F : Fence} {n : Nat} {P : Program} {o : Oper} {a : Act} {w : World} {next X Y : Act → World → Prop} (h : o.wpIn F n P a w next (onlyN X)) : o.wpIn F n P a w next (onlyN Y) := by
  unfold Oper.wpIn at *
  refine ⟨h.1, ?_⟩
  have h := h.2
  generalize (o.semAt F.round a.eval).run P w = r at *
  cases r with
  | ok x w' =>
    cases x <;> simp only [Oper.uponIn] at h ⊢
    case value u => exact h
    case skip => exact h
    case defer d => exact h
    case enter f args =>
      refine ⟨h.1, CallsIn.mono h.2 fun e w'' he => ?_⟩
      cases e with
      | returned u => exact he
      | panicked c => exact he.elim
      | outgrown => exact absurd he (by simp [LetsOut])
    case row row args => exact h
    case round l f tmps assign body =>
      refine ⟨h.1, RoundIn.mono h.2 fun e w'' he => ?_⟩
      cases e with
      | returned u => exact he
      | panicked c => exact he.elim
      | outgrown => exact absurd he (by simp [LetsOut])
  | halt x w' =>
    cases x <;> simp only [Oper.uponIn] at h ⊢
    case panic u => exact h.elim
def AllOf (P : Nat → Prop) : List Nat → Prop
  | [] => True
  | i :: r => P i ∧ AllOf P r
theorem allOf_mem {P : Nat → Prop} : ∀ {l : List Nat}, AllOf P l → ∀ i ∈ l, P i
  | [], _, _, h => by simp at h
  | j :: l, h, i, hi => by
    rcases List.mem_cons.1 hi with rfl | hi
    · exact h.1
    · exact allOf_mem h.2 i hi
theorem az_all (rs : List Nat) (hr : Region.ready .any ops listed = rs) (hne : Nat.blt 0 rs.length = true)
    (h : AllOf (fun i => ∃ o, ops[i]? = some o ∧ AOps E none N ops [o] (AZ E N ops fuel (listed.setIfInBounds i true) K) s) rs) : AZ E N ops (fuel + 1) listed K s := by
  refine ⟨fun B0 w0 G a w hL hI K' hK => wpAnyIn_all hr (fun e => by subst e; simp at hne) fun i hi => ?_⟩
  obtain ⟨o, ho, h⟩ := allOf_mem h i hi
  have hrun := h.run B0 w0 G a w hL hI (onlyN fun a' w' => wpAnyIn (fw none) 0 E.P .any ops (onlyN K') fuel (listed.setIfInBounds i true) a' w') fun G' s' a' w' hG hI' hk => hk.run B0 w0 G' a' w' hL hI' K' fun G2 s2 a2 w2 hG2 hI2 hk2 => hK G2 s2 a2 w2 (hG.trans hG2) hI2 hk2
  unfold wpOpIn
  rw [ho]
  simp only [wpListIn] at hrun ⊢
  split
  · rename_i hw
    rw [if_pos hw] at hrun
    exact oper_panics hrun
  · rename_i hw
    rw [if_neg hw] at hrun
    exact hrun
variable {d : Option Tmp} {T : TypeId} {p : String} {af : Array Edge}
theorem ay_of {op : Op} {r : AV} (hnc : ∀ c, op ≠ .call c) (h : ∀ (G : Gh) (ρ : Operand → Value), (∀ x, Rel G (aeval N s x) (ρ x)) → ∃ v, (∀ w', (execOp ρ ⟨d, op, T, p, af, none⟩).run E.P w' = .ok (.value v) w') ∧ Rel G r v) : AY E N ⟨d, op, T, p, af, none⟩ s r :=
  ⟨fun B0 w0 G a w hI => let ⟨v, h1, h2⟩ := h G a.eval hI.eval; ⟨v, h1, fun w' => by unfold Oper.about; cases op <;> first | rfl | exact absurd rfl (hnc _), h2⟩⟩
theorem ay_move {x : Operand} : AY E N ⟨d, .move x, T, p, af, none⟩ s (aeval N s x) := ay_of nofun fun G ρ hρ => ⟨ρ x, fun w' => by simp [execOp], hρ x⟩
theorem ay_assign {x : Operand} : AY E N ⟨d, .assign x, T, p, af, none⟩ s (aeval N s x) := ay_of nofun fun G ρ hρ => ⟨ρ x, fun w' => by simp [execOp], hρ x⟩
theorem ay_nilCheck {x : Operand} {r : AV} (hx : aeval N s x = r) (hr : isPtr r = true) : AY E N ⟨d, .nilCheck x, T, p, af, none⟩ s r := ay_of nofun fun G ρ hρ => by
  have he := hρ x
  rw [hx] at he
  generalize hv : ρ x = v at he
  have key : ∃ q, v = .pointer (some q) := by
    cases he <;> simp [isPtr] at hr
    · exact ⟨_, rfl⟩
    · exact ⟨_, rfl⟩
  obtain ⟨q, rfl⟩ := key
  exact ⟨_, fun w' => by simp [execOp, hv], he⟩
theorem ay_fieldAddr_bx {t : TypeId} {x : Operand} {f off sz : Nat} {agg : Bool} {o ver q : Nat} (hx : aeval N s x = .bx o ver q) (hf : fieldOf E.P t f = some (off, sz, agg)) (hsz : Nat.beq sz 0 = false) : AY E N ⟨d, .fieldAddr t x f, T, p, af, none⟩ s (.bx o ver (q + off)) := ay_of nofun fun G ρ hρ => by
  have he := hρ x
  rw [hx] at he
  generalize hv : ρ x = v at he
  cases he with
  | bx _ _ _ b hn hv' hb =>
    have hs : sz ≠ 0 := fun e => by subst e; simp at hsz
    exact ⟨_, fun w' => by simp only [execOp, hv]; simp [run_fieldAt hf hs], .bx o ver _ b hn hv' hb⟩
theorem ay_fieldAddr_pp {t : TypeId} {x : Operand} {f off sz : Nat} {agg : Bool} {cs : List AV} (hx : aeval N s x = .pp cs) (hf : fieldOf E.P t f = some (off, sz, agg)) (hsz : Nat.beq sz 0 = false) (hle : Nat.ble off cs.length = true) : AY E N ⟨d, .fieldAddr t x f, T, p, af, none⟩ s (.pp (cs.drop off)) := ay_of nofun fun G ρ hρ => by
  have he := hρ x
  rw [hx] at he
  generalize hv : ρ x = v at he
  cases he with
  | pp _ b q pub hp hlen hrel =>
    have hs : sz ≠ 0 := fun e => by subst e; simp at hsz
    have ho : off ≤ cs.length := Nat.le_of_ble_eq_true hle
    refine ⟨.pointer (some ⟨b, q + off, none⟩), fun w' => by simp only [execOp, hv]; simp [run_fieldAt hf hs], ?_⟩
    exact .pp _ b (q + off) pub hp (by simp; omega) fun i x y h1 h2 => hrel (off + i) x y (by simpa using h1) (by rw [← h2]; congr 1; omega)
theorem ay_concat {x y : Operand} {t t' : TypeId} {m n : List UInt8} (hx : aeval N s x = Sv m) (hy : aeval N s y = Sv n) (hl : m.length + n.length < 9223372036854775808) : AY E N ⟨d, .binOp .add t x y t', T, p, af, none⟩ s (Sv (m ++ n)) := ay_of nofun fun G ρ hρ => by
  have h1 := hρ x
  have h2 := hρ y
  rw [hx] at h1
  rw [hy] at h2
  generalize hv : ρ x = v at h1
  generalize hu : ρ y = u at h2
  cases h1; cases h2
  refine ⟨_, fun w' => ?_, .v _⟩
  simp only [execOp, hv, hu, eqGuard_at_string, binOp, Op.stringOp, size_mk, append_mk, IntKind.max_i64]
  rw [if_neg (by omega)]
  simp
theorem ay_build {t : TypeId} {parts : Array (Nat × Operand)} {zs cs : List AV} {pl : List (Nat × Nat)} (hz : zeroA E.P t = some zs) (hp : placesA E.P t = some pl) (hf : fillA (pl[·]?) zs (partsA N s parts) = some cs) : AY E N ⟨d, .build t parts, T, p, af, none⟩ s (.ag cs) := by
  refine ⟨fun B0 w0 G a w hI => ?_⟩
  have key : ∃ z : Value, (∀ w', (zeroValue t).run E.P w' = .ok z w') ∧ RelC G zs z.cells := by
    unfold zeroA at hz
    split at hz
    · rename_i i hi
      cases hzr : i.zero with
      | none => rw [hzr] at hz; simp at hz
      | some z =>
        rw [hzr] at hz
        simp only [Option.map_some, Option.some.injEq] at hz
        subst hz
        refine ⟨z, fun w' => by simp [zeroValue, typeInfo, hi, hzr], by simp, fun i x y hx hy => ?_⟩
        rw [List.getElem?_map] at hx
        simp only [Array.getElem?_toList, hy, Option.map_some, Option.some.injEq] at hx
        subst hx
        exact .v y
    · simp at hz
  obtain ⟨z, hrun, hr⟩ := key
  obtain ⟨c', h1, h2⟩ := fill_rel (pl[·]?) (partsA N s parts) (parts.toList.map fun x => (x.1, a.eval x.2)) zs z.cells cs (by simp [partsA]) (parts_rel hI parts) hr hf
  unfold placesA at hp
  split at hp
  · rename_i fs hu
    refine ⟨.agg c', fun w' => ?_, fun w' => rfl, .ag _ _ h2.1 h2.2⟩
    generalize a.eval = ρ at h1
    simp [execOp, Instr.build, run_underlying hu, hrun, Array.mapM_eq_mapM_toList, run_places w' _ _ hp, h1]
  · simp at hp
end
theorem awp_cut {E : Env} {rd : Option Nat} {N : Nat} {c : Code} {Q : Exit → AS → Prop} {s : AS} (I : AS → Prop) (h : AWp E rd N c (only I) s) (hk : ∀ s', I s' → Q .normal s') : AWp E rd N c Q s := h.mono fun e s' h => by
  cases e <;> first | exact hk _ h | exact h.elim
end Go.Av
set_option maxRecDepth 100000
set_option linter.unusedVariables false
namespace Go.Proofs.YtplagcbifecagaaGreatDoor
open Go Go.Av Go.RowKit Go.Proofs Go.Pl
theorem kind_four {l : Bytes} : kindOf l = 4 ↔ 10 ∉ l ∧ 58 ∈ l ∧ keyOk (keyPart l) := by
  unfold kindOf
  by_cases h10 : 10 ∈ l
  · simp [h10]
  · rw [if_neg h10]
    constructor
    · intro h
      split at h
      · simp at h
      · split at h
        · simp at h
        · split at h
          · simp at h
          · split at h
            · rename_i hk; exact ⟨h10, hk.1, hk.2⟩
            · simp at h
    · rintro ⟨_, h58, hk⟩
      obtain ⟨c, hc, hb, h35⟩ := key_notAllBlank hk
      have hh : l.head? = some c := by
        cases l with
        | nil => simp at h58
        | cons a r =>
          unfold keyPart at hc
          rw [List.takeWhile_cons] at hc
          split at hc
          · simpa using hc
          · simp at hc
      have hmem : c ∈ l := List.mem_of_head? hh
      rw [if_neg (fun h' => hb (h' c hmem)), if_neg (by rw [hh]; simpa using h35), if_neg (fun ⟨d, hd, hd'⟩ => by rw [hh] at hd; cases hd; exact hb hd'), if_pos ⟨h58, hk⟩]
theorem kind_three_ne {s : Bytes} (h : kindOf s = 3) : s ≠ [] := fun e => by subst e; revert h; decide
theorem linesCut_c (l : Bytes) (st : List AObj) (hl : l.length < 4294967281) (h : kindOf l = 4) : ACall E 183 [Sv l] st fun r st' => r = .tu [Sv (keyPart l), Sv (restPart l), Bv true] ∧ st' = st := by
  refine acall_pure (pure_tu3v _ _ _) (acall_of_awp Tryz.func183 rfl (Nat.le_of_ble_eq_true rfl) ?_)
  have hc : Lib.cut l [58] = (keyPart l, restPart l, true) := by rw [cut_colon, if_pos (kind_four.1 h).2.1]
  repeat' (first
    | apply awp_seq
    | apply awp_region
    | apply aops_nil
    | apply aops_move
    | apply aops_assign
    | (apply aops_extract; exact rfl; exact rfl)
    | (apply aops_cmpI; exact rfl; exact rfl; exact rfl)
    | (apply awp_cond_any; exact rfl; first | (apply cd_dt; (first | assumption | omega)) | (apply cd_df; (first | assumption | omega)) | (apply cd_nt; (first | exact rfl | assumption)) | (apply cd_nf; (first | exact rfl | assumption)) | (apply cd_n <;> intro h) | (apply cd_t; (first | exact rfl | assumption)) | (apply cd_f; (first | exact rfl | assumption)) | (apply cd_d <;> intro h) | (apply cd_s <;> intro h))
    | apply awp_skip
    | apply awp_ret
    | (apply aops_call1; exact Tryz.call139; exact kind_c _ _ hl)
    | (apply aops_call1; exact Tryz.call31; exact cut_c _ _ _ hl))
  refine aret_plain rfl (ares_three rfl) ⟨tu_ssb (?_ : _ = _), _, rfl⟩
  rw [hc]
theorem linesCutN_c (l : Bytes) (st : List AObj) (hl : l.length < 4294967281) (h : kindOf l ≠ 4) : ACall E 183 [Sv l] st fun r st' => r = .tu [Sv [], Sv [], Bv false] ∧ st' = st := by
  refine acall_pure (pure_tu3v _ _ _) (acall_of_awp Tryz.func183 rfl (Nat.le_of_ble_eq_true rfl) ?_)
  repeat' (first
    | apply awp_seq
    | apply awp_region
    | apply aops_nil
    | apply aops_move
    | apply aops_assign
    | (apply aops_cmpI; exact rfl; exact rfl; exact rfl)
    | (apply awp_cond_any; exact rfl; first | (apply cd_dt; (first | assumption | omega)) | (apply cd_df; (first | assumption | omega)) | (apply cd_nt; (first | exact rfl | assumption)) | (apply cd_nf; (first | exact rfl | assumption)) | (apply cd_n <;> intro h) | (apply cd_t; (first | exact rfl | assumption)) | (apply cd_f; (first | exact rfl | assumption)) | (apply cd_d <;> intro h) | (apply cd_s <;> intro h))
    | apply awp_ret
    | (apply aops_call1; exact Tryz.call139; exact kind_c _ _ hl))
  exact aret_plain rfl (ares_three rfl) ⟨rfl, _, rfl⟩
theorem ares_ct {fn : Func} {s : AS} {t u : Tmp} {Ta : TypeId} {o1 v1 f1 sz1 : Nat} {agg1 : Bool} {T1 : TypeId} {cs1 : List AV} {r1 : AV} (hr : fn.results = #[.cell t Ta, .tmp u]) (hx1 : aeval fn.ntmps s (.tmp t) = .bx o1 v1 f1) (ho1 : s.st[o1]? = some (.cells v1 T1 cs1)) (ht1 : tyOf E.P Ta = some (sz1, agg1)) (hl1 : aloadC sz1 agg1 f1 cs1 = some r1) :
    ARes E fn s (.tu [r1, aeval fn.ntmps s (.tmp u)]) := by
  refine ⟨fun B0 w0 G a w hL hI => ?_⟩
  obtain ⟨b, v, h1, h2, h3⟩ := load_bx_run hI hx1 ho1 ht1 hl1
  have hu := hI.rd u
  refine ⟨.tuple #[v, a.tmps.getD u undef], ?_, rel_tu2 h3 hu⟩
  simp only [Act.eval, Array.getD_eq_getD_getElem?] at h1
  simp [results, hr, h1, asAddr, h2]
def unfoldA (ls : List Bytes) : AV := .tu [fldA (unfoldF ls).1, errN (unfoldF ls).2]
theorem unfoldA_pure (ls : List Bytes) : Pure (unfoldA ls) := pure_tu fun x hx => by
  simp only [List.mem_cons, List.not_mem_nil, or_false] at hx
  rcases hx with rfl | rfl
  · exact pure_ag fun x hx => by
      simp only [List.mem_cons, List.not_mem_nil, or_false] at hx
      rcases hx with rfl | rfl <;> exact pure_v _
  · exact errN_pure _
theorem ares_ct_mid {fn : Func} {s : AS} {t u : Tmp} {Ta : TypeId} {st loc ext new : List AObj} {k1 v1 f1 sz1 : Nat} {agg1 : Bool} {T1 : TypeId} {cs1 : List AV} {r1 : AV} (hr : fn.results = #[.cell t Ta, .tmp u]) (hs : s.st = ((st ++ loc) ++ ext) ++ new) (hx1 : aeval fn.ntmps s (.tmp t) = .bx (st.length + k1) v1 f1) (ho1 : loc[k1]? = some (.cells v1 T1 cs1)) (ht1 : tyOf E.P Ta = some (sz1, agg1)) (hl1 : aloadC sz1 agg1 f1 cs1 = some r1) :
    ARes E fn s (.tu [r1, aeval fn.ntmps s (.tmp u)]) := ares_ct hr hx1 (by rw [hs]; exact get_mid ho1) ht1 hl1
theorem ares_ct_loc {fn : Func} {s : AS} {t u : Tmp} {Ta : TypeId} {st loc : List AObj} {k1 v1 f1 sz1 : Nat} {agg1 : Bool} {T1 : TypeId} {cs1 : List AV} {r1 : AV} (hr : fn.results = #[.cell t Ta, .tmp u]) (hs : s.st = st ++ loc) (hx1 : aeval fn.ntmps s (.tmp t) = .bx (st.length + k1) v1 f1) (ho1 : loc[k1]? = some (.cells v1 T1 cs1)) (ht1 : tyOf E.P Ta = some (sz1, agg1)) (hl1 : aloadC sz1 agg1 f1 cs1 = some r1) :
    ARes E fn s (.tu [r1, aeval fn.ntmps s (.tmp u)]) := ares_ct hr hx1 (by rw [hs]; exact get_loc ho1) ht1 hl1
structure LsB (ls : List Bytes) : Prop where
  len : ls.length < 1000000
  val : ∀ s ∈ ls, s.length < 1000000
theorem strs_sum : ∀ (r : List Bytes), (∀ s ∈ r, s.length < 1000000) → (r.flatMap fun s => [10] ++ trim1 46 (s.drop 1)).length ≤ 1000001 * r.length
  | [], _ => by simp
  | a :: r, h => by
    have ih := strs_sum r fun s hs => h s (by simp [hs])
    have ha := h a (by simp)
    have ht : (trim1 46 (a.drop 1)).length ≤ a.length := by unfold trim1; split <;> simp <;> omega
    simp only [List.flatMap_cons, List.length_append, List.length_cons, List.length_nil]
    omega
theorem join_tail (v : Bytes) (r : List Bytes) : Lib.join (v :: r.map fun s => trim1 46 (s.drop 1)) [10] = v ++ r.flatMap fun s => [10] ++ trim1 46 (s.drop 1) := by
  rw [Lib.join_cons]
  unfold Lib.joinTail
  rw [List.map_map, List.flatMap_def]
  rfl
theorem joinE_c (xs : List Bytes) (tip : Option Nat) (sep v : Bytes) (st : List AObj) (h : Lib.join xs sep = v) (hN : xs.length ≤ 140737488355328) (hl : v.length ≤ 140737488355328) : ACall E 80 [.sl 1 (xs.map fun x => Sv x) tip, Sv sep] st fun r st' => r = Sv v ∧ st' = st := by
  subst h
  exact join_c xs tip sep st hN hl
set_option maxHeartbeats 4000000 in
theorem foldUnfold_c (ls : List Bytes) (st : List AObj) (hB : LsB ls) : ACall E 166 [Ss ls] st fun r st' => r = unfoldA ls ∧ st' = st := by
  refine acall_pure (unfoldA_pure _) (acall_of_awp Tryz.func166 rfl (Nat.le_of_ble_eq_true rfl) ?_)
  have hL := hB.len
  have hml : (ls.map fun x => Sv x).length = ls.length := by simp
  cases ls with
  | nil =>
    repeat' (first
      | apply awp_seq
      | apply awp_region
      | apply aops_nil
      | apply aops_move
      | apply aops_assign
      | (apply aops_cmpI; exact rfl; exact rfl; exact rfl)
      | (apply awp_cond_any; exact rfl; first | (apply cd_dt; (first | assumption | omega)) | (apply cd_df; (first | assumption | omega)) | (apply cd_nt; (first | exact rfl | assumption)) | (apply cd_nf; (first | exact rfl | assumption)) | (apply cd_n <;> intro h) | (apply cd_t; (first | exact rfl | assumption)) | (apply cd_f; (first | exact rfl | assumption)) | (apply cd_d <;> intro h) | (apply cd_s <;> intro h))
      | (apply aops_lenL; exact rfl; exact rfl; exact rfl; exact rfl)
      | (apply aops_makeInterface; exact rfl; exact rfl)
      | (apply aops_alloc; exact rfl; exact rfl)
      | (apply aops_store_loc; exact rfl; exact rfl; exact rfl; exact rfl; exact rfl; exact rfl; exact rfl; exact rfl; exact rfl; exact rfl; exact rfl)
      | (apply aops_build; exact rfl; exact rfl; exact rfl)
      | apply awp_ret)
    exact aret_plain rfl (ares_ct_loc rfl rfl rfl rfl rfl rfl) ⟨rfl, _, rfl⟩
  | cons l r =>
    have hl := hB.val l (by simp)
    by_cases h4 : kindOf l = 4
    · have hk := kind_four.1 h4
      have htr : (trim1 32 (restPart l)).length ≤ l.length := by unfold trim1 restPart; split <;> simp <;> omega
      simp only [List.length_cons] at hL
      repeat' (first
        | (apply aops_buildSliceO; exact rfl; exact rfl; exact rfl; exact rfl; exact rfl; exact rfl)
        | apply awp_seq
        | apply awp_block
        | apply awp_region
        | apply aops_nil
        | apply aops_move
        | apply aops_assign
        | (apply aops_extract; exact rfl; exact rfl)
        | (apply aops_cmpI; exact rfl; exact rfl; exact rfl)
        | (apply aops_not; exact rfl)
        | (apply awp_cond_any; exact rfl; first | (apply cd_dt; (first | assumption | omega)) | (apply cd_df; (first | assumption | omega)) | (apply cd_nt; (first | exact rfl | assumption)) | (apply cd_nf; (first | exact rfl | assumption)) | (apply cd_n <;> intro h) | (apply cd_t; (first | exact rfl | assumption)) | (apply cd_f; (first | exact rfl | assumption)) | (apply cd_d <;> intro h) | (apply cd_s <;> intro h))
        | (apply aops_lenL; exact rfl; exact rfl; exact rfl; exact rfl)
        | (apply aops_alloc; exact rfl; exact rfl)
        | (apply aops_load_pp; exact rfl; exact rfl; exact rfl)
        | (apply aops_sliceFrom; exact rfl; exact rfl; exact rfl; exact rfl; (first | assumption | omega | exact Nat.succ_le_succ (Nat.zero_le _) | (simp; omega)); exact rfl)
        | apply awp_skip
        | (apply aops_call1; exact Tryz.call183; exact linesCut_c _ _ (by omega) h4)
        | (apply aops_call1; exact Tryz.call184; exact trim1_c _ _ _)
        | (apply aops_indexAddr (n := 0); exact rfl; exact rfl; exact rfl; exact rfl; exact rfl; exact rfl))
      refine awp_osTip 7 (o := st.length + 1) (sz := 1) (len := 1) (cap := 1) (xs := [Sv (trim1 32 (restPart l))]) (T' := 9) rfl (get_loc rfl) rfl rfl (by omega) (Nat.le_refl _) (by decide) (by simp [AV.cells]) rfl ?_
      have hrm : (r.map fun x => Sv x).length = r.length := by simp
      refine awp_loopL r (fun pre s => (∀ x ∈ pre, kindOf x = 3) ∧ StE [(2, .bx (st.length + 0) 0 0), (4, Sv (keyPart l)), (7, .sl 1 (Sv (trim1 32 (restPart l)) :: pre.map (fun s => Sv (trim1 46 (s.drop 1)))) (some (st.length + 1))), (33, .sl 1 (r.map fun x => Sv x) none), (34, Iv r.length), (35, Iv pre.length)] st [.cells 0 58 [Sv [], Sv []], .tip (pre.length + 1) 1 9] s) ⟨by simp, stE_mk0 ⟨rfl, rfl, rfl, rfl, congrArg (fun n : Nat => Iv (n : Int)) hrm, rfl, trivial⟩ (set_loc st _ 1 _)⟩ ?_ ?_
      · rintro _ ⟨h3, t, ext, rfl⟩
        have hok : unfoldOk (l :: r) := ⟨by simp, h4, h3⟩
        have hjl := strs_sum r fun s hs => hB.val s (by simp [hs])
        have hj := join_tail (trim1 32 (restPart l)) r
        have hjv : Lib.join (trim1 32 (restPart l) :: r.map fun s => trim1 46 (s.drop 1)) [10] = valueU l r := hj
        have hvl : (valueU l r).length ≤ 140737488355328 := by
          unfold valueU
          rw [List.length_append]
          omega
        have hmm : (Sv (trim1 32 (restPart l)) :: r.map fun s => Sv (trim1 46 (s.drop 1))) = (trim1 32 (restPart l) :: r.map fun s => trim1 46 (s.drop 1)).map fun x => Sv x := by simp [List.map_map]
        rw [hmm]
        have hkl : (keyPart l).length < 4294967281 := by have := hk.2.2.2.1; omega
        have hun : unfoldF (l :: r) = if 1000 < (valueU l r).length then (([], []), 6) else ((keyPart l, valueU l r), 0) := if_pos hok
        by_cases hv : 1000 < (valueU l r).length
        · have hcf : checkF (keyPart l, valueU l r) = 6 := (if_neg (by simpa using hk.2.2)).trans (if_pos hv)
          repeat' (first
            | apply awp_seq
            | apply awp_region
            | apply aops_nil
            | apply aops_move
            | (apply aops_cmpI; exact rfl; exact rfl; exact rfl)
            | (apply awp_cond_any; exact rfl; first | (apply cd_dt; (first | assumption | omega)) | (apply cd_df; (first | assumption | omega)) | (apply cd_nt; (first | exact rfl | assumption)) | (apply cd_nf; (first | exact rfl | assumption)) | (apply cd_n <;> intro h) | (apply cd_t; (first | exact rfl | assumption)) | (apply cd_f; (first | exact rfl | assumption)) | (apply cd_d <;> intro h) | (apply cd_s <;> intro h))
            | apply awp_exit)
          refine aops_call1 Tryz.call80 (joinE_c (trim1 32 (restPart l) :: r.map fun s : Bytes => trim1 46 (s.drop 1)) _ _ _ _ hjv ?_ hvl) ?_
          · simp; omega
          repeat' (first
            | apply awp_seq
            | apply awp_region
            | apply aops_nil
            | apply aops_move
            | apply aops_assign
            | (apply awp_cond_any; exact rfl; first | (apply cd_dt; (first | assumption | omega)) | (apply cd_df; (first | assumption | omega)) | (apply cd_nt; (first | exact rfl | assumption)) | (apply cd_nf; (first | exact rfl | assumption)) | (apply cd_n <;> intro h) | (apply cd_t; (first | exact rfl | assumption)) | (apply cd_f; (first | exact rfl | assumption)) | (apply cd_d <;> intro h) | (apply cd_s <;> intro h))
            | (apply aops_errNeNil; exact rfl; exact rfl)
            | (apply aops_alloc; exact rfl; exact rfl)
            | (apply aops_store_mid; exact rfl; exact rfl; exact rfl; exact rfl; exact rfl; exact rfl; exact rfl; exact rfl; exact rfl; exact rfl; exact rfl)
            | (apply aops_load_loc; exact rfl; exact rfl; exact rfl; exact rfl; exact rfl)
            | (apply aops_store_loc; exact rfl; exact rfl; exact rfl; exact rfl; exact rfl; exact rfl; exact rfl; exact rfl; exact rfl; exact rfl; exact rfl)
            | (apply aops_build; exact rfl; exact rfl; exact rfl)
            | apply awp_ret
            | (apply aops_call1; exact Tryz.call111; exact foldCheck1_c (keyPart l, valueU l r) _ hkl (by rw [hcf]; decide)))
          refine aret_plain rfl (ares_ct_mid rfl rfl rfl rfl rfl rfl) ⟨?_, ext_end _ _ _ _⟩
          unfold unfoldA
          rw [hun, if_pos hv]
          exact congrArg (fun n : Int => AV.tu [fldA ([], []), .ifc 31 (Iv n)]) hcf
        · have hcf : checkF (keyPart l, valueU l r) = 0 := (if_neg (by simpa using hk.2.2)).trans (if_neg hv)
          repeat' (first
            | apply awp_seq
            | apply awp_region
            | apply aops_nil
            | apply aops_move
            | apply aops_assign
            | (apply aops_cmpI; exact rfl; exact rfl; exact rfl)
            | (apply awp_cond_any; exact rfl; first | (apply cd_dt; (first | assumption | omega)) | (apply cd_df; (first | assumption | omega)) | (apply cd_nt; (first | exact rfl | assumption)) | (apply cd_nf; (first | exact rfl | assumption)) | (apply cd_n <;> intro h) | (apply cd_t; (first | exact rfl | assumption)) | (apply cd_f; (first | exact rfl | assumption)) | (apply cd_d <;> intro h) | (apply cd_s <;> intro h))
            | (apply aops_nilNeNil; exact rfl; exact rfl)
            | (apply aops_alloc; exact rfl; exact rfl)
            | (apply aops_store_mid; exact rfl; exact rfl; exact rfl; exact rfl; exact rfl; exact rfl; exact rfl; exact rfl; exact rfl; exact rfl; exact rfl)
            | (apply aops_load_loc; exact rfl; exact rfl; exact rfl; exact rfl; exact rfl)
            | (apply aops_store_loc; exact rfl; exact rfl; exact rfl; exact rfl; exact rfl; exact rfl; exact rfl; exact rfl; exact rfl; exact rfl; exact rfl)
            | (apply aops_build; exact rfl; exact rfl; exact rfl)
            | apply awp_skip
            | apply awp_exit
            | apply awp_ret
            | (refine aops_call1 Tryz.call80 (joinE_c (trim1 32 (restPart l) :: r.map fun s : Bytes => trim1 46 (s.drop 1)) _ _ _ _ hjv ?_ hvl) ?_; (simp; omega))
            | (apply aops_call1; exact Tryz.call111; exact foldCheck0_c (keyPart l, valueU l r) _ hkl hcf))
          refine aret_plain rfl (ares_ct_mid rfl rfl rfl rfl rfl rfl) ⟨?_, ext_end _ _ _ _⟩
          unfold unfoldA
          rw [hun, if_neg hv]
          rfl
      · rintro pre a rest _ hr ⟨h3, t, ext, rfl⟩
        have hrlen : r.length = pre.length + (rest.length + 1) := by rw [hr]; simp
        have hget : (r.map fun x => Sv x)[pre.length]? = some (Sv a) := by rw [hr]; simp
        have ha := hB.val a (by rw [hr]; simp)
        by_cases hka : kindOf a = 3
        · have hpos : 1 ≤ a.length := List.length_pos_iff.2 (kind_three_ne hka)
          repeat' (first
            | apply awp_seq
            | apply awp_block
            | apply awp_region
            | apply aops_nil
            | apply aops_move
            | apply aops_assign
            | (apply aops_cmpI; exact rfl; exact rfl; exact rfl)
            | (apply awp_cond_any; exact rfl; first | (apply cd_dt; (first | assumption | omega)) | (apply cd_df; (first | assumption | omega)) | (apply cd_nt; (first | exact rfl | assumption)) | (apply cd_nf; (first | exact rfl | assumption)) | (apply cd_n <;> intro h) | (apply cd_t; (first | exact rfl | assumption)) | (apply cd_f; (first | exact rfl | assumption)) | (apply cd_d <;> intro h) | (apply cd_s <;> intro h))
            | (apply aops_add; exact rfl; exact rfl; exact wrap_i64 (by omega) (by omega))
            | (apply aops_load_pp; exact rfl; exact rfl; exact rfl)
            | (apply aops_from; exact rfl; exact rfl; exact rfl; first | assumption | omega | (simp; omega))
            | (apply aops_buildSlice; exact rfl; exact rfl; exact rfl; exact rfl; exact rfl; exact rfl; exact rfl; exact rfl; exact rfl)
            | apply awp_skip
            | (apply aops_call1; exact Tryz.call139; exact kind_c _ _ (by omega))
            | (apply aops_call1; exact Tryz.call184; exact trim1_c _ _ _)
            | (apply aops_indexAddr (n := pre.length); exact rfl; exact rfl; exact rfl; exact rfl; exact rfl; exact hget)
            | (apply aops_append_mid (n := pre.length + 1) (m := 1) (sz := 1) (bytes := 16); exact rfl; exact rfl; exact rfl; exact rfl; simp; exact rfl; exact rfl; exact ⟨⟨_, _, rfl, rfl, rfl, rfl, rfl⟩⟩; exact rfl; exact rfl; (unfold maxLen; omega); omega; exact rfl))
          refine ⟨fun x hx => ?_, stE_mk ⟨rfl, rfl, ?_, rfl, rfl, ?_, trivial⟩ ?_⟩
          · rcases List.mem_append.1 hx with hx | hx
            · exact h3 x hx
            · simp at hx; subst hx; exact hka
          · exact sl_snoc1 _ (fun s : Bytes => Sv (trim1 46 (s.drop 1))) pre a _ rfl
          · exact iv_snoc pre a
          · rw [snoc_len pre a]; rfl
        · skip
          repeat' (first
            | apply awp_seq
            | apply awp_block
            | apply awp_region
            | apply aops_nil
            | apply aops_move
            | apply aops_assign
            | (apply aops_cmpI; exact rfl; exact rfl; exact rfl)
            | (apply awp_cond_any; exact rfl; first | (apply cd_dt; (first | assumption | omega)) | (apply cd_df; (first | assumption | omega)) | (apply cd_nt; (first | exact rfl | assumption)) | (apply cd_nf; (first | exact rfl | assumption)) | (apply cd_n <;> intro h) | (apply cd_t; (first | exact rfl | assumption)) | (apply cd_f; (first | exact rfl | assumption)) | (apply cd_d <;> intro h) | (apply cd_s <;> intro h))
            | (apply aops_makeInterface; exact rfl; exact rfl)
            | (apply aops_load_pp; exact rfl; exact rfl; exact rfl)
            | (apply aops_store_mid; exact rfl; exact rfl; exact rfl; exact rfl; exact rfl; exact rfl; exact rfl; exact rfl; exact rfl; exact rfl; exact rfl)
            | (apply aops_build; exact rfl; exact rfl; exact rfl)
            | apply awp_skip
            | apply awp_ret
            | (apply aops_call1; exact Tryz.call139; exact kind_c _ _ (by omega))
            | (apply aops_indexAddr (n := pre.length); exact rfl; exact rfl; exact rfl; exact rfl; exact rfl; exact hget))
          have hno : unfoldF (l :: r) = (([], []), 2) := if_neg fun h => hka (h.2.2 a (by rw [hr]; simp))
          refine aret_plain rfl (ares_ct_mid rfl rfl rfl rfl rfl rfl) ⟨?_, ext_end _ _ _ _⟩
          unfold unfoldA
          rw [hno]
          rfl
    · have hno : unfoldF (l :: r) = (([], []), 2) := if_neg fun h => h4 h.2.1
      simp only [List.length_cons] at hL
      repeat' (first
        | apply awp_seq
        | apply awp_region
        | apply aops_nil
        | apply aops_move
        | apply aops_assign
        | (apply aops_extract; exact rfl; exact rfl)
        | (apply aops_cmpI; exact rfl; exact rfl; exact rfl)
        | (apply aops_not; exact rfl)
        | (apply awp_cond_any; exact rfl; first | (apply cd_dt; (first | assumption | omega)) | (apply cd_df; (first | assumption | omega)) | (apply cd_nt; (first | exact rfl | assumption)) | (apply cd_nf; (first | exact rfl | assumption)) | (apply cd_n <;> intro h) | (apply cd_t; (first | exact rfl | assumption)) | (apply cd_f; (first | exact rfl | assumption)) | (apply cd_d <;> intro h) | (apply cd_s <;> intro h))
        | (apply aops_lenL; exact rfl; exact rfl; exact rfl; exact rfl)
        | (apply aops_makeInterface; exact rfl; exact rfl)
        | (apply aops_alloc; exact rfl; exact rfl)
        | (apply aops_load_pp; exact rfl; exact rfl; exact rfl)
        | (apply aops_store_loc; exact rfl; exact rfl; exact rfl; exact rfl; exact rfl; exact rfl; exact rfl; exact rfl; exact rfl; exact rfl; exact rfl)
        | (apply aops_build; exact rfl; exact rfl; exact rfl)
        | apply awp_skip
        | apply awp_ret
        | (apply aops_call1; exact Tryz.call183; exact linesCutN_c _ _ (by omega) h4)
        | (apply aops_indexAddr (n := 0); exact rfl; exact rfl; exact rfl; exact rfl; exact rfl; exact rfl))
      refine aret_plain rfl (ares_ct_loc rfl rfl rfl rfl rfl rfl) ⟨?_, _, rfl⟩
      unfold unfoldA
      rw [hno]
      rfl
end Go.Proofs.YtplagcbifecagaaGreatDoor
set_option maxRecDepth 100000
set_option linter.unusedVariables false
namespace Go.Proofs.YtplagcbifecagaaGreatDoor
open Go Go.Av Go.RowKit Go.Proofs Go.Pl
theorem mem_snoc {α : Type} {P : α → Prop} {pre : List α} {a : α} (h : ∀ x ∈ pre, P x) (ha : P a) : ∀ x ∈ pre ++ [a], P x := fun x hx => by
  rcases List.mem_append.1 hx with hx | hx
  · exact h x hx
  · simp at hx; subst hx; exact ha
end Go.Proofs.YtplagcbifecagaaGreatDoor
set_option maxRecDepth 100000
set_option linter.unusedVariables false
namespace Go.Pl
open Go Go.Proofs
structure LnV where
  no : Nat
  at' : Nat
  text : Bytes
  ended : Bool
def lnsFrom (k a : Nat) (l : Bytes) : List LnV := if h : l = [] then [] else ⟨k, a, upto 10 l, decide (10 ∈ l)⟩ :: lnsFrom (k + 1) (a + (upto 10 l).length + 1) (past 10 l)
  termination_by l.length
  decreasing_by exact past_lt h
def lns (l : Bytes) : List LnV := lnsFrom 0 0 l
theorem lns_nil (k a : Nat) : lnsFrom k a [] = [] := by unfold lnsFrom; simp
theorem lns_cons {k a : Nat} {l : Bytes} (h : l ≠ []) : lnsFrom k a l = ⟨k, a, upto 10 l, decide (10 ∈ l)⟩ :: lnsFrom (k + 1) (a + (upto 10 l).length + 1) (past 10 l) := by
  conv => lhs; unfold lnsFrom
  rw [dif_neg h]
def whole (l : Bytes) : Prop := l = [] ∨ l.getLast? = some 10
theorem lns_count : ∀ (n : Nat) (l : Bytes) (k a : Nat), l.length ≤ n → (lnsFrom k a l).length ≤ l.length
  | n, l, k, a, hn => by
    by_cases h : l = []
    · subst h; simp [lns_nil]
    · have hlt := past_lt (c := 10) h
      cases n with
      | zero => omega
      | succ n =>
        rw [lns_cons h, List.length_cons]
        have := lns_count n (past 10 l) (k + 1) (a + (upto 10 l).length + 1) (by omega)
        omega
end Go.Pl
set_option maxRecDepth 100000
set_option linter.unusedVariables false
namespace Go.Pl
open Go Go.Proofs
def indF (by' : Bytes) (ls : List (Bytes × Bool)) : Bytes := ls.flatMap fun x => by' ++ x.1 ++ lineEnd x.2
def indentF (by' l : Bytes) : Bytes := indF by' (linesOf l)
theorem indF_app (by' : Bytes) (a b : List (Bytes × Bool)) : indF by' (a ++ b) = indF by' a ++ indF by' b := by simp [indF]
theorem indF_one (by' : Bytes) (x : Bytes × Bool) : indF by' [x] = by' ++ x.1 ++ lineEnd x.2 := by simp [indF]
def lsum (ls : List (Bytes × Bool)) : Nat := (ls.map fun x => x.1.length + (lineEnd x.2).length).sum
theorem lines_sum : ∀ (n : Nat) (l : Bytes), l.length ≤ n → lsum (linesOf l) = l.length ∧ (linesOf l).length ≤ l.length
  | n, l, hn => by
    by_cases h : l = []
    · subst h; simp [linesOf_nil, lsum]
    · have hlt := past_lt (c := 10) h
      cases n with
      | zero => omega
      | succ n =>
        obtain ⟨h1, h2⟩ := lines_sum n (past 10 l) (by omega)
        rw [linesOf_cons h]
        unfold lsum at h1 ⊢
        simp only [List.map_cons, List.sum_cons, List.length_cons]
        rw [h1]
        have hp := past_length 10 l
        have hu := upto_length_le 10 l
        by_cases h10 : 10 ∈ l
        · have := upto_length_lt h10
          simp [h10, lineEnd]
          omega
        · have hu2 : (upto 10 l).length = l.length := by rw [upto_all h10]
          have hpos := List.length_pos_iff.2 h
          simp [h10, lineEnd]
          omega
theorem indF_len (by' : Bytes) : ∀ (ls : List (Bytes × Bool)), (indF by' ls).length = lsum ls + by'.length * ls.length
  | [] => by simp [indF, lsum]
  | x :: r => by
    have ih := indF_len by' r
    simp only [indF, lsum, List.flatMap_cons, List.length_append, List.map_cons, List.sum_cons, List.length_cons] at ih ⊢
    rw [ih, Nat.mul_add]
    omega
theorem lsum_app (a b : List (Bytes × Bool)) : lsum (a ++ b) = lsum a + lsum b := by simp [lsum]
end Go.Pl
namespace Go.Proofs.YtplagcbifecagaaGreatDoor
open Go Go.Av Go.RowKit Go.Proofs Go.Pl
theorem split_loc (text : List UInt8) (st loc : List AObj) (n : Nat) (hn : loc.length = n) : ACall E 52 [Sv text] (st ++ loc) fun r st1 => r = .fn (.func 85) [] [.bx (st.length + n) 0 0] ∧ st1 = st ++ (loc ++ [.cells 0 9 [Sv text]]) :=
  split_c text (st ++ loc) _ (st.length + n) (by simp [hn]) (by rw [List.append_assoc])
theorem joinOne_c (b sep : Bytes) (st : List AObj) (hl : b.length ≤ 140737488355328) : ACall E 80 [.sl 1 [Sv b] none, Sv sep] st fun r st' => r = Sv b ∧ st' = st :=
  joinE_c [b] none sep b st (by simp [Lib.join, List.intercalate]) (by simp) hl
theorem len_eq {st a b ext : List AObj} {m : Nat} (h : ((st ++ a) ++ ext).length = m) (e : b.length = a.length) : ((st ++ b) ++ ext).length = m := by
  simp only [List.length_append] at h ⊢
  omega
set_option maxHeartbeats 2000000 in
theorem indent_c (text by' : Bytes) (st : List AObj) (hl : text.length < 100000000) (hb : by'.length < 1000) : ACall E 42 [Sv text, .sl 1 [Sv by'] none] st fun r st' => r = Sv (indentF by' text) ∧ st' = st := by
  refine acall_pure (pure_v _) (acall_of_awp Tryz.func42 rfl (Nat.le_of_ble_eq_true rfl) ?_)
  obtain ⟨hsum, hcnt⟩ := lines_sum _ text (Nat.le_refl _)
  repeat' (first
    | (apply aops_allocB; exact rfl)
    | apply awp_seq
    | apply awp_block
    | apply awp_region
    | apply aops_nil
    | apply aops_move
    | apply aops_assign
    | (apply aops_alloc; exact rfl; exact rfl)
    | (apply aops_store_loc; exact rfl; exact rfl; exact rfl; exact rfl; exact rfl; exact rfl; exact rfl; exact rfl; exact rfl; exact rfl; exact rfl)
    | (apply aops_call1; exact Tryz.call80; exact joinOne_c _ _ _ (by omega))
    | (refine aops_call1 Tryz.call52 (split_loc _ _ _ _ rfl) ?_))
  refine awp_rangeSplit (st := st) text rfl rfl (by omega) (fun k rest l => ∃ q don, (q = .v (.pointer none) ∨ q = .bx (st.length + 0) 0 0) ∧ linesOf text = don ++ linesOf rest ∧ l = [bldO 0 q (indF by' don) (st.length + 1), .tip (indF by' don).length 1 5, .cells 0 9 [Sv by'], .cells 0 9 [Sv text]]) (fun _ _ => False)
    ⟨_, [], .inl rfl, rfl, rfl⟩ (fun k rest l ⟨q, don, _, _, e⟩ => by subst e; exact ⟨rfl, rfl⟩) (fun _ _ h => h.elim) ?_ ?_ (fun _ _ _ h => h.elim)
  · rintro F own rd k rest _ ext m hF ⟨q, don, hq, hd, rfl⟩ hne hle hm1 hm2
    have hmem : linesOf rest = (upto 10 rest, decide (10 ∈ rest)) :: linesOf (past 10 rest) := linesOf_cons hne
    have hu := upto_length_le 10 rest
    have hlen := indF_len by' (don ++ [(upto 10 rest, decide (10 ∈ rest))])
    have he : linesOf text = (don ++ [(upto 10 rest, decide (10 ∈ rest))]) ++ linesOf (past 10 rest) := by rw [hd, hmem]; simp
    have hs2 : lsum (don ++ [(upto 10 rest, decide (10 ∈ rest))]) + lsum (linesOf (past 10 rest)) = text.length := by rw [← lsum_app, ← he]; exact hsum
    have hc2 : (don ++ [(upto 10 rest, decide (10 ∈ rest))]).length + (linesOf (past 10 rest)).length ≤ text.length := by rw [← List.length_append, ← he]; exact hcnt
    have hm : by'.length * (don ++ [(upto 10 rest, decide (10 ∈ rest))]).length ≤ 1000 * 100000000 := Nat.mul_le_mul (by omega) (by omega)
    rw [indF_app, indF_one] at hlen
    simp only [List.length_append] at hlen hm hc2
    repeat' (first
      | (apply aops_allocN; exact rfl; assumption; exact rfl)
      | (apply aops_store_locn; exact rfl; assumption; exact rfl; exact rfl; exact rfl; exact rfl; exact rfl; exact rfl; exact rfl; exact rfl; exact rfl; exact rfl)
      | apply awp_region
      | apply aops_nil)
    refine ⟨_, rfl, rfl, ?_⟩
    repeat' (first
      | apply awp_seq
      | apply awp_block
      | apply awp_region
      | apply aops_nil
      | (apply awp_cond_any; exact rfl; first | (apply cd_dt; (first | assumption | omega)) | (apply cd_df; (first | assumption | omega)) | (apply cd_nt; (first | exact rfl | assumption)) | (apply cd_nf; (first | exact rfl | assumption)) | (apply cd_n <;> intro h) | (apply cd_t; (first | exact rfl | assumption)) | (apply cd_f; (first | exact rfl | assumption)) | (apply cd_d <;> intro h) | (apply cd_s <;> intro h))
      | (apply aops_concat; exact rfl; exact rfl; (first | omega | (simp only [List.length_append, List.length_cons, List.length_nil]; omega) | (simp; omega)))
      | (apply aops_fieldAddr_bx; exact rfl; exact rfl; exact rfl)
      | (apply aops_load_mid; exact rfl; exact rfl; exact rfl; exact rfl; exact rfl)
      | apply awp_skip
      | (apply aops_load_locn; exact rfl; exact len_eq hm2 rfl; exact rfl; exact rfl; exact rfl; exact rfl)
      | (refine aops_call1 Tryz.call41 (bWrite_mid st _ _ _ _ 0 1 0 _ _ _ rfl rfl ?_ ?_ rfl) ?_; (first | exact hq | exact .inr rfl); (simp only [List.length_append, List.length_cons, List.length_nil]; omega)))
    all_goals
      have hx : indF by' (don ++ [(upto 10 rest, decide (10 ∈ rest))]) = (indF by' don ++ (by' ++ upto 10 rest)) ++ lineEnd (decide (10 ∈ rest)) := by
        rw [indF_app, indF_one]; simp
      refine ⟨[bldO 0 (.bx (st.length + 0) 0 0) (indF by' (don ++ [(upto 10 rest, decide (10 ∈ rest))])) (st.length + 1), .tip (indF by' (don ++ [(upto 10 rest, decide (10 ∈ rest))])).length 1 5, .cells 0 9 [Sv by'], .cells 0 9 [Sv text]], ext, [.cells 0 102 (lineA k text rest).cells], ?_, _, _, .inr rfl, he, rfl⟩
    · have h10 : 10 ∈ rest := by simp_all
      rw [hx, show lineEnd (decide (10 ∈ rest)) = [10] by simp [h10, lineEnd]]
      rfl
    · have h10 : 10 ∉ rest := by simp_all
      have hx2 : indF by' (don ++ [(upto 10 rest, decide (10 ∈ rest))]) = indF by' don ++ (by' ++ upto 10 rest) := by
        rw [hx]; simp [h10, lineEnd]
      rw [hx2]
      rfl
  · rintro k _ ext ⟨q, don, hq, hd, rfl⟩
    repeat' (first
      | apply awp_seq
      | apply awp_region
      | apply aops_nil
      | apply aops_assign
      | apply awp_ret
      | (refine aops_call1 Tryz.call43 (bString_mid st _ _ _ _ 0 1 0 _ _ rfl rfl rfl) ?_))
    refine aret_mark_mid (k := 4) rfl rfl rfl (aret_plain rfl (ares_one rfl) ⟨congrArg (fun l : Bytes => Sv l) (?_ : _ = indentF by' text), ext_end _ _ _ _⟩)
    rw [linesOf_nil, List.append_nil] at hd
    unfold indentF
    rw [hd]
end Go.Proofs.YtplagcbifecagaaGreatDoor
set_option maxRecDepth 100000
set_option linter.unusedVariables false
namespace Go.Pl
open Go Go.Proofs
theorem lines_len : ∀ (n : Nat) (l : Bytes), l.length ≤ n → (linesOf l).length = l.count 10 + if l ≠ [] ∧ l.getLast? ≠ some 10 then 1 else 0
  | n, l, hn => by
    by_cases h : l = []
    · subst h; simp [linesOf_nil]
    · have hlt := past_lt (c := 10) h
      cases n with
      | zero => omega
      | succ n =>
        have ih := lines_len n (past 10 l) (by omega)
        rw [linesOf_cons h, List.length_cons, ih]
        by_cases h10 : 10 ∈ l
        · have e := upto_past h10
          have hc : l.count 10 = 1 + (past 10 l).count 10 := by
            have h0 : (upto 10 l).count 10 = 0 := List.count_eq_zero.2 (notin_upto 10 l)
            conv => lhs; rw [e]
            rw [List.count_append, List.count_cons, h0]
            simp
            omega
          have hg : l.getLast? = if past 10 l = [] then some 10 else (past 10 l).getLast? := by
            conv => lhs; rw [e]
            rw [List.getLast?_append, List.getLast?_cons]
            cases hq : (past 10 l).getLast? with
            | none => rw [if_pos (List.getLast?_eq_none_iff.1 hq)]; simp
            | some c =>
              rw [if_neg (fun e => by rw [e] at hq; simp at hq)]
              simp
          rw [hc, hg]
          by_cases hp : past 10 l = []
          · simp [hp]
          · simp [hp, h]
            omega
        · have hp : past 10 l = [] := by
            unfold past
            rw [upto_all h10]
            simp
          have hc : l.count 10 = 0 := List.count_eq_zero.2 h10
          have hg : l.getLast? ≠ some 10 := fun e => h10 (List.mem_of_getLast? e)
          rw [hp, hc]
          simp [h, hg]
end Go.Pl
namespace Go.Proofs.YtplagcbifecagaaGreatDoor
open Go Go.Av Go.RowKit Go.Proofs Go.Pl
theorem hasSuffix1_c (l : List UInt8) (c : UInt8) (st : List AObj) (hl : l.length ≤ 9223372036854775807) : ACall E 55 [Sv l, Sv [c]] st fun r st' => r = Bv (decide (l.getLast? = some c)) ∧ st' = st := by
  have := hasSuffix_c l [c] st hl
  rw [hasSuffix_one] at this
  exact this
theorem count_c (l : Bytes) (st : List AObj) (hl : l.length < 100000000) : ACall E 25 [Sv l] st fun r st' => r = Iv (linesOf l).length ∧ st' = st := by
  refine acall_pure (pure_v _) (acall_of_awp Tryz.func25 rfl (Nat.le_of_ble_eq_true rfl) ?_)
  have hc : l.count 10 ≤ l.length := List.count_le_length
  have hn := lines_len _ l (Nat.le_refl _)
  repeat' (first
    | apply awp_seq
    | apply awp_region
    | apply aops_nil
    | apply aops_move
    | apply aops_assign
    | (apply aops_cmpS; exact rfl; exact rfl; exact rfl)
    | (apply aops_not; exact rfl)
    | (apply aops_guard_any; exact rfl; exact rfl; exact rfl; exact rfl)
    | (apply gd_run_d; (first | assumption | omega))
    | (apply gd_skip_n; (first | assumption | omega))
    | (apply gd_split_d <;> intro h)
    | (apply aops_pick_any; exact rfl; first | (apply pk_dt; (first | assumption | omega)) | (apply pk_df; (first | assumption | omega)) | (apply pk_nt; (first | exact rfl | assumption)) | (apply pk_nf; (first | exact rfl | assumption)) | (apply pk_t; (first | exact rfl | assumption)) | (apply pk_f; (first | exact rfl | assumption)))
    | (apply awp_cond_any; exact rfl; first | (apply cd_dt; (first | assumption | omega)) | (apply cd_df; (first | assumption | omega)) | (apply cd_nt; (first | exact rfl | assumption)) | (apply cd_nf; (first | exact rfl | assumption)) | (apply cd_n <;> intro h) | (apply cd_t; (first | exact rfl | assumption)) | (apply cd_f; (first | exact rfl | assumption)) | (apply cd_d <;> intro h) | (apply cd_s <;> intro h))
    | (apply aops_add; exact rfl; exact rfl; exact wrap_i64 (by omega) (by omega))
    | apply awp_skip
    | apply awp_ret
    | (apply aops_call1; exact Tryz.call54; exact count1_c _ _ _)
    | (apply aops_call1; exact Tryz.call55; exact hasSuffix1_c _ _ _ (by omega)))
  all_goals refine aret_plain rfl (ares_one rfl) ⟨congrArg Iv (?_ : _ = ((linesOf l).length : Int)), _, rfl⟩
  all_goals rw [hn]
  · rw [if_pos (by simp_all)]; rfl
  · rw [if_neg (by simp_all)]; rfl
  · rw [if_neg (by simp_all)]; rfl
end Go.Proofs.YtplagcbifecagaaGreatDoor
set_option linter.unusedVariables false
namespace Go.Av
open Go Go.RowKit
def TipC (b : Nat) (st : List AObj) (sz : Nat) (T : TypeId) (xs : List AV) (c : AV) : Prop := (xs = [] ∧ c = nilSl) ∨ ∃ t, c = .sl sz xs (some t) ∧ st[t]? = some (.tip xs.length sz T) ∧ b ≤ t
structure Fr (st st' : List AObj) (t : Nat) : Prop where
  len : st.length ≤ st'.length
  same : ∀ k, k ≠ t → k < st.length → st'[k]? = st[k]?
theorem tipC_nil (b : Nat) (st : List AObj) (sz : Nat) (T : TypeId) : TipC b st sz T [] nilSl := .inl ⟨rfl, rfl⟩
theorem tipC_pre {b : Nat} {st l : List AObj} {sz : Nat} {T : TypeId} {xs : List AV} {c : AV} (h : TipC b st sz T xs c) : TipC b (st ++ l) sz T xs c := by
  rcases h with h | ⟨t, h1, h2, h3⟩
  · exact .inl h
  · exact .inr ⟨t, h1, by rw [List.getElem?_append_left (lt_of_getElem? h2)]; exact h2, h3⟩
theorem tipC_set {b o : Nat} {st : List AObj} {sz : Nat} {T : TypeId} {xs : List AV} {c : AV} {x : AObj} (ho : o < b) (h : TipC b st sz T xs c) : TipC b (st.set o x) sz T xs c := by
  rcases h with h | ⟨t, h1, h2, h3⟩
  · exact .inl h
  · exact .inr ⟨t, h1, get_set_ne h2 (by omega), h3⟩
theorem tipC_fr {b t0 : Nat} {st st' : List AObj} {sz : Nat} {T : TypeId} {xs : List AV} {c : AV} (hf : Fr st st' t0) (hne : ∀ t, c = .sl sz xs (some t) → t ≠ t0) (h : TipC b st sz T xs c) : TipC b st' sz T xs c := by
  rcases h with h | ⟨t, h1, h2, h3⟩
  · exact .inl h
  · exact .inr ⟨t, h1, by rw [hf.same t (hne t h1) (lt_of_getElem? h2)]; exact h2, h3⟩
theorem tipC_other {b t0 : Nat} {st st' : List AObj} {sz sz0 : Nat} {T T0 : TypeId} {xs xs0 : List AV} {c c0 : AV} (hf : Fr st st' t0) (h0 : TipC b st sz0 T0 xs0 c0) (hid : c0 = .sl sz0 xs0 (some t0) ∨ st.length ≤ t0) (hd : (Nat.beq sz sz0 && Nat.beq T T0) = false) (h : TipC b st sz T xs c) : TipC b st' sz T xs c := by
  refine tipC_fr hf (fun t ht e => ?_) h
  subst e
  rcases h with ⟨_, hc⟩ | ⟨t1, h1, h2, h3⟩
  · rw [hc] at ht; simp at ht
  · rw [ht] at h1
    simp only [AV.sl.injEq, Option.some.injEq, true_and] at h1
    subst h1
    rcases hid with hid | hid
    · rcases h0 with ⟨_, hc⟩ | ⟨t2, k1, k2, k3⟩
      · rw [hc] at hid; simp at hid
      · rw [hid] at k1
        simp only [AV.sl.injEq, Option.some.injEq, true_and] at k1
        subst k1
        rw [h2] at k2
        simp only [Option.some.injEq, AObj.tip.injEq] at k2
        obtain ⟨_, rfl, rfl⟩ := k2
        simp at hd
    · have := lt_of_getElem? h2
      omega
section
variable {E : Env} {rd : Option Nat} {N : Nat} {ops : Array Oper} {K : AS → Prop} {s : AS} {rest : List Oper} {d : Option Tmp} {T : TypeId} {p : String} {af : Array Edge}
theorem aops_appendT {x y : Operand} {t u T' : TypeId} {sz bytes b : Nat} {xs ys : List AV} {tip : Option Nat} {c : AV} {st : List AObj} (hst : s.st = st) (hx : aeval N s x = c) (hc : TipC b st sz T' xs c) (hb : b ≤ st.length) (hy : aeval N s y = .sl sz ys tip)
    (ht : E.P.underlying t = some (.slice T')) (hu : E.P.underlying u = some (.slice T')) (hT : ElemOk E.P T' sz bytes) (hone : allOne (flat ys) = true) (h63 : xs.length + ys.length ≤ maxLen) (hby : (xs.length + ys.length) * bytes ≤ 140737488355328)
    (h : ∀ t1 st', st'[t1]? = some (.tip (xs ++ ys).length sz T') → b ≤ t1 → Fr st st' t1 → (c = .sl sz xs (some t1) ∨ st.length ≤ t1) → AOps E rd N ops rest K (AS.put ⟨s.t, st', s.df⟩ d (.sl sz (xs ++ ys) (some t1)))) : AOps E rd N ops (⟨d, .call ⟨.builtin .append, #[x, y], #[t, u]⟩, T, p, af, none⟩ :: rest) K s := by
  subst hst
  refine aops_cons rfl (aop_of_run nofun fun B0 w0 G a w _ hI => ?_)
  rcases hc with ⟨hxs, hcn⟩ | ⟨t1, h1, h2, h3⟩
  · subst hxs
    have hle := G.le_new 0 0 0 false
    have hA := hI.agree.newTip sz T'
    have hv : a.eval x = .slice none 0 0 := hI.evalv (hx.trans hcn)
    have hn := hI.agree.n
    obtain ⟨news, k1, k2, k3⟩ := src_slice (P := E.P) hA ((hI.eval_of hy).mono hle) (by simpa [allOne] using hone)
    have hr : Rel (G.new 0 0 0 false) (.sl sz [] (some s.st.length)) (a.eval x) := by
      rw [hv]
      exact .sl0 sz _ none 0 fun t ht => by simp only [Option.some.injEq] at ht; subst ht; exact ⟨by simp [Gh.new, hn], rfl, rfl⟩
    obtain ⟨v', w', G', e1, e2, e3, e4⟩ := agree_append (ty := T) hA ht hu (.inr ⟨_, rfl⟩) hT (t := s.st.length) (n := 0) (by simp) hr rfl rfl k1 k2 k3 (by simpa using h63) (by simpa using hby)
    refine ⟨v', w', G', _, _, ?_, hle.trans e2, e3, e4, h s.st.length _ ?_ hb ⟨by simp, fun k hk hlt => ?_⟩ (.inr (Nat.le_refl _))⟩
    · generalize a.eval = ρ at e1
      simp [execOp, resolve, invoke, builtin, e1]
    · simp
    · rw [List.getElem?_set_ne (Ne.symm hk), List.getElem?_append_left hlt]
  · obtain ⟨news, k1, k2, k3⟩ := src_slice (P := E.P) hI.agree (hI.eval_of hy) (by simpa [allOne] using hone)
    obtain ⟨v', w', G', e1, e2, e3, e4⟩ := agree_append (ty := T) hI.agree ht hu (.inr ⟨_, rfl⟩) hT h2 (hI.eval_of (hx.trans h1)) rfl rfl k1 k2 k3 h63 hby
    refine ⟨v', w', G', _, _, ?_, e2, e3, e4, h t1 _ ?_ h3 ⟨by simp, fun k hk hlt => ?_⟩ (.inl h1)⟩
    · generalize a.eval = ρ at e1
      simp [execOp, resolve, invoke, builtin, e1]
    · rw [List.length_append]
      exact get_set h2
    · rw [List.getElem?_set_ne (Ne.symm hk)]
theorem aops_boxP {t : TypeId} {x : Operand} {r : AV} {cs : List AV} (hx : aeval N s x = r) (hok : r.okc = true) (hc : r.cells = cs)
    (h : AOps E rd N ops rest K (s.put d (.pp cs))) : AOps E rd N ops (⟨d, .box t x, T, p, af, none⟩ :: rest) K s := by
  refine aops_cons rfl (aop_of_run nofun fun B0 w0 G a w _ hI => ?_)
  have hr := (hI.eval_of hx).cells hok
  rw [hc] at hr
  obtain ⟨hle, hA⟩ := hI.agree.newPub t (a.eval x).cells (0, 0) (a.eval x).cells.toList (fun i y hy => by simpa using hy)
  have hrun : (execOp a.eval ⟨d, .box t x, T, p, af, none⟩).run E.P w = .ok (.value (.pointer (some ⟨w.heap.size, 0, none⟩))) (w.alloc (.cells (a.eval x).cells t)) := by
    generalize a.eval = ρ
    simp [execOp, Instr.box, newVar, newRow, newObj, Sem.run]
  refine ⟨_, _, _, .pp cs, s.st, hrun, hle, hA, .pp cs w.heap.size 0 (a.eval x).cells.toList (by simp [Gh.publish]) (by rw [hr.1]; simp) fun i x y hx hy => (hr.2 i x y hx (by simpa using hy)).mono hle, h⟩
end
theorem acall_weak1 {E : Env} {f : FuncId} {x x' : AV} {us : List AV} {st : List AObj} {R : AV → List AObj → Prop} (hw : ∀ G v, Rel G x v → Rel G x' v) (h : ACall E f (x' :: us) st R) : ACall E f (x :: us) st R :=
  ⟨fun B0 w0 G vals w hL hA hR => h.run B0 w0 G vals w hL hA ⟨by have := hR.1; simpa using this, fun i a b ha hb => by
    cases i with
    | zero => simp at ha; subst ha; exact hw G b (hR.2 0 x b rfl hb)
    | succ i => exact hR.2 (i + 1) a b (by simpa using ha) hb⟩⟩
theorem get_pre' {st l : List AObj} {o : Nat} {x : AObj} (h : st[o]? = some x) : (st ++ l)[o]? = some x := by
  rw [List.getElem?_append_left (lt_of_getElem? h)]; exact h
theorem get_end {st : List AObj} {x : AObj} : (st ++ [x])[st.length]? = some x := by simp
section
variable {E : Env} {rd : Option Nat} {N : Nat} {ops : Array Oper} {K : AS → Prop} {s : AS} {rest : List Oper} {d : Option Tmp} {T : TypeId} {p : String} {af : Array Edge}
theorem aops_allocW {t : TypeId} {st : List AObj} {cs : List AV} (hst : s.st = st) (hz : zeroA E.P t = some cs)
    (h : AOps E rd N ops rest K (AS.put ⟨s.t, st ++ [.cells 0 t cs], s.df⟩ d (.bx st.length 0 0))) : AOps E rd N ops (⟨d, .alloc t, T, p, af, none⟩ :: rest) K s :=
  aops_alloc (loc := []) (by rw [hst]; simp) hz h
end
theorem ext_of_low {st st' : List AObj} (hl : st.length ≤ st'.length) (h : ∀ k, k < st.length → st'[k]? = st[k]?) : ∃ ext, st' = st ++ ext := by
  refine ⟨st'.drop st.length, ?_⟩
  apply List.ext_getElem?
  intro k
  by_cases hk : k < st.length
  · rw [h k hk, List.getElem?_append_left hk]
  · rw [List.getElem?_append_right (by omega), List.getElem?_drop]
    congr 1
    omega
end Go.Av
set_option maxRecDepth 100000
set_option linter.unusedVariables false
namespace Go.Pl
open Go Go.Proofs
structure ItemV where
  kind : Int
  raw : Bytes
  fields : List Fld
structure PSt where
  lines : List Bytes
  frm : Int
  full : Bool
  items : List ItemV
  block : List Bytes
  fields : List Fld
  records : Int
def flushP (p : PSt) : Option (Int × Int) × PSt :=
  if p.lines = [] then (none, p)
  else if (unfoldF p.lines).2 ≠ 0 then (some (p.frm, (unfoldF p.lines).2), p)
  else if p.full = true then (some (p.frm, 11), p)
  else (none, { p with lines := [], fields := p.fields ++ [(unfoldF p.lines).1] })
end Go.Pl
namespace Go.Proofs.YtplagcbifecagaaGreatDoor
open Go Go.Av Go.RowKit Go.Proofs Go.Pl
@[reducible] def itemA (x : ItemV) : AV := .ag [Iv x.kind, Sv x.raw, fldsA x.fields]
@[reducible] def itemsA (xs : List ItemV) : AV := .sl 3 (xs.map itemA) none
@[reducible] def parC (c1 c2 c3 c4 : AV) (p : PSt) : List AV := [c1, Iv p.frm, Bv p.full, c2, c3, c4, Iv p.records]
@[reducible] def parO (c1 c2 c3 c4 : AV) (p : PSt) : AObj := .cells 0 140 (parC c1 c2 c3 c4 p)
structure ParS (b o : Nat) (p : PSt) (st : List AObj) (c1 c2 c3 c4 : AV) : Prop where
  lt : o < b
  le : b ≤ st.length
  ob : st[o]? = some (parO c1 c2 c3 c4 p)
  h1 : TipC b st 1 9 (p.lines.map fun x => Sv x) c1
  h2 : TipC b st 3 144 (p.items.map itemA) c2
  h3 : TipC b st 1 9 (p.block.map fun x => Sv x) c3
  h4 : TipC b st 2 58 (p.fields.map fldA) c4
  ne : ∀ t xs ys, c1 = .sl 1 xs (some t) → c3 = .sl 1 ys (some t) → False
def Par (b o : Nat) (p : PSt) (st : List AObj) : Prop := ∃ c1 c2 c3 c4, ParS b o p st c1 c2 c3 c4
def notTip (x : Option AObj) : Prop := ∀ n sz T, x ≠ some (.tip n sz T)
structure Keep (b o : Nat) (st st' : List AObj) : Prop where
  len : st.length ≤ st'.length
  same : ∀ k, k ≠ o → k < st.length → (k < b ∨ notTip st[k]?) → st'[k]? = st[k]?
theorem Keep.trans {b o : Nat} {st st' st'' : List AObj} (h : Keep b o st st') (k : Keep b o st' st'') : Keep b o st st'' := ⟨Nat.le_trans h.len k.len, fun i hne hi hc => by
  have e := h.same i hne hi hc
  refine (k.same i hne (Nat.lt_of_lt_of_le hi h.len) ?_).trans e
  rw [e]
  exact hc⟩
theorem keep_app {b o : Nat} {st l : List AObj} (hb : b ≤ st.length) : Keep b o st (st ++ l) := ⟨by simp, fun k _ hk _ => List.getElem?_append_left hk⟩
theorem keep_set {b o : Nat} {st : List AObj} {x : AObj} : Keep b o st (st.set o x) := ⟨by simp, fun k hne _ _ => List.getElem?_set_ne (Ne.symm hne)⟩
theorem keep_fr {b o t sz : Nat} {T : TypeId} {xs : List AV} {c : AV} {st st' : List AObj} (hf : Fr st st' t) (hb : b ≤ st.length) (ht : b ≤ t) (h0 : TipC b st sz T xs c) (hid : c = .sl sz xs (some t) ∨ st.length ≤ t) : Keep b o st st' := ⟨hf.len, fun k _ hk hc => hf.same k (fun e => by
  subst e
  rcases hc with hc | hc
  · omega
  · rcases hid with hid | hid
    · rcases h0 with ⟨_, h⟩ | ⟨t2, k1, k2, _⟩
      · rw [h] at hid; simp at hid
      · rw [hid] at k1
        simp only [AV.sl.injEq, Option.some.injEq, true_and] at k1
        subst k1
        exact hc _ _ _ k2
    · omega) hk⟩
def faultA (a n : Int) : AV := .ifc 92 (.pp [Iv a, .ifc 31 (Iv n)])
def errP : Option (Int × Int) → AV
  | none => .v .nilIface
  | some (a, n) => faultA a n
theorem faultA_pure (a n : Int) : Pure (faultA a n) := pure_ifc (pure_pp fun x hx => by
  simp only [List.mem_cons, List.not_mem_nil, or_false] at hx
  rcases hx with rfl | rfl
  · exact pure_v _
  · exact pure_ifc (pure_v _))
theorem pfault_c (a n : Int) (st : List AObj) : ACall E 141 [Iv a, .ifc 31 (Iv n)] st fun r st' => r = faultA a n ∧ st' = st := by
  refine acall_pure (faultA_pure a n) (acall_of_awp Tryz.func141 rfl (Nat.le_of_ble_eq_true rfl) ?_)
  repeat' (first
    | (apply aops_boxP; exact rfl; exact rfl; exact rfl)
    | apply awp_seq
    | apply awp_region
    | apply aops_nil
    | apply aops_move
    | apply aops_assign
    | (apply aops_makeInterface; exact rfl; exact rfl)
    | (apply aops_build; exact rfl; exact rfl; exact rfl)
    | apply awp_ret)
  exact aret_plain rfl (ares_one rfl) ⟨rfl, _, rfl⟩
theorem unfoldT0_c (ls : List Bytes) (t : Option Nat) (st : List AObj) (hB : LsB ls) (h : (unfoldF ls).2 = 0) : ACall E 166 [.sl 1 (ls.map fun x => Sv x) t] st fun r st' => r = .tu [fldA (unfoldF ls).1, .v .nilIface] ∧ st' = st := by
  have := foldUnfold_c ls st hB
  unfold unfoldA at this
  rw [h] at this
  exact acall_weak1 (weak_noTip _ _ _) this
theorem unfoldT1_c (ls : List Bytes) (t : Option Nat) (st : List AObj) (hB : LsB ls) (h : (unfoldF ls).2 ≠ 0) : ACall E 166 [.sl 1 (ls.map fun x => Sv x) t] st fun r st' => r = .tu [fldA (unfoldF ls).1, .ifc 31 (Iv (unfoldF ls).2)] ∧ st' = st := by
  have := foldUnfold_c ls st hB
  unfold unfoldA at this
  rw [errN_ne h] at this
  exact acall_weak1 (weak_noTip _ _ _) this
theorem tipC_some {b : Nat} {st : List AObj} {sz : Nat} {T : TypeId} {xs : List AV} {c : AV} (h : TipC b st sz T xs c) (hne : xs ≠ []) : ∃ t, c = .sl sz xs (some t) := by
  rcases h with ⟨h, _⟩ | ⟨t, h, _⟩
  · exact absurd h hne
  · exact ⟨t, h⟩
theorem tipC_len {b : Nat} {st : List AObj} {sz : Nat} {T : TypeId} {xs : List AV} {c : AV} (h : TipC b st sz T xs c) : lenA c = some xs.length := by
  rcases h with ⟨rfl, rfl⟩ | ⟨t, rfl, _⟩ <;> rfl
structure PB (n : Nat) (p : PSt) : Prop where
  small : n < 900000
  lines : p.lines.length ≤ n
  linesV : ∀ s ∈ p.lines, s.length < 1000000
  items : p.items.length ≤ n
  block : p.block.length ≤ n
  blockV : ∀ s ∈ p.block, s.length < 1000000
  fields : p.fields.length ≤ n
  rec0 : 0 ≤ p.records
  rec1 : p.records ≤ n
theorem PB.ls {n : Nat} {p : PSt} (h : PB n p) : LsB p.lines := ⟨by have := h.lines; have := h.small; omega, h.linesV⟩
theorem ParS.pre {b o : Nat} {p : PSt} {st l : List AObj} {c1 c2 c3 c4 : AV} (P : ParS b o p st c1 c2 c3 c4) : ParS b o p (st ++ l) c1 c2 c3 c4 :=
  ⟨P.lt, by have := P.le; simp; omega, get_pre' P.ob, tipC_pre P.h1, tipC_pre P.h2, tipC_pre P.h3, tipC_pre P.h4, P.ne⟩
theorem tipC_new {b o t : Nat} {st : List AObj} {sz : Nat} {T : TypeId} {xs : List AV} (hlt : o < b) (g1 : st[t]? = some (.tip xs.length sz T)) (g2 : b ≤ t) : TipC b st sz T xs (.sl sz xs (some t)) := .inr ⟨t, rfl, g1, g2⟩
theorem par_flush {b o t : Nat} {p : PSt} {x : Fld} {st st' : List AObj} {c1 c2 c3 c4 : AV} {X : AObj} (P : ParS b o p st c1 c2 c3 c4) (g1 : st'[t]? = some (.tip (p.fields.map fldA ++ [fldA x]).length 2 58)) (g2 : b ≤ t) (g3 : Fr st st' t) (g4 : c4 = .sl 2 (p.fields.map fldA) (some t) ∨ st.length ≤ t) :
    Par b o { p with lines := [], fields := p.fields ++ [x] } ((st'.set o X).set o (parO nilSl c2 c3 (.sl 2 (p.fields.map fldA ++ [fldA x]) (some t)) p)) := by
  have hlt := P.lt
  have hle := P.le
  have hl := g3.len
  have e : (p.fields ++ [x]).map fldA = p.fields.map fldA ++ [fldA x] := by simp
  refine ⟨nilSl, c2, c3, .sl 2 (p.fields.map fldA ++ [fldA x]) (some t), hlt, by simp; omega, ?_, tipC_nil .., ?_, ?_, ?_, nofun⟩
  · have : o < st'.length := by omega
    simp [this]
  · exact tipC_set hlt (tipC_set hlt (tipC_other g3 P.h4 g4 rfl P.h2))
  · exact tipC_set hlt (tipC_set hlt (tipC_other g3 P.h4 g4 rfl P.h3))
  · refine tipC_set hlt (tipC_set hlt ?_)
    rw [← e] at g1 ⊢
    exact tipC_new hlt g1 g2
set_option maxHeartbeats 4000000 in
theorem flush_c (b o : Nat) (p : PSt) (st : List AObj) (n : Nat) (h : Par b o p st) (hB : PB n p) : ACall E 143 [.bx o 0 0] st fun r st' => r = errP (flushP p).1 ∧ ((flushP p).1 = none → Par b o (flushP p).2 st') ∧ Keep b o st st' := by
  obtain ⟨c1, c2, c3, c4, P⟩ := h
  obtain ⟨ls, fr, fu, its, bk, fs, rc⟩ := p
  have hob : st[o]? = some (.cells 0 140 [c1, Iv fr, Bv fu, c2, c3, c4, Iv rc]) := P.ob
  have hl1 : lenA c1 = some (ls.map fun x => Sv x).length := tipC_len P.h1
  have hle := P.le
  have hlt := P.lt
  have hml : (ls.map fun x => Sv x).length = ls.length := by simp
  refine acall_of_awp Tryz.func143 rfl (Nat.le_of_ble_eq_true rfl) ?_
  by_cases h0 : ls = []
  · have hf : flushP ⟨ls, fr, fu, its, bk, fs, rc⟩ = (none, ⟨ls, fr, fu, its, bk, fs, rc⟩) := if_pos h0
    have hz : (ls.map fun x => Sv x).length = 0 := by rw [h0]; rfl
    repeat' (first
      | apply awp_seq
      | apply awp_region
      | apply aops_nil
      | apply aops_move
      | apply aops_assign
      | (apply aops_cmpI; exact rfl; exact rfl; exact rfl)
      | (apply awp_cond_any; exact rfl; first | (apply cd_dt; (first | assumption | omega)) | (apply cd_df; (first | assumption | omega)) | (apply cd_nt; (first | exact rfl | assumption)) | (apply cd_nf; (first | exact rfl | assumption)) | (apply cd_n <;> intro h) | (apply cd_t; (first | exact rfl | assumption)) | (apply cd_f; (first | exact rfl | assumption)) | (apply cd_d <;> intro h) | (apply cd_s <;> intro h))
      | (apply aops_fieldAddr_bx; exact rfl; exact rfl; exact rfl)
      | (apply aops_nilCheck; exact rfl; exact rfl)
      | apply awp_ret
      | (apply aops_load_bx; exact rfl; exact get_pre' hob; exact rfl; exact rfl)
      | (apply aops_lenL; exact rfl; exact hl1; exact rfl; exact rfl))
    refine aret_plain rfl (ares_one rfl) ⟨?_, ?_, keep_app hle⟩
    · rw [hf]; rfl
    · rw [hf]
      intro _
      rw [List.append_nil]
      exact ⟨c1, c2, c3, c4, P⟩
  · have hz : 0 < (ls.map fun x => Sv x).length := by rw [hml]; exact List.length_pos_iff.2 h0
    obtain ⟨t1, rfl⟩ : ∃ t, c1 = .sl 1 (ls.map fun x => Sv x) (some t) := tipC_some P.h1 (by simpa using h0)
    by_cases hu : (unfoldF ls).2 = 0
    · cases fu
      · have hf : flushP ⟨ls, fr, false, its, bk, fs, rc⟩ = (none, ⟨[], fr, false, its, bk, fs ++ [(unfoldF ls).1], rc⟩) := by
          unfold flushP
          rw [if_neg h0, if_neg (by simp [hu]), if_neg (by simp)]
        rw [hf]
        have hfl : fs.length < 1000000 := Nat.lt_of_le_of_lt hB.fields (by have := hB.small; omega)
        have hmf : (fs.map fldA).length = fs.length := by simp
        repeat' (first
          | apply awp_seq
          | apply awp_block
          | apply awp_region
          | apply aops_nil
          | apply aops_move
          | apply aops_assign
          | (apply aops_extract; exact rfl; exact rfl)
          | (apply aops_cmpI; exact rfl; exact rfl; exact rfl)
          | (apply awp_cond_any; exact rfl; first | (apply cd_dt; (first | assumption | omega)) | (apply cd_df; (first | assumption | omega)) | (apply cd_nt; (first | exact rfl | assumption)) | (apply cd_nf; (first | exact rfl | assumption)) | (apply cd_n <;> intro h) | (apply cd_t; (first | exact rfl | assumption)) | (apply cd_f; (first | exact rfl | assumption)) | (apply cd_d <;> intro h) | (apply cd_s <;> intro h))
          | (apply aops_lenL; exact rfl; exact rfl; exact rfl; exact rfl)
          | (apply aops_nilNeNil; exact rfl; exact rfl)
          | (apply aops_alloc; exact rfl; exact rfl)
          | (apply aops_fieldAddr_bx; exact rfl; exact rfl; exact rfl)
          | (apply aops_store_loc; exact rfl; exact rfl; exact rfl; exact rfl; exact rfl; exact rfl; exact rfl; exact rfl; exact rfl; exact rfl; exact rfl)
          | (apply aops_nilCheck; exact rfl; exact rfl)
          | apply awp_skip
          | (apply aops_call1; exact Tryz.call166; exact unfoldT0_c _ _ _ hB.ls hu)
          | (apply aops_load_bx; exact rfl; exact get_pre' hob; exact rfl; exact rfl))
        have P2 := P.pre (l := [.cells 0 58 (fldA (unfoldF ls).1).cells])
        have hl2 : b ≤ (st ++ [AObj.cells 0 58 (fldA (unfoldF ls).1).cells]).length := P2.le
        have hol : o < (st ++ [AObj.cells 0 58 (fldA (unfoldF ls).1).cells]).length := by omega
        have hob2 := get_pre' (l := [AObj.cells 0 58 (fldA (unfoldF ls).1).cells]) hob
        refine awp_cut (fun s => s.df = [] ∧ Par b o ⟨[], fr, false, its, bk, fs ++ [(unfoldF ls).1], rc⟩ s.st ∧ Keep b o st s.st) ?_ ?_
        · refine awp_drawZ rfl rfl ?_
          (apply az_take 0; exact rfl; kernel_rfl; kernel_rfl; kernel_rfl; exact rfl; exact ay_move)
          (apply az_take 1; exact rfl; kernel_rfl; kernel_rfl; kernel_rfl; exact rfl; exact ay_move)
          (apply az_take 2; exact rfl; kernel_rfl; kernel_rfl; kernel_rfl; exact rfl; exact ay_move)
          (apply az_take 3; exact rfl; kernel_rfl; kernel_rfl; kernel_rfl; exact rfl; (apply ay_nilCheck; exact rfl; exact rfl))
          (apply az_take 4; exact rfl; kernel_rfl; kernel_rfl; kernel_rfl; exact rfl; (first | (apply ay_fieldAddr_bx; exact rfl; exact rfl; exact rfl) | (apply ay_fieldAddr_pp; exact rfl; exact rfl; exact rfl; exact rfl)))
          refine az_all [5, 6] (by kernel_rfl) rfl ⟨⟨_, rfl, ?_⟩, ⟨_, rfl, ?_⟩, trivial⟩
          · (first | (apply aops_load_bx; exact rfl; exact hob2; exact rfl; exact rfl) | (apply aops_load_mid; exact rfl; exact rfl; exact rfl; exact rfl; exact rfl) | (apply aops_load_loc; exact rfl; exact rfl; exact rfl; exact rfl; exact rfl) | (apply aops_load_pp; exact rfl; exact rfl; exact rfl))
            apply aops_nil
            refine az_all [6] (by kernel_rfl) rfl ⟨⟨_, rfl, ?_⟩, trivial⟩
            (first | (apply aops_load_bx; exact rfl; exact hob2; exact rfl; exact rfl) | (apply aops_load_mid; exact rfl; exact rfl; exact rfl; exact rfl; exact rfl) | (apply aops_load_loc; exact rfl; exact rfl; exact rfl; exact rfl; exact rfl) | (apply aops_load_pp; exact rfl; exact rfl; exact rfl))
            apply aops_nil
            refine az_all [7] (by kernel_rfl) rfl ⟨⟨_, rfl, ?_⟩, trivial⟩
            (apply aops_buildSlice; exact rfl; exact rfl; exact rfl; exact rfl; exact rfl; exact rfl; exact rfl; exact rfl; exact rfl)
            apply aops_nil
            refine az_all [8] (by kernel_rfl) rfl ⟨⟨_, rfl, ?_⟩, trivial⟩
            (apply aops_appendT (b := b) (xs := fs.map fldA) (ys := [fldA (unfoldF ls).1]) (bytes := 32); exact rfl; exact rfl; exact P2.h4; exact hl2; exact rfl; exact rfl; exact rfl; exact ⟨⟨_, _, rfl, rfl, rfl, rfl, rfl⟩⟩; exact rfl; (simp [maxLen]; omega); (simp; omega); intro t4 st4 g1 g2 g3 g4; have ho4 := (g3.same o (by omega) hol).trans hob2)
            apply aops_nil
            (apply az_take 9; exact rfl; kernel_rfl; kernel_rfl; kernel_rfl; exact rfl; (apply ay_nilCheck; exact rfl; exact rfl))
            (apply az_take 10; exact rfl; kernel_rfl; kernel_rfl; kernel_rfl; exact rfl; (first | (apply ay_fieldAddr_bx; exact rfl; exact rfl; exact rfl) | (apply ay_fieldAddr_pp; exact rfl; exact rfl; exact rfl; exact rfl)))
            refine az_all [11] (by kernel_rfl) rfl ⟨⟨_, rfl, ?_⟩, trivial⟩
            (first | (apply aops_store_at; exact rfl; exact rfl; exact ho4; exact rfl; exact rfl; exact rfl; exact rfl; exact rfl; exact rfl) | (apply aops_store_at; exact rfl; exact rfl; exact get_set ho4; exact rfl; exact rfl; exact rfl; exact rfl; exact rfl; exact rfl) | (apply aops_store_mid; exact rfl; exact rfl; exact rfl; exact rfl; exact rfl; exact rfl; exact rfl; exact rfl; exact rfl; exact rfl; exact rfl) | (apply aops_store_loc; exact rfl; exact rfl; exact rfl; exact rfl; exact rfl; exact rfl; exact rfl; exact rfl; exact rfl; exact rfl; exact rfl))
            apply aops_nil
            (apply az_take 12; exact rfl; kernel_rfl; kernel_rfl; kernel_rfl; exact rfl; (apply ay_nilCheck; exact rfl; exact rfl))
            (apply az_take 13; exact rfl; kernel_rfl; kernel_rfl; kernel_rfl; exact rfl; (first | (apply ay_fieldAddr_bx; exact rfl; exact rfl; exact rfl) | (apply ay_fieldAddr_pp; exact rfl; exact rfl; exact rfl; exact rfl)))
            (apply az_take 14; exact rfl; kernel_rfl; kernel_rfl; kernel_rfl; exact rfl; (first | (apply ay_fieldAddr_bx; exact rfl; exact rfl; exact rfl) | (apply ay_fieldAddr_pp; exact rfl; exact rfl; exact rfl; exact rfl)))
            refine az_all [15] (by kernel_rfl) rfl ⟨⟨_, rfl, ?_⟩, trivial⟩
            (first | (apply aops_store_at; exact rfl; exact rfl; exact ho4; exact rfl; exact rfl; exact rfl; exact rfl; exact rfl; exact rfl) | (apply aops_store_at; exact rfl; exact rfl; exact get_set ho4; exact rfl; exact rfl; exact rfl; exact rfl; exact rfl; exact rfl) | (apply aops_store_mid; exact rfl; exact rfl; exact rfl; exact rfl; exact rfl; exact rfl; exact rfl; exact rfl; exact rfl; exact rfl; exact rfl) | (apply aops_store_loc; exact rfl; exact rfl; exact rfl; exact rfl; exact rfl; exact rfl; exact rfl; exact rfl; exact rfl; exact rfl; exact rfl))
            apply aops_nil
            refine az_done (by kernel_rfl) ?_
            exact ⟨rfl, par_flush P2 g1 g2 g3 g4, ((keep_app hle).trans (keep_fr g3 hl2 g2 P2.h4 g4)).trans (keep_set.trans keep_set)⟩
          · (first | (apply aops_load_bx; exact rfl; exact hob2; exact rfl; exact rfl) | (apply aops_load_mid; exact rfl; exact rfl; exact rfl; exact rfl; exact rfl) | (apply aops_load_loc; exact rfl; exact rfl; exact rfl; exact rfl; exact rfl) | (apply aops_load_pp; exact rfl; exact rfl; exact rfl))
            apply aops_nil
            refine az_all [5, 7] (by kernel_rfl) rfl ⟨⟨_, rfl, ?_⟩, ⟨_, rfl, ?_⟩, trivial⟩
            · (first | (apply aops_load_bx; exact rfl; exact hob2; exact rfl; exact rfl) | (apply aops_load_mid; exact rfl; exact rfl; exact rfl; exact rfl; exact rfl) | (apply aops_load_loc; exact rfl; exact rfl; exact rfl; exact rfl; exact rfl) | (apply aops_load_pp; exact rfl; exact rfl; exact rfl))
              apply aops_nil
              refine az_all [7] (by kernel_rfl) rfl ⟨⟨_, rfl, ?_⟩, trivial⟩
              (apply aops_buildSlice; exact rfl; exact rfl; exact rfl; exact rfl; exact rfl; exact rfl; exact rfl; exact rfl; exact rfl)
              apply aops_nil
              refine az_all [8] (by kernel_rfl) rfl ⟨⟨_, rfl, ?_⟩, trivial⟩
              (apply aops_appendT (b := b) (xs := fs.map fldA) (ys := [fldA (unfoldF ls).1]) (bytes := 32); exact rfl; exact rfl; exact P2.h4; exact hl2; exact rfl; exact rfl; exact rfl; exact ⟨⟨_, _, rfl, rfl, rfl, rfl, rfl⟩⟩; exact rfl; (simp [maxLen]; omega); (simp; omega); intro t4 st4 g1 g2 g3 g4; have ho4 := (g3.same o (by omega) hol).trans hob2)
              apply aops_nil
              (apply az_take 9; exact rfl; kernel_rfl; kernel_rfl; kernel_rfl; exact rfl; (apply ay_nilCheck; exact rfl; exact rfl))
              (apply az_take 10; exact rfl; kernel_rfl; kernel_rfl; kernel_rfl; exact rfl; (first | (apply ay_fieldAddr_bx; exact rfl; exact rfl; exact rfl) | (apply ay_fieldAddr_pp; exact rfl; exact rfl; exact rfl; exact rfl)))
              refine az_all [11] (by kernel_rfl) rfl ⟨⟨_, rfl, ?_⟩, trivial⟩
              (first | (apply aops_store_at; exact rfl; exact rfl; exact ho4; exact rfl; exact rfl; exact rfl; exact rfl; exact rfl; exact rfl) | (apply aops_store_at; exact rfl; exact rfl; exact get_set ho4; exact rfl; exact rfl; exact rfl; exact rfl; exact rfl; exact rfl) | (apply aops_store_mid; exact rfl; exact rfl; exact rfl; exact rfl; exact rfl; exact rfl; exact rfl; exact rfl; exact rfl; exact rfl; exact rfl) | (apply aops_store_loc; exact rfl; exact rfl; exact rfl; exact rfl; exact rfl; exact rfl; exact rfl; exact rfl; exact rfl; exact rfl; exact rfl))
              apply aops_nil
              (apply az_take 12; exact rfl; kernel_rfl; kernel_rfl; kernel_rfl; exact rfl; (apply ay_nilCheck; exact rfl; exact rfl))
              (apply az_take 13; exact rfl; kernel_rfl; kernel_rfl; kernel_rfl; exact rfl; (first | (apply ay_fieldAddr_bx; exact rfl; exact rfl; exact rfl) | (apply ay_fieldAddr_pp; exact rfl; exact rfl; exact rfl; exact rfl)))
              (apply az_take 14; exact rfl; kernel_rfl; kernel_rfl; kernel_rfl; exact rfl; (first | (apply ay_fieldAddr_bx; exact rfl; exact rfl; exact rfl) | (apply ay_fieldAddr_pp; exact rfl; exact rfl; exact rfl; exact rfl)))
              refine az_all [15] (by kernel_rfl) rfl ⟨⟨_, rfl, ?_⟩, trivial⟩
              (first | (apply aops_store_at; exact rfl; exact rfl; exact ho4; exact rfl; exact rfl; exact rfl; exact rfl; exact rfl; exact rfl) | (apply aops_store_at; exact rfl; exact rfl; exact get_set ho4; exact rfl; exact rfl; exact rfl; exact rfl; exact rfl; exact rfl) | (apply aops_store_mid; exact rfl; exact rfl; exact rfl; exact rfl; exact rfl; exact rfl; exact rfl; exact rfl; exact rfl; exact rfl; exact rfl) | (apply aops_store_loc; exact rfl; exact rfl; exact rfl; exact rfl; exact rfl; exact rfl; exact rfl; exact rfl; exact rfl; exact rfl; exact rfl))
              apply aops_nil
              refine az_done (by kernel_rfl) ?_
              exact ⟨rfl, par_flush P2 g1 g2 g3 g4, ((keep_app hle).trans (keep_fr g3 hl2 g2 P2.h4 g4)).trans (keep_set.trans keep_set)⟩
            · (apply aops_buildSlice; exact rfl; exact rfl; exact rfl; exact rfl; exact rfl; exact rfl; exact rfl; exact rfl; exact rfl)
              apply aops_nil
              refine az_all [5] (by kernel_rfl) rfl ⟨⟨_, rfl, ?_⟩, trivial⟩
              (first | (apply aops_load_bx; exact rfl; exact hob2; exact rfl; exact rfl) | (apply aops_load_mid; exact rfl; exact rfl; exact rfl; exact rfl; exact rfl) | (apply aops_load_loc; exact rfl; exact rfl; exact rfl; exact rfl; exact rfl) | (apply aops_load_pp; exact rfl; exact rfl; exact rfl))
              apply aops_nil
              refine az_all [8] (by kernel_rfl) rfl ⟨⟨_, rfl, ?_⟩, trivial⟩
              (apply aops_appendT (b := b) (xs := fs.map fldA) (ys := [fldA (unfoldF ls).1]) (bytes := 32); exact rfl; exact rfl; exact P2.h4; exact hl2; exact rfl; exact rfl; exact rfl; exact ⟨⟨_, _, rfl, rfl, rfl, rfl, rfl⟩⟩; exact rfl; (simp [maxLen]; omega); (simp; omega); intro t4 st4 g1 g2 g3 g4; have ho4 := (g3.same o (by omega) hol).trans hob2)
              apply aops_nil
              (apply az_take 9; exact rfl; kernel_rfl; kernel_rfl; kernel_rfl; exact rfl; (apply ay_nilCheck; exact rfl; exact rfl))
              (apply az_take 10; exact rfl; kernel_rfl; kernel_rfl; kernel_rfl; exact rfl; (first | (apply ay_fieldAddr_bx; exact rfl; exact rfl; exact rfl) | (apply ay_fieldAddr_pp; exact rfl; exact rfl; exact rfl; exact rfl)))
              refine az_all [11] (by kernel_rfl) rfl ⟨⟨_, rfl, ?_⟩, trivial⟩
              (first | (apply aops_store_at; exact rfl; exact rfl; exact ho4; exact rfl; exact rfl; exact rfl; exact rfl; exact rfl; exact rfl) | (apply aops_store_at; exact rfl; exact rfl; exact get_set ho4; exact rfl; exact rfl; exact rfl; exact rfl; exact rfl; exact rfl) | (apply aops_store_mid; exact rfl; exact rfl; exact rfl; exact rfl; exact rfl; exact rfl; exact rfl; exact rfl; exact rfl; exact rfl; exact rfl) | (apply aops_store_loc; exact rfl; exact rfl; exact rfl; exact rfl; exact rfl; exact rfl; exact rfl; exact rfl; exact rfl; exact rfl; exact rfl))
              apply aops_nil
              (apply az_take 12; exact rfl; kernel_rfl; kernel_rfl; kernel_rfl; exact rfl; (apply ay_nilCheck; exact rfl; exact rfl))
              (apply az_take 13; exact rfl; kernel_rfl; kernel_rfl; kernel_rfl; exact rfl; (first | (apply ay_fieldAddr_bx; exact rfl; exact rfl; exact rfl) | (apply ay_fieldAddr_pp; exact rfl; exact rfl; exact rfl; exact rfl)))
              (apply az_take 14; exact rfl; kernel_rfl; kernel_rfl; kernel_rfl; exact rfl; (first | (apply ay_fieldAddr_bx; exact rfl; exact rfl; exact rfl) | (apply ay_fieldAddr_pp; exact rfl; exact rfl; exact rfl; exact rfl)))
              refine az_all [15] (by kernel_rfl) rfl ⟨⟨_, rfl, ?_⟩, trivial⟩
              (first | (apply aops_store_at; exact rfl; exact rfl; exact ho4; exact rfl; exact rfl; exact rfl; exact rfl; exact rfl; exact rfl) | (apply aops_store_at; exact rfl; exact rfl; exact get_set ho4; exact rfl; exact rfl; exact rfl; exact rfl; exact rfl; exact rfl) | (apply aops_store_mid; exact rfl; exact rfl; exact rfl; exact rfl; exact rfl; exact rfl; exact rfl; exact rfl; exact rfl; exact rfl; exact rfl) | (apply aops_store_loc; exact rfl; exact rfl; exact rfl; exact rfl; exact rfl; exact rfl; exact rfl; exact rfl; exact rfl; exact rfl; exact rfl))
              apply aops_nil
              refine az_done (by kernel_rfl) ?_
              exact ⟨rfl, par_flush P2 g1 g2 g3 g4, ((keep_app hle).trans (keep_fr g3 hl2 g2 P2.h4 g4)).trans (keep_set.trans keep_set)⟩
        · rintro ⟨t2, st2, df2⟩ ⟨hd, hp, hk⟩
          simp only at hd hp hk
          subst hd
          repeat' (first
            | apply awp_seq
            | apply awp_region
            | apply aops_nil
            | apply aops_assign
            | apply awp_ret)
          exact aret_plain rfl (ares_one rfl) ⟨rfl, fun _ => hp, hk⟩
      · have hf : flushP ⟨ls, fr, true, its, bk, fs, rc⟩ = (some (fr, 11), ⟨ls, fr, true, its, bk, fs, rc⟩) := by
          unfold flushP
          rw [if_neg h0, if_neg (by simp [hu]), if_pos rfl]
        rw [hf]
        repeat' (first
          | apply awp_seq
          | apply awp_block
          | apply awp_region
          | apply aops_nil
          | apply aops_move
          | apply aops_assign
          | (apply aops_extract; exact rfl; exact rfl)
          | (apply aops_cmpI; exact rfl; exact rfl; exact rfl)
          | (apply awp_cond_any; exact rfl; first | (apply cd_dt; (first | assumption | omega)) | (apply cd_df; (first | assumption | omega)) | (apply cd_nt; (first | exact rfl | assumption)) | (apply cd_nf; (first | exact rfl | assumption)) | (apply cd_n <;> intro h) | (apply cd_t; (first | exact rfl | assumption)) | (apply cd_f; (first | exact rfl | assumption)) | (apply cd_d <;> intro h) | (apply cd_s <;> intro h))
          | (apply aops_lenL; exact rfl; exact rfl; exact rfl; exact rfl)
          | (apply aops_nilNeNil; exact rfl; exact rfl)
          | (apply aops_makeInterface; exact rfl; exact rfl)
          | (apply aops_alloc; exact rfl; exact rfl)
          | (apply aops_fieldAddr_bx; exact rfl; exact rfl; exact rfl)
          | (apply aops_store_loc; exact rfl; exact rfl; exact rfl; exact rfl; exact rfl; exact rfl; exact rfl; exact rfl; exact rfl; exact rfl; exact rfl)
          | (apply aops_nilCheck; exact rfl; exact rfl)
          | apply awp_skip
          | apply awp_ret
          | (apply aops_call1; exact Tryz.call166; exact unfoldT0_c _ _ _ hB.ls hu)
          | (apply aops_call1; exact Tryz.call141; exact pfault_c _ _ _)
          | (apply aops_load_bx; exact rfl; exact get_pre' hob; exact rfl; exact rfl))
        exact aret_plain rfl (ares_one rfl) ⟨rfl, nofun, keep_app hle⟩
    · have hf : flushP ⟨ls, fr, fu, its, bk, fs, rc⟩ = (some (fr, (unfoldF ls).2), ⟨ls, fr, fu, its, bk, fs, rc⟩) := by
        unfold flushP
        rw [if_neg h0, if_pos hu]
      rw [hf]
      repeat' (first
        | apply awp_seq
        | apply awp_block
        | apply awp_region
        | apply aops_nil
        | apply aops_move
        | apply aops_assign
        | (apply aops_extract; exact rfl; exact rfl)
        | (apply aops_cmpI; exact rfl; exact rfl; exact rfl)
        | (apply awp_cond_any; exact rfl; first | (apply cd_dt; (first | assumption | omega)) | (apply cd_df; (first | assumption | omega)) | (apply cd_nt; (first | exact rfl | assumption)) | (apply cd_nf; (first | exact rfl | assumption)) | (apply cd_n <;> intro h) | (apply cd_t; (first | exact rfl | assumption)) | (apply cd_f; (first | exact rfl | assumption)) | (apply cd_d <;> intro h) | (apply cd_s <;> intro h))
        | (apply aops_lenL; exact rfl; exact rfl; exact rfl; exact rfl)
        | (apply aops_errNeNil; exact rfl; exact rfl)
        | (apply aops_alloc; exact rfl; exact rfl)
        | (apply aops_fieldAddr_bx; exact rfl; exact rfl; exact rfl)
        | (apply aops_store_loc; exact rfl; exact rfl; exact rfl; exact rfl; exact rfl; exact rfl; exact rfl; exact rfl; exact rfl; exact rfl; exact rfl)
        | (apply aops_nilCheck; exact rfl; exact rfl)
        | apply awp_skip
        | apply awp_ret
        | (apply aops_call1; exact Tryz.call166; exact unfoldT1_c _ _ _ hB.ls hu)
        | (apply aops_call1; exact Tryz.call141; exact pfault_c _ _ _)
        | (apply aops_load_bx; exact rfl; exact get_pre' hob; exact rfl; exact rfl))
      exact aret_plain rfl (ares_one rfl) ⟨rfl, nofun, keep_app hle⟩
end Go.Proofs.YtplagcbifecagaaGreatDoor
set_option maxRecDepth 100000
set_option linter.unusedVariables false
namespace Go.Pl
open Go Go.Proofs
def closeP (p : PSt) : PSt :=
  if p.block = [] then { p with block := [], fields := [] }
  else { p with items := p.items ++ [⟨if p.fields = [] then 2 else 3, textF p.block, p.fields⟩], records := if p.fields = [] then p.records else p.records + 1, block := [], fields := [] }
def endP (p : PSt) : Option (Int × Int) × PSt := match (flushP p).1 with
  | some e => (some e, p)
  | none => (none, closeP (flushP p).2)
theorem join_text : ∀ (x : Bytes) (r : List Bytes), Lib.join (x :: r) [10] ++ [10] = textF (x :: r)
  | x, [] => by rw [Lib.join_one]; simp [textF]
  | x, y :: r => by
    have ih := join_text y r
    rw [Lib.join_cons] at ih ⊢
    unfold Lib.joinTail at ih ⊢
    simp only [List.map_cons, List.flatten_cons, textF, List.flatMap_cons] at ih ⊢
    rw [← ih]
    simp
theorem textF_lenB : ∀ (r : List Bytes), (∀ s ∈ r, s.length < 1000000) → (textF r).length ≤ 1000001 * r.length
  | [], _ => by simp [textF]
  | a :: r, h => by
    have ih := textF_lenB r fun s hs => h s (by simp [hs])
    have ha := h a (by simp)
    simp only [textF, List.flatMap_cons, List.length_append, List.length_cons, List.length_nil] at ih ⊢
    omega
end Go.Pl
namespace Go.Proofs.YtplagcbifecagaaGreatDoor
open Go Go.Av Go.RowKit Go.Proofs Go.Pl
theorem weak_tipC {b : Nat} {st : List AObj} {sz : Nat} {T : TypeId} {xs : List AV} {c : AV} (h : TipC b st sz T xs c) : ∀ G v, Rel G c v → Rel G (.sl sz xs none) v := by
  rcases h with ⟨rfl, rfl⟩ | ⟨t, rfl, _⟩
  · exact fun G v h => rel_nilSl h
  · exact fun G v h => rel_noTip h
theorem flushP_pb {n : Nat} {p : PSt} (h : PB n p) (hs : n + 1 < 900000) : PB (n + 1) (flushP p).2 := by
  have h1 := h.lines; have h2 := h.items; have h3 := h.block; have h4 := h.fields; have h5 := h.rec0; have h6 := h.rec1
  unfold flushP
  split
  · exact ⟨hs, by simp only; omega, h.linesV, by simp only; omega, by simp only; omega, h.blockV, by simp only; omega, h5, by simp only; omega⟩
  · split
    · exact ⟨hs, by simp only; omega, h.linesV, by simp only; omega, by simp only; omega, h.blockV, by simp only; omega, h5, by simp only; omega⟩
    · split
      · exact ⟨hs, by simp only; omega, h.linesV, by simp only; omega, by simp only; omega, h.blockV, by simp only; omega, h5, by simp only; omega⟩
      · exact ⟨hs, by simp, by simp, by simp only; omega, by simp only; omega, h.blockV, by simp; omega, h5, by simp only; omega⟩
theorem errP_some {x : Option (Int × Int)} {a n : Int} (h : x = some (a, n)) : errP x = .ifc 92 (.pp [Iv a, .ifc 31 (Iv n)]) := by subst h; rfl
theorem joinB_c (xs : List Bytes) (tip : Option Nat) (st : List AObj) (hne : xs ≠ []) (hN : xs.length ≤ 900000) (hv : ∀ s ∈ xs, s.length < 1000000) : ACall E 80 [.sl 1 (xs.map fun x => Sv x) tip, Sv [10]] st fun r st' => r = Sv (Lib.join xs [10]) ∧ st' = st := by
  refine join_c xs tip [10] st (by omega) ?_
  have h1 := textF_lenB xs hv
  cases xs with
  | nil => exact absurd rfl hne
  | cons x r =>
    have h2 := congrArg List.length (join_text x r)
    rw [List.length_append] at h2
    simp only [List.length_cons, List.length_nil] at h2 h1 hN
    omega
theorem par_clear {b o : Nat} {p : PSt} {st : List AObj} {c1 c2 c3 c4 : AV} {X : AObj} (P : ParS b o p st c1 c2 c3 c4) : Par b o { p with block := [], fields := [] } ((st.set o X).set o (parO c1 c2 nilSl nilSl p)) := by
  have hlt := P.lt
  have hle := P.le
  refine ⟨c1, c2, nilSl, nilSl, hlt, by simp; omega, ?_, tipC_set hlt (tipC_set hlt P.h1), tipC_set hlt (tipC_set hlt P.h2), tipC_nil .., tipC_nil .., nofun⟩
  have : o < st.length := by omega
  simp [this]
theorem par_items {b o t : Nat} {p : PSt} {x : ItemV} {st st' : List AObj} {c1 c2 c3 c4 : AV} (P : ParS b o p st c1 c2 c3 c4) (g1 : st'[t]? = some (.tip (p.items.map itemA ++ [itemA x]).length 3 144)) (g2 : b ≤ t) (g3 : Fr st st' t) (g4 : c2 = .sl 3 (p.items.map itemA) (some t) ∨ st.length ≤ t) :
    Par b o { p with items := p.items ++ [x] } (st'.set o (parO c1 (.sl 3 (p.items.map itemA ++ [itemA x]) (some t)) c3 c4 p)) := by
  have hlt := P.lt
  have hle := P.le
  have hl := g3.len
  have e : (p.items ++ [x]).map itemA = p.items.map itemA ++ [itemA x] := by simp
  refine ⟨c1, .sl 3 (p.items.map itemA ++ [itemA x]) (some t), c3, c4, hlt, by simp; omega, ?_, ?_, ?_, ?_, ?_, P.ne⟩
  · have : o < st'.length := by omega
    simp [this]
  · exact tipC_set hlt (tipC_other g3 P.h2 g4 rfl P.h1)
  · refine tipC_set hlt ?_
    rw [← e] at g1 ⊢
    exact tipC_new hlt g1 g2
  · exact tipC_set hlt (tipC_other g3 P.h2 g4 rfl P.h3)
  · exact tipC_set hlt (tipC_other g3 P.h2 g4 rfl P.h4)
theorem par_rec {b o : Nat} {p : PSt} {st : List AObj} {c1 c2 c3 c4 : AV} (P : ParS b o p st c1 c2 c3 c4) (n : Int) : ParS b o { p with records := n } (st.set o (parO c1 c2 c3 c4 { p with records := n })) c1 c2 c3 c4 := by
  have hlt := P.lt
  have hle := P.le
  exact ⟨hlt, by simp; omega, by have : o < st.length := by omega
                                 simp [this], tipC_set hlt P.h1, tipC_set hlt P.h2, tipC_set hlt P.h3, tipC_set hlt P.h4, P.ne⟩
set_option maxHeartbeats 8000000 in
theorem pend_c (b o n : Nat) (p : PSt) (st : List AObj) (h : Par b o p st) (hB : PB n p) (hs : n + 1 < 900000) : ACall E 106 [.bx o 0 0] st fun r st' => r = errP (endP p).1 ∧ ((endP p).1 = none → Par b o (endP p).2 st') ∧ Keep b o st st' := by
  refine acall_of_awp Tryz.func106 rfl (Nat.le_of_ble_eq_true rfl) ?_
  rw [List.append_nil]
  repeat' (first
    | apply awp_seq
    | apply awp_region
    | apply aops_nil
    | apply aops_move
    | apply aops_assign)
  refine aops_call Tryz.call143 ((flush_c b o p st n h hB).mono ?_)
  rintro _ st1 ⟨rfl, hp, hk⟩
  have hB1 := flushP_pb hB hs
  cases hfl : (flushP p).1 with
  | some e =>
    obtain ⟨a, m⟩ := e
    have he : endP p = (some (a, m), p) := by unfold endP; rw [hfl]
    rw [errP_some rfl, he]
    repeat' (first
      | apply awp_seq
      | apply awp_region
      | apply aops_nil
      | apply aops_move
      | apply aops_assign
      | (apply awp_cond_any; exact rfl; first | (apply cd_dt; (first | assumption | omega)) | (apply cd_df; (first | assumption | omega)) | (apply cd_nt; (first | exact rfl | assumption)) | (apply cd_nf; (first | exact rfl | assumption)) | (apply cd_n <;> intro h) | (apply cd_t; (first | exact rfl | assumption)) | (apply cd_f; (first | exact rfl | assumption)) | (apply cd_d <;> intro h) | (apply cd_s <;> intro h))
      | (apply aops_errNeNil; exact rfl; exact rfl)
      | apply awp_ret)
    exact aret_plain rfl (ares_one rfl) ⟨rfl, nofun, hk⟩
  | none =>
    have he : endP p = (none, closeP (flushP p).2) := by unfold endP; rw [hfl]
    rw [he]
    have hp := hp hfl
    generalize (flushP p).2 = p1 at hp hB1
    obtain ⟨c1, c2, c3, c4, P⟩ := hp
    obtain ⟨ls, fr, fu, its, bk, fs, rc⟩ := p1
    have hob : st1[o]? = some (.cells 0 140 [c1, Iv fr, Bv fu, c2, c3, c4, Iv rc]) := P.ob
    have hl3 : lenA c3 = some (bk.map fun x => Sv x).length := tipC_len P.h3
    have hl4 : lenA c4 = some (fs.map fldA).length := tipC_len P.h4
    have hle := P.le
    have hlt := P.lt
    show AOps _ _ _ _ _ _ _
    by_cases hbk : bk = []
    · have hz : (bk.map fun x => Sv x).length = 0 := by rw [hbk]; rfl
      have hcl : closeP ⟨ls, fr, fu, its, bk, fs, rc⟩ = ⟨ls, fr, fu, its, [], [], rc⟩ := if_pos hbk
      repeat' (first
        | apply awp_seq
        | apply awp_region
        | apply aops_nil
        | apply aops_move
        | apply aops_assign
        | (apply aops_cmpI; exact rfl; exact rfl; exact rfl)
        | (apply awp_cond_any; exact rfl; first | (apply cd_dt; (first | assumption | omega)) | (apply cd_df; (first | assumption | omega)) | (apply cd_nt; (first | exact rfl | assumption)) | (apply cd_nf; (first | exact rfl | assumption)) | (apply cd_n <;> intro h) | (apply cd_t; (first | exact rfl | assumption)) | (apply cd_f; (first | exact rfl | assumption)) | (apply cd_d <;> intro h) | (apply cd_s <;> intro h))
        | (apply aops_nilNeNil; exact rfl; exact rfl)
        | (apply aops_fieldAddr_bx; exact rfl; exact rfl; exact rfl)
        | (apply aops_nilCheck; exact rfl; exact rfl)
        | apply awp_skip
        | apply awp_ret
        | (apply aops_load_bx; exact rfl; exact hob; exact rfl; exact rfl)
        | (apply aops_lenL; exact rfl; exact hl3; exact rfl; exact rfl)
        | (apply aops_store_at; exact rfl; exact rfl; exact hob; exact rfl; exact rfl; exact rfl; exact rfl; exact rfl; exact rfl)
        | (apply aops_store_at; exact rfl; exact rfl; exact get_set hob; exact rfl; exact rfl; exact rfl; exact rfl; exact rfl; exact rfl))
      refine aret_plain rfl (ares_one rfl) ⟨rfl, fun _ => ?_, hk.trans (keep_set.trans keep_set)⟩
      rw [hcl]
      exact par_clear P
    · have hz : 0 < (bk.map fun x => Sv x).length := by rw [List.length_map]; exact List.length_pos_iff.2 hbk
      obtain ⟨x0, r0, hxr⟩ : ∃ x r, bk = x :: r := by cases bk with | nil => exact absurd rfl hbk | cons x r => exact ⟨x, r, rfl⟩
      have hjt : Lib.join bk [10] ++ [10] = textF bk := by rw [hxr]; exact join_text x0 r0
      have hbn : bk.length ≤ n + 1 := hB1.block
      have hbv : ∀ s ∈ bk, s.length < 1000000 := hB1.blockV
      have htl := textF_lenB bk hbv
      have hjl : (Lib.join bk [10]).length ≤ 1000001 * bk.length := by
        have := congrArg List.length hjt
        rw [List.length_append] at this
        omega
      have hin : its.length ≤ n + 1 := hB1.items
      have hr0 : 0 ≤ rc := hB1.rec0
      have hr1 : rc ≤ ((n + 1 : Nat) : Int) := hB1.rec1
      have hil : (its.map itemA).length = its.length := by simp
      obtain ⟨t3, rfl⟩ : ∃ t, c3 = .sl 1 (bk.map fun x => Sv x) (some t) := tipC_some P.h3 (by simpa using hbk)
      by_cases hfs : fs = []
      · have hz4 : (fs.map fldA).length = 0 := by rw [hfs]; rfl
        have hcl : closeP ⟨ls, fr, fu, its, bk, fs, rc⟩ = ⟨ls, fr, fu, its ++ [⟨2, Lib.join bk [10] ++ [10], fs⟩], [], [], rc⟩ := by
          unfold closeP
          rw [if_neg hbk, hjt]
          simp [hfs]
        repeat' (first
          | apply awp_seq
          | apply awp_region
          | apply aops_nil
          | apply aops_move
          | apply aops_assign
          | (apply aops_cmpI; exact rfl; exact rfl; exact rfl)
          | (apply awp_cond_any; exact rfl; first | (apply cd_dt; (first | assumption | omega)) | (apply cd_df; (first | assumption | omega)) | (apply cd_nt; (first | exact rfl | assumption)) | (apply cd_nf; (first | exact rfl | assumption)) | (apply cd_n <;> intro h) | (apply cd_t; (first | exact rfl | assumption)) | (apply cd_f; (first | exact rfl | assumption)) | (apply cd_d <;> intro h) | (apply cd_s <;> intro h))
          | (apply aops_lenL; exact rfl; exact rfl; exact rfl; exact rfl)
          | (apply aops_nilNeNil; exact rfl; exact rfl)
          | (apply aops_fieldAddr_bx; exact rfl; exact rfl; exact rfl)
          | (apply aops_nilCheck; exact rfl; exact rfl)
          | apply awp_skip
          | (apply aops_load_bx; exact rfl; exact hob; exact rfl; exact rfl)
          | (apply aops_lenL; exact rfl; exact hl4; exact rfl; exact rfl))
        obtain ⟨stX, hsX⟩ : ∃ x, x = st1 := ⟨_, rfl⟩
        obtain ⟨rcX, hrX⟩ : ∃ x, x = rc := ⟨_, rfl⟩
        obtain ⟨KX, hKX⟩ : ∃ x : Int, x = 2 := ⟨_, rfl⟩
        have PX : ParS b o ⟨ls, fr, fu, its, bk, fs, rcX⟩ stX c1 c2 (.sl 1 (bk.map fun x => Sv x) (some t3)) c4 := by rw [hsX, hrX]; exact P
        have hkX : Keep b o st stX := by rw [hsX]; exact hk
        replace hcl : closeP ⟨ls, fr, fu, its, bk, fs, rc⟩ = ⟨ls, fr, fu, its ++ [⟨KX, Lib.join bk [10] ++ [10], fs⟩], [], [], rcX⟩ := by rw [hKX, hrX]; exact hcl
        refine awp_state [(0, .bx o 0 0), (4, Iv KX)] stX [] ⟨rfl, (congrArg Iv hKX).symm, trivial⟩ hsX.symm rfl fun t => ?_
        have hleX := PX.le
        have holX : o < stX.length := by omega
        have hobX : stX[o]? = some (.cells 0 140 [c1, Iv fr, Bv fu, c2, .sl 1 (bk.map fun x => Sv x) (some t3), c4, Iv rcX]) := PX.ob
        refine awp_cut (fun s => s.t 0 = .bx o 0 0 ∧ s.df = [] ∧ Par b o ⟨ls, fr, fu, its ++ [⟨KX, Lib.join bk [10] ++ [10], fs⟩], bk, fs, rcX⟩ s.st ∧ Keep b o st s.st) ?_ ?_
        · refine awp_drawZ rfl rfl ?_
          (apply az_take 0; exact rfl; kernel_rfl; kernel_rfl; kernel_rfl; exact rfl; exact ay_move)
          (apply az_take 1; exact rfl; kernel_rfl; kernel_rfl; kernel_rfl; exact rfl; exact ay_move)
          (apply az_take 2; exact rfl; kernel_rfl; kernel_rfl; kernel_rfl; exact rfl; (apply ay_nilCheck; exact rfl; exact rfl))
          (apply az_take 3; exact rfl; kernel_rfl; kernel_rfl; kernel_rfl; exact rfl; (first | (apply ay_fieldAddr_bx; exact rfl; exact rfl; exact rfl) | (apply ay_fieldAddr_pp; exact rfl; exact rfl; exact rfl; exact rfl)))
          (apply az_take 5; exact rfl; kernel_rfl; kernel_rfl; kernel_rfl; exact rfl; exact ay_move)
          (apply az_take 6; exact rfl; kernel_rfl; kernel_rfl; kernel_rfl; exact rfl; exact ay_move)
          (apply az_take 7; exact rfl; kernel_rfl; kernel_rfl; kernel_rfl; exact rfl; (apply ay_nilCheck; exact rfl; exact rfl))
          (apply az_take 8; exact rfl; kernel_rfl; kernel_rfl; kernel_rfl; exact rfl; (first | (apply ay_fieldAddr_bx; exact rfl; exact rfl; exact rfl) | (apply ay_fieldAddr_pp; exact rfl; exact rfl; exact rfl; exact rfl)))
          (apply az_take 12; exact rfl; kernel_rfl; kernel_rfl; kernel_rfl; exact rfl; exact ay_move)
          (apply az_take 13; exact rfl; kernel_rfl; kernel_rfl; kernel_rfl; exact rfl; (apply ay_nilCheck; exact rfl; exact rfl))
          (apply az_take 14; exact rfl; kernel_rfl; kernel_rfl; kernel_rfl; exact rfl; (first | (apply ay_fieldAddr_bx; exact rfl; exact rfl; exact rfl) | (apply ay_fieldAddr_pp; exact rfl; exact rfl; exact rfl; exact rfl)))
          refine az_all [4, 9, 15] (by kernel_rfl) rfl ⟨⟨_, rfl, ?_⟩, ⟨_, rfl, ?_⟩, ⟨_, rfl, ?_⟩, trivial⟩
          · (first | (apply aops_load_bx; exact rfl; exact hobX; exact rfl; exact rfl; apply aops_weak 44 rfl (weak_tipC PX.h4)) | (apply aops_load_bx; exact rfl; exact hobX; exact rfl; exact rfl) | (apply aops_load_mid; exact rfl; exact rfl; exact rfl; exact rfl; exact rfl) | (apply aops_load_loc; exact rfl; exact rfl; exact rfl; exact rfl; exact rfl) | (apply aops_load_pp; exact rfl; exact rfl; exact rfl))
            apply aops_nil
            refine az_all [9, 15] (by kernel_rfl) rfl ⟨⟨_, rfl, ?_⟩, ⟨_, rfl, ?_⟩, trivial⟩
            · (first | (apply aops_load_bx; exact rfl; exact hobX; exact rfl; exact rfl; apply aops_weak 44 rfl (weak_tipC PX.h4)) | (apply aops_load_bx; exact rfl; exact hobX; exact rfl; exact rfl) | (apply aops_load_mid; exact rfl; exact rfl; exact rfl; exact rfl; exact rfl) | (apply aops_load_loc; exact rfl; exact rfl; exact rfl; exact rfl; exact rfl) | (apply aops_load_pp; exact rfl; exact rfl; exact rfl))
              apply aops_nil
              refine az_all [10, 15] (by kernel_rfl) rfl ⟨⟨_, rfl, ?_⟩, ⟨_, rfl, ?_⟩, trivial⟩
              · (first | (refine aops_call1 Tryz.call80 (joinB_c bk _ _ hbk (by omega) hbv) ?_) | (apply aops_appendT (b := b) (xs := its.map itemA) (ys := [itemA ⟨KX, Lib.join bk [10] ++ [10], fs⟩]) (bytes := 48); exact rfl; exact rfl; exact PX.h2; exact hleX; exact rfl; exact rfl; exact rfl; exact ⟨⟨_, _, rfl, rfl, rfl, rfl, rfl⟩⟩; exact rfl; (simp [maxLen]; omega); (simp; omega); intro t4 st4 g1 g2 g3 g4; have ho4 := (g3.same o (by omega) holX).trans hobX))
                apply aops_nil
                (apply az_take 11; exact rfl; kernel_rfl; kernel_rfl; kernel_rfl; exact rfl; (apply ay_concat; exact rfl; exact rfl; (first | omega | (simp only [List.length_append, List.length_cons, List.length_nil]; omega))))
                refine az_all [15] (by kernel_rfl) rfl ⟨⟨_, rfl, ?_⟩, trivial⟩
                (first | (apply aops_load_bx; exact rfl; exact hobX; exact rfl; exact rfl; apply aops_weak 44 rfl (weak_tipC PX.h4)) | (apply aops_load_bx; exact rfl; exact hobX; exact rfl; exact rfl) | (apply aops_load_mid; exact rfl; exact rfl; exact rfl; exact rfl; exact rfl) | (apply aops_load_loc; exact rfl; exact rfl; exact rfl; exact rfl; exact rfl) | (apply aops_load_pp; exact rfl; exact rfl; exact rfl))
                apply aops_nil
                (apply az_take 16; exact rfl; kernel_rfl; kernel_rfl; kernel_rfl; exact rfl; (apply ay_build; exact rfl; exact rfl; exact rfl))
                refine az_all [17] (by kernel_rfl) rfl ⟨⟨_, rfl, ?_⟩, trivial⟩
                (apply aops_buildSlice; exact rfl; exact rfl; exact rfl; exact rfl; exact rfl; exact rfl; exact rfl; exact rfl; exact rfl)
                apply aops_nil
                refine az_all [18] (by kernel_rfl) rfl ⟨⟨_, rfl, ?_⟩, trivial⟩
                (first | (refine aops_call1 Tryz.call80 (joinB_c bk _ _ hbk (by omega) hbv) ?_) | (apply aops_appendT (b := b) (xs := its.map itemA) (ys := [itemA ⟨KX, Lib.join bk [10] ++ [10], fs⟩]) (bytes := 48); exact rfl; exact rfl; exact PX.h2; exact hleX; exact rfl; exact rfl; exact rfl; exact ⟨⟨_, _, rfl, rfl, rfl, rfl, rfl⟩⟩; exact rfl; (simp [maxLen]; omega); (simp; omega); intro t4 st4 g1 g2 g3 g4; have ho4 := (g3.same o (by omega) holX).trans hobX))
                apply aops_nil
                (apply az_take 19; exact rfl; kernel_rfl; kernel_rfl; kernel_rfl; exact rfl; (apply ay_nilCheck; exact rfl; exact rfl))
                (apply az_take 20; exact rfl; kernel_rfl; kernel_rfl; kernel_rfl; exact rfl; (first | (apply ay_fieldAddr_bx; exact rfl; exact rfl; exact rfl) | (apply ay_fieldAddr_pp; exact rfl; exact rfl; exact rfl; exact rfl)))
                refine az_all [21] (by kernel_rfl) rfl ⟨⟨_, rfl, ?_⟩, trivial⟩
                (first | (apply aops_store_at; exact rfl; exact rfl; exact ho4; exact rfl; exact rfl; exact rfl; exact rfl; exact rfl; exact rfl) | (apply aops_store_mid; exact rfl; exact rfl; exact rfl; exact rfl; exact rfl; exact rfl; exact rfl; exact rfl; exact rfl; exact rfl; exact rfl) | (apply aops_store_loc; exact rfl; exact rfl; exact rfl; exact rfl; exact rfl; exact rfl; exact rfl; exact rfl; exact rfl; exact rfl; exact rfl))
                apply aops_nil
                refine az_done (by kernel_rfl) ?_
                exact ⟨rfl, rfl, par_items PX g1 g2 g3 g4, (hkX.trans (keep_fr g3 hleX g2 PX.h2 g4)).trans keep_set⟩
              · (first | (apply aops_load_bx; exact rfl; exact hobX; exact rfl; exact rfl; apply aops_weak 44 rfl (weak_tipC PX.h4)) | (apply aops_load_bx; exact rfl; exact hobX; exact rfl; exact rfl) | (apply aops_load_mid; exact rfl; exact rfl; exact rfl; exact rfl; exact rfl) | (apply aops_load_loc; exact rfl; exact rfl; exact rfl; exact rfl; exact rfl) | (apply aops_load_pp; exact rfl; exact rfl; exact rfl))
                apply aops_nil
                refine az_all [10] (by kernel_rfl) rfl ⟨⟨_, rfl, ?_⟩, trivial⟩
                (first | (refine aops_call1 Tryz.call80 (joinB_c bk _ _ hbk (by omega) hbv) ?_) | (apply aops_appendT (b := b) (xs := its.map itemA) (ys := [itemA ⟨KX, Lib.join bk [10] ++ [10], fs⟩]) (bytes := 48); exact rfl; exact rfl; exact PX.h2; exact hleX; exact rfl; exact rfl; exact rfl; exact ⟨⟨_, _, rfl, rfl, rfl, rfl, rfl⟩⟩; exact rfl; (simp [maxLen]; omega); (simp; omega); intro t4 st4 g1 g2 g3 g4; have ho4 := (g3.same o (by omega) holX).trans hobX))
                apply aops_nil
                (apply az_take 11; exact rfl; kernel_rfl; kernel_rfl; kernel_rfl; exact rfl; (apply ay_concat; exact rfl; exact rfl; (first | omega | (simp only [List.length_append, List.length_cons, List.length_nil]; omega))))
                (apply az_take 16; exact rfl; kernel_rfl; kernel_rfl; kernel_rfl; exact rfl; (apply ay_build; exact rfl; exact rfl; exact rfl))
                refine az_all [17] (by kernel_rfl) rfl ⟨⟨_, rfl, ?_⟩, trivial⟩
                (apply aops_buildSlice; exact rfl; exact rfl; exact rfl; exact rfl; exact rfl; exact rfl; exact rfl; exact rfl; exact rfl)
                apply aops_nil
                refine az_all [18] (by kernel_rfl) rfl ⟨⟨_, rfl, ?_⟩, trivial⟩
                (first | (refine aops_call1 Tryz.call80 (joinB_c bk _ _ hbk (by omega) hbv) ?_) | (apply aops_appendT (b := b) (xs := its.map itemA) (ys := [itemA ⟨KX, Lib.join bk [10] ++ [10], fs⟩]) (bytes := 48); exact rfl; exact rfl; exact PX.h2; exact hleX; exact rfl; exact rfl; exact rfl; exact ⟨⟨_, _, rfl, rfl, rfl, rfl, rfl⟩⟩; exact rfl; (simp [maxLen]; omega); (simp; omega); intro t4 st4 g1 g2 g3 g4; have ho4 := (g3.same o (by omega) holX).trans hobX))
                apply aops_nil
                (apply az_take 19; exact rfl; kernel_rfl; kernel_rfl; kernel_rfl; exact rfl; (apply ay_nilCheck; exact rfl; exact rfl))
                (apply az_take 20; exact rfl; kernel_rfl; kernel_rfl; kernel_rfl; exact rfl; (first | (apply ay_fieldAddr_bx; exact rfl; exact rfl; exact rfl) | (apply ay_fieldAddr_pp; exact rfl; exact rfl; exact rfl; exact rfl)))
                refine az_all [21] (by kernel_rfl) rfl ⟨⟨_, rfl, ?_⟩, trivial⟩
                (first | (apply aops_store_at; exact rfl; exact rfl; exact ho4; exact rfl; exact rfl; exact rfl; exact rfl; exact rfl; exact rfl) | (apply aops_store_mid; exact rfl; exact rfl; exact rfl; exact rfl; exact rfl; exact rfl; exact rfl; exact rfl; exact rfl; exact rfl; exact rfl) | (apply aops_store_loc; exact rfl; exact rfl; exact rfl; exact rfl; exact rfl; exact rfl; exact rfl; exact rfl; exact rfl; exact rfl; exact rfl))
                apply aops_nil
                refine az_done (by kernel_rfl) ?_
                exact ⟨rfl, rfl, par_items PX g1 g2 g3 g4, (hkX.trans (keep_fr g3 hleX g2 PX.h2 g4)).trans keep_set⟩
            · (first | (apply aops_load_bx; exact rfl; exact hobX; exact rfl; exact rfl; apply aops_weak 44 rfl (weak_tipC PX.h4)) | (apply aops_load_bx; exact rfl; exact hobX; exact rfl; exact rfl) | (apply aops_load_mid; exact rfl; exact rfl; exact rfl; exact rfl; exact rfl) | (apply aops_load_loc; exact rfl; exact rfl; exact rfl; exact rfl; exact rfl) | (apply aops_load_pp; exact rfl; exact rfl; exact rfl))
              apply aops_nil
              refine az_all [9] (by kernel_rfl) rfl ⟨⟨_, rfl, ?_⟩, trivial⟩
              (first | (apply aops_load_bx; exact rfl; exact hobX; exact rfl; exact rfl; apply aops_weak 44 rfl (weak_tipC PX.h4)) | (apply aops_load_bx; exact rfl; exact hobX; exact rfl; exact rfl) | (apply aops_load_mid; exact rfl; exact rfl; exact rfl; exact rfl; exact rfl) | (apply aops_load_loc; exact rfl; exact rfl; exact rfl; exact rfl; exact rfl) | (apply aops_load_pp; exact rfl; exact rfl; exact rfl))
              apply aops_nil
              refine az_all [10] (by kernel_rfl) rfl ⟨⟨_, rfl, ?_⟩, trivial⟩
              (first | (refine aops_call1 Tryz.call80 (joinB_c bk _ _ hbk (by omega) hbv) ?_) | (apply aops_appendT (b := b) (xs := its.map itemA) (ys := [itemA ⟨KX, Lib.join bk [10] ++ [10], fs⟩]) (bytes := 48); exact rfl; exact rfl; exact PX.h2; exact hleX; exact rfl; exact rfl; exact rfl; exact ⟨⟨_, _, rfl, rfl, rfl, rfl, rfl⟩⟩; exact rfl; (simp [maxLen]; omega); (simp; omega); intro t4 st4 g1 g2 g3 g4; have ho4 := (g3.same o (by omega) holX).trans hobX))
              apply aops_nil
              (apply az_take 11; exact rfl; kernel_rfl; kernel_rfl; kernel_rfl; exact rfl; (apply ay_concat; exact rfl; exact rfl; (first | omega | (simp only [List.length_append, List.length_cons, List.length_nil]; omega))))
              (apply az_take 16; exact rfl; kernel_rfl; kernel_rfl; kernel_rfl; exact rfl; (apply ay_build; exact rfl; exact rfl; exact rfl))
              refine az_all [17] (by kernel_rfl) rfl ⟨⟨_, rfl, ?_⟩, trivial⟩
              (apply aops_buildSlice; exact rfl; exact rfl; exact rfl; exact rfl; exact rfl; exact rfl; exact rfl; exact rfl; exact rfl)
              apply aops_nil
              refine az_all [18] (by kernel_rfl) rfl ⟨⟨_, rfl, ?_⟩, trivial⟩
              (first | (refine aops_call1 Tryz.call80 (joinB_c bk _ _ hbk (by omega) hbv) ?_) | (apply aops_appendT (b := b) (xs := its.map itemA) (ys := [itemA ⟨KX, Lib.join bk [10] ++ [10], fs⟩]) (bytes := 48); exact rfl; exact rfl; exact PX.h2; exact hleX; exact rfl; exact rfl; exact rfl; exact ⟨⟨_, _, rfl, rfl, rfl, rfl, rfl⟩⟩; exact rfl; (simp [maxLen]; omega); (simp; omega); intro t4 st4 g1 g2 g3 g4; have ho4 := (g3.same o (by omega) holX).trans hobX))
              apply aops_nil
              (apply az_take 19; exact rfl; kernel_rfl; kernel_rfl; kernel_rfl; exact rfl; (apply ay_nilCheck; exact rfl; exact rfl))
              (apply az_take 20; exact rfl; kernel_rfl; kernel_rfl; kernel_rfl; exact rfl; (first | (apply ay_fieldAddr_bx; exact rfl; exact rfl; exact rfl) | (apply ay_fieldAddr_pp; exact rfl; exact rfl; exact rfl; exact rfl)))
              refine az_all [21] (by kernel_rfl) rfl ⟨⟨_, rfl, ?_⟩, trivial⟩
              (first | (apply aops_store_at; exact rfl; exact rfl; exact ho4; exact rfl; exact rfl; exact rfl; exact rfl; exact rfl; exact rfl) | (apply aops_store_mid; exact rfl; exact rfl; exact rfl; exact rfl; exact rfl; exact rfl; exact rfl; exact rfl; exact rfl; exact rfl; exact rfl) | (apply aops_store_loc; exact rfl; exact rfl; exact rfl; exact rfl; exact rfl; exact rfl; exact rfl; exact rfl; exact rfl; exact rfl; exact rfl))
              apply aops_nil
              refine az_done (by kernel_rfl) ?_
              exact ⟨rfl, rfl, par_items PX g1 g2 g3 g4, (hkX.trans (keep_fr g3 hleX g2 PX.h2 g4)).trans keep_set⟩
          · (first | (apply aops_load_bx; exact rfl; exact hobX; exact rfl; exact rfl; apply aops_weak 44 rfl (weak_tipC PX.h4)) | (apply aops_load_bx; exact rfl; exact hobX; exact rfl; exact rfl) | (apply aops_load_mid; exact rfl; exact rfl; exact rfl; exact rfl; exact rfl) | (apply aops_load_loc; exact rfl; exact rfl; exact rfl; exact rfl; exact rfl) | (apply aops_load_pp; exact rfl; exact rfl; exact rfl))
            apply aops_nil
            refine az_all [4, 10, 15] (by kernel_rfl) rfl ⟨⟨_, rfl, ?_⟩, ⟨_, rfl, ?_⟩, ⟨_, rfl, ?_⟩, trivial⟩
            · (first | (apply aops_load_bx; exact rfl; exact hobX; exact rfl; exact rfl; apply aops_weak 44 rfl (weak_tipC PX.h4)) | (apply aops_load_bx; exact rfl; exact hobX; exact rfl; exact rfl) | (apply aops_load_mid; exact rfl; exact rfl; exact rfl; exact rfl; exact rfl) | (apply aops_load_loc; exact rfl; exact rfl; exact rfl; exact rfl; exact rfl) | (apply aops_load_pp; exact rfl; exact rfl; exact rfl))
              apply aops_nil
              refine az_all [10, 15] (by kernel_rfl) rfl ⟨⟨_, rfl, ?_⟩, ⟨_, rfl, ?_⟩, trivial⟩
              · (first | (refine aops_call1 Tryz.call80 (joinB_c bk _ _ hbk (by omega) hbv) ?_) | (apply aops_appendT (b := b) (xs := its.map itemA) (ys := [itemA ⟨KX, Lib.join bk [10] ++ [10], fs⟩]) (bytes := 48); exact rfl; exact rfl; exact PX.h2; exact hleX; exact rfl; exact rfl; exact rfl; exact ⟨⟨_, _, rfl, rfl, rfl, rfl, rfl⟩⟩; exact rfl; (simp [maxLen]; omega); (simp; omega); intro t4 st4 g1 g2 g3 g4; have ho4 := (g3.same o (by omega) holX).trans hobX))
                apply aops_nil
                (apply az_take 11; exact rfl; kernel_rfl; kernel_rfl; kernel_rfl; exact rfl; (apply ay_concat; exact rfl; exact rfl; (first | omega | (simp only [List.length_append, List.length_cons, List.length_nil]; omega))))
                refine az_all [15] (by kernel_rfl) rfl ⟨⟨_, rfl, ?_⟩, trivial⟩
                (first | (apply aops_load_bx; exact rfl; exact hobX; exact rfl; exact rfl; apply aops_weak 44 rfl (weak_tipC PX.h4)) | (apply aops_load_bx; exact rfl; exact hobX; exact rfl; exact rfl) | (apply aops_load_mid; exact rfl; exact rfl; exact rfl; exact rfl; exact rfl) | (apply aops_load_loc; exact rfl; exact rfl; exact rfl; exact rfl; exact rfl) | (apply aops_load_pp; exact rfl; exact rfl; exact rfl))
                apply aops_nil
                (apply az_take 16; exact rfl; kernel_rfl; kernel_rfl; kernel_rfl; exact rfl; (apply ay_build; exact rfl; exact rfl; exact rfl))
                refine az_all [17] (by kernel_rfl) rfl ⟨⟨_, rfl, ?_⟩, trivial⟩
                (apply aops_buildSlice; exact rfl; exact rfl; exact rfl; exact rfl; exact rfl; exact rfl; exact rfl; exact rfl; exact rfl)
                apply aops_nil
                refine az_all [18] (by kernel_rfl) rfl ⟨⟨_, rfl, ?_⟩, trivial⟩
                (first | (refine aops_call1 Tryz.call80 (joinB_c bk _ _ hbk (by omega) hbv) ?_) | (apply aops_appendT (b := b) (xs := its.map itemA) (ys := [itemA ⟨KX, Lib.join bk [10] ++ [10], fs⟩]) (bytes := 48); exact rfl; exact rfl; exact PX.h2; exact hleX; exact rfl; exact rfl; exact rfl; exact ⟨⟨_, _, rfl, rfl, rfl, rfl, rfl⟩⟩; exact rfl; (simp [maxLen]; omega); (simp; omega); intro t4 st4 g1 g2 g3 g4; have ho4 := (g3.same o (by omega) holX).trans hobX))
                apply aops_nil
                (apply az_take 19; exact rfl; kernel_rfl; kernel_rfl; kernel_rfl; exact rfl; (apply ay_nilCheck; exact rfl; exact rfl))
                (apply az_take 20; exact rfl; kernel_rfl; kernel_rfl; kernel_rfl; exact rfl; (first | (apply ay_fieldAddr_bx; exact rfl; exact rfl; exact rfl) | (apply ay_fieldAddr_pp; exact rfl; exact rfl; exact rfl; exact rfl)))
                refine az_all [21] (by kernel_rfl) rfl ⟨⟨_, rfl, ?_⟩, trivial⟩
                (first | (apply aops_store_at; exact rfl; exact rfl; exact ho4; exact rfl; exact rfl; exact rfl; exact rfl; exact rfl; exact rfl) | (apply aops_store_mid; exact rfl; exact rfl; exact rfl; exact rfl; exact rfl; exact rfl; exact rfl; exact rfl; exact rfl; exact rfl; exact rfl) | (apply aops_store_loc; exact rfl; exact rfl; exact rfl; exact rfl; exact rfl; exact rfl; exact rfl; exact rfl; exact rfl; exact rfl; exact rfl))
                apply aops_nil
                refine az_done (by kernel_rfl) ?_
                exact ⟨rfl, rfl, par_items PX g1 g2 g3 g4, (hkX.trans (keep_fr g3 hleX g2 PX.h2 g4)).trans keep_set⟩
              · (first | (apply aops_load_bx; exact rfl; exact hobX; exact rfl; exact rfl; apply aops_weak 44 rfl (weak_tipC PX.h4)) | (apply aops_load_bx; exact rfl; exact hobX; exact rfl; exact rfl) | (apply aops_load_mid; exact rfl; exact rfl; exact rfl; exact rfl; exact rfl) | (apply aops_load_loc; exact rfl; exact rfl; exact rfl; exact rfl; exact rfl) | (apply aops_load_pp; exact rfl; exact rfl; exact rfl))
                apply aops_nil
                refine az_all [10] (by kernel_rfl) rfl ⟨⟨_, rfl, ?_⟩, trivial⟩
                (first | (refine aops_call1 Tryz.call80 (joinB_c bk _ _ hbk (by omega) hbv) ?_) | (apply aops_appendT (b := b) (xs := its.map itemA) (ys := [itemA ⟨KX, Lib.join bk [10] ++ [10], fs⟩]) (bytes := 48); exact rfl; exact rfl; exact PX.h2; exact hleX; exact rfl; exact rfl; exact rfl; exact ⟨⟨_, _, rfl, rfl, rfl, rfl, rfl⟩⟩; exact rfl; (simp [maxLen]; omega); (simp; omega); intro t4 st4 g1 g2 g3 g4; have ho4 := (g3.same o (by omega) holX).trans hobX))
                apply aops_nil
                (apply az_take 11; exact rfl; kernel_rfl; kernel_rfl; kernel_rfl; exact rfl; (apply ay_concat; exact rfl; exact rfl; (first | omega | (simp only [List.length_append, List.length_cons, List.length_nil]; omega))))
                (apply az_take 16; exact rfl; kernel_rfl; kernel_rfl; kernel_rfl; exact rfl; (apply ay_build; exact rfl; exact rfl; exact rfl))
                refine az_all [17] (by kernel_rfl) rfl ⟨⟨_, rfl, ?_⟩, trivial⟩
                (apply aops_buildSlice; exact rfl; exact rfl; exact rfl; exact rfl; exact rfl; exact rfl; exact rfl; exact rfl; exact rfl)
                apply aops_nil
                refine az_all [18] (by kernel_rfl) rfl ⟨⟨_, rfl, ?_⟩, trivial⟩
                (first | (refine aops_call1 Tryz.call80 (joinB_c bk _ _ hbk (by omega) hbv) ?_) | (apply aops_appendT (b := b) (xs := its.map itemA) (ys := [itemA ⟨KX, Lib.join bk [10] ++ [10], fs⟩]) (bytes := 48); exact rfl; exact rfl; exact PX.h2; exact hleX; exact rfl; exact rfl; exact rfl; exact ⟨⟨_, _, rfl, rfl, rfl, rfl, rfl⟩⟩; exact rfl; (simp [maxLen]; omega); (simp; omega); intro t4 st4 g1 g2 g3 g4; have ho4 := (g3.same o (by omega) holX).trans hobX))
                apply aops_nil
                (apply az_take 19; exact rfl; kernel_rfl; kernel_rfl; kernel_rfl; exact rfl; (apply ay_nilCheck; exact rfl; exact rfl))
                (apply az_take 20; exact rfl; kernel_rfl; kernel_rfl; kernel_rfl; exact rfl; (first | (apply ay_fieldAddr_bx; exact rfl; exact rfl; exact rfl) | (apply ay_fieldAddr_pp; exact rfl; exact rfl; exact rfl; exact rfl)))
                refine az_all [21] (by kernel_rfl) rfl ⟨⟨_, rfl, ?_⟩, trivial⟩
                (first | (apply aops_store_at; exact rfl; exact rfl; exact ho4; exact rfl; exact rfl; exact rfl; exact rfl; exact rfl; exact rfl) | (apply aops_store_mid; exact rfl; exact rfl; exact rfl; exact rfl; exact rfl; exact rfl; exact rfl; exact rfl; exact rfl; exact rfl; exact rfl) | (apply aops_store_loc; exact rfl; exact rfl; exact rfl; exact rfl; exact rfl; exact rfl; exact rfl; exact rfl; exact rfl; exact rfl; exact rfl))
                apply aops_nil
                refine az_done (by kernel_rfl) ?_
                exact ⟨rfl, rfl, par_items PX g1 g2 g3 g4, (hkX.trans (keep_fr g3 hleX g2 PX.h2 g4)).trans keep_set⟩
            · (first | (refine aops_call1 Tryz.call80 (joinB_c bk _ _ hbk (by omega) hbv) ?_) | (apply aops_appendT (b := b) (xs := its.map itemA) (ys := [itemA ⟨KX, Lib.join bk [10] ++ [10], fs⟩]) (bytes := 48); exact rfl; exact rfl; exact PX.h2; exact hleX; exact rfl; exact rfl; exact rfl; exact ⟨⟨_, _, rfl, rfl, rfl, rfl, rfl⟩⟩; exact rfl; (simp [maxLen]; omega); (simp; omega); intro t4 st4 g1 g2 g3 g4; have ho4 := (g3.same o (by omega) holX).trans hobX))
              apply aops_nil
              (apply az_take 11; exact rfl; kernel_rfl; kernel_rfl; kernel_rfl; exact rfl; (apply ay_concat; exact rfl; exact rfl; (first | omega | (simp only [List.length_append, List.length_cons, List.length_nil]; omega))))
              refine az_all [4, 15] (by kernel_rfl) rfl ⟨⟨_, rfl, ?_⟩, ⟨_, rfl, ?_⟩, trivial⟩
              · (first | (apply aops_load_bx; exact rfl; exact hobX; exact rfl; exact rfl; apply aops_weak 44 rfl (weak_tipC PX.h4)) | (apply aops_load_bx; exact rfl; exact hobX; exact rfl; exact rfl) | (apply aops_load_mid; exact rfl; exact rfl; exact rfl; exact rfl; exact rfl) | (apply aops_load_loc; exact rfl; exact rfl; exact rfl; exact rfl; exact rfl) | (apply aops_load_pp; exact rfl; exact rfl; exact rfl))
                apply aops_nil
                refine az_all [15] (by kernel_rfl) rfl ⟨⟨_, rfl, ?_⟩, trivial⟩
                (first | (apply aops_load_bx; exact rfl; exact hobX; exact rfl; exact rfl; apply aops_weak 44 rfl (weak_tipC PX.h4)) | (apply aops_load_bx; exact rfl; exact hobX; exact rfl; exact rfl) | (apply aops_load_mid; exact rfl; exact rfl; exact rfl; exact rfl; exact rfl) | (apply aops_load_loc; exact rfl; exact rfl; exact rfl; exact rfl; exact rfl) | (apply aops_load_pp; exact rfl; exact rfl; exact rfl))
                apply aops_nil
                (apply az_take 16; exact rfl; kernel_rfl; kernel_rfl; kernel_rfl; exact rfl; (apply ay_build; exact rfl; exact rfl; exact rfl))
                refine az_all [17] (by kernel_rfl) rfl ⟨⟨_, rfl, ?_⟩, trivial⟩
                (apply aops_buildSlice; exact rfl; exact rfl; exact rfl; exact rfl; exact rfl; exact rfl; exact rfl; exact rfl; exact rfl)
                apply aops_nil
                refine az_all [18] (by kernel_rfl) rfl ⟨⟨_, rfl, ?_⟩, trivial⟩
                (first | (refine aops_call1 Tryz.call80 (joinB_c bk _ _ hbk (by omega) hbv) ?_) | (apply aops_appendT (b := b) (xs := its.map itemA) (ys := [itemA ⟨KX, Lib.join bk [10] ++ [10], fs⟩]) (bytes := 48); exact rfl; exact rfl; exact PX.h2; exact hleX; exact rfl; exact rfl; exact rfl; exact ⟨⟨_, _, rfl, rfl, rfl, rfl, rfl⟩⟩; exact rfl; (simp [maxLen]; omega); (simp; omega); intro t4 st4 g1 g2 g3 g4; have ho4 := (g3.same o (by omega) holX).trans hobX))
                apply aops_nil
                (apply az_take 19; exact rfl; kernel_rfl; kernel_rfl; kernel_rfl; exact rfl; (apply ay_nilCheck; exact rfl; exact rfl))
                (apply az_take 20; exact rfl; kernel_rfl; kernel_rfl; kernel_rfl; exact rfl; (first | (apply ay_fieldAddr_bx; exact rfl; exact rfl; exact rfl) | (apply ay_fieldAddr_pp; exact rfl; exact rfl; exact rfl; exact rfl)))
                refine az_all [21] (by kernel_rfl) rfl ⟨⟨_, rfl, ?_⟩, trivial⟩
                (first | (apply aops_store_at; exact rfl; exact rfl; exact ho4; exact rfl; exact rfl; exact rfl; exact rfl; exact rfl; exact rfl) | (apply aops_store_mid; exact rfl; exact rfl; exact rfl; exact rfl; exact rfl; exact rfl; exact rfl; exact rfl; exact rfl; exact rfl; exact rfl) | (apply aops_store_loc; exact rfl; exact rfl; exact rfl; exact rfl; exact rfl; exact rfl; exact rfl; exact rfl; exact rfl; exact rfl; exact rfl))
                apply aops_nil
                refine az_done (by kernel_rfl) ?_
                exact ⟨rfl, rfl, par_items PX g1 g2 g3 g4, (hkX.trans (keep_fr g3 hleX g2 PX.h2 g4)).trans keep_set⟩
              · (first | (apply aops_load_bx; exact rfl; exact hobX; exact rfl; exact rfl; apply aops_weak 44 rfl (weak_tipC PX.h4)) | (apply aops_load_bx; exact rfl; exact hobX; exact rfl; exact rfl) | (apply aops_load_mid; exact rfl; exact rfl; exact rfl; exact rfl; exact rfl) | (apply aops_load_loc; exact rfl; exact rfl; exact rfl; exact rfl; exact rfl) | (apply aops_load_pp; exact rfl; exact rfl; exact rfl))
                apply aops_nil
                (apply az_take 16; exact rfl; kernel_rfl; kernel_rfl; kernel_rfl; exact rfl; (apply ay_build; exact rfl; exact rfl; exact rfl))
                refine az_all [4, 17] (by kernel_rfl) rfl ⟨⟨_, rfl, ?_⟩, ⟨_, rfl, ?_⟩, trivial⟩
                · (first | (apply aops_load_bx; exact rfl; exact hobX; exact rfl; exact rfl; apply aops_weak 44 rfl (weak_tipC PX.h4)) | (apply aops_load_bx; exact rfl; exact hobX; exact rfl; exact rfl) | (apply aops_load_mid; exact rfl; exact rfl; exact rfl; exact rfl; exact rfl) | (apply aops_load_loc; exact rfl; exact rfl; exact rfl; exact rfl; exact rfl) | (apply aops_load_pp; exact rfl; exact rfl; exact rfl))
                  apply aops_nil
                  refine az_all [17] (by kernel_rfl) rfl ⟨⟨_, rfl, ?_⟩, trivial⟩
                  (apply aops_buildSlice; exact rfl; exact rfl; exact rfl; exact rfl; exact rfl; exact rfl; exact rfl; exact rfl; exact rfl)
                  apply aops_nil
                  refine az_all [18] (by kernel_rfl) rfl ⟨⟨_, rfl, ?_⟩, trivial⟩
                  (first | (refine aops_call1 Tryz.call80 (joinB_c bk _ _ hbk (by omega) hbv) ?_) | (apply aops_appendT (b := b) (xs := its.map itemA) (ys := [itemA ⟨KX, Lib.join bk [10] ++ [10], fs⟩]) (bytes := 48); exact rfl; exact rfl; exact PX.h2; exact hleX; exact rfl; exact rfl; exact rfl; exact ⟨⟨_, _, rfl, rfl, rfl, rfl, rfl⟩⟩; exact rfl; (simp [maxLen]; omega); (simp; omega); intro t4 st4 g1 g2 g3 g4; have ho4 := (g3.same o (by omega) holX).trans hobX))
                  apply aops_nil
                  (apply az_take 19; exact rfl; kernel_rfl; kernel_rfl; kernel_rfl; exact rfl; (apply ay_nilCheck; exact rfl; exact rfl))
                  (apply az_take 20; exact rfl; kernel_rfl; kernel_rfl; kernel_rfl; exact rfl; (first | (apply ay_fieldAddr_bx; exact rfl; exact rfl; exact rfl) | (apply ay_fieldAddr_pp; exact rfl; exact rfl; exact rfl; exact rfl)))
                  refine az_all [21] (by kernel_rfl) rfl ⟨⟨_, rfl, ?_⟩, trivial⟩
                  (first | (apply aops_store_at; exact rfl; exact rfl; exact ho4; exact rfl; exact rfl; exact rfl; exact rfl; exact rfl; exact rfl) | (apply aops_store_mid; exact rfl; exact rfl; exact rfl; exact rfl; exact rfl; exact rfl; exact rfl; exact rfl; exact rfl; exact rfl; exact rfl) | (apply aops_store_loc; exact rfl; exact rfl; exact rfl; exact rfl; exact rfl; exact rfl; exact rfl; exact rfl; exact rfl; exact rfl; exact rfl))
                  apply aops_nil
                  refine az_done (by kernel_rfl) ?_
                  exact ⟨rfl, rfl, par_items PX g1 g2 g3 g4, (hkX.trans (keep_fr g3 hleX g2 PX.h2 g4)).trans keep_set⟩
                · (apply aops_buildSlice; exact rfl; exact rfl; exact rfl; exact rfl; exact rfl; exact rfl; exact rfl; exact rfl; exact rfl)
                  apply aops_nil
                  refine az_all [4] (by kernel_rfl) rfl ⟨⟨_, rfl, ?_⟩, trivial⟩
                  (first | (apply aops_load_bx; exact rfl; exact hobX; exact rfl; exact rfl; apply aops_weak 44 rfl (weak_tipC PX.h4)) | (apply aops_load_bx; exact rfl; exact hobX; exact rfl; exact rfl) | (apply aops_load_mid; exact rfl; exact rfl; exact rfl; exact rfl; exact rfl) | (apply aops_load_loc; exact rfl; exact rfl; exact rfl; exact rfl; exact rfl) | (apply aops_load_pp; exact rfl; exact rfl; exact rfl))
                  apply aops_nil
                  refine az_all [18] (by kernel_rfl) rfl ⟨⟨_, rfl, ?_⟩, trivial⟩
                  (first | (refine aops_call1 Tryz.call80 (joinB_c bk _ _ hbk (by omega) hbv) ?_) | (apply aops_appendT (b := b) (xs := its.map itemA) (ys := [itemA ⟨KX, Lib.join bk [10] ++ [10], fs⟩]) (bytes := 48); exact rfl; exact rfl; exact PX.h2; exact hleX; exact rfl; exact rfl; exact rfl; exact ⟨⟨_, _, rfl, rfl, rfl, rfl, rfl⟩⟩; exact rfl; (simp [maxLen]; omega); (simp; omega); intro t4 st4 g1 g2 g3 g4; have ho4 := (g3.same o (by omega) holX).trans hobX))
                  apply aops_nil
                  (apply az_take 19; exact rfl; kernel_rfl; kernel_rfl; kernel_rfl; exact rfl; (apply ay_nilCheck; exact rfl; exact rfl))
                  (apply az_take 20; exact rfl; kernel_rfl; kernel_rfl; kernel_rfl; exact rfl; (first | (apply ay_fieldAddr_bx; exact rfl; exact rfl; exact rfl) | (apply ay_fieldAddr_pp; exact rfl; exact rfl; exact rfl; exact rfl)))
                  refine az_all [21] (by kernel_rfl) rfl ⟨⟨_, rfl, ?_⟩, trivial⟩
                  (first | (apply aops_store_at; exact rfl; exact rfl; exact ho4; exact rfl; exact rfl; exact rfl; exact rfl; exact rfl; exact rfl) | (apply aops_store_mid; exact rfl; exact rfl; exact rfl; exact rfl; exact rfl; exact rfl; exact rfl; exact rfl; exact rfl; exact rfl; exact rfl) | (apply aops_store_loc; exact rfl; exact rfl; exact rfl; exact rfl; exact rfl; exact rfl; exact rfl; exact rfl; exact rfl; exact rfl; exact rfl))
                  apply aops_nil
                  refine az_done (by kernel_rfl) ?_
                  exact ⟨rfl, rfl, par_items PX g1 g2 g3 g4, (hkX.trans (keep_fr g3 hleX g2 PX.h2 g4)).trans keep_set⟩
            · (first | (apply aops_load_bx; exact rfl; exact hobX; exact rfl; exact rfl; apply aops_weak 44 rfl (weak_tipC PX.h4)) | (apply aops_load_bx; exact rfl; exact hobX; exact rfl; exact rfl) | (apply aops_load_mid; exact rfl; exact rfl; exact rfl; exact rfl; exact rfl) | (apply aops_load_loc; exact rfl; exact rfl; exact rfl; exact rfl; exact rfl) | (apply aops_load_pp; exact rfl; exact rfl; exact rfl))
              apply aops_nil
              refine az_all [4, 10] (by kernel_rfl) rfl ⟨⟨_, rfl, ?_⟩, ⟨_, rfl, ?_⟩, trivial⟩
              · (first | (apply aops_load_bx; exact rfl; exact hobX; exact rfl; exact rfl; apply aops_weak 44 rfl (weak_tipC PX.h4)) | (apply aops_load_bx; exact rfl; exact hobX; exact rfl; exact rfl) | (apply aops_load_mid; exact rfl; exact rfl; exact rfl; exact rfl; exact rfl) | (apply aops_load_loc; exact rfl; exact rfl; exact rfl; exact rfl; exact rfl) | (apply aops_load_pp; exact rfl; exact rfl; exact rfl))
                apply aops_nil
                refine az_all [10] (by kernel_rfl) rfl ⟨⟨_, rfl, ?_⟩, trivial⟩
                (first | (refine aops_call1 Tryz.call80 (joinB_c bk _ _ hbk (by omega) hbv) ?_) | (apply aops_appendT (b := b) (xs := its.map itemA) (ys := [itemA ⟨KX, Lib.join bk [10] ++ [10], fs⟩]) (bytes := 48); exact rfl; exact rfl; exact PX.h2; exact hleX; exact rfl; exact rfl; exact rfl; exact ⟨⟨_, _, rfl, rfl, rfl, rfl, rfl⟩⟩; exact rfl; (simp [maxLen]; omega); (simp; omega); intro t4 st4 g1 g2 g3 g4; have ho4 := (g3.same o (by omega) holX).trans hobX))
                apply aops_nil
                (apply az_take 11; exact rfl; kernel_rfl; kernel_rfl; kernel_rfl; exact rfl; (apply ay_concat; exact rfl; exact rfl; (first | omega | (simp only [List.length_append, List.length_cons, List.length_nil]; omega))))
                (apply az_take 16; exact rfl; kernel_rfl; kernel_rfl; kernel_rfl; exact rfl; (apply ay_build; exact rfl; exact rfl; exact rfl))
                refine az_all [17] (by kernel_rfl) rfl ⟨⟨_, rfl, ?_⟩, trivial⟩
                (apply aops_buildSlice; exact rfl; exact rfl; exact rfl; exact rfl; exact rfl; exact rfl; exact rfl; exact rfl; exact rfl)
                apply aops_nil
                refine az_all [18] (by kernel_rfl) rfl ⟨⟨_, rfl, ?_⟩, trivial⟩
                (first | (refine aops_call1 Tryz.call80 (joinB_c bk _ _ hbk (by omega) hbv) ?_) | (apply aops_appendT (b := b) (xs := its.map itemA) (ys := [itemA ⟨KX, Lib.join bk [10] ++ [10], fs⟩]) (bytes := 48); exact rfl; exact rfl; exact PX.h2; exact hleX; exact rfl; exact rfl; exact rfl; exact ⟨⟨_, _, rfl, rfl, rfl, rfl, rfl⟩⟩; exact rfl; (simp [maxLen]; omega); (simp; omega); intro t4 st4 g1 g2 g3 g4; have ho4 := (g3.same o (by omega) holX).trans hobX))
                apply aops_nil
                (apply az_take 19; exact rfl; kernel_rfl; kernel_rfl; kernel_rfl; exact rfl; (apply ay_nilCheck; exact rfl; exact rfl))
                (apply az_take 20; exact rfl; kernel_rfl; kernel_rfl; kernel_rfl; exact rfl; (first | (apply ay_fieldAddr_bx; exact rfl; exact rfl; exact rfl) | (apply ay_fieldAddr_pp; exact rfl; exact rfl; exact rfl; exact rfl)))
                refine az_all [21] (by kernel_rfl) rfl ⟨⟨_, rfl, ?_⟩, trivial⟩
                (first | (apply aops_store_at; exact rfl; exact rfl; exact ho4; exact rfl; exact rfl; exact rfl; exact rfl; exact rfl; exact rfl) | (apply aops_store_mid; exact rfl; exact rfl; exact rfl; exact rfl; exact rfl; exact rfl; exact rfl; exact rfl; exact rfl; exact rfl; exact rfl) | (apply aops_store_loc; exact rfl; exact rfl; exact rfl; exact rfl; exact rfl; exact rfl; exact rfl; exact rfl; exact rfl; exact rfl; exact rfl))
                apply aops_nil
                refine az_done (by kernel_rfl) ?_
                exact ⟨rfl, rfl, par_items PX g1 g2 g3 g4, (hkX.trans (keep_fr g3 hleX g2 PX.h2 g4)).trans keep_set⟩
              · (first | (refine aops_call1 Tryz.call80 (joinB_c bk _ _ hbk (by omega) hbv) ?_) | (apply aops_appendT (b := b) (xs := its.map itemA) (ys := [itemA ⟨KX, Lib.join bk [10] ++ [10], fs⟩]) (bytes := 48); exact rfl; exact rfl; exact PX.h2; exact hleX; exact rfl; exact rfl; exact rfl; exact ⟨⟨_, _, rfl, rfl, rfl, rfl, rfl⟩⟩; exact rfl; (simp [maxLen]; omega); (simp; omega); intro t4 st4 g1 g2 g3 g4; have ho4 := (g3.same o (by omega) holX).trans hobX))
                apply aops_nil
                (apply az_take 11; exact rfl; kernel_rfl; kernel_rfl; kernel_rfl; exact rfl; (apply ay_concat; exact rfl; exact rfl; (first | omega | (simp only [List.length_append, List.length_cons, List.length_nil]; omega))))
                (apply az_take 16; exact rfl; kernel_rfl; kernel_rfl; kernel_rfl; exact rfl; (apply ay_build; exact rfl; exact rfl; exact rfl))
                refine az_all [4, 17] (by kernel_rfl) rfl ⟨⟨_, rfl, ?_⟩, ⟨_, rfl, ?_⟩, trivial⟩
                · (first | (apply aops_load_bx; exact rfl; exact hobX; exact rfl; exact rfl; apply aops_weak 44 rfl (weak_tipC PX.h4)) | (apply aops_load_bx; exact rfl; exact hobX; exact rfl; exact rfl) | (apply aops_load_mid; exact rfl; exact rfl; exact rfl; exact rfl; exact rfl) | (apply aops_load_loc; exact rfl; exact rfl; exact rfl; exact rfl; exact rfl) | (apply aops_load_pp; exact rfl; exact rfl; exact rfl))
                  apply aops_nil
                  refine az_all [17] (by kernel_rfl) rfl ⟨⟨_, rfl, ?_⟩, trivial⟩
                  (apply aops_buildSlice; exact rfl; exact rfl; exact rfl; exact rfl; exact rfl; exact rfl; exact rfl; exact rfl; exact rfl)
                  apply aops_nil
                  refine az_all [18] (by kernel_rfl) rfl ⟨⟨_, rfl, ?_⟩, trivial⟩
                  (first | (refine aops_call1 Tryz.call80 (joinB_c bk _ _ hbk (by omega) hbv) ?_) | (apply aops_appendT (b := b) (xs := its.map itemA) (ys := [itemA ⟨KX, Lib.join bk [10] ++ [10], fs⟩]) (bytes := 48); exact rfl; exact rfl; exact PX.h2; exact hleX; exact rfl; exact rfl; exact rfl; exact ⟨⟨_, _, rfl, rfl, rfl, rfl, rfl⟩⟩; exact rfl; (simp [maxLen]; omega); (simp; omega); intro t4 st4 g1 g2 g3 g4; have ho4 := (g3.same o (by omega) holX).trans hobX))
                  apply aops_nil
                  (apply az_take 19; exact rfl; kernel_rfl; kernel_rfl; kernel_rfl; exact rfl; (apply ay_nilCheck; exact rfl; exact rfl))
                  (apply az_take 20; exact rfl; kernel_rfl; kernel_rfl; kernel_rfl; exact rfl; (first | (apply ay_fieldAddr_bx; exact rfl; exact rfl; exact rfl) | (apply ay_fieldAddr_pp; exact rfl; exact rfl; exact rfl; exact rfl)))
                  refine az_all [21] (by kernel_rfl) rfl ⟨⟨_, rfl, ?_⟩, trivial⟩
                  (first | (apply aops_store_at; exact rfl; exact rfl; exact ho4; exact rfl; exact rfl; exact rfl; exact rfl; exact rfl; exact rfl) | (apply aops_store_mid; exact rfl; exact rfl; exact rfl; exact rfl; exact rfl; exact rfl; exact rfl; exact rfl; exact rfl; exact rfl; exact rfl) | (apply aops_store_loc; exact rfl; exact rfl; exact rfl; exact rfl; exact rfl; exact rfl; exact rfl; exact rfl; exact rfl; exact rfl; exact rfl))
                  apply aops_nil
                  refine az_done (by kernel_rfl) ?_
                  exact ⟨rfl, rfl, par_items PX g1 g2 g3 g4, (hkX.trans (keep_fr g3 hleX g2 PX.h2 g4)).trans keep_set⟩
                · (apply aops_buildSlice; exact rfl; exact rfl; exact rfl; exact rfl; exact rfl; exact rfl; exact rfl; exact rfl; exact rfl)
                  apply aops_nil
                  refine az_all [4] (by kernel_rfl) rfl ⟨⟨_, rfl, ?_⟩, trivial⟩
                  (first | (apply aops_load_bx; exact rfl; exact hobX; exact rfl; exact rfl; apply aops_weak 44 rfl (weak_tipC PX.h4)) | (apply aops_load_bx; exact rfl; exact hobX; exact rfl; exact rfl) | (apply aops_load_mid; exact rfl; exact rfl; exact rfl; exact rfl; exact rfl) | (apply aops_load_loc; exact rfl; exact rfl; exact rfl; exact rfl; exact rfl) | (apply aops_load_pp; exact rfl; exact rfl; exact rfl))
                  apply aops_nil
                  refine az_all [18] (by kernel_rfl) rfl ⟨⟨_, rfl, ?_⟩, trivial⟩
                  (first | (refine aops_call1 Tryz.call80 (joinB_c bk _ _ hbk (by omega) hbv) ?_) | (apply aops_appendT (b := b) (xs := its.map itemA) (ys := [itemA ⟨KX, Lib.join bk [10] ++ [10], fs⟩]) (bytes := 48); exact rfl; exact rfl; exact PX.h2; exact hleX; exact rfl; exact rfl; exact rfl; exact ⟨⟨_, _, rfl, rfl, rfl, rfl, rfl⟩⟩; exact rfl; (simp [maxLen]; omega); (simp; omega); intro t4 st4 g1 g2 g3 g4; have ho4 := (g3.same o (by omega) holX).trans hobX))
                  apply aops_nil
                  (apply az_take 19; exact rfl; kernel_rfl; kernel_rfl; kernel_rfl; exact rfl; (apply ay_nilCheck; exact rfl; exact rfl))
                  (apply az_take 20; exact rfl; kernel_rfl; kernel_rfl; kernel_rfl; exact rfl; (first | (apply ay_fieldAddr_bx; exact rfl; exact rfl; exact rfl) | (apply ay_fieldAddr_pp; exact rfl; exact rfl; exact rfl; exact rfl)))
                  refine az_all [21] (by kernel_rfl) rfl ⟨⟨_, rfl, ?_⟩, trivial⟩
                  (first | (apply aops_store_at; exact rfl; exact rfl; exact ho4; exact rfl; exact rfl; exact rfl; exact rfl; exact rfl; exact rfl) | (apply aops_store_mid; exact rfl; exact rfl; exact rfl; exact rfl; exact rfl; exact rfl; exact rfl; exact rfl; exact rfl; exact rfl; exact rfl) | (apply aops_store_loc; exact rfl; exact rfl; exact rfl; exact rfl; exact rfl; exact rfl; exact rfl; exact rfl; exact rfl; exact rfl; exact rfl))
                  apply aops_nil
                  refine az_done (by kernel_rfl) ?_
                  exact ⟨rfl, rfl, par_items PX g1 g2 g3 g4, (hkX.trans (keep_fr g3 hleX g2 PX.h2 g4)).trans keep_set⟩
          · (first | (apply aops_load_bx; exact rfl; exact hobX; exact rfl; exact rfl; apply aops_weak 44 rfl (weak_tipC PX.h4)) | (apply aops_load_bx; exact rfl; exact hobX; exact rfl; exact rfl) | (apply aops_load_mid; exact rfl; exact rfl; exact rfl; exact rfl; exact rfl) | (apply aops_load_loc; exact rfl; exact rfl; exact rfl; exact rfl; exact rfl) | (apply aops_load_pp; exact rfl; exact rfl; exact rfl))
            apply aops_nil
            refine az_all [4, 9] (by kernel_rfl) rfl ⟨⟨_, rfl, ?_⟩, ⟨_, rfl, ?_⟩, trivial⟩
            · (first | (apply aops_load_bx; exact rfl; exact hobX; exact rfl; exact rfl; apply aops_weak 44 rfl (weak_tipC PX.h4)) | (apply aops_load_bx; exact rfl; exact hobX; exact rfl; exact rfl) | (apply aops_load_mid; exact rfl; exact rfl; exact rfl; exact rfl; exact rfl) | (apply aops_load_loc; exact rfl; exact rfl; exact rfl; exact rfl; exact rfl) | (apply aops_load_pp; exact rfl; exact rfl; exact rfl))
              apply aops_nil
              refine az_all [9] (by kernel_rfl) rfl ⟨⟨_, rfl, ?_⟩, trivial⟩
              (first | (apply aops_load_bx; exact rfl; exact hobX; exact rfl; exact rfl; apply aops_weak 44 rfl (weak_tipC PX.h4)) | (apply aops_load_bx; exact rfl; exact hobX; exact rfl; exact rfl) | (apply aops_load_mid; exact rfl; exact rfl; exact rfl; exact rfl; exact rfl) | (apply aops_load_loc; exact rfl; exact rfl; exact rfl; exact rfl; exact rfl) | (apply aops_load_pp; exact rfl; exact rfl; exact rfl))
              apply aops_nil
              refine az_all [10] (by kernel_rfl) rfl ⟨⟨_, rfl, ?_⟩, trivial⟩
              (first | (refine aops_call1 Tryz.call80 (joinB_c bk _ _ hbk (by omega) hbv) ?_) | (apply aops_appendT (b := b) (xs := its.map itemA) (ys := [itemA ⟨KX, Lib.join bk [10] ++ [10], fs⟩]) (bytes := 48); exact rfl; exact rfl; exact PX.h2; exact hleX; exact rfl; exact rfl; exact rfl; exact ⟨⟨_, _, rfl, rfl, rfl, rfl, rfl⟩⟩; exact rfl; (simp [maxLen]; omega); (simp; omega); intro t4 st4 g1 g2 g3 g4; have ho4 := (g3.same o (by omega) holX).trans hobX))
              apply aops_nil
              (apply az_take 11; exact rfl; kernel_rfl; kernel_rfl; kernel_rfl; exact rfl; (apply ay_concat; exact rfl; exact rfl; (first | omega | (simp only [List.length_append, List.length_cons, List.length_nil]; omega))))
              (apply az_take 16; exact rfl; kernel_rfl; kernel_rfl; kernel_rfl; exact rfl; (apply ay_build; exact rfl; exact rfl; exact rfl))
              refine az_all [17] (by kernel_rfl) rfl ⟨⟨_, rfl, ?_⟩, trivial⟩
              (apply aops_buildSlice; exact rfl; exact rfl; exact rfl; exact rfl; exact rfl; exact rfl; exact rfl; exact rfl; exact rfl)
              apply aops_nil
              refine az_all [18] (by kernel_rfl) rfl ⟨⟨_, rfl, ?_⟩, trivial⟩
              (first | (refine aops_call1 Tryz.call80 (joinB_c bk _ _ hbk (by omega) hbv) ?_) | (apply aops_appendT (b := b) (xs := its.map itemA) (ys := [itemA ⟨KX, Lib.join bk [10] ++ [10], fs⟩]) (bytes := 48); exact rfl; exact rfl; exact PX.h2; exact hleX; exact rfl; exact rfl; exact rfl; exact ⟨⟨_, _, rfl, rfl, rfl, rfl, rfl⟩⟩; exact rfl; (simp [maxLen]; omega); (simp; omega); intro t4 st4 g1 g2 g3 g4; have ho4 := (g3.same o (by omega) holX).trans hobX))
              apply aops_nil
              (apply az_take 19; exact rfl; kernel_rfl; kernel_rfl; kernel_rfl; exact rfl; (apply ay_nilCheck; exact rfl; exact rfl))
              (apply az_take 20; exact rfl; kernel_rfl; kernel_rfl; kernel_rfl; exact rfl; (first | (apply ay_fieldAddr_bx; exact rfl; exact rfl; exact rfl) | (apply ay_fieldAddr_pp; exact rfl; exact rfl; exact rfl; exact rfl)))
              refine az_all [21] (by kernel_rfl) rfl ⟨⟨_, rfl, ?_⟩, trivial⟩
              (first | (apply aops_store_at; exact rfl; exact rfl; exact ho4; exact rfl; exact rfl; exact rfl; exact rfl; exact rfl; exact rfl) | (apply aops_store_mid; exact rfl; exact rfl; exact rfl; exact rfl; exact rfl; exact rfl; exact rfl; exact rfl; exact rfl; exact rfl; exact rfl) | (apply aops_store_loc; exact rfl; exact rfl; exact rfl; exact rfl; exact rfl; exact rfl; exact rfl; exact rfl; exact rfl; exact rfl; exact rfl))
              apply aops_nil
              refine az_done (by kernel_rfl) ?_
              exact ⟨rfl, rfl, par_items PX g1 g2 g3 g4, (hkX.trans (keep_fr g3 hleX g2 PX.h2 g4)).trans keep_set⟩
            · (first | (apply aops_load_bx; exact rfl; exact hobX; exact rfl; exact rfl; apply aops_weak 44 rfl (weak_tipC PX.h4)) | (apply aops_load_bx; exact rfl; exact hobX; exact rfl; exact rfl) | (apply aops_load_mid; exact rfl; exact rfl; exact rfl; exact rfl; exact rfl) | (apply aops_load_loc; exact rfl; exact rfl; exact rfl; exact rfl; exact rfl) | (apply aops_load_pp; exact rfl; exact rfl; exact rfl))
              apply aops_nil
              refine az_all [4, 10] (by kernel_rfl) rfl ⟨⟨_, rfl, ?_⟩, ⟨_, rfl, ?_⟩, trivial⟩
              · (first | (apply aops_load_bx; exact rfl; exact hobX; exact rfl; exact rfl; apply aops_weak 44 rfl (weak_tipC PX.h4)) | (apply aops_load_bx; exact rfl; exact hobX; exact rfl; exact rfl) | (apply aops_load_mid; exact rfl; exact rfl; exact rfl; exact rfl; exact rfl) | (apply aops_load_loc; exact rfl; exact rfl; exact rfl; exact rfl; exact rfl) | (apply aops_load_pp; exact rfl; exact rfl; exact rfl))
                apply aops_nil
                refine az_all [10] (by kernel_rfl) rfl ⟨⟨_, rfl, ?_⟩, trivial⟩
                (first | (refine aops_call1 Tryz.call80 (joinB_c bk _ _ hbk (by omega) hbv) ?_) | (apply aops_appendT (b := b) (xs := its.map itemA) (ys := [itemA ⟨KX, Lib.join bk [10] ++ [10], fs⟩]) (bytes := 48); exact rfl; exact rfl; exact PX.h2; exact hleX; exact rfl; exact rfl; exact rfl; exact ⟨⟨_, _, rfl, rfl, rfl, rfl, rfl⟩⟩; exact rfl; (simp [maxLen]; omega); (simp; omega); intro t4 st4 g1 g2 g3 g4; have ho4 := (g3.same o (by omega) holX).trans hobX))
                apply aops_nil
                (apply az_take 11; exact rfl; kernel_rfl; kernel_rfl; kernel_rfl; exact rfl; (apply ay_concat; exact rfl; exact rfl; (first | omega | (simp only [List.length_append, List.length_cons, List.length_nil]; omega))))
                (apply az_take 16; exact rfl; kernel_rfl; kernel_rfl; kernel_rfl; exact rfl; (apply ay_build; exact rfl; exact rfl; exact rfl))
                refine az_all [17] (by kernel_rfl) rfl ⟨⟨_, rfl, ?_⟩, trivial⟩
                (apply aops_buildSlice; exact rfl; exact rfl; exact rfl; exact rfl; exact rfl; exact rfl; exact rfl; exact rfl; exact rfl)
                apply aops_nil
                refine az_all [18] (by kernel_rfl) rfl ⟨⟨_, rfl, ?_⟩, trivial⟩
                (first | (refine aops_call1 Tryz.call80 (joinB_c bk _ _ hbk (by omega) hbv) ?_) | (apply aops_appendT (b := b) (xs := its.map itemA) (ys := [itemA ⟨KX, Lib.join bk [10] ++ [10], fs⟩]) (bytes := 48); exact rfl; exact rfl; exact PX.h2; exact hleX; exact rfl; exact rfl; exact rfl; exact ⟨⟨_, _, rfl, rfl, rfl, rfl, rfl⟩⟩; exact rfl; (simp [maxLen]; omega); (simp; omega); intro t4 st4 g1 g2 g3 g4; have ho4 := (g3.same o (by omega) holX).trans hobX))
                apply aops_nil
                (apply az_take 19; exact rfl; kernel_rfl; kernel_rfl; kernel_rfl; exact rfl; (apply ay_nilCheck; exact rfl; exact rfl))
                (apply az_take 20; exact rfl; kernel_rfl; kernel_rfl; kernel_rfl; exact rfl; (first | (apply ay_fieldAddr_bx; exact rfl; exact rfl; exact rfl) | (apply ay_fieldAddr_pp; exact rfl; exact rfl; exact rfl; exact rfl)))
                refine az_all [21] (by kernel_rfl) rfl ⟨⟨_, rfl, ?_⟩, trivial⟩
                (first | (apply aops_store_at; exact rfl; exact rfl; exact ho4; exact rfl; exact rfl; exact rfl; exact rfl; exact rfl; exact rfl) | (apply aops_store_mid; exact rfl; exact rfl; exact rfl; exact rfl; exact rfl; exact rfl; exact rfl; exact rfl; exact rfl; exact rfl; exact rfl) | (apply aops_store_loc; exact rfl; exact rfl; exact rfl; exact rfl; exact rfl; exact rfl; exact rfl; exact rfl; exact rfl; exact rfl; exact rfl))
                apply aops_nil
                refine az_done (by kernel_rfl) ?_
                exact ⟨rfl, rfl, par_items PX g1 g2 g3 g4, (hkX.trans (keep_fr g3 hleX g2 PX.h2 g4)).trans keep_set⟩
              · (first | (refine aops_call1 Tryz.call80 (joinB_c bk _ _ hbk (by omega) hbv) ?_) | (apply aops_appendT (b := b) (xs := its.map itemA) (ys := [itemA ⟨KX, Lib.join bk [10] ++ [10], fs⟩]) (bytes := 48); exact rfl; exact rfl; exact PX.h2; exact hleX; exact rfl; exact rfl; exact rfl; exact ⟨⟨_, _, rfl, rfl, rfl, rfl, rfl⟩⟩; exact rfl; (simp [maxLen]; omega); (simp; omega); intro t4 st4 g1 g2 g3 g4; have ho4 := (g3.same o (by omega) holX).trans hobX))
                apply aops_nil
                (apply az_take 11; exact rfl; kernel_rfl; kernel_rfl; kernel_rfl; exact rfl; (apply ay_concat; exact rfl; exact rfl; (first | omega | (simp only [List.length_append, List.length_cons, List.length_nil]; omega))))
                (apply az_take 16; exact rfl; kernel_rfl; kernel_rfl; kernel_rfl; exact rfl; (apply ay_build; exact rfl; exact rfl; exact rfl))
                refine az_all [4, 17] (by kernel_rfl) rfl ⟨⟨_, rfl, ?_⟩, ⟨_, rfl, ?_⟩, trivial⟩
                · (first | (apply aops_load_bx; exact rfl; exact hobX; exact rfl; exact rfl; apply aops_weak 44 rfl (weak_tipC PX.h4)) | (apply aops_load_bx; exact rfl; exact hobX; exact rfl; exact rfl) | (apply aops_load_mid; exact rfl; exact rfl; exact rfl; exact rfl; exact rfl) | (apply aops_load_loc; exact rfl; exact rfl; exact rfl; exact rfl; exact rfl) | (apply aops_load_pp; exact rfl; exact rfl; exact rfl))
                  apply aops_nil
                  refine az_all [17] (by kernel_rfl) rfl ⟨⟨_, rfl, ?_⟩, trivial⟩
                  (apply aops_buildSlice; exact rfl; exact rfl; exact rfl; exact rfl; exact rfl; exact rfl; exact rfl; exact rfl; exact rfl)
                  apply aops_nil
                  refine az_all [18] (by kernel_rfl) rfl ⟨⟨_, rfl, ?_⟩, trivial⟩
                  (first | (refine aops_call1 Tryz.call80 (joinB_c bk _ _ hbk (by omega) hbv) ?_) | (apply aops_appendT (b := b) (xs := its.map itemA) (ys := [itemA ⟨KX, Lib.join bk [10] ++ [10], fs⟩]) (bytes := 48); exact rfl; exact rfl; exact PX.h2; exact hleX; exact rfl; exact rfl; exact rfl; exact ⟨⟨_, _, rfl, rfl, rfl, rfl, rfl⟩⟩; exact rfl; (simp [maxLen]; omega); (simp; omega); intro t4 st4 g1 g2 g3 g4; have ho4 := (g3.same o (by omega) holX).trans hobX))
                  apply aops_nil
                  (apply az_take 19; exact rfl; kernel_rfl; kernel_rfl; kernel_rfl; exact rfl; (apply ay_nilCheck; exact rfl; exact rfl))
                  (apply az_take 20; exact rfl; kernel_rfl; kernel_rfl; kernel_rfl; exact rfl; (first | (apply ay_fieldAddr_bx; exact rfl; exact rfl; exact rfl) | (apply ay_fieldAddr_pp; exact rfl; exact rfl; exact rfl; exact rfl)))
                  refine az_all [21] (by kernel_rfl) rfl ⟨⟨_, rfl, ?_⟩, trivial⟩
                  (first | (apply aops_store_at; exact rfl; exact rfl; exact ho4; exact rfl; exact rfl; exact rfl; exact rfl; exact rfl; exact rfl) | (apply aops_store_mid; exact rfl; exact rfl; exact rfl; exact rfl; exact rfl; exact rfl; exact rfl; exact rfl; exact rfl; exact rfl; exact rfl) | (apply aops_store_loc; exact rfl; exact rfl; exact rfl; exact rfl; exact rfl; exact rfl; exact rfl; exact rfl; exact rfl; exact rfl; exact rfl))
                  apply aops_nil
                  refine az_done (by kernel_rfl) ?_
                  exact ⟨rfl, rfl, par_items PX g1 g2 g3 g4, (hkX.trans (keep_fr g3 hleX g2 PX.h2 g4)).trans keep_set⟩
                · (apply aops_buildSlice; exact rfl; exact rfl; exact rfl; exact rfl; exact rfl; exact rfl; exact rfl; exact rfl; exact rfl)
                  apply aops_nil
                  refine az_all [4] (by kernel_rfl) rfl ⟨⟨_, rfl, ?_⟩, trivial⟩
                  (first | (apply aops_load_bx; exact rfl; exact hobX; exact rfl; exact rfl; apply aops_weak 44 rfl (weak_tipC PX.h4)) | (apply aops_load_bx; exact rfl; exact hobX; exact rfl; exact rfl) | (apply aops_load_mid; exact rfl; exact rfl; exact rfl; exact rfl; exact rfl) | (apply aops_load_loc; exact rfl; exact rfl; exact rfl; exact rfl; exact rfl) | (apply aops_load_pp; exact rfl; exact rfl; exact rfl))
                  apply aops_nil
                  refine az_all [18] (by kernel_rfl) rfl ⟨⟨_, rfl, ?_⟩, trivial⟩
                  (first | (refine aops_call1 Tryz.call80 (joinB_c bk _ _ hbk (by omega) hbv) ?_) | (apply aops_appendT (b := b) (xs := its.map itemA) (ys := [itemA ⟨KX, Lib.join bk [10] ++ [10], fs⟩]) (bytes := 48); exact rfl; exact rfl; exact PX.h2; exact hleX; exact rfl; exact rfl; exact rfl; exact ⟨⟨_, _, rfl, rfl, rfl, rfl, rfl⟩⟩; exact rfl; (simp [maxLen]; omega); (simp; omega); intro t4 st4 g1 g2 g3 g4; have ho4 := (g3.same o (by omega) holX).trans hobX))
                  apply aops_nil
                  (apply az_take 19; exact rfl; kernel_rfl; kernel_rfl; kernel_rfl; exact rfl; (apply ay_nilCheck; exact rfl; exact rfl))
                  (apply az_take 20; exact rfl; kernel_rfl; kernel_rfl; kernel_rfl; exact rfl; (first | (apply ay_fieldAddr_bx; exact rfl; exact rfl; exact rfl) | (apply ay_fieldAddr_pp; exact rfl; exact rfl; exact rfl; exact rfl)))
                  refine az_all [21] (by kernel_rfl) rfl ⟨⟨_, rfl, ?_⟩, trivial⟩
                  (first | (apply aops_store_at; exact rfl; exact rfl; exact ho4; exact rfl; exact rfl; exact rfl; exact rfl; exact rfl; exact rfl) | (apply aops_store_mid; exact rfl; exact rfl; exact rfl; exact rfl; exact rfl; exact rfl; exact rfl; exact rfl; exact rfl; exact rfl; exact rfl) | (apply aops_store_loc; exact rfl; exact rfl; exact rfl; exact rfl; exact rfl; exact rfl; exact rfl; exact rfl; exact rfl; exact rfl; exact rfl))
                  apply aops_nil
                  refine az_done (by kernel_rfl) ?_
                  exact ⟨rfl, rfl, par_items PX g1 g2 g3 g4, (hkX.trans (keep_fr g3 hleX g2 PX.h2 g4)).trans keep_set⟩
        · rintro ⟨t2, st2, df2⟩ ⟨h20, hd, hp2, hk2⟩
          simp only at h20 hd hp2 hk2
          subst hd
          obtain ⟨d1, d2, d3, d4, P2⟩ := hp2
          have hob2 : st2[o]? = some (.cells 0 140 [d1, Iv fr, Bv fu, d2, d3, d4, Iv rcX]) := P2.ob
          have ht2 : t2 = puts t2 [(0, .bx o 0 0)] := (puts_of (L := [(0, .bx o 0 0)]) ⟨h20, trivial⟩).symm
          rw [ht2]
          repeat' (first
            | apply awp_seq
            | apply awp_region
            | apply aops_nil
            | apply aops_move
            | apply aops_assign
            | (apply aops_fieldAddr_bx; exact rfl; exact rfl; exact rfl)
            | (apply aops_nilCheck; exact rfl; exact rfl)
            | apply awp_ret
            | (apply aops_store_at; exact rfl; exact rfl; exact hob2; exact rfl; exact rfl; exact rfl; exact rfl; exact rfl; exact rfl)
            | (apply aops_store_at; exact rfl; exact rfl; exact get_set hob2; exact rfl; exact rfl; exact rfl; exact rfl; exact rfl; exact rfl))
          refine aret_plain rfl (ares_one rfl) ⟨rfl, fun _ => ?_, hk2.trans (keep_set.trans keep_set)⟩
          rw [hcl]
          exact par_clear P2
      · have hz4 : 0 < (fs.map fldA).length := by rw [List.length_map]; exact List.length_pos_iff.2 hfs
        have hcl : closeP ⟨ls, fr, fu, its, bk, fs, rc⟩ = ⟨ls, fr, fu, its ++ [⟨3, Lib.join bk [10] ++ [10], fs⟩], [], [], rc + 1⟩ := by
          unfold closeP
          rw [if_neg hbk, hjt]
          simp [hfs]
        repeat' (first
          | apply awp_seq
          | apply awp_region
          | apply aops_nil
          | apply aops_move
          | apply aops_assign
          | (apply aops_cmpI; exact rfl; exact rfl; exact rfl)
          | (apply awp_cond_any; exact rfl; first | (apply cd_dt; (first | assumption | omega)) | (apply cd_df; (first | assumption | omega)) | (apply cd_nt; (first | exact rfl | assumption)) | (apply cd_nf; (first | exact rfl | assumption)) | (apply cd_n <;> intro h) | (apply cd_t; (first | exact rfl | assumption)) | (apply cd_f; (first | exact rfl | assumption)) | (apply cd_d <;> intro h) | (apply cd_s <;> intro h))
          | (apply aops_lenL; exact rfl; exact rfl; exact rfl; exact rfl)
          | (apply aops_add; exact rfl; exact rfl; exact wrap_i64 (by omega) (by omega))
          | (apply aops_nilNeNil; exact rfl; exact rfl)
          | (apply aops_fieldAddr_bx; exact rfl; exact rfl; exact rfl)
          | (apply aops_nilCheck; exact rfl; exact rfl)
          | apply awp_skip
          | (apply aops_load_bx; exact rfl; exact hob; exact rfl; exact rfl)
          | (apply aops_lenL; exact rfl; exact hl4; exact rfl; exact rfl)
          | (apply aops_store_at; exact rfl; exact rfl; exact hob; exact rfl; exact rfl; exact rfl; exact rfl; exact rfl; exact rfl))
        obtain ⟨rcX, hrX⟩ : ∃ x, x = rc + 1 := ⟨_, rfl⟩
        obtain ⟨stX, hsX⟩ : ∃ x, x = st1.set o (parO c1 c2 (.sl 1 (bk.map fun x => Sv x) (some t3)) c4 ⟨ls, fr, fu, its, bk, fs, rcX⟩) := ⟨_, rfl⟩
        obtain ⟨KX, hKX⟩ : ∃ x : Int, x = 3 := ⟨_, rfl⟩
        have PX : ParS b o ⟨ls, fr, fu, its, bk, fs, rcX⟩ stX c1 c2 (.sl 1 (bk.map fun x => Sv x) (some t3)) c4 := by rw [hsX]; exact par_rec P rcX
        have hkX : Keep b o st stX := by rw [hsX]; exact hk.trans keep_set
        replace hcl : closeP ⟨ls, fr, fu, its, bk, fs, rc⟩ = ⟨ls, fr, fu, its ++ [⟨KX, Lib.join bk [10] ++ [10], fs⟩], [], [], rcX⟩ := by rw [hKX, hrX]; exact hcl
        refine awp_state [(0, .bx o 0 0), (4, Iv KX)] stX [] ⟨rfl, (congrArg Iv hKX).symm, trivial⟩ (by rw [hsX, hrX]; rfl) rfl fun t => ?_
        have hleX := PX.le
        have holX : o < stX.length := by omega
        have hobX : stX[o]? = some (.cells 0 140 [c1, Iv fr, Bv fu, c2, .sl 1 (bk.map fun x => Sv x) (some t3), c4, Iv rcX]) := PX.ob
        refine awp_cut (fun s => s.t 0 = .bx o 0 0 ∧ s.df = [] ∧ Par b o ⟨ls, fr, fu, its ++ [⟨KX, Lib.join bk [10] ++ [10], fs⟩], bk, fs, rcX⟩ s.st ∧ Keep b o st s.st) ?_ ?_
        · refine awp_drawZ rfl rfl ?_
          (apply az_take 0; exact rfl; kernel_rfl; kernel_rfl; kernel_rfl; exact rfl; exact ay_move)
          (apply az_take 1; exact rfl; kernel_rfl; kernel_rfl; kernel_rfl; exact rfl; exact ay_move)
          (apply az_take 2; exact rfl; kernel_rfl; kernel_rfl; kernel_rfl; exact rfl; (apply ay_nilCheck; exact rfl; exact rfl))
          (apply az_take 3; exact rfl; kernel_rfl; kernel_rfl; kernel_rfl; exact rfl; (first | (apply ay_fieldAddr_bx; exact rfl; exact rfl; exact rfl) | (apply ay_fieldAddr_pp; exact rfl; exact rfl; exact rfl; exact rfl)))
          (apply az_take 5; exact rfl; kernel_rfl; kernel_rfl; kernel_rfl; exact rfl; exact ay_move)
          (apply az_take 6; exact rfl; kernel_rfl; kernel_rfl; kernel_rfl; exact rfl; exact ay_move)
          (apply az_take 7; exact rfl; kernel_rfl; kernel_rfl; kernel_rfl; exact rfl; (apply ay_nilCheck; exact rfl; exact rfl))
          (apply az_take 8; exact rfl; kernel_rfl; kernel_rfl; kernel_rfl; exact rfl; (first | (apply ay_fieldAddr_bx; exact rfl; exact rfl; exact rfl) | (apply ay_fieldAddr_pp; exact rfl; exact rfl; exact rfl; exact rfl)))
          (apply az_take 12; exact rfl; kernel_rfl; kernel_rfl; kernel_rfl; exact rfl; exact ay_move)
          (apply az_take 13; exact rfl; kernel_rfl; kernel_rfl; kernel_rfl; exact rfl; (apply ay_nilCheck; exact rfl; exact rfl))
          (apply az_take 14; exact rfl; kernel_rfl; kernel_rfl; kernel_rfl; exact rfl; (first | (apply ay_fieldAddr_bx; exact rfl; exact rfl; exact rfl) | (apply ay_fieldAddr_pp; exact rfl; exact rfl; exact rfl; exact rfl)))
          refine az_all [4, 9, 15] (by kernel_rfl) rfl ⟨⟨_, rfl, ?_⟩, ⟨_, rfl, ?_⟩, ⟨_, rfl, ?_⟩, trivial⟩
          · (first | (apply aops_load_bx; exact rfl; exact hobX; exact rfl; exact rfl; apply aops_weak 44 rfl (weak_tipC PX.h4)) | (apply aops_load_bx; exact rfl; exact hobX; exact rfl; exact rfl) | (apply aops_load_mid; exact rfl; exact rfl; exact rfl; exact rfl; exact rfl) | (apply aops_load_loc; exact rfl; exact rfl; exact rfl; exact rfl; exact rfl) | (apply aops_load_pp; exact rfl; exact rfl; exact rfl))
            apply aops_nil
            refine az_all [9, 15] (by kernel_rfl) rfl ⟨⟨_, rfl, ?_⟩, ⟨_, rfl, ?_⟩, trivial⟩
            · (first | (apply aops_load_bx; exact rfl; exact hobX; exact rfl; exact rfl; apply aops_weak 44 rfl (weak_tipC PX.h4)) | (apply aops_load_bx; exact rfl; exact hobX; exact rfl; exact rfl) | (apply aops_load_mid; exact rfl; exact rfl; exact rfl; exact rfl; exact rfl) | (apply aops_load_loc; exact rfl; exact rfl; exact rfl; exact rfl; exact rfl) | (apply aops_load_pp; exact rfl; exact rfl; exact rfl))
              apply aops_nil
              refine az_all [10, 15] (by kernel_rfl) rfl ⟨⟨_, rfl, ?_⟩, ⟨_, rfl, ?_⟩, trivial⟩
              · (first | (refine aops_call1 Tryz.call80 (joinB_c bk _ _ hbk (by omega) hbv) ?_) | (apply aops_appendT (b := b) (xs := its.map itemA) (ys := [itemA ⟨KX, Lib.join bk [10] ++ [10], fs⟩]) (bytes := 48); exact rfl; exact rfl; exact PX.h2; exact hleX; exact rfl; exact rfl; exact rfl; exact ⟨⟨_, _, rfl, rfl, rfl, rfl, rfl⟩⟩; exact rfl; (simp [maxLen]; omega); (simp; omega); intro t4 st4 g1 g2 g3 g4; have ho4 := (g3.same o (by omega) holX).trans hobX))
                apply aops_nil
                (apply az_take 11; exact rfl; kernel_rfl; kernel_rfl; kernel_rfl; exact rfl; (apply ay_concat; exact rfl; exact rfl; (first | omega | (simp only [List.length_append, List.length_cons, List.length_nil]; omega))))
                refine az_all [15] (by kernel_rfl) rfl ⟨⟨_, rfl, ?_⟩, trivial⟩
                (first | (apply aops_load_bx; exact rfl; exact hobX; exact rfl; exact rfl; apply aops_weak 44 rfl (weak_tipC PX.h4)) | (apply aops_load_bx; exact rfl; exact hobX; exact rfl; exact rfl) | (apply aops_load_mid; exact rfl; exact rfl; exact rfl; exact rfl; exact rfl) | (apply aops_load_loc; exact rfl; exact rfl; exact rfl; exact rfl; exact rfl) | (apply aops_load_pp; exact rfl; exact rfl; exact rfl))
                apply aops_nil
                (apply az_take 16; exact rfl; kernel_rfl; kernel_rfl; kernel_rfl; exact rfl; (apply ay_build; exact rfl; exact rfl; exact rfl))
                refine az_all [17] (by kernel_rfl) rfl ⟨⟨_, rfl, ?_⟩, trivial⟩
                (apply aops_buildSlice; exact rfl; exact rfl; exact rfl; exact rfl; exact rfl; exact rfl; exact rfl; exact rfl; exact rfl)
                apply aops_nil
                refine az_all [18] (by kernel_rfl) rfl ⟨⟨_, rfl, ?_⟩, trivial⟩
                (first | (refine aops_call1 Tryz.call80 (joinB_c bk _ _ hbk (by omega) hbv) ?_) | (apply aops_appendT (b := b) (xs := its.map itemA) (ys := [itemA ⟨KX, Lib.join bk [10] ++ [10], fs⟩]) (bytes := 48); exact rfl; exact rfl; exact PX.h2; exact hleX; exact rfl; exact rfl; exact rfl; exact ⟨⟨_, _, rfl, rfl, rfl, rfl, rfl⟩⟩; exact rfl; (simp [maxLen]; omega); (simp; omega); intro t4 st4 g1 g2 g3 g4; have ho4 := (g3.same o (by omega) holX).trans hobX))
                apply aops_nil
                (apply az_take 19; exact rfl; kernel_rfl; kernel_rfl; kernel_rfl; exact rfl; (apply ay_nilCheck; exact rfl; exact rfl))
                (apply az_take 20; exact rfl; kernel_rfl; kernel_rfl; kernel_rfl; exact rfl; (first | (apply ay_fieldAddr_bx; exact rfl; exact rfl; exact rfl) | (apply ay_fieldAddr_pp; exact rfl; exact rfl; exact rfl; exact rfl)))
                refine az_all [21] (by kernel_rfl) rfl ⟨⟨_, rfl, ?_⟩, trivial⟩
                (first | (apply aops_store_at; exact rfl; exact rfl; exact ho4; exact rfl; exact rfl; exact rfl; exact rfl; exact rfl; exact rfl) | (apply aops_store_mid; exact rfl; exact rfl; exact rfl; exact rfl; exact rfl; exact rfl; exact rfl; exact rfl; exact rfl; exact rfl; exact rfl) | (apply aops_store_loc; exact rfl; exact rfl; exact rfl; exact rfl; exact rfl; exact rfl; exact rfl; exact rfl; exact rfl; exact rfl; exact rfl))
                apply aops_nil
                refine az_done (by kernel_rfl) ?_
                exact ⟨rfl, rfl, par_items PX g1 g2 g3 g4, (hkX.trans (keep_fr g3 hleX g2 PX.h2 g4)).trans keep_set⟩
              · (first | (apply aops_load_bx; exact rfl; exact hobX; exact rfl; exact rfl; apply aops_weak 44 rfl (weak_tipC PX.h4)) | (apply aops_load_bx; exact rfl; exact hobX; exact rfl; exact rfl) | (apply aops_load_mid; exact rfl; exact rfl; exact rfl; exact rfl; exact rfl) | (apply aops_load_loc; exact rfl; exact rfl; exact rfl; exact rfl; exact rfl) | (apply aops_load_pp; exact rfl; exact rfl; exact rfl))
                apply aops_nil
                refine az_all [10] (by kernel_rfl) rfl ⟨⟨_, rfl, ?_⟩, trivial⟩
                (first | (refine aops_call1 Tryz.call80 (joinB_c bk _ _ hbk (by omega) hbv) ?_) | (apply aops_appendT (b := b) (xs := its.map itemA) (ys := [itemA ⟨KX, Lib.join bk [10] ++ [10], fs⟩]) (bytes := 48); exact rfl; exact rfl; exact PX.h2; exact hleX; exact rfl; exact rfl; exact rfl; exact ⟨⟨_, _, rfl, rfl, rfl, rfl, rfl⟩⟩; exact rfl; (simp [maxLen]; omega); (simp; omega); intro t4 st4 g1 g2 g3 g4; have ho4 := (g3.same o (by omega) holX).trans hobX))
                apply aops_nil
                (apply az_take 11; exact rfl; kernel_rfl; kernel_rfl; kernel_rfl; exact rfl; (apply ay_concat; exact rfl; exact rfl; (first | omega | (simp only [List.length_append, List.length_cons, List.length_nil]; omega))))
                (apply az_take 16; exact rfl; kernel_rfl; kernel_rfl; kernel_rfl; exact rfl; (apply ay_build; exact rfl; exact rfl; exact rfl))
                refine az_all [17] (by kernel_rfl) rfl ⟨⟨_, rfl, ?_⟩, trivial⟩
                (apply aops_buildSlice; exact rfl; exact rfl; exact rfl; exact rfl; exact rfl; exact rfl; exact rfl; exact rfl; exact rfl)
                apply aops_nil
                refine az_all [18] (by kernel_rfl) rfl ⟨⟨_, rfl, ?_⟩, trivial⟩
                (first | (refine aops_call1 Tryz.call80 (joinB_c bk _ _ hbk (by omega) hbv) ?_) | (apply aops_appendT (b := b) (xs := its.map itemA) (ys := [itemA ⟨KX, Lib.join bk [10] ++ [10], fs⟩]) (bytes := 48); exact rfl; exact rfl; exact PX.h2; exact hleX; exact rfl; exact rfl; exact rfl; exact ⟨⟨_, _, rfl, rfl, rfl, rfl, rfl⟩⟩; exact rfl; (simp [maxLen]; omega); (simp; omega); intro t4 st4 g1 g2 g3 g4; have ho4 := (g3.same o (by omega) holX).trans hobX))
                apply aops_nil
                (apply az_take 19; exact rfl; kernel_rfl; kernel_rfl; kernel_rfl; exact rfl; (apply ay_nilCheck; exact rfl; exact rfl))
                (apply az_take 20; exact rfl; kernel_rfl; kernel_rfl; kernel_rfl; exact rfl; (first | (apply ay_fieldAddr_bx; exact rfl; exact rfl; exact rfl) | (apply ay_fieldAddr_pp; exact rfl; exact rfl; exact rfl; exact rfl)))
                refine az_all [21] (by kernel_rfl) rfl ⟨⟨_, rfl, ?_⟩, trivial⟩
                (first | (apply aops_store_at; exact rfl; exact rfl; exact ho4; exact rfl; exact rfl; exact rfl; exact rfl; exact rfl; exact rfl) | (apply aops_store_mid; exact rfl; exact rfl; exact rfl; exact rfl; exact rfl; exact rfl; exact rfl; exact rfl; exact rfl; exact rfl; exact rfl) | (apply aops_store_loc; exact rfl; exact rfl; exact rfl; exact rfl; exact rfl; exact rfl; exact rfl; exact rfl; exact rfl; exact rfl; exact rfl))
                apply aops_nil
                refine az_done (by kernel_rfl) ?_
                exact ⟨rfl, rfl, par_items PX g1 g2 g3 g4, (hkX.trans (keep_fr g3 hleX g2 PX.h2 g4)).trans keep_set⟩
            · (first | (apply aops_load_bx; exact rfl; exact hobX; exact rfl; exact rfl; apply aops_weak 44 rfl (weak_tipC PX.h4)) | (apply aops_load_bx; exact rfl; exact hobX; exact rfl; exact rfl) | (apply aops_load_mid; exact rfl; exact rfl; exact rfl; exact rfl; exact rfl) | (apply aops_load_loc; exact rfl; exact rfl; exact rfl; exact rfl; exact rfl) | (apply aops_load_pp; exact rfl; exact rfl; exact rfl))
              apply aops_nil
              refine az_all [9] (by kernel_rfl) rfl ⟨⟨_, rfl, ?_⟩, trivial⟩
              (first | (apply aops_load_bx; exact rfl; exact hobX; exact rfl; exact rfl; apply aops_weak 44 rfl (weak_tipC PX.h4)) | (apply aops_load_bx; exact rfl; exact hobX; exact rfl; exact rfl) | (apply aops_load_mid; exact rfl; exact rfl; exact rfl; exact rfl; exact rfl) | (apply aops_load_loc; exact rfl; exact rfl; exact rfl; exact rfl; exact rfl) | (apply aops_load_pp; exact rfl; exact rfl; exact rfl))
              apply aops_nil
              refine az_all [10] (by kernel_rfl) rfl ⟨⟨_, rfl, ?_⟩, trivial⟩
              (first | (refine aops_call1 Tryz.call80 (joinB_c bk _ _ hbk (by omega) hbv) ?_) | (apply aops_appendT (b := b) (xs := its.map itemA) (ys := [itemA ⟨KX, Lib.join bk [10] ++ [10], fs⟩]) (bytes := 48); exact rfl; exact rfl; exact PX.h2; exact hleX; exact rfl; exact rfl; exact rfl; exact ⟨⟨_, _, rfl, rfl, rfl, rfl, rfl⟩⟩; exact rfl; (simp [maxLen]; omega); (simp; omega); intro t4 st4 g1 g2 g3 g4; have ho4 := (g3.same o (by omega) holX).trans hobX))
              apply aops_nil
              (apply az_take 11; exact rfl; kernel_rfl; kernel_rfl; kernel_rfl; exact rfl; (apply ay_concat; exact rfl; exact rfl; (first | omega | (simp only [List.length_append, List.length_cons, List.length_nil]; omega))))
              (apply az_take 16; exact rfl; kernel_rfl; kernel_rfl; kernel_rfl; exact rfl; (apply ay_build; exact rfl; exact rfl; exact rfl))
              refine az_all [17] (by kernel_rfl) rfl ⟨⟨_, rfl, ?_⟩, trivial⟩
              (apply aops_buildSlice; exact rfl; exact rfl; exact rfl; exact rfl; exact rfl; exact rfl; exact rfl; exact rfl; exact rfl)
              apply aops_nil
              refine az_all [18] (by kernel_rfl) rfl ⟨⟨_, rfl, ?_⟩, trivial⟩
              (first | (refine aops_call1 Tryz.call80 (joinB_c bk _ _ hbk (by omega) hbv) ?_) | (apply aops_appendT (b := b) (xs := its.map itemA) (ys := [itemA ⟨KX, Lib.join bk [10] ++ [10], fs⟩]) (bytes := 48); exact rfl; exact rfl; exact PX.h2; exact hleX; exact rfl; exact rfl; exact rfl; exact ⟨⟨_, _, rfl, rfl, rfl, rfl, rfl⟩⟩; exact rfl; (simp [maxLen]; omega); (simp; omega); intro t4 st4 g1 g2 g3 g4; have ho4 := (g3.same o (by omega) holX).trans hobX))
              apply aops_nil
              (apply az_take 19; exact rfl; kernel_rfl; kernel_rfl; kernel_rfl; exact rfl; (apply ay_nilCheck; exact rfl; exact rfl))
              (apply az_take 20; exact rfl; kernel_rfl; kernel_rfl; kernel_rfl; exact rfl; (first | (apply ay_fieldAddr_bx; exact rfl; exact rfl; exact rfl) | (apply ay_fieldAddr_pp; exact rfl; exact rfl; exact rfl; exact rfl)))
              refine az_all [21] (by kernel_rfl) rfl ⟨⟨_, rfl, ?_⟩, trivial⟩
              (first | (apply aops_store_at; exact rfl; exact rfl; exact ho4; exact rfl; exact rfl; exact rfl; exact rfl; exact rfl; exact rfl) | (apply aops_store_mid; exact rfl; exact rfl; exact rfl; exact rfl; exact rfl; exact rfl; exact rfl; exact rfl; exact rfl; exact rfl; exact rfl) | (apply aops_store_loc; exact rfl; exact rfl; exact rfl; exact rfl; exact rfl; exact rfl; exact rfl; exact rfl; exact rfl; exact rfl; exact rfl))
              apply aops_nil
              refine az_done (by kernel_rfl) ?_
              exact ⟨rfl, rfl, par_items PX g1 g2 g3 g4, (hkX.trans (keep_fr g3 hleX g2 PX.h2 g4)).trans keep_set⟩
          · (first | (apply aops_load_bx; exact rfl; exact hobX; exact rfl; exact rfl; apply aops_weak 44 rfl (weak_tipC PX.h4)) | (apply aops_load_bx; exact rfl; exact hobX; exact rfl; exact rfl) | (apply aops_load_mid; exact rfl; exact rfl; exact rfl; exact rfl; exact rfl) | (apply aops_load_loc; exact rfl; exact rfl; exact rfl; exact rfl; exact rfl) | (apply aops_load_pp; exact rfl; exact rfl; exact rfl))
            apply aops_nil
            refine az_all [4, 10, 15] (by kernel_rfl) rfl ⟨⟨_, rfl, ?_⟩, ⟨_, rfl, ?_⟩, ⟨_, rfl, ?_⟩, trivial⟩
            · (first | (apply aops_load_bx; exact rfl; exact hobX; exact rfl; exact rfl; apply aops_weak 44 rfl (weak_tipC PX.h4)) | (apply aops_load_bx; exact rfl; exact hobX; exact rfl; exact rfl) | (apply aops_load_mid; exact rfl; exact rfl; exact rfl; exact rfl; exact rfl) | (apply aops_load_loc; exact rfl; exact rfl; exact rfl; exact rfl; exact rfl) | (apply aops_load_pp; exact rfl; exact rfl; exact rfl))
              apply aops_nil
              refine az_all [10, 15] (by kernel_rfl) rfl ⟨⟨_, rfl, ?_⟩, ⟨_, rfl, ?_⟩, trivial⟩
              · (first | (refine aops_call1 Tryz.call80 (joinB_c bk _ _ hbk (by omega) hbv) ?_) | (apply aops_appendT (b := b) (xs := its.map itemA) (ys := [itemA ⟨KX, Lib.join bk [10] ++ [10], fs⟩]) (bytes := 48); exact rfl; exact rfl; exact PX.h2; exact hleX; exact rfl; exact rfl; exact rfl; exact ⟨⟨_, _, rfl, rfl, rfl, rfl, rfl⟩⟩; exact rfl; (simp [maxLen]; omega); (simp; omega); intro t4 st4 g1 g2 g3 g4; have ho4 := (g3.same o (by omega) holX).trans hobX))
                apply aops_nil
                (apply az_take 11; exact rfl; kernel_rfl; kernel_rfl; kernel_rfl; exact rfl; (apply ay_concat; exact rfl; exact rfl; (first | omega | (simp only [List.length_append, List.length_cons, List.length_nil]; omega))))
                refine az_all [15] (by kernel_rfl) rfl ⟨⟨_, rfl, ?_⟩, trivial⟩
                (first | (apply aops_load_bx; exact rfl; exact hobX; exact rfl; exact rfl; apply aops_weak 44 rfl (weak_tipC PX.h4)) | (apply aops_load_bx; exact rfl; exact hobX; exact rfl; exact rfl) | (apply aops_load_mid; exact rfl; exact rfl; exact rfl; exact rfl; exact rfl) | (apply aops_load_loc; exact rfl; exact rfl; exact rfl; exact rfl; exact rfl) | (apply aops_load_pp; exact rfl; exact rfl; exact rfl))
                apply aops_nil
                (apply az_take 16; exact rfl; kernel_rfl; kernel_rfl; kernel_rfl; exact rfl; (apply ay_build; exact rfl; exact rfl; exact rfl))
                refine az_all [17] (by kernel_rfl) rfl ⟨⟨_, rfl, ?_⟩, trivial⟩
                (apply aops_buildSlice; exact rfl; exact rfl; exact rfl; exact rfl; exact rfl; exact rfl; exact rfl; exact rfl; exact rfl)
                apply aops_nil
                refine az_all [18] (by kernel_rfl) rfl ⟨⟨_, rfl, ?_⟩, trivial⟩
                (first | (refine aops_call1 Tryz.call80 (joinB_c bk _ _ hbk (by omega) hbv) ?_) | (apply aops_appendT (b := b) (xs := its.map itemA) (ys := [itemA ⟨KX, Lib.join bk [10] ++ [10], fs⟩]) (bytes := 48); exact rfl; exact rfl; exact PX.h2; exact hleX; exact rfl; exact rfl; exact rfl; exact ⟨⟨_, _, rfl, rfl, rfl, rfl, rfl⟩⟩; exact rfl; (simp [maxLen]; omega); (simp; omega); intro t4 st4 g1 g2 g3 g4; have ho4 := (g3.same o (by omega) holX).trans hobX))
                apply aops_nil
                (apply az_take 19; exact rfl; kernel_rfl; kernel_rfl; kernel_rfl; exact rfl; (apply ay_nilCheck; exact rfl; exact rfl))
                (apply az_take 20; exact rfl; kernel_rfl; kernel_rfl; kernel_rfl; exact rfl; (first | (apply ay_fieldAddr_bx; exact rfl; exact rfl; exact rfl) | (apply ay_fieldAddr_pp; exact rfl; exact rfl; exact rfl; exact rfl)))
                refine az_all [21] (by kernel_rfl) rfl ⟨⟨_, rfl, ?_⟩, trivial⟩
                (first | (apply aops_store_at; exact rfl; exact rfl; exact ho4; exact rfl; exact rfl; exact rfl; exact rfl; exact rfl; exact rfl) | (apply aops_store_mid; exact rfl; exact rfl; exact rfl; exact rfl; exact rfl; exact rfl; exact rfl; exact rfl; exact rfl; exact rfl; exact rfl) | (apply aops_store_loc; exact rfl; exact rfl; exact rfl; exact rfl; exact rfl; exact rfl; exact rfl; exact rfl; exact rfl; exact rfl; exact rfl))
                apply aops_nil
                refine az_done (by kernel_rfl) ?_
                exact ⟨rfl, rfl, par_items PX g1 g2 g3 g4, (hkX.trans (keep_fr g3 hleX g2 PX.h2 g4)).trans keep_set⟩
              · (first | (apply aops_load_bx; exact rfl; exact hobX; exact rfl; exact rfl; apply aops_weak 44 rfl (weak_tipC PX.h4)) | (apply aops_load_bx; exact rfl; exact hobX; exact rfl; exact rfl) | (apply aops_load_mid; exact rfl; exact rfl; exact rfl; exact rfl; exact rfl) | (apply aops_load_loc; exact rfl; exact rfl; exact rfl; exact rfl; exact rfl) | (apply aops_load_pp; exact rfl; exact rfl; exact rfl))
                apply aops_nil
                refine az_all [10] (by kernel_rfl) rfl ⟨⟨_, rfl, ?_⟩, trivial⟩
                (first | (refine aops_call1 Tryz.call80 (joinB_c bk _ _ hbk (by omega) hbv) ?_) | (apply aops_appendT (b := b) (xs := its.map itemA) (ys := [itemA ⟨KX, Lib.join bk [10] ++ [10], fs⟩]) (bytes := 48); exact rfl; exact rfl; exact PX.h2; exact hleX; exact rfl; exact rfl; exact rfl; exact ⟨⟨_, _, rfl, rfl, rfl, rfl, rfl⟩⟩; exact rfl; (simp [maxLen]; omega); (simp; omega); intro t4 st4 g1 g2 g3 g4; have ho4 := (g3.same o (by omega) holX).trans hobX))
                apply aops_nil
                (apply az_take 11; exact rfl; kernel_rfl; kernel_rfl; kernel_rfl; exact rfl; (apply ay_concat; exact rfl; exact rfl; (first | omega | (simp only [List.length_append, List.length_cons, List.length_nil]; omega))))
                (apply az_take 16; exact rfl; kernel_rfl; kernel_rfl; kernel_rfl; exact rfl; (apply ay_build; exact rfl; exact rfl; exact rfl))
                refine az_all [17] (by kernel_rfl) rfl ⟨⟨_, rfl, ?_⟩, trivial⟩
                (apply aops_buildSlice; exact rfl; exact rfl; exact rfl; exact rfl; exact rfl; exact rfl; exact rfl; exact rfl; exact rfl)
                apply aops_nil
                refine az_all [18] (by kernel_rfl) rfl ⟨⟨_, rfl, ?_⟩, trivial⟩
                (first | (refine aops_call1 Tryz.call80 (joinB_c bk _ _ hbk (by omega) hbv) ?_) | (apply aops_appendT (b := b) (xs := its.map itemA) (ys := [itemA ⟨KX, Lib.join bk [10] ++ [10], fs⟩]) (bytes := 48); exact rfl; exact rfl; exact PX.h2; exact hleX; exact rfl; exact rfl; exact rfl; exact ⟨⟨_, _, rfl, rfl, rfl, rfl, rfl⟩⟩; exact rfl; (simp [maxLen]; omega); (simp; omega); intro t4 st4 g1 g2 g3 g4; have ho4 := (g3.same o (by omega) holX).trans hobX))
                apply aops_nil
                (apply az_take 19; exact rfl; kernel_rfl; kernel_rfl; kernel_rfl; exact rfl; (apply ay_nilCheck; exact rfl; exact rfl))
                (apply az_take 20; exact rfl; kernel_rfl; kernel_rfl; kernel_rfl; exact rfl; (first | (apply ay_fieldAddr_bx; exact rfl; exact rfl; exact rfl) | (apply ay_fieldAddr_pp; exact rfl; exact rfl; exact rfl; exact rfl)))
                refine az_all [21] (by kernel_rfl) rfl ⟨⟨_, rfl, ?_⟩, trivial⟩
                (first | (apply aops_store_at; exact rfl; exact rfl; exact ho4; exact rfl; exact rfl; exact rfl; exact rfl; exact rfl; exact rfl) | (apply aops_store_mid; exact rfl; exact rfl; exact rfl; exact rfl; exact rfl; exact rfl; exact rfl; exact rfl; exact rfl; exact rfl; exact rfl) | (apply aops_store_loc; exact rfl; exact rfl; exact rfl; exact rfl; exact rfl; exact rfl; exact rfl; exact rfl; exact rfl; exact rfl; exact rfl))
                apply aops_nil
                refine az_done (by kernel_rfl) ?_
                exact ⟨rfl, rfl, par_items PX g1 g2 g3 g4, (hkX.trans (keep_fr g3 hleX g2 PX.h2 g4)).trans keep_set⟩
            · (first | (refine aops_call1 Tryz.call80 (joinB_c bk _ _ hbk (by omega) hbv) ?_) | (apply aops_appendT (b := b) (xs := its.map itemA) (ys := [itemA ⟨KX, Lib.join bk [10] ++ [10], fs⟩]) (bytes := 48); exact rfl; exact rfl; exact PX.h2; exact hleX; exact rfl; exact rfl; exact rfl; exact ⟨⟨_, _, rfl, rfl, rfl, rfl, rfl⟩⟩; exact rfl; (simp [maxLen]; omega); (simp; omega); intro t4 st4 g1 g2 g3 g4; have ho4 := (g3.same o (by omega) holX).trans hobX))
              apply aops_nil
              (apply az_take 11; exact rfl; kernel_rfl; kernel_rfl; kernel_rfl; exact rfl; (apply ay_concat; exact rfl; exact rfl; (first | omega | (simp only [List.length_append, List.length_cons, List.length_nil]; omega))))
              refine az_all [4, 15] (by kernel_rfl) rfl ⟨⟨_, rfl, ?_⟩, ⟨_, rfl, ?_⟩, trivial⟩
              · (first | (apply aops_load_bx; exact rfl; exact hobX; exact rfl; exact rfl; apply aops_weak 44 rfl (weak_tipC PX.h4)) | (apply aops_load_bx; exact rfl; exact hobX; exact rfl; exact rfl) | (apply aops_load_mid; exact rfl; exact rfl; exact rfl; exact rfl; exact rfl) | (apply aops_load_loc; exact rfl; exact rfl; exact rfl; exact rfl; exact rfl) | (apply aops_load_pp; exact rfl; exact rfl; exact rfl))
                apply aops_nil
                refine az_all [15] (by kernel_rfl) rfl ⟨⟨_, rfl, ?_⟩, trivial⟩
                (first | (apply aops_load_bx; exact rfl; exact hobX; exact rfl; exact rfl; apply aops_weak 44 rfl (weak_tipC PX.h4)) | (apply aops_load_bx; exact rfl; exact hobX; exact rfl; exact rfl) | (apply aops_load_mid; exact rfl; exact rfl; exact rfl; exact rfl; exact rfl) | (apply aops_load_loc; exact rfl; exact rfl; exact rfl; exact rfl; exact rfl) | (apply aops_load_pp; exact rfl; exact rfl; exact rfl))
                apply aops_nil
                (apply az_take 16; exact rfl; kernel_rfl; kernel_rfl; kernel_rfl; exact rfl; (apply ay_build; exact rfl; exact rfl; exact rfl))
                refine az_all [17] (by kernel_rfl) rfl ⟨⟨_, rfl, ?_⟩, trivial⟩
                (apply aops_buildSlice; exact rfl; exact rfl; exact rfl; exact rfl; exact rfl; exact rfl; exact rfl; exact rfl; exact rfl)
                apply aops_nil
                refine az_all [18] (by kernel_rfl) rfl ⟨⟨_, rfl, ?_⟩, trivial⟩
                (first | (refine aops_call1 Tryz.call80 (joinB_c bk _ _ hbk (by omega) hbv) ?_) | (apply aops_appendT (b := b) (xs := its.map itemA) (ys := [itemA ⟨KX, Lib.join bk [10] ++ [10], fs⟩]) (bytes := 48); exact rfl; exact rfl; exact PX.h2; exact hleX; exact rfl; exact rfl; exact rfl; exact ⟨⟨_, _, rfl, rfl, rfl, rfl, rfl⟩⟩; exact rfl; (simp [maxLen]; omega); (simp; omega); intro t4 st4 g1 g2 g3 g4; have ho4 := (g3.same o (by omega) holX).trans hobX))
                apply aops_nil
                (apply az_take 19; exact rfl; kernel_rfl; kernel_rfl; kernel_rfl; exact rfl; (apply ay_nilCheck; exact rfl; exact rfl))
                (apply az_take 20; exact rfl; kernel_rfl; kernel_rfl; kernel_rfl; exact rfl; (first | (apply ay_fieldAddr_bx; exact rfl; exact rfl; exact rfl) | (apply ay_fieldAddr_pp; exact rfl; exact rfl; exact rfl; exact rfl)))
                refine az_all [21] (by kernel_rfl) rfl ⟨⟨_, rfl, ?_⟩, trivial⟩
                (first | (apply aops_store_at; exact rfl; exact rfl; exact ho4; exact rfl; exact rfl; exact rfl; exact rfl; exact rfl; exact rfl) | (apply aops_store_mid; exact rfl; exact rfl; exact rfl; exact rfl; exact rfl; exact rfl; exact rfl; exact rfl; exact rfl; exact rfl; exact rfl) | (apply aops_store_loc; exact rfl; exact rfl; exact rfl; exact rfl; exact rfl; exact rfl; exact rfl; exact rfl; exact rfl; exact rfl; exact rfl))
                apply aops_nil
                refine az_done (by kernel_rfl) ?_
                exact ⟨rfl, rfl, par_items PX g1 g2 g3 g4, (hkX.trans (keep_fr g3 hleX g2 PX.h2 g4)).trans keep_set⟩
              · (first | (apply aops_load_bx; exact rfl; exact hobX; exact rfl; exact rfl; apply aops_weak 44 rfl (weak_tipC PX.h4)) | (apply aops_load_bx; exact rfl; exact hobX; exact rfl; exact rfl) | (apply aops_load_mid; exact rfl; exact rfl; exact rfl; exact rfl; exact rfl) | (apply aops_load_loc; exact rfl; exact rfl; exact rfl; exact rfl; exact rfl) | (apply aops_load_pp; exact rfl; exact rfl; exact rfl))
                apply aops_nil
                (apply az_take 16; exact rfl; kernel_rfl; kernel_rfl; kernel_rfl; exact rfl; (apply ay_build; exact rfl; exact rfl; exact rfl))
                refine az_all [4, 17] (by kernel_rfl) rfl ⟨⟨_, rfl, ?_⟩, ⟨_, rfl, ?_⟩, trivial⟩
                · (first | (apply aops_load_bx; exact rfl; exact hobX; exact rfl; exact rfl; apply aops_weak 44 rfl (weak_tipC PX.h4)) | (apply aops_load_bx; exact rfl; exact hobX; exact rfl; exact rfl) | (apply aops_load_mid; exact rfl; exact rfl; exact rfl; exact rfl; exact rfl) | (apply aops_load_loc; exact rfl; exact rfl; exact rfl; exact rfl; exact rfl) | (apply aops_load_pp; exact rfl; exact rfl; exact rfl))
                  apply aops_nil
                  refine az_all [17] (by kernel_rfl) rfl ⟨⟨_, rfl, ?_⟩, trivial⟩
                  (apply aops_buildSlice; exact rfl; exact rfl; exact rfl; exact rfl; exact rfl; exact rfl; exact rfl; exact rfl; exact rfl)
                  apply aops_nil
                  refine az_all [18] (by kernel_rfl) rfl ⟨⟨_, rfl, ?_⟩, trivial⟩
                  (first | (refine aops_call1 Tryz.call80 (joinB_c bk _ _ hbk (by omega) hbv) ?_) | (apply aops_appendT (b := b) (xs := its.map itemA) (ys := [itemA ⟨KX, Lib.join bk [10] ++ [10], fs⟩]) (bytes := 48); exact rfl; exact rfl; exact PX.h2; exact hleX; exact rfl; exact rfl; exact rfl; exact ⟨⟨_, _, rfl, rfl, rfl, rfl, rfl⟩⟩; exact rfl; (simp [maxLen]; omega); (simp; omega); intro t4 st4 g1 g2 g3 g4; have ho4 := (g3.same o (by omega) holX).trans hobX))
                  apply aops_nil
                  (apply az_take 19; exact rfl; kernel_rfl; kernel_rfl; kernel_rfl; exact rfl; (apply ay_nilCheck; exact rfl; exact rfl))
                  (apply az_take 20; exact rfl; kernel_rfl; kernel_rfl; kernel_rfl; exact rfl; (first | (apply ay_fieldAddr_bx; exact rfl; exact rfl; exact rfl) | (apply ay_fieldAddr_pp; exact rfl; exact rfl; exact rfl; exact rfl)))
                  refine az_all [21] (by kernel_rfl) rfl ⟨⟨_, rfl, ?_⟩, trivial⟩
                  (first | (apply aops_store_at; exact rfl; exact rfl; exact ho4; exact rfl; exact rfl; exact rfl; exact rfl; exact rfl; exact rfl) | (apply aops_store_mid; exact rfl; exact rfl; exact rfl; exact rfl; exact rfl; exact rfl; exact rfl; exact rfl; exact rfl; exact rfl; exact rfl) | (apply aops_store_loc; exact rfl; exact rfl; exact rfl; exact rfl; exact rfl; exact rfl; exact rfl; exact rfl; exact rfl; exact rfl; exact rfl))
                  apply aops_nil
                  refine az_done (by kernel_rfl) ?_
                  exact ⟨rfl, rfl, par_items PX g1 g2 g3 g4, (hkX.trans (keep_fr g3 hleX g2 PX.h2 g4)).trans keep_set⟩
                · (apply aops_buildSlice; exact rfl; exact rfl; exact rfl; exact rfl; exact rfl; exact rfl; exact rfl; exact rfl; exact rfl)
                  apply aops_nil
                  refine az_all [4] (by kernel_rfl) rfl ⟨⟨_, rfl, ?_⟩, trivial⟩
                  (first | (apply aops_load_bx; exact rfl; exact hobX; exact rfl; exact rfl; apply aops_weak 44 rfl (weak_tipC PX.h4)) | (apply aops_load_bx; exact rfl; exact hobX; exact rfl; exact rfl) | (apply aops_load_mid; exact rfl; exact rfl; exact rfl; exact rfl; exact rfl) | (apply aops_load_loc; exact rfl; exact rfl; exact rfl; exact rfl; exact rfl) | (apply aops_load_pp; exact rfl; exact rfl; exact rfl))
                  apply aops_nil
                  refine az_all [18] (by kernel_rfl) rfl ⟨⟨_, rfl, ?_⟩, trivial⟩
                  (first | (refine aops_call1 Tryz.call80 (joinB_c bk _ _ hbk (by omega) hbv) ?_) | (apply aops_appendT (b := b) (xs := its.map itemA) (ys := [itemA ⟨KX, Lib.join bk [10] ++ [10], fs⟩]) (bytes := 48); exact rfl; exact rfl; exact PX.h2; exact hleX; exact rfl; exact rfl; exact rfl; exact ⟨⟨_, _, rfl, rfl, rfl, rfl, rfl⟩⟩; exact rfl; (simp [maxLen]; omega); (simp; omega); intro t4 st4 g1 g2 g3 g4; have ho4 := (g3.same o (by omega) holX).trans hobX))
                  apply aops_nil
                  (apply az_take 19; exact rfl; kernel_rfl; kernel_rfl; kernel_rfl; exact rfl; (apply ay_nilCheck; exact rfl; exact rfl))
                  (apply az_take 20; exact rfl; kernel_rfl; kernel_rfl; kernel_rfl; exact rfl; (first | (apply ay_fieldAddr_bx; exact rfl; exact rfl; exact rfl) | (apply ay_fieldAddr_pp; exact rfl; exact rfl; exact rfl; exact rfl)))
                  refine az_all [21] (by kernel_rfl) rfl ⟨⟨_, rfl, ?_⟩, trivial⟩
                  (first | (apply aops_store_at; exact rfl; exact rfl; exact ho4; exact rfl; exact rfl; exact rfl; exact rfl; exact rfl; exact rfl) | (apply aops_store_mid; exact rfl; exact rfl; exact rfl; exact rfl; exact rfl; exact rfl; exact rfl; exact rfl; exact rfl; exact rfl; exact rfl) | (apply aops_store_loc; exact rfl; exact rfl; exact rfl; exact rfl; exact rfl; exact rfl; exact rfl; exact rfl; exact rfl; exact rfl; exact rfl))
                  apply aops_nil
                  refine az_done (by kernel_rfl) ?_
                  exact ⟨rfl, rfl, par_items PX g1 g2 g3 g4, (hkX.trans (keep_fr g3 hleX g2 PX.h2 g4)).trans keep_set⟩
            · (first | (apply aops_load_bx; exact rfl; exact hobX; exact rfl; exact rfl; apply aops_weak 44 rfl (weak_tipC PX.h4)) | (apply aops_load_bx; exact rfl; exact hobX; exact rfl; exact rfl) | (apply aops_load_mid; exact rfl; exact rfl; exact rfl; exact rfl; exact rfl) | (apply aops_load_loc; exact rfl; exact rfl; exact rfl; exact rfl; exact rfl) | (apply aops_load_pp; exact rfl; exact rfl; exact rfl))
              apply aops_nil
              refine az_all [4, 10] (by kernel_rfl) rfl ⟨⟨_, rfl, ?_⟩, ⟨_, rfl, ?_⟩, trivial⟩
              · (first | (apply aops_load_bx; exact rfl; exact hobX; exact rfl; exact rfl; apply aops_weak 44 rfl (weak_tipC PX.h4)) | (apply aops_load_bx; exact rfl; exact hobX; exact rfl; exact rfl) | (apply aops_load_mid; exact rfl; exact rfl; exact rfl; exact rfl; exact rfl) | (apply aops_load_loc; exact rfl; exact rfl; exact rfl; exact rfl; exact rfl) | (apply aops_load_pp; exact rfl; exact rfl; exact rfl))
                apply aops_nil
                refine az_all [10] (by kernel_rfl) rfl ⟨⟨_, rfl, ?_⟩, trivial⟩
                (first | (refine aops_call1 Tryz.call80 (joinB_c bk _ _ hbk (by omega) hbv) ?_) | (apply aops_appendT (b := b) (xs := its.map itemA) (ys := [itemA ⟨KX, Lib.join bk [10] ++ [10], fs⟩]) (bytes := 48); exact rfl; exact rfl; exact PX.h2; exact hleX; exact rfl; exact rfl; exact rfl; exact ⟨⟨_, _, rfl, rfl, rfl, rfl, rfl⟩⟩; exact rfl; (simp [maxLen]; omega); (simp; omega); intro t4 st4 g1 g2 g3 g4; have ho4 := (g3.same o (by omega) holX).trans hobX))
                apply aops_nil
                (apply az_take 11; exact rfl; kernel_rfl; kernel_rfl; kernel_rfl; exact rfl; (apply ay_concat; exact rfl; exact rfl; (first | omega | (simp only [List.length_append, List.length_cons, List.length_nil]; omega))))
                (apply az_take 16; exact rfl; kernel_rfl; kernel_rfl; kernel_rfl; exact rfl; (apply ay_build; exact rfl; exact rfl; exact rfl))
                refine az_all [17] (by kernel_rfl) rfl ⟨⟨_, rfl, ?_⟩, trivial⟩
                (apply aops_buildSlice; exact rfl; exact rfl; exact rfl; exact rfl; exact rfl; exact rfl; exact rfl; exact rfl; exact rfl)
                apply aops_nil
                refine az_all [18] (by kernel_rfl) rfl ⟨⟨_, rfl, ?_⟩, trivial⟩
                (first | (refine aops_call1 Tryz.call80 (joinB_c bk _ _ hbk (by omega) hbv) ?_) | (apply aops_appendT (b := b) (xs := its.map itemA) (ys := [itemA ⟨KX, Lib.join bk [10] ++ [10], fs⟩]) (bytes := 48); exact rfl; exact rfl; exact PX.h2; exact hleX; exact rfl; exact rfl; exact rfl; exact ⟨⟨_, _, rfl, rfl, rfl, rfl, rfl⟩⟩; exact rfl; (simp [maxLen]; omega); (simp; omega); intro t4 st4 g1 g2 g3 g4; have ho4 := (g3.same o (by omega) holX).trans hobX))
                apply aops_nil
                (apply az_take 19; exact rfl; kernel_rfl; kernel_rfl; kernel_rfl; exact rfl; (apply ay_nilCheck; exact rfl; exact rfl))
                (apply az_take 20; exact rfl; kernel_rfl; kernel_rfl; kernel_rfl; exact rfl; (first | (apply ay_fieldAddr_bx; exact rfl; exact rfl; exact rfl) | (apply ay_fieldAddr_pp; exact rfl; exact rfl; exact rfl; exact rfl)))
                refine az_all [21] (by kernel_rfl) rfl ⟨⟨_, rfl, ?_⟩, trivial⟩
                (first | (apply aops_store_at; exact rfl; exact rfl; exact ho4; exact rfl; exact rfl; exact rfl; exact rfl; exact rfl; exact rfl) | (apply aops_store_mid; exact rfl; exact rfl; exact rfl; exact rfl; exact rfl; exact rfl; exact rfl; exact rfl; exact rfl; exact rfl; exact rfl) | (apply aops_store_loc; exact rfl; exact rfl; exact rfl; exact rfl; exact rfl; exact rfl; exact rfl; exact rfl; exact rfl; exact rfl; exact rfl))
                apply aops_nil
                refine az_done (by kernel_rfl) ?_
                exact ⟨rfl, rfl, par_items PX g1 g2 g3 g4, (hkX.trans (keep_fr g3 hleX g2 PX.h2 g4)).trans keep_set⟩
              · (first | (refine aops_call1 Tryz.call80 (joinB_c bk _ _ hbk (by omega) hbv) ?_) | (apply aops_appendT (b := b) (xs := its.map itemA) (ys := [itemA ⟨KX, Lib.join bk [10] ++ [10], fs⟩]) (bytes := 48); exact rfl; exact rfl; exact PX.h2; exact hleX; exact rfl; exact rfl; exact rfl; exact ⟨⟨_, _, rfl, rfl, rfl, rfl, rfl⟩⟩; exact rfl; (simp [maxLen]; omega); (simp; omega); intro t4 st4 g1 g2 g3 g4; have ho4 := (g3.same o (by omega) holX).trans hobX))
                apply aops_nil
                (apply az_take 11; exact rfl; kernel_rfl; kernel_rfl; kernel_rfl; exact rfl; (apply ay_concat; exact rfl; exact rfl; (first | omega | (simp only [List.length_append, List.length_cons, List.length_nil]; omega))))
                (apply az_take 16; exact rfl; kernel_rfl; kernel_rfl; kernel_rfl; exact rfl; (apply ay_build; exact rfl; exact rfl; exact rfl))
                refine az_all [4, 17] (by kernel_rfl) rfl ⟨⟨_, rfl, ?_⟩, ⟨_, rfl, ?_⟩, trivial⟩
                · (first | (apply aops_load_bx; exact rfl; exact hobX; exact rfl; exact rfl; apply aops_weak 44 rfl (weak_tipC PX.h4)) | (apply aops_load_bx; exact rfl; exact hobX; exact rfl; exact rfl) | (apply aops_load_mid; exact rfl; exact rfl; exact rfl; exact rfl; exact rfl) | (apply aops_load_loc; exact rfl; exact rfl; exact rfl; exact rfl; exact rfl) | (apply aops_load_pp; exact rfl; exact rfl; exact rfl))
                  apply aops_nil
                  refine az_all [17] (by kernel_rfl) rfl ⟨⟨_, rfl, ?_⟩, trivial⟩
                  (apply aops_buildSlice; exact rfl; exact rfl; exact rfl; exact rfl; exact rfl; exact rfl; exact rfl; exact rfl; exact rfl)
                  apply aops_nil
                  refine az_all [18] (by kernel_rfl) rfl ⟨⟨_, rfl, ?_⟩, trivial⟩
                  (first | (refine aops_call1 Tryz.call80 (joinB_c bk _ _ hbk (by omega) hbv) ?_) | (apply aops_appendT (b := b) (xs := its.map itemA) (ys := [itemA ⟨KX, Lib.join bk [10] ++ [10], fs⟩]) (bytes := 48); exact rfl; exact rfl; exact PX.h2; exact hleX; exact rfl; exact rfl; exact rfl; exact ⟨⟨_, _, rfl, rfl, rfl, rfl, rfl⟩⟩; exact rfl; (simp [maxLen]; omega); (simp; omega); intro t4 st4 g1 g2 g3 g4; have ho4 := (g3.same o (by omega) holX).trans hobX))
                  apply aops_nil
                  (apply az_take 19; exact rfl; kernel_rfl; kernel_rfl; kernel_rfl; exact rfl; (apply ay_nilCheck; exact rfl; exact rfl))
                  (apply az_take 20; exact rfl; kernel_rfl; kernel_rfl; kernel_rfl; exact rfl; (first | (apply ay_fieldAddr_bx; exact rfl; exact rfl; exact rfl) | (apply ay_fieldAddr_pp; exact rfl; exact rfl; exact rfl; exact rfl)))
                  refine az_all [21] (by kernel_rfl) rfl ⟨⟨_, rfl, ?_⟩, trivial⟩
                  (first | (apply aops_store_at; exact rfl; exact rfl; exact ho4; exact rfl; exact rfl; exact rfl; exact rfl; exact rfl; exact rfl) | (apply aops_store_mid; exact rfl; exact rfl; exact rfl; exact rfl; exact rfl; exact rfl; exact rfl; exact rfl; exact rfl; exact rfl; exact rfl) | (apply aops_store_loc; exact rfl; exact rfl; exact rfl; exact rfl; exact rfl; exact rfl; exact rfl; exact rfl; exact rfl; exact rfl; exact rfl))
                  apply aops_nil
                  refine az_done (by kernel_rfl) ?_
                  exact ⟨rfl, rfl, par_items PX g1 g2 g3 g4, (hkX.trans (keep_fr g3 hleX g2 PX.h2 g4)).trans keep_set⟩
                · (apply aops_buildSlice; exact rfl; exact rfl; exact rfl; exact rfl; exact rfl; exact rfl; exact rfl; exact rfl; exact rfl)
                  apply aops_nil
                  refine az_all [4] (by kernel_rfl) rfl ⟨⟨_, rfl, ?_⟩, trivial⟩
                  (first | (apply aops_load_bx; exact rfl; exact hobX; exact rfl; exact rfl; apply aops_weak 44 rfl (weak_tipC PX.h4)) | (apply aops_load_bx; exact rfl; exact hobX; exact rfl; exact rfl) | (apply aops_load_mid; exact rfl; exact rfl; exact rfl; exact rfl; exact rfl) | (apply aops_load_loc; exact rfl; exact rfl; exact rfl; exact rfl; exact rfl) | (apply aops_load_pp; exact rfl; exact rfl; exact rfl))
                  apply aops_nil
                  refine az_all [18] (by kernel_rfl) rfl ⟨⟨_, rfl, ?_⟩, trivial⟩
                  (first | (refine aops_call1 Tryz.call80 (joinB_c bk _ _ hbk (by omega) hbv) ?_) | (apply aops_appendT (b := b) (xs := its.map itemA) (ys := [itemA ⟨KX, Lib.join bk [10] ++ [10], fs⟩]) (bytes := 48); exact rfl; exact rfl; exact PX.h2; exact hleX; exact rfl; exact rfl; exact rfl; exact ⟨⟨_, _, rfl, rfl, rfl, rfl, rfl⟩⟩; exact rfl; (simp [maxLen]; omega); (simp; omega); intro t4 st4 g1 g2 g3 g4; have ho4 := (g3.same o (by omega) holX).trans hobX))
                  apply aops_nil
                  (apply az_take 19; exact rfl; kernel_rfl; kernel_rfl; kernel_rfl; exact rfl; (apply ay_nilCheck; exact rfl; exact rfl))
                  (apply az_take 20; exact rfl; kernel_rfl; kernel_rfl; kernel_rfl; exact rfl; (first | (apply ay_fieldAddr_bx; exact rfl; exact rfl; exact rfl) | (apply ay_fieldAddr_pp; exact rfl; exact rfl; exact rfl; exact rfl)))
                  refine az_all [21] (by kernel_rfl) rfl ⟨⟨_, rfl, ?_⟩, trivial⟩
                  (first | (apply aops_store_at; exact rfl; exact rfl; exact ho4; exact rfl; exact rfl; exact rfl; exact rfl; exact rfl; exact rfl) | (apply aops_store_mid; exact rfl; exact rfl; exact rfl; exact rfl; exact rfl; exact rfl; exact rfl; exact rfl; exact rfl; exact rfl; exact rfl) | (apply aops_store_loc; exact rfl; exact rfl; exact rfl; exact rfl; exact rfl; exact rfl; exact rfl; exact rfl; exact rfl; exact rfl; exact rfl))
                  apply aops_nil
                  refine az_done (by kernel_rfl) ?_
                  exact ⟨rfl, rfl, par_items PX g1 g2 g3 g4, (hkX.trans (keep_fr g3 hleX g2 PX.h2 g4)).trans keep_set⟩
          · (first | (apply aops_load_bx; exact rfl; exact hobX; exact rfl; exact rfl; apply aops_weak 44 rfl (weak_tipC PX.h4)) | (apply aops_load_bx; exact rfl; exact hobX; exact rfl; exact rfl) | (apply aops_load_mid; exact rfl; exact rfl; exact rfl; exact rfl; exact rfl) | (apply aops_load_loc; exact rfl; exact rfl; exact rfl; exact rfl; exact rfl) | (apply aops_load_pp; exact rfl; exact rfl; exact rfl))
            apply aops_nil
            refine az_all [4, 9] (by kernel_rfl) rfl ⟨⟨_, rfl, ?_⟩, ⟨_, rfl, ?_⟩, trivial⟩
            · (first | (apply aops_load_bx; exact rfl; exact hobX; exact rfl; exact rfl; apply aops_weak 44 rfl (weak_tipC PX.h4)) | (apply aops_load_bx; exact rfl; exact hobX; exact rfl; exact rfl) | (apply aops_load_mid; exact rfl; exact rfl; exact rfl; exact rfl; exact rfl) | (apply aops_load_loc; exact rfl; exact rfl; exact rfl; exact rfl; exact rfl) | (apply aops_load_pp; exact rfl; exact rfl; exact rfl))
              apply aops_nil
              refine az_all [9] (by kernel_rfl) rfl ⟨⟨_, rfl, ?_⟩, trivial⟩
              (first | (apply aops_load_bx; exact rfl; exact hobX; exact rfl; exact rfl; apply aops_weak 44 rfl (weak_tipC PX.h4)) | (apply aops_load_bx; exact rfl; exact hobX; exact rfl; exact rfl) | (apply aops_load_mid; exact rfl; exact rfl; exact rfl; exact rfl; exact rfl) | (apply aops_load_loc; exact rfl; exact rfl; exact rfl; exact rfl; exact rfl) | (apply aops_load_pp; exact rfl; exact rfl; exact rfl))
              apply aops_nil
              refine az_all [10] (by kernel_rfl) rfl ⟨⟨_, rfl, ?_⟩, trivial⟩
              (first | (refine aops_call1 Tryz.call80 (joinB_c bk _ _ hbk (by omega) hbv) ?_) | (apply aops_appendT (b := b) (xs := its.map itemA) (ys := [itemA ⟨KX, Lib.join bk [10] ++ [10], fs⟩]) (bytes := 48); exact rfl; exact rfl; exact PX.h2; exact hleX; exact rfl; exact rfl; exact rfl; exact ⟨⟨_, _, rfl, rfl, rfl, rfl, rfl⟩⟩; exact rfl; (simp [maxLen]; omega); (simp; omega); intro t4 st4 g1 g2 g3 g4; have ho4 := (g3.same o (by omega) holX).trans hobX))
              apply aops_nil
              (apply az_take 11; exact rfl; kernel_rfl; kernel_rfl; kernel_rfl; exact rfl; (apply ay_concat; exact rfl; exact rfl; (first | omega | (simp only [List.length_append, List.length_cons, List.length_nil]; omega))))
              (apply az_take 16; exact rfl; kernel_rfl; kernel_rfl; kernel_rfl; exact rfl; (apply ay_build; exact rfl; exact rfl; exact rfl))
              refine az_all [17] (by kernel_rfl) rfl ⟨⟨_, rfl, ?_⟩, trivial⟩
              (apply aops_buildSlice; exact rfl; exact rfl; exact rfl; exact rfl; exact rfl; exact rfl; exact rfl; exact rfl; exact rfl)
              apply aops_nil
              refine az_all [18] (by kernel_rfl) rfl ⟨⟨_, rfl, ?_⟩, trivial⟩
              (first | (refine aops_call1 Tryz.call80 (joinB_c bk _ _ hbk (by omega) hbv) ?_) | (apply aops_appendT (b := b) (xs := its.map itemA) (ys := [itemA ⟨KX, Lib.join bk [10] ++ [10], fs⟩]) (bytes := 48); exact rfl; exact rfl; exact PX.h2; exact hleX; exact rfl; exact rfl; exact rfl; exact ⟨⟨_, _, rfl, rfl, rfl, rfl, rfl⟩⟩; exact rfl; (simp [maxLen]; omega); (simp; omega); intro t4 st4 g1 g2 g3 g4; have ho4 := (g3.same o (by omega) holX).trans hobX))
              apply aops_nil
              (apply az_take 19; exact rfl; kernel_rfl; kernel_rfl; kernel_rfl; exact rfl; (apply ay_nilCheck; exact rfl; exact rfl))
              (apply az_take 20; exact rfl; kernel_rfl; kernel_rfl; kernel_rfl; exact rfl; (first | (apply ay_fieldAddr_bx; exact rfl; exact rfl; exact rfl) | (apply ay_fieldAddr_pp; exact rfl; exact rfl; exact rfl; exact rfl)))
              refine az_all [21] (by kernel_rfl) rfl ⟨⟨_, rfl, ?_⟩, trivial⟩
              (first | (apply aops_store_at; exact rfl; exact rfl; exact ho4; exact rfl; exact rfl; exact rfl; exact rfl; exact rfl; exact rfl) | (apply aops_store_mid; exact rfl; exact rfl; exact rfl; exact rfl; exact rfl; exact rfl; exact rfl; exact rfl; exact rfl; exact rfl; exact rfl) | (apply aops_store_loc; exact rfl; exact rfl; exact rfl; exact rfl; exact rfl; exact rfl; exact rfl; exact rfl; exact rfl; exact rfl; exact rfl))
              apply aops_nil
              refine az_done (by kernel_rfl) ?_
              exact ⟨rfl, rfl, par_items PX g1 g2 g3 g4, (hkX.trans (keep_fr g3 hleX g2 PX.h2 g4)).trans keep_set⟩
            · (first | (apply aops_load_bx; exact rfl; exact hobX; exact rfl; exact rfl; apply aops_weak 44 rfl (weak_tipC PX.h4)) | (apply aops_load_bx; exact rfl; exact hobX; exact rfl; exact rfl) | (apply aops_load_mid; exact rfl; exact rfl; exact rfl; exact rfl; exact rfl) | (apply aops_load_loc; exact rfl; exact rfl; exact rfl; exact rfl; exact rfl) | (apply aops_load_pp; exact rfl; exact rfl; exact rfl))
              apply aops_nil
              refine az_all [4, 10] (by kernel_rfl) rfl ⟨⟨_, rfl, ?_⟩, ⟨_, rfl, ?_⟩, trivial⟩
              · (first | (apply aops_load_bx; exact rfl; exact hobX; exact rfl; exact rfl; apply aops_weak 44 rfl (weak_tipC PX.h4)) | (apply aops_load_bx; exact rfl; exact hobX; exact rfl; exact rfl) | (apply aops_load_mid; exact rfl; exact rfl; exact rfl; exact rfl; exact rfl) | (apply aops_load_loc; exact rfl; exact rfl; exact rfl; exact rfl; exact rfl) | (apply aops_load_pp; exact rfl; exact rfl; exact rfl))
                apply aops_nil
                refine az_all [10] (by kernel_rfl) rfl ⟨⟨_, rfl, ?_⟩, trivial⟩
                (first | (refine aops_call1 Tryz.call80 (joinB_c bk _ _ hbk (by omega) hbv) ?_) | (apply aops_appendT (b := b) (xs := its.map itemA) (ys := [itemA ⟨KX, Lib.join bk [10] ++ [10], fs⟩]) (bytes := 48); exact rfl; exact rfl; exact PX.h2; exact hleX; exact rfl; exact rfl; exact rfl; exact ⟨⟨_, _, rfl, rfl, rfl, rfl, rfl⟩⟩; exact rfl; (simp [maxLen]; omega); (simp; omega); intro t4 st4 g1 g2 g3 g4; have ho4 := (g3.same o (by omega) holX).trans hobX))
                apply aops_nil
                (apply az_take 11; exact rfl; kernel_rfl; kernel_rfl; kernel_rfl; exact rfl; (apply ay_concat; exact rfl; exact rfl; (first | omega | (simp only [List.length_append, List.length_cons, List.length_nil]; omega))))
                (apply az_take 16; exact rfl; kernel_rfl; kernel_rfl; kernel_rfl; exact rfl; (apply ay_build; exact rfl; exact rfl; exact rfl))
                refine az_all [17] (by kernel_rfl) rfl ⟨⟨_, rfl, ?_⟩, trivial⟩
                (apply aops_buildSlice; exact rfl; exact rfl; exact rfl; exact rfl; exact rfl; exact rfl; exact rfl; exact rfl; exact rfl)
                apply aops_nil
                refine az_all [18] (by kernel_rfl) rfl ⟨⟨_, rfl, ?_⟩, trivial⟩
                (first | (refine aops_call1 Tryz.call80 (joinB_c bk _ _ hbk (by omega) hbv) ?_) | (apply aops_appendT (b := b) (xs := its.map itemA) (ys := [itemA ⟨KX, Lib.join bk [10] ++ [10], fs⟩]) (bytes := 48); exact rfl; exact rfl; exact PX.h2; exact hleX; exact rfl; exact rfl; exact rfl; exact ⟨⟨_, _, rfl, rfl, rfl, rfl, rfl⟩⟩; exact rfl; (simp [maxLen]; omega); (simp; omega); intro t4 st4 g1 g2 g3 g4; have ho4 := (g3.same o (by omega) holX).trans hobX))
                apply aops_nil
                (apply az_take 19; exact rfl; kernel_rfl; kernel_rfl; kernel_rfl; exact rfl; (apply ay_nilCheck; exact rfl; exact rfl))
                (apply az_take 20; exact rfl; kernel_rfl; kernel_rfl; kernel_rfl; exact rfl; (first | (apply ay_fieldAddr_bx; exact rfl; exact rfl; exact rfl) | (apply ay_fieldAddr_pp; exact rfl; exact rfl; exact rfl; exact rfl)))
                refine az_all [21] (by kernel_rfl) rfl ⟨⟨_, rfl, ?_⟩, trivial⟩
                (first | (apply aops_store_at; exact rfl; exact rfl; exact ho4; exact rfl; exact rfl; exact rfl; exact rfl; exact rfl; exact rfl) | (apply aops_store_mid; exact rfl; exact rfl; exact rfl; exact rfl; exact rfl; exact rfl; exact rfl; exact rfl; exact rfl; exact rfl; exact rfl) | (apply aops_store_loc; exact rfl; exact rfl; exact rfl; exact rfl; exact rfl; exact rfl; exact rfl; exact rfl; exact rfl; exact rfl; exact rfl))
                apply aops_nil
                refine az_done (by kernel_rfl) ?_
                exact ⟨rfl, rfl, par_items PX g1 g2 g3 g4, (hkX.trans (keep_fr g3 hleX g2 PX.h2 g4)).trans keep_set⟩
              · (first | (refine aops_call1 Tryz.call80 (joinB_c bk _ _ hbk (by omega) hbv) ?_) | (apply aops_appendT (b := b) (xs := its.map itemA) (ys := [itemA ⟨KX, Lib.join bk [10] ++ [10], fs⟩]) (bytes := 48); exact rfl; exact rfl; exact PX.h2; exact hleX; exact rfl; exact rfl; exact rfl; exact ⟨⟨_, _, rfl, rfl, rfl, rfl, rfl⟩⟩; exact rfl; (simp [maxLen]; omega); (simp; omega); intro t4 st4 g1 g2 g3 g4; have ho4 := (g3.same o (by omega) holX).trans hobX))
                apply aops_nil
                (apply az_take 11; exact rfl; kernel_rfl; kernel_rfl; kernel_rfl; exact rfl; (apply ay_concat; exact rfl; exact rfl; (first | omega | (simp only [List.length_append, List.length_cons, List.length_nil]; omega))))
                (apply az_take 16; exact rfl; kernel_rfl; kernel_rfl; kernel_rfl; exact rfl; (apply ay_build; exact rfl; exact rfl; exact rfl))
                refine az_all [4, 17] (by kernel_rfl) rfl ⟨⟨_, rfl, ?_⟩, ⟨_, rfl, ?_⟩, trivial⟩
                · (first | (apply aops_load_bx; exact rfl; exact hobX; exact rfl; exact rfl; apply aops_weak 44 rfl (weak_tipC PX.h4)) | (apply aops_load_bx; exact rfl; exact hobX; exact rfl; exact rfl) | (apply aops_load_mid; exact rfl; exact rfl; exact rfl; exact rfl; exact rfl) | (apply aops_load_loc; exact rfl; exact rfl; exact rfl; exact rfl; exact rfl) | (apply aops_load_pp; exact rfl; exact rfl; exact rfl))
                  apply aops_nil
                  refine az_all [17] (by kernel_rfl) rfl ⟨⟨_, rfl, ?_⟩, trivial⟩
                  (apply aops_buildSlice; exact rfl; exact rfl; exact rfl; exact rfl; exact rfl; exact rfl; exact rfl; exact rfl; exact rfl)
                  apply aops_nil
                  refine az_all [18] (by kernel_rfl) rfl ⟨⟨_, rfl, ?_⟩, trivial⟩
                  (first | (refine aops_call1 Tryz.call80 (joinB_c bk _ _ hbk (by omega) hbv) ?_) | (apply aops_appendT (b := b) (xs := its.map itemA) (ys := [itemA ⟨KX, Lib.join bk [10] ++ [10], fs⟩]) (bytes := 48); exact rfl; exact rfl; exact PX.h2; exact hleX; exact rfl; exact rfl; exact rfl; exact ⟨⟨_, _, rfl, rfl, rfl, rfl, rfl⟩⟩; exact rfl; (simp [maxLen]; omega); (simp; omega); intro t4 st4 g1 g2 g3 g4; have ho4 := (g3.same o (by omega) holX).trans hobX))
                  apply aops_nil
                  (apply az_take 19; exact rfl; kernel_rfl; kernel_rfl; kernel_rfl; exact rfl; (apply ay_nilCheck; exact rfl; exact rfl))
                  (apply az_take 20; exact rfl; kernel_rfl; kernel_rfl; kernel_rfl; exact rfl; (first | (apply ay_fieldAddr_bx; exact rfl; exact rfl; exact rfl) | (apply ay_fieldAddr_pp; exact rfl; exact rfl; exact rfl; exact rfl)))
                  refine az_all [21] (by kernel_rfl) rfl ⟨⟨_, rfl, ?_⟩, trivial⟩
                  (first | (apply aops_store_at; exact rfl; exact rfl; exact ho4; exact rfl; exact rfl; exact rfl; exact rfl; exact rfl; exact rfl) | (apply aops_store_mid; exact rfl; exact rfl; exact rfl; exact rfl; exact rfl; exact rfl; exact rfl; exact rfl; exact rfl; exact rfl; exact rfl) | (apply aops_store_loc; exact rfl; exact rfl; exact rfl; exact rfl; exact rfl; exact rfl; exact rfl; exact rfl; exact rfl; exact rfl; exact rfl))
                  apply aops_nil
                  refine az_done (by kernel_rfl) ?_
                  exact ⟨rfl, rfl, par_items PX g1 g2 g3 g4, (hkX.trans (keep_fr g3 hleX g2 PX.h2 g4)).trans keep_set⟩
                · (apply aops_buildSlice; exact rfl; exact rfl; exact rfl; exact rfl; exact rfl; exact rfl; exact rfl; exact rfl; exact rfl)
                  apply aops_nil
                  refine az_all [4] (by kernel_rfl) rfl ⟨⟨_, rfl, ?_⟩, trivial⟩
                  (first | (apply aops_load_bx; exact rfl; exact hobX; exact rfl; exact rfl; apply aops_weak 44 rfl (weak_tipC PX.h4)) | (apply aops_load_bx; exact rfl; exact hobX; exact rfl; exact rfl) | (apply aops_load_mid; exact rfl; exact rfl; exact rfl; exact rfl; exact rfl) | (apply aops_load_loc; exact rfl; exact rfl; exact rfl; exact rfl; exact rfl) | (apply aops_load_pp; exact rfl; exact rfl; exact rfl))
                  apply aops_nil
                  refine az_all [18] (by kernel_rfl) rfl ⟨⟨_, rfl, ?_⟩, trivial⟩
                  (first | (refine aops_call1 Tryz.call80 (joinB_c bk _ _ hbk (by omega) hbv) ?_) | (apply aops_appendT (b := b) (xs := its.map itemA) (ys := [itemA ⟨KX, Lib.join bk [10] ++ [10], fs⟩]) (bytes := 48); exact rfl; exact rfl; exact PX.h2; exact hleX; exact rfl; exact rfl; exact rfl; exact ⟨⟨_, _, rfl, rfl, rfl, rfl, rfl⟩⟩; exact rfl; (simp [maxLen]; omega); (simp; omega); intro t4 st4 g1 g2 g3 g4; have ho4 := (g3.same o (by omega) holX).trans hobX))
                  apply aops_nil
                  (apply az_take 19; exact rfl; kernel_rfl; kernel_rfl; kernel_rfl; exact rfl; (apply ay_nilCheck; exact rfl; exact rfl))
                  (apply az_take 20; exact rfl; kernel_rfl; kernel_rfl; kernel_rfl; exact rfl; (first | (apply ay_fieldAddr_bx; exact rfl; exact rfl; exact rfl) | (apply ay_fieldAddr_pp; exact rfl; exact rfl; exact rfl; exact rfl)))
                  refine az_all [21] (by kernel_rfl) rfl ⟨⟨_, rfl, ?_⟩, trivial⟩
                  (first | (apply aops_store_at; exact rfl; exact rfl; exact ho4; exact rfl; exact rfl; exact rfl; exact rfl; exact rfl; exact rfl) | (apply aops_store_mid; exact rfl; exact rfl; exact rfl; exact rfl; exact rfl; exact rfl; exact rfl; exact rfl; exact rfl; exact rfl; exact rfl) | (apply aops_store_loc; exact rfl; exact rfl; exact rfl; exact rfl; exact rfl; exact rfl; exact rfl; exact rfl; exact rfl; exact rfl; exact rfl))
                  apply aops_nil
                  refine az_done (by kernel_rfl) ?_
                  exact ⟨rfl, rfl, par_items PX g1 g2 g3 g4, (hkX.trans (keep_fr g3 hleX g2 PX.h2 g4)).trans keep_set⟩
        · rintro ⟨t2, st2, df2⟩ ⟨h20, hd, hp2, hk2⟩
          simp only at h20 hd hp2 hk2
          subst hd
          obtain ⟨d1, d2, d3, d4, P2⟩ := hp2
          have hob2 : st2[o]? = some (.cells 0 140 [d1, Iv fr, Bv fu, d2, d3, d4, Iv rcX]) := P2.ob
          have ht2 : t2 = puts t2 [(0, .bx o 0 0)] := (puts_of (L := [(0, .bx o 0 0)]) ⟨h20, trivial⟩).symm
          rw [ht2]
          repeat' (first
            | apply awp_seq
            | apply awp_region
            | apply aops_nil
            | apply aops_move
            | apply aops_assign
            | (apply aops_fieldAddr_bx; exact rfl; exact rfl; exact rfl)
            | (apply aops_nilCheck; exact rfl; exact rfl)
            | apply awp_ret
            | (apply aops_store_at; exact rfl; exact rfl; exact hob2; exact rfl; exact rfl; exact rfl; exact rfl; exact rfl; exact rfl)
            | (apply aops_store_at; exact rfl; exact rfl; exact get_set hob2; exact rfl; exact rfl; exact rfl; exact rfl; exact rfl; exact rfl))
          refine aret_plain rfl (ares_one rfl) ⟨rfl, fun _ => ?_, hk2.trans (keep_set.trans keep_set)⟩
          rw [hcl]
          exact par_clear P2
end Go.Proofs.YtplagcbifecagaaGreatDoor
